/-
  Joined texts: Er, Es.
-/
import Derived.Test.YtkgclfagimlneaaDoorJ07
import Derived.Test.YtkgclfagimlneaaDoorJ02
set_option linter.unusedVariables false
set_option linter.unusedSimpArgs false
/-
  The walks over decimal numbers: adding.
-/
namespace Go.Proofs.YtkgclfagimlneaaDoor
open Go.RowKit Go.Proofs Wv Wv.Dc
set_option linter.unusedVariables false

/-- What lies in memory while two numbers are added. -/
structure AdSt (w wx : World) (ca cb : Array Value) : Prop where
  ka : Bk wx w.heap.size 41 ca
  kb : Bk wx (w.heap.size + 1) 41 cb
  kr : Bk wx (w.heap.size + 1 + 1) 41 #[.bool false, .slice none 0 0, .int .i64 0]
  bel : Below w.heap.size w wx
theorem AdSt.below {w W W' : World} {ca cb : Array Value} (h : AdSt w W ca cb) (hb : Below W.heap.size W W') : AdSt w W' ca cb :=
  ⟨h.ka.below hb h.ka.lt, h.kb.below hb h.kb.lt, h.kr.below hb h.kr.lt, h.bel.trans (hb.mono h.bel.size)⟩
theorem AdSt.fr {w W W' : World} {ca cb : Array Value} {g : Nat} (h : AdSt w W ca cb) (hf : Fr (only g) W W') (hg : w.heap.size + 1 + 1 < g) : AdSt w W' ca cb :=
  ⟨h.ka.fr hf (by show ¬ _ = _; omega), h.kb.fr hf (by show ¬ _ = _; omega), h.kr.fr hf (by show ¬ _ = _; omega), h.bel.trans (own_below hf h.bel.size (by omega))⟩
theorem AdSt.start (w : World) (ca cb : Array Value) : AdSt w (((w.alloc (.cells ca 41)).alloc (.cells cb 41)).alloc (.cells #[.bool false, .slice none 0 0, .int .i64 0] 41)) ca cb where
  ka := ((Bk.new w _ _).alloc _).alloc _
  kb := by
    have := Bk.new (w.alloc (.cells ca 41)) 41 cb
    rw [World.size_alloc] at this
    exact this.alloc _
  kr := by
    have := Bk.new ((w.alloc (.cells ca 41)).alloc (.cells cb 41)) 41 #[.bool false, .slice none 0 0, .int .i64 0]
    rw [World.size_alloc, World.size_alloc] at this
    exact this
  bel := (two_below w _ _).alloc (by simp <;> omega) _
theorem AdSt.putA {w W : World} {u0 u1 u2 : Value} {cb : Array Value} (h : AdSt w W #[u0, u1, u2] cb) (x y z : Value) : AdSt w (((W.setCell ⟨w.heap.size, 0, none⟩ x).setCell ⟨w.heap.size, 1, none⟩ y).setCell ⟨w.heap.size, 2, none⟩ z) #[x, y, z] cb := by
  have hf : Fr (only w.heap.size) W (((W.setCell ⟨w.heap.size, 0, none⟩ x).setCell ⟨w.heap.size, 1, none⟩ y).setCell ⟨w.heap.size, 2, none⟩ z) := only_set (only_set (only_set (Fr.refl _ _) 0 _) 1 _) 2 _
  exact ⟨by simpa using ((h.ka.put 0 x).put 1 y).put 2 z, h.kb.fr hf (by show ¬ _ = _; omega), h.kr.fr hf (by show ¬ _ = _; omega), h.bel.trans (own_below hf h.bel.size (Nat.le_refl _))⟩
theorem AdSt.putB {w W : World} {u0 u1 u2 : Value} {ca : Array Value} (h : AdSt w W ca #[u0, u1, u2]) (x y z : Value) : AdSt w (((W.setCell ⟨w.heap.size + 1, 0, none⟩ x).setCell ⟨w.heap.size + 1, 1, none⟩ y).setCell ⟨w.heap.size + 1, 2, none⟩ z) ca #[x, y, z] := by
  have hf : Fr (only (w.heap.size + 1)) W (((W.setCell ⟨w.heap.size + 1, 0, none⟩ x).setCell ⟨w.heap.size + 1, 1, none⟩ y).setCell ⟨w.heap.size + 1, 2, none⟩ z) := only_set (only_set (only_set (Fr.refl _ _) 0 _) 1 _) 2 _
  exact ⟨h.ka.fr hf (by show ¬ _ = _; omega), by simpa using ((h.kb.put 0 x).put 1 y).put 2 z, h.kr.fr hf (by show ¬ _ = _; omega), h.bel.trans (own_below hf h.bel.size (by omega))⟩
/-- The cells that the adding reads. -/
def AdS (w : World) (ba : Bool) (Aa : Option Addr) (la ca : Nat) (ea : Int) (bb : Bool) (Ab : Option Addr) (lb cb : Nat) (eb : Int) (W : World) : Prop :=
  W.cell? ⟨w.heap.size, 0, none⟩ = some (.bool ba) ∧ W.cell? ⟨w.heap.size, 1, none⟩ = some (.slice Aa la ca) ∧ W.cell? ⟨w.heap.size, 2, none⟩ = some (.int .i64 ea) ∧ W.cell? ⟨w.heap.size + 1, 0, none⟩ = some (.bool bb) ∧ W.cell? ⟨w.heap.size + 1, 1, none⟩ = some (.slice Ab lb cb) ∧ W.cell? ⟨w.heap.size + 1, 2, none⟩ = some (.int .i64 eb) ∧ AdSt w W #[.bool ba, .slice Aa la ca, .int .i64 ea] #[.bool bb, .slice Ab lb cb, .int .i64 eb]
theorem AdS.of {w W : World} {ba : Bool} {Aa : Option Addr} {la ca : Nat} {ea : Int} {bb : Bool} {Ab : Option Addr} {lb cb : Nat} {eb : Int} (k : AdSt w W #[.bool ba, .slice Aa la ca, .int .i64 ea] #[.bool bb, .slice Ab lb cb, .int .i64 eb]) : AdS w ba Aa la ca ea bb Ab lb cb eb W :=
  ⟨k.ka.cell 0, k.ka.cell 1, k.ka.cell 2, k.kb.cell 0, k.kb.cell 1, k.kb.cell 2, k⟩
theorem AdS.st {w W : World} {ba : Bool} {Aa : Option Addr} {la ca : Nat} {ea : Int} {bb : Bool} {Ab : Option Addr} {lb cb : Nat} {eb : Int} (h : AdS w ba Aa la ca ea bb Ab lb cb eb W) : AdSt w W #[.bool ba, .slice Aa la ca, .int .i64 ea] #[.bool bb, .slice Ab lb cb, .int .i64 eb] := h.2.2.2.2.2.2
theorem AdS.below {w W W' : World} {ba : Bool} {Aa : Option Addr} {la ca : Nat} {ea : Int} {bb : Bool} {Ab : Option Addr} {lb cb : Nat} {eb : Int} (h : AdS w ba Aa la ca ea bb Ab lb cb eb W) (hb : Below W.heap.size W W') : AdS w ba Aa la ca ea bb Ab lb cb eb W' := AdS.of (h.2.2.2.2.2.2.below hb)
/-- One of the two rows of digits. -/
def RwSt (w W : World) (g : Nat) (cs : Array Value) (xs : List UInt8) (len : Nat) : Prop := Bk W g 5 cs ∧ len ≤ cs.size ∧ cs.toList.take len = xs.map bv ∧ w.heap.size + 1 + 1 < g
theorem RwSt.below {w W W' : World} {g : Nat} {cs : Array Value} {xs : List UInt8} {len : Nat} (h : RwSt w W g cs xs len) (hb : Below W.heap.size W W') : RwSt w W' g cs xs len := ⟨h.1.below hb h.1.lt, h.2.1, h.2.2.1, h.2.2.2⟩
theorem RwSt.cell {w W : World} {g : Nat} {cs : Array Value} {xs : List UInt8} {len : Nat} (h : RwSt w W g cs xs len) {i : Nat} {x : UInt8} (hi : i < len) (hx : xs[i]? = some x) : W.cell? ⟨g, i, none⟩ = some (.int .u8 (x.toNat : Int)) := by
  have h1 := h.1.cell i
  have h2 : (cs.toList.take len)[i]? = cs.toList[i]? := List.getElem?_take_of_lt hi
  rw [h1, ← Array.getElem?_toList, ← h2, h.2.2.1, List.getElem?_map, hx]
  rfl
theorem RwSt.off {w W : World} {g g' : Nat} {cs : Array Value} {xs : List UInt8} {len : Nat} (h : RwSt w W g cs xs len) (hne : g ≠ g') (i : Nat) (u : Value) : RwSt w (W.setCell ⟨g', i, none⟩ u) g cs xs len := ⟨h.1.off (p := ⟨g', i, none⟩) hne u, h.2.1, h.2.2.1, h.2.2.2⟩
theorem RwSt.put {w W : World} {g : Nat} {cs : Array Value} {A R : List UInt8} {x c : UInt8} {len : Nat} (h : RwSt w W g cs (A ++ x :: R) len) {i : Nat} (hi : A.length = i) {V : Int} (hV : V = (c.toNat : Int)) : RwSt w (W.setCell ⟨g, i, none⟩ (.int .u8 V)) g (cs.setIfInBounds i (.int .u8 V)) (A ++ c :: R) len := by
  subst hV
  refine ⟨h.1.put i _, by rw [Array.size_setIfInBounds]; exact h.2.1, ?_, h.2.2.2⟩
  rw [Array.toList_setIfInBounds, List.take_set, h.2.2.1]
  subst hi
  rw [List.map_append, List.map_cons, List.map_append, List.map_cons, List.set_append_right _ _ (by rw [List.length_map]; exact Nat.le_refl _), List.length_map, Nat.sub_self]
  rfl
theorem RwSt.at_ {w W : World} {g : Nat} {cs : Array Value} {xs : List UInt8} {len : Nat} (h : RwSt w W g cs xs len) : At W (some ⟨g, 0, none⟩) (xs.map bv) := by
  rw [← h.2.2.1]
  exact at_front h.1.at_ len
theorem wr_open {w W : World} {v : Value} {xs : List UInt8} (h : WR w W v xs) : ∃ g cs, v = .slice (some ⟨g, 0, none⟩) xs.length xs.length ∧ Hid (Bk W g 5 cs ∧ xs.length ≤ cs.size ∧ cs.toList.take xs.length = xs.map bv ∧ w.heap.size ≤ g) := by
  obtain ⟨g, cs, h1, h2⟩ := h
  exact ⟨g, cs, h1, h2⟩
theorem wr_rw {w0 w W : World} {v : Value} {xs : List UInt8} (h : WR w0 W v xs) (hs : w.heap.size + 1 + 1 < w0.heap.size) : ∃ g cs, v = .slice (some ⟨g, 0, none⟩) xs.length xs.length ∧ RwSt w W g cs xs xs.length ∧ w0.heap.size ≤ g := by
  obtain ⟨g, cs, h1, h2, h3, h4, h5⟩ := h
  exact ⟨g, cs, h1, ⟨h2, h3, h4, by omega⟩, h5⟩
theorem ad_end {w W : World} {ca cb : Array Value} {b0 : Bool} {A : Option Addr} {l c : Nat} {e : Int} {n : Num} (h : AdSt w W ca cb) (hn : NV W (.agg #[.bool b0, .slice A l c, .int .i64 e]) n) :
    ∃ WF, (((W.setCell ⟨w.heap.size + 1 + 1, 0, none⟩ (.bool b0)).setCell ⟨w.heap.size + 1 + 1, 1, none⟩ (.slice A l c)).setCell ⟨w.heap.size + 1 + 1, 2, none⟩ (.int .i64 e)) = WF ∧ WF.cell? ⟨w.heap.size + 1 + 1, 0, none⟩ = some (.bool b0) ∧ WF.cell? ⟨w.heap.size + 1 + 1, 1, none⟩ = some (.slice A l c) ∧ WF.cell? ⟨w.heap.size + 1 + 1, 2, none⟩ = some (.int .i64 e) ∧ NV WF (.agg #[.bool b0, .slice A l c, .int .i64 e]) n ∧ Below w.heap.size w WF := by
  obtain ⟨A', cap, heq, hat, hc, hm⟩ := hn
  obtain ⟨WF, h1, h2, h3, h4, h5, h6⟩ := nres_end h.kr h.bel (by omega) hat b0 (.slice A l c) e
  exact ⟨WF, h1, h2, h3, h4, ⟨A', cap, heq, h5, hc, hm⟩, h6⟩
end Go.Proofs.YtkgclfagimlneaaDoor
/-
  The walks over decimal numbers: adding, the walk.
-/
namespace Go.Proofs.YtkgclfagimlneaaDoor
open Go.RowKit Go.Proofs Wv Wv.Dc
set_option linter.unusedVariables false

theorem fits_len {a b : Num} (ha : Fits a) (hb : Fits b) (a0 : a.dg ≠ []) (b0 : b.dg ≠ []) : lenE a b ≤ 8000 ∧ (lenE a b : Int) = max (firstN a) (firstN b) - min a.ex b.ex + 2 ∧ a.dg.length + (a.ex - lowE a b).toNat ≤ lenE a b ∧ b.dg.length + (b.ex - lowE a b).toNat ≤ lenE a b ∧ -417 ≤ lowE a b := by
  have a1 := ha.lo a0
  have a2 := ha.hi a0
  have a3 := ha.len
  have b1 := hb.lo b0
  have b2 := hb.hi b0
  have b3 := hb.len
  have la : 0 < a.dg.length := List.length_pos_iff.2 a0
  have lb : 0 < b.dg.length := List.length_pos_iff.2 b0
  unfold lenE lowE
  unfold firstN at *
  omega
set_option maxRecDepth 100000 in
set_option maxHeartbeats 4000000 in
theorem padd_any {w : World} {va vb : Value} {a b : Num} (ha : NV w va a) (hb : NV w vb b) (fa : Fits a) (fb : Fits b) :
    Calls Tryd.prog 38 #[va, vb] w fun x w' => ∃ v', x = .returned v' ∧ NV w' v' (addN a b) ∧ Below w.heap.size w w' := by
  have Hna := hide ha
  have Hnb := hide hb
  have Hmg := hide (fun W (h : Below w.heap.size w W) => pmag_any (ha.below h) (hb.below h) (fits_sz fa) (fits_sz fb))
  have had : addN a b = if a.dg = [] then b else if b.dg = [] then a else trimN (addR a b) := rfl
  have Hal0 : Hid (a.dg ≠ [] → b.dg ≠ [] → (∀ W, Below w.heap.size w W → Calls Tryd.prog 57 #[va, .int .i64 (lowE a b), .int .i64 (lenE a b : Int)] W fun y w' => ∃ v', y = .returned v' ∧ WR W w' v' (digs (lenE a b) (Al (lowE a b) a)) ∧ Below W.heap.size W w') ∧ (∀ W, Below w.heap.size w W → Calls Tryd.prog 57 #[vb, .int .i64 (lowE a b), .int .i64 (lenE a b : Int)] W fun y w' => ∃ v', y = .returned v' ∧ WR W w' v' (digs (lenE a b) (Al (lowE a b) b)) ∧ Below W.heap.size W w')) := hide (fun a0 b0 => by
    obtain ⟨l1, l2, l3, l4, l5⟩ := fits_len fa fb a0 b0
    have s1 := fits_sz fa
    have s2 := fits_sz fb
    exact ⟨fun W h => palign_any (ha.below h) a0 fa.canon.all (lowE a b) (lenE a b) (by unfold lowE; omega) (by omega) s1.hi l3 (by omega),
      fun W h => palign_any (hb.below h) b0 fb.canon.all (lowE a b) (lenE a b) (by unfold lowE; omega) (by omega) s2.hi l4 (by omega)⟩)
  have Hrow : Hid (a.dg ≠ [] → b.dg ≠ [] → ∀ p q, (magN a b < 0 ∧ p = b ∧ q = a) ∨ (0 ≤ magN a b ∧ p = a ∧ q = b) → addR a b = ⟨p.neg, (addL (p.neg == q.neg) (digs (lenE a b) (Al (lowE a b) p)) (digs (lenE a b) (Al (lowE a b) q))).1, lowE a b⟩) := hide (fun a0 b0 p q h => addR_row fa.canon fb.canon a0 b0 (fits_ex fa) (fits_ex fb) (by
    rcases h with h | ⟨h1, h2⟩
    · exact .inl h
    · exact .inr ⟨by omega, h2⟩))
  have Hlen : Hid (a.dg ≠ [] → b.dg ≠ [] → lenE a b ≤ 8000 ∧ (lenE a b : Int) = max (firstN a) (firstN b) - min a.ex b.ex + 2 ∧ -417 ≤ lowE a b) := hide (fun a0 b0 => by
    obtain ⟨l1, l2, _, _, l5⟩ := fits_len fa fb a0 b0
    exact ⟨l1, l2, l5⟩)
  have sa := fits_sz fa
  have sb := fits_sz fb
  have hlo : lowE a b = min a.ex b.ex := rfl
  have Had := hide had
  obtain ⟨Aa, ca, rfl, hata, hca, hma⟩ := ha
  obtain ⟨Ab, cb, rfl, hatb, hcb, hmb⟩ := hb
  obtain ⟨ba, da, ea⟩ := a
  obtain ⟨bb, db, eb⟩ := b
  obtain ⟨sa1, sa2, sa3⟩ := sa
  obtain ⟨sb1, sb2, sb3⟩ := sb
  simp only at *
  have Hst := hide (AdSt.start w #[.bool ba, .slice Aa da.length ca, .int .i64 ea] #[.bool bb, .slice Ab db.length cb, .int .i64 eb])
  have Hn0 := hide (fun W (h : Below w.heap.size w W) => Hna.out.below h)
  have Hn1 := hide (fun W (h : Below w.heap.size w W) => Hnb.out.below h)
  obtain ⟨la, hla⟩ : ∃ l, da.length = l := ⟨_, rfl⟩
  obtain ⟨lb, hlb⟩ : ∃ l, db.length = l := ⟨_, rfl⟩
  rw [hla] at Hst Hn0 Hmg Hal0 ⊢
  rw [hlb] at Hst Hn1 Hmg Hal0 ⊢
  have HLa := hide hla
  have HLb := hide hlb
  rw [hla] at sa3
  rw [hlb] at sb3
  clear had fa fb hata hatb hca hcb hma hmb Hna Hnb hla hlb
  by_cases h0 : da = []
  · have hz : la = 0 := by rw [← HLa.out, h0]; rfl
    subst hz
    have had := Had.out
    rw [if_pos h0] at had
    have Had2 := hide had
    clear had Had h0 Hal0 Hrow Hlen Hmg
    go_enter Tryd.func38, Tryd.ntmps38
    go_upto_region 1 with fail
    obtain ⟨W0, hW0⟩ : ∃ W, (((w.alloc (.cells #[.bool ba, .slice Aa 0 ca, .int .i64 ea] 41)).alloc (.cells #[.bool bb, .slice Ab lb cb, .int .i64 eb] 41)).alloc (.cells #[.bool false, .slice none 0 0, .int .i64 0] 41)) = W := ⟨_, rfl⟩
    rw [hW0] at Hst ⊢
    clear hW0
    obtain ⟨c0, c1, c2, d0, d1, d2, _⟩ := AdS.of Hst.out
    have r0 := Hst.out.kr.cell 0
    have r1 := Hst.out.kr.cell 1
    have r2 := Hst.out.kr.cell 2
    have g0 := Hst.out.kr.frozen 0
    have g1 := Hst.out.kr.frozen 1
    have g2 := Hst.out.kr.frozen 2
    simp at r0 r1 r2
    obtain ⟨WF, hWF, u0, u1, u2, hnF, hbF⟩ := ad_end Hst.out (Hn1.out _ Hst.out.bel)
    have HWF := hide hWF
    have HnF := hide hnF
    have HbF := hide hbF
    clear hWF hnF hbF
    go_wp2
    rw [HWF.out]
    refine bodyPost_ret (by simp [results, Tryd.results38, go_sem, u0, u1, u2]; try rfl) rfl ?_
    rw [Had2.out]
    exact ⟨_, rfl, HnF.out, HbF.out⟩
  · have hla0 : ((la : Int) == 0) = false := by
      rw [beq_eq_false_iff_ne]
      intro e
      exact h0 (List.eq_nil_of_length_eq_zero (by have := HLa.out; omega))
    by_cases h1 : db = []
    · have hz : lb = 0 := by rw [← HLb.out, h1]; rfl
      subst hz
      have had := Had.out
      rw [if_neg h0, if_pos h1] at had
      have Had2 := hide had
      clear had Had h0 h1 Hal0 Hrow Hlen Hmg
      go_enter Tryd.func38, Tryd.ntmps38
      go_upto_region 1 with fail
      obtain ⟨W0, hW0⟩ : ∃ W, (((w.alloc (.cells #[.bool ba, .slice Aa la ca, .int .i64 ea] 41)).alloc (.cells #[.bool bb, .slice Ab 0 cb, .int .i64 eb] 41)).alloc (.cells #[.bool false, .slice none 0 0, .int .i64 0] 41)) = W := ⟨_, rfl⟩
      rw [hW0] at Hst ⊢
      clear hW0
      obtain ⟨c0, c1, c2, d0, d1, d2, _⟩ := AdS.of Hst.out
      have r0 := Hst.out.kr.cell 0
      have r1 := Hst.out.kr.cell 1
      have r2 := Hst.out.kr.cell 2
      have g0 := Hst.out.kr.frozen 0
      have g1 := Hst.out.kr.frozen 1
      have g2 := Hst.out.kr.frozen 2
      simp at r0 r1 r2
      obtain ⟨WF, hWF, u0, u1, u2, hnF, hbF⟩ := ad_end Hst.out (Hn0.out _ Hst.out.bel)
      have HWF := hide hWF
      have HnF := hide hnF
      have HbF := hide hbF
      clear hWF hnF hbF
      go_wp2
      rw [HWF.out]
      refine bodyPost_ret (by simp [results, Tryd.results38, go_sem, u0, u1, u2]; try rfl) rfl ?_
      rw [Had2.out]
      exact ⟨_, rfl, HnF.out, HbF.out⟩
    · have hlb0 : ((lb : Int) == 0) = false := by
        rw [beq_eq_false_iff_ne]
        intro e
        exact h1 (List.eq_nil_of_length_eq_zero (by have := HLb.out; omega))
      have had := Had.out
      rw [if_neg h0, if_neg h1] at had
      obtain ⟨hz1, hz2, hz3⟩ := Hlen.out h0 h1
      have Hax := hide (Hal0.out h0 h1).1
      have Hay := hide (Hal0.out h0 h1).2
      have Hrw := hide (Hrow.out h0 h1)
      obtain ⟨N, hN⟩ : ∃ N, lenE ⟨ba, da, ea⟩ ⟨bb, db, eb⟩ = N := ⟨_, rfl⟩
      obtain ⟨x, hx⟩ : ∃ x, lowE ⟨ba, da, ea⟩ ⟨bb, db, eb⟩ = x := ⟨_, rfl⟩
      obtain ⟨m, hm⟩ : ∃ m, magN ⟨ba, da, ea⟩ ⟨bb, db, eb⟩ = m := ⟨_, rfl⟩
      rw [hN, hx] at Hax Hay
      rw [hN, hx, hm] at Hrw
      rw [hN] at hz1 hz2
      rw [hx] at hz3 hlo
      rw [hm] at Hmg
      obtain ⟨f1, hf1⟩ : ∃ f, firstN ⟨ba, da, ea⟩ = f := ⟨_, rfl⟩
      obtain ⟨f2, hf2⟩ : ∃ f, firstN ⟨bb, db, eb⟩ = f := ⟨_, rfl⟩
      have hfe1 : f1 = ea + la - 1 := by rw [← hf1, ← HLa.out]; rfl
      have hfe2 : f2 = eb + lb - 1 := by rw [← hf2, ← HLb.out]; rfl
      rw [hf1, hf2, ← hlo] at hz2
      have hmin : min ea eb = x := hlo.symm
      have hi1 : IntKind.i64.wrap (max (ea + (la : Int) - 1) (eb + (lb : Int) - 1) - x) = (N : Int) - 2 := by rw [IntWalk.i64_in _ (by omega)]; omega
      have hi2 : IntKind.i64.wrap (N : Int) = (N : Int) := by rw [IntWalk.i64_in _ (by omega)]
      have Had2 := hide had
      have Hz2 := hide hz2
      clear hz2 had Had hN hx hm hf1 hf2 hlo Hal0 Hrow Hlen hfe1 hfe2 h0 h1
      go_enter Tryd.func38, Tryd.ntmps38
      go_upto_region 1 with fail
      obtain ⟨W0, hW0⟩ : ∃ W, (((w.alloc (.cells #[.bool ba, .slice Aa la ca, .int .i64 ea] 41)).alloc (.cells #[.bool bb, .slice Ab lb cb, .int .i64 eb] 41)).alloc (.cells #[.bool false, .slice none 0 0, .int .i64 0] 41)) = W := ⟨_, rfl⟩
      rw [hW0] at Hst ⊢
      clear hW0
      obtain ⟨c0, c1, c2, d0, d1, d2, _⟩ := AdS.of Hst.out
      go_wp2
      go_cut [6] (fun s6 wx => s6 = .int .i64 (N : Int) ∧ AdSt w wx #[.bool ba, .slice Aa la ca, .int .i64 ea] #[.bool bb, .slice Ab lb cb, .int .i64 eb])
      case first =>
        have H1 : AdS w ba Aa la ca ea bb Ab lb cb eb W0.drew := AdS.of (Hst.out.below ((Below.refl _ _).drew))
        unfold AdS at H1
        clear Hmg Hax Hay Hrw Had2 Hn0 Hn1 Hst
        go_region_held3 (fun W => W.cell? ⟨w.heap.size, 0, none⟩ = some (.bool ba) ∧ W.cell? ⟨w.heap.size, 1, none⟩ = some (.slice Aa la ca) ∧ W.cell? ⟨w.heap.size, 2, none⟩ = some (.int .i64 ea) ∧ W.cell? ⟨w.heap.size + 1, 0, none⟩ = some (.bool bb) ∧ W.cell? ⟨w.heap.size + 1, 1, none⟩ = some (.slice Ab lb cb) ∧ W.cell? ⟨w.heap.size + 1, 2, none⟩ = some (.int .i64 eb) ∧ AdSt w W #[.bool ba, .slice Aa la ca, .int .i64 ea] #[.bool bb, .slice Ab lb cb, .int .i64 eb]) (first | exact H1 | assumption | exact AdS.below (by assumption) (by assumption))
          (first | (go_at_call 31; refine (pfirst_raw _ _ _ _ _ (by omega) (by omega) (by omega) _).mono ?_; rintro r w' ⟨rfl, hb2⟩))
        all_goals
          go_wp2
          go_meet
          case rel => exact ⟨by first | rfl | go_num, AdS.st (by assumption)⟩
      case rest =>
        obtain ⟨rfl, hst⟩ := hcut
        clear Hst c0 c1 c2 d0 d1 d2 hi1 hi2
        have Hst := hide hst
        clear hst
        obtain ⟨bp, Ap, lp, cp, ep, bq, Aq, lq, cq, eq, X, Y, hpq, Hadd, Hp, Hq⟩ : ∃ (bp : Bool) (Ap : Option Addr) (lp cp : Nat) (ep : Int) (bq : Bool) (Aq : Option Addr) (lq cq : Nat) (eq : Int) (X Y : List UInt8),
            ((m < 0 ∧ (bp, Ap, lp, cp, ep) = (bb, Ab, lb, cb, eb) ∧ (bq, Aq, lq, cq, eq) = (ba, Aa, la, ca, ea)) ∨ (0 ≤ m ∧ (bp, Ap, lp, cp, ep) = (ba, Aa, la, ca, ea) ∧ (bq, Aq, lq, cq, eq) = (bb, Ab, lb, cb, eb))) ∧
            Hid (addN ⟨ba, da, ea⟩ ⟨bb, db, eb⟩ = trimN ⟨bp, (addL (bp == bq) X Y).1, x⟩ ∧ X.length = N ∧ Y.length = N ∧ AllD X ∧ AllD Y) ∧
            Hid (∀ W, Below w.heap.size w W → Calls Tryd.prog 57 #[.agg #[.bool bp, .slice Ap lp cp, .int .i64 ep], .int .i64 x, .int .i64 (N : Int)] W fun y w' => ∃ v', y = .returned v' ∧ WR W w' v' X ∧ Below W.heap.size W w') ∧
            Hid (∀ W, Below w.heap.size w W → Calls Tryd.prog 57 #[.agg #[.bool bq, .slice Aq lq cq, .int .i64 eq], .int .i64 x, .int .i64 (N : Int)] W fun y w' => ∃ v', y = .returned v' ∧ WR W w' v' Y ∧ Below W.heap.size W w') := by
          by_cases h : m < 0
          · exact ⟨_, _, _, _, _, _, _, _, _, _, _, _, .inl ⟨h, rfl, rfl⟩, hide ⟨by
              rw [Had2.out, Hrw.out ⟨bb, db, eb⟩ ⟨ba, da, ea⟩ (.inl ⟨h, rfl, rfl⟩)], digs_len _ _, digs_len _ _, digs_all _ _, digs_all _ _⟩, Hay, Hax⟩
          · exact ⟨_, _, _, _, _, _, _, _, _, _, _, _, .inr ⟨by omega, rfl, rfl⟩, hide ⟨by
              rw [Had2.out, Hrw.out ⟨ba, da, ea⟩ ⟨bb, db, eb⟩ (.inr ⟨by omega, rfl, rfl⟩)], digs_len _ _, digs_len _ _, digs_all _ _, digs_all _ _⟩, Hax, Hay⟩
        clear Hrw Had2 Hax Hay
        obtain ⟨c0, c1, c2, d0, d1, d2, _⟩ := AdS.of Hst.out
        go_upto_if 38 with (go_at_call 56; refine (Hmg.out _ Hst.out.bel).mono ?_; rintro r w' ⟨rfl, hb2⟩)
        have hst2 := Hst.out.below hb2
        have Hst2 := hide hst2
        clear c0 c1 c2 d0 d1 d2 hb2 Hmg Hst hst2
        go_cut [] (fun wx => AdSt w wx #[.bool bp, .slice Ap lp cp, .int .i64 ep] #[.bool bq, .slice Aq lq cq, .int .i64 eq])
        case first =>
          obtain ⟨c0, c1, c2, d0, d1, d2, _⟩ := AdS.of Hst2.out
          have f0 := Hst2.out.ka.frozen 0
          have f1 := Hst2.out.ka.frozen 1
          have f2 := Hst2.out.ka.frozen 2
          have f3 := Hst2.out.kb.frozen 0
          have f4 := Hst2.out.kb.frozen 1
          have f5 := Hst2.out.kb.frozen 2
          rcases hpq with ⟨h, h1, h2⟩ | ⟨h, h1, h2⟩
          · simp only [Prod.mk.injEq] at h1 h2
            obtain ⟨rfl, rfl, rfl, rfl, rfl⟩ := h1
            obtain ⟨rfl, rfl, rfl, rfl, rfl⟩ := h2
            clear Hadd Hp Hq
            go_wp2
            go_meet
            case rel => exact (Hst2.out.putA _ _ _).putB _ _ _
          · simp only [Prod.mk.injEq] at h1 h2
            obtain ⟨rfl, rfl, rfl, rfl, rfl⟩ := h1
            obtain ⟨rfl, rfl, rfl, rfl, rfl⟩ := h2
            clear Hadd Hp Hq
            go_wp2
            go_meet
            case rel => exact Hst2.out
        case rest =>
          have Hst3 := hide hcut
          clear hcut Hst2 hpq
          go_wp2
          go_cut [7, 8] (fun s7 s8 wx => ∃ g1 cs1 g2 cs2, s7 = .slice (some ⟨g1, 0, none⟩) N N ∧ s8 = .slice (some ⟨g2, 0, none⟩) N N ∧ RwSt w wx g1 cs1 X N ∧ RwSt w wx g2 cs2 Y N ∧ g1 ≠ g2 ∧ AdSt w wx #[.bool bp, .slice Ap lp cp, .int .i64 ep] #[.bool bq, .slice Aq lq cq, .int .i64 eq])
          case first =>
            have H1 : AdS w bp Ap lp cp ep bq Aq lq cq eq wc.drew := AdS.of (Hst3.out.below ((Below.refl _ _).drew))
            unfold AdS at H1
            have Hlt := hide (show w.heap.size + 1 + 1 < wc.heap.size from Hst3.out.kr.lt)
            obtain ⟨-, hXl, hYl, -, -⟩ := Hadd.out
            have HXl := hide hXl
            have HYl := hide hYl
            clear hXl hYl Hadd
            have Hp2 : Hid (∀ W, (W.cell? ⟨w.heap.size, 0, none⟩ = some (.bool bp) ∧ W.cell? ⟨w.heap.size, 1, none⟩ = some (.slice Ap lp cp) ∧ W.cell? ⟨w.heap.size, 2, none⟩ = some (.int .i64 ep) ∧ W.cell? ⟨w.heap.size + 1, 0, none⟩ = some (.bool bq) ∧ W.cell? ⟨w.heap.size + 1, 1, none⟩ = some (.slice Aq lq cq) ∧ W.cell? ⟨w.heap.size + 1, 2, none⟩ = some (.int .i64 eq) ∧ AdSt w W #[.bool bp, .slice Ap lp cp, .int .i64 ep] #[.bool bq, .slice Aq lq cq, .int .i64 eq]) → Calls Tryd.prog 57 #[.agg #[.bool bp, .slice Ap lp cp, .int .i64 ep], .int .i64 x, .int .i64 (N : Int)] W fun y w' => ∃ v', y = .returned v' ∧ WR W w' v' X ∧ Below W.heap.size W w') := hide (fun W h => Hp.out W (AdSt.bel h.2.2.2.2.2.2))
            have Hq2 : Hid (∀ W, (W.cell? ⟨w.heap.size, 0, none⟩ = some (.bool bp) ∧ W.cell? ⟨w.heap.size, 1, none⟩ = some (.slice Ap lp cp) ∧ W.cell? ⟨w.heap.size, 2, none⟩ = some (.int .i64 ep) ∧ W.cell? ⟨w.heap.size + 1, 0, none⟩ = some (.bool bq) ∧ W.cell? ⟨w.heap.size + 1, 1, none⟩ = some (.slice Aq lq cq) ∧ W.cell? ⟨w.heap.size + 1, 2, none⟩ = some (.int .i64 eq) ∧ AdSt w W #[.bool bp, .slice Ap lp cp, .int .i64 ep] #[.bool bq, .slice Aq lq cq, .int .i64 eq]) → Calls Tryd.prog 57 #[.agg #[.bool bq, .slice Aq lq cq, .int .i64 eq], .int .i64 x, .int .i64 (N : Int)] W fun y w' => ∃ v', y = .returned v' ∧ WR W w' v' Y ∧ Below W.heap.size W w') := hide (fun W h => Hq.out W (AdSt.bel h.2.2.2.2.2.2))
            clear Hp Hq
            go_region_held3 (fun W => W.cell? ⟨w.heap.size, 0, none⟩ = some (.bool bp) ∧ W.cell? ⟨w.heap.size, 1, none⟩ = some (.slice Ap lp cp) ∧ W.cell? ⟨w.heap.size, 2, none⟩ = some (.int .i64 ep) ∧ W.cell? ⟨w.heap.size + 1, 0, none⟩ = some (.bool bq) ∧ W.cell? ⟨w.heap.size + 1, 1, none⟩ = some (.slice Aq lq cq) ∧ W.cell? ⟨w.heap.size + 1, 2, none⟩ = some (.int .i64 eq) ∧ AdSt w W #[.bool bp, .slice Ap lp cp, .int .i64 ep] #[.bool bq, .slice Aq lq cq, .int .i64 eq]) (first | exact H1 | assumption | exact AdS.below (by assumption) (by assumption))
              (first
                | (go_at_call 57; with_reducible refine (Hp2.out _ (by assumption)).mono ?_; rintro r wx ⟨vx, rfl, hwx, hbx⟩; obtain ⟨gx, csx, hvx, hkx⟩ := wr_open hwx; subst hvx)
                | (go_at_call 57; with_reducible refine (Hq2.out _ (by assumption)).mono ?_; rintro r wy ⟨vy, rfl, hwy, hby⟩; obtain ⟨gy, csy, hvy, hky⟩ := wr_open hwy; subst hvy))
            obtain ⟨hx1, hx2, hx3, hx4⟩ := hkx.out
            obtain ⟨hy1, hy2, hy3, hy4⟩ := hky.out
            have hltx := hx1.lt
            have hlt := Hlt.out
            have hx4' : wc.heap.size ≤ gx := hx4
            have Hrx := hide (show RwSt w wy gx csx X N from ⟨hx1.below hby hltx, by rw [← HXl.out]; exact hx2, by rw [← HXl.out]; exact hx3, by omega⟩)
            have hy4' : wx.heap.size ≤ gy := hy4
            have Hry := hide (show RwSt w wy gy csy Y N from ⟨hy1, by rw [← HYl.out]; exact hy2, by rw [← HYl.out]; exact hy3, by omega⟩)
            have Hne := hide (show gx ≠ gy by omega)
            have hxl := HXl.out
            have hyl := HYl.out
            rw [hxl, hyl]
            clear hx1 hx2 hx3 hx4 hy1 hy2 hy3 hy4 hltx hlt hx4' hy4' hkx hky Hp2 Hq2 hbx hby hwx hwy hxl hyl
            go_wp2
            go_meet
            case rel => exact ⟨gx, csx, gy, csy, rfl, rfl, Hrx.out, Hry.out, Hne.out, AdS.st (by assumption)⟩
          case rest =>
            obtain ⟨g1, cs1, g2, cs2, rfl, rfl, hr1, hr2, hne, hst⟩ := hcut
            obtain ⟨hadd, hXl, hYl, hXd, hYd⟩ := Hadd.out
            obtain ⟨same, hsame⟩ : ∃ same, (bp == bq) = same := ⟨_, rfl⟩
            rw [hsame] at hadd
            have Hr1 := hide hr1
            have Hr2 := hide hr2
            have Hne := hide hne
            have Hst4 := hide hst
            have Hadd2 := hide hadd
            have HXl := hide hXl
            have HYl := hide hYl
            have HXd := hide hXd
            have HYd := hide hYd
            have Hsame := hide hsame
            clear hr1 hr2 hne hst hadd hXl hYl hXd hYd hsame Hadd Hst3 Hp Hq
            have hi3 : (0 : Int) ≤ (N : Int) := by omega
            go_wp2
            go_loopw [9, 10] (fun s9 s10 wr => ∃ (i : Nat) (cs : Array Value), i ≤ N ∧ s9 = .int .i64 (addL same (X.drop i) (Y.drop i)).2 ∧ s10 = .int .i64 ((i : Int) - 1) ∧ Hid (RwSt w wr g1 cs (X.take i ++ (addL same (X.drop i) (Y.drop i)).1) N) ∧ Hid (RwSt w wr g2 cs2 Y N) ∧ Hid (AdSt w wr #[.bool bp, .slice Ap lp cp, .int .i64 ep] #[.bool bq, .slice Aq lq cq, .int .i64 eq])) (fun _ s10 _ => (intOf s10 + 1).toNat)
            case atStart =>
              have e1 : X.drop N = [] := List.drop_eq_nil_of_le (by rw [HXl.out]; exact Nat.le_refl _)
              refine ⟨N, cs1, Nat.le_refl _, ?_, rfl, ?_, Hr2, Hst4⟩
              · rw [e1]; rfl
              · rw [e1, List.take_of_length_le (by rw [HXl.out]; exact Nat.le_refl _)]
                simpa [addL] using Hr1
            case round =>
              obtain ⟨i, cs, hi, rfl, rfl, hr1, hr2, hst⟩ := hrel
              obtain ⟨R, hR⟩ : ∃ R, addL same (X.drop i) (Y.drop i) = R := ⟨_, rfl⟩
              rw [hR] at hr1 ⊢
              by_cases h0 : i = 0
              · subst h0
                obtain ⟨i1, i2, -, -, -⟩ := addL_spec same HXd.out HYd.out (by rw [HXl.out, HYl.out])
                rw [List.drop_zero, List.drop_zero] at hR
                rw [hR, HXl.out] at i2
                have hadd := Hadd2.out
                rw [hR] at hadd
                have hr1' := hr1.out
                rw [List.take_zero, List.nil_append] at hr1'
                have hnv : NV wr (.agg #[.bool bp, .slice (some ⟨g1, 0, none⟩) N N, .int .i64 x]) ⟨bp, R.1, x⟩ := ⟨_, N, by rw [i2], hr1'.at_, by rw [i2]; exact Nat.le_refl _, by unfold maxLen; omega⟩
                have Htr := hide (ptrim_any hnv ⟨by show -2000000 ≤ x; omega, by show x ≤ 2000000; omega, by show R.1.length ≤ 100000; rw [i2]; omega⟩)
                have Hst5 := hst
                have n0 := hst.out.ka.cell 0
                simp at n0
                have Hadd3 := hide hadd
                clear i1 i2 hR hadd hr1' hnv hr1 hr2 hst Hadd2 HXl HYl HXd HYd Hr1 Hr2 Hst4 Hsame Hne
                go_wp2_with fail
                refine (Htr.out).mono ?_
                rintro y w9 ⟨v', rfl, ⟨A', cp', rfl, hat', hc', hm'⟩, hb9⟩
                have hst9 := Hst5.out.below hb9
                have r0 := hst9.kr.cell 0
                have r1 := hst9.kr.cell 1
                have r2 := hst9.kr.cell 2
                have g0 := hst9.kr.frozen 0
                have g1 := hst9.kr.frozen 1
                have g2 := hst9.kr.frozen 2
                simp at r0 r1 r2
                obtain ⟨WF, hWF, u0, u1, u2, hnF, hbF⟩ := ad_end hst9 ⟨A', cp', rfl, hat', hc', hm'⟩
                have HWF := hide hWF
                have HnF := hide hnF
                have HbF := hide hbF
                clear hst9 hb9 hat' hc' hm' hWF hnF hbF Hst5 n0
                go_wp2
                rw [HWF.out]
                refine bodyPost_ret (by simp [results, Tryd.results38, go_sem, u0, u1, u2]; try rfl) rfl ?_
                rw [Hadd3.out]
                exact ⟨_, rfl, HnF.out, HbF.out⟩
              · obtain ⟨k, rfl⟩ : ∃ k, i = k + 1 := ⟨i - 1, by omega⟩
                have hkX : k < X.length := by rw [HXl.out]; omega
                have hkY : k < Y.length := by rw [HYl.out]; omega
                have hX : X.drop k = X[k] :: X.drop (k + 1) := List.drop_eq_getElem_cons hkX
                have hY : Y.drop k = Y[k] :: Y.drop (k + 1) := List.drop_eq_getElem_cons hkY
                have hT : X.take (k + 1) = X.take k ++ [X[k]] := List.take_succ_eq_append_getElem hkX
                obtain ⟨q1, q2, q3⟩ := dig_dv (HXd.out X[k] (List.getElem_mem _))
                obtain ⟨p1, p2, p3⟩ := dig_dv (HYd.out Y[k] (List.getElem_mem _))
                have hyk : Y[k]? = some Y[k] := List.getElem?_eq_getElem hkY
                obtain ⟨-, -, hc1, hc2, -⟩ := addL_spec same (X := X.drop (k + 1)) (Y := Y.drop (k + 1)) (fun c hc => HXd.out c (List.mem_of_mem_drop hc)) (fun c hc => HYd.out c (List.mem_of_mem_drop hc)) (by rw [List.length_drop, List.length_drop, HXl.out, HYl.out])
                rw [hR] at hc1 hc2
                have hak : addL same (X.drop k) (Y.drop k) = (UInt8.ofNat (48 + (dnorm (dstep same X[k] Y[k] R.2)).1.toNat) :: R.1, (dnorm (dstep same X[k] Y[k] R.2)).2) := by
                  rw [hX, hY, addL, hR]
                obtain ⟨q, hq⟩ : ∃ q, dstep same X[k] Y[k] R.2 = q := ⟨_, rfl⟩
                have hqd : q = (dv X[k] : Int) + R.2 + (if same then (dv Y[k] : Int) else -(dv Y[k] : Int)) := by rw [← hq]; rfl
                rw [hq] at hak
                rw [q3, p3] at hqd
                have hr1' := hr1.out
                rw [hT, List.append_assoc, List.singleton_append] at hr1'
                have hgx : (X.take k ++ X[k] :: R.1)[k]? = some X[k] := by
                  rw [List.getElem?_append_right (by rw [List.length_take]; omega), List.length_take, Nat.min_eq_left (by omega), Nat.sub_self]
                  rfl
                have e1 := hr1'.cell (i := k) (by omega) hgx
                have e2 := hr2.out.cell (i := k) (by omega) hyk
                have f1 := hr1'.1.frozen k
                have n0 := hst.out.ka.cell 0
                have n1 := hst.out.kb.cell 0
                simp at n0 n1
                obtain ⟨xv, hxv⟩ : ∃ xv, X[k].toNat = xv := ⟨_, rfl⟩
                obtain ⟨yv, hyv⟩ : ∃ yv, Y[k].toNat = yv := ⟨_, rfl⟩
                rw [hxv] at q1 q2 hqd e1
                rw [hyv] at p1 p2 hqd e2
                obtain ⟨c, hc⟩ : ∃ c, R.2 = c := ⟨_, rfl⟩
                rw [hc] at hc1 hc2 hqd ⊢
                obtain ⟨d', c', hdn, hd0, hd9, hway⟩ : ∃ d' c', dnorm q = (d', c') ∧ 0 ≤ d' ∧ d' ≤ 9 ∧ ((9 < q ∧ d' = q - 10 ∧ c' = 1) ∨ (¬ 9 < q ∧ q < 0 ∧ d' = q + 10 ∧ c' = -1) ∨ (¬ 9 < q ∧ ¬ q < 0 ∧ d' = q ∧ c' = 0)) := by
                  have hq1 : -10 ≤ q ∧ q ≤ 19 := by
                    rw [hqd]
                    split <;> omega
                  unfold dnorm
                  by_cases h9 : 9 < q
                  · rw [if_pos h9]; exact ⟨_, _, rfl, by omega, by omega, .inl ⟨h9, rfl, rfl⟩⟩
                  · rw [if_neg h9]
                    by_cases h8 : q < 0
                    · rw [if_pos h8]; exact ⟨_, _, rfl, by omega, by omega, .inr (.inl ⟨h9, h8, rfl, rfl⟩)⟩
                    · rw [if_neg h8]; exact ⟨_, _, rfl, by omega, by omega, .inr (.inr ⟨h9, h8, rfl, rfl⟩)⟩
                rw [hdn] at hak
                simp only at hak
                have hzc : ((UInt8.ofNat (48 + d'.toNat)).toNat : Int) = 48 + d' := by
                  rw [UInt8.toNat_ofNat']
                  omega
                generalize UInt8.ofNat (48 + d'.toNat) = zc at *
                have Hrw : Hid (∀ V : Int, V = 48 + d' → RwSt w (wr.setCell ⟨g1, k, none⟩ (.int .u8 V)) g1 (cs.setIfInBounds k (.int .u8 V)) (X.take k ++ zc :: R.1) N ∧ RwSt w (wr.setCell ⟨g1, k, none⟩ (.int .u8 V)) g2 cs2 Y N ∧ AdSt w (wr.setCell ⟨g1, k, none⟩ (.int .u8 V)) #[.bool bp, .slice Ap lp cp, .int .i64 ep] #[.bool bq, .slice Aq lq cq, .int .i64 eq]) := hide (fun V hV => ⟨hr1'.put (by rw [List.length_take]; omega) (by rw [hV, hzc]), hr2.out.off (fun e => Hne.out e.symm) _ _, hst.out.fr (only_set (Fr.refl _ _) k _) hr1'.2.2.2⟩)
                have hk1 : (((k + 1 : Nat) : Int) - 1) = (k : Int) := by omega
                rw [hk1]
                have Hrel : Hid (∀ V : Int, V = 48 + d' → ∃ (i : Nat) (cs' : Array Value), i ≤ N ∧ (Value.int .i64 c' : Value) = .int .i64 (addL same (X.drop i) (Y.drop i)).2 ∧ (Value.int .i64 ((k : Int) - 1) : Value) = .int .i64 ((i : Int) - 1) ∧ Hid (RwSt w (wr.setCell ⟨g1, k, none⟩ (.int .u8 V)) g1 cs' (X.take i ++ (addL same (X.drop i) (Y.drop i)).1) N) ∧ Hid (RwSt w (wr.setCell ⟨g1, k, none⟩ (.int .u8 V)) g2 cs2 Y N) ∧ Hid (AdSt w (wr.setCell ⟨g1, k, none⟩ (.int .u8 V)) #[.bool bp, .slice Ap lp cp, .int .i64 ep] #[.bool bq, .slice Aq lq cq, .int .i64 eq])) := hide (fun V hV => ⟨k, cs.setIfInBounds k (.int .u8 V), by omega, by rw [hak], rfl, hide (by rw [hak]; exact (Hrw.out V hV).1), hide (Hrw.out V hV).2.1, hide (Hrw.out V hV).2.2⟩)
                have hkN : (k : Int) < (N : Int) := by omega
                have hkN2 : k < N := by omega
                clear hkX hkY hX hY hT hyk hak hq hr1' hgx hxv hyv hc hdn hzc hR hr1 hr2 hst hk1 Hrw Hr1 Hr2 Hst4 HXd HYd HXl HYl q3 p3 h0
                have Hqd0 := hide hqd
                clear hqd
                cases same
                · have hqd := Hqd0.out
                  simp only [Bool.false_eq_true, if_false] at hqd
                  have hs := Hsame.out
                  rcases hway with ⟨h9, rfl, rfl⟩ | ⟨h9, h8, rfl, rfl⟩ | ⟨h9, h8, rfl, rfl⟩
                  · have g9 : (9 : Int) < (xv : Int) - 48 + c - ((yv : Int) - 48) := by omega
                    have Hqd := hide hqd
                    clear h9 hqd Hqd0
                    go_wp2
                    refine ⟨Hrel.out _ (by have := Hqd.out; omega), ?_⟩
                    simp [intOf] <;> omega
                  · have g9 : ¬ (9 : Int) < (xv : Int) - 48 + c - ((yv : Int) - 48) := by omega
                    have g8 : (xv : Int) - 48 + c - ((yv : Int) - 48) < 0 := by omega
                    have Hqd := hide hqd
                    clear h9 h8 hqd Hqd0
                    go_wp2
                    refine ⟨Hrel.out _ (by have := Hqd.out; omega), ?_⟩
                    simp [intOf] <;> omega
                  · have g9 : ¬ (9 : Int) < (xv : Int) - 48 + c - ((yv : Int) - 48) := by omega
                    have g8 : ¬ (xv : Int) - 48 + c - ((yv : Int) - 48) < 0 := by omega
                    have Hqd := hide hqd
                    clear h9 h8 hqd Hqd0
                    go_wp2
                    refine ⟨Hrel.out _ (by have := Hqd.out; omega), ?_⟩
                    simp [intOf] <;> omega
                · have hqd := Hqd0.out
                  simp only [if_true] at hqd
                  have hs := Hsame.out
                  rcases hway with ⟨h9, rfl, rfl⟩ | ⟨h9, h8, rfl, rfl⟩ | ⟨h9, h8, rfl, rfl⟩
                  · have g9 : (9 : Int) < (xv : Int) - 48 + c + ((yv : Int) - 48) := by omega
                    have Hqd := hide hqd
                    clear h9 hqd Hqd0
                    go_wp2
                    refine ⟨Hrel.out _ (by have := Hqd.out; omega), ?_⟩
                    simp [intOf] <;> omega
                  · have g9 : ¬ (9 : Int) < (xv : Int) - 48 + c + ((yv : Int) - 48) := by omega
                    have g8 : (xv : Int) - 48 + c + ((yv : Int) - 48) < 0 := by omega
                    have Hqd := hide hqd
                    clear h9 h8 hqd Hqd0
                    go_wp2
                    refine ⟨Hrel.out _ (by have := Hqd.out; omega), ?_⟩
                    simp [intOf] <;> omega
                  · have g9 : ¬ (9 : Int) < (xv : Int) - 48 + c + ((yv : Int) - 48) := by omega
                    have g8 : ¬ (xv : Int) - 48 + c + ((yv : Int) - 48) < 0 := by omega
                    have Hqd := hide hqd
                    clear h9 h8 hqd Hqd0
                    go_wp2
                    refine ⟨Hrel.out _ (by have := Hqd.out; omega), ?_⟩
                    simp [intOf] <;> omega
end Go.Proofs.YtkgclfagimlneaaDoor
