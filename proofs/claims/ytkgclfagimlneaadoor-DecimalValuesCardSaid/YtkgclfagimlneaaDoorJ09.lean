/-
  Joined texts: Et, Eu, Ev.
-/
import Derived.Test.YtkgclfagimlneaaDoorJ08
set_option linter.unusedVariables false
set_option linter.unusedSimpArgs false
/-
  The walks over decimal numbers: sums and tolerances of texts.
-/
namespace Go.Proofs.YtkgclfagimlneaaDoor
open Go.RowKit Go.Proofs Wv Wv.Dc
set_option linter.unusedVariables false

theorem add_sz {a b : Num} (fa : Fits a) (fb : Fits b) : Sz (addN a b) := by
  unfold addN
  by_cases a0 : a.dg = []
  · rw [if_pos a0]; exact fits_sz fb
  · rw [if_neg a0]
    by_cases b0 : b.dg = []
    · rw [if_pos b0]; exact fits_sz fa
    · rw [if_neg b0]
      obtain ⟨l1, l2, l3, l4, l5⟩ := fits_len fa fb a0 b0
      have e1 := fits_ex fa
      have e2 := fits_ex fb
      have a2 := fa.hi a0
      have b2 := fb.hi b0
      have s1 := (fits_sz fa).hi
      refine (sz_trim (n := addR a b) ?_ ?_ ?_).2
      · show -1500000 ≤ lowE a b; omega
      · show lowE a b ≤ 1500000
        unfold firstN at a2
        have la : 0 < a.dg.length := List.length_pos_iff.2 a0
        unfold lowE
        omega
      · show (digs (lenE a b) _).length ≤ 1000
        rw [digs_len]
        omega
set_option maxHeartbeats 2000000 in
theorem psumS_any (s t : ByteArray) {w : World} (ht : Tab w) :
    Calls Tryd.prog 18 #[.string s, .string t] w fun x w' => x = .returned (.tuple #[.string (bs (sumS (toL s) (toL t)).1), .int .i64 ((sumS (toL s) (toL t)).2 : Int)]) ∧ Below w.heap.size w w' := by
  have Hc := hide (fun W u (h : Below w.heap.size w W) => pcan u (ht.below h))
  have hv : sumS (toL s) (toL t) = match canN (toL s), canN (toL t) with | some x, some y => ctext (addN x y) | _, _ => ([], 1) := rfl
  have Ht := hide ht
  clear ht
  generalize sumS (toL s) (toL t) = z at *
  obtain ⟨os, hos⟩ : ∃ o, canN (toL s) = o := ⟨_, rfl⟩
  obtain ⟨ot, hot⟩ : ∃ o, canN (toL t) = o := ⟨_, rfl⟩
  have Hos := hide hos
  have Hot := hide hot
  rw [hos, hot] at hv
  have Hv := hide hv
  clear hos hot hv
  go_enter Tryd.func18, Tryd.ntmps18
  go_wp2_with fail
  refine (Hc.out w s (Below.refl _ _)).mono ?_
  rw [Hos.out]
  rintro x w1 ⟨b0, A, l, c, e, rfl, hb, hn⟩
  have hb2 := hb.alloc hb.size (.cells #[.bool b0, .slice A l c, .int .i64 e] 41)
  have hk := Bk.new w1 41 #[.bool b0, .slice A l c, .int .i64 e]
  have Hb2 := hide hb2
  have Hk := hide hk
  have Hn := hide hn
  clear hb hb2 hk hn
  go_wp2_with fail
  refine (Hc.out _ t Hb2.out).mono ?_
  rw [Hot.out]
  rintro x w3 ⟨b1, A1, l1, c1, e1, rfl, hb3, hn3⟩
  have hk3 := Hk.out.below hb3 Hk.out.lt
  have hb4 := (Hb2.out.trans (hb3.mono Hb2.out.size))
  have hb5 := hb4.alloc hb4.size (.cells #[.bool b1, .slice A1 l1 c1, .int .i64 e1] 41)
  have Hb5 := hide hb5
  have n0 := hk3.cell 0
  have n1 := hk3.cell 1
  have n2 := hk3.cell 2
  have hlt := hk3.lt
  simp at n0 n1 n2
  have Hna := hide (fun m (h : os = some m) => ((Hn.out m h).below ((Below.refl _ _).alloc (Nat.le_refl _) (.cells #[.bool b0, .slice A l c, .int .i64 e] 41))).below hb3)
  have Hn3 := hide hn3
  clear hb3 hk3 hb4 hb5 hn3 Hn
  cases os with
  | none =>
    have hv : z = ([], 1) := Hv.out
    subst hv
    clear Hv
    go_wp2
    go_returns
    exact ⟨rfl, Hb5.out⟩
  | some n =>
    cases ot with
    | none =>
      have hv : z = ([], 1) := Hv.out
      subst hv
      clear Hv
      go_wp2
      go_returns
      exact ⟨rfl, Hb5.out⟩
    | some m =>
      have hv : z = ctext (addN n m) := Hv.out
      subst hv
      have hba := (Below.refl w3.heap.size w3).alloc (Nat.le_refl _) (.cells #[.bool b1, .slice A1 l1 c1, .int .i64 e1] 41)
      have fn := can_fits Hos.out
      have fm := can_fits Hot.out
      have Had := hide (padd_any ((Hna.out n rfl).below hba) ((Hn3.out m rfl).below hba) fn fm)
      have Hz := hide (add_sz fn fm)
      clear Hv hba fn fm
      go_wp2_with fail
      refine (Had.out).mono ?_
      rintro x w6 ⟨v', rfl, hn6, hb6⟩
      have Hb6 := hide (Hb5.out.trans (hb6.mono Hb5.out.size))
      have Htx := hide (ptext_any hn6 Hz.out (Ht.out.below Hb6.out))
      clear hb6 hn6
      go_wp2_with fail
      refine (Htx.out).mono ?_
      rintro x w7 ⟨rfl, hb7⟩
      have Hb7 := hide (Hb6.out.trans (hb7.mono Hb6.out.size))
      clear hb7
      go_wp2
      go_returns
      exact ⟨rfl, Hb7.out⟩
end Go.Proofs.YtkgclfagimlneaaDoor
/-
  The walks over decimal numbers: tolerances.
-/
namespace Go.Proofs.YtkgclfagimlneaaDoor
open Go.RowKit Go.Proofs Wv Wv.Dc
set_option linter.unusedVariables false

abbrev zC : Array Value := #[.bool false, .slice none 0 0, .int .i64 0]
theorem wiA {W wm wz : World} (h1 : Below (W.alloc (.cells #[.bool false, .slice none 0 0, .int .i64 0] 41)).drew.heap.size (W.alloc (.cells #[.bool false, .slice none 0 0, .int .i64 0] 41)).drew wm) (h2 : Below wm.heap.size wm wz) : Bk wz W.heap.size 41 #[.bool false, .slice none 0 0, .int .i64 0] := by
  have h := (Bk.new W 41 #[.bool false, .slice none 0 0, .int .i64 0]).drew
  have h3 := h.below h1 h.lt
  exact h3.below h2 h3.lt
theorem wiB {wm wz : World} (h2 : Below (wm.alloc (.cells #[.bool false, .slice none 0 0, .int .i64 0] 41)).heap.size (wm.alloc (.cells #[.bool false, .slice none 0 0, .int .i64 0] 41)) wz) : Bk wz wm.heap.size 41 #[.bool false, .slice none 0 0, .int .i64 0] := by
  have h := (Bk.new wm 41 #[.bool false, .slice none 0 0, .int .i64 0])
  exact h.below h2 h.lt
/-- What lies in memory behind a difference. -/
def WiSt (w wx : World) (r B3 : Nat) (b : Bool) (A : Option Addr) (l c : Nat) (e : Int) (tc : Array Value) (n : Num) : Prop :=
  Bk wx r 41 #[.bool b, .slice A l c, .int .i64 e] ∧ NV wx (.agg #[.bool b, .slice A l c, .int .i64 e]) n ∧ Bk wx B3 41 tc ∧ r ≠ B3 ∧ w.heap.size ≤ r ∧ Below w.heap.size w wx
theorem nv_open {w : World} {v : Value} {n : Num} (h : NV w v n) : ∃ b A l c e, v = .agg #[.bool b, .slice A l c, .int .i64 e] := by
  obtain ⟨A, cap, h1, _⟩ := h
  exact ⟨_, _, _, _, _, h1⟩
theorem bv_not {vs : List UInt8} {b : Bool} {A : Option Addr} {l c : Nat} {e : Int} : ∀ v ∈ vs.map bv, v ∉ (#[.bool b, .slice A l c, .int .i64 e] : Array Value).toList := fun x hx => by
  obtain ⟨q, _, rfl⟩ := List.mem_map.1 hx
  simp [bv]
theorem wi_put {w wz : World} {r B3 : Nat} {b : Bool} {A : Option Addr} {l c : Nat} {e : Int} {tc : Array Value} {n : Num} (hk : Bk wz r 41 #[.bool false, .slice none 0 0, .int .i64 0]) (hn : NV wz (.agg #[.bool b, .slice A l c, .int .i64 e]) n) (h3 : Bk wz B3 41 tc) (hne : r ≠ B3) (hw : w.heap.size ≤ r) (hb : Below w.heap.size w wz) :
    WiSt w (((wz.setCell ⟨r, 0, none⟩ (.bool b)).setCell ⟨r, 1, none⟩ (.slice A l c)).setCell ⟨r, 2, none⟩ (.int .i64 e)) r B3 b A l c e tc n := by
  have hf : Fr (only r) wz (((wz.setCell ⟨r, 0, none⟩ (.bool b)).setCell ⟨r, 1, none⟩ (.slice A l c)).setCell ⟨r, 2, none⟩ (.int .i64 e)) := only_set (only_set (only_set (Fr.refl _ _) 0 _) 1 _) 2 _
  obtain ⟨A', cap, h1, h2, h4, h5⟩ := hn
  exact ⟨by simpa using ((hk.put 0 (.bool b)).put 1 (.slice A l c)).put 2 (.int .i64 e), ⟨A', cap, h1, at_only h2 hk bv_not hf, h4, h5⟩, h3.fr hf (fun e => hne e.symm), hne, hw, hb.trans (own_below hf hb.size hw)⟩
theorem wi_new {w wz : World} {B3 : Nat} {b : Bool} {A : Option Addr} {l c : Nat} {e : Int} {tc : Array Value} {n : Num} (hn : NV wz (.agg #[.bool b, .slice A l c, .int .i64 e]) n) (h3 : Bk wz B3 41 tc) (hb : Below w.heap.size w wz) :
    WiSt w (wz.alloc (.cells #[.bool b, .slice A l c, .int .i64 e] 41)) wz.heap.size B3 b A l c e tc n :=
  ⟨Bk.new _ _ _, hn.below ((Below.refl _ _).alloc (Nat.le_refl _) _), h3.alloc _, fun e => by have := h3.lt; omega, hb.size, hb.alloc hb.size _⟩
theorem wi_abs {w wx : World} {r B3 : Nat} {b : Bool} {A : Option Addr} {l c : Nat} {e : Int} {tc : Array Value} {n : Num} (h : WiSt w wx r B3 b A l c e tc n) : WiSt w (wx.setCell ⟨r, 0, none⟩ (.bool false)) r B3 false A l c e tc (absN n) := by
  obtain ⟨hk, ⟨A', cap, h1, h2, h4, h5⟩, h3, hne, hw, hb⟩ := h
  have hf : Fr (only r) wx (wx.setCell ⟨r, 0, none⟩ (.bool false)) := only_set (Fr.refl _ _) 0 _
  refine ⟨by simpa using hk.put 0 (.bool false), ⟨A', cap, ?_, at_only h2 hk bv_not hf, h4, h5⟩, h3.fr hf (fun e => hne e.symm), hne, hw, hb.trans (own_below hf hb.size hw)⟩
  injection h1 with h1
  have h6 : (Value.slice A l c) = .slice A' n.dg.length cap ∧ (Value.int .i64 e) = .int .i64 n.ex := by
    simp at h1
    simp [h1]
  rw [h6.1, h6.2]
  rfl
/-- The cells that a difference reads. -/
abbrev WiC (Wt : World) (B1 B2 : Nat) (b0 : Bool) (A : Option Addr) (l c : Nat) (e : Int) (b1 : Bool) (A1 : Option Addr) (l1 c1 : Nat) (e1 : Int) (W : World) : Prop :=
  W.cell? ⟨B1, 0, none⟩ = some (.bool b0) ∧ W.cell? ⟨B1, 1, none⟩ = some (.slice A l c) ∧ W.cell? ⟨B1, 2, none⟩ = some (.int .i64 e) ∧ W.cell? ⟨B2, 0, none⟩ = some (.bool b1) ∧ W.cell? ⟨B2, 1, none⟩ = some (.slice A1 l1 c1) ∧ W.cell? ⟨B2, 2, none⟩ = some (.int .i64 e1) ∧ Below Wt.heap.size Wt W
theorem WiC.of {Wt W : World} {B1 B2 : Nat} {b0 : Bool} {A : Option Addr} {l c : Nat} {e : Int} {b1 : Bool} {A1 : Option Addr} {l1 c1 : Nat} {e1 : Int} (h1 : Bk Wt B1 41 #[.bool b0, .slice A l c, .int .i64 e]) (h2 : Bk Wt B2 41 #[.bool b1, .slice A1 l1 c1, .int .i64 e1]) (hb : Below Wt.heap.size Wt W) : WiC Wt B1 B2 b0 A l c e b1 A1 l1 c1 e1 W := by
  have k1 := h1.below hb h1.lt
  have k2 := h2.below hb h2.lt
  exact ⟨k1.cell 0, k1.cell 1, k1.cell 2, k2.cell 0, k2.cell 1, k2.cell 2, hb⟩
theorem WiC.below {Wt W W' : World} {B1 B2 : Nat} {b0 : Bool} {A : Option Addr} {l c : Nat} {e : Int} {b1 : Bool} {A1 : Option Addr} {l1 c1 : Nat} {e1 : Int} (h : WiC Wt B1 B2 b0 A l c e b1 A1 l1 c1 e1 W) (hb : Below W.heap.size W W') : WiC Wt B1 B2 b0 A l c e b1 A1 l1 c1 e1 W' :=
  ⟨keep_cell h.1 hb, keep_cell h.2.1 hb, keep_cell h.2.2.1 hb, keep_cell h.2.2.2.1 hb, keep_cell h.2.2.2.2.1 hb, keep_cell h.2.2.2.2.2.1 hb, h.2.2.2.2.2.2.trans (hb.mono h.2.2.2.2.2.2.size)⟩
theorem WiC.le {Wt W : World} {B1 B2 : Nat} {b0 : Bool} {A : Option Addr} {l c : Nat} {e : Int} {b1 : Bool} {A1 : Option Addr} {l1 c1 : Nat} {e1 : Int} (h : WiC Wt B1 B2 b0 A l c e b1 A1 l1 c1 e1 W) : Wt.heap.size ≤ W.heap.size := h.2.2.2.2.2.2.size
theorem WiC.belowb {Wt W W' : World} {B1 B2 : Nat} {b0 : Bool} {A : Option Addr} {l c : Nat} {e : Int} {b1 : Bool} {A1 : Option Addr} {l1 c1 : Nat} {e1 : Int} (hb : Below W.heap.size W W') (h : WiC Wt B1 B2 b0 A l c e b1 A1 l1 c1 e1 W) : WiC Wt B1 B2 b0 A l c e b1 A1 l1 c1 e1 W' := h.below hb
theorem WiC.dralloc {Wt W : World} {B1 B2 : Nat} {b0 : Bool} {A : Option Addr} {l c : Nat} {e : Int} {b1 : Bool} {A1 : Option Addr} {l1 c1 : Nat} {e1 : Int} (h : WiC Wt B1 B2 b0 A l c e b1 A1 l1 c1 e1 W.drew) (o : Obj) : WiC Wt B1 B2 b0 A l c e b1 A1 l1 c1 e1 (W.alloc o).drew := h.below ((Below.refl W.drew.heap.size W.drew).alloc (Nat.le_refl _) o)
theorem WiC.alloc {Wt W : World} {B1 B2 : Nat} {b0 : Bool} {A : Option Addr} {l c : Nat} {e : Int} {b1 : Bool} {A1 : Option Addr} {l1 c1 : Nat} {e1 : Int} (h : WiC Wt B1 B2 b0 A l c e b1 A1 l1 c1 e1 W) (o : Obj) : WiC Wt B1 B2 b0 A l c e b1 A1 l1 c1 e1 (W.alloc o) := h.below ((Below.refl _ _).alloc (Nat.le_refl _) o)
theorem WiC.put {Wt W : World} {B1 B2 r : Nat} {b0 : Bool} {A : Option Addr} {l c : Nat} {e : Int} {b1 : Bool} {A1 : Option Addr} {l1 c1 : Nat} {e1 : Int} (h : WiC Wt B1 B2 b0 A l c e b1 A1 l1 c1 e1 W) (hr : Wt.heap.size ≤ r) (h1 : B1 < Wt.heap.size) (h2 : B2 < Wt.heap.size) (x y z : Value) : WiC Wt B1 B2 b0 A l c e b1 A1 l1 c1 e1 (((W.setCell ⟨r, 0, none⟩ x).setCell ⟨r, 1, none⟩ y).setCell ⟨r, 2, none⟩ z) := by
  have go : ∀ {W : World} (i : Nat) (u : Value), WiC Wt B1 B2 b0 A l c e b1 A1 l1 c1 e1 W → WiC Wt B1 B2 b0 A l c e b1 A1 l1 c1 e1 (W.setCell ⟨r, i, none⟩ u) := fun i u h =>
    ⟨put_cell h.1 (by show r ≠ B1; omega), put_cell h.2.1 (by show r ≠ B1; omega), put_cell h.2.2.1 (by show r ≠ B1; omega), put_cell h.2.2.2.1 (by show r ≠ B2; omega), put_cell h.2.2.2.2.1 (by show r ≠ B2; omega), put_cell h.2.2.2.2.2.1 (by show r ≠ B2; omega), h.2.2.2.2.2.2.setCell (p := ⟨r, i, none⟩) hr u⟩
  exact go 2 z (go 1 y (go 0 x h))
end Go.Proofs.YtkgclfagimlneaaDoor
/-
  The walks over decimal numbers: tolerances, the walk.
-/
namespace Go.Proofs.YtkgclfagimlneaaDoor
open Go.RowKit Go.Proofs Wv Wv.Dc
set_option linter.unusedVariables false

set_option maxRecDepth 100000 in
set_option maxHeartbeats 4000000 in
theorem pwithS_any (s t u : ByteArray) {w : World} (ht : Tab w) :
    Calls Tryd.prog 20 #[.string s, .string t, .string u] w fun x w' => x = .returned (.bool (withS (toL s) (toL t) (toL u))) ∧ Below w.heap.size w w' := by
  have Hc := hide (fun W u (h : Below w.heap.size w W) => pcan u (ht.below h))
  have hv : withS (toL s) (toL t) (toL u) = match canN (toL s), canN (toL t), canN (toL u) with | some x, some y, some z => withN x y z | _, _, _ => false := rfl
  clear ht
  generalize withS (toL s) (toL t) (toL u) = z at *
  obtain ⟨os, hos⟩ : ∃ o, canN (toL s) = o := ⟨_, rfl⟩
  obtain ⟨ot, hot⟩ : ∃ o, canN (toL t) = o := ⟨_, rfl⟩
  obtain ⟨ou, hou⟩ : ∃ o, canN (toL u) = o := ⟨_, rfl⟩
  have Hos := hide hos
  have Hot := hide hot
  have Hou := hide hou
  rw [hos, hot, hou] at hv
  have Hv := hide hv
  clear hos hot hou hv
  go_enter Tryd.func20, Tryd.ntmps20
  go_wp2_with fail
  refine (Hc.out w s (Below.refl _ _)).mono ?_
  rw [Hos.out]
  rintro x w1 ⟨b0, A, l, c, e, rfl, hb, hn⟩
  have hb2 := hb.alloc hb.size (.cells #[.bool b0, .slice A l c, .int .i64 e] 41)
  have hk := Bk.new w1 41 #[.bool b0, .slice A l c, .int .i64 e]
  have Hb2 := hide hb2
  have Hk := hide hk
  have Hn := hide (fun m (h : os = some m) => (hn m h).below ((Below.refl _ _).alloc (Nat.le_refl _) (.cells #[.bool b0, .slice A l c, .int .i64 e] 41)))
  clear hb hb2 hk hn
  go_upto_region 2 with fail
  obtain ⟨B1, hB1⟩ : ∃ B, w1.heap.size = B := ⟨_, rfl⟩
  rw [hB1] at Hk ⊢
  obtain ⟨W1, hW1⟩ : ∃ W, w1.alloc (.cells #[.bool b0, .slice A l c, .int .i64 e] 41) = W := ⟨_, rfl⟩
  rw [hW1] at Hk Hb2 Hn ⊢
  clear hB1 hW1
  go_wp2_with fail
  refine (Hc.out _ t Hb2.out).mono ?_
  rw [Hot.out]
  rintro x w3 ⟨b1, A1, l1, c1, e1, rfl, hb3, hn3⟩
  have hb4 := (Hb2.out.trans (hb3.mono Hb2.out.size))
  have hb5 := hb4.alloc hb4.size (.cells #[.bool b1, .slice A1 l1 c1, .int .i64 e1] 41)
  have hba := (Below.refl w3.heap.size w3).alloc (Nat.le_refl _) (.cells #[.bool b1, .slice A1 l1 c1, .int .i64 e1] 41)
  have Hk1 := hide ((Hk.out.below hb3 Hk.out.lt).alloc (.cells #[.bool b1, .slice A1 l1 c1, .int .i64 e1] 41))
  have Hk2 := hide (Bk.new w3 41 #[.bool b1, .slice A1 l1 c1, .int .i64 e1])
  have Hn1 := hide (fun m (h : os = some m) => ((Hn.out m h).below hb3).below hba)
  have Hn2 := hide (fun m (h : ot = some m) => (hn3 m h).below hba)
  have Hb5 := hide hb5
  clear hb3 hb4 hb5 hn3 Hn hba Hk Hb2
  go_upto_region 3 with fail
  obtain ⟨B2, hB2⟩ : ∃ B, w3.heap.size = B := ⟨_, rfl⟩
  rw [hB2] at Hk2 ⊢
  obtain ⟨W3, hW3⟩ : ∃ W, w3.alloc (.cells #[.bool b1, .slice A1 l1 c1, .int .i64 e1] 41) = W := ⟨_, rfl⟩
  rw [hW3] at Hk1 Hk2 Hb5 Hn1 Hn2 ⊢
  clear hB2 hW3
  go_wp2_with fail
  refine (Hc.out _ u Hb5.out).mono ?_
  rw [Hou.out]
  rintro x w5 ⟨b2, A2, l2, c2, e2, rfl, hb6, hn6⟩
  have hb7 := (Hb5.out.trans (hb6.mono Hb5.out.size))
  have hb8 := hb7.alloc hb7.size (.cells #[.bool b2, .slice A2 l2 c2, .int .i64 e2] 41)
  have hba := (Below.refl w5.heap.size w5).alloc (Nat.le_refl _) (.cells #[.bool b2, .slice A2 l2 c2, .int .i64 e2] 41)
  have Hj1 := hide ((Hk1.out.below hb6 Hk1.out.lt).alloc (.cells #[.bool b2, .slice A2 l2 c2, .int .i64 e2] 41))
  have Hj2 := hide ((Hk2.out.below hb6 Hk2.out.lt).alloc (.cells #[.bool b2, .slice A2 l2 c2, .int .i64 e2] 41))
  have Hj3 := hide (Bk.new w5 41 #[.bool b2, .slice A2 l2 c2, .int .i64 e2])
  have Hm1 := hide (fun m (h : os = some m) => ((Hn1.out m h).below hb6).below hba)
  have Hm2 := hide (fun m (h : ot = some m) => ((Hn2.out m h).below hb6).below hba)
  have Hm3 := hide (fun m (h : ou = some m) => (hn6 m h).below hba)
  have Hb8 := hide hb8
  clear hb6 hb7 hb8 hn6 hba Hk1 Hk2 Hn1 Hn2 Hb5
  go_upto_region 4 with fail
  obtain ⟨B3, hB3⟩ : ∃ B, w5.heap.size = B := ⟨_, rfl⟩
  rw [hB3] at Hj3 ⊢
  obtain ⟨Wt, hWt⟩ : ∃ W, w5.alloc (.cells #[.bool b2, .slice A2 l2 c2, .int .i64 e2] 41) = W := ⟨_, rfl⟩
  rw [hWt] at Hj1 Hj2 Hj3 Hb8 Hm1 Hm2 Hm3 ⊢
  clear hB3 hWt
  cases os with
  | none =>
    have hv : z = false := Hv.out
    subst hv
    clear Hv
    go_wp2
    go_returns
    exact ⟨rfl, Hb8.out⟩
  | some n =>
    cases ot with
    | none =>
      have hv : z = false := Hv.out
      subst hv
      clear Hv
      go_wp2
      go_returns
      exact ⟨rfl, Hb8.out⟩
    | some m =>
      cases ou with
      | none =>
        have hv : z = false := Hv.out
        subst hv
        clear Hv
        go_wp2
        go_returns
        exact ⟨rfl, Hb8.out⟩
      | some p =>
        have hv : z = decide (compN (absN (addN n (minusN m))) p ≤ 0) := Hv.out
        have fn := can_fits Hos.out
        have fm := can_fits Hot.out
        have fp := can_fits Hou.out
        have hnn := Hm1.out n rfl
        have hnm := Hm2.out m rfl
        have hnp := Hm3.out p rfl
        have Hmi : Hid (∀ W, (W.cell? ⟨B1, 0, none⟩ = some (.bool b0) ∧ W.cell? ⟨B1, 1, none⟩ = some (.slice A l c) ∧ W.cell? ⟨B1, 2, none⟩ = some (.int .i64 e) ∧ W.cell? ⟨B2, 0, none⟩ = some (.bool b1) ∧ W.cell? ⟨B2, 1, none⟩ = some (.slice A1 l1 c1) ∧ W.cell? ⟨B2, 2, none⟩ = some (.int .i64 e1) ∧ Below Wt.heap.size Wt W) → Calls Tryd.prog 40 #[.agg #[.bool b1, .slice A1 l1 c1, .int .i64 e1]] W fun x w' => ∃ v', x = .returned v' ∧ NV w' v' (minusN m) ∧ Below W.heap.size W w') := hide (fun W h => pminus_any (hnm.below h.2.2.2.2.2.2))
        have Hadd : Hid (∀ v W, (W.cell? ⟨B1, 0, none⟩ = some (.bool b0) ∧ W.cell? ⟨B1, 1, none⟩ = some (.slice A l c) ∧ W.cell? ⟨B1, 2, none⟩ = some (.int .i64 e) ∧ W.cell? ⟨B2, 0, none⟩ = some (.bool b1) ∧ W.cell? ⟨B2, 1, none⟩ = some (.slice A1 l1 c1) ∧ W.cell? ⟨B2, 2, none⟩ = some (.int .i64 e1) ∧ Below Wt.heap.size Wt W) → NV W v (minusN m) → Calls Tryd.prog 38 #[.agg #[.bool b0, .slice A l c, .int .i64 e], v] W fun x w' => ∃ v', x = .returned v' ∧ NV w' v' (addN n (minusN m)) ∧ Below W.heap.size W w') := hide (fun v W h hv => padd_any (hnn.below h.2.2.2.2.2.2) hv fn (minusN_fits fm))
        have Hsz := hide (add_sz fn (minusN_fits fm))
        have Hszp := hide (fits_sz fp)
        have Hnp := hide hnp
        have Hzv := hide hv
        generalize addN n (minusN m) = D at *
        clear hv fn fm fp hnn hnm hnp Hv Hm1 Hm2 Hm3
        go_wp2
        have H1 : WiC Wt B1 B2 b0 A l c e b1 A1 l1 c1 e1 Wt.drew := WiC.of Hj1.out Hj2.out ((Below.refl _ _).drew)
        unfold WiC at H1
        have hB1 : B1 < Wt.heap.size := Hj1.out.lt
        have hB2 : B2 < Wt.heap.size := Hj2.out.lt
        have hB3 : B3 < Wt.heap.size := Hj3.out.lt
        have HB1 := hide hB1
        have HB2 := hide hB2
        have HB3 := hide hB3
        clear hB1 hB2 hB3
        go_cut [13] (fun s13 wx => ∃ r b3 A3 l3 c3 e3, s13 = .pointer (some ⟨r, 0, none⟩) ∧ WiSt w wx r B3 b3 A3 l3 c3 e3 #[.bool b2, .slice A2 l2 c2, .int .i64 e2] D ∧ Below Wt.heap.size Wt wx)
        case first =>
          go_region_held3 (fun W => W.cell? ⟨B1, 0, none⟩ = some (.bool b0) ∧ W.cell? ⟨B1, 1, none⟩ = some (.slice A l c) ∧ W.cell? ⟨B1, 2, none⟩ = some (.int .i64 e) ∧ W.cell? ⟨B2, 0, none⟩ = some (.bool b1) ∧ W.cell? ⟨B2, 1, none⟩ = some (.slice A1 l1 c1) ∧ W.cell? ⟨B2, 2, none⟩ = some (.int .i64 e1) ∧ Below Wt.heap.size Wt W) (first | assumption | with_reducible exact H1 | with_reducible exact WiC.alloc (by assumption) _ | with_reducible exact WiC.alloc HSz.out _ | with_reducible exact WiC.dralloc (by assumption) _ | with_reducible exact WiC.belowb (by assumption) (by assumption) | with_reducible exact WiC.put (by assumption) (by first | exact Nat.le_refl _ | exact WiC.le HSm.out) HB1.out HB2.out _ _ _)
            (first
              | (go_at_call 40; with_reducible refine (Hmi.out _ (by assumption)).mono ?_; rintro r wm ⟨vm, rfl, hnm, hbm⟩; have HSm : Hid (WiC Wt B1 B2 b0 A l c e b1 A1 l1 c1 e1 wm) := hide (WiC.belowb hbm (by assumption)))
              | (go_at_call 38; with_reducible refine (Hadd.out _ _ (by assumption) (by first | assumption | exact NV.below (by assumption) ((Below.refl _ _).alloc (Nat.le_refl _) _))).mono ?_; rintro r wz ⟨vz, rfl, hnz, hbz⟩; obtain ⟨bz, Az, lz, cz, ez, hvz⟩ := nv_open hnz; subst hvz; have HSz : Hid (WiC Wt B1 B2 b0 A l c e b1 A1 l1 c1 e1 wz) := hide (WiC.belowb hbz (by assumption)); first | (have hkz := wiB hbz; have z0 := hkz.cell 0; have z1 := hkz.cell 1; have z2 := hkz.cell 2; have y0 := hkz.frozen 0; have y1 := hkz.frozen 1; have y2 := hkz.frozen 2; simp at z0 z1 z2) | (have hkz := wiA hbm hbz; have z0 := hkz.cell 0; have z1 := hkz.cell 1; have z2 := hkz.cell 2; have y0 := hkz.frozen 0; have y1 := hkz.frozen 1; have y2 := hkz.frozen 2; simp at z0 z1 z2) | skip))
          all_goals
            have hB := HSz.out.2.2.2.2.2.2
            have HB := hide hB
            have Hw := hide (Hb8.out.trans (hB.mono Hb8.out.size))
            have H3 := hide (Hj3.out.below hB Hj3.out.lt)
            have Hnz := hide hnz
            clear hB hnz hbz hnm hbm
          · have hfin := wi_new Hnz.out H3.out Hw.out
            have Hfin := hide hfin
            have HbF := hide (HB.out.alloc HB.out.size (.cells #[.bool bz, .slice Az lz cz, .int .i64 ez] 41))
            clear hfin
            go_wp2
            go_meet
            case rel => exact ⟨_, _, _, _, _, _, rfl, Hfin.out, HbF.out⟩
          · have hle := WiC.le HSm.out
            have hfin := wi_put hkz Hnz.out H3.out (fun e => by have := HB3.out; omega) (Nat.le_trans Hb8.out.size hle) Hw.out
            have Hfin := hide hfin
            have hf : Fr (only wm.heap.size) wz (((wz.setCell ⟨wm.heap.size, 0, none⟩ (.bool bz)).setCell ⟨wm.heap.size, 1, none⟩ (.slice Az lz cz)).setCell ⟨wm.heap.size, 2, none⟩ (.int .i64 ez)) := only_set (only_set (only_set (Fr.refl _ _) 0 _) 1 _) 2 _
            have HbF := hide (HB.out.trans (own_below hf HB.out.size hle))
            clear hfin hle hf hkz z0 z1 z2 y0 y1 y2
            go_wp2
            go_meet
            case rel => exact ⟨_, _, _, _, _, _, rfl, Hfin.out, HbF.out⟩
          · have hfin := wi_put hkz Hnz.out H3.out (fun e => by have := HB3.out; omega) Hb8.out.size Hw.out
            have Hfin := hide hfin
            have hf : Fr (only Wt.heap.size) wz (((wz.setCell ⟨Wt.heap.size, 0, none⟩ (.bool bz)).setCell ⟨Wt.heap.size, 1, none⟩ (.slice Az lz cz)).setCell ⟨Wt.heap.size, 2, none⟩ (.int .i64 ez)) := only_set (only_set (only_set (Fr.refl _ _) 0 _) 1 _) 2 _
            have HbF := hide (HB.out.trans (own_below hf HB.out.size (Nat.le_refl _)))
            clear hfin hf hkz z0 z1 z2 y0 y1 y2
            go_wp2
            go_meet
            case rel => exact ⟨_, _, _, _, _, _, rfl, Hfin.out, HbF.out⟩
        case rest =>
          obtain ⟨r, b3, A3, l3, c3, e3, rfl, hst, hbt⟩ := hcut
          have hab := wi_abs hst
          have hnpr := Hnp.out.below hbt
          have hlt2 := hst.1.lt
          have hnpr2 : NV (wc.setCell ⟨r, 0, none⟩ (.bool false)) (.agg #[.bool b2, .slice A2 l2 c2, .int .i64 e2]) p := by
            obtain ⟨A', cap, h1, h2, h4, h5⟩ := hnpr
            exact ⟨A', cap, h1, at_only h2 hst.1 bv_not (only_set (Fr.refl _ _) 0 _), h4, h5⟩
          have Hcm := hide (pcompare_any hab.2.1 hnpr2 ⟨Hsz.out.lo, Hsz.out.hi, Hsz.out.len⟩ Hszp.out)
          obtain ⟨k0, k1, k2, k3, k4, k5⟩ := hab
          have m0 := hst.1.cell 0
          have f0 := hst.1.frozen 0
          have n0 := k0.cell 0
          have n1 := k0.cell 1
          have n2 := k0.cell 2
          have p0 := k2.cell 0
          have p1 := k2.cell 1
          have p2 := k2.cell 2
          simp at m0 n0 n1 n2 p0 p1 p2
          have Hbw := hide k5
          have Hzv2 := Hzv
          clear hst hbt hnpr hnpr2 k0 k1 k2 k3 k4 k5 H1 Hj1 Hj2 Hj3 Hb8 Hmi Hadd Hnp
          go_upto_region 8 with fail
          obtain ⟨W8, hW8⟩ : ∃ W, wc.setCell ⟨r, 0, none⟩ (.bool false) = W := ⟨_, rfl⟩
          rw [hW8] at n0 n1 n2 p0 p1 p2 Hcm Hbw ⊢
          clear hW8 m0 f0
          go_wp2_with fail
          refine (Hcm.out).mono ?_
          rintro x w9 ⟨rfl, hb9⟩
          have Hb9 := hide (Hbw.out.trans (hb9.mono Hbw.out.size))
          clear hb9
          go_wp2
          go_returns
          exact ⟨ret_bool Hzv2.out.symm, Hb9.out⟩
end Go.Proofs.YtkgclfagimlneaaDoor
