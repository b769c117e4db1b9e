/-
  The walks over the parse of texts: all positions, the pieces.
-/
import Derived.Test.YtjfcemlbbinanaaGreatDoorJ29
set_option linter.unusedVariables false
set_option linter.unusedSimpArgs false
namespace Go.Proofs.YtjfcemlbbinanaaGreatDoor
open Go.RowKit Go.Proofs Wv Wv.Vi Wv.Mo Wv.Lz
set_option linter.unusedVariables false
def pcL (t : Pc) : List Value := [.int .i64 (t.len : Int), .int .i64 (t.dist : Int), .int .u8 (t.byte.toNat : Int)]
def pcCs (l : List Pc) : List Value := l.flatMap pcL
structure PaSt (w : World) (T bb ib cb : Nat) (L : List St) (iv : Int) : Prop where
 tb : Bk w T 158 (stA L)
 best : Bk w bb 156 #[.slice (some ⟨T, 0, none⟩) L.length L.length]
 i : Bk w ib 3 #[.int .i64 iv]
 c : Bk w cb 122 #[.int .i64 9, .int .i64 12, .int .i64 1, .int .i64 1]
theorem PaSt.below {w w' : World} {T bb ib cb : Nat} {L : List St} {iv : Int} (h : PaSt w T bb ib cb L iv) (hb : Below w.heap.size w w') : PaSt w' T bb ib cb L iv :=
 ⟨h.tb.below hb h.tb.lt, h.best.below hb h.best.lt, h.i.below hb h.i.lt, h.c.below hb h.c.lt⟩
theorem PaSt.try {w : World} {T bb ib cb : Nat} {L : List St} {i : Nat} (h : PaSt w T bb ib cb L (i : Int)) : TrSt (w.alloc (.cells #[.bool false] 4)) T bb ib cb w.heap.size L i false :=
 ⟨h.tb.alloc _, h.best.alloc _, h.i.alloc _, h.c.alloc _, Bk.new _ _ _⟩
def Lk (s : List UInt8) (k : Nat) : List St := List.replicate k st0 ++ tbl s (s.length - k)
theorem Lk_succ (s : List UInt8) (q : Nat) : Lk s (q + 1) = Lq q none (tbl s (s.length - (q + 1))) := by
 unfold Lk Lq
 rw [List.replicate_succ', List.append_assoc]
 rfl
theorem Lk_start (s : List UInt8) : List.replicate (s.length + 1) st0 = Lk s s.length := by
 unfold Lk
 rw [Nat.sub_self, List.replicate_succ']
 rfl
theorem Lk_next (s : List UInt8) (q : Nat) (hq : q < s.length) {x : St} (hx : (pcsAt s q).foldl (tryP (tbl s (s.length - (q + 1)))) none = some x) : Lq q (some x) (tbl s (s.length - (q + 1))) = Lk s q := by
 unfold Lk Lq
 have e : s.length - q = (s.length - (q + 1)) + 1 := by omega
 rw [e]
 show _ = _ ++ (bestAt s (s.length - 1 - (s.length - (q + 1))) _ :: _)
 rw [show s.length - 1 - (s.length - (q + 1)) = q by omega]
 unfold bestAt
 rw [hx]
theorem Lk_len (s : List UInt8) {k : Nat} (h : k ≤ s.length) : (Lk s k).length = s.length + 1 := by
 unfold Lk
 rw [List.length_append, List.length_replicate, tbl_len]
 omega
theorem cp_cell {w : World} {B n cap g : Nat} {o : List (Nat × Nat)} (h : w.ownsRow B 163 2 (.slice (some ⟨g, 0, none⟩) n cap) n (cpC o)) {k : Nat} (hk : k < o.length) : w.cell? ⟨g, k * 2, none⟩ = some (.int .i64 ((o.getD k (0, 0)).1 : Int)) ∧ w.cell? ⟨g, k * 2 + 1, none⟩ = some (.int .i64 ((o.getD k (0, 0)).2 : Int)) := by
 have key : ∀ (o : List (Nat × Nat)) (k : Nat), k < o.length → (cpC o)[k * 2]? = some (.int .i64 ((o.getD k (0, 0)).1 : Int)) ∧ (cpC o)[k * 2 + 1]? = some (.int .i64 ((o.getD k (0, 0)).2 : Int)) := by
  intro o
  induction o with
  | nil => intro k h; simp at h
  | cons c r ih =>
   intro k h
   cases k with
   | zero => exact ⟨rfl, rfl⟩
   | succ k =>
    obtain ⟨a, b⟩ := ih k (by simpa using h)
    have e1 : (cpC (c :: r))[(k + 1) * 2]? = (cpC r)[k * 2]? := by
     unfold cpC
     rw [List.flatMap_cons, List.getElem?_append_right (by show 2 ≤ _; omega)]
     congr 1
     show (k + 1) * 2 - 2 = _
     omega
    have e2 : (cpC (c :: r))[(k + 1) * 2 + 1]? = (cpC r)[k * 2 + 1]? := by
     unfold cpC
     rw [List.flatMap_cons, List.getElem?_append_right (by show 2 ≤ _; omega)]
     congr 1
     show (k + 1) * 2 + 1 - 2 = _
     omega
    rw [e1, e2, List.getD_cons_succ]
    exact ⟨a, b⟩
 obtain ⟨a, b⟩ := key o k hk
 have h1 := h.cells (g := g) rfl _ _ a
 have h2 := h.cells (g := g) rfl _ _ b
 rw [Go.WideShapes.add_plain, Nat.zero_add] at h1 h2
 exact ⟨h1, h2⟩
def ptmu (v : Value) (w : World) : Nat := match v with
 | .pointer (some a) => match w.cell? a with
  | some (.int _ n) => (n + 1).toNat
  | _ => 0
 | _ => 0
theorem ptmu_eq {w : World} {a : Addr} {k : IntKind} {n : Int} (h : w.cell? a = some (.int k n)) : ptmu (.pointer (some a)) w = (n + 1).toNat := by
 unfold ptmu
 simp only
 rw [h]
theorem pa_start {w1 : World} {cb : Nat} (hc : Bk w1 cb 122 #[.int .i64 9, .int .i64 12, .int .i64 1, .int .i64 1]) {L : List St} {m : Nat} (hL : L.length = m) (iv : Int) :
  PaSt (((w1.alloc (.cells (stA L) 158)).alloc (.cells #[.slice (some ⟨w1.heap.size, 0, none⟩) m m] 156)).alloc (.cells #[.int .i64 iv] 3)) w1.heap.size (w1.heap.size + 1) (w1.heap.size + 1 + 1) cb L iv ∧
  Below w1.heap.size w1 (((w1.alloc (.cells (stA L) 158)).alloc (.cells #[.slice (some ⟨w1.heap.size, 0, none⟩) m m] 156)).alloc (.cells #[.int .i64 iv] 3)) := by
 subst hL
 exact ⟨⟨((Bk.new _ _ _).alloc _).alloc _, (Bk.newN _ _ _ (by simp)).alloc _, Bk.newN _ _ _ (by simp), ((hc.alloc _).alloc _).alloc _⟩,
  (((Below.refl w1.heap.size w1).alloc (Nat.le_refl _) _).alloc (by simp) _).alloc (by simp; omega) _⟩
theorem tr_below {B T sb : Nat} {w wr wx : World} (h : Below B w wr) (hB : B ≤ wr.heap.size) (hf : Fr (fun k => k = T ∨ k = sb) wr wx) (h1 : B ≤ T) (h2 : B ≤ sb) : Below B w wx :=
 h.trans (hf.toBelow' hB (fun k hk hs => by rcases hs with hs | hs <;> omega))
theorem row_fr {B n : Nat} {v : Value} {xs : List Value} {w w' : World} {T bb ib cb sb : Nat} {L : List St} {i : Nat} {seen : Bool} (h : w.ownsRow B 163 2 v n xs) (ht : TrSt w T bb ib cb sb L i seen) (hf : Fr (fun k => k = T ∨ k = sb) w w') : w'.ownsRow B 163 2 v n xs :=
 own_fr h hf (fun g hg hs => by
  rcases hs with hs | hs
  ·exact own_apart h ht.tb (by decide) (hs ▸ hg)
  ·exact own_apart h ht.sn (by decide) (hs ▸ hg))
def CpOk (n q : Nat) (l : List (Nat × Nat)) : Prop := ∀ c ∈ l, 2 ≤ c.1 ∧ q + c.1 ≤ n ∧ c.2 ≤ 4096
theorem cpok_cand {s : List UInt8} {q : Nat} (hq : q ≤ s.length) : CpOk s.length q (cand s q) := fun c hc => by
 obtain ⟨h1, h2, _, _, h5, _⟩ := (cand_ok s q).1 c hc
 have : mostAt s q ≤ s.length - q := Nat.min_le_right _ _
 exact ⟨h1, by omega, h5⟩
theorem btr_len (s : List UInt8) (i most : Nat) : ∀ p b o, (btr s i most p b o).length ≤ o.length + p := by
 intro p
 induction p with
 | zero => intro b o; exact Nat.le_refl _
 | succ p ih =>
  intro b o
  rw [btr]
  split
  ·omega
  ·split
   ·have := ih b o; omega
   ·split
    ·have := ih (com s p i most) (o ++ [(com s p i most, i - p)])
     rw [List.length_append, List.length_singleton] at this
     omega
    ·have := ih b o; omega
theorem cand_len (s : List UInt8) (i : Nat) : (cand s i).length ≤ i := by
 have := btr_len s i (mostAt s i) i 1 []
 unfold cand
 simpa using this
theorem cpok_get {n q : Nat} {l : List (Nat × Nat)} (h : CpOk n q l) {j : Nat} (hj : j < l.length) : 2 ≤ (l.getD j (0, 0)).1 ∧ q + (l.getD j (0, 0)).1 ≤ n ∧ (l.getD j (0, 0)).2 ≤ 4096 := by
 rw [List.getD_eq_getElem?_getD, List.getElem?_eq_getElem hj]
 exact h _ (List.getElem_mem _)
theorem shortr_ge {n q : Nat} {l : List (Nat × Nat)} (h : CpOk n q l) {j : Nat} (hj : j < l.length) : 1 ≤ shortr l j ∧ shortr l j ≤ n + 1 := by
 unfold shortr
 split
 ·obtain ⟨a, b, _⟩ := cpok_get h (j := j - 1) (by omega)
  omega
 ·omega
theorem own_form2 {w : World} {base n size : Nat} {e : TypeId} {v : Value} {xs : List Value} (h : w.ownsRow base e size v n xs) (hn : 0 < n) : ∃ g cap, v = .slice (some ⟨g, 0, none⟩) n cap ∧ n ≤ cap := by
 rcases h.2 with ⟨_, h2⟩ | ⟨g', cap', cur, hv, hb, hg, hc, _⟩
 ·omega
 ·exact ⟨g', cap', hv, hc⟩
theorem pcinf : (Tryz.prog.info? 102).map (fun i => (i.zero, i.size, i.bytes)) = some (some (.agg #[.int .i64 0, .int .i64 0, .int .u8 0]), 3, 24) := by kernel_rfl
set_option maxRecDepth 100000 in
set_option maxHeartbeats 8000000 in
theorem lparse_any (s : List UInt8) (hs : s.length ≤ 4096) (w : World) :
  Calls Tryz.prog 95 #[costV, .string (bs s), .int .i64 4096] w fun x w' => ∃ ov, x = .returned (.tuple #[ov, .int .i64 0]) ∧ w'.ownsRow w.heap.size 102 3 ov (parse s).length (pcCs (parse s)) ∧ Below w.heap.size w w' := by
 have Hva := hide (fun W => lvalid_any W)
 have Hwi := hide (fun W => lwin_any W)
 have Hca := hide (fun i (hi : i ≤ s.length) W => mcands_any s hs i hi W)
 have hsz : (bs s).size = s.length := bs_size s
 obtain ⟨n, hn⟩ : ∃ n, s.length = n := ⟨_, rfl⟩
 have Hmk := fun W => mk_steps (n + 1) (by omega) W
 have hn1 : ((n + 1 : Nat) : Int) = (n : Int) + 1 := by omega
 rw [hn1] at Hmk
 have hK0 := hide (Bk.new w 122 #[.int .i64 9, .int .i64 12, .int .i64 1, .int .i64 1])
 have hB0 := hide ((Below.refl w.heap.size w).alloc (Nat.le_refl _) (.cells #[.int .i64 9, .int .i64 12, .int .i64 1, .int .i64 1] 122))
 have Hg := hide (bs_getN s)
 have Hnx := hide (fun q hq x hx => Lk_next s q hq (x := x) hx)
 have Hls := hide (fun q => Lk_succ s q)
 have Hsm := hide (fun q (hq : q < s.length) => tbl_small s (s.length - (q + 1)) (by omega))
 have Hco := hide (fun q (hq : q ≤ s.length) => cpok_cand hq)
 have Htl := hide (fun k => tbl_len s k)
 obtain ⟨S, hS⟩ : ∃ S, bs s = S := ⟨_, rfl⟩
 have Hst := hide (Lk_start s)
 have hll : (Lk s s.length).length = s.length + 1 := Lk_len s (Nat.le_refl _)
 rw [hS] at hsz Hca Hg ⊢
 rw [hn] at hsz hs Hca Hg Hst Hnx Hls Hsm Hco hll
 have hsb : ¬ (4096 : Int) < (S.size : Int) := by omega
 have hnd : decide ((4096 : Int) < (n : Int)) = false := decide_eq_false (by omega)
 have Hn := hide hn
 rw [Hst.out] at Hmk
 have Hll := hide hll
 clear hn hS hll
 unfold costV at Hva ⊢
 go_enter Tryz.func95, Tryz.ntmps95
 go_wp2_with fail
 refine (Hva.out _).mono ?_
 rintro x w1 ⟨rfl, hb1⟩
 go_wp2_with fail
 refine (Hwi.out _).mono ?_
 rintro x w2 ⟨rfl, rfl⟩
 have hmk := Hmk w1
 have hsw := hb1.size
 rw [World.size_alloc] at hsw
 obtain ⟨hP, hbP⟩ := pa_start (hK0.out.below hb1 (by simp)) Hll.out ((n : Int) - 1)
 have hbw := (hB0.out.trans (hb1.mono (by simp))).trans (hbP.mono (by omega))
 have HP0 := hide hP
 have HB0 := hide hbw
 clear hP hbP hbw hK0 hB0 hb1 Hva Hwi Hmk
 generalize stA (Lk s n) = ST at *
 go_wp2
 generalize ((w1.alloc (.cells ST 158)).alloc (.cells #[.slice (some ⟨w1.heap.size, 0, none⟩) (n + 1) (n + 1)] 156)).alloc (.cells #[.int .i64 ((n : Int) - 1)] 3) = W0 at *
 clear hmk
 have hTB : w.heap.size ≤ w1.heap.size := by omega
 generalize w1.heap.size + 1 + 1 = ib0 at *
 generalize w1.heap.size + 1 = bb at *
 generalize w1.heap.size = T at *
 go_loopw [9] (fun s9 wr => ∃ (k ib : Nat), k ≤ n ∧ s9 = .pointer (some ⟨ib, 0, none⟩) ∧ Hid (PaSt wr T bb ib w.heap.size (Lk s k) ((k : Int) - 1)) ∧ Hid (Below w.heap.size w wr)) (fun s9 wr => ptmu s9 wr)
 case atStart => exact ⟨n, ib0, Nat.le_refl _, rfl, HP0, HB0⟩
 case round =>
  clear HP0 HB0
  obtain ⟨k, ib, hk, rfl, hP, hb⟩ := hrel
  have ci := hP.out.i.cell 0
  have hib := hP.out.i.lt
  have hbbl := hP.out.best.lt
  have hTl := hP.out.tb.lt
  have hcl := hP.out.c.lt
  simp at ci
  have hmu := hide (ptmu_eq ci)
  by_cases hlt : 0 < k
  ·obtain ⟨q, rfl⟩ : ∃ q, k = q + 1 := ⟨k - 1, by omega⟩
   have i1 : ((q + 1 : Nat) : Int) - 1 = (q : Int) := by omega
   rw [i1] at ci hP hmu
   have hq : q < n := by omega
   have hT0 := hP.out.try
   rw [Hls.out] at hT0
   have hnx := Hnx.out q hq
   have hsm := Hsm.out q hq
   have hco := Hco.out q (by omega)
   have htl := Htl.out (n - (q + 1))
   generalize tbl s (n - (q + 1)) = tb at *
   have htl2 : q + tb.length = n := by omega
   have hM : 38 * (n - (q + 1)) ≤ 160000 := by omega
   have hlq := cand_len s q
   have hpc : pcsAt s q = tries (cand s q).reverse ++ [lit s q] := rfl
   rw [hpc] at hnx
   have Hq := hide (Hca.out q (by omega) (wr.alloc (.cells #[.bool false] 4)))
   generalize cand s q = l at *
   obtain ⟨X, hX⟩ : ∃ X, (tries l.reverse ++ [lit s q]).foldl (tryP tb) none = some X := by
    rw [List.foldl_append]
    exact tryP_some _ _ _
   have HX := hide hX
   have Hnx1 := hide (hnx X hX)
   have Htry := hide (fun (W : World) (cur : Option St) (h : TrSt W T bb ib w.heap.size wr.heap.size (Lq q cur tb) q cur.isSome) hc t h1 h2 h3 => ltry_step h htl2 hs hsm hM hc t h1 h2 h3)
   have hbs := hb.out.size
   have Hb0 := hide (hb.out.alloc hbs (.cells #[.bool false] 4))
   have HT0 := hide hT0
   have HCO := hide hco
   clear hT0 hX hnx hsm hco htl htl2 hM hpc hP
   go_wp2_with fail
   refine (Hq.out).mono ?_
   rintro x w2 ⟨ov, rfl, hrow, hb2⟩
   obtain ⟨A, cap, rfl, _⟩ := own_at hrow
   have HT2 := hide (HT0.out.below hb2)
   have Hrow := hide (own_base hrow (show w.heap.size ≤ _ by rw [World.size_alloc]; omega))
   have Hb2 := hide (Hb0.out.trans (hb2.mono Hb0.out.size))
   have hl4 : l.length ≤ 4096 := by omega
   have h0 : Hid ((tries ((l.take l.length).reverse) ++ [lit s q]).foldl (tryP tb) none = some X) := by rw [List.take_length]; exact HX
   have hA : Hid (∀ k, k < l.length → ∃ b, A = some ⟨b, 0, none⟩) := hide (fun k hk => by
    obtain ⟨g, c2, e, _⟩ := own_form2 Hrow.out (by omega)
    injection e with e1 e2 e3
    exact ⟨g, e1⟩)
   clear HT0 hrow hb2 Hb0 Hq ci hib hbbl hTl hcl HX hlq
   go_wp2
   have hsB : w.heap.size ≤ wr.heap.size := hbs
   generalize wr.heap.size = sb at *
   go_loopw [13] (fun s13 wx => ∃ (kk : Nat) (cur : Option St), kk ≤ l.length ∧ s13 = .int .i64 ((kk : Int) - 1) ∧ Hid (TrSt wx T bb ib w.heap.size sb (Lq q cur tb) q cur.isSome) ∧ Hid (wx.ownsRow w.heap.size 163 2 (.slice A l.length cap) l.length (cpC l)) ∧ Hid ((tries ((l.take kk).reverse) ++ [lit s q]).foldl (tryP tb) cur = some X) ∧ Hid (∀ x, cur = some x → x.cost ≤ 38 * (n - (q + 1)) + 38 ∧ x.pcs ≤ 38 * (n - (q + 1)) + 38) ∧ Hid (Below w.heap.size w wx)) (fun s13 _ => (intOf s13 + 1).toNat)
   case atStart => exact ⟨l.length, none, Nat.le_refl _, rfl, HT2, Hrow, h0, hide (fun x hx => by cases hx), Hb2⟩
   case round =>
    clear HT2 Hrow h0 Hb2
    obtain ⟨kk, cur, hkk, rfl, hTr, hRw, hFo, hCu, hBx⟩ := hrel
    by_cases hk0 : 0 < kk
    ·obtain ⟨j, rfl⟩ : ∃ j, kk = j + 1 := ⟨kk - 1, by omega⟩
     have i2 : ((j + 1 : Nat) : Int) - 1 = (j : Int) := by omega
     rw [i2]
     have hj : j < l.length := by omega
     obtain ⟨g, rfl⟩ := hA.out j hj
     obtain ⟨hj1, hj2, hj3⟩ := cpok_get HCO.out hj
     have htt := tries_take hj
     have hsh := shortr_ge HCO.out hj
     have hFo2 := hFo.out
     rw [htt] at hFo2
     obtain ⟨c1, c2⟩ := cp_cell hRw.out hj
     obtain ⟨hi, hhi⟩ : ∃ x, (l.getD j (0, 0)).1 = x := ⟨_, rfl⟩
     obtain ⟨d, hd⟩ : ∃ x, (l.getD j (0, 0)).2 = x := ⟨_, rfl⟩
     obtain ⟨sh, hshh⟩ : ∃ x, shortr l j = x := ⟨_, rfl⟩
     rw [hhi] at hj1 hj2 c1 hFo2
     rw [hd] at hj3 c2 hFo2
     rw [hshh] at hsh hFo2
     have HFo := hide hFo2
     have hjI : (j : Int) < (l.length : Int) := by omega
     have hj0 : (0 : Int) ≤ (j : Int) := by omega
     have Hshh := hide hshh
     have Hdd := hide hd
     clear htt hFo hFo2 hhi hd hshh hlt hkk hk0
     go_upto_if 53 with fail
     go_cut [14] (fun s14 wx2 => s14 = .int .i64 (sh : Int) ∧ wr = wx2)
     case first =>
      clear hTr HFo hCu hBx c1 c2
      by_cases hj9 : 0 < j
      ·have hjj : (0 : Int) < (j : Int) := by omega
       have e1 : (j : Int) - 1 = ((j - 1 : Nat) : Int) := by omega
       obtain ⟨c1, c2⟩ := cp_cell hRw.out (k := j - 1) (by omega)
       have hs1 : (l.getD (j - 1) (0, 0)).1 = sh := by
        rw [← Hshh.out]
        unfold shortr
        rw [if_pos hj9]
       rw [hs1] at c1
       have hjl : ((j - 1 : Nat) : Int) < (l.length : Int) := by omega
       obtain ⟨j1, hj1'⟩ : ∃ x, j - 1 = x := ⟨_, rfl⟩
       rw [hj1'] at e1 c1 c2 hjl
       have hjl0 : (0 : Int) ≤ (j1 : Int) := by omega
       clear hRw Hshh hj1' hs1
       go_wp2
       go_meet
       case rel => exact ⟨rfl, rfl⟩
      ·have hj00 : j = 0 := by omega
       subst hj00
       have hs1 : sh = 1 := by rw [← Hshh.out]; rfl
       subst hs1
       clear hRw Hshh
       go_wp2
       go_meet
       case rel => exact ⟨rfl, rfl⟩
     case rest =>
      obtain ⟨rfl, rfl⟩ := hcut
      clear Hshh
      have hjn : j ≤ l.length := by omega
      go_wp2
      go_loopw [15] (fun s15 wy => ∃ (m : Nat) (cur : Option St), m ≤ hi ∧ s15 = .int .i64 (m : Int) ∧ Hid (TrSt wy T bb ib w.heap.size sb (Lq q cur tb) q cur.isSome) ∧ Hid (wy.ownsRow w.heap.size 163 2 (.slice (some ⟨g, 0, none⟩) l.length cap) l.length (cpC l)) ∧ Hid (((down m sh d ++ tries ((l.take j).reverse)) ++ [lit s q]).foldl (tryP tb) cur = some X) ∧ Hid (∀ x, cur = some x → x.cost ≤ 38 * (n - (q + 1)) + 38 ∧ x.pcs ≤ 38 * (n - (q + 1)) + 38) ∧ Hid (Below w.heap.size w wy)) (fun s15 _ => (intOf s15).toNat)
      case atStart => exact ⟨hi, cur, Nat.le_refl _, rfl, hTr, hRw, HFo, hCu, hBx⟩
      case round =>
       clear c1 c2 hTr hRw HFo hCu hBx
       obtain ⟨m, cur, hm, rfl, hTr, hRw, hFo, hCu, hBx⟩ := hrel
       by_cases hms : sh < m
       ·have ds := down_step (d := d) hms
        have hFo2 := hFo.out
        rw [ds] at hFo2
        have HFo : Hid (((down (m - 1) sh d ++ tries ((l.take j).reverse)) ++ [lit s q]).foldl (tryP tb) (tryP tb cur ⟨m, d, 0⟩) = some X) := hide hFo2
        have Ht := Htry.out wr cur hTr.out hCu.out ⟨m, d, 0⟩ (by simp only; omega) (by simp only; omega) (by simp only; omega)
        unfold pcC at Ht
        simp only at Ht
        have e0 : (((0 : UInt8).toNat : Nat) : Int) = 0 := rfl
        rw [e0] at Ht
        have Ht := hide Ht
        obtain ⟨c1, c2⟩ := cp_cell hRw.out hj
        rw [Hdd.out] at c2
        have hmsI : (sh : Int) < (m : Int) := by omega
        have em : (m : Int) - 1 = ((m - 1 : Nat) : Int) := by omega
        obtain ⟨m1, hm1⟩ : ∃ x, m - 1 = x := ⟨_, rfl⟩
        rw [hm1] at em HFo
        have hm1h : m1 ≤ hi := by omega
        have HT1 := hTr
        clear ds hFo hFo2 e0 hm1 hTr hCu c1
        go_wp2_with fail
        refine (Ht.out).mono ?_
        rintro x w3 ⟨rfl, hT3, hC3, hF3⟩
        have HT3 := hide hT3
        have HC3 := hide hC3
        have HR3 := hide (row_fr hRw.out HT1.out hF3)
        have HB3 := hide (tr_below hBx.out hBx.out.size hF3 hTB hsB)
        clear hT3 hC3 hF3 hRw HT1 hBx Ht
        go_wp2
        refine ⟨⟨m1, _, hm1h, by first | rfl | (congr 1), HT3, HR3, HFo, HC3, HB3⟩, ?_⟩
        simp [intOf] <;> omega
       ·have hFo2 := hFo.out
        rw [down_nil (by omega), List.nil_append] at hFo2
        have HFo := hide hFo2
        have hmsI : ¬ (sh : Int) < (m : Int) := by omega
        clear hFo hFo2
        go_wp2
        refine ⟨⟨j, cur, hjn, by first | rfl | go_num, hTr, hRw, HFo, hCu, hBx⟩, ?_⟩
        simp [intOf] <;> omega
    ·have hk00 : kk = 0 := by omega
     subst hk00
     have hFin : tryP tb cur (lit s q) = some X := hFo.out
     have Ht := Htry.out wr cur hTr.out hCu.out (lit s q) (Nat.le_refl 1) (by show q + 1 ≤ n; omega) (Nat.zero_le _)
     have hqS : q < S.size := by omega
     have hqI : (q : Int) < (S.size : Int) := by omega
     have hq0 : (0 : Int) ≤ (q : Int) := by omega
     have hgq := Hg.out q (by omega) hqS
     have hpl : pcC (lit s q) = #[.int .i64 1, .int .i64 0, .int .u8 ((s.getD q 0).toNat : Int)] := rfl
     rw [hpl, ← hgq, hFin, Hnx1.out] at Ht
     have Ht := hide Ht
     have z1 : ((0 : Nat) : Int) - 1 = -1 := rfl
     rw [z1]
     obtain ⟨_, ci, _⟩ := hTr.out.cells
     clear hFo hFin hpl hgq hRw hCu Hg hkk hk0
     go_wp2_with fail
     refine (Ht.out).mono ?_
     rintro x w3 ⟨rfl, hT3, _, hF3⟩
     obtain ⟨_, ci3, _⟩ := hT3.cells
     have hB3 := tr_below hBx.out hBx.out.size hF3 hTB hsB
     have hPn : Hid (PaSt (w3.alloc (.cells #[.int .i64 ((q : Int) - 1)] 3)) T bb w3.heap.size w.heap.size (Lk s q) ((q : Int) - 1)) := hide ⟨hT3.tb.alloc _, hT3.best.alloc _, Bk.new _ _ _, hT3.c.alloc _⟩
     have hBn := hide (hB3.alloc hB3.size (.cells #[.int .i64 ((q : Int) - 1)] 3))
     have hmn : Hid (ptmu (.pointer (some ⟨w3.heap.size, 0, none⟩)) (w3.alloc (.cells #[.int .i64 ((q : Int) - 1)] 3)) = ((q : Int) - 1 + 1).toNat) := hide (ptmu_eq ((Bk.new w3 3 #[.int .i64 ((q : Int) - 1)]).cell 0))
     clear hT3 hF3 hB3 hTr hBx Ht ci
     go_wp2
     refine ⟨⟨q, w3.heap.size, by omega, rfl, hPn, hBn⟩, ?_⟩
     rw [hmn.out, hmu.out]
     omega
  ·have hk0 : k = 0 := by omega
   subst hk0
   have hPF := hP.out
   have z1 : ((0 : Nat) : Int) - 1 = -1 := rfl
   rw [z1] at ci
   have hL0 : Lk s 0 = bestT s := by unfold Lk bestT; rw [Nat.sub_zero]; rfl
   rw [hL0] at hPF
   have HPF := hide hPF
   have hbt : (bestT s).length = n + 1 := by
    rw [← hL0, ← Hn.out]
    exact Lk_len s (Nat.zero_le _)
   have Hbt := hide hbt
   have hstart : Hid ([] ++ Wv.Lz.follow s n 0 = parse s) := hide (by rw [List.nil_append, ← Hn.out]; rfl)
   have Hok := hide (fun i (h : i < n) => (bestT_ok (by rw [Hn.out]; exact h) : PcOk s i ((bestT s).getD i st0).first))
   have Hfs := hide (fun f i (h : i < n) => (follow_step (by rw [Hn.out]; exact h) : Wv.Lz.follow s (f + 1) i = ((bestT s).getD i st0).first :: Wv.Lz.follow s f (i + ((bestT s).getD i st0).first.len)))
   have Hfe := hide (fun f => (follow_end (by rw [Hn.out]; exact Nat.le_refl _) : Wv.Lz.follow s f n = []))
   have Hsg := hide (fun i (h : i < n + 1) => stA_get (bestT s) i (by rw [hbt]; exact h))
   have hbst := hPF.best
   rw [hbt] at hbst
   have Hbst := hide hbst
   have HTb := hide hPF.tb
   have hw0 : Hid (wr.ownsRow w.heap.size 102 3 (.slice none 0 0) ([] : List Pc).length (pcCs [])) := hide own_nil
   clear hPF hP hL0 hmu hbt hbst hib hbbl hTl hcl Hls Hnx Hsm Hco Htl Hca Hg Hst
   go_wp2
   clear ci
   go_loopw [16, 17] (fun s16 s17 wx => ∃ (i f : Nat) (o : List Pc) (ov : Value), i ≤ n ∧ s17 = .int .i64 (i : Int) ∧ s16 = ov ∧ Hid (n ≤ i + f) ∧ Hid (o.length ≤ i) ∧ Hid (Bk wx T 158 (stA (bestT s))) ∧ Hid (Bk wx bb 156 #[.slice (some ⟨T, 0, none⟩) (n + 1) (n + 1)]) ∧ Hid (wx.ownsRow w.heap.size 102 3 ov o.length (pcCs o)) ∧ Hid (o ++ Wv.Lz.follow s f i = parse s) ∧ Hid (Below w.heap.size w wx)) (fun _ s17 _ => (n - intOf s17).toNat)
   case atStart => exact ⟨0, n, [], _, Nat.zero_le _, rfl, rfl, hide (by omega), hide (Nat.le_refl _), HTb, Hbst, hw0, hstart, hb⟩
   case round =>
    clear HTb Hbst hw0 hstart hb
    obtain ⟨i, f, o, ov, hi, rfl, rfl, hf, hol, hT, hbst, hrow, hfo, hb⟩ := hrel
    obtain ⟨A, cap, rfl, _⟩ := own_at hrow.out
    by_cases hlt : i < n
    ·obtain ⟨f1, rfl⟩ : ∃ g, f = g + 1 := ⟨f - 1, by have := hf.out; omega⟩
     have hok := Hok.out i hlt
     have hpos := hok.pos
     rw [Hn.out] at hpos
     have hfs := Hfs.out f1 i hlt
     obtain ⟨_, _, g2, g3, g4⟩ := Hsg.out i (by omega)
     obtain ⟨p, hp⟩ : ∃ p, ((bestT s).getD i st0).first = p := ⟨_, rfl⟩
     rw [hp] at hpos hfs g2 g3 g4
     have hfo2 := hfo.out
     rw [hfs] at hfo2
     have HFo : Hid ((o ++ [p]) ++ Wv.Lz.follow s f1 (i + p.len) = parse s) := hide (by rw [List.append_assoc]; exact hfo2)
     have q2 := (hT.out.cell (i * 5 + 2)).trans g2
     have q3 := (hT.out.cell (i * 5 + 3)).trans g3
     have q4 := (hT.out.cell (i * 5 + 4)).trans g4
     have qb := hbst.out.cell 0
     simp at qb
     have hlti : (i : Int) < (n : Int) + 1 := by omega
     have hltn : (i : Int) < (n : Int) := by omega
     have hi0 : (0 : Int) ≤ (i : Int) := by omega
     obtain ⟨v', w2, hr, hrw2, hbl2, hkeep, _⟩ := app_ownB (P := Tryz.prog) 90 102 _ _ 3 Tryz.underlying90 pcinf rfl (by omega) hrow.out hb.out hb.out.size [.int .i64 (p.len : Int), .int .i64 (p.dist : Int), .int .u8 (p.byte.toNat : Int)] rfl (by simp [Value.oneCell']) (by unfold maxLen; have := hol.out; omega) (by have := hol.out; omega)
     have hT2 := hkeep _ _ _ hT.out (by decide)
     have hb2 := hkeep _ _ _ hbst.out (by decide)
     have r2 := (hT2.cell (i * 5 + 2)).trans g2
     have rb := hb2.cell 0
     simp at rb
     have ho1 : o.length + 1 = (o ++ [p]).length := by simp
     have ho2 : pcCs o ++ [.int .i64 (p.len : Int), .int .i64 (p.dist : Int), .int .u8 (p.byte.toNat : Int)] = pcCs (o ++ [p]) := by simp [pcCs, pcL]
     rw [ho1, ho2] at hrw2
     have Hrw2 := hide hrw2
     have HT2 := hide hT2
     have Hb2 := hide hb2
     have Hbl2 := hide hbl2
     have Hrun := hide hr
     have Hf2 : Hid (n ≤ i + p.len + f1) := hide (by have := hf.out; omega)
     have Hol2 : Hid ((o ++ [p]).length ≤ i + p.len) := hide (by have := hol.out; simp; omega)
     obtain ⟨A2, M2, cap2, rfl⟩ := own_slice hrw2
     clear hok hfs g2 g3 g4 hp hfo hfo2 hrw2 hT2 hb2 hbl2 hr hf hol hkeep ho1 ho2 hrow
     obtain ⟨m, hm⟩ : ∃ m, i + p.len = m := ⟨_, rfl⟩
     rw [hm] at HFo Hf2 Hol2 hpos
     have hcast : (i : Int) + (p.len : Int) = (m : Int) := by omega
     have hin : m ≤ n := hpos.2
     have him : i < m := by omega
     clear hpos hm
     go_wp2_with (at_builtin; refine wpList_run (by with_reducible rfl) rfl _ _ _ rfl _ _ (by rfl) (by rfl) Hrun.out ?_)
     refine ⟨⟨m, f1, o ++ [p], _, hin, by first | rfl | (congr 1), rfl, Hf2, Hol2, HT2, Hb2, Hrw2, HFo, Hbl2⟩, ?_⟩
     simp [intOf] <;> omega
    ·have hin : i = n := by omega
     subst hin
     have hfo2 := hfo.out
     rw [Hfe.out, List.append_nil] at hfo2
     have hrow2 := hrow.out
     rw [hfo2] at hrow2
     have Hrow2 := hide hrow2
     rw [hfo2]
     clear hfo hfo2 hrow hrow2 hT hbst
     go_wp2
     go_returns
     exact ⟨_, rfl, Hrow2.out, hb.out⟩
end Go.Proofs.YtjfcemlbbinanaaGreatDoor
