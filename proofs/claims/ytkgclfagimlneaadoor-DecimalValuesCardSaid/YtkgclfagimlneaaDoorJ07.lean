/-
  Joined texts: En, Eo, Ep, Eq.
-/
import Derived.Test.YtkgclfagimlneaaDoorJ06
import Derived.Test.YtkgclfagimlneaaDoorJ02
import Derived.Test.YtkgclfagimlneaaDoorShelf
import Derived.Lib.MakeNoZero
import Derived.Laws.CopyRow
import Derived.Laws.Externs
set_option linter.unusedVariables false
set_option linter.unusedSimpArgs false
/-
  The walks over decimal numbers: the number of a canonical text; whether a text is one; its canonical text.
-/
namespace Go.Proofs.YtkgclfagimlneaaDoor
open Go.RowKit Go.Proofs Wv Wv.Dc
set_option linter.unusedVariables false

theorem seq_eq {a b : ByteArray} : (a.toList == b.toList) = decide (a = b) := by
  rw [Bool.eq_iff_iff, beq_iff_eq, decide_eq_true_iff, ByteArray.toList_eq, ByteArray.toList_eq]
  constructor
  · intro h
    apply ByteArray.ext
    apply Array.toList_inj.1
    exact h
  · intro h; rw [h]
theorem fits_sz {n : Num} (h : Fits n) : Sz n := by
  by_cases h0 : n.dg = []
  · have := h.canon.zero h0
    exact ⟨by rw [this.2]; omega, by rw [this.2]; omega, by have := h.len; omega⟩
  · have a := h.lo h0
    have b := h.hi h0
    have c := h.len
    unfold firstN at a b
    exact ⟨by omega, by omega, by omega⟩
theorem canN_def (s : List UInt8) : canN s = match (scn cl1 s).map trimN with
    | none => none
    | some n => if ctext n = (s, 0) then some n else none := by
  unfold canN
  match scn cl1 s with
  | none => rfl
  | some m => rfl
set_option maxRecDepth 100000 in
set_option maxHeartbeats 2000000 in
theorem pcanon_any (s : ByteArray) {w : World} (ht : Tab w) :
    Calls Tryd.prog 29 #[.string s] w fun x w' => PRes w w' (canN (toL s)) x := by
  have Hs := hide (fun W => pscan_any s W)
  have Ht := hide ht
  have hd := canN_def (toL s)
  obtain ⟨R, hR⟩ : ∃ R, canN (toL s) = R := ⟨_, rfl⟩
  rw [hR] at hd ⊢
  have hb0 := (Below.refl w.heap.size w).alloc (Nat.le_refl _) (.cells #[.bool false, .slice none 0 0, .int .i64 0] 41)
  have hk0 := Bk.new w 41 #[.bool false, .slice none 0 0, .int .i64 0]
  have Hb0 := hide hb0
  have Hk0 := hide hk0
  clear ht hR hb0 hk0
  cases ho : (scn cl1 (toL s)).map trimN with
  | none =>
    rw [ho] at Hs hd
    simp only at hd
    subst hd
    clear ho
    go_enter Tryd.func29, Tryd.ntmps29
    go_wp2_with fail
    refine ((Hs.out _).mono ?_)
    rintro x w1 ⟨v, b, rfl, hb, ⟨b0, A0, l0, k0, e0, rfl⟩, rfl⟩
    have hk1 := Hk0.out.below hb Hk0.out.lt
    have r0 := hk1.cell 0
    have r1 := hk1.cell 1
    have r2 := hk1.cell 2
    have g0 := hk1.frozen 0
    have g1 := hk1.frozen 1
    have g2 := hk1.frozen 2
    have hlt := hk1.lt
    simp at r0 r1 r2
    have Hb1 := hide (Hb0.out.trans (hb.mono Hb0.out.size))
    obtain ⟨WF, hWF, u0, u1, u2, hatF, hbF⟩ := nres_end hk1 Hb1.out (Nat.le_refl _) (L := []) (At.nil _ none) false (.slice none 0 0) 0
    have HWF := hide hWF
    have hal := (Below.refl WF.heap.size WF).alloc (Nat.le_refl _) (.cells #[.bool b0, .slice A0 l0 k0, .int .i64 e0] 41)
    have v0 := keep_cell u0 hal
    have v1 := keep_cell u1 hal
    have v2 := keep_cell u2 hal
    have HbF := hide (hbF.trans (hal.mono hbF.size))
    obtain ⟨WG, hWG⟩ : ∃ WG, WF.alloc (.cells #[.bool b0, .slice A0 l0 k0, .int .i64 e0] 41) = WG := ⟨_, rfl⟩
    rw [hWG] at v0 v1 v2 HbF
    have HWG := hide hWG
    clear hb hk1 hWF hatF hbF hal u0 u1 u2 hWG
    go_wp2
    rw [HWF.out, HWG.out]
    refine bodyPost_ret (by simp [results, Tryd.results29, go_sem, v0, v1, v2]; try rfl) rfl ?_
    exact ⟨_, _, rfl, HbF.out, ⟨_, _, _, _, _, rfl⟩, rfl⟩
  | some n =>
    rw [ho] at Hs hd
    simp only at hd
    clear ho
    go_enter Tryd.func29, Tryd.ntmps29
    go_wp2_with fail
    refine ((Hs.out _).mono ?_)
    rintro x w1 ⟨v, b, rfl, hb, _, rfl, hn, hz⟩
    have hk1 := Hk0.out.below hb Hk0.out.lt
    have hb1 := Hb0.out.trans (hb.mono Hb0.out.size)
    obtain ⟨A, cap, rfl, hat, hc1, hc2⟩ := hn
    obtain ⟨bn, dn, en⟩ := n
    simp only at hat hc1 hc2
    have hW2 := hb1.alloc hb1.size (.cells #[.bool bn, .slice A dn.length cap, .int .i64 en] 41)
    have hnv : NV (w1.alloc (.cells #[.bool bn, .slice A dn.length cap, .int .i64 en] 41)) (.agg #[.bool bn, .slice A dn.length cap, .int .i64 en]) ⟨bn, dn, en⟩ := ⟨A, cap, rfl, hat.alloc _, hc1, hc2⟩
    have Htx := hide (ptext_any hnv hz (Ht.out.below hW2))
    have hk2 := hk1.alloc (.cells #[.bool bn, .slice A dn.length cap, .int .i64 en] 41)
    have hx2 := Bk.new w1 41 #[.bool bn, .slice A dn.length cap, .int .i64 en]
    have hlt := hk1.lt
    have Hk2 := hide hk2
    have Hx2 := hide hx2
    have HW2 := hide hW2
    have Hat := hide hat
    have Hc1 := hide hc1
    have Hc2 := hide hc2
    have Hz := hide hz
    have Hd := hide hd
    clear hb hk1 hb1 hat hc1 hc2 hW2 hnv hk2 hx2 hz hd
    go_wp2_with fail
    refine (Htx.out).mono ?_
    rintro x w3 ⟨rfl, hb3⟩
    have hk3 := Hk2.out.below hb3 Hk2.out.lt
    have hx3 := Hx2.out.below hb3 Hx2.out.lt
    have hb4 := HW2.out.trans (hb3.mono HW2.out.size)
    have n0 := hx3.cell 0
    have n1 := hx3.cell 1
    have n2 := hx3.cell 2
    have r0 := hk3.cell 0
    have r1 := hk3.cell 1
    have r2 := hk3.cell 2
    have g0 := hk3.frozen 0
    have g1 := hk3.frozen 1
    have g2 := hk3.frozen 2
    simp at n0 n1 n2 r0 r1 r2
    have hat3 := (Hat.out.alloc (.cells #[.bool bn, .slice A dn.length cap, .int .i64 en] 41)).below hb3
    obtain ⟨WF, hWF, u0, u1, u2, hatF, hbF⟩ := nres_end hk3 hb4 (Nat.le_refl _) hat3 bn (.slice A dn.length cap) en
    have HWF := hide hWF
    have HatF := hide hatF
    have HbF := hide hbF
    obtain ⟨T, e, hT⟩ : ∃ T e, ctext ⟨bn, dn, en⟩ = (T, e) := ⟨_, _, rfl⟩
    have hd := Hd.out
    rw [hT] at hd
    rw [hT]
    have Hseq := hide (@seq_eq (bs T) s)
    clear hb3 hk3 hx3 hb4 hWF hatF hbF hat3 Hd Htx Hat Hk2 Hx2 HW2 Hs hT
    have hbe : Hid (PRes w WF R (.returned (.tuple #[.agg #[.bool bn, .slice A dn.length cap, .int .i64 en], .bool (decide ((T, e) = (toL s, 0)))]))) := hide (by
      refine ⟨_, _, rfl, HbF.out, ⟨_, _, _, _, _, rfl⟩, ?_⟩
      by_cases hq : (T, e) = (toL s, 0)
      · rw [hd, if_pos hq]
        exact ⟨by simpa using hq, ⟨A, cap, rfl, HatF.out, Hc1.out, Hc2.out⟩, Hz.out⟩
      · rw [hd, if_neg hq]
        simpa using hq)
    by_cases he : e = 0
    · subst he
      clear hd
      go_wp2
      rw [HWF.out]
      refine bodyPost_ret (by simp [results, Tryd.results29, go_sem, u0, u1, u2]; try rfl) rfl ?_
      have hq : ((bs T).toList == s.toList) = decide ((T, 0) = (toL s, 0)) := by
        rw [Hseq.out, Bool.eq_iff_iff, decide_eq_true_iff, decide_eq_true_iff, Prod.mk.injEq]
        constructor
        · intro h; exact ⟨by rw [← h]; rfl, rfl⟩
        · intro h; rw [h.1]; rfl
      rw [hq]
      exact hbe.out
    · have hne : ((e : Int) == 0) = false := by rw [beq_eq_false_iff_ne]; omega
      have hq2 : decide ((T, e) = (toL s, 0)) = false := by
        rw [decide_eq_false_iff_not, Prod.mk.injEq]
        exact fun h => he h.2
      rw [hq2] at hbe
      clear hd hq2
      go_wp2
      rw [HWF.out]
      refine bodyPost_ret (by simp [results, Tryd.results29, go_sem, u0, u1, u2]; try rfl) rfl ?_
      exact hbe.out
end Go.Proofs.YtkgclfagimlneaaDoor
/-
  The walks over decimal numbers: whether a text is canonical, its canonical text, its sign, the negative number, comparing.
-/
namespace Go.Proofs.YtkgclfagimlneaaDoor
open Go.RowKit Go.Proofs Wv Wv.Dc
set_option linter.unusedVariables false

/-- What canonical gives back, in words that part at once. -/
def CRes (w w' : World) (o : Option Num) (x : Ending) : Prop := ∃ b0 A l c e, x = .returned (.tuple #[.agg #[.bool b0, .slice A l c, .int .i64 e], .bool o.isSome]) ∧ Below w.heap.size w w' ∧ ∀ n, o = some n → NV w' (.agg #[.bool b0, .slice A l c, .int .i64 e]) n
theorem cres {w w' : World} {o : Option Num} {x : Ending} (h : PRes w w' o x) : CRes w w' o x := by
  obtain ⟨v, b, rfl, hb, ⟨b0, A, l, c, e, rfl⟩, hm⟩ := h
  match o, hm with
  | none, hm => subst hm; exact ⟨b0, A, l, c, e, rfl, hb, fun n h => by cases h⟩
  | some m, hm =>
    obtain ⟨rfl, h2, h3⟩ := hm
    exact ⟨b0, A, l, c, e, rfl, hb, fun n h => by injection h with h; subst h; exact h2⟩
theorem pcan (s : ByteArray) {w : World} (ht : Tab w) : Calls Tryd.prog 29 #[.string s] w fun x w' => CRes w w' (canN (toL s)) x := (pcanon_any s ht).mono fun x w' h => cres h
theorem can_fits {s : List UInt8} {n : Num} (h : canN s = some n) : Fits n := (canN_iff.1 h).1
theorem can_sz {s : List UInt8} {n : Num} (h : canN s = some n) : Sz n := fits_sz (can_fits h)
set_option maxHeartbeats 1000000 in
theorem pvalid_any (s : ByteArray) {w : World} (ht : Tab w) :
    Calls Tryd.prog 16 #[.string s] w fun x w' => x = .returned (.bool (validS (toL s))) ∧ Below w.heap.size w w' := by
  have Hc := hide (pcan s ht)
  have hv : (canN (toL s)).isSome = validS (toL s) := rfl
  clear ht
  generalize canN (toL s) = o at *
  have Hv := hide hv
  clear hv
  go_enter Tryd.func16, Tryd.ntmps16
  go_wp2_with fail
  refine (Hc.out).mono ?_
  rintro x w1 ⟨b0, A, l, c, e, rfl, hb, _⟩
  have Hb := hide (hb.alloc hb.size (.cells #[.bool b0, .slice A l c, .int .i64 e] 41))
  clear hb
  go_wp2
  go_returns
  exact ⟨ret_bool Hv.out, Hb.out⟩
theorem ptext_def (s : List UInt8) : ptext cl1 s = match (scn cl1 s).map trimN with
    | none => ([], 3)
    | some n => ctext n := by
  unfold ptext
  match scn cl1 s with
  | none => rfl
  | some m => rfl
set_option maxHeartbeats 1000000 in
theorem pparse_any (s : ByteArray) {w : World} (ht : Tab w) :
    Calls Tryd.prog 13 #[.string s] w fun x w' => x = .returned (.tuple #[.string (bs (ptext cl1 (toL s)).1), .int .i64 ((ptext cl1 (toL s)).2 : Int)]) ∧ Below w.heap.size w w' := by
  have Hs := hide (pscan_any s w)
  have hd := ptext_def (toL s)
  have Ht := hide ht
  generalize ptext cl1 (toL s) = P at *
  clear ht
  cases ho : (scn cl1 (toL s)).map trimN with
  | none =>
    rw [ho] at Hs hd
    simp only at hd
    subst hd
    clear ho
    go_enter Tryd.func13, Tryd.ntmps13
    go_wp2_with fail
    refine (Hs.out).mono ?_
    rintro x w1 ⟨v, b, rfl, hb, ⟨b0, A, l, c, e, rfl⟩, rfl⟩
    have Hb := hide (hb.alloc hb.size (.cells #[.bool b0, .slice A l c, .int .i64 e] 41))
    clear hb
    go_wp2
    go_returns
    exact ⟨rfl, Hb.out⟩
  | some n =>
    rw [ho] at Hs hd
    simp only at hd
    subst hd
    clear ho
    go_enter Tryd.func13, Tryd.ntmps13
    go_wp2_with fail
    refine (Hs.out).mono ?_
    rintro x w1 ⟨v, b, rfl, hb, ⟨b0, A, l, c, e, rfl⟩, rfl, hn, hz⟩
    have hb2 := hb.alloc hb.size (.cells #[.bool b0, .slice A l c, .int .i64 e] 41)
    have Htx := hide (ptext_any (hn.below ((Below.refl _ _).alloc (Nat.le_refl _) (.cells #[.bool b0, .slice A l c, .int .i64 e] 41))) hz (Ht.out.below hb2))
    have Hb2 := hide hb2
    clear hb hb2 hn hz Ht Hs
    go_wp2_with fail
    refine (Htx.out).mono ?_
    rintro x w3 ⟨rfl, hb3⟩
    have Hb3 := hide (Hb2.out.trans (hb3.mono Hb2.out.size))
    clear hb3
    go_wp2
    go_returns
    exact ⟨rfl, Hb3.out⟩
set_option maxHeartbeats 1000000 in
theorem psignS_any (s : ByteArray) {w : World} (ht : Tab w) :
    Calls Tryd.prog 21 #[.string s] w fun x w' => x = .returned (.int .i64 (signS (toL s))) ∧ Below w.heap.size w w' := by
  have Hc := hide (pcan s ht)
  have hv : signS (toL s) = match canN (toL s) with | some n => signN n | none => 0 := rfl
  clear ht
  generalize signS (toL s) = z at *
  cases ho : canN (toL s) with
  | none =>
    rw [ho] at Hc hv
    simp only at hv
    subst hv
    clear ho
    go_enter Tryd.func21, Tryd.ntmps21
    go_wp2_with fail
    refine (Hc.out).mono ?_
    rintro x w1 ⟨b0, A, l, c, e, rfl, hb, _⟩
    have Hb := hide (hb.alloc hb.size (.cells #[.bool b0, .slice A l c, .int .i64 e] 41))
    clear hb
    go_wp2
    go_returns
    exact ⟨rfl, Hb.out⟩
  | some n =>
    rw [ho] at Hc hv
    simp only at hv
    subst hv
    clear ho
    go_enter Tryd.func21, Tryd.ntmps21
    go_wp2_with fail
    refine (Hc.out).mono ?_
    rintro x w1 ⟨b0, A, l, c, e, rfl, hb, hn⟩
    have hb2 := hb.alloc hb.size (.cells #[.bool b0, .slice A l c, .int .i64 e] 41)
    have Hsg := hide (psign_any ((hn n rfl).below ((Below.refl _ _).alloc (Nat.le_refl _) (.cells #[.bool b0, .slice A l c, .int .i64 e] 41))))
    have Hb2 := hide hb2
    clear hb hb2 hn Hc
    go_wp2_with fail
    refine (Hsg.out).mono ?_
    rintro x w3 ⟨rfl, hb3⟩
    have Hb3 := hide (Hb2.out.trans (hb3.mono Hb2.out.size))
    clear hb3
    go_wp2
    go_returns
    exact ⟨rfl, Hb3.out⟩
set_option maxHeartbeats 1000000 in
theorem pnegS_any (s : ByteArray) {w : World} (ht : Tab w) :
    Calls Tryd.prog 26 #[.string s] w fun x w' => x = .returned (.string (bs (negS (toL s)))) ∧ Below w.heap.size w w' := by
  have Hc := hide (pcan s ht)
  have hv : negS (toL s) = match canN (toL s) with | some n => (ctext (minusN n)).1 | none => [] := rfl
  have Ht := hide ht
  clear ht
  generalize negS (toL s) = z at *
  cases ho : canN (toL s) with
  | none =>
    rw [ho] at Hc hv
    simp only at hv
    subst hv
    clear ho
    go_enter Tryd.func26, Tryd.ntmps26
    go_wp2_with fail
    refine (Hc.out).mono ?_
    rintro x w1 ⟨b0, A, l, c, e, rfl, hb, _⟩
    have Hb := hide (hb.alloc hb.size (.cells #[.bool b0, .slice A l c, .int .i64 e] 41))
    clear hb
    go_wp2
    go_returns
    exact ⟨rfl, Hb.out⟩
  | some n =>
    rw [ho] at Hc hv
    simp only at hv
    subst hv
    have hz := can_sz ho
    clear ho
    go_enter Tryd.func26, Tryd.ntmps26
    go_wp2_with fail
    refine (Hc.out).mono ?_
    rintro x w1 ⟨b0, A, l, c, e, rfl, hb, hn⟩
    have hb2 := hb.alloc hb.size (.cells #[.bool b0, .slice A l c, .int .i64 e] 41)
    have Hmi := hide (pminus_any ((hn n rfl).below ((Below.refl _ _).alloc (Nat.le_refl _) (.cells #[.bool b0, .slice A l c, .int .i64 e] 41))))
    have Hb2 := hide hb2
    have Hz := hide hz
    clear hb hb2 hn Hc hz
    go_wp2_with fail
    refine (Hmi.out).mono ?_
    rintro x w3 ⟨v', rfl, hn3, hb3⟩
    have Hb3 := hide (Hb2.out.trans (hb3.mono Hb2.out.size))
    have Htx := hide (ptext_any hn3 ⟨Hz.out.lo, Hz.out.hi, Hz.out.len⟩ (Ht.out.below Hb3.out))
    clear hb3 hn3 Hmi
    go_wp2_with fail
    refine (Htx.out).mono ?_
    rintro x w4 ⟨rfl, hb4⟩
    have Hb4 := hide (Hb3.out.trans (hb4.mono Hb3.out.size))
    clear hb4
    go_wp2
    go_returns
    exact ⟨rfl, Hb4.out⟩
set_option maxHeartbeats 2000000 in
theorem pcmpS_any (s t : ByteArray) {w : World} (ht : Tab w) :
    Calls Tryd.prog 19 #[.string s, .string t] w fun x w' => x = .returned (.tuple #[.int .i64 (cmpS (toL s) (toL t)).1, .bool (cmpS (toL s) (toL t)).2]) ∧ Below w.heap.size w w' := by
  have Hc := hide (fun W u (h : Below w.heap.size w W) => pcan u (ht.below h))
  have hv : cmpS (toL s) (toL t) = match canN (toL s), canN (toL t) with | some x, some y => (compN x y, true) | _, _ => (0, false) := rfl
  clear ht
  generalize cmpS (toL s) (toL t) = z at *
  obtain ⟨os, hos⟩ : ∃ o, canN (toL s) = o := ⟨_, rfl⟩
  obtain ⟨ot, hot⟩ : ∃ o, canN (toL t) = o := ⟨_, rfl⟩
  have Hos := hide hos
  have Hot := hide hot
  rw [hos, hot] at hv
  have Hv := hide hv
  clear hos hot hv
  go_enter Tryd.func19, Tryd.ntmps19
  go_wp2_with fail
  refine (Hc.out w s (Below.refl _ _)).mono ?_
  rw [Hos.out]
  rintro x w1 ⟨b0, A, l, c, e, rfl, hb, hn⟩
  have hb2 := hb.alloc hb.size (.cells #[.bool b0, .slice A l c, .int .i64 e] 41)
  have hk := Bk.new w1 41 #[.bool b0, .slice A l c, .int .i64 e]
  have Hb2 := hide hb2
  have Hk := hide hk
  have Hn := hide hn
  clear hb hb2 hk hn
  go_wp2_with fail
  refine (Hc.out _ t Hb2.out).mono ?_
  rw [Hot.out]
  rintro x w3 ⟨b1, A1, l1, c1, e1, rfl, hb3, hn3⟩
  have hk3 := Hk.out.below hb3 Hk.out.lt
  have hb4 := (Hb2.out.trans (hb3.mono Hb2.out.size))
  have hb5 := hb4.alloc hb4.size (.cells #[.bool b1, .slice A1 l1 c1, .int .i64 e1] 41)
  have Hb5 := hide hb5
  have n0 := hk3.cell 0
  have n1 := hk3.cell 1
  have n2 := hk3.cell 2
  have hlt := hk3.lt
  simp at n0 n1 n2
  have Hna := hide (fun m (h : os = some m) => ((Hn.out m h).below ((Below.refl _ _).alloc (Nat.le_refl _) (.cells #[.bool b0, .slice A l c, .int .i64 e] 41))).below hb3)
  have Hn3 := hide hn3
  clear hb3 hk3 hb4 hb5 hn3 Hn
  cases os with
  | none =>
    have hv : z = (0, false) := Hv.out
    subst hv
    clear Hv
    go_wp2
    go_returns
    exact ⟨rfl, Hb5.out⟩
  | some n =>
    cases ot with
    | none =>
      have hv : z = (0, false) := Hv.out
      subst hv
      clear Hv
      go_wp2
      go_returns
      exact ⟨rfl, Hb5.out⟩
    | some m =>
      have hv : z = (compN n m, true) := Hv.out
      subst hv
      have hba := (Below.refl w3.heap.size w3).alloc (Nat.le_refl _) (.cells #[.bool b1, .slice A1 l1 c1, .int .i64 e1] 41)
      have Hcm := hide (pcompare_any ((Hna.out n rfl).below hba) ((Hn3.out m rfl).below hba) (can_sz Hos.out) (can_sz Hot.out))
      clear Hv hba
      go_wp2_with fail
      refine (Hcm.out).mono ?_
      rintro x w6 ⟨rfl, hb6⟩
      have Hb6 := hide (Hb5.out.trans (hb6.mono Hb5.out.size))
      clear hb6
      go_wp2
      go_returns
      exact ⟨rfl, Hb6.out⟩
end Go.Proofs.YtkgclfagimlneaaDoor
/-
  The walks over decimal numbers: bytes.Repeat of one byte.
-/
namespace Wv
open Go Go.RowKit
theorem fr_setRow {S : Nat → Prop} {a w : World} {g : Nat} (h : Fr S a w) (hg : S g) (cs : Array Value) : Fr S a (w.setRow g cs) :=
  h.trans ⟨rfl, rfl, rfl, by simp [World.setRow], fun k hk hn => setRow_other w g k cs (fun e => hn (e ▸ hg))⟩
end Wv
namespace Go.Proofs.YtkgclfagimlneaaDoor
open Go.RowKit Go.Proofs Wv Wv.Dc
set_option linter.unusedVariables false

/-- A row of bytes that a call has laid, as long as its slice. -/
def WR (w w' : World) (v : Value) (xs : List UInt8) : Prop := ∃ g cs, v = .slice (some ⟨g, 0, none⟩) xs.length xs.length ∧ Bk w' g 5 cs ∧ xs.length ≤ cs.size ∧ cs.toList.take xs.length = xs.map bv ∧ w.heap.size ≤ g
theorem u8sz : (Tryd.prog.info? 5).map (·.size) = some 1 := by kernel_rfl
theorem mul_one_any (n : Nat) (hn : n ≤ 8192) (w : World) : Calls Tryd.prog 48 #[.int .u64 1, .int .u64 (n : Int)] w fun x w' => x = .returned (.tuple #[.int .u64 0, .int .u64 (n : Int)]) ∧ w' = w := by
  have h := Tryd.bits_Mul 1 n (by omega) (by omega) w
  rw [show 1 * n / 18446744073709551616 = 0 by omega, show 1 * n % 18446744073709551616 = n by omega] at h
  exact h
set_option maxRecDepth 100000 in
set_option maxHeartbeats 2000000 in
theorem prep_any {w : World} {A : Option Addr} (h : At w A [bv 48]) (cap n : Nat) (hn : n ≤ 8192) (hcap : 1 ≤ cap) :
    Calls Tryd.prog 32 #[.slice A 1 cap, .int .i64 (n : Int)] w fun x w' => ∃ v, x = .returned v ∧ WR w w' v (List.replicate n 48) ∧ Below w.heap.size w w' := by
  obtain ⟨b, o, rfl, hb, hc0⟩ := h 0 (by simp)
  simp only [List.getElem_cons_zero, Nat.add_zero] at hc0
  have Hat := hide h
  clear h
  by_cases h0 : n = 0
  · subst h0
    go_enter Tryd.func32, Tryd.ntmps32
    go_wp2
    go_returns
    exact ⟨_, rfl, ⟨w.heap.size, #[], rfl, Bk.new w _ _, Nat.zero_le _, rfl, Nat.le_refl _⟩, (Below.refl w.heap.size w).alloc (Nat.le_refl _) _⟩
  · have Hmul := hide (mul_one_any n hn)
    have hn0 : ((n : Int) == 0) = false := by rw [beq_eq_false_iff_ne]; omega
    have hn1 : ¬ (n : Int) < 0 := by omega
    have hn8 : (n : Int) ≤ 8192 := by omega
    have hw1 : IntKind.u64.wrap (n : Int) = (n : Int) := by rw [IntKind.wrap_u64]; omega
    obtain ⟨cs, hr, hle, hmx⟩ := Lib.run_makeNoZero (P := Tryd.prog) w #[3] 39 5 Tryd.underlying39 n (by omega)
    have hk := Bk.new w.drew.drew 5 cs
    have hbl : Below w.heap.size w (w.drew.drew.alloc (.cells cs 5)) := ((Below.refl w.heap.size w).drew.drew).alloc (Nat.le_refl _) _
    have hcb := keep_cell hc0 hbl
    change Bk (w.drew.drew.alloc (.cells cs 5)) w.heap.size 5 cs at hk
    have Hr := hide hr
    have Hmul1 := hide (Hmul.out w)
    obtain ⟨g, hg⟩ : ∃ g, w.heap.size = g := ⟨_, rfl⟩
    obtain ⟨W, hW⟩ : ∃ W, w.drew.drew.alloc (.cells cs 5) = W := ⟨_, rfl⟩
    rw [hW] at hk hbl hcb Hr
    rw [hg] at hk Hr
    have hrun := run_copy_row (P := Tryd.prog) W 39 39 3 5 g 0 n n ⟨b, o, none⟩ 1 cap cs 5 [bv 48] Tryd.underlying39 u8sz hk (by show 1 = min 1 n; omega) (fun j v hv => by
      cases j with
      | zero =>
        simp at hv
        subst hv
        rw [Go.WideShapes.add_plain, Nat.add_zero]
        exact hcb
      | succ j => simp at hv) (by simp; omega) (fun v hv => by
      rw [List.mem_singleton] at hv
      rw [hv]
      rfl)
    obtain ⟨C, hC⟩ : ∃ C, (cs.toList.take 0 ++ [bv 48] ++ cs.toList.drop (0 + [bv 48].length)).toArray = C := ⟨_, rfl⟩
    rw [hC] at hrun
    have hCt : C.toList.take 1 = List.replicate 1 (bv 48) := by rw [← hC]; simp
    have hCs : n ≤ C.size := by
      rw [← hC]
      simp
      omega
    have hbk : Bk (W.setRow g C) g 5 C := setRow_heap W g cs C _ (0, 0) hk
    have hfr : Fr (only g) W (W.setRow g C) := fr_setRow (Fr.refl (only g) W) rfl C
    obtain ⟨W1, hW1⟩ : ∃ W1, W.setRow g C = W1 := ⟨_, rfl⟩
    rw [hW1] at hrun hbk hfr
    have hgo : goInt [bv 48].length = .int .i64 1 := rfl
    rw [hgo] at hrun
    have Hbk := hide hbk
    have Hfr := hide hfr
    have Hbl := hide hbl
    have HCt := hide hCt
    have Hg := hide hg
    have hle2 : (n : Int) ≤ (cs.size : Int) := by omega
    clear hC hCt hW hW1 hr hmx hk hbl hcb hc0 hb hbk hfr hgo Hat Hmul hg
    go_enter Tryd.func32, Tryd.ntmps32
    go_wp2_with fail
    refine (Hmul1.out).mono ?_
    rintro x w1 ⟨rfl, rfl⟩
    go_wp2
    rw [run_callFunc_extern Tryd.func49 (by kernel_rfl) (by kernel_rfl) (by kernel_rfl) (e := Extern.BytealgMakeNoZero.makeNoZero #[3] #[39]) (by kernel_rfl), Hr.out]
    simp only [Result.andThen]
    rw [Oper.upon_value]
    go_wp2
    clear hrun hle hle2 Hr Hmul1 hw1
    go_loopw [10, 11] (fun s10 s11 wr => ∃ (j : Nat) (cur : Array Value), 1 ≤ j ∧ j ≤ n ∧ s10 = .int .i64 (j : Int) ∧ Hid (Bk wr g 5 cur) ∧ n ≤ cur.size ∧ Hid (cur.toList.take j = List.replicate j (bv 48)) ∧ Hid (Fr (only g) W wr)) (fun s10 _ _ => (n - intOf s10).toNat)
    case atStart => exact ⟨1, C, Nat.le_refl _, by omega, rfl, Hbk, hCs, HCt, Hfr⟩
    case round =>
      obtain ⟨j, cur, hj1, hj2, rfl, hbj, hcz, hct, hfj⟩ := hrel
      by_cases hlt : j < n
      · have hmin : min (j : Int) (n : Int) = (j : Int) := by omega
        obtain ⟨m, hm⟩ : ∃ m, min j (n - j) = m := ⟨_, rfl⟩
        have hm1 : 1 ≤ m := by omega
        have hjm : j + m ≤ n := by omega
        have hrun := run_copy_row (P := Tryd.prog) wr.drew 39 39 3 5 g j (n - j) (n - j) ⟨g, 0, none⟩ j n cur 5 (List.replicate m (bv 48)) Tryd.underlying39 u8sz hbj.out (by rw [List.length_replicate]; exact hm.symm) (fun i v hv => by
          rw [Go.WideShapes.add_plain, Nat.zero_add]
          have h1 := hbj.out.cell i
          show wr.cell? _ = _
          rw [h1, ← Array.getElem?_toList]
          have hi : i < m := by
            rcases Nat.lt_or_ge i m with h | h
            · exact h
            · rw [List.getElem?_eq_none (by rw [List.length_replicate]; exact h)] at hv; cases hv
          rw [List.getElem?_replicate, if_pos hi] at hv
          have h2 : (cur.toList.take j)[i]? = cur.toList[i]? := List.getElem?_take_of_lt (by omega)
          rw [← h2, hct.out, List.getElem?_replicate, if_pos (by omega)]
          exact hv) (by rw [List.length_replicate]; omega) (fun v hv => by
          rw [List.mem_replicate] at hv
          rw [hv.2]
          rfl)
        rw [List.length_replicate] at hrun
        obtain ⟨C2, hC2⟩ : ∃ C2, (cur.toList.take j ++ List.replicate m (bv 48) ++ cur.toList.drop (j + m)).toArray = C2 := ⟨_, rfl⟩
        rw [hC2] at hrun
        have hC2t : C2.toList.take (j + m) = List.replicate (j + m) (bv 48) := by
          rw [← hC2, hct.out, List.replicate_append_replicate]
          exact List.take_left' (List.length_replicate)
        have hC2s : n ≤ C2.size := by
          rw [← hC2, hct.out]
          simp
          omega
        have hbk : Bk (wr.drew.setRow g C2) g 5 C2 := setRow_heap wr.drew g cur C2 _ (0, 0) hbj.out
        have hfr : Fr (only g) W (wr.drew.setRow g C2) := fr_setRow hfj.out.drew rfl C2
        obtain ⟨W2, hW2⟩ : ∃ W2, wr.drew.setRow g C2 = W2 := ⟨_, rfl⟩
        rw [hW2] at hrun hbk hfr
        have hgo : goInt m = .int .i64 (m : Int) := rfl
        rw [hgo] at hrun
        have Hbk2 := hide hbk
        have Hfr2 := hide hfr
        have HC2t := hide hC2t
        have hd1 : (n : Int) - (j : Int) ≠ 0 := by omega
        have hd2 : ¬ n = j := by omega
        have hd3 : ¬ n - j = 0 := by omega
        have hd4 : (j : Int) ≤ (n : Int) := by omega
        have hd5 : (0 : Int) ≤ (j : Int) := by omega
        clear hC2 hC2t hW2 hbk hfr hgo hbj hct hfj Hbk Hfr HCt hm
        go_wp2
        go_region
        go_wp2
        refine ⟨⟨j + m, C2, by omega, hjm, by go_num, Hbk2, hC2s, HC2t, Hfr2⟩, ?_⟩
        simp [intOf] <;> omega
      · have hjn : j = n := by omega
        subst hjn
        have hlen : (List.replicate j (48 : UInt8)).length = j := List.length_replicate
        have hfin : WR w1 wr (.slice (some ⟨g, 0, none⟩) j j) (List.replicate j 48) := ⟨g, cur, by rw [hlen], hbj.out, by rw [hlen]; exact hcz, by rw [hlen, List.map_replicate]; exact hct.out, by rw [Hg.out]; exact Nat.le_refl _⟩
        have hbf := Hbl.out.trans (own_below hfj.out Hbl.out.size (by rw [Hg.out]; exact Nat.le_refl _))
        have Hfin := hide hfin
        have Hbf := hide hbf
        clear hfin hbf hbj hct hfj Hbk Hfr HCt hlen
        go_wp2
        go_returns
        exact ⟨_, rfl, Hfin.out, Hbf.out⟩
end Go.Proofs.YtkgclfagimlneaaDoor
/-
  The walks over decimal numbers: a number's digits with a lower exponent.
-/
namespace Go.Proofs.YtkgclfagimlneaaDoor
open Go.RowKit Go.Proofs Wv Wv.Dc
set_option linter.unusedVariables false

theorem al_digs {dg : List UInt8} (h : AllD dg) (s len : Nat) (hl : dg.length + s ≤ len) : zs (len - dg.length - s) ++ dg ++ zs s = digs len (vd dg * 10 ^ s) := by
  have h1 : AllD (zs (len - dg.length - s) ++ dg ++ zs s) := allD_append (allD_append (allD_zs _) h) (allD_zs _)
  have h2 : (zs (len - dg.length - s) ++ dg ++ zs s).length = len := by
    rw [List.length_append, List.length_append, zs_len, zs_len]
    omega
  have h3 : vd (zs (len - dg.length - s) ++ dg ++ zs s) = vd dg * 10 ^ s := by rw [vd_zs, vd_zs_front]
  have h4 := digs_vd h1
  rw [h2, h3] at h4
  exact h4.symm
set_option maxRecDepth 100000 in
set_option maxHeartbeats 2000000 in
theorem palign_any {w : World} {v : Value} {n : Num} (h : NV w v n) (h0 : n.dg ≠ []) (hd : AllD n.dg) (x : Int) (len : Nat) (hx : x ≤ n.ex) (hx1 : -2000000 ≤ x) (hx2 : n.ex ≤ 2000000) (hl : n.dg.length + (n.ex - x).toNat ≤ len) (hn : len ≤ 8192) :
    Calls Tryd.prog 57 #[v, .int .i64 x, .int .i64 (len : Int)] w fun y w' => ∃ v', y = .returned v' ∧ WR w w' v' (digs len (Al x n)) ∧ Below w.heap.size w w' := by
  obtain ⟨A, cap, rfl, hat, hc, hm⟩ := h
  obtain ⟨b, d, e⟩ := n
  simp only at *
  have hal : Al x ⟨b, d, e⟩ = vd d * 10 ^ (e - x).toNat := rfl
  obtain ⟨s, hs⟩ : ∃ s, (e - x).toNat = s := ⟨_, rfl⟩
  rw [hs] at hal hl
  rw [hal, ← al_digs hd s len hl]
  obtain ⟨l, hdl⟩ : ∃ l, d.length = l := ⟨_, rfl⟩
  have hl0 : 0 < l := by rw [← hdl]; exact List.length_pos_iff.2 h0
  obtain ⟨bA, oA, rfl, hbA, _⟩ := hat 0 (by rw [List.length_map, hdl]; exact hl0)
  rw [hdl] at hl hc
  obtain ⟨p, hp⟩ : ∃ p, len - l - s = p := ⟨_, rfl⟩
  rw [hdl, hp]
  have hes : e - x = (s : Int) := by omega
  have hps : p + l + s = len := by omega
  have hb0 := (Below.refl w.heap.size w).alloc (Nat.le_refl _) (.cells #[.bool b, .slice (some ⟨bA, oA, none⟩) l cap, .int .i64 e] 41)
  have hk0 := Bk.new w 41 #[.bool b, .slice (some ⟨bA, oA, none⟩) l cap, .int .i64 e]
  have hb1 := hb0.alloc hb0.size (.cells #[.int .u8 48] 5)
  have hk1 := hk0.alloc (.cells #[.int .u8 48] 5)
  have hat1 := (hat.alloc (.cells #[.bool b, .slice (some ⟨bA, oA, none⟩) l cap, .int .i64 e] 41)).alloc (.cells #[.int .u8 48] 5)
  have ha48 : At ((w.alloc (.cells #[.bool b, .slice (some ⟨bA, oA, none⟩) l cap, .int .i64 e] 41)).alloc (.cells #[.int .u8 48] 5)) (some ⟨w.heap.size + 1, 0, none⟩) [bv 48] := by
    have := (Bk.new (w.alloc (.cells #[.bool b, .slice (some ⟨bA, oA, none⟩) l cap, .int .i64 e] 41)) 5 #[.int .u8 48]).at_
    rw [World.size_alloc] at this
    exact this
  have Hrep := hide (prep_any ha48 1 len hn (Nat.le_refl _))
  have Hb1 := hide hb1
  have Hk1 := hide hk1
  have Hat1 := hide hat1
  have Hdl := hide hdl
  have hn8 : (len : Int) ≤ 8192 := by omega
  clear hb0 hk0 hb1 hk1 hat1 ha48 hat hal hp hd h0 hs
  go_enter Tryd.func57, Tryd.ntmps57
  go_wp2_with fail
  refine (Hrep.out).mono ?_
  rintro y w2 ⟨v', rfl, ⟨g, cs, rfl, hbk, hcz, hct, hg⟩, hb2⟩
  rw [List.length_replicate] at hcz hct
  rw [List.map_replicate] at hct
  rw [List.length_replicate]
  have hk2 := Hk1.out.below hb2 Hk1.out.lt
  have hat2 := Hat1.out.below hb2
  have hbw2 := Hb1.out.trans (hb2.mono Hb1.out.size)
  have hgw : w.heap.size ≤ g := Nat.le_trans Hb1.out.size hg
  have hrun := run_copy_row (P := Tryd.prog) w2.drew 39 39 3 5 g p (len - p) (len - p) ⟨bA, oA, none⟩ l cap cs 5 (d.map bv) Tryd.underlying39 u8sz hbk (by rw [List.length_map, Hdl.out]; show l = min l (len - p); omega) (fun i u hu => by
    obtain ⟨hi, rfl⟩ := List.getElem?_eq_some_iff.1 hu
    obtain ⟨b', o', hA, hb', hc'⟩ := hat2 i hi
    injection hA with hA
    injection hA with hA1 hA2
    subst hA1; subst hA2
    rw [Go.WideShapes.add_plain]
    exact hc') (by rw [List.length_map, Hdl.out]; omega) (bvs_one d)
  rw [List.length_map, Hdl.out] at hrun
  obtain ⟨C, hC⟩ : ∃ C, (cs.toList.take p ++ d.map bv ++ cs.toList.drop (p + l)).toArray = C := ⟨_, rfl⟩
  rw [hC] at hrun
  have hCs : len ≤ C.size := by
    have hcl : cs.toList.length = cs.size := rfl
    rw [← hC]
    show len ≤ (cs.toList.take p ++ d.map bv ++ cs.toList.drop (p + l)).length
    rw [List.length_append, List.length_append, List.length_take, List.length_map, List.length_drop, Hdl.out, hcl]
    omega
  have hCt : C.toList.take len = (zs p ++ d ++ zs s).map bv := by
    have hp1 : cs.toList.take p = List.replicate p (bv 48) := by
      have : (cs.toList.take len).take p = cs.toList.take p := by rw [List.take_take, Nat.min_eq_left (by omega)]
      rw [← this, hct, List.take_replicate, Nat.min_eq_left (by omega)]
    have hp2 : (cs.toList.drop (p + l)).take s = List.replicate s (bv 48) := by
      have h9 : (cs.toList.take len).drop (p + l) = (cs.toList.drop (p + l)).take (len - (p + l)) := List.drop_take ..
      rw [show len - (p + l) = s by omega] at h9
      rw [← h9, hct, List.drop_replicate, show len - (p + l) = s by omega]
    rw [← hC]
    show (cs.toList.take p ++ d.map bv ++ cs.toList.drop (p + l)).take len = _
    rw [hp1, List.take_append, List.take_of_length_le (by rw [List.length_append, List.length_replicate, List.length_map, Hdl.out]; omega), List.length_append, List.length_replicate, List.length_map, Hdl.out, show len - (p + l) = s by omega, hp2, List.map_append, List.map_append]
    unfold zs
    rw [List.map_replicate, List.map_replicate]
  have hbk3 : Bk (w2.drew.setRow g C) g 5 C := setRow_heap w2.drew g cs C _ (0, 0) hbk
  have hfr : Fr (only g) w2 (w2.drew.setRow g C) := fr_setRow ((Fr.refl (only g) w2).drew) rfl C
  have hbw3 := hbw2.trans (own_below hfr hbw2.size hgw)
  obtain ⟨W3, hW3⟩ : ∃ W3, w2.drew.setRow g C = W3 := ⟨_, rfl⟩
  rw [hW3] at hrun hbk3 hfr hbw3
  have hgo : goInt l = .int .i64 (l : Int) := rfl
  rw [hgo] at hrun
  have hln : (zs p ++ d ++ zs s).length = len := by
    rw [List.length_append, List.length_append, zs_len, zs_len, Hdl.out]
    omega
  have Hfin : Hid (WR w W3 (.slice (some ⟨g, 0, none⟩) len len) (zs p ++ d ++ zs s)) := hide ⟨g, C, by rw [hln], hbk3, by rw [hln]; exact hCs, by rw [hln]; exact hCt, hgw⟩
  have Hbw3 := hide hbw3
  have n1 := hk2.cell 1
  have n2 := hk2.cell 2
  simp at n1 n2
  have hi1 : IntKind.i64.wrap ((len : Int) - (l : Int)) = (len : Int) - (l : Int) := by rw [IntWalk.i64_in _ (by omega)]
  have hi2 : IntKind.i64.wrap (e - x) = (s : Int) := by rw [IntWalk.i64_in _ (by omega), hes]
  have hi3 : IntKind.i64.wrap ((len : Int) - (l : Int) - (s : Int)) = (p : Int) := by rw [IntWalk.i64_in _ (by omega)]; omega
  have hp4 : (p : Int) ≤ (len : Int) := by omega
  have hp5 : (0 : Int) ≤ (p : Int) := by omega
  have hp6 : ¬ len = p := by omega
  have hp7 : ¬ len - p = 0 := by omega
  have hp8 : p ≤ len := by omega
  clear hC hCs hCt hW3 hbk3 hfr hgo hbw3 hbk hcz hct hk2 hat2 hbw2 Hrep Hk1 Hat1 hb2 Hb1 hgw hln
  go_wp2
  go_region
  go_wp2
  go_returns
  exact ⟨_, rfl, Hfin.out, Hbw3.out⟩
end Go.Proofs.YtkgclfagimlneaaDoor
