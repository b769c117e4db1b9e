/-
  Joined texts: Fl, Fm, Fn.
-/
import Derived.Test.YtkgclfagimlneaaDoorJ21
set_option linter.unusedVariables false
set_option linter.unusedSimpArgs false
/-
  The walks over the references: the functions on texts.
-/
namespace Go.Proofs.YtkgclfagimlneaaDoor
open Go.RowKit Go.Proofs Wv Wv.Dc
set_option linter.unusedVariables false

theorem sm_trim {n : Num} (h1 : -417 ≤ n.ex) (h2 : n.ex + n.dg.length ≤ 3000) (h3 : n.dg.length ≤ 3000) : Sm (trimN n) := by
  have a1 := trimL_len n.dg
  have a2 := trimR_len (trimL n.dg)
  unfold trimN
  split
  · exact ⟨by decide, by decide, by decide, fun _ => rfl⟩
  · rename_i h
    exact ⟨by simp only; omega, by simp only; omega, by simp only; omega, fun e => absurd e h⟩
theorem sm_add {a b : Num} (ha : Fits a) (hb : Fits b) : Sm (addN a b) := by
  unfold addN
  split
  · exact sm_fits hb
  · rename_i a0
    split
    · exact sm_fits ha
    · rename_i b0
      have x1 := fits_ex ha
      have x2 := fits_ex hb
      have a1 := ha.hi a0
      have b1 := hb.hi b0
      have hl : ((addR a b).dg.length : Int) = lenE a b := by unfold addR; rw [digs_len]
      have he : (addR a b).ex = lowE a b := rfl
      have l1 : (lenE a b : Int) ≤ 819 ∧ -417 ≤ lowE a b ∧ lowE a b + lenE a b ≤ 2000 := by
        have q1 := ha.lo a0
        have q2 := hb.lo b0
        have la : 0 < a.dg.length := List.length_pos_iff.2 a0
        have lb : 0 < b.dg.length := List.length_pos_iff.2 b0
        have r1 : a.ex ≤ firstN a := by unfold firstN; omega
        have r2 : b.ex ≤ firstN b := by unfold firstN; omega
        unfold lenE lowE
        omega
      exact sm_trim (by omega) (by omega) (by omega)
theorem sm_minus {n : Num} (h : Sm n) : Sm (minusN n) := ⟨h.lo, h.hi, h.len, h.zero⟩
theorem sm_abs {n : Num} (h : Sm n) : Sm (absN n) := ⟨h.lo, h.hi, h.len, h.zero⟩
theorem rnegP (n : Num) (w : World) : Calls Tryd.prog 44 #[PV n] w fun x w' => x = .returned (PV (minusN n)) ∧ Below w.heap.size w w' := rnegative_any n w
theorem rsignP (n : Num) (w : World) : Calls Tryd.prog 41 #[PV n] w fun x w' => x = .returned (.int .i64 (signN n)) ∧ Below w.heap.size w w' := rsign_any n w
theorem rtextP {n : Num} (h : Canon n) (hs : Sm n) (w : World) : Calls Tryd.prog 36 #[PV n] w fun x w' => x = .returned (.tuple #[.string (bs (ctext n).1), .int .i64 ((ctext n).2 : Int)]) ∧ Below w.heap.size w w' := by
  have s1 := hs.lo
  have s2 := hs.hi
  have s3 := hs.len
  have hE : -4000000 ≤ fstE n ∧ fstE n ≤ 4000000 := by
    unfold fstE firstN
    split <;> omega
  have := rtext_any n.neg n.dg (fstE n) hE.1 hE.2 (by omega) w
  have e : trimN ⟨n.neg, n.dg, fstE n - n.dg.length + 1⟩ = n := by
    by_cases h0 : n.dg = []
    · obtain ⟨z1, z2⟩ := h.zero h0
      obtain ⟨b, d, x⟩ := n
      simp only at z1 z2 h0
      subst z1; subst z2; subst h0
      rfl
    · have : (⟨n.neg, n.dg, fstE n - n.dg.length + 1⟩ : Num) = n := by
        unfold fstE firstN
        rw [if_neg h0, show n.ex + (n.dg.length : Int) - 1 - n.dg.length + 1 = n.ex by omega]
      rw [this]
      exact trimN_of_canon h
  rw [e] at this
  exact this
theorem rval_no (s : ByteArray) (hs : (s.size : Int) ≤ 9223372036854775807) (h : canN (toL s) = none) (w : World) : Calls Tryd.prog 12 #[.string s] w fun x w' => x = .returned (.bool false) ∧ Below w.heap.size w w' := by
  have := rvalid_any s hs w
  have e : validS (toL s) = false := by unfold validS; rw [h]; rfl
  rw [e] at this
  exact this
theorem rval_yes (s : ByteArray) (hs : (s.size : Int) ≤ 9223372036854775807) {n : Num} (h : canN (toL s) = some n) (w : World) : Calls Tryd.prog 12 #[.string s] w fun x w' => x = .returned (.bool true) ∧ Below w.heap.size w w' := by
  have := rvalid_any s hs w
  have e : validS (toL s) = true := by unfold validS; rw [h]; rfl
  rw [e] at this
  exact this
set_option maxRecDepth 10000 in
set_option maxHeartbeats 1000000 in
theorem rparts_any (s : ByteArray) (hs : (s.size : Int) ≤ 9223372036854775807) {n : Num} (h : canN (toL s) = some n) (w : World) :
    Calls Tryd.prog 43 #[.string s] w fun x w' => x = .returned (PV n) ∧ Below w.heap.size w w' := by
  obtain ⟨m, hm, hmn⟩ := canN_read h
  have Hb0 := hide ((Below.refl w.heap.size w).alloc (Nat.le_refl _) (.cells #[.bool false, .string ⟨#[]⟩, .int .i64 0] 49))
  have Hk0 := hide (Bk.new w 49 #[.bool false, .string ⟨#[]⟩, .int .i64 0])
  have Hrd := hide (rread_all s hs (w.alloc (.cells #[.bool false, .string ⟨#[]⟩, .int .i64 0] 49)))
  rw [hm] at Hrd
  obtain ⟨nr, dr, xr⟩ := n
  obtain ⟨Er, hEr⟩ : ∃ E, fstE ⟨nr, dr, xr⟩ = E := ⟨_, rfl⟩
  have hpr : PV ⟨nr, dr, xr⟩ = .agg #[.bool nr, .string (bs dr), .int .i64 Er] := by unfold PV; rw [hEr]
  rw [hpr]
  have Hmn := hide hmn
  have Hpr := hide hpr
  clear hm hmn hs hpr hEr h
  go_enter Tryd.func43, Tryd.ntmps43
  go_wp2_with fail
  refine (Hrd.out).mono ?_
  rintro x w1 ⟨b, d, e, ok, rfl, hb, rfl, rfl, he1, he2, hdl⟩
  have hst := rstrip_any b d e (by omega) (by omega) (by omega) (w1.alloc (.cells #[.bool b, .string (bs d), .int .i64 e] 49))
  rw [Hmn.out, Hpr.out] at hst
  have Hst := hide hst
  have hk1 := (Hk0.out.below hb Hk0.out.lt).alloc (.cells #[.bool b, .string (bs d), .int .i64 e] 49)
  have hb1 := Hb0.out.trans (hb.mono Hb0.out.size)
  have hb2 := hb1.alloc hb1.size (.cells #[.bool b, .string (bs d), .int .i64 e] 49)
  have Hk1 := hide hk1
  have Hb2 := hide hb2
  clear hst hk1 hb1 hb2 hb he1 he2 hdl Hmn Hpr Hrd Hk0 Hb0
  obtain ⟨SD, hSD⟩ : ∃ S, bs d = S := ⟨_, rfl⟩
  rw [hSD] at Hst Hk1 Hb2 ⊢
  clear hSD
  go_wp2_with fail
  refine (Hst.out).mono ?_
  rintro x w3 ⟨rfl, hb3⟩
  have hk3 := Hk1.out.below hb3 Hk1.out.lt
  have hb4 := Hb2.out.trans (hb3.mono Hb2.out.size)
  obtain ⟨WF, hWF, u0, u1, u2, hbF⟩ := strip_end hk3 hb4 (Nat.le_refl _) nr (bs dr) Er
  have HWF := hide hWF
  have HbF := hide hbF
  have r0 := hk3.cell 0
  have r1 := hk3.cell 1
  have r2 := hk3.cell 2
  have g0 := hk3.frozen 0
  have g1 := hk3.frozen 1
  have g2 := hk3.frozen 2
  simp at r0 r1 r2
  clear hWF hbF hb3 hb4 hk3 Hk1 Hb2 Hst
  go_wp2
  rw [HWF.out]
  refine bodyPost_ret (by simp [results, Tryd.results43, go_sem, u0, u1, u2]; try rfl) rfl ?_
  exact ⟨rfl, HbF.out⟩
set_option maxRecDepth 10000 in
set_option maxHeartbeats 1000000 in
theorem rsumS_any (s t : ByteArray) (hs : (s.size : Int) ≤ 9223372036854775807) (ht : (t.size : Int) ≤ 9223372036854775807) (w : World) :
    Calls Tryd.prog 23 #[.string s, .string t] w fun x w' => x = .returned (.tuple #[.string (bs (sumS (toL s) (toL t)).1), .int .i64 ((sumS (toL s) (toL t)).2 : Int)]) ∧ Below w.heap.size w w' := by
  have hv : sumS (toL s) (toL t) = match canN (toL s), canN (toL t) with | some x, some y => ctext (addN x y) | _, _ => ([], 1) := rfl
  generalize sumS (toL s) (toL t) = z at *
  cases hos : canN (toL s) with
  | none =>
    rw [hos] at hv
    replace hv : z = ([], 1) := hv
    subst hv
    have H1 := hide (rval_no s hs hos)
    clear hos hs ht
    go_enter Tryd.func23, Tryd.ntmps23
    go_wp2_with fail
    refine (H1.out _).mono ?_
    rintro x w1 ⟨rfl, hb⟩
    go_wp2
    go_returns
    exact ⟨rfl, hb⟩
  | some n =>
    have H1 := hide (rval_yes s hs hos)
    cases hot : canN (toL t) with
    | none =>
      rw [hos, hot] at hv
      replace hv : z = ([], 1) := hv
      subst hv
      have H2 := hide (rval_no t ht hot)
      clear hos hot hs ht
      go_enter Tryd.func23, Tryd.ntmps23
      go_wp2_with fail
      refine (H1.out _).mono ?_
      rintro x w1 ⟨rfl, hb⟩
      go_wp2_with fail
      refine (H2.out _).mono ?_
      rintro x w2 ⟨rfl, hb2⟩
      have Hb2 := hide (hb.trans (hb2.mono hb.size))
      clear hb hb2
      go_wp2
      go_returns
      exact ⟨rfl, Hb2.out⟩
    | some m =>
      rw [hos, hot] at hv
      replace hv : z = ctext (addN n m) := hv
      have H2 := hide (rval_yes t ht hot)
      have H3 := hide (rparts_any s hs hos)
      have H4 := hide (rparts_any t ht hot)
      obtain ⟨f1, _⟩ := canN_iff.1 hos
      obtain ⟨f2, _⟩ := canN_iff.1 hot
      have H5 := hide (rsum_any f1.canon f2.canon (sm_fits f1) (sm_fits f2) (fits_ex f1) (fits_ex f2))
      have H6 := hide (rtextP (addN_canon f1.canon f2.canon) (sm_add f1 f2))
      rw [← hv] at H6
      clear hos hot hs ht hv f1 f2
      generalize addN n m = r at *
      go_enter Tryd.func23, Tryd.ntmps23
      go_wp2_with fail
      refine (H1.out _).mono ?_
      rintro x w1 ⟨rfl, hb1⟩
      go_wp2_with fail
      refine (H2.out _).mono ?_
      rintro x w2 ⟨rfl, hb2⟩
      have Hb2 := hide (hb1.trans (hb2.mono hb1.size))
      clear hb1 hb2
      go_wp2_with fail
      refine (H3.out _).mono ?_
      rintro x w3 ⟨rfl, hb3⟩
      have Hb3 := hide (Hb2.out.trans (hb3.mono Hb2.out.size))
      clear hb3
      go_wp2_with fail
      refine (H4.out _).mono ?_
      rintro x w4 ⟨rfl, hb4⟩
      have Hb4 := hide (Hb3.out.trans (hb4.mono Hb3.out.size))
      clear hb4
      go_wp2_with fail
      refine (H5.out _).mono ?_
      rintro x w5 ⟨rfl, hb5⟩
      have Hb5 := hide (Hb4.out.trans (hb5.mono Hb4.out.size))
      clear hb5
      go_wp2_with fail
      refine (H6.out _).mono ?_
      rintro x w6 ⟨rfl, hb6⟩
      have Hb6 := hide (Hb5.out.trans (hb6.mono Hb5.out.size))
      clear hb6
      go_wp2
      go_returns
      exact ⟨rfl, Hb6.out⟩
set_option maxRecDepth 10000 in
set_option maxHeartbeats 1000000 in
theorem rcmpS_any (s t : ByteArray) (hs : (s.size : Int) ≤ 9223372036854775807) (ht : (t.size : Int) ≤ 9223372036854775807) (w : World) :
    Calls Tryd.prog 22 #[.string s, .string t] w fun x w' => x = .returned (.tuple #[.int .i64 (cmpS (toL s) (toL t)).1, .bool (cmpS (toL s) (toL t)).2]) ∧ Below w.heap.size w w' := by
  have hv : cmpS (toL s) (toL t) = match canN (toL s), canN (toL t) with | some x, some y => (compN x y, true) | _, _ => (0, false) := rfl
  generalize cmpS (toL s) (toL t) = z at *
  cases hos : canN (toL s) with
  | none =>
    rw [hos] at hv
    replace hv : z = (0, false) := hv
    subst hv
    have H1 := hide (rval_no s hs hos)
    clear hos hs ht
    go_enter Tryd.func22, Tryd.ntmps22
    go_wp2_with fail
    refine (H1.out _).mono ?_
    rintro x w1 ⟨rfl, hb⟩
    go_wp2
    go_returns
    exact ⟨rfl, hb⟩
  | some n =>
    have H1 := hide (rval_yes s hs hos)
    cases hot : canN (toL t) with
    | none =>
      rw [hos, hot] at hv
      replace hv : z = (0, false) := hv
      subst hv
      have H2 := hide (rval_no t ht hot)
      clear hos hot hs ht
      go_enter Tryd.func22, Tryd.ntmps22
      go_wp2_with fail
      refine (H1.out _).mono ?_
      rintro x w1 ⟨rfl, hb⟩
      go_wp2_with fail
      refine (H2.out _).mono ?_
      rintro x w2 ⟨rfl, hb2⟩
      have Hb2 := hide (hb.trans (hb2.mono hb.size))
      clear hb hb2
      go_wp2
      go_returns
      exact ⟨rfl, Hb2.out⟩
    | some m =>
      rw [hos, hot] at hv
      replace hv : z = (compN n m, true) := hv
      have H2 := hide (rval_yes t ht hot)
      have H3 := hide (rparts_any s hs hos)
      have H4 := hide (rparts_any t ht hot)
      obtain ⟨f1, _⟩ := canN_iff.1 hos
      obtain ⟨f2, _⟩ := canN_iff.1 hot
      have f3 := minusN_fits f2
      have H5 := hide (rsum_any f1.canon f3.canon (sm_fits f1) (sm_fits f3) (fits_ex f1) (fits_ex f3))
      rw [← sign_sum f1.canon f2.canon (fits_ex f1) (fits_ex f2)] at hv
      subst hv
      have H6 := hide (fun W => rnegP m W)
      have H7 := hide (fun W => rsignP (addN n (minusN m)) W)
      clear hos hot hs ht f1 f2 f3
      generalize minusN m = m' at *
      generalize addN n m' = r at *
      go_enter Tryd.func22, Tryd.ntmps22
      go_wp2_with fail
      refine (H1.out _).mono ?_
      rintro x w1 ⟨rfl, hb1⟩
      go_wp2_with fail
      refine (H2.out _).mono ?_
      rintro x w2 ⟨rfl, hb2⟩
      have Hb2 := hide (hb1.trans (hb2.mono hb1.size))
      clear hb1 hb2
      go_wp2_with fail
      refine (H3.out _).mono ?_
      rintro x w3 ⟨rfl, hb3⟩
      have Hb3 := hide (Hb2.out.trans (hb3.mono Hb2.out.size))
      clear hb3
      go_wp2_with fail
      refine (H4.out _).mono ?_
      rintro x w4 ⟨rfl, hb4⟩
      have Hb4 := hide (Hb3.out.trans (hb4.mono Hb3.out.size))
      clear hb4
      go_wp2_with fail
      refine (H6.out _).mono ?_
      rintro x w5 ⟨rfl, hb5⟩
      have Hb5 := hide (Hb4.out.trans (hb5.mono Hb4.out.size))
      clear hb5
      go_wp2_with fail
      refine (H5.out _).mono ?_
      rintro x w6 ⟨rfl, hb6⟩
      have Hb6 := hide (Hb5.out.trans (hb6.mono Hb5.out.size))
      clear hb6
      go_wp2_with fail
      refine (H7.out _).mono ?_
      rintro x w7 ⟨rfl, hb7⟩
      have Hb7 := hide (Hb6.out.trans (hb7.mono Hb6.out.size))
      clear hb7
      go_wp2
      go_returns
      exact ⟨rfl, Hb7.out⟩
set_option maxRecDepth 10000 in
set_option maxHeartbeats 1000000 in
theorem rnegS_any (s : ByteArray) (hs : (s.size : Int) ≤ 9223372036854775807) (w : World) :
    Calls Tryd.prog 27 #[.string s] w fun x w' => x = .returned (.string (bs (negS (toL s)))) ∧ Below w.heap.size w w' := by
  have hv : negS (toL s) = match canN (toL s) with | some n => (ctext (minusN n)).1 | none => [] := rfl
  generalize negS (toL s) = z at *
  cases hos : canN (toL s) with
  | none =>
    rw [hos] at hv
    replace hv : z = [] := hv
    subst hv
    have H1 := hide (rval_no s hs hos)
    clear hos hs
    go_enter Tryd.func27, Tryd.ntmps27
    go_wp2_with fail
    refine (H1.out _).mono ?_
    rintro x w1 ⟨rfl, hb⟩
    go_wp2
    go_returns
    exact ⟨rfl, hb⟩
  | some n =>
    rw [hos] at hv
    replace hv : z = (ctext (minusN n)).1 := hv
    have H1 := hide (rval_yes s hs hos)
    have H3 := hide (rparts_any s hs hos)
    obtain ⟨f1, _⟩ := canN_iff.1 hos
    have f3 := minusN_fits f1
    have H4 := hide (fun W => rnegP n W)
    have H5 := hide (rtextP f3.canon (sm_fits f3))
    subst hv
    clear hos hs f1 f3
    generalize minusN n = m at *
    go_enter Tryd.func27, Tryd.ntmps27
    go_wp2_with fail
    refine (H1.out _).mono ?_
    rintro x w1 ⟨rfl, hb1⟩
    go_wp2_with fail
    refine (H3.out _).mono ?_
    rintro x w3 ⟨rfl, hb3⟩
    have Hb3 := hide (hb1.trans (hb3.mono hb1.size))
    clear hb1 hb3
    go_wp2_with fail
    refine (H4.out _).mono ?_
    rintro x w4 ⟨rfl, hb4⟩
    have Hb4 := hide (Hb3.out.trans (hb4.mono Hb3.out.size))
    clear hb4
    go_wp2_with fail
    refine (H5.out _).mono ?_
    rintro x w5 ⟨rfl, hb5⟩
    have Hb5 := hide (Hb4.out.trans (hb5.mono Hb4.out.size))
    clear hb5
    go_wp2
    go_returns
    exact ⟨rfl, Hb5.out⟩
end Go.Proofs.YtkgclfagimlneaaDoor
/-
  The walks over the references: the sign of a text, tolerances, the text without exponent.
-/
namespace Go.Proofs.YtkgclfagimlneaaDoor
open Go.RowKit Go.Proofs Wv Wv.Dc
set_option linter.unusedVariables false

/-- The first byte of a canonical text tells the sign. -/
theorem text_first {n : Num} (h : Fits n) (h0 : n.dg ≠ []) : ∃ c t, (ctext n).1 = c :: t ∧ t ≠ [] ∧ (c = 45 ↔ n.neg = true) := by
  have e1 := h.len
  have e2 := h.lo h0
  have e3 := h.hi h0
  have hc : (ctext n).1 = (if n.neg then [45] else []) ++ n.dg.take 1 ++ (if 1 < n.dg.length then 46 :: n.dg.drop 1 else []) ++ 101 :: decZ (firstN n) := by
    unfold ctext
    rw [if_neg h0, if_neg (by omega)]
  rw [hc]
  obtain ⟨b, d, x⟩ := n
  match d, h0 with
  | c :: t, _ =>
    have hd : isD c = true := h.canon.all c List.mem_cons_self
    have hne : c ≠ 45 := by
      intro e
      subst e
      exact absurd hd (by decide)
    cases b with
    | true => exact ⟨45, _, rfl, by simp, by simp⟩
    | false => exact ⟨c, _, rfl, by simp, by simp [hne]⟩
set_option maxRecDepth 10000 in
set_option maxHeartbeats 1000000 in
theorem rsignS_any (s : ByteArray) (hs : (s.size : Int) ≤ 9223372036854775807) (w : World) :
    Calls Tryd.prog 25 #[.string s] w fun x w' => x = .returned (.int .i64 (signS (toL s))) ∧ Below w.heap.size w w' := by
  have hv : signS (toL s) = match canN (toL s) with | some n => signN n | none => 0 := rfl
  generalize signS (toL s) = z at *
  cases hos : canN (toL s) with
  | none =>
    rw [hos] at hv
    replace hv : z = 0 := hv
    subst hv
    have H1 := hide (rval_no s hs hos)
    clear hos hs
    go_enter Tryd.func25, Tryd.ntmps25
    go_wp2_with fail
    refine (H1.out _).mono ?_
    rintro x w1 ⟨rfl, hb⟩
    go_wp2
    go_returns
    exact ⟨rfl, hb⟩
  | some n =>
    rw [hos] at hv
    replace hv : z = signN n := hv
    have H1 := hide (rval_yes s hs hos)
    obtain ⟨f1, htx⟩ := canN_iff.1 hos
    have hsg : signN n = if n.dg = [] then 0 else if n.neg then -1 else 1 := rfl
    rw [hsg] at hv
    by_cases h0 : n.dg = []
    · rw [if_pos h0] at hv
      have hct : (ctext n).1 = [48] := by unfold ctext; rw [if_pos h0]
      rw [hct] at htx
      have hse : s = (⟨#[48]⟩ : ByteArray) := by
        have : bs (toL s) = bs [48] := by rw [htx]
        exact this
      have hq : (s.toList == [48]) = true := by
        rw [hse, ByteArray.toList_eq]
        exact beq_self_eq_true _
      have Hv := hide hv
      clear hos hs f1 htx hsg h0 hct hse hv
      go_enter Tryd.func25, Tryd.ntmps25
      go_wp2_with fail
      refine (H1.out _).mono ?_
      rintro x w1 ⟨rfl, hb⟩
      go_wp2
      go_returns
      exact ⟨ret_int Hv.out.symm, hb⟩
    · rw [if_neg h0] at hv
      obtain ⟨c, t, hct, ht0, hcn⟩ := text_first f1 h0
      rw [hct] at htx
      have hz : 0 < s.size := by rw [← toL_length, htx]; simp
      have hsne : (s.toList == [48]) = false := by
        rw [Bool.eq_false_iff]
        intro h
        have h2 : toL s = [48] := by
          rw [ByteArray.toList_eq] at h
          exact eq_of_beq h
        rw [htx] at h2
        injection h2 with h2 h3
        exact ht0 h3
      have hget : (s[0]'hz) = c := by
        have := byte_at s 0 hz
        rw [htx] at this
        injection this with this
        exact this.symm
      obtain ⟨C, hC⟩ : ∃ C, (s[0]'hz).toNat = C := ⟨_, rfl⟩
      have hCn : ((C : Int) == 45) = n.neg := by
        rw [Bool.eq_iff_iff, beq_iff_eq, ← hcn, ← hget, ← hC]
        constructor
        · intro h; exact UInt8.toNat_inj.1 (by rw [show (45 : UInt8).toNat = 45 from rfl]; omega)
        · intro h; rw [h]; rfl
      have hzi : (0 : Int) < (s.size : Int) := by omega
      cases hneg : n.neg with
      | true =>
        rw [hneg] at hv hCn
        simp at hv
        have hC45 : C = 45 := by have := beq_iff_eq.1 hCn; omega
        subst hC45
        have Hv := hide hv
        clear hos hs f1 htx hsg h0 hct hv hcn hneg hget hCn
        go_enter Tryd.func25, Tryd.ntmps25
        go_wp2_with fail
        refine (H1.out _).mono ?_
        rintro x w1 ⟨rfl, hb⟩
        go_wp2
        go_returns
        exact ⟨ret_int Hv.out.symm, hb⟩
      | false =>
        rw [hneg] at hv hCn
        simp at hv
        have Hv := hide hv
        clear hos hs f1 htx hsg h0 hct hv hcn hneg hget
        go_enter Tryd.func25, Tryd.ntmps25
        go_wp2_with fail
        refine (H1.out _).mono ?_
        rintro x w1 ⟨rfl, hb⟩
        go_wp2
        go_returns
        exact ⟨ret_int Hv.out.symm, hb⟩
/-- The cells of a difference. -/
def WdS (w : World) (B : Nat) (s : ByteArray) (e : Int) (W : World) : Prop := W.cell? ⟨B, 0, none⟩ = some (.bool false) ∧ W.cell? ⟨B, 1, none⟩ = some (.string s) ∧ W.cell? ⟨B, 2, none⟩ = some (.int .i64 e) ∧ Below w.heap.size w W
theorem WdS.below {w W W' : World} {B : Nat} {s : ByteArray} {e : Int} (h : WdS w B s e W) (hb : Below W.heap.size W W') : WdS w B s e W' := ⟨keep_cell h.1 hb, keep_cell h.2.1 hb, keep_cell h.2.2.1 hb, h.2.2.2.trans (hb.mono h.2.2.2.size)⟩
theorem WdS.bel {w W : World} {B : Nat} {s : ByteArray} {e : Int} (h : WdS w B s e W) : Below w.heap.size w W := h.2.2.2
set_option maxRecDepth 10000 in
set_option maxHeartbeats 2000000 in
theorem rwithS_any (s t u : ByteArray) (hs : (s.size : Int) ≤ 9223372036854775807) (ht : (t.size : Int) ≤ 9223372036854775807) (hu : (u.size : Int) ≤ 9223372036854775807) (w : World) :
    Calls Tryd.prog 28 #[.string s, .string t, .string u] w fun x w' => x = .returned (.bool (withS (toL s) (toL t) (toL u))) ∧ Below w.heap.size w w' := by
  have hv : withS (toL s) (toL t) (toL u) = match canN (toL s), canN (toL t), canN (toL u) with | some x, some y, some z => withN x y z | _, _, _ => false := rfl
  generalize withS (toL s) (toL t) (toL u) = z at *
  cases hos : canN (toL s) with
  | none =>
    rw [hos] at hv
    replace hv : z = false := hv
    subst hv
    have H1 := hide (rval_no s hs hos)
    clear hos hs ht hu
    go_enter Tryd.func28, Tryd.ntmps28
    go_wp2_with fail
    refine (H1.out _).mono ?_
    rintro x w1 ⟨rfl, hb⟩
    go_wp2
    go_returns
    exact ⟨rfl, hb⟩
  | some n =>
    have H1 := hide (rval_yes s hs hos)
    cases hot : canN (toL t) with
    | none =>
      rw [hos, hot] at hv
      replace hv : z = false := hv
      subst hv
      have H2 := hide (rval_no t ht hot)
      clear hos hot hs ht hu
      go_enter Tryd.func28, Tryd.ntmps28
      go_wp2_with fail
      refine (H1.out _).mono ?_
      rintro x w1 ⟨rfl, hb⟩
      go_wp2_with fail
      refine (H2.out _).mono ?_
      rintro x w2 ⟨rfl, hb2⟩
      have Hb2 := hide (hb.trans (hb2.mono hb.size))
      clear hb hb2
      go_wp2
      go_returns
      exact ⟨rfl, Hb2.out⟩
    | some m =>
      have H2 := hide (rval_yes t ht hot)
      cases hou : canN (toL u) with
      | none =>
        rw [hos, hot, hou] at hv
        replace hv : z = false := hv
        subst hv
        have H3 := hide (rval_no u hu hou)
        clear hos hot hou hs ht hu
        go_enter Tryd.func28, Tryd.ntmps28
        go_wp2_with fail
        refine (H1.out _).mono ?_
        rintro x w1 ⟨rfl, hb⟩
        go_wp2_with fail
        refine (H2.out _).mono ?_
        rintro x w2 ⟨rfl, hb2⟩
        have Hb2 := hide (hb.trans (hb2.mono hb.size))
        clear hb hb2
        go_wp2_with fail
        refine (H3.out _).mono ?_
        rintro x w3 ⟨rfl, hb3⟩
        have Hb3 := hide (Hb2.out.trans (hb3.mono Hb2.out.size))
        clear hb3
        go_wp2
        go_returns
        exact ⟨rfl, Hb3.out⟩
      | some o =>
        rw [hos, hot, hou] at hv
        replace hv : z = withN n m o := hv
        have H3 := hide (rval_yes u hu hou)
        obtain ⟨f1, _⟩ := canN_iff.1 hos
        obtain ⟨f2, _⟩ := canN_iff.1 hot
        obtain ⟨f4, _⟩ := canN_iff.1 hou
        have f3 := minusN_fits f2
        rw [← with_sum f1.canon f2.canon f4.canon (fits_ex f1) (fits_ex f2) (fits_ex f4)] at hv
        have P1 := hide (rparts_any s hs hos)
        have P2 := hide (rparts_any t ht hot)
        have P3 := hide (rparts_any u hu hou)
        have N2 := hide (fun W => rnegP m W)
        have S1 := hide (rsum_any f1.canon f3.canon (sm_fits f1) (sm_fits f3) (fits_ex f1) (fits_ex f3))
        have cd := addN_canon f1.canon f3.canon
        have sd := sm_add f1 f3
        have xd : -417 ≤ (addN n (minusN m)).ex := addN_low (fits_ex f1) (fits_ex f3)
        obtain ⟨d, hd⟩ : ∃ d, addN n (minusN m) = d := ⟨_, rfl⟩
        rw [hd] at hv S1 cd sd xd
        have N3 := hide (fun W => rnegP (absN d) W)
        have cd2 := minusN_canon (absN_canon cd)
        have S2 := hide (rsum_any f4.canon cd2 (sm_fits f4) (sm_minus (sm_abs sd)) (fits_ex f4) xd)
        have G3 := hide (fun W => rsignP (addN o (minusN (absN d))) W)
        obtain ⟨sg, hsg⟩ : ∃ k, signN (addN o (minusN (absN d))) = k := ⟨_, rfl⟩
        rw [hsg] at hv G3
        subst hv
        clear hos hot hou hs ht hu f1 f2 f3 f4 cd cd2 sd xd hd hsg
        obtain ⟨nd, dd, xd⟩ := d
        obtain ⟨Ed, hEd⟩ : ∃ E, fstE ⟨nd, dd, xd⟩ = E := ⟨_, rfl⟩
        have hpd : PV ⟨nd, dd, xd⟩ = .agg #[.bool nd, .string (bs dd), .int .i64 Ed] := by unfold PV; rw [hEd]
        have hpa : PV (absN ⟨nd, dd, xd⟩) = .agg #[.bool false, .string (bs dd), .int .i64 Ed] := by rw [← hEd]; rfl
        rw [hpd] at S1
        rw [hpa] at N3
        clear hpd hpa hEd
        generalize minusN m = m' at *
        generalize minusN (absN ⟨nd, dd, xd⟩) = e' at *
        generalize addN o e' = r at *
        obtain ⟨SD, hSD⟩ : ∃ S, bs dd = S := ⟨_, rfl⟩
        rw [hSD] at S1 N3
        clear hSD
        go_enter Tryd.func28, Tryd.ntmps28
        go_wp2_with fail
        refine (H1.out _).mono ?_
        rintro x w1 ⟨rfl, hb1⟩
        go_wp2_with fail
        refine (H2.out _).mono ?_
        rintro x w2 ⟨rfl, hb2⟩
        have Hb2 := hide (hb1.trans (hb2.mono hb1.size))
        clear hb1 hb2
        go_wp2_with fail
        refine (H3.out _).mono ?_
        rintro x w3 ⟨rfl, hb3⟩
        have Hb3 := hide (Hb2.out.trans (hb3.mono Hb2.out.size))
        clear hb3 Hb2
        go_wp2_with fail
        refine (P1.out _).mono ?_
        rintro x w4 ⟨rfl, hb4⟩
        have Hb4 := hide (Hb3.out.trans (hb4.mono Hb3.out.size))
        clear hb4 Hb3
        go_wp2_with fail
        refine (P2.out _).mono ?_
        rintro x w5 ⟨rfl, hb5⟩
        have Hb5 := hide (Hb4.out.trans (hb5.mono Hb4.out.size))
        clear hb5 Hb4
        go_wp2_with fail
        refine (N2.out _).mono ?_
        rintro x w6 ⟨rfl, hb6⟩
        have Hb6 := hide (Hb5.out.trans (hb6.mono Hb5.out.size))
        clear hb6 Hb5
        go_wp2_with fail
        refine (S1.out _).mono ?_
        rintro x w7 ⟨rfl, hb7⟩
        have hb7' := Hb6.out.trans (hb7.mono Hb6.out.size)
        have hk8 := Bk.new w7 49 #[.bool false, .string SD, .int .i64 Ed]
        have hb9 := hb7'.alloc hb7'.size (.cells #[.bool false, .string SD, .int .i64 Ed] 49)
        have Hk8 := hide hk8
        have Hb9 := hide hb9
        clear hb7 hb7' hk8 hb9 Hb6 H1 H2 H3 P1 P2 N2 S1
        go_upto_region 5 with fail
        obtain ⟨B, hB⟩ : ∃ B, w7.heap.size = B := ⟨_, rfl⟩
        obtain ⟨W7, hW7⟩ : ∃ W, w7.alloc (.cells #[.bool false, .string SD, .int .i64 Ed] 49) = W := ⟨_, rfl⟩
        rw [hB] at Hk8 ⊢
        rw [hW7] at Hk8 Hb9 ⊢
        clear hB hW7
        have H0 : WdS w B SD Ed W7.drew := ⟨Hk8.out.cell 0, Hk8.out.cell 1, Hk8.out.cell 2, Hb9.out.drew⟩
        clear Hk8 Hb9
        unfold WdS at H0
        go_region_held3 (fun W => W.cell? ⟨B, 0, none⟩ = some (.bool false) ∧ W.cell? ⟨B, 1, none⟩ = some (.string SD) ∧ W.cell? ⟨B, 2, none⟩ = some (.int .i64 Ed) ∧ Below w.heap.size w W) (first | exact H0 | assumption | exact WdS.below (by assumption) (by assumption))
          (first
            | (go_at_call 43; with_reducible refine (P3.out _).mono ?_; rintro r wx ⟨rfl, hbx⟩)
            | (go_at_call 44; with_reducible refine (N3.out _).mono ?_; rintro r wx ⟨rfl, hby⟩)
            | (go_at_call 42; with_reducible refine (S2.out _).mono ?_; rintro r wx ⟨rfl, hby⟩)
            | (go_at_call 41; with_reducible refine (G3.out _).mono ?_; rintro r wx ⟨rfl, hby⟩))
        all_goals
          go_wp2
          go_returns
          exact ⟨rfl, WdS.bel (by assumption)⟩
end Go.Proofs.YtkgclfagimlneaaDoor
/-
  The walks over the references: the text without exponent.
-/
namespace Go.Proofs.YtkgclfagimlneaaDoor
open Go.RowKit Go.Proofs Wv Wv.Dc
set_option linter.unusedVariables false

theorem plc_self {n : Num} (h : -417 ≤ n.ex) : plc n n ≤ 417 ∧ 0 ≤ n.ex + plc n n := by unfold plc; omega
set_option maxRecDepth 10000 in
set_option maxHeartbeats 2000000 in
theorem rplainS_any (s : ByteArray) (hs : (s.size : Int) ≤ 9223372036854775807) (w : World) :
    Calls Tryd.prog 24 #[.string s] w fun x w' => x = .returned (.tuple #[.string (bs (plainS (toL s)).1), .bool (plainS (toL s)).2]) ∧ Below w.heap.size w w' := by
  have hv : plainS (toL s) = match canN (toL s) with | some n => (match plainN n with | some p => (p, true) | none => ([], false)) | none => ([], false) := rfl
  generalize plainS (toL s) = z at *
  cases hos : canN (toL s) with
  | none =>
    rw [hos] at hv
    replace hv : z = ([], false) := hv
    subst hv
    have H1 := hide (rval_no s hs hos)
    clear hos hs
    go_enter Tryd.func24, Tryd.ntmps24
    go_wp2_with fail
    refine (H1.out _).mono ?_
    rintro x w1 ⟨rfl, hb⟩
    go_wp2
    go_returns
    exact ⟨rfl, hb⟩
  | some n =>
    rw [hos] at hv
    replace hv : z = match plainN n with | some p => (p, true) | none => ([], false) := hv
    obtain ⟨f1, _⟩ := canN_iff.1 hos
    have H1 := hide (rval_yes s hs hos)
    have P1 := hide (rparts_any s hs hos)
    have sn := sm_fits f1
    obtain ⟨q1, q2⟩ := plc_self (fits_ex f1)
    have Hpl := hide (fun W => rplaces_any sn sn W)
    have hbody : bodyR n = (padL (fixL n (plc n n)) (plc n n + 1)).take ((padL (fixL n (plc n n)) (plc n n + 1)).length - plc n n) ++
      if 0 < plc n n then 46 :: (padL (fixL n (plc n n)) (plc n n + 1)).drop ((padL (fixL n (plc n n)) (plc n n + 1)).length - plc n n) else [] := rfl
    have hpn : plainN n = if 40 < ((if n.neg then [45] else []) ++ bodyR n).length then none else some ((if n.neg then [45] else []) ++ bodyR n) := by rw [← plainR_eq f1.canon]; rfl
    have fl : (fixL n (plc n n)).length ≤ 8000 := by
      have := sn.len
      have := sn.hi
      rw [fixL_len]
      split <;> omega
    have Hfx := hide (fun W => rfixed_any sn (plc n n) q2 (by omega) W)
    have Hpd := hide (fun W => rpad_any (fixL n (plc n n)) (plc n n + 1) (by omega) (by omega) W)
    have tl : plc n n + 1 ≤ (padL (fixL n (plc n n)) (plc n n + 1)).length ∧ (padL (fixL n (plc n n)) (plc n n + 1)).length ≤ 16000 := by
      unfold padL
      rw [List.length_append, zs_len]
      omega
    obtain ⟨q, hq⟩ : ∃ q, plc n n = q := ⟨_, rfl⟩
    rw [hq] at q1 q2 Hpl hbody fl Hfx Hpd tl
    obtain ⟨F, hF⟩ : ∃ F, fixL n q = F := ⟨_, rfl⟩
    rw [hF] at hbody Hfx Hpd tl fl
    obtain ⟨T, hT⟩ : ∃ T, padL F (q + 1) = T := ⟨_, rfl⟩
    rw [hT] at hbody Hpd tl
    obtain ⟨t1, t2⟩ := tl
    obtain ⟨q', hqq⟩ : ∃ k, q + 1 = k := ⟨_, rfl⟩
    rw [hqq] at Hpd t1 hT
    have hq1i : (q : Int) + 1 = (q' : Int) := by omega
    have hq2i : q' ≤ 418 := by omega
    obtain ⟨L, hL⟩ : ∃ L, T.length = L := ⟨_, rfl⟩
    rw [hL] at hbody t1 t2
    obtain ⟨d, hd⟩ : ∃ d, L - q = d := ⟨_, rfl⟩
    rw [hd] at hbody
    have hdi : (L : Int) - (q : Int) = (d : Int) := by omega
    have hdL : (d : Int) ≤ (L : Int) := by omega
    have hsz : (bs T).size = L := by rw [bs_size]; exact hL
    have hx1 : (bs T).extract 0 d = bs (T.take d) := ext_take _ _
    have hx2 : (bs T).extract d (bs T).size = bs (T.drop d) := ext_drop _ _
    have hx3 : (bs T).extract d L = bs (T.drop d) := by rw [← hsz]; exact hx2
    have z1 : (bs (T.take d)).size ≤ 16000 := by rw [bs_size, List.length_take]; omega
    have z2 : (bs (T.drop d)).size ≤ 16000 := by rw [bs_size, List.length_drop]; omega
    obtain ⟨bn, dn, xn⟩ := n
    obtain ⟨E, hE⟩ : ∃ E, fstE ⟨bn, dn, xn⟩ = E := ⟨_, rfl⟩
    have hpv : PV ⟨bn, dn, xn⟩ = .agg #[.bool bn, .string (bs dn), .int .i64 E] := by unfold PV; rw [hE]
    rw [hpv] at P1 Hpl Hfx
    obtain ⟨SD, hSD⟩ : ∃ S, bs dn = S := ⟨_, rfl⟩
    rw [hSD] at P1 Hpl Hfx
    simp only at hpn
    have Hq : Hid (∀ (out : ByteArray), out = bs ((if bn then [45] else []) ++ bodyR ⟨bn, dn, xn⟩) → (40 < out.size → z = ([], false)) ∧ (¬ 40 < out.size → bs z.1 = out ∧ z.2 = true)) := hide (fun out ho => by
      have hz2 : out.size = ((if bn then [45] else []) ++ bodyR ⟨bn, dn, xn⟩).length := by rw [ho]; exact bs_size _
      rw [hz2]
      rw [hpn] at hv
      constructor
      · intro h
        rw [if_pos h] at hv
        exact hv
      · intro h
        rw [if_neg h] at hv
        rw [hv, ho]
        exact ⟨rfl, rfl⟩)
    obtain ⟨BR, hBR⟩ : ∃ BR, bodyR ⟨bn, dn, xn⟩ = BR := ⟨_, rfl⟩
    rw [hBR] at hbody Hq
    have hcat : bs ((if bn then [45] else []) ++ BR) = if bn then (⟨#[45]⟩ : ByteArray) ++ bs BR else bs BR := by
      cases bn
      · simp
      · have e2 : (⟨#[45]⟩ : ByteArray) = bs [45] := rfl
        simp only [if_true]
        rw [e2, bs_append]
    rw [hcat] at Hq
    have hbb : bs BR = if 0 < q then bs (T.take d) ++ (⟨#[46]⟩ : ByteArray) ++ bs (T.drop d) else bs (T.take d) := by
      rw [hbody]
      by_cases h : 0 < q
      · rw [if_pos h, if_pos h]
        have e2 : (⟨#[46]⟩ : ByteArray) = bs [46] := rfl
        have e3 : T.take d ++ 46 :: T.drop d = T.take d ++ [46] ++ T.drop d := by simp
        rw [e2, e3, bs_append, bs_append]
      · rw [if_neg h, if_neg h, List.append_nil]
    rw [hbb] at Hq
    clear hos hs hv f1 sn hqq hbody hpn hq hF hT hd hE hpv hSD hcat hbb hBR fl q2 hL
    generalize bs (T.take d) = S1 at *
    generalize bs (T.drop d) = S2 at *
    generalize bs T = ST at *
    generalize bs F = SF at *
    go_enter Tryd.func24, Tryd.ntmps24
    go_wp2_with fail
    refine (H1.out _).mono ?_
    rintro x w1 ⟨rfl, hb1⟩
    go_wp2_with fail
    refine (P1.out _).mono ?_
    rintro x w2 ⟨rfl, hb2⟩
    have hb3 := hb1.trans (hb2.mono hb1.size)
    have Hb3 := hide (hb3.alloc hb3.size (.cells #[.bool bn, .string SD, .int .i64 E] 49))
    have Hk3 := hide (Bk.new w2 49 #[.bool bn, .string SD, .int .i64 E])
    clear hb1 hb2 hb3 H1 P1
    go_upto_region 4 with fail
    obtain ⟨B, hB⟩ : ∃ B, w2.heap.size = B := ⟨_, rfl⟩
    obtain ⟨W3, hW3⟩ : ∃ W, w2.alloc (.cells #[.bool bn, .string SD, .int .i64 E] 49) = W := ⟨_, rfl⟩
    rw [hB] at Hk3 ⊢
    rw [hW3] at Hk3 Hb3 ⊢
    clear hB hW3
    have n0 := Hk3.out.cell 0
    have n1 := Hk3.out.cell 1
    have n2 := Hk3.out.cell 2
    simp at n0 n1 n2
    go_wp2_with fail
    refine (Hpl.out _).mono ?_
    rintro x w4 ⟨rfl, hb4⟩
    have Hk4 := hide (Hk3.out.below hb4 Hk3.out.lt)
    have Hb4 := hide (Hb3.out.trans (hb4.mono Hb3.out.size))
    clear n0 n1 n2 hb4 Hk3 Hb3 Hpl
    have n0 := Hk4.out.cell 0
    have n1 := Hk4.out.cell 1
    have n2 := Hk4.out.cell 2
    simp at n0 n1 n2
    go_wp2_with fail
    refine (Hfx.out _).mono ?_
    rintro x w5 ⟨rfl, hb5⟩
    have Hk5 := hide (Hk4.out.below hb5 Hk4.out.lt)
    have Hb5 := hide (Hb4.out.trans (hb5.mono Hb4.out.size))
    clear n0 n1 n2 hb5 Hk4 Hb4 Hfx
    go_wp2_with fail
    refine (Hpd.out _).mono ?_
    rintro x w6 ⟨rfl, hb6⟩
    have Hk6 := hide (Hk5.out.below hb6 Hk5.out.lt)
    have Hb6 := hide (Hb5.out.trans (hb6.mono Hb5.out.size))
    have n0 := Hk6.out.cell 0
    simp at n0
    clear hb6 Hk5 Hb5 Hpd Hk6
    have e45 : (⟨#[45]⟩ : ByteArray).size = 1 := rfl
    have e46 : (⟨#[46]⟩ : ByteArray).size = 1 := rfl
    by_cases h0 : 0 < q
    · have h0i : (0 : Int) < (q : Int) := by omega
      cases bn with
      | true =>
        obtain ⟨a1, a2⟩ := Hq.out _ rfl
        simp only [Bool.false_eq_true, if_true, if_false, if_pos h0] at a1 a2
        simp only [ByteArray.size_append, e45, e46] at a1 a2
        by_cases h40 : 40 < 1 + (S1.size + 1 + S2.size)
        · have Ha := hide (a1 h40)
          have h4 : (40 : Int) < (1 : Int) + ((S1.size : Int) + 1 + (S2.size : Int)) := by omega
          clear a1 a2 h40 Hq h0 e45 e46
          go_wp2
          go_returns
          rw [Ha.out]
          exact ⟨rfl, Hb6.out⟩
        · have Ha := hide (a2 h40)
          have h4 : ¬ (40 : Int) < (1 : Int) + ((S1.size : Int) + 1 + (S2.size : Int)) := by omega
          clear a1 a2 h40 Hq h0 e45 e46
          go_wp2
          go_returns
          obtain ⟨x1, x2⟩ := Ha.out
          rw [x1, x2]
          exact ⟨rfl, Hb6.out⟩
      | false =>
        obtain ⟨a1, a2⟩ := Hq.out _ rfl
        simp only [Bool.false_eq_true, if_true, if_false, if_pos h0] at a1 a2
        simp only [ByteArray.size_append, e45, e46] at a1 a2
        by_cases h40 : 40 < S1.size + 1 + S2.size
        · have Ha := hide (a1 h40)
          have h4 : (40 : Int) < (S1.size : Int) + 1 + (S2.size : Int) := by omega
          clear a1 a2 h40 Hq h0 e45 e46
          go_wp2
          go_returns
          rw [Ha.out]
          exact ⟨rfl, Hb6.out⟩
        · have Ha := hide (a2 h40)
          have h4 : ¬ (40 : Int) < (S1.size : Int) + 1 + (S2.size : Int) := by omega
          clear a1 a2 h40 Hq h0 e45 e46
          go_wp2
          go_returns
          obtain ⟨x1, x2⟩ := Ha.out
          rw [x1, x2]
          exact ⟨rfl, Hb6.out⟩
    · have h0i : ¬ (0 : Int) < (q : Int) := by omega
      cases bn with
      | true =>
        obtain ⟨a1, a2⟩ := Hq.out _ rfl
        simp only [Bool.false_eq_true, if_true, if_false, if_neg h0] at a1 a2
        simp only [ByteArray.size_append, e45, e46] at a1 a2
        by_cases h40 : 40 < 1 + S1.size
        · have Ha := hide (a1 h40)
          have h4 : (40 : Int) < (1 : Int) + (S1.size : Int) := by omega
          clear a1 a2 h40 Hq h0 e45 e46
          go_wp2
          go_returns
          rw [Ha.out]
          exact ⟨rfl, Hb6.out⟩
        · have Ha := hide (a2 h40)
          have h4 : ¬ (40 : Int) < (1 : Int) + (S1.size : Int) := by omega
          clear a1 a2 h40 Hq h0 e45 e46
          go_wp2
          go_returns
          obtain ⟨x1, x2⟩ := Ha.out
          rw [x1, x2]
          exact ⟨rfl, Hb6.out⟩
      | false =>
        obtain ⟨a1, a2⟩ := Hq.out _ rfl
        simp only [Bool.false_eq_true, if_true, if_false, if_neg h0] at a1 a2
        by_cases h40 : 40 < S1.size
        · have Ha := hide (a1 h40)
          have h4 : (40 : Int) < (S1.size : Int) := by omega
          clear a1 a2 h40 Hq h0 e45 e46
          go_wp2
          go_returns
          rw [Ha.out]
          exact ⟨rfl, Hb6.out⟩
        · have Ha := hide (a2 h40)
          have h4 : ¬ (40 : Int) < (S1.size : Int) := by omega
          clear a1 a2 h40 Hq h0 e45 e46
          go_wp2
          go_returns
          obtain ⟨x1, x2⟩ := Ha.out
          rw [x1, x2]
          exact ⟨rfl, Hb6.out⟩
end Go.Proofs.YtkgclfagimlneaaDoor
