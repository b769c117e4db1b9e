/-
  The law DecimalIntegers: its walk.
-/
import Derived.Test.YtkgclfagimlneaaDoorJ12
import Derived.Test.YtkgclfagimlneaaDoorJ13
set_option linter.unusedVariables false
set_option linter.unusedSimpArgs false
namespace Go.Proofs.YtkgclfagimlneaaDoor
open Go.RowKit Go.Proofs Wv Wv.Dc
set_option linter.unusedVariables false

def I64 (n : Int) : Prop := -9223372036854775808 ≤ n ∧ n ≤ 9223372036854775807
theorem i64_wf {n : Int} (h : (Lit.int .i64 n).wf = true) : I64 n := bounds_i64 h
theorem integer_any (a : Int) (h : a.natAbs ≤ 1000000000000000000) (w : World) :
    Calls Tryd.prog 17 #[.int .i64 a] w fun x w' => x = .returned (.string (bs (decZ a))) ∧ Below w.heap.size w w' := by
  have H := hide (rdec_any a h w)
  clear h
  go_enter Tryd.func17, Tryd.ntmps17
  go_wp2_with fail
  refine (H.out).mono ?_
  rintro x w1 ⟨rfl, hb⟩
  go_wp2
  go_returns
  exact ⟨rfl, hb⟩
set_option maxRecDepth 100000 in
set_option maxHeartbeats 4000000 in
theorem lints_any (a : Int) (ha : I64 a) (b : Int) (hb : I64 b) (t : Int) (hti : I64 t) {w : World} (ht : Tab w) :
    Calls Tryd.prog 5 #[.int .i64 a, .int .i64 b, .int .i64 t] w fun x w' => x = .returned (.bool true) ∧ Below w.heap.size w w' := by
  have Haw := hide (awake_any ht)
  have Hpa := hide (fun (s : ByteArray) W (h : Below w.heap.size w W) => pparse_any s (ht.below h))
  have Hpl := hide (fun (s : ByteArray) W (h : Below w.heap.size w W) => pplainS_any s (ht.below h))
  have Hcm := hide (fun (s t : ByteArray) W (h : Below w.heap.size w W) => pcmpS_any s t (ht.below h))
  have Hsu := hide (fun (s t : ByteArray) W (h : Below w.heap.size w W) => psumS_any s t (ht.below h))
  have Hwi := hide (fun (s t u : ByteArray) W (h : Below w.heap.size w W) => pwithS_any s t u (ht.below h))
  obtain ⟨ha1, ha2⟩ := ha
  obtain ⟨hb1, hb2⟩ := hb
  obtain ⟨ht1, ht2⟩ := hti
  clear ht
  go_enter Tryd.func5, Tryd.ntmps5
  go_wp2_with fail
  refine (Haw.out).mono ?_
  rintro x w1 ⟨rfl, hbw⟩
  have Hb1 := hide hbw
  clear hbw
  have hway : a < -1099511627776 ∨ (¬ a < -1099511627776 ∧ 1099511627776 < a) ∨ (¬ a < -1099511627776 ∧ ¬ 1099511627776 < a ∧ b < -1099511627776) ∨ (¬ a < -1099511627776 ∧ ¬ 1099511627776 < a ∧ ¬ b < -1099511627776 ∧ 1099511627776 < b) ∨ (¬ a < -1099511627776 ∧ ¬ 1099511627776 < a ∧ ¬ b < -1099511627776 ∧ ¬ 1099511627776 < b ∧ t < 0) ∨ (¬ a < -1099511627776 ∧ ¬ 1099511627776 < a ∧ ¬ b < -1099511627776 ∧ ¬ 1099511627776 < b ∧ ¬ t < 0 ∧ 1099511627776 < t) ∨ (¬ a < -1099511627776 ∧ ¬ 1099511627776 < a ∧ ¬ b < -1099511627776 ∧ ¬ 1099511627776 < b ∧ ¬ t < 0 ∧ ¬ 1099511627776 < t) := by omega
  rcases hway with h1 | ⟨h1, h2⟩ | ⟨h1, h2, h3⟩ | ⟨h1, h2, h3, h4⟩ | ⟨h1, h2, h3, h4, h5⟩ | ⟨h1, h2, h3, h4, h5, h6⟩ | ⟨h1, h2, h3, h4, h5, h6⟩
  · go_wp2
    go_returns
    exact ⟨rfl, Hb1.out⟩
  · go_wp2
    go_returns
    exact ⟨rfl, Hb1.out⟩
  · go_wp2
    go_returns
    exact ⟨rfl, Hb1.out⟩
  · go_wp2
    go_returns
    exact ⟨rfl, Hb1.out⟩
  · go_wp2
    go_returns
    exact ⟨rfl, Hb1.out⟩
  · go_wp2
    go_returns
    exact ⟨rfl, Hb1.out⟩
  · have fa : Fits (intN a) := intN_fits (by omega)
    have fb : Fits (intN b) := intN_fits (by omega)
    have ft : Fits (intN t) := intN_fits (by omega)
    have fs : Fits (intN (a + b)) := intN_fits (by omega)
    have Ia := hide (integer_any a (by omega))
    have Ib := hide (integer_any b (by omega))
    have It := hide (integer_any t (by omega))
    have Is := hide (integer_any (a + b) (by omega))
    have mk : ∀ n : Int, n.natAbs < 10 ^ 15 → Hid (∀ W, Below w.heap.size w W → Calls Tryd.prog 13 #[.string (bs (decZ n))] W fun x w' => x = .returned (.tuple #[.string (bs (ctext (intN n)).1), .int .i64 0]) ∧ Below W.heap.size W w') := fun n hn => hide (fun W h => by
      have := Hpa.out (bs (decZ n)) W h
      rw [toL_bs, ptext_int hn] at this
      exact this)
    have Pa := mk a (by omega)
    have Pb := mk b (by omega)
    have Pt := mk t (by omega)
    have Ps := mk (a + b) (by omega)
    have Su : Hid (∀ W, Below w.heap.size w W → Calls Tryd.prog 18 #[.string (bs (ctext (intN a)).1), .string (bs (ctext (intN b)).1)] W fun x w' => x = .returned (.tuple #[.string (bs (ctext (intN (a + b))).1), .int .i64 0]) ∧ Below W.heap.size W w') := hide (fun W h => by
      have := Hsu.out (bs (ctext (intN a)).1) (bs (ctext (intN b)).1) W h
      have e : sumS (ctext (intN a)).1 (ctext (intN b)).1 = ((ctext (intN (a + b))).1, 0) := by
        unfold sumS
        rw [canN_text fa, canN_text fb]
        simp only
        rw [int_add]
        exact Prod.ext rfl (fits_ok fs)
      rw [toL_bs, toL_bs, e] at this
      exact this)
    have Cm : Hid (∀ W, Below w.heap.size w W → Calls Tryd.prog 19 #[.string (bs (ctext (intN a)).1), .string (bs (ctext (intN b)).1)] W fun x w' => x = .returned (.tuple #[.int .i64 (cmpZ a b), .bool true]) ∧ Below W.heap.size W w') := hide (fun W h => by
      have := Hcm.out (bs (ctext (intN a)).1) (bs (ctext (intN b)).1) W h
      have e : cmpS (ctext (intN a)).1 (ctext (intN b)).1 = (cmpZ a b, true) := by
        unfold cmpS
        rw [canN_text fa, canN_text fb]
        simp only
        rw [int_comp]
      rw [toL_bs, toL_bs, e] at this
      exact this)
    have Pl : Hid (∀ W, Below w.heap.size w W → Calls Tryd.prog 11 #[.string (bs (ctext (intN a)).1)] W fun x w' => x = .returned (.tuple #[.string (bs (decZ a)), .bool true]) ∧ Below W.heap.size W w') := hide (fun W h => by
      have := Hpl.out (bs (ctext (intN a)).1) W h
      have e : plainS (ctext (intN a)).1 = (decZ a, true) := by
        unfold plainS
        rw [canN_text fa]
        simp only
        rw [plain_int (by omega)]
      rw [toL_bs, e] at this
      exact this)
    have Wi : Hid (∀ W, Below w.heap.size w W → Calls Tryd.prog 20 #[.string (bs (ctext (intN a)).1), .string (bs (ctext (intN b)).1), .string (bs (ctext (intN t)).1)] W fun x w' => x = .returned (.bool (decide (a - b ≤ t) && decide (b - a ≤ t))) ∧ Below W.heap.size W w') := hide (fun W h => by
      have := Hwi.out (bs (ctext (intN a)).1) (bs (ctext (intN b)).1) (bs (ctext (intN t)).1) W h
      have e : withS (ctext (intN a)).1 (ctext (intN b)).1 (ctext (intN t)).1 = (decide (a - b ≤ t) && decide (b - a ≤ t)) := by
        unfold withS
        rw [canN_text fa, canN_text fb, canN_text ft]
        simp only
        rw [int_with]
      rw [toL_bs, toL_bs, toL_bs, e] at this
      exact this)
    clear mk fa fb ft fs Hpa Hpl Hcm Hsu Hwi
    generalize bs (ctext (intN a)).1 = SA at *
    generalize bs (ctext (intN b)).1 = SB at *
    generalize bs (ctext (intN t)).1 = ST at *
    generalize bs (ctext (intN (a + b))).1 = SS at *
    generalize bs (decZ a) = DA at *
    generalize bs (decZ b) = DB at *
    generalize bs (decZ t) = DT at *
    generalize bs (decZ (a + b)) = DS at *
    have q1 : (SS.toList != SS.toList) = false := by simp
    have q2 : (DA.toList == DA.toList) = true := by simp
    go_wp2_with fail
    refine (Ia.out _).mono ?_
    rintro x w2 ⟨rfl, hbw⟩
    have Hb2 := hide (bel_step Hb1.out hbw)
    clear hbw
    go_wp2_with fail
    refine (Pa.out _ Hb2.out).mono ?_
    rintro x w3 ⟨rfl, hbw⟩
    have Hb3 := hide (bel_step Hb2.out hbw)
    clear hbw
    go_wp2_with fail
    refine (Ib.out _).mono ?_
    rintro x w4 ⟨rfl, hbw⟩
    have Hb4 := hide (bel_step Hb3.out hbw)
    clear hbw
    go_wp2_with fail
    refine (Pb.out _ Hb4.out).mono ?_
    rintro x w5 ⟨rfl, hbw⟩
    have Hb5 := hide (bel_step Hb4.out hbw)
    clear hbw
    go_wp2_with fail
    refine (It.out _).mono ?_
    rintro x w6 ⟨rfl, hbw⟩
    have Hb6 := hide (bel_step Hb5.out hbw)
    clear hbw
    go_wp2_with fail
    refine (Pt.out _ Hb6.out).mono ?_
    rintro x w7 ⟨rfl, hbw⟩
    have Hb7 := hide (bel_step Hb6.out hbw)
    clear hbw
    go_wp2_with fail
    refine (Is.out _).mono ?_
    rintro x w8 ⟨rfl, hbw⟩
    have Hb8 := hide (bel_step Hb7.out hbw)
    clear hbw
    go_wp2_with fail
    refine (Ps.out _ Hb8.out).mono ?_
    rintro x w9 ⟨rfl, hbw⟩
    have Hb9 := hide (bel_step Hb8.out hbw)
    clear hbw
    go_wp2_with fail
    refine (Su.out _ Hb9.out).mono ?_
    rintro x w10 ⟨rfl, hbw⟩
    have Hb10 := hide (bel_step Hb9.out hbw)
    clear hbw
    go_wp2_with fail
    refine (Cm.out _ Hb10.out).mono ?_
    rintro x w11 ⟨rfl, hbw⟩
    have Hb11 := hide (bel_step Hb10.out hbw)
    clear hbw Ib It Is Pa Pb Pt Ps Su Cm
    have hw3 : (cmpZ a b = -1 ∧ a < b ∧ ¬ b < a) ∨ (cmpZ a b = 0 ∧ ¬ a < b ∧ ¬ b < a) ∨ (cmpZ a b = 1 ∧ ¬ a < b ∧ b < a) := by
      rcases cmpZ_cases a b with ⟨hc, hab⟩ | ⟨hc, hab⟩ | ⟨hc, hab⟩
      · exact .inl ⟨hc, hab, by omega⟩
      · exact .inr (.inl ⟨hc, by omega, by omega⟩)
      · exact .inr (.inr ⟨hc, by omega, hab⟩)
    rcases hw3 with ⟨hc, hab, hba⟩ | ⟨hc, hab, hba⟩ | ⟨hc, hab, hba⟩
    all_goals
      rw [hc]
      clear hc
      go_wp2_with fail
      refine (Pl.out _ Hb11.out).mono ?_
      rintro x w12 ⟨rfl, hbw⟩
      have Hb12 := hide (bel_step Hb11.out hbw)
      clear hbw
      go_wp2_with fail
      refine (Ia.out _).mono ?_
      rintro x w13 ⟨rfl, hbw⟩
      have Hb13 := hide (bel_step Hb12.out hbw)
      clear hbw
      go_wp2_with fail
      refine (Wi.out _ Hb13.out).mono ?_
      rintro x w14 ⟨rfl, hbw⟩
      have Hb14 := hide (bel_step Hb13.out hbw)
      clear hbw
      go_wp2 <;> (go_returns; exact ⟨rfl, Hb14.out⟩)
end Go.Proofs.YtkgclfagimlneaaDoor
