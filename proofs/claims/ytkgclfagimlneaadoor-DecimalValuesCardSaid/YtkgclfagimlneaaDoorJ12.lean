/-
  The law DecimalCanonical: its walk.
-/
import Derived.Test.YtkgclfagimlneaaDoorJ11
import Derived.Test.YtkgclfagimlneaaDoorJ02
set_option linter.unusedVariables false
set_option linter.unusedSimpArgs false
namespace Go.Proofs.YtkgclfagimlneaaDoor
open Go.RowKit Go.Proofs Wv Wv.Dc
set_option linter.unusedVariables false

theorem ptext_text {n : Num} (h : Fits n) : ptext cl1 (ctext n).1 = ((ctext n).1, 0) := (canN_ptext _).1 (by rw [canN_text h]; rfl)
theorem beq_nat {a : Nat} (h : a ≠ 0) : ((a : Int) == 0) = false := by rw [beq_eq_false_iff_ne]; omega
theorem bne_nat {a : Nat} (h : a ≠ 0) : ((a : Int) != 0) = true := by rw [bne_iff_ne]; omega
set_option maxRecDepth 100000 in
set_option maxHeartbeats 2000000 in
theorem lcanon_any (a : ByteArray) (ha : a.size ≤ 9223372036854775807) (b : ByteArray) (hb : b.size ≤ 9223372036854775807) {w : World} (ht : Tab w) :
    Calls Tryd.prog 6 #[.string a, .string b] w fun x w' => x = .returned (.bool true) ∧ Below w.heap.size w w' := by
  have Haw := hide (awake_any ht)
  have Hpa := hide (fun (s : ByteArray) W (h : Below w.heap.size w W) => pparse_any s (ht.below h))
  have Hva := hide (fun (s : ByteArray) W (h : Below w.heap.size w W) => pvalid_any s (ht.below h))
  have Hcm := hide (fun (s t : ByteArray) W (h : Below w.heap.size w W) => pcmpS_any s t (ht.below h))
  clear ht
  go_enter Tryd.func6, Tryd.ntmps6
  go_wp2_with fail
  refine (Haw.out).mono ?_
  rintro x w1 ⟨rfl, hb1⟩
  have Hb1 := hide hb1
  clear hb1
  go_wp2_with fail
  refine (short_any (l := [a, b]) (at_new (e := 9) (svs [a, b])) 2 2 rfl (by omega)).mono ?_
  rintro x w2 ⟨rfl, rfl⟩
  have Hb2 := hide (bel_step Hb1.out (bel_new w1 (.cells #[.string a, .string b] 9)))
  cases hsh : ([a, b].all fun s => decide (s.size ≤ 100)) with
  | false =>
    go_wp2
    go_returns
    exact ⟨rfl, Hb2.out⟩
  | true =>
    go_wp2_with fail
    refine (Hpa.out a _ Hb2.out).mono ?_
    rintro x w3 ⟨rfl, hb3⟩
    have Hb3 := hide (bel_step Hb2.out hb3)
    clear hb3
    go_wp2_with fail
    refine (Hpa.out b _ Hb3.out).mono ?_
    rintro x w4 ⟨rfl, hb4⟩
    have Hb4 := hide (bel_step Hb3.out hb4)
    clear hb4
    have hxe := @ptext_err cl1 (toL a)
    have hye := @ptext_err cl1 (toL b)
    have hxf := @ptext_fits (toL a)
    have hyf := @ptext_fits (toL b)
    generalize ptext cl1 (toL a) = PX at *
    generalize ptext cl1 (toL b) = PY at *
    obtain ⟨X, e⟩ := PX
    obtain ⟨Y, f⟩ := PY
    simp only at hxe hye hxf hyf ⊢
    by_cases he : e = 0
    · by_cases hf : f = 0
      · obtain ⟨n, fn, hn⟩ := hxf he
        obtain ⟨m, fm, hm⟩ := hyf hf
        subst he; subst hf
        have hn1 : X = (ctext n).1 := by injection hn
        have hm1 : Y = (ctext m).1 := by injection hm
        have hpx : ptext cl1 X = (X, 0) := by rw [hn1]; exact ptext_text fn
        have hcx : canN X = some n := by rw [hn1]; exact canN_text fn
        have hcy : canN Y = some m := by rw [hm1]; exact canN_text fm
        have hvx : validS X = true := by unfold validS; rw [hcx]; rfl
        have hvy : validS Y = true := by unfold validS; rw [hcy]; rfl
        have hc1 : cmpS X Y = (compN n m, true) := by unfold cmpS; rw [hcx, hcy]
        have hc2 : cmpS Y X = (-compN n m, true) := by
          unfold cmpS
          rw [hcx, hcy]
          simp only
          rw [comp_swap fm fn]
        have hz := comp_zero fn fm
        have hxy : X = Y ↔ n = m := ⟨fun h => ctext_inj fn fm (by rw [← hn1, ← hm1, h]), fun h => by rw [hn1, hm1, h]⟩
        obtain ⟨c, hc⟩ : ∃ c, compN n m = c := ⟨_, rfl⟩
        have hcr := cmpZ_in (W n) (W m)
        have hci : -1 ≤ c ∧ c ≤ 1 := by rw [← hc, W_comp fn.canon fm.canon (fits_ex fn) (fits_ex fm)]; exact hcr
        rw [hc] at hc1 hc2 hz
        obtain ⟨ci1, ci2⟩ := hci
        have Hp := hide (fun W h => by
          have := Hpa.out (bs X) W h
          rw [toL_bs, hpx] at this
          exact this)
        have Hv1 := hide (fun W h => by
          have := Hva.out (bs X) W h
          rw [toL_bs, hvx] at this
          exact this)
        have Hv2 := hide (fun W h => by
          have := Hva.out (bs Y) W h
          rw [toL_bs, hvy] at this
          exact this)
        have Hc1 := hide (fun W h => by
          have := Hcm.out (bs X) (bs Y) W h
          rw [toL_bs, toL_bs, hc1] at this
          exact this)
        have Hc2 := hide (fun W h => by
          have := Hcm.out (bs Y) (bs X) W h
          rw [toL_bs, toL_bs, hc2] at this
          exact this)
        have hse := @seq_eq (bs X) (bs Y)
        have hss : ((bs X).toList == (bs X).toList) = true := by simp
        have hfin : ((c == 0) == ((bs X).toList == (bs Y).toList)) = true := by
          rw [hse, beq_iff_eq, Bool.eq_iff_iff, beq_iff_eq, decide_eq_true_iff, bs_inj, hxy]
          exact hz
        have Hfin := hide hfin
        clear hn hm hn1 hm1 hpx hcx hcy hvx hvy hc1 hc2 hz hxy hc fn fm hcr hxe hye hxf hyf hse hfin Hcm Hpa Hva
        generalize bs X = SX at *
        generalize bs Y = SY at *
        go_wp2_with fail
        refine (Hp.out _ Hb4.out).mono ?_
        rintro x w5 ⟨rfl, hb5⟩
        have Hb5 := hide (bel_step Hb4.out hb5)
        clear hb5
        go_wp2_with fail
        refine (Hc1.out _ Hb5.out).mono ?_
        rintro x w6 ⟨rfl, hb6⟩
        have Hb6 := hide (bel_step Hb5.out hb6)
        clear hb6
        go_wp2_with fail
        refine (Hc2.out _ Hb6.out).mono ?_
        rintro x w7 ⟨rfl, hb7⟩
        have Hb7 := hide (bel_step Hb6.out hb7)
        clear hb7
        go_wp2_with fail
        refine (Hv1.out _ Hb7.out).mono ?_
        rintro x w8 ⟨rfl, hb8⟩
        have Hb8 := hide (bel_step Hb7.out hb8)
        clear hb8
        go_wp2_with fail
        refine (Hv2.out _ Hb8.out).mono ?_
        rintro x w9 ⟨rfl, hb9⟩
        have Hb9 := hide (bel_step Hb8.out hb9)
        clear hb9
        go_wp2
        go_returns
        exact ⟨by first | exact ret_bool Hfin.out | (simp only [Hfin.out]; rfl) | skip, Hb9.out⟩
      · subst he
        have hY := hye hf
        subst hY
        have hz := beq_nat hf
        have hz2 := bne_nat hf
        have hem : (bs ([] : List UInt8)).toList.isEmpty = true := emp1 rfl
        clear hf hxe hye hxf hyf Hpa Hva Hcm
        generalize bs X = SX at *
        generalize bs ([] : List UInt8) = SY at *
        go_wp2
        go_returns
        exact ⟨rfl, Hb4.out⟩
    · have hX := hxe he
      subst hX
      have hz := beq_nat he
      have hz2 := bne_nat he
      have hem : (bs ([] : List UInt8)).toList.isEmpty = true := emp1 rfl
      by_cases hf : f = 0
      · subst hf
        clear he hxe hye hxf hyf Hpa Hva Hcm
        generalize bs ([] : List UInt8) = SX at *
        generalize bs Y = SY at *
        go_wp2
        go_returns
        exact ⟨rfl, Hb4.out⟩
      · have hY := hye hf
        subst hY
        have hz3 := beq_nat hf
        have hz4 := bne_nat hf
        clear he hf hxe hye hxf hyf Hpa Hva Hcm
        generalize bs ([] : List UInt8) = SX at *
        go_wp2
        go_returns
        exact ⟨rfl, Hb4.out⟩
end Go.Proofs.YtkgclfagimlneaaDoor
