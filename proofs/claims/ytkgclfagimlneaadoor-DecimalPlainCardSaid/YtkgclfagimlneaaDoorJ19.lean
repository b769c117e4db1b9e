/-
  Joined texts: Ge, Gf, Gg.
-/
import Derived.Test.YtkgclfagimlneaaDoorJ12
import Derived.Test.YtkgclfagimlneaaDoorJ18
set_option linter.unusedVariables false
set_option linter.unusedSimpArgs false
/-
  The law DecimalForms: its walk.
-/
namespace Go.Proofs.YtkgclfagimlneaaDoor
open Go.RowKit Go.Proofs Wv Wv.Dc
set_option linter.unusedVariables false

set_option maxRecDepth 100000 in
set_option maxHeartbeats 2000000 in
theorem lforms_any (s : ByteArray) (hs : s.size ≤ 9223372036854775807) {w : World} (ht : Tab w) :
    Calls Tryd.prog 4 #[.string s] w fun x w' => x = .returned (.bool true) ∧ Below w.heap.size w w' := by
  have Haw := hide (awake_any ht)
  have Hpa := hide (fun W (h : Below w.heap.size w W) => pparse_any s (ht.below h))
  have Hva := hide (fun W (h : Below w.heap.size w W) => pvalid_any s (ht.below h))
  have hsi : (s.size : Int) ≤ 9223372036854775807 := by omega
  have Hrp := hide (fun W => rparse_any s hsi W)
  have Hrv := hide (fun W => rvalid_any s hsi W)
  clear ht hs hsi
  generalize ptext cl1 (toL s) = P at *
  obtain ⟨T, e⟩ := P
  simp only at Hpa Hrp
  generalize bs T = ST at *
  generalize validS (toL s) = v at *
  have q1 : (ST.toList == ST.toList) = true := by simp
  go_enter Tryd.func4, Tryd.ntmps4
  go_wp2_with fail
  refine (Haw.out).mono ?_
  rintro x w1 ⟨rfl, hb1⟩
  have Hb1 := hide hb1
  clear hb1
  go_wp2_with fail
  refine (short_any (l := [s]) (at_new (e := 9) (svs [s])) 1 1 rfl (by omega)).mono ?_
  rintro x w2 ⟨rfl, rfl⟩
  have Hb2 := hide (bel_step Hb1.out (bel_new w1 (.cells #[.string s] 9)))
  cases hsh : ([s].all fun s => decide (s.size ≤ 100)) with
  | false =>
    go_wp2
    go_returns
    exact ⟨rfl, Hb2.out⟩
  | true =>
    go_wp2_with fail
    refine (Hpa.out _ Hb2.out).mono ?_
    rintro x w3 ⟨rfl, hb3⟩
    have Hb3 := hide (bel_step Hb2.out hb3)
    clear hb3
    go_wp2_with fail
    refine (Hrp.out _).mono ?_
    rintro x w4 ⟨rfl, hb4⟩
    have Hb4 := hide (bel_step Hb3.out hb4)
    clear hb4
    go_wp2_with fail
    refine (Hva.out _ Hb4.out).mono ?_
    rintro x w5 ⟨rfl, hb5⟩
    have Hb5 := hide (bel_step Hb4.out hb5)
    clear hb5
    go_wp2_with fail
    refine (Hrv.out _).mono ?_
    rintro x w6 ⟨rfl, hb6⟩
    have Hb6 := hide (bel_step Hb5.out hb6)
    clear hb6
    go_wp2
    go_returns
    exact ⟨by first | rfl | simp, Hb6.out⟩
end Go.Proofs.YtkgclfagimlneaaDoor
/-
  The law DecimalTolerance: its walk.
-/
namespace Go.Proofs.YtkgclfagimlneaaDoor
open Go.RowKit Go.Proofs Wv Wv.Dc
set_option linter.unusedVariables false

theorem with_none {a b t : List UInt8} (h : validS a = false ∨ validS b = false ∨ validS t = false) : withS a b t = false := by
  unfold withS
  rcases h with h | h | h
  · rw [valid_none h]
  · rw [valid_none h]
    cases canN a <;> rfl
  · rw [valid_none h]
    cases canN a
    · rfl
    · cases canN b <;> rfl
set_option maxRecDepth 100000 in
set_option maxHeartbeats 4000000 in
theorem ltol_any (a : ByteArray) (ha : a.size ≤ 9223372036854775807) (b : ByteArray) (hb : b.size ≤ 9223372036854775807) (t : ByteArray) (hti : t.size ≤ 9223372036854775807) {w : World} (ht : Tab w) :
    Calls Tryd.prog 7 #[.string a, .string b, .string t] w fun x w' => x = .returned (.bool true) ∧ Below w.heap.size w w' := by
  have Haw := hide (awake_any ht)
  have Hva := hide (fun W => rvalid_any a (by omega) W)
  have Hvb := hide (fun W => rvalid_any b (by omega) W)
  have Hvt := hide (fun W => rvalid_any t (by omega) W)
  have Hwi := hide (fun (s t u : ByteArray) W (h : Below w.heap.size w W) => pwithS_any s t u (ht.below h))
  have Hsu := hide (fun (s t : ByteArray) W (h : Below w.heap.size w W) => psumS_any s t (ht.below h))
  have Hcm := hide (fun (s t : ByteArray) W (h : Below w.heap.size w W) => pcmpS_any s t (ht.below h))
  have Hsg := hide (fun (s : ByteArray) W (h : Below w.heap.size w W) => psignS_any s (ht.below h))
  have Hnone := hide (@with_none (toL a) (toL b) (toL t))
  clear ht ha hb hti
  obtain ⟨va, hva⟩ : ∃ v, validS (toL a) = v := ⟨_, rfl⟩
  obtain ⟨vb, hvb⟩ : ∃ v, validS (toL b) = v := ⟨_, rfl⟩
  obtain ⟨vt, hvt⟩ : ∃ v, validS (toL t) = v := ⟨_, rfl⟩
  rw [hva] at Hva Hnone
  rw [hvb] at Hvb Hnone
  rw [hvt] at Hvt Hnone
  have HVa := hide hva
  have HVb := hide hvb
  have HVt := hide hvt
  clear hva hvb hvt
  go_enter Tryd.func7, Tryd.ntmps7
  go_wp2_with fail
  refine (Haw.out).mono ?_
  rintro x w1 ⟨rfl, hb1⟩
  have Hb1 := hide hb1
  clear hb1
  go_wp2_with fail
  refine (Hva.out _).mono ?_
  rintro x w2 ⟨rfl, hb2⟩
  have Hb2 := hide (bel_step Hb1.out hb2)
  clear hb2
  have fin : ∀ W, Below w.heap.size w W → withS (toL a) (toL b) (toL t) = false → Calls Tryd.prog 20 #[.string a, .string b, .string t] W fun x w' => x = .returned (.bool false) ∧ Below W.heap.size W w' := fun W h hn => by
    have := Hwi.out a b t W h
    rw [hn] at this
    exact this
  have Hfin := hide fin
  clear fin
  cases va with
  | false =>
    have hn := Hnone.out (.inl rfl)
    have Hn := hide hn
    clear hn
    go_wp2_with fail
    refine (Hfin.out _ Hb2.out Hn.out).mono ?_
    rintro x w3 ⟨rfl, hb3⟩
    have Hb3 := hide (bel_step Hb2.out hb3)
    clear hb3
    go_wp2
    go_returns
    exact ⟨rfl, Hb3.out⟩
  | true =>
    go_wp2_with fail
    refine (Hvb.out _).mono ?_
    rintro x w3 ⟨rfl, hb3⟩
    have Hb3 := hide (bel_step Hb2.out hb3)
    clear hb3
    cases vb with
    | false =>
      have Hn := hide (Hnone.out (.inr (.inl rfl)))
      go_wp2_with fail
      refine (Hfin.out _ Hb3.out Hn.out).mono ?_
      rintro x w4 ⟨rfl, hb4⟩
      have Hb4 := hide (bel_step Hb3.out hb4)
      clear hb4
      go_wp2
      go_returns
      exact ⟨rfl, Hb4.out⟩
    | true =>
      go_wp2_with fail
      refine (Hvt.out _).mono ?_
      rintro x w4 ⟨rfl, hb4⟩
      have Hb4 := hide (bel_step Hb3.out hb4)
      clear hb4
      cases vt with
      | false =>
        have Hn := hide (Hnone.out (.inr (.inr rfl)))
        go_wp2_with fail
        refine (Hfin.out _ Hb4.out Hn.out).mono ?_
        rintro x w5 ⟨rfl, hb5⟩
        have Hb5 := hide (bel_step Hb4.out hb5)
        clear hb5
        go_wp2
        go_returns
        exact ⟨rfl, Hb5.out⟩
      | true =>
        obtain ⟨X, hcx, fx, hx⟩ := valid_some HVa.out
        obtain ⟨Y, hcy, fy, hy⟩ := valid_some HVb.out
        obtain ⟨Z, hcz, fz, hz⟩ := valid_some HVt.out
        obtain ⟨g, hg⟩ : ∃ g, withN X Y Z = g := ⟨_, rfl⟩
        have w1e : withS (toL a) (toL b) (toL t) = g := by unfold withS; rw [hcx, hcy, hcz]; exact hg
        have w2e : withS (toL b) (toL a) (toL t) = g := by unfold withS; rw [hcx, hcy, hcz]; exact (with_swap fy fx fz).trans hg
        have w3e : withS (toL a) (toL b) [48] = (a.toList == b.toList) := by
          unfold withS
          rw [hcx, hcy, canN_zero, seq_eq]
          simp only
          rw [Bool.eq_iff_iff, with_zero fx fy, decide_eq_true_iff]
          constructor
          · intro h; rw [← bs_toL a, ← bs_toL b, hx, hy, h]
          · intro h; exact ctext_inj fx fy (by rw [← hx, ← hy, h])
        have sge : signS (toL t) = signN Z := by unfold signS; rw [hcz]
        obtain ⟨sg0, hsg0⟩ : ∃ z, signN Z = z := ⟨_, rfl⟩
        have hneg : sg0 < 0 → g = false := fun h => by rw [← hg]; exact with_neg fx fy fz (by rw [hsg0]; exact h)
        have sue1 : sumS (toL a) (toL t) = ctext (addN X Z) := by unfold sumS; rw [hcx, hcz]
        have sue2 : sumS (toL b) (toL t) = ctext (addN Y Z) := by unfold sumS; rw [hcy, hcz]
        have fit1 : (ctext (addN X Z)).2 = 0 → canN (ctext (addN X Z)).1 = some (addN X Z) := fun h => canN_text (ctext_fits (addN_canon fx.canon fz.canon) h)
        have fit2 : (ctext (addN Y Z)).2 = 0 → canN (ctext (addN Y Z)).1 = some (addN Y Z) := fun h => canN_text (ctext_fits (addN_canon fy.canon fz.canon) h)
        have hboth := with_both fx fy fz
        rw [hg] at hboth
        obtain ⟨n, hn⟩ : ∃ n, compN Y (addN X Z) = n := ⟨_, rfl⟩
        obtain ⟨m, hm⟩ : ∃ n, compN X (addN Y Z) = n := ⟨_, rfl⟩
        rw [hn, hm] at hboth
        have Wi1 := hide (fun W h => by
          have := Hwi.out a b t W h
          rw [w1e] at this
          exact this)
        have Wi2 := hide (fun W h => by
          have := Hwi.out b a t W h
          rw [w2e] at this
          exact this)
        have Wi3 : Hid (∀ W, Below w.heap.size w W → Calls Tryd.prog 20 #[.string a, .string b, .string ⟨#[48]⟩] W fun x w' => x = .returned (.bool (a.toList == b.toList)) ∧ Below W.heap.size W w') := hide (fun W h => by
          have := Hwi.out a b ⟨#[48]⟩ W h
          rw [show toL ⟨#[48]⟩ = [48] from rfl, w3e] at this
          exact this)
        have Sg := hide (fun W h => by
          have := Hsg.out t W h
          rw [sge, hsg0] at this
          exact this)
        have Su1 := hide (fun W h => by
          have := Hsu.out a t W h
          rw [sue1] at this
          exact this)
        have Su2 := hide (fun W h => by
          have := Hsu.out b t W h
          rw [sue2] at this
          exact this)
        have Cm1 : Hid ((ctext (addN X Z)).2 = 0 → ∀ W, Below w.heap.size w W → Calls Tryd.prog 19 #[.string b, .string (bs (ctext (addN X Z)).1)] W fun x w' => x = .returned (.tuple #[.int .i64 n, .bool true]) ∧ Below W.heap.size W w') := hide (fun h0 W h => by
          have := Hcm.out b (bs (ctext (addN X Z)).1) W h
          have e : cmpS (toL b) (ctext (addN X Z)).1 = (n, true) := by unfold cmpS; rw [hcy, fit1 h0]; simp only; rw [hn]
          rw [toL_bs, e] at this
          exact this)
        have Cm2 : Hid ((ctext (addN Y Z)).2 = 0 → ∀ W, Below w.heap.size w W → Calls Tryd.prog 19 #[.string a, .string (bs (ctext (addN Y Z)).1)] W fun x w' => x = .returned (.tuple #[.int .i64 m, .bool true]) ∧ Below W.heap.size W w') := hide (fun h0 W h => by
          have := Hcm.out a (bs (ctext (addN Y Z)).1) W h
          have e : cmpS (toL a) (ctext (addN Y Z)).1 = (m, true) := by unfold cmpS; rw [hcx, fit2 h0]; simp only; rw [hm]
          rw [toL_bs, e] at this
          exact this)
        have Hboth := hide hboth
        have Hneg := hide hneg
        clear w1e w2e w3e sge sue1 sue2 fit1 fit2 hboth hneg hn hm hg hsg0 hcx hcy hcz hx hy hz fx fy fz Hfin Hnone Hwi Hsu Hcm Hsg
        generalize ctext (addN X Z) = P1 at *
        generalize ctext (addN Y Z) = P2 at *
        obtain ⟨S1, e1⟩ := P1
        obtain ⟨S2, e2⟩ := P2
        simp only at Su1 Su2 Cm1 Cm2
        generalize bs S1 = T1 at *
        generalize bs S2 = T2 at *
        go_wp2_with fail
        refine (Wi1.out _ Hb4.out).mono ?_
        rintro x w5 ⟨rfl, hb5⟩
        have Hb5 := hide (bel_step Hb4.out hb5)
        clear hb5
        go_wp2_with fail
        refine (Wi2.out _ Hb5.out).mono ?_
        rintro x w6 ⟨rfl, hb6⟩
        have Hb6 := hide (bel_step Hb5.out hb6)
        clear hb6
        have q1 : (g != g) = false := by simp
        have q2 : ((a.toList == b.toList) != (a.toList == b.toList)) = false := by simp
        go_wp2_with fail
        refine (Wi3.out _ Hb6.out).mono ?_
        rintro x w7 ⟨rfl, hb7⟩
        have Hb7 := hide (bel_step Hb6.out hb7)
        clear hb7
        go_wp2_with fail
        refine (Sg.out _ Hb7.out).mono ?_
        rintro x w8 ⟨rfl, hb8⟩
        have Hb8 := hide (bel_step Hb7.out hb8)
        clear hb8
        clear Wi1 Wi2 Wi3 Sg
        have hcase : (sg0 < 0 ∧ g = false) ∨ (¬ sg0 < 0) := by
          by_cases h : sg0 < 0
          · exact .inl ⟨h, Hneg.out h⟩
          · exact .inr h
        have tailA : ∀ c : Int, (c ≤ 0 ∧ ¬ 0 < c) ∨ (¬ c ≤ 0 ∧ 0 < c) := fun c => by omega
        rcases hcase with ⟨hs, rfl⟩ | hs
        all_goals
          clear Hneg
          go_wp2_with fail
          refine (Su1.out _ Hb8.out).mono ?_
          rintro x w9 ⟨rfl, hb9⟩
          have Hb9 := hide (bel_step Hb8.out hb9)
          clear hb9
          go_wp2_with fail
          refine (Su2.out _ Hb9.out).mono ?_
          rintro x w10 ⟨rfl, hb10⟩
          have Hb10 := hide (bel_step Hb9.out hb10)
          clear hb10 Su1 Su2
          by_cases he1 : e1 = 0
          · by_cases he2 : e2 = 0
            · have C1 := hide (Cm1.out he1)
              have C2 := hide (Cm2.out he2)
              subst he1; subst he2
              clear Cm1 Cm2
              go_wp2_with fail
              refine (C1.out _ Hb10.out).mono ?_
              rintro x w11 ⟨rfl, hb11⟩
              have Hb11 := hide (bel_step Hb10.out hb11)
              clear hb11
              go_wp2_with fail
              refine (C2.out _ Hb11.out).mono ?_
              rintro x w12 ⟨rfl, hb12⟩
              have Hb12 := hide (bel_step Hb11.out hb12)
              clear hb12 C1 C2
              have hbo := Hboth.out
              clear Hboth tailA
              by_cases hn : n ≤ 0
              · by_cases hm : m ≤ 0
                · rw [decide_eq_true hn, decide_eq_true hm, Bool.and_true] at hbo
                  first
                    | exact absurd hbo (by decide)
                    | (subst hbo
                       go_wp2
                       go_returns
                       exact ⟨by first | rfl | (refine ret_bool ?_; first | (simp; done) | (simp; omega)), Hb12.out⟩)
                · rw [decide_eq_true hn, decide_eq_false hm, Bool.and_false] at hbo
                  first
                    | (subst hbo
                       go_wp2
                       go_returns
                       exact ⟨by first | rfl | (refine ret_bool ?_; first | (simp; done) | (simp; omega)), Hb12.out⟩)
                    | (clear hbo
                       go_wp2
                       go_returns
                       exact ⟨by first | rfl | (refine ret_bool ?_; first | (simp; done) | (simp; omega)), Hb12.out⟩)
              · rw [decide_eq_false hn, Bool.false_and] at hbo
                first
                  | (subst hbo
                     go_wp2
                     go_returns
                     exact ⟨by first | rfl | (refine ret_bool ?_; first | (simp; done) | (simp; omega)), Hb12.out⟩)
                  | (clear hbo
                     go_wp2
                     go_returns
                     exact ⟨by first | rfl | (refine ret_bool ?_; first | (simp; done) | (simp; omega)), Hb12.out⟩)
            · have hz2 := beq_nat he2
              have hz3 := bne_nat he2
              subst he1
              clear he2 Cm1 Cm2 Hboth tailA
              go_wp2
              go_returns
              exact ⟨rfl, Hb10.out⟩
          · have hz2 := beq_nat he1
            have hz3 := bne_nat he1
            clear he1 Cm1 Cm2 Hboth tailA
            go_wp2
            go_returns
            exact ⟨rfl, Hb10.out⟩
end Go.Proofs.YtkgclfagimlneaaDoor
/-
  The law DecimalSums: its walk.
-/
namespace Go.Proofs.YtkgclfagimlneaaDoor
open Go.RowKit Go.Proofs Wv Wv.Dc
set_option linter.unusedVariables false

set_option maxRecDepth 100000 in
set_option maxHeartbeats 4000000 in
theorem lsums_any (a : ByteArray) (ha : a.size ≤ 9223372036854775807) (b : ByteArray) (hb : b.size ≤ 9223372036854775807) (t : ByteArray) (hti : t.size ≤ 9223372036854775807) {w : World} (ht : Tab w) :
    Calls Tryd.prog 9 #[.string a, .string b, .string t] w fun x w' => x = .returned (.bool true) ∧ Below w.heap.size w w' := by
  have Haw := hide (awake_any ht)
  have Hva := hide (fun W => rvalid_any a (by omega) W)
  have Hvb := hide (fun W => rvalid_any b (by omega) W)
  have Hvt := hide (fun W => rvalid_any t (by omega) W)
  have Hsu := hide (fun (s t : ByteArray) W (h : Below w.heap.size w W) => psumS_any s t (ht.below h))
  have Hcm := hide (fun (s t : ByteArray) W (h : Below w.heap.size w W) => pcmpS_any s t (ht.below h))
  have Hsg := hide (fun (s : ByteArray) W (h : Below w.heap.size w W) => psignS_any s (ht.below h))
  have Hng := hide (fun (s : ByteArray) W (h : Below w.heap.size w W) => pnegS_any s (ht.below h))
  clear ht ha hb hti
  obtain ⟨va, hva⟩ : ∃ v, validS (toL a) = v := ⟨_, rfl⟩
  obtain ⟨vb, hvb⟩ : ∃ v, validS (toL b) = v := ⟨_, rfl⟩
  obtain ⟨vt, hvt⟩ : ∃ v, validS (toL t) = v := ⟨_, rfl⟩
  rw [hva] at Hva
  rw [hvb] at Hvb
  rw [hvt] at Hvt
  have HVa := hide hva
  have HVb := hide hvb
  have HVt := hide hvt
  clear hva hvb hvt
  go_enter Tryd.func9, Tryd.ntmps9
  go_wp2_with fail
  refine (Haw.out).mono ?_
  rintro x w1 ⟨rfl, hb1⟩
  have Hb1 := hide hb1
  clear hb1
  go_wp2_with fail
  refine (Hva.out _).mono ?_
  rintro x w2 ⟨rfl, hb2⟩
  have Hb2 := hide (bel_step Hb1.out hb2)
  clear hb2
  cases va with
  | false =>
    go_wp2
    go_returns
    exact ⟨rfl, Hb2.out⟩
  | true =>
    go_wp2_with fail
    refine (Hvb.out _).mono ?_
    rintro x w3 ⟨rfl, hb3⟩
    have Hb3 := hide (bel_step Hb2.out hb3)
    clear hb3
    cases vb with
    | false =>
      go_wp2
      go_returns
      exact ⟨rfl, Hb3.out⟩
    | true =>
      go_wp2_with fail
      refine (Hvt.out _).mono ?_
      rintro x w4 ⟨rfl, hb4⟩
      have Hb4 := hide (bel_step Hb3.out hb4)
      clear hb4
      cases vt with
      | false =>
        go_wp2
        go_returns
        exact ⟨rfl, Hb4.out⟩
      | true =>
        obtain ⟨X, hcx, fx, hx⟩ := valid_some HVa.out
        obtain ⟨Y, hcy, fy, hy⟩ := valid_some HVb.out
        obtain ⟨Z, hcz, fz, hz⟩ := valid_some HVt.out
        have tx : ctext X = (toL a, 0) := Prod.ext hx.symm (fits_ok fx)
        have fmx := minusN_fits fx
        have fmy := minusN_fits fy
        obtain ⟨MX, hMX⟩ : ∃ l, (ctext (minusN X)).1 = l := ⟨_, rfl⟩
        obtain ⟨MY, hMY⟩ : ∃ l, (ctext (minusN Y)).1 = l := ⟨_, rfl⟩
        have cmx : canN MX = some (minusN X) := by rw [← hMX]; exact canN_text fmx
        have cmy : canN MY = some (minusN Y) := by rw [← hMY]; exact canN_text fmy
        have ne1 : negS (toL a) = MX := by unfold negS; rw [hcx]; exact hMX
        have ne2 : negS (toL b) = MY := by unfold negS; rw [hcy]; exact hMY
        have ne3 : negS MX = toL a := by unfold negS; rw [cmx]; simp only; rw [minus_minus fx]; exact hx.symm
        have sg1 : signS MX = -signN X := by unfold signS; rw [cmx]; exact sign_minus fx
        have sg2 : signS (toL a) = signN X := by unfold signS; rw [hcx]
        have su1 : sumS (toL a) (toL b) = ctext (addN X Y) := by unfold sumS; rw [hcx, hcy]
        have su2 : sumS (toL b) (toL a) = ctext (addN X Y) := by unfold sumS; rw [hcx, hcy]; simp only; rw [addN_comm fy fx]
        have su3 : sumS (toL a) MX = ([48], 0) := by unfold sumS; rw [hcx, cmx]; simp only; rw [addN_minus fx]; exact zeroN_text
        have su4 : sumS (toL a) [48] = (toL a, 0) := by unfold sumS; rw [hcx, canN_zero]; simp only; rw [addN_zero fx]; exact tx
        have su5 : sumS (toL a) (toL t) = ctext (addN X Z) := by unfold sumS; rw [hcx, hcz]
        have su6 : sumS (toL b) (toL t) = ctext (addN Y Z) := by unfold sumS; rw [hcy, hcz]
        have fit1 : (ctext (addN X Y)).2 = 0 → Fits (addN X Y) := fun h => ctext_fits (addN_canon fx.canon fy.canon) h
        have fit2 : (ctext (addN X Z)).2 = 0 → Fits (addN X Z) := fun h => ctext_fits (addN_canon fx.canon fz.canon) h
        have fit3 : (ctext (addN Y Z)).2 = 0 → Fits (addN Y Z) := fun h => ctext_fits (addN_canon fy.canon fz.canon) h
        obtain ⟨n, hn⟩ : ∃ n, compN X Y = n := ⟨_, rfl⟩
        have cm1 : cmpS (toL a) (toL b) = (n, true) := by unfold cmpS; rw [hcx, hcy]; simp only; rw [hn]
        have cm2 : (ctext (addN X Z)).2 = 0 → (ctext (addN Y Z)).2 = 0 → cmpS (ctext (addN X Z)).1 (ctext (addN Y Z)).1 = (n, true) := fun h1 h2 => by
          unfold cmpS
          rw [canN_text (fit2 h1), canN_text (fit3 h2)]
          simp only
          rw [comp_add fx fy fz, hn]
        have su7 : (ctext (addN X Y)).2 = 0 → sumS (ctext (addN X Y)).1 MY = (toL a, 0) := fun h => by
          unfold sumS
          rw [canN_text (fit1 h), cmy]
          simp only
          rw [add_back fx fy (fit1 h)]
          exact tx
        have N1 := hide (fun W h => by
          have := Hng.out a W h
          rw [ne1] at this
          exact this)
        have N2 := hide (fun W h => by
          have := Hng.out b W h
          rw [ne2] at this
          exact this)
        have N3 : Hid (∀ W, Below w.heap.size w W → Calls Tryd.prog 26 #[.string (bs MX)] W fun x w' => x = .returned (.string a) ∧ Below W.heap.size W w') := hide (fun W h => by
          have := Hng.out (bs MX) W h
          rw [toL_bs, ne3] at this
          exact this)
        have G1 := hide (fun W h => by
          have := Hsg.out (bs MX) W h
          rw [toL_bs, sg1] at this
          exact this)
        have G2 := hide (fun W h => by
          have := Hsg.out a W h
          rw [sg2] at this
          exact this)
        have S1 := hide (fun W h => by
          have := Hsu.out a b W h
          rw [su1] at this
          exact this)
        have S2 := hide (fun W h => by
          have := Hsu.out b a W h
          rw [su2] at this
          exact this)
        have S3 : Hid (∀ W, Below w.heap.size w W → Calls Tryd.prog 18 #[.string a, .string (bs MX)] W fun x w' => x = .returned (.tuple #[.string ⟨#[48]⟩, .int .i64 0]) ∧ Below W.heap.size W w') := hide (fun W h => by
          have := Hsu.out a (bs MX) W h
          rw [toL_bs, su3] at this
          exact this)
        have S4 : Hid (∀ W, Below w.heap.size w W → Calls Tryd.prog 18 #[.string a, .string ⟨#[48]⟩] W fun x w' => x = .returned (.tuple #[.string a, .int .i64 0]) ∧ Below W.heap.size W w') := hide (fun W h => by
          have := Hsu.out a ⟨#[48]⟩ W h
          rw [show toL ⟨#[48]⟩ = [48] from rfl, su4] at this
          exact this)
        have S5 := hide (fun W h => by
          have := Hsu.out a t W h
          rw [su5] at this
          exact this)
        have S6 := hide (fun W h => by
          have := Hsu.out b t W h
          rw [su6] at this
          exact this)
        have S7 : Hid ((ctext (addN X Y)).2 = 0 → ∀ W, Below w.heap.size w W → Calls Tryd.prog 18 #[.string (bs (ctext (addN X Y)).1), .string (bs MY)] W fun x w' => x = .returned (.tuple #[.string a, .int .i64 0]) ∧ Below W.heap.size W w') := hide (fun h0 W h => by
          have := Hsu.out (bs (ctext (addN X Y)).1) (bs MY) W h
          rw [toL_bs, toL_bs, su7 h0] at this
          exact this)
        have C1 := hide (fun W h => by
          have := Hcm.out a b W h
          rw [cm1] at this
          exact this)
        have C2 : Hid ((ctext (addN X Z)).2 = 0 → (ctext (addN Y Z)).2 = 0 → ∀ W, Below w.heap.size w W → Calls Tryd.prog 19 #[.string (bs (ctext (addN X Z)).1), .string (bs (ctext (addN Y Z)).1)] W fun x w' => x = .returned (.tuple #[.int .i64 n, .bool true]) ∧ Below W.heap.size W w') := hide (fun h1 h2 W h => by
          have := Hcm.out (bs (ctext (addN X Z)).1) (bs (ctext (addN Y Z)).1) W h
          rw [toL_bs, toL_bs, cm2 h1 h2] at this
          exact this)
        obtain ⟨sg, hsg⟩ : ∃ z, signN X = z := ⟨_, rfl⟩
        have hsgb := sgL_in X.neg X.dg.length
        rw [← sgL_eq, hsg] at hsgb
        rw [hsg] at G1 G2
        obtain ⟨sb1, sb2⟩ := hsgb
        clear hsg hn cm1 cm2 su1 su2 su3 su4 su5 su6 su7 sg1 sg2 ne1 ne2 ne3 fit1 fit2 fit3 cmx cmy hMX hMY fmx fmy tx hcx hcy hcz hx hy hz fx fy fz Hsu Hcm Hsg Hng
        generalize ctext (addN X Y) = P1 at *
        generalize ctext (addN X Z) = P2 at *
        generalize ctext (addN Y Z) = P3 at *
        obtain ⟨L1, e1⟩ := P1
        obtain ⟨L2, e2⟩ := P2
        obtain ⟨L3, e3⟩ := P3
        simp only at S1 S2 S5 S6 S7 C2
        generalize bs L1 = T1 at *
        generalize bs L2 = T2 at *
        generalize bs L3 = T3 at *
        generalize bs MX = TX at *
        generalize bs MY = TY at *
        have q1 : (T1.toList != T1.toList) = false := by simp
        have q2 : (a.toList != a.toList) = false := by simp
        have q3 : (a.toList == a.toList) = true := by simp
        have q4 : IntKind.i64.wrap (-sg) = -sg := by rw [IntWalk.i64_in _ (by omega)]
        go_wp2_with fail
        refine (S1.out _ Hb4.out).mono ?_
        rintro x w5 ⟨rfl, hb5⟩
        have Hb5 := hide (bel_step Hb4.out hb5)
        clear hb5
        go_wp2_with fail
        refine (S2.out _ Hb5.out).mono ?_
        rintro x w6 ⟨rfl, hb6⟩
        have Hb6 := hide (bel_step Hb5.out hb6)
        clear hb6
        go_wp2_with fail
        refine (N1.out _ Hb6.out).mono ?_
        rintro x w7 ⟨rfl, hb7⟩
        have Hb7 := hide (bel_step Hb6.out hb7)
        clear hb7
        go_wp2_with fail
        refine (S3.out _ Hb7.out).mono ?_
        rintro x w8 ⟨rfl, hb8⟩
        have Hb8 := hide (bel_step Hb7.out hb8)
        clear hb8
        go_wp2_with fail
        refine (S4.out _ Hb8.out).mono ?_
        rintro x w9 ⟨rfl, hb9⟩
        have Hb9 := hide (bel_step Hb8.out hb9)
        clear hb9
        go_wp2_with fail
        refine (N1.out _ Hb9.out).mono ?_
        rintro x w10 ⟨rfl, hb10⟩
        have Hb10 := hide (bel_step Hb9.out hb10)
        clear hb10
        go_wp2_with fail
        refine (N3.out _ Hb10.out).mono ?_
        rintro x w11 ⟨rfl, hb11⟩
        have Hb11 := hide (bel_step Hb10.out hb11)
        clear hb11
        go_wp2_with fail
        refine (N1.out _ Hb11.out).mono ?_
        rintro x w12 ⟨rfl, hb12⟩
        have Hb12 := hide (bel_step Hb11.out hb12)
        clear hb12
        go_wp2_with fail
        refine (G1.out _ Hb12.out).mono ?_
        rintro x w13 ⟨rfl, hb13⟩
        have Hb13 := hide (bel_step Hb12.out hb13)
        clear hb13
        go_wp2_with fail
        refine (G2.out _ Hb13.out).mono ?_
        rintro x w14 ⟨rfl, hb14⟩
        have Hb14 := hide (bel_step Hb13.out hb14)
        clear hb14
        go_wp2_with fail
        refine (S5.out _ Hb14.out).mono ?_
        rintro x w15 ⟨rfl, hb15⟩
        have Hb15 := hide (bel_step Hb14.out hb15)
        clear hb15
        go_wp2_with fail
        refine (S6.out _ Hb15.out).mono ?_
        rintro x w16 ⟨rfl, hb16⟩
        have Hb16 := hide (bel_step Hb15.out hb16)
        clear hb16 S1 S2 S3 S4 S5 S6 N1 N3 G1 G2
        by_cases he1 : e1 = 0
        · by_cases he2 : e2 = 0
          · by_cases he3 : e3 = 0
            · have S7b := hide (S7.out he1)
              have C2b := hide (C2.out he2 he3)
              subst he1; subst he2; subst he3
              clear S7 C2
              go_wp2_with fail
              refine (C1.out _ Hb16.out).mono ?_
              rintro x w17 ⟨rfl, hb17⟩
              have Hb17 := hide (bel_step Hb16.out hb17)
              clear hb17
              go_wp2_with fail
              refine (C2b.out _ Hb17.out).mono ?_
              rintro x w18 ⟨rfl, hb18⟩
              have Hb18 := hide (bel_step Hb17.out hb18)
              clear hb18
              go_wp2_with fail
              refine (N2.out _ Hb18.out).mono ?_
              rintro x w19 ⟨rfl, hb19⟩
              have Hb19 := hide (bel_step Hb18.out hb19)
              clear hb19
              go_wp2_with fail
              refine (S7b.out _ Hb19.out).mono ?_
              rintro x w20 ⟨rfl, hb20⟩
              have Hb20 := hide (bel_step Hb19.out hb20)
              clear hb20
              go_wp2
              go_returns
              exact ⟨by first | rfl | (refine ret_bool ?_; simp), Hb20.out⟩
            · have hz2 := beq_nat he3
              have hz3 := bne_nat he3
              subst he1; subst he2
              clear he3 S7 C2
              go_wp2
              go_returns
              exact ⟨rfl, Hb16.out⟩
          · have hz2 := beq_nat he2
            have hz3 := bne_nat he2
            subst he1
            clear he2 S7 C2
            go_wp2
            go_returns
            exact ⟨rfl, Hb16.out⟩
        · have hz2 := beq_nat he1
          have hz3 := bne_nat he1
          clear he1 S7 C2
          go_wp2
          go_returns
          exact ⟨rfl, Hb16.out⟩
end Go.Proofs.YtkgclfagimlneaaDoor
