/-
  Joined texts: Fa, Fb.
-/
import Derived.Test.YtkgclfagimlneaaDoorJ03
import Derived.Test.YtkgclfagimlneaaDoorJ02
set_option linter.unusedVariables false
set_option linter.unusedSimpArgs false
/-
  The walks over the references: decimal numbers, digits, signs.
-/
namespace Go.Proofs.YtkgclfagimlneaaDoor
open Go.RowKit Go.Proofs Wv Wv.Dc
set_option linter.unusedVariables false

/-- The exponent of the first digit, none for zero. -/
def fstE (n : Num) : Int := if n.dg = [] then 0 else firstN n
theorem rdigit_any (c : UInt8) (w : World) : Calls Tryd.prog 67 #[.int .u8 (c.toNat : Int)] w fun x w' => x = .returned (.bool (isD c)) ∧ w = w' := by
  have hd : isD c = (decide ((48 : Int) ≤ (c.toNat : Int)) && decide ((c.toNat : Int) ≤ 57)) := by
    unfold isD
    rw [Bool.eq_iff_iff]
    simp
    omega
  obtain ⟨C, hC⟩ : ∃ C, c.toNat = C := ⟨_, rfl⟩
  rw [hC] at hd ⊢
  have Hd := hide hd
  clear hd hC
  by_cases h1 : (48 : Int) ≤ (C : Int)
  · have hd := Hd.out
    rw [decide_eq_true h1, Bool.true_and] at hd
    have Hd2 := hide hd
    clear hd Hd
    go_enter Tryd.func67, Tryd.ntmps67
    go_wp2
    go_returns
    exact ⟨ret_bool Hd2.out.symm, rfl⟩
  · have hd := Hd.out
    rw [decide_eq_false h1, Bool.false_and] at hd
    have Hd2 := hide hd
    clear hd Hd
    go_enter Tryd.func67, Tryd.ntmps67
    go_wp2
    go_returns
    exact ⟨ret_bool Hd2.out.symm, rfl⟩
set_option maxHeartbeats 1000000 in
theorem rdigits_any (s : ByteArray) (k : Nat) (hk : k ≤ s.size) (hs : s.size ≤ 1000000) (w : World) :
    Calls Tryd.prog 54 #[.string s, .int .i64 (k : Int)] w fun x w' => x = .returned (.int .i64 ((dfr ((toL s).drop k)).length : Nat)) ∧ w = w' := by
  have Hget := hide (dfr_get ((toL s).drop k))
  have Hstop := hide (dfr_stop ((toL s).drop k))
  have hdl : (dfr ((toL s).drop k)).length ≤ s.size - k := by
    have := dfr_len ((toL s).drop k)
    rw [List.length_drop, toL_length] at this
    exact this
  obtain ⟨D, hD⟩ : ∃ D, (dfr ((toL s).drop k)).length = D := ⟨_, rfl⟩
  rw [hD] at Hget Hstop hdl ⊢
  have Hat : Hid (∀ j, j < D → ∃ (h : k + j < s.size), isD (s[k + j]'h) = true) := hide (fun j h2 => by
    obtain ⟨c, hc1, hc2⟩ := Hget.out j h2
    have hj : k + j < s.size := by omega
    refine ⟨hj, ?_⟩
    rw [List.getElem?_drop, byte_at s (k + j) hj] at hc1
    injection hc1 with hc1
    rw [hc1]
    exact hc2)
  have Hend : Hid (∀ (h : k + D < s.size), isD (s[k + D]'h) = false) := hide (fun h => by
    refine Hstop.out _ ?_
    rw [List.getElem?_drop]
    exact byte_at s (k + D) h)
  have Hdg := hide (fun c W => rdigit_any c W)
  clear Hget Hstop hD
  go_enter Tryd.func54, Tryd.ntmps54
  go_wp2
  go_loopw [5] (fun iv wr => ∃ j : Nat, j ≤ D ∧ iv = .int .i64 j ∧ wr = w) (fun iv _ => (D - intOf iv).toNat)
  case atStart => exact ⟨0, by omega, rfl, rfl⟩
  case round =>
    obtain ⟨j, hj, rfl, rfl⟩ := hrel
    by_cases hlt : j < D
    · obtain ⟨hjs, hdg⟩ := Hat.out j hlt
      have hdg2 := fun W => Hdg.out (s[k + j]'hjs) W
      rw [hdg] at hdg2
      have Hdg2 := hide hdg2
      have hi : ((k : Int) + (j : Int)).toNat = k + j := by omega
      clear hdg hdg2 Hat Hend
      go_wp2_with (go_at_call 67; refine (Hdg2.out _).mono ?_; rintro r w' ⟨rfl, rfl⟩)
      refine ⟨⟨j + 1, by omega, by go_num, by first | rfl | trivial⟩, ?_⟩
      simp [intOf] <;> omega
    · have hjD : j = D := by omega
      subst hjD
      by_cases hjs : k + j < s.size
      · have hdg := Hend.out hjs
        have hdg2 := fun W => Hdg.out (s[k + j]'hjs) W
        rw [hdg] at hdg2
        have Hdg2 := hide hdg2
        have hi : ((k : Int) + (j : Int)).toNat = k + j := by omega
        clear hdg hdg2 Hat Hend
        go_wp2_with (go_at_call 67; refine (Hdg2.out _).mono ?_; rintro r w' ⟨rfl, rfl⟩)
        go_returns
        exact ⟨rfl, rfl⟩
      · have hjz : ¬ (k : Int) + (j : Int) < (s.size : Int) := by omega
        clear Hat Hend
        go_wp2_with fail
        go_returns
        exact ⟨rfl, rfl⟩
theorem rsign_any (n : Num) (w : World) :
    Calls Tryd.prog 41 #[.agg #[.bool n.neg, .string (bs n.dg), .int .i64 (fstE n)]] w fun x w' => x = .returned (.int .i64 (signN n)) ∧ Below w.heap.size w w' := by
  obtain ⟨b, d, e⟩ := n
  obtain ⟨E, hE⟩ : ∃ E, fstE ⟨b, d, e⟩ = E := ⟨_, rfl⟩
  rw [hE]
  simp only
  have hf : signN ⟨b, d, e⟩ = if d = [] then 0 else if b then -1 else 1 := rfl
  by_cases h1 : d = []
  · rw [if_pos h1] at hf
    have Hf := hide hf
    have hem : (bs d).toList.isEmpty = true := emp1 (by rw [h1]; rfl)
    generalize bs d = S at *
    clear hf h1 hE
    go_enter Tryd.func41, Tryd.ntmps41
    go_wp2
    go_returns
    exact ⟨ret_int Hf.out.symm, (Below.refl w.heap.size w).alloc (Nat.le_refl _) _⟩
  · rw [if_neg h1] at hf
    have hem : (bs d).toList.isEmpty = false := emp0 (by rw [bs_size]; exact List.length_pos_iff.2 h1)
    generalize bs d = S at *
    cases b
    all_goals
      have Hf := hide hf
      clear hf h1 hE
      go_enter Tryd.func41, Tryd.ntmps41
      go_wp2
      go_returns
      exact ⟨ret_int Hf.out.symm, (Below.refl w.heap.size w).alloc (Nat.le_refl _) _⟩
theorem rnegative_any (n : Num) (w : World) :
    Calls Tryd.prog 44 #[.agg #[.bool n.neg, .string (bs n.dg), .int .i64 (fstE n)]] w fun x w' => x = .returned (.agg #[.bool (minusN n).neg, .string (bs (minusN n).dg), .int .i64 (fstE (minusN n))]) ∧ Below w.heap.size w w' := by
  obtain ⟨b, d, e⟩ := n
  have he : fstE (minusN ⟨b, d, e⟩) = fstE ⟨b, d, e⟩ := rfl
  obtain ⟨E, hE⟩ : ∃ E, fstE ⟨b, d, e⟩ = E := ⟨_, rfl⟩
  rw [hE] at he
  rw [he, hE]
  have hd : (minusN ⟨b, d, e⟩).dg = d := rfl
  have hn : (minusN ⟨b, d, e⟩).neg = (!b && decide (d ≠ [])) := rfl
  rw [hd, hn]
  simp only
  by_cases h1 : d = []
  · have hem : (bs d).toList.isEmpty = true := emp1 (by rw [h1]; rfl)
    have hdd : decide (d ≠ []) = false := by rw [decide_eq_false_iff_not]; exact fun h => h h1
    rw [hdd]
    generalize bs d = S at *
    clear h1 hE he hd hn hdd
    cases b
    all_goals
      go_enter Tryd.func44, Tryd.ntmps44
      go_wp2
      go_returns
      exact ⟨rfl, two_below _ _ _⟩
  · have hem : (bs d).toList.isEmpty = false := emp0 (by rw [bs_size]; exact List.length_pos_iff.2 h1)
    have hdd : decide (d ≠ []) = true := by rw [decide_eq_true_iff]; exact h1
    rw [hdd]
    generalize bs d = S at *
    clear h1 hE he hd hn hdd
    cases b
    all_goals
      go_enter Tryd.func44, Tryd.ntmps44
      go_wp2
      go_returns
      exact ⟨rfl, two_below _ _ _⟩
end Go.Proofs.YtkgclfagimlneaaDoor
/-
  The walks over the references: a number in decimal.
-/
namespace Go.Proofs.YtkgclfagimlneaaDoor
open Go.RowKit Go.Proofs Wv Wv.Dc
set_option linter.unusedVariables false

theorem decN_small {n : Nat} (h : n < 10) : decN n = [UInt8.ofNat (48 + n)] := by
  rw [decN, dif_pos h]
theorem decN_big {n : Nat} (h : ¬ n < 10) : decN n = decN (n / 10) ++ [UInt8.ofNat (48 + n % 10)] := by
  rw [decN, dif_neg h]
theorem decN_size : ∀ (n : Nat), n ≤ 1000000000000000000 → (decN n).length ≤ 20 := fun n h => decN_len (by omega) (by omega)
set_option maxRecDepth 10000 in
set_option maxHeartbeats 1000000 in
theorem rdecN_any : ∀ (n : Nat) (w : World), n ≤ 1000000000000000000 →
    Calls Tryd.prog 37 #[.int .i64 (n : Int)] w fun x w' => x = .returned (.string (bs (decN n))) ∧ Below w.heap.size w w' := by
  intro n
  induction n using Nat.strongRecOn with
  | ind n ih =>
    intro w hn
    by_cases h : n < 10
    · have hd := decN_small h
      have Hd := hide hd
      have hni : ¬ (10 : Int) ≤ (n : Int) := by omega
      have hm : (n : Int) % 10 = (n : Int) := by omega
      have hcv := conv_one (P := Tryd.prog) 39 9 5 Tryd.underlying39 Tryd.underlying5 Tryd.underlying9 w (48 + (n : Int))
      have Hb := hide ((Below.refl w.heap.size w).alloc (Nat.le_refl _) (.cells #[.int .u8 (48 + (n : Int))] 5))
      clear hd ih hn h
      go_enter Tryd.func37, Tryd.ntmps37
      go_wp2
      go_returns
      exact ⟨ret_str (by rw [Hd.out]; simp [bs]), Hb.out⟩
    · have hd := decN_big h
      obtain ⟨m, hm⟩ : ∃ m, n / 10 = m := ⟨_, rfl⟩
      obtain ⟨r, hr⟩ : ∃ r, n % 10 = r := ⟨_, rfl⟩
      rw [hm, hr] at hd
      have hni : (10 : Int) ≤ (n : Int) := by omega
      have hq1 : (n : Int) % 10 = (r : Int) := by omega
      have hq2 : (n : Int) / 10 = (m : Int) := by omega
      have hr10 : r < 10 := by omega
      have hz : (bs (decN m)).size ≤ 20 := by rw [bs_size]; exact decN_size m (by omega)
      have Hih := hide (ih m (by omega) (w.alloc (.cells #[.int .u8 (48 + (r : Int))] 5)) (by omega))
      have Hcat : Hid (bs (decN m) ++ ⟨#[48 + UInt8.ofNat r]⟩ = bs (decN n)) := hide (by
        have e1 : (⟨#[48 + UInt8.ofNat r]⟩ : ByteArray) = bs [UInt8.ofNat (48 + r)] := by simp [bs]
        rw [hd, e1, bs_append])
      have hcv := conv_one (P := Tryd.prog) 39 9 5 Tryd.underlying39 Tryd.underlying5 Tryd.underlying9 w (48 + (r : Int))
      have Hb := hide ((Below.refl w.heap.size w).alloc (Nat.le_refl _) (.cells #[.int .u8 (48 + (r : Int))] 5))
      obtain ⟨SM, hSM⟩ : ∃ S, bs (decN m) = S := ⟨_, rfl⟩
      rw [hSM] at hz Hih Hcat
      clear hd ih hm hr hSM h
      go_enter Tryd.func37, Tryd.ntmps37
      go_wp2_with fail
      refine (Hih.out).mono ?_
      rintro x w1 ⟨rfl, hb1⟩
      have Hb1 := hide (Hb.out.trans (hb1.mono Hb.out.size))
      clear hb1
      go_wp2
      go_returns
      exact ⟨ret_str Hcat.out, Hb1.out⟩
theorem decZ_size (a : Int) (h : a.natAbs ≤ 1000000000000000000) : (decZ a).length ≤ 21 := by
  unfold decZ
  split
  · have := decN_size (-a).toNat (by omega)
    rw [List.length_cons]
    omega
  · have := decN_size a.toNat (by omega)
    omega
set_option maxRecDepth 10000 in
set_option maxHeartbeats 1000000 in
theorem rdec_any (a : Int) (h : a.natAbs ≤ 1000000000000000000) (w : World) :
    Calls Tryd.prog 37 #[.int .i64 a] w fun x w' => x = .returned (.string (bs (decZ a))) ∧ Below w.heap.size w w' := by
  by_cases h0 : a < 0
  · obtain ⟨n, rfl⟩ : ∃ n : Nat, a = -(n : Int) := ⟨(-a).toNat, by omega⟩
    have hd : decZ (-(n : Int)) = 45 :: decN n := by
      unfold decZ
      rw [if_pos h0, Int.neg_neg, Int.toNat_natCast]
    have Hr := hide (rdecN_any n w (by omega))
    have hz : (bs (decN n)).size ≤ 20 := by rw [bs_size]; exact decN_size n (by omega)
    have Hcat : Hid ((⟨#[45]⟩ : ByteArray) ++ bs (decN n) = bs (decZ (-(n : Int)))) := hide (by
      have e1 : (⟨#[45]⟩ : ByteArray) = bs [45] := rfl
      rw [hd, e1, bs_append]
      rfl)
    obtain ⟨SM, hSM⟩ : ∃ S, bs (decN n) = S := ⟨_, rfl⟩
    rw [hSM] at hz Hr Hcat
    have hw : wrap64 (n : Int) = (n : Int) := by unfold wrap64; omega
    have hnp : 0 < n := by omega
    have hnq : (0 : Int) < (n : Int) := by omega
    clear hd hSM h h0
    go_enter Tryd.func37, Tryd.ntmps37
    go_wp2_with fail
    refine (Hr.out).mono ?_
    rintro x w1 ⟨rfl, hb1⟩
    go_wp2
    go_returns
    exact ⟨ret_str Hcat.out, hb1⟩
  · obtain ⟨n, rfl⟩ := Int.eq_ofNat_of_zero_le (show 0 ≤ a by omega)
    have hd : decZ (n : Int) = decN n := by
      unfold decZ
      rw [if_neg (by omega), Int.toNat_natCast]
    rw [hd]
    exact rdecN_any n w (by omega)
end Go.Proofs.YtkgclfagimlneaaDoor
