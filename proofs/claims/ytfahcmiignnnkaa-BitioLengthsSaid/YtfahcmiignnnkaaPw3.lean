/-
  The walks over the bit strings of the program: what the kinds' functions answer: valid, size, write.
-/
import Derived.Test.YtfahcmiignnnkaaPw2
namespace Go.Proofs.Ytfahcmiignnnkaa
open Go.RowKit Go.Proofs Wv Wv.Bit

theorem ret_b {a b : Bool} (h : a = b) : Ending.returned (.bool a) = .returned (.bool b) := by rw [h]
theorem div_zero_iff {v : Int} (h : 0 ≤ v) (p : Nat) : (v / 2 ^ p == 0) = decide (v < 2 ^ p) := by
  obtain ⟨n, rfl⟩ := Int.eq_ofNat_of_zero_le h
  rw [pow_cast, ← Int.natCast_ediv]
  have h1 := Nat.two_pow_pos p
  have h2 : n / 2 ^ p = 0 ↔ n < 2 ^ p := by rw [Nat.div_eq_zero_iff]; omega
  rw [Bool.eq_iff_iff, beq_iff_eq, decide_eq_true_eq]
  omega

set_option maxHeartbeats 400000 in
theorem kvalid0 (p v : Int) (h0 : 0 ≤ p) (h1 : p ≤ 62) (hv1 : -9223372036854775808 ≤ v) (hv2 : v ≤ 9223372036854775807) (w : World) :
    Calls Try.prog 43 #[.int .i64 p, .int .i64 v] w fun e w' => e = .returned (.bool (vld 0 p v)) ∧ ∃ q, w' = w.drewN q := by
  have hp : par 0 p = true := by simp [par]; omega
  by_cases hv : 0 ≤ v
  · have hr : vld 0 p v = decide (v < 2 ^ p.toNat) := by simp [vld, hp, hv]
    have Hr := hide hr
    have Hz := hide (div_zero_iff hv p.toNat)
    clear hr hp
    skip
    go_enter Try.func43, Try.ntmps43
    go_wp2
    go_ret
    exact ⟨ret_b (Hz.out.trans Hr.out.symm), 0, rfl⟩
  · have hr : vld 0 p v = false := by simp [vld, hp, hv]
    have Hr := hide hr
    clear hr hp
    go_enter Try.func43, Try.ntmps43
    go_wp2
    go_ret
    exact ⟨ret_b Hr.out.symm, 0, rfl⟩

set_option maxHeartbeats 400000 in
theorem kvalid1 (v : Int) (hv1 : -9223372036854775808 ≤ v) (hv2 : v ≤ 9223372036854775807) (w : World) :
    Calls Try.prog 42 #[.int .i64 0, .int .i64 v] w fun e w' => e = .returned (.bool (vld 1 0 v)) ∧ ∃ q, w' = w.drewN q := by
  have hp : par 1 0 = true := rfl
  by_cases hv : 0 ≤ v
  · have hr : vld 1 0 v = decide (v ≤ 4096) := by simp [vld, hp, hv]
    have Hr := hide hr
    clear hr hp
    go_enter Try.func42, Try.ntmps42
    go_wp2
    go_ret
    exact ⟨ret_b Hr.out.symm, 0, rfl⟩
  · have hr : vld 1 0 v = false := by simp [vld, hv]
    have Hr := hide hr
    clear hr hp
    go_enter Try.func42, Try.ntmps42
    go_wp2
    go_ret
    exact ⟨ret_b Hr.out.symm, 0, rfl⟩

set_option maxHeartbeats 400000 in
theorem kvalid2 (p v : Int) (h0 : 0 ≤ p) (h1 : p ≤ 30) (hv1 : -9223372036854775808 ≤ v) (hv2 : v ≤ 9223372036854775807) (w : World) :
    Calls Try.prog 42 #[.int .i64 p, .int .i64 v] w fun e w' => e = .returned (.bool (vld 2 p v)) ∧ ∃ q, w' = w.drewN q := by
  have hp : par 2 p = true := by simp [par]; omega
  by_cases hv : 0 ≤ v
  · have hr : vld 2 p v = decide (v / 2 ^ p.toNat ≤ 4096) := by simp [vld, hp, hv]
    have Hr := hide hr
    skip
    clear hr hp
    skip
    go_enter Try.func42, Try.ntmps42
    go_wp2
    go_ret
    exact ⟨ret_b (Hr.out.symm), 0, rfl⟩
  · have hr : vld 2 p v = false := by simp [vld, hp, hv]
    have Hr := hide hr
    clear hr hp
    go_enter Try.func42, Try.ntmps42
    go_wp2
    go_ret
    exact ⟨ret_b Hr.out.symm, 0, rfl⟩

set_option maxHeartbeats 400000 in
theorem kvalid3 (p v : Int) (h0 : 0 ≤ p) (h1 : p ≤ 30) (hv1 : -9223372036854775808 ≤ v) (hv2 : v ≤ 9223372036854775807) (w : World) :
    Calls Try.prog 56 #[.int .i64 p, .int .i64 v] w fun e w' => e = .returned (.bool (vld 3 p v)) ∧ ∃ q, w' = w.drewN q := by
  have hp : par 3 p = true := by simp [par]; omega
  by_cases hv : 0 ≤ v
  · have hr : vld 3 p v = decide (v ≤ 4611686018427387903) := by simp [vld, hp, hv]
    have Hr := hide hr
    skip
    clear hr hp
    skip
    go_enter Try.func56, Try.ntmps56
    go_wp2
    go_ret
    exact ⟨ret_b (Hr.out.symm), 0, rfl⟩
  · have hr : vld 3 p v = false := by simp [vld, hp, hv]
    have Hr := hide hr
    clear hr hp
    go_enter Try.func56, Try.ntmps56
    go_wp2
    go_ret
    exact ⟨ret_b Hr.out.symm, 0, rfl⟩

set_option maxHeartbeats 400000 in
theorem kvalid4 (p v : Int) (h0 : 1 ≤ p) (h1 : p ≤ 4294967296) (hv1 : -9223372036854775808 ≤ v) (hv2 : v ≤ 9223372036854775807) (w : World) :
    Calls Try.prog 61 #[.int .i64 p, .int .i64 v] w fun e w' => e = .returned (.bool (vld 4 p v)) ∧ ∃ q, w' = w.drewN q := by
  have hp : par 4 p = true := by simp [par]; omega
  by_cases hv : 0 ≤ v
  · have hr : vld 4 p v = decide (v < p) := by simp [vld, hp, hv]
    have Hr := hide hr
    skip
    clear hr hp
    skip
    go_enter Try.func61, Try.ntmps61
    go_wp2
    go_ret
    exact ⟨ret_b (Hr.out.symm), 0, rfl⟩
  · have hr : vld 4 p v = false := by simp [vld, hp, hv]
    have Hr := hide hr
    clear hr hp
    go_enter Try.func61, Try.ntmps61
    go_wp2
    go_ret
    exact ⟨ret_b Hr.out.symm, 0, rfl⟩

set_option maxHeartbeats 400000 in
theorem ksize0 (p v : Int) (h : vld 0 p v = true) (w : World) :
    Calls Try.prog 44 #[.int .i64 p, .int .i64 v] w fun e w' => e = .returned (.int .i64 ((cbits 0 p.toNat v.toNat).length : Nat)) ∧ ∃ q, w' = w.drewN q := by
  have hc := vld_cases h
  have hl := hide (show (cbits 0 p.toNat v.toNat).length = p.toNat from by simp [cbits, num_length])
  have h0 : 0 ≤ p := by omega
  clear hc h
  go_enter Try.func44, Try.ntmps44
  go_wp2
  go_ret
  exact ⟨ret_int1 (by rw [hl.out]; omega), 0, rfl⟩

set_option maxHeartbeats 400000 in
theorem ksize1 (p v : Int) (h : vld 1 p v = true) (w : World) :
    Calls Try.prog 48 #[.int .i64 p, .int .i64 v] w fun e w' => e = .returned (.int .i64 ((cbits 1 p.toNat v.toNat).length : Nat)) ∧ ∃ q, w' = w.drewN q := by
  have hc := vld_cases h
  have hl := hide (show (cbits 1 p.toNat v.toNat).length = v.toNat + 1 from by simp [cbits, una_length])
  have h0 : 0 ≤ v := by omega
  have h1 : v ≤ 4096 := by omega
  clear hc h
  go_enter Try.func48, Try.ntmps48
  go_wp2
  go_ret
  exact ⟨ret_int1 (by rw [hl.out]; omega), 0, rfl⟩

set_option maxHeartbeats 400000 in
theorem ksize2 (p v : Int) (h : vld 2 p v = true) (w : World) :
    Calls Try.prog 53 #[.int .i64 p, .int .i64 v] w fun e w' => e = .returned (.int .i64 ((cbits 2 p.toNat v.toNat).length : Nat)) ∧ ∃ q, w' = w.drewN q := by
  have hc := vld_cases h
  obtain ⟨hv0, hc⟩ := hc
  obtain ⟨h0, h1, h2⟩ : 0 ≤ p ∧ p ≤ 30 ∧ v / 2 ^ p.toNat ≤ 4096 := by omega
  have h3 : 0 ≤ v / 2 ^ p.toNat := Int.ediv_nonneg hv0 (Int.pow_nonneg (by omega))
  have hl := hide (show (cbits 2 p.toNat v.toNat).length = (v / 2 ^ p.toNat).toNat + 1 + p.toNat from by rw [toNat_div hv0]; simp [cbits, una_length, num_length])
  clear hc h
  go_enter Try.func53, Try.ntmps53
  go_wp2
  go_ret
  exact ⟨ret_int1 (by rw [hl.out]; omega), 0, rfl⟩

set_option maxHeartbeats 400000 in
theorem ksize3 (p v : Int) (h : vld 3 p v = true) (w : World) :
    Calls Try.prog 57 #[.int .i64 p, .int .i64 v] w fun e w' => e = .returned (.int .i64 ((cbits 3 p.toNat v.toNat).length : Nat)) ∧ ∃ q, w' = w.drewN q := by
  have hc := vld_cases h
  obtain ⟨hv0, hc⟩ := hc
  obtain ⟨h0, h1, h2⟩ : 0 ≤ p ∧ p ≤ 30 ∧ v ≤ 4611686018427387903 := by omega
  obtain ⟨p, rfl⟩ := Int.eq_ofNat_of_zero_le h0
  obtain ⟨v, rfl⟩ := Int.eq_ofNat_of_zero_le hv0
  rw [Int.toNat_natCast, Int.toNat_natCast]
  have e2 := pow30 p (by omega)
  have e3 := Nat.two_pow_pos p
  have hn2 : p + 1 ≤ blen (v + 2 ^ p) := by
    rcases Nat.lt_or_ge p (blen (v + 2 ^ p)) with h | h
    · exact h
    · have := blen_lt (v + 2 ^ p)
      have := Nat.pow_le_pow_right (show 0 < 2 by omega) h
      omega
  have hn3 := blen_le (v + 2 ^ p) 63 (by omega)
  have hcb : cbits 3 p v = una (blen (v + 2 ^ p) - 1 - p) ++ num (blen (v + 2 ^ p) - 1) (v + 2 ^ p) := rfl
  have hl0 := len_any ((v + 2 ^ p : Nat) : Int)
  rw [Int.toNat_natCast] at hl0
  have Hl := hide (fun w => hl0 w (by omega) (by omega))
  have hpc := pow_cast p
  obtain ⟨M, hM⟩ : ∃ M, 2 ^ p = M := ⟨_, rfl⟩
  obtain ⟨m, hm⟩ : ∃ m, v + M = m := ⟨_, rfl⟩
  rw [hM] at hn2 hn3 hcb Hl e2 e3 hpc
  rw [hm] at hn2 hn3 hcb Hl
  have hs : (v : Int) + (M : Int) = (m : Int) := by omega
  have i9 : (m : Int) ≤ 9223372036854775807 := by omega
  have hl := hide (show (cbits 3 p v).length = 2 * blen m - 1 - p from by rw [hcb, List.length_append, una_length, num_length]; omega)
  generalize blen m = n at *
  clear hc h hcb hl0 hM hm
  go_enter Try.func57, Try.ntmps57
  go_wp2_with (go_at_call 58; refine (Hl.out _).mono ?_; rintro e w1 ⟨rfl, rfl⟩)
  go_ret
  exact ⟨ret_int1 (by rw [hl.out]; omega), 0, rfl⟩

set_option maxHeartbeats 400000 in
theorem ksize4 (p v : Int) (h : vld 4 p v = true) (w : World) :
    Calls Try.prog 62 #[.int .i64 p, .int .i64 v] w fun e w' => e = .returned (.int .i64 ((cbits 4 p.toNat v.toNat).length : Nat)) ∧ ∃ q, w' = w.drewN q := by
  have hc := vld_cases h
  obtain ⟨hv0, hc⟩ := hc
  obtain ⟨h0, h1, h2⟩ : 1 ≤ p ∧ p ≤ 4294967296 ∧ v < p := by omega
  obtain ⟨p, rfl⟩ := Int.eq_ofNat_of_zero_le (show 0 ≤ p by omega)
  obtain ⟨v, rfl⟩ := Int.eq_ofNat_of_zero_le hv0
  rw [Int.toNat_natCast, Int.toNat_natCast]
  have Ht := hide (fun w => truncated_any p w (by omega) (by omega))
  have hn := blen_le p 33 (by omega)
  have hn2 := (blen_ge p (by omega)).2
  have hpw := pow62 (blen p) (by omega)
  have hcb : cbits 4 p v = if v < 2 ^ blen p - p then num (blen p - 1) v else num (blen p) (v + (2 ^ blen p - p)) := rfl
  obtain ⟨k, hk⟩ : ∃ k, blen p - 1 = k := ⟨_, rfl⟩
  obtain ⟨u, hu⟩ : ∃ u, 2 ^ blen p - p = u := ⟨_, rfl⟩
  have hbk : blen p = k + 1 := by omega
  rw [hk, hu] at Ht
  rw [hk, hu, hbk] at hcb
  have hk62 : k ≤ 32 := by omega
  have hku : u ≤ 4611686018427387904 := by omega
  clear hc h hn hn2 hpw hk hu hbk
  by_cases c1 : v < u
  · rw [if_pos c1] at hcb
    have hl := hide (show (cbits 4 p v).length = k from by rw [hcb, num_length])
    clear hcb
    go_enter Try.func62, Try.ntmps62
    go_wp2_with (go_at_call 63; refine (Ht.out _).mono ?_; rintro e w1 ⟨rfl, q, rfl⟩)
    go_ret
    exact ⟨ret_int1 (by rw [hl.out]), _, rfl⟩
  · rw [if_neg c1] at hcb
    have hl := hide (show (cbits 4 p v).length = k + 1 from by rw [hcb, num_length])
    clear hcb
    go_enter Try.func62, Try.ntmps62
    go_wp2_with (go_at_call 63; refine (Ht.out _).mono ?_; rintro e w1 ⟨rfl, q, rfl⟩)
    go_ret
    exact ⟨ret_int1 (by rw [hl.out]; omega), _, rfl⟩

set_option maxHeartbeats 400000 in
theorem kwrite0 {b : Nat} {dv : Value} {l : List Bool} {w : World} (hw : WrAt w b dv l) (p v : Int) (h : vld 0 p v = true) (hl : l.length ≤ 65536) :
    Calls Try.prog 45 #[.pointer (some ⟨b, 0, none⟩), .int .i64 p, .int .i64 v] w fun e w' => e = .returned (.tuple #[]) ∧ ∃ dv', WrAt w' b dv' (l ++ cbits 0 p.toNat v.toNat) ∧ Fr (foot b dv) w w' ∧ OwnNew w dv dv' := by
  have hc := vld_cases h
  obtain ⟨hv0, hc⟩ := hc
  obtain ⟨h0, h1, h2⟩ : 0 ≤ p ∧ p ≤ 62 ∧ v < 2 ^ p.toNat := by omega
  have h3 := pow62 p.toNat (by omega)
  have h4 := pow_cast p.toNat
  have H := hide (put_any hw p v h0 (by omega) hv0 (by omega) (by omega))
  clear hc h h2 h3 h4
  go_enter Try.func45, Try.ntmps45
  go_wp2_with (go_at_call 31; refine (H.out).mono ?_; rintro e w1 ⟨rfl, d1, hw1, hf1, ho1⟩)
  go_end0
  exact ⟨rfl, d1, hw1, hf1, ho1⟩

set_option maxHeartbeats 400000 in
theorem kwrite1 {b : Nat} {dv : Value} {l : List Bool} {w : World} (hw : WrAt w b dv l) (p v : Int) (h : vld 1 p v = true) (hl : l.length ≤ 65536) :
    Calls Try.prog 49 #[.pointer (some ⟨b, 0, none⟩), .int .i64 p, .int .i64 v] w fun e w' => e = .returned (.tuple #[]) ∧ ∃ dv', WrAt w' b dv' (l ++ cbits 1 p.toNat v.toNat) ∧ Fr (foot b dv) w w' ∧ OwnNew w dv dv' := by
  have hc := vld_cases h
  obtain ⟨hv0, hc⟩ := hc
  have H := hide (wunary_any hw v hv0 (by omega))
  clear hc h
  go_enter Try.func49, Try.ntmps49
  go_wp2_with (go_at_call 50; refine (H.out).mono ?_; rintro e w1 ⟨rfl, d1, hw1, hf1, ho1⟩)
  go_end0
  exact ⟨rfl, d1, hw1, hf1, ho1⟩

set_option maxHeartbeats 400000 in
theorem kwrite2 {b : Nat} {dv : Value} {l : List Bool} {w : World} (hw : WrAt w b dv l) (p v : Int) (h : vld 2 p v = true) (hl : l.length ≤ 65536) :
    Calls Try.prog 54 #[.pointer (some ⟨b, 0, none⟩), .int .i64 p, .int .i64 v] w fun e w' => e = .returned (.tuple #[]) ∧ ∃ dv', WrAt w' b dv' (l ++ cbits 2 p.toNat v.toNat) ∧ Fr (foot b dv) w w' ∧ OwnNew w dv dv' := by
  have hc := vld_cases h
  obtain ⟨hv0, hc⟩ := hc
  obtain ⟨h0, h1, h2⟩ : 0 ≤ p ∧ p ≤ 30 ∧ v / 2 ^ p.toNat ≤ 4096 := by omega
  have h3 : 0 ≤ v / 2 ^ p.toNat := Int.ediv_nonneg hv0 (Int.pow_nonneg (by omega))
  have hv2 : v ≤ 9223372036854775807 := by
    have h2' := pow30 p.toNat (by omega)
    have h3' := pow_cast p.toNat
    have h4 : v = (2 : Int) ^ p.toNat * (v / 2 ^ p.toNat) + v % 2 ^ p.toNat := (Int.mul_ediv_add_emod v _).symm
    have h5 : v % 2 ^ p.toNat < 2 ^ p.toNat := Int.emod_lt_of_pos _ (Int.pow_pos (by omega))
    have h6 : (2 : Int) ^ p.toNat * (v / 2 ^ p.toNat) ≤ 1073741824 * 4096 := Int.mul_le_mul (by omega) h2 h3 (by omega)
    omega
  have hu := wunary_any hw (v / 2 ^ p.toNat) h3 (by omega)
  rw [toNat_div hv0] at hu
  have H := hide hu
  have hq : v.toNat / 2 ^ p.toNat ≤ 4096 := by have := toNat_div hv0 p.toNat; omega
  have hcb := hide (show cbits 2 p.toNat v.toNat = una (v.toNat / 2 ^ p.toNat) ++ num p.toNat v.toNat from rfl)
  clear hc h hu
  go_enter Try.func54, Try.ntmps54
  go_wp2_with fail
  refine (H.out).mono ?_
  rintro e w1 ⟨rfl, d1, hw1, hf1, ho1⟩
  have H2 := hide (put_any hw1 p v h0 (by omega) hv0 hv2 (by rw [List.length_append, una_length]; omega))
  go_wp2_with fail
  refine (H2.out).mono ?_
  rintro e w2 ⟨rfl, d2, hw2, hf2, ho2⟩
  go_wp2
  go_end0
  have h7 := wr_trans hf1 ho1 hf2 ho2
  exact ⟨rfl, d2, by rw [hcb.out, ← List.append_assoc]; exact hw2, h7.1, h7.2⟩

set_option maxHeartbeats 400000 in
theorem kwrite3 {b : Nat} {dv : Value} {l : List Bool} {w : World} (hw : WrAt w b dv l) (p v : Int) (h : vld 3 p v = true) (hl : l.length ≤ 65536) :
    Calls Try.prog 59 #[.pointer (some ⟨b, 0, none⟩), .int .i64 p, .int .i64 v] w fun e w' => e = .returned (.tuple #[]) ∧ ∃ dv', WrAt w' b dv' (l ++ cbits 3 p.toNat v.toNat) ∧ Fr (foot b dv) w w' ∧ OwnNew w dv dv' := by
  have hc := vld_cases h
  obtain ⟨hv0, hc⟩ := hc
  obtain ⟨h0, h1, h2⟩ : 0 ≤ p ∧ p ≤ 30 ∧ v ≤ 4611686018427387903 := by omega
  obtain ⟨p, rfl⟩ := Int.eq_ofNat_of_zero_le h0
  obtain ⟨v, rfl⟩ := Int.eq_ofNat_of_zero_le hv0
  rw [Int.toNat_natCast, Int.toNat_natCast]
  have e2 := pow30 p (by omega)
  have e3 := Nat.two_pow_pos p
  have hn2 : p + 1 ≤ blen (v + 2 ^ p) := by
    rcases Nat.lt_or_ge p (blen (v + 2 ^ p)) with h | h
    · exact h
    · have := blen_lt (v + 2 ^ p)
      have := Nat.pow_le_pow_right (show 0 < 2 by omega) h
      omega
  have hn3 := blen_le (v + 2 ^ p) 63 (by omega)
  have hcb : cbits 3 p v = una (blen (v + 2 ^ p) - 1 - p) ++ num (blen (v + 2 ^ p) - 1) (v + 2 ^ p) := rfl
  have hl0 := len_any ((v + 2 ^ p : Nat) : Int)
  rw [Int.toNat_natCast] at hl0
  have Hl := hide (fun w => hl0 w (by omega) (by omega))
  have hpc := pow_cast p
  obtain ⟨M, hM⟩ : ∃ M, 2 ^ p = M := ⟨_, rfl⟩
  obtain ⟨m, hm⟩ : ∃ m, v + M = m := ⟨_, rfl⟩
  rw [hM] at hn2 hn3 hcb Hl e2 e3 hpc
  rw [hm] at hn2 hn3 hcb Hl
  have hs : (v : Int) + (M : Int) = (m : Int) := by omega
  have i9 : (m : Int) ≤ 9223372036854775807 := by omega
  have hbn := hide hcb
  obtain ⟨n, hn⟩ : ∃ n, blen m = n := ⟨_, rfl⟩
  rw [hn] at hn2 hn3 Hl hbn
  have hu := wunary_any hw ((n : Int) - 1 - (p : Int)) (by omega) (by omega)
  rw [show ((n : Int) - 1 - (p : Int)).toNat = n - 1 - p from by omega] at hu
  have H := hide hu
  have hn4 : (n : Int) - 1 ≥ 0 := by omega
  have e5 : ((n : Int) - 1).toNat = n - 1 := by omega
  have He5 := hide e5
  clear hc h hcb hl0 hM hm hn hu e5
  go_enter Try.func59, Try.ntmps59
  go_wp2_with fail
  refine (Hl.out _).mono ?_
  rintro e w1 ⟨rfl, rfl⟩
  go_wp2_with fail
  refine (H.out).mono ?_
  rintro e w1 ⟨rfl, d1, hw1, hf1, ho1⟩
  have H2 := hide (put_any hw1 ((n : Int) - 1) (m : Int) (by omega) (by omega) (by omega) (by omega) (by rw [List.length_append, una_length]; omega))
  go_wp2_with fail
  refine (H2.out).mono ?_
  rintro e w2 ⟨rfl, d2, hw2, hf2, ho2⟩
  rw [He5.out, Int.toNat_natCast] at hw2
  go_wp2
  go_end0
  have h7 := wr_trans hf1 ho1 hf2 ho2
  exact ⟨rfl, d2, by rw [hbn.out, ← List.append_assoc]; exact hw2, h7.1, h7.2⟩

set_option maxHeartbeats 400000 in
theorem kwrite4 {b : Nat} {dv : Value} {l : List Bool} {w : World} (hw : WrAt w b dv l) (p v : Int) (h : vld 4 p v = true) (hl : l.length ≤ 65536) :
    Calls Try.prog 64 #[.pointer (some ⟨b, 0, none⟩), .int .i64 p, .int .i64 v] w fun e w' => e = .returned (.tuple #[]) ∧ ∃ dv', WrAt w' b dv' (l ++ cbits 4 p.toNat v.toNat) ∧ Fr (foot b dv) w w' ∧ OwnNew w dv dv' := by
  have hc := vld_cases h
  obtain ⟨hv0, hc⟩ := hc
  obtain ⟨h0, h1, h2⟩ : 1 ≤ p ∧ p ≤ 4294967296 ∧ v < p := by omega
  obtain ⟨p, rfl⟩ := Int.eq_ofNat_of_zero_le (show 0 ≤ p by omega)
  obtain ⟨v, rfl⟩ := Int.eq_ofNat_of_zero_le hv0
  rw [Int.toNat_natCast, Int.toNat_natCast]
  have Ht := hide (fun w => truncated_any p w (by omega) (by omega))
  have hn := blen_le p 33 (by omega)
  have hn2 := (blen_ge p (by omega)).2
  have hpw := pow62 (blen p) (by omega)
  have hcb : cbits 4 p v = if v < 2 ^ blen p - p then num (blen p - 1) v else num (blen p) (v + (2 ^ blen p - p)) := rfl
  obtain ⟨k, hk⟩ : ∃ k, blen p - 1 = k := ⟨_, rfl⟩
  obtain ⟨u, hu⟩ : ∃ u, 2 ^ blen p - p = u := ⟨_, rfl⟩
  have hbk : blen p = k + 1 := by omega
  rw [hk, hu] at Ht
  rw [hk, hu, hbk] at hcb
  have hk62 : k ≤ 32 := by omega
  have hku : u ≤ 4611686018427387904 := by omega
  clear hc h hn hn2 hpw hk hu hbk
  by_cases c1 : v < u
  · rw [if_pos c1] at hcb
    have Hcb := hide hcb
    have H := hide (put_any hw (k : Int) (v : Int) (by omega) (by omega) (by omega) (by omega) (by omega))
    clear hcb
    go_enter Try.func64, Try.ntmps64
    go_wp2_with fail
    refine (Ht.out _).mono ?_
    rintro e w1 ⟨rfl, q, rfl⟩
    have H := hide (put_any (w := w.drewN q) hw (k : Int) (v : Int) (by omega) (by omega) (by omega) (by omega) (by omega))
    go_wp2_with fail
    refine (H.out).mono ?_
    rintro e w2 ⟨rfl, d2, hw2, hf2, ho2⟩
    go_wp2
    go_end0
    exact ⟨rfl, d2, by rw [Hcb.out]; simpa using hw2, ((Fr.refl _ _).drewN _).trans hf2, ho2⟩
  · rw [if_neg c1] at hcb
    have Hcb := hide hcb
    clear hcb
    go_enter Try.func64, Try.ntmps64
    go_wp2_with fail
    refine (Ht.out _).mono ?_
    rintro e w1 ⟨rfl, q, rfl⟩
    have H := hide (put_any (w := w.drewN q) hw ((k : Int) + 1) ((v : Int) + (u : Int)) (by omega) (by omega) (by omega) (by omega) (by omega))
    go_wp2_with fail
    refine (H.out).mono ?_
    rintro e w2 ⟨rfl, d2, hw2, hf2, ho2⟩
    rw [show ((k : Int) + 1).toNat = k + 1 from by omega, show ((v : Int) + (u : Int)).toNat = v + u from by omega] at hw2
    go_wp2
    go_end0
    exact ⟨rfl, d2, by rw [Hcb.out]; exact hw2, ((Fr.refl _ _).drewN _).trans hf2, ho2⟩
end Go.Proofs.Ytfahcmiignnnkaa
