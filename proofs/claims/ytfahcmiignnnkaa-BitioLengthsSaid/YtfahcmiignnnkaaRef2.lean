/-
  The walks over the reference of the bit strings, second part: codes.
-/
import Derived.Test.YtfahcmiignnnkaaRef1
import Derived.Deep.RegionWith
import Derived.Deep.DrawnRows
namespace Go.Proofs.Ytfahcmiignnnkaa
open Go.RowKit Go.Proofs Wv Wv.Bit
attribute [local go_sem ↓] Go.wp_at_zero Go.wp_at_succ

set_option maxHeartbeats 400000 in
theorem bits_any (k p v : Int) (w : World) (hv : vld k p v = true) :
    Calls Try.prog 33 #[.agg #[.int .i64 k, .int .i64 p, .int .i64 v]] w fun e w' => e = .returned (.string (txt (cbits k.toNat p.toNat v.toNat))) ∧ Below w.heap.size w w' := by
  have hb := (Below.refl w.heap.size w).alloc (Nat.le_refl _)
  obtain ⟨h0, h1 | h1 | h1 | h1 | h1⟩ := vld_cases hv
  · obtain ⟨rfl, a, b, c⟩ := h1
    have hv2 : v ≤ 9223372036854775807 := by
      have := pow62 p.toNat (by omega)
      have := pow_cast p.toNat
      omega
    clear c hv
    go_enter Try.func33, Try.ntmps33
    go_wp2
    go_quiet (fail)
    go_wp2_with (go_at_call 40; refine (number_any p v _ a (by omega) h0 hv2).mono ?_; rintro e w' ⟨rfl, hb2⟩)
    go_ret
    exact ⟨rfl, (bdN (hb _) _).trans (hb2.mono (by simp))⟩
  · obtain ⟨rfl, rfl, c⟩ := h1
    go_enter Try.func33, Try.ntmps33
    go_wp2
    go_quiet (fail)
    go_wp2_with (go_at_call 41; refine (unary_any v _ h0 (by omega)).mono ?_; rintro e w' ⟨rfl, hb2⟩)
    go_ret
    exact ⟨rfl, (bdN (hb _) _).trans (hb2.mono (by simp))⟩
  · obtain ⟨rfl, a, b, c⟩ := h1
    have hq : 0 ≤ v / 2 ^ p.toNat := Int.ediv_nonneg h0 (Int.pow_nonneg (by omega))
    have hv2 : v ≤ 9223372036854775807 := by
      have h2 := pow30 p.toNat (by omega)
      have h3 := pow_cast p.toNat
      have h4 : v = (2 : Int) ^ p.toNat * (v / 2 ^ p.toNat) + v % 2 ^ p.toNat := (Int.mul_ediv_add_emod v _).symm
      have h5 : v % 2 ^ p.toNat < 2 ^ p.toNat := Int.emod_lt_of_pos _ (by rw [h3]; have := Nat.two_pow_pos p.toNat; omega)
      have h6 : (2 : Int) ^ p.toNat * (v / 2 ^ p.toNat) ≤ 1073741824 * 4096 := Int.mul_le_mul (by omega) c hq (by omega)
      omega
    have ht := hide (txt_append (una (v / 2 ^ p.toNat).toNat) (num p.toNat v.toNat))
    have hs1 : (txt (una (v / 2 ^ p.toNat).toNat)).size ≤ 4097 := by rw [txt_size, una_length]; omega
    have hs2 : (txt (num p.toNat v.toNat)).size ≤ 30 := by rw [txt_size, num_length]; omega
    clear hv
    go_enter Try.func33, Try.ntmps33
    go_wp2
    go_quiet (fail)
    go_wp2_with (first
      | (go_at_call 41; refine (unary_any _ _ hq (by omega)).mono ?_; rintro e w' ⟨rfl, hb2⟩)
      | (go_at_call 40; refine (number_any p v _ a (by omega) h0 hv2).mono ?_; rintro e w'' ⟨rfl, hb3⟩))
    go_ret
    refine ⟨?_, ((bdN (hb _) _).trans (hb2.mono (by simp))).trans (hb3.mono ?_)⟩
    · show Ending.returned (.string _) = _
      rw [← ht.out]
      rw [toNat_div h0]; rfl
    · exact Nat.le_trans (by simp) hb2.size
  · obtain ⟨rfl, a, b, c⟩ := h1
    have h2 := pow30 p.toNat (by omega)
    have h3 := pow_wrap p.toNat (by omega)
    have h4 : (2 : Int) ^ p.toNat ≤ 1073741824 := by have := pow_cast p.toNat; omega
    have h5 : 0 < (2 : Int) ^ p.toNat := Int.pow_pos (by omega)
    have hn := blen_le (v.toNat + 2 ^ p.toNat) 63 (by omega)
    go_enter Try.func33, Try.ntmps33
    go_wp2
    go_quiet (fail)
    have hn1 : 0 < blen (v.toNat + 2 ^ p.toNat) := (blen_ge _ (by have := Nat.two_pow_pos p.toNat; omega)).2
    have hn2 : p.toNat + 1 ≤ blen (v.toNat + 2 ^ p.toNat) := by
      rcases Nat.lt_or_ge p.toNat (blen (v.toNat + 2 ^ p.toNat)) with h | h
      · exact h
      · have := blen_lt (v.toNat + 2 ^ p.toNat)
        have := Nat.pow_le_pow_right (show 0 < 2 by omega) h
        omega
    have e1 : (v + 2 ^ p.toNat).toNat = v.toNat + 2 ^ p.toNat := by rw [Int.toNat_add h0 (by omega), toNat_pow]
    have hl := length_any (v + 2 ^ p.toNat) 
    rw [e1] at hl
    have Hl := hide hl
    have hu := unary_any ((blen (v.toNat + 2 ^ p.toNat) : Int) - 1 - p)
    have hm := number_any ((blen (v.toNat + 2 ^ p.toNat) : Int) - 1) (v + 2 ^ p.toNat)
    rw [e1] at hm
    rw [show ((blen (v.toNat + 2 ^ p.toNat) : Int) - 1).toNat = blen (v.toNat + 2 ^ p.toNat) - 1 from by omega] at hm
    rw [show ((blen (v.toNat + 2 ^ p.toNat) : Int) - 1 - p).toNat = blen (v.toNat + 2 ^ p.toNat) - 1 - p.toNat from by omega] at hu
    have Hu := hide hu
    have Hm := hide hm
    have hr := hide (show una (blen (v.toNat + 2 ^ p.toNat) - 1 - p.toNat) ++ num (blen (v.toNat + 2 ^ p.toNat) - 1) (v.toNat + 2 ^ p.toNat) = cbits 3 p.toNat v.toNat from rfl)
    generalize blen (v.toNat + 2 ^ p.toNat) = n at *
    have hs1 : (txt (una (n - 1 - p.toNat))).size ≤ 63 := by rw [txt_size, una_length]; omega
    have hs2 : (txt (num (n - 1) (v.toNat + 2 ^ p.toNat))).size ≤ 63 := by rw [txt_size, num_length]; omega
    clear hl hu hm e1
    go_wp2_with (go_at_call 38; refine (Hl.out _ (by omega) (by omega)).mono ?_; rintro e w' ⟨rfl, rfl⟩)
    have Hu' := hide (fun w => Hu.out w (by omega) (by omega))
    have Hm' := hide (fun w => Hm.out w (by omega) (by omega) (by omega) (by omega))
    have i1 : IntKind.i64.wrap ((n : Int) - 1) = (n : Int) - 1 := IntWalk.i64_in _ (by omega)
    have i2 : IntKind.i64.wrap ((n : Int) - 1 - p) = (n : Int) - 1 - p := IntWalk.i64_in _ (by omega)
    have i3 : IntKind.i64.wrap ((2 : Int) ^ p.toNat) = (2 : Int) ^ p.toNat := IntWalk.i64_in _ (by omega)
    have i4 : IntKind.i64.wrap (v + (2 : Int) ^ p.toNat) = v + (2 : Int) ^ p.toNat := IntWalk.i64_in _ (by omega)
    have hs3 : (txt (una (n - 1 - p.toNat))).size + (txt (num (n - 1) (v.toNat + 2 ^ p.toNat))).size ≤ 9223372036854775807 := by omega
    go_region_with (first
      | (go_at_call 41; refine (Hu'.out _).mono ?_; rintro e w' ⟨rfl, hb2⟩)
      | (go_at_call 40; refine (Hm'.out _).mono ?_; rintro e w'' ⟨rfl, hb3⟩))
    clear i1 i2 i3 i4
    go_wp2
    go_ret
    refine ⟨?_, ((bdN (hb _) _).trans (hb2.mono (by simp))).trans (hb3.mono (Nat.le_trans (by simp) hb2.size))⟩
    show Ending.returned (.string _) = _
    rw [← txt_append, hr.out]
    rfl
  · obtain ⟨rfl, a, b, c⟩ := h1
    obtain ⟨p, rfl⟩ := Int.eq_ofNat_of_zero_le (show 0 ≤ p by omega)
    obtain ⟨v, rfl⟩ := Int.eq_ofNat_of_zero_le h0
    have hl := length_any (p : Int)
    rw [Int.toNat_natCast] at hl
    have Hl := hide (fun w => hl w (by omega) (by omega))
    have hr := hide (show (if v < 2 ^ blen p - p then num (blen p - 1) v else num (blen p) (v + (2 ^ blen p - p))) = cbits 4 p v from rfl)
    have hn := blen_le p 33 (by omega)
    obtain ⟨hn1, hn2⟩ := blen_ge p (by omega)
    have hn3 := blen_lt p
    clear hl hv
    generalize blen p = n at *
    obtain ⟨k, rfl⟩ : ∃ k, n = k + 1 := ⟨n - 1, by omega⟩
    have hpw := pow62 (k + 1) (by omega)
    have hpc := pow_cast (k + 1)
    have hpe : wrap64 ((2 : Int) ^ (k + 1)) = (2 : Int) ^ (k + 1) := pow_wrap _ (by omega)
    obtain ⟨m, hm⟩ : ∃ m : Nat, m = 2 ^ (k + 1) := ⟨_, rfl⟩
    simp only [Nat.add_sub_cancel] at hr
    rw [← hm] at hr hn3 hpw hpc
    have hpe2 := hpe
    rw [hpc] at hpe2
    have Hn := hide (fun w => number_any (k : Int) (v : Int) w (by omega) (by omega) (by omega) (by omega))
    have Hn2 := hide (fun w => number_any ((k : Int) + 1) ((v : Int) + ((m : Int) - (p : Int))) w (by omega) (by omega) (by omega) (by omega))
    clear hn1 hm hpe
    by_cases hu : v < m - p
    · rw [if_pos hu] at hr
      have hu2 : (v : Int) < (m : Int) - (p : Int) := by omega
      clear hu
      go_enter Try.func33, Try.ntmps33
      go_wp2
      go_quiet (fail)
      go_wp2_with (go_at_call 38; refine (Hl.out _).mono ?_; rintro e w' ⟨rfl, rfl⟩)
      go_wp2_with (go_at_call 40; refine (Hn.out _).mono ?_; rintro e w' ⟨rfl, hb2⟩)
      go_ret
      refine ⟨?_, (bdN (hb _) _).trans (hb2.mono (by simp))⟩
      show Ending.returned (.string (txt (num k v))) = _
      rw [hr.out]; rfl
    · rw [if_neg hu] at hr
      have hu2 : ¬ (v : Int) < (m : Int) - (p : Int) := by omega
      clear hu
      go_enter Try.func33, Try.ntmps33
      go_wp2
      go_quiet (fail)
      go_wp2_with (first
        | (go_at_call 38; refine (Hl.out _).mono ?_; rintro e w' ⟨rfl, rfl⟩)
        | (go_at_call 40; refine (Hn2.out _).mono ?_; rintro e w' ⟨rfl, hb2⟩))
      go_ret
      refine ⟨?_, (bdN (hb _) _).trans (hb2.mono (by simp))⟩
      show Ending.returned (.string (txt (num ((k : Int) + 1).toNat ((v : Int) + ((m : Int) - (p : Int))).toNat))) = _
      rw [show ((k : Int) + 1).toNat = k + 1 from by omega, show ((v : Int) + ((m : Int) - (p : Int))).toNat = v + (m - p) from by omega, hr.out]; rfl

/-- How many bits a code has. -/
def csize (k p v : Int) : Nat := if vld k p v then (cbits k.toNat p.toNat v.toNat).length else 0
set_option maxHeartbeats 400000 in
theorem refsize_any (k p v : Int) (w : World) (hp1 : p ≤ 9223372036854775807) (hv1 : v ≤ 9223372036854775807) :
    Calls Try.prog 23 #[.agg #[.int .i64 k, .int .i64 p, .int .i64 v]] w fun e w' => e = .returned (.int .i64 (csize k p v : Nat)) ∧ Below w.heap.size w w' := by
  have H := hide (fun w => valid_any k p v w hp1 hv1)
  have hb := (Below.refl w.heap.size w).alloc (Nat.le_refl _) (.cells #[.int .i64 k, .int .i64 p, .int .i64 v] 42)
  by_cases hv : vld k p v = true
  · have H2 := hide (fun w => bits_any k p v w hv)
    have Hs := hide (show csize k p v = (txt (cbits k.toNat p.toNat v.toNat)).size from by rw [txt_size, csize, if_pos hv])
    rw [hv] at H
    clear hv
    go_enter Try.func23, Try.ntmps23
    go_wp2_with (first
      | (go_at_call 32; refine (H.out _).mono ?_; rintro e w1 ⟨rfl, hb1⟩; have hc1 := bcell hb1)
      | (go_at_call 33; refine (H2.out _).mono ?_; rintro e w2 ⟨rfl, hb2⟩))
    go_ret
    exact ⟨ret_int (by rw [Hs.out]), (hb.trans (hb1.mono (by simp))).trans (hb2.mono (Nat.le_trans (by simp) hb1.size))⟩
  · have hv' : vld k p v = false := by simpa using hv
    have Hs := hide (show csize k p v = 0 from by rw [csize, if_neg hv])
    rw [hv'] at H
    clear hv hv'
    go_enter Try.func23, Try.ntmps23
    go_wp2_with (go_at_call 32; refine (H.out _).mono ?_; rintro e w1 ⟨rfl, hb1⟩)
    go_ret
    exact ⟨ret_int (by rw [Hs.out]; rfl), hb.trans (hb1.mono (by simp))⟩
end Go.Proofs.Ytfahcmiignnnkaa
