/-
  Joined texts: Sb, Sq.
-/
import Derived.Test.YtoeeblldgoccoaaGreatJ12
set_option linter.unusedVariables false
set_option linter.unusedSimpArgs false
/-
  The walks over the references: numbers as bytes.
-/
namespace Go.Proofs.YtoeeblldgoccoaaGreat
open Go.RowKit Go.Proofs Wv Wv.Vi Wv.Ru
set_option linter.unusedVariables false

set_option maxHeartbeats 400000 in
theorem rfrom_any (k : Int) (h0 : 0 ≤ k) (h8 : k ≤ 8) (w : World) :
  Calls Tryz.prog 68 #[.int .i64 k] w fun e w' => e = .returned (.int .i64 (bnd k.toNat : Nat)) ∧ w = w' := by
 obtain ⟨k, rfl⟩ := Int.eq_ofNat_of_zero_le h0
 rw [Int.toNat_natCast]
 have hv := hide bnd_vals
 go_enter Tryz.func68, Tryz.ntmps68
 go_wp2
 go_loop [3, 4] (fun b i => ∃ j : Nat, j ≤ k ∧ i = .int .i64 ((j : Int) + 1) ∧ b = .int .i64 (bnd j : Nat)) (fun _ i => k + 1 - (intOf i).toNat)
 case atStart => exact ⟨0, Nat.zero_le _, rfl, rfl⟩
 case round =>
  obtain ⟨j, hj, rfl, rfl⟩ := hrel
  by_cases hlt : j < k
  ·have hb := bnd_le j (by omega)
   have hz : j = 0 ∨ j = 1 ∨ j = 2 ∨ j = 3 ∨ j = 4 ∨ j = 5 ∨ j = 6 ∨ j = 7 := by omega
   rcases hz with rfl | rfl | rfl | rfl | rfl | rfl | rfl | rfl
   all_goals
    go_wp2
    go_round
    case rel => exact ⟨_, hlt, by rfl, by rfl⟩
    case measure => simp [intOf]; omega
  ·go_wp2
   go_ret
   exact ⟨ret_int (by rw [show k = j from by omega]), rfl⟩

set_option maxHeartbeats 400000 in
theorem rsize_any (n : Int) (h0 : 0 ≤ n) (h63 : n ≤ 9223372036854775807) (w : World) :
  Calls Tryz.prog 67 #[.int .i64 n] w fun e w' => e = .returned (.int .i64 ((kof n.toNat : Int) + 1)) ∧ w = w' := by
 obtain ⟨n, rfl⟩ := Int.eq_ofNat_of_zero_le h0
 rw [Int.toNat_natCast]
 have hk8 := kof_le n
 have H := hide rfrom_any
 go_enter Tryz.func67, Tryz.ntmps67
 go_wp2
 go_loop [3] (fun k => ∃ j : Nat, j ≤ kof n ∧ k = .int .i64 j) (fun k => 9 - (intOf k).toNat)
 case atStart => exact ⟨0, Nat.zero_le _, rfl⟩
 case round =>
  obtain ⟨j, hj, rfl⟩ := hrel
  by_cases h8 : j < 8
  ·have hs := kof_step n j h8 hj
   have hb := H.out ((j : Int) + 1) (by omega) (by omega) w
   rw [show (((j : Int) + 1).toNat) = j + 1 from by omega] at hb
   have Hb := hide hb
   by_cases hlt : j < kof n
   ·have hle : bnd (j + 1) ≤ n := hs.2 hlt
    clear hs hb
    go_wp2_with (go_at_call 68; refine (Hb.out).mono ?_; rintro e w' ⟨rfl, rfl⟩)
    go_round
    case rel => exact ⟨j + 1, by omega, by go_num⟩
    case measure => simp [intOf]; omega
   ·have hle : ¬ bnd (j + 1) ≤ n := fun h => hlt (hs.1 h)
    clear hs hb
    go_wp2_with (go_at_call 68; refine (Hb.out).mono ?_; rintro e w' ⟨rfl, rfl⟩)
    go_ret
    exact ⟨ret_int (by omega), rfl⟩
  ·go_wp2
   go_ret
   exact ⟨ret_int (by omega), rfl⟩
theorem be_low (j r : Nat) : UInt8.ofNat (r / 256 ^ j % 256) :: be j r = be (j + 1) r := by
 have h2 : UInt8.ofNat (r / 256 ^ j % 256) = UInt8.ofNat (r / 256 ^ j) := by
  apply UInt8.toNat_inj.1
  simp
 rw [h2]
 rfl
set_option maxHeartbeats 1000000 in
theorem rnumber_any (n : Int) (h0 : 0 ≤ n) (h63 : n ≤ 9223372036854775807) (w : World) :
    Calls Tryz.prog 36 #[.int .i64 n] w fun e w' => e = .returned (.string (bs (num n.toNat))) ∧ Below w.heap.size w w' := by
  obtain ⟨n, rfl⟩ := Int.eq_ofNat_of_zero_le h0
  rw [Int.toNat_natCast]
  obtain ⟨k, hk⟩ : ∃ k, kof n = k := ⟨_, rfl⟩
  have hk8 := kof_le n
  have hkb := bnd_kof n
  have hrl := rest_lt n (by omega)
  have H1 := hide (rsize_any (n : Int) (by omega) h63)
  have H2 := hide (rfrom_any (k : Int) (by omega) (by omega))
  rw [Int.toNat_natCast, hk] at H1
  rw [Int.toNat_natCast] at H2
  rw [hk] at hk8 hkb hrl
  obtain ⟨b, hb⟩ : ∃ b, bnd k = b := ⟨_, rfl⟩
  rw [hb] at H2 hkb hrl
  obtain ⟨r, hr⟩ : ∃ r, n - b = r := ⟨_, rfl⟩
  rw [hr] at hrl
  have Hnum : Hid (num n = UInt8.ofNat (256 - 2 ^ (8 - k) + r / 256 ^ k) :: be k r) := hide (by unfold num; rw [hk, hb, hr])
  have i1 : (n : Int) - (b : Int) = (r : Int) := by omega
  have Hrl := hide hrl
  have hr63 : r ≤ 9223372036854775807 := by omega
  have hcv := conv_one (P := Tryz.prog) 42 9 5 Tryz.underlying42 Tryz.underlying5 Tryz.underlying9
  clear hk hb hr hrl hkb
  go_enter Tryz.func36, Tryz.ntmps36
  go_wp2_with fail
  refine (H1.out _).mono ?_
  rintro e w1 ⟨rfl, rfl⟩
  go_wp2_with fail
  refine (H2.out _).mono ?_
  rintro e w1 ⟨rfl, rfl⟩
  go_wp2
  go_loopw [0, 4, 5] (fun x out i wr => ∃ j : Nat, j ≤ k ∧ i = .int .i64 j ∧ x = .int .i64 ((r / 256 ^ j : Nat) : Int) ∧ out = .string (bs (be j r)) ∧ Below w.heap.size w wr) (fun _ _ i _ => (k - intOf i).toNat)
  case atStart => exact ⟨0, by omega, rfl, by simp, rfl, Below.refl _ _⟩
  case round =>
    obtain ⟨j, hj, rfl, rfl, rfl, hf⟩ := hrel
    have hxl : r / 256 ^ j ≤ r := Nat.div_le_self _ _
    have hbl : (bs (be j r)).size ≤ 8 := by rw [bs_size, be_length]; omega
    by_cases hlt : j < k
    · have hlow := be_low j r
      have hds := div_step r j
      obtain ⟨x, hx⟩ : ∃ x, r / 256 ^ j = x := ⟨_, rfl⟩
      rw [hx] at hlow hds hxl ⊢
      obtain ⟨S, hS⟩ : ∃ S, bs (be j r) = S := ⟨_, rfl⟩
      have hnx : (⟨#[UInt8.ofNat (x % 256)]⟩ : ByteArray) ++ S = bs (be (j + 1) r) := by
        rw [← hS, ← hlow]
        exact bs_append [_] _
      rw [hS] at hbl ⊢
      have i2 : ((x : Int) % 256).toNat = x % 256 := by omega
      have i3 : (x : Int) % 256 % 256 = (x : Int) % 256 := by omega
      have Hnx := hide hnx
      have Hds := hide hds
      have h1s : (⟨#[UInt8.ofNat (x % 256)]⟩ : ByteArray).size = 1 := rfl
      clear hx hlow hnx hds hS
      go_wp2
      go_roundw
      case rel => exact ⟨j + 1, by omega, by go_num, by rw [← Hds.out]; congr 1, by rw [Hnx.out], hf.alloc hf.size _⟩
      case measure => simp [intOf] <;> omega
    · have hjk : j = k := by omega
      subst hjk
      obtain ⟨x, hx⟩ : ∃ x, r / 256 ^ j = x := ⟨_, rfl⟩
      have hrl := Hrl.out
      rw [hx] at hrl Hnum hxl ⊢
      have hfl := (lead_first j x (by omega) hrl.1 hrl.2).1
      have hx128 : x < 128 := Nat.lt_of_lt_of_le hrl.1 (Nat.pow_le_pow_right (by omega) (show 7 - j ≤ 7 by omega))
      obtain ⟨S, hS⟩ : ∃ S, bs (be j r) = S := ⟨_, rfl⟩
      obtain ⟨y, hy⟩ : ∃ y, 256 - 2 ^ (8 - j) + x = y := ⟨_, rfl⟩
      have Hfin : Hid ((⟨#[UInt8.ofNat y]⟩ : ByteArray) ++ S = bs (num n)) := hide (by
        rw [Hnum.out, ← hS, hy]
        exact bs_append [_] _)
      rw [hS] at hbl ⊢
      have h1s : (⟨#[UInt8.ofNat y]⟩ : ByteArray).size = 1 := rfl
      have hyk := hide (show ∀ K : Nat, j = K → 256 - 2 ^ (8 - K) + x = y from fun K e => e ▸ hy)
      have hyl : y < 256 := by omega
      have i4 : (y : Int) % 256 = (y : Int) := by omega
      have i5 : (y : Int).toNat = y := rfl
      clear hS hy hfl hrl hx hxl
      rcases nine j (by omega) with rfl | rfl | rfl | rfl | rfl | rfl | rfl | rfl | rfl
      all_goals
        have hy0 := hyk.out _ rfl
        simp only [Nat.reducePow, Nat.reduceSub] at hy0
        first
          | (have i3 : (128 : Int) + (x : Int) = (y : Int) := by omega
             go_wp2
             go_ret
             exact ⟨ret_str Hfin.out, hf.alloc hf.size _⟩)
          | (have i3 : (192 : Int) + (x : Int) = (y : Int) := by omega
             go_wp2
             go_ret
             exact ⟨ret_str Hfin.out, hf.alloc hf.size _⟩)
          | (have i3 : (224 : Int) + (x : Int) = (y : Int) := by omega
             go_wp2
             go_ret
             exact ⟨ret_str Hfin.out, hf.alloc hf.size _⟩)
          | (have i3 : (240 : Int) + (x : Int) = (y : Int) := by omega
             go_wp2
             go_ret
             exact ⟨ret_str Hfin.out, hf.alloc hf.size _⟩)
          | (have i3 : (248 : Int) + (x : Int) = (y : Int) := by omega
             go_wp2
             go_ret
             exact ⟨ret_str Hfin.out, hf.alloc hf.size _⟩)
          | (have i3 : (252 : Int) + (x : Int) = (y : Int) := by omega
             go_wp2
             go_ret
             exact ⟨ret_str Hfin.out, hf.alloc hf.size _⟩)
          | (have i3 : (254 : Int) + (x : Int) = (y : Int) := by omega
             go_wp2
             go_ret
             exact ⟨ret_str Hfin.out, hf.alloc hf.size _⟩)
          | (have i3 : (255 : Int) + (x : Int) = (y : Int) := by omega
             go_wp2
             go_ret
             exact ⟨ret_str Hfin.out, hf.alloc hf.size _⟩)
          | (have i3 : (x : Int) = (y : Int) := by omega
             have i6 : y = x := by omega
             subst i6
             go_wp2
             go_ret
             exact ⟨ret_str Hfin.out, hf.alloc hf.size _⟩)
theorem rtext_any (s : ByteArray) (hs : s.size ≤ 1099511627776) (w : World) :
  Calls Tryz.prog 74 #[.string s] w fun e w' => e = .returned (.string (bs (text s))) ∧ Below w.heap.size w w' := by
 have H := rnumber_any (s.size : Int) (by omega) (by omega) w
 rw [Int.toNat_natCast] at H
 have hl := kof9 s.size
 have hr := hide (show bs (num s.size) ++ s = bs (text s) from by rw [← bs_toL s, bs_append]; rfl)
 rw [← bs_size] at hl
 generalize bs (num s.size) = t at *
 have H := hide H
 go_enter Tryz.func74, Tryz.ntmps74
 go_wp2_with fail
 refine (H.out).mono ?_
 rintro e w1 ⟨rfl, hb⟩
 go_wp2
 go_ret
 exact ⟨ret_str hr.out, hb⟩
end Go.Proofs.YtoeeblldgoccoaaGreat
namespace Go.Proofs.YtoeeblldgoccoaaGreat
open Go.RowKit Go.Proofs Wv Wv.Vi Wv.Ru
set_option linter.unusedVariables false

end Go.Proofs.YtoeeblldgoccoaaGreat
