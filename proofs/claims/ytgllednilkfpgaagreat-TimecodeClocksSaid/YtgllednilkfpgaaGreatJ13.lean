/-
  Joined texts: Sb, Sf, Sg, Sh, Si.
-/
import Derived.Test.YtgllednilkfpgaaGreatJ03
import Derived.Handy
import Derived.Test.YtgllednilkfpgaaGreatJ12
import Derived.Test.YtgllednilkfpgaaGreatJ07
import Derived.Test.YtgllednilkfpgaaGreatJ09
set_option linter.unusedVariables false
set_option linter.unusedSimpArgs false
/-
  The walks over the references: numbers as bytes.
-/
namespace Go.Proofs.YtgllednilkfpgaaGreat
open Go.RowKit Go.Proofs Wv Wv.Vi Wv.Ru
set_option linter.unusedVariables false

set_option maxHeartbeats 400000 in
theorem rfrom_any (k : Int) (h0 : 0 ≤ k) (h8 : k ≤ 8) (w : World) :
    Calls Tryz.prog 62 #[.int .i64 k] w fun e w' => e = .returned (.int .i64 (bnd k.toNat : Nat)) ∧ w = w' := by
  obtain ⟨k, rfl⟩ := Int.eq_ofNat_of_zero_le h0
  rw [Int.toNat_natCast]
  have hv := hide bnd_vals
  go_enter Tryz.func62, Tryz.ntmps62
  go_wp2
  go_loop [3, 4] (fun b i => ∃ j : Nat, j ≤ k ∧ i = .int .i64 ((j : Int) + 1) ∧ b = .int .i64 (bnd j : Nat)) (fun _ i => k + 1 - (intOf i).toNat)
  case atStart => exact ⟨0, Nat.zero_le _, rfl, rfl⟩
  case round =>
    obtain ⟨j, hj, rfl, rfl⟩ := hrel
    by_cases hlt : j < k
    · have hb := bnd_le j (by omega)
      have hz : j = 0 ∨ j = 1 ∨ j = 2 ∨ j = 3 ∨ j = 4 ∨ j = 5 ∨ j = 6 ∨ j = 7 := by omega
      rcases hz with rfl | rfl | rfl | rfl | rfl | rfl | rfl | rfl
      all_goals
        go_wp2
        go_round
        case rel => exact ⟨_, hlt, by rfl, by rfl⟩
        case measure => simp [intOf]; omega
    · go_wp2
      go_ret
      exact ⟨ret_int (by rw [show k = j from by omega]), rfl⟩

set_option maxHeartbeats 400000 in
theorem rsize_any (n : Int) (h0 : 0 ≤ n) (h63 : n ≤ 9223372036854775807) (w : World) :
    Calls Tryz.prog 89 #[.int .i64 n] w fun e w' => e = .returned (.int .i64 ((kof n.toNat : Int) + 1)) ∧ w = w' := by
  obtain ⟨n, rfl⟩ := Int.eq_ofNat_of_zero_le h0
  rw [Int.toNat_natCast]
  have hk8 := kof_le n
  have H := hide rfrom_any
  go_enter Tryz.func89, Tryz.ntmps89
  go_wp2
  go_loop [3] (fun k => ∃ j : Nat, j ≤ kof n ∧ k = .int .i64 j) (fun k => 9 - (intOf k).toNat)
  case atStart => exact ⟨0, Nat.zero_le _, rfl⟩
  case round =>
    obtain ⟨j, hj, rfl⟩ := hrel
    by_cases h8 : j < 8
    · have hs := kof_step n j h8 hj
      have hb := H.out ((j : Int) + 1) (by omega) (by omega) w
      rw [show (((j : Int) + 1).toNat) = j + 1 from by omega] at hb
      have Hb := hide hb
      by_cases hlt : j < kof n
      · have hle : bnd (j + 1) ≤ n := hs.2 hlt
        clear hs hb
        go_wp2_with (go_at_call 62; refine (Hb.out).mono ?_; rintro e w' ⟨rfl, rfl⟩)
        go_round
        case rel => exact ⟨j + 1, by omega, by go_num⟩
        case measure => simp [intOf]; omega
      · have hle : ¬ bnd (j + 1) ≤ n := fun h => hlt (hs.1 h)
        clear hs hb
        go_wp2_with (go_at_call 62; refine (Hb.out).mono ?_; rintro e w' ⟨rfl, rfl⟩)
        go_ret
        exact ⟨ret_int (by omega), rfl⟩
    · go_wp2
      go_ret
      exact ⟨ret_int (by omega), rfl⟩
theorem be_low (j r : Nat) : UInt8.ofNat (r / 256 ^ j % 256) :: be j r = be (j + 1) r := by
  have h2 : UInt8.ofNat (r / 256 ^ j % 256) = UInt8.ofNat (r / 256 ^ j) := by
    apply UInt8.toNat_inj.1
    simp
  rw [h2]
  rfl
theorem pow_first (k : Nat) (h : k ≤ 8) : (256 : Int) - 2 ^ (8 - k) = ((256 - 2 ^ (8 - k) : Nat) : Int) := by
  rcases nine k h with rfl | rfl | rfl | rfl | rfl | rfl | rfl | rfl | rfl <;> rfl
set_option maxHeartbeats 1000000 in
theorem rnumber_any (n : Int) (h0 : 0 ≤ n) (h63 : n ≤ 9223372036854775807) (w : World) :
    Calls Tryz.prog 50 #[.int .i64 n] w fun e w' => e = .returned (.string (bs (num n.toNat))) ∧ Below w.heap.size w w' := by
  obtain ⟨n, rfl⟩ := Int.eq_ofNat_of_zero_le h0
  rw [Int.toNat_natCast]
  obtain ⟨k, hk⟩ : ∃ k, kof n = k := ⟨_, rfl⟩
  have hk8 := kof_le n
  have hkb := bnd_kof n
  have hrl := rest_lt n (by omega)
  have H1 := hide (rsize_any (n : Int) (by omega) h63)
  have H2 := hide (rfrom_any (k : Int) (by omega) (by omega))
  rw [Int.toNat_natCast, hk] at H1
  rw [Int.toNat_natCast] at H2
  rw [hk] at hk8 hkb hrl
  obtain ⟨b, hb⟩ : ∃ b, bnd k = b := ⟨_, rfl⟩
  rw [hb] at H2 hkb hrl
  obtain ⟨r, hr⟩ : ∃ r, n - b = r := ⟨_, rfl⟩
  rw [hr] at hrl
  have Hnum : Hid (num n = UInt8.ofNat (256 - 2 ^ (8 - k) + r / 256 ^ k) :: be k r) := hide (by unfold num; rw [hk, hb, hr])
  have i1 : (n : Int) - (b : Int) = (r : Int) := by omega
  have Hrl := hide hrl
  have hr63 : r ≤ 9223372036854775807 := by omega
  have hcv := conv_one (P := Tryz.prog) 44 9 5 Tryz.underlying44 Tryz.underlying5 Tryz.underlying9
  clear hk hb hr hrl hkb
  go_enter Tryz.func50, Tryz.ntmps50
  go_wp2_with fail
  refine (H1.out _).mono ?_
  rintro e w1 ⟨rfl, rfl⟩
  go_wp2_with fail
  refine (H2.out _).mono ?_
  rintro e w1 ⟨rfl, rfl⟩
  go_wp2
  go_loopw [0, 4, 5] (fun x out i wr => ∃ j : Nat, j ≤ k ∧ i = .int .i64 j ∧ x = .int .i64 ((r / 256 ^ j : Nat) : Int) ∧ out = .string (bs (be j r)) ∧ Below w.heap.size w wr) (fun _ _ i _ => (k - intOf i).toNat)
  case atStart => exact ⟨0, by omega, rfl, by simp, rfl, Below.refl _ _⟩
  case round =>
    obtain ⟨j, hj, rfl, rfl, rfl, hf⟩ := hrel
    have hxl : r / 256 ^ j ≤ r := Nat.div_le_self _ _
    have hbl : (bs (be j r)).size ≤ 8 := by rw [bs_size, be_length]; omega
    by_cases hlt : j < k
    · have hlow := be_low j r
      have hds := div_step r j
      obtain ⟨x, hx⟩ : ∃ x, r / 256 ^ j = x := ⟨_, rfl⟩
      rw [hx] at hlow hds hxl ⊢
      obtain ⟨S, hS⟩ : ∃ S, bs (be j r) = S := ⟨_, rfl⟩
      have hnx : (⟨#[UInt8.ofNat (x % 256)]⟩ : ByteArray) ++ S = bs (be (j + 1) r) := by
        rw [← hS, ← hlow]
        exact bs_append [_] _
      rw [hS] at hbl ⊢
      have i2 : ((x : Int) % 256).toNat = x % 256 := by omega
      have i3 : (x : Int) % 256 % 256 = (x : Int) % 256 := by omega
      have Hnx := hide hnx
      have Hds := hide hds
      have h1s : (⟨#[UInt8.ofNat (x % 256)]⟩ : ByteArray).size = 1 := rfl
      clear hx hlow hnx hds hS
      go_wp2
      go_roundw
      case rel => exact ⟨j + 1, by omega, by go_num, by rw [← Hds.out]; congr 1, by rw [Hnx.out], hf.alloc hf.size _⟩
      case measure => simp [intOf] <;> omega
    · have hjk : j = k := by omega
      subst hjk
      obtain ⟨x, hx⟩ : ∃ x, r / 256 ^ j = x := ⟨_, rfl⟩
      have hrl := Hrl.out
      rw [hx] at hrl Hnum hxl ⊢
      have hfl := (lead_first j x (by omega) hrl.1 hrl.2).1
      have hx128 : x < 128 := Nat.lt_of_lt_of_le hrl.1 (Nat.pow_le_pow_right (by omega) (show 7 - j ≤ 7 by omega))
      obtain ⟨S, hS⟩ : ∃ S, bs (be j r) = S := ⟨_, rfl⟩
      obtain ⟨y, hy⟩ : ∃ y, 256 - 2 ^ (8 - j) + x = y := ⟨_, rfl⟩
      have Hfin : Hid ((⟨#[UInt8.ofNat y]⟩ : ByteArray) ++ S = bs (num n)) := hide (by
        rw [Hnum.out, ← hS, hy]
        exact bs_append [_] _)
      rw [hS] at hbl ⊢
      have h1s : (⟨#[UInt8.ofNat y]⟩ : ByteArray).size = 1 := rfl
      have hyk := hide (show ∀ K : Nat, j = K → 256 - 2 ^ (8 - K) + x = y from fun K e => e ▸ hy)
      have hyl : y < 256 := by omega
      have i4 : (y : Int) % 256 = (y : Int) := by omega
      have i5 : (y : Int).toNat = y := rfl
      clear hS hy hfl hrl hx hxl
      rcases nine j (by omega) with rfl | rfl | rfl | rfl | rfl | rfl | rfl | rfl | rfl
      all_goals
        have hy0 := hyk.out _ rfl
        simp only [Nat.reducePow, Nat.reduceSub] at hy0
        first
          | (have i3 : (128 : Int) + (x : Int) = (y : Int) := by omega
             go_wp2
             go_ret
             exact ⟨ret_str Hfin.out, hf.alloc hf.size _⟩)
          | (have i3 : (192 : Int) + (x : Int) = (y : Int) := by omega
             go_wp2
             go_ret
             exact ⟨ret_str Hfin.out, hf.alloc hf.size _⟩)
          | (have i3 : (224 : Int) + (x : Int) = (y : Int) := by omega
             go_wp2
             go_ret
             exact ⟨ret_str Hfin.out, hf.alloc hf.size _⟩)
          | (have i3 : (240 : Int) + (x : Int) = (y : Int) := by omega
             go_wp2
             go_ret
             exact ⟨ret_str Hfin.out, hf.alloc hf.size _⟩)
          | (have i3 : (248 : Int) + (x : Int) = (y : Int) := by omega
             go_wp2
             go_ret
             exact ⟨ret_str Hfin.out, hf.alloc hf.size _⟩)
          | (have i3 : (252 : Int) + (x : Int) = (y : Int) := by omega
             go_wp2
             go_ret
             exact ⟨ret_str Hfin.out, hf.alloc hf.size _⟩)
          | (have i3 : (254 : Int) + (x : Int) = (y : Int) := by omega
             go_wp2
             go_ret
             exact ⟨ret_str Hfin.out, hf.alloc hf.size _⟩)
          | (have i3 : (255 : Int) + (x : Int) = (y : Int) := by omega
             go_wp2
             go_ret
             exact ⟨ret_str Hfin.out, hf.alloc hf.size _⟩)
          | (have i3 : (x : Int) = (y : Int) := by omega
             have i6 : y = x := by omega
             subst i6
             go_wp2
             go_ret
             exact ⟨ret_str Hfin.out, hf.alloc hf.size _⟩)
theorem rtext_any (s : ByteArray) (hs : s.size ≤ 1099511627776) (w : World) :
    Calls Tryz.prog 53 #[.string s] w fun e w' => e = .returned (.string (bs (text s))) ∧ Below w.heap.size w w' := by
  have H := rnumber_any (s.size : Int) (by omega) (by omega) w
  rw [Int.toNat_natCast] at H
  have hl := kof9 s.size
  have hr := hide (show bs (num s.size) ++ s = bs (text s) from by rw [← bs_toL s, bs_append]; rfl)
  rw [← bs_size] at hl
  generalize bs (num s.size) = t at *
  have H := hide H
  go_enter Tryz.func53, Tryz.ntmps53
  go_wp2_with fail
  refine (H.out).mono ?_
  rintro e w1 ⟨rfl, hb⟩
  go_wp2
  go_ret
  exact ⟨ret_str hr.out, hb⟩
end Go.Proofs.YtgllednilkfpgaaGreat
/-
  The walks over the references: models, a tree and its coding of a number.
-/
namespace Wv
open Go Go.RowKit
set_option linter.unusedVariables false
/-- The bit of a number that a power of 2 picks. -/
theorem and_two (n k : Nat) (hn : n < 9223372036854775808) (hk : k < 63) : bits .and .i64 (n : Int) ((2 ^ k : Nat) : Int) = ((n / 2 ^ k % 2 * 2 ^ k : Nat) : Int) := by
  have hp : 2 ^ k < 2 ^ 63 := Nat.pow_lt_pow_right (by omega) hk
  have e1 : (BitVec.ofInt 64 (n : Int)).toNat = n := by
    rw [BitVec.toNat_ofInt]
    have : ((n : Int) % ((2 ^ 64 : Nat) : Int)) = (n : Int) := Int.emod_eq_of_lt (by omega) (by omega)
    rw [this, Int.toNat_natCast]
  have e2 : (BitVec.ofInt 64 ((2 ^ k : Nat) : Int)).toNat = 2 ^ k := by
    rw [BitVec.toNat_ofInt]
    generalize 2 ^ k = p at *
    have : ((p : Int) % ((2 ^ 64 : Nat) : Int)) = (p : Int) := Int.emod_eq_of_lt (by omega) (by omega)
    rw [this, Int.toNat_natCast]
  have key : (BitVec.ofInt 64 (n : Int) &&& BitVec.ofInt 64 ((2 ^ k : Nat) : Int)).toNat = n / 2 ^ k % 2 * 2 ^ k := by
    rw [BitVec.toNat_and, e1, e2]
    apply Nat.eq_of_testBit_eq
    intro i
    rw [Nat.testBit_and, Nat.testBit_two_pow]
    have h2 : n / 2 ^ k % 2 = 0 ∨ n / 2 ^ k % 2 = 1 := by omega
    have h3 : n.testBit k = decide (n / 2 ^ k % 2 = 1) := Nat.testBit_eq_decide_div_mod_eq
    by_cases hik : k = i
    · subst hik
      rcases h2 with h | h
      · rw [h3, h]; simp
      · rw [h3, h, Nat.one_mul, Nat.testBit_two_pow]; simp
    · rcases h2 with h | h
      · rw [h]; simp [hik]
      · rw [h, Nat.one_mul, Nat.testBit_two_pow]; simp [hik]
  show IntKind.i64.wrap ((BitVec.ofInt 64 (n : Int) &&& BitVec.ofInt 64 ((2 ^ k : Nat) : Int)).toNat : Nat) = _
  rw [key]
  have : n / 2 ^ k % 2 * 2 ^ k ≤ 2 ^ k := by
    have h2 : n / 2 ^ k % 2 ≤ 1 := by omega
    exact Nat.le_trans (Nat.mul_le_mul_right _ h2) (by omega)
  rw [IntWalk.i64_in _ (by omega)]
end Wv
namespace Go.Proofs.YtgllednilkfpgaaGreat
open Go.RowKit Go.Proofs Wv Wv.Vi Wv.Rc Wv.Mo
set_option linter.unusedVariables false

/-- Numbers as values. -/
def ns (t : List Nat) : List Value := ivs (t.map Int.ofNat)
theorem ns_len (t : List Nat) : (ns t).length = t.length := by simp [ns, ivs]
theorem ns_get (t : List Nat) (i : Nat) (h : i < t.length) : (ns t)[i]? = some (.int .i64 (t.getD i 0 : Nat)) := by
  have : t.getD i 0 = t[i] := by simp [List.getD, h]
  rw [this]
  simp [ns, ivs, iv, h]
theorem ns_set (t : List Nat) (i z : Nat) : (ns t).set i (.int .i64 (z : Int)) = ns (t.set i z) := by simp [ns, ivs, iv, List.map_set]
theorem ns_snoc (t : List Nat) (z : Nat) : ns (t ++ [z]) = ns t ++ [.int .i64 (z : Int)] := by simp [ns, ivs, iv]
theorem ns_one (t : List Nat) : ∀ y ∈ ns t, y.oneCell' = true := by
  intro y hy
  unfold ns ivs at hy
  obtain ⟨b, _, rfl⟩ := List.mem_map.1 hy
  rfl
set_option maxHeartbeats 400000 in
theorem fadapt_any (z b : Nat) (h1 : 1 ≤ z) (h2 : z ≤ 2047) (hb : b < 2) (w : World) :
    Calls Tryz.prog 137 #[.int .i64 (z : Int), .int .i64 (b : Int)] w fun x w' => x = .returned (.int .i64 (adapt z b : Nat)) ∧ w = w' := by
  have hz : b = 0 ∨ b = 1 := by omega
  rcases hz with rfl | rfl
  · have ha := hide (show adapt z 0 = z + (2048 - z) / 32 by unfold adapt; rw [if_pos rfl])
    go_enter Tryz.func137, Tryz.ntmps137
    go_wp2
    go_ret
    exact ⟨ret_int (by rw [ha.out]; omega), rfl⟩
  · have ha := hide (show adapt z 1 = z - z / 32 by unfold adapt; rw [if_neg (by omega)])
    have hne : (((1 : Nat) : Int) == 0) = false := rfl
    go_enter Tryz.func137, Tryz.ntmps137
    go_wp2
    go_ret
    exact ⟨ret_int (by rw [ha.out]; omega), rfl⟩
set_option maxHeartbeats 400000 in
theorem flength_any (n : Nat) (h63 : n ≤ 9223372036854775807) (w : World) :
    Calls Tryz.prog 123 #[.int .i64 (n : Int)] w fun e w' => e = .returned (.int .i64 (blen n : Nat)) ∧ w = w' := by
  have hbl : blen n ≤ 64 := by
    unfold blen
    split
    · omega
    · have := (Nat.log2_lt (n := n) (k := 63) (by omega)).2 (by omega)
      omega
  go_enter Tryz.func123, Tryz.ntmps123
  go_wp2
  go_loop [0, 3] (fun x v => ∃ j k : Nat, j ≤ n ∧ blen j + k ≤ blen n ∧ blen n ≤ blen j + k ∧ x = .int .i64 j ∧ v = .int .i64 k) (fun x _ => (intOf x).toNat)
  case atStart => exact ⟨n, 0, by omega, by omega, by omega, rfl, rfl⟩
  case round =>
    obtain ⟨j, k, hj, h1, h2, rfl, rfl⟩ := hrel
    by_cases hlt : 0 < j
    · have hb := blen_half j hlt
      have h3 : blen (j / 2) + (k + 1) ≤ blen n := by omega
      have h4 : blen n ≤ blen (j / 2) + (k + 1) := by omega
      clear hb
      go_wp2
      go_round
      case rel => exact ⟨j / 2, k + 1, by omega, h3, h4, by go_num, by go_num⟩
      case measure => simp [intOf]; omega
    · have : j = 0 := by omega
      subst this
      have h0 : blen 0 = 0 := rfl
      rw [h0] at h1 h2
      have h3 : k = blen n := by omega
      clear hlt h1 h2
      go_wp2
      go_ret
      exact ⟨ret_int (by omega), rfl⟩
set_option maxHeartbeats 1000000 in
theorem fset_any {w : World} {A : Option Addr} {t : List Nat} (ha : At w A (ns t)) (n cap : Nat) (hn : n = t.length) (m z : Nat) (hm : m < t.length) (ht : t.length ≤ 4096) :
    Calls Tryz.prog 136 #[.slice A n cap, .int .i64 (m : Int), .int .i64 (z : Int)] w fun x w' => ∃ A' cap', x = .returned (.slice A' n cap') ∧ At w' A' (ns (t.set m z)) ∧ Below w.heap.size w w' ∧ (∀ b o, A' = some ⟨b, o, none⟩ → w.heap.size ≤ b) := by
  have hA : A = none → ns t = [] := by
    rintro rfl
    obtain ⟨b, p, h, _⟩ := ha 0 (by rw [ns_len]; omega)
    cases h
  obtain ⟨v', w1, hrun, hown, hbel, _⟩ := run_copy (P := Tryz.prog) 87 3 _ _ Tryz.underlying87 intinf rfl ha cap n (by rw [ns_len, hn]) hA (ns_one t) (by unfold maxLen; omega) (by omega)
  obtain ⟨g, cap', rfl, hcap⟩ := own_form hown (by omega)
  obtain ⟨c1, c2⟩ := own_cell hown m _ (ns_get t m hm)
  have hput := own_put hown m (by omega) (.int .i64 (z : Int))
  rw [ns_set] at hput
  have hbel2 := hbel.setCell (p := ⟨g, m, none⟩) ((hown.lt g rfl).1) (.int .i64 (z : Int))
  have Hrun := hide hrun
  have Hput := hide hput
  have Hbel := hide hbel2
  have hmn : m < n := by omega
  have hgb := (hown.lt g rfl).1
  clear hrun ha hA hown hbel hput hbel2 hn hm ht
  go_enter Tryz.func136, Tryz.ntmps136
  go_wp2_with (
    at_builtin
    refine wpList_run (by with_reducible rfl) rfl _ _ _ rfl _ _ (by rfl) (by rfl) Hrun.out ?_)
  go_returns
  obtain ⟨A', cap2, hv, hat⟩ := own_at Hput.out
  injection hv with h1 h2 h3
  subst h1; subst h3
  exact ⟨_, cap', rfl, hat, Hbel.out, fun b o h => by injection h with h; injection h with h; omega⟩
set_option maxHeartbeats 1000000 in
theorem fnewtree_any (w : World) :
    Calls Tryz.prog 65 #[.int .i64 6] w fun x w' => ∃ A' cap', x = .returned (.slice A' 64 cap') ∧ At w' A' (ns t0) ∧ Below w.heap.size w w' := by
  obtain ⟨i0, hi, hz0, hz1, hz2⟩ := info_parts intinf
  have Hinf := hide (And.intro hi (And.intro hz0 (And.intro hz1 hz2)))
  have ho0 := hide (own_made0 3 w)
  have hb0 := hide ((Below.refl w.heap.size w).alloc (Nat.le_refl _) (.cells #[] 3))
  clear hi hz0 hz1 hz2
  go_enter Tryz.func65, Tryz.ntmps65
  go_wp2
  go_loopw [3, 4] (fun v i wr => ∃ k : Nat, k ≤ 64 ∧ i = .int .i64 k ∧ wr.ownsRow w.heap.size 3 1 v k (ns (List.replicate k 1024)) ∧ Below w.heap.size w wr) (fun _ i _ => (64 - intOf i).toNat)
  case atStart => exact ⟨0, by omega, rfl, ho0.out, hb0.out⟩
  case round =>
    obtain ⟨k, hk, rfl, hown, hf⟩ := hrel
    by_cases hlt : k < 64
    · obtain ⟨A5, cap5, hv5, _⟩ := own_at hown
      subst hv5
      have hp1 : k + 1 ≤ maxLen := by unfold maxLen; omega
      have hp2 : (k + 1) * 8 ≤ 140737488355328 := by omega
      have Hp := hide (And.intro hp1 hp2)
      have hbase := hf.size
      have Hown := hide hown
      have Hf := hide hf
      obtain ⟨hi, hz0, hz1, hz2⟩ := Hinf.out
      have hlt2 : (k : Int) < 64 := by omega
      have Hk := hide (And.intro hk hlt)
      have Hbase := hide hbase
      clear hown hf ho0 hb0 hp1 hp2 hk hlt hbase
      go_wp2_with (
        at_builtin
        refine wpList_append_own_at _ rfl (.tmp 12) (.tmp 13) _ rfl w.heap.size 3 i0 (.int .i64 0) 1 8 Tryz.underlying87 hi hz0 hz1 hz2 rfl (by omega) (.slice A5 k cap5) k (ns (List.replicate k 1024)) (by rfl) (Hown.out.alloc _) ⟨_, 0, none⟩ 1 1 [.int .i64 1024] (by rfl) rfl (news_one _ _ _) (by simp [Value.oneCell']) Hp.out.1 Hp.out.2 (Nat.le_trans Hbase.out (by simp)) ?_
        intro v' w3 hown1 hg1 _ hat1
        have Hown1 := hide hown1
        have Hg1 := hide hg1
        clear hown1 hg1 hat1)
      have hbase := Hbase.out
      have hf3 : Below w.heap.size w w3 := (Hf.out.alloc hbase (.cells #[.int .i64 1024] 3)).grown Hg1.out (Nat.le_trans hbase (by simp)) (fun j hj => (Hown.out.lt j hj).1)
      have ho3 : w3.ownsRow w.heap.size 3 1 v' (k + 1) (ns (List.replicate (k + 1) 1024)) := by
        have := Hown1.out
        rw [List.replicate_succ', ns_snoc]
        exact this
      have Ho3 := hide ho3
      have Hf3 := hide hf3
      clear Hown1 Hg1 Hown Hf ho3 hf3 hi hz0 hz1 hz2 hbase Hp
      go_wp2
      go_roundw
      case rel => exact ⟨k + 1, (by have := Hk.out; omega), by go_num, Ho3.out, Hf3.out⟩
      case measure => simp [intOf] <;> omega
    · have hk64 : k = 64 := by omega
      clear hk hlt
      subst hk64
      obtain ⟨A5, cap5, hv5, hat⟩ := own_at hown
      subst hv5
      have Hat := hide hat
      clear hown ho0 hb0 hat
      go_wp2
      go_returns
      exact ⟨_, _, rfl, Hat.out, hf⟩
end Go.Proofs.YtgllednilkfpgaaGreat
/-
  The walks over the references: models, a tree's coding of a number, a number.
-/
namespace Go.Proofs.YtgllednilkfpgaaGreat
open Go.RowKit Go.Proofs Wv Wv.Vi Wv.Rc Wv.Mo
set_option linter.unusedVariables false

/-- What the coding of a number leaves: an encoder and a tree. -/
def ERT (w : World) (A : Option Addr) (r : List Nat × En) (x : Ending) (w' : World) : Prop := ∃ v' A' cap', x = .returned (.tuple #[v', .slice A' 64 cap']) ∧ REn w' v' r.2 ∧ At w' A' (ns r.1) ∧ Below w.heap.size w w' ∧ (∀ b o, A' = some ⟨b, o, none⟩ → A' = A ∨ w.heap.size ≤ b)
set_option maxRecDepth 100000 in
set_option maxHeartbeats 2000000 in
theorem ftenc_any {w : World} {v : Value} {e : En} {A : Option Addr} {t : List Nat} (h : REn w v e) (hv : Val 0 e) (ha : At w A (ns t)) (ht : TNum t) (n cap : Nat) (hn : n ≤ 9223372036854775807) (hl : e.out.length ≤ 800000) :
    Calls Tryz.prog 124 #[v, .slice A 64 cap, .int .i64 (n : Int)] w fun x w' => ERT w A (tenc 6 n 1 t e) x w' := by
  obtain ⟨Ae, cape, rfl, hat⟩ := h
  have hrb0 : RB ((w.alloc (.cells #[.slice Ae e.out.length cape, .int .i64 (e.low : Int), .int .i64 (e.size : Int)] 108)).alloc (.cells #[.slice none 0 0, .int .i64 0, .int .i64 0] 108)) w.heap.size Ae cape e :=
    RB.alloc ⟨Bk.new _ _ _, hat.alloc _⟩ _
  have hbel0 := (((Below.refl w.heap.size w).alloc (Nat.le_refl _) (.cells #[.slice Ae e.out.length cape, .int .i64 (e.low : Int), .int .i64 (e.size : Int)] 108)).alloc (by simp) (.cells #[.slice none 0 0, .int .i64 0, .int .i64 0] 108))
  have hres0 := (Bk.new (w.alloc (.cells #[.slice Ae e.out.length cape, .int .i64 (e.low : Int), .int .i64 (e.size : Int)] 108)) 108 #[.slice none 0 0, .int .i64 0, .int .i64 0])
  simp only [World.size_alloc] at hres0
  have hat0 := (ha.alloc (.cells #[.slice Ae e.out.length cape, .int .i64 (e.low : Int), .int .i64 (e.size : Int)] 108)).alloc (.cells #[.slice none 0 0, .int .i64 0, .int .i64 0] 108)
  have Hrb0 := hide hrb0
  have Hbel0 := hide hbel0
  have Hres0 := hide hres0
  have Hat0 := hide hat0
  have Hbl : Hid (Hid (∀ b o, A = some ⟨b, o, none⟩ → b ≠ w.heap.size ∧ b ≠ w.heap.size + 1)) := hide (hide (fun b o h => by
    obtain ⟨b', o', h1, h2, _⟩ := ha 0 (by rw [ns_len, ht.2]; omega)
    rw [h] at h1
    injection h1 with h1
    injection h1 with h1
    omega))
  clear hrb0 hbel0 hres0 hat ha hat0
  go_enter Tryz.func124, Tryz.ntmps124
  go_wp2
  go_loopw [1, 8, 9] (fun tv mv av wr => ∃ (j m : Nat) (A' At' : Option Addr) (cap' capt : Nat) (u : List Nat) (x : En), j ≤ 6 ∧ av = .int .i64 ((2 ^ j / 2 : Nat) : Int) ∧ mv = .int .i64 m ∧ (m + 1) * 2 ^ j ≤ 128 ∧ tv = .slice At' 64 capt ∧ At wr At' (ns u) ∧ Hid (∀ b o, At' = some ⟨b, o, none⟩ → At' = A ∨ w.heap.size + 2 ≤ b) ∧ TNum u ∧ RB wr w.heap.size A' cap' x ∧ Val 0 x ∧ Hid (tenc j n m u x = tenc 6 n 1 t e) ∧ Bk wr (w.heap.size + 1) 108 #[.slice none 0 0, .int .i64 0, .int .i64 0] ∧ Below w.heap.size w wr ∧ x.out.length ≤ e.out.length + 2 * (6 - j)) (fun _ _ av _ => (intOf av).toNat)
  case atStart => exact ⟨6, 1, Ae, A, cape, cap, t, e, by omega, rfl, rfl, by decide, rfl, Hat0.out, hide (fun _ _ _ => .inl rfl), ht, Hrb0.out, hv, hide rfl, Hres0.out, Hbel0.out, by omega⟩
  case round =>
    clear Hrb0 Hbel0 Hres0 Hat0 ht hv
    obtain ⟨j, m, A', At', cap', capt, u, x, hj, rfl, rfl, hm, rfl, hat, hfar0, htu, hx, hvx, hte, hres, hf, hlx⟩ := hrel
    have hfar : Hid (∀ b o, At' = some ⟨b, o, none⟩ → b ≠ w.heap.size ∧ b ≠ w.heap.size + 1) := hide (fun b o h => by
      rcases hfar0.out b o h with h1 | h1
      · exact Hbl.out.out b o (h1 ▸ h)
      · omega)
    by_cases hlt : 0 < j
    · obtain ⟨k, rfl⟩ : ∃ k, j = k + 1 := ⟨j - 1, by omega⟩
      have hm64 : m < u.length := node_lt (by rw [htu.2]; exact hm)
      have hst := tenc_step k n m u x
      have hpk : 2 ^ (k + 1) / 2 = 2 ^ k := by rw [Nat.pow_succ, Nat.mul_div_cancel _ (by omega)]
      have hand := and_two n k (by omega) (by omega)
      have hpp : 0 < 2 ^ k := Nat.two_pow_pos k
      have hpl : 2 ^ k ≤ 2 ^ 6 := Nat.pow_le_pow_right (by omega) (by omega)
      obtain ⟨y, hy⟩ : ∃ y, n / 2 ^ k % 2 = y := ⟨_, rfl⟩
      have hy2 : y < 2 := by omega
      have hp := tok_get htu.1 hm64
      have hmn : (2 * m + y + 1) * 2 ^ k ≤ 128 := node_step (L := 64) hy2 hm
      obtain ⟨bA, oA, hA, hbA, hcA⟩ := hat.get m _ (ns_get u m hm64)
      subst hA
      obtain ⟨z, hz⟩ : ∃ z, u.getD m 0 = z := ⟨_, rfl⟩
      rw [hy] at hand
      rw [hy, hz] at hst
      rw [hz] at hcA hp
      obtain ⟨P, hP⟩ : ∃ P, 2 ^ k = P := ⟨_, rfl⟩
      have hm2 : 2 ^ k / 2 < 2 ^ k := by omega
      have Hmn := hide hmn
      rw [hP] at hand hpk hpp hpl hm2
      rw [hpk]
      have hbit : (bits .and .i64 (n : Int) (P : Int) != 0) = (y == 1) := by
        rw [hand]
        have hz : y = 0 ∨ y = 1 := by omega
        rcases hz with rfl | rfl
        · simp
        · rw [Nat.one_mul]
          have : ((P : Int) != 0) = true := by rw [bne_iff_ne]; omega
          rw [this]
          rfl
      have hpl2 : (P : Int) ≤ 64 := by omega
      have hm642 : (m : Int) < 64 := by rw [htu.2] at hm64; omega
      have Hb := hide (fbit_any hx.drew.en hvx z y hp.1 hp.2 hy2 (by omega))
      have Ha := hide (fadapt_any z y hp.1 hp.2 hy2)
      have hel := ebit_len z y x
      have hval := ebit_val hvx (b := y) hp.1 hp.2
      have htn : TNum (u.set m (adapt z y)) := ⟨tok_set htu.1 m (adapt_ok hp), by rw [List.length_set]; exact htu.2⟩
      have Hs := hide (fun W (h : At W (some ⟨bA, oA, none⟩) (ns u)) => fset_any h 64 capt htu.2.symm m (adapt z y) hm64 (by rw [htu.2]; omega))
      have c0 : wr.cell? ⟨w.heap.size, 0, none⟩ = some (.slice A' x.out.length cap') := hx.1.cell 0
      have c1 : wr.cell? ⟨w.heap.size, 1, none⟩ = some (.int .i64 (x.low : Int)) := hx.1.cell 1
      have c2 : wr.cell? ⟨w.heap.size, 2, none⟩ = some (.int .i64 (x.size : Int)) := hx.1.cell 2
      have Hst := hide hst
      have Hx := hide hx
      have Hat := hide hat
      have Hres := hide hres
      have Hf := hide hf
      have HP := hide hP
      have Hz := hide hz
      have Htu := hide htu
      have Hlt := hide (And.intro hlx (And.intro hj hel))
      clear hst hand hpk hy hz hP hx hvx htu hm hm64 hp hat hres hf hlx hel hmn hpl hn hl
      go_upto_if 21 with fail
      go_cut [10] (fun s10 wx => s10 = .int .i64 (y : Int) ∧ wr = wx)
      case first =>
        have hz : y = 0 ∨ y = 1 := by omega
        clear Hb Ha Hs Hst Hx Hat Hres Hf HP Htu Hlt c0 c1 c2 hcA hval htn Hmn hm2
        rcases hz with rfl | rfl
        · have h0 : (bits .and .i64 (n : Int) (P : Int) != 0) = false := hbit
          clear hbit
          go_wp2
          go_meet
          case rel => exact ⟨rfl, rfl⟩
        · have h0 : (bits .and .i64 (n : Int) (P : Int) != 0) = true := hbit
          clear hbit
          go_wp2
          go_meet
          case rel => exact ⟨rfl, rfl⟩
      case rest =>
        obtain ⟨rfl, rfl⟩ := hcut
        clear hbit
        go_wp2
        go_region_with ((go_at_call 154; refine (Hb.out).mono ?_; rintro r w2 ⟨v2, rfl, ⟨A2, cap2, rfl, hat2⟩, hb2⟩; have hrb2 := Hx.out.drew.below hb2; have p0 := hrb2.1.frozen 0; have p1 := hrb2.1.frozen 1; have p2 := hrb2.1.frozen 2; have q0 : w2.cell? ⟨w.heap.size, 0, none⟩ = some (.slice A' x.out.length cap') := hrb2.1.cell 0; have q1 : w2.cell? ⟨w.heap.size, 1, none⟩ = some (.int .i64 (x.low : Int)) := hrb2.1.cell 1; have q2 : w2.cell? ⟨w.heap.size, 2, none⟩ = some (.int .i64 (x.size : Int)) := hrb2.1.cell 2; have Hrb2 := hide hrb2; have Hat2 := hide hat2; have Hb2 := hide hb2; clear hrb2 hat2 hb2))
        all_goals
          have hlt := Hres.out.lt
          have hne := (hfar.out _ _ rfl).1
          have hrbA := Hrb2.out.putAll (cap' := cap2) Hat2.out
          have hresA := (((Hres.out.drew.below Hb2.out hlt).off (p := ⟨w.heap.size, 0, none⟩) (by simp) (.slice A2 (ebit z y x).out.length cap2)).off (p := ⟨w.heap.size, 1, none⟩) (by simp) (.int .i64 ((ebit z y x).low : Int))).off (p := ⟨w.heap.size, 2, none⟩) (by simp) (.int .i64 ((ebit z y x).size : Int))
          have hfA := (((Hf.out.drew.trans (Hb2.out.mono Hf.out.size)).setCell (p := ⟨w.heap.size, 0, none⟩) (Nat.le_refl _) (.slice A2 (ebit z y x).out.length cap2)).setCell (p := ⟨w.heap.size, 1, none⟩) (Nat.le_refl _) (.int .i64 ((ebit z y x).low : Int))).setCell (p := ⟨w.heap.size, 2, none⟩) (Nat.le_refl _) (.int .i64 ((ebit z y x).size : Int))
          have hatA := (Hat.out.drew.below Hb2.out).keep ((((Fr.refl (only w.heap.size) w2).setCell (p := ⟨w.heap.size, 0, none⟩) (.inl rfl) (.slice A2 (ebit z y x).out.length cap2)).setCell (p := ⟨w.heap.size, 1, none⟩) (.inl rfl) (.int .i64 ((ebit z y x).low : Int))).setCell (p := ⟨w.heap.size, 2, none⟩) (.inl rfl) (.int .i64 ((ebit z y x).size : Int))) (fun b o hbo hs => hne (by injection hbo with hbo; injection hbo with hbo; rw [hbo]; exact hs))
          clear p0 p1 p2 q0 q1 q2 c0 c1 c2 hcA hlt hne
          generalize (((w2.setCell ⟨w.heap.size, 0, none⟩ (.slice A2 (ebit z y x).out.length cap2)).setCell ⟨w.heap.size, 1, none⟩ (.int .i64 ((ebit z y x).low : Int))).setCell ⟨w.heap.size, 2, none⟩ (.int .i64 ((ebit z y x).size : Int))) = W3 at *
          obtain ⟨b3, o3, hA3, hb3, hc3⟩ := hatA.get m _ (by have := ns_get u m (by have := Htu.out.2; omega); exact this)
          injection hA3 with hA3
          injection hA3 with hA3 hO3
          subst hA3; subst hO3
          have hz3 : W3.cell? ⟨bA, oA + m, none⟩ = some (.int .i64 (z : Int)) := by rw [hc3, Hz.out]
          have Hset := hide (Hs.out W3 hatA)
          have HrbA := hide hrbA
          have HresA := hide hresA
          have HfA := hide hfA
          clear hc3 hatA hrbA hresA hfA Hrb2 Hat2 Hb2 Hx Hat Hres Hf Hb Hs
          go_wp2_with fail
          refine (Ha.out _).mono ?_
          rintro r w4 ⟨rfl, rfl⟩
          go_wp2_with fail
          refine (Hset.out).mono ?_
          rintro r w4 ⟨A4, cap4, rfl, hat4, hb4, hfr4⟩
          have hrb4 := HrbA.out.below hb4
          have hres4 := HresA.out.below hb4 HresA.out.lt
          have hf4 := HfA.out.trans (hb4.mono HfA.out.size)
          have hlt4 := HresA.out.lt
          have Hrb4 := hide hrb4
          have Hres4 := hide hres4
          have Hf4 := hide hf4
          have Hat4 := hide hat4
          have Hfr4 : Hid (∀ b o, A4 = some ⟨b, o, none⟩ → A4 = A ∨ w.heap.size + 2 ≤ b) := hide (fun b o h => by have := hfr4 b o h; exact .inr (by omega))
          clear hrb4 hres4 hf4 hat4 hb4 hfr4 hlt4 HrbA HresA HfA Hset
          go_wp2
          go_roundw
          case rel => exact ⟨k, 2 * m + y, A2, A4, cap2, cap4, u.set m (adapt z y), ebit z y x, by have := Hlt.out.2.1; omega, (by rw [HP.out]; exact congrArg (Value.int .i64) (by omega)), by congr 1, Hmn.out, rfl, Hat4.out, Hfr4, htn, Hrb4.out, hval, hide (by rw [← Hst.out]; exact hte.out), Hres4.out, Hf4.out, by have := Hlt.out; omega⟩
          case measure => simp [intOf] <;> omega
    · have hj0 : j = 0 := by omega
      subst hj0
      have hfin := hte.out
      rw [tenc] at hfin
      obtain ⟨WF, hWF, u0, u1, u2, hren, hfr⟩ := res_end hx hres rfl
      have c0 : wr.cell? ⟨w.heap.size, 0, none⟩ = some (.slice A' x.out.length cap') := hx.1.cell 0
      have c1 : wr.cell? ⟨w.heap.size, 1, none⟩ = some (.int .i64 (x.low : Int)) := hx.1.cell 1
      have c2 : wr.cell? ⟨w.heap.size, 2, none⟩ = some (.int .i64 (x.size : Int)) := hx.1.cell 2
      have z0 : wr.cell? ⟨w.heap.size + 1, 0, none⟩ = some (.slice none 0 0) := hres.cell 0
      have z1 : wr.cell? ⟨w.heap.size + 1, 1, none⟩ = some (.int .i64 0) := hres.cell 1
      have z2 : wr.cell? ⟨w.heap.size + 1, 2, none⟩ = some (.int .i64 0) := hres.cell 2
      have y0 := hres.frozen 0
      have y1 := hres.frozen 1
      have y2 := hres.frozen 2
      have hbe := own_below hfr hf.size (show w.heap.size ≤ w.heap.size + 1 by omega)
      have Hren := hide hren
      have Hbe := hide (hf.trans hbe)
      have HWF := hide hWF
      have Hfin := hide hfin
      have HatF := hide (hat.keep hfr (fun b o hbo hs => (hfar.out b o hbo).2 hs))
      clear hx hres hf hren hbe hfr hWF hat hfin hte hlx hm
      go_wp2
      rw [HWF.out]
      clear c0 c1 c2 z0 z1 z2 y0 y1 y2
      refine bodyPost_ret (by simp [results, Tryz.results124, go_sem, u0, u1, u2]; try rfl) rfl ?_
      rw [← Hfin.out]
      exact ⟨_, At', capt, rfl, Hren.out, HatF.out, Hbe.out, fun b o h => (hfar0.out b o h).imp id (fun h => by omega)⟩
end Go.Proofs.YtgllednilkfpgaaGreat
/-
  The walks over the references: models, a number; the bytes of numbers.
-/
namespace Go.Proofs.YtgllednilkfpgaaGreat
open Go.RowKit Go.Proofs Wv Wv.Vi Wv.Rc Wv.Mo
set_option linter.unusedVariables false

set_option maxRecDepth 100000 in
set_option maxHeartbeats 2000000 in
theorem fnenc_any {w : World} {v : Value} {e : En} {A : Option Addr} {t : List Nat} (h : REn w v e) (hv : Val 0 e) (ha : At w A (ns t)) (ht : TNum t) (n cap : Nat) (hn : n < 4611686018427387904) (hl : e.out.length ≤ 700000) :
    Calls Tryz.prog 91 #[v, .slice A 64 cap, .int .i64 (n : Int)] w fun x w' => ERT w A (nenc n (t, e)) x w' := by
  have hb62 := blen_le hn
  have Hl := hide (flength_any n (by omega))
  obtain ⟨k, hk⟩ : ∃ k, blen n = k := ⟨_, rfl⟩
  have hne : nenc n (t, e) = ((tenc 6 k 1 t e).1, if 2 ≤ k then edir (k - 1) n (tenc 6 k 1 t e).2 else (tenc 6 k 1 t e).2) := by unfold nenc; rw [hk]
  rw [hk] at Hl hb62
  obtain ⟨k1, k2, k3⟩ := tenc_val 6 k 1 ht.1 (by rw [ht.2]; decide) hv
  have hlen := tenc_len k 6 1 t e
  have Ht := hide (fun W (hr : REn W v e) (ha : At W A (ns t)) => ftenc_any hr hv ha ht k cap (by omega) (by omega))
  generalize tenc 6 k 1 t e = D at *
  obtain ⟨t2, e2⟩ := D
  simp only at hne Ht k3 hlen
  have Hne := hide hne
  have k1l := hide (show t2.length = 64 from k2.trans ht.2)
  obtain ⟨Ae, cape, rfl, hat⟩ := h
  have hbel0 := (((Below.refl w.heap.size w).alloc (Nat.le_refl _) (.cells #[.slice Ae e.out.length cape, .int .i64 (e.low : Int), .int .i64 (e.size : Int)] 108)).alloc (by simp) (.cells #[.slice none 0 0, .int .i64 0, .int .i64 0] 108))
  have hres0 := (Bk.new (w.alloc (.cells #[.slice Ae e.out.length cape, .int .i64 (e.low : Int), .int .i64 (e.size : Int)] 108)) 108 #[.slice none 0 0, .int .i64 0, .int .i64 0])
  simp only [World.size_alloc] at hres0
  have hat0 := (ha.alloc (.cells #[.slice Ae e.out.length cape, .int .i64 (e.low : Int), .int .i64 (e.size : Int)] 108)).alloc (.cells #[.slice none 0 0, .int .i64 0, .int .i64 0] 108)
  have hren0 : REn ((w.alloc (.cells #[.slice Ae e.out.length cape, .int .i64 (e.low : Int), .int .i64 (e.size : Int)] 108)).alloc (.cells #[.slice none 0 0, .int .i64 0, .int .i64 0] 108)) (.agg #[.slice Ae e.out.length cape, .int .i64 (e.low : Int), .int .i64 (e.size : Int)]) e := ⟨Ae, cape, rfl, (hat.alloc _).alloc _⟩
  have Hx := hide (Ht.out _ hren0 hat0)
  have HbA : Hid (∀ b o, A = some ⟨b, o, none⟩ → b < w.heap.size) := hide (fun b o h => by
    obtain ⟨b', o', h1, h2, _⟩ := ha 0 (by rw [ns_len, ht.2]; omega)
    rw [h] at h1
    injection h1 with h1
    injection h1 with h1
    omega)
  have Hbel0 := hide hbel0
  have Hres0 := hide hres0
  have hc0 : ¬ (n : Int) < 0 := by omega
  have hc1 : ¬ (4611686018427387903 : Int) < (n : Int) := by omega
  have hk0 : k < 63 := by omega
  have Hd := hide (fun W vv (hr : REn W vv e2) (h2 : 2 ≤ k) => fdirect_any hr k3 (k - 1) n (by omega) (by omega) (by omega))
  clear hbel0 hres0 hat ha hat0 hren0 Ht hne hk k1 k2 k3 hv hn ht hlen hl hb62
  go_enter Tryz.func91, Tryz.ntmps91
  go_wp2_with fail
  refine (Hl.out _).mono ?_
  rintro x w1 ⟨rfl, rfl⟩
  go_wp2_with fail
  refine (Hx.out).mono ?_
  rintro x w2 ⟨v2, A4, cap4, rfl, ⟨A2, cap2, rfl, hat2⟩, hat4, hb2, hfar⟩
  simp only at hat2 hat4
  have hbel2 := Hbel0.out.trans (hb2.mono Hbel0.out.size)
  have hlt0 := Hres0.out.lt
  have hres2 := Hres0.out.below hb2 hlt0
  have hlt2 := hres2.lt
  have hrb3 : RB (w2.alloc (.cells #[.slice A2 e2.out.length cap2, .int .i64 (e2.low : Int), .int .i64 (e2.size : Int)] 108)) w2.heap.size A2 cap2 e2 := ⟨Bk.new _ _ _, hat2.alloc _⟩
  have hres3 := hres2.alloc (.cells #[.slice A2 e2.out.length cap2, .int .i64 (e2.low : Int), .int .i64 (e2.size : Int)] 108)
  have hbel3 := hbel2.alloc hbel2.size (.cells #[.slice A2 e2.out.length cap2, .int .i64 (e2.low : Int), .int .i64 (e2.size : Int)] 108)
  have hat43 := hat4.alloc (.cells #[.slice A2 e2.out.length cap2, .int .i64 (e2.low : Int), .int .i64 (e2.size : Int)] 108)
  have Hrb3 := hide hrb3
  have Hres3 := hide hres3
  have Hbel3 := hide hbel3
  have Hat43 := hide hat43
  have hw2 : w.heap.size + 2 ≤ w2.heap.size := by
    have := hb2.size
    simp at this
    omega
  simp only [World.size_alloc] at hfar
  have Hfar : Hid (∀ b o, A4 = some ⟨b, o, none⟩ → b ≠ w.heap.size + 1 ∧ b ≠ w2.heap.size) := hide (fun b o h => by
    have h3 : b < w2.heap.size := by
      obtain ⟨b', o', h1, h2, _⟩ := hat4 0 (by rw [ns_len, k1l.out]; omega)
      rw [h] at h1
      injection h1 with h1
      injection h1 with h1
      omega
    rcases hfar b o h with h1 | h1
    · have := HbA.out b o (h1 ▸ h)
      omega
    · omega)
  have Hfar2 : Hid (∀ b o, A4 = some ⟨b, o, none⟩ → A4 = A ∨ w.heap.size ≤ b) := hide (fun b o h => (hfar b o h).imp id (fun h => by omega))
  clear hrb3 hres3 hbel3 hfar hat2 hat4 hb2 hbel2 hres2 hlt0 hat43 Hx Hl Hbel0 Hres0
  generalize hW3 : w2.alloc (.cells #[.slice A2 e2.out.length cap2, .int .i64 (e2.low : Int), .int .i64 (e2.size : Int)] 108) = W3 at *
  have HW3 := hide hW3
  clear hW3
  have c0 : W3.cell? ⟨w2.heap.size, 0, none⟩ = some (.slice A2 e2.out.length cap2) := Hrb3.out.1.cell 0
  have c1 : W3.cell? ⟨w2.heap.size, 1, none⟩ = some (.int .i64 (e2.low : Int)) := Hrb3.out.1.cell 1
  have c2 : W3.cell? ⟨w2.heap.size, 2, none⟩ = some (.int .i64 (e2.size : Int)) := Hrb3.out.1.cell 2
  by_cases h2 : 2 ≤ k
  · have hk2 : (2 : Int) ≤ (k : Int) := by omega
    have Hd2 := hide (Hd.out _ _ Hrb3.out.en h2)
    have H2 := hide h2
    obtain ⟨q, hq⟩ : ∃ q, k - 1 = q := ⟨_, rfl⟩
    have hq0 := hq
    have i1 : (k : Int) - 1 = (q : Int) := by omega
    rw [hq] at Hd2
    obtain ⟨EE, hEE⟩ : ∃ EE, edir q n e2 = EE := ⟨_, rfl⟩
    have Hq : Hid (edir (k - 1) n e2 = EE) := hide (by rw [hq, hEE])
    rw [hEE] at Hd2
    clear hq h2 hq0 hEE
    go_upto_region 6 with fail
    rw [HW3.out]
    go_wp2_with fail
    refine (Hd2.out).mono ?_
    rintro x w5 ⟨v5, rfl, ⟨A5, cap5, rfl, hat5⟩, hb5⟩
    have hrb5 := Hrb3.out.below hb5
    have p0 := hrb5.1.frozen 0
    have p1 := hrb5.1.frozen 1
    have p2 := hrb5.1.frozen 2
    have q0 : w5.cell? ⟨w2.heap.size, 0, none⟩ = some (.slice A2 e2.out.length cap2) := hrb5.1.cell 0
    have q1 : w5.cell? ⟨w2.heap.size, 1, none⟩ = some (.int .i64 (e2.low : Int)) := hrb5.1.cell 1
    have q2 : w5.cell? ⟨w2.heap.size, 2, none⟩ = some (.int .i64 (e2.size : Int)) := hrb5.1.cell 2
    have hrbA := hrb5.putAll (cap' := cap5) hat5
    have hneq : w.heap.size + 1 ≠ w2.heap.size := by omega
    have hresA := (((Hres3.out.below hb5 Hres3.out.lt).off (p := ⟨w2.heap.size, 0, none⟩) hneq (.slice A5 EE.out.length cap5)).off (p := ⟨w2.heap.size, 1, none⟩) hneq (.int .i64 (EE.low : Int))).off (p := ⟨w2.heap.size, 2, none⟩) hneq (.int .i64 (EE.size : Int))
    have hwl : w.heap.size ≤ w2.heap.size := by omega
    have hbA := (((Hbel3.out.trans (hb5.mono Hbel3.out.size)).setCell (p := ⟨w2.heap.size, 0, none⟩) hwl (.slice A5 EE.out.length cap5)).setCell (p := ⟨w2.heap.size, 1, none⟩) hwl (.int .i64 (EE.low : Int))).setCell (p := ⟨w2.heap.size, 2, none⟩) hwl (.int .i64 (EE.size : Int))
    have hatA := (Hat43.out.below hb5).keep ((((Fr.refl (only w2.heap.size) w5).setCell (p := ⟨w2.heap.size, 0, none⟩) (.inl rfl) (.slice A5 EE.out.length cap5)).setCell (p := ⟨w2.heap.size, 1, none⟩) (.inl rfl) (.int .i64 (EE.low : Int))).setCell (p := ⟨w2.heap.size, 2, none⟩) (.inl rfl) (.int .i64 (EE.size : Int))) (fun b o hbo hs => (Hfar.out b o hbo).2 hs)
    have HrbA := hide hrbA
    have HresA := hide hresA
    have HbA2 := hide hbA
    have HatA := hide hatA
    clear hrb5 hrbA hresA hbA hatA hat5 hb5 Hres3 Hbel3 Hat43 c0 c1 c2 Hrb3
    go_upto_region 7 with fail
    generalize (((w5.setCell ⟨w2.heap.size, 0, none⟩ (.slice A5 EE.out.length cap5)).setCell ⟨w2.heap.size, 1, none⟩ (.int .i64 (EE.low : Int))).setCell ⟨w2.heap.size, 2, none⟩ (.int .i64 (EE.size : Int))) = W6 at *
    clear p0 p1 p2 q0 q1 q2
    obtain ⟨WF, hWF, u0, u1, u2, hren, hfr⟩ := res_end HrbA.out HresA.out rfl
    have c0 : W6.cell? ⟨w2.heap.size, 0, none⟩ = some (.slice A5 EE.out.length cap5) := (HrbA.out).1.cell 0
    have c1 : W6.cell? ⟨w2.heap.size, 1, none⟩ = some (.int .i64 (EE.low : Int)) := (HrbA.out).1.cell 1
    have c2 : W6.cell? ⟨w2.heap.size, 2, none⟩ = some (.int .i64 (EE.size : Int)) := (HrbA.out).1.cell 2
    have z0 : W6.cell? ⟨w.heap.size + 1, 0, none⟩ = some (.slice none 0 0) := (HresA.out).cell 0
    have z1 : W6.cell? ⟨w.heap.size + 1, 1, none⟩ = some (.int .i64 0) := (HresA.out).cell 1
    have z2 : W6.cell? ⟨w.heap.size + 1, 2, none⟩ = some (.int .i64 0) := (HresA.out).cell 2
    have y0 := (HresA.out).frozen 0
    have y1 := (HresA.out).frozen 1
    have y2 := (HresA.out).frozen 2
    have hbe := own_below hfr (HbA2.out).size (show w.heap.size ≤ w.heap.size + 1 by omega)
    have Hren := hide hren
    have Hbe := hide ((HbA2.out).trans hbe)
    have HWF := hide hWF
    have HatF := hide ((HatA.out).keep hfr (fun b o hbo hs => (Hfar.out b o hbo).1 hs))
    clear hren hbe hWF hfr
    go_wp2
    rw [HWF.out]
    clear c0 c1 c2 z0 z1 z2 y0 y1 y2
    refine bodyPost_ret (by simp [results, Tryz.results91, go_sem, u0, u1, u2]; try rfl) rfl ?_
    rw [Hne.out]
    exact ⟨_, A4, cap4, rfl, by rw [if_pos H2.out, Hq.out]; exact Hren.out, HatF.out, Hbe.out, Hfar2.out⟩
  · have hk2 : ¬ (2 : Int) ≤ (k : Int) := by omega
    have H2 := hide h2
    clear h2
    go_upto_region 7 with fail
    rw [HW3.out]
    obtain ⟨WF, hWF, u0, u1, u2, hren, hfr⟩ := res_end Hrb3.out Hres3.out rfl
    have c0 : W3.cell? ⟨w2.heap.size, 0, none⟩ = some (.slice A2 e2.out.length cap2) := (Hrb3.out).1.cell 0
    have c1 : W3.cell? ⟨w2.heap.size, 1, none⟩ = some (.int .i64 (e2.low : Int)) := (Hrb3.out).1.cell 1
    have c2 : W3.cell? ⟨w2.heap.size, 2, none⟩ = some (.int .i64 (e2.size : Int)) := (Hrb3.out).1.cell 2
    have z0 : W3.cell? ⟨w.heap.size + 1, 0, none⟩ = some (.slice none 0 0) := (Hres3.out).cell 0
    have z1 : W3.cell? ⟨w.heap.size + 1, 1, none⟩ = some (.int .i64 0) := (Hres3.out).cell 1
    have z2 : W3.cell? ⟨w.heap.size + 1, 2, none⟩ = some (.int .i64 0) := (Hres3.out).cell 2
    have y0 := (Hres3.out).frozen 0
    have y1 := (Hres3.out).frozen 1
    have y2 := (Hres3.out).frozen 2
    have hbe := own_below hfr (Hbel3.out).size (show w.heap.size ≤ w.heap.size + 1 by omega)
    have Hren := hide hren
    have Hbe := hide ((Hbel3.out).trans hbe)
    have HWF := hide hWF
    have HatF := hide ((Hat43.out).keep hfr (fun b o hbo hs => (Hfar.out b o hbo).1 hs))
    clear hren hbe hWF hfr
    clear Hrb3 Hres3 Hbel3 Hat43
    go_wp2
    rw [HWF.out]
    clear c0 c1 c2 z0 z1 z2 y0 y1 y2
    refine bodyPost_ret (by simp [results, Tryz.results91, go_sem, u0, u1, u2]; try rfl) rfl ?_
    rw [Hne.out]
    exact ⟨_, A4, cap4, rfl, by rw [if_neg H2.out]; exact Hren.out, HatF.out, Hbe.out, Hfar2.out⟩
end Go.Proofs.YtgllednilkfpgaaGreat
/-
  The walks over the references: models, the bytes of numbers.
-/
namespace Go.Proofs.YtgllednilkfpgaaGreat
open Go.RowKit Go.Proofs Wv Wv.Vi Wv.Rc Wv.Mo
set_option linter.unusedVariables false

/-- An encoder stands in a block, whatever is laid anew. -/
theorem heldE {w W W' : World} {b : Nat} {A : Option Addr} {cap : Nat} {e : En}
    (h : W.cell? ⟨b, 0, none⟩ = some (.slice A e.out.length cap) ∧ W.cell? ⟨b, 1, none⟩ = some (.int .i64 (e.low : Int)) ∧ W.cell? ⟨b, 2, none⟩ = some (.int .i64 (e.size : Int)) ∧ RB W b A cap e ∧ Below w.heap.size w W) (hb : Below W.heap.size W W') :
    W'.cell? ⟨b, 0, none⟩ = some (.slice A e.out.length cap) ∧ W'.cell? ⟨b, 1, none⟩ = some (.int .i64 (e.low : Int)) ∧ W'.cell? ⟨b, 2, none⟩ = some (.int .i64 (e.size : Int)) ∧ RB W' b A cap e ∧ Below w.heap.size w W' := by
  have h2 := h.2.2.2.1.below hb
  exact ⟨h2.1.cell 0, h2.1.cell 1, h2.1.cell 2, h2, h.2.2.2.2.trans (hb.mono h.2.2.2.2.size)⟩
theorem heldE_fin {w W : World} {b : Nat} {A : Option Addr} {cap : Nat} {e : En}
    (h : W.cell? ⟨b, 0, none⟩ = some (.slice A e.out.length cap) ∧ W.cell? ⟨b, 1, none⟩ = some (.int .i64 (e.low : Int)) ∧ W.cell? ⟨b, 2, none⟩ = some (.int .i64 (e.size : Int)) ∧ RB W b A cap e ∧ Below w.heap.size w W) : Below w.heap.size w W := h.2.2.2.2
theorem heldE_rb {w W : World} {b : Nat} {A : Option Addr} {cap : Nat} {e : En}
    (h : W.cell? ⟨b, 0, none⟩ = some (.slice A e.out.length cap) ∧ W.cell? ⟨b, 1, none⟩ = some (.int .i64 (e.low : Int)) ∧ W.cell? ⟨b, 2, none⟩ = some (.int .i64 (e.size : Int)) ∧ RB W b A cap e ∧ Below w.heap.size w W) : RB W b A cap e := h.2.2.2.1
set_option maxRecDepth 100000 in
set_option maxHeartbeats 2000000 in
theorem fencn_any {w : World} {A : Option Addr} {l : List Nat} (ha : At w A (ns l)) (n cap : Nat) (hn : n = l.length) (hl : l.length ≤ 4096) (hv : ∀ v ∈ l, v < 4611686018427387904) :
    Calls Tryz.prog 51 #[.slice A n cap] w fun x w' => x = .returned (.tuple #[.string (bs (encn l)), .int .i64 0]) ∧ Below w.heap.size w w' := by
  have Hne := hide (fnewenc_any w)
  have Hnt := hide (fun W => fnewtree_any W)
  have Hnn := hide (fun (m : Nat) (hm : m ≤ 4096) W => rnumber_any (m : Int) (by omega) (by omega) W)
  have hec := nencs_val l (x := (t0, e0)) tnum_0 val_0
  have hel := nencs_len l (t0, e0) hv
  have Ha := hide ha
  have Hv := hide hv
  have hn4 : (n : Int) ≤ 4096 := by omega
  have Hn := hide hn
  have Hl := hide hl
  clear ha hv hn hl
  go_enter Tryz.func51, Tryz.ntmps51
  go_wp2_with fail
  refine (Hne.out).mono ?_
  rintro x w1 ⟨v1, rfl, ⟨A1, cap1, rfl, hat1⟩, hb1⟩
  go_wp2_with fail
  refine (Hnt.out w1).mono ?_
  rintro x w2 ⟨A2, cap2, rfl, hat2, hb2⟩
  have hbb := hb1.trans (hb2.mono hb1.size)
  have hrb : RB (w2.alloc (.cells #[.slice A1 e0.out.length cap1, .int .i64 (e0.low : Int), .int .i64 (e0.size : Int)] 108)) w2.heap.size A1 cap1 e0 := ⟨Bk.new _ _ _, (hat1.below hb2).alloc _⟩
  have hat3 := hat2.alloc (.cells #[.slice A1 e0.out.length cap1, .int .i64 (e0.low : Int), .int .i64 (e0.size : Int)] 108)
  have hbb3 := hbb.alloc hbb.size (.cells #[.slice A1 e0.out.length cap1, .int .i64 (e0.low : Int), .int .i64 (e0.size : Int)] 108)
  have Hfar : Hid (∀ b o, A2 = some ⟨b, o, none⟩ → b ≠ w2.heap.size) := hide (fun b o h => by
    obtain ⟨b', o', h1, h2, _⟩ := hat2 0 (by rw [ns_len, tnum_0.2]; omega)
    rw [h] at h1
    injection h1 with h1
    injection h1 with h1
    omega)
  have Hrb := hide hrb
  have Hat3 := hide hat3
  have Hbb3 := hide hbb3
  have Hw2 := hide hbb.size
  clear hrb hat3 hbb3 hat1 hat2 hb1 hb2 hbb Hne Hnt
  go_wp2
  go_loopw [5, 6] (fun tv i wr => ∃ (k : Nat) (At' A' : Option Addr) (capt cap' : Nat), k ≤ n ∧ i = .int .i64 k ∧ tv = .slice At' 64 capt ∧ At wr At' (ns (nencs (l.take k) (t0, e0)).1) ∧ Hid (∀ b o, At' = some ⟨b, o, none⟩ → b ≠ w2.heap.size) ∧ RB wr w2.heap.size A' cap' (nencs (l.take k) (t0, e0)).2 ∧ Below w.heap.size w wr) (fun _ i _ => (n - intOf i).toNat)
  case atStart => exact ⟨0, A2, A1, cap2, cap1, by omega, rfl, rfl, Hat3.out, Hfar, Hrb.out, Hbb3.out⟩
  case round =>
    clear Hrb Hat3 Hbb3 Hfar
    obtain ⟨k, At', A', capt, cap', hk, rfl, rfl, hat, hfar, hrb, hf⟩ := hrel
    obtain ⟨kt, ke⟩ := nencs_val (l.take k) (x := (t0, e0)) tnum_0 val_0
    have klen := nencs_len (l.take k) (t0, e0) (fun v hv => Hv.out v (List.mem_of_mem_take hv))
    have ktl : (l.take k).length ≤ 4096 := by have := Hl.out; rw [List.length_take]; omega
    by_cases hlt : k < n
    · have hkl : k < l.length := by rw [← Hn.out]; exact hlt
      have hstep := nencs_take l k hkl (t0, e0)
      obtain ⟨D, hD⟩ : ∃ D, nencs (l.take k) (t0, e0) = D := ⟨_, rfl⟩
      rw [hD] at hstep hat hrb kt ke klen
      obtain ⟨t, x⟩ := D
      simp only at hat hrb kt ke klen
      obtain ⟨v, hvk⟩ : ∃ v, l.getD k 0 = v := ⟨_, rfl⟩
      have hv62 : v < 4611686018427387904 := by
        have h1 : l.getD k 0 = l[k] := by simp [List.getD, hkl]
        rw [← hvk, h1]
        exact Hv.out _ (List.getElem_mem _)
      have hatl := Ha.out.below hf
      obtain ⟨bA, oA, hA, hbA, hcA⟩ := hatl.get k _ (ns_get l k hkl)
      subst hA
      rw [hvk] at hcA hstep
      have h62 : ¬ (4611686018427387903 : Int) < (v : Int) := by omega
      have hc0 : ¬ (v : Int) < 0 := by omega
      have he0 : (e0 : En).out.length = 0 := rfl
      have Hb := hide (fnenc_any hrb.drew.en ke hat.drew kt v capt hv62 (by rw [he0] at klen; omega))
      have c0 : wr.cell? ⟨w2.heap.size, 0, none⟩ = some (.slice A' x.out.length cap') := hrb.1.cell 0
      have c1 : wr.cell? ⟨w2.heap.size, 1, none⟩ = some (.int .i64 (x.low : Int)) := hrb.1.cell 1
      have c2 : wr.cell? ⟨w2.heap.size, 2, none⟩ = some (.int .i64 (x.size : Int)) := hrb.1.cell 2
      obtain ⟨F, hF⟩ : ∃ F, nenc v (t, x) = F := ⟨_, rfl⟩
      rw [hF] at Hb hstep
      obtain ⟨t9, e9⟩ := F
      have Hstep := hide hstep
      have Hx := hide hrb
      have Hat := hide hat
      have Hf := hide hf
      clear hstep hD hF hvk hv62 hrb hat hf kt ke klen ktl hatl he0 hec hel
      go_wp2
      go_region_with ((go_at_call 91; refine (Hb.out).mono ?_; rintro r w3 ⟨v3, A4, cap4, rfl, ⟨A3, cap3, rfl, hat3⟩, hat4, hb3, hfar3⟩; simp only at hat3 hat4; have hrb3 := Hx.out.drew.below hb3; have p0 := hrb3.1.frozen 0; have p1 := hrb3.1.frozen 1; have p2 := hrb3.1.frozen 2; have q0 : w3.cell? ⟨w2.heap.size, 0, none⟩ = some (.slice A' x.out.length cap') := hrb3.1.cell 0; have q1 : w3.cell? ⟨w2.heap.size, 1, none⟩ = some (.int .i64 (x.low : Int)) := hrb3.1.cell 1; have q2 : w3.cell? ⟨w2.heap.size, 2, none⟩ = some (.int .i64 (x.size : Int)) := hrb3.1.cell 2; have Hrb3 := hide hrb3; have Hat3 := hide hat3; have Hat4 := hide hat4; have Hfar3 := hide hfar3; have Hb3 := hide hb3; clear hrb3 hat3 hat4 hfar3 hb3))
      all_goals
        have hltb : w2.heap.size < wr.heap.size := Hx.out.1.lt
        have hw2 := Hw2.out
        have Hfar4 : Hid (∀ b o, A4 = some ⟨b, o, none⟩ → b ≠ w2.heap.size) := hide (fun b o h => by
          rcases Hfar3.out b o h with h1 | h1
          · exact hfar.out b o (h1 ▸ h)
          · have : wr.heap.size ≤ b := h1
            omega)
        have hrbA := Hrb3.out.putAll (cap' := cap3) Hat3.out
        have hfr := (((Fr.refl (only w2.heap.size) w3).setCell (p := ⟨w2.heap.size, 0, none⟩) (.inl rfl) (.slice A3 e9.out.length cap3)).setCell (p := ⟨w2.heap.size, 1, none⟩) (.inl rfl) (.int .i64 (e9.low : Int))).setCell (p := ⟨w2.heap.size, 2, none⟩) (.inl rfl) (.int .i64 (e9.size : Int))
        have hatA := Hat4.out.keep hfr (fun b o hbo hs => Hfar4.out b o hbo hs)
        have hf3 := Hf.out.drew.trans (Hb3.out.mono Hf.out.size)
        have hfA := hf3.trans (own_below hfr hf3.size hw2)
        have HrbA := hide hrbA
        have HatA := hide hatA
        have HfA := hide hfA
        clear hrbA hatA hfA hf3 hfr hltb hw2 p0 p1 p2 q0 q1 q2 c0 c1 c2 hcA Hrb3 Hat3 Hat4 Hb3 Hfar3 Hx Hat Hf Hb
        go_wp2
        go_roundw
        case rel => exact ⟨k + 1, A4, A3, cap4, cap3, by omega, by go_num, rfl, by rw [Hstep.out]; exact HatA.out, Hfar4, by rw [Hstep.out]; exact HrbA.out, HfA.out⟩
        case measure => simp [intOf] <;> omega
    · have hkn : k = n := by omega
      subst hkn
      have hln := Hn.out
      by_cases hk0 : k = 0
      · have he : encn l = num 0 := by
          have : l = [] := List.eq_nil_of_length_eq_zero (by omega)
          subst this
          rfl
        have He := hide he
        have Hz := hide (Hnn.out 0 (by omega))
        have g0 : ((k : Int) == 0) = true := by rw [beq_iff_eq]; omega
        have Hf := hide hf
        clear he hrb hat hfar hf kt ke klen ktl hec hel hln hk0 hlt
        go_wp2_with fail
        refine (Hz.out _).mono ?_
        rintro x w9 ⟨rfl, hb9⟩
        have hfin := Hf.out.trans (hb9.mono Hf.out.size)
        go_wp2
        go_returns
        exact ⟨by rw [He.out]; rfl, hfin⟩
      · have htl : l.take k = l := by rw [hln]; exact List.take_length
        rw [htl] at hrb
        obtain ⟨D, hD⟩ : ∃ D, nencs l (t0, e0) = D := ⟨_, rfl⟩
        have he : encn l = num k ++ efin D.2 := by
          unfold encn
          rw [if_neg (fun h => by rw [h] at hln; simp at hln; omega), hD, ← hln]
        rw [hD] at hrb hec hel
        obtain ⟨t, x⟩ := D
        simp only at hrb hec hel he
        have he0 : (e0 : En).out.length = 0 := rfl
        have hxl : x.out.length ≤ 700000 := by rw [he0] at hel; have := Hl.out; omega
        have hlow := hec.2.low
        have Hfn := hide (fun W (h : RB W w2.heap.size A' cap' x) => ffinish_any h.en hlow (by omega))
        have hnum := Hnn.out k (by have := Hl.out; omega)
        simp only [Int.toNat_natCast] at hnum
        have Hnum := hide hnum
        have g0 : ((k : Int) == 0) = false := by rw [beq_eq_false_iff_ne]; omega
        have hs1 : (bs (num k)).size ≤ 9 := by rw [bs_size]; exact kof9 k
        have hs2 : (bs (efin x)).size ≤ 800000 := by
          rw [bs_size]
          unfold efin
          rw [List.length_append, be_length]
          omega
        have Hcat := hide (show bs (num k) ++ bs (efin x) = bs (encn l) by rw [bs_append, he])
        have H1 : (wr.drew.cell? ⟨w2.heap.size, 0, none⟩ = some (.slice A' x.out.length cap') ∧ wr.drew.cell? ⟨w2.heap.size, 1, none⟩ = some (.int .i64 (x.low : Int)) ∧ wr.drew.cell? ⟨w2.heap.size, 2, none⟩ = some (.int .i64 (x.size : Int)) ∧ RB wr.drew w2.heap.size A' cap' x ∧ Below w.heap.size w wr.drew) := ⟨hrb.1.cell 0, hrb.1.cell 1, hrb.1.cell 2, hrb.drew, hf.drew⟩
        clear he hrb hat hfar hf kt ke klen ktl hec hel hln hk0 hlt htl hD he0 hxl hlow
        generalize bs (num k) = s1 at *
        generalize bs (efin x) = s2 at *
        have hs3 : (9223372036854775807 < s1.size + s2.size) = False := by
          rw [eq_iff_iff, iff_false]
          omega
        clear hs1 hs2 hnum
        go_upto_region 12 with fail
        go_region_held3 (fun W => W.cell? ⟨w2.heap.size, 0, none⟩ = some (.slice A' x.out.length cap') ∧ W.cell? ⟨w2.heap.size, 1, none⟩ = some (.int .i64 (x.low : Int)) ∧ W.cell? ⟨w2.heap.size, 2, none⟩ = some (.int .i64 (x.size : Int)) ∧ RB W w2.heap.size A' cap' x ∧ Below w.heap.size w W) (first | exact H1 | exact heldE (by assumption) (by assumption))
          (first
            | (go_at_call 50; refine (Hnum.out _).mono ?_; rintro e w' ⟨rfl, hb2⟩)
            | (go_at_call 92; refine (Hfn.out _ (heldE_rb (by assumption))).mono ?_; rintro e w' ⟨rfl, hb3⟩))
        have hB := heldE_fin (W := w') (w := w) (by assumption)
        go_wp2
        go_returns
        exact ⟨by rw [Hcat.out]; rfl, hB⟩
end Go.Proofs.YtgllednilkfpgaaGreat
