/-
  The laws of the bit strings: the sizes of codes are those of the table.
-/
import Derived.Test.YtfahcmiignnnkaaLaw0
import Derived.Test.YtfahcmiignnnkaaPlain2
import Derived.Deep.RegionHeld3
import Derived.Deep.QuietTactic
import Derived.BigQuiet
import Derived.Deep.Cut
namespace Go.Proofs.Ytfahcmiignnnkaa
open Go.RowKit Go.Proofs Wv Wv.Bit
set_option linter.unusedVariables false

theorem held0 {W W' : World} {w : World} {b : Nat} (h : b ≤ W.heap.size ∧ Below b w W) (hb : Below W.heap.size W W') : b ≤ W'.heap.size ∧ Below b w W' := ⟨Nat.le_trans h.1 hb.size, h.2.trans (hb.mono h.1)⟩
theorem held0_below {W : World} {w : World} {b : Nat} (h : b ≤ W.heap.size ∧ Below b w W) : Below b w W := h.2
theorem log2_half (m : Nat) (h : 1 < m) : m.log2 = (m / 2).log2 + 1 := by
  rw [Nat.log2_def, if_pos (by omega)]
theorem log2_small (m : Nat) (h : m ≤ 1) : m.log2 = 0 := by
  rw [Nat.log2_def, if_neg (by omega)]
set_option maxHeartbeats 400000 in
theorem log_any (n : Nat) (hn : n ≤ 9223372036854775807) (w : World) :
    Calls Try.prog 26 #[.int .i64 n] w fun e w' => e = .returned (.int .i64 (n.log2 : Nat)) ∧ w = w' := by
  go_enter Try.func26, Try.ntmps26
  go_wp2
  go_loop [0, 3] (fun t i => ∃ m k : Nat, t = .int .i64 m ∧ i = .int .i64 k ∧ m ≤ 9223372036854775807 ∧ Hid (m.log2 + k = n.log2) ∧ k ≤ 9223372036854775807 - m) (fun t _ => (intOf t).toNat)
  case atStart => exact ⟨n, 0, rfl, rfl, hn, hide rfl, by omega⟩
  case round =>
    obtain ⟨m, k, rfl, rfl, hm, hl, hk⟩ := hrel
    by_cases hlt : 1 < m
    · have hl2 := hide (log2_half m hlt)
      go_wp2
      go_round
      case rel => exact ⟨m / 2, k + 1, by congr 1, by go_num, by omega, hide (by have := hl.out; rw [hl2.out] at this; omega), by omega⟩
      case measure => simp [intOf]; omega
    · have hl2 := hide (log2_small m (by omega))
      have hre : Hid (k = n.log2) := hide (by have := hl.out; rw [hl2.out] at this; omega)
      go_wp2
      go_ret
      exact ⟨ret_int (by rw [hre.out]), rfl⟩
theorem csz_unary (v : Nat) (h : v ≤ 4096) : csz 1 0 v = v + 1 := by
  unfold csz
  rw [if_pos (by simp [vld, par]; omega)]
  exact una_length v
theorem csz_rice (p v q : Nat) (hp : p ≤ 30) (hq : v / 2 ^ p = q) (h : q ≤ 4096) : csz 2 p v = q + 1 + p := by
  have hv : vld 2 p v = true := by
    have h5 := toNat_div (v := (v : Int)) (by omega) p
    rw [Int.toNat_natCast, hq] at h5
    simp [vld, par]
    omega
  unfold csz
  rw [if_pos hv]
  show (una (v / 2 ^ p) ++ num p v).length = _
  rw [List.length_append, una_length, num_length, hq]
theorem blen_log (n : Nat) (h : 0 < n) : blen n = n.log2 + 1 := by unfold blen; rw [if_neg (by omega)]
theorem csz_gol (p v : Nat) (hp : p ≤ 30) (h : v ≤ 4294967296) : (csz 3 p v : Int) = 2 * ((v + 2 ^ p).log2 : Int) - p + 1 := by
  have hv : vld 3 p v = true := by simp [vld, par]; omega
  have h0 : 0 < 2 ^ p := Nat.two_pow_pos p
  have h1 : p ≤ (v + 2 ^ p).log2 := (Nat.le_log2 (by omega)).2 (by omega)
  unfold csz
  rw [if_pos hv]
  have : (cbits (3 : Int).toNat (p : Int).toNat (v : Int).toNat) = una (blen (v + 2 ^ p) - 1 - p) ++ num (blen (v + 2 ^ p) - 1) (v + 2 ^ p) := rfl
  rw [this, List.length_append, una_length, num_length, blen_log _ (by omega)]
  omega
theorem csz_trunc (n v L : Nat) (hn : 2 ≤ n) (h : n ≤ 4294967296) (hL : n.log2 = L) (hv : v < n) : csz 4 n v = if v < 2 ^ (L + 1) - n then L else L + 1 := by
  have hvv : vld 4 n v = true := by simp [vld, par]; omega
  unfold csz
  rw [if_pos hvv]
  have : (cbits (4 : Int).toNat (n : Int).toNat (v : Int).toNat) = if v < 2 ^ blen n - n then num (blen n - 1) v else num (blen n) (v + (2 ^ blen n - n)) := rfl
  rw [this, blen_log n (by omega), hL]
  split
  · rw [num_length]; omega
  · rw [num_length]

end Go.Proofs.Ytfahcmiignnnkaa
