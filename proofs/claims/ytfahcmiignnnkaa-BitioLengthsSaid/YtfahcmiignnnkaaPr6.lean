/-
  The walks over the bit strings of the program, sixth part: the codes in front of bits.
-/
import Derived.Test.YtfahcmiignnnkaaPr2
import Derived.Test.YtfahcmiignnnkaaShelf
namespace Go.Proofs.Ytfahcmiignnnkaa
open Go.RowKit Go.Proofs Wv Wv.Bit

theorem ret_int1 {k : IntKind} {a b : Int} (h : a = b) : Ending.returned (.int k a) = .returned (.int k b) := by rw [h]
theorem len_any (x : Int) (w : World) (h0 : 0 ≤ x) (h1 : x ≤ 18446744073709551615) :
    Calls Try.prog 58 #[.int .u64 x] w fun e w' => e = .returned (.int .i64 (blen x.toNat : Nat)) ∧ w = w' := by
  refine (Go.Proofs.Try.bits_Len x w h0 h1).mono ?_
  rintro e w' ⟨rfl, rfl⟩
  exact ⟨ret_int1 (by rw [bitLen_eq _ (by omega)]), rfl⟩

set_option maxHeartbeats 400000 in
theorem truncated_any (p : Nat) (w : World) (h0 : 1 ≤ p) (h1 : p ≤ 4294967296) :
    Calls Try.prog 63 #[.int .i64 (p : Int)] w fun e w' => e = .returned (.tuple #[.int .i64 (blen p - 1 : Nat), .int .i64 (2 ^ blen p - p : Nat)]) ∧ ∃ q, w' = w.drewN q := by
  have hl := len_any (p : Int)
  rw [Int.toNat_natCast] at hl
  have Hl := hide (fun w => hl w (by omega) (by omega))
  have hn := blen_le p 33 (by omega)
  obtain ⟨hn1, hn2⟩ := blen_ge p (by omega)
  have hn3 := blen_lt p
  clear hl
  generalize blen p = n at *
  obtain ⟨k, rfl⟩ : ∃ k, n = k + 1 := ⟨n - 1, by omega⟩
  have hpw := pow62 (k + 1) (by omega)
  have hpc := pow_cast (k + 1)
  obtain ⟨m, hm⟩ : ∃ m : Nat, m = 2 ^ (k + 1) := ⟨_, rfl⟩
  rw [← hm] at hn3 hpw hpc ⊢
  have i1 : IntKind.i64.wrap (m : Int) = (m : Int) := IntWalk.i64_in _ (by omega)
  have i2 : IntKind.i64.wrap ((k : Int) + 1) = (k : Int) + 1 := IntWalk.i64_in _ (by omega)
  have i3 : ((k : Int) + 1).toNat = k + 1 := by omega
  have i4 : IntKind.i64.wrap ((m : Int) - (p : Int)) = (m : Int) - (p : Int) := IntWalk.i64_in _ (by omega)
  clear hn1 hm
  go_enter Try.func63, Try.ntmps63
  go_wp2_with (go_at_call 58; refine (Hl.out _).mono ?_; rintro e w1 ⟨rfl, rfl⟩)
  go_quiet (fail)
  go_wp2
  go_ret2
  exact ⟨ret_int2 (by omega) (by omega), _, rfl⟩

set_option maxHeartbeats 400000 in
theorem kread0 {b x n : Nat} {s : ByteArray} {w : World} (h : RdAt w b s x n) (p : Int) (h0 : 0 ≤ p) (h1 : p ≤ 62) :
    Calls Try.prog 46 #[.pointer (some ⟨b, 0, none⟩), .int .i64 p] w fun e w' => ∃ (v : Int) (er y : Nat), e = .returned (.tuple #[.int .i64 v, .int .i64 er]) ∧ RdAt w' b s y n ∧ Fr (only b) w w' ∧ RdRes 0 p.toNat ((rbits s n).drop x) x v er y := by
  have hx := h.2.1
  have hlen : ((rbits s n).drop x).length = n - x := by rw [List.length_drop, rbits_length]
  have hrd : rd 0 p.toNat ((rbits s n).drop x) = if n - x < p.toNat then (0, 0, 12) else (val (((rbits s n).drop x).take p.toNat), p.toNat, 0) := by rw [← hlen]; rfl
  by_cases hc : n - x < p.toNat
  · rw [if_pos hc] at hrd
    have H := hide (take_no h p (by omega))
    have Hr := hide (show ∀ v y, RdRes 0 p.toNat ((rbits s n).drop x) x v 12 y from fun v y => ⟨fun _ => by rw [hrd], fun h => by rw [hrd] at h; simp at h, fun h => by rw [hrd] at h; simp at h⟩)
    clear hrd
    go_enter Try.func46, Try.ntmps46
    go_wp2_with (go_at_call 47; refine (H.out).mono ?_; rintro e w1 ⟨rfl, q, rfl⟩)
    go_ret2
    exact ⟨_, 12, x, rfl, h, (Fr.refl _ _).drewN _, Hr.out _ _⟩
  · rw [if_neg hc] at hrd
    have Ht := take_yes h p.toNat (by omega) (by omega)
    rw [Int.toNat_of_nonneg h0] at Ht
    have H := hide Ht
    have Hr := hide (show RdRes 0 p.toNat ((rbits s n).drop x) x (val (((rbits s n).drop x).take p.toNat) : Nat) 0 (x + p.toNat) from ⟨fun h => by rw [hrd] at h; simp at h, fun _ _ => by rw [hrd]; exact ⟨rfl, rfl, rfl⟩, fun _ h => by
      have := val_take_lt62 ((rbits s n).drop x) p.toNat (by omega)
      rw [hrd] at h; simp only at h; omega⟩)
    clear hrd Ht
    go_enter Try.func46, Try.ntmps46
    go_wp2_with (go_at_call 47; refine (H.out).mono ?_; rintro e w1 ⟨rfl, hr1, hf1⟩)
    go_ret2
    exact ⟨_, 0, _, rfl, hr1, hf1, Hr.out⟩
end Go.Proofs.Ytfahcmiignnnkaa
