/-
  The walks over the bit strings of the program, second part: runs of ones, and the table of the kinds.
-/
import Derived.Test.YtfahcmiignnnkaaPr1
namespace Go.Proofs.Ytfahcmiignnnkaa
open Go.RowKit Go.Proofs Wv Wv.Bit

theorem ret_int2 {j k : IntKind} {a b a' b' : Int} (h : a = a') (h2 : b = b') : Ending.returned (.tuple #[.int j a, .int k b]) = .returned (.tuple #[.int j a', .int k b']) := by rw [h, h2]
theorem take_one {b x n : Nat} {s : ByteArray} {w : World} (h : RdAt w b s x n) (hx : x < n) :
    Calls Try.prog 47 #[.pointer (some ⟨b, 0, none⟩), .int .i64 1] w fun e w' => e = .returned (.tuple #[.int .i64 (bt (rbits s n) x : Nat), .int .i64 0]) ∧ RdAt w' b s (x + 1) n ∧ Fr (only b) w w' := by
  refine (take_yes h 1 (by omega) (by omega)).mono ?_
  rintro e w' ⟨rfl, h1, h2⟩
  refine ⟨?_, h1, h2⟩
  have : val (((rbits s n).drop x).take 1) = bt (rbits s n) x := by
    rw [val_take_succ _ 0 (by rw [List.length_drop, rbits_length]; omega), bt_drop]
    simp [val]
  rw [this]

set_option maxHeartbeats 400000 in
theorem rones_any {b x n : Nat} {s : ByteArray} {w : World} (h : RdAt w b s x n) (m : Nat) (hm : m ≤ 4096) :
    Calls Try.prog 52 #[.pointer (some ⟨b, 0, none⟩), .int .i64 (m : Int)] w fun e w' =>
      e = .returned (.tuple #[.int .i64 ((onesR m ((rbits s n).drop x)).1 : Nat), .int .i64 ((onesR m ((rbits s n).drop x)).2 : Nat)]) ∧
      ∃ y, RdAt w' b s y n ∧ Fr (only b) w w' ∧ onesAt m ((rbits s n).drop x) x y := by
  obtain ⟨L, hL⟩ : ∃ L, (rbits s n).drop x = L := ⟨_, rfl⟩
  have hlen : L.length = n - x := by rw [← hL, List.length_drop, rbits_length]
  have hbt : ∀ k, bt L k = bt (rbits s n) (x + k) := fun k => by rw [← hL, bt_drop]
  rw [hL]
  have Hbt := hide hbt
  have Hlen := hide hlen
  have hln : n - x ≤ L.length := by omega
  have hln2 : L.length ≤ n - x := by omega
  have hxn := h.2.1
  clear hL hbt hlen
  go_enter Try.func52, Try.ntmps52
  go_wp2
  go_loopw [6] (fun i wr => ∃ k : Nat, k ≤ m + 1 ∧ k ≤ L.length ∧ i = .int .i64 k ∧ Hid (∀ j, j < k → L.getD j false = true) ∧ RdAt wr b s (x + k) n ∧ Fr (only b) w wr) (fun i _ => (m + 1 - intOf i).toNat)
  case atStart => exact ⟨0, by omega, by omega, rfl, hide (fun j hj => by omega), h, Fr.refl _ _⟩
  case round =>
    obtain ⟨k, hk, hkl, rfl, hall, hr, hf⟩ := hrel
    have hb2 := bt_le L k
    have Hend := hide (fun h => ones_eq (m + 1) L k hk hkl hall.out h)
    by_cases hlt : k ≤ m
    · by_cases he : k < n - x
      · have H := hide (take_one hr (by omega))
        rw [← Hbt.out k] at H
        by_cases h1 : bt L k = 1
        · have Hall := hide (all_succ hall.out h1)
          rw [h1] at H
          clear h1
          go_wp2_with fail
          refine (H.out).mono ?_
          rintro e w1 ⟨rfl, hr1, hf1⟩
          go_wp2
          go_roundw
          case rel => exact ⟨k + 1, by omega, by omega, by go_num, Hall, hr1, hf.trans hf1⟩
          case measure => simp [intOf]; omega
        · have h0 : bt L k = 0 := by omega
          have He := hide (Hend.out (.inr (.inr (bt_false h1))))
          rw [h0] at H
          clear h1 h0
          go_wp2_with fail
          refine (H.out).mono ?_
          rintro e w1 ⟨rfl, hr1, hf1⟩
          go_wp2
          go_ret2
          have hp : onesR m L = (k, 0) := by rw [onesR, He.out, if_neg (by omega), if_neg (by omega)]
          exact ⟨ret_int2 (by rw [hp]) (by rw [hp]; rfl), _, hr1, hf.trans hf1, fun _ => by rw [hp]⟩
      · have H := hide (take_no hr 1 (by omega))
        have He := hide (Hend.out (.inr (.inl (by omega))))
        go_wp2_with fail
        refine (H.out).mono ?_
        rintro e w1 ⟨rfl, q, rfl⟩
        go_wp2
        go_ret2
        have hp : onesR m L = (k, 12) := by rw [onesR, He.out, if_neg (by omega), if_pos (by omega)]
        exact ⟨ret_int2 (by rw [hp]) (by rw [hp]; rfl), _, hr, hf.drewN _, fun h => by rw [hp] at h; simp at h⟩
    · have He := hide (Hend.out (.inl (by omega)))
      have hkm : k = m + 1 := by omega
      subst hkm
      go_wp2
      go_ret2
      have hp : onesR m L = (0, 2) := by rw [onesR, He.out, if_pos rfl]
      exact ⟨ret_int2 (by rw [hp]; rfl) (by rw [hp]; rfl), _, hr, hf, fun h => by rw [hp] at h; simp at h⟩

end Go.Proofs.Ytfahcmiignnnkaa
