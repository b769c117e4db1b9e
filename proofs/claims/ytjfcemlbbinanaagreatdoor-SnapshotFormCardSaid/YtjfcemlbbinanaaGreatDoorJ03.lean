/-
  The walks over numbers as bytes, first part: bounds, sizes, the bytes of a number and of a text.
-/
import Derived.Test.YtjfcemlbbinanaaGreatDoorChecked
import Derived.Test.YtjfcemlbbinanaaGreatDoorJ01
import Derived.Test.YtjfcemlbbinanaaGreatDoorJ02
import Derived.WalkKit
import Derived.WalkSpells
import Derived.WalkLawsBesides
import Derived.Deep.QuietTactic
import Derived.BigQuiet
import Derived.IntWalk
import Derived.Outline
import Derived.Laws.BitsAllLaws
set_option linter.unusedVariables false
set_option linter.unusedSimpArgs false
namespace Go.Proofs.YtjfcemlbbinanaaGreatDoor
open Go.RowKit Go.Proofs Wv Wv.Vi
set_option linter.unusedVariables false

theorem ret_int {k : IntKind} {a b : Int} (h : a = b) : Ending.returned (.int k a) = .returned (.int k b) := by rw [h]
theorem ret_bool {a b : Bool} (h : a = b) : Ending.returned (.bool a) = .returned (.bool b) := by rw [h]
theorem ret_str {a b : ByteArray} (h : a = b) : Ending.returned (.string a) = .returned (.string b) := by rw [h]

set_option maxHeartbeats 400000 in
theorem bound_any (k : Int) (h0 : 0 ≤ k) (h8 : k ≤ 8) (w : World) :
  Calls Tryz.prog 54 #[.int .i64 k] w fun e w' => e = .returned (.int .i64 (bnd k.toNat : Nat)) ∧ w = w' := by
 obtain ⟨k, rfl⟩ := Int.eq_ofNat_of_zero_le h0
 rw [Int.toNat_natCast]
 have hv := hide bnd_vals
 go_enter Tryz.func54, Tryz.ntmps54
 go_wp2
 go_loop [3, 4] (fun b i => ∃ j : Nat, j ≤ k ∧ i = .int .i64 ((j : Int) + 1) ∧ b = .int .i64 (bnd j : Nat)) (fun _ i => k + 1 - (intOf i).toNat)
 case atStart => exact ⟨0, Nat.zero_le _, rfl, rfl⟩
 case round =>
  obtain ⟨j, hj, rfl, rfl⟩ := hrel
  by_cases hlt : j < k
  ·have hb := bnd_le j (by omega)
   have hz : j = 0 ∨ j = 1 ∨ j = 2 ∨ j = 3 ∨ j = 4 ∨ j = 5 ∨ j = 6 ∨ j = 7 := by omega
   rcases hz with rfl | rfl | rfl | rfl | rfl | rfl | rfl | rfl
   all_goals
    go_wp2
    go_round
    case rel => exact ⟨_, hlt, by rfl, by rfl⟩
    case measure => simp [intOf]; omega
  ·go_wp2
   go_ret
   exact ⟨ret_int (by rw [show k = j from by omega]), rfl⟩

set_option maxHeartbeats 400000 in
theorem size_any (n : Int) (h0 : 0 ≤ n) (h63 : n ≤ 9223372036854775807) (w : World) :
  Calls Tryz.prog 53 #[.int .i64 n] w fun e w' => e = .returned (.int .i64 ((kof n.toNat : Int) + 1)) ∧ w = w' := by
 obtain ⟨n, rfl⟩ := Int.eq_ofNat_of_zero_le h0
 rw [Int.toNat_natCast]
 have hk8 := kof_le n
 have H := hide bound_any
 go_enter Tryz.func53, Tryz.ntmps53
 go_wp2
 go_loop [3] (fun k => ∃ j : Nat, j ≤ kof n ∧ k = .int .i64 j) (fun k => 9 - (intOf k).toNat)
 case atStart => exact ⟨0, Nat.zero_le _, rfl⟩
 case round =>
  obtain ⟨j, hj, rfl⟩ := hrel
  by_cases h8 : j < 8
  ·have hs := kof_step n j h8 hj
   have hb := H.out ((j : Int) + 1) (by omega) (by omega) w
   rw [show (((j : Int) + 1).toNat) = j + 1 from by omega] at hb
   have Hb := hide hb
   by_cases hlt : j < kof n
   ·have hle : bnd (j + 1) ≤ n := hs.2 hlt
    clear hs hb
    go_wp2_with (go_at_call 54; refine (Hb.out).mono ?_; rintro e w' ⟨rfl, rfl⟩)
    go_round
    case rel => exact ⟨j + 1, by omega, by go_num⟩
    case measure => simp [intOf]; omega
   ·have hle : ¬ bnd (j + 1) ≤ n := fun h => hlt (hs.1 h)
    clear hs hb
    go_wp2_with (go_at_call 54; refine (Hb.out).mono ?_; rintro e w' ⟨rfl, rfl⟩)
    go_ret
    exact ⟨ret_int (by omega), rfl⟩
  ·go_wp2
   go_ret
   exact ⟨ret_int (by omega), rfl⟩
end Go.Proofs.YtjfcemlbbinanaaGreatDoor
