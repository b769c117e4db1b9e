/-
  The walks over the bit strings of the program, first part: the reader.
-/
import Derived.Test.YtfahcmiignnnkaaChecked
import Derived.Test.YtfahcmiignnnkaaBase
import Derived.Test.YtfahcmiignnnkaaBits2
import Derived.WalkKit
import Derived.WalkSpells
import Derived.WalkLawsBesides
import Derived.Deep.QuietTactic
import Derived.BigQuiet
import Derived.IntWalk
import Derived.Laws.BitsAllLaws
namespace Go.Proofs.Ytfahcmiignnnkaa
open Go.RowKit Go.Proofs Wv Wv.Bit

/-- A reader of bytes: what it reads, where it is, where the bits end. -/
def RdAt (w : World) (b : Nat) (s : ByteArray) (x n : Nat) : Prop := Bk w b 60 #[.string s, .int .i64 (x : Int), .int .i64 (n : Int)] ∧ x ≤ n ∧ n ≤ 65536 ∧ n ≤ 8 * s.size
theorem RdAt.c0 {w : World} {b x n : Nat} {s : ByteArray} (h : RdAt w b s x n) : w.cell? ⟨b, 0, none⟩ = some (.string s) := h.1.cell 0
theorem RdAt.c1 {w : World} {b x n : Nat} {s : ByteArray} (h : RdAt w b s x n) : w.cell? ⟨b, 1, none⟩ = some (.int .i64 (x : Int)) := h.1.cell 1
theorem RdAt.c2 {w : World} {b x n : Nat} {s : ByteArray} (h : RdAt w b s x n) : w.cell? ⟨b, 2, none⟩ = some (.int .i64 (n : Int)) := h.1.cell 2

set_option maxHeartbeats 400000 in
theorem left_any {b x n : Nat} {s : ByteArray} {w : World} (h : RdAt w b s x n) :
    Calls Try.prog 15 #[.pointer (some ⟨b, 0, none⟩)] w fun e w' => e = .returned (.int .i64 ((n : Int) - (x : Int))) ∧ ∃ q, w' = w.drewN q := by
  have h1 := h.c1
  have h2 := h.c2
  obtain ⟨_, h3, h4, h5⟩ := h
  go_enter Try.func15, Try.ntmps15
  go_wp2
  go_quiet (fail)
  go_wp2
  go_ret
  exact ⟨rfl, _, rfl⟩

set_option maxHeartbeats 400000 in
theorem take_no {b x n : Nat} {s : ByteArray} {w : World} (h : RdAt w b s x n) (c : Int) (hc : (n : Int) - (x : Int) < c) :
    Calls Try.prog 47 #[.pointer (some ⟨b, 0, none⟩), .int .i64 c] w fun e w' => e = .returned (.tuple #[.int .i64 0, .int .i64 12]) ∧ ∃ q, w' = w.drewN q := by
  have H := hide (left_any h)
  go_enter Try.func47, Try.ntmps47
  go_wp2_with (go_at_call 15; refine (H.out).mono ?_; rintro e w' ⟨rfl, q, rfl⟩)
  go_ret2
  exact ⟨rfl, _, rfl⟩

set_option maxHeartbeats 400000 in
theorem take_yes {b x n : Nat} {s : ByteArray} {w : World} (h : RdAt w b s x n) (c : Nat) (hc : x + c ≤ n) (h62 : c ≤ 62) :
    Calls Try.prog 47 #[.pointer (some ⟨b, 0, none⟩), .int .i64 (c : Int)] w fun e w' => e = .returned (.tuple #[.int .i64 (val (((rbits s n).drop x).take c) : Nat), .int .i64 0]) ∧ RdAt w' b s (x + c) n ∧ Fr (only b) w w' := by
  have H := hide (left_any h)
  have hc2 : ¬ (n : Int) - (x : Int) < (c : Int) := by omega
  have Hr := hide h
  clear h
  go_enter Try.func47, Try.ntmps47
  go_wp2_with (go_at_call 15; refine (H.out).mono ?_; rintro e w' ⟨rfl, q, rfl⟩)
  go_loopw [6, 12] (fun v i wr => ∃ k : Nat, k ≤ c ∧ i = .int .i64 k ∧ v = .int .i64 (val (((rbits s n).drop x).take k) : Nat) ∧ RdAt wr b s (x + k) n ∧ Fr (only b) w wr) (fun _ i _ => (c - intOf i).toNat)
  case atStart => exact ⟨0, by omega, rfl, rfl, Hr.out, (Fr.refl _ _).drewN _⟩
  case round =>
    obtain ⟨k, hk, rfl, rfl, hr, hf⟩ := hrel
    by_cases hlt : k < c
    · obtain ⟨y, hy⟩ : ∃ y, y = x + k := ⟨_, rfl⟩
      have hr2 := hr
      rw [← hy] at hr2
      have g0 := hr2.c0
      have g1 := hr2.c1
      have g2 : wr.frozen? ⟨b, 1, none⟩ = false := hr.1.frozen 1
      obtain ⟨hb1, hb2, hb3, hb4⟩ := hr2
      have Hy := hide hy
      have j1 : y < n := by omega
      clear hy
      have Hv := hide (val_take_succ ((rbits s n).drop x) k (by rw [List.length_drop, rbits_length]; have := Hy.out; omega))
      have hbt := fun h6 => show bt ((rbits s n).drop x) k = (s[y / 8]'h6).toNat / 2 ^ (7 - y % 8) % 2 from by rw [bt_drop, ← Hy.out, bt_rbits s n y j1 h6]
      obtain ⟨z, hz⟩ : ∃ z, y / 8 = z := ⟨_, rfl⟩
      obtain ⟨d, hd⟩ : ∃ d, 7 - y % 8 = d := ⟨_, rfl⟩
      obtain ⟨m, hm⟩ : ∃ m, y % 8 = m := ⟨_, rfl⟩
      have i3 : IntKind.i64.wrap ((y : Int) / 8) = (z : Int) := by rw [IntWalk.i64_in _ (by omega)]; omega
      have i4 : IntKind.i64.wrap ((y : Int) % 8) = (m : Int) := by rw [IntWalk.i64_in _ (by omega)]; omega
      have i5 : IntKind.i64.wrap (7 - (m : Int)) = (d : Int) := by rw [IntWalk.i64_in _ (by omega)]; omega
      have i6 : z < s.size := by omega
      have i2 : (z : Int) < (s.size : Int) := by omega
      have i7 : d < 8 := by omega
      have i8 : (d : Int) < 8 := by omega
      rw [hz] at hbt
      have Hbt := hide (hbt i6)
      clear hz hd hm hbt
      go_wp2
      go_quiet (fail)
      go_wp2
      go_roundw
      case rel =>
        refine ⟨k + 1, by omega, by go_num, ?_, ?_, (hf.drewN _).setCell (p := ⟨b, 1, none⟩) (.inl rfl) _⟩
        · rw [Hv.out, Hbt.out]
          exact congrArg _ (take_arith _ _ _ (val_take_lt62 _ _ (by omega)) (UInt8.toNat_lt _))
        · have := (hb1.drewN nq).put 1 (.int .i64 ((y : Int) + 1))
          have h9 := Hy.out
          refine ⟨?_, by omega, hb3, hb4⟩
          rw [show x + (k + 1) = y + 1 from by omega]
          exact this
      case measure => simp [intOf]; omega
    · have : k = c := by omega
      subst this
      go_wp2
      go_ret2
      exact ⟨rfl, hr, hf⟩
end Go.Proofs.Ytfahcmiignnnkaa
