/-
  The walks over the bit strings of the program: runs of ones, and the writes of the kinds.
-/
import Derived.Test.YtfahcmiignnnkaaPw1
import Derived.Test.YtfahcmiignnnkaaPr6
namespace Go.Proofs.Ytfahcmiignnnkaa
open Go.RowKit Go.Proofs Wv Wv.Bit

theorem wr_trans {b : Nat} {d0 d1 d2 : Value} {w w1 w2 : World} (f1 : Fr (foot b d0) w w1) (o1 : OwnNew w d0 d1) (f2 : Fr (foot b d1) w1 w2) (o2 : OwnNew w1 d1 d2) :
    Fr (foot b d0) w w2 ∧ OwnNew w d0 d2 := by
  refine ⟨f1.trans' f2 (fun i hi hf => ?_), ?_⟩
  · rcases hf with h | h
    · exact .inl h
    · rcases o1 with h1 | h1
      · exact .inr (h1 ▸ h)
      · have := h1 i h; omega
  · rcases o2 with h | h
    · rcases o1 with h1 | h1
      · exact .inl (h.trans h1)
      · exact .inr (fun g hg => h1 g (h ▸ hg))
    · exact .inr (fun g hg => Nat.le_trans f1.size (h g hg))

theorem una_cons (k : Nat) (l : List Bool) : l ++ List.replicate k true ++ [true] = l ++ List.replicate (k + 1) true := by
  rw [List.append_assoc, ← List.replicate_succ']

set_option maxHeartbeats 400000 in
theorem wunary_any {b : Nat} {dv : Value} {l : List Bool} {w : World} (h : WrAt w b dv l) (n : Int) (h0 : 0 ≤ n) (hn : l.length + n.toNat + 1 ≤ 1000000) :
    Calls Try.prog 50 #[.pointer (some ⟨b, 0, none⟩), .int .i64 n] w fun e w' => e = .returned (.tuple #[]) ∧
      ∃ dv', WrAt w' b dv' (l ++ una n.toNat) ∧ Fr (foot b dv) w w' ∧ OwnNew w dv dv' := by
  obtain ⟨n, rfl⟩ := Int.eq_ofNat_of_zero_le h0
  rw [Int.toNat_natCast] at *
  go_enter Try.func50, Try.ntmps50
  go_wp2
  go_loopw [5] (fun i wr => ∃ (k : Nat) (dr : Value), k ≤ n ∧ i = .int .i64 k ∧ WrAt wr b dr (l ++ List.replicate k true) ∧ Fr (foot b dv) w wr ∧ OwnNew w dv dr) (fun i _ => (n - intOf i).toNat)
  case atStart => exact ⟨0, dv, by omega, rfl, by simpa using h, Fr.refl _ _, .inl rfl⟩
  case round =>
    obtain ⟨k, dr, hk, rfl, hw, hf, hon⟩ := hrel
    by_cases hlt : k < n
    · have H := hide (put_any hw 1 1 (by omega) (by omega) (by omega) (by omega) (by simp; omega))
      go_wp2_with fail
      refine (H.out).mono ?_
      rintro e w1 ⟨rfl, d1, hw1, hf1, hon1⟩
      have h2 := wr_trans hf hon hf1 hon1
      rw [show num (Int.toNat 1) (Int.toNat 1) = [true] from rfl, una_cons] at hw1
      go_wp2
      go_roundw
      case rel => exact ⟨k + 1, d1, by omega, by go_num, hw1, h2.1, h2.2⟩
      case measure => simp [intOf]; omega
    · have : k = n := by omega
      subst this
      have H := hide (put_any hw 1 0 (by omega) (by omega) (by omega) (by omega) (by simp; omega))
      go_wp2_with fail
      refine (H.out).mono ?_
      rintro e w1 ⟨rfl, d1, hw1, hf1, hon1⟩
      have h2 := wr_trans hf hon hf1 hon1
      rw [show num (Int.toNat 1) (Int.toNat 0) = [false] from rfl, List.append_assoc] at hw1
      go_wp2
      go_end0
      exact ⟨rfl, d1, hw1, h2.1, h2.2⟩
end Go.Proofs.Ytfahcmiignnnkaa
