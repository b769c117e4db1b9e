/-
  The walks over the bit strings of the program, seventh part: codes with a run of ones in front of bits.
-/
import Derived.Test.YtfahcmiignnnkaaPr6
namespace Go.Proofs.Ytfahcmiignnnkaa
open Go.RowKit Go.Proofs Wv Wv.Bit

/-- The plain side of a code with a run of ones: the run fails. -/
theorem res_ones_bad {k p m x y : Nat} {L : List Bool} {g : Bool} {v : Int} (hk : rd k p L = rdp p (m + 1) L g) (hm : (onesR m L).2 ≠ 0) : RdRes k p L x v (onesR m L).2 y := by
  have h : (rd k p L).2.2 = (onesR m L).2 := by
    rw [hk]
    unfold rdp onesR at *
    simp only
    split
    · rfl
    · split
      · rfl
      · rename_i h1 h2
        rw [if_neg h1, if_neg h2] at hm
        simp at hm
  exact ⟨fun _ => h.symm, fun h2 => by rw [h] at h2; exact (hm h2).elim, fun h2 => by rw [h] at h2; exact (hm h2).elim⟩
theorem onesR_ok {m : Nat} {L : List Bool} (h : (onesR m L).2 = 0) : (onesR m L).1 = ones (m + 1) L ∧ ones (m + 1) L ≤ m ∧ ones (m + 1) L < L.length := by
  have hl := ones_le (m + 1) L
  unfold onesR at *
  split at h
  · simp at h
  · split at h
    · simp at h
    · rename_i h1 h2
      rw [if_neg h1, if_neg h2]
      exact ⟨rfl, by omega, by omega⟩
theorem rdp_ok {p m : Nat} {L : List Bool} {g : Bool} (h : (onesR m L).2 = 0) : rdp p (m + 1) L g = (let n := (onesR m L).1; let q := if g then n + p else p
    if L.length < n + 1 + q then (0, 0, 12) else if g then (if 62 < n + p then (0, 0, 2) else (2 ^ (n + p) - 2 ^ p + val ((L.drop (n + 1)).take q), n + 1 + q, 0)) else (n * 2 ^ p + val ((L.drop (n + 1)).take q), n + 1 + q, 0)) := by
  obtain ⟨h1, h2, h3⟩ := onesR_ok h
  unfold rdp
  simp only
  rw [if_neg (by omega), if_neg (by omega), ← h1]

set_option maxHeartbeats 400000 in
theorem kread1 {b x n : Nat} {s : ByteArray} {w : World} (h : RdAt w b s x n) (p : Int) (hp : p = 0) :
    Calls Try.prog 51 #[.pointer (some ⟨b, 0, none⟩), .int .i64 p] w fun e w' => ∃ (v : Int) (er y : Nat), e = .returned (.tuple #[.int .i64 v, .int .i64 er]) ∧ RdAt w' b s y n ∧ Fr (only b) w w' ∧ RdRes 1 p.toNat ((rbits s n).drop x) x v er y := by
  have H := hide (rones_any h 4096 (by omega))
  subst hp
  have Hr := hide (show ∀ y, onesAt 4096 ((rbits s n).drop x) x y → RdRes 1 0 ((rbits s n).drop x) x ((onesR 4096 ((rbits s n).drop x)).1 : Nat) (onesR 4096 ((rbits s n).drop x)).2 y from by
    intro y hy
    generalize (rbits s n).drop x = L at *
    by_cases he : (onesR 4096 L).2 = 0
    · have hrd : rd 1 0 L = ((onesR 4096 L).1, (onesR 4096 L).1 + 1, 0) := by
        show rdp 0 (4096 + 1) L false = _
        rw [rdp_ok he]
        obtain ⟨h1, h2, h3⟩ := onesR_ok he
        simp [val]
        omega
      refine ⟨fun h => by rw [hrd] at h; simp at h, fun _ _ => by rw [hrd, he]; exact ⟨rfl, rfl, by rw [hy he]; simp only; omega⟩, fun _ h => ?_⟩
      obtain ⟨h1, h2, h3⟩ := onesR_ok he
      rw [hrd] at h; simp only at h; omega
    · exact res_ones_bad (m := 4096) (g := false) rfl he)
  go_enter Try.func51, Try.ntmps51
  go_wp2_with (go_at_call 52; refine (H.out).mono ?_; rintro e w1 ⟨rfl, y, hr1, hf1, hy⟩)
  go_ret2
  exact ⟨_, _, y, rfl, hr1, hf1, Hr.out y hy⟩

set_option maxHeartbeats 400000 in
theorem kread2 {b x n : Nat} {s : ByteArray} {w : World} (h : RdAt w b s x n) (p : Int) (h0 : 0 ≤ p) (h1 : p ≤ 30) :
    Calls Try.prog 55 #[.pointer (some ⟨b, 0, none⟩), .int .i64 p] w fun e w' => ∃ (v : Int) (er y : Nat), e = .returned (.tuple #[.int .i64 v, .int .i64 er]) ∧ RdAt w' b s y n ∧ Fr (only b) w w' ∧ RdRes 2 p.toNat ((rbits s n).drop x) x v er y := by
  have H := hide (rones_any h 4096 (by omega))
  have hlen : ((rbits s n).drop x).length = n - x := by rw [List.length_drop, rbits_length]
  obtain ⟨L, hL⟩ : ∃ L, (rbits s n).drop x = L := ⟨_, rfl⟩
  have hdr : ∀ j, (rbits s n).drop (x + j) = L.drop j := fun j => by rw [← hL, List.drop_drop]
  rw [hL] at H hlen ⊢
  clear hL
  by_cases he : (onesR 4096 L).2 = 0
  · obtain ⟨g1, g2, g3⟩ := onesR_ok he
    have hrd := rdp_ok (p := p.toNat) (g := false) he
    simp only [Bool.false_eq_true, if_false] at hrd
    have hat : ∀ y, onesAt 4096 L x y → y = x + (onesR 4096 L).1 + 1 := fun y hy => hy he
    have Hat := hide hat
    rw [he] at H
    generalize (onesR 4096 L).1 = q at *
    clear hat he
    by_cases hc : L.length < q + 1 + p.toNat
    · rw [if_pos hc] at hrd
      have Hr := hide (show ∀ v y, RdRes 2 p.toNat L x v 12 y from fun v y => by
        have h9 : rd 2 p.toNat L = (0, 0, 12) := hrd
        exact ⟨fun _ => by rw [h9], fun h => by rw [h9] at h; simp at h, fun h => by rw [h9] at h; simp at h⟩)
      clear hrd
      go_enter Try.func55, Try.ntmps55
      go_wp2_with fail
      refine (H.out).mono ?_
      rintro e w1 ⟨rfl, y, hr1, hf1, hy⟩
      obtain rfl := Hat.out y hy
      have H2 := hide (take_no hr1 p (by have := hr1.2.1; omega))
      go_wp2_with (go_at_call 47; refine (H2.out).mono ?_; rintro e w1 ⟨rfl, qq, rfl⟩)
      go_ret2
      exact ⟨_, 12, _, rfl, hr1, hf1.drewN _, Hr.out _ _⟩
    · rw [if_neg hc] at hrd
      have Hr := hide (show RdRes 2 p.toNat L x ((q * 2 ^ p.toNat + val ((L.drop (q + 1)).take p.toNat) : Nat) : Int) 0 (x + q + 1 + p.toNat) from by
        have h9 : rd 2 p.toNat L = _ := hrd
        refine ⟨fun h => by rw [h9] at h; simp at h, fun _ _ => by rw [h9]; exact ⟨rfl, rfl, by simp only; omega⟩, fun _ h => ?_⟩
        have e1 := val_take_lt (L.drop (q + 1)) p.toNat
        have e2 := pow30 p.toNat (by omega)
        have e3 : q * 2 ^ p.toNat ≤ 4096 * 1073741824 := Nat.mul_le_mul (by omega) e2
        rw [h9] at h; simp only at h; omega)
      have Ha := hide (rice_or q p.toNat (val ((L.drop (q + 1)).take p.toNat)) (by omega) (by omega) (val_take_lt _ _))
      clear hrd
      have hdq := hdr (q + 1)
      have hq : q ≤ 4096 := by omega
      have hLn : q + 1 + p.toNat ≤ n - x := by omega
      clear hc hdr g1 g2 g3
      go_enter Try.func55, Try.ntmps55
      go_wp2_with fail
      refine (H.out).mono ?_
      rintro e w1 ⟨rfl, y, hr1, hf1, hy⟩
      obtain rfl := Hat.out y hy
      have H2 := take_yes hr1 p.toNat (by have := hr1.2.1; omega) (by omega)
      rw [Int.toNat_of_nonneg h0, show x + q + 1 = x + (q + 1) from rfl, hdq] at H2
      have H3 := hide H2
      clear H2 hdq
      go_wp2_with (go_at_call 47; refine (H3.out).mono ?_; rintro e w2 ⟨rfl, hr2, hf2⟩)
      go_ret2
      exact ⟨_, 0, _, ret_int2 Ha.out rfl, hr2, hf1.trans hf2, Hr.out⟩
  · have Hr := hide (show ∀ v y, RdRes 2 p.toNat L x v (onesR 4096 L).2 y from fun v y => res_ones_bad (m := 4096) (g := false) rfl he)
    have he2 : (((onesR 4096 L).2 : Int) != 0) = true := by rw [bne_iff_ne]; omega
    generalize onesR 4096 L = o at *
    clear he
    go_enter Try.func55, Try.ntmps55
    go_wp2_with (go_at_call 52; refine (H.out).mono ?_; rintro e w1 ⟨rfl, y, hr1, hf1, hy⟩)
    go_ret2
    exact ⟨_, _, y, rfl, hr1, hf1, Hr.out _ y⟩
end Go.Proofs.Ytfahcmiignnnkaa
