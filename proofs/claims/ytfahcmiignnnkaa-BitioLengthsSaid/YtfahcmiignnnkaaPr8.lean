/-
  The walks over the bit strings of the program, eighth part: exponential Golomb and truncated codes in front of bits.
-/
import Derived.Test.YtfahcmiignnnkaaPr7
namespace Go.Proofs.Ytfahcmiignnnkaa
open Go.RowKit Go.Proofs Wv Wv.Bit

theorem res_err {k p x e y : Nat} {L : List Bool} {v : Int} (h : rd k p L = (0, 0, e)) (he : e ≠ 0) : RdRes k p L x v e y :=
  ⟨fun _ => by rw [h], fun h2 => by rw [h] at h2; exact (he h2).elim, fun h2 => by rw [h] at h2; exact (he h2).elim⟩
theorem res_ok {k p x u z : Nat} {L : List Bool} (h : rd k p L = (u, z, 0)) (hu : u ≤ 4611686018427387903) : RdRes k p L x (u : Int) 0 (x + z) :=
  ⟨fun h2 => by rw [h] at h2; simp at h2, fun _ _ => by rw [h]; exact ⟨rfl, rfl, rfl⟩, fun _ h2 => by rw [h] at h2; simp only at h2; omega⟩
theorem res_big {k p x u z y : Nat} {L : List Bool} {v : Int} (h : rd k p L = (u, z, 0)) (hu : 4611686018427387903 < u) : RdRes k p L x v 2 y :=
  ⟨fun h2 => by rw [h] at h2; simp at h2, fun _ h2 => by rw [h] at h2; simp only at h2; omega, fun _ _ => rfl⟩

set_option maxHeartbeats 400000 in
theorem kread3 {b x n : Nat} {s : ByteArray} {w : World} (h : RdAt w b s x n) (p : Int) (h0 : 0 ≤ p) (h1 : p ≤ 30) :
    Calls Try.prog 60 #[.pointer (some ⟨b, 0, none⟩), .int .i64 p] w fun e w' => ∃ (v : Int) (er y : Nat), e = .returned (.tuple #[.int .i64 v, .int .i64 er]) ∧ RdAt w' b s y n ∧ Fr (only b) w w' ∧ RdRes 3 p.toNat ((rbits s n).drop x) x v er y := by
  obtain ⟨p, rfl⟩ := Int.eq_ofNat_of_zero_le h0
  rw [Int.toNat_natCast]
  have H := hide (rones_any h 62 (by omega))
  have hlen : ((rbits s n).drop x).length = n - x := by rw [List.length_drop, rbits_length]
  obtain ⟨L, hL⟩ : ∃ L, (rbits s n).drop x = L := ⟨_, rfl⟩
  have hdr : ∀ j, (rbits s n).drop (x + j) = L.drop j := fun j => by rw [← hL, List.drop_drop]
  rw [hL] at H hlen ⊢
  clear hL
  by_cases he : (onesR 62 L).2 = 0
  · obtain ⟨g1, g2, g3⟩ := onesR_ok he
    have hrd := rdp_ok (p := p) (g := true) he
    simp only [if_true] at hrd
    have hat : ∀ y, onesAt 62 L x y → y = x + (onesR 62 L).1 + 1 := fun y hy => hy he
    have Hat := hide hat
    rw [he] at H
    generalize (onesR 62 L).1 = q at *
    rw [← g1] at g2 g3
    clear hat he g1
    obtain ⟨t, ht⟩ : ∃ t, t = q + p := ⟨_, rfl⟩
    have hqp : (q : Int) + (p : Int) = (t : Int) := by omega
    rw [← ht] at hrd
    by_cases hc : L.length < q + 1 + t
    · rw [if_pos hc] at hrd
      have Hr := hide (fun v y => res_err (k := 3) (p := p) (L := L) (x := x) (v := v) (y := y) hrd (by omega))
      have hb : n - x < q + 1 + t := by omega
      clear hrd ht hc hdr
      go_enter Try.func60, Try.ntmps60
      go_wp2_with fail
      refine (H.out).mono ?_
      rintro e w1 ⟨rfl, y, hr1, hf1, hy⟩
      obtain rfl := Hat.out y hy
      have H2 := hide (left_any hr1)
      have hb2 := hr1.2.1
      have hb3 : (n : Int) - ((x + q + 1 : Nat) : Int) < (t : Int) := by omega
      go_wp2_with (go_at_call 15; refine (H2.out).mono ?_; rintro e w1 ⟨rfl, qq, rfl⟩)
      go_ret2
      exact ⟨_, 12, _, rfl, hr1, hf1.drewN _, Hr.out _ _⟩
    · rw [if_neg hc] at hrd
      by_cases hb : 62 < t
      · rw [if_pos hb] at hrd
        have Hr := hide (fun v y => res_err (k := 3) (p := p) (L := L) (x := x) (v := v) (y := y) hrd (by omega))
        have hlx : q + 1 + t ≤ n - x := by omega
        clear hrd ht hc hdr
        go_enter Try.func60, Try.ntmps60
        go_wp2_with fail
        refine (H.out).mono ?_
        rintro e w1 ⟨rfl, y, hr1, hf1, hy⟩
        obtain rfl := Hat.out y hy
        have H2 := hide (left_any hr1)
        have hb2 := hr1.2.1
        have hb3 : ¬ (n : Int) - ((x + q + 1 : Nat) : Int) < (t : Int) := by omega
        go_wp2_with (go_at_call 15; refine (H2.out).mono ?_; rintro e w1 ⟨rfl, qq, rfl⟩)
        go_ret2
        exact ⟨_, 2, _, rfl, hr1, hf1.drewN _, Hr.out _ _⟩
      · rw [if_neg hb] at hrd
        have hlx : q + 1 + t ≤ n - x := by omega
        have hdq := hdr (q + 1)
        have hx := val_take_lt (L.drop (q + 1)) t
        have e1 := pow62 t (by omega)
        have e2 := pow30 p (by omega)
        have e3 : 2 ^ p ≤ 2 ^ t := Nat.pow_le_pow_right (by omega) (by omega)
        obtain ⟨R, hR⟩ : ∃ R, val ((L.drop (q + 1)).take t) = R := ⟨_, rfl⟩
        obtain ⟨A, hA⟩ : ∃ A, 2 ^ t = A := ⟨_, rfl⟩
        obtain ⟨C, hC⟩ : ∃ C, 2 ^ p = C := ⟨_, rfl⟩
        have i1 : IntKind.i64.wrap ((2 : Int) ^ t) = (A : Int) := by rw [pow_cast, hA, IntWalk.i64_in _ (by omega)]
        have i3 : IntKind.i64.wrap ((2 : Int) ^ p) = (C : Int) := by rw [pow_cast, hC, IntWalk.i64_in _ (by omega)]
        rw [hR, hA] at hx
        rw [hA] at e1
        rw [hC] at e2
        rw [hC, hA] at e3
        rw [hA, hC, hR] at hrd
        obtain ⟨B, hB⟩ : ∃ B, B = A + R := ⟨_, rfl⟩
        obtain ⟨D, hD⟩ : ∃ D, D = B - C := ⟨_, rfl⟩
        have i2 : IntKind.i64.wrap ((A : Int) + (R : Int)) = (B : Int) := by rw [IntWalk.i64_in _ (by omega)]; omega
        have i4 : IntKind.i64.wrap ((B : Int) - (C : Int)) = (D : Int) := by rw [IntWalk.i64_in _ (by omega)]; omega
        rw [show A - C + R = D from by omega] at hrd
        have HR := hide hR
        clear hR hA hC hB hD
        have Hrd := hide hrd
        clear hrd ht hc hdr g3
        have ht62 : t ≤ 62 := by omega
        by_cases hbig : 4611686018427387903 < D
        all_goals
          go_enter Try.func60, Try.ntmps60
          go_wp2_with fail
          refine (H.out).mono ?_
          rintro e w1 ⟨rfl, y, hr1, hf1, hy⟩
          obtain rfl := Hat.out y hy
          have H2 := hide (left_any hr1)
          have hb2 := hr1.2.1
          have hb3 : ¬ (n : Int) - ((x + q + 1 : Nat) : Int) < (t : Int) := by omega
          have H4 := hide (take_yes (w := w1) hr1 t (by omega) ht62)
          go_wp2_with fail
          refine (H2.out).mono ?_
          rintro e w2 ⟨rfl, qq, rfl⟩
          have H3 := take_yes (show RdAt (w1.drewN qq) b s (x + q + 1) n from hr1) t (by omega) ht62
          rw [show x + q + 1 = x + (q + 1) from rfl, hdq, HR.out] at H3
          have H5 := hide H3
          clear H3 H4 hdq
          go_wp2_with fail
          refine (H5.out).mono ?_
          rintro e w3 ⟨rfl, hr2, hf2⟩
          go_wp2
          go_quiet (fail)
          go_wp2
          go_ret2
          first
            | exact ⟨_, 2, _, rfl, hr2, ((hf1.drewN _).trans hf2).drewN _, res_big (k := 3) (p := p) (L := L) Hrd.out hbig⟩
            | exact ⟨_, 0, _, rfl, hr2, ((hf1.drewN _).trans hf2).drewN _, by have := res_ok (k := 3) (p := p) (x := x) (L := L) Hrd.out (by omega); rw [show x + (q + 1) + t = x + (q + 1 + t) from by omega]; exact this⟩
  · have Hr := hide (show ∀ v y, RdRes 3 p L x v (onesR 62 L).2 y from fun v y => res_ones_bad (m := 62) (g := true) rfl he)
    have he2 : (((onesR 62 L).2 : Int) != 0) = true := by rw [bne_iff_ne]; omega
    generalize onesR 62 L = o at *
    clear he
    go_enter Try.func60, Try.ntmps60
    go_wp2_with (go_at_call 52; refine (H.out).mono ?_; rintro e w1 ⟨rfl, y, hr1, hf1, hy⟩)
    go_ret2
    exact ⟨_, _, y, rfl, hr1, hf1, Hr.out _ y⟩
set_option maxHeartbeats 400000 in
theorem kread4 {b x n : Nat} {s : ByteArray} {w : World} (h : RdAt w b s x n) (p : Int) (h0 : 1 ≤ p) (h1 : p ≤ 4294967296) :
    Calls Try.prog 65 #[.pointer (some ⟨b, 0, none⟩), .int .i64 p] w fun e w' => ∃ (v : Int) (er y : Nat), e = .returned (.tuple #[.int .i64 v, .int .i64 er]) ∧ RdAt w' b s y n ∧ Fr (only b) w w' ∧ RdRes 4 p.toNat ((rbits s n).drop x) x v er y := by
  obtain ⟨p, rfl⟩ := Int.eq_ofNat_of_zero_le (show 0 ≤ p by omega)
  rw [Int.toNat_natCast]
  have Ht := hide (fun w => truncated_any p w (by omega) (by omega))
  have hlen : ((rbits s n).drop x).length = n - x := by rw [List.length_drop, rbits_length]
  have hxn := h.2.1
  have hn := blen_le p 33 (by omega)
  have hn2 := (blen_ge p (by omega)).2
  have hn3 := blen_lt p
  have hrd : rd 4 p ((rbits s n).drop x) = rdt p ((rbits s n).drop x) := rfl
  simp only [rdt] at hrd
  rw [hlen] at hrd
  have hpw := pow62 (blen p) (by omega)
  obtain ⟨k, hk⟩ : ∃ k, blen p - 1 = k := ⟨_, rfl⟩
  obtain ⟨u, hu⟩ : ∃ u, 2 ^ blen p - p = u := ⟨_, rfl⟩
  have hku : u ≤ 4611686018427387904 := by omega
  have hk62 : k ≤ 32 := by omega
  rw [hk, hu] at Ht hrd
  clear hn hn2 hn3 hpw hk hu hlen
  by_cases c1 : n - x < k
  · rw [if_pos c1] at hrd
    have Hr := hide (fun v y => res_err (k := 4) (p := p) (x := x) (L := (rbits s n).drop x) (v := v) (y := y) hrd (by omega))
    have c2 : (n : Int) - (x : Int) < (k : Int) := by omega
    have hh := hide h
    have H := hide (fun q => take_no (w := w.drewN q) (show RdAt (w.drewN q) b s x n from hh.out) (k : Int) c2)
    clear h hrd c1
    go_enter Try.func65, Try.ntmps65
    go_wp2_with (first
      | (go_at_call 63; refine (Ht.out _).mono ?_; rintro e w1 ⟨rfl, q, rfl⟩)
      | (go_at_call 47; refine (H.out _).mono ?_; rintro e w1 ⟨rfl, q2, rfl⟩))
    go_ret2
    exact ⟨_, 12, x, rfl, hh.out, (Fr.refl _ _).drewN _, Hr.out _ _⟩
  · rw [if_neg c1] at hrd
    have hh := hide h
    have H := hide (fun q => take_yes (w := w.drewN q) (show RdAt (w.drewN q) b s x n from hh.out) k (by omega) (by omega))
    have hv1 := val_take_lt62 ((rbits s n).drop x) k (by omega)
    by_cases c3 : val (((rbits s n).drop x).take k) < u
    · rw [if_pos c3] at hrd
      have c4 : (val (((rbits s n).drop x).take k) : Int) < (u : Int) := by omega
      have Hr := hide (res_ok (k := 4) (p := p) (x := x) (L := (rbits s n).drop x) hrd (by omega))
      generalize val (((rbits s n).drop x).take k) = V at *
      clear h hrd c1 c3
      go_enter Try.func65, Try.ntmps65
      go_wp2_with (first
        | (go_at_call 63; refine (Ht.out _).mono ?_; rintro e w1 ⟨rfl, q, rfl⟩)
        | (go_at_call 47; refine (H.out _).mono ?_; rintro e w1 ⟨rfl, hr1, hf1⟩))
      go_ret2
      exact ⟨_, 0, _, rfl, hr1, ((Fr.refl _ _).drewN _).trans hf1, Hr.out⟩
    · rw [if_neg c3] at hrd
      have c4 : ¬ (val (((rbits s n).drop x).take k) : Int) < (u : Int) := by omega
      by_cases c5 : n - x < k + 1
      · rw [if_pos c5] at hrd
        have Hr := hide (fun v y => res_err (k := 4) (p := p) (x := x) (L := (rbits s n).drop x) (v := v) (y := y) hrd (by omega))
        have c6 : (n : Int) - ((x + k : Nat) : Int) < 1 := by omega
        generalize val (((rbits s n).drop x).take k) = V at *
        clear h hrd c1 c3 c5
        go_enter Try.func65, Try.ntmps65
        go_wp2_with fail
        refine (Ht.out _).mono ?_
        rintro e w1 ⟨rfl, q, rfl⟩
        go_wp2_with fail
        refine (H.out _).mono ?_
        rintro e w1 ⟨rfl, hr1, hf1⟩
        have H2 := hide (take_no hr1 1 c6)
        go_wp2_with fail
        refine (H2.out).mono ?_
        rintro e w2 ⟨rfl, q2, rfl⟩
        go_wp2
        go_ret2
        exact ⟨_, 12, _, rfl, hr1, (((Fr.refl _ _).drewN _).trans hf1).drewN _, Hr.out _ _⟩
      · rw [if_neg c5] at hrd
        have hv2 := val_take_succ ((rbits s n).drop x) k (by rw [List.length_drop, rbits_length]; omega)
        have hv3 := val_take_lt62 ((rbits s n).drop x) (k + 1) (by omega)
        have hb1 := bt_le ((rbits s n).drop x) k
        rw [hv2] at hrd hv3
        have hbd := bt_drop (rbits s n) x k
        have Hr := hide (res_ok (k := 4) (p := p) (x := x) (L := (rbits s n).drop x) hrd (by omega))
        have c6 : x + k < n := by omega
        generalize val (((rbits s n).drop x).take k) = V at *
        rw [hbd] at Hr hv3 hb1
        clear hv2 hbd
        obtain ⟨y, hy⟩ : ∃ y, x + k = y := ⟨_, rfl⟩
        rw [show x + (k + 1) = x + k + 1 from rfl] at Hr
        rw [hy] at Hr H hb1 hv3 c6
        have c7 : u ≤ V := by omega
        clear h hrd c1 c3 c5 hy
        go_enter Try.func65, Try.ntmps65
        go_wp2_with fail
        refine (Ht.out _).mono ?_
        rintro e w1 ⟨rfl, q, rfl⟩
        go_wp2_with fail
        refine (H.out _).mono ?_
        rintro e w1 ⟨rfl, hr1, hf1⟩
        have H2 := hide (take_one hr1 c6)
        go_wp2_with fail
        refine (H2.out).mono ?_
        rintro e w2 ⟨rfl, hr2, hf2⟩
        go_wp2
        go_ret2
        exact ⟨_, 0, _, ret_int2 (show _ = ((2 * V + bt (rbits s n) y - u : Nat) : Int) by omega) rfl, hr2, (((Fr.refl _ _).drewN _).trans hf1).trans hf2, Hr.out⟩
end Go.Proofs.Ytfahcmiignnnkaa
