/-
  The walks over the reference of the bit strings, third part: a code behind bits, and a code in front of bits.
-/
import Derived.Test.YtfahcmiignnnkaaRef2
namespace Go.Proofs.Ytfahcmiignnnkaa
open Go.RowKit Go.Proofs Wv Wv.Bit
attribute [local go_sem ↓] Go.wp_at_zero Go.wp_at_succ

theorem ret_str2 {s t : ByteArray} {k : IntKind} {a b : Int} (h : s = t) (h2 : a = b) : Ending.returned (.tuple #[.string s, .int k a]) = .returned (.tuple #[.string t, .int k b]) := by rw [h, h2]
theorem ret_int3 {a b c a' b' c' : Int} (h : a = a') (h2 : b = b') (h3 : c = c') : Ending.returned (.tuple #[.int .i64 a, .int .i64 b, .int .i64 c]) = .returned (.tuple #[.int .i64 a', .int .i64 b', .int .i64 c']) := by rw [h, h2, h3]
theorem ret_str3 {s t : ByteArray} {b c b' c' : Int} (h : s = t) (h2 : b = b') (h3 : c = c') : Ending.returned (.tuple #[.string s, .int .i64 b, .int .i64 c]) = .returned (.tuple #[.string t, .int .i64 b', .int .i64 c']) := by rw [h, h2, h3]

set_option maxHeartbeats 400000 in
theorem refput_any (b : List Bool) (c : Cd) (w : World) (hp1 : c.p ≤ 9223372036854775807) (hv1 : c.v ≤ 9223372036854775807) (hb0 : b.length ≤ 65536) :
    Calls Try.prog 34 #[.string (txt b), .agg #[.int .i64 c.k, .int .i64 c.p, .int .i64 c.v]] w fun e w' => e = .returned (.tuple #[.string (txt (putm b c).1), .int .i64 ((putm b c).2 : Nat)]) ∧ Below w.heap.size w w' := by
  obtain ⟨k, p, v⟩ := c
  simp only at *
  have H := hide (fun w => valid_any k p v w hp1 hv1)
  have hb := (Below.refl w.heap.size w).alloc (Nat.le_refl _) (.cells #[.int .i64 k, .int .i64 p, .int .i64 v] 42)
  by_cases hv : vld k p v = true
  · have H2 := hide (fun w => bits_any k p v w hv)
    have hl := cbits_len hv
    have Hs := hide (show putm b ⟨k, p, v⟩ = if 65536 < b.length + (cbits k.toNat p.toNat v.toNat).length then (b, 9) else (b ++ cbits k.toNat p.toNat v.toNat, 0) from by rw [putm, Cd.ok, hv]; rfl)
    rw [hv] at H
    have h1 : (txt b).size ≤ b.length := by rw [txt_size]; omega
    have h2 : b.length ≤ (txt b).size := by rw [txt_size]; omega
    generalize cbits k.toNat p.toNat v.toNat = cb at *
    have h3 : (txt cb).size ≤ cb.length := by rw [txt_size]; omega
    have h4 : cb.length ≤ (txt cb).size := by rw [txt_size]; omega
    clear hv
    by_cases hbig : 65536 < b.length + cb.length
    · go_enter Try.func34, Try.ntmps34
      go_wp2_with (first
        | (go_at_call 32; refine (H.out _).mono ?_; rintro e w1 ⟨rfl, hb1⟩; have hc1 := bcell hb1)
        | (go_at_call 33; refine (H2.out _).mono ?_; rintro e w2 ⟨rfl, hb2⟩))
      go_ret2
      exact ⟨ret_str2 (by rw [Hs.out, if_pos hbig]) (by rw [Hs.out, if_pos hbig]; rfl), (hb.trans (hb1.mono (by simp))).trans (hb2.mono (Nat.le_trans (by simp) hb1.size))⟩
    · have ht := hide (txt_append b cb)
      go_enter Try.func34, Try.ntmps34
      go_wp2_with fail
      refine (H.out _).mono ?_
      rintro e w1 ⟨rfl, hb1⟩
      have hc1 := bcell hb1
      go_wp2_with fail
      refine (H2.out _).mono ?_
      rintro e w2 ⟨rfl, hb2⟩
      have hc2 := bcell hb2
      have hz2 : w.heap.size < w1.heap.size := Nat.lt_of_lt_of_le (by simp) hb1.size
      go_wp2_with fail
      refine (H2.out _).mono ?_
      rintro e w3 ⟨rfl, hb3⟩
      go_wp2
      go_ret2
      exact ⟨ret_str2 (by rw [Hs.out, if_neg hbig, ht.out]) (by rw [Hs.out, if_neg hbig]; rfl), ((hb.trans (hb1.mono (by simp))).trans (hb2.mono (Nat.le_trans (by simp) hb1.size))).trans (hb3.mono (Nat.le_trans (Nat.le_trans (by simp) hb1.size) hb2.size))⟩
  · have hv' : vld k p v = false := by simpa using hv
    have Hs := hide (show putm b ⟨k, p, v⟩ = (b, 1) from by rw [putm, Cd.ok, hv']; rfl)
    rw [hv'] at H
    clear hv hv'
    go_enter Try.func34, Try.ntmps34
    go_wp2_with (go_at_call 32; refine (H.out _).mono ?_; rintro e w1 ⟨rfl, hb1⟩)
    go_ret2
    exact ⟨ret_str2 (by rw [Hs.out]) (by rw [Hs.out]; rfl), hb.trans (hb1.mono (by simp))⟩

set_option maxHeartbeats 400000 in
theorem refread0 (l : List Bool) (p : Int) (w : World) (h0 : 0 ≤ p) (h1 : p ≤ 62) :
    Calls Try.prog 30 #[.string (txt l), .int .i64 0, .int .i64 p] w fun e w' => e = .returned (.tuple #[.int .i64 ((rd 0 p.toNat l).1 : Nat), .int .i64 ((rd 0 p.toNat l).2.1 : Nat), .int .i64 ((rd 0 p.toNat l).2.2 : Nat)]) ∧ ∃ q, w' = w.drewN q := by
  have h3 : (txt l).size ≤ l.length := by rw [txt_size]; omega
  have h4 : l.length ≤ (txt l).size := by rw [txt_size]; omega
  have hr := hide (show rd 0 p.toNat l = if l.length < p.toNat then (0, 0, 12) else (val (l.take p.toNat), p.toNat, 0) from rfl)
  by_cases hs : l.length < p.toNat
  · have hs1 : (l.length : Int) < p := by omega
    go_enter Try.func30, Try.ntmps30
    go_wp2
    go_ret3
    exact ⟨ret_int3 (by rw [hr.out, if_pos hs]; rfl) (by rw [hr.out, if_pos hs]; rfl) (by rw [hr.out, if_pos hs]; rfl), 0, rfl⟩
  · have hs1 : p ≤ (l.length : Int) := by omega
    have Hv := hide (value_any l p w h0 hs1 h1)
    go_enter Try.func30, Try.ntmps30
    go_wp2_with (go_at_call 39; refine (Hv.out).mono ?_; rintro e w1 ⟨rfl, rfl⟩)
    go_ret3
    exact ⟨ret_int3 (by rw [hr.out, if_neg hs]) (by rw [hr.out, if_neg hs]; simp; omega) (by rw [hr.out, if_neg hs]; rfl), 0, rfl⟩

set_option maxHeartbeats 1000000 in
theorem refread12 (l : List Bool) (k p : Int) (w : World) (hk : k = 1 ∨ k = 2) (h0 : 0 ≤ p) (h1 : p ≤ 30) (hl : l.length ≤ 4611686018427387904) :
    Calls Try.prog 30 #[.string (txt l), .int .i64 k, .int .i64 p] w fun e w' => e = .returned (.tuple #[.int .i64 ((rdp p.toNat 4097 l false).1 : Nat), .int .i64 ((rdp p.toNat 4097 l false).2.1 : Nat), .int .i64 ((rdp p.toNat 4097 l false).2.2 : Nat)]) ∧ ∃ q, w' = w.drewN q := by
  have h3 : (txt l).size ≤ l.length := by rw [txt_size]; omega
  have h4 : l.length ≤ (txt l).size := by rw [txt_size]; omega
  have hp := prefix_any l 4097 w (by omega) hl
  rw [show (4097 : Int).toNat = 4097 from rfl] at hp
  have hle := ones_le 4097 l
  obtain ⟨r, hr⟩ : ∃ r, rdp p.toNat 4097 l false = r := ⟨_, rfl⟩
  rw [hr]
  simp only [rdp, Bool.false_eq_true, if_false] at hr
  generalize ones 4097 l = n at *
  by_cases c1 : n = 4097
  · rw [if_pos c1] at hr
    rw [show pfx 4097 n l.length = (0, 2) from if_pos c1] at hp
    have Hp := hide hp
    clear hp
    subst hr
    clear c1
    rcases hk with rfl | rfl
    all_goals
      go_enter Try.func30, Try.ntmps30
      go_wp2_with (go_at_call 37; refine (Hp.out).mono ?_; rintro e w1 ⟨rfl, rfl⟩)
      go_ret3
      exact ⟨rfl, 0, rfl⟩
  · rw [if_neg c1] at hr
    by_cases c2 : n = l.length
    · rw [if_pos c2] at hr
      rw [show pfx 4097 n l.length = (0, 12) from (if_neg c1).trans (if_pos c2)] at hp
      have Hp := hide hp
      clear hp
      subst hr
      clear c1 c2
      rcases hk with rfl | rfl
      all_goals
        go_enter Try.func30, Try.ntmps30
        go_wp2_with (go_at_call 37; refine (Hp.out).mono ?_; rintro e w1 ⟨rfl, rfl⟩)
        go_ret3
        exact ⟨rfl, 0, rfl⟩
    · rw [if_neg c2] at hr
      rw [show pfx 4097 n l.length = (n, 0) from (if_neg c1).trans (if_neg c2)] at hp
      have Hp := hide hp
      clear hp
      by_cases c3 : l.length < n + 1 + p.toNat
      · rw [if_pos c3] at hr
        subst hr
        have c4 : (l.length : Int) < (n : Int) + 1 + p := by omega
        clear c1 c2 c3
        rcases hk with rfl | rfl
        all_goals
          go_enter Try.func30, Try.ntmps30
          go_wp2_with (go_at_call 37; refine (Hp.out).mono ?_; rintro e w1 ⟨rfl, rfl⟩)
          go_ret3
          exact ⟨rfl, 0, rfl⟩
      · rw [if_neg c3] at hr
        have Hr := hide hr
        clear hr
        have c4 : (n : Int) + 1 + p ≤ (l.length : Int) := by omega
        have hd := txt_drop l (n + 1)
        have Hv := hide (fun w => value_any (l.drop (n + 1)) p w h0 (by simp; omega) (by omega))
        have i1 : IntKind.i64.wrap ((n : Int) + 1) = (n : Int) + 1 := IntWalk.i64_in _ (by omega)
        have i2 : (0 : Int) ≤ (n : Int) + 1 := by omega
        have i3 : (n : Int) + 1 ≤ ((txt l).size : Int) := by omega
        have i4 : ((n : Int) + 1).toNat = n + 1 := by omega
        clear c1 c2 c3
        rcases hk with rfl | rfl
        all_goals
          go_enter Try.func30, Try.ntmps30
          go_wp2_with (go_at_call 37; refine (Hp.out).mono ?_; rintro e w1 ⟨rfl, rfl⟩)
          go_quiet ((go_at_call 39; first | exact q1 (Hv.out _) | exact q2 (Hv.out _)))
          go_wp2
          go_ret3
          exact ⟨ret_int3 ((rice_arith _ _ _ (by omega) (by omega) (val_take_lt62 _ _ (by omega))).trans (by rw [← Hr.out])) (by rw [← Hr.out]; simp only; omega) (by rw [← Hr.out]; rfl), _, rfl⟩
end Go.Proofs.Ytfahcmiignnnkaa
