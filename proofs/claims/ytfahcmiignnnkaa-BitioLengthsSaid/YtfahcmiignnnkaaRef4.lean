/-
  The walks over the reference of the bit strings, fourth part: exponential Golomb and truncated codes in front of bits, and Get.
-/
import Derived.Test.YtfahcmiignnnkaaRef3
namespace Go.Proofs.Ytfahcmiignnnkaa
open Go.RowKit Go.Proofs Wv Wv.Bit
attribute [local go_sem ↓] Go.wp_at_zero Go.wp_at_succ

set_option maxHeartbeats 1000000 in
theorem refread3 (l : List Bool) (p : Int) (w : World) (h0 : 0 ≤ p) (h1 : p ≤ 30) (hl : l.length ≤ 4611686018427387904) :
    Calls Try.prog 30 #[.string (txt l), .int .i64 3, .int .i64 p] w fun e w' => e = .returned (.tuple #[.int .i64 ((rdp p.toNat 63 l true).1 : Nat), .int .i64 ((rdp p.toNat 63 l true).2.1 : Nat), .int .i64 ((rdp p.toNat 63 l true).2.2 : Nat)]) ∧ ∃ q, w' = w.drewN q := by
  have h3 : (txt l).size ≤ l.length := by rw [txt_size]; omega
  have h4 : l.length ≤ (txt l).size := by rw [txt_size]; omega
  have hp := prefix_any l 63 w (by omega) hl
  rw [show (63 : Int).toNat = 63 from rfl] at hp
  have hle := ones_le 63 l
  obtain ⟨r, hr⟩ : ∃ r, rdp p.toNat 63 l true = r := ⟨_, rfl⟩
  rw [hr]
  simp only [rdp, if_true] at hr
  generalize ones 63 l = n at *
  by_cases c1 : n = 63
  · rw [if_pos c1] at hr
    rw [show pfx 63 n l.length = (0, 2) from if_pos c1] at hp
    have Hp := hide hp
    clear hp
    subst hr
    clear c1
    skip
    all_goals
      go_enter Try.func30, Try.ntmps30
      go_wp2_with (go_at_call 37; refine (Hp.out).mono ?_; rintro e w1 ⟨rfl, rfl⟩)
      go_ret3
      exact ⟨rfl, 0, rfl⟩
  · rw [if_neg c1] at hr
    by_cases c2 : n = l.length
    · rw [if_pos c2] at hr
      rw [show pfx 63 n l.length = (0, 12) from (if_neg c1).trans (if_pos c2)] at hp
      have Hp := hide hp
      clear hp
      subst hr
      clear c1 c2
      skip
      all_goals
        go_enter Try.func30, Try.ntmps30
        go_wp2_with (go_at_call 37; refine (Hp.out).mono ?_; rintro e w1 ⟨rfl, rfl⟩)
        go_ret3
        exact ⟨rfl, 0, rfl⟩
    · rw [if_neg c2] at hr
      rw [show pfx 63 n l.length = (n, 0) from (if_neg c1).trans (if_neg c2)] at hp
      have Hp := hide hp
      clear hp
      by_cases c3 : l.length < n + 1 + (n + p.toNat)
      · rw [if_pos c3] at hr
        subst hr
        have c4 : (l.length : Int) < (n : Int) + 1 + n + p := by omega
        clear c1 c2 c3
        skip
        all_goals
          go_enter Try.func30, Try.ntmps30
          go_wp2_with (go_at_call 37; refine (Hp.out).mono ?_; rintro e w1 ⟨rfl, rfl⟩)
          go_ret3
          exact ⟨rfl, 0, rfl⟩
      · rw [if_neg c3] at hr
        have c4 : (n : Int) + 1 + n + p ≤ (l.length : Int) := by omega
        by_cases c5 : 62 < n + p.toNat
        · rw [if_pos c5] at hr
          subst hr
          have c6 : (62 : Int) < (n : Int) + p := by omega
          clear c1 c2 c3 c5
          go_enter Try.func30, Try.ntmps30
          go_wp2_with (go_at_call 37; refine (Hp.out).mono ?_; rintro e w1 ⟨rfl, rfl⟩)
          go_ret3
          exact ⟨rfl, 0, rfl⟩
        · rw [if_neg c5] at hr
          have Hr := hide hr
          clear hr
          have c6 : (n : Int) + p ≤ 62 := by omega
          have Hv := hide (fun w => value_any (l.drop (n + 1)) ((n : Int) + p) w (by omega) (by simp; omega) (by omega))
          have hd := txt_drop l (n + 1)
          have i1 : IntKind.i64.wrap ((n : Int) + 1) = (n : Int) + 1 := IntWalk.i64_in _ (by omega)
          have i5 : IntKind.i64.wrap ((n : Int) + p) = (n : Int) + p := IntWalk.i64_in _ (by omega)
          have i2 : (0 : Int) ≤ (n : Int) + 1 := by omega
          have i7 : (0 : Int) ≤ (n : Int) + p := by omega
          have i3 : (n : Int) + 1 ≤ ((txt l).size : Int) := by omega
          have i4 : ((n : Int) + 1).toNat = n + 1 := by omega
          have i6 : ((n : Int) + p).toNat = n + p.toNat := by omega
          have hx := hide (val_take_lt (l.drop (n + 1)) (n + p.toNat))
          have c7 : n + p.toNat ≤ 62 := by omega
          clear c1 c2 c3 c5
          go_enter Try.func30, Try.ntmps30
          go_wp2_with (go_at_call 37; refine (Hp.out).mono ?_; rintro e w1 ⟨rfl, rfl⟩)
          go_quiet ((go_at_call 39; first | exact q1 (Hv.out _) | exact q2 (Hv.out _)))
          go_wp2
          go_ret3
          rw [i6]
          refine ⟨ret_int3 ?_ (by rw [← Hr.out]; simp only; omega) (by rw [← Hr.out]; rfl), _, rfl⟩
          refine (golomb_arith _ _ _ c7 hx.out).trans (by rw [← Hr.out])
set_option maxHeartbeats 1000000 in
theorem refread4 (l : List Bool) (p : Int) (w : World) (h0 : 1 ≤ p) (h1 : p ≤ 4294967296) :
    Calls Try.prog 30 #[.string (txt l), .int .i64 4, .int .i64 p] w fun e w' => e = .returned (.tuple #[.int .i64 ((rdt p.toNat l).1 : Nat), .int .i64 ((rdt p.toNat l).2.1 : Nat), .int .i64 ((rdt p.toNat l).2.2 : Nat)]) ∧ ∃ q, w' = w.drewN q := by
  obtain ⟨p, rfl⟩ := Int.eq_ofNat_of_zero_le (show 0 ≤ p by omega)
  rw [Int.toNat_natCast]
  have h3 : (txt l).size ≤ l.length := by rw [txt_size]; omega
  have h4 : l.length ≤ (txt l).size := by rw [txt_size]; omega
  have hl := length_any (p : Int)
  rw [Int.toNat_natCast] at hl
  have Hl := hide (fun w => hl w (by omega) (by omega))
  obtain ⟨r, hr⟩ : ∃ r, rdt p l = r := ⟨_, rfl⟩
  rw [hr]
  simp only [rdt] at hr
  have hn := blen_le p 33 (by omega)
  obtain ⟨hn1, hn2⟩ := blen_ge p (by omega)
  have hn3 := blen_lt p
  clear hl
  generalize blen p = n at *
  obtain ⟨k, rfl⟩ : ∃ k, n = k + 1 := ⟨n - 1, by omega⟩
  have hpw := pow62 (k + 1) (by omega)
  have hpc := pow_cast (k + 1)
  have hpe : wrap64 ((2 : Int) ^ (k + 1)) = (2 : Int) ^ (k + 1) := pow_wrap _ (by omega)
  obtain ⟨m, hm⟩ : ∃ m : Nat, m = 2 ^ (k + 1) := ⟨_, rfl⟩
  simp only [Nat.add_sub_cancel] at hr
  rw [← hm] at hr hn3 hpw hpc
  have hpe2 := hpe
  rw [hpc] at hpe2
  clear hn1 hm hpe
  by_cases c1 : l.length < k
  · rw [if_pos c1] at hr
    subst hr
    have c2 : ((txt l).size : Int) < (k : Int) := by omega
    clear c1
    go_enter Try.func30, Try.ntmps30
    go_wp2_with (go_at_call 38; refine (Hl.out _).mono ?_; rintro e w1 ⟨rfl, rfl⟩)
    go_ret3
    exact ⟨ret_int3 rfl rfl rfl, 0, rfl⟩
  · rw [if_neg c1] at hr
    have c2 : (k : Int) ≤ ((txt l).size : Int) := by omega
    have Hv := hide (fun w => value_any l (k : Int) w (by omega) (by omega) (by omega))
    have hvb := val_take_lt62 l k (by omega)
    by_cases c3 : val (l.take k) < m - p
    · rw [if_pos c3] at hr
      subst hr
      have c4 : (val (l.take k) : Int) < (m : Int) - (p : Int) := by omega
      clear c1 c3
      go_enter Try.func30, Try.ntmps30
      go_wp2_with (first
        | (go_at_call 38; refine (Hl.out _).mono ?_; rintro e w1 ⟨rfl, rfl⟩)
        | (go_at_call 39; refine (Hv.out _).mono ?_; rintro e w1 ⟨rfl, rfl⟩))
      go_ret3
      exact ⟨ret_int3 rfl rfl rfl, 0, rfl⟩
    · rw [if_neg c3] at hr
      have c4 : (m : Int) - (p : Int) ≤ (val (l.take k) : Int) := by omega
      by_cases c5 : l.length < k + 1
      · rw [if_pos c5] at hr
        subst hr
        have c6 : ((txt l).size : Int) < (k : Int) + 1 := by omega
        clear c1 c3 c5
        go_enter Try.func30, Try.ntmps30
        go_wp2_with fail
        refine (Hl.out _).mono ?_
        rintro e w1 ⟨rfl, rfl⟩
        go_wp2_with fail
        refine (Hv.out _).mono ?_
        rintro e w1 ⟨rfl, rfl⟩
        go_wp2
        go_ret3
        exact ⟨ret_int3 rfl rfl rfl, 0, rfl⟩
      · rw [if_neg c5] at hr
        have c6 : (k : Int) + 1 ≤ ((txt l).size : Int) := by omega
        have hv2 := fun w => value_any l ((k : Int) + 1) w (by omega) (by omega) (by omega)
        rw [show ((k : Int) + 1).toNat = k + 1 from by omega] at hv2
        have Hv2 := hide hv2
        have hvb2 := val_take_lt62 l (k + 1) (by omega)
        have hvs : 2 * val (l.take k) ≤ val (l.take (k + 1)) := by rw [val_take_succ l k (by omega)]; omega
        have hne : (((k : Int) + 1) == (k : Int)) = false := by rw [beq_eq_false_iff_ne]; omega
        subst hr
        clear hv2 c1 c3 c5
        go_enter Try.func30, Try.ntmps30
        go_wp2_with fail
        refine (Hl.out _).mono ?_
        rintro e w1 ⟨rfl, rfl⟩
        go_wp2_with fail
        refine (Hv.out _).mono ?_
        rintro e w1 ⟨rfl, rfl⟩
        go_wp2_with fail
        refine (Hv2.out _).mono ?_
        rintro e w1 ⟨rfl, rfl⟩
        go_wp2
        go_ret3
        exact ⟨ret_int3 (by omega) (by omega) rfl, 0, rfl⟩

/-- 'read' of the reference, at whatever kind and parameter. -/
theorem refread_any (l : List Bool) (k p : Int) (w : World) (hp : par k p = true) (hl : l.length ≤ 4611686018427387904) :
    Calls Try.prog 30 #[.string (txt l), .int .i64 k, .int .i64 p] w fun e w' => e = .returned (.tuple #[.int .i64 ((rd k.toNat p.toNat l).1 : Nat), .int .i64 ((rd k.toNat p.toNat l).2.1 : Nat), .int .i64 ((rd k.toNat p.toNat l).2.2 : Nat)]) ∧ ∃ q, w' = w.drewN q := by
  rcases par_cases hp with ⟨rfl, a, b⟩ | ⟨rfl, rfl⟩ | ⟨rfl, a, b⟩ | ⟨rfl, a, b⟩ | ⟨rfl, a, b⟩
  · exact refread0 l p w a b
  · exact refread12 l 1 0 w (.inl rfl) (by omega) (by omega) hl
  · exact refread12 l 2 p w (.inr rfl) a b hl
  · exact refread3 l p w a b hl
  · exact refread4 l p w a b

set_option maxHeartbeats 400000 in
theorem refget_any (l : List Bool) (k p m : Int) (w : World) (hl : l.length ≤ 4611686018427387904) :
    Calls Try.prog 14 #[.string (txt l), .int .i64 k, .int .i64 p, .int .i64 m] w fun e w' => e = .returned (.tuple #[.string (txt (getm k p m l).1), .int .i64 ((getm k p m l).2.1 : Nat), .int .i64 ((getm k p m l).2.2 : Nat)]) ∧ ∃ q, w' = w.drewN q := by
  have Hp := hide (parameter_any k p)
  obtain ⟨r, hr⟩ : ∃ r, getm k p m l = r := ⟨_, rfl⟩
  rw [hr]
  by_cases hp : par k p = true
  · have Hr := hide (fun w => refread_any l k p w hp hl)
    have hf := rd_fits k p l hp
    simp only [getm, hp, if_true] at hr
    rw [hp] at Hp
    clear hp
    generalize rd k.toNat p.toNat l = x at *
    obtain ⟨v, s, e⟩ := x
    simp only at hf hr
    have h3 : (txt l).size ≤ l.length := by rw [txt_size]; omega
    have h4 : l.length ≤ (txt l).size := by rw [txt_size]; omega
    by_cases c1 : e = 0
    · obtain ⟨f1, f2⟩ := hf c1
      subst c1
      by_cases c2 : m < (v : Int)
      · rw [if_neg (by omega), if_pos (.inl c2)] at hr
        subst hr
        go_enter Try.func14, Try.ntmps14
        go_wp2_with (first
          | (go_at_call 29; refine (Hp.out _).mono ?_; rintro e w1 ⟨rfl, rfl⟩)
          | (go_at_call 30; refine (Hr.out _).mono ?_; rintro e w1 ⟨rfl, q, rfl⟩))
        go_ret3
        exact ⟨rfl, _, rfl⟩
      · by_cases c3 : (4611686018427387903 : Int) < (v : Int)
        · rw [if_neg (by omega), if_pos (.inr (by omega))] at hr
          subst hr
          go_enter Try.func14, Try.ntmps14
          go_wp2_with (first
            | (go_at_call 29; refine (Hp.out _).mono ?_; rintro e w1 ⟨rfl, rfl⟩)
            | (go_at_call 30; refine (Hr.out _).mono ?_; rintro e w1 ⟨rfl, q, rfl⟩))
          go_ret3
          exact ⟨rfl, _, rfl⟩
        · rw [if_neg (by omega), if_neg (by omega)] at hr
          subst hr
          have hd := txt_drop l s
          have i1 : (s : Int) ≤ ((txt l).size : Int) := by omega
          go_enter Try.func14, Try.ntmps14
          go_wp2_with (first
            | (go_at_call 29; refine (Hp.out _).mono ?_; rintro e w1 ⟨rfl, rfl⟩)
            | (go_at_call 30; refine (Hr.out _).mono ?_; rintro e w1 ⟨rfl, q, rfl⟩))
          go_ret3
          exact ⟨rfl, _, rfl⟩
    · rw [if_pos c1] at hr
      subst hr
      have c2 : ((e : Int) != 0) = true := by rw [bne_iff_ne]; omega
      clear hf
      go_enter Try.func14, Try.ntmps14
      go_wp2_with (first
        | (go_at_call 29; refine (Hp.out _).mono ?_; rintro e w1 ⟨rfl, rfl⟩)
        | (go_at_call 30; refine (Hr.out _).mono ?_; rintro e w1 ⟨rfl, q, rfl⟩))
      go_ret3
      exact ⟨rfl, _, rfl⟩
  · have hp' : par k p = false := by simpa using hp
    simp only [getm, hp', Bool.false_eq_true, if_false] at hr
    rw [hp'] at Hp
    subst hr
    clear hp hp'
    go_enter Try.func14, Try.ntmps14
    go_wp2_with (go_at_call 29; refine (Hp.out _).mono ?_; rintro e w1 ⟨rfl, rfl⟩)
    go_ret3
    exact ⟨rfl, 0, rfl⟩
end Go.Proofs.Ytfahcmiignnnkaa
