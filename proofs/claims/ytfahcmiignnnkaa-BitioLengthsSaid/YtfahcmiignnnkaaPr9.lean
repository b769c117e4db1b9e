/-
  The walks over the bit strings of the program, ninth part: Get.
-/
import Derived.Test.YtfahcmiignnnkaaPr8
import Derived.Test.YtfahcmiignnnkaaPr5
namespace Go.Proofs.Ytfahcmiignnnkaa
open Go.RowKit Go.Proofs Wv Wv.Bit

theorem RdAt.below {w w' : World} {b x n : Nat} {s : ByteArray} (h : RdAt w b s x n) (hb : Below w.heap.size w w') : RdAt w' b s x n := ⟨h.1.below hb h.1.lt, h.2⟩
theorem RdAt.alloc {w : World} {b x n : Nat} {s : ByteArray} (h : RdAt w b s x n) (o : Obj) : RdAt (w.alloc o) b s x n := ⟨h.1.alloc o, h.2⟩
theorem RdAt.back {w : World} {b x y n : Nat} {s : ByteArray} (h : RdAt w b s y n) (hx : x ≤ n) : RdAt (w.setCell ⟨b, 1, none⟩ (.int .i64 (x : Int))) b s x n := ⟨h.1.put 1 _, hx, h.2.2⟩

set_option maxHeartbeats 400000 in
theorem get0 {b x n : Nat} {s : ByteArray} {w : World} (h : RdAt w b s x n) (p m : Int) (h0 : 0 ≤ p) (h1 : p ≤ 62) :
    Calls Try.prog 13 #[.pointer (some ⟨b, 0, none⟩), .int .i64 0, .int .i64 p, .int .i64 m] w fun e w' => ∃ y, e = .returned (.tuple #[.int .i64 ((getm 0 p m ((rbits s n).drop x)).2.1 : Nat), .int .i64 ((getm 0 p m ((rbits s n).drop x)).2.2 : Nat)]) ∧ RdAt w' b s y n ∧ Fr (only b) w w' ∧ (getm 0 p m ((rbits s n).drop x)).1 = (rbits s n).drop y := by
  have hfd := find0 p h0 h1 w
  have hp : par 0 p = true := by simp [par]; omega
  unfold kv0 at hfd
  have Hf := hide hfd
  clear hfd
  have Hh := hide h
  go_enter Try.func13, Try.ntmps13
  go_wp2_with fail
  refine (Hf.out).mono ?_
  rintro e w1 ⟨rfl, hb⟩
  have hr1 := Hh.out.below hb
  have hc1 := hr1.c1
  have hs := hb.size
  have hlt := hr1.1.lt
  go_wp2_with fail
  have hr2 := (hr1.alloc (.cells kv0.cells 66))
  have Hr := hide (kread0 hr2 p h0 h1)
  simp only [kv0, Value.cells] at Hr
  have hf0 := ((Fr.of_below (S := only b) hb).alloc (.cells kv0.cells 66))
  simp only [kv0, Value.cells] at hf0
  refine (Hr.out).mono ?_
  rintro e w2 ⟨v, er, y, rfl, hr3, hf3, hres⟩
  have hxn := h.2.1
  have g1 := hr3.c1
  have g2 : w2.frozen? ⟨b, 1, none⟩ = false := hr3.1.frozen 1
  by_cases he : er = 0
  · subst he
    obtain ⟨h5, h6, h7⟩ := getm_ok (m := m) hp hres
    by_cases hm : m < v
    · rw [if_pos hm] at h6
      have H6 := hide h6
      clear h6
      go_wp2
      go_ret2
      exact ⟨x, ret_int2 (by rw [H6.out]; rfl) (by rw [H6.out]; rfl), hr3.back hxn, (hf0.trans hf3).setCell (p := ⟨b, 1, none⟩) (.inl rfl) _, by rw [H6.out]⟩
    · rw [if_neg hm] at h6
      have H6 := hide h6
      clear h6
      go_wp2
      go_ret2
      exact ⟨y, ret_int2 (by rw [H6.out]; simp only; omega) (by rw [H6.out]; rfl), hr3, hf0.trans hf3, by rw [H6.out]; simp only; rw [List.drop_drop, show x + (y - x) = y from by omega]⟩
  · have H6 := hide (getm_err (m := m) hp hres he)
    have he1 : ((er : Int) == 0) = false := by rw [beq_eq_false_iff_ne]; omega
    have he2 : ((er : Int) != 0) = true := by rw [bne_iff_ne]; omega
    clear he
    go_wp2
    go_ret2
    exact ⟨x, ret_int2 (by rw [H6.out]; rfl) (by rw [H6.out]), hr3.back hxn, (hf0.trans hf3).setCell (p := ⟨b, 1, none⟩) (.inl rfl) _, by rw [H6.out]⟩

set_option maxHeartbeats 400000 in
theorem get1 {b x n : Nat} {s : ByteArray} {w : World} (h : RdAt w b s x n) (p m : Int) (h0 : 0 ≤ p) (h1 : p ≤ 0) :
    Calls Try.prog 13 #[.pointer (some ⟨b, 0, none⟩), .int .i64 1, .int .i64 p, .int .i64 m] w fun e w' => ∃ y, e = .returned (.tuple #[.int .i64 ((getm 1 p m ((rbits s n).drop x)).2.1 : Nat), .int .i64 ((getm 1 p m ((rbits s n).drop x)).2.2 : Nat)]) ∧ RdAt w' b s y n ∧ Fr (only b) w w' ∧ (getm 1 p m ((rbits s n).drop x)).1 = (rbits s n).drop y := by
  have hfd := find1 p h0 h1 w
  have hp : par 1 p = true := by simp [par]; omega
  unfold kv1 at hfd
  have Hf := hide hfd
  clear hfd
  have Hh := hide h
  go_enter Try.func13, Try.ntmps13
  go_wp2_with fail
  refine (Hf.out).mono ?_
  rintro e w1 ⟨rfl, hb⟩
  have hr1 := Hh.out.below hb
  have hc1 := hr1.c1
  have hs := hb.size
  have hlt := hr1.1.lt
  go_wp2_with fail
  have hr2 := (hr1.alloc (.cells kv1.cells 66))
  have Hr := hide (kread1 hr2 p (by omega))
  simp only [kv1, Value.cells] at Hr
  have hf0 := ((Fr.of_below (S := only b) hb).alloc (.cells kv1.cells 66))
  simp only [kv1, Value.cells] at hf0
  refine (Hr.out).mono ?_
  rintro e w2 ⟨v, er, y, rfl, hr3, hf3, hres⟩
  have hxn := h.2.1
  have g1 := hr3.c1
  have g2 : w2.frozen? ⟨b, 1, none⟩ = false := hr3.1.frozen 1
  by_cases he : er = 0
  · subst he
    obtain ⟨h5, h6, h7⟩ := getm_ok (m := m) hp hres
    by_cases hm : m < v
    · rw [if_pos hm] at h6
      have H6 := hide h6
      clear h6
      go_wp2
      go_ret2
      exact ⟨x, ret_int2 (by rw [H6.out]; rfl) (by rw [H6.out]; rfl), hr3.back hxn, (hf0.trans hf3).setCell (p := ⟨b, 1, none⟩) (.inl rfl) _, by rw [H6.out]⟩
    · rw [if_neg hm] at h6
      have H6 := hide h6
      clear h6
      go_wp2
      go_ret2
      exact ⟨y, ret_int2 (by rw [H6.out]; simp only; omega) (by rw [H6.out]; rfl), hr3, hf0.trans hf3, by rw [H6.out]; simp only; rw [List.drop_drop, show x + (y - x) = y from by omega]⟩
  · have H6 := hide (getm_err (m := m) hp hres he)
    have he1 : ((er : Int) == 0) = false := by rw [beq_eq_false_iff_ne]; omega
    have he2 : ((er : Int) != 0) = true := by rw [bne_iff_ne]; omega
    clear he
    go_wp2
    go_ret2
    exact ⟨x, ret_int2 (by rw [H6.out]; rfl) (by rw [H6.out]), hr3.back hxn, (hf0.trans hf3).setCell (p := ⟨b, 1, none⟩) (.inl rfl) _, by rw [H6.out]⟩

set_option maxHeartbeats 400000 in
theorem get2 {b x n : Nat} {s : ByteArray} {w : World} (h : RdAt w b s x n) (p m : Int) (h0 : 0 ≤ p) (h1 : p ≤ 30) :
    Calls Try.prog 13 #[.pointer (some ⟨b, 0, none⟩), .int .i64 2, .int .i64 p, .int .i64 m] w fun e w' => ∃ y, e = .returned (.tuple #[.int .i64 ((getm 2 p m ((rbits s n).drop x)).2.1 : Nat), .int .i64 ((getm 2 p m ((rbits s n).drop x)).2.2 : Nat)]) ∧ RdAt w' b s y n ∧ Fr (only b) w w' ∧ (getm 2 p m ((rbits s n).drop x)).1 = (rbits s n).drop y := by
  have hfd := find2 p h0 h1 w
  have hp : par 2 p = true := by simp [par]; omega
  unfold kv2 at hfd
  have Hf := hide hfd
  clear hfd
  have Hh := hide h
  go_enter Try.func13, Try.ntmps13
  go_wp2_with fail
  refine (Hf.out).mono ?_
  rintro e w1 ⟨rfl, hb⟩
  have hr1 := Hh.out.below hb
  have hc1 := hr1.c1
  have hs := hb.size
  have hlt := hr1.1.lt
  go_wp2_with fail
  have hr2 := (hr1.alloc (.cells kv2.cells 66))
  have Hr := hide (kread2 hr2 p h0 h1)
  simp only [kv2, Value.cells] at Hr
  have hf0 := ((Fr.of_below (S := only b) hb).alloc (.cells kv2.cells 66))
  simp only [kv2, Value.cells] at hf0
  refine (Hr.out).mono ?_
  rintro e w2 ⟨v, er, y, rfl, hr3, hf3, hres⟩
  have hxn := h.2.1
  have g1 := hr3.c1
  have g2 : w2.frozen? ⟨b, 1, none⟩ = false := hr3.1.frozen 1
  by_cases he : er = 0
  · subst he
    obtain ⟨h5, h6, h7⟩ := getm_ok (m := m) hp hres
    by_cases hm : m < v
    · rw [if_pos hm] at h6
      have H6 := hide h6
      clear h6
      go_wp2
      go_ret2
      exact ⟨x, ret_int2 (by rw [H6.out]; rfl) (by rw [H6.out]; rfl), hr3.back hxn, (hf0.trans hf3).setCell (p := ⟨b, 1, none⟩) (.inl rfl) _, by rw [H6.out]⟩
    · rw [if_neg hm] at h6
      have H6 := hide h6
      clear h6
      go_wp2
      go_ret2
      exact ⟨y, ret_int2 (by rw [H6.out]; simp only; omega) (by rw [H6.out]; rfl), hr3, hf0.trans hf3, by rw [H6.out]; simp only; rw [List.drop_drop, show x + (y - x) = y from by omega]⟩
  · have H6 := hide (getm_err (m := m) hp hres he)
    have he1 : ((er : Int) == 0) = false := by rw [beq_eq_false_iff_ne]; omega
    have he2 : ((er : Int) != 0) = true := by rw [bne_iff_ne]; omega
    clear he
    go_wp2
    go_ret2
    exact ⟨x, ret_int2 (by rw [H6.out]; rfl) (by rw [H6.out]), hr3.back hxn, (hf0.trans hf3).setCell (p := ⟨b, 1, none⟩) (.inl rfl) _, by rw [H6.out]⟩

set_option maxHeartbeats 400000 in
theorem get3 {b x n : Nat} {s : ByteArray} {w : World} (h : RdAt w b s x n) (p m : Int) (h0 : 0 ≤ p) (h1 : p ≤ 30) :
    Calls Try.prog 13 #[.pointer (some ⟨b, 0, none⟩), .int .i64 3, .int .i64 p, .int .i64 m] w fun e w' => ∃ y, e = .returned (.tuple #[.int .i64 ((getm 3 p m ((rbits s n).drop x)).2.1 : Nat), .int .i64 ((getm 3 p m ((rbits s n).drop x)).2.2 : Nat)]) ∧ RdAt w' b s y n ∧ Fr (only b) w w' ∧ (getm 3 p m ((rbits s n).drop x)).1 = (rbits s n).drop y := by
  have hfd := find3 p h0 h1 w
  have hp : par 3 p = true := by simp [par]; omega
  unfold kv3 at hfd
  have Hf := hide hfd
  clear hfd
  have Hh := hide h
  go_enter Try.func13, Try.ntmps13
  go_wp2_with fail
  refine (Hf.out).mono ?_
  rintro e w1 ⟨rfl, hb⟩
  have hr1 := Hh.out.below hb
  have hc1 := hr1.c1
  have hs := hb.size
  have hlt := hr1.1.lt
  go_wp2_with fail
  have hr2 := (hr1.alloc (.cells kv3.cells 66))
  have Hr := hide (kread3 hr2 p h0 h1)
  simp only [kv3, Value.cells] at Hr
  have hf0 := ((Fr.of_below (S := only b) hb).alloc (.cells kv3.cells 66))
  simp only [kv3, Value.cells] at hf0
  refine (Hr.out).mono ?_
  rintro e w2 ⟨v, er, y, rfl, hr3, hf3, hres⟩
  have hxn := h.2.1
  have g1 := hr3.c1
  have g2 : w2.frozen? ⟨b, 1, none⟩ = false := hr3.1.frozen 1
  by_cases he : er = 0
  · subst he
    obtain ⟨h5, h6, h7⟩ := getm_ok (m := m) hp hres
    by_cases hm : m < v
    · rw [if_pos hm] at h6
      have H6 := hide h6
      clear h6
      go_wp2
      go_ret2
      exact ⟨x, ret_int2 (by rw [H6.out]; rfl) (by rw [H6.out]; rfl), hr3.back hxn, (hf0.trans hf3).setCell (p := ⟨b, 1, none⟩) (.inl rfl) _, by rw [H6.out]⟩
    · rw [if_neg hm] at h6
      have H6 := hide h6
      clear h6
      go_wp2
      go_ret2
      exact ⟨y, ret_int2 (by rw [H6.out]; simp only; omega) (by rw [H6.out]; rfl), hr3, hf0.trans hf3, by rw [H6.out]; simp only; rw [List.drop_drop, show x + (y - x) = y from by omega]⟩
  · have H6 := hide (getm_err (m := m) hp hres he)
    have he1 : ((er : Int) == 0) = false := by rw [beq_eq_false_iff_ne]; omega
    have he2 : ((er : Int) != 0) = true := by rw [bne_iff_ne]; omega
    clear he
    go_wp2
    go_ret2
    exact ⟨x, ret_int2 (by rw [H6.out]; rfl) (by rw [H6.out]), hr3.back hxn, (hf0.trans hf3).setCell (p := ⟨b, 1, none⟩) (.inl rfl) _, by rw [H6.out]⟩

set_option maxHeartbeats 400000 in
theorem get4 {b x n : Nat} {s : ByteArray} {w : World} (h : RdAt w b s x n) (p m : Int) (h0 : 1 ≤ p) (h1 : p ≤ 4294967296) :
    Calls Try.prog 13 #[.pointer (some ⟨b, 0, none⟩), .int .i64 4, .int .i64 p, .int .i64 m] w fun e w' => ∃ y, e = .returned (.tuple #[.int .i64 ((getm 4 p m ((rbits s n).drop x)).2.1 : Nat), .int .i64 ((getm 4 p m ((rbits s n).drop x)).2.2 : Nat)]) ∧ RdAt w' b s y n ∧ Fr (only b) w w' ∧ (getm 4 p m ((rbits s n).drop x)).1 = (rbits s n).drop y := by
  have hfd := find4 p h0 h1 w
  have hp : par 4 p = true := by simp [par]; omega
  unfold kv4 at hfd
  have Hf := hide hfd
  clear hfd
  have Hh := hide h
  go_enter Try.func13, Try.ntmps13
  go_wp2_with fail
  refine (Hf.out).mono ?_
  rintro e w1 ⟨rfl, hb⟩
  have hr1 := Hh.out.below hb
  have hc1 := hr1.c1
  have hs := hb.size
  have hlt := hr1.1.lt
  go_wp2_with fail
  have hr2 := (hr1.alloc (.cells kv4.cells 66))
  have Hr := hide (kread4 hr2 p h0 h1)
  simp only [kv4, Value.cells] at Hr
  have hf0 := ((Fr.of_below (S := only b) hb).alloc (.cells kv4.cells 66))
  simp only [kv4, Value.cells] at hf0
  refine (Hr.out).mono ?_
  rintro e w2 ⟨v, er, y, rfl, hr3, hf3, hres⟩
  have hxn := h.2.1
  have g1 := hr3.c1
  have g2 : w2.frozen? ⟨b, 1, none⟩ = false := hr3.1.frozen 1
  by_cases he : er = 0
  · subst he
    obtain ⟨h5, h6, h7⟩ := getm_ok (m := m) hp hres
    by_cases hm : m < v
    · rw [if_pos hm] at h6
      have H6 := hide h6
      clear h6
      go_wp2
      go_ret2
      exact ⟨x, ret_int2 (by rw [H6.out]; rfl) (by rw [H6.out]; rfl), hr3.back hxn, (hf0.trans hf3).setCell (p := ⟨b, 1, none⟩) (.inl rfl) _, by rw [H6.out]⟩
    · rw [if_neg hm] at h6
      have H6 := hide h6
      clear h6
      go_wp2
      go_ret2
      exact ⟨y, ret_int2 (by rw [H6.out]; simp only; omega) (by rw [H6.out]; rfl), hr3, hf0.trans hf3, by rw [H6.out]; simp only; rw [List.drop_drop, show x + (y - x) = y from by omega]⟩
  · have H6 := hide (getm_err (m := m) hp hres he)
    have he1 : ((er : Int) == 0) = false := by rw [beq_eq_false_iff_ne]; omega
    have he2 : ((er : Int) != 0) = true := by rw [bne_iff_ne]; omega
    clear he
    go_wp2
    go_ret2
    exact ⟨x, ret_int2 (by rw [H6.out]; rfl) (by rw [H6.out]), hr3.back hxn, (hf0.trans hf3).setCell (p := ⟨b, 1, none⟩) (.inl rfl) _, by rw [H6.out]⟩

set_option maxHeartbeats 400000 in
theorem getbad {b x n : Nat} {s : ByteArray} {w : World} (h : RdAt w b s x n) (k p m : Int) {c0 c1 c2 c3 c4 c5 : Value} (o : c0.oneCell' = true ∧ c1.oneCell' = true ∧ c2.oneCell' = true ∧ c3.oneCell' = true ∧ c4.oneCell' = true ∧ c5.oneCell' = true)
    (hfd : Calls Try.prog 28 #[.int .i64 k, .int .i64 p] w fun e w' => e = .returned (.tuple #[.agg #[c0, c1, c2, c3, c4, c5], .bool false]) ∧ Below w.heap.size w w') (hp : par k p = false) :
    Calls Try.prog 13 #[.pointer (some ⟨b, 0, none⟩), .int .i64 k, .int .i64 p, .int .i64 m] w fun e w' => ∃ y, e = .returned (.tuple #[.int .i64 ((getm k p m ((rbits s n).drop x)).2.1 : Nat), .int .i64 ((getm k p m ((rbits s n).drop x)).2.2 : Nat)]) ∧ RdAt w' b s y n ∧ Fr (only b) w w' ∧ (getm k p m ((rbits s n).drop x)).1 = (rbits s n).drop y := by
  have Hf := hide hfd
  have hr := hide (show getm k p m ((rbits s n).drop x) = ((rbits s n).drop x, 0, 1) from by rw [getm, hp]; rfl)
  have Hh := hide h
  have s0 := fun W a m => run_store Try.prog W a c0 m o.1
  have s1 := fun W a m => run_store Try.prog W a c1 m o.2.1
  have s2 := fun W a m => run_store Try.prog W a c2 m o.2.2.1
  have s3 := fun W a m => run_store Try.prog W a c3 m o.2.2.2.1
  have s4 := fun W a m => run_store Try.prog W a c4 m o.2.2.2.2.1
  have s5 := fun W a m => run_store Try.prog W a c5 m o.2.2.2.2.2
  clear hp hfd h o
  go_enter Try.func13, Try.ntmps13
  go_wp2_with fail
  refine (Hf.out).mono ?_
  rintro e w1 ⟨rfl, hb⟩
  go_wp2
  go_ret2
  exact ⟨x, ret_int2 (by rw [hr.out]; rfl) (by rw [hr.out]; rfl), (Hh.out.below hb).alloc _, (Fr.of_below hb).alloc _, by rw [hr.out]⟩

/-- 'Get' of the program, at whatever kind, parameter and limit. -/
theorem get_any {b x n : Nat} {s : ByteArray} {w : World} (h : RdAt w b s x n) (k p m : Int) :
    Calls Try.prog 13 #[.pointer (some ⟨b, 0, none⟩), .int .i64 k, .int .i64 p, .int .i64 m] w fun e w' => ∃ y, e = .returned (.tuple #[.int .i64 ((getm k p m ((rbits s n).drop x)).2.1 : Nat), .int .i64 ((getm k p m ((rbits s n).drop x)).2.2 : Nat)]) ∧ RdAt w' b s y n ∧ Fr (only b) w w' ∧ (getm k p m ((rbits s n).drop x)).1 = (rbits s n).drop y := by
  have o : ∀ a b f g i j, (Value.int .i64 a).oneCell' = true ∧ (Value.int .i64 b).oneCell' = true ∧ (Value.func f #[] #[]).oneCell' = true ∧ (Value.func g #[] #[]).oneCell' = true ∧ (Value.func i #[] #[]).oneCell' = true ∧ (Value.func j #[] #[]).oneCell' = true := fun _ _ _ _ _ _ => ⟨rfl, rfl, rfl, rfl, rfl, rfl⟩
  by_cases hp : par k p = true
  · rcases par_cases hp with ⟨rfl, a, b⟩ | ⟨rfl, rfl⟩ | ⟨rfl, a, b⟩ | ⟨rfl, a, b⟩ | ⟨rfl, a, b⟩
    · exact get0 h p m a b
    · exact get1 h 0 m (by omega) (by omega)
    · exact get2 h p m a b
    · exact get3 h p m a b
    · exact get4 h p m a b
  · have hp' : par k p = false := by simpa using hp
    by_cases e0 : k = 0
    · subst e0
      by_cases c : p < 0
      · exact getbad h 0 p m (o _ _ _ _ _ _) (find0lo p c w) hp'
      · exact getbad h 0 p m (o _ _ _ _ _ _) (find0hi p (by omega) (by simp [par] at hp'; omega) w) hp'
    by_cases e1 : k = 1
    · subst e1
      by_cases c : p < 0
      · exact getbad h 1 p m (o _ _ _ _ _ _) (find1lo p c w) hp'
      · exact getbad h 1 p m (o _ _ _ _ _ _) (find1hi p (by omega) (by simp [par] at hp'; omega) w) hp'
    by_cases e2 : k = 2
    · subst e2
      by_cases c : p < 0
      · exact getbad h 2 p m (o _ _ _ _ _ _) (find2lo p c w) hp'
      · exact getbad h 2 p m (o _ _ _ _ _ _) (find2hi p (by omega) (by simp [par] at hp'; omega) w) hp'
    by_cases e3 : k = 3
    · subst e3
      by_cases c : p < 0
      · exact getbad h 3 p m (o _ _ _ _ _ _) (find3lo p c w) hp'
      · exact getbad h 3 p m (o _ _ _ _ _ _) (find3hi p (by omega) (by simp [par] at hp'; omega) w) hp'
    by_cases e4 : k = 4
    · subst e4
      by_cases c : p < 1
      · exact getbad h 4 p m (o _ _ _ _ _ _) (find4lo p c w) hp'
      · exact getbad h 4 p m (o _ _ _ _ _ _) (find4hi p (by omega) (by simp [par] at hp'; omega) w) hp'
    · exact getbad h k p m ⟨rfl, rfl, rfl, rfl, rfl, rfl⟩ (findx k p e0 e1 e2 e3 e4 w) hp'
end Go.Proofs.Ytfahcmiignnnkaa
