/-
  The walks over the bit strings of the program: Size.
-/
import Derived.Test.YtfahcmiignnnkaaPw6
namespace Go.Proofs.Ytfahcmiignnnkaa
open Go.RowKit Go.Proofs Wv Wv.Bit

/-- How many bits a code has. -/
def csz (k p v : Int) : Nat := if vld k p v then (cbits k.toNat p.toNat v.toNat).length else 0

set_option maxHeartbeats 1000000 in
theorem psize0 (p : Int) (v : Int) (h0 : 0 ≤ p) (h1 : p ≤ 62) (hv1 : -9223372036854775808 ≤ v) (hv2 : v ≤ 9223372036854775807) (w : World) :
    Calls Try.prog 22 #[.agg #[.int .i64 0, .int .i64 p, .int .i64 v]] w fun e w' => e = .returned (.int .i64 (csz 0 p v : Nat)) ∧ Below w.heap.size w w' := by
  have hfd := find0 p h0 h1 (w.alloc (.cells #[.int .i64 0, .int .i64 p, .int .i64 v] 42))
  unfold kv0 at hfd
  have Hf := hide hfd
  have Hv := hide (kvalid0 p v h0 h1 hv1 hv2)
  clear hfd
  by_cases hvl : vld 0 p v = true
  · have Hs := hide (fun w => ksize0 p v hvl w)
    have Hp := hide (show csz 0 p v = (cbits 0 (p : Int).toNat v.toNat).length from by rw [csz, if_pos hvl]; rfl)
    rw [hvl] at Hv
    clear hvl
    go_enter Try.func22, Try.ntmps22
    go_wp2_with fail
    refine (Hf.out).mono ?_
    rintro e w1 ⟨rfl, hb⟩
    have hc1 := bcell hb
    have hs := hb.size
    have hz : w.heap.size < w1.heap.size := Nat.lt_of_lt_of_le (by simp) hs
    simp at hs
    have hf1 := (((Below.refl w.heap.size w).alloc (Nat.le_refl _) (.cells #[.int .i64 0, .int .i64 p, .int .i64 v] 42)).trans (hb.mono (by simp)))
    go_wp2_with fail
    refine (Hv.out _).mono ?_
    rintro e w2 ⟨rfl, q, rfl⟩
    go_wp2_with fail
    refine (Hs.out _).mono ?_
    rintro e w3 ⟨rfl, q3, rfl⟩
    go_wp2
    go_ret
    exact ⟨ret_int1 (by rw [Hp.out]; try rfl), bdN (hf1.alloc hf1.size _) _⟩
  · have hvf : vld 0 p v = false := by simpa using hvl
    have Hp := hide (show csz 0 p v = 0 from by rw [csz, if_neg hvl])
    rw [hvf] at Hv
    clear hvl hvf
    go_enter Try.func22, Try.ntmps22
    go_wp2_with fail
    refine (Hf.out).mono ?_
    rintro e w1 ⟨rfl, hb⟩
    have hc1 := bcell hb
    have hs := hb.size
    have hz : w.heap.size < w1.heap.size := Nat.lt_of_lt_of_le (by simp) hs
    simp at hs
    have hf1 := (((Below.refl w.heap.size w).alloc (Nat.le_refl _) (.cells #[.int .i64 0, .int .i64 p, .int .i64 v] 42)).trans (hb.mono (by simp)))
    go_wp2_with fail
    refine (Hv.out _).mono ?_
    rintro e w2 ⟨rfl, q, rfl⟩
    go_wp2
    go_ret
    exact ⟨ret_int1 (by rw [Hp.out]; rfl), bdN (hf1.alloc hf1.size _) _⟩

set_option maxHeartbeats 1000000 in
theorem psize1 (v : Int)  (hv1 : -9223372036854775808 ≤ v) (hv2 : v ≤ 9223372036854775807) (w : World) :
    Calls Try.prog 22 #[.agg #[.int .i64 1, .int .i64 0, .int .i64 v]] w fun e w' => e = .returned (.int .i64 (csz 1 0 v : Nat)) ∧ Below w.heap.size w w' := by
  have hfd := find1 0 (by omega) (by omega) (w.alloc (.cells #[.int .i64 1, .int .i64 0, .int .i64 v] 42))
  unfold kv1 at hfd
  have Hf := hide hfd
  have Hv := hide (kvalid1 v  hv1 hv2)
  clear hfd
  by_cases hvl : vld 1 0 v = true
  · have Hs := hide (fun w => ksize1 0 v hvl w)
    have Hp := hide (show csz 1 0 v = (cbits 1 (0 : Int).toNat v.toNat).length from by rw [csz, if_pos hvl]; rfl)
    rw [hvl] at Hv
    clear hvl
    go_enter Try.func22, Try.ntmps22
    go_wp2_with fail
    refine (Hf.out).mono ?_
    rintro e w1 ⟨rfl, hb⟩
    have hc1 := bcell hb
    have hs := hb.size
    have hz : w.heap.size < w1.heap.size := Nat.lt_of_lt_of_le (by simp) hs
    simp at hs
    have hf1 := (((Below.refl w.heap.size w).alloc (Nat.le_refl _) (.cells #[.int .i64 1, .int .i64 0, .int .i64 v] 42)).trans (hb.mono (by simp)))
    go_wp2_with fail
    refine (Hv.out _).mono ?_
    rintro e w2 ⟨rfl, q, rfl⟩
    go_wp2_with fail
    refine (Hs.out _).mono ?_
    rintro e w3 ⟨rfl, q3, rfl⟩
    go_wp2
    go_ret
    exact ⟨ret_int1 (by rw [Hp.out]; try rfl), bdN (hf1.alloc hf1.size _) _⟩
  · have hvf : vld 1 0 v = false := by simpa using hvl
    have Hp := hide (show csz 1 0 v = 0 from by rw [csz, if_neg hvl])
    rw [hvf] at Hv
    clear hvl hvf
    go_enter Try.func22, Try.ntmps22
    go_wp2_with fail
    refine (Hf.out).mono ?_
    rintro e w1 ⟨rfl, hb⟩
    have hc1 := bcell hb
    have hs := hb.size
    have hz : w.heap.size < w1.heap.size := Nat.lt_of_lt_of_le (by simp) hs
    simp at hs
    have hf1 := (((Below.refl w.heap.size w).alloc (Nat.le_refl _) (.cells #[.int .i64 1, .int .i64 0, .int .i64 v] 42)).trans (hb.mono (by simp)))
    go_wp2_with fail
    refine (Hv.out _).mono ?_
    rintro e w2 ⟨rfl, q, rfl⟩
    go_wp2
    go_ret
    exact ⟨ret_int1 (by rw [Hp.out]; rfl), bdN (hf1.alloc hf1.size _) _⟩

set_option maxHeartbeats 1000000 in
theorem psize2 (p : Int) (v : Int) (h0 : 0 ≤ p) (h1 : p ≤ 30) (hv1 : -9223372036854775808 ≤ v) (hv2 : v ≤ 9223372036854775807) (w : World) :
    Calls Try.prog 22 #[.agg #[.int .i64 2, .int .i64 p, .int .i64 v]] w fun e w' => e = .returned (.int .i64 (csz 2 p v : Nat)) ∧ Below w.heap.size w w' := by
  have hfd := find2 p h0 h1 (w.alloc (.cells #[.int .i64 2, .int .i64 p, .int .i64 v] 42))
  unfold kv2 at hfd
  have Hf := hide hfd
  have Hv := hide (kvalid2 p v h0 h1 hv1 hv2)
  clear hfd
  by_cases hvl : vld 2 p v = true
  · have Hs := hide (fun w => ksize2 p v hvl w)
    have Hp := hide (show csz 2 p v = (cbits 2 (p : Int).toNat v.toNat).length from by rw [csz, if_pos hvl]; rfl)
    rw [hvl] at Hv
    clear hvl
    go_enter Try.func22, Try.ntmps22
    go_wp2_with fail
    refine (Hf.out).mono ?_
    rintro e w1 ⟨rfl, hb⟩
    have hc1 := bcell hb
    have hs := hb.size
    have hz : w.heap.size < w1.heap.size := Nat.lt_of_lt_of_le (by simp) hs
    simp at hs
    have hf1 := (((Below.refl w.heap.size w).alloc (Nat.le_refl _) (.cells #[.int .i64 2, .int .i64 p, .int .i64 v] 42)).trans (hb.mono (by simp)))
    go_wp2_with fail
    refine (Hv.out _).mono ?_
    rintro e w2 ⟨rfl, q, rfl⟩
    go_wp2_with fail
    refine (Hs.out _).mono ?_
    rintro e w3 ⟨rfl, q3, rfl⟩
    go_wp2
    go_ret
    exact ⟨ret_int1 (by rw [Hp.out]; try rfl), bdN (hf1.alloc hf1.size _) _⟩
  · have hvf : vld 2 p v = false := by simpa using hvl
    have Hp := hide (show csz 2 p v = 0 from by rw [csz, if_neg hvl])
    rw [hvf] at Hv
    clear hvl hvf
    go_enter Try.func22, Try.ntmps22
    go_wp2_with fail
    refine (Hf.out).mono ?_
    rintro e w1 ⟨rfl, hb⟩
    have hc1 := bcell hb
    have hs := hb.size
    have hz : w.heap.size < w1.heap.size := Nat.lt_of_lt_of_le (by simp) hs
    simp at hs
    have hf1 := (((Below.refl w.heap.size w).alloc (Nat.le_refl _) (.cells #[.int .i64 2, .int .i64 p, .int .i64 v] 42)).trans (hb.mono (by simp)))
    go_wp2_with fail
    refine (Hv.out _).mono ?_
    rintro e w2 ⟨rfl, q, rfl⟩
    go_wp2
    go_ret
    exact ⟨ret_int1 (by rw [Hp.out]; rfl), bdN (hf1.alloc hf1.size _) _⟩

set_option maxHeartbeats 1000000 in
theorem psize3 (p : Int) (v : Int) (h0 : 0 ≤ p) (h1 : p ≤ 30) (hv1 : -9223372036854775808 ≤ v) (hv2 : v ≤ 9223372036854775807) (w : World) :
    Calls Try.prog 22 #[.agg #[.int .i64 3, .int .i64 p, .int .i64 v]] w fun e w' => e = .returned (.int .i64 (csz 3 p v : Nat)) ∧ Below w.heap.size w w' := by
  have hfd := find3 p h0 h1 (w.alloc (.cells #[.int .i64 3, .int .i64 p, .int .i64 v] 42))
  unfold kv3 at hfd
  have Hf := hide hfd
  have Hv := hide (kvalid3 p v h0 h1 hv1 hv2)
  clear hfd
  by_cases hvl : vld 3 p v = true
  · have Hs := hide (fun w => ksize3 p v hvl w)
    have Hp := hide (show csz 3 p v = (cbits 3 (p : Int).toNat v.toNat).length from by rw [csz, if_pos hvl]; rfl)
    rw [hvl] at Hv
    clear hvl
    go_enter Try.func22, Try.ntmps22
    go_wp2_with fail
    refine (Hf.out).mono ?_
    rintro e w1 ⟨rfl, hb⟩
    have hc1 := bcell hb
    have hs := hb.size
    have hz : w.heap.size < w1.heap.size := Nat.lt_of_lt_of_le (by simp) hs
    simp at hs
    have hf1 := (((Below.refl w.heap.size w).alloc (Nat.le_refl _) (.cells #[.int .i64 3, .int .i64 p, .int .i64 v] 42)).trans (hb.mono (by simp)))
    go_wp2_with fail
    refine (Hv.out _).mono ?_
    rintro e w2 ⟨rfl, q, rfl⟩
    go_wp2_with fail
    refine (Hs.out _).mono ?_
    rintro e w3 ⟨rfl, q3, rfl⟩
    go_wp2
    go_ret
    exact ⟨ret_int1 (by rw [Hp.out]; try rfl), bdN (hf1.alloc hf1.size _) _⟩
  · have hvf : vld 3 p v = false := by simpa using hvl
    have Hp := hide (show csz 3 p v = 0 from by rw [csz, if_neg hvl])
    rw [hvf] at Hv
    clear hvl hvf
    go_enter Try.func22, Try.ntmps22
    go_wp2_with fail
    refine (Hf.out).mono ?_
    rintro e w1 ⟨rfl, hb⟩
    have hc1 := bcell hb
    have hs := hb.size
    have hz : w.heap.size < w1.heap.size := Nat.lt_of_lt_of_le (by simp) hs
    simp at hs
    have hf1 := (((Below.refl w.heap.size w).alloc (Nat.le_refl _) (.cells #[.int .i64 3, .int .i64 p, .int .i64 v] 42)).trans (hb.mono (by simp)))
    go_wp2_with fail
    refine (Hv.out _).mono ?_
    rintro e w2 ⟨rfl, q, rfl⟩
    go_wp2
    go_ret
    exact ⟨ret_int1 (by rw [Hp.out]; rfl), bdN (hf1.alloc hf1.size _) _⟩

set_option maxHeartbeats 1000000 in
theorem psize4 (p : Int) (v : Int) (h0 : 1 ≤ p) (h1 : p ≤ 4294967296) (hv1 : -9223372036854775808 ≤ v) (hv2 : v ≤ 9223372036854775807) (w : World) :
    Calls Try.prog 22 #[.agg #[.int .i64 4, .int .i64 p, .int .i64 v]] w fun e w' => e = .returned (.int .i64 (csz 4 p v : Nat)) ∧ Below w.heap.size w w' := by
  have hfd := find4 p h0 h1 (w.alloc (.cells #[.int .i64 4, .int .i64 p, .int .i64 v] 42))
  unfold kv4 at hfd
  have Hf := hide hfd
  have Hv := hide (kvalid4 p v h0 h1 hv1 hv2)
  clear hfd
  by_cases hvl : vld 4 p v = true
  · have Hs := hide (fun w => ksize4 p v hvl w)
    have Hp := hide (show csz 4 p v = (cbits 4 (p : Int).toNat v.toNat).length from by rw [csz, if_pos hvl]; rfl)
    rw [hvl] at Hv
    clear hvl
    go_enter Try.func22, Try.ntmps22
    go_wp2_with fail
    refine (Hf.out).mono ?_
    rintro e w1 ⟨rfl, hb⟩
    have hc1 := bcell hb
    have hs := hb.size
    have hz : w.heap.size < w1.heap.size := Nat.lt_of_lt_of_le (by simp) hs
    simp at hs
    have hf1 := (((Below.refl w.heap.size w).alloc (Nat.le_refl _) (.cells #[.int .i64 4, .int .i64 p, .int .i64 v] 42)).trans (hb.mono (by simp)))
    go_wp2_with fail
    refine (Hv.out _).mono ?_
    rintro e w2 ⟨rfl, q, rfl⟩
    go_wp2_with fail
    refine (Hs.out _).mono ?_
    rintro e w3 ⟨rfl, q3, rfl⟩
    go_wp2
    go_ret
    exact ⟨ret_int1 (by rw [Hp.out]; try rfl), bdN (hf1.alloc hf1.size _) _⟩
  · have hvf : vld 4 p v = false := by simpa using hvl
    have Hp := hide (show csz 4 p v = 0 from by rw [csz, if_neg hvl])
    rw [hvf] at Hv
    clear hvl hvf
    go_enter Try.func22, Try.ntmps22
    go_wp2_with fail
    refine (Hf.out).mono ?_
    rintro e w1 ⟨rfl, hb⟩
    have hc1 := bcell hb
    have hs := hb.size
    have hz : w.heap.size < w1.heap.size := Nat.lt_of_lt_of_le (by simp) hs
    simp at hs
    have hf1 := (((Below.refl w.heap.size w).alloc (Nat.le_refl _) (.cells #[.int .i64 4, .int .i64 p, .int .i64 v] 42)).trans (hb.mono (by simp)))
    go_wp2_with fail
    refine (Hv.out _).mono ?_
    rintro e w2 ⟨rfl, q, rfl⟩
    go_wp2
    go_ret
    exact ⟨ret_int1 (by rw [Hp.out]; rfl), bdN (hf1.alloc hf1.size _) _⟩

set_option maxHeartbeats 400000 in
theorem psizebad {w : World} (k p v : Int) {c0 c1 c2 c3 c4 c5 : Value} (o : c0.oneCell' = true ∧ c1.oneCell' = true ∧ c2.oneCell' = true ∧ c3.oneCell' = true ∧ c4.oneCell' = true ∧ c5.oneCell' = true)
    (hfd : ∀ W : World, Calls Try.prog 28 #[.int .i64 k, .int .i64 p] W fun e w' => e = .returned (.tuple #[.agg #[c0, c1, c2, c3, c4, c5], .bool false]) ∧ Below W.heap.size W w') (hp : par k p = false) :
    Calls Try.prog 22 #[.agg #[.int .i64 k, .int .i64 p, .int .i64 v]] w fun e w' => e = .returned (.int .i64 (csz k p v : Nat)) ∧ Below w.heap.size w w' := by
  have Hf := hide hfd
  have hr := hide (show csz k p v = 0 from by rw [csz, vld, hp]; rfl)
  have s0 := fun W a m => run_store Try.prog W a c0 m o.1
  have s1 := fun W a m => run_store Try.prog W a c1 m o.2.1
  have s2 := fun W a m => run_store Try.prog W a c2 m o.2.2.1
  have s3 := fun W a m => run_store Try.prog W a c3 m o.2.2.2.1
  have s4 := fun W a m => run_store Try.prog W a c4 m o.2.2.2.2.1
  have s5 := fun W a m => run_store Try.prog W a c5 m o.2.2.2.2.2
  clear hp hfd o
  go_enter Try.func22, Try.ntmps22
  go_wp2_with fail
  refine (Hf.out _).mono ?_
  rintro e w1 ⟨rfl, hb⟩
  have hf1 := (((Below.refl w.heap.size w).alloc (Nat.le_refl _) (.cells #[.int .i64 k, .int .i64 p, .int .i64 v] 42)).trans (hb.mono (by simp)))
  go_wp2
  go_ret
  exact ⟨ret_int1 (by rw [hr.out]; rfl), hf1.alloc hf1.size _⟩

theorem psize_any (k p v : Int) (hv1 : -9223372036854775808 ≤ v) (hv2 : v ≤ 9223372036854775807) (w : World) :
    Calls Try.prog 22 #[.agg #[.int .i64 k, .int .i64 p, .int .i64 v]] w fun e w' => e = .returned (.int .i64 (csz k p v : Nat)) ∧ Below w.heap.size w w' := by
  have o : ∀ a b f g i j, (Value.int .i64 a).oneCell' = true ∧ (Value.int .i64 b).oneCell' = true ∧ (Value.func f #[] #[]).oneCell' = true ∧ (Value.func g #[] #[]).oneCell' = true ∧ (Value.func i #[] #[]).oneCell' = true ∧ (Value.func j #[] #[]).oneCell' = true := fun _ _ _ _ _ _ => ⟨rfl, rfl, rfl, rfl, rfl, rfl⟩
  by_cases hp : par k p = true
  · rcases par_cases hp with ⟨rfl, a, b⟩ | ⟨rfl, rfl⟩ | ⟨rfl, a, b⟩ | ⟨rfl, a, b⟩ | ⟨rfl, a, b⟩
    · exact psize0 p v a b hv1 hv2 w
    · exact psize1 v hv1 hv2 w
    · exact psize2 p v a b hv1 hv2 w
    · exact psize3 p v a b hv1 hv2 w
    · exact psize4 p v a b hv1 hv2 w
  · have hp' : par k p = false := by simpa using hp
    by_cases e0 : k = 0
    · subst e0
      by_cases c : p < 0
      · exact psizebad 0 p v (o _ _ _ _ _ _) (find0lo p c) hp'
      · exact psizebad 0 p v (o _ _ _ _ _ _) (find0hi p (by omega) (by simp [par] at hp'; omega)) hp'
    by_cases e1 : k = 1
    · subst e1
      by_cases c : p < 0
      · exact psizebad 1 p v (o _ _ _ _ _ _) (find1lo p c) hp'
      · exact psizebad 1 p v (o _ _ _ _ _ _) (find1hi p (by omega) (by simp [par] at hp'; omega)) hp'
    by_cases e2 : k = 2
    · subst e2
      by_cases c : p < 0
      · exact psizebad 2 p v (o _ _ _ _ _ _) (find2lo p c) hp'
      · exact psizebad 2 p v (o _ _ _ _ _ _) (find2hi p (by omega) (by simp [par] at hp'; omega)) hp'
    by_cases e3 : k = 3
    · subst e3
      by_cases c : p < 0
      · exact psizebad 3 p v (o _ _ _ _ _ _) (find3lo p c) hp'
      · exact psizebad 3 p v (o _ _ _ _ _ _) (find3hi p (by omega) (by simp [par] at hp'; omega)) hp'
    by_cases e4 : k = 4
    · subst e4
      by_cases c : p < 1
      · exact psizebad 4 p v (o _ _ _ _ _ _) (find4lo p c) hp'
      · exact psizebad 4 p v (o _ _ _ _ _ _) (find4hi p (by omega) (by simp [par] at hp'; omega)) hp'
    exact psizebad k p v ⟨rfl, rfl, rfl, rfl, rfl, rfl⟩ (findx k p e0 e1 e2 e3 e4) hp'
end Go.Proofs.Ytfahcmiignnnkaa
