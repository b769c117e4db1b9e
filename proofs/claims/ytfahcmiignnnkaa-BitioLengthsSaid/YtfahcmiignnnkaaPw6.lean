/-
  The walks over the bit strings of the program: Put at whatever code; a new writer; its length.
-/
import Derived.Test.YtfahcmiignnnkaaPw5
namespace Go.Proofs.Ytfahcmiignnnkaa
open Go.RowKit Go.Proofs Wv Wv.Bit

set_option maxHeartbeats 400000 in
theorem wputbad {b : Nat} {dv : Value} {l : List Bool} {w : World} (hw : WrAt w b dv l) (k p v : Int) {c0 c1 c2 c3 c4 c5 : Value} (o : c0.oneCell' = true ∧ c1.oneCell' = true ∧ c2.oneCell' = true ∧ c3.oneCell' = true ∧ c4.oneCell' = true ∧ c5.oneCell' = true)
    (hfd : ∀ W : World, Calls Try.prog 28 #[.int .i64 k, .int .i64 p] W fun e w' => e = .returned (.tuple #[.agg #[c0, c1, c2, c3, c4, c5], .bool false]) ∧ Below W.heap.size W w') (hp : par k p = false) :
    Calls Try.prog 17 #[.pointer (some ⟨b, 0, none⟩), .agg #[.int .i64 k, .int .i64 p, .int .i64 v]] w fun e w' => e = .returned (.int .i64 ((putm l ⟨k, p, v⟩).2 : Nat)) ∧ ∃ dv', WrAt w' b dv' (putm l ⟨k, p, v⟩).1 ∧ Fr (foot b dv) w w' ∧ OwnNew w dv dv' := by
  have Hf := hide hfd
  have hr := hide (show putm l ⟨k, p, v⟩ = (l, 1) from by rw [putm, Cd.ok]; simp only [vld, hp, Bool.false_and]; rfl)
  have s0 := fun W a m => run_store Try.prog W a c0 m o.1
  have s1 := fun W a m => run_store Try.prog W a c1 m o.2.1
  have s2 := fun W a m => run_store Try.prog W a c2 m o.2.2.1
  have s3 := fun W a m => run_store Try.prog W a c3 m o.2.2.2.1
  have s4 := fun W a m => run_store Try.prog W a c4 m o.2.2.2.2.1
  have s5 := fun W a m => run_store Try.prog W a c5 m o.2.2.2.2.2
  clear hp hfd o
  go_enter Try.func17, Try.ntmps17
  go_wp2_with fail
  refine (Hf.out _).mono ?_
  rintro e w1 ⟨rfl, hb⟩
  have hw1 := (hw.alloc (.cells #[.int .i64 k, .int .i64 p, .int .i64 v] 42)).below hb
  have hf1 := ((Fr.refl (foot b dv) w).alloc (.cells #[.int .i64 k, .int .i64 p, .int .i64 v] 42)).below hb
  go_wp2
  go_ret
  exact ⟨ret_int1 (by rw [hr.out]; rfl), dv, by rw [hr.out]; exact hw1.alloc _, hf1.alloc _, .inl rfl⟩

/-- 'Put' of the program, at whatever code. -/
theorem wput_any {b : Nat} {dv : Value} {l : List Bool} {w : World} (hw : WrAt w b dv l) (hl : l.length ≤ 65536) (k p v : Int) (hv1 : -9223372036854775808 ≤ v) (hv2 : v ≤ 9223372036854775807) :
    Calls Try.prog 17 #[.pointer (some ⟨b, 0, none⟩), .agg #[.int .i64 k, .int .i64 p, .int .i64 v]] w fun e w' => e = .returned (.int .i64 ((putm l ⟨k, p, v⟩).2 : Nat)) ∧ ∃ dv', WrAt w' b dv' (putm l ⟨k, p, v⟩).1 ∧ Fr (foot b dv) w w' ∧ OwnNew w dv dv' := by
  have o : ∀ a b f g i j, (Value.int .i64 a).oneCell' = true ∧ (Value.int .i64 b).oneCell' = true ∧ (Value.func f #[] #[]).oneCell' = true ∧ (Value.func g #[] #[]).oneCell' = true ∧ (Value.func i #[] #[]).oneCell' = true ∧ (Value.func j #[] #[]).oneCell' = true := fun _ _ _ _ _ _ => ⟨rfl, rfl, rfl, rfl, rfl, rfl⟩
  by_cases hp : par k p = true
  · rcases par_cases hp with ⟨rfl, a, b⟩ | ⟨rfl, rfl⟩ | ⟨rfl, a, b⟩ | ⟨rfl, a, b⟩ | ⟨rfl, a, b⟩
    · exact wput0 hw hl p v a b hv1 hv2
    · exact wput1 hw hl v hv1 hv2
    · exact wput2 hw hl p v a b hv1 hv2
    · exact wput3 hw hl p v a b hv1 hv2
    · exact wput4 hw hl p v a b hv1 hv2
  · have hp' : par k p = false := by simpa using hp
    by_cases e0 : k = 0
    · subst e0
      by_cases c : p < 0
      · exact wputbad hw 0 p v (o _ _ _ _ _ _) (find0lo p c) hp'
      · exact wputbad hw 0 p v (o _ _ _ _ _ _) (find0hi p (by omega) (by simp [par] at hp'; omega)) hp'
    by_cases e1 : k = 1
    · subst e1
      by_cases c : p < 0
      · exact wputbad hw 1 p v (o _ _ _ _ _ _) (find1lo p c) hp'
      · exact wputbad hw 1 p v (o _ _ _ _ _ _) (find1hi p (by omega) (by simp [par] at hp'; omega)) hp'
    by_cases e2 : k = 2
    · subst e2
      by_cases c : p < 0
      · exact wputbad hw 2 p v (o _ _ _ _ _ _) (find2lo p c) hp'
      · exact wputbad hw 2 p v (o _ _ _ _ _ _) (find2hi p (by omega) (by simp [par] at hp'; omega)) hp'
    by_cases e3 : k = 3
    · subst e3
      by_cases c : p < 0
      · exact wputbad hw 3 p v (o _ _ _ _ _ _) (find3lo p c) hp'
      · exact wputbad hw 3 p v (o _ _ _ _ _ _) (find3hi p (by omega) (by simp [par] at hp'; omega)) hp'
    by_cases e4 : k = 4
    · subst e4
      by_cases c : p < 1
      · exact wputbad hw 4 p v (o _ _ _ _ _ _) (find4lo p c) hp'
      · exact wputbad hw 4 p v (o _ _ _ _ _ _) (find4hi p (by omega) (by simp [par] at hp'; omega)) hp'
    · exact wputbad hw k p v ⟨rfl, rfl, rfl, rfl, rfl, rfl⟩ (findx k p e0 e1 e2 e3 e4) hp'

set_option maxHeartbeats 400000 in
theorem newwriter_any (w : World) :
    Calls Try.prog 16 #[] w fun e w' => e = .returned (.pointer (some ⟨w.heap.size, 0, none⟩)) ∧ WrAt w' w.heap.size (.slice none 0 0) [] ∧ Below w.heap.size w w' := by
  go_enter Try.func16, Try.ntmps16
  go_wp2
  go_ret
  exact ⟨rfl, ⟨Bk.new _ _ _, World.ownsRow_nil _ _ _ _⟩, (Below.refl _ _).alloc (Nat.le_refl _) _⟩

set_option maxHeartbeats 400000 in
theorem wlen_any {b : Nat} {dv : Value} {l : List Bool} {w : World} (hw : WrAt w b dv l) :
    Calls Try.prog 18 #[.pointer (some ⟨b, 0, none⟩)] w fun e w' => e = .returned (.int .i64 (l.length : Nat)) ∧ w = w' := by
  have g1 := hw.1.cell 1
  simp at g1
  go_enter Try.func18, Try.ntmps18
  go_wp2
  go_ret
  exact ⟨rfl, rfl⟩
end Go.Proofs.Ytfahcmiignnnkaa
