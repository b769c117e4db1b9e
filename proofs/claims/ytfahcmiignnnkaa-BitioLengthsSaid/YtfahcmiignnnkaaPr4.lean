/-
  The walks over the bit strings of the program, fourth part: 'find'.
-/
import Derived.Test.YtfahcmiignnnkaaPr3
import Derived.Laws.EntriesVeiled
import Derived.Handy
namespace Go.Proofs.Ytfahcmiignnnkaa
open Go.RowKit Go.Proofs Wv

def kvOf (k : Int) : Value := if k = 0 then kv0 else if k = 1 then kv1 else if k = 2 then kv2 else if k = 3 then kv3 else kv4

theorem six {W : World} {g : Nat} {t : TypeId} {c0 c1 c2 c3 c4 c5 : Value} (h : Bk W g t #[c0, c1, c2, c3, c4, c5]) :
    (W.cell? ⟨g, 0, none⟩ = some c0 ∧ W.cell? ⟨g, 1, none⟩ = some c1 ∧ W.cell? ⟨g, 2, none⟩ = some c2 ∧ W.cell? ⟨g, 3, none⟩ = some c3 ∧ W.cell? ⟨g, 4, none⟩ = some c4 ∧ W.cell? ⟨g, 5, none⟩ = some c5) ∧
    (W.frozen? ⟨g, 0, none⟩ = false ∧ W.frozen? ⟨g, 1, none⟩ = false ∧ W.frozen? ⟨g, 2, none⟩ = false ∧ W.frozen? ⟨g, 3, none⟩ = false ∧ W.frozen? ⟨g, 4, none⟩ = false ∧ W.frozen? ⟨g, 5, none⟩ = false) :=
  ⟨⟨h.cell 0, h.cell 1, h.cell 2, h.cell 3, h.cell 4, h.cell 5⟩, h.frozen 0, h.frozen 1, h.frozen 2, h.frozen 3, h.frozen 4, h.frozen 5⟩
theorem kinds_map (w : World) :
    Calls Try.prog 36 #[] w fun e w' => e = .returned (.map (some w.heap.size)) ∧ w'.heap[w.heap.size]? = some (.map kmap 5) ∧ Below w.heap.size w w' := by
  refine (kinds_any w).mono ?_
  rintro e w' ⟨rfl, rfl⟩
  exact ⟨rfl, heap_alloc_new w _, (Below.refl _ _).alloc (Nat.le_refl _) _⟩

set_option maxHeartbeats 400000 in
theorem find0 (p : Int) (h0 : 0 ≤ p) (h1 : p ≤ 62) (w : World) :
    Calls Try.prog 28 #[.int .i64 0, .int .i64 p] w fun e w' => e = .returned (.tuple #[kv0, .bool true]) ∧ Below w.heap.size w w' := by
  have hk := hide kinds_map
  go_enter Try.func28, Try.ntmps28
  go_wp2_with fail
  refine (hk.out _).mono ?_
  rintro e w1 ⟨rfl, hm, hb⟩
  have hl := map_get_ok (P := Try.prog) Try.underlying78 Try.underlying3 w1 _ kmap 5 0 0 kv0 hm rfl
  unfold kv0 at hl
  rw [World.size_alloc] at hl
  clear hm
  have hs1 := hb.size
  simp at hs1
  have hbb := ((Below.refl w.heap.size w).alloc (Nat.le_refl _) _).trans (hb.mono (by simp))
  have hz := (((Bk.new w 66 #[.int .i64 0, .int .i64 0, .nilFunc, .nilFunc, .nilFunc, .nilFunc]).below hb (by simp)).alloc (.cells kv0.cells 66))
  obtain ⟨hz1, hz2⟩ := six hz
  simp only [kv0, Value.cells] at hz1 hz2
  clear hz hb
  go_wp2
  go_region
  go_wp2
  refine bodyPost_ret (v := .tuple #[kv0, .bool true]) (by simp [results, Try.results28, go_sem, kv0, *]) rfl ⟨rfl, ?_⟩
  go_grown

set_option maxHeartbeats 400000 in
theorem find0lo (p : Int) (h0 : p < 0) (w : World) :
    Calls Try.prog 28 #[.int .i64 0, .int .i64 p] w fun e w' => e = .returned (.tuple #[kv0, .bool false]) ∧ Below w.heap.size w w' := by
  have hk := hide kinds_map
  have hd : decide (0 ≤ p) = false := by simpa using h0
  go_enter Try.func28, Try.ntmps28
  go_wp2_with fail
  refine (hk.out _).mono ?_
  rintro e w1 ⟨rfl, hm, hb⟩
  have hl := map_get_ok (P := Try.prog) Try.underlying78 Try.underlying3 w1 _ kmap 5 0 0 kv0 hm rfl
  unfold kv0 at hl
  rw [World.size_alloc] at hl
  clear hm
  have hs1 := hb.size
  simp at hs1
  have hbb := ((Below.refl w.heap.size w).alloc (Nat.le_refl _) _).trans (hb.mono (by simp))
  have hz := (((Bk.new w 66 #[.int .i64 0, .int .i64 0, .nilFunc, .nilFunc, .nilFunc, .nilFunc]).below hb (by simp)).alloc (.cells kv0.cells 66))
  obtain ⟨hz1, hz2⟩ := six hz
  simp only [kv0, Value.cells] at hz1 hz2
  clear hz hb
  go_wp2
  go_region
  go_wp2
  refine bodyPost_ret (v := .tuple #[kv0, .bool false]) (by simp [results, Try.results28, go_sem, kv0, *]) rfl ⟨rfl, ?_⟩
  go_grown

set_option maxHeartbeats 400000 in
theorem find0hi (p : Int) (h0 : 0 ≤ p) (h1 : 62 < p) (w : World) :
    Calls Try.prog 28 #[.int .i64 0, .int .i64 p] w fun e w' => e = .returned (.tuple #[kv0, .bool false]) ∧ Below w.heap.size w w' := by
  have hk := hide kinds_map
  have hd : decide (p ≤ 62) = false := by simpa using h1
  go_enter Try.func28, Try.ntmps28
  go_wp2_with fail
  refine (hk.out _).mono ?_
  rintro e w1 ⟨rfl, hm, hb⟩
  have hl := map_get_ok (P := Try.prog) Try.underlying78 Try.underlying3 w1 _ kmap 5 0 0 kv0 hm rfl
  unfold kv0 at hl
  rw [World.size_alloc] at hl
  clear hm
  have hs1 := hb.size
  simp at hs1
  have hbb := ((Below.refl w.heap.size w).alloc (Nat.le_refl _) _).trans (hb.mono (by simp))
  have hz := (((Bk.new w 66 #[.int .i64 0, .int .i64 0, .nilFunc, .nilFunc, .nilFunc, .nilFunc]).below hb (by simp)).alloc (.cells kv0.cells 66))
  obtain ⟨hz1, hz2⟩ := six hz
  simp only [kv0, Value.cells] at hz1 hz2
  clear hz hb
  go_wp2
  go_region
  go_wp2
  refine bodyPost_ret (v := .tuple #[kv0, .bool false]) (by simp [results, Try.results28, go_sem, kv0, *]) rfl ⟨rfl, ?_⟩
  go_grown

set_option maxHeartbeats 400000 in
theorem find1 (p : Int) (h0 : 0 ≤ p) (h1 : p ≤ 0) (w : World) :
    Calls Try.prog 28 #[.int .i64 1, .int .i64 p] w fun e w' => e = .returned (.tuple #[kv1, .bool true]) ∧ Below w.heap.size w w' := by
  have hk := hide kinds_map
  go_enter Try.func28, Try.ntmps28
  go_wp2_with fail
  refine (hk.out _).mono ?_
  rintro e w1 ⟨rfl, hm, hb⟩
  have hl := map_get_ok (P := Try.prog) Try.underlying78 Try.underlying3 w1 _ kmap 5 1 1 kv1 hm rfl
  unfold kv1 at hl
  rw [World.size_alloc] at hl
  clear hm
  have hs1 := hb.size
  simp at hs1
  have hbb := ((Below.refl w.heap.size w).alloc (Nat.le_refl _) _).trans (hb.mono (by simp))
  have hz := (((Bk.new w 66 #[.int .i64 0, .int .i64 0, .nilFunc, .nilFunc, .nilFunc, .nilFunc]).below hb (by simp)).alloc (.cells kv1.cells 66))
  obtain ⟨hz1, hz2⟩ := six hz
  simp only [kv1, Value.cells] at hz1 hz2
  clear hz hb
  go_wp2
  go_region
  go_wp2
  refine bodyPost_ret (v := .tuple #[kv1, .bool true]) (by simp [results, Try.results28, go_sem, kv1, *]) rfl ⟨rfl, ?_⟩
  go_grown

set_option maxHeartbeats 400000 in
theorem find1lo (p : Int) (h0 : p < 0) (w : World) :
    Calls Try.prog 28 #[.int .i64 1, .int .i64 p] w fun e w' => e = .returned (.tuple #[kv1, .bool false]) ∧ Below w.heap.size w w' := by
  have hk := hide kinds_map
  have hd : decide (0 ≤ p) = false := by simpa using h0
  go_enter Try.func28, Try.ntmps28
  go_wp2_with fail
  refine (hk.out _).mono ?_
  rintro e w1 ⟨rfl, hm, hb⟩
  have hl := map_get_ok (P := Try.prog) Try.underlying78 Try.underlying3 w1 _ kmap 5 1 1 kv1 hm rfl
  unfold kv1 at hl
  rw [World.size_alloc] at hl
  clear hm
  have hs1 := hb.size
  simp at hs1
  have hbb := ((Below.refl w.heap.size w).alloc (Nat.le_refl _) _).trans (hb.mono (by simp))
  have hz := (((Bk.new w 66 #[.int .i64 0, .int .i64 0, .nilFunc, .nilFunc, .nilFunc, .nilFunc]).below hb (by simp)).alloc (.cells kv1.cells 66))
  obtain ⟨hz1, hz2⟩ := six hz
  simp only [kv1, Value.cells] at hz1 hz2
  clear hz hb
  go_wp2
  go_region
  go_wp2
  refine bodyPost_ret (v := .tuple #[kv1, .bool false]) (by simp [results, Try.results28, go_sem, kv1, *]) rfl ⟨rfl, ?_⟩
  go_grown

set_option maxHeartbeats 400000 in
theorem find1hi (p : Int) (h0 : 0 ≤ p) (h1 : 0 < p) (w : World) :
    Calls Try.prog 28 #[.int .i64 1, .int .i64 p] w fun e w' => e = .returned (.tuple #[kv1, .bool false]) ∧ Below w.heap.size w w' := by
  have hk := hide kinds_map
  have hd : decide (p ≤ 0) = false := by simpa using h1
  go_enter Try.func28, Try.ntmps28
  go_wp2_with fail
  refine (hk.out _).mono ?_
  rintro e w1 ⟨rfl, hm, hb⟩
  have hl := map_get_ok (P := Try.prog) Try.underlying78 Try.underlying3 w1 _ kmap 5 1 1 kv1 hm rfl
  unfold kv1 at hl
  rw [World.size_alloc] at hl
  clear hm
  have hs1 := hb.size
  simp at hs1
  have hbb := ((Below.refl w.heap.size w).alloc (Nat.le_refl _) _).trans (hb.mono (by simp))
  have hz := (((Bk.new w 66 #[.int .i64 0, .int .i64 0, .nilFunc, .nilFunc, .nilFunc, .nilFunc]).below hb (by simp)).alloc (.cells kv1.cells 66))
  obtain ⟨hz1, hz2⟩ := six hz
  simp only [kv1, Value.cells] at hz1 hz2
  clear hz hb
  go_wp2
  go_region
  go_wp2
  refine bodyPost_ret (v := .tuple #[kv1, .bool false]) (by simp [results, Try.results28, go_sem, kv1, *]) rfl ⟨rfl, ?_⟩
  go_grown

end Go.Proofs.Ytfahcmiignnnkaa
