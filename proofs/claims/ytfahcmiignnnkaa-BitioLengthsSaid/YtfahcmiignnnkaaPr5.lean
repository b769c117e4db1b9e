/-
  The walks over the bit strings of the program, fifth part: 'find', the further kinds.
-/
import Derived.Test.YtfahcmiignnnkaaPr4
namespace Go.Proofs.Ytfahcmiignnnkaa
open Go.RowKit Go.Proofs Wv

set_option maxHeartbeats 400000 in
theorem find2 (p : Int) (h0 : 0 ≤ p) (h1 : p ≤ 30) (w : World) :
    Calls Try.prog 28 #[.int .i64 2, .int .i64 p] w fun e w' => e = .returned (.tuple #[kv2, .bool true]) ∧ Below w.heap.size w w' := by
  have hk := hide kinds_map
  go_enter Try.func28, Try.ntmps28
  go_wp2_with fail
  refine (hk.out _).mono ?_
  rintro e w1 ⟨rfl, hm, hb⟩
  have hl := map_get_ok (P := Try.prog) Try.underlying78 Try.underlying3 w1 _ kmap 5 2 2 kv2 hm rfl
  unfold kv2 at hl
  rw [World.size_alloc] at hl
  clear hm
  have hs1 := hb.size
  simp at hs1
  have hbb := ((Below.refl w.heap.size w).alloc (Nat.le_refl _) _).trans (hb.mono (by simp))
  have hz := (((Bk.new w 66 #[.int .i64 0, .int .i64 0, .nilFunc, .nilFunc, .nilFunc, .nilFunc]).below hb (by simp)).alloc (.cells kv2.cells 66))
  obtain ⟨hz1, hz2⟩ := six hz
  simp only [kv2, Value.cells] at hz1 hz2
  clear hz hb
  go_wp2
  go_region
  go_wp2
  refine bodyPost_ret (v := .tuple #[kv2, .bool true]) (by simp [results, Try.results28, go_sem, kv2, *]) rfl ⟨rfl, ?_⟩
  go_grown

set_option maxHeartbeats 400000 in
theorem find2lo (p : Int) (h0 : p < 0) (w : World) :
    Calls Try.prog 28 #[.int .i64 2, .int .i64 p] w fun e w' => e = .returned (.tuple #[kv2, .bool false]) ∧ Below w.heap.size w w' := by
  have hk := hide kinds_map
  have hd : decide (0 ≤ p) = false := by simpa using h0
  go_enter Try.func28, Try.ntmps28
  go_wp2_with fail
  refine (hk.out _).mono ?_
  rintro e w1 ⟨rfl, hm, hb⟩
  have hl := map_get_ok (P := Try.prog) Try.underlying78 Try.underlying3 w1 _ kmap 5 2 2 kv2 hm rfl
  unfold kv2 at hl
  rw [World.size_alloc] at hl
  clear hm
  have hs1 := hb.size
  simp at hs1
  have hbb := ((Below.refl w.heap.size w).alloc (Nat.le_refl _) _).trans (hb.mono (by simp))
  have hz := (((Bk.new w 66 #[.int .i64 0, .int .i64 0, .nilFunc, .nilFunc, .nilFunc, .nilFunc]).below hb (by simp)).alloc (.cells kv2.cells 66))
  obtain ⟨hz1, hz2⟩ := six hz
  simp only [kv2, Value.cells] at hz1 hz2
  clear hz hb
  go_wp2
  go_region
  go_wp2
  refine bodyPost_ret (v := .tuple #[kv2, .bool false]) (by simp [results, Try.results28, go_sem, kv2, *]) rfl ⟨rfl, ?_⟩
  go_grown

set_option maxHeartbeats 400000 in
theorem find2hi (p : Int) (h0 : 0 ≤ p) (h1 : 30 < p) (w : World) :
    Calls Try.prog 28 #[.int .i64 2, .int .i64 p] w fun e w' => e = .returned (.tuple #[kv2, .bool false]) ∧ Below w.heap.size w w' := by
  have hk := hide kinds_map
  have hd : decide (p ≤ 30) = false := by simpa using h1
  go_enter Try.func28, Try.ntmps28
  go_wp2_with fail
  refine (hk.out _).mono ?_
  rintro e w1 ⟨rfl, hm, hb⟩
  have hl := map_get_ok (P := Try.prog) Try.underlying78 Try.underlying3 w1 _ kmap 5 2 2 kv2 hm rfl
  unfold kv2 at hl
  rw [World.size_alloc] at hl
  clear hm
  have hs1 := hb.size
  simp at hs1
  have hbb := ((Below.refl w.heap.size w).alloc (Nat.le_refl _) _).trans (hb.mono (by simp))
  have hz := (((Bk.new w 66 #[.int .i64 0, .int .i64 0, .nilFunc, .nilFunc, .nilFunc, .nilFunc]).below hb (by simp)).alloc (.cells kv2.cells 66))
  obtain ⟨hz1, hz2⟩ := six hz
  simp only [kv2, Value.cells] at hz1 hz2
  clear hz hb
  go_wp2
  go_region
  go_wp2
  refine bodyPost_ret (v := .tuple #[kv2, .bool false]) (by simp [results, Try.results28, go_sem, kv2, *]) rfl ⟨rfl, ?_⟩
  go_grown

set_option maxHeartbeats 400000 in
theorem find3 (p : Int) (h0 : 0 ≤ p) (h1 : p ≤ 30) (w : World) :
    Calls Try.prog 28 #[.int .i64 3, .int .i64 p] w fun e w' => e = .returned (.tuple #[kv3, .bool true]) ∧ Below w.heap.size w w' := by
  have hk := hide kinds_map
  go_enter Try.func28, Try.ntmps28
  go_wp2_with fail
  refine (hk.out _).mono ?_
  rintro e w1 ⟨rfl, hm, hb⟩
  have hl := map_get_ok (P := Try.prog) Try.underlying78 Try.underlying3 w1 _ kmap 5 3 3 kv3 hm rfl
  unfold kv3 at hl
  rw [World.size_alloc] at hl
  clear hm
  have hs1 := hb.size
  simp at hs1
  have hbb := ((Below.refl w.heap.size w).alloc (Nat.le_refl _) _).trans (hb.mono (by simp))
  have hz := (((Bk.new w 66 #[.int .i64 0, .int .i64 0, .nilFunc, .nilFunc, .nilFunc, .nilFunc]).below hb (by simp)).alloc (.cells kv3.cells 66))
  obtain ⟨hz1, hz2⟩ := six hz
  simp only [kv3, Value.cells] at hz1 hz2
  clear hz hb
  go_wp2
  go_region
  go_wp2
  refine bodyPost_ret (v := .tuple #[kv3, .bool true]) (by simp [results, Try.results28, go_sem, kv3, *]) rfl ⟨rfl, ?_⟩
  go_grown

set_option maxHeartbeats 400000 in
theorem find3lo (p : Int) (h0 : p < 0) (w : World) :
    Calls Try.prog 28 #[.int .i64 3, .int .i64 p] w fun e w' => e = .returned (.tuple #[kv3, .bool false]) ∧ Below w.heap.size w w' := by
  have hk := hide kinds_map
  have hd : decide (0 ≤ p) = false := by simpa using h0
  go_enter Try.func28, Try.ntmps28
  go_wp2_with fail
  refine (hk.out _).mono ?_
  rintro e w1 ⟨rfl, hm, hb⟩
  have hl := map_get_ok (P := Try.prog) Try.underlying78 Try.underlying3 w1 _ kmap 5 3 3 kv3 hm rfl
  unfold kv3 at hl
  rw [World.size_alloc] at hl
  clear hm
  have hs1 := hb.size
  simp at hs1
  have hbb := ((Below.refl w.heap.size w).alloc (Nat.le_refl _) _).trans (hb.mono (by simp))
  have hz := (((Bk.new w 66 #[.int .i64 0, .int .i64 0, .nilFunc, .nilFunc, .nilFunc, .nilFunc]).below hb (by simp)).alloc (.cells kv3.cells 66))
  obtain ⟨hz1, hz2⟩ := six hz
  simp only [kv3, Value.cells] at hz1 hz2
  clear hz hb
  go_wp2
  go_region
  go_wp2
  refine bodyPost_ret (v := .tuple #[kv3, .bool false]) (by simp [results, Try.results28, go_sem, kv3, *]) rfl ⟨rfl, ?_⟩
  go_grown

set_option maxHeartbeats 400000 in
theorem find3hi (p : Int) (h0 : 0 ≤ p) (h1 : 30 < p) (w : World) :
    Calls Try.prog 28 #[.int .i64 3, .int .i64 p] w fun e w' => e = .returned (.tuple #[kv3, .bool false]) ∧ Below w.heap.size w w' := by
  have hk := hide kinds_map
  have hd : decide (p ≤ 30) = false := by simpa using h1
  go_enter Try.func28, Try.ntmps28
  go_wp2_with fail
  refine (hk.out _).mono ?_
  rintro e w1 ⟨rfl, hm, hb⟩
  have hl := map_get_ok (P := Try.prog) Try.underlying78 Try.underlying3 w1 _ kmap 5 3 3 kv3 hm rfl
  unfold kv3 at hl
  rw [World.size_alloc] at hl
  clear hm
  have hs1 := hb.size
  simp at hs1
  have hbb := ((Below.refl w.heap.size w).alloc (Nat.le_refl _) _).trans (hb.mono (by simp))
  have hz := (((Bk.new w 66 #[.int .i64 0, .int .i64 0, .nilFunc, .nilFunc, .nilFunc, .nilFunc]).below hb (by simp)).alloc (.cells kv3.cells 66))
  obtain ⟨hz1, hz2⟩ := six hz
  simp only [kv3, Value.cells] at hz1 hz2
  clear hz hb
  go_wp2
  go_region
  go_wp2
  refine bodyPost_ret (v := .tuple #[kv3, .bool false]) (by simp [results, Try.results28, go_sem, kv3, *]) rfl ⟨rfl, ?_⟩
  go_grown

set_option maxHeartbeats 400000 in
theorem find4 (p : Int) (h0 : 1 ≤ p) (h1 : p ≤ 4294967296) (w : World) :
    Calls Try.prog 28 #[.int .i64 4, .int .i64 p] w fun e w' => e = .returned (.tuple #[kv4, .bool true]) ∧ Below w.heap.size w w' := by
  have hk := hide kinds_map
  go_enter Try.func28, Try.ntmps28
  go_wp2_with fail
  refine (hk.out _).mono ?_
  rintro e w1 ⟨rfl, hm, hb⟩
  have hl := map_get_ok (P := Try.prog) Try.underlying78 Try.underlying3 w1 _ kmap 5 4 4 kv4 hm rfl
  unfold kv4 at hl
  rw [World.size_alloc] at hl
  clear hm
  have hs1 := hb.size
  simp at hs1
  have hbb := ((Below.refl w.heap.size w).alloc (Nat.le_refl _) _).trans (hb.mono (by simp))
  have hz := (((Bk.new w 66 #[.int .i64 0, .int .i64 0, .nilFunc, .nilFunc, .nilFunc, .nilFunc]).below hb (by simp)).alloc (.cells kv4.cells 66))
  obtain ⟨hz1, hz2⟩ := six hz
  simp only [kv4, Value.cells] at hz1 hz2
  clear hz hb
  go_wp2
  go_region
  go_wp2
  refine bodyPost_ret (v := .tuple #[kv4, .bool true]) (by simp [results, Try.results28, go_sem, kv4, *]) rfl ⟨rfl, ?_⟩
  go_grown

set_option maxHeartbeats 400000 in
theorem find4lo (p : Int) (h0 : p < 1) (w : World) :
    Calls Try.prog 28 #[.int .i64 4, .int .i64 p] w fun e w' => e = .returned (.tuple #[kv4, .bool false]) ∧ Below w.heap.size w w' := by
  have hk := hide kinds_map
  have hd : decide (1 ≤ p) = false := by simpa using h0
  go_enter Try.func28, Try.ntmps28
  go_wp2_with fail
  refine (hk.out _).mono ?_
  rintro e w1 ⟨rfl, hm, hb⟩
  have hl := map_get_ok (P := Try.prog) Try.underlying78 Try.underlying3 w1 _ kmap 5 4 4 kv4 hm rfl
  unfold kv4 at hl
  rw [World.size_alloc] at hl
  clear hm
  have hs1 := hb.size
  simp at hs1
  have hbb := ((Below.refl w.heap.size w).alloc (Nat.le_refl _) _).trans (hb.mono (by simp))
  have hz := (((Bk.new w 66 #[.int .i64 0, .int .i64 0, .nilFunc, .nilFunc, .nilFunc, .nilFunc]).below hb (by simp)).alloc (.cells kv4.cells 66))
  obtain ⟨hz1, hz2⟩ := six hz
  simp only [kv4, Value.cells] at hz1 hz2
  clear hz hb
  go_wp2
  go_region
  go_wp2
  refine bodyPost_ret (v := .tuple #[kv4, .bool false]) (by simp [results, Try.results28, go_sem, kv4, *]) rfl ⟨rfl, ?_⟩
  go_grown

set_option maxHeartbeats 400000 in
theorem find4hi (p : Int) (h0 : 1 ≤ p) (h1 : 4294967296 < p) (w : World) :
    Calls Try.prog 28 #[.int .i64 4, .int .i64 p] w fun e w' => e = .returned (.tuple #[kv4, .bool false]) ∧ Below w.heap.size w w' := by
  have hk := hide kinds_map
  have hd : decide (p ≤ 4294967296) = false := by simpa using h1
  go_enter Try.func28, Try.ntmps28
  go_wp2_with fail
  refine (hk.out _).mono ?_
  rintro e w1 ⟨rfl, hm, hb⟩
  have hl := map_get_ok (P := Try.prog) Try.underlying78 Try.underlying3 w1 _ kmap 5 4 4 kv4 hm rfl
  unfold kv4 at hl
  rw [World.size_alloc] at hl
  clear hm
  have hs1 := hb.size
  simp at hs1
  have hbb := ((Below.refl w.heap.size w).alloc (Nat.le_refl _) _).trans (hb.mono (by simp))
  have hz := (((Bk.new w 66 #[.int .i64 0, .int .i64 0, .nilFunc, .nilFunc, .nilFunc, .nilFunc]).below hb (by simp)).alloc (.cells kv4.cells 66))
  obtain ⟨hz1, hz2⟩ := six hz
  simp only [kv4, Value.cells] at hz1 hz2
  clear hz hb
  go_wp2
  go_region
  go_wp2
  refine bodyPost_ret (v := .tuple #[kv4, .bool false]) (by simp [results, Try.results28, go_sem, kv4, *]) rfl ⟨rfl, ?_⟩
  go_grown

set_option maxHeartbeats 400000 in
theorem findx (k p : Int) (h0 : k ≠ 0) (h1 : k ≠ 1) (h2 : k ≠ 2) (h3 : k ≠ 3) (h4 : k ≠ 4) (w : World) :
    Calls Try.prog 28 #[.int .i64 k, .int .i64 p] w fun e w' => e = .returned (.tuple #[kz, .bool false]) ∧ Below w.heap.size w w' := by
  have hk := hide kinds_map
  go_enter Try.func28, Try.ntmps28
  go_wp2_with fail
  refine (hk.out _).mono ?_
  rintro e w1 ⟨rfl, hm, hb⟩
  have hn : Instr.findNow (.int .i64) (.int .i64 k) kmap.toList 0 = some none := by
    have e0 : (k == 0) = false := by simpa using h0
    have e1 : (k == 1) = false := by simpa using h1
    have e2 : (k == 2) = false := by simpa using h2
    have e3 : (k == 3) = false := by simpa using h3
    have e4 : (k == 4) = false := by simpa using h4
    simp [kmap, Instr.findNow, Instr.sameNow, e0, e1, e2, e3, e4]
  have hl := map_get_no (P := Try.prog) Try.underlying78 Try.underlying3 w1 _ kmap 5 k kz hm (by kernel_rfl) hn
  clear hn
  unfold kz at hl
  rw [World.size_alloc] at hl
  clear hm
  have hs1 := hb.size
  simp at hs1
  have hbb := ((Below.refl w.heap.size w).alloc (Nat.le_refl _) _).trans (hb.mono (by simp))
  have hz := (((Bk.new w 66 #[.int .i64 0, .int .i64 0, .nilFunc, .nilFunc, .nilFunc, .nilFunc]).below hb (by simp)).alloc (.cells kz.cells 66))
  obtain ⟨hz1, hz2⟩ := six hz
  simp only [kz, Value.cells] at hz1 hz2
  clear hz hb
  go_wp2
  go_region
  go_wp2
  refine bodyPost_ret (v := .tuple #[kz, .bool false]) (by simp [results, Try.results28, go_sem, kz, *]) rfl ⟨rfl, ?_⟩
  go_grown

end Go.Proofs.Ytfahcmiignnnkaa
