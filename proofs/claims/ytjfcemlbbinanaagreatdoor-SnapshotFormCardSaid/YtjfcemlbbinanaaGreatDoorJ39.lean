/-
  The walks over frames: a frame is read.
-/
import Derived.Test.YtjfcemlbbinanaaGreatDoorJ37
set_option linter.unusedVariables false
set_option linter.unusedSimpArgs false
namespace Go.Proofs.YtjfcemlbbinanaaGreatDoor
open Go.RowKit Go.Proofs Wv Wv.Vi Wv.Rc Wv.Mo Wv.Ru Wv.Lz Wv.Fm
set_option linter.unusedVariables false
def paV (data : List UInt8) : Value := match fparse data with
 | none => .tuple #[.agg #[.int .i64 0, .string ⟨#[]⟩], .int .i64 0, .bool false, .bool false]
 | some (k, c, n) => .tuple #[frV k c, .int .i64 (n : Int), .bool (decide (16 ≤ (data.getD 1 0).toNat)), .bool true]
theorem paV_no {data : List UInt8} (h : fparse data = none) : paV data = .tuple #[.agg #[.int .i64 0, .string ⟨#[]⟩], .int .i64 0, .bool false, .bool false] := by unfold paV; rw [h]
theorem paV_yes {data c : List UInt8} {k n : Nat} (h : fparse data = some (k, c, n)) : paV data = .tuple #[frV k c, .int .i64 (n : Int), .bool (decide (16 ≤ (data.getD 1 0).toNat)), .bool true] := by unfold paV; rw [h]
set_option maxRecDepth 100000 in
theorem none1_any (w : World) :
  Calls Tryz.prog 64 #[] w fun x w' => x = .returned (.tuple #[.agg #[.int .i64 0, .string ⟨#[]⟩], .int .i64 0, .bool false, .bool false]) ∧ Below w.heap.size w w' := by
 have h0 := hide (Bk.new w 50 #[.int .i64 0, .string ⟨#[]⟩])
 have hb := hide ((Below.refl w.heap.size w).alloc (Nat.le_refl _) (.cells #[.int .i64 0, .string ⟨#[]⟩] 50))
 have z0 := h0.out.cell 0
 have z1 := h0.out.cell 1
 simp at z0 z1
 go_enter Tryz.func64, Tryz.ntmps64
 go_wp2_with ((with_reducible show bodyPost _ _ _ _ _ _); refine bodyPost_ret (v := .tuple #[.agg #[.int .i64 0, .string ⟨#[]⟩], .int .i64 0, .bool false, .bool false]) (by simp [results, Tryz.results64, go_sem, z0, z1]; try rfl) rfl ?_; exact ⟨rfl, hb.out⟩)
theorem res_fr {w W : World} (hb : Below (w.alloc (.cells #[.int .i64 0, .string ⟨#[]⟩] 50)).heap.size (w.alloc (.cells #[.int .i64 0, .string ⟨#[]⟩] 50)) W) (v0 v1 : Value) :
  (W.cell? ⟨w.heap.size, 0, none⟩ = some (.int .i64 0) ∧ W.cell? ⟨w.heap.size, 1, none⟩ = some (.string ⟨#[]⟩) ∧ W.frozen? ⟨w.heap.size, 0, none⟩ = false ∧ W.frozen? ⟨w.heap.size, 1, none⟩ = false) ∧
  (((W.setCell ⟨w.heap.size, 0, none⟩ v0).setCell ⟨w.heap.size, 1, none⟩ v1).cell? ⟨w.heap.size, 0, none⟩ = some v0 ∧ ((W.setCell ⟨w.heap.size, 0, none⟩ v0).setCell ⟨w.heap.size, 1, none⟩ v1).cell? ⟨w.heap.size, 1, none⟩ = some v1) ∧
  Below w.heap.size w ((W.setCell ⟨w.heap.size, 0, none⟩ v0).setCell ⟨w.heap.size, 1, none⟩ v1) := by
 have h0 := (Bk.new w 50 #[.int .i64 0, .string ⟨#[]⟩]).below hb (by simp)
 have h2 := (h0.put 0 v0).put 1 v1
 have hB := ((Below.refl w.heap.size w).alloc (Nat.le_refl _) (.cells #[.int .i64 0, .string ⟨#[]⟩] 50)).trans (hb.mono (by simp))
 exact ⟨⟨h0.cell 0, h0.cell 1, h0.frozen 0, h0.frozen 1⟩, ⟨h2.cell 0, h2.cell 1⟩, (hB.setCell (p := ⟨w.heap.size, 0, none⟩) (Nat.le_refl _) v0).setCell (p := ⟨w.heap.size, 1, none⟩) (Nat.le_refl _) v1⟩
theorem res_fr1 {w W : World} (hb : Below (w.heap.size + 1) (w.alloc (.cells #[.int .i64 0, .string ⟨#[]⟩] 50)) W) (v0 v1 : Value) :
  (W.cell? ⟨w.heap.size, 0, none⟩ = some (.int .i64 0) ∧ W.cell? ⟨w.heap.size, 1, none⟩ = some (.string ⟨#[]⟩) ∧ W.frozen? ⟨w.heap.size, 0, none⟩ = false ∧ W.frozen? ⟨w.heap.size, 1, none⟩ = false) ∧
  (((W.setCell ⟨w.heap.size, 0, none⟩ v0).setCell ⟨w.heap.size, 1, none⟩ v1).cell? ⟨w.heap.size, 0, none⟩ = some v0 ∧ ((W.setCell ⟨w.heap.size, 0, none⟩ v0).setCell ⟨w.heap.size, 1, none⟩ v1).cell? ⟨w.heap.size, 1, none⟩ = some v1) ∧
  Below w.heap.size w ((W.setCell ⟨w.heap.size, 0, none⟩ v0).setCell ⟨w.heap.size, 1, none⟩ v1) := res_fr (by rw [World.size_alloc]; exact hb) v0 v1
theorem vnew1 (S : ByteArray) (w : World) (o : Obj) :
  Calls Tryz.prog 31 #[.string S] (w.alloc o) fun e w' => e = .returned (.pointer (some ⟨w.heap.size + 1, 0, none⟩)) ∧ RV w' (w.heap.size + 1) S 0 ∧ Below (w.heap.size + 1) (w.alloc o) w' ∧ w.heap.size + 1 ≤ w'.heap.size := by
 have h := vnew_any S (w.alloc o)
 rw [World.size_alloc] at h
 refine h.mono ?_
 rintro e w' ⟨h1, h2, h3⟩
 exact ⟨h1, h2, h3, by have := h3.size; simpa using this⟩
theorem bel_only {B b : Nat} {w w1 w2 : World} (h : Below B w w1) (hs : B ≤ w1.heap.size) (hb : B ≤ b) (k : Fr (only b) w1 w2) : Below B w w2 :=
 h.trans (k.toBelow' hs (fun j hj e => by have : j = b := e; omega))
set_option maxRecDepth 100000 in
set_option maxHeartbeats 4000000 in
theorem parse_head (data : List UInt8) (hd : data.length ≤ 1000000000) (h : data.length < 2 ∨ (2 ≤ data.length ∧ (data.getD 0 0).toNat ≠ 165) ∨ (2 ≤ data.length ∧ (data.getD 0 0).toNat = 165 ∧ 32 ≤ (data.getD 1 0).toNat)) (w : World) :
  Calls Tryz.prog 39 #[.string (bs data)] w fun x w' => x = .returned (.tuple #[.agg #[.int .i64 0, .string ⟨#[]⟩], .int .i64 0, .bool false, .bool false]) ∧ Below w.heap.size w w' := by
 have Hno := hide (fun W => none1_any W)
 have Hres := hide (fun W hb => res_fr (w := w) (W := W) hb (.int .i64 0) (.string ⟨#[]⟩))
 have hsz : (bs data).size = data.length := bs_size data
 have Hg := hide (bs_getN data)
 have hsm : (bs data).size ≤ 1000000000 := by omega
 have hcase : ((bs data).size : Int) < 2 ∨ (¬ ((bs data).size : Int) < 2 ∧ ∃ (h0 : 0 < (bs data).size) (h1 : 1 < (bs data).size), (((((bs data)[0]'h0).toNat : Int) != 165) = true ∨ ((((((bs data)[0]'h0).toNat : Int) != 165) = false) ∧ (32 : Int) ≤ (((bs data)[1]'h1).toNat : Int)))) := by
  rcases h with h | ⟨h1, h2⟩ | ⟨h1, h2, h3⟩
  ·exact .inl (by omega)
  ·refine .inr ⟨by omega, by omega, by omega, .inl ?_⟩
   rw [Hg.out 0 (by omega) (by omega), bne_iff_ne]
   omega
  ·refine .inr ⟨by omega, by omega, by omega, .inr ⟨?_, ?_⟩⟩
   ·rw [Hg.out 0 (by omega) (by omega), h2]; rfl
   ·rw [Hg.out 1 (by omega) (by omega)]; omega
 generalize bs data = S at *
 clear hsz Hg hd h
 rcases hcase with hc | ⟨hc, h0, h1, hc2⟩
 ·go_enter Tryz.func39, Tryz.ntmps39
  go_wp2_with fail
  refine (Hno.out _).mono ?_
  rintro x wn ⟨rfl, hbn⟩
  obtain ⟨⟨c0, c1, f0, f1⟩, ⟨z0, z1⟩, hB⟩ := Hres.out _ hbn
  have HB := hide hB
  clear hbn hB Hres Hno
  go_wp2_with ((with_reducible show bodyPost _ _ _ _ _ _); refine bodyPost_ret (v := .tuple #[.agg #[.int .i64 0, .string ⟨#[]⟩], .int .i64 0, .bool false, .bool false]) (by simp [results, Tryz.results39, go_sem, z0, z1]; try rfl) rfl ?_; exact ⟨rfl, HB.out⟩)
 ·rcases hc2 with hc2 | ⟨hc2, hc3⟩
  ·go_enter Tryz.func39, Tryz.ntmps39
   go_wp2_with fail
   refine (Hno.out _).mono ?_
   rintro x wn ⟨rfl, hbn⟩
   obtain ⟨⟨c0, c1, f0, f1⟩, ⟨z0, z1⟩, hB⟩ := Hres.out _ hbn
   have HB := hide hB
   clear hbn hB Hres Hno
   go_wp2_with ((with_reducible show bodyPost _ _ _ _ _ _); refine bodyPost_ret (v := .tuple #[.agg #[.int .i64 0, .string ⟨#[]⟩], .int .i64 0, .bool false, .bool false]) (by simp [results, Tryz.results39, go_sem, z0, z1]; try rfl) rfl ?_; exact ⟨rfl, HB.out⟩)
  ·go_enter Tryz.func39, Tryz.ntmps39
   go_wp2_with fail
   refine (Hno.out _).mono ?_
   rintro x wn ⟨rfl, hbn⟩
   obtain ⟨⟨c0, c1, f0, f1⟩, ⟨z0, z1⟩, hB⟩ := Hres.out _ hbn
   have HB := hide hB
   clear hbn hB Hres Hno
   go_wp2_with ((with_reducible show bodyPost _ _ _ _ _ _); refine bodyPost_ret (v := .tuple #[.agg #[.int .i64 0, .string ⟨#[]⟩], .int .i64 0, .bool false, .bool false]) (by simp [results, Tryz.results39, go_sem, z0, z1]; try rfl) rfl ?_; exact ⟨rfl, HB.out⟩)
end Go.Proofs.YtjfcemlbbinanaaGreatDoor
