/-
  The walks over the models: new trees, a new model of bytes.
-/
import Derived.Test.YtjfcemlbbinanaaGreatDoorJ23
import Derived.Test.YtjfcemlbbinanaaGreatDoorJ12
set_option linter.unusedVariables false
set_option linter.unusedSimpArgs false
namespace Go.Proofs.YtjfcemlbbinanaaGreatDoor
open Go.RowKit Go.Proofs Wv Wv.Vi Wv.Rc Wv.Mo Wv.Lz
set_option linter.unusedVariables false
def halfM (M j : Nat) : List Nat := List.replicate j 1024 ++ List.replicate (M - j) 0
theorem halfM_set {M j : Nat} (h : j < M) : (halfM M j).set j 1024 = halfM M (j + 1) := by
 unfold halfM
 rw [List.set_append_right _ _ (by simp), List.length_replicate, Nat.sub_self, show M - j = (M - (j + 1)) + 1 from by omega, List.replicate_succ, List.set_cons_zero, List.replicate_succ', List.append_assoc]
 rfl
theorem halfM_length {M j : Nat} (h : j ≤ M) : (halfM M j).length = M := by simp [halfM]; omega
theorem halfM_all (M : Nat) : halfM M M = List.replicate M 1024 := by simp [halfM]
theorem halfM_none (M : Nat) : nc (halfM M 0) = Array.replicate M (.int .i64 0) := by
 apply Array.toList_inj.1
 simp [nc, halfM]
def trc (g j : Nat) : Array Value := ((List.range 8).flatMap (fun k => if k < j then [Value.int .i64 8, .slice (some ⟨g, 256 * k, none⟩) 256 256] else [.int .i64 0, .slice none 0 0])).toArray
theorem trc_at (g : Nat) {j : Nat} (h : j < 8) : (trc g j)[2 * j]? = some (.int .i64 0) ∧ (trc g j)[2 * j + 1]? = some (.slice none 0 0) ∧ ((trc g j).setIfInBounds (2 * j) (.int .i64 8)).setIfInBounds (2 * j + 1) (.slice (some ⟨g, 256 * j, none⟩) 256 256) = trc g (j + 1) := by
 rcases (show j = 0 ∨ j = 1 ∨ j = 2 ∨ j = 3 ∨ j = 4 ∨ j = 5 ∨ j = 6 ∨ j = 7 by omega) with rfl | rfl | rfl | rfl | rfl | rfl | rfl | rfl <;> exact ⟨rfl, rfl, rfl⟩
set_option maxHeartbeats 1000000 in
theorem plant1_any (w : World) :
  Calls Tryz.prog 123 #[.int .i64 1, .int .i64 1] w fun x w' => x = .returned (.slice (some ⟨w.heap.size + 1, 0, none⟩) 1 1) ∧ Bk w' w.heap.size 3 (nc (tr0 1)) ∧ Bk w' (w.heap.size + 1) 131 #[.int .i64 1, .slice (some ⟨w.heap.size, 0, none⟩) 2 2] ∧ Below w.heap.size w w' := by
 have hmk := mk_row (P := Tryz.prog) 129 3 _ _ Tryz.underlying129 intinf rfl 2 2 rfl (by omega) (by omega) w
 rw [← halfM_none] at hmk
 have hmk2 : ∀ w : World, (Instr.makeSlice 164 (.int .i64 1) (.int .i64 1)).run Tryz.prog w = .ok (.slice (some ⟨w.heap.size, 0, none⟩) 1 1) (w.alloc (.cells #[.int .i64 0, .slice none 0 0] 131)) := fun _ => by kernel_rfl
 go_enter Tryz.func123, Tryz.ntmps123
 go_wp2
 go_loopw [6, 17] (fun _ i wr => ∃ j : Nat, j ≤ 2 ∧ i = .int .i64 j ∧ Bk wr w.heap.size 3 (nc (halfM 2 j)) ∧ Below w.heap.size w wr ∧ wr.heap.size = w.heap.size + 1) (fun _ i _ => (2 - intOf i).toNat)
 case atStart => exact ⟨0, by omega, rfl, Bk.new _ _ _, (Below.refl _ _).alloc (Nat.le_refl _) _, by simp⟩
 case round =>
  obtain ⟨j, hj, rfl, hbk, hf, hsz⟩ := hrel
  by_cases hlt : j < 2
  ·have hc := hbk.cell j
   rw [nc_get _ _ (by rw [halfM_length hj]; exact hlt)] at hc
   have fc := hbk.frozen j
   have hp := hbk.put j (.int .i64 ((1024 : Nat) : Int))
   rw [nc_set, halfM_set hlt] at hp
   have Hp := hide hp
   have Hz := hide hsz
   clear hp hbk hsz hmk
   go_wp2
   go_roundw
   case rel => exact ⟨j + 1, by omega, by go_num, Hp.out, hf.setCell (p := ⟨w.heap.size, j, none⟩) (Nat.le_refl _) _, by simpa using Hz.out⟩
   case measure => simp [intOf] <;> omega
  ·have hj64 : j = 2 := by omega
   subst hj64
   have Hz := hide hsz
   have Hbk := hide hbk
   clear hsz hbk hmk
   go_wp2
   rw [Hz.out]
   have hf2 := hf.alloc hf.size (.cells #[.int .i64 0, .slice none 0 0] 131)
   have hb2 := Hbk.out.alloc (.cells #[.int .i64 0, .slice none 0 0] 131)
   have hb3 : Bk (wr.alloc (.cells #[.int .i64 0, .slice none 0 0] 131)) (w.heap.size + 1) 131 #[.int .i64 0, .slice none 0 0] := Hz.out ▸ Bk.new wr _ _
   go_loopw [8, 9, 10, 28] (fun _ _ _ i wr2 => ∃ j : Nat, j ≤ 1 ∧ i = .int .i64 j ∧ (j = 0 → Bk wr2 (w.heap.size + 1) 131 #[.int .i64 0, .slice none 0 0]) ∧ (j = 1 → Bk wr2 (w.heap.size + 1) 131 #[.int .i64 1, .slice (some ⟨w.heap.size, 0, none⟩) 2 2]) ∧ Bk wr2 w.heap.size 3 (nc (halfM 2 2)) ∧ Below w.heap.size w wr2) (fun _ _ _ i _ => (1 - intOf i).toNat)
   case atStart => exact ⟨0, by omega, rfl, fun _ => hb3, fun h => by omega, hb2, hf2⟩
   case round =>
    clear hf2 hb2 hb3 hf
    obtain ⟨j, hj, rfl, h0, h1, hb, hf⟩ := hrel
    by_cases hlt : j < 1
    ·have hj0 : j = 0 := by omega
     subst hj0
     have hb0 := h0 rfl
     have q0 := hb0.cell 0
     have q1 := hb0.cell 1
     have p0 := hb0.frozen 0
     have p1 := hb0.frozen 1
     simp at q0 q1
     have Hb0 := hide hb0
     clear h0 h1 hb0 hlt
     go_wp2
     go_region
     go_wp2
     go_roundw
     case rel =>
      refine ⟨1, by omega, rfl, fun h => by omega, fun _ => ?_, ?_, ?_⟩
      ·have h9 := (Hb0.out.put 0 (.int .i64 1)).put 1 (.slice (some ⟨w.heap.size, 0, none⟩) 2 2)
       have h8 := h9.drew
       simpa using h8
      ·exact ((hb.off (p := ⟨w.heap.size + 1, 0, none⟩) (by simp) _).off (p := ⟨w.heap.size + 1, 1, none⟩) (by simp) _).drew
      ·exact ((hf.setCell (p := ⟨w.heap.size + 1, 0, none⟩) (by simp) _).setCell (p := ⟨w.heap.size + 1, 1, none⟩) (by simp) _).drew
     case measure => simp [intOf]
    ·have hj1 : j = 1 := by omega
     subst hj1
     have hb1 := hide (h1 rfl)
     clear h0 h1
     go_wp2
     go_ret
     exact ⟨rfl, by rw [show tr0 1 = halfM 2 2 from by decide]; exact hb, hb1.out, hf⟩
set_option maxHeartbeats 4000000 in
set_option maxRecDepth 100000 in
theorem plant8_any (w : World) :
  Calls Tryz.prog 123 #[.int .i64 8, .int .i64 8] w fun x w' => x = .returned (.slice (some ⟨w.heap.size + 1, 0, none⟩) 8 8) ∧ Bk w' w.heap.size 3 (nc (List.replicate 2048 1024)) ∧ Bk w' (w.heap.size + 1) 131 (trc w.heap.size 8) ∧ Below w.heap.size w w' := by
 have hmk := mk_row (P := Tryz.prog) 129 3 _ _ Tryz.underlying129 intinf rfl 2048 2048 rfl (by omega) (by omega) w
 rw [← halfM_none] at hmk
 obtain ⟨TC, hTC⟩ : ∃ T, trc w.heap.size 0 = T := ⟨_, rfl⟩
 have hmk2 : ∀ W : World, (Instr.makeSlice 164 (.int .i64 8) (.int .i64 8)).run Tryz.prog W = .ok (.slice (some ⟨W.heap.size, 0, none⟩) 8 8) (W.alloc (.cells TC 131)) := fun _ => by rw [← hTC]; kernel_rfl
 have HTC := hide hTC
 have hall := hide (halfM_all 2048)
 obtain ⟨HM, hHM⟩ : ∃ f : Nat → List Nat, (fun j => halfM 2048 j) = f := ⟨_, rfl⟩
 have hHMj : ∀ j, halfM 2048 j = HM j := fun j => congrFun hHM j
 have Hset := hide (fun j (h : j < 2048) => (halfM_set h : (halfM 2048 j).set j 1024 = _))
 have Hlen := hide (fun j (h : j ≤ 2048) => (halfM_length h : (halfM 2048 j).length = 2048))
 simp only [hHMj] at Hset Hlen hall hmk
 clear hTC hHM hHMj
 go_enter Tryz.func123, Tryz.ntmps123
 go_wp2
 go_loopw [6, 17] (fun _ i wr => ∃ j : Nat, j ≤ 2048 ∧ i = .int .i64 j ∧ Bk wr w.heap.size 3 (nc (HM j)) ∧ Below w.heap.size w wr ∧ wr.heap.size = w.heap.size + 1) (fun _ i _ => (2048 - intOf i).toNat)
 case atStart => exact ⟨0, by omega, rfl, Bk.new _ _ _, (Below.refl _ _).alloc (Nat.le_refl _) _, by simp⟩
 case round =>
  obtain ⟨j, hj, rfl, hbk, hf, hsz⟩ := hrel
  by_cases hlt : j < 2048
  ·have hc := hbk.cell j
   rw [nc_get _ _ (by rw [Hlen.out j hj]; exact hlt)] at hc
   have fc := hbk.frozen j
   have hp := hbk.put j (.int .i64 ((1024 : Nat) : Int))
   rw [nc_set, Hset.out j hlt] at hp
   have Hp := hide hp
   have Hz := hide hsz
   have hlti : (j : Int) < 2048 := by omega
   clear hp hbk hsz hmk
   go_wp2
   go_roundw
   case rel => exact ⟨j + 1, by omega, by go_num, Hp.out, hf.setCell (p := ⟨w.heap.size, j, none⟩) (Nat.le_refl _) _, by simpa using Hz.out⟩
   case measure => simp [intOf] <;> omega
  ·have hj64 : j = 2048 := by omega
   subst hj64
   have Hz := hide hsz
   have Hbk := hide hbk
   clear hsz hbk hmk
   go_wp2
   rw [Hz.out]
   have hf2 := hf.alloc hf.size (.cells TC 131)
   have hb2 := Hbk.out.alloc (.cells TC 131)
   have hb3 : Bk (wr.alloc (.cells TC 131)) (w.heap.size + 1) 131 (trc w.heap.size 0) := by rw [HTC.out]; exact Hz.out ▸ Bk.new wr _ _
   go_loopw [8, 9, 10, 28] (fun _ _ _ i wr2 => ∃ j : Nat, j ≤ 8 ∧ i = .int .i64 j ∧ Hid (Bk wr2 (w.heap.size + 1) 131 (trc w.heap.size j)) ∧ Hid (Bk wr2 w.heap.size 3 (nc (HM 2048))) ∧ Hid (Below w.heap.size w wr2)) (fun _ _ _ i _ => (8 - intOf i).toNat)
   case atStart => exact ⟨0, by omega, rfl, hide hb3, hide hb2, hide hf2⟩
   case round =>
    clear hf2 hb2 hb3 hf
    obtain ⟨j, hj, rfl, h0, hb, hf⟩ := hrel
    by_cases hlt : j < 8
    ·obtain ⟨t0, t1, t2⟩ := trc_at w.heap.size hlt
     have q0 := h0.out.cell (2 * j)
     have q1 := h0.out.cell (2 * j + 1)
     have p0 := h0.out.frozen (2 * j)
     have p1 := h0.out.frozen (2 * j + 1)
     rw [t0] at q0
     rw [t1] at q1
     have Hp := (h0.out.put (2 * j) (.int .i64 8)).put (2 * j + 1) (.slice (some ⟨w.heap.size, 256 * j, none⟩) 256 256)
     rw [t2] at Hp
     have Hp := hide Hp
     have Hb := hide ((hb.out.off (p := ⟨w.heap.size + 1, 2 * j, none⟩) (by simp) (.int .i64 8)).off (p := ⟨w.heap.size + 1, 2 * j + 1, none⟩) (by simp) (.slice (some ⟨w.heap.size, 256 * j, none⟩) 256 256))
     have Hf := hide ((hf.out.setCell (p := ⟨w.heap.size + 1, 2 * j, none⟩) (by simp) (.int .i64 8)).setCell (p := ⟨w.heap.size + 1, 2 * j + 1, none⟩) (by simp) (.slice (some ⟨w.heap.size, 256 * j, none⟩) 256 256))
     clear t0 t1 t2 h0 hb hf
     rcases (show j = 0 ∨ j = 1 ∨ j = 2 ∨ j = 3 ∨ j = 4 ∨ j = 5 ∨ j = 6 ∨ j = 7 by omega) with rfl | rfl | rfl | rfl | rfl | rfl | rfl | rfl
     all_goals
      clear hlt
      simp only [Nat.reduceMul, Nat.reduceAdd] at q0 q1 p0 p1 Hp Hb Hf
      go_wp2
      go_region
      go_wp2
      go_roundw
      case rel => first | exact ⟨1, by decide, rfl, hide Hp.out.drew, hide Hb.out.drew, hide Hf.out.drew⟩ | exact ⟨2, by decide, rfl, hide Hp.out.drew, hide Hb.out.drew, hide Hf.out.drew⟩ | exact ⟨3, by decide, rfl, hide Hp.out.drew, hide Hb.out.drew, hide Hf.out.drew⟩ | exact ⟨4, by decide, rfl, hide Hp.out.drew, hide Hb.out.drew, hide Hf.out.drew⟩ | exact ⟨5, by decide, rfl, hide Hp.out.drew, hide Hb.out.drew, hide Hf.out.drew⟩ | exact ⟨6, by decide, rfl, hide Hp.out.drew, hide Hb.out.drew, hide Hf.out.drew⟩ | exact ⟨7, by decide, rfl, hide Hp.out.drew, hide Hb.out.drew, hide Hf.out.drew⟩ | exact ⟨8, by decide, rfl, hide Hp.out.drew, hide Hb.out.drew, hide Hf.out.drew⟩
      case measure => simp [intOf]
    ·have hj1 : j = 8 := by omega
     subst hj1
     go_wp2
     go_ret
     exact ⟨rfl, by rw [← hall.out]; exact hb.out, h0.out, hf.out⟩
end Go.Proofs.YtjfcemlbbinanaaGreatDoor
