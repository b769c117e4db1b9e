/-
  Joined texts: Md, BioPr2, BioPr6, BioPr7, BioPr8.
-/
import Derived.Test.YtoeeblldgoccoaaGreatL13
import Derived.Test.YtoeeblldgoccoaaGreatL18
import Derived.Test.YtoeeblldgoccoaaGreatLShelf
set_option linter.unusedVariables false
set_option linter.unusedSimpArgs false
set_option maxRecDepth 100000
set_option maxHeartbeats 8000000
namespace Go.Proofs.YtoeeblldgoccoaaGreat
open Go.RowKit Go.Proofs Wv Wv.Vi Wv.Rc Wv.Mo
theorem intinf : (Tryz.prog.info? 3).map (fun i => (i.zero, i.size, i.bytes)) = some (some (.int .i64 0), 1, 8) := by kernel_rfl
def half (j : Nat) : List Nat := List.replicate j 1024 ++ List.replicate (64 - j) 0
theorem half_set (j : Nat) (h : j < 64) : (half j).set j 1024 = half (j + 1) := by
 unfold half;rw [List.set_append_right _ _ (by simp), List.length_replicate, Nat.sub_self, show 64 - j = (64 - (j + 1)) + 1 from by omega, List.replicate_succ, List.set_cons_zero, List.replicate_succ', List.append_assoc];rfl
theorem half_length (j : Nat) (h : j ≤ 64) : (half j).length = 64 := by simp [half]; omega
theorem half_all : half 64 = t0 := by decide
theorem half_none : nc (half 0) = Array.replicate 64 (.int .i64 0) := by
 apply Array.toList_inj.1
 simp [nc, half]
theorem plant_any (w : World) :
  Calls Tryz.prog 166 #[.int .i64 1, .int .i64 6] w fun x w' => x = .returned (.slice (some ⟨w.heap.size + 1, 0, none⟩) 1 1) ∧ Bk w' w.heap.size 3 (nc t0) ∧ Bk w' (w.heap.size + 1) 194 #[.int .i64 6, .slice (some ⟨w.heap.size, 0, none⟩) 64 64] ∧ Below w.heap.size w w' := by
 have hmk := mk_row (P := Tryz.prog) 85 3 _ _ Tryz.underlying85 intinf rfl 64 64 rfl (by omega) (by omega) w;rw [← half_none] at hmk
 have hmk2 : ∀ w : World, (Instr.makeSlice 195 (.int .i64 1) (.int .i64 1)).run Tryz.prog w = .ok (.slice (some ⟨w.heap.size, 0, none⟩) 1 1) (w.alloc (.cells #[.int .i64 0, .slice none 0 0] 194)) := fun _ => by kernel_rfl
 go_enter Tryz.func166, Tryz.ntmps166
 go_wp2
 go_loopw [6, 17] (fun _ i wr => ∃ j : Nat, j ≤ 64 ∧ i = .int .i64 j ∧ Bk wr w.heap.size 3 (nc (half j)) ∧ Below w.heap.size w wr ∧ wr.heap.size = w.heap.size + 1) (fun _ i _ => (64 - intOf i).toNat)
 case atStart => exact ⟨0, by omega, rfl, Bk.new _ _ _, (Below.refl _ _).alloc (Nat.le_refl _) _, by simp⟩
 case round =>
  obtain ⟨j, hj, rfl, hbk, hf, hsz⟩ := hrel
  by_cases hlt : j < 64
  ·have hc := hbk.cell j
   rw [nc_get _ _ (by rw [half_length j hj]; exact hlt)] at hc;have fc := hbk.frozen j;have hp := hbk.put j (.int .i64 ((1024 : Nat) : Int));rw [nc_set, half_set j hlt] at hp;have Hp := hide hp;have Hz := hide hsz;clear hp hbk hsz hmk
   go_wp2
   go_roundw
   case rel => exact ⟨j + 1, by omega, by go_num, Hp.out, hf.setCell (p := ⟨w.heap.size, j, none⟩) (Nat.le_refl _) _, by simpa using Hz.out⟩
   case measure => simp [intOf] <;> omega
  ·have hj64 : j = 64 := by omega
   subst hj64;have Hz := hide hsz;have Hbk := hide hbk;clear hsz hbk hmk
   go_wp2
   rw [Hz.out];have hf2 := hf.alloc hf.size (.cells #[.int .i64 0, .slice none 0 0] 194);have hb2 := Hbk.out.alloc (.cells #[.int .i64 0, .slice none 0 0] 194);have hb3 : Bk (wr.alloc (.cells #[.int .i64 0, .slice none 0 0] 194)) (w.heap.size + 1) 194 #[.int .i64 0, .slice none 0 0] := Hz.out ▸ Bk.new wr _ _
   go_loopw [8, 9, 10, 28] (fun _ _ _ i wr2 => ∃ j : Nat, j ≤ 1 ∧ i = .int .i64 j ∧ (j = 0 → Bk wr2 (w.heap.size + 1) 194 #[.int .i64 0, .slice none 0 0]) ∧ (j = 1 → Bk wr2 (w.heap.size + 1) 194 #[.int .i64 6, .slice (some ⟨w.heap.size, 0, none⟩) 64 64]) ∧ Bk wr2 w.heap.size 3 (nc (half 64)) ∧ Below w.heap.size w wr2) (fun _ _ _ i _ => (1 - intOf i).toNat)
   case atStart => exact ⟨0, by omega, rfl, fun _ => hb3, fun h => by omega, hb2, hf2⟩
   case round =>
    clear hf2 hb2 hb3 hf;obtain ⟨j, hj, rfl, h0, h1, hb, hf⟩ := hrel
    by_cases hlt : j < 1
    ·have hj0 : j = 0 := by omega
     subst hj0;have hb0 := h0 rfl;have q0 := hb0.cell 0;have q1 := hb0.cell 1;have p0 := hb0.frozen 0;have p1 := hb0.frozen 1
     simp at q0 q1
     have Hb0 := hide hb0;clear h0 h1 hb0 hlt
     go_wp2
     go_region
     go_wp2
     go_roundw
     case rel =>
      refine ⟨1, by omega, rfl, fun h => by omega, fun _ => ?_, ?_, ?_⟩
      ·have h9 := (Hb0.out.put 0 (.int .i64 6)).put 1 (.slice (some ⟨w.heap.size, 0, none⟩) 64 64)
       have h8 := h9.drew
       simpa using h8
      ·exact ((hb.off (p := ⟨w.heap.size + 1, 0, none⟩) (by simp) _).off (p := ⟨w.heap.size + 1, 1, none⟩) (by simp) _).drew
      ·exact ((hf.setCell (p := ⟨w.heap.size + 1, 0, none⟩) (by simp) _).setCell (p := ⟨w.heap.size + 1, 1, none⟩) (by simp) _).drew
     case measure => simp [intOf]
    ·have hj1 : j = 1 := by omega
     subst hj1;have hb1 := hide (h1 rfl);clear h0 h1
     go_wp2
     go_ret
     exact ⟨rfl, by rw [← half_all]; exact hb, hb1.out, hf⟩
theorem nnew_any (w : World) :
  Calls Tryz.prog 144 #[] w fun x w' => ∃ b, x = .returned (.pointer (some ⟨b, 0, none⟩)) ∧ w.heap.size ≤ b ∧ NAt w' b w.heap.size t0 ∧ Below w.heap.size w w' := by
 have Hp := hide (plant_any w)
 go_enter Tryz.func144, Tryz.ntmps144
 go_wp2_with fail
 refine (Hp.out).mono ?_;rintro x w1 ⟨rfl, h0, h1, hb⟩;have q0 := h1.cell 0;have q1 := h1.cell 1
 simp at q0 q1
 have hs := hb.size;have H0 := hide h0;clear h0 h1
 go_wp2
 go_ret
 exact ⟨w1.heap.size, rfl, hs, ⟨Bk.new _ _ _, H0.out.alloc _⟩, hb.alloc hs _⟩
end Go.Proofs.YtoeeblldgoccoaaGreat
namespace Go.Proofs.YtoeeblldgoccoaaGreat.Bio
open Go.RowKit Go.Proofs Wv Wv.Bit
theorem ret_int2 {j k : IntKind} {a b a' b' : Int} (h : a = a') (h2 : b = b') : Ending.returned (.tuple #[.int j a, .int k b]) = .returned (.tuple #[.int j a', .int k b']) := by rw [h, h2]
theorem ret_int1 {k : IntKind} {a b : Int} (h : a = b) : Ending.returned (.int k a) = .returned (.int k b) := by rw [h]
theorem kread0 {b x n : Nat} {s : ByteArray} {w : World} (h : RdAt w b s x n) (p : Int) (h0 : 0 ≤ p) (h1 : p ≤ 62) :
  Calls Tryz.prog 189 #[.pointer (some ⟨b, 0, none⟩), .int .i64 p] w fun e w' => ∃ (v : Int) (er y : Nat), e = .returned (.tuple #[.int .i64 v, .int .i64 er]) ∧ RdAt w' b s y n ∧ Fr (only b) w w' ∧ RdRes 0 p.toNat ((rbits s n).drop x) x v er y := by
 have hx := h.2.1
 have hlen : ((rbits s n).drop x).length = n - x := by rw [List.length_drop, rbits_length]
 have hrd : rd 0 p.toNat ((rbits s n).drop x) = if n - x < p.toNat then (0, 0, 12) else (val (((rbits s n).drop x).take p.toNat), p.toNat, 0) := by rw [← hlen]; rfl
 by_cases hc : n - x < p.toNat
 ·rw [if_pos hc] at hrd
  have H := hide (take_no h p (by omega));have Hr := hide (show ∀ v y, RdRes 0 p.toNat ((rbits s n).drop x) x v 12 y from fun v y => ⟨fun _ => by rw [hrd], fun h => by rw [hrd] at h; simp at h, fun h => by rw [hrd] at h; simp at h⟩);clear hrd
  go_enter Tryz.func189, Tryz.ntmps189
  go_wp2_with (go_at_call 190; refine (H.out).mono ?_; rintro e w1 ⟨rfl, q, rfl⟩)
  go_ret2
  exact ⟨_, 12, x, rfl, h, (Fr.refl _ _).drewN _, Hr.out _ _⟩
 ·rw [if_neg hc] at hrd
  have Ht := take_yes h p.toNat (by omega) (by omega);rw [Int.toNat_of_nonneg h0] at Ht;have H := hide Ht
  have Hr := hide (show RdRes 0 p.toNat ((rbits s n).drop x) x (val (((rbits s n).drop x).take p.toNat) : Nat) 0 (x + p.toNat) from ⟨fun h => by rw [hrd] at h; simp at h, fun _ _ => by rw [hrd]; exact ⟨rfl, rfl, rfl⟩, fun _ h => by
   have := val_take_lt62 ((rbits s n).drop x) p.toNat (by omega)
   rw [hrd] at h; simp only at h; omega⟩)
  clear hrd Ht
  go_enter Tryz.func189, Tryz.ntmps189
  go_wp2_with (go_at_call 190; refine (H.out).mono ?_; rintro e w1 ⟨rfl, hr1, hf1⟩)
  go_ret2
  exact ⟨_, 0, _, rfl, hr1, hf1, Hr.out⟩
end Go.Proofs.YtoeeblldgoccoaaGreat.Bio
