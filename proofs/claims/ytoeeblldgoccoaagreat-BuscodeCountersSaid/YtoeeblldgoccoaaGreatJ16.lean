/-
  Joined texts: BioPw5, BioPw6, BioPw7.
-/
import Derived.Test.YtoeeblldgoccoaaGreatJ15
set_option linter.unusedVariables false
set_option linter.unusedSimpArgs false
namespace Go.Proofs.YtoeeblldgoccoaaGreat.Bio
set_option maxRecDepth 100000
open Go.RowKit Go.Proofs Wv Wv.Bit

end Go.Proofs.YtoeeblldgoccoaaGreat.Bio
/-
  The walks over the bit strings of the program: Put at whatever code; a new writer; its length.
-/
namespace Go.Proofs.YtoeeblldgoccoaaGreat.Bio
set_option maxRecDepth 100000
open Go.RowKit Go.Proofs Wv Wv.Bit

set_option maxHeartbeats 400000 in
theorem newwriter_any (w : World) :
  Calls Tryz.prog 98 #[] w fun e w' => e = .returned (.pointer (some ⟨w.heap.size, 0, none⟩)) ∧ WrAt w' w.heap.size (.slice none 0 0) [] ∧ Below w.heap.size w w' := by
 go_enter Tryz.func98, Tryz.ntmps98
 go_wp2
 go_ret
 exact ⟨rfl, ⟨Bk.new _ _ _, World.ownsRow_nil _ _ _ _⟩, (Below.refl _ _).alloc (Nat.le_refl _) _⟩

end Go.Proofs.YtoeeblldgoccoaaGreat.Bio
/-
  The walks over the bit strings of the program: Bytes.
-/
namespace Go.Proofs.YtoeeblldgoccoaaGreat.Bio
set_option maxRecDepth 100000
open Go.RowKit Go.Proofs Wv Wv.Bit

theorem bytes_of (l : List UInt8) : ∀ y ∈ l.map bv, y.oneCell' = true := by
 intro y hy
 obtain ⟨b, _, rfl⟩ := List.mem_map.1 hy
 rfl

set_option maxHeartbeats 1000000 in
theorem wbytes_any {b : Nat} {dv : Value} {l : List Bool} {w : World} (hw : WrAt w b dv l) (hl : l.length ≤ 65536) :
  Calls Tryz.prog 101 #[.pointer (some ⟨b, 0, none⟩)] w fun e w' => e = .returned (.string ⟨(pack (l ++ [true])).toArray⟩) ∧ Below w.heap.size w w' := by
 have hpl := pack_length l
 have hm0 : (w.alloc (.cells #[] 5)).ownsRow w.heap.size 5 1 (.slice (some ⟨w.heap.size, 0, none⟩) 0 0) 0 [] := World.ownsRow_made w #[] 0 (Nat.le_refl _) (by unfold maxLen; omega) rfl
 have hsrc : (w.alloc (.cells #[] 5)).drew.ownsRow 0 5 1 dv (pack l).length ((pack l).map bv) := hw.2.alloc _
 have hm1 : (w.alloc (.cells #[] 5)).drew.ownsRow w.heap.size 5 1 (.slice (some ⟨w.heap.size, 0, none⟩) 0 0) 0 [] := hm0
 obtain ⟨v', w1, hrun, hown1, hg1, hat⟩ := run_app (P := Tryz.prog) 42 42 5 _ _ Tryz.underlying42 u8inf rfl hm1 hsrc (bytes_of _) (by unfold maxLen; omega) (by omega) (by simp)
 have hf1 : Below w.heap.size w w1 := (((Below.refl _ _).alloc (Nat.le_refl _) (.cells #[] 5)).drew).grown hg1 (by simp) (fun k hk => by simp [Value.ownBlock] at hk; omega)
 have hw1 : WrAt w1 b dv l := hw.below hf1
 have q0 := hw.1.cell 0
 have q1 := hw.1.cell 1
 have hbl := hw.1.lt
 have p1 := hw1.1.cell 1
 simp at q0 q1 p1
 simp only [Nat.zero_add, List.nil_append] at hown1
 obtain ⟨A, M, cap, rfl⟩ := own_slice hown1
 have Hown1 := hide hown1
 have Hf1 := hide hf1
 clear hsrc hm0 hm1 hown1 hat hg1 hf1
 go_enter Tryz.func101, Tryz.ntmps101
 go_wp2
 have Hrun := hide hrun
 clear hrun
 go_region_law (refine step_run (by rfl) _ _ _ (by rfl) _ _ (by rfl) (by rfl) Hrun.out ?_)
 all_goals
  have hb0 : WrAt (w1.alloc (.cells #[.slice A M cap, .int .i64 (l.length : Int)] 160)) w1.heap.size (.slice A M cap) l := ⟨Bk.new _ _ _, (own_base Hown1.out (Nat.zero_le _)).alloc _⟩
  have Hp := hide (put_any hb0 1 1 (by omega) (by omega) (by omega) (by omega) (by simp; omega))
  go_wp2_with fail
  refine (Hp.out).mono ?_
  rintro e w2 ⟨rfl, d2, hw2, hf2, ho2⟩
  rw [show num (Int.toNat 1) (Int.toNat 1) = [true] from rfl] at hw2
  obtain ⟨g, cap2, rfl, hcap2⟩ := own_form hw2.2 (by rw [pack_length, List.length_append, List.length_singleton]; omega)
  have hcv := conv_own (P := Tryz.prog) 42 9 5 Tryz.underlying42 Tryz.underlying5 Tryz.underlying9 hw2.2
  have r0 := hw2.1.cell 0
  simp at r0
  have hbb : Below w.heap.size w w2 := by
   have h1 : Below w.heap.size w (w1.alloc (.cells #[.slice A M cap, .int .i64 (l.length : Int)] 160)) := Hf1.out.alloc Hf1.out.size _
   have h2 := hf2.toBelow' (B := w.heap.size) (Nat.le_trans Hf1.out.size (by simp)) (fun k hk hs => by
    rcases hs with hs | hs
    ·have := Hf1.out.size; omega
    ·have := (Hown1.out.lt k hs).1; omega)
   exact h1.trans h2
  clear hw2 hf2 ho2
  go_wp2
  go_ret
  exact ⟨rfl, hbb⟩
end Go.Proofs.YtoeeblldgoccoaaGreat.Bio
