/-
  The walks over the models: a new tree of one bit, a model of bytes.
-/
import Derived.Test.YtjfcemlbbinanaaGreatDoorJ24
set_option linter.unusedVariables false
set_option linter.unusedSimpArgs false
namespace Go.Proofs.YtjfcemlbbinanaaGreatDoor
open Go.RowKit Go.Proofs Wv Wv.Vi Wv.Rc Wv.Mo Wv.Lz
set_option linter.unusedVariables false
set_option maxHeartbeats 1000000 in
theorem newtree_any (w : World) :
  Calls Tryz.prog 96 #[.int .i64 1] w fun x w' => x = .returned (.tuple #[.pointer (some ⟨w.heap.size + 1, 0, none⟩), .int .i64 0]) ∧ Bk w' w.heap.size 3 (nc (tr0 1)) ∧ Bk w' (w.heap.size + 1) 131 #[.int .i64 1, .slice (some ⟨w.heap.size, 0, none⟩) 2 2] ∧ Below w.heap.size w w' := by
 have Hp := hide (plant1_any w)
 go_enter Tryz.func96, Tryz.ntmps96
 go_wp2_with fail
 refine (Hp.out).mono ?_
 rintro x w1 ⟨rfl, h1, h2, hb⟩
 have H1 := hide h1
 have H2 := hide h2
 clear h1 h2
 go_wp2
 go_returns
 exact ⟨rfl, H1.out, H2.out, hb⟩
def bcs (g : Nat) (c : UInt8) : Array Value := (trc g 8).push (bv c)
theorem bcs_at (g : Nat) (c : UInt8) {k : Nat} (h : k < 8) : (bcs g c)[2 * k]? = some (.int .i64 8) ∧ (bcs g c)[2 * k + 1]? = some (.slice (some ⟨g, 256 * k, none⟩) 256 256) := by
 rcases (show k = 0 ∨ k = 1 ∨ k = 2 ∨ k = 3 ∨ k = 4 ∨ k = 5 ∨ k = 6 ∨ k = 7 by omega) with rfl | rfl | rfl | rfl | rfl | rfl | rfl | rfl <;> exact ⟨rfl, rfl⟩
theorem bcs_last (g : Nat) (c : UInt8) : (bcs g c)[16]? = some (.int .u8 (c.toNat : Int)) := rfl
theorem bcs_put (g : Nat) (c d : UInt8) : (bcs g c).setIfInBounds 16 (.int .u8 (d.toNat : Int)) = bcs g d := rfl
structure BtA (w : World) (b g : Nat) (ts : List Nat) (c : UInt8) : Prop where
 st : Bk w b 136 (bcs g c)
 nd : Bk w g 3 (nc ts)
theorem BtA.tree {w : World} {b g : Nat} {ts : List Nat} {c : UInt8} (h : BtA w b g ts c) {k : Nat} (hk : k < 8) : TrA w b (2 * k) g (256 * k) 8 ts := by
 obtain ⟨t0, t1⟩ := bcs_at g c hk
 have c0 := h.st.cell (2 * k)
 have c1 := h.st.cell (2 * k + 1)
 rw [t0] at c0
 rw [t1] at c1
 exact ⟨c0, c1, h.nd, Bk.apart h.st h.nd (by decide), h.st.lt⟩
theorem BtA.fr {S : Nat → Prop} {w w' : World} {b g : Nat} {ts : List Nat} {c : UInt8} (h : BtA w b g ts c) (hf : Fr S w w') (h1 : ¬ S b) (h2 : ¬ S g) : BtA w' b g ts c := ⟨h.st.fr hf h1, h.nd.fr hf h2⟩
theorem BtA.below {w w' : World} {b g : Nat} {ts : List Nat} {c : UInt8} (h : BtA w b g ts c) (hb : Below w.heap.size w w') : BtA w' b g ts c := ⟨h.st.below hb h.st.lt, h.nd.below hb h.nd.lt⟩
theorem slap (w : World) (g : Nat) : (Instr.arrayAt 134 (.slice (some ⟨g, 0, none⟩) 8 8)).run Tryz.prog w = .ok (.pointer (some ⟨g, 0, none⟩)) w := by kernel_rfl
theorem fold_trc (g : Nat) : Array.foldl (fun cs x => cs.setIfInBounds x.snd x.fst) (#[.int .i64 0, .slice none 0 0, .int .i64 0, .slice none 0 0, .int .i64 0, .slice none 0 0, .int .i64 0, .slice none 0 0, .int .i64 0, .slice none 0 0, .int .i64 0, .slice none 0 0, .int .i64 0, .slice none 0 0, .int .i64 0, .slice none 0 0, .int .u8 0] : Array Value) (trc g 8).zipIdx 0 16 = bcs g 0 := by kernel_rfl
theorem u8trees : Tryz.prog.underlying 134 = some (.array 8 131) := by kernel_rfl
set_option maxHeartbeats 1000000 in
set_option maxRecDepth 100000 in
theorem newbytes_any (w : World) :
  Calls Tryz.prog 97 #[] w fun x w' => ∃ b, x = .returned (.pointer (some ⟨b, 0, none⟩)) ∧ w.heap.size < b ∧ BtA w' b w.heap.size (List.replicate 2048 1024) 0 ∧ Below w.heap.size w w' := by
 have Hp := hide (plant8_any w)
 go_enter Tryz.func97, Tryz.ntmps97
 go_wp2_with fail
 refine (Hp.out).mono ?_
 rintro x w1 ⟨rfl, h1, h2, hb⟩
 have H1 := hide h1
 have H2 := hide h2
 have hsl := slap w1 (w.heap.size + 1)
 have hbu := fold_trc w.heap.size
 have hs := h2.lt
 have hg : w1.heap[w.heap.size + 1]? = some (.cells (trc w.heap.size 8) 131 (0, 0)) := h2
 obtain ⟨BC, hBC⟩ : ∃ x, bcs w.heap.size 0 = x := ⟨_, rfl⟩
 obtain ⟨TC, hTC⟩ : ∃ x, trc w.heap.size 8 = x := ⟨_, rfl⟩
 rw [hBC, hTC] at hbu
 rw [hTC] at hg
 have hi : (Tryz.prog.info? 134).map (·.size) = some TC.size := by rw [← hTC]; kernel_rfl
 have HBC := hide hBC
 have hz : TC.size = 16 := by rw [← hTC]; rfl
 clear h1 h2 Hp hBC hTC
 go_wp2_with (refine wpList_load_row rfl 134 _ rfl (w.heap.size + 1) rfl 131 TC (0, 0) _ hg u8trees rfl hi ?_)
 go_returns
 exact ⟨_, rfl, by omega, ⟨by rw [HBC.out]; exact Bk.new _ _ _, H1.out.alloc _⟩, hb.alloc hb.size _⟩
end Go.Proofs.YtjfcemlbbinanaaGreatDoor
