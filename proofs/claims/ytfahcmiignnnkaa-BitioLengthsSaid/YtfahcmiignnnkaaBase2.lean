/-
  Rows of memory that a call owns: a store into one, stores elsewhere.
-/
import Derived.Test.YtfahcmiignnnkaaBase
namespace Wv
open Go Go.RowKit
theorem own_put {w : World} {base g n cap : Nat} {e : TypeId} {xs : List Value} (h : w.ownsRow base e 1 (.slice (some ⟨g, 0, none⟩) n cap) n xs) (i : Nat) (hi : i < n) (u : Value) :
    (w.setCell ⟨g, i, none⟩ u).ownsRow base e 1 (.slice (some ⟨g, 0, none⟩) n cap) n (xs.set i u) := by
  refine ⟨by rw [List.length_set]; exact h.1, ?_⟩
  rcases h.2 with ⟨h2, _⟩ | ⟨g', cap', cur, hv, hb, hg, hnc, hcm, hcs, htk⟩
  · cases h2
  · injection hv with hv1 hv2 hv3
    injection hv1 with hv1
    injection hv1 with hv1
    subst hv1; subst hv3
    refine .inr ⟨g, cap, cur.setIfInBounds i u, rfl, hb, ?_, hnc, hcm, by rw [Array.size_setIfInBounds]; exact hcs, ?_⟩
    · simp [World.setCell, Array.getElem?_modify, hg]
    · rw [Nat.mul_one] at *
      rw [← htk, Array.toList_setIfInBounds, List.take_set]
theorem own_off {w : World} {base n : Nat} {e : TypeId} {size : Nat} {v : Value} {xs : List Value} (h : w.ownsRow base e size v n xs) {p : Addr} (hp : v.ownBlock ≠ some p.block) (u : Value) : (w.setCell p u).ownsRow base e size v n xs :=
  own_fr h ((Fr.refl (fun k => k = p.block) w).setCell (.inl rfl) u) (fun g hg e => hp (by rw [hg, e]))
/-- A cell of an owned row, and that it may be written. -/
theorem own_cell {w : World} {base g n cap : Nat} {e : TypeId} {xs : List Value} (h : w.ownsRow base e 1 (.slice (some ⟨g, 0, none⟩) n cap) n xs) (i : Nat) (u : Value) (hu : xs[i]? = some u) :
    w.cell? ⟨g, i, none⟩ = some u ∧ w.frozen? ⟨g, i, none⟩ = false := by
  have h1 := h.cells (g := g) rfl i u hu
  have : (⟨g, 0, none⟩ : Addr).add i = ⟨g, i, none⟩ := by unfold Addr.add; split <;> simp_all
  rw [this] at h1
  refine ⟨h1, ?_⟩
  rcases h.2 with ⟨h2, _⟩ | ⟨g', cap', cur, hv, hb, hg, _⟩
  · cases h2
  · injection hv with hv1 hv2 hv3
    injection hv1 with hv1
    injection hv1 with hv1
    subst hv1
    simp [World.frozen?, hg]
theorem own_form {w : World} {base n : Nat} {e : TypeId} {v : Value} {xs : List Value} (h : w.ownsRow base e 1 v n xs) (hn : 0 < n) : ∃ g cap, v = .slice (some ⟨g, 0, none⟩) n cap ∧ n ≤ cap := by
  rcases h.2 with ⟨_, h2⟩ | ⟨g', cap', cur, hv, hb, hg, hc, _⟩
  · omega
  · exact ⟨g', cap', hv, hc⟩
theorem news_one (w : World) (t : TypeId) (v : Value) : ∀ (j : Nat) (u : Value), [v][j]? = some u → (w.alloc (.cells #[v] t)).cell? ((⟨w.heap.size, 0, none⟩ : Addr).add j) = some u := by
  intro j u hj
  cases j with
  | zero =>
    simp at hj; subst hj
    have : (⟨w.heap.size, 0, none⟩ : Addr).add 0 = ⟨w.heap.size, 0, none⟩ := rfl
    rw [this, cell_of_row _ _ _ _ _ _ (heap_alloc_new w _)]; rfl
  | succ j => simp at hj
/-- Whose memory a call may turn: a struct's block, and the row that one of its fields owns. -/
def foot (b : Nat) (dv : Value) : Nat → Prop := fun k => k = b ∨ dv.ownBlock = some k
end Wv
