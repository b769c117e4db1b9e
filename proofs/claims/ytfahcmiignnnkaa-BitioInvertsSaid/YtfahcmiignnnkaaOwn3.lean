/-
  A row of codes that a law gathers itself: what lies in it.
-/
import Derived.Test.YtfahcmiignnnkaaCodes
import Derived.Test.YtfahcmiignnnkaaBase3
namespace Go.Proofs.Ytfahcmiignnnkaa
open Go Go.RowKit Wv Wv.Bit
set_option linter.unusedVariables false

/-- The three cells of a code. -/
def cd3 (c : Cd) : List Value := [.int .i64 c.k, .int .i64 c.p, .int .i64 c.v]
def cds (D : List Cd) : List Value := D.flatMap cd3
theorem cds_snoc (D : List Cd) (c : Cd) : cds (D ++ [c]) = cds D ++ cd3 c := by simp [cds]
theorem cds_length (D : List Cd) : (cds D).length = D.length * 3 := by
  induction D with
  | nil => rfl
  | cons c D ih => rw [show cds (c :: D) = cd3 c ++ cds D from rfl, List.length_append, ih, List.length_cons]; simp [cd3]; omega
theorem cds_get (D : List Cd) : ∀ (i j : Nat) (h : i < D.length), j < 3 → (cds D)[i * 3 + j]? = (cd3 D[i])[j]? := by
  induction D with
  | nil => intro i j h; simp at h
  | cons c D ih =>
    intro i j h hj
    have e : cds (c :: D) = cd3 c ++ cds D := rfl
    match i, h with
    | 0, _ => rw [e, List.getElem?_append_left (by simp [cd3]; omega)]; simp
    | i + 1, h =>
      rw [e, List.getElem?_append_right (by simp [cd3]; omega), show (i + 1) * 3 + j - (cd3 c).length = i * 3 + j from by simp [cd3]; omega]
      exact ih i j (by simpa using h) hj
theorem codes_of_own {w : World} {base : Nat} {e : TypeId} {v : Value} {D : List Cd} (h : w.ownsRow base e 3 v D.length (cds D)) : ∃ A cap, v = .slice A D.length cap ∧ CodesAt w A D := by
  rcases h.2 with ⟨rfl, h0⟩ | ⟨g, cap, cur, rfl, hb, hg, hc, hm, hs, ht⟩
  · exact ⟨none, 0, by rw [h0], fun i hi => absurd hi (by omega)⟩
  · refine ⟨_, cap, rfl, fun i hi => ⟨g, 0, rfl, (Array.getElem?_eq_some_iff.1 hg).1, ?_⟩⟩
    have key : ∀ j, j < 3 → w.cell? ⟨g, i * 3 + j, none⟩ = (cd3 D[i])[j]? := by
      intro j hj
      have hB : Bk w g e cur := hg
      rw [hB.cell, ← cds_get D i j hi hj, ← ht, List.getElem?_take_of_lt (by omega), Array.getElem?_toList]
    refine ⟨?_, ?_, ?_⟩
    · have := key 0 (by omega); simpa [cd3] using this
    · have := key 1 (by omega); simpa [cd3] using this
    · have := key 2 (by omega); simpa [cd3] using this
theorem own_apart2 {w : World} {base base' : Nat} {e e' : TypeId} {size size' n n' : Nat} {v v' : Value} {xs xs' : List Value} (h : w.ownsRow base e size v n xs) (h' : w.ownsRow base' e' size' v' n' xs') (hne : e ≠ e') (g : Nat) (hg : v.ownBlock = some g) : v'.ownBlock ≠ some g := by
  rcases h.2 with ⟨rfl, _⟩ | ⟨g', cap, cur, rfl, _, hh, _⟩
  · simp [Value.ownBlock] at hg
  · have e1 : g' = g := by simpa [Value.ownBlock] using hg
    subst e1
    have hB : Bk w g' e cur := hh
    exact own_apart h' hB (fun x => hne x.symm)
theorem news_three (w : World) (t : TypeId) (a b c : Value) : ∀ (j : Nat) (u : Value), [a, b, c][j]? = some u → (w.alloc (.cells #[a, b, c] t)).cell? ((⟨w.heap.size, 0, none⟩ : Addr).add j) = some u := by
  intro j u h
  rw [Go.WideShapes.add_plain, Nat.zero_add]
  have := (Bk.new w t #[a, b, c]).cell j
  rw [this]
  simpa using h
end Go.Proofs.Ytfahcmiignnnkaa
