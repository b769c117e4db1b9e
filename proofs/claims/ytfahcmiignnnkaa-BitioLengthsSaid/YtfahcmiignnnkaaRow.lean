/-
  Slices of structs of three integers, and of Bools, as the arguments of a law: what the walk is told of them.
-/
import Derived.Test.YtfahcmiignnnkaaCodes
import Derived.Test.YtfahcmiignnnkaaBase
import Derived.Deep.Slices
import Derived.ProofKit
import Derived.OpenShut
namespace Wv.Bit
open Go Go.RowKit Go.Deep Go.ChangeShapes Go.WideShapes

theorem cell_lt {w : World} {p : Addr} {v : Value} (h : w.cell? p = some v) : p.block < w.heap.size := by
  rcases Nat.lt_or_ge p.block w.heap.size with h1 | h1
  · exact h1
  · have h2 : w.heap[p.block]? = none := Array.getElem?_eq_none h1
    simp [World.cell?, h2] at h
section
variable {H : Type} {enc : TypeId × Value → H} {P : Program} {w : World} {base : Nat} {spare : Nat → Bool} {held : Bool}
theorem i64_of_wf {n : Int} (h : (Lit.int .i64 n).wf = true) : -9223372036854775808 ≤ n ∧ n ≤ 9223372036854775807 := by
  exact bounds_i64 h
theorem codes_open {t e i0 : TypeId} {f0 f1 f2 : Field} {fuel n cap : Nat} {A : Option Addr} {x : DataW H × List MemPlace} (ht : P.underlying t = some (.slice e)) (he : P.underlying e = some (.struct #[f0, f1, f2]))
    (ce : P.cellsOf e = 3) (o : f0.offset = 0 ∧ f1.offset = 1 ∧ f2.offset = 2) (tt : f0.type = i0 ∧ f1.type = i0 ∧ f2.type = i0) (c0 : P.cellsOf i0 = 1) (u0 : P.underlying i0 = some (.int .i64))
    (h : DataW.trod enc P w base spare held fuel t [.slice A n cap] = some x) :
    ∃ l : List Cd, CodesAt w A l ∧ (∀ c ∈ l, CdOk c) ∧ n = l.length ∧ n ≤ 9223372036854775807 := by
  obtain ⟨o0, o1, o2⟩ := o
  obtain ⟨t0, t1, t2⟩ := tt
  rcases open_slice ht h with ⟨h0, _⟩ | ⟨a, len, c, m, k, D, Pl, hcs, hb, hl, hm, hmm, rfl, hx⟩
  · simp at h0
    obtain ⟨rfl, rfl, rfl⟩ := h0
    exact ⟨[], fun i hi => absurd hi (Nat.not_lt_zero _), by simp, rfl, by omega⟩
  · simp at hcs
    obtain ⟨rfl, rfl, rfl⟩ := hcs
    have hlm : n ≤ m := by rw [hmm]; split <;> omega
    have each : ∀ i, i < n → ∃ q : Cd, CdOk q ∧ w.cell? (a.add (i * 3)) = some (.int .i64 q.k) ∧ w.cell? (a.add (i * 3 + 1)) = some (.int .i64 q.p) ∧ w.cell? (a.add (i * 3 + 2)) = some (.int .i64 q.v) := by
      intro i hi
      obtain ⟨cs', h1, h2⟩ := hx i (by omega)
      rw [ce] at h1
      obtain ⟨_, hlen, hcell⟩ := World.cells?_some h1
      obtain ⟨xs, k', hk, hxy, _, hxl, hf⟩ := DataW.trod_struct he h2
      match xs, hxl, cs', hlen with
      | [y0, y1, y2], _, [v0, v1, v2], _ =>
        have g0 := hf 0 f0 rfl
        have g1 := hf 1 f1 rfl
        have g2 := hf 2 f2 rfl
        simp [o0, t0, c0] at g0
        simp [o1, t1, c0] at g1
        simp [o2, t2, c0] at g2
        obtain ⟨a0, r0, _, w0⟩ := DataW.trod_int u0 g0
        obtain ⟨a1, r1, _, w1⟩ := DataW.trod_int u0 g1
        obtain ⟨a2, r2, _, w2⟩ := DataW.trod_int u0 g2
        simp at r0 r1 r2
        subst r0 r1 r2
        have e0 := hcell 0 (by omega)
        have e1 := hcell 1 (by omega)
        have e2 := hcell 2 (by omega)
        rw [add_add] at e0 e1 e2
        exact ⟨⟨a0, a1, a2⟩, ⟨i64_of_wf w0, i64_of_wf w1, i64_of_wf w2⟩, by simpa using e0, by simpa using e1, by simpa using e2⟩
    have inh : Inhabited Cd := ⟨⟨0, 0, 0⟩⟩
    obtain ⟨q, hq⟩ := choose_lt each
    refine ⟨(List.range n).map q, ?_, ?_, by simp, by unfold maxLen at hm; omega⟩
    · intro i hi
      have hi' : i < n := by simpa using hi
      obtain ⟨_, q0, q1, q2⟩ := hq i hi'
      obtain ⟨b, off, spot⟩ := a
      have hspot : spot = none := by
        obtain ⟨_, z0, _, _⟩ := hq 0 (by omega)
        simpa [Addr.add] using World.cell?_spot z0
      subst hspot
      rw [add_plain] at q0 q1 q2
      refine ⟨b, off, rfl, cell_lt q0, ?_⟩
      simp only [List.getElem_map, List.getElem_range]
      exact ⟨q0, q1, q2⟩
    · intro c hc
      obtain ⟨i, hi, rfl⟩ := List.mem_map.1 hc
      exact (hq i (List.mem_range.1 hi)).1
/-- A row of Bools. -/
def BoolsAt (w : World) (A : Option Addr) (l : List Bool) : Prop :=
  ∀ i (h : i < l.length), ∃ b o, A = some ⟨b, o, none⟩ ∧ b < w.heap.size ∧ w.cell? ⟨b, o + i, none⟩ = some (.bool l[i])
theorem BoolsAt.below {w w' : World} {A : Option Addr} {l : List Bool} (h : BoolsAt w A l) (hb : Below w.heap.size w w') : BoolsAt w' A l := by
  intro i hi
  obtain ⟨b, o, hA, hlt, h1⟩ := h i hi
  exact ⟨b, o, hA, Nat.lt_of_lt_of_le hlt hb.size, (hb.cell hlt).trans h1⟩
theorem bools_open {t e : TypeId} {fuel n cap : Nat} {A : Option Addr} {x : DataW H × List MemPlace} (ht : P.underlying t = some (.slice e)) (c0 : P.cellsOf e = 1) (u0 : P.underlying e = some .bool)
    (h : DataW.trod enc P w base spare held fuel t [.slice A n cap] = some x) :
    ∃ l : List Bool, BoolsAt w A l ∧ n = l.length ∧ n ≤ 9223372036854775807 := by
  rcases open_slice1 ht c0 h with ⟨h0, _⟩ | ⟨a, len, c, m, k, V, D, Pl, hcs, hb, hl, hm, hmm, rfl, hx⟩
  · simp at h0
    obtain ⟨rfl, rfl, rfl⟩ := h0
    exact ⟨[], fun i hi => absurd hi (Nat.not_lt_zero _), rfl, by omega⟩
  · simp at hcs
    obtain ⟨rfl, rfl, rfl⟩ := hcs
    have hlm : n ≤ m := by rw [hmm]; split <;> omega
    have each : ∀ i, i < n → ∃ q : Bool, w.cell? (a.add i) = some (.bool q) := by
      intro i hi
      obtain ⟨h1, h2⟩ := hx i (by omega)
      obtain ⟨q, r, _⟩ := DataW.trod_bool u0 h2
      simp at r
      exact ⟨q, r ▸ h1⟩
    obtain ⟨q, hq⟩ := choose_lt each
    refine ⟨(List.range n).map q, ?_, by simp, by unfold maxLen at hm; omega⟩
    intro i hi
    have hi' : i < n := by simpa using hi
    have q0 := hq i hi'
    obtain ⟨b, off, spot⟩ := a
    have hspot : spot = none := by simpa [Addr.add] using World.cell?_spot (hq 0 (by omega))
    subst hspot
    rw [add_plain] at q0
    refine ⟨b, off, rfl, cell_lt q0, ?_⟩
    simp only [List.getElem_map, List.getElem_range]
    exact q0
end
end Wv.Bit
