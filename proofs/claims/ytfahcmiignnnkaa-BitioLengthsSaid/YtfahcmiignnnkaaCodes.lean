/-
  A slice of codes in memory.
-/
import Derived.Test.YtfahcmiignnnkaaBase2
import Derived.Test.YtfahcmiignnnkaaBits
namespace Wv.Bit
open Go Go.RowKit Wv
def CdOk (c : Cd) : Prop := (-9223372036854775808 ≤ c.k ∧ c.k ≤ 9223372036854775807) ∧ (-9223372036854775808 ≤ c.p ∧ c.p ≤ 9223372036854775807) ∧ (-9223372036854775808 ≤ c.v ∧ c.v ≤ 9223372036854775807)
def CodesAt (w : World) (A : Option Addr) (l : List Cd) : Prop :=
  ∀ i (h : i < l.length), ∃ b o, A = some ⟨b, o, none⟩ ∧ b < w.heap.size ∧ w.cell? ⟨b, o + i * 3, none⟩ = some (.int .i64 l[i].k) ∧ w.cell? ⟨b, o + i * 3 + 1, none⟩ = some (.int .i64 l[i].p) ∧ w.cell? ⟨b, o + i * 3 + 2, none⟩ = some (.int .i64 l[i].v)
theorem CodesAt.keep {w w' : World} {A : Option Addr} {l : List Cd} {S : Nat → Prop} (h : CodesAt w A l) (hf : Fr S w w') (hS : ∀ b o, A = some ⟨b, o, none⟩ → ¬ S b) : CodesAt w' A l := by
  intro i hi
  obtain ⟨b, o, hA, hb, h1, h2, h3⟩ := h i hi
  have := hS b o hA
  exact ⟨b, o, hA, Nat.lt_of_lt_of_le hb hf.size, (hf.cell (p := ⟨b, _, none⟩) hb this).trans h1, (hf.cell (p := ⟨b, _, none⟩) hb this).trans h2, (hf.cell (p := ⟨b, _, none⟩) hb this).trans h3⟩
theorem CodesAt.below {w w' : World} {A : Option Addr} {l : List Cd} (h : CodesAt w A l) (hb : Below w.heap.size w w') : CodesAt w' A l :=
  h.keep (Fr.of_below (S := nob) hb) (fun _ _ _ f => f)
theorem CodesAt.drewN {w : World} {A : Option Addr} {l : List Cd} (h : CodesAt w A l) (n : Nat) : CodesAt (w.drewN n) A l := h
theorem CodesAt.alloc {w : World} {A : Option Addr} {l : List Cd} (h : CodesAt w A l) (o : Obj) : CodesAt (w.alloc o) A l := h.below ((Below.refl _ _).alloc (Nat.le_refl _) o)
theorem encm_take (l : List Cd) (i : Nat) (h : i < l.length) (b : List Bool) : encm (l.drop i) b = if (putm b l[i]).2 = 0 then encm (l.drop (i + 1)) (putm b l[i]).1 else ((putm b l[i]).2, []) := by
  rw [List.drop_eq_getElem_cons h]; rfl
theorem encm_end (l : List Cd) (b : List Bool) : encm (l.drop l.length) b = (0, b) := by rw [List.drop_length]; rfl
end Wv.Bit
