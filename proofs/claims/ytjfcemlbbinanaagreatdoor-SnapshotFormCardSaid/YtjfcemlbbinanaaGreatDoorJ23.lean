/-
  Rows of trees in plain Lean: a part of the joined nodes is a tree. No program stands here.
-/
import Derived.Test.YtjfcemlbbinanaaGreatDoorJ22
set_option linter.unusedVariables false
set_option linter.unusedSimpArgs false
namespace Go.Proofs.YtjfcemlbbinanaaGreatDoor
open Go.RowKit Go.Proofs Wv Wv.Vi Wv.Rc Wv.Mo Wv.Lz
set_option linter.unusedVariables false
theorem flat_len {L : Nat} {l : List (List Nat)} (h : ∀ t ∈ l, t.length = L) : l.flatten.length = L * l.length := by
 induction l with
 | nil => simp
 | cons t r ih =>
  rw [List.flatten_cons, List.length_append, h t List.mem_cons_self, ih (fun x hx => h x (List.mem_cons_of_mem _ hx)), List.length_cons, Nat.mul_add]
  omega
theorem flat_part {L : Nat} : ∀ {l : List (List Nat)}, (∀ t ∈ l, t.length = L) → ∀ {j : Nat}, j < l.length → subL (L * j) L l.flatten = l.getD j [] ∧ ∀ u : List Nat, u.length = L → putL (L * j) l.flatten u = (l.set j u).flatten
 | [], _, j, hj => by simp at hj
 | t :: r, h, j, hj => by
  have ht := h t List.mem_cons_self
  have hr := fun x hx => h x (List.mem_cons_of_mem _ hx)
  cases j with
  | zero =>
   refine ⟨?_, fun u hu => ?_⟩
   ·show subL 0 L (t ++ r.flatten) = t
    unfold subL
    rw [List.drop_zero, ← ht, List.take_left]
   ·show putL 0 (t ++ r.flatten) u = u ++ r.flatten
    unfold putL
    rw [List.take_zero, List.nil_append, Nat.zero_add, hu, ← ht, List.drop_left]
  | succ j =>
   obtain ⟨i1, i2⟩ := flat_part (L := L) (l := r) hr (j := j) (by simpa using hj)
   have e : L * (j + 1) = t.length + L * j := by rw [ht, Nat.mul_add]; omega
   refine ⟨?_, fun u hu => ?_⟩
   ·show subL (L * (j + 1)) L (t ++ r.flatten) = r.getD j []
    unfold subL at i1 ⊢
    rw [e, ← i1, List.drop_append, List.drop_eq_nil_of_le (by omega), List.nil_append, Nat.add_sub_cancel_left]
   ·show putL (L * (j + 1)) (t ++ r.flatten) u = t ++ (r.set j u).flatten
    rw [← i2 u hu]
    unfold putL
    rw [e, List.take_append, List.take_of_length_le (by omega), Nat.add_sub_cancel_left, Nat.add_assoc, List.drop_append, List.drop_eq_nil_of_le (by omega), List.nil_append, Nat.add_sub_cancel_left]
    simp only [List.append_assoc]
theorem flat_tok {l : List (List Nat)} (h : ∀ t ∈ l, TOk t) : TOk l.flatten := by
 intro x hx
 obtain ⟨t, ht, hx⟩ := List.mem_flatten.1 hx
 exact h t ht x hx
theorem flat_tr0 : (List.replicate 8 (tr0 8)).flatten = List.replicate 2048 1024 := by decide +kernel
end Go.Proofs.YtjfcemlbbinanaaGreatDoor
