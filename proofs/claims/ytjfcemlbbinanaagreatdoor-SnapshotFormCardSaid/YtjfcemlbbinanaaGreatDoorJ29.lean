/-
  The walks over the parse of texts: a piece is tried in a table; what stands ahead of the loops.
-/
import Derived.Test.YtjfcemlbbinanaaGreatDoorJ28
set_option linter.unusedVariables false
set_option linter.unusedSimpArgs false
namespace Go.Proofs.YtjfcemlbbinanaaGreatDoor
open Go.RowKit Go.Proofs Wv Wv.Vi Wv.Mo Wv.Lz
set_option linter.unusedVariables false
def Lq (q : Nat) (cur : Option St) (tb : List St) : List St := List.replicate q st0 ++ cur.getD st0 :: tb
theorem Lq_len (q : Nat) (cur : Option St) (tb : List St) : (Lq q cur tb).length = q + tb.length + 1 := by unfold Lq; rw [List.length_append, List.length_replicate, List.length_cons]; omega
theorem Lq_at (q : Nat) (cur : Option St) (tb : List St) : (Lq q cur tb).getD q st0 = cur.getD st0 := by
 unfold Lq
 rw [List.getD_eq_getElem?_getD, List.getElem?_append_right (by simp), List.length_replicate, Nat.sub_self]
 rfl
theorem Lq_far (q : Nat) (cur : Option St) (tb : List St) {k : Nat} (h : 1 ≤ k) : (Lq q cur tb).getD (q + k) st0 = tb.getD (k - 1) st0 := by
 unfold Lq
 rw [List.getD_eq_getElem?_getD, List.getElem?_append_right (by simp), List.length_replicate, Nat.add_sub_cancel_left]
 obtain ⟨j, rfl⟩ : ∃ j, k = j + 1 := ⟨k - 1, by omega⟩
 rw [List.getElem?_cons_succ, Nat.add_sub_cancel, List.getD_eq_getElem?_getD]
theorem Lq_set (q : Nat) (cur : Option St) (tb : List St) (x : St) : (Lq q cur tb).set q x = Lq q (some x) tb := by
 unfold Lq
 rw [List.set_append_right _ _ (by simp), List.length_replicate, Nat.sub_self]
 rfl
theorem try_row (q : Nat) (cur : Option St) (tb : List St) (t : Pc) (h : 1 ≤ t.len) : (if (!cur.isSome || bett (xOf (Lq q cur tb) q t) ((Lq q cur tb).getD q st0)) = true then (Lq q cur tb).set q (xOf (Lq q cur tb) q t) else Lq q cur tb) = Lq q (tryP tb cur t) tb := by
 have hx : xOf (Lq q cur tb) q t = stOf tb t := by unfold xOf stOf; rw [Lq_far q cur tb h]
 rw [hx, Lq_at, Lq_set]
 unfold tryP
 cases cur with
 | none => rfl
 | some c =>
  simp only [Option.isSome_some, Bool.not_true, Bool.false_or, Option.getD_some]
  split <;> rfl
theorem Lq_mem {q : Nat} {cur : Option St} {tb : List St} {M : Nat} (htb : ∀ x ∈ tb, x.cost ≤ M ∧ x.pcs ≤ M) (hc : ∀ x, cur = some x → x.cost ≤ M ∧ x.pcs ≤ M) : ∀ x ∈ Lq q cur tb, x.cost ≤ M ∧ x.pcs ≤ M := by
 intro x hx
 unfold Lq at hx
 rcases List.mem_append.1 hx with h | h
 ·rw [List.eq_of_mem_replicate h]
  exact ⟨Nat.zero_le _, Nat.zero_le _⟩
 ·rcases List.mem_cons.1 h with h | h
  ·cases cur with
   | none => rw [h]; exact ⟨Nat.zero_le _, Nat.zero_le _⟩
   | some c => rw [h]; exact hc c rfl
  ·exact htb x h
theorem ltry_step {w : World} {T bb ib cb sb q n M : Nat} {cur : Option St} {tb : List St} (h : TrSt w T bb ib cb sb (Lq q cur tb) q cur.isSome) (htl : q + tb.length = n) (hn : n ≤ 4096) (htb : ∀ x ∈ tb, x.cost ≤ M ∧ x.pcs ≤ M) (hM : M ≤ 160000) (hc : ∀ x, cur = some x → x.cost ≤ M + 38 ∧ x.pcs ≤ M + 38) (t : Pc) (h1 : 1 ≤ t.len) (h2 : q + t.len ≤ n) (h3 : t.dist ≤ 4096) :
  Calls Tryz.prog 120 #[.agg (pcC t), .pointer (some ⟨bb, 0, none⟩), .pointer (some ⟨ib, 0, none⟩), .pointer (some ⟨cb, 0, none⟩), .pointer (some ⟨sb, 0, none⟩)] w fun x w' => x = .returned (.tuple #[]) ∧ TrSt w' T bb ib cb sb (Lq q (tryP tb cur t) tb) q (tryP tb cur t).isSome ∧ (∀ x, tryP tb cur t = some x → x.cost ≤ M + 38 ∧ x.pcs ≤ M + 38) ∧ Fr (fun k => k = T ∨ k = sb) w w' := by
 have hl := Lq_len q cur tb
 have hsome : (tryP tb cur t).isSome = true := by obtain ⟨x, hx⟩ := tryP_some tb cur t; rw [hx]; rfl
 have hm := Lq_mem (q := q) (M := M + 38) (fun x hx => by have := htb x hx; omega) hc
 refine (ltry_any h (by omega) (fun x hx => by have := hm x hx; omega) t (by omega) h3 h1 (by omega)).mono ?_
 rintro x w' ⟨rfl, ht, hf⟩
 rw [try_row q cur tb t h1] at ht
 rw [hsome]
 exact ⟨rfl, ht, tryP_ok htb hc (price_le h3 (by omega)), hf⟩
theorem stepinf : (Tryz.prog.info? 158).map (fun i => (i.zero, i.size, i.bytes)) = some (some (.agg #[.int .i64 0, .int .i64 0, .int .i64 0, .int .i64 0, .int .u8 0]), 5, 40) := by kernel_rfl
theorem made_steps (n : Nat) : madeCells #[.int .i64 0, .int .i64 0, .int .i64 0, .int .i64 0, .int .u8 0] (n * 5) = stA (List.replicate n st0) := by
 apply Array.ext_getElem?
 intro i
 unfold madeCells
 rcases Nat.lt_or_ge i (n * 5) with h | h
 ·have hq : i / 5 < (List.replicate n st0).length := by rw [List.length_replicate]; omega
  obtain ⟨a, b, c, d, e⟩ := stA_get (List.replicate n st0) (i / 5) hq
  have hg : (List.replicate n st0).getD (i / 5) st0 = st0 := by
   rw [List.getD_eq_getElem?_getD, List.getElem?_eq_getElem hq, List.getElem_replicate]; rfl
  rw [hg] at a b c d e
  have hi : i = i / 5 * 5 + i % 5 := by omega
  rw [Array.getElem?_map, Array.getElem?_range]
  rw [if_pos h]
  rcases (show i % 5 = 0 ∨ i % 5 = 1 ∨ i % 5 = 2 ∨ i % 5 = 3 ∨ i % 5 = 4 by omega) with r | r | r | r | r
  all_goals
   rw [r] at hi
   simp only [Option.map_some, Array.size, List.size_toArray, List.length_cons, List.length_nil, Nat.reduceAdd, r]
  ·rw [hi, Nat.add_zero, a]; rfl
  ·rw [hi, b]; rfl
  ·rw [hi, c]; rfl
  ·rw [hi, d]; rfl
  ·rw [hi, e]; rfl
 ·have h1 : (stA (List.replicate n st0)).size ≤ i := by
   unfold stA
   simp only [List.size_toArray, List.length_flatMap, List.map_replicate, List.sum_replicate_nat]
   have : (stc st0).length = 5 := rfl
   rw [this]; exact h
  rw [Array.getElem?_eq_none h1, Array.getElem?_map, Array.getElem?_range, if_neg (by omega)]
  rfl
theorem mk_steps (n : Nat) (hn : n ≤ 5000) (w : World) : (Instr.makeSlice 156 (.int .i64 (n : Int)) (.int .i64 (n : Int))).run Tryz.prog w = .ok (.slice (some ⟨w.heap.size, 0, none⟩) n n) (w.alloc (.cells (stA (List.replicate n st0)) 158)) := by
 obtain ⟨i, hi, hz, hs, hby⟩ := info_parts stepinf
 have hr := run_make (P := Tryz.prog) w 156 158 i _ Tryz.underlying156 hi hz .i64 .i64 (n : Int) (n : Int) (by omega) (by omega) (by rw [hby]; omega) (by omega)
 rw [hr, Int.toNat_natCast, hs, ← made_steps]
 rfl
set_option maxRecDepth 100000 in
set_option maxHeartbeats 2000000 in
theorem lwin_any (w : World) : Calls Tryz.prog 119 #[.int .i64 4096] w fun x w' => x = .returned (.bool true) ∧ w = w' := by
 go_enter Tryz.func119, Tryz.ntmps119
 go_wp2
 go_returns
 exact ⟨rfl, rfl⟩
set_option maxRecDepth 100000 in
set_option maxHeartbeats 2000000 in
theorem lvalid_any (w : World) : Calls Tryz.prog 118 #[costV] w fun x w' => x = .returned (.bool true) ∧ Below w.heap.size w w' := by
 have hk := hide (Bk.newN (w.alloc (.cells #[.int .i64 9, .int .i64 12, .int .i64 1, .int .i64 1] 122)) 3 #[.int .i64 9, .int .i64 12, .int .i64 1, .int .i64 1] (n := w.heap.size + 1) (by simp))
 have hb := hide (((Below.refl w.heap.size w).alloc (Nat.le_refl _) (.cells #[.int .i64 9, .int .i64 12, .int .i64 1, .int .i64 1] 122)).alloc (by simp) (.cells #[.int .i64 9, .int .i64 12, .int .i64 1, .int .i64 1] 3))
 unfold costV
 go_enter Tryz.func118, Tryz.ntmps118
 go_wp2
 generalize (w.alloc (.cells #[.int .i64 9, .int .i64 12, .int .i64 1, .int .i64 1] 122)).alloc (.cells #[.int .i64 9, .int .i64 12, .int .i64 1, .int .i64 1] 3) = W0 at *
 go_loopw [15] (fun s15 wr => ∃ k : Nat, k ≤ 4 ∧ s15 = .int .i64 (k : Int) ∧ wr = W0) (fun s15 _ => (4 - intOf s15).toNat)
 case atStart => exact ⟨0, by omega, rfl, rfl⟩
 case round =>
  obtain ⟨k, hk4, rfl, rfl⟩ := hrel
  have c0 := hk.out.cell 0
  have c1 := hk.out.cell 1
  have c2 := hk.out.cell 2
  have c3 := hk.out.cell 3
  simp at c0 c1 c2 c3
  rcases (show k = 0 ∨ k = 1 ∨ k = 2 ∨ k = 3 ∨ k = 4 by omega) with rfl | rfl | rfl | rfl | rfl
  ·go_wp2
   refine ⟨⟨1, by omega, rfl, by first | rfl | trivial⟩, ?_⟩
   simp [intOf]
  ·go_wp2
   refine ⟨⟨2, by omega, rfl, by first | rfl | trivial⟩, ?_⟩
   simp [intOf]
  ·go_wp2
   refine ⟨⟨3, by omega, rfl, by first | rfl | trivial⟩, ?_⟩
   simp [intOf]
  ·go_wp2
   refine ⟨⟨4, by omega, rfl, by first | rfl | trivial⟩, ?_⟩
   simp [intOf]
  ·go_wp2
   go_returns
   exact ⟨rfl, hb.out⟩
end Go.Proofs.YtjfcemlbbinanaaGreatDoor
