/-
  Joined texts: Kb, Row2, Bits4, BioPr2, BioPr6, BioPw2, BioPw3.
-/
import Derived.Test.YtoeeblldgoccoaaGreatJ12
import Derived.SliceStrings
import Derived.Test.YtoeeblldgoccoaaGreatShelf
import Derived.Test.YtoeeblldgoccoaaGreatJ04
set_option linter.unusedVariables false
set_option linter.unusedSimpArgs false
/-
  Lists of values in plain Lean: the step, the exceptions, mixtures. No program stands here.
-/
namespace Wv.Bc
open Wv.Vi Wv.Ru
def validB (w : Int) (l : List ByteArray) : Bool := l.all (fun v => vld w (toL v)) && (decide (1 ≤ w) && decide (w ≤ 128) && decide (l.length ≤ 4096))
theorem validB_iff {w : Int} {l : List ByteArray} : validB w l = true ↔ (∀ v ∈ l, vld w (toL v) = true) ∧ 1 ≤ w ∧ w ≤ 128 ∧ l.length ≤ 4096 := by
 unfold validB
 rw [Bool.and_eq_true, Bool.and_eq_true, Bool.and_eq_true, List.all_eq_true, decide_eq_true_iff, decide_eq_true_iff, decide_eq_true_iff, and_assoc]
def dAt (l : List ByteArray) (j : Nat) : Option ByteArray := if (difV (toL (l.getD j default)) (toL (l.getD (j + 1) default))).2 = true then some (bs (difV (toL (l.getD j default)) (toL (l.getD (j + 1) default))).1) else none
def difP (l : List ByteArray) (k : Nat) : List ByteArray := (List.range k).filterMap (dAt l)
def difs (l : List ByteArray) : List ByteArray := difP l (l.length - 1)
theorem difP_succ (l : List ByteArray) (k : Nat) : difP l (k + 1) = difP l k ++ (dAt l k).toList := by
 unfold difP
 rw [List.range_succ, List.filterMap_append]
 congr 1 <;> (cases h : dAt l k <;> simp [h])
theorem difs_ne {l : List ByteArray} {k : Nat} : ∀ d ∈ difP l k, knV (toL d) = true := by
 intro d hd
 obtain ⟨j, _, hj⟩ := List.mem_filterMap.1 hd
 unfold dAt at hj
 split at hj
 ·rename_i h
  injection hj with hj
  subst hj
  exact (difV_known (Prod.ext rfl h)).1
 ·cases hj
def bstep (F : ByteArray → Nat) (p : ByteArray × Nat) (d : ByteArray) : ByteArray × Nat := if p.2 < F d then (d, F d) else p
def stepOf (ds : List ByteArray) : ByteArray := (ds.foldl (bstep (fun d => ds.count d)) (bs [], 0)).1
def stepB (l : List ByteArray) : ByteArray := if l = [] ∨ validB ((l.getD 0 default).size : Int) l = false then bs [] else stepOf (difs l)
theorem bstep_le (F : ByteArray → Nat) (p : ByteArray × Nat) (d : ByteArray) : p.2 ≤ (bstep F p d).2 ∧ F d ≤ (bstep F p d).2 := by
 unfold bstep
 split
 ·exact ⟨by simp only; omega, Nat.le_refl _⟩
 ·exact ⟨Nat.le_refl _, by omega⟩
theorem fold_ge (F : ByteArray → Nat) (ds : List ByteArray) : ∀ p, p.2 ≤ (ds.foldl (bstep F) p).2 ∧ ∀ d ∈ ds, F d ≤ (ds.foldl (bstep F) p).2 := by
 induction ds with
 | nil => intro p; exact ⟨Nat.le_refl _, fun d hd => by cases hd⟩
 | cons a r ih =>
  intro p
  obtain ⟨h1, h2⟩ := bstep_le F p a
  obtain ⟨i1, i2⟩ := ih (bstep F p a)
  refine ⟨Nat.le_trans h1 i1, fun d hd => ?_⟩
  rcases List.mem_cons.1 hd with rfl | hd
  ·exact Nat.le_trans h2 i1
  ·exact i2 d hd
theorem dict_snoc (l : List ByteArray) (x : ByteArray) : dict (l ++ [x]) = dstep (dict l) x := by unfold dict; rw [List.foldl_append]; rfl
theorem fold_dict (F : ByteArray → Nat) (ds : List ByteArray) (p : ByteArray × Nat) : (dict ds).foldl (bstep F) p = ds.foldl (bstep F) p := by
 rw [← List.reverse_reverse ds]
 induction ds.reverse with
 | nil => rfl
 | cons a r ih =>
  rw [List.reverse_cons, dict_snoc, List.foldl_append]
  unfold dstep
  by_cases h : a ∈ dict r.reverse
  ·rw [if_pos h, ih]
   have h2 : a ∈ r.reverse := (mem_dict _ _).1 h
   have := (fold_ge F r.reverse p).2 a h2
   show _ = bstep F _ a
   generalize List.foldl (bstep F) p r.reverse = q at *
   unfold bstep
   rw [if_neg (by omega)]
  ·rw [if_neg h, List.foldl_append, ih]
theorem fold_snd (F : ByteArray → Nat) (ds : List ByteArray) : ∀ p, p.2 = F p.1 → (ds.foldl (bstep F) p).2 = F (ds.foldl (bstep F) p).1 := by
 induction ds with
 | nil => intro p h; exact h
 | cons a r ih =>
  intro p h
  apply ih
  unfold bstep
  split
  ·rfl
  ·exact h
def okA (l : List ByteArray) (st : ByteArray) (j : Nat) : Bool := decide (addV (toL (l.getD j default)) (toL st) = (toL (l.getD (j + 1) default), true))
def exP (l : List ByteArray) (st : ByteArray) (k : Nat) : List Int := ((List.range k).filter (fun j => !okA l st j)).map (fun (j : Nat) => (j : Int) + 1)
def exI (l : List ByteArray) (st : ByteArray) : List Int := exP l st (l.length - 1)
theorem exP_succ (l : List ByteArray) (st : ByteArray) (k : Nat) : exP l st (k + 1) = if okA l st k = true then exP l st k else exP l st k ++ [(k : Int) + 1] := by
 unfold exP
 rw [List.range_succ, List.filter_append, List.map_append]
 cases h : okA l st k <;> simp [h]
theorem exP_len (l : List ByteArray) (st : ByteArray) (k : Nat) : (exP l st k).length ≤ k := by
 unfold exP
 rw [List.length_map]
 have := List.length_filter_le (fun j => !okA l st j) (List.range k)
 rw [List.length_range] at this
 exact this
theorem exP_in {l : List ByteArray} {st : ByteArray} {k : Nat} : ∀ x ∈ exP l st k, 1 ≤ x ∧ x ≤ (k : Int) := by
 intro x hx
 obtain ⟨j, hj, rfl⟩ := List.mem_map.1 hx
 have := List.mem_range.1 (List.mem_filter.1 hj).1
 omega
theorem exP_sorted (l : List ByteArray) (st : ByteArray) (k : Nat) : (exP l st k).Pairwise (· < ·) := by
 unfold exP
 rw [List.pairwise_map]
 exact (List.pairwise_lt_range.sublist List.filter_sublist).imp (fun h => by omega)
def atI (l : List ByteArray) (x : List Int) : List ByteArray := x.map (fun i => l.getD i.toNat default)
def shortL (l : List ByteArray) : List ByteArray := l.map (fun v => bs (shr (toL v)))
def extL (w : Int) : List ByteArray → Option (List ByteArray)
 | [] => some []
 | s :: r => if (ext w (toL s)).2 = 0 then (extL w r).map (bs (ext w (toL s)).1 :: ·) else none
def mixL (last : ByteArray) : List ByteArray → List ByteArray
 | [] => []
 | v :: r => bs (mixV (toL v) (toL last)).1 :: mixL v r
def unmix (last : ByteArray) : List ByteArray → List ByteArray
 | [] => []
 | v :: r => bs (mixV (toL v) (toL last)).1 :: unmix (bs (mixV (toL v) (toL last)).1) r
theorem extL_short {w : Int} {l : List ByteArray} (h : ∀ v ∈ l, vld w (toL v) = true) : extL w (shortL l) = some l := by
 induction l with
 | nil => rfl
 | cons v r ih =>
  have hv := vld_iff.1 (h v List.mem_cons_self)
  have he := ext_shr hv.1
  rw [hv.2] at he
  show (if (ext w (toL (bs (shr (toL v))))).2 = 0 then (extL w (shortL r)).map (bs (ext w (toL (bs (shr (toL v))))).1 :: ·) else none) = _
  rw [toL_bs, he, if_pos rfl, ih (fun x hx => h x (List.mem_cons_of_mem _ hx))]
  rfl
theorem extL_valid {w : Int} {l r : List ByteArray} (h : extL w l = some r) : (∀ v ∈ r, vld w (toL v) = true) ∧ r.length = l.length := by
 induction l generalizing r with
 | nil => injection h with h; subst h; exact ⟨fun v hv => (by cases hv), rfl⟩
 | cons s t ih =>
  unfold extL at h
  split at h
  ·rename_i he
   match hq : extL w t, h with
   | none, h => cases h
   | some q, h =>
    injection h with h
    subst h
    obtain ⟨i1, i2⟩ := ih hq
    refine ⟨fun v hv => ?_, by simp [i2]⟩
    rcases List.mem_cons.1 hv with rfl | hv
    ·rw [toL_bs]; exact ext_vld (Prod.ext rfl he)
    ·exact i1 v hv
  ·cases h
theorem mixL_len (l : List ByteArray) : ∀ last, (mixL last l).length = l.length := by
 induction l with
 | nil => intro _; rfl
 | cons v r ih => intro last; simp [mixL, ih]
theorem vld_mix {w : Int} {a b : List UInt8} (ha : vld w a = true) (hb : vld w b = true) : vld w (mixV a b).1 = true ∧ mixV (mixV a b).1 b = (a, 0) := by
 obtain ⟨a1, a2⟩ := vld_iff.1 ha
 obtain ⟨b1, b2⟩ := vld_iff.1 hb
 obtain ⟨m, h1, h2, h3, h4⟩ := mix_back a1 b1 (by omega)
 rw [h1]
 exact ⟨vld_iff.2 ⟨h2, by show (m.length : Int) = w; omega⟩, h4⟩
theorem mixL_valid {w : Int} {l : List ByteArray} : ∀ {last : ByteArray}, vld w (toL last) = true → (∀ v ∈ l, vld w (toL v) = true) → (∀ v ∈ mixL last l, vld w (toL v) = true) ∧ unmix last (mixL last l) = l := by
 induction l with
 | nil => intro last _ _; exact ⟨fun v hv => (by cases hv), rfl⟩
 | cons v r ih =>
  intro last hl h
  have hv := h v List.mem_cons_self
  obtain ⟨m1, m2⟩ := vld_mix hv hl
  obtain ⟨i1, i2⟩ := ih (last := v) hv (fun x hx => h x (List.mem_cons_of_mem _ hx))
  refine ⟨fun x hx => ?_, ?_⟩
  ·rcases List.mem_cons.1 hx with rfl | hx
   ·rw [toL_bs]; exact m1
   ·exact i1 x hx
  ·show bs (mixV (toL (bs (mixV (toL v) (toL last)).1)) (toL last)).1 :: unmix (bs (mixV (toL (bs (mixV (toL v) (toL last)).1)) (toL last)).1) (mixL v r) = _
   rw [toL_bs, m2]
   simp only [bs_toL]
   rw [i2]
theorem zeros_vld {w : Int} (h1 : 1 ≤ w) (h2 : w ≤ 128) : vld w (allV w 48) = true := by
 unfold allV
 rw [if_neg (by simp [isC, cd]; omega)]
 refine vld_iff.2 ⟨isV_iff.2 ⟨fun c hc => ?_, fun h => ?_, by rw [List.length_replicate]; omega⟩, by rw [List.length_replicate]; omega⟩
 ·rw [List.eq_of_mem_replicate hc]; decide
 ·have := congrArg List.length h
  rw [List.length_replicate] at this
  simp at this
  omega
end Wv.Bc
/-
  Slices of integers, of strings and of structs of two integers, as the arguments of a law: what the walk is told of them.
-/
namespace Wv
open Go Go.RowKit Go.Deep Go.ChangeShapes Go.WideShapes
set_option linter.unusedVariables false
theorem cell_lt' {w : World} {p : Addr} {v : Value} (h : w.cell? p = some v) : p.block < w.heap.size := by
 rcases Nat.lt_or_ge p.block w.heap.size with h1 | h1
 ·exact h1
 ·have h2 : w.heap[p.block]? = none := Array.getElem?_eq_none h1
  simp [World.cell?, h2] at h
section
variable {H : Type} {enc : TypeId × Value → H} {P : Program} {w : World} {base : Nat} {spare : Nat → Bool} {held : Bool}
def I64 (n : Int) : Prop := -9223372036854775808 ≤ n ∧ n ≤ 9223372036854775807
theorem i64_wf {n : Int} (h : (Lit.int .i64 n).wf = true) : I64 n := bounds_i64 h
theorem ints_open {t e : TypeId} {fuel n cap : Nat} {A : Option Addr} {x : DataW H × List MemPlace} (ht : P.underlying t = some (.slice e)) (c0 : P.cellsOf e = 1) (u0 : P.underlying e = some (.int .i64))
  (h : DataW.trod enc P w base spare held fuel t [.slice A n cap] = some x) :
  ∃ l : List Int, At w A (l.map iv) ∧ (∀ n ∈ l, I64 n) ∧ n = l.length ∧ n ≤ 9223372036854775807 := by
 rcases open_slice1 ht c0 h with ⟨h0, _⟩ | ⟨a, len, c, m, k, V, D, Pl, hcs, hb, hl, hm, hmm, rfl, hx⟩
 ·simp at h0
  obtain ⟨rfl, rfl, rfl⟩ := h0
  exact ⟨[], At.nil _ _, by simp, rfl, by omega⟩
 ·simp at hcs
  obtain ⟨rfl, rfl, rfl⟩ := hcs
  have hlm : n ≤ m := by rw [hmm]; split <;> omega
  have each : ∀ i, i < n → ∃ q : Int, I64 q ∧ w.cell? (a.add i) = some (.int .i64 q) := by
   intro i hi
   obtain ⟨h1, h2⟩ := hx i (by omega)
   obtain ⟨q, r, _, wf⟩ := DataW.trod_int u0 h2
   simp at r
   exact ⟨q, i64_wf wf, r ▸ h1⟩
  obtain ⟨q, hq⟩ := choose_lt each
  refine ⟨(List.range n).map q, ?_, ?_, by simp, by unfold maxLen at hm; omega⟩
  ·intro i hi
   have hi' : i < n := by simpa using hi
   have q0 := (hq i hi').2
   obtain ⟨b, off, spot⟩ := a
   have hspot : spot = none := by simpa [Addr.add] using World.cell?_spot (hq 0 (by omega)).2
   subst hspot
   rw [add_plain] at q0
   refine ⟨b, off, rfl, cell_lt' q0, ?_⟩
   simp only [List.getElem_map, List.getElem_range, iv]
   exact q0
  ·intro c hc
   obtain ⟨i, hi, rfl⟩ := List.mem_map.1 hc
   exact (hq i (List.mem_range.1 hi)).1
theorem strs_open {t e : TypeId} {fuel n cap : Nat} {A : Option Addr} {x : DataW H × List MemPlace} (ht : P.underlying t = some (.slice e)) (c0 : P.cellsOf e = 1) (u0 : P.underlying e = some .string)
  (h : DataW.trod enc P w base spare held fuel t [.slice A n cap] = some x) :
  ∃ l : List ByteArray, At w A (l.map sv) ∧ (∀ s ∈ l, s.size ≤ 9223372036854775807) ∧ n = l.length ∧ n ≤ 9223372036854775807 := by
 rcases open_slice1 ht c0 h with ⟨h0, _⟩ | ⟨a, len, c, m, k, V, D, Pl, hcs, hb, hl, hm, hmm, rfl, hx⟩
 ·simp at h0
  obtain ⟨rfl, rfl, rfl⟩ := h0
  exact ⟨[], At.nil _ _, by simp, rfl, by omega⟩
 ·simp at hcs
  obtain ⟨rfl, rfl, rfl⟩ := hcs
  have hlm : n ≤ m := by rw [hmm]; split <;> omega
  have each : ∀ i, i < n → ∃ q : ByteArray, q.size ≤ maxLen ∧ w.cell? (a.add i) = some (.string q) := by
   intro i hi
   obtain ⟨h1, h2⟩ := hx i (by omega)
   obtain ⟨q, r, _, wf⟩ := DataW.trod_string u0 h2
   simp at r
   exact ⟨q, wf, r ▸ h1⟩
  obtain ⟨q, hq⟩ := choose_lt each
  refine ⟨(List.range n).map q, ?_, ?_, by simp, by unfold maxLen at hm; omega⟩
  ·intro i hi
   have hi' : i < n := by simpa using hi
   have q0 := (hq i hi').2
   obtain ⟨b, off, spot⟩ := a
   have hspot : spot = none := by simpa [Addr.add] using World.cell?_spot (hq 0 (by omega)).2
   subst hspot
   rw [add_plain] at q0
   refine ⟨b, off, rfl, cell_lt' q0, ?_⟩
   simp only [List.getElem_map, List.getElem_range, sv]
   exact q0
  ·intro c hc
   obtain ⟨i, hi, rfl⟩ := List.mem_map.1 hc
   have := (hq i (List.mem_range.1 hi)).1
   unfold maxLen at this
   omega
def pv (l : List (Int × Int)) : List Value := l.flatMap fun x => [iv x.1, iv x.2]
theorem pv_length (l : List (Int × Int)) : (pv l).length = l.length * 2 := by
 induction l with
 | nil => rfl
 | cons c D ih => rw [show pv (c :: D) = [iv c.1, iv c.2] ++ pv D from rfl, List.length_append, ih, List.length_cons]; simp; omega
theorem pv_snoc (l : List (Int × Int)) (x : Int × Int) : pv (l ++ [x]) = pv l ++ [iv x.1, iv x.2] := by simp [pv]
theorem pv_get (D : List (Int × Int)) : ∀ (i : Nat) (h : i < D.length), (pv D)[i * 2]? = some (iv D[i].1) ∧ (pv D)[i * 2 + 1]? = some (iv D[i].2) := by
 induction D with
 | nil => intro i h; simp at h
 | cons c D ih =>
  intro i h
  have e : pv (c :: D) = [iv c.1, iv c.2] ++ pv D := rfl
  match i, h with
  | 0, _ => exact ⟨rfl, rfl⟩
  | i + 1, h =>
   have h2 : i < D.length := by simpa using h
   rw [e, List.getElem?_append_right (by simp; omega), List.getElem?_append_right (by simp; omega)]
   have := ih i h2
   rw [show (i + 1) * 2 - [iv c.1, iv c.2].length = i * 2 from by simp; omega, show (i + 1) * 2 + 1 - [iv c.1, iv c.2].length = i * 2 + 1 from by simp; omega]
   exact this
end
end Wv
/-
  Bit strings in plain Lean, fourth part: where the bits in bytes end; the bytes of a bit string read again.
-/
namespace Wv.Bit
open Go.Lib (trailingZeros8)
def nrd (s : ByteArray) : Option Nat :=
 if s.size = 0 then none
 else if s.data.toList.getD (s.size - 1) 0 = 0 then none
 else if 65536 < 8 * s.size - 1 - trailingZeros8 (s.data.toList.getD (s.size - 1) 0).toNat then none
 else some (8 * s.size - 1 - trailingZeros8 (s.data.toList.getD (s.size - 1) 0).toNat)
def IsLast (s : ByteArray) (n : Nat) : Prop := n < 8 * s.size ∧ rbit s n = true ∧ ∀ i, n < i → i < 8 * s.size → rbit s i = false
theorem IsLast.unique {s : ByteArray} {n m : Nat} (h : IsLast s n) (k : IsLast s m) : n = m := by
 rcases Nat.lt_trichotomy n m with c | c | c
 ·have := h.2.2 m c k.1; rw [k.2.1] at this; cases this
 ·exact c
 ·have := k.2.2 n c h.1; rw [h.2.1] at this; cases this
theorem tz8_spec : ∀ x : Fin 256, x.val ≠ 0 → trailingZeros8 x.val < 8 ∧ x.val.testBit (trailingZeros8 x.val) = true ∧ ∀ j : Fin 8, j.val < trailingZeros8 x.val → x.val.testBit j.val = false := by decide +kernel
theorem last_of (s : ByteArray) (h0 : s.size ≠ 0) (hl : s.data.toList.getD (s.size - 1) 0 ≠ 0) : IsLast s (8 * s.size - 1 - trailingZeros8 (s.data.toList.getD (s.size - 1) 0).toNat) := by
 obtain ⟨x, hx⟩ : ∃ x, s.data.toList.getD (s.size - 1) 0 = x := ⟨_, rfl⟩
 rw [hx] at hl ⊢
 have hx0 : x.toNat ≠ 0 := fun h => hl (by
  have := congrArg UInt8.ofNat h
  simpa using this)
 obtain ⟨h1, h2, h3⟩ := tz8_spec ⟨x.toNat, UInt8.toNat_lt x⟩ hx0
 simp only at h1 h2 h3
 generalize trailingZeros8 x.toNat = t at *
 have hr : ∀ i, 8 * (s.size - 1) ≤ i → i < 8 * s.size → rbit s i = x.toNat.testBit (7 - i % 8) := by
  intro i a b
  rw [rbit, show i / 8 = s.size - 1 from by omega, hx]
 refine ⟨by omega, ?_, fun i a b => ?_⟩
 ·rw [hr _ (by omega) (by omega), show 7 - (8 * s.size - 1 - t) % 8 = t from by omega, h2]
 ·rw [hr i (by omega) b]
  exact h3 ⟨7 - i % 8, by omega⟩ (by simp only; omega)
theorem nrd_le {s : ByteArray} {n : Nat} (h : nrd s = some n) : n ≤ 65536 ∧ IsLast s n ∧ s.size ≤ 8193 := by
 unfold nrd at h
 split at h
 ·cases h
 ·rename_i h0
  split at h
  ·cases h
  ·rename_i h1
   split at h
   ·cases h
   ·rename_i h2
    injection h with h
    have := last_of s h0 h1
    rw [h] at this h2
    refine ⟨by omega, this, ?_⟩
    have h8 : trailingZeros8 (s.data.toList.getD (s.size - 1) 0).toNat ≤ 8 := Go.Lib.trailingZeros8_le8 ⟨_, UInt8.toNat_lt _⟩
    omega
theorem nrd_of {s : ByteArray} {n : Nat} (h : IsLast s n) (h0 : s.size ≠ 0) (hl : s.data.toList.getD (s.size - 1) 0 ≠ 0) : nrd s = if 65536 < n then none else some n := by
 have := (last_of s h0 hl).unique h
 unfold nrd
 rw [if_neg h0, if_neg hl, this]
theorem nrd_none0 {s : ByteArray} (h : s.size = 0) : nrd s = none := by unfold nrd; rw [if_pos h]
theorem nrd_none1 {s : ByteArray} (h : s.data.toList.getD (s.size - 1) 0 = 0) : nrd s = none := by
 unfold nrd
 by_cases h0 : s.size = 0
 ·rw [if_pos h0]
 ·rw [if_neg h0, if_pos h]
def bstr (l : List Bool) : ByteArray := ⟨(pack (l ++ [true])).toArray⟩
theorem bstr_size (l : List Bool) : (bstr l).size = l.length / 8 + 1 := by
 show (pack (l ++ [true])).toArray.size = _
 simp [pack_length]; omega
theorem rbit_pack (l : List Bool) (i : Nat) (h : i < 8 * (pack l).length) : rbit ⟨(pack l).toArray⟩ i = l.getD i false := by
 have h1 : (pack l).toArray.toList.getD (i / 8) 0 = UInt8.ofNat (byteAt l (i / 8)) := by
  simp only [List.getD, List.getElem?_eq_getElem (show i / 8 < (pack l).length by omega), pack_getElem]
  rfl
 have h2 : (UInt8.ofNat (byteAt l (i / 8))).toNat = byteAt l (i / 8) := by
  have := byteAt_lt l (i / 8)
  simp [Nat.mod_eq_of_lt this]
 unfold rbit
 show ((pack l).toArray.toList.getD (i / 8) 0).toNat.testBit _ = _
 rw [h1, h2]
 have h3 : byteAt l (i / 8) / 2 ^ (7 - i % 8) % 2 = bt l i := by
  have e : ∀ k, bt l k ≤ 1 := bt_le l
  rw [byteAt_sum]
  have hm : i % 8 < 8 := Nat.mod_lt _ (by omega)
  have hi : i = 8 * (i / 8) + i % 8 := (Nat.div_add_mod i 8).symm
  generalize i / 8 = q at *
  generalize i % 8 = m at *
  subst hi
  have e0 := e (8 * q); have e1 := e (8 * q + 1); have e2 := e (8 * q + 2); have e3 := e (8 * q + 3)
  have e4 := e (8 * q + 4); have e5 := e (8 * q + 5); have e6 := e (8 * q + 6); have e7 := e (8 * q + 7)
  have : m = 0 ∨ m = 1 ∨ m = 2 ∨ m = 3 ∨ m = 4 ∨ m = 5 ∨ m = 6 ∨ m = 7 := by omega
  rcases this with rfl | rfl | rfl | rfl | rfl | rfl | rfl | rfl <;> simp <;> omega
 rw [Nat.testBit_eq_decide_div_mod_eq, h3, bt]
 cases l.getD i false <;> simp
theorem nrd_bstr (l : List Bool) (h : l.length ≤ 65536) : nrd (bstr l) = some l.length ∧ rbits (bstr l) l.length = l := by
 have hs := bstr_size l
 have hpl : (pack (l ++ [true])).length = l.length / 8 + 1 := by rw [pack_length, List.length_append, List.length_singleton]; omega
 have hr : ∀ i, i < 8 * (l.length / 8 + 1) → rbit (bstr l) i = (l ++ [true]).getD i false := fun i hi => rbit_pack (l ++ [true]) i (by rw [hpl]; exact hi)
 have hlast : IsLast (bstr l) l.length := by
  refine ⟨by rw [hs]; omega, ?_, fun i a b => ?_⟩
  ·rw [hr _ (by omega)]; simp
  ·rw [hr _ (by rw [hs] at b; exact b)]
   simp [List.getD, List.getElem?_append, List.getElem?_eq_none (show ([true] : List Bool).length ≤ i - l.length by simp; omega), show ¬ i < l.length by omega]
 constructor
 ·rw [nrd_of hlast (by omega) ?_, if_neg (by omega)]
  intro hz
  have h1 := hlast.2.1
  unfold rbit at h1
  rw [show l.length / 8 = (bstr l).size - 1 from by omega, hz] at h1
  simp at h1
 ·apply List.ext_getElem
  ·rw [rbits_length]
  ·intro i h1 h2
   have := rbits_get (bstr l) l.length i h2
   rw [hr i (by omega)] at this
   simp only [List.getD, List.getElem?_eq_getElem h1, Option.getD_some] at this
   rw [this, List.getElem?_append_left h2, List.getElem?_eq_getElem h2]
   rfl
end Wv.Bit
/-
  The walks over the bit strings of the program, second part: runs of ones, and the table of the kinds.
-/
namespace Go.Proofs.YtoeeblldgoccoaaGreat.Bio
set_option maxRecDepth 100000
open Go.RowKit Go.Proofs Wv Wv.Bit

theorem ret_int2 {j k : IntKind} {a b a' b' : Int} (h : a = a') (h2 : b = b') : Ending.returned (.tuple #[.int j a, .int k b]) = .returned (.tuple #[.int j a', .int k b']) := by rw [h, h2]
end Go.Proofs.YtoeeblldgoccoaaGreat.Bio
/-
  The walks over the bit strings of the program, sixth part: the codes in front of bits.
-/
namespace Go.Proofs.YtoeeblldgoccoaaGreat.Bio
set_option maxRecDepth 100000
open Go.RowKit Go.Proofs Wv Wv.Bit

theorem ret_int1 {k : IntKind} {a b : Int} (h : a = b) : Ending.returned (.int k a) = .returned (.int k b) := by rw [h]
set_option maxHeartbeats 400000 in
theorem kread0 {b x n : Nat} {s : ByteArray} {w : World} (h : RdAt w b s x n) (p : Int) (h0 : 0 ≤ p) (h1 : p ≤ 62) :
  Calls Tryz.prog 189 #[.pointer (some ⟨b, 0, none⟩), .int .i64 p] w fun e w' => ∃ (v : Int) (er y : Nat), e = .returned (.tuple #[.int .i64 v, .int .i64 er]) ∧ RdAt w' b s y n ∧ Fr (only b) w w' ∧ RdRes 0 p.toNat ((rbits s n).drop x) x v er y := by
 have hx := h.2.1
 have hlen : ((rbits s n).drop x).length = n - x := by rw [List.length_drop, rbits_length]
 have hrd : rd 0 p.toNat ((rbits s n).drop x) = if n - x < p.toNat then (0, 0, 12) else (val (((rbits s n).drop x).take p.toNat), p.toNat, 0) := by rw [← hlen]; rfl
 by_cases hc : n - x < p.toNat
 ·rw [if_pos hc] at hrd
  have H := hide (take_no h p (by omega))
  have Hr := hide (show ∀ v y, RdRes 0 p.toNat ((rbits s n).drop x) x v 12 y from fun v y => ⟨fun _ => by rw [hrd], fun h => by rw [hrd] at h; simp at h, fun h => by rw [hrd] at h; simp at h⟩)
  clear hrd
  go_enter Tryz.func189, Tryz.ntmps189
  go_wp2_with (go_at_call 190; refine (H.out).mono ?_; rintro e w1 ⟨rfl, q, rfl⟩)
  go_ret2
  exact ⟨_, 12, x, rfl, h, (Fr.refl _ _).drewN _, Hr.out _ _⟩
 ·rw [if_neg hc] at hrd
  have Ht := take_yes h p.toNat (by omega) (by omega)
  rw [Int.toNat_of_nonneg h0] at Ht
  have H := hide Ht
  have Hr := hide (show RdRes 0 p.toNat ((rbits s n).drop x) x (val (((rbits s n).drop x).take p.toNat) : Nat) 0 (x + p.toNat) from ⟨fun h => by rw [hrd] at h; simp at h, fun _ _ => by rw [hrd]; exact ⟨rfl, rfl, rfl⟩, fun _ h => by
   have := val_take_lt62 ((rbits s n).drop x) p.toNat (by omega)
   rw [hrd] at h; simp only at h; omega⟩)
  clear hrd Ht
  go_enter Tryz.func189, Tryz.ntmps189
  go_wp2_with (go_at_call 190; refine (H.out).mono ?_; rintro e w1 ⟨rfl, hr1, hf1⟩)
  go_ret2
  exact ⟨_, 0, _, rfl, hr1, hf1, Hr.out⟩
end Go.Proofs.YtoeeblldgoccoaaGreat.Bio
/-
  The walks over the bit strings of the program: runs of ones, and the writes of the kinds.
-/
namespace Go.Proofs.YtoeeblldgoccoaaGreat.Bio
set_option maxRecDepth 100000
open Go.RowKit Go.Proofs Wv Wv.Bit

theorem wr_trans {b : Nat} {d0 d1 d2 : Value} {w w1 w2 : World} (f1 : Fr (foot b d0) w w1) (o1 : OwnNew w d0 d1) (f2 : Fr (foot b d1) w1 w2) (o2 : OwnNew w1 d1 d2) :
  Fr (foot b d0) w w2 ∧ OwnNew w d0 d2 := by
 refine ⟨f1.trans' f2 (fun i hi hf => ?_), ?_⟩
 ·rcases hf with h | h
  ·exact .inl h
  ·rcases o1 with h1 | h1
   ·exact .inr (h1 ▸ h)
   ·have := h1 i h; omega
 ·rcases o2 with h | h
  ·rcases o1 with h1 | h1
   ·exact .inl (h.trans h1)
   ·exact .inr (fun g hg => h1 g (h ▸ hg))
  ·exact .inr (fun g hg => Nat.le_trans f1.size (h g hg))

end Go.Proofs.YtoeeblldgoccoaaGreat.Bio
/-
  The walks over the bit strings of the program: what the kinds' functions answer: valid, size, write.
-/
namespace Go.Proofs.YtoeeblldgoccoaaGreat.Bio
set_option maxRecDepth 100000
open Go.RowKit Go.Proofs Wv Wv.Bit

theorem ret_b {a b : Bool} (h : a = b) : Ending.returned (.bool a) = .returned (.bool b) := by rw [h]
theorem div_zero_iff {v : Int} (h : 0 ≤ v) (p : Nat) : (v / 2 ^ p == 0) = decide (v < 2 ^ p) := by
 obtain ⟨n, rfl⟩ := Int.eq_ofNat_of_zero_le h
 rw [pow_cast, ← Int.natCast_ediv]
 have h1 := Nat.two_pow_pos p
 have h2 : n / 2 ^ p = 0 ↔ n < 2 ^ p := by rw [Nat.div_eq_zero_iff]; omega
 rw [Bool.eq_iff_iff, beq_iff_eq, decide_eq_true_eq]
 omega

set_option maxHeartbeats 400000 in
theorem kvalid0 (p v : Int) (h0 : 0 ≤ p) (h1 : p ≤ 62) (hv1 : -9223372036854775808 ≤ v) (hv2 : v ≤ 9223372036854775807) (w : World) :
  Calls Tryz.prog 186 #[.int .i64 p, .int .i64 v] w fun e w' => e = .returned (.bool (vld 0 p v)) ∧ ∃ q, w' = w.drewN q := by
 have hp : par 0 p = true := by simp [par]; omega
 by_cases hv : 0 ≤ v
 ·have hr : vld 0 p v = decide (v < 2 ^ p.toNat) := by simp [vld, hp, hv]
  have Hr := hide hr
  have Hz := hide (div_zero_iff hv p.toNat)
  clear hr hp
  skip
  go_enter Tryz.func186, Tryz.ntmps186
  go_wp2
  go_ret
  exact ⟨ret_b (Hz.out.trans Hr.out.symm), 0, rfl⟩
 ·have hr : vld 0 p v = false := by simp [vld, hp, hv]
  have Hr := hide hr
  clear hr hp
  go_enter Tryz.func186, Tryz.ntmps186
  go_wp2
  go_ret
  exact ⟨ret_b Hr.out.symm, 0, rfl⟩

set_option maxHeartbeats 400000 in
theorem ksize0 (p v : Int) (h : vld 0 p v = true) (w : World) :
  Calls Tryz.prog 187 #[.int .i64 p, .int .i64 v] w fun e w' => e = .returned (.int .i64 ((cbits 0 p.toNat v.toNat).length : Nat)) ∧ ∃ q, w' = w.drewN q := by
 have hc := vld_cases h
 have hl := hide (show (cbits 0 p.toNat v.toNat).length = p.toNat from by simp [cbits, num_length])
 have h0 : 0 ≤ p := by omega
 clear hc h
 go_enter Tryz.func187, Tryz.ntmps187
 go_wp2
 go_ret
 exact ⟨ret_int1 (by rw [hl.out]; omega), 0, rfl⟩

set_option maxHeartbeats 400000 in
theorem kwrite0 {b : Nat} {dv : Value} {l : List Bool} {w : World} (hw : WrAt w b dv l) (p v : Int) (h : vld 0 p v = true) (hl : l.length ≤ 65536) :
  Calls Tryz.prog 188 #[.pointer (some ⟨b, 0, none⟩), .int .i64 p, .int .i64 v] w fun e w' => e = .returned (.tuple #[]) ∧ ∃ dv', WrAt w' b dv' (l ++ cbits 0 p.toNat v.toNat) ∧ Fr (foot b dv) w w' ∧ OwnNew w dv dv' := by
 have hc := vld_cases h
 obtain ⟨hv0, hc⟩ := hc
 obtain ⟨h0, h1, h2⟩ : 0 ≤ p ∧ p ≤ 62 ∧ v < 2 ^ p.toNat := by omega
 have h3 := pow62 p.toNat (by omega)
 have h4 := pow_cast p.toNat
 have H := hide (put_any hw p v h0 (by omega) hv0 (by omega) (by omega))
 clear hc h h2 h3 h4
 go_enter Tryz.func188, Tryz.ntmps188
 go_wp2_with (go_at_call 142; refine (H.out).mono ?_; rintro e w1 ⟨rfl, d1, hw1, hf1, ho1⟩)
 go_end0
 exact ⟨rfl, d1, hw1, hf1, ho1⟩

end Go.Proofs.YtoeeblldgoccoaaGreat.Bio
