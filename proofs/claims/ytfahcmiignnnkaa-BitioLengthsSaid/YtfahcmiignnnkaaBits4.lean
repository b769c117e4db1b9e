/-
  Bit strings in plain Lean, fourth part: where the bits in bytes end; the bytes of a bit string read again.
-/
import Derived.Test.YtfahcmiignnnkaaBits3
namespace Wv.Bit
open Go.Lib (trailingZeros8)
/-- How many bits some bytes say, if they say a bit string. -/
def nrd (s : ByteArray) : Option Nat :=
  if s.size = 0 then none
  else if s.data.toList.getD (s.size - 1) 0 = 0 then none
  else if 65536 < 8 * s.size - 1 - trailingZeros8 (s.data.toList.getD (s.size - 1) 0).toNat then none
  else some (8 * s.size - 1 - trailingZeros8 (s.data.toList.getD (s.size - 1) 0).toNat)
def IsLast (s : ByteArray) (n : Nat) : Prop := n < 8 * s.size ∧ rbit s n = true ∧ ∀ i, n < i → i < 8 * s.size → rbit s i = false
theorem IsLast.unique {s : ByteArray} {n m : Nat} (h : IsLast s n) (k : IsLast s m) : n = m := by
  rcases Nat.lt_trichotomy n m with c | c | c
  · have := h.2.2 m c k.1; rw [k.2.1] at this; cases this
  · exact c
  · have := k.2.2 n c h.1; rw [h.2.1] at this; cases this
theorem tz8_spec : ∀ x : Fin 256, x.val ≠ 0 → trailingZeros8 x.val < 8 ∧ x.val.testBit (trailingZeros8 x.val) = true ∧ ∀ j : Fin 8, j.val < trailingZeros8 x.val → x.val.testBit j.val = false := by decide +kernel
theorem last_of (s : ByteArray) (h0 : s.size ≠ 0) (hl : s.data.toList.getD (s.size - 1) 0 ≠ 0) : IsLast s (8 * s.size - 1 - trailingZeros8 (s.data.toList.getD (s.size - 1) 0).toNat) := by
  obtain ⟨x, hx⟩ : ∃ x, s.data.toList.getD (s.size - 1) 0 = x := ⟨_, rfl⟩
  rw [hx] at hl ⊢
  have hx0 : x.toNat ≠ 0 := fun h => hl (by
    have := congrArg UInt8.ofNat h
    simpa using this)
  obtain ⟨h1, h2, h3⟩ := tz8_spec ⟨x.toNat, UInt8.toNat_lt x⟩ hx0
  simp only at h1 h2 h3
  generalize trailingZeros8 x.toNat = t at *
  have hr : ∀ i, 8 * (s.size - 1) ≤ i → i < 8 * s.size → rbit s i = x.toNat.testBit (7 - i % 8) := by
    intro i a b
    rw [rbit, show i / 8 = s.size - 1 from by omega, hx]
  refine ⟨by omega, ?_, fun i a b => ?_⟩
  · rw [hr _ (by omega) (by omega), show 7 - (8 * s.size - 1 - t) % 8 = t from by omega, h2]
  · rw [hr i (by omega) b]
    exact h3 ⟨7 - i % 8, by omega⟩ (by simp only; omega)
theorem nrd_le {s : ByteArray} {n : Nat} (h : nrd s = some n) : n ≤ 65536 ∧ IsLast s n ∧ s.size ≤ 8193 := by
  unfold nrd at h
  split at h
  · cases h
  · rename_i h0
    split at h
    · cases h
    · rename_i h1
      split at h
      · cases h
      · rename_i h2
        injection h with h
        have := last_of s h0 h1
        rw [h] at this h2
        refine ⟨by omega, this, ?_⟩
        have h8 : trailingZeros8 (s.data.toList.getD (s.size - 1) 0).toNat ≤ 8 := Go.Lib.trailingZeros8_le8 ⟨_, UInt8.toNat_lt _⟩
        omega
theorem nrd_of {s : ByteArray} {n : Nat} (h : IsLast s n) (h0 : s.size ≠ 0) (hl : s.data.toList.getD (s.size - 1) 0 ≠ 0) : nrd s = if 65536 < n then none else some n := by
  have := (last_of s h0 hl).unique h
  unfold nrd
  rw [if_neg h0, if_neg hl, this]
theorem nrd_none0 {s : ByteArray} (h : s.size = 0) : nrd s = none := by unfold nrd; rw [if_pos h]
theorem nrd_none1 {s : ByteArray} (h : s.data.toList.getD (s.size - 1) 0 = 0) : nrd s = none := by
  unfold nrd
  by_cases h0 : s.size = 0
  · rw [if_pos h0]
  · rw [if_neg h0, if_pos h]
/-- The bytes of bits. -/
def bstr (l : List Bool) : ByteArray := ⟨(pack (l ++ [true])).toArray⟩
theorem bstr_size (l : List Bool) : (bstr l).size = l.length / 8 + 1 := by
  show (pack (l ++ [true])).toArray.size = _
  simp [pack_length]; omega
theorem rbit_pack (l : List Bool) (i : Nat) (h : i < 8 * (pack l).length) : rbit ⟨(pack l).toArray⟩ i = l.getD i false := by
  have h1 : (pack l).toArray.toList.getD (i / 8) 0 = UInt8.ofNat (byteAt l (i / 8)) := by
    simp only [List.getD, List.getElem?_eq_getElem (show i / 8 < (pack l).length by omega), pack_getElem]
    rfl
  have h2 : (UInt8.ofNat (byteAt l (i / 8))).toNat = byteAt l (i / 8) := by
    have := byteAt_lt l (i / 8)
    simp [Nat.mod_eq_of_lt this]
  unfold rbit
  show ((pack l).toArray.toList.getD (i / 8) 0).toNat.testBit _ = _
  rw [h1, h2]
  have h3 : byteAt l (i / 8) / 2 ^ (7 - i % 8) % 2 = bt l i := by
    have e : ∀ k, bt l k ≤ 1 := bt_le l
    rw [byteAt_sum]
    have hm : i % 8 < 8 := Nat.mod_lt _ (by omega)
    have hi : i = 8 * (i / 8) + i % 8 := (Nat.div_add_mod i 8).symm
    generalize i / 8 = q at *
    generalize i % 8 = m at *
    subst hi
    have e0 := e (8 * q); have e1 := e (8 * q + 1); have e2 := e (8 * q + 2); have e3 := e (8 * q + 3)
    have e4 := e (8 * q + 4); have e5 := e (8 * q + 5); have e6 := e (8 * q + 6); have e7 := e (8 * q + 7)
    have : m = 0 ∨ m = 1 ∨ m = 2 ∨ m = 3 ∨ m = 4 ∨ m = 5 ∨ m = 6 ∨ m = 7 := by omega
    rcases this with rfl | rfl | rfl | rfl | rfl | rfl | rfl | rfl <;> simp <;> omega
  rw [Nat.testBit_eq_decide_div_mod_eq, h3, bt]
  cases l.getD i false <;> simp
/-- The bytes of a bit string say just these bits. -/
theorem nrd_bstr (l : List Bool) (h : l.length ≤ 65536) : nrd (bstr l) = some l.length ∧ rbits (bstr l) l.length = l := by
  have hs := bstr_size l
  have hpl : (pack (l ++ [true])).length = l.length / 8 + 1 := by rw [pack_length, List.length_append, List.length_singleton]; omega
  have hr : ∀ i, i < 8 * (l.length / 8 + 1) → rbit (bstr l) i = (l ++ [true]).getD i false := fun i hi => rbit_pack (l ++ [true]) i (by rw [hpl]; exact hi)
  have hlast : IsLast (bstr l) l.length := by
    refine ⟨by rw [hs]; omega, ?_, fun i a b => ?_⟩
    · rw [hr _ (by omega)]; simp
    · rw [hr _ (by rw [hs] at b; exact b)]
      simp [List.getD, List.getElem?_append, List.getElem?_eq_none (show ([true] : List Bool).length ≤ i - l.length by simp; omega), show ¬ i < l.length by omega]
  constructor
  · rw [nrd_of hlast (by omega) ?_, if_neg (by omega)]
    intro hz
    have h1 := hlast.2.1
    unfold rbit at h1
    rw [show l.length / 8 = (bstr l).size - 1 from by omega, hz] at h1
    simp at h1
  · apply List.ext_getElem
    · rw [rbits_length]
    · intro i h1 h2
      have := rbits_get (bstr l) l.length i h2
      rw [hr i (by omega)] at this
      simp only [List.getD, List.getElem?_eq_getElem h1, Option.getD_some] at this
      rw [this, List.getElem?_append_left h2, List.getElem?_eq_getElem h2]
      rfl
end Wv.Bit
