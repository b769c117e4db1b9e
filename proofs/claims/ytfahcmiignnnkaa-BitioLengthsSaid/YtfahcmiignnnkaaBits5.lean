/-
  Bit strings in plain Lean, fifth part: bytes made bit by bit out of a text that is filled up.
-/
import Derived.Test.YtfahcmiignnnkaaBits4
namespace Wv.Bit
/-- The bytes after some bits of a text have been taken in. -/
def part (T : List Bool) (i : Nat) : List UInt8 := (List.range (T.length / 8)).map fun j => UInt8.ofNat (val ((T.drop (8 * j)).take (min 8 (i - 8 * j))))
theorem part_length (T : List Bool) (i : Nat) : (part T i).length = T.length / 8 := by simp [part]
theorem part_zero (T : List Bool) : part T 0 = List.replicate (T.length / 8) 0 := by
  apply List.ext_getElem
  · simp [part]
  · intro j h1 h2
    simp [part, val]
def partAt (T : List Bool) (i : Nat) : Nat := val ((T.drop (8 * (i / 8))).take (i % 8))
theorem partAt_lt (T : List Bool) (i : Nat) : partAt T i < 128 := by
  have h := val_take_lt (T.drop (8 * (i / 8))) (i % 8)
  have : (2 : Nat) ^ (i % 8) ≤ 2 ^ 7 := Nat.pow_le_pow_right (by omega) (by omega)
  unfold partAt; omega
theorem part_get (T : List Bool) (i : Nat) (h : i / 8 < (part T i).length) : (part T i)[i / 8] = UInt8.ofNat (partAt T i) := by
  simp only [part, List.getElem_map, List.getElem_range, partAt]
  rw [show min 8 (i - 8 * (i / 8)) = i % 8 from by omega]
theorem part_succ (T : List Bool) (i : Nat) (h : i < T.length) (h8 : T.length % 8 = 0) : part T (i + 1) = (part T i).set (i / 8) (UInt8.ofNat (2 * partAt T i + bt T i)) := by
  apply List.ext_getElem
  · rw [List.length_set, part_length, part_length]
  · intro j h1 h2
    rw [List.getElem_set]
    simp only [part, List.getElem_map, List.getElem_range]
    rw [part_length] at h1
    split
    · rename_i hj
      subst hj
      congr 1
      rw [show min 8 (i + 1 - 8 * (i / 8)) = i % 8 + 1 from by omega, val_take_succ _ _ (by rw [List.length_drop]; omega), bt_drop, partAt]
      congr 2
      omega
    · rename_i hj
      congr 3
      omega
theorem byteAt_val (T : List Bool) (j : Nat) (h : 8 * j + 8 ≤ T.length) : byteAt T j = val ((T.drop (8 * j)).take 8) := by
  unfold byteAt
  congr 1
  apply List.ext_getElem
  · simp; omega
  · intro i h1 h2
    simp at h1
    simp [List.getD, show 8 * j + i < T.length by omega]
theorem part_all (T : List Bool) (h8 : T.length % 8 = 0) : part T T.length = pack T := by
  apply List.ext_getElem
  · rw [part_length, pack_length]; omega
  · intro j h1 h2
    rw [pack_getElem, byteAt_val T j (by rw [part_length] at h1; omega)]
    simp only [part, List.getElem_map, List.getElem_range]
    rw [part_length] at h1
    rw [show min 8 (T.length - 8 * j) = 8 from by omega]
theorem pack_fill (l : List Bool) (r : Nat) (h : (l.length + r) % 8 = 0) (hr : r < 8) : pack (l ++ List.replicate r false) = pack l := by
  apply List.ext_getElem
  · rw [pack_length, pack_length, List.length_append, List.length_replicate]; omega
  · intro j h1 h2
    rw [pack_getElem, pack_getElem]
    have e : ∀ k, bt (l ++ List.replicate r false) k = bt l k := by
      intro k
      rw [bt_append]
      split
      · rfl
      · rename_i hk
        rw [bt_out l k (by omega)]
        by_cases c : k - l.length < r
        · simp [bt, List.getD, c]
        · exact bt_out _ _ (by simp; omega)
    rw [byteAt_sum, byteAt_sum]
    simp only [e]
end Wv.Bit
