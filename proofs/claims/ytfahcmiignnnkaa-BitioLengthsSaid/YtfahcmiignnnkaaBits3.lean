/-
  Bit strings in plain Lean, third part: the bytes of bits, bit by bit.
-/
import Derived.Test.YtfahcmiignnnkaaBits2
namespace Wv.Bit
def byteAt (l : List Bool) (j : Nat) : Nat := val ((List.range 8).map fun i => l.getD (8 * j + i) false)
/-- The bytes of bits, the last one filled up with zeros. -/
def pack (l : List Bool) : List UInt8 := (List.range ((l.length + 7) / 8)).map fun j => UInt8.ofNat (byteAt l j)
theorem pack_length (l : List Bool) : (pack l).length = (l.length + 7) / 8 := by simp [pack]
theorem byteAt_lt (l : List Bool) (j : Nat) : byteAt l j < 256 := by
  have := val_lt ((List.range 8).map fun i => l.getD (8 * j + i) false)
  simpa [byteAt] using this
theorem byteAt_sum (l : List Bool) (j : Nat) : byteAt l j = 128 * bt l (8 * j) + 64 * bt l (8 * j + 1) + 32 * bt l (8 * j + 2) + 16 * bt l (8 * j + 3) + 8 * bt l (8 * j + 4) + 4 * bt l (8 * j + 5) + 2 * bt l (8 * j + 6) + bt l (8 * j + 7) := by
  have h : (List.range 8) = [0, 1, 2, 3, 4, 5, 6, 7] := by decide
  unfold byteAt
  rw [h]
  simp only [List.map_cons, List.map_nil, val, List.foldl_cons, List.foldl_nil, bt, Nat.add_zero]
  omega
theorem bt_out (l : List Bool) (k : Nat) (h : l.length ≤ k) : bt l k = 0 := by
  simp [bt, List.getD, List.getElem?_eq_none h]
theorem bt_append (l r : List Bool) (k : Nat) : bt (l ++ r) k = if k < l.length then bt l k else bt r (k - l.length) := by
  unfold bt
  simp only [List.getD, List.getElem?_append]
  split <;> rfl
theorem bt_one (b : Bool) (k : Nat) : bt [b] k = if k = 0 then b.toNat else 0 := by
  cases k <;> simp [bt]
theorem byteAt_other (l : List Bool) (b : Bool) (j : Nat) (h : j ≠ l.length / 8) : byteAt (l ++ [b]) j = byteAt l j := by
  have e : ∀ i, i < 8 → bt (l ++ [b]) (8 * j + i) = bt l (8 * j + i) := by
    intro i hi
    rw [bt_append]
    split
    · rfl
    · rename_i h2
      rw [bt_one, if_neg (by omega), bt_out _ _ (by omega)]
  rw [byteAt_sum, byteAt_sum]
  have e0 := e 0 (by omega); rw [Nat.add_zero] at e0
  rw [e0, e 1 (by omega), e 2 (by omega), e 3 (by omega), e 4 (by omega), e 5 (by omega), e 6 (by omega), e 7 (by omega)]
theorem byteAt_snoc (l : List Bool) (b : Bool) : byteAt (l ++ [b]) (l.length / 8) = byteAt l (l.length / 8) + b.toNat * 2 ^ (7 - l.length % 8) := by
  have e : ∀ i, i < 8 → bt (l ++ [b]) (8 * (l.length / 8) + i) = bt l (8 * (l.length / 8) + i) + if i = l.length % 8 then b.toNat else 0 := by
    intro i hi
    rw [bt_append, bt_one]
    by_cases h1 : i < l.length % 8
    · rw [if_pos (by omega), if_neg (by omega), Nat.add_zero]
    · rw [if_neg (by omega), bt_out l _ (by omega)]
      by_cases h2 : i = l.length % 8
      · rw [if_pos (by omega), if_pos h2]; omega
      · rw [if_neg (by omega), if_neg h2]
  rw [byteAt_sum, byteAt_sum]
  have e0 := e 0 (by omega); rw [Nat.add_zero] at e0
  rw [e0, e 1 (by omega), e 2 (by omega), e 3 (by omega), e 4 (by omega), e 5 (by omega), e 6 (by omega), e 7 (by omega)]
  have hm : l.length % 8 < 8 := Nat.mod_lt _ (by omega)
  generalize l.length % 8 = m at *
  have : m = 0 ∨ m = 1 ∨ m = 2 ∨ m = 3 ∨ m = 4 ∨ m = 5 ∨ m = 6 ∨ m = 7 := by omega
  rcases this with rfl | rfl | rfl | rfl | rfl | rfl | rfl | rfl <;> simp <;> omega
/-- The byte into which the next bit goes has zeros from there on. -/
theorem byteAt_low (l : List Bool) : byteAt l (l.length / 8) % 2 ^ (8 - l.length % 8) = 0 := by
  have e : ∀ i, l.length % 8 ≤ i → bt l (8 * (l.length / 8) + i) = 0 := fun i hi => bt_out _ _ (by omega)
  rw [byteAt_sum]
  have hm : l.length % 8 < 8 := Nat.mod_lt _ (by omega)
  generalize l.length % 8 = m at *
  have e0 := e 0; rw [Nat.add_zero] at e0
  have e1 := e 1; have e2 := e 2; have e3 := e 3; have e4 := e 4; have e5 := e 5; have e6 := e 6; have e7 := e 7
  have : m = 0 ∨ m = 1 ∨ m = 2 ∨ m = 3 ∨ m = 4 ∨ m = 5 ∨ m = 6 ∨ m = 7 := by omega
  rcases this with rfl | rfl | rfl | rfl | rfl | rfl | rfl | rfl <;> simp at * <;> omega
theorem or_low (a b s : Nat) (ha : a % 2 ^ (s + 1) = 0) (hb : b ≤ 1) : a ||| b * 2 ^ s = a + b * 2 ^ s := by
  have h1 : a = (a / 2 ^ (s + 1)) <<< (s + 1) := by
    rw [Nat.shiftLeft_eq]
    have := Nat.div_add_mod a (2 ^ (s + 1))
    rw [ha, Nat.add_zero, Nat.mul_comm] at this
    exact this.symm
  have h2 : b * 2 ^ s < 2 ^ (s + 1) := by
    rw [Nat.pow_succ]
    have h3 := Nat.two_pow_pos s
    have := Nat.mul_le_mul_right (2 ^ s) hb
    omega
  rw [h1, ← Nat.shiftLeft_add_eq_or_of_lt h2]
/-- Where the next bit goes: a new byte at a multiple of 8. -/
def room (l : List Bool) : List UInt8 := if l.length % 8 = 0 then pack l ++ [0] else pack l
theorem room_length (l : List Bool) : (room l).length = l.length / 8 + 1 := by
  unfold room
  split
  · simp [pack_length]; omega
  · rw [pack_length]; omega
theorem pack_getElem (l : List Bool) (j : Nat) (h : j < (pack l).length) : (pack l)[j] = UInt8.ofNat (byteAt l j) := by simp [pack]
theorem byteAt_out (l : List Bool) (j : Nat) (h : l.length ≤ 8 * j) : byteAt l j = 0 := by
  rw [byteAt_sum, bt_out l _ (by omega), bt_out l _ (by omega), bt_out l _ (by omega), bt_out l _ (by omega), bt_out l _ (by omega), bt_out l _ (by omega), bt_out l _ (by omega), bt_out l _ (by omega)]
theorem room_getElem (l : List Bool) (j : Nat) (h : j < (room l).length) : (room l)[j] = UInt8.ofNat (byteAt l j) := by
  have hl := room_length l
  unfold room at *
  split
  · rename_i h8
    simp only [if_pos h8] at h hl
    rcases Nat.lt_or_ge j (pack l).length with h1 | h1
    · rw [List.getElem_append_left h1, pack_getElem]
    · rw [List.getElem_append_right h1]
      have : byteAt l j = 0 := byteAt_out l j (by rw [pack_length] at h1; omega)
      rw [this]
      simp
  · rename_i h8
    simp only [if_neg h8] at h
    rw [pack_getElem]
/-- One bit more. -/
theorem pack_snoc (l : List Bool) (b : Bool) : pack (l ++ [b]) = (room l).set (l.length / 8) (UInt8.ofNat (byteAt l (l.length / 8) + b.toNat * 2 ^ (7 - l.length % 8))) := by
  apply List.ext_getElem
  · rw [List.length_set, pack_length, room_length, List.length_append, List.length_singleton]; omega
  · intro j h1 h2
    rw [pack_getElem, List.getElem_set]
    split
    · rename_i h3; rw [← h3, byteAt_snoc]
    · rename_i h3
      rw [room_getElem, byteAt_other l b j (by omega)]
theorem put_arith (old v j len : Nat) (hb : old < 256) (hl : old % 2 ^ (7 - len % 8 + 1) = 0) :
    Go.bits .or .u8 (old : Int) ((v : Int) / 2 ^ j % 2 * 2 ^ (7 - len % 8) % 256) = ((old + (v.testBit j).toNat * 2 ^ (7 - len % 8) : Nat) : Int) := by
  have h1 : (v : Int) / 2 ^ j % 2 = ((v.testBit j).toNat : Int) := by
    rw [bit_nat]; push_cast; rfl
  have h2 : (v.testBit j).toNat ≤ 1 := by cases v.testBit j <;> simp
  have h3 : (2 : Nat) ^ (7 - len % 8) ≤ 2 ^ 7 := Nat.pow_le_pow_right (by omega) (by omega)
  have h4 : (v.testBit j).toNat * 2 ^ (7 - len % 8) ≤ 1 * 2 ^ 7 := Nat.mul_le_mul h2 h3
  rw [h1]
  have h5 : ((v.testBit j).toNat : Int) * 2 ^ (7 - len % 8) = (((v.testBit j).toNat * 2 ^ (7 - len % 8) : Nat) : Int) := by push_cast; rfl
  rw [h5, show ((((v.testBit j).toNat * 2 ^ (7 - len % 8) : Nat) : Int) % 256) = (((v.testBit j).toNat * 2 ^ (7 - len % 8) : Nat) : Int) from by omega]
  rw [Go.u8_or_nat _ _ hb (by omega), or_low _ _ _ hl h2]
theorem num_grow' (c v j : Nat) (hj : 0 < j) (hc : j ≤ c) : num (c - (j - 1)) (v / 2 ^ (j - 1)) = num (c - j) (v / 2 ^ j) ++ [v.testBit (j - 1)] := by
  have := num_snoc (c - j) (v / 2 ^ (j - 1))
  rw [show c - (j - 1) = c - j + 1 from by omega, this, Nat.div_div_eq_div_mul, ← Nat.pow_succ, Nat.succ_eq_add_one, show j - 1 + 1 = j from by omega, Nat.testBit_div_two_pow]
  simp
end Wv.Bit
