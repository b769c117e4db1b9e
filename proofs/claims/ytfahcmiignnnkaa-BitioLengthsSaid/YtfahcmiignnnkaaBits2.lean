/-
  Bit strings in plain Lean, second part: the bits in bytes, and the bytes of bits.
-/
import Derived.Test.YtfahcmiignnnkaaBits
import Derived.Laws.BitsAllLaws
import Derived.Lib.BitFns
namespace Wv.Bit
/-- A bit of some bytes, the most significant one of each first. -/
def rbit (s : ByteArray) (i : Nat) : Bool := ((s.data.toList.getD (i / 8) 0).toNat).testBit (7 - i % 8)
def rbits (s : ByteArray) (n : Nat) : List Bool := (List.range n).map (rbit s)
theorem rbits_length (s : ByteArray) (n : Nat) : (rbits s n).length = n := by simp [rbits]
theorem rbits_get (s : ByteArray) (n i : Nat) (h : i < n) : (rbits s n).getD i false = rbit s i := by
  simp [rbits, List.getD, h]
theorem rbit_nat (s : ByteArray) (i : Nat) (h : i / 8 < s.size) : (rbit s i).toNat = (s[i / 8]).toNat / 2 ^ (7 - i % 8) % 2 := by
  have h2 : s.data.toList.getD (i / 8) 0 = s[i / 8] := by
    simp only [List.getD, Array.getElem?_toList]
    rw [Array.getElem?_eq_getElem h]
    rfl
  rw [rbit, h2, bit_nat]
theorem bt_drop (l : List Bool) (x k : Nat) : bt (l.drop x) k = bt l (x + k) := by
  unfold bt
  simp [List.getD, List.getElem?_drop]
theorem bt_rbits (s : ByteArray) (n i : Nat) (h : i < n) (h2 : i / 8 < s.size) : bt (rbits s n) i = (s[i / 8]).toNat / 2 ^ (7 - i % 8) % 2 := by
  rw [bt, rbits_get s n i h, rbit_nat s i h2]
theorem or_i64 (a b : Nat) (ha : a < 9223372036854775808) (hb : b < 9223372036854775808) : Go.bits .or .i64 (a : Int) (b : Int) = ((a ||| b : Nat) : Int) := by
  have h1 : (BitVec.ofInt 64 (a : Int)).toNat = a := by rw [BitVec.ofInt_natCast, BitVec.toNat_ofNat]; exact Nat.mod_eq_of_lt (by omega)
  have h2 : (BitVec.ofInt 64 (b : Int)).toNat = b := by rw [BitVec.ofInt_natCast, BitVec.toNat_ofNat]; exact Nat.mod_eq_of_lt (by omega)
  have h3 : a ||| b < 2 ^ 63 := Nat.or_lt_two_pow (by omega) (by omega)
  show Go.IntKind.i64.wrap ((BitVec.ofInt 64 (a : Int) ||| BitVec.ofInt 64 (b : Int)).toNat : Int) = _
  rw [BitVec.toNat_or, h1, h2, Go.IntKind.wrap_i64]
  omega
theorem or_bit (v b : Nat) (hb : b ≤ 1) : 2 * v ||| b = 2 * v + b := by
  have := Nat.shiftLeft_add_eq_or_of_lt (b := b) (i := 1) (by omega) v
  rw [Nat.shiftLeft_eq] at this
  rw [Nat.mul_comm, show v * 2 = v * 2 ^ 1 from rfl, ← this]
theorem and1_u8 (a : Nat) (ha : a < 256) : Go.bits .and .u8 (a : Int) 1 = ((a % 2 : Nat) : Int) := by
  have := Go.u8_and_nat a 1 ha (by omega)
  rw [Nat.and_one_is_mod] at this
  exact this
theorem take_arith (v B e : Nat) (hv : v < 4611686018427387904) (hB : B < 256) :
    Go.bits .or .i64 (Go.RowKit.wrap64 ((v : Int) * 2)) (Go.RowKit.wrap64 (Go.bits .and .u8 ((B : Int) / 2 ^ e) 1)) = ((2 * v + B / 2 ^ e % 2 : Nat) : Int) := by
  have h1 : (B : Int) / 2 ^ e = ((B / 2 ^ e : Nat) : Int) := by push_cast; rfl
  have h2 : B / 2 ^ e ≤ B := Nat.div_le_self _ _
  have h3 : (v : Int) * 2 = ((2 * v : Nat) : Int) := by push_cast; omega
  have h4 : B / 2 ^ e % 2 < 2 := Nat.mod_lt _ (by omega)
  rw [h1, and1_u8 _ (by omega), h3]
  rw [Go.IntWalk.wrap64_in _ (by omega), Go.IntWalk.wrap64_in _ (by omega), or_i64 _ _ (by omega) (by omega), or_bit _ _ (by omega)]
/-- What the program's 'ones' returns, and where it leaves the reader if it succeeds. -/
def onesR (m : Nat) (L : List Bool) : Nat × Nat :=
  if ones (m + 1) L = m + 1 then (0, 2) else if ones (m + 1) L = L.length then (ones (m + 1) L, 12) else (ones (m + 1) L, 0)
def onesAt (m : Nat) (L : List Bool) (x y : Nat) : Prop := (onesR m L).2 = 0 → y = x + (onesR m L).1 + 1
theorem bitLen_eq (x : Nat) (h : x < 2 ^ 64) : Go.Lib.bitLen x = blen x := by
  have key : ∀ f y, y < 2 ^ f → Go.Lib.bitLenAux f y = blen y := by
    intro f
    induction f with
    | zero => intro y hy; have : y = 0 := by omega
              subst this; rfl
    | succ f ih =>
      intro y hy
      unfold Go.Lib.bitLenAux
      by_cases h0 : y = 0
      · subst h0; rfl
      · rw [if_neg h0, ih (y / 2) (by rw [Nat.pow_succ] at hy; omega), blen_step y (by omega)]; omega
  exact key 64 x h
/-- What a kind's 'read' of the program returns (v, e), and where it leaves the reader (y), in terms of 'rd'. -/
def RdRes (k p : Nat) (L : List Bool) (x : Nat) (v : Int) (e y : Nat) : Prop :=
  ((rd k p L).2.2 ≠ 0 → e = (rd k p L).2.2) ∧ ((rd k p L).2.2 = 0 → (rd k p L).1 ≤ 4611686018427387903 → e = 0 ∧ v = ((rd k p L).1 : Nat) ∧ y = x + (rd k p L).2.1) ∧
  ((rd k p L).2.2 = 0 → 4611686018427387903 < (rd k p L).1 → e = 2)
theorem getm_err {k p m : Int} {L : List Bool} {x e y : Nat} {v : Int} (hp : par k p = true) (h : RdRes k.toNat p.toNat L x v e y) (he : e ≠ 0) : getm k p m L = (L, 0, e) := by
  obtain ⟨h1, h2, h3⟩ := h
  simp only [getm, hp, if_true]
  by_cases c : (rd k.toNat p.toNat L).2.2 = 0
  · rw [if_neg (by omega)]
    by_cases d : (rd k.toNat p.toNat L).1 ≤ 4611686018427387903
    · exact (he (h2 c d).1).elim
    · rw [if_pos (.inr (by omega)), h3 c (by omega)]
  · rw [if_pos c, h1 c]
theorem getm_ok {k p m : Int} {L : List Bool} {x y : Nat} {v : Int} (hp : par k p = true) (h : RdRes k.toNat p.toNat L x v 0 y) :
    0 ≤ v ∧ (getm k p m L = if m < v then (L, 0, 2) else (L.drop (y - x), v.toNat, 0)) ∧ x ≤ y := by
  obtain ⟨h1, h2, h3⟩ := h
  have c : (rd k.toNat p.toNat L).2.2 = 0 := by
    rcases Nat.eq_zero_or_pos (rd k.toNat p.toNat L).2.2 with c | c
    · exact c
    · have := h1 (by omega); omega
  have d : (rd k.toNat p.toNat L).1 ≤ 4611686018427387903 := by
    rcases Nat.lt_or_ge 4611686018427387903 (rd k.toNat p.toNat L).1 with d | d
    · have := h3 c d; omega
    · exact d
  obtain ⟨_, hv, hy⟩ := h2 c d
  refine ⟨by omega, ?_, by omega⟩
  simp only [getm, hp, if_true]
  rw [if_neg (by omega)]
  by_cases hm : m < v
  · rw [if_pos hm, if_pos (.inl (by omega))]
  · rw [if_neg hm, if_neg (by omega), show y - x = (rd k.toNat p.toNat L).2.1 from by omega, show v.toNat = (rd k.toNat p.toNat L).1 from by omega]
theorem or_shift (q p r : Nat) (h : r < 2 ^ p) : q * 2 ^ p ||| r = q * 2 ^ p + r := by
  have := Nat.shiftLeft_add_eq_or_of_lt h q
  rw [Nat.shiftLeft_eq] at this
  exact this.symm
theorem rice_or (q p r : Nat) (hq : q ≤ 4096) (hp : p ≤ 30) (hr : r < 2 ^ p) : Go.bits .or .i64 (Go.RowKit.wrap64 ((q : Int) * 2 ^ p)) (r : Int) = ((q * 2 ^ p + r : Nat) : Int) := by
  have h1 := pow30 p hp
  have h2 : q * 2 ^ p ≤ 4096 * 1073741824 := Nat.mul_le_mul hq h1
  have h3 : ((q : Int) * 2 ^ p) = ((q * 2 ^ p : Nat) : Int) := by push_cast; rfl
  rw [h3, Go.IntWalk.wrap64_in _ (by omega), or_i64 _ _ (by omega) (by omega), or_shift _ _ _ hr]
end Wv.Bit
