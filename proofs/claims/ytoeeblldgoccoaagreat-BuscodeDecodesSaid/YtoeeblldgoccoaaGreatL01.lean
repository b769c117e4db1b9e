/-
  Joined texts: Bits, Bits2, Bits3.
-/
import Derived.Handy
import Derived.IntWalk
import Derived.Laws.BitsAllLaws
import Derived.Lib.BitFns
set_option linter.unusedVariables false
set_option linter.unusedSimpArgs false
set_option maxRecDepth 100000
set_option maxHeartbeats 8000000
namespace Wv.Bit
def num : Nat → Nat → List Bool
 | 0, _ => []
 | k + 1, v => v.testBit k :: num k v
def una (n : Nat) : List Bool := List.replicate n true ++ [false]
def val (l : List Bool) : Nat := l.foldl (fun a b => 2 * a + b.toNat) 0
def blen (n : Nat) : Nat := if n = 0 then 0 else n.log2 + 1
def dig (b : Bool) : UInt8 := if b then 49 else 48
def txt (l : List Bool) : ByteArray := ⟨(l.map dig).toArray⟩
def ones : Nat → List Bool → Nat
 | m + 1, true :: l => ones m l + 1
 | _, _ => 0
theorem snocInd {α : Type} {P : List α → Prop} (h0 : P []) (h1 : ∀ l a, P l → P (l ++ [a])) (l : List α) : P l := by
 rw [← List.reverse_reverse l]
 induction l.reverse with
 | nil => exact h0
 | cons a l ih => rw [List.reverse_cons]; exact h1 _ _ ih
def bt (l : List Bool) (k : Nat) : Nat := (l.getD k false).toNat
theorem bt_le (l : List Bool) (k : Nat) : bt l k ≤ 1 := by unfold bt; cases l.getD k false <;> simp
theorem num_length (k v : Nat) : (num k v).length = k := by
 induction k with
 | zero => rfl
 | succ k ih => simp [num, ih]
theorem una_length (n : Nat) : (una n).length = n + 1 := by simp [una]
theorem val_snoc (l : List Bool) (b : Bool) : val (l ++ [b]) = 2 * val l + b.toNat := by simp [val, List.foldl_append]
theorem val_lt (l : List Bool) : val l < 2 ^ l.length := by
 induction l using snocInd with
 | h0 => simp [val]
 | h1 l b ih =>
  rw [val_snoc, List.length_append, List.length_singleton, Nat.pow_succ]
  cases b <;> simp <;> omega
theorem take_snoc {α : Type} (l : List α) (k : Nat) (d : α) (h : k < l.length) : l.take (k + 1) = l.take k ++ [l.getD k d] := by
 rw [List.take_succ_eq_append_getElem h]
 simp [List.getD, h]
theorem val_take_succ (l : List Bool) (k : Nat) (h : k < l.length) : val (l.take (k + 1)) = 2 * val (l.take k) + bt l k := by
 rw [take_snoc l k false h, val_snoc]; rfl
theorem val_take_lt (l : List Bool) (k : Nat) : val (l.take k) < 2 ^ k := by
 refine Nat.lt_of_lt_of_le (val_lt _) (Nat.pow_le_pow_right (by omega) ?_)
 rw [List.length_take]; omega
theorem val_take_lt62 (l : List Bool) (k : Nat) (h : k ≤ 62) : val (l.take k) < 4611686018427387904 :=
 Nat.lt_of_lt_of_le (val_take_lt l k) (Nat.pow_le_pow_right (show 0 < 2 by omega) h)
theorem txt_size (l : List Bool) : (txt l).size = l.length := by simp [txt, ByteArray.size]
theorem txt_append (a b : List Bool) : txt (a ++ b) = txt a ++ txt b := by
 apply ByteArray.ext
 simp [txt, ByteArray.data_append]
theorem dig_nat (b : Bool) : (dig b).toNat = 48 + b.toNat := by cases b <;> rfl
theorem txt_get (l : List Bool) (k : Nat) (h : k < (txt l).size) : ((txt l)[k]).toNat = 48 + bt l k := by
 have hk : k < l.length := by rw [txt_size] at h; exact h
 have : (txt l)[k] = dig l[k] := by
  show (txt l).data[k]'_ = _
  simp [txt]
 rw [this, dig_nat]
 simp [bt, List.getD, hk]
theorem num_split (k j v : Nat) : num (k + j) v = num k (v / 2 ^ j) ++ num j v := by
 induction k with
 | zero => simp [num]
 | succ k ih =>
  rw [show k + 1 + j = (k + j) + 1 from by omega, num, num, ih, List.cons_append]
  congr 1
  rw [Nat.testBit_div_two_pow]
theorem bit_nat (v k : Nat) : (v.testBit k).toNat = v / 2 ^ k % 2 := by
 rw [Nat.testBit_eq_decide_div_mod_eq];have := Nat.mod_lt (v / 2 ^ k) (show 0 < 2 by omega)
 by_cases h : v / 2 ^ k % 2 = 1
 ·simp [h]
 ·have : v / 2 ^ k % 2 = 0 := by omega
  simp [this]
theorem num_one (v : Nat) : num 1 v = [v.testBit 0] := rfl
theorem num_snoc (k v : Nat) : num (k + 1) v = num k (v / 2) ++ [v.testBit 0] := by
 have := num_split k 1 v
 simpa [num_one] using this
theorem blen_step (n : Nat) (h : 0 < n) : blen n = blen (n / 2) + 1 := by
 unfold blen;rw [if_neg (by omega)]
 by_cases h1 : n / 2 = 0
 ·rw [if_pos h1]
  have : n = 1 := by omega
  subst this; decide
 ·rw [if_neg h1, Nat.log2_def, if_pos (by omega)]
theorem blen_ge (n : Nat) (h : 0 < n) : 2 ^ (blen n - 1) ≤ n ∧ 0 < blen n := by
 unfold blen;rw [if_neg (by omega)];exact ⟨Nat.log2_self_le (by omega), by omega⟩
theorem blen_le (n k : Nat) (h : n < 2 ^ k) : blen n ≤ k := by
 by_cases h0 : n = 0
 ·subst h0; simp [blen]
 ·have := blen_ge n (by omega)
  rcases Nat.lt_or_ge k (blen n) with h1 | h1
  ·have := Nat.pow_le_pow_right (show 0 < 2 by omega) (show k ≤ blen n - 1 by omega)
   omega
  ·exact h1
def par (k p : Int) : Bool := (k == 0 && decide (0 ≤ p) && decide (p ≤ 62)) || (k == 1 && p == 0) || ((k == 2 || k == 3) && decide (0 ≤ p) && decide (p ≤ 30)) || (k == 4 && decide (1 ≤ p) && decide (p ≤ 4294967296))
def vld (k p v : Int) : Bool := par k p && decide (0 ≤ v) && ((k == 0 && decide (v < 2 ^ p.toNat)) || (k == 1 && decide (v ≤ 4096)) || (k == 2 && decide (v / 2 ^ p.toNat ≤ 4096)) || (k == 3 && decide (v ≤ 4611686018427387903)) || (k == 4 && decide (v < p)))
def cbits (k p v : Nat) : List Bool :=
 if k = 0 then num p v
 else if k = 1 then una v
 else if k = 2 then una (v / 2 ^ p) ++ num p v
 else if k = 3 then una (blen (v + 2 ^ p) - 1 - p) ++ num (blen (v + 2 ^ p) - 1) (v + 2 ^ p)
 else if v < 2 ^ blen p - p then num (blen p - 1) v else num (blen p) (v + (2 ^ blen p - p))
def rdp (p m : Nat) (l : List Bool) (g : Bool) : Nat × Nat × Nat :=
 let n := ones m l
 let q := if g then n + p else p
 if n = m then (0, 0, 2) else if n = l.length then (0, 0, 12) else if l.length < n + 1 + q then (0, 0, 12)
 else if g then (if 62 < n + p then (0, 0, 2) else (2 ^ (n + p) - 2 ^ p + val ((l.drop (n + 1)).take q), n + 1 + q, 0))
 else (n * 2 ^ p + val ((l.drop (n + 1)).take q), n + 1 + q, 0)
def rdt (p : Nat) (l : List Bool) : Nat × Nat × Nat :=
 let k := blen p - 1
 let u := 2 ^ blen p - p
 if l.length < k then (0, 0, 12)
 else if val (l.take k) < u then (val (l.take k), k, 0)
 else if l.length < k + 1 then (0, 0, 12) else (val (l.take (k + 1)) - u, k + 1, 0)
def rd (k p : Nat) (l : List Bool) : Nat × Nat × Nat :=
 if k = 0 then (if l.length < p then (0, 0, 12) else (val (l.take p), p, 0))
 else if k = 1 ∨ k = 2 then rdp p 4097 l false
 else if k = 3 then rdp p 63 l true
 else rdt p l
def getm (k p most : Int) (l : List Bool) : List Bool × Nat × Nat :=
 if par k p then
  let r := rd k.toNat p.toNat l
  if r.2.2 ≠ 0 then (l, 0, r.2.2) else if most < r.1 ∨ 4611686018427387903 < r.1 then (l, 0, 2) else (l.drop r.2.1, r.1, 0)
 else (l, 0, 1)
theorem par_cases {k p : Int} (h : par k p = true) : (k = 0 ∧ 0 ≤ p ∧ p ≤ 62) ∨ (k = 1 ∧ p = 0) ∨ (k = 2 ∧ 0 ≤ p ∧ p ≤ 30) ∨ (k = 3 ∧ 0 ≤ p ∧ p ≤ 30) ∨ (k = 4 ∧ 1 ≤ p ∧ p ≤ 4294967296) := by
 simp only [par, Bool.or_eq_true, Bool.and_eq_true, beq_iff_eq, decide_eq_true_eq] at h;omega
theorem pow_cast (k : Nat) : (2 : Int) ^ k = ((2 ^ k : Nat) : Int) := by push_cast; rfl
theorem pow62 (k : Nat) (h : k ≤ 62) : (2 : Nat) ^ k ≤ 4611686018427387904 := Nat.pow_le_pow_right (n := 2) (by omega) h
theorem pow30 (k : Nat) (h : k ≤ 30) : (2 : Nat) ^ k ≤ 1073741824 := Nat.pow_le_pow_right (n := 2) (by omega) h
theorem vld_par {k p v : Int} (h : vld k p v = true) : par k p = true := by
 simp only [vld, Bool.and_eq_true] at h; exact h.1.1
theorem vld_cases {k p v : Int} (h : vld k p v = true) : 0 ≤ v ∧ ((k = 0 ∧ 0 ≤ p ∧ p ≤ 62 ∧ v < 2 ^ p.toNat) ∨ (k = 1 ∧ p = 0 ∧ v ≤ 4096) ∨ (k = 2 ∧ 0 ≤ p ∧ p ≤ 30 ∧ v / 2 ^ p.toNat ≤ 4096) ∨ (k = 3 ∧ 0 ≤ p ∧ p ≤ 30 ∧ v ≤ 4611686018427387903) ∨ (k = 4 ∧ 1 ≤ p ∧ p ≤ 4294967296 ∧ v < p)) := by
 have hp := par_cases (vld_par h);simp only [vld, Bool.or_eq_true, Bool.and_eq_true, beq_iff_eq, decide_eq_true_eq] at h;obtain ⟨⟨_, h1⟩, h2⟩ := h;refine ⟨h1, ?_⟩
 rcases hp with ⟨rfl, a, b⟩ | ⟨rfl, a⟩ | ⟨rfl, a, b⟩ | ⟨rfl, a, b⟩ | ⟨rfl, a, b⟩ <;> simp_all
theorem cbits_len {k p v : Int} (h : vld k p v = true) : (cbits k.toNat p.toNat v.toNat).length ≤ 8192 := by
 obtain ⟨h0, h1 | h1 | h1 | h1 | h1⟩ := vld_cases h
 ·obtain ⟨rfl, a, b, c⟩ := h1
  simp [cbits, num_length]; omega
 ·obtain ⟨rfl, a, c⟩ := h1
  simp [cbits, una_length]; omega
 ·obtain ⟨rfl, a, b, c⟩ := h1
  have : (v.toNat / 2 ^ p.toNat : Nat) ≤ 4096 := by
   have h2 : ((v.toNat / 2 ^ p.toNat : Nat) : Int) = v / 2 ^ p.toNat := by rw [pow_cast]; push_cast; rw [Int.toNat_of_nonneg h0]
   omega
  simp [cbits, una_length, num_length]; omega
 ·obtain ⟨rfl, a, b, c⟩ := h1
  have h2 := pow30 p.toNat (by omega);have := blen_le (v.toNat + 2 ^ p.toNat) 63 (by omega)
  simp [cbits, una_length, num_length]; omega
 ·obtain ⟨rfl, a, b, c⟩ := h1
  have := blen_le p.toNat 33 (by omega)
  simp [cbits]
  split <;> simp [num_length] <;> omega
structure Cd where
 k : Int
 p : Int
 v : Int
def Cd.bits (c : Cd) : List Bool := cbits c.k.toNat c.p.toNat c.v.toNat
def Cd.ok (c : Cd) : Bool := vld c.k c.p c.v
def putm (b : List Bool) (c : Cd) : List Bool × Nat :=
 if c.ok then (if 65536 < b.length + c.bits.length then (b, 9) else (b ++ c.bits, 0)) else (b, 1)
def rbit (s : ByteArray) (i : Nat) : Bool := ((s.data.toList.getD (i / 8) 0).toNat).testBit (7 - i % 8)
def rbits (s : ByteArray) (n : Nat) : List Bool := (List.range n).map (rbit s)
theorem rbits_length (s : ByteArray) (n : Nat) : (rbits s n).length = n := by simp [rbits]
theorem rbits_get (s : ByteArray) (n i : Nat) (h : i < n) : (rbits s n).getD i false = rbit s i := by
 simp [rbits, List.getD, h]
theorem rbit_nat (s : ByteArray) (i : Nat) (h : i / 8 < s.size) : (rbit s i).toNat = (s[i / 8]).toNat / 2 ^ (7 - i % 8) % 2 := by
 have h2 : s.data.toList.getD (i / 8) 0 = s[i / 8] := by
  simp only [List.getD, Array.getElem?_toList];rw [Array.getElem?_eq_getElem h];rfl
 rw [rbit, h2, bit_nat]
theorem bt_drop (l : List Bool) (x k : Nat) : bt (l.drop x) k = bt l (x + k) := by
 unfold bt
 simp [List.getD, List.getElem?_drop]
theorem bt_rbits (s : ByteArray) (n i : Nat) (h : i < n) (h2 : i / 8 < s.size) : bt (rbits s n) i = (s[i / 8]).toNat / 2 ^ (7 - i % 8) % 2 := by
 rw [bt, rbits_get s n i h, rbit_nat s i h2]
theorem or_i64 (a b : Nat) (ha : a < 9223372036854775808) (hb : b < 9223372036854775808) : Go.bits .or .i64 (a : Int) (b : Int) = ((a ||| b : Nat) : Int) := by
 have h1 : (BitVec.ofInt 64 (a : Int)).toNat = a := by rw [BitVec.ofInt_natCast, BitVec.toNat_ofNat]; exact Nat.mod_eq_of_lt (by omega)
 have h2 : (BitVec.ofInt 64 (b : Int)).toNat = b := by rw [BitVec.ofInt_natCast, BitVec.toNat_ofNat]; exact Nat.mod_eq_of_lt (by omega)
 have h3 : a ||| b < 2 ^ 63 := Nat.or_lt_two_pow (by omega) (by omega)
 show Go.IntKind.i64.wrap ((BitVec.ofInt 64 (a : Int) ||| BitVec.ofInt 64 (b : Int)).toNat : Int) = _
 rw [BitVec.toNat_or, h1, h2, Go.IntKind.wrap_i64];omega
theorem or_bit (v b : Nat) (hb : b ≤ 1) : 2 * v ||| b = 2 * v + b := by
 have := Nat.shiftLeft_add_eq_or_of_lt (b := b) (i := 1) (by omega) v;rw [Nat.shiftLeft_eq] at this;rw [Nat.mul_comm, show v * 2 = v * 2 ^ 1 from rfl, ← this]
theorem and1_u8 (a : Nat) (ha : a < 256) : Go.bits .and .u8 (a : Int) 1 = ((a % 2 : Nat) : Int) := by
 have := Go.u8_and_nat a 1 ha (by omega);rw [Nat.and_one_is_mod] at this;exact this
theorem take_arith (v B e : Nat) (hv : v < 4611686018427387904) (hB : B < 256) :
  Go.bits .or .i64 (Go.RowKit.wrap64 ((v : Int) * 2)) (Go.RowKit.wrap64 (Go.bits .and .u8 ((B : Int) / 2 ^ e) 1)) = ((2 * v + B / 2 ^ e % 2 : Nat) : Int) := by
 have h1 : (B : Int) / 2 ^ e = ((B / 2 ^ e : Nat) : Int) := by push_cast; rfl
 have h2 : B / 2 ^ e ≤ B := Nat.div_le_self _ _
 have h3 : (v : Int) * 2 = ((2 * v : Nat) : Int) := by push_cast; omega
 have h4 : B / 2 ^ e % 2 < 2 := Nat.mod_lt _ (by omega);rw [h1, and1_u8 _ (by omega), h3];rw [Go.IntWalk.wrap64_in _ (by omega), Go.IntWalk.wrap64_in _ (by omega), or_i64 _ _ (by omega) (by omega), or_bit _ _ (by omega)]
theorem bitLen_eq (x : Nat) (h : x < 2 ^ 64) : Go.Lib.bitLen x = blen x := by
  have key : ∀ f y, y < 2 ^ f → Go.Lib.bitLenAux f y = blen y := by
    intro f
    induction f with
    | zero => intro y hy; have : y = 0 := by omega
              subst this; rfl
    | succ f ih =>
      intro y hy;unfold Go.Lib.bitLenAux
      by_cases h0 : y = 0
      · subst h0; rfl
      · rw [if_neg h0, ih (y / 2) (by rw [Nat.pow_succ] at hy; omega), blen_step y (by omega)]; omega
  exact key 64 x h
def RdRes (k p : Nat) (L : List Bool) (x : Nat) (v : Int) (e y : Nat) : Prop :=
 ((rd k p L).2.2 ≠ 0 → e = (rd k p L).2.2) ∧ ((rd k p L).2.2 = 0 → (rd k p L).1 ≤ 4611686018427387903 → e = 0 ∧ v = ((rd k p L).1 : Nat) ∧ y = x + (rd k p L).2.1) ∧
 ((rd k p L).2.2 = 0 → 4611686018427387903 < (rd k p L).1 → e = 2)
theorem getm_err {k p m : Int} {L : List Bool} {x e y : Nat} {v : Int} (hp : par k p = true) (h : RdRes k.toNat p.toNat L x v e y) (he : e ≠ 0) : getm k p m L = (L, 0, e) := by
 obtain ⟨h1, h2, h3⟩ := h;simp only [getm, hp, if_true]
 by_cases c : (rd k.toNat p.toNat L).2.2 = 0
 ·rw [if_neg (by omega)]
  by_cases d : (rd k.toNat p.toNat L).1 ≤ 4611686018427387903
  ·exact (he (h2 c d).1).elim
  ·rw [if_pos (.inr (by omega)), h3 c (by omega)]
 ·rw [if_pos c, h1 c]
theorem getm_ok {k p m : Int} {L : List Bool} {x y : Nat} {v : Int} (hp : par k p = true) (h : RdRes k.toNat p.toNat L x v 0 y) :
  0 ≤ v ∧ (getm k p m L = if m < v then (L, 0, 2) else (L.drop (y - x), v.toNat, 0)) ∧ x ≤ y := by
 obtain ⟨h1, h2, h3⟩ := h
 have c : (rd k.toNat p.toNat L).2.2 = 0 := by
  rcases Nat.eq_zero_or_pos (rd k.toNat p.toNat L).2.2 with c | c
  ·exact c
  ·have := h1 (by omega); omega
 have d : (rd k.toNat p.toNat L).1 ≤ 4611686018427387903 := by
  rcases Nat.lt_or_ge 4611686018427387903 (rd k.toNat p.toNat L).1 with d | d
  ·have := h3 c d; omega
  ·exact d
 obtain ⟨_, hv, hy⟩ := h2 c d;refine ⟨by omega, ?_, by omega⟩;simp only [getm, hp, if_true];rw [if_neg (by omega)]
 by_cases hm : m < v
 ·rw [if_pos hm, if_pos (.inl (by omega))]
 ·rw [if_neg hm, if_neg (by omega), show y - x = (rd k.toNat p.toNat L).2.1 from by omega, show v.toNat = (rd k.toNat p.toNat L).1 from by omega]
def byteAt (l : List Bool) (j : Nat) : Nat := val ((List.range 8).map fun i => l.getD (8 * j + i) false)
def pack (l : List Bool) : List UInt8 := (List.range ((l.length + 7) / 8)).map fun j => UInt8.ofNat (byteAt l j)
theorem pack_length (l : List Bool) : (pack l).length = (l.length + 7) / 8 := by simp [pack]
theorem byteAt_lt (l : List Bool) (j : Nat) : byteAt l j < 256 := by
 have := val_lt ((List.range 8).map fun i => l.getD (8 * j + i) false)
 simpa [byteAt] using this
theorem byteAt_sum (l : List Bool) (j : Nat) : byteAt l j = 128 * bt l (8 * j) + 64 * bt l (8 * j + 1) + 32 * bt l (8 * j + 2) + 16 * bt l (8 * j + 3) + 8 * bt l (8 * j + 4) + 4 * bt l (8 * j + 5) + 2 * bt l (8 * j + 6) + bt l (8 * j + 7) := by
 have h : (List.range 8) = [0, 1, 2, 3, 4, 5, 6, 7] := by decide
 unfold byteAt;rw [h];simp only [List.map_cons, List.map_nil, val, List.foldl_cons, List.foldl_nil, bt, Nat.add_zero];omega
theorem bt_out (l : List Bool) (k : Nat) (h : l.length ≤ k) : bt l k = 0 := by
 simp [bt, List.getD, List.getElem?_eq_none h]
theorem bt_append (l r : List Bool) (k : Nat) : bt (l ++ r) k = if k < l.length then bt l k else bt r (k - l.length) := by
 unfold bt;simp only [List.getD, List.getElem?_append]
 split <;> rfl
theorem bt_one (b : Bool) (k : Nat) : bt [b] k = if k = 0 then b.toNat else 0 := by
 cases k <;> simp [bt]
theorem byteAt_other (l : List Bool) (b : Bool) (j : Nat) (h : j ≠ l.length / 8) : byteAt (l ++ [b]) j = byteAt l j := by
 have e : ∀ i, i < 8 → bt (l ++ [b]) (8 * j + i) = bt l (8 * j + i) := by
  intro i hi;rw [bt_append]
  split
  ·rfl
  ·rename_i h2
   rw [bt_one, if_neg (by omega), bt_out _ _ (by omega)]
 rw [byteAt_sum, byteAt_sum]
 have e0 := e 0 (by omega); rw [Nat.add_zero] at e0
 rw [e0, e 1 (by omega), e 2 (by omega), e 3 (by omega), e 4 (by omega), e 5 (by omega), e 6 (by omega), e 7 (by omega)]
theorem byteAt_snoc (l : List Bool) (b : Bool) : byteAt (l ++ [b]) (l.length / 8) = byteAt l (l.length / 8) + b.toNat * 2 ^ (7 - l.length % 8) := by
 have e : ∀ i, i < 8 → bt (l ++ [b]) (8 * (l.length / 8) + i) = bt l (8 * (l.length / 8) + i) + if i = l.length % 8 then b.toNat else 0 := by
  intro i hi;rw [bt_append, bt_one]
  by_cases h1 : i < l.length % 8
  ·rw [if_pos (by omega), if_neg (by omega), Nat.add_zero]
  ·rw [if_neg (by omega), bt_out l _ (by omega)]
   by_cases h2 : i = l.length % 8
   ·rw [if_pos (by omega), if_pos h2]; omega
   ·rw [if_neg (by omega), if_neg h2]
 rw [byteAt_sum, byteAt_sum]
 have e0 := e 0 (by omega); rw [Nat.add_zero] at e0
 rw [e0, e 1 (by omega), e 2 (by omega), e 3 (by omega), e 4 (by omega), e 5 (by omega), e 6 (by omega), e 7 (by omega)];have hm : l.length % 8 < 8 := Nat.mod_lt _ (by omega)
 generalize l.length % 8 = m at *
 have : m = 0 ∨ m = 1 ∨ m = 2 ∨ m = 3 ∨ m = 4 ∨ m = 5 ∨ m = 6 ∨ m = 7 := by omega
 rcases this with rfl | rfl | rfl | rfl | rfl | rfl | rfl | rfl <;> simp <;> omega
theorem byteAt_low (l : List Bool) : byteAt l (l.length / 8) % 2 ^ (8 - l.length % 8) = 0 := by
 have e : ∀ i, l.length % 8 ≤ i → bt l (8 * (l.length / 8) + i) = 0 := fun i hi => bt_out _ _ (by omega)
 rw [byteAt_sum];have hm : l.length % 8 < 8 := Nat.mod_lt _ (by omega)
 generalize l.length % 8 = m at *
 have e0 := e 0; rw [Nat.add_zero] at e0
 have e1 := e 1; have e2 := e 2; have e3 := e 3; have e4 := e 4; have e5 := e 5; have e6 := e 6; have e7 := e 7
 have : m = 0 ∨ m = 1 ∨ m = 2 ∨ m = 3 ∨ m = 4 ∨ m = 5 ∨ m = 6 ∨ m = 7 := by omega
 rcases this with rfl | rfl | rfl | rfl | rfl | rfl | rfl | rfl <;> simp at * <;> omega
theorem or_low (a b s : Nat) (ha : a % 2 ^ (s + 1) = 0) (hb : b ≤ 1) : a ||| b * 2 ^ s = a + b * 2 ^ s := by
 have h1 : a = (a / 2 ^ (s + 1)) <<< (s + 1) := by
  rw [Nat.shiftLeft_eq];have := Nat.div_add_mod a (2 ^ (s + 1));rw [ha, Nat.add_zero, Nat.mul_comm] at this;exact this.symm
 have h2 : b * 2 ^ s < 2 ^ (s + 1) := by
  rw [Nat.pow_succ];have h3 := Nat.two_pow_pos s;have := Nat.mul_le_mul_right (2 ^ s) hb;omega
 rw [h1, ← Nat.shiftLeft_add_eq_or_of_lt h2]
def room (l : List Bool) : List UInt8 := if l.length % 8 = 0 then pack l ++ [0] else pack l
theorem room_length (l : List Bool) : (room l).length = l.length / 8 + 1 := by
 unfold room
 split
 ·simp [pack_length]; omega
 ·rw [pack_length]; omega
theorem pack_getElem (l : List Bool) (j : Nat) (h : j < (pack l).length) : (pack l)[j] = UInt8.ofNat (byteAt l j) := by simp [pack]
theorem byteAt_out (l : List Bool) (j : Nat) (h : l.length ≤ 8 * j) : byteAt l j = 0 := by
 rw [byteAt_sum, bt_out l _ (by omega), bt_out l _ (by omega), bt_out l _ (by omega), bt_out l _ (by omega), bt_out l _ (by omega), bt_out l _ (by omega), bt_out l _ (by omega), bt_out l _ (by omega)]
theorem room_getElem (l : List Bool) (j : Nat) (h : j < (room l).length) : (room l)[j] = UInt8.ofNat (byteAt l j) := by
 have hl := room_length l;unfold room at *
 split
 ·rename_i h8
  simp only [if_pos h8] at h hl
  rcases Nat.lt_or_ge j (pack l).length with h1 | h1
  ·rw [List.getElem_append_left h1, pack_getElem]
  ·rw [List.getElem_append_right h1]
   have : byteAt l j = 0 := byteAt_out l j (by rw [pack_length] at h1; omega);rw [this]
   simp
 ·rename_i h8
  simp only [if_neg h8] at h;rw [pack_getElem]
theorem pack_snoc (l : List Bool) (b : Bool) : pack (l ++ [b]) = (room l).set (l.length / 8) (UInt8.ofNat (byteAt l (l.length / 8) + b.toNat * 2 ^ (7 - l.length % 8))) := by
 apply List.ext_getElem
 ·rw [List.length_set, pack_length, room_length, List.length_append, List.length_singleton]; omega
 ·intro j h1 h2
  rw [pack_getElem, List.getElem_set]
  split
  ·rename_i h3; rw [← h3, byteAt_snoc]
  ·rename_i h3
   rw [room_getElem, byteAt_other l b j (by omega)]
theorem put_arith (old v j len : Nat) (hb : old < 256) (hl : old % 2 ^ (7 - len % 8 + 1) = 0) :
  Go.bits .or .u8 (old : Int) ((v : Int) / 2 ^ j % 2 * 2 ^ (7 - len % 8) % 256) = ((old + (v.testBit j).toNat * 2 ^ (7 - len % 8) : Nat) : Int) := by
 have h1 : (v : Int) / 2 ^ j % 2 = ((v.testBit j).toNat : Int) := by
  rw [bit_nat]; push_cast; rfl
 have h2 : (v.testBit j).toNat ≤ 1 := by cases v.testBit j <;> simp
 have h3 : (2 : Nat) ^ (7 - len % 8) ≤ 2 ^ 7 := Nat.pow_le_pow_right (by omega) (by omega);have h4 : (v.testBit j).toNat * 2 ^ (7 - len % 8) ≤ 1 * 2 ^ 7 := Nat.mul_le_mul h2 h3;rw [h1]
 have h5 : ((v.testBit j).toNat : Int) * 2 ^ (7 - len % 8) = (((v.testBit j).toNat * 2 ^ (7 - len % 8) : Nat) : Int) := by push_cast; rfl
 rw [h5, show ((((v.testBit j).toNat * 2 ^ (7 - len % 8) : Nat) : Int) % 256) = (((v.testBit j).toNat * 2 ^ (7 - len % 8) : Nat) : Int) from by omega];rw [Go.u8_or_nat _ _ hb (by omega), or_low _ _ _ hl h2]
theorem num_grow' (c v j : Nat) (hj : 0 < j) (hc : j ≤ c) : num (c - (j - 1)) (v / 2 ^ (j - 1)) = num (c - j) (v / 2 ^ j) ++ [v.testBit (j - 1)] := by
 have := num_snoc (c - j) (v / 2 ^ (j - 1));rw [show c - (j - 1) = c - j + 1 from by omega, this, Nat.div_div_eq_div_mul, ← Nat.pow_succ, Nat.succ_eq_add_one, show j - 1 + 1 = j from by omega, Nat.testBit_div_two_pow]
 simp
end Wv.Bit
