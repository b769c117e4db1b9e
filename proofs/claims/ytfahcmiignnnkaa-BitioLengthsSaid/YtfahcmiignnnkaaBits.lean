/-
  Bit strings in plain Lean: numbers as bits, unary runs, values of bits, and their first laws. No program stands here.
-/
import Derived.Handy
import Derived.IntWalk
namespace Wv.Bit
/-- The lowest bits of a number, the most significant one first. -/
def num : Nat → Nat → List Bool
  | 0, _ => []
  | k + 1, v => v.testBit k :: num k v
def una (n : Nat) : List Bool := List.replicate n true ++ [false]
def val (l : List Bool) : Nat := l.foldl (fun a b => 2 * a + b.toNat) 0
def blen (n : Nat) : Nat := if n = 0 then 0 else n.log2 + 1
def dig (b : Bool) : UInt8 := if b then 49 else 48
/-- Bits as a text of 0 and 1. -/
def txt (l : List Bool) : ByteArray := ⟨(l.map dig).toArray⟩
/-- How many ones stand in front, up to a limit. -/
def ones : Nat → List Bool → Nat
  | m + 1, true :: l => ones m l + 1
  | _, _ => 0

theorem snocInd {α : Type} {P : List α → Prop} (h0 : P []) (h1 : ∀ l a, P l → P (l ++ [a])) (l : List α) : P l := by
  rw [← List.reverse_reverse l]
  induction l.reverse with
  | nil => exact h0
  | cons a l ih => rw [List.reverse_cons]; exact h1 _ _ ih
/-- A bit as a number. -/
def bt (l : List Bool) (k : Nat) : Nat := (l.getD k false).toNat
theorem bt_le (l : List Bool) (k : Nat) : bt l k ≤ 1 := by unfold bt; cases l.getD k false <;> simp
theorem num_length (k v : Nat) : (num k v).length = k := by
  induction k with
  | zero => rfl
  | succ k ih => simp [num, ih]
theorem una_length (n : Nat) : (una n).length = n + 1 := by simp [una]
theorem val_snoc (l : List Bool) (b : Bool) : val (l ++ [b]) = 2 * val l + b.toNat := by simp [val, List.foldl_append]
theorem val_lt (l : List Bool) : val l < 2 ^ l.length := by
  induction l using snocInd with
  | h0 => simp [val]
  | h1 l b ih =>
    rw [val_snoc, List.length_append, List.length_singleton, Nat.pow_succ]
    cases b <;> simp <;> omega
theorem take_snoc {α : Type} (l : List α) (k : Nat) (d : α) (h : k < l.length) : l.take (k + 1) = l.take k ++ [l.getD k d] := by
  rw [List.take_succ_eq_append_getElem h]
  simp [List.getD, h]
theorem val_take_succ (l : List Bool) (k : Nat) (h : k < l.length) : val (l.take (k + 1)) = 2 * val (l.take k) + bt l k := by
  rw [take_snoc l k false h, val_snoc]; rfl
theorem val_take_lt (l : List Bool) (k : Nat) : val (l.take k) < 2 ^ k := by
  refine Nat.lt_of_lt_of_le (val_lt _) (Nat.pow_le_pow_right (by omega) ?_)
  rw [List.length_take]; omega
theorem val_take_lt62 (l : List Bool) (k : Nat) (h : k ≤ 62) : val (l.take k) < 4611686018427387904 :=
  Nat.lt_of_lt_of_le (val_take_lt l k) (Nat.pow_le_pow_right (show 0 < 2 by omega) h)
theorem txt_size (l : List Bool) : (txt l).size = l.length := by simp [txt, ByteArray.size]
theorem txt_data (l : List Bool) : (txt l).data.toList = l.map dig := by simp [txt]
theorem txt_append (a b : List Bool) : txt (a ++ b) = txt a ++ txt b := by
  apply ByteArray.ext
  simp [txt, ByteArray.data_append]
theorem dig_nat (b : Bool) : (dig b).toNat = 48 + b.toNat := by cases b <;> rfl
theorem txt_get (l : List Bool) (k : Nat) (h : k < (txt l).size) : ((txt l)[k]).toNat = 48 + bt l k := by
  have hk : k < l.length := by rw [txt_size] at h; exact h
  have : (txt l)[k] = dig l[k] := by
    show (txt l).data[k]'_ = _
    simp [txt]
  rw [this, dig_nat]
  simp [bt, List.getD, hk]
theorem ones_le (m : Nat) : ∀ l : List Bool, ones m l ≤ m ∧ ones m l ≤ l.length := by
  induction m with
  | zero => intro l; cases l <;> simp [ones]
  | succ m ih =>
    intro l
    cases l with
    | nil => simp [ones]
    | cons b l =>
      cases b
      · simp [ones]
      · have := ih l
        simp only [ones, List.length_cons]
        omega
/-- The first 'ones m l' bits are ones. -/
theorem ones_true (m : Nat) : ∀ (l : List Bool) (k : Nat), k < ones m l → l.getD k false = true := by
  induction m with
  | zero => intro l k h; cases l <;> simp [ones] at h
  | succ m ih =>
    intro l k h
    match l with
    | [] => simp [ones] at h
    | false :: l => simp [ones] at h
    | true :: l =>
      cases k with
      | zero => rfl
      | succ k =>
        have := ih l k (by simp only [ones] at h; omega)
        simpa [List.getD] using this
/-- What stands behind them, if the limit is not reached, is no one. -/
theorem ones_stop (m : Nat) : ∀ l : List Bool, ones m l < m → ones m l < l.length → l.getD (ones m l) false = false := by
  induction m with
  | zero => intro l h; omega
  | succ m ih =>
    intro l h h'
    match l with
    | [] => simp at h'
    | false :: l => rfl
    | true :: l =>
      have := ih l (by simp only [ones] at h; omega) (by simp only [ones, List.length_cons] at h'; omega)
      simpa [ones, List.getD] using this
/-- A count that meets ones up to it, and then the limit, the end or a zero, is 'ones'. -/
theorem ones_eq (m : Nat) (l : List Bool) (n : Nat) (hm : n ≤ m) (hl : n ≤ l.length) (h1 : ∀ k, k < n → l.getD k false = true) (h2 : n = m ∨ n = l.length ∨ l.getD n false = false) : ones m l = n := by
  rcases Nat.lt_trichotomy (ones m l) n with h | h | h
  · have h3 := ones_stop m l (by omega) (by omega)
    rw [h1 _ h] at h3; cases h3
  · exact h
  · have h3 := ones_true m l n h
    have := ones_le m l
    rcases h2 with h2 | h2 | h2
    · omega
    · omega
    · rw [h2] at h3; cases h3
theorem bt_true {l : List Bool} {n : Nat} (h : bt l n = 1) : l.getD n false = true := by
  unfold bt at h; cases hb : l.getD n false
  · rw [hb] at h; simp at h
  · rfl
theorem bt_false {l : List Bool} {n : Nat} (h : bt l n ≠ 1) : l.getD n false = false := by
  unfold bt at h; cases hb : l.getD n false
  · rfl
  · rw [hb] at h; simp at h
theorem all_succ {l : List Bool} {n : Nat} (h1 : ∀ k, k < n → l.getD k false = true) (h : bt l n = 1) : ∀ k, k < n + 1 → l.getD k false = true := by
  intro k hk
  rcases Nat.lt_or_ge k n with h2 | h2
  · exact h1 k h2
  · have : k = n := by omega
    subst this; exact bt_true h
theorem num_split (k j v : Nat) : num (k + j) v = num k (v / 2 ^ j) ++ num j v := by
  induction k with
  | zero => simp [num]
  | succ k ih =>
    rw [show k + 1 + j = (k + j) + 1 from by omega, num, num, ih, List.cons_append]
    congr 1
    rw [Nat.testBit_div_two_pow]
theorem bit_nat (v k : Nat) : (v.testBit k).toNat = v / 2 ^ k % 2 := by
  rw [Nat.testBit_eq_decide_div_mod_eq]
  have := Nat.mod_lt (v / 2 ^ k) (show 0 < 2 by omega)
  by_cases h : v / 2 ^ k % 2 = 1
  · simp [h]
  · have : v / 2 ^ k % 2 = 0 := by omega
    simp [this]
theorem num_one (v : Nat) : num 1 v = [v.testBit 0] := rfl
theorem num_snoc (k v : Nat) : num (k + 1) v = num k (v / 2) ++ [v.testBit 0] := by
  have := num_split k 1 v
  simpa [num_one] using this
theorem dig_eq (b : Bool) (x : Nat) (h : x = 48 + b.toNat) : dig b = UInt8.ofNat x := by subst h; cases b <;> rfl
theorem blen_step (n : Nat) (h : 0 < n) : blen n = blen (n / 2) + 1 := by
  unfold blen
  rw [if_neg (by omega)]
  by_cases h1 : n / 2 = 0
  · rw [if_pos h1]
    have : n = 1 := by omega
    subst this; decide
  · rw [if_neg h1, Nat.log2_def, if_pos (by omega)]
theorem blen_zero : blen 0 = 0 := rfl
theorem blen_lt (n : Nat) : n < 2 ^ blen n := by
  unfold blen
  split
  · simp_all
  · exact Nat.lt_log2_self
theorem blen_ge (n : Nat) (h : 0 < n) : 2 ^ (blen n - 1) ≤ n ∧ 0 < blen n := by
  unfold blen
  rw [if_neg (by omega)]
  exact ⟨Nat.log2_self_le (by omega), by omega⟩
theorem blen_eq (n k : Nat) (h1 : 2 ^ k ≤ n) (h2 : n < 2 ^ (k + 1)) : blen n = k + 1 := by
  unfold blen
  have h0 : 0 < 2 ^ k := Nat.two_pow_pos k
  rw [if_neg (by omega)]
  have : n.log2 = k := by
    have a := Nat.log2_self_le (n := n) (by omega)
    have b := Nat.lt_log2_self (n := n)
    rcases Nat.lt_trichotomy n.log2 k with h | h | h
    · have := Nat.pow_le_pow_right (show 0 < 2 by omega) (show n.log2 + 1 ≤ k by omega)
      omega
    · exact h
    · have := Nat.pow_le_pow_right (show 0 < 2 by omega) (show k + 1 ≤ n.log2 by omega)
      omega
  rw [this]
theorem blen_le (n k : Nat) (h : n < 2 ^ k) : blen n ≤ k := by
  by_cases h0 : n = 0
  · subst h0; simp [blen]
  · have := blen_ge n (by omega)
    rcases Nat.lt_or_ge k (blen n) with h1 | h1
    · have := Nat.pow_le_pow_right (show 0 < 2 by omega) (show k ≤ blen n - 1 by omega)
      omega
    · exact h1
theorem val_cons (b : Bool) (l : List Bool) : val (b :: l) = b.toNat * 2 ^ l.length + val l := by
  induction l using snocInd with
  | h0 => simp [val]
  | h1 l c ih =>
    rw [← List.cons_append, val_snoc, val_snoc, ih, List.length_append, List.length_singleton, Nat.pow_succ, Nat.mul_add, Nat.add_assoc]
    congr 1
    rw [← Nat.mul_assoc, Nat.mul_comm 2, Nat.mul_assoc, Nat.mul_comm 2]
theorem val_num (k v : Nat) : val (num k v) = v % 2 ^ k := by
  induction k with
  | zero => simp [num, val, Nat.mod_one]
  | succ k ih =>
    rw [num, val_cons, num_length, ih, bit_nat]
    have h := Nat.mod_mul (x := v) (a := 2 ^ k) (b := 2)
    rw [Nat.pow_succ, h, Nat.mul_comm (v / 2 ^ k % 2), Nat.add_comm]

def par (k p : Int) : Bool := (k == 0 && decide (0 ≤ p) && decide (p ≤ 62)) || (k == 1 && p == 0) || ((k == 2 || k == 3) && decide (0 ≤ p) && decide (p ≤ 30)) || (k == 4 && decide (1 ≤ p) && decide (p ≤ 4294967296))
def vld (k p v : Int) : Bool := par k p && decide (0 ≤ v) && ((k == 0 && decide (v < 2 ^ p.toNat)) || (k == 1 && decide (v ≤ 4096)) || (k == 2 && decide (v / 2 ^ p.toNat ≤ 4096)) || (k == 3 && decide (v ≤ 4611686018427387903)) || (k == 4 && decide (v < p)))
/-- The bits of a valid code. -/
def cbits (k p v : Nat) : List Bool :=
  if k = 0 then num p v
  else if k = 1 then una v
  else if k = 2 then una (v / 2 ^ p) ++ num p v
  else if k = 3 then una (blen (v + 2 ^ p) - 1 - p) ++ num (blen (v + 2 ^ p) - 1) (v + 2 ^ p)
  else if v < 2 ^ blen p - p then num (blen p - 1) v else num (blen p) (v + (2 ^ blen p - p))

/-- What 'prefix' makes of a number of ones. -/
def pfx (m n len : Nat) : Nat × Nat := if n = m then (0, 2) else if n = len then (0, 12) else (n, 0)
/-- Reading a code in front of bits: its value, how many bits it has, and an error. -/
def rdp (p m : Nat) (l : List Bool) (g : Bool) : Nat × Nat × Nat :=
  let n := ones m l
  let q := if g then n + p else p
  if n = m then (0, 0, 2) else if n = l.length then (0, 0, 12) else if l.length < n + 1 + q then (0, 0, 12)
  else if g then (if 62 < n + p then (0, 0, 2) else (2 ^ (n + p) - 2 ^ p + val ((l.drop (n + 1)).take q), n + 1 + q, 0))
  else (n * 2 ^ p + val ((l.drop (n + 1)).take q), n + 1 + q, 0)
def rdt (p : Nat) (l : List Bool) : Nat × Nat × Nat :=
  let k := blen p - 1
  let u := 2 ^ blen p - p
  if l.length < k then (0, 0, 12)
  else if val (l.take k) < u then (val (l.take k), k, 0)
  else if l.length < k + 1 then (0, 0, 12) else (val (l.take (k + 1)) - u, k + 1, 0)
def rd (k p : Nat) (l : List Bool) : Nat × Nat × Nat :=
  if k = 0 then (if l.length < p then (0, 0, 12) else (val (l.take p), p, 0))
  else if k = 1 ∨ k = 2 then rdp p 4097 l false
  else if k = 3 then rdp p 63 l true
  else rdt p l
/-- 'Get': what is left, the number, the error. -/
def getm (k p most : Int) (l : List Bool) : List Bool × Nat × Nat :=
  if par k p then
    let r := rd k.toNat p.toNat l
    if r.2.2 ≠ 0 then (l, 0, r.2.2) else if most < r.1 ∨ 4611686018427387903 < r.1 then (l, 0, 2) else (l.drop r.2.1, r.1, 0)
  else (l, 0, 1)
theorem txt_drop (l : List Bool) (k : Nat) : (txt l).extract k (txt l).size = txt (l.drop k) := by
  apply ByteArray.ext
  simp [txt, ByteArray.data_extract, ByteArray.size]
  exact List.take_of_length_le (by simp)

theorem par_cases {k p : Int} (h : par k p = true) : (k = 0 ∧ 0 ≤ p ∧ p ≤ 62) ∨ (k = 1 ∧ p = 0) ∨ (k = 2 ∧ 0 ≤ p ∧ p ≤ 30) ∨ (k = 3 ∧ 0 ≤ p ∧ p ≤ 30) ∨ (k = 4 ∧ 1 ≤ p ∧ p ≤ 4294967296) := by
  simp only [par, Bool.or_eq_true, Bool.and_eq_true, beq_iff_eq, decide_eq_true_eq] at h
  omega

theorem pow_wrap (k : Nat) (h : k ≤ 62) : Go.RowKit.wrap64 ((2 : Int) ^ k) = 2 ^ k := by
  refine Go.IntWalk.wrap64_in _ ?_
  have h1 : (2 : Nat) ^ k ≤ 2 ^ 62 := Nat.pow_le_pow_right (by omega) h
  have h2 : ((2 ^ k : Nat) : Int) = (2 : Int) ^ k := by push_cast; rfl
  have h3 : 0 < (2 : Nat) ^ k := Nat.two_pow_pos k
  omega
theorem pow_cast (k : Nat) : (2 : Int) ^ k = ((2 ^ k : Nat) : Int) := by push_cast; rfl
theorem toNat_div {v : Int} (h0 : 0 ≤ v) (k : Nat) : (v / 2 ^ k).toNat = v.toNat / 2 ^ k := by
  obtain ⟨n, rfl⟩ := Int.eq_ofNat_of_zero_le h0
  rw [pow_cast, ← Int.natCast_ediv]; rfl
theorem toNat_pow (k : Nat) : ((2 : Int) ^ k).toNat = 2 ^ k := by rw [pow_cast]; rfl
theorem pow62 (k : Nat) (h : k ≤ 62) : (2 : Nat) ^ k ≤ 4611686018427387904 := Nat.pow_le_pow_right (n := 2) (by omega) h
theorem pow30 (k : Nat) (h : k ≤ 30) : (2 : Nat) ^ k ≤ 1073741824 := Nat.pow_le_pow_right (n := 2) (by omega) h
theorem vld_par {k p v : Int} (h : vld k p v = true) : par k p = true := by
  simp only [vld, Bool.and_eq_true] at h; exact h.1.1
theorem vld_cases {k p v : Int} (h : vld k p v = true) : 0 ≤ v ∧ ((k = 0 ∧ 0 ≤ p ∧ p ≤ 62 ∧ v < 2 ^ p.toNat) ∨ (k = 1 ∧ p = 0 ∧ v ≤ 4096) ∨ (k = 2 ∧ 0 ≤ p ∧ p ≤ 30 ∧ v / 2 ^ p.toNat ≤ 4096) ∨ (k = 3 ∧ 0 ≤ p ∧ p ≤ 30 ∧ v ≤ 4611686018427387903) ∨ (k = 4 ∧ 1 ≤ p ∧ p ≤ 4294967296 ∧ v < p)) := by
  have hp := par_cases (vld_par h)
  simp only [vld, Bool.or_eq_true, Bool.and_eq_true, beq_iff_eq, decide_eq_true_eq] at h
  obtain ⟨⟨_, h1⟩, h2⟩ := h
  refine ⟨h1, ?_⟩
  rcases hp with ⟨rfl, a, b⟩ | ⟨rfl, a⟩ | ⟨rfl, a, b⟩ | ⟨rfl, a, b⟩ | ⟨rfl, a, b⟩ <;> simp_all
/-- A valid code has less than 2^62 bits: the walks want a bound. -/
theorem cbits_len {k p v : Int} (h : vld k p v = true) : (cbits k.toNat p.toNat v.toNat).length ≤ 8192 := by
  obtain ⟨h0, h1 | h1 | h1 | h1 | h1⟩ := vld_cases h
  · obtain ⟨rfl, a, b, c⟩ := h1
    simp [cbits, num_length]; omega
  · obtain ⟨rfl, a, c⟩ := h1
    simp [cbits, una_length]; omega
  · obtain ⟨rfl, a, b, c⟩ := h1
    have : (v.toNat / 2 ^ p.toNat : Nat) ≤ 4096 := by
      have h2 : ((v.toNat / 2 ^ p.toNat : Nat) : Int) = v / 2 ^ p.toNat := by rw [pow_cast]; push_cast; rw [Int.toNat_of_nonneg h0]
      omega
    simp [cbits, una_length, num_length]; omega
  · obtain ⟨rfl, a, b, c⟩ := h1
    have h2 := pow30 p.toNat (by omega)
    have := blen_le (v.toNat + 2 ^ p.toNat) 63 (by omega)
    simp [cbits, una_length, num_length]; omega
  · obtain ⟨rfl, a, b, c⟩ := h1
    have := blen_le p.toNat 33 (by omega)
    simp [cbits]
    split <;> simp [num_length] <;> omega

/-- A code: its kind, its parameter, its value. -/
structure Cd where
  k : Int
  p : Int
  v : Int
def Cd.bits (c : Cd) : List Bool := cbits c.k.toNat c.p.toNat c.v.toNat
def Cd.ok (c : Cd) : Bool := vld c.k c.p c.v
/-- 'Put': the bits behind it, and the error. -/
def putm (b : List Bool) (c : Cd) : List Bool × Nat :=
  if c.ok then (if 65536 < b.length + c.bits.length then (b, 9) else (b ++ c.bits, 0)) else (b, 1)
theorem putm_len (b : List Bool) (c : Cd) (h : b.length ≤ 65536) : (putm b c).1.length ≤ 65536 := by
  unfold putm
  split
  · split
    · exact h
    · simp only [List.length_append]; omega
  · exact h
/-- 'Encode': the error, and the bits of all codes. -/
def encm : List Cd → List Bool → Nat × List Bool
  | [], b => (0, b)
  | c :: l, b => if (putm b c).2 = 0 then encm l (putm b c).1 else ((putm b c).2, [])

theorem rice_arith (n p x : Nat) (hn : n ≤ 4097) (hp : p ≤ 30) (hx : x < 4611686018427387904) : Go.RowKit.wrap64 (Go.RowKit.wrap64 ((n : Int) * 2 ^ p) + (x : Int)) = ((n * 2 ^ p + x : Nat) : Int) := by
  have h1 := pow30 p hp
  have h2 : n * 2 ^ p ≤ 4097 * 1073741824 := Nat.mul_le_mul hn h1
  have h3 : ((n : Int) * 2 ^ p) = ((n * 2 ^ p : Nat) : Int) := by push_cast; rfl
  rw [h3, Go.IntWalk.wrap64_in ((n * 2 ^ p : Nat) : Int) (by omega), Go.IntWalk.wrap64_in _ (by omega)]
  push_cast; rfl
theorem golomb_arith (n p x : Nat) (h : n + p ≤ 62) (hx : x < 2 ^ (n + p)) : Go.RowKit.wrap64 (Go.RowKit.wrap64 (Go.RowKit.wrap64 ((2 : Int) ^ (n + p)) - Go.RowKit.wrap64 ((2 : Int) ^ p)) + (x : Int)) = ((2 ^ (n + p) - 2 ^ p + x : Nat) : Int) := by
  have h1 := pow62 (n + p) h
  have h2 := pow62 p (by omega)
  have h3 : 2 ^ p ≤ 2 ^ (n + p) := Nat.pow_le_pow_right (by omega) (by omega)
  rw [pow_wrap _ h, pow_wrap _ (by omega), pow_cast, pow_cast]
  generalize 2 ^ (n + p) = a at *
  generalize 2 ^ p = b at *
  rw [Go.IntWalk.wrap64_in ((a : Int) - (b : Int)) (by omega), Go.IntWalk.wrap64_in _ (by omega)]
  omega

theorem rdp_fits (p m : Nat) (l : List Bool) (g : Bool) (hp : p ≤ 30) (hm : m ≤ 4097) : (rdp p m l g).2.2 = 0 → (rdp p m l g).2.1 ≤ l.length ∧ (rdp p m l g).1 ≤ 9223372036854775807 := by
  have h0 := ones_le m l
  have h1 := pow30 p hp
  unfold rdp
  generalize ones m l = n at *
  cases g
  · simp only [Bool.false_eq_true, if_false]
    have h2 := val_take_lt62 (l.drop (n + 1)) p (by omega)
    have h3 : n * 2 ^ p ≤ 4097 * 1073741824 := Nat.mul_le_mul (by omega) h1
    split
    · simp
    · split
      · simp
      · split
        · simp
        · intro _; simp only; omega
  · simp only [if_true]
    split
    · simp
    · split
      · simp
      · split
        · simp
        · split
          · simp
          · intro _
            have h2 := val_take_lt62 (l.drop (n + 1)) (n + p) (by omega)
            have h3 := pow62 (n + p) (by omega)
            generalize 2 ^ (n + p) = a at *
            generalize 2 ^ p = b at *
            simp only; omega
theorem rdt_fits (p : Nat) (l : List Bool) (hp : p ≤ 4294967296) : (rdt p l).2.2 = 0 → (rdt p l).2.1 ≤ l.length ∧ (rdt p l).1 ≤ 9223372036854775807 := by
  have h0 := blen_le p 33 (by omega)
  unfold rdt
  simp only
  split
  · simp
  · split
    · intro _
      have := val_take_lt62 l (blen p - 1) (by omega)
      simp only; omega
    · split
      · simp
      · intro _
        have := val_take_lt62 l (blen p - 1 + 1) (by omega)
        simp only; omega
theorem rd_fits (k p : Int) (l : List Bool) (hp : par k p = true) : (rd k.toNat p.toNat l).2.2 = 0 → (rd k.toNat p.toNat l).2.1 ≤ l.length ∧ (rd k.toNat p.toNat l).1 ≤ 9223372036854775807 := by
  rcases par_cases hp with ⟨rfl, a, b⟩ | ⟨rfl, rfl⟩ | ⟨rfl, a, b⟩ | ⟨rfl, a, b⟩ | ⟨rfl, a, b⟩
  · have hr : rd (Int.toNat 0) p.toNat l = if l.length < p.toNat then (0, 0, 12) else (val (l.take p.toNat), p.toNat, 0) := rfl
    rw [hr]
    have := val_take_lt62 l p.toNat (by omega)
    split
    · simp
    · intro _; simp only; omega
  · exact rdp_fits 0 4097 l false (by omega) (by omega)
  · exact rdp_fits p.toNat 4097 l false (by omega) (by omega)
  · exact rdp_fits p.toNat 63 l true (by omega) (by omega)
  · exact rdt_fits p.toNat l (by omega)
end Wv.Bit
