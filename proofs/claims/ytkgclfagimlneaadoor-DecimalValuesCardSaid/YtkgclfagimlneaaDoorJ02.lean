/-
  Joined texts: V1, D1, D2, D3, D4, D5, D6, D7, D8, D9, Da, Db, Dd, De, Dg.
-/
import GoSem.Op.String
set_option linter.unusedVariables false
set_option linter.unusedSimpArgs false
/-
  Numbers as bytes in plain Lean: the bytes of a number, and the number at the front of bytes. No program stands here.
-/
namespace Wv
def toL (s : ByteArray) : List UInt8 := s.data.toList
def bs (l : List UInt8) : ByteArray := ⟨l.toArray⟩
theorem bs_toL (s : ByteArray) : bs (toL s) = s := rfl
theorem toL_bs (l : List UInt8) : toL (bs l) = l := rfl
theorem toL_length (s : ByteArray) : (toL s).length = s.size := rfl
theorem bs_size (l : List UInt8) : (bs l).size = l.length := rfl
theorem bs_append (a b : List UInt8) : bs a ++ bs b = bs (a ++ b) := by
  apply ByteArray.ext
  simp [bs, ByteArray.data_append]
theorem bs_inj {a b : List UInt8} : bs a = bs b ↔ a = b := ⟨fun h => congrArg toL h, fun h => by rw [h]⟩
theorem toL_append (a b : ByteArray) : toL (a ++ b) = toL a ++ toL b := by simp [toL, ByteArray.data_append]
theorem toL_inj {a b : ByteArray} : toL a = toL b ↔ a = b := ⟨fun h => by rw [← bs_toL a, ← bs_toL b, h], fun h => by rw [h]⟩
end Wv
namespace Wv.Vi
/-- The least number with k further bytes. -/
def bnd : Nat → Nat
  | 0 => 0
  | k + 1 => bnd k + 2 ^ (7 * (k + 1))
/-- How many further bytes a number has. -/
def kof (n : Nat) : Nat :=
  if n < 128 then 0 else if n < 16512 then 1 else if n < 2113664 then 2 else if n < 270549120 then 3 else if n < 34630287488 then 4
  else if n < 4432676798592 then 5 else if n < 567382630219904 then 6 else if n < 72624976668147840 then 7 else 8
/-- The lowest bytes of a number, the most significant one first. -/
def be : Nat → Nat → List UInt8
  | 0, _ => []
  | k + 1, r => UInt8.ofNat (r / 256 ^ k) :: be k r
/-- The bytes of a number. -/
def num (n : Nat) : List UInt8 := UInt8.ofNat (256 - 2 ^ (8 - kof n) + (n - bnd (kof n)) / 256 ^ kof n) :: be (kof n) (n - bnd (kof n))
/-- Leading ones of a byte. -/
def lead (c : Nat) : Nat := if c < 128 then 0 else if c < 192 then 1 else if c < 224 then 2 else if c < 240 then 3 else if c < 248 then 4 else if c < 252 then 5 else if c < 254 then 6 else if c < 255 then 7 else 8
def vl (a : Nat) (l : List UInt8) : Nat := l.foldl (fun a b => 256 * a + b.toNat) a
/-- The number at the front of bytes, and how many bytes it has. -/
def rd : List UInt8 → Option (Nat × Nat)
  | [] => none
  | c :: t => if t.length < lead c.toNat then none else
    if 9223372036854775807 < vl (c.toNat - (256 - 2 ^ (8 - lead c.toNat))) (t.take (lead c.toNat)) + bnd (lead c.toNat) then none
    else some (vl (c.toNat - (256 - 2 ^ (8 - lead c.toNat))) (t.take (lead c.toNat)) + bnd (lead c.toNat), lead c.toNat + 1)

theorem rd_cons (c : UInt8) (t : List UInt8) : rd (c :: t) = if t.length < lead c.toNat then none else
    if 9223372036854775807 < vl (c.toNat - (256 - 2 ^ (8 - lead c.toNat))) (t.take (lead c.toNat)) + bnd (lead c.toNat) then none
    else some (vl (c.toNat - (256 - 2 ^ (8 - lead c.toNat))) (t.take (lead c.toNat)) + bnd (lead c.toNat), lead c.toNat + 1) := rfl
theorem kof_spec (n : Nat) : (kof n = 0 ∧ 0 ≤ n ∧ n < 128) ∨ (kof n = 1 ∧ 128 ≤ n ∧ n < 16512) ∨ (kof n = 2 ∧ 16512 ≤ n ∧ n < 2113664) ∨ (kof n = 3 ∧ 2113664 ≤ n ∧ n < 270549120) ∨ (kof n = 4 ∧ 270549120 ≤ n ∧ n < 34630287488) ∨ (kof n = 5 ∧ 34630287488 ≤ n ∧ n < 4432676798592) ∨ (kof n = 6 ∧ 4432676798592 ≤ n ∧ n < 567382630219904) ∨ (kof n = 7 ∧ 567382630219904 ≤ n ∧ n < 72624976668147840) ∨ (kof n = 8 ∧ 72624976668147840 ≤ n) := by
  by_cases c0 : n < 128
  · exact .inl ⟨by unfold kof; simp only [c0, if_true], by omega, c0⟩
  by_cases c1 : n < 16512
  · exact .inr (.inl ⟨by unfold kof; simp only [c0, c1, if_true, if_false], by omega, c1⟩)
  by_cases c2 : n < 2113664
  · exact .inr (.inr (.inl ⟨by unfold kof; simp only [c0, c1, c2, if_true, if_false], by omega, c2⟩))
  by_cases c3 : n < 270549120
  · exact .inr (.inr (.inr (.inl ⟨by unfold kof; simp only [c0, c1, c2, c3, if_true, if_false], by omega, c3⟩)))
  by_cases c4 : n < 34630287488
  · exact .inr (.inr (.inr (.inr (.inl ⟨by unfold kof; simp only [c0, c1, c2, c3, c4, if_true, if_false], by omega, c4⟩))))
  by_cases c5 : n < 4432676798592
  · exact .inr (.inr (.inr (.inr (.inr (.inl ⟨by unfold kof; simp only [c0, c1, c2, c3, c4, c5, if_true, if_false], by omega, c5⟩)))))
  by_cases c6 : n < 567382630219904
  · exact .inr (.inr (.inr (.inr (.inr (.inr (.inl ⟨by unfold kof; simp only [c0, c1, c2, c3, c4, c5, c6, if_true, if_false], by omega, c6⟩))))))
  by_cases c7 : n < 72624976668147840
  · exact .inr (.inr (.inr (.inr (.inr (.inr (.inr (.inl ⟨by unfold kof; simp only [c0, c1, c2, c3, c4, c5, c6, c7, if_true, if_false], by omega, c7⟩)))))))
  exact .inr (.inr (.inr (.inr (.inr (.inr (.inr (.inr (⟨by unfold kof; simp only [c0, c1, c2, c3, c4, c5, c6, c7, if_false], by omega⟩))))))))

theorem kof_le (n : Nat) : kof n ≤ 8 := by have := kof_spec n; omega
theorem bnd_vals : bnd 0 = 0 ∧ bnd 1 = 128 ∧ bnd 2 = 16512 ∧ bnd 3 = 2113664 ∧ bnd 4 = 270549120 ∧ bnd 5 = 34630287488 ∧ bnd 6 = 4432676798592 ∧ bnd 7 = 567382630219904 ∧ bnd 8 = 72624976668147840 := by decide
theorem nine (k : Nat) (h : k ≤ 8) : k = 0 ∨ k = 1 ∨ k = 2 ∨ k = 3 ∨ k = 4 ∨ k = 5 ∨ k = 6 ∨ k = 7 ∨ k = 8 := by omega
theorem bnd_le (k : Nat) (h : k ≤ 8) : bnd k ≤ 72624976668147840 := by
  have := bnd_vals
  rcases nine k h with rfl | rfl | rfl | rfl | rfl | rfl | rfl | rfl | rfl <;> omega
theorem kof_step (n k : Nat) (h : k < 8) (hk : k ≤ kof n) : bnd (k + 1) ≤ n ↔ k < kof n := by
  have h1 := kof_spec n
  have h2 := bnd_vals
  rcases nine k (by omega) with rfl | rfl | rfl | rfl | rfl | rfl | rfl | rfl | rfl <;> simp only [Nat.zero_add, Nat.reduceAdd] <;> omega
theorem bnd_kof (n : Nat) : bnd (kof n) ≤ n := by
  have h1 := kof_spec n
  have h2 := bnd_vals
  rcases nine (kof n) (kof_le n) with h | h | h | h | h | h | h | h | h <;> rw [h] at h1 ⊢ <;> omega
theorem rest_lt (n : Nat) (hn : n < 9223372036854775808) : (n - bnd (kof n)) / 256 ^ kof n < 2 ^ (7 - kof n) ∧ (kof n = 8 → (n - bnd (kof n)) / 256 ^ kof n = 0) := by
  have h1 := kof_spec n
  have h2 := bnd_vals
  rcases nine (kof n) (kof_le n) with h | h | h | h | h | h | h | h | h <;> rw [h] at h1 ⊢ <;> simp only [Nat.reducePow, Nat.reduceSub] <;> omega
theorem be_length (k r : Nat) : (be k r).length = k := by
  induction k with
  | zero => rfl
  | succ k ih => simp [be, ih]
theorem num_length (n : Nat) : (num n).length = kof n + 1 := by simp [num, be_length]
theorem vl_be (k : Nat) : ∀ a r, vl a (be k r) = a * 256 ^ k + r % 256 ^ k := by
  induction k with
  | zero => intro a r; simp [vl, be, Nat.mod_one]
  | succ k ih =>
    intro a r
    have e : vl a (be (k + 1) r) = vl (256 * a + (UInt8.ofNat (r / 256 ^ k)).toNat) (be k r) := rfl
    rw [e, ih]
    have h1 : (UInt8.ofNat (r / 256 ^ k)).toNat = r / 256 ^ k % 256 := by simp
    rw [h1, Nat.pow_succ, Nat.mod_mul]
    rw [Nat.add_mul, Nat.mul_comm (r / 256 ^ k % 256)]
    have : 256 * a * 256 ^ k = a * (256 ^ k * 256) := by rw [Nat.mul_comm 256 a, Nat.mul_assoc, Nat.mul_comm 256]
    omega
theorem be_tail (k r : Nat) : be (k + 1) r = be k (r / 256) ++ [UInt8.ofNat r] := by
  induction k generalizing r with
  | zero => simp [be]
  | succ k ih =>
    show UInt8.ofNat (r / 256 ^ (k + 1)) :: be (k + 1) r = (UInt8.ofNat (r / 256 / 256 ^ k) :: be k (r / 256)) ++ [UInt8.ofNat r]
    rw [ih, Nat.pow_succ, Nat.mul_comm, ← Nat.div_div_eq_div_mul]
    rfl
theorem lead_spec (c : Nat) : (lead c = 0 ∧ 0 ≤ c ∧ c < 128) ∨ (lead c = 1 ∧ 128 ≤ c ∧ c < 192) ∨ (lead c = 2 ∧ 192 ≤ c ∧ c < 224) ∨ (lead c = 3 ∧ 224 ≤ c ∧ c < 240) ∨ (lead c = 4 ∧ 240 ≤ c ∧ c < 248) ∨ (lead c = 5 ∧ 248 ≤ c ∧ c < 252) ∨ (lead c = 6 ∧ 252 ≤ c ∧ c < 254) ∨ (lead c = 7 ∧ 254 ≤ c ∧ c < 255) ∨ (lead c = 8 ∧ 255 ≤ c) := by
  by_cases c0 : c < 128
  · exact .inl ⟨by unfold lead; simp only [c0, if_true], by omega, c0⟩
  by_cases c1 : c < 192
  · exact .inr (.inl ⟨by unfold lead; simp only [c0, c1, if_true, if_false], by omega, c1⟩)
  by_cases c2 : c < 224
  · exact .inr (.inr (.inl ⟨by unfold lead; simp only [c0, c1, c2, if_true, if_false], by omega, c2⟩))
  by_cases c3 : c < 240
  · exact .inr (.inr (.inr (.inl ⟨by unfold lead; simp only [c0, c1, c2, c3, if_true, if_false], by omega, c3⟩)))
  by_cases c4 : c < 248
  · exact .inr (.inr (.inr (.inr (.inl ⟨by unfold lead; simp only [c0, c1, c2, c3, c4, if_true, if_false], by omega, c4⟩))))
  by_cases c5 : c < 252
  · exact .inr (.inr (.inr (.inr (.inr (.inl ⟨by unfold lead; simp only [c0, c1, c2, c3, c4, c5, if_true, if_false], by omega, c5⟩)))))
  by_cases c6 : c < 254
  · exact .inr (.inr (.inr (.inr (.inr (.inr (.inl ⟨by unfold lead; simp only [c0, c1, c2, c3, c4, c5, c6, if_true, if_false], by omega, c6⟩))))))
  by_cases c7 : c < 255
  · exact .inr (.inr (.inr (.inr (.inr (.inr (.inr (.inl ⟨by unfold lead; simp only [c0, c1, c2, c3, c4, c5, c6, c7, if_true, if_false], by omega, c7⟩)))))))
  exact .inr (.inr (.inr (.inr (.inr (.inr (.inr (.inr (⟨by unfold lead; simp only [c0, c1, c2, c3, c4, c5, c6, c7, if_false], by omega⟩))))))))

theorem lead_le (c : Nat) : lead c ≤ 8 := by have := lead_spec c; omega
theorem lead_first (k m : Nat) (hk : k ≤ 8) (hm : m < 2 ^ (7 - k)) (h8 : k = 8 → m = 0) : 256 - 2 ^ (8 - k) + m < 256 ∧ lead (256 - 2 ^ (8 - k) + m) = k := by
  have h1 := lead_spec (256 - 2 ^ (8 - k) + m)
  rcases nine k hk with rfl | rfl | rfl | rfl | rfl | rfl | rfl | rfl | rfl <;> simp only [Nat.reducePow, Nat.reduceSub] at h1 hm ⊢ <;> omega
/-- A number that was written is read again. -/
theorem rd_num (n : Nat) (hn : n < 9223372036854775808) (r : List UInt8) : rd (num n ++ r) = some (n, kof n + 1) := by
  obtain ⟨h1, h2⟩ := rest_lt n hn
  obtain ⟨h3, h4⟩ := lead_first (kof n) _ (kof_le n) h1 h2
  have h5 : (UInt8.ofNat (256 - 2 ^ (8 - kof n) + (n - bnd (kof n)) / 256 ^ kof n)).toNat = 256 - 2 ^ (8 - kof n) + (n - bnd (kof n)) / 256 ^ kof n := by simp [Nat.mod_eq_of_lt h3]
  have h6 : (be (kof n) (n - bnd (kof n)) ++ r).take (kof n) = be (kof n) (n - bnd (kof n)) := by
    rw [List.take_append_of_le_length (by rw [be_length]; exact Nat.le_refl _), List.take_of_length_le (by rw [be_length]; exact Nat.le_refl _)]
  have h7 : vl (256 - 2 ^ (8 - kof n) + (n - bnd (kof n)) / 256 ^ kof n - (256 - 2 ^ (8 - kof n))) (be (kof n) (n - bnd (kof n))) = n - bnd (kof n) := by
    rw [vl_be, Nat.add_sub_cancel_left, Nat.div_add_mod']
  have h8 := bnd_kof n
  show rd (UInt8.ofNat _ :: (be _ _ ++ r)) = _
  rw [rd_cons, h5, h4, h6, h7, if_neg (by rw [List.length_append, be_length]; omega), if_neg (by omega)]
  congr 2
  omega
theorem rd_le {s : List UInt8} {n z : Nat} (h : rd s = some (n, z)) : n ≤ 9223372036854775807 ∧ 1 ≤ z ∧ z ≤ s.length ∧ z ≤ 9 := by
  match s with
  | [] => simp [rd] at h
  | c :: t =>
    rw [rd_cons] at h
    have := lead_le c.toNat
    split at h
    · cases h
    · split at h
      · cases h
      · injection h with h
        injection h with h1 h2
        subst h1 h2
        simp only [List.length_cons]
        omega
/-- What is read at the front does not look at what follows. -/
theorem rd_more {s : List UInt8} {n z : Nat} (h : rd s = some (n, z)) (r : List UInt8) : rd (s ++ r) = some (n, z) := by
  match s with
  | [] => simp [rd] at h
  | c :: t =>
    rw [List.cons_append]
    rw [rd_cons] at h ⊢
    split at h
    · cases h
    · rename_i h1
      rw [if_neg (by rw [List.length_append]; omega), List.take_append_of_le_length (by omega)]
      exact h
end Wv.Vi
/-
  Decimal numbers in plain Lean: digits, canonical numbers, their values at a scale. No program stands here.
-/
namespace Wv.Dc
def isD (c : UInt8) : Bool := decide (48 ≤ c.toNat) && decide (c.toNat ≤ 57)
def dv (c : UInt8) : Nat := c.toNat - 48
/-- The number that digits say. -/
def vd (l : List UInt8) : Nat := l.foldl (fun a c => 10 * a + dv c) 0
def AllD (l : List UInt8) : Prop := ∀ c ∈ l, isD c = true
structure Num where
  neg : Bool
  dg : List UInt8
  ex : Int
def trimL (l : List UInt8) : List UInt8 := l.dropWhile (· == 48)
def trimR (l : List UInt8) : List UInt8 := (trimL l.reverse).reverse
def zeroN : Num := ⟨false, [], 0⟩
def trimN (n : Num) : Num :=
  if trimR (trimL n.dg) = [] then zeroN else ⟨n.neg, trimR (trimL n.dg), n.ex + ((trimL n.dg).length - (trimR (trimL n.dg)).length : Nat)⟩
def firstN (n : Num) : Int := n.ex + n.dg.length - 1
/-- A number in its one form. -/
structure Canon (n : Num) : Prop where
  all : AllD n.dg
  front : n.dg.head? ≠ some 48
  back : n.dg.getLast? ≠ some 48
  zero : n.dg = [] → n.neg = false ∧ n.ex = 0
def sg (b : Bool) : Int := if b then -1 else 1
/-- The value of a number at a scale: times 10 to the power of K. -/
def V (K : Nat) (n : Num) : Int := sg n.neg * ((vd n.dg * 10 ^ (n.ex + K).toNat : Nat) : Int)

theorem vd_acc (l : List UInt8) : ∀ a, l.foldl (fun a c => 10 * a + dv c) a = a * 10 ^ l.length + vd l := by
  induction l with
  | nil => intro a; simp [vd]
  | cons c t ih =>
    intro a
    have h1 : vd (c :: t) = dv c * 10 ^ t.length + vd t := by
      show (c :: t).foldl _ 0 = _
      rw [List.foldl_cons, ih, Nat.mul_zero, Nat.zero_add]
    rw [List.foldl_cons, ih, h1, List.length_cons, Nat.pow_succ, Nat.add_mul, Nat.mul_comm 10 a, Nat.mul_assoc, Nat.mul_comm 10 (10 ^ t.length), Nat.add_assoc]
theorem vd_nil : vd [] = 0 := rfl
theorem vd_append (l r : List UInt8) : vd (l ++ r) = vd l * 10 ^ r.length + vd r := by
  show (l ++ r).foldl _ 0 = _
  rw [List.foldl_append]
  exact vd_acc r (vd l)
theorem vd_cons (c : UInt8) (t : List UInt8) : vd (c :: t) = dv c * 10 ^ t.length + vd t := by
  have := vd_append [c] t
  simpa [vd] using this
theorem dv_lt {c : UInt8} (h : isD c = true) : dv c < 10 := by
  unfold isD at h
  unfold dv
  simp at h
  omega
theorem vd_lt {l : List UInt8} (h : AllD l) : vd l < 10 ^ l.length := by
  induction l with
  | nil => simp [vd]
  | cons c t ih =>
    rw [vd_cons, List.length_cons, Nat.pow_succ]
    have h1 := dv_lt (h c List.mem_cons_self)
    have h2 := ih (fun d hd => h d (List.mem_cons_of_mem _ hd))
    have h3 : dv c * 10 ^ t.length ≤ 9 * 10 ^ t.length := Nat.mul_le_mul_right _ (by omega)
    omega
theorem dv_inj {c d : UInt8} (h1 : isD c = true) (h2 : isD d = true) (h : dv c = dv d) : c = d := by
  unfold isD at h1 h2
  unfold dv at h
  simp at h1 h2
  exact UInt8.toNat_inj.1 (by omega)
theorem vd_inj : ∀ {l r : List UInt8}, AllD l → AllD r → l.length = r.length → vd l = vd r → l = r
  | [], [], _, _, _, _ => rfl
  | [], _ :: _, _, _, h, _ => by simp at h
  | _ :: _, [], _, _, h, _ => by simp at h
  | c :: s, d :: t, h1, h2, h, hv => by
    have hl : s.length = t.length := by simpa using h
    rw [vd_cons, vd_cons, hl] at hv
    have a1 := vd_lt (l := s) (fun x hx => h1 x (List.mem_cons_of_mem _ hx))
    have a2 := vd_lt (l := t) (fun x hx => h2 x (List.mem_cons_of_mem _ hx))
    rw [hl] at a1
    have hp : 0 < 10 ^ t.length := Nat.pow_pos (by omega)
    have hd : dv c = dv d := by
      have e1 : (dv c * 10 ^ t.length + vd s) / 10 ^ t.length = dv c := by rw [Nat.mul_comm, Nat.mul_add_div hp, Nat.div_eq_of_lt a1, Nat.add_zero]
      have e2 : (dv d * 10 ^ t.length + vd t) / 10 ^ t.length = dv d := by rw [Nat.mul_comm, Nat.mul_add_div hp, Nat.div_eq_of_lt a2, Nat.add_zero]
      rw [← e1, ← e2, hv]
    have hcd := dv_inj (h1 c List.mem_cons_self) (h2 d List.mem_cons_self) hd
    subst hcd
    rw [vd_inj (fun x hx => h1 x (List.mem_cons_of_mem _ hx)) (fun x hx => h2 x (List.mem_cons_of_mem _ hx)) hl (by omega)]
/-- Digits without a zero in front are as many as the number has. -/
theorem vd_front {l : List UInt8} (h : AllD l) (hf : l.head? ≠ some 48) (hne : l ≠ []) : 10 ^ (l.length - 1) ≤ vd l := by
  match l, hne with
  | c :: t, _ =>
    rw [vd_cons, List.length_cons, Nat.add_sub_cancel]
    have h1 := h c List.mem_cons_self
    have h2 : c ≠ 48 := fun e => hf (by rw [e]; rfl)
    have h3 : 1 ≤ dv c := by
      unfold isD at h1
      unfold dv
      simp at h1
      have : c.toNat ≠ 48 := fun e => h2 (UInt8.toNat_inj.1 e)
      omega
    have := Nat.mul_le_mul_right (10 ^ t.length) h3
    omega
theorem vd_back {l : List UInt8} (h : AllD l) (hb : l.getLast? ≠ some 48) (hne : l ≠ []) : vd l % 10 ≠ 0 := by
  rcases List.eq_nil_or_concat l with h0 | ⟨t, c, rfl⟩
  · exact absurd h0 hne
  · rw [List.concat_eq_append] at h hb ⊢
    rw [vd_append]
    have h1 := h c (by simp)
    have h2 : c ≠ 48 := fun e => hb (by rw [e]; simp)
    have h3 : vd [c] = dv c := by simp [vd]
    rw [h3]
    unfold isD at h1
    unfold dv
    simp at h1
    have : c.toNat ≠ 48 := fun e => h2 (UInt8.toNat_inj.1 e)
    simp
    omega
theorem pow_strip {a b i j : Nat} (ha : a % 10 ≠ 0) (hb : b % 10 ≠ 0) (h : a * 10 ^ i = b * 10 ^ j) : a = b ∧ i = j := by
  have key : ∀ {a b i j : Nat}, a % 10 ≠ 0 → a * 10 ^ i = b * 10 ^ j → i ≥ j := by
    intro a b i j ha h
    rcases Nat.lt_or_ge i j with hlt | hge
    · exfalso
      obtain ⟨k, rfl⟩ : ∃ k, j = i + (k + 1) := ⟨j - i - 1, by omega⟩
      rw [Nat.pow_add, Nat.mul_comm (10 ^ i), ← Nat.mul_assoc] at h
      have h2 := Nat.eq_of_mul_eq_mul_right (Nat.pow_pos (by omega)) h
      rw [Nat.pow_succ, ← Nat.mul_assoc] at h2
      omega
    · exact hge
  have h1 := key ha h
  have h2 := key hb h.symm
  have h3 : i = j := by omega
  subst h3
  exact ⟨Nat.eq_of_mul_eq_mul_right (Nat.pow_pos (by omega)) h, rfl⟩
theorem len_of_vd {l r : List UInt8} (h1 : AllD l) (h2 : AllD r) (f1 : l.head? ≠ some 48) (f2 : r.head? ≠ some 48) (n1 : l ≠ []) (n2 : r ≠ []) (h : vd l = vd r) : l.length = r.length := by
  have key : ∀ {l r : List UInt8}, AllD l → AllD r → l.head? ≠ some 48 → l ≠ [] → r ≠ [] → vd l = vd r → l.length ≤ r.length := by
    intro l r h1 h2 f1 n1 n2 h
    rcases Nat.lt_or_ge r.length l.length with hlt | hge
    · exfalso
      have a1 := vd_front h1 f1 n1
      have a2 := vd_lt h2
      have a3 : 10 ^ r.length ≤ 10 ^ (l.length - 1) := Nat.pow_le_pow_right (by omega) (by omega)
      omega
    · exact hge
  have a := key h1 h2 f1 n1 n2 h
  have b := key h2 h1 f2 n2 n1 h.symm
  omega
/-- Numbers in their one form are equal if their values are. -/
theorem canon_inj {K : Nat} {a b : Num} (ha : Canon a) (hb : Canon b) (ka : 0 ≤ a.ex + K) (kb : 0 ≤ b.ex + K) (h : V K a = V K b) : a = b := by
  obtain ⟨na, da, ea⟩ := a
  obtain ⟨nb, db, eb⟩ := b
  have pos : ∀ {l : List UInt8}, AllD l → l.getLast? ≠ some 48 → l ≠ [] → ∀ k, 0 < vd l * 10 ^ k := fun h1 h2 h3 k => Nat.mul_pos (by have := vd_back h1 h2 h3; omega) (Nat.pow_pos (by omega))
  have hz : ∀ (s : Bool) (x : Nat), sg s * (x : Int) = 0 → x = 0 := by
    intro s x h
    cases s <;> simp [sg] at h <;> omega
  simp only [V] at h
  by_cases h0 : da = []
  · have h1 : db = [] := by
      rcases Classical.em (db = []) with e | e
      · exact e
      · exfalso
        subst h0
        rw [vd_nil, Nat.zero_mul] at h
        have p : 0 < vd db * 10 ^ (eb + K).toNat := pos hb.all hb.back e _
        have q : vd db * 10 ^ (eb + K).toNat = 0 := hz nb _ (by rw [← h]; simp)
        omega
    obtain ⟨z1, z2⟩ := ha.zero h0
    obtain ⟨z3, z4⟩ := hb.zero h1
    simp only at z1 z2 z3 z4
    rw [z1, z2, z3, z4, h0, h1]
  · have h1 : db ≠ [] := by
      intro e
      subst e
      rw [vd_nil, Nat.zero_mul] at h
      have p : 0 < vd da * 10 ^ (ea + K).toNat := pos ha.all ha.back h0 _
      have q : vd da * 10 ^ (ea + K).toNat = 0 := hz na _ (by rw [h]; simp)
      omega
    have p1 : 0 < vd da * 10 ^ (ea + K).toNat := pos ha.all ha.back h0 _
    have p2 : 0 < vd db * 10 ^ (eb + K).toNat := pos hb.all hb.back h1 _
    have hs : na = nb ∧ vd da * 10 ^ (ea + K).toNat = vd db * 10 ^ (eb + K).toNat := by
      generalize vd da * 10 ^ (ea + K).toNat = x at *
      generalize vd db * 10 ^ (eb + K).toNat = y at *
      cases na <;> cases nb <;> simp [sg] at h ⊢ <;> omega
    obtain ⟨hs1, hs2⟩ := hs
    obtain ⟨e1, e2⟩ := pow_strip (vd_back ha.all ha.back h0) (vd_back hb.all hb.back h1) hs2
    have e3 := len_of_vd ha.all hb.all ha.front hb.front h0 h1 e1
    have e4 := vd_inj ha.all hb.all e3 e1
    simp only at ka kb e4
    rw [hs1, e4, show ea = eb by omega]
end Wv.Dc
/-
  Decimal numbers in plain Lean: zeros at both ends are taken away, the text of a number. No program stands here.
-/
namespace Wv.Dc
theorem vd_trimL (l : List UInt8) : vd (trimL l) = vd l := by
  induction l with
  | nil => rfl
  | cons c t ih =>
    unfold trimL at ih ⊢
    rw [List.dropWhile_cons]
    by_cases h : c = 48
    · subst h
      rw [if_pos (by decide), ih, vd_cons]
      simp [dv]
    · rw [if_neg (by simpa using h)]
theorem trimL_sub (l : List UInt8) : ∀ c ∈ trimL l, c ∈ l := fun c h => (List.dropWhile_suffix _).subset h
theorem trimL_head (l : List UInt8) : (trimL l).head? ≠ some 48 := by
  induction l with
  | nil => simp [trimL]
  | cons c t ih =>
    unfold trimL at ih ⊢
    rw [List.dropWhile_cons]
    by_cases h : c = 48
    · subst h
      rw [if_pos (by decide)]
      exact ih
    · rw [if_neg (by simpa using h)]
      simpa using h
theorem trimL_len (l : List UInt8) : (trimL l).length ≤ l.length := (List.dropWhile_suffix _).length_le
theorem trimR_pre (l : List UInt8) : ∃ k, l = trimR l ++ List.replicate k 48 := by
  unfold trimR trimL
  refine ⟨(l.reverse.takeWhile (· == 48)).length, ?_⟩
  have h1 := List.takeWhile_append_dropWhile (p := (· == 48)) (l := l.reverse)
  have h2 : l = (l.reverse.dropWhile (· == 48)).reverse ++ (l.reverse.takeWhile (· == 48)).reverse := by
    rw [← List.reverse_append, h1, List.reverse_reverse]
  have h3 : l.reverse.takeWhile (· == 48) = List.replicate (l.reverse.takeWhile (· == 48)).length 48 := by
    rw [List.eq_replicate_iff]
    refine ⟨rfl, fun b hb => ?_⟩
    have := List.all_takeWhile (p := (· == 48)) (l := l.reverse)
    rw [List.all_eq_true] at this
    simpa using this b hb
  have h4 : (l.reverse.takeWhile (· == 48)).reverse = List.replicate (l.reverse.takeWhile (· == 48)).length 48 := by
    rw [h3, List.reverse_replicate, List.length_replicate]
  rw [h4] at h2
  exact h2
theorem trimR_len (l : List UInt8) : (trimR l).length ≤ l.length := by
  unfold trimR
  rw [List.length_reverse]
  have := trimL_len l.reverse
  rwa [List.length_reverse] at this
theorem vd_zeros (k : Nat) : vd (List.replicate k 48) = 0 := by
  induction k with
  | zero => rfl
  | succ k ih => rw [List.replicate_succ, vd_cons, ih]; simp [dv]
theorem vd_trimR (l : List UInt8) : vd l = vd (trimR l) * 10 ^ (l.length - (trimR l).length) := by
  obtain ⟨k, hk⟩ := trimR_pre l
  have hl : l.length - (trimR l).length = k := by
    have := congrArg List.length hk
    rw [List.length_append, List.length_replicate] at this
    omega
  rw [hl]
  have h2 : vd l = vd (trimR l ++ List.replicate k 48) := by rw [← hk]
  rw [h2, vd_append, vd_zeros, List.length_replicate, Nat.add_zero]
theorem trimR_back (l : List UInt8) : (trimR l).getLast? ≠ some 48 := by
  unfold trimR
  rw [List.getLast?_reverse]
  exact trimL_head _
theorem trimR_sub (l : List UInt8) : ∀ c ∈ trimR l, c ∈ l := fun c h => by
  unfold trimR at h
  have := trimL_sub _ c (List.mem_reverse.1 h)
  exact List.mem_reverse.1 this
theorem trimR_head {l : List UInt8} (h : l.head? ≠ some 48) : (trimR l).head? ≠ some 48 := by
  obtain ⟨k, hk⟩ := trimR_pre l
  intro h2
  apply h
  rw [hk]
  match hm : trimR l with
  | [] => rw [hm] at h2; simp at h2
  | c :: t => rw [hm] at h2; simpa using h2
theorem trimN_canon {n : Num} (h : AllD n.dg) : Canon (trimN n) := by
  unfold trimN
  split
  · exact ⟨by intro c hc; simp [zeroN] at hc, by simp [zeroN], by simp [zeroN], fun _ => ⟨rfl, rfl⟩⟩
  · rename_i h0
    exact ⟨fun c hc => h c (trimL_sub _ c (trimR_sub _ c hc)), trimR_head (trimL_head _), trimR_back _, fun e => absurd e h0⟩
theorem V_zero (K : Nat) (b : Bool) (e : Int) : V K ⟨b, [], e⟩ = 0 := by simp [V, vd_nil]
theorem V_trimN {K : Nat} {n : Num} (hk : 0 ≤ n.ex + K) : V K (trimN n) = V K n := by
  unfold trimN
  have h1 := vd_trimR (trimL n.dg)
  rw [vd_trimL] at h1
  have hl := trimR_len (trimL n.dg)
  split
  · rename_i h0
    rw [h0, vd_nil, Nat.zero_mul] at h1
    simp [V, zeroN, vd_nil, h1]
  · unfold V
    simp only
    rw [h1]
    have e : (n.ex + (((trimL n.dg).length - (trimR (trimL n.dg)).length : Nat) : Int) + K).toNat = ((trimL n.dg).length - (trimR (trimL n.dg)).length) + (n.ex + K).toNat := by omega
    rw [e, Nat.pow_add, Nat.mul_assoc]
theorem trimN_of_canon {n : Num} (h : Canon n) : trimN n = n := by
  obtain ⟨b, d, e⟩ := n
  have hf := h.front
  have hb := h.back
  simp only at hf hb
  have h1 : trimL d = d := by
    unfold trimL
    match d with
    | [] => rfl
    | c :: t =>
      rw [List.dropWhile_cons, if_neg (by simpa using hf)]
  have h2 : trimR d = d := by
    unfold trimR trimL
    have : d.reverse.dropWhile (· == 48) = d.reverse := by
      match hd : d.reverse with
      | [] => rfl
      | c :: t =>
        have h3 : d.getLast? = some c := by rw [← List.head?_reverse, hd]; rfl
        rw [List.dropWhile_cons, if_neg (by
          intro h4
          apply hb
          rw [h3]
          simpa using h4)]
    rw [this, List.reverse_reverse]
  unfold trimN
  simp only [h1, h2]
  by_cases h0 : d = []
  · obtain ⟨z1, z2⟩ := h.zero h0
    simp only at z1 z2
    rw [if_pos h0, z1, z2, h0]
    rfl
  · rw [if_neg h0, Nat.sub_self]
    simp
/-- A natural number in decimal. -/
def decN (n : Nat) : List UInt8 := if h : n < 10 then [UInt8.ofNat (48 + n)] else decN (n / 10) ++ [UInt8.ofNat (48 + n % 10)]
termination_by n
decreasing_by omega
def decZ (n : Int) : List UInt8 := if n < 0 then 45 :: decN (-n).toNat else decN n.toNat
theorem isD_of {d : Nat} (h : d < 10) : isD (UInt8.ofNat (48 + d)) = true ∧ dv (UInt8.ofNat (48 + d)) = d := by
  have : (UInt8.ofNat (48 + d)).toNat = 48 + d := by simp; omega
  unfold isD dv
  rw [this]
  simp
  omega
theorem vd_one (c : UInt8) : vd [c] = dv c := by simp [vd]
theorem decN_all (n : Nat) : AllD (decN n) := by
  induction n using Nat.strongRecOn with
  | ind n ih =>
    rw [decN]
    split
    · rename_i h
      intro c hc
      rw [List.mem_singleton] at hc
      rw [hc]
      exact (isD_of h).1
    · rename_i h
      intro c hc
      rcases List.mem_append.1 hc with h1 | h1
      · exact ih (n / 10) (by omega) c h1
      · rw [List.mem_singleton] at h1
        rw [h1]
        exact (isD_of (by omega)).1
theorem vd_decN (n : Nat) : vd (decN n) = n := by
  induction n using Nat.strongRecOn with
  | ind n ih =>
    rw [decN]
    split
    · rename_i h
      rw [vd_one]
      exact (isD_of h).2
    · rename_i h
      rw [vd_append, ih (n / 10) (by omega)]
      have := (isD_of (d := n % 10) (by omega)).2
      have e : vd [UInt8.ofNat (48 + n % 10)] = n % 10 := by rw [vd_one, this]
      rw [e]
      simp
      omega
theorem decN_ne (n : Nat) : decN n ≠ [] := by
  rw [decN]
  split <;> simp
theorem decN_len {n k : Nat} (hk : 0 < k) (h : n < 10 ^ k) : (decN n).length ≤ k := by
  induction k generalizing n with
  | zero => omega
  | succ k ih =>
    rw [decN]
    split
    · simp
    · rename_i h9
      rw [List.length_append, List.length_singleton]
      by_cases h0 : k = 0
      · subst h0; omega
      · have := ih (n := n / 10) (by omega) (by rw [Nat.pow_succ] at h; omega)
        omega
/-- The text of a number, and the error. -/
def ctext (n : Num) : List UInt8 × Nat :=
  if n.dg = [] then ([48], 0)
  else if 17 < n.dg.length ∨ firstN n < -400 ∨ 400 < firstN n then ([], 9)
  else ((if n.neg then [45] else []) ++ n.dg.take 1 ++ (if 1 < n.dg.length then 46 :: n.dg.drop 1 else []) ++ 101 :: decZ (firstN n), 0)
end Wv.Dc
/-
  Decimal numbers in plain Lean: the number of a text; the text of a number is read as it. No program stands here.
-/
namespace Wv.Dc
def sgn : List UInt8 → Bool × List UInt8
  | [] => (false, [])
  | c :: t => if c = 45 then (true, t) else if c = 43 then (false, t) else (false, c :: t)
def dfr (s : List UInt8) : List UInt8 := s.takeWhile isD
def aft (s : List UInt8) : List UInt8 := s.dropWhile isD
def frac : List UInt8 → Option (List UInt8 × List UInt8)
  | [] => some ([], [])
  | c :: t => if c = 46 then (if dfr t = [] then none else some (dfr t, aft t)) else some ([], c :: t)
def expo (f : List UInt8 → Nat) : List UInt8 → Option (Int × List UInt8)
  | [] => some (0, [])
  | c :: t => if c = 101 ∨ c = 69 then (if dfr (sgn t).2 = [] then none else some (sg (sgn t).1 * (f (dfr (sgn t).2) : Int), aft (sgn t).2)) else some (0, c :: t)
/-- The number of a text, if it has the form of one; zeros are not yet taken away. -/
def scn (f : List UInt8 → Nat) (s : List UInt8) : Option Num :=
  if 64 < s.length then none else if dfr (sgn s).2 = [] then none else
  match frac (aft (sgn s).2) with
  | none => none
  | some x => match expo f x.2 with
    | none => none
    | some y => if y.2 = [] then some ⟨(sgn s).1, dfr (sgn s).2 ++ x.1, y.1 - x.1.length⟩ else none
def cl1 (p : List UInt8) : Nat := p.foldl (fun e c => min 1048576 (10 * e + dv c)) 0
def cl2 (p : List UInt8) : Nat := p.foldl (fun e c => min (10 * e + dv c) 100000) 0
/-- The canonical text of a text, and the error. -/
def ptext (f : List UInt8 → Nat) (s : List UInt8) : List UInt8 × Nat := match scn f s with
  | none => ([], 3)
  | some n => ctext (trimN n)
theorem cl_min (cap : Nat) (p : List UInt8) : ∀ a, p.foldl (fun e c => min cap (10 * e + dv c)) (min cap a) = min cap (p.foldl (fun e c => 10 * e + dv c) a) := by
  induction p with
  | nil => intro a; rfl
  | cons c t ih =>
    intro a
    rw [List.foldl_cons, List.foldl_cons, ← ih]
    congr 1
    omega
theorem cl1_eq (p : List UInt8) : cl1 p = min 1048576 (vd p) := by
  have := cl_min 1048576 p 0
  simpa [cl1, vd] using this
theorem cl2_eq (p : List UInt8) : cl2 p = min 100000 (vd p) := by
  have := cl_min 100000 p 0
  simp only [Nat.min_zero] at this
  unfold cl2
  rw [show (fun (e : Nat) (c : UInt8) => min (10 * e + dv c) 100000) = (fun e c => min 100000 (10 * e + dv c)) from by funext e c; exact Nat.min_comm _ _]
  rw [this]
  rfl
theorem dfr_append {d r : List UInt8} (hd : AllD d) (hr : ∀ c t, r = c :: t → isD c = false) : dfr (d ++ r) = d ∧ aft (d ++ r) = r := by
  unfold dfr aft
  induction d with
  | nil =>
    match r with
    | [] => exact ⟨rfl, rfl⟩
    | c :: t =>
      have := hr c t rfl
      simp [List.takeWhile_cons, List.dropWhile_cons, this]
  | cons c d ih =>
    have h1 := hd c List.mem_cons_self
    obtain ⟨a, b⟩ := ih (fun x hx => hd x (List.mem_cons_of_mem _ hx))
    rw [List.cons_append, List.takeWhile_cons, List.dropWhile_cons, if_pos h1, if_pos h1, a, b]
    exact ⟨rfl, rfl⟩
theorem dfr_all (s : List UInt8) : AllD (dfr s) := fun c h => by
  have := List.all_takeWhile (p := isD) (l := s)
  rw [List.all_eq_true] at this
  exact this c h
theorem frac_cons (c : UInt8) (t : List UInt8) : frac (c :: t) = if c = 46 then (if dfr t = [] then none else some (dfr t, aft t)) else some ([], c :: t) := rfl
theorem sgn_cons (c : UInt8) (t : List UInt8) : sgn (c :: t) = if c = 45 then (true, t) else if c = 43 then (false, t) else (false, c :: t) := rfl
theorem expo_cons (f : List UInt8 → Nat) (c : UInt8) (t : List UInt8) : expo f (c :: t) = if c = 101 ∨ c = 69 then (if dfr (sgn t).2 = [] then none else some (sg (sgn t).1 * (f (dfr (sgn t).2) : Int), aft (sgn t).2)) else some (0, c :: t) := rfl
theorem sgn_digit {c : UInt8} {t : List UInt8} (h : isD c = true) : sgn (c :: t) = (false, c :: t) := by
  rw [sgn_cons]
  unfold isD at h
  simp at h
  have h1 : c ≠ 45 := fun e => by subst e; simp at h
  have h2 : c ≠ 43 := fun e => by subst e; simp at h
  rw [if_neg h1, if_neg h2]
theorem sgn_decZ (E : Int) : sgn (decZ E) = (decide (E < 0), decN E.natAbs) := by
  unfold decZ
  by_cases h : E < 0
  · rw [if_pos h]
    have : (-E).toNat = E.natAbs := by omega
    rw [this]
    simp [sgn, h]
  · rw [if_neg h]
    have : E.toNat = E.natAbs := by omega
    rw [this]
    match hd : decN E.natAbs with
    | [] => exact absurd hd (decN_ne _)
    | c :: t =>
      have := decN_all E.natAbs c (by rw [hd]; exact List.mem_cons_self)
      rw [sgn_digit this]
      simp [h]
/-- How a text of a number parts. -/
theorem scn_text {f : List UInt8 → Nat} {m : Num} (hm : AllD m.dg) (h0 : m.dg ≠ []) (h17 : m.dg.length ≤ 17) (hE1 : -400 ≤ firstN m) (hE2 : firstN m ≤ 400) (hf : ∀ p, AllD p → vd p ≤ 400 → f p = vd p) :
    scn f ((if m.neg then [45] else []) ++ m.dg.take 1 ++ (if 1 < m.dg.length then 46 :: m.dg.drop 1 else []) ++ 101 :: decZ (firstN m)) = some m := by
  obtain ⟨b, d, e⟩ := m
  simp only at hm h0 h17
  obtain ⟨E, hE⟩ : ∃ E, firstN ⟨b, d, e⟩ = E := ⟨_, rfl⟩
  rw [hE] at hE1 hE2
  rw [hE]
  have hE3 : E = e + d.length - 1 := by rw [← hE]; rfl
  match d, h0 with
  | c :: t, _ =>
    simp only [List.take_succ_cons, List.take_zero, List.drop_succ_cons, List.drop_zero]
    obtain ⟨R, hR⟩ : ∃ R, ((if 1 < (c :: t).length then 46 :: t else []) ++ 101 :: decZ E : List UInt8) = R := ⟨_, rfl⟩
    have hc := hm c List.mem_cons_self
    have ht : AllD t := fun x hx => hm x (List.mem_cons_of_mem _ hx)
    have es : (if b then [45] else []) ++ [c] ++ (if 1 < (c :: t).length then 46 :: t else []) ++ 101 :: decZ E = (if b then [45] else []) ++ (c :: R) := by
      rw [← hR]
      simp only [List.append_assoc, List.singleton_append, List.cons_append, List.nil_append]
    simp only [es]
    have hs : sgn ((if b then [45] else []) ++ (c :: R)) = (b, c :: R) := by
      cases b
      · simpa using sgn_digit (t := R) hc
      · simp [sgn]
    have hR0 : ∀ x y, R = x :: y → isD x = false := by
      intro x y h
      rw [← hR] at h
      split at h
      · injection h with h1 _; rw [← h1]; decide
      · injection h with h1 _; rw [← h1]; decide
    obtain ⟨q1, q2⟩ := dfr_append (d := [c]) (r := R) (fun x hx => by rw [List.mem_singleton] at hx; rw [hx]; exact hc) hR0
    have hlen : ((if b then [45] else []) ++ (c :: R)).length ≤ 64 := by
      have hz : (decZ E).length ≤ 4 := by
        unfold decZ
        split
        · have := decN_len (n := (-E).toNat) (k := 3) (by omega) (by omega)
          rw [List.length_cons]; omega
        · have := decN_len (n := E.toNat) (k := 3) (by omega) (by omega)
          omega
      have h2 : (if b then [(45 : UInt8)] else []).length ≤ 1 := by cases b <;> simp
      have h3 : (if 1 < (c :: t).length then (46 :: t : List UInt8) else []).length ≤ t.length + 1 := by split <;> simp
      rw [List.length_append, List.length_cons, ← hR, List.length_append]
      rw [List.length_cons] at h17
      have h4 : (101 :: decZ E).length = (decZ E).length + 1 := rfl
      omega
    have hx : expo f (101 :: decZ E) = some (E, []) := by
      rw [expo_cons, if_pos (.inl rfl), sgn_decZ]
      obtain ⟨a1, a2⟩ := dfr_append (d := decN E.natAbs) (r := []) (decN_all _) (fun _ _ h => by cases h)
      rw [List.append_nil] at a1 a2
      simp only [a1, a2]
      rw [if_neg (decN_ne _), hf _ (decN_all _) (by rw [vd_decN]; omega), vd_decN]
      congr 2
      unfold sg
      split
      · rename_i h; simp at h; omega
      · rename_i h; simp at h; omega
    have hfr : frac R = some (t, 101 :: decZ E) := by
      rw [← hR]
      by_cases h1 : 1 < (c :: t).length
      · rw [if_pos h1]
        obtain ⟨a1, a2⟩ := dfr_append (d := t) (r := 101 :: decZ E) ht (fun x y h => by injection h with h _; rw [← h]; decide)
        rw [List.cons_append, frac_cons, if_pos rfl, a1, a2, if_neg (by intro h; rw [h] at h1; simp at h1)]
      · rw [if_neg h1]
        have : t = [] := List.eq_nil_of_length_eq_zero (by rw [List.length_cons] at h1; omega)
        subst this
        rw [List.nil_append, frac_cons, if_neg (by decide)]
    unfold scn
    rw [if_neg (by omega), hs]
    simp only
    have q1' : dfr (c :: R) = [c] := q1
    have q2' : aft (c :: R) = R := q2
    rw [q1', q2', if_neg (by simp), hfr]
    simp only
    rw [hx]
    simp only [if_true]
    congr 1
    rw [List.length_cons] at hE3
    simp
    omega
/-- A number that has a text. -/
structure Fits (n : Num) : Prop where
  canon : Canon n
  len : n.dg.length ≤ 17
  lo : n.dg ≠ [] → -400 ≤ firstN n
  hi : n.dg ≠ [] → firstN n ≤ 400
theorem ctext_fits {n : Num} (h : Canon n) (h0 : (ctext n).2 = 0) : Fits n := by
  unfold ctext at h0
  split at h0
  · rename_i hz
    exact ⟨h, by rw [hz]; simp, fun e => absurd hz e, fun e => absurd hz e⟩
  · split at h0
    · cases h0
    · rename_i h1
      exact ⟨h, by omega, fun _ => by omega, fun _ => by omega⟩
theorem fits_ok {n : Num} (h : Fits n) : (ctext n).2 = 0 := by
  unfold ctext
  split
  · rfl
  · rename_i h0
    have a := h.lo h0
    have b := h.hi h0
    have c := h.len
    rw [if_neg (by omega)]
/-- The text of a number is read as it. -/
theorem scn_ctext {f : List UInt8 → Nat} (hf : ∀ p, AllD p → vd p ≤ 400 → f p = vd p) {n : Num} (h : Fits n) : ∃ m, scn f (ctext n).1 = some m ∧ trimN m = n := by
  by_cases h0 : n.dg = []
  · have hz : n = zeroN := by
      obtain ⟨z1, z2⟩ := h.canon.zero h0
      obtain ⟨b, d, e⟩ := n
      simp only at z1 z2 h0
      rw [z1, z2, h0]
      rfl
    subst hz
    exact ⟨⟨false, [48], 0⟩, rfl, rfl⟩
  · have e : (ctext n).1 = (if n.neg then [45] else []) ++ n.dg.take 1 ++ (if 1 < n.dg.length then 46 :: n.dg.drop 1 else []) ++ 101 :: decZ (firstN n) := by
      have a := h.lo h0
      have b := h.hi h0
      have c := h.len
      unfold ctext
      rw [if_neg h0, if_neg (by omega)]
    rw [e]
    exact ⟨n, scn_text h.canon.all h0 h.len (h.lo h0) (h.hi h0) hf, trimN_of_canon h.canon⟩
theorem ptext_ctext {f : List UInt8 → Nat} (hf : ∀ p, AllD p → vd p ≤ 400 → f p = vd p) {n : Num} (h : Fits n) : ptext f (ctext n).1 = ((ctext n).1, 0) := by
  obtain ⟨m, h1, h2⟩ := scn_ctext hf h
  unfold ptext
  rw [h1]
  simp only
  rw [h2]
  exact Prod.ext rfl (fits_ok h)
theorem cl1_ok (p : List UInt8) (h : vd p ≤ 400) : cl1 p = vd p := by rw [cl1_eq]; omega
theorem cl2_ok (p : List UInt8) (h : vd p ≤ 400) : cl2 p = vd p := by rw [cl2_eq]; omega
end Wv.Dc
/-
  Decimal numbers in plain Lean: both limits of an exponent give the same text; canonical texts and their numbers. No program stands here.
-/
namespace Wv.Dc
theorem dfr_len (s : List UInt8) : (dfr s).length ≤ s.length := (List.takeWhile_prefix _).length_le
theorem aft_len (s : List UInt8) : (aft s).length ≤ s.length := (List.dropWhile_suffix _).length_le
theorem sgn_len (s : List UInt8) : (sgn s).2.length ≤ s.length := by
  match s with
  | [] => simp [sgn]
  | c :: t =>
    rw [sgn_cons]
    split
    · simp
    · split <;> simp
theorem frac_len {s : List UInt8} {x : List UInt8 × List UInt8} (h : frac s = some x) : x.1.length ≤ s.length ∧ AllD x.1 := by
  match s, h with
  | [], h => injection h with h; subst h; exact ⟨by simp, by intro c hc; simp at hc⟩
  | c :: t, h =>
    rw [frac_cons] at h
    split at h
    · split at h
      · cases h
      · injection h with h
        subst h
        have := dfr_len t
        exact ⟨by simp; omega, dfr_all t⟩
    · injection h with h
      subst h
      exact ⟨by simp, by intro c hc; simp at hc⟩
/-- What a text's number is made of. -/
theorem scn_parts {f : List UInt8 → Nat} {s : List UInt8} {n : Num} (h : scn f s = some n) : AllD n.dg ∧ n.dg.length ≤ 128 ∧ n.dg ≠ [] ∧ s.length ≤ 64 := by
  unfold scn at h
  split at h
  · cases h
  · rename_i h64
    split at h
    · cases h
    · rename_i hne
      match hf : frac (aft (sgn s).2), h with
      | none, h => cases h
      | some x, h =>
        simp only at h
        obtain ⟨l1, l2⟩ := frac_len hf
        match hx : expo f x.2, h with
        | none, h => cases h
        | some y, h =>
          simp only at h
          split at h
          · injection h with h
            subst h
            have a1 := sgn_len s
            have a2 := dfr_len (sgn s).2
            have a3 := aft_len (sgn s).2
            refine ⟨fun c hc => ?_, ?_, ?_, by omega⟩
            · rcases List.mem_append.1 hc with h1 | h1
              · exact dfr_all _ c h1
              · exact l2 c h1
            · simp only [List.length_append]; omega
            · simp only [ne_eq, List.append_eq_nil_iff]
              exact fun h => hne h.1
          · cases h
theorem ctext_far {b : Bool} {D : List UInt8} {e1 e2 : Int} (hl : D.length ≤ 128) (h : e1 = e2 ∨ (1000 ≤ e1 ∧ 1000 ≤ e2) ∨ (e1 ≤ -1000 ∧ e2 ≤ -1000)) : ctext (trimN ⟨b, D, e1⟩) = ctext (trimN ⟨b, D, e2⟩) := by
  rcases h with h | h
  · rw [h]
  · unfold trimN
    simp only
    have a1 := trimL_len D
    have a2 := trimR_len (trimL D)
    split
    · rfl
    · rename_i h0
      unfold ctext
      simp only
      rw [if_neg h0, if_neg h0]
      unfold firstN
      simp only
      rw [if_pos (by omega), if_pos (by omega)]
/-- Both limits give the same text. -/
theorem ptext_eq (s : List UInt8) : ptext cl1 s = ptext cl2 s := by
  have key : (scn cl1 s = none ∧ scn cl2 s = none) ∨ ∃ b D e1 e2, scn cl1 s = some ⟨b, D, e1⟩ ∧ scn cl2 s = some ⟨b, D, e2⟩ ∧ (e1 = e2 ∨ (1000 ≤ e1 ∧ 1000 ≤ e2) ∨ (e1 ≤ -1000 ∧ e2 ≤ -1000)) := by
    unfold scn
    by_cases h64 : 64 < s.length
    · rw [if_pos h64, if_pos h64]; exact .inl ⟨rfl, rfl⟩
    rw [if_neg h64, if_neg h64]
    by_cases hd : dfr (sgn s).2 = []
    · rw [if_pos hd, if_pos hd]; exact .inl ⟨rfl, rfl⟩
    rw [if_neg hd, if_neg hd]
    match hf : frac (aft (sgn s).2) with
    | none => exact .inl ⟨rfl, rfl⟩
    | some x =>
      simp only
      have l1 := (frac_len hf).1
      have a1 := sgn_len s
      have a3 := aft_len (sgn s).2
      match hx : x.2 with
      | [] =>
        simp only [expo, if_true]
        exact .inr ⟨_, _, _, _, rfl, rfl, .inl rfl⟩
      | c :: t =>
        rw [expo_cons, expo_cons]
        by_cases hc : c = 101 ∨ c = 69
        · rw [if_pos hc, if_pos hc]
          by_cases hp : dfr (sgn t).2 = []
          · rw [if_pos hp, if_pos hp]; exact .inl ⟨rfl, rfl⟩
          · rw [if_neg hp, if_neg hp]
            simp only
            by_cases hu : aft (sgn t).2 = []
            · rw [if_pos hu, if_pos hu]
              refine .inr ⟨_, _, _, _, rfl, rfl, ?_⟩
              rw [cl1_eq, cl2_eq]
              generalize vd (dfr (sgn t).2) = v
              unfold sg
              split <;> omega
            · rw [if_neg hu, if_neg hu]; exact .inl ⟨rfl, rfl⟩
        · rw [if_neg hc, if_neg hc]
          simp
  unfold ptext
  rcases key with ⟨h1, h2⟩ | ⟨b, D, e1, e2, h1, h2, h3⟩
  · rw [h1, h2]
  · rw [h1, h2]
    exact ctext_far (scn_parts h1).2.1 h3
/-- The number of a canonical text. -/
def canN (s : List UInt8) : Option Num := match scn cl1 s with
  | none => none
  | some m => if ctext (trimN m) = (s, 0) then some (trimN m) else none
theorem canN_iff {s : List UInt8} {n : Num} : canN s = some n ↔ Fits n ∧ s = (ctext n).1 := by
  constructor
  · intro h
    unfold canN at h
    match hs : scn cl1 s, h with
    | none, h => cases h
    | some m, h =>
      simp only at h
      split at h
      · rename_i h1
        injection h with h
        subst h
        exact ⟨ctext_fits (trimN_canon (scn_parts hs).1) (by rw [h1]), by rw [h1]⟩
      · cases h
  · rintro ⟨h1, rfl⟩
    obtain ⟨m, h2, h3⟩ := scn_ctext (f := cl1) (fun p _ h => cl1_ok p h) h1
    unfold canN
    rw [h2]
    simp only
    have e : ctext n = ((ctext n).1, 0) := Prod.ext rfl (fits_ok h1)
    rw [h3, if_pos e]
theorem canN_text {n : Num} (h : Fits n) : canN (ctext n).1 = some n := canN_iff.2 ⟨h, rfl⟩
theorem ptext_fits {s : List UInt8} (h : (ptext cl1 s).2 = 0) : ∃ n, Fits n ∧ ptext cl1 s = ((ctext n).1, 0) := by
  unfold ptext at h ⊢
  match hs : scn cl1 s with
  | none => rw [hs] at h; cases h
  | some m =>
    rw [hs] at h
    simp only at h ⊢
    exact ⟨trimN m, ctext_fits (trimN_canon (scn_parts hs).1) h, Prod.ext rfl h⟩
theorem canN_ptext (s : List UInt8) : (canN s).isSome = true ↔ ptext cl1 s = (s, 0) := by
  unfold canN ptext
  match scn cl1 s with
  | none => simp
  | some m =>
    simp only
    split
    · rename_i h; simp [h]
    · rename_i h; simp [h]
/-- The text of a number says which it is. -/
theorem ctext_inj {a b : Num} (ha : Fits a) (hb : Fits b) (h : (ctext a).1 = (ctext b).1) : a = b := by
  have h1 := canN_text ha
  rw [h, canN_text hb] at h1
  injection h1 with h1
  exact h1.symm
end Wv.Dc
/-
  Decimal numbers in plain Lean: comparing and adding, and what these say of the values. No program stands here.
-/
namespace Wv.Dc
def cmpZ (x y : Int) : Int := if x < y then -1 else if x = y then 0 else 1
def lcmp : List UInt8 → List UInt8 → Int
  | [], [] => 0
  | [], _ :: _ => -1
  | _ :: _, [] => 1
  | c :: s, d :: t => if c.toNat < d.toNat then -1 else if d.toNat < c.toNat then 1 else lcmp s t
def magN (a b : Num) : Int :=
  if a.dg = [] ∨ b.dg = [] then cmpZ a.dg.length b.dg.length
  else if cmpZ (firstN a) (firstN b) ≠ 0 then cmpZ (firstN a) (firstN b) else lcmp a.dg b.dg
def signN (n : Num) : Int := if n.dg = [] then 0 else if n.neg then -1 else 1
def compN (a b : Num) : Int := if cmpZ (signN a) (signN b) ≠ 0 then cmpZ (signN a) (signN b) else signN a * magN a b
/-- The magnitude of a number at a scale. -/
def Mg (K : Nat) (n : Num) : Nat := vd n.dg * 10 ^ (n.ex + K).toNat
theorem V_mg (K : Nat) (n : Num) : V K n = sg n.neg * (Mg K n : Int) := rfl
theorem cmpZ_iff (x y : Int) : (cmpZ x y < 0 ↔ x < y) ∧ (cmpZ x y = 0 ↔ x = y) ∧ (0 < cmpZ x y ↔ y < x) := by
  unfold cmpZ
  split
  · omega
  · split <;> omega
theorem cmpZ_cases (x y : Int) : (cmpZ x y = -1 ∧ x < y) ∨ (cmpZ x y = 0 ∧ x = y) ∨ (cmpZ x y = 1 ∧ y < x) := by
  unfold cmpZ
  split
  · exact .inl ⟨rfl, by assumption⟩
  · split
    · exact .inr (.inl ⟨rfl, by assumption⟩)
    · exact .inr (.inr ⟨rfl, by omega⟩)
theorem cmpZ_add (q x y : Nat) : cmpZ ((q + x : Nat) : Int) ((q + y : Nat) : Int) = cmpZ x y := by
  rcases cmpZ_cases x y with ⟨h, h2⟩ | ⟨h, h2⟩ | ⟨h, h2⟩ <;> rcases cmpZ_cases ((q + x : Nat) : Int) ((q + y : Nat) : Int) with ⟨g, g2⟩ | ⟨g, g2⟩ | ⟨g, g2⟩ <;> first | (exfalso; omega) | rw [h, g]
theorem cmpZ_neg (x y : Int) : cmpZ (-x) (-y) = -cmpZ x y := by
  rcases cmpZ_cases x y with ⟨h, h2⟩ | ⟨h, h2⟩ | ⟨h, h2⟩ <;> rcases cmpZ_cases (-x) (-y) with ⟨g, g2⟩ | ⟨g, g2⟩ | ⟨g, g2⟩ <;> first | (exfalso; omega) | (rw [h, g] <;> rfl)
theorem cmpZ_lt {x y : Int} (h : x < y) : cmpZ x y = -1 := by unfold cmpZ; rw [if_pos h]
theorem cmpZ_self (x : Int) : cmpZ x x = 0 := by unfold cmpZ; rw [if_neg (by omega), if_pos rfl]
theorem cmpZ_gt {x y : Int} (h : y < x) : cmpZ x y = 1 := by unfold cmpZ; rw [if_neg (by omega), if_neg (by omega)]
theorem mg_pos {K : Nat} {n : Num} (h : Canon n) (h0 : n.dg ≠ []) : 0 < Mg K n := Nat.mul_pos (by have := vd_back h.all h.back h0; omega) (Nat.pow_pos (by omega))
theorem mg_zero {K : Nat} {n : Num} (h0 : n.dg = []) : Mg K n = 0 := by unfold Mg; rw [h0, vd_nil, Nat.zero_mul]
/-- Where the first digit stands. -/
theorem mg_range {K : Nat} {n : Num} (h : Canon n) (h0 : n.dg ≠ []) (hk : 0 ≤ n.ex + K) : 10 ^ (firstN n + K).toNat ≤ Mg K n ∧ Mg K n < 10 ^ (firstN n + K + 1).toNat := by
  have hl : 0 < n.dg.length := List.length_pos_iff.2 h0
  have a := vd_front h.all h.front h0
  have b := vd_lt h.all
  unfold Mg firstN
  have e1 : (n.ex + (n.dg.length : Int) - 1 + K).toNat = (n.dg.length - 1) + (n.ex + K).toNat := by omega
  have e2 : (n.ex + (n.dg.length : Int) - 1 + K + 1).toNat = n.dg.length + (n.ex + K).toNat := by omega
  rw [e1, e2, Nat.pow_add, Nat.pow_add]
  exact ⟨Nat.mul_le_mul_right _ a, Nat.mul_lt_mul_of_pos_right b (Nat.pow_pos (by omega))⟩
theorem lcmp_lt : ∀ {l r : List UInt8}, AllD l → AllD r → l.getLast? ≠ some 48 → r.getLast? ≠ some 48 → ∀ i j, l.length + i = r.length + j →
    lcmp l r = cmpZ ((vd l * 10 ^ i : Nat) : Int) ((vd r * 10 ^ j : Nat) : Int)
  | [], [], _, _, _, _, i, j, h => by simp [lcmp, cmpZ, vd_nil]
  | [], d :: t, _, h2, _, b2, i, j, h => by
    have h1 : vd (d :: t) % 10 ≠ 0 := vd_back h2 b2 (by simp)
    have h3 : 0 < vd (d :: t) * 10 ^ j := Nat.mul_pos (by omega) (Nat.pow_pos (by omega))
    rw [vd_nil, Nat.zero_mul]
    unfold lcmp cmpZ
    rw [if_pos (by omega)]
  | c :: s, [], h1, _, b1, _, i, j, h => by
    have h2 : vd (c :: s) % 10 ≠ 0 := vd_back h1 b1 (by simp)
    have h3 : 0 < vd (c :: s) * 10 ^ i := Nat.mul_pos (by omega) (Nat.pow_pos (by omega))
    rw [vd_nil, Nat.zero_mul]
    unfold lcmp cmpZ
    rw [if_neg (by omega), if_neg (by omega)]
  | c :: s, d :: t, h1, h2, b1, b2, i, j, h => by
    have hs : AllD s := fun x hx => h1 x (List.mem_cons_of_mem _ hx)
    have ht : AllD t := fun x hx => h2 x (List.mem_cons_of_mem _ hx)
    have hl : s.length + i = t.length + j := by simp only [List.length_cons] at h; omega
    have e1 : vd (c :: s) * 10 ^ i = dv c * 10 ^ (s.length + i) + vd s * 10 ^ i := by rw [vd_cons, Nat.add_mul, Nat.mul_assoc, ← Nat.pow_add]
    have e2 : vd (d :: t) * 10 ^ j = dv d * 10 ^ (s.length + i) + vd t * 10 ^ j := by rw [vd_cons, Nat.add_mul, Nat.mul_assoc, ← Nat.pow_add, hl]
    have l1 : vd s * 10 ^ i < 10 ^ (s.length + i) := by rw [Nat.pow_add]; exact Nat.mul_lt_mul_of_pos_right (vd_lt hs) (Nat.pow_pos (by omega))
    have l2 : vd t * 10 ^ j < 10 ^ (s.length + i) := by rw [hl, Nat.pow_add]; exact Nat.mul_lt_mul_of_pos_right (vd_lt ht) (Nat.pow_pos (by omega))
    have bs1 : s.getLast? ≠ some 48 := by
      intro e
      apply b1
      match s, e with
      | x :: y, e => rw [List.getLast?_cons_cons]; exact e
    have bt1 : t.getLast? ≠ some 48 := by
      intro e
      apply b2
      match t, e with
      | x :: y, e => rw [List.getLast?_cons_cons]; exact e
    have ih := lcmp_lt hs ht bs1 bt1 i j hl
    rw [e1, e2]
    have hc := h1 c List.mem_cons_self
    have hd := h2 d List.mem_cons_self
    have d1 : dv c + 48 = c.toNat := by unfold isD at hc; unfold dv; simp at hc; omega
    have d2 : dv d + 48 = d.toNat := by unfold isD at hd; unfold dv; simp at hd; omega
    generalize 10 ^ (s.length + i) = P at *
    generalize vd s * 10 ^ i = x at *
    generalize vd t * 10 ^ j = y at *
    unfold lcmp
    by_cases c1 : c.toNat < d.toNat
    · rw [if_pos c1]
      have : (dv c + 1) * P ≤ dv d * P := Nat.mul_le_mul_right _ (by omega)
      rw [Nat.add_mul] at this
      unfold cmpZ
      rw [if_pos (by omega)]
    · rw [if_neg c1]
      by_cases c2 : d.toNat < c.toNat
      · rw [if_pos c2]
        have : (dv d + 1) * P ≤ dv c * P := Nat.mul_le_mul_right _ (by omega)
        rw [Nat.add_mul] at this
        unfold cmpZ
        rw [if_neg (by omega), if_neg (by omega)]
      · rw [if_neg c2, ih]
        have : dv c = dv d := by omega
        rw [this]
        exact (cmpZ_add _ _ _).symm
/-- Comparing without signs. -/
theorem magN_eq {K : Nat} {a b : Num} (ha : Canon a) (hb : Canon b) (ka : 0 ≤ a.ex + K) (kb : 0 ≤ b.ex + K) : magN a b = cmpZ (Mg K a) (Mg K b) := by
  unfold magN
  by_cases h0 : a.dg = [] ∨ b.dg = []
  · rw [if_pos h0]
    by_cases a0 : a.dg = []
    · by_cases b0 : b.dg = []
      · rw [mg_zero a0, mg_zero b0, a0, b0]; rfl
      · have := mg_pos (K := K) hb b0
        have h2 : 0 < b.dg.length := List.length_pos_iff.2 b0
        rw [mg_zero a0, a0]
        unfold cmpZ
        rw [if_pos (by simp; omega), if_pos (by omega)]
    · have b0 : b.dg = [] := h0.resolve_left a0
      have := mg_pos (K := K) ha a0
      have h2 : 0 < a.dg.length := List.length_pos_iff.2 a0
      rw [mg_zero b0, b0]
      unfold cmpZ
      rw [if_neg (by simp), if_neg (by simp; omega), if_neg (by omega), if_neg (by omega)]
  · have a0 : a.dg ≠ [] := fun e => h0 (.inl e)
    have b0 : b.dg ≠ [] := fun e => h0 (.inr e)
    rw [if_neg h0]
    obtain ⟨a1, a2⟩ := mg_range ha a0 ka
    obtain ⟨b1, b2⟩ := mg_range hb b0 kb
    have la : 0 < a.dg.length := List.length_pos_iff.2 a0
    have lb : 0 < b.dg.length := List.length_pos_iff.2 b0
    have fa : 0 ≤ firstN a + K := by unfold firstN; omega
    have fb : 0 ≤ firstN b + K := by unfold firstN; omega
    rcases cmpZ_cases (firstN a) (firstN b) with ⟨h1, h2⟩ | ⟨h1, h2⟩ | ⟨h1, h2⟩
    · rw [h1, if_pos (by omega)]
      have : 10 ^ (firstN a + K + 1).toNat ≤ 10 ^ (firstN b + K).toNat := Nat.pow_le_pow_right (by omega) (by omega)
      unfold cmpZ
      rw [if_pos (by omega)]
    · rw [h1, if_neg (by omega)]
      unfold Mg
      refine lcmp_lt ha.all hb.all ha.back hb.back _ _ ?_
      unfold firstN at h2
      omega
    · rw [h1, if_pos (by omega)]
      have : 10 ^ (firstN b + K + 1).toNat ≤ 10 ^ (firstN a + K).toNat := Nat.pow_le_pow_right (by omega) (by omega)
      unfold cmpZ
      rw [if_neg (by omega), if_neg (by omega)]
theorem signN_eq {K : Nat} {n : Num} (h : Canon n) : signN n = cmpZ (V K n) 0 := by
  unfold signN
  rw [V_mg]
  by_cases h0 : n.dg = []
  · rw [if_pos h0, mg_zero h0]
    simp [cmpZ]
  · rw [if_neg h0]
    have := mg_pos (K := K) h h0
    unfold sg cmpZ
    cases n.neg <;> simp <;> omega
/-- Comparing two numbers is comparing their values. -/
theorem compN_eq {K : Nat} {a b : Num} (ha : Canon a) (hb : Canon b) (ka : 0 ≤ a.ex + K) (kb : 0 ≤ b.ex + K) : compN a b = cmpZ (V K a) (V K b) := by
  have sa := signN_eq (K := K) ha
  have sb := signN_eq (K := K) hb
  have hm := magN_eq ha hb ka kb
  unfold compN
  rw [hm, sa, sb, V_mg, V_mg]
  generalize Mg K a = x at *
  generalize Mg K b = y at *
  have key : ∀ u v : Int, ∀ m : Int, (0 < u → 0 < v → m = cmpZ u v) → (u < 0 → v < 0 → m = - cmpZ u v) →
      (if cmpZ (cmpZ u 0) (cmpZ v 0) ≠ 0 then cmpZ (cmpZ u 0) (cmpZ v 0) else cmpZ u 0 * m) = cmpZ u v := by
    intro u v m h1 h2
    rcases cmpZ_cases u 0 with ⟨hu, hu2⟩ | ⟨hu, hu2⟩ | ⟨hu, hu2⟩ <;> rcases cmpZ_cases v 0 with ⟨hv, hv2⟩ | ⟨hv, hv2⟩ | ⟨hv, hv2⟩ <;> rw [hu, hv]
    · rw [if_neg (by decide), h2 hu2 hv2]; omega
    · rw [if_pos (by decide), cmpZ_lt (show u < v by omega)]; rfl
    · rw [if_pos (by decide), cmpZ_lt (show u < v by omega)]; rfl
    · rw [if_pos (by decide), cmpZ_gt (show v < u by omega)]; rfl
    · rw [if_neg (by decide), hu2, hv2, cmpZ_self]; omega
    · rw [if_pos (by decide), cmpZ_lt (show u < v by omega)]; rfl
    · rw [if_pos (by decide), cmpZ_gt (show v < u by omega)]; rfl
    · rw [if_pos (by decide), cmpZ_gt (show v < u by omega)]; rfl
    · rw [if_neg (by decide), h1 hu2 hv2]; omega
  apply key
  · intro h1 h2
    have e : ∀ (b : Bool) (z : Nat), 0 < sg b * (z : Int) → sg b * (z : Int) = z := by
      intro b z h
      cases b
      · simp [sg]
      · simp [sg] at h
        omega
    rw [e _ _ h1, e _ _ h2]
  · intro h1 h2
    have e : ∀ (b : Bool) (z : Nat), sg b * (z : Int) < 0 → sg b * (z : Int) = -z := by
      intro b z h
      cases b
      · simp [sg] at h
        omega
      · simp [sg]
    rw [e _ _ h1, e _ _ h2, cmpZ_neg]
    omega
def minusN (n : Num) : Num := ⟨!n.neg && decide (n.dg ≠ []), n.dg, n.ex⟩
theorem minusN_canon {n : Num} (h : Canon n) : Canon (minusN n) := ⟨h.all, h.front, h.back, fun e => ⟨by simp [minusN] at e ⊢; intro _; exact e, (h.zero e).2⟩⟩
theorem V_minusN (K : Nat) (n : Num) : V K (minusN n) = - V K n := by
  rw [V_mg, V_mg]
  have : Mg K (minusN n) = Mg K n := rfl
  rw [this]
  unfold minusN
  by_cases h0 : n.dg = []
  · rw [mg_zero h0]; simp
  · simp [h0]
    cases n.neg <;> simp [sg]
theorem minusN_fits {n : Num} (h : Fits n) : Fits (minusN n) := ⟨minusN_canon h.canon, h.len, h.lo, h.hi⟩
end Wv.Dc
/-
  Decimal numbers in plain Lean: adding; the laws of sums, comparisons, tolerances. No program stands here.
-/
namespace Wv.Dc
def digs : Nat → Nat → List UInt8
  | 0, _ => []
  | k + 1, n => digs k (n / 10) ++ [UInt8.ofNat (48 + n % 10)]
theorem digs_len (k : Nat) : ∀ n, (digs k n).length = k := by
  induction k with
  | zero => intro n; rfl
  | succ k ih => intro n; rw [digs, List.length_append, ih]; rfl
theorem digs_all (k : Nat) : ∀ n, AllD (digs k n) := by
  induction k with
  | zero => intro n c hc; simp [digs] at hc
  | succ k ih =>
    intro n c hc
    rw [digs] at hc
    rcases List.mem_append.1 hc with h | h
    · exact ih _ c h
    · rw [List.mem_singleton] at h
      rw [h]
      exact (isD_of (by omega)).1
theorem vd_digs (k : Nat) : ∀ n, n < 10 ^ k → vd (digs k n) = n := by
  induction k with
  | zero => intro n h; simp at h; subst h; rfl
  | succ k ih =>
    intro n h
    rw [digs, vd_append, ih (n / 10) (by rw [Nat.pow_succ] at h; omega), vd_one, (isD_of (d := n % 10) (by omega)).2]
    simp
    omega
theorem digs_vd {l : List UInt8} (h : AllD l) : digs l.length (vd l) = l :=
  vd_inj (digs_all _ _) h (digs_len _ _) (vd_digs _ _ (vd_lt h))
/-- A number's digits with a lower exponent. -/
def Al (x : Int) (n : Num) : Nat := vd n.dg * 10 ^ (n.ex - x).toNat
def lowE (a b : Num) : Int := min a.ex b.ex
def lenE (a b : Num) : Nat := (max (firstN a) (firstN b) - lowE a b + 2).toNat
/-- The sum before zeros are taken away. -/
def addR (a b : Num) : Num :=
  ⟨if magN a b < 0 then b.neg else a.neg,
   digs (lenE a b) (if a.neg = b.neg then Al (lowE a b) a + Al (lowE a b) b else if magN a b < 0 then Al (lowE a b) b - Al (lowE a b) a else Al (lowE a b) a - Al (lowE a b) b), lowE a b⟩
def addN (a b : Num) : Num := if a.dg = [] then b else if b.dg = [] then a else trimN (addR a b)
theorem al_mg {K : Nat} {x : Int} {n : Num} (h1 : x ≤ n.ex) (h2 : 0 ≤ x + K) : Mg K n = Al x n * 10 ^ (x + K).toNat := by
  unfold Mg Al
  rw [Nat.mul_assoc, ← Nat.pow_add]
  congr 2
  omega
theorem al_lt {x : Int} {n : Num} (h : Canon n) (h0 : n.dg ≠ []) (h1 : x ≤ n.ex) : Al x n < 10 ^ (firstN n - x + 1).toNat := by
  unfold Al firstN
  have hl : 0 < n.dg.length := List.length_pos_iff.2 h0
  have e : (n.ex + (n.dg.length : Int) - 1 - x + 1).toNat = n.dg.length + (n.ex - x).toNat := by omega
  rw [e, Nat.pow_add]
  exact Nat.mul_lt_mul_of_pos_right (vd_lt h.all) (Nat.pow_pos (by omega))
/-- The sum's digits are enough. -/
theorem add_room {a b : Num} (ha : Canon a) (hb : Canon b) (a0 : a.dg ≠ []) (b0 : b.dg ≠ []) : Al (lowE a b) a + Al (lowE a b) b < 10 ^ lenE a b := by
  have h1 := al_lt (x := lowE a b) ha a0 (by unfold lowE; omega)
  have h2 := al_lt (x := lowE a b) hb b0 (by unfold lowE; omega)
  have la : 0 < a.dg.length := List.length_pos_iff.2 a0
  have lb : 0 < b.dg.length := List.length_pos_iff.2 b0
  have fa : firstN a = a.ex + a.dg.length - 1 := rfl
  have fb : firstN b = b.ex + b.dg.length - 1 := rfl
  have hl : lenE a b = (max (firstN a) (firstN b) - lowE a b + 1).toNat + 1 := by unfold lenE lowE; omega
  have e1 : 10 ^ (firstN a - lowE a b + 1).toNat ≤ 10 ^ (max (firstN a) (firstN b) - lowE a b + 1).toNat := Nat.pow_le_pow_right (by omega) (by omega)
  have e2 : 10 ^ (firstN b - lowE a b + 1).toNat ≤ 10 ^ (max (firstN a) (firstN b) - lowE a b + 1).toNat := Nat.pow_le_pow_right (by omega) (by omega)
  rw [hl, Nat.pow_succ]
  omega
theorem addN_canon {a b : Num} (ha : Canon a) (hb : Canon b) : Canon (addN a b) := by
  unfold addN
  split
  · exact hb
  · split
    · exact ha
    · exact trimN_canon (digs_all _ _)
theorem trimN_ex {n : Num} : n.ex ≤ (trimN n).ex ∨ (trimN n).ex = 0 := by
  unfold trimN
  split
  · exact .inr rfl
  · exact .inl (by simp only; omega)
theorem addN_ex {a b : Num} : min a.ex b.ex ≤ (addN a b).ex ∨ (addN a b).ex = 0 := by
  unfold addN
  split
  · exact .inl (by omega)
  · split
    · exact .inl (by omega)
    · exact trimN_ex (n := addR a b)
theorem V_addN {K : Nat} {a b : Num} (ha : Canon a) (hb : Canon b) (ka : 0 ≤ a.ex + K) (kb : 0 ≤ b.ex + K) : V K (addN a b) = V K a + V K b := by
  unfold addN
  by_cases a0 : a.dg = []
  · rw [if_pos a0, V_mg K a, mg_zero a0]; simp
  rw [if_neg a0]
  by_cases b0 : b.dg = []
  · rw [if_pos b0, V_mg K b, mg_zero b0]; simp
  rw [if_neg b0]
  have hx : 0 ≤ lowE a b + K := by unfold lowE; omega
  have hroom := add_room ha hb a0 b0
  have hm := magN_eq (K := K) ha hb ka kb
  rw [V_trimN hx, V_mg K a, V_mg K b, al_mg (x := lowE a b) (by unfold lowE; omega) hx, al_mg (n := b) (x := lowE a b) (by unfold lowE; omega) hx]
  rw [al_mg (n := a) (x := lowE a b) (by unfold lowE; omega) hx, al_mg (n := b) (x := lowE a b) (by unfold lowE; omega) hx] at hm
  have hp : 0 < 10 ^ (lowE a b + K).toNat := Nat.pow_pos (by omega)
  have hmg : (magN a b < 0 ↔ Al (lowE a b) a < Al (lowE a b) b) := by
    rw [hm, (cmpZ_iff _ _).1]
    generalize 10 ^ (lowE a b + K).toNat = P at *
    generalize Al (lowE a b) a = x at *
    generalize Al (lowE a b) b = y at *
    constructor
    · intro h
      exact Nat.lt_of_mul_lt_mul_right (show x * P < y * P by omega)
    · intro h
      have := Nat.mul_lt_mul_of_pos_right h hp
      omega
  clear hm
  unfold V addR
  simp only
  rw [vd_digs _ _ (by
    split
    · exact hroom
    · split <;> omega)]
  generalize 10 ^ (lowE a b + K).toNat = P at *
  generalize Al (lowE a b) a = x at *
  generalize Al (lowE a b) b = y at *
  have hsub : ∀ u v : Nat, u ≤ v → (((v - u) * P : Nat) : Int) = ((v * P : Nat) : Int) - ((u * P : Nat) : Int) := by
    intro u v h
    have e : (v - u) * P + u * P = v * P := by rw [← Nat.add_mul, Nat.sub_add_cancel h]
    omega
  have hadd : (((x + y) * P : Nat) : Int) = ((x * P : Nat) : Int) + ((y * P : Nat) : Int) := by rw [Nat.add_mul]; omega
  by_cases hxy : x < y
  · rw [if_pos (hmg.2 hxy), if_pos (hmg.2 hxy)]
    have := hsub x y (by omega)
    cases a.neg <;> cases b.neg <;> simp only [sg, if_true, if_false, reduceCtorEq, Bool.false_eq_true, this, hadd] <;> omega
  · have hn : ¬ magN a b < 0 := fun h => hxy (hmg.1 h)
    rw [if_neg hn, if_neg hn]
    have := hsub y x (by omega)
    cases a.neg <;> cases b.neg <;> simp only [sg, if_true, if_false, reduceCtorEq, Bool.false_eq_true, this, hadd] <;> omega
/-- The exponents of numbers that have a text. -/
theorem fits_ex {n : Num} (h : Fits n) : -417 ≤ n.ex := by
  by_cases h0 : n.dg = []
  · rw [(h.canon.zero h0).2]; omega
  · have a := h.lo h0
    have b := h.len
    unfold firstN at a
    omega
theorem addN_low {a b : Num} (ha : -417 ≤ a.ex) (hb : -417 ≤ b.ex) : -417 ≤ (addN a b).ex := by
  rcases addN_ex (a := a) (b := b) with h | h <;> omega
/-- The value at the scale that serves all. -/
def W (n : Num) : Int := V 1000 n
theorem W_add {a b : Num} (ha : Canon a) (hb : Canon b) (ka : -417 ≤ a.ex) (kb : -417 ≤ b.ex) : W (addN a b) = W a + W b := V_addN ha hb (by omega) (by omega)
theorem W_comp {a b : Num} (ha : Canon a) (hb : Canon b) (ka : -417 ≤ a.ex) (kb : -417 ≤ b.ex) : compN a b = cmpZ (W a) (W b) := compN_eq ha hb (by omega) (by omega)
theorem W_minus (n : Num) : W (minusN n) = -W n := V_minusN 1000 n
theorem W_inj {a b : Num} (ha : Canon a) (hb : Canon b) (ka : -417 ≤ a.ex) (kb : -417 ≤ b.ex) (h : W a = W b) : a = b := canon_inj ha hb (by omega) (by omega) h
theorem W_sign {n : Num} (h : Canon n) : signN n = cmpZ (W n) 0 := signN_eq h
theorem W_zero : W zeroN = 0 := V_zero 1000 _ _
def absN (n : Num) : Num := ⟨false, n.dg, n.ex⟩
theorem absN_canon {n : Num} (h : Canon n) : Canon (absN n) := ⟨h.all, h.front, h.back, fun e => ⟨rfl, (h.zero e).2⟩⟩
theorem W_abs (n : Num) : W (absN n) = (W n).natAbs := by
  show sg false * (Mg 1000 n : Int) = ((sg n.neg * (Mg 1000 n : Int)).natAbs : Int)
  cases n.neg <;> simp [sg]
/-- Whether two numbers differ by at most a third. -/
def withN (a b t : Num) : Bool := decide (compN (absN (addN a (minusN b))) t ≤ 0)
theorem W_with {a b t : Num} (ha : Canon a) (hb : Canon b) (ht : Canon t) (ka : -417 ≤ a.ex) (kb : -417 ≤ b.ex) (kt : -417 ≤ t.ex) : withN a b t = decide (((W a - W b).natAbs : Int) ≤ W t) := by
  unfold withN
  have hk : -417 ≤ (minusN b).ex := kb
  have hd := addN_canon ha (minusN_canon hb)
  rw [W_comp (absN_canon hd) ht (addN_low ka hk) kt, W_abs, W_add ha (minusN_canon hb) ka hk, W_minus]
  have e : W a + -W b = W a - W b := by omega
  rw [e, decide_eq_decide]
  rcases cmpZ_cases ((W a - W b).natAbs : Int) (W t) with ⟨h, h2⟩ | ⟨h, h2⟩ | ⟨h, h2⟩ <;> omega
end Wv.Dc
/-
  Decimal numbers in plain Lean: texts without exponent; integers. No program stands here.
-/
namespace Wv.Dc
def zs (k : Nat) : List UInt8 := List.replicate k 48
/-- The digits of a number without exponent, its sign left out. -/
def body (n : Num) : List UInt8 :=
  if 0 ≤ n.ex then n.dg ++ zs n.ex.toNat
  else if 0 < firstN n + 1 then n.dg.take (firstN n + 1).toNat ++ 46 :: n.dg.drop (firstN n + 1).toNat
  else 48 :: 46 :: (zs (-(firstN n + 1)).toNat ++ n.dg)
def plainN (n : Num) : Option (List UInt8) :=
  if n.dg = [] then some [48] else if 40 < firstN n ∨ n.ex < -40 then none
  else if 40 < ((if n.neg then [45] else []) ++ body n).length then none else some ((if n.neg then [45] else []) ++ body n)
theorem allD_zs (k : Nat) : AllD (zs k) := fun c hc => by
  have := (List.mem_replicate.1 hc).2
  rw [this]
  decide
theorem allD_append {a b : List UInt8} (ha : AllD a) (hb : AllD b) : AllD (a ++ b) := fun c hc => by
  rcases List.mem_append.1 hc with h | h
  · exact ha c h
  · exact hb c h
/-- Texts without exponent are read so. -/
theorem scn_plain {f : List UInt8 → Nat} {b : Bool} {w p : List UInt8} (hw : AllD w) (hp : AllD p) (w0 : w ≠ []) (hl : w.length + p.length ≤ 60) :
    scn f ((if b then [45] else []) ++ (w ++ if p = [] then [] else 46 :: p)) = some ⟨b, w ++ p, -(p.length : Int)⟩ := by
  obtain ⟨R, hR⟩ : ∃ R, (if p = [] then ([] : List UInt8) else 46 :: p) = R := ⟨_, rfl⟩
  rw [hR]
  have hR0 : ∀ x y, R = x :: y → isD x = false := by
    intro x y h
    rw [← hR] at h
    split at h
    · cases h
    · injection h with h1 _; rw [← h1]; decide
  have hRl : R.length ≤ p.length + 1 := by rw [← hR]; split <;> simp
  obtain ⟨q1, q2⟩ := dfr_append hw hR0
  have hs : sgn ((if b then [45] else []) ++ (w ++ R)) = (b, w ++ R) := by
    cases b
    · match w, w0 with
      | c :: t, _ => simpa using sgn_digit (t := t ++ R) (hw c List.mem_cons_self)
    · simp [sgn]
  have hfr : frac R = some (p, []) := by
    rw [← hR]
    by_cases h : p = []
    · rw [if_pos h, h]; rfl
    · rw [if_neg h, frac_cons, if_pos rfl]
      obtain ⟨a1, a2⟩ := dfr_append (d := p) (r := []) hp (fun _ _ h => by cases h)
      rw [List.append_nil] at a1 a2
      rw [a1, a2, if_neg h]
  unfold scn
  have hlen : ¬ 64 < ((if b then [(45 : UInt8)] else []) ++ (w ++ R)).length := by
    have h2 : (if b then [(45 : UInt8)] else []).length ≤ 1 := by cases b <;> simp
    rw [List.length_append, List.length_append]
    omega
  rw [if_neg hlen, hs]
  simp only
  rw [q1, q2, if_neg w0, hfr]
  simp only [expo, if_true]
  congr 1
  simp
theorem vd_zs (l : List UInt8) (k : Nat) : vd (l ++ zs k) = vd l * 10 ^ k := by
  rw [vd_append]
  unfold zs
  rw [vd_zeros, List.length_replicate, Nat.add_zero]
theorem vd_zs_front (l : List UInt8) (k : Nat) : vd (zs k ++ l) = vd l := by
  rw [vd_append]
  unfold zs
  rw [vd_zeros, Nat.zero_mul, Nat.zero_add]
/-- What has the same value has the same form. -/
theorem trimN_same {a n : Num} (ha : AllD a.dg) (hn : Canon n) (ka : -1000 ≤ a.ex) (kn : -1000 ≤ n.ex) (h : W a = W n) : trimN a = n := by
  have hk : -1000 ≤ (trimN a).ex := by rcases trimN_ex (n := a) with h | h <;> omega
  refine canon_inj (K := 1000) (trimN_canon ha) hn (by omega) (by omega) ?_
  rw [V_trimN (by omega)]
  exact h
/-- The parts of a text without exponent. -/
theorem body_parts {n : Num} (h : Canon n) (h0 : n.dg ≠ []) (hl : -40 ≤ n.ex) (hf : firstN n ≤ 40) : ∃ w p, body n = w ++ (if p = [] then [] else 46 :: p) ∧ AllD w ∧ AllD p ∧ w ≠ [] ∧
    W ⟨n.neg, w ++ p, -(p.length : Int)⟩ = W n ∧ (n.ex < 0 → p ≠ [] ∧ p.getLast? ≠ some 48) ∧ (0 ≤ n.ex → p = []) ∧ (w.head? = some 48 → w = [48]) ∧ (n.ex < 0 → p.length = (-n.ex).toNat) := by
  have la : 0 < n.dg.length := List.length_pos_iff.2 h0
  have fd : firstN n = n.ex + n.dg.length - 1 := rfl
  have hW : ∀ (w p : List UInt8) (i j : Nat), vd (w ++ p) * 10 ^ (-(p.length : Int) + 1000).toNat = vd n.dg * 10 ^ (n.ex + 1000).toNat → W ⟨n.neg, w ++ p, -(p.length : Int)⟩ = W n := by
    intro w p i j e
    show sg n.neg * (((vd (w ++ p) * 10 ^ (-(p.length : Int) + 1000).toNat : Nat)) : Int) = sg n.neg * (((vd n.dg * 10 ^ (n.ex + 1000).toNat : Nat)) : Int)
    rw [e]
  unfold body
  by_cases e0 : 0 ≤ n.ex
  · rw [if_pos e0]
    refine ⟨n.dg ++ zs n.ex.toNat, [], by simp, allD_append h.all (allD_zs _), by intro c hc; simp at hc, by simp [h0], hW _ _ 0 0 ?_, by omega, fun _ => rfl, ?_, by omega⟩
    · rw [List.append_nil, vd_zs, Nat.mul_assoc, ← Nat.pow_add]
      congr 2
      simp
      omega
    · intro hh
      exfalso
      apply h.front
      match hd : n.dg, h0 with
      | c :: t, _ => rw [hd] at hh; simpa using hh
  · rw [if_neg e0]
    by_cases e1 : 0 < firstN n + 1
    · rw [if_pos e1]
      have hk : (firstN n + 1).toNat < n.dg.length := by omega
      have hdl : (n.dg.drop (firstN n + 1).toNat).length = (-n.ex).toNat := by rw [List.length_drop]; omega
      have hp : n.dg.drop (firstN n + 1).toNat ≠ [] := by
        intro e
        rw [e] at hdl
        simp at hdl
        omega
      refine ⟨n.dg.take (firstN n + 1).toNat, n.dg.drop (firstN n + 1).toNat, by rw [if_neg hp], fun c hc => h.all c (List.mem_of_mem_take hc), fun c hc => h.all c (List.mem_of_mem_drop hc), ?_, hW _ _ 0 0 ?_, fun _ => ⟨hp, ?_⟩, by omega, ?_, fun _ => hdl⟩
      · intro e
        have := congrArg List.length e
        rw [List.length_take, List.length_nil] at this
        omega
      · rw [List.take_append_drop, hdl]
        congr 2
        omega
      · intro e
        apply h.back
        have := List.getLast?_drop (l := n.dg) (i := (firstN n + 1).toNat)
        rw [if_neg (by omega)] at this
        rw [← this]
        exact e
      · intro e
        exfalso
        apply h.front
        rw [List.head?_take] at e
        rw [if_neg (by omega)] at e
        exact e
    · rw [if_neg e1]
      have hl2 : (zs (-(firstN n + 1)).toNat ++ n.dg).length = (-n.ex).toNat := by
        rw [List.length_append]
        unfold zs
        rw [List.length_replicate]
        omega
      have hp : zs (-(firstN n + 1)).toNat ++ n.dg ≠ [] := by simp [h0]
      refine ⟨[48], zs (-(firstN n + 1)).toNat ++ n.dg, by rw [if_neg hp]; rfl, by intro c hc; rw [List.mem_singleton] at hc; rw [hc]; decide, allD_append (allD_zs _) h.all, by simp, hW _ _ 0 0 ?_, fun _ => ⟨hp, ?_⟩, by omega, fun _ => rfl, fun _ => hl2⟩
      · rw [hl2]
        have e : [48] ++ (zs (-(firstN n + 1)).toNat ++ n.dg) = zs ((-(firstN n + 1)).toNat + 1) ++ n.dg := by
          unfold zs
          rw [List.replicate_succ]
          rfl
        rw [e, vd_zs_front]
        congr 2
        omega
      · rw [List.getLast?_append]
        intro e
        match hd : n.dg.getLast? with
        | none => exact h0 (List.getLast?_eq_none_iff.1 hd)
        | some c =>
          rw [hd] at e
          simp at e
          exact h.back (by rw [hd, e])
/-- The plain text of a number is read as it. -/
theorem ptext_plain {n : Num} (h : Fits n) {p : List UInt8} (hp : plainN n = some p) : ptext cl1 p = ((ctext n).1, 0) := by
  unfold plainN at hp
  have hc : ctext n = ((ctext n).1, 0) := Prod.ext rfl (fits_ok h)
  by_cases h0 : n.dg = []
  · rw [if_pos h0] at hp
    injection hp with hp
    subst hp
    have hz : n = zeroN := by
      obtain ⟨z1, z2⟩ := h.canon.zero h0
      obtain ⟨b, d, e⟩ := n
      simp only at z1 z2 h0
      rw [z1, z2, h0]
      rfl
    subst hz
    rfl
  · rw [if_neg h0] at hp
    by_cases h1 : 40 < firstN n ∨ n.ex < -40
    · rw [if_pos h1] at hp; cases hp
    · rw [if_neg h1] at hp
      by_cases h2 : 40 < ((if n.neg then [45] else []) ++ body n).length
      · rw [if_pos h2] at hp; cases hp
      · rw [if_neg h2] at hp
        injection hp with hp
        obtain ⟨w, q, e, w1, q1, w0, hw, _⟩ := body_parts h.canon h0 (by omega) (by omega)
        have hb : (body n).length ≤ 40 := by rw [List.length_append] at h2; omega
        have hl : w.length + q.length ≤ 60 := by
          rw [e, List.length_append] at hb
          by_cases hq : q = []
          · rw [if_pos hq] at hb; rw [hq]; simp; omega
          · rw [if_neg hq, List.length_cons] at hb; omega
        have hs := scn_plain (f := cl1) (b := n.neg) w1 q1 w0 hl
        rw [← e, hp] at hs
        unfold ptext
        rw [hs]
        simp only
        have hq : q.length ≤ 60 := by omega
        rw [trimN_same (allD_append w1 q1) h.canon (by simp only; omega) (by have := fits_ex h; omega) hw]
        exact hc
/-- Integers. -/
theorem scn_int (f : List UInt8 → Nat) (a : Int) (h : a.natAbs < 10 ^ 20) : scn f (decZ a) = some ⟨decide (a < 0), decN a.natAbs, 0⟩ := by
  have hl := decN_len (n := a.natAbs) (k := 20) (by omega) h
  have e : decZ a = (if decide (a < 0) then [45] else []) ++ (decN a.natAbs ++ if ([] : List UInt8) = [] then [] else 46 :: []) := by
    unfold decZ
    by_cases h0 : a < 0
    · have : (-a).toNat = a.natAbs := by omega
      simp [h0, this]
    · have : a.toNat = a.natAbs := by omega
      simp [h0, this]
  rw [e]
  have := scn_plain (f := f) (b := decide (a < 0)) (w := decN a.natAbs) (p := []) (decN_all _) (by intro c hc; simp at hc) (decN_ne _) (by simp; omega)
  simpa using this
end Wv.Dc
/-
  Decimal numbers in plain Lean: the reference's sum. No program stands here.
-/
namespace Wv.Dc
/-- How many digits stand behind the point. -/
def plc (a b : Num) : Nat := (max 0 (max (-a.ex) (-b.ex))).toNat
/-- A number as an integer: so many digits behind the point. -/
def Ax (n : Nat) (a : Num) : Nat := vd a.dg * 10 ^ (a.ex + n).toNat
def sumR (k : Nat) (a b : Num) : Num :=
  if a.neg = b.neg then trimN ⟨a.neg, digs (k + 1) (Ax (plc a b) a + Ax (plc a b) b), -(plc a b : Int)⟩
  else if Ax (plc a b) a < Ax (plc a b) b then trimN ⟨b.neg, digs k (Ax (plc a b) b - Ax (plc a b) a), -(plc a b : Int)⟩
  else trimN ⟨a.neg, digs k (Ax (plc a b) a - Ax (plc a b) b), -(plc a b : Int)⟩
theorem ax_W {n : Nat} {a : Num} (h1 : 0 ≤ a.ex + n) (h2 : n ≤ 1000) : Mg 1000 a = Ax n a * 10 ^ (-(n : Int) + 1000).toNat := by
  unfold Mg Ax
  rw [Nat.mul_assoc, ← Nat.pow_add]
  congr 2
  omega
theorem plc_le {a b : Num} (ka : -417 ≤ a.ex) (kb : -417 ≤ b.ex) : plc a b ≤ 417 ∧ 0 ≤ a.ex + plc a b ∧ 0 ≤ b.ex + plc a b := by unfold plc; omega
/-- The reference's sum is the sum. -/
theorem sumR_eq {k : Nat} {a b : Num} (ha : Canon a) (hb : Canon b) (ka : -417 ≤ a.ex) (kb : -417 ≤ b.ex) (h1 : Ax (plc a b) a < 10 ^ k) (h2 : Ax (plc a b) b < 10 ^ k) : sumR k a b = addN a b := by
  obtain ⟨p1, p2, p3⟩ := plc_le ka kb
  have hs := W_add ha hb ka kb
  have wa := ax_W (a := a) p2 (by omega)
  have wb := ax_W (a := b) p3 (by omega)
  have hlow := addN_low ka kb
  have key : ∀ (s : Bool) (j m : Nat), m < 10 ^ j → sg s * ((m * 10 ^ (-(plc a b : Int) + 1000).toNat : Nat) : Int) = W a + W b → trimN ⟨s, digs j m, -(plc a b : Int)⟩ = addN a b := by
    intro s j m hm e
    refine trimN_same (digs_all _ _) (addN_canon ha hb) (by simp only; omega) (by omega) ?_
    rw [hs]
    show sg s * ((vd (digs j m) * 10 ^ (-(plc a b : Int) + 1000).toNat : Nat) : Int) = _
    rw [vd_digs _ _ hm]
    exact e
  have eW : W a + W b = sg a.neg * (Mg 1000 a : Int) + sg b.neg * (Mg 1000 b : Int) := rfl
  rw [wa, wb] at eW
  have hp : 0 < 10 ^ (-(plc a b : Int) + 1000).toNat := Nat.pow_pos (by omega)
  unfold sumR
  generalize Ax (plc a b) a = x at *
  generalize Ax (plc a b) b = y at *
  generalize 10 ^ (-(plc a b : Int) + 1000).toNat = P at *
  have hsub : ∀ u v : Nat, u ≤ v → (((v - u) * P : Nat) : Int) = ((v * P : Nat) : Int) - ((u * P : Nat) : Int) := by
    intro u v h
    have e : (v - u) * P + u * P = v * P := by rw [← Nat.add_mul, Nat.sub_add_cancel h]
    omega
  have hadd : (((x + y) * P : Nat) : Int) = ((x * P : Nat) : Int) + ((y * P : Nat) : Int) := by rw [Nat.add_mul]; omega
  by_cases hn : a.neg = b.neg
  · rw [if_pos hn]
    refine key _ _ _ (by rw [Nat.pow_succ]; omega) ?_
    rw [eW, hn, hadd]
    cases b.neg <;> simp only [sg, if_true, if_false, reduceCtorEq, Bool.false_eq_true] <;> omega
  · rw [if_neg hn]
    by_cases hxy : x < y
    · rw [if_pos hxy]
      refine key _ _ _ (by omega) ?_
      rw [eW, hsub x y (by omega)]
      cases ha9 : a.neg <;> cases hb9 : b.neg <;> first | exact absurd (ha9.trans hb9.symm) hn | (simp only [sg, if_true, if_false, reduceCtorEq, Bool.false_eq_true]; omega)
    · rw [if_neg hxy]
      refine key _ _ _ (by omega) ?_
      rw [eW, hsub y x (by omega)]
      cases ha9 : a.neg <;> cases hb9 : b.neg <;> first | exact absurd (ha9.trans hb9.symm) hn | (simp only [sg, if_true, if_false, reduceCtorEq, Bool.false_eq_true]; omega)
/-- The reference's comparing is comparing. -/
theorem sign_sum {a b : Num} (ha : Canon a) (hb : Canon b) (ka : -417 ≤ a.ex) (kb : -417 ≤ b.ex) : signN (addN a (minusN b)) = compN a b := by
  have kb' : -417 ≤ (minusN b).ex := kb
  rw [W_sign (addN_canon ha (minusN_canon hb)), W_add ha (minusN_canon hb) ka kb', W_minus, W_comp ha hb ka kb]
  rcases cmpZ_cases (W a) (W b) with ⟨h, h2⟩ | ⟨h, h2⟩ | ⟨h, h2⟩ <;> rcases cmpZ_cases (W a + -W b) 0 with ⟨g, g2⟩ | ⟨g, g2⟩ | ⟨g, g2⟩ <;> first | (exfalso; omega) | rw [h, g]
theorem with_sum {a b t : Num} (ha : Canon a) (hb : Canon b) (ht : Canon t) (ka : -417 ≤ a.ex) (kb : -417 ≤ b.ex) (kt : -417 ≤ t.ex) :
    decide (0 ≤ signN (addN t (minusN (absN (addN a (minusN b)))))) = withN a b t := by
  have kb' : -417 ≤ (minusN b).ex := kb
  have hd := absN_canon (addN_canon ha (minusN_canon hb))
  have kd : -417 ≤ (absN (addN a (minusN b))).ex := addN_low ka kb'
  rw [sign_sum ht hd kt kd, W_comp ht hd kt kd, W_with ha hb ht ka kb kt, W_abs, W_add ha (minusN_canon hb) ka kb', W_minus, decide_eq_decide]
  have e : W a + -W b = W a - W b := by omega
  rw [e]
  rcases cmpZ_cases (W t) ((W a - W b).natAbs : Int) with ⟨h, h2⟩ | ⟨h, h2⟩ | ⟨h, h2⟩ <;> omega
end Wv.Dc
/-
  Decimal numbers in plain Lean: the laws of sums, comparisons, tolerances, integers. No program stands here.
-/
namespace Wv.Dc
theorem decN_zero : decN 0 = [48] := by rw [decN]; rfl
theorem decZ_zero : decZ 0 = [48] := by
  unfold decZ
  rw [if_neg (by decide)]
  exact decN_zero
theorem zeroN_fits : Fits zeroN := ⟨⟨by intro c hc; simp [zeroN] at hc, by simp [zeroN], by simp [zeroN], fun _ => ⟨rfl, rfl⟩⟩, by simp [zeroN], fun h => absurd rfl h, fun h => absurd rfl h⟩
theorem zeroN_text : ctext zeroN = ([48], 0) := rfl
theorem canN_zero : canN [48] = some zeroN := canN_text zeroN_fits
theorem pow_pos0 (k : Nat) : (0 : Int) < ((10 ^ k : Nat) : Int) := Int.natCast_pos.2 (Nat.pow_pos (by decide))
theorem pow_pos1 : (0 : Int) < ((10 ^ 1000 : Nat) : Int) := pow_pos0 1000
section
variable {x y z : Num}
theorem addN_comm (hx : Fits x) (hy : Fits y) : addN x y = addN y x :=
  W_inj (addN_canon hx.canon hy.canon) (addN_canon hy.canon hx.canon) (addN_low (fits_ex hx) (fits_ex hy)) (addN_low (fits_ex hy) (fits_ex hx))
    (by rw [W_add hx.canon hy.canon (fits_ex hx) (fits_ex hy), W_add hy.canon hx.canon (fits_ex hy) (fits_ex hx), Int.add_comm])
theorem addN_minus (hx : Fits x) : addN x (minusN x) = zeroN :=
  W_inj (addN_canon hx.canon (minusN_canon hx.canon)) zeroN_fits.canon (addN_low (fits_ex hx) (fits_ex (minusN_fits hx))) (by decide)
    (by rw [W_add hx.canon (minusN_canon hx.canon) (fits_ex hx) (fits_ex (minusN_fits hx)), W_minus, W_zero]; omega)
theorem addN_zero (hx : Fits x) : addN x zeroN = x :=
  W_inj (addN_canon hx.canon zeroN_fits.canon) hx.canon (addN_low (fits_ex hx) (by decide)) (fits_ex hx)
    (by rw [W_add hx.canon zeroN_fits.canon (fits_ex hx) (by decide), W_zero, Int.add_zero])
theorem minus_minus (hx : Fits x) : minusN (minusN x) = x :=
  W_inj (minusN_canon (minusN_canon hx.canon)) hx.canon (fits_ex (minusN_fits (minusN_fits hx))) (fits_ex hx) (by rw [W_minus, W_minus]; omega)
theorem sign_minus (hx : Fits x) : signN (minusN x) = -signN x := by
  rw [W_sign (minusN_canon hx.canon), W_sign hx.canon, W_minus, ← cmpZ_neg]
  rfl
theorem comp_add (hx : Fits x) (hy : Fits y) (hz : Fits z) : compN (addN x z) (addN y z) = compN x y := by
  rw [W_comp (addN_canon hx.canon hz.canon) (addN_canon hy.canon hz.canon) (addN_low (fits_ex hx) (fits_ex hz)) (addN_low (fits_ex hy) (fits_ex hz)), W_comp hx.canon hy.canon (fits_ex hx) (fits_ex hy),
    W_add hx.canon hz.canon (fits_ex hx) (fits_ex hz), W_add hy.canon hz.canon (fits_ex hy) (fits_ex hz)]
  rcases cmpZ_cases (W x) (W y) with ⟨h, h2⟩ | ⟨h, h2⟩ | ⟨h, h2⟩ <;> rcases cmpZ_cases (W x + W z) (W y + W z) with ⟨g, g2⟩ | ⟨g, g2⟩ | ⟨g, g2⟩ <;> first | (exfalso; omega) | rw [h, g]
theorem add_back (hx : Fits x) (hy : Fits y) (hs : Fits (addN x y)) : addN (addN x y) (minusN y) = x :=
  W_inj (addN_canon hs.canon (minusN_canon hy.canon)) hx.canon (addN_low (fits_ex hs) (fits_ex (minusN_fits hy))) (fits_ex hx)
    (by rw [W_add hs.canon (minusN_canon hy.canon) (fits_ex hs) (fits_ex (minusN_fits hy)), W_minus, W_add hx.canon hy.canon (fits_ex hx) (fits_ex hy)]; omega)
theorem comp_swap (hx : Fits x) (hy : Fits y) : compN x y = -compN y x := by
  rw [W_comp hx.canon hy.canon (fits_ex hx) (fits_ex hy), W_comp hy.canon hx.canon (fits_ex hy) (fits_ex hx)]
  rcases cmpZ_cases (W x) (W y) with ⟨h, h2⟩ | ⟨h, h2⟩ | ⟨h, h2⟩ <;> rcases cmpZ_cases (W y) (W x) with ⟨g, g2⟩ | ⟨g, g2⟩ | ⟨g, g2⟩ <;> first | (exfalso; omega) | (rw [h, g] <;> rfl)
theorem comp_zero (hx : Fits x) (hy : Fits y) : compN x y = 0 ↔ x = y := by
  rw [W_comp hx.canon hy.canon (fits_ex hx) (fits_ex hy), (cmpZ_iff _ _).2.1]
  exact ⟨fun h => W_inj hx.canon hy.canon (fits_ex hx) (fits_ex hy) h, fun h => by rw [h]⟩
theorem with_swap (hx : Fits x) (hy : Fits y) (hz : Fits z) : withN x y z = withN y x z := by
  rw [W_with hx.canon hy.canon hz.canon (fits_ex hx) (fits_ex hy) (fits_ex hz), W_with hy.canon hx.canon hz.canon (fits_ex hy) (fits_ex hx) (fits_ex hz)]
  congr 2
  omega
theorem with_zero (hx : Fits x) (hy : Fits y) : withN x y zeroN = true ↔ x = y := by
  rw [W_with hx.canon hy.canon zeroN_fits.canon (fits_ex hx) (fits_ex hy) (by decide), W_zero, decide_eq_true_iff]
  constructor
  · intro h
    exact W_inj hx.canon hy.canon (fits_ex hx) (fits_ex hy) (by omega)
  · intro h
    rw [h]
    omega
theorem with_neg (hx : Fits x) (hy : Fits y) (hz : Fits z) (h : signN z < 0) : withN x y z = false := by
  rw [W_sign hz.canon, (cmpZ_iff _ _).1] at h
  rw [W_with hx.canon hy.canon hz.canon (fits_ex hx) (fits_ex hy) (fits_ex hz), decide_eq_false_iff_not]
  omega
theorem with_both (hx : Fits x) (hy : Fits y) (hz : Fits z) : withN x y z = (decide (compN y (addN x z) ≤ 0) && decide (compN x (addN y z) ≤ 0)) := by
  rw [W_with hx.canon hy.canon hz.canon (fits_ex hx) (fits_ex hy) (fits_ex hz),
    W_comp hy.canon (addN_canon hx.canon hz.canon) (fits_ex hy) (addN_low (fits_ex hx) (fits_ex hz)), W_comp hx.canon (addN_canon hy.canon hz.canon) (fits_ex hx) (addN_low (fits_ex hy) (fits_ex hz)),
    W_add hx.canon hz.canon (fits_ex hx) (fits_ex hz), W_add hy.canon hz.canon (fits_ex hy) (fits_ex hz), ← Bool.decide_and, decide_eq_decide]
  rcases cmpZ_cases (W y) (W x + W z) with ⟨h, h2⟩ | ⟨h, h2⟩ | ⟨h, h2⟩ <;> rcases cmpZ_cases (W x) (W y + W z) with ⟨g, g2⟩ | ⟨g, g2⟩ | ⟨g, g2⟩ <;> rw [h, g] <;> omega
end
/-- The number of an integer. -/
def intN (a : Int) : Num := trimN ⟨decide (a < 0), decN a.natAbs, 0⟩
theorem intN_canon (a : Int) : Canon (intN a) := trimN_canon (decN_all _)
theorem intN_ex (a : Int) : 0 ≤ (intN a).ex := by
  unfold intN trimN
  split
  · decide
  · simp only; omega
theorem W_int (a : Int) : W (intN a) = a * ((10 ^ 1000 : Nat) : Int) := by
  unfold W intN
  rw [V_trimN (by simp only; omega)]
  show sg (decide (a < 0)) * ((vd (decN a.natAbs) * 10 ^ (0 + ((1000 : Nat) : Int)).toNat : Nat) : Int) = _
  rw [vd_decN]
  have e : (0 + ((1000 : Nat) : Int)).toNat = 1000 := rfl
  rw [e, Int.natCast_mul, ← Int.mul_assoc]
  congr 1
  unfold sg
  by_cases h : a < 0
  · simp [h]; omega
  · simp [h]; omega
theorem intN_fits {a : Int} (h : a.natAbs < 10 ^ 15) : Fits (intN a) := by
  refine ⟨intN_canon a, ?_, fun h0 => ?_, fun h0 => ?_⟩
  all_goals
    have hl := decN_len (n := a.natAbs) (k := 15) (by omega) h
    have h1 := trimL_len (decN a.natAbs)
    have h2 := trimR_len (trimL (decN a.natAbs))
  · unfold intN trimN
    split
    · simp [zeroN]
    · simp only; omega
  · have := intN_ex a
    have : 0 < (intN a).dg.length := List.length_pos_iff.2 h0
    unfold firstN
    omega
  · unfold intN trimN at h0 ⊢
    simp only at h0 ⊢
    split
    · decide
    · unfold firstN
      simp only
      omega
theorem int_add {a b : Int} : addN (intN a) (intN b) = intN (a + b) := by
  have ha := intN_ex a
  have hb := intN_ex b
  have hc := intN_ex (a + b)
  exact W_inj (addN_canon (intN_canon a) (intN_canon b)) (intN_canon _) (addN_low (by omega) (by omega)) (by omega)
    (by rw [W_add (intN_canon a) (intN_canon b) (by omega) (by omega), W_int, W_int, W_int, Int.add_mul])
theorem int_comp {a b : Int} : compN (intN a) (intN b) = cmpZ a b := by
  have ha := intN_ex a
  have hb := intN_ex b
  rw [W_comp (intN_canon a) (intN_canon b) (by omega) (by omega), W_int, W_int]
  have hp := pow_pos1
  generalize ((10 ^ 1000 : Nat) : Int) = P at *
  rcases cmpZ_cases a b with ⟨h, h2⟩ | ⟨h, h2⟩ | ⟨h, h2⟩
  · rw [h, cmpZ_lt (Int.mul_lt_mul_of_pos_right h2 hp)]
  · rw [h2, cmpZ_self, cmpZ_self]
  · rw [h, cmpZ_gt (Int.mul_lt_mul_of_pos_right h2 hp)]
theorem int_with {a b t : Int} : withN (intN a) (intN b) (intN t) = (decide (a - b ≤ t) && decide (b - a ≤ t)) := by
  have ha := intN_ex a
  have hb := intN_ex b
  have ht := intN_ex t
  rw [W_with (intN_canon a) (intN_canon b) (intN_canon t) (by omega) (by omega) (by omega), W_int, W_int, W_int, ← Bool.decide_and, decide_eq_decide]
  have hp := pow_pos1
  generalize ((10 ^ 1000 : Nat) : Int) = P at *
  rw [← Int.sub_mul, Int.natAbs_mul, Int.natCast_mul, show (P.natAbs : Int) = P by omega]
  constructor
  · intro h
    have h2 := Int.le_of_mul_le_mul_right h hp
    omega
  · intro h
    exact Int.mul_le_mul_of_nonneg_right (by omega) (by omega)
theorem ptext_int {a : Int} (h : a.natAbs < 10 ^ 15) (f : List UInt8 → Nat) : ptext f (decZ a) = ((ctext (intN a)).1, 0) := by
  unfold ptext
  rw [scn_int f a (by have : (10 : Nat) ^ 15 ≤ 10 ^ 20 := Nat.pow_le_pow_right (by omega) (by omega); omega)]
  exact Prod.ext rfl (fits_ok (intN_fits h))
/-- The plain text of an integer. -/
theorem plain_int {a : Int} (h : a.natAbs < 10 ^ 15) : plainN (intN a) = some (decZ a) := by
  have hf := intN_fits h
  have hex := intN_ex a
  have hlen := decN_len (n := a.natAbs) (k := 15) (by omega) h
  unfold plainN
  by_cases h0 : (intN a).dg = []
  · rw [if_pos h0]
    have hw := W_int a
    unfold W at hw
    rw [V_mg, mg_zero h0] at hw
    have hp := pow_pos1
    have ha : a = 0 := by
      rcases Int.mul_eq_zero.1 (show a * ((10 ^ 1000 : Nat) : Int) = 0 by rw [← hw]; simp) with h | h
      · exact h
      · omega
    subst ha
    rw [decZ_zero]
  · rw [if_neg h0]
    have hl : 0 < (intN a).dg.length := List.length_pos_iff.2 h0
    have e : intN a = ⟨decide (a < 0), trimR (trimL (decN a.natAbs)), 0 + ((trimL (decN a.natAbs)).length - (trimR (trimL (decN a.natAbs))).length : Nat)⟩ := by
      unfold intN trimN at h0 ⊢
      simp only at h0 ⊢
      split
      · rename_i hz
        rw [if_pos hz] at h0
        exact absurd rfl h0
      · rfl
    have hb : body (intN a) = decN a.natAbs := by
      unfold body
      rw [if_pos hex]
      have ht : trimL (decN a.natAbs) = decN a.natAbs := by
        have hd : ∀ n : Nat, n ≠ 0 → (decN n).head? ≠ some 48 := by
          intro n
          induction n using Nat.strongRecOn with
          | ind n ih =>
            intro hn
            rw [decN]
            split
            · rename_i h9
              intro hh
              simp only [List.head?_cons, Option.some.injEq] at hh
              have := (isD_of h9).2
              rw [hh] at this
              simp [dv] at this
              omega
            · rename_i h9
              have := ih (n / 10) (by omega) (by omega)
              match hq : decN (n / 10) with
              | [] => exact absurd hq (decN_ne _)
              | c :: t => rw [hq] at this; simpa using this
        have ha0 : a.natAbs ≠ 0 := by
          intro hz
          apply h0
          have : a = 0 := by omega
          subst this
          unfold intN
          rw [show Int.natAbs 0 = 0 from rfl, decN_zero]
          rfl
        have h48 := hd _ ha0
        unfold trimL
        match hq : decN a.natAbs with
        | [] => rfl
        | c :: t =>
          rw [hq] at h48
          rw [List.dropWhile_cons, if_neg (by simpa using h48)]
      obtain ⟨k, hk⟩ := trimR_pre (decN a.natAbs)
      have hlk : (decN a.natAbs).length - (trimR (decN a.natAbs)).length = k := by
        have := congrArg List.length hk
        rw [List.length_append, List.length_replicate] at this
        omega
      rw [e]
      simp only
      rw [ht, hlk]
      have hz : (0 + (k : Int)).toNat = k := by omega
      rw [hz]
      exact hk.symm
    have hfi : firstN (intN a) ≤ 15 := by
      have h1 := trimL_len (decN a.natAbs)
      have h2 := trimR_len (trimL (decN a.natAbs))
      rw [e]
      unfold firstN
      simp only
      omega
    have hn : (intN a).neg = decide (a < 0) := by rw [e]
    rw [if_neg (by omega), hb, hn]
    have h2 : (if decide (a < 0) = true then [(45 : UInt8)] else []).length ≤ 1 := by split <;> simp
    rw [if_neg (by rw [List.length_append]; omega)]
    congr 1
    unfold decZ
    by_cases hneg : a < 0
    · have : (-a).toNat = a.natAbs := by omega
      simp [hneg, this]
    · have : a.toNat = a.natAbs := by omega
      simp [hneg, this]
end Wv.Dc
/-
  Decimal numbers in plain Lean: the reference's text without exponent; the shape of such a text. No program stands here.
-/
namespace Wv.Dc
/-- The digits of a number as an integer: so many behind the point. -/
def fixL (n : Num) (m : Nat) : List UInt8 := if n.dg = [] then zs (m + 1) else n.dg ++ zs (m + n.ex).toNat
def padL (f : List UInt8) (k : Nat) : List UInt8 := zs (k - f.length) ++ f
def bodyR (n : Num) : List UInt8 :=
  (padL (fixL n (plc n n)) (plc n n + 1)).take ((padL (fixL n (plc n n)) (plc n n + 1)).length - plc n n) ++
    if 0 < plc n n then 46 :: (padL (fixL n (plc n n)) (plc n n + 1)).drop ((padL (fixL n (plc n n)) (plc n n + 1)).length - plc n n) else []
def plainR (n : Num) : Option (List UInt8) := if 40 < ((if n.neg then [45] else []) ++ bodyR n).length then none else some ((if n.neg then [45] else []) ++ bodyR n)
theorem zs_len (k : Nat) : (zs k).length = k := List.length_replicate
theorem bodyR_eq {n : Num} (h0 : n.dg ≠ []) : bodyR n = body n := by
  have la : 0 < n.dg.length := List.length_pos_iff.2 h0
  have fd : firstN n = n.ex + n.dg.length - 1 := rfl
  unfold bodyR body fixL padL
  rw [if_neg h0]
  by_cases e0 : 0 ≤ n.ex
  · have hp : plc n n = 0 := by unfold plc; omega
    have hz : ((0 : Nat) + n.ex : Int).toNat = n.ex.toNat := by omega
    rw [if_pos e0, hp, if_neg (by omega), hz]
    have e1 : 0 + 1 - (n.dg ++ zs n.ex.toNat).length = 0 := by rw [List.length_append]; omega
    rw [e1]
    have e2 : zs 0 ++ (n.dg ++ zs n.ex.toNat) = n.dg ++ zs n.ex.toNat := by simp [zs]
    rw [e2, Nat.sub_zero, List.take_length, List.append_nil]
  · rw [if_neg e0]
    obtain ⟨m, hm⟩ : ∃ m : Nat, plc n n = m := ⟨_, rfl⟩
    have hm2 : (m : Int) = -n.ex := by rw [← hm]; unfold plc; omega
    have hz : ((m : Int) + n.ex).toNat = 0 := by omega
    rw [hm, hz, if_pos (show 0 < m by omega)]
    have ez : n.dg ++ zs 0 = n.dg := by simp [zs]
    rw [ez]
    by_cases e1 : 0 < firstN n + 1
    · rw [if_pos e1]
      have e2 : m + 1 - n.dg.length = 0 := by omega
      have e3 : n.dg.length - m = (firstN n + 1).toNat := by omega
      rw [e2]
      have e4 : zs 0 ++ n.dg = n.dg := by simp [zs]
      rw [e4, e3]
    · rw [if_neg e1]
      obtain ⟨k, hk⟩ : ∃ k, (-(firstN n + 1)).toNat = k := ⟨_, rfl⟩
      have e2 : m + 1 - n.dg.length = k + 1 := by omega
      have e3 : (zs (k + 1) ++ n.dg).length - m = 1 := by rw [List.length_append, zs_len]; omega
      rw [e2, e3, hk]
      have e4 : zs (k + 1) = 48 :: zs k := List.replicate_succ
      rw [e4]
      simp
/-- The reference's text is the text. -/
theorem plainR_eq {n : Num} (h : Canon n) : plainR n = plainN n := by
  unfold plainR plainN
  by_cases h0 : n.dg = []
  · obtain ⟨z1, z2⟩ := h.zero h0
    obtain ⟨b, d, e⟩ := n
    simp only at z1 z2 h0
    subst z1; subst z2; subst h0
    decide
  · rw [if_neg h0, bodyR_eq h0]
    by_cases h1 : 40 < firstN n ∨ n.ex < -40
    · rw [if_pos h1]
      have la : 0 < n.dg.length := List.length_pos_iff.2 h0
      have fd : firstN n = n.ex + n.dg.length - 1 := rfl
      have : 40 < (body n).length := by
        unfold body
        split
        · rw [List.length_append, zs_len]; omega
        · split
          · rw [List.length_append, List.length_cons, List.length_take, List.length_drop]; omega
          · rw [List.length_cons, List.length_cons, List.length_append, zs_len]; omega
      rw [if_pos (by rw [List.length_append]; omega)]
    · rw [if_neg h1]
/-- The shape of a text without exponent. -/
theorem plain_shape {n : Num} (h : Fits n) {p : List UInt8} (hp : plainN n = some p) : ∃ w q, p = (if n.neg then [45] else []) ++ (w ++ if q = [] then [] else 46 :: q) ∧ AllD w ∧ AllD q ∧ w ≠ [] ∧ (q ≠ [] → q.getLast? ≠ some 48) ∧ (w.head? = some 48 → w = [48]) ∧ p.length ≤ 40 := by
  unfold plainN at hp
  by_cases h0 : n.dg = []
  · rw [if_pos h0] at hp
    injection hp with hp
    obtain ⟨z1, _⟩ := h.canon.zero h0
    refine ⟨[48], [], by rw [z1, ← hp]; rfl, by intro c hc; rw [List.mem_singleton] at hc; rw [hc]; decide, by intro c hc; simp at hc, by simp, fun e => absurd rfl e, fun _ => rfl, by rw [← hp]; decide⟩
  · rw [if_neg h0] at hp
    by_cases h1 : 40 < firstN n ∨ n.ex < -40
    · rw [if_pos h1] at hp; cases hp
    · rw [if_neg h1] at hp
      by_cases h2 : 40 < ((if n.neg then [45] else []) ++ body n).length
      · rw [if_pos h2] at hp; cases hp
      · rw [if_neg h2] at hp
        injection hp with hp
        obtain ⟨w, q, e, w1, q1, w0, _, a1, a2, a3, _⟩ := body_parts h.canon h0 (by omega) (by omega)
        refine ⟨w, q, by rw [← hp, e], w1, q1, w0, fun hq => ?_, a3, by rw [← hp]; omega⟩
        by_cases hex : n.ex < 0
        · exact (a1 hex).2
        · exact absurd (a2 (by omega)) hq
end Wv.Dc
/-
  Decimal numbers in plain Lean: what the functions on texts answer, and the laws of the answers. No program stands here.
-/
namespace Wv.Dc
def validS (s : List UInt8) : Bool := (canN s).isSome
def cmpS (a b : List UInt8) : Int × Bool := match canN a, canN b with
  | some x, some y => (compN x y, true)
  | _, _ => (0, false)
def signS (s : List UInt8) : Int := match canN s with
  | some n => signN n
  | none => 0
def negS (s : List UInt8) : List UInt8 := match canN s with
  | some n => (ctext (minusN n)).1
  | none => []
def sumS (a b : List UInt8) : List UInt8 × Nat := match canN a, canN b with
  | some x, some y => ctext (addN x y)
  | _, _ => ([], 1)
def withS (a b t : List UInt8) : Bool := match canN a, canN b, canN t with
  | some x, some y, some z => withN x y z
  | _, _, _ => false
def plainS (s : List UInt8) : List UInt8 × Bool := match canN s with
  | some n => match plainN n with
    | some p => (p, true)
    | none => ([], false)
  | none => ([], false)
theorem ctext_err {n : Num} (h : (ctext n).2 ≠ 0) : (ctext n).1 = [] := by
  unfold ctext at h ⊢
  split
  · rename_i h0; rw [if_pos h0] at h; exact absurd rfl h
  · rename_i h0
    rw [if_neg h0] at h
    split
    · rfl
    · rename_i h1; rw [if_neg h1] at h; exact absurd rfl h
theorem ptext_err {f : List UInt8 → Nat} {s : List UInt8} (h : (ptext f s).2 ≠ 0) : (ptext f s).1 = [] := by
  unfold ptext at h ⊢
  match hs : scn f s with
  | none => rfl
  | some m => rw [hs] at h; exact ctext_err h
theorem valid_some {s : List UInt8} (h : validS s = true) : ∃ n, canN s = some n ∧ Fits n ∧ s = (ctext n).1 := by
  unfold validS at h
  match hs : canN s with
  | none => rw [hs] at h; cases h
  | some n =>
    obtain ⟨h1, h2⟩ := canN_iff.1 hs
    exact ⟨n, rfl, h1, h2⟩
theorem valid_none {s : List UInt8} (h : validS s = false) : canN s = none := by
  unfold validS at h
  match hs : canN s with
  | none => rfl
  | some n => rw [hs] at h; cases h
theorem validS_ptext (s : List UInt8) : validS s = decide (ptext cl1 s = (s, 0)) := by
  rw [Bool.eq_iff_iff, decide_eq_true_iff]
  exact canN_ptext s
end Wv.Dc
/-
  Decimal numbers in plain Lean: adding and subtracting digit by digit. No program stands here.
-/
namespace Wv.Dc
/-- A digit's sum, and what it comes to. -/
def dstep (same : Bool) (x y : UInt8) (c : Int) : Int := (dv x : Int) + c + (if same then (dv y : Int) else -(dv y : Int))
def dnorm (d : Int) : Int × Int := if 9 < d then (d - 10, 1) else if d < 0 then (d + 10, -1) else (d, 0)
def addL (same : Bool) : List UInt8 → List UInt8 → List UInt8 × Int
  | x :: X, y :: Y => (UInt8.ofNat (48 + (dnorm (dstep same x y (addL same X Y).2)).1.toNat) :: (addL same X Y).1, (dnorm (dstep same x y (addL same X Y).2)).2)
  | _, _ => ([], 0)
theorem dnorm_in {d : Int} (h1 : -10 ≤ d) (h2 : d ≤ 19) : 0 ≤ (dnorm d).1 ∧ (dnorm d).1 ≤ 9 ∧ -1 ≤ (dnorm d).2 ∧ (dnorm d).2 ≤ 1 ∧ (dnorm d).1 + 10 * (dnorm d).2 = d := by
  unfold dnorm
  split
  · simp only; omega
  · split
    · simp only; omega
    · simp only; omega
theorem addL_spec (same : Bool) : ∀ {X Y : List UInt8}, AllD X → AllD Y → X.length = Y.length →
    AllD (addL same X Y).1 ∧ (addL same X Y).1.length = X.length ∧ -1 ≤ (addL same X Y).2 ∧ (addL same X Y).2 ≤ 1 ∧ ((vd (addL same X Y).1 : Int) + (addL same X Y).2 * ((10 ^ X.length : Nat) : Int) = (vd X : Int) + (if same then (vd Y : Int) else -(vd Y : Int)))
  | [], [], _, _, _ => by
    refine ⟨by intro c hc; simp [addL] at hc, rfl, by simp [addL], by simp [addL], ?_⟩
    simp [addL, vd_nil]
  | [], _ :: _, _, _, h => by simp at h
  | _ :: _, [], _, _, h => by simp at h
  | x :: X, y :: Y, hX, hY, h => by
    have hl : X.length = Y.length := by simpa using h
    obtain ⟨i1, i2, i3, i4, i5⟩ := addL_spec same (fun c hc => hX c (List.mem_cons_of_mem _ hc)) (fun c hc => hY c (List.mem_cons_of_mem _ hc)) hl
    have hx := dv_lt (hX x List.mem_cons_self)
    have hy := dv_lt (hY y List.mem_cons_self)
    have e : addL same (x :: X) (y :: Y) = (UInt8.ofNat (48 + (dnorm (dstep same x y (addL same X Y).2)).1.toNat) :: (addL same X Y).1, (dnorm (dstep same x y (addL same X Y).2)).2) := rfl
    rw [e]
    obtain ⟨R, hR⟩ : ∃ R, addL same X Y = R := ⟨_, rfl⟩
    rw [hR] at i1 i2 i3 i4 i5 ⊢
    obtain ⟨q, hq⟩ : ∃ q, dstep same x y R.2 = q := ⟨_, rfl⟩
    have hq1 : -10 ≤ q ∧ q ≤ 19 := by
      rw [← hq]
      unfold dstep
      split <;> omega
    have hq2 : q = (dv x : Int) + R.2 + (if same then (dv y : Int) else -(dv y : Int)) := by rw [← hq]; rfl
    rw [hq]
    obtain ⟨n1, n2, n3, n4, n5⟩ := dnorm_in hq1.1 hq1.2
    generalize dnorm q = p at *
    obtain ⟨k, hk⟩ : ∃ k : Nat, p.1 = (k : Int) := ⟨p.1.toNat, by omega⟩
    have hkt : p.1.toNat = k := by omega
    rw [hkt]
    obtain ⟨c1, c2⟩ := isD_of (d := k) (by omega)
    refine ⟨fun c hc => ?_, by simp [i2], n3, n4, ?_⟩
    · rcases List.mem_cons.1 hc with rfl | hc
      · exact c1
      · exact i1 c hc
    · simp only
      rw [vd_cons, vd_cons, vd_cons, c2, List.length_cons, i2, ← hl, Nat.pow_succ]
      generalize 10 ^ X.length = P at *
      have e2 : ((k * P + vd R.1 : Nat) : Int) + p.2 * ((P * 10 : Nat) : Int) = q * (P : Int) + (vd R.1 : Int) := by
        rw [← n5, hk]
        push_cast
        rw [Int.add_mul, Int.mul_assoc 10, Int.mul_comm 10 (p.2 * (P : Int)), Int.mul_assoc p.2]
        omega
      have e3 : (vd R.1 : Int) = (vd X : Int) + (if same then (vd Y : Int) else -(vd Y : Int)) - R.2 * (P : Int) := by omega
      rw [e2, e3, hq2, Int.add_mul, Int.add_mul]
      push_cast
      cases same
      · simp only [Bool.false_eq_true, if_false]
        rw [Int.neg_mul]
        omega
      · simp only [if_true]
        omega
theorem addL_eq {same : Bool} {X Y : List UInt8} {z : Nat} (hX : AllD X) (hY : AllD Y) (hl : X.length = Y.length) (hz : (z : Int) = (vd X : Int) + (if same then (vd Y : Int) else -(vd Y : Int))) (hr : z < 10 ^ X.length) : (addL same X Y).1 = digs X.length z := by
  obtain ⟨i1, i2, i3, i4, i5⟩ := addL_spec same hX hY hl
  have hv := vd_lt i1
  rw [i2] at hv
  rw [← hz] at i5
  have hP : 0 < 10 ^ X.length := Nat.pow_pos (by omega)
  generalize addL same X Y = R at *
  have hc : R.2 = 0 := by
    have : R.2 = -1 ∨ R.2 = 0 ∨ R.2 = 1 := by omega
    generalize 10 ^ X.length = P at *
    rcases this with h | h | h
    · rw [h] at i5; omega
    · exact h
    · rw [h] at i5; omega
  have hz2 : vd R.1 = z := by
    rw [hc] at i5
    omega
  have := digs_vd i1
  rw [i2, hz2] at this
  exact this.symm
theorem magN_al {a b : Num} (ha : Canon a) (hb : Canon b) (ka : -417 ≤ a.ex) (kb : -417 ≤ b.ex) : magN a b < 0 ↔ Al (lowE a b) a < Al (lowE a b) b := by
  have hx : 0 ≤ lowE a b + (1000 : Nat) := by unfold lowE; omega
  have hm := magN_eq (K := 1000) ha hb (by omega) (by omega)
  rw [al_mg (n := a) (x := lowE a b) (by unfold lowE; omega) hx, al_mg (n := b) (x := lowE a b) (by unfold lowE; omega) hx] at hm
  have hp : 0 < 10 ^ (lowE a b + (1000 : Nat)).toNat := Nat.pow_pos (by omega)
  rw [hm, (cmpZ_iff _ _).1]
  generalize 10 ^ (lowE a b + (1000 : Nat)).toNat = P at *
  generalize Al (lowE a b) a = x at *
  generalize Al (lowE a b) b = y at *
  constructor
  · intro h
    exact Nat.lt_of_mul_lt_mul_right (show x * P < y * P by omega)
  · intro h
    have := Nat.mul_lt_mul_of_pos_right h hp
    omega
/-- What the two rows come to, the greater number ahead. -/
theorem addR_row {a b p q : Num} (ha : Canon a) (hb : Canon b) (a0 : a.dg ≠ []) (b0 : b.dg ≠ []) (ka : -417 ≤ a.ex) (kb : -417 ≤ b.ex) (hpq : (magN a b < 0 ∧ p = b ∧ q = a) ∨ (¬ magN a b < 0 ∧ p = a ∧ q = b)) :
    addR a b = ⟨p.neg, (addL (p.neg == q.neg) (digs (lenE a b) (Al (lowE a b) p)) (digs (lenE a b) (Al (lowE a b) q))).1, lowE a b⟩ := by
  have hroom := add_room ha hb a0 b0
  have hmg := magN_al ha hb ka kb
  unfold addR
  rcases hpq with ⟨h, rfl, rfl⟩ | ⟨h, rfl, rfl⟩
  · have hlt := hmg.1 h
    rw [if_pos h, if_pos h]
    congr 1
    have hx : Al (lowE q p) p < 10 ^ lenE q p := by omega
    have hy : Al (lowE q p) q < 10 ^ lenE q p := by omega
    generalize Al (lowE q p) p = y at *
    generalize Al (lowE q p) q = x at *
    have h3 := addL_eq (same := (p.neg == q.neg)) (X := digs (lenE q p) y) (Y := digs (lenE q p) x) (z := if q.neg = p.neg then x + y else y - x) (digs_all _ _) (digs_all _ _) (by rw [digs_len, digs_len]) (by
      rw [vd_digs _ _ hx, vd_digs _ _ hy]
      cases q.neg <;> cases p.neg <;> simp <;> omega) (by rw [digs_len]; split <;> omega)
    rw [h3, digs_len]
  · have hlt : ¬ Al (lowE p q) p < Al (lowE p q) q := fun e => h (hmg.2 e)
    rw [if_neg h, if_neg h]
    congr 1
    have hx : Al (lowE p q) p < 10 ^ lenE p q := by omega
    have hy : Al (lowE p q) q < 10 ^ lenE p q := by omega
    generalize Al (lowE p q) p = x at *
    generalize Al (lowE p q) q = y at *
    have h3 := addL_eq (same := (p.neg == q.neg)) (X := digs (lenE p q) x) (Y := digs (lenE p q) y) (z := if p.neg = q.neg then x + y else x - y) (digs_all _ _) (digs_all _ _) (by rw [digs_len, digs_len]) (by
      rw [vd_digs _ _ hx, vd_digs _ _ hy]
      cases q.neg <;> cases p.neg <;> simp <;> omega) (by rw [digs_len]; split <;> omega)
    rw [h3, digs_len]
end Wv.Dc
/-
  Decimal numbers in plain Lean: the examples of the chapter. No program stands here.
-/
namespace Wv.Dc
theorem ex1 : ptext cl1 [48, 46, 48, 48, 49, 50, 48, 69, 51] = ([49, 46, 50, 101, 48], 0) := by decide +kernel
theorem ex2 : ptext cl1 [45, 48, 101, 57] = ([48], 0) := by decide +kernel
theorem ex3 : sumS [57, 46, 57, 101, 48] [49, 101, 45, 49] = ([49, 101, 49], 0) := by decide +kernel
theorem ex4 : plainS [49, 46, 53, 101, 45, 50] = ([48, 46, 48, 49, 53], true) := by decide +kernel
theorem ex5 : withS [49, 101, 48] [49, 46, 49, 101, 48] [49, 101, 45, 49] = true := by decide +kernel
end Wv.Dc
/-
  Decimal numbers in plain Lean: the reference's sum, step by step. No program stands here.
-/
namespace Wv.Dc
/-- Texts of digits as long as each other are compared as their values. -/
theorem less_vd : ∀ {X Y : List UInt8}, AllD X → AllD Y → X.length = Y.length → (Go.Op.bytesLess X Y = true ↔ vd X < vd Y)
  | [], [], _, _, _ => by simp [Go.Op.bytesLess, vd_nil]
  | x :: X, y :: Y, hX, hY, hl => by
    have hX' : AllD X := fun c hc => hX c (List.mem_cons_of_mem _ hc)
    have hY' : AllD Y := fun c hc => hY c (List.mem_cons_of_mem _ hc)
    have hl' : X.length = Y.length := by simpa using hl
    have ih := less_vd hX' hY' hl'
    have b1 := vd_lt hX'
    have b2 := vd_lt hY'
    have dx : isD x = true := hX x List.mem_cons_self
    have dy : isD y = true := hY y List.mem_cons_self
    rw [vd_cons, vd_cons, ← hl'] at *
    generalize 10 ^ X.length = P at *
    unfold Go.Op.bytesLess
    rw [Bool.or_eq_true, Bool.and_eq_true, decide_eq_true_iff, beq_iff_eq, ih]
    have e1 : x < y ↔ dv x < dv y := by
      unfold isD at dx dy
      rw [Bool.and_eq_true, decide_eq_true_iff, decide_eq_true_iff] at dx dy
      rw [UInt8.lt_iff_toNat_lt]
      unfold dv
      omega
    have e2 : x = y ↔ dv x = dv y := ⟨fun h => by rw [h], fun h => dv_inj dx dy h⟩
    rw [e1, e2]
    generalize dv x = a at *
    generalize dv y = b at *
    generalize vd X = u at *
    generalize vd Y = v at *
    constructor
    · rintro (h | ⟨h, h2⟩)
      · have : (a + 1) * P ≤ b * P := Nat.mul_le_mul_right _ h
        rw [Nat.add_mul, Nat.one_mul] at this
        omega
      · rw [h]; omega
    · intro h
      rcases Nat.lt_trichotomy a b with h1 | h1 | h1
      · exact .inl h1
      · right; rw [h1] at h; exact ⟨h1, by omega⟩
      · have : (b + 1) * P ≤ a * P := Nat.mul_le_mul_right _ h1
        rw [Nat.add_mul, Nat.one_mul] at this
        omega
/-- The digits as an integer. -/
theorem fixL_all {n : Num} (h : AllD n.dg) (m : Nat) : AllD (fixL n m) := by
  unfold fixL
  split
  · exact allD_zs _
  · exact allD_append h (allD_zs _)
theorem fixL_vd {n : Num} (h0 : n.dg = [] → n.ex = 0) (m : Nat) (hm : 0 ≤ n.ex + m) : vd (fixL n m) = Ax m n := by
  unfold fixL Ax
  by_cases h : n.dg = []
  · rw [if_pos h, h, vd_nil, Nat.zero_mul]
    have := vd_zs [] (m + 1)
    rw [List.nil_append, vd_nil, Nat.zero_mul] at this
    exact this
  · rw [if_neg h, vd_zs]
    congr 2
    omega
theorem fixL_len {n : Num} (m : Nat) : (fixL n m).length = if n.dg = [] then m + 1 else n.dg.length + (m + n.ex).toNat := by
  unfold fixL
  split
  · exact zs_len _
  · rw [List.length_append, zs_len]
theorem padL_len (f : List UInt8) (k : Nat) (h : f.length ≤ k) : (padL f k).length = k := by
  unfold padL
  rw [List.length_append, zs_len]
  omega
theorem padL_all {f : List UInt8} (h : AllD f) (k : Nat) : AllD (padL f k) := allD_append (allD_zs _) h
theorem padL_vd (f : List UInt8) (k : Nat) : vd (padL f k) = vd f := vd_zs_front _ _
/-- Low digits do not see what stands ahead. -/
theorem digs_add (m : Nat) : ∀ a b : Nat, digs m (a * 10 ^ m + b) = digs m b := by
  induction m with
  | zero => intro a b; rfl
  | succ m ih =>
    intro a b
    rw [digs, digs]
    have e1 : (a * 10 ^ (m + 1) + b) / 10 = a * 10 ^ m + b / 10 := by
      rw [Nat.pow_succ, ← Nat.mul_assoc, Nat.add_comm, Nat.add_mul_div_right _ _ (by omega), Nat.add_comm]
    have e2 : (a * 10 ^ (m + 1) + b) % 10 = b % 10 := by
      rw [Nat.pow_succ, ← Nat.mul_assoc, Nat.add_comm, Nat.add_mul_mod_self_right]
    rw [e1, e2, ih]
theorem digs_front (m : Nat) : ∀ n : Nat, digs (m + 1) n = UInt8.ofNat (48 + n / 10 ^ m % 10) :: digs m n := by
  induction m with
  | zero => intro n; simp [digs]
  | succ m ih =>
    intro n
    rw [digs, ih (n / 10), digs, Nat.div_div_eq_div_mul, Nat.pow_succ, Nat.mul_comm 10]
    rfl
/-- A step of adding. -/
theorem add_step {x y : UInt8} {X Y : List UInt8} (hl : X.length = Y.length) :
    digs (X.length + 1) (vd (x :: X) + vd (y :: Y)) = UInt8.ofNat (48 + (dv x + dv y + (vd X + vd Y) / 10 ^ X.length) % 10) :: digs X.length (vd X + vd Y) ∧
    (vd (x :: X) + vd (y :: Y)) / 10 ^ (X.length + 1) = (dv x + dv y + (vd X + vd Y) / 10 ^ X.length) / 10 := by
  have hp : 0 < 10 ^ X.length := Nat.pow_pos (by omega)
  have e : vd (x :: X) + vd (y :: Y) = (dv x + dv y) * 10 ^ X.length + (vd X + vd Y) := by
    rw [vd_cons, vd_cons, ← hl, Nat.add_mul]
    omega
  have e2 : (vd (x :: X) + vd (y :: Y)) / 10 ^ X.length = dv x + dv y + (vd X + vd Y) / 10 ^ X.length := by
    rw [e, Nat.mul_comm, Nat.mul_add_div hp]
  constructor
  · rw [digs_front, e2]
    congr 1
    rw [e, digs_add]
  · rw [Nat.pow_succ, ← Nat.div_div_eq_div_mul, e2]
theorem add_end {X Y : List UInt8} (hX : AllD X) (hY : AllD Y) (hl : X.length = Y.length) :
    UInt8.ofNat (48 + (vd X + vd Y) / 10 ^ X.length) :: digs X.length (vd X + vd Y) = digs (X.length + 1) (vd X + vd Y) := by
  have b1 := vd_lt hX
  have b2 := vd_lt hY
  rw [← hl] at b2
  rw [digs_front]
  have : (vd X + vd Y) / 10 ^ X.length < 2 := by
    rw [Nat.div_lt_iff_lt_mul (Nat.pow_pos (by omega))]
    omega
  rw [Nat.mod_eq_of_lt (show _ < 10 by omega)]
theorem add_carry {X Y : List UInt8} (hX : AllD X) (hY : AllD Y) (hl : X.length = Y.length) : (vd X + vd Y) / 10 ^ X.length ≤ 1 := by
  have b1 := vd_lt hX
  have b2 := vd_lt hY
  rw [← hl] at b2
  have : (vd X + vd Y) / 10 ^ X.length < 2 := by
    rw [Nat.div_lt_iff_lt_mul (Nat.pow_pos (by omega))]
    omega
  omega
/-- What is borrowed: the difference with a one lent in front. -/
def lent (X Y : List UInt8) : Nat := 10 ^ X.length + vd X - vd Y
theorem lent_pos {X Y : List UInt8} (hX : AllD X) (hY : AllD Y) (hl : X.length = Y.length) : 0 < lent X Y ∧ lent X Y < 2 * 10 ^ X.length := by
  have b1 := vd_lt hX
  have b2 := vd_lt hY
  rw [← hl] at b2
  unfold lent
  omega
/-- A step of subtracting. -/
theorem sub_step {x y : UInt8} {X Y : List UInt8} (hX : AllD (x :: X)) (hY : AllD (y :: Y)) (hl : X.length = Y.length) :
    digs (X.length + 1) (lent (x :: X) (y :: Y)) = UInt8.ofNat (48 + (10 + dv x - dv y - (1 - lent X Y / 10 ^ X.length)) % 10) :: digs X.length (lent X Y) ∧
    lent (x :: X) (y :: Y) / 10 ^ (X.length + 1) = (10 + dv x - dv y - (1 - lent X Y / 10 ^ X.length)) / 10 := by
  have hX' : AllD X := fun c hc => hX c (List.mem_cons_of_mem _ hc)
  have hY' : AllD Y := fun c hc => hY c (List.mem_cons_of_mem _ hc)
  have hp : 0 < 10 ^ X.length := Nat.pow_pos (by omega)
  obtain ⟨l1, l2⟩ := lent_pos hX' hY' hl
  have dx := dv_lt (hX x List.mem_cons_self)
  have dy := dv_lt (hY y List.mem_cons_self)
  have b1 := vd_lt hX'
  have b2 := vd_lt hY'
  rw [← hl] at b2
  have e : lent (x :: X) (y :: Y) = (10 + dv x - dv y - 1) * 10 ^ X.length + lent X Y := by
    unfold lent
    rw [vd_cons, vd_cons, ← hl, List.length_cons, Nat.pow_succ]
    generalize 10 ^ X.length = P at *
    have e1 : (10 + dv x - dv y - 1) * P = 10 * P + dv x * P - dv y * P - P := by
      rw [Nat.sub_mul, Nat.sub_mul, Nat.add_mul, Nat.one_mul]
    have e2 : dv y * P + P ≤ 10 * P := by
      rw [← Nat.succ_mul]
      exact Nat.mul_le_mul_right _ dy
    rw [e1]
    omega
  have hq : lent X Y / 10 ^ X.length ≤ 1 := by
    have : lent X Y / 10 ^ X.length < 2 := by rw [Nat.div_lt_iff_lt_mul hp]; exact l2
    omega
  have e2 : lent (x :: X) (y :: Y) / 10 ^ X.length = 10 + dv x - dv y - (1 - lent X Y / 10 ^ X.length) := by
    rw [e, Nat.add_comm, Nat.add_mul_div_right _ _ hp]
    generalize lent X Y / 10 ^ X.length = q at *
    omega
  constructor
  · rw [digs_front, e2]
    congr 1
    rw [e, digs_add]
  · rw [Nat.pow_succ, ← Nat.div_div_eq_div_mul, e2]
theorem lent_quo {X Y : List UInt8} (hX : AllD X) (hY : AllD Y) (hl : X.length = Y.length) : lent X Y / 10 ^ X.length ≤ 1 := by
  obtain ⟨_, l2⟩ := lent_pos hX hY hl
  have : lent X Y / 10 ^ X.length < 2 := by rw [Nat.div_lt_iff_lt_mul (Nat.pow_pos (by omega))]; exact l2
  omega
theorem sub_end {X Y : List UInt8} (h : vd Y ≤ vd X) : digs X.length (lent X Y) = digs X.length (vd X - vd Y) := by
  unfold lent
  rw [show 10 ^ X.length + vd X - vd Y = 1 * 10 ^ X.length + (vd X - vd Y) by omega, digs_add]
/-- A canonical text is read by the reference too. -/
theorem canN_read {s : List UInt8} {n : Num} (h : canN s = some n) : ∃ m, scn cl2 s = some m ∧ trimN m = n := by
  obtain ⟨h1, rfl⟩ := canN_iff.1 h
  exact scn_ctext (fun p _ h => cl2_ok p h) h1
end Wv.Dc
