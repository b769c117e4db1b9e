/-
  Numbers as bytes in plain Lean: the bytes of a number, and the number at the front of bytes. No program stands here.
-/

set_option linter.unusedVariables false
set_option linter.unusedSimpArgs false
namespace Wv
def toL (s : ByteArray) : List UInt8 := s.data.toList
def bs (l : List UInt8) : ByteArray := ⟨l.toArray⟩
theorem bs_toL (s : ByteArray) : bs (toL s) = s := rfl
theorem toL_bs (l : List UInt8) : toL (bs l) = l := rfl
theorem toL_length (s : ByteArray) : (toL s).length = s.size := rfl
theorem bs_size (l : List UInt8) : (bs l).size = l.length := rfl
theorem bs_append (a b : List UInt8) : bs a ++ bs b = bs (a ++ b) := by
 apply ByteArray.ext
 simp [bs, ByteArray.data_append]
theorem bs_inj {a b : List UInt8} : bs a = bs b ↔ a = b := ⟨fun h => congrArg toL h, fun h => by rw [h]⟩
theorem toL_inj {a b : ByteArray} : toL a = toL b ↔ a = b := ⟨fun h => by rw [← bs_toL a, ← bs_toL b, h], fun h => by rw [h]⟩
end Wv
namespace Wv.Vi
def bnd : Nat → Nat
 | 0 => 0
 | k + 1 => bnd k + 2 ^ (7 * (k + 1))
def kof (n : Nat) : Nat :=
 if n < 128 then 0 else if n < 16512 then 1 else if n < 2113664 then 2 else if n < 270549120 then 3 else if n < 34630287488 then 4
 else if n < 4432676798592 then 5 else if n < 567382630219904 then 6 else if n < 72624976668147840 then 7 else 8
def be : Nat → Nat → List UInt8
 | 0, _ => []
 | k + 1, r => UInt8.ofNat (r / 256 ^ k) :: be k r
def num (n : Nat) : List UInt8 := UInt8.ofNat (256 - 2 ^ (8 - kof n) + (n - bnd (kof n)) / 256 ^ kof n) :: be (kof n) (n - bnd (kof n))
def lead (c : Nat) : Nat := if c < 128 then 0 else if c < 192 then 1 else if c < 224 then 2 else if c < 240 then 3 else if c < 248 then 4 else if c < 252 then 5 else if c < 254 then 6 else if c < 255 then 7 else 8
def vl (a : Nat) (l : List UInt8) : Nat := l.foldl (fun a b => 256 * a + b.toNat) a
def rd : List UInt8 → Option (Nat × Nat)
 | [] => none
 | c :: t => if t.length < lead c.toNat then none else
  if 9223372036854775807 < vl (c.toNat - (256 - 2 ^ (8 - lead c.toNat))) (t.take (lead c.toNat)) + bnd (lead c.toNat) then none
  else some (vl (c.toNat - (256 - 2 ^ (8 - lead c.toNat))) (t.take (lead c.toNat)) + bnd (lead c.toNat), lead c.toNat + 1)

theorem rd_cons (c : UInt8) (t : List UInt8) : rd (c :: t) = if t.length < lead c.toNat then none else
  if 9223372036854775807 < vl (c.toNat - (256 - 2 ^ (8 - lead c.toNat))) (t.take (lead c.toNat)) + bnd (lead c.toNat) then none
  else some (vl (c.toNat - (256 - 2 ^ (8 - lead c.toNat))) (t.take (lead c.toNat)) + bnd (lead c.toNat), lead c.toNat + 1) := rfl
theorem kof_spec (n : Nat) : (kof n = 0 ∧ 0 ≤ n ∧ n < 128) ∨ (kof n = 1 ∧ 128 ≤ n ∧ n < 16512) ∨ (kof n = 2 ∧ 16512 ≤ n ∧ n < 2113664) ∨ (kof n = 3 ∧ 2113664 ≤ n ∧ n < 270549120) ∨ (kof n = 4 ∧ 270549120 ≤ n ∧ n < 34630287488) ∨ (kof n = 5 ∧ 34630287488 ≤ n ∧ n < 4432676798592) ∨ (kof n = 6 ∧ 4432676798592 ≤ n ∧ n < 567382630219904) ∨ (kof n = 7 ∧ 567382630219904 ≤ n ∧ n < 72624976668147840) ∨ (kof n = 8 ∧ 72624976668147840 ≤ n) := by
 by_cases c0 : n < 128
 ·exact .inl ⟨by unfold kof; simp only [c0, if_true], by omega, c0⟩
 by_cases c1 : n < 16512
 ·exact .inr (.inl ⟨by unfold kof; simp only [c0, c1, if_true, if_false], by omega, c1⟩)
 by_cases c2 : n < 2113664
 ·exact .inr (.inr (.inl ⟨by unfold kof; simp only [c0, c1, c2, if_true, if_false], by omega, c2⟩))
 by_cases c3 : n < 270549120
 ·exact .inr (.inr (.inr (.inl ⟨by unfold kof; simp only [c0, c1, c2, c3, if_true, if_false], by omega, c3⟩)))
 by_cases c4 : n < 34630287488
 ·exact .inr (.inr (.inr (.inr (.inl ⟨by unfold kof; simp only [c0, c1, c2, c3, c4, if_true, if_false], by omega, c4⟩))))
 by_cases c5 : n < 4432676798592
 ·exact .inr (.inr (.inr (.inr (.inr (.inl ⟨by unfold kof; simp only [c0, c1, c2, c3, c4, c5, if_true, if_false], by omega, c5⟩)))))
 by_cases c6 : n < 567382630219904
 ·exact .inr (.inr (.inr (.inr (.inr (.inr (.inl ⟨by unfold kof; simp only [c0, c1, c2, c3, c4, c5, c6, if_true, if_false], by omega, c6⟩))))))
 by_cases c7 : n < 72624976668147840
 ·exact .inr (.inr (.inr (.inr (.inr (.inr (.inr (.inl ⟨by unfold kof; simp only [c0, c1, c2, c3, c4, c5, c6, c7, if_true, if_false], by omega, c7⟩)))))))
 exact .inr (.inr (.inr (.inr (.inr (.inr (.inr (.inr (⟨by unfold kof; simp only [c0, c1, c2, c3, c4, c5, c6, c7, if_false], by omega⟩))))))))

theorem kof_le (n : Nat) : kof n ≤ 8 := by have := kof_spec n; omega
theorem bnd_vals : bnd 0 = 0 ∧ bnd 1 = 128 ∧ bnd 2 = 16512 ∧ bnd 3 = 2113664 ∧ bnd 4 = 270549120 ∧ bnd 5 = 34630287488 ∧ bnd 6 = 4432676798592 ∧ bnd 7 = 567382630219904 ∧ bnd 8 = 72624976668147840 := by decide
theorem nine (k : Nat) (h : k ≤ 8) : k = 0 ∨ k = 1 ∨ k = 2 ∨ k = 3 ∨ k = 4 ∨ k = 5 ∨ k = 6 ∨ k = 7 ∨ k = 8 := by omega
theorem bnd_le (k : Nat) (h : k ≤ 8) : bnd k ≤ 72624976668147840 := by
 have := bnd_vals
 rcases nine k h with rfl | rfl | rfl | rfl | rfl | rfl | rfl | rfl | rfl <;> omega
theorem kof_step (n k : Nat) (h : k < 8) (hk : k ≤ kof n) : bnd (k + 1) ≤ n ↔ k < kof n := by
 have h1 := kof_spec n
 have h2 := bnd_vals
 rcases nine k (by omega) with rfl | rfl | rfl | rfl | rfl | rfl | rfl | rfl | rfl <;> simp only [Nat.zero_add, Nat.reduceAdd] <;> omega
theorem bnd_kof (n : Nat) : bnd (kof n) ≤ n := by
 have h1 := kof_spec n
 have h2 := bnd_vals
 rcases nine (kof n) (kof_le n) with h | h | h | h | h | h | h | h | h <;> rw [h] at h1 ⊢ <;> omega
theorem rest_lt (n : Nat) (hn : n < 9223372036854775808) : (n - bnd (kof n)) / 256 ^ kof n < 2 ^ (7 - kof n) ∧ (kof n = 8 → (n - bnd (kof n)) / 256 ^ kof n = 0) := by
 have h1 := kof_spec n
 have h2 := bnd_vals
 rcases nine (kof n) (kof_le n) with h | h | h | h | h | h | h | h | h <;> rw [h] at h1 ⊢ <;> simp only [Nat.reducePow, Nat.reduceSub] <;> omega
theorem be_length (k r : Nat) : (be k r).length = k := by
 induction k with
 | zero => rfl
 | succ k ih => simp [be, ih]
theorem num_length (n : Nat) : (num n).length = kof n + 1 := by simp [num, be_length]
theorem vl_be (k : Nat) : ∀ a r, vl a (be k r) = a * 256 ^ k + r % 256 ^ k := by
 induction k with
 | zero => intro a r; simp [vl, be, Nat.mod_one]
 | succ k ih =>
  intro a r
  have e : vl a (be (k + 1) r) = vl (256 * a + (UInt8.ofNat (r / 256 ^ k)).toNat) (be k r) := rfl
  rw [e, ih]
  have h1 : (UInt8.ofNat (r / 256 ^ k)).toNat = r / 256 ^ k % 256 := by simp
  rw [h1, Nat.pow_succ, Nat.mod_mul]
  rw [Nat.add_mul, Nat.mul_comm (r / 256 ^ k % 256)]
  have : 256 * a * 256 ^ k = a * (256 ^ k * 256) := by rw [Nat.mul_comm 256 a, Nat.mul_assoc, Nat.mul_comm 256]
  omega
theorem lead_spec (c : Nat) : (lead c = 0 ∧ 0 ≤ c ∧ c < 128) ∨ (lead c = 1 ∧ 128 ≤ c ∧ c < 192) ∨ (lead c = 2 ∧ 192 ≤ c ∧ c < 224) ∨ (lead c = 3 ∧ 224 ≤ c ∧ c < 240) ∨ (lead c = 4 ∧ 240 ≤ c ∧ c < 248) ∨ (lead c = 5 ∧ 248 ≤ c ∧ c < 252) ∨ (lead c = 6 ∧ 252 ≤ c ∧ c < 254) ∨ (lead c = 7 ∧ 254 ≤ c ∧ c < 255) ∨ (lead c = 8 ∧ 255 ≤ c) := by
 by_cases c0 : c < 128
 ·exact .inl ⟨by unfold lead; simp only [c0, if_true], by omega, c0⟩
 by_cases c1 : c < 192
 ·exact .inr (.inl ⟨by unfold lead; simp only [c0, c1, if_true, if_false], by omega, c1⟩)
 by_cases c2 : c < 224
 ·exact .inr (.inr (.inl ⟨by unfold lead; simp only [c0, c1, c2, if_true, if_false], by omega, c2⟩))
 by_cases c3 : c < 240
 ·exact .inr (.inr (.inr (.inl ⟨by unfold lead; simp only [c0, c1, c2, c3, if_true, if_false], by omega, c3⟩)))
 by_cases c4 : c < 248
 ·exact .inr (.inr (.inr (.inr (.inl ⟨by unfold lead; simp only [c0, c1, c2, c3, c4, if_true, if_false], by omega, c4⟩))))
 by_cases c5 : c < 252
 ·exact .inr (.inr (.inr (.inr (.inr (.inl ⟨by unfold lead; simp only [c0, c1, c2, c3, c4, c5, if_true, if_false], by omega, c5⟩)))))
 by_cases c6 : c < 254
 ·exact .inr (.inr (.inr (.inr (.inr (.inr (.inl ⟨by unfold lead; simp only [c0, c1, c2, c3, c4, c5, c6, if_true, if_false], by omega, c6⟩))))))
 by_cases c7 : c < 255
 ·exact .inr (.inr (.inr (.inr (.inr (.inr (.inr (.inl ⟨by unfold lead; simp only [c0, c1, c2, c3, c4, c5, c6, c7, if_true, if_false], by omega, c7⟩)))))))
 exact .inr (.inr (.inr (.inr (.inr (.inr (.inr (.inr (⟨by unfold lead; simp only [c0, c1, c2, c3, c4, c5, c6, c7, if_false], by omega⟩))))))))

theorem lead_le (c : Nat) : lead c ≤ 8 := by have := lead_spec c; omega
theorem lead_first (k m : Nat) (hk : k ≤ 8) (hm : m < 2 ^ (7 - k)) (h8 : k = 8 → m = 0) : 256 - 2 ^ (8 - k) + m < 256 ∧ lead (256 - 2 ^ (8 - k) + m) = k := by
 have h1 := lead_spec (256 - 2 ^ (8 - k) + m)
 rcases nine k hk with rfl | rfl | rfl | rfl | rfl | rfl | rfl | rfl | rfl <;> simp only [Nat.reducePow, Nat.reduceSub] at h1 hm ⊢ <;> omega
theorem rd_num (n : Nat) (hn : n < 9223372036854775808) (r : List UInt8) : rd (num n ++ r) = some (n, kof n + 1) := by
 obtain ⟨h1, h2⟩ := rest_lt n hn
 obtain ⟨h3, h4⟩ := lead_first (kof n) _ (kof_le n) h1 h2
 have h5 : (UInt8.ofNat (256 - 2 ^ (8 - kof n) + (n - bnd (kof n)) / 256 ^ kof n)).toNat = 256 - 2 ^ (8 - kof n) + (n - bnd (kof n)) / 256 ^ kof n := by simp [Nat.mod_eq_of_lt h3]
 have h6 : (be (kof n) (n - bnd (kof n)) ++ r).take (kof n) = be (kof n) (n - bnd (kof n)) := by
  rw [List.take_append_of_le_length (by rw [be_length]; exact Nat.le_refl _), List.take_of_length_le (by rw [be_length]; exact Nat.le_refl _)]
 have h7 : vl (256 - 2 ^ (8 - kof n) + (n - bnd (kof n)) / 256 ^ kof n - (256 - 2 ^ (8 - kof n))) (be (kof n) (n - bnd (kof n))) = n - bnd (kof n) := by
  rw [vl_be, Nat.add_sub_cancel_left, Nat.div_add_mod']
 have h8 := bnd_kof n
 show rd (UInt8.ofNat _ :: (be _ _ ++ r)) = _
 rw [rd_cons, h5, h4, h6, h7, if_neg (by rw [List.length_append, be_length]; omega), if_neg (by omega)]
 congr 2
 omega
theorem rd_le {s : List UInt8} {n z : Nat} (h : rd s = some (n, z)) : n ≤ 9223372036854775807 ∧ 1 ≤ z ∧ z ≤ s.length ∧ z ≤ 9 := by
 match s with
 | [] => simp [rd] at h
 | c :: t =>
  rw [rd_cons] at h
  have := lead_le c.toNat
  split at h
  ·cases h
  ·split at h
   ·cases h
   ·injection h with h
    injection h with h1 h2
    subst h1 h2
    simp only [List.length_cons]
    omega
end Wv.Vi
