/-
  Joined texts: V1, V2, V3, V4, V5.
-/

set_option linter.unusedVariables false
set_option linter.unusedSimpArgs false
/-
  Numbers as bytes in plain Lean: the bytes of a number, and the number at the front of bytes. No program stands here.
-/
namespace Wv
def toL (s : ByteArray) : List UInt8 := s.data.toList
def bs (l : List UInt8) : ByteArray := ⟨l.toArray⟩
theorem bs_toL (s : ByteArray) : bs (toL s) = s := rfl
theorem toL_bs (l : List UInt8) : toL (bs l) = l := rfl
theorem toL_length (s : ByteArray) : (toL s).length = s.size := rfl
theorem bs_size (l : List UInt8) : (bs l).size = l.length := rfl
theorem bs_append (a b : List UInt8) : bs a ++ bs b = bs (a ++ b) := by
 apply ByteArray.ext
 simp [bs, ByteArray.data_append]
end Wv
namespace Wv.Vi
def bnd : Nat → Nat
 | 0 => 0
 | k + 1 => bnd k + 2 ^ (7 * (k + 1))
def kof (n : Nat) : Nat :=
 if n < 128 then 0 else if n < 16512 then 1 else if n < 2113664 then 2 else if n < 270549120 then 3 else if n < 34630287488 then 4
 else if n < 4432676798592 then 5 else if n < 567382630219904 then 6 else if n < 72624976668147840 then 7 else 8
def be : Nat → Nat → List UInt8
 | 0, _ => []
 | k + 1, r => UInt8.ofNat (r / 256 ^ k) :: be k r
def num (n : Nat) : List UInt8 := UInt8.ofNat (256 - 2 ^ (8 - kof n) + (n - bnd (kof n)) / 256 ^ kof n) :: be (kof n) (n - bnd (kof n))
def lead (c : Nat) : Nat := if c < 128 then 0 else if c < 192 then 1 else if c < 224 then 2 else if c < 240 then 3 else if c < 248 then 4 else if c < 252 then 5 else if c < 254 then 6 else if c < 255 then 7 else 8
def vl (a : Nat) (l : List UInt8) : Nat := l.foldl (fun a b => 256 * a + b.toNat) a
def rd : List UInt8 → Option (Nat × Nat)
 | [] => none
 | c :: t => if t.length < lead c.toNat then none else
  if 9223372036854775807 < vl (c.toNat - (256 - 2 ^ (8 - lead c.toNat))) (t.take (lead c.toNat)) + bnd (lead c.toNat) then none
  else some (vl (c.toNat - (256 - 2 ^ (8 - lead c.toNat))) (t.take (lead c.toNat)) + bnd (lead c.toNat), lead c.toNat + 1)

theorem rd_cons (c : UInt8) (t : List UInt8) : rd (c :: t) = if t.length < lead c.toNat then none else
  if 9223372036854775807 < vl (c.toNat - (256 - 2 ^ (8 - lead c.toNat))) (t.take (lead c.toNat)) + bnd (lead c.toNat) then none
  else some (vl (c.toNat - (256 - 2 ^ (8 - lead c.toNat))) (t.take (lead c.toNat)) + bnd (lead c.toNat), lead c.toNat + 1) := rfl
theorem kof_spec (n : Nat) : (kof n = 0 ∧ 0 ≤ n ∧ n < 128) ∨ (kof n = 1 ∧ 128 ≤ n ∧ n < 16512) ∨ (kof n = 2 ∧ 16512 ≤ n ∧ n < 2113664) ∨ (kof n = 3 ∧ 2113664 ≤ n ∧ n < 270549120) ∨ (kof n = 4 ∧ 270549120 ≤ n ∧ n < 34630287488) ∨ (kof n = 5 ∧ 34630287488 ≤ n ∧ n < 4432676798592) ∨ (kof n = 6 ∧ 4432676798592 ≤ n ∧ n < 567382630219904) ∨ (kof n = 7 ∧ 567382630219904 ≤ n ∧ n < 72624976668147840) ∨ (kof n = 8 ∧ 72624976668147840 ≤ n) := by
 by_cases c0 : n < 128
 ·exact .inl ⟨by unfold kof; simp only [c0, if_true], by omega, c0⟩
 by_cases c1 : n < 16512
 ·exact .inr (.inl ⟨by unfold kof; simp only [c0, c1, if_true, if_false], by omega, c1⟩)
 by_cases c2 : n < 2113664
 ·exact .inr (.inr (.inl ⟨by unfold kof; simp only [c0, c1, c2, if_true, if_false], by omega, c2⟩))
 by_cases c3 : n < 270549120
 ·exact .inr (.inr (.inr (.inl ⟨by unfold kof; simp only [c0, c1, c2, c3, if_true, if_false], by omega, c3⟩)))
 by_cases c4 : n < 34630287488
 ·exact .inr (.inr (.inr (.inr (.inl ⟨by unfold kof; simp only [c0, c1, c2, c3, c4, if_true, if_false], by omega, c4⟩))))
 by_cases c5 : n < 4432676798592
 ·exact .inr (.inr (.inr (.inr (.inr (.inl ⟨by unfold kof; simp only [c0, c1, c2, c3, c4, c5, if_true, if_false], by omega, c5⟩)))))
 by_cases c6 : n < 567382630219904
 ·exact .inr (.inr (.inr (.inr (.inr (.inr (.inl ⟨by unfold kof; simp only [c0, c1, c2, c3, c4, c5, c6, if_true, if_false], by omega, c6⟩))))))
 by_cases c7 : n < 72624976668147840
 ·exact .inr (.inr (.inr (.inr (.inr (.inr (.inr (.inl ⟨by unfold kof; simp only [c0, c1, c2, c3, c4, c5, c6, c7, if_true, if_false], by omega, c7⟩)))))))
 exact .inr (.inr (.inr (.inr (.inr (.inr (.inr (.inr (⟨by unfold kof; simp only [c0, c1, c2, c3, c4, c5, c6, c7, if_false], by omega⟩))))))))

theorem kof_le (n : Nat) : kof n ≤ 8 := by have := kof_spec n; omega
theorem bnd_vals : bnd 0 = 0 ∧ bnd 1 = 128 ∧ bnd 2 = 16512 ∧ bnd 3 = 2113664 ∧ bnd 4 = 270549120 ∧ bnd 5 = 34630287488 ∧ bnd 6 = 4432676798592 ∧ bnd 7 = 567382630219904 ∧ bnd 8 = 72624976668147840 := by decide
theorem nine (k : Nat) (h : k ≤ 8) : k = 0 ∨ k = 1 ∨ k = 2 ∨ k = 3 ∨ k = 4 ∨ k = 5 ∨ k = 6 ∨ k = 7 ∨ k = 8 := by omega
theorem bnd_le (k : Nat) (h : k ≤ 8) : bnd k ≤ 72624976668147840 := by
 have := bnd_vals
 rcases nine k h with rfl | rfl | rfl | rfl | rfl | rfl | rfl | rfl | rfl <;> omega
theorem kof_step (n k : Nat) (h : k < 8) (hk : k ≤ kof n) : bnd (k + 1) ≤ n ↔ k < kof n := by
 have h1 := kof_spec n
 have h2 := bnd_vals
 rcases nine k (by omega) with rfl | rfl | rfl | rfl | rfl | rfl | rfl | rfl | rfl <;> simp only [Nat.zero_add, Nat.reduceAdd] <;> omega
theorem bnd_kof (n : Nat) : bnd (kof n) ≤ n := by
 have h1 := kof_spec n
 have h2 := bnd_vals
 rcases nine (kof n) (kof_le n) with h | h | h | h | h | h | h | h | h <;> rw [h] at h1 ⊢ <;> omega
theorem rest_lt (n : Nat) (hn : n < 9223372036854775808) : (n - bnd (kof n)) / 256 ^ kof n < 2 ^ (7 - kof n) ∧ (kof n = 8 → (n - bnd (kof n)) / 256 ^ kof n = 0) := by
 have h1 := kof_spec n
 have h2 := bnd_vals
 rcases nine (kof n) (kof_le n) with h | h | h | h | h | h | h | h | h <;> rw [h] at h1 ⊢ <;> simp only [Nat.reducePow, Nat.reduceSub] <;> omega
theorem be_length (k r : Nat) : (be k r).length = k := by
 induction k with
 | zero => rfl
 | succ k ih => simp [be, ih]
theorem num_length (n : Nat) : (num n).length = kof n + 1 := by simp [num, be_length]
theorem vl_be (k : Nat) : ∀ a r, vl a (be k r) = a * 256 ^ k + r % 256 ^ k := by
 induction k with
 | zero => intro a r; simp [vl, be, Nat.mod_one]
 | succ k ih =>
  intro a r
  have e : vl a (be (k + 1) r) = vl (256 * a + (UInt8.ofNat (r / 256 ^ k)).toNat) (be k r) := rfl
  rw [e, ih]
  have h1 : (UInt8.ofNat (r / 256 ^ k)).toNat = r / 256 ^ k % 256 := by simp
  rw [h1, Nat.pow_succ, Nat.mod_mul]
  rw [Nat.add_mul, Nat.mul_comm (r / 256 ^ k % 256)]
  have : 256 * a * 256 ^ k = a * (256 ^ k * 256) := by rw [Nat.mul_comm 256 a, Nat.mul_assoc, Nat.mul_comm 256]
  omega
theorem lead_spec (c : Nat) : (lead c = 0 ∧ 0 ≤ c ∧ c < 128) ∨ (lead c = 1 ∧ 128 ≤ c ∧ c < 192) ∨ (lead c = 2 ∧ 192 ≤ c ∧ c < 224) ∨ (lead c = 3 ∧ 224 ≤ c ∧ c < 240) ∨ (lead c = 4 ∧ 240 ≤ c ∧ c < 248) ∨ (lead c = 5 ∧ 248 ≤ c ∧ c < 252) ∨ (lead c = 6 ∧ 252 ≤ c ∧ c < 254) ∨ (lead c = 7 ∧ 254 ≤ c ∧ c < 255) ∨ (lead c = 8 ∧ 255 ≤ c) := by
 by_cases c0 : c < 128
 ·exact .inl ⟨by unfold lead; simp only [c0, if_true], by omega, c0⟩
 by_cases c1 : c < 192
 ·exact .inr (.inl ⟨by unfold lead; simp only [c0, c1, if_true, if_false], by omega, c1⟩)
 by_cases c2 : c < 224
 ·exact .inr (.inr (.inl ⟨by unfold lead; simp only [c0, c1, c2, if_true, if_false], by omega, c2⟩))
 by_cases c3 : c < 240
 ·exact .inr (.inr (.inr (.inl ⟨by unfold lead; simp only [c0, c1, c2, c3, if_true, if_false], by omega, c3⟩)))
 by_cases c4 : c < 248
 ·exact .inr (.inr (.inr (.inr (.inl ⟨by unfold lead; simp only [c0, c1, c2, c3, c4, if_true, if_false], by omega, c4⟩))))
 by_cases c5 : c < 252
 ·exact .inr (.inr (.inr (.inr (.inr (.inl ⟨by unfold lead; simp only [c0, c1, c2, c3, c4, c5, if_true, if_false], by omega, c5⟩)))))
 by_cases c6 : c < 254
 ·exact .inr (.inr (.inr (.inr (.inr (.inr (.inl ⟨by unfold lead; simp only [c0, c1, c2, c3, c4, c5, c6, if_true, if_false], by omega, c6⟩))))))
 by_cases c7 : c < 255
 ·exact .inr (.inr (.inr (.inr (.inr (.inr (.inr (.inl ⟨by unfold lead; simp only [c0, c1, c2, c3, c4, c5, c6, c7, if_true, if_false], by omega, c7⟩)))))))
 exact .inr (.inr (.inr (.inr (.inr (.inr (.inr (.inr (⟨by unfold lead; simp only [c0, c1, c2, c3, c4, c5, c6, c7, if_false], by omega⟩))))))))

theorem lead_le (c : Nat) : lead c ≤ 8 := by have := lead_spec c; omega
theorem lead_first (k m : Nat) (hk : k ≤ 8) (hm : m < 2 ^ (7 - k)) (h8 : k = 8 → m = 0) : 256 - 2 ^ (8 - k) + m < 256 ∧ lead (256 - 2 ^ (8 - k) + m) = k := by
 have h1 := lead_spec (256 - 2 ^ (8 - k) + m)
 rcases nine k hk with rfl | rfl | rfl | rfl | rfl | rfl | rfl | rfl | rfl <;> simp only [Nat.reducePow, Nat.reduceSub] at h1 hm ⊢ <;> omega
theorem rd_num (n : Nat) (hn : n < 9223372036854775808) (r : List UInt8) : rd (num n ++ r) = some (n, kof n + 1) := by
 obtain ⟨h1, h2⟩ := rest_lt n hn
 obtain ⟨h3, h4⟩ := lead_first (kof n) _ (kof_le n) h1 h2
 have h5 : (UInt8.ofNat (256 - 2 ^ (8 - kof n) + (n - bnd (kof n)) / 256 ^ kof n)).toNat = 256 - 2 ^ (8 - kof n) + (n - bnd (kof n)) / 256 ^ kof n := by simp [Nat.mod_eq_of_lt h3]
 have h6 : (be (kof n) (n - bnd (kof n)) ++ r).take (kof n) = be (kof n) (n - bnd (kof n)) := by
  rw [List.take_append_of_le_length (by rw [be_length]; exact Nat.le_refl _), List.take_of_length_le (by rw [be_length]; exact Nat.le_refl _)]
 have h7 : vl (256 - 2 ^ (8 - kof n) + (n - bnd (kof n)) / 256 ^ kof n - (256 - 2 ^ (8 - kof n))) (be (kof n) (n - bnd (kof n))) = n - bnd (kof n) := by
  rw [vl_be, Nat.add_sub_cancel_left, Nat.div_add_mod']
 have h8 := bnd_kof n
 show rd (UInt8.ofNat _ :: (be _ _ ++ r)) = _
 rw [rd_cons, h5, h4, h6, h7, if_neg (by rw [List.length_append, be_length]; omega), if_neg (by omega)]
 congr 2
 omega
theorem rd_le {s : List UInt8} {n z : Nat} (h : rd s = some (n, z)) : n ≤ 9223372036854775807 ∧ 1 ≤ z ∧ z ≤ s.length ∧ z ≤ 9 := by
 match s with
 | [] => simp [rd] at h
 | c :: t =>
  rw [rd_cons] at h
  have := lead_le c.toNat
  split at h
  ·cases h
  ·split at h
   ·cases h
   ·injection h with h
    injection h with h1 h2
    subst h1 h2
    simp only [List.length_cons]
    omega
end Wv.Vi
/-
  The range coder in plain Lean: an encoder, a decoder, and that what is encoded is decoded again. No program stands here.
-/
namespace Wv.Rc
open Wv.Vi
structure En where
 out : List UInt8
 low : Nat
 size : Nat
structure De where
 rest : List UInt8
 code : Nat
 size : Nat
 miss : Bool
 full : Bool
def inc : List UInt8 → List UInt8
 | [] => []
 | b :: t => if b = 255 then 0 :: inc t else (b + 1) :: t
def carry (l : List UInt8) : List UInt8 := (inc l.reverse).reverse
def eshift (e : En) : En := ⟨e.out ++ [UInt8.ofNat (e.low / 16777216)], e.low * 256 % 4294967296, e.size * 256⟩
def enorm : Nat → En → En
 | 0, e => e
 | k + 1, e => if e.size < 16777216 then enorm k (eshift e) else e
def epart (p b : Nat) (e : En) : En :=
 if b = 0 then ⟨e.out, e.low, e.size / 2048 * p⟩
 else if 4294967296 ≤ e.low + e.size / 2048 * p then ⟨carry e.out, e.low + e.size / 2048 * p - 4294967296, e.size - e.size / 2048 * p⟩
 else ⟨e.out, e.low + e.size / 2048 * p, e.size - e.size / 2048 * p⟩
def ebit (p b : Nat) (e : En) : En := enorm 2 (epart p b e)
def e0 : En := ⟨[], 0, 4294967295⟩
def efin (e : En) : List UInt8 := e.out ++ be 4 e.low
def dnext (d : De) : De :=
 match d.rest with
 | [] => ⟨[], d.code * 256 % 4294967296, d.size, true, d.full⟩
 | c :: t => ⟨t, d.code * 256 % 4294967296 + c.toNat, d.size, d.miss, d.full⟩
def dshift (d : De) : De := { dnext d with size := d.size * 256 }
def dnorm : Nat → De → De
 | 0, d => d
 | k + 1, d => if d.size < 16777216 then dnorm k (dshift d) else d
def dpart (p : Nat) (d : De) : De :=
 if d.code < d.size / 2048 * p then { d with size := d.size / 2048 * p } else { d with code := d.code - d.size / 2048 * p, size := d.size - d.size / 2048 * p }
def dbt (p : Nat) (d : De) : Nat := if d.code < d.size / 2048 * p then 0 else 1
def dbit (p : Nat) (d : De) : De := dnorm 2 (dpart p d)
def dpre (s : List UInt8) : De := dnext (dnext (dnext (dnext ⟨s, 0, 4294967295, false, false⟩)))
def d0 (s : List UInt8) : De := { dpre s with full := decide ((dpre s).code = (dpre s).size) }
def edir : Nat → Nat → En → En
 | 0, _, e => e
 | n + 1, v, e => edir n v (ebit 1024 (v / 2 ^ n % 2) e)
def ddir : Nat → Nat → De → Nat × De
 | 0, a, d => (a, d)
 | n + 1, a, d => ddir n (2 * a + dbt 1024 d) (dbit 1024 d)

theorem vl_snoc (a : Nat) (l : List UInt8) (b : UInt8) : vl a (l ++ [b]) = 256 * vl a l + b.toNat := by simp [vl, List.foldl_append]
theorem snocInd {α : Type} {P : List α → Prop} (h0 : P []) (h1 : ∀ l a, P l → P (l ++ [a])) (l : List α) : P l := by
 rw [← List.reverse_reverse l]
 induction l.reverse with
 | nil => exact h0
 | cons a l ih => rw [List.reverse_cons]; exact h1 _ _ ih
theorem carry_full (l : List UInt8) : carry (l ++ [255]) = carry l ++ [0] := by simp [carry, inc]
theorem carry_room (l : List UInt8) (b : UInt8) (h : b ≠ 255) : carry (l ++ [b]) = l ++ [b + 1] := by simp [carry, inc, h]
theorem carry_length (l : List UInt8) : (carry l).length = l.length := by
 induction l using snocInd with
 | h0 => rfl
 | h1 l b ih =>
  by_cases h : b = 255
  ·subst h; rw [carry_full]; simp [ih]
  ·rw [carry_room _ _ h]; simp
theorem vl_carry (l : List UInt8) (h : vl 0 l + 1 < 256 ^ l.length) : vl 0 (carry l) = vl 0 l + 1 := by
 induction l using snocInd with
 | h0 => simp [vl] at h
 | h1 l b ih =>
  rw [vl_snoc] at h ⊢
  by_cases hb : b = 255
  ·subst hb
   rw [carry_full, vl_snoc]
   have e : (255 : UInt8).toNat = 255 := rfl
   rw [e] at h ⊢
   rw [List.length_append, List.length_singleton, Nat.pow_succ] at h
   rw [ih (by omega)]
   have : (0 : UInt8).toNat = 0 := rfl
   omega
  ·rw [carry_room _ _ hb, vl_snoc]
   have h1 : b.toNat ≠ 255 := fun e => hb (UInt8.toNat_inj.1 e)
   have h2 := UInt8.toNat_lt b
   have : (b + 1).toNat = b.toNat + 1 := by
    rw [UInt8.toNat_add]
    have : (1 : UInt8).toNat = 1 := rfl
    omega
   omega
def N (e : En) : Nat := vl 0 e.out * 4294967296 + e.low
def Szk (k : Nat) (n : Nat) : Prop := 16777216 ≤ n * 256 ^ k ∧ n < 4294967296
structure Val (k : Nat) (e : En) : Prop where
 sz : Szk k e.size
 low : e.low < 4294967296
 top : N e + e.size ≤ 4294967295 * 256 ^ e.out.length
theorem val_0 : Val 0 e0 := ⟨⟨by decide, by decide⟩, by decide, by decide⟩
theorem val_up {e : En} (h : Val 0 e) : 16777216 ≤ e.size ∧ e.size < 4294967296 := by have := h.sz; unfold Szk at this; omega
theorem bound_le (s p : Nat) (h1 : 16777216 ≤ s) (hp1 : 1 ≤ p) (hp2 : p ≤ 2047) : 8192 ≤ s / 2048 * p ∧ s / 2048 * p + 8192 ≤ s := by
 have a1 : s / 2048 * 1 ≤ s / 2048 * p := Nat.mul_le_mul_left _ hp1
 have a2 : s / 2048 * p ≤ s / 2048 * 2047 := Nat.mul_le_mul_left _ hp2
 omega
theorem epart_val {e : En} (h : Val 0 e) {p b : Nat} (hp1 : 1 ≤ p) (hp2 : p ≤ 2047) : Val 2 (epart p b e) ∧ N e ≤ N (epart p b e) ∧ N (epart p b e) + (epart p b e).size ≤ N e + e.size ∧ (epart p b e).out.length = e.out.length := by
 obtain ⟨h1, h2⟩ := val_up h
 obtain ⟨b1, b2⟩ := bound_le e.size p h1 hp1 hp2
 have h3 := h.low
 have h4 := h.top
 clear h
 have hN : ∀ o l s, N ⟨o, l, s⟩ = vl 0 o * 4294967296 + l := fun _ _ _ => rfl
 have hN2 : N e = vl 0 e.out * 4294967296 + e.low := rfl
 have key : ∀ x : En, 8192 ≤ x.size → x.size ≤ e.size → x.low < 4294967296 → N x + x.size ≤ N e + e.size → N e ≤ N x → x.out.length = e.out.length → Val 2 x ∧ N e ≤ N x ∧ N x + x.size ≤ N e + e.size ∧ x.out.length = e.out.length := by
  intro x a1 a2 a3 a4 a5 a6
  refine ⟨⟨⟨by omega, by omega⟩, a3, ?_⟩, a5, a4, a6⟩
  rw [a6]
  exact Nat.le_trans a4 h4
 unfold epart
 generalize e.size / 2048 * p = B at *
 split
 ·exact key _ b1 (by show B ≤ _; omega) h3 (by rw [hN, ← hN2]; show _ + B ≤ _; omega) (by rw [hN, ← hN2]; exact Nat.le_refl _) rfl
 ·split
  ·rename_i _ hov
   have hc : vl 0 e.out + 1 < 256 ^ e.out.length := by
    rw [hN2] at h4
    generalize 256 ^ e.out.length = M at *
    omega
   have hv := vl_carry e.out hc
   clear h4
   exact key _ (by show _ ≤ e.size - B; omega) (by show e.size - B ≤ _; omega) (by show e.low + B - _ < _; omega) (by rw [hN, hv, hN2]; show _ + (e.size - B) ≤ _; omega) (by rw [hN (carry e.out), hv, hN2]; omega) (carry_length _)
  ·clear h4
   exact key _ (by show _ ≤ e.size - B; omega) (by show e.size - B ≤ _; omega) (by show e.low + B < _; omega) (by rw [hN, hN2]; show _ + (e.size - B) ≤ _; omega) (by rw [hN e.out (e.low + B), hN2]; omega) rfl
theorem eshift_N (e : En) (h : e.low < 4294967296) : N (eshift e) = 256 * N e := by
 unfold N eshift
 rw [vl_snoc]
 have : (UInt8.ofNat (e.low / 16777216)).toNat = e.low / 16777216 := by simp; omega
 simp only [this]
 omega
theorem eshift_val {k : Nat} {e : En} (h : Val (k + 1) e) (hs : e.size < 16777216) : Val k (eshift e) := by
 have h1 := h.sz
 have h3 := h.low
 have h4 := h.top
 refine ⟨⟨?_, ?_⟩, ?_, ?_⟩
 ·have := h1.1
  rw [Nat.pow_succ, ← Nat.mul_assoc] at this
  show _ ≤ e.size * 256 * 256 ^ k
  rw [Nat.mul_right_comm]
  exact this
 ·show e.size * 256 < _; omega
 ·show e.low * 256 % 4294967296 < 4294967296; omega
 ·rw [eshift_N e h3]
  show 256 * N e + e.size * 256 ≤ 4294967295 * 256 ^ (e.out ++ [_]).length
  rw [List.length_append, List.length_singleton, Nat.pow_succ, ← Nat.mul_assoc]
  omega
theorem enorm_val (k : Nat) : ∀ {e : En}, Val k e → Val 0 (enorm k e) := by
 induction k with
 | zero => intro e h; exact h
 | succ k ih =>
  intro e h
  rw [enorm]
  split
  ·exact ih (eshift_val h (by assumption))
  ·refine ⟨⟨?_, h.sz.2⟩, h.low, h.top⟩
   simp; omega
theorem ebit_val {e : En} (h : Val 0 e) {p b : Nat} (hp1 : 1 ≤ p) (hp2 : p ≤ 2047) : Val 0 (ebit p b e) := enorm_val 2 (epart_val h hp1 hp2).1

section
variable (F : List UInt8)
def P (k : Nat) : Nat := vl 0 (F.take k)
theorem P_succ (k : Nat) (h : k < F.length) : P F (k + 1) = 256 * P F k + (F[k]).toNat := by
 unfold P
 rw [List.take_succ_eq_append_getElem h, vl_snoc]
structure Wi (e : En) : Prop where
 len : e.out.length + 4 ≤ F.length
 lo : N e ≤ P F (e.out.length + 4)
 hi : P F (e.out.length + 4) < N e + e.size
structure Sy (e : En) (d : De) : Prop where
 wi : Wi F e
 size : d.size = e.size
 code : d.code = P F (e.out.length + 4) - N e
 rest : d.rest = F.drop (e.out.length + 4)
 miss : d.miss = false
 full : d.full = false
variable {F}
theorem eshift_len (e : En) : (eshift e).out.length = e.out.length + 1 := by simp [eshift]
theorem wi_shift {e : En} (hl : e.low < 4294967296) (h : Wi F (eshift e)) : Wi F e := by
 obtain ⟨h1, h2, h3⟩ := h
 rw [eshift_len] at h1 h2 h3
 rw [eshift_N e hl] at h2 h3
 have e1 : e.out.length + 1 + 4 = (e.out.length + 4) + 1 := by omega
 rw [e1, P_succ F _ (by omega)] at h2 h3
 have h4 : (eshift e).size = e.size * 256 := rfl
 rw [h4] at h3
 have := UInt8.toNat_lt (F[e.out.length + 4]'(by omega))
 exact ⟨by omega, by omega, by omega⟩
theorem wi_norm (k : Nat) : ∀ {e : En}, Val k e → Wi F (enorm k e) → Wi F e := by
 induction k with
 | zero => intro e _ h; exact h
 | succ k ih =>
  intro e hv h
  rw [enorm] at h
  split at h
  ·exact wi_shift hv.low (ih (eshift_val hv (by assumption)) h)
  ·exact h
theorem wi_bit {e : En} (h : Val 0 e) {p b : Nat} (hp1 : 1 ≤ p) (hp2 : p ≤ 2047) (hw : Wi F (ebit p b e)) : Wi F e := by
 obtain ⟨h1, h2, h3, h4⟩ := epart_val h (b := b) hp1 hp2
 obtain ⟨k1, k2, k3⟩ := wi_norm 2 h1 hw
 rw [h4] at k1 k2 k3
 exact ⟨k1, by omega, by omega⟩
theorem sy_shift {e : En} {d : De} (hl : e.low < 4294967296) (hs : e.size < 16777216) (h : Sy F e d) (hw : Wi F (eshift e)) : Sy F (eshift e) (dshift d) := by
 obtain ⟨⟨g1, g2, g3⟩, h1, h2, h3, h4, h5⟩ := h
 have hlen := hw.len
 rw [eshift_len] at hlen
 have hr : d.rest = F[e.out.length + 4] :: F.drop (e.out.length + 5) := by rw [h3, List.drop_eq_getElem_cons (by omega)]
 have hn : dshift d = ⟨F.drop (e.out.length + 5), d.code * 256 % 4294967296 + (F[e.out.length + 4]).toNat, d.size * 256, d.miss, d.full⟩ := by
  unfold dshift dnext
  rw [hr]
 refine ⟨hw, by rw [hn]; show d.size * 256 = e.size * 256; rw [h1], ?_, by rw [hn, eshift_len], by rw [hn]; exact h4, by rw [hn]; exact h5⟩
 rw [hn, eshift_len, eshift_N e hl, show e.out.length + 1 + 4 = (e.out.length + 4) + 1 from by omega, P_succ F _ (by omega)]
 show d.code * 256 % 4294967296 + _ = _
 rw [h2]
 omega
theorem sy_norm (k : Nat) : ∀ {e : En} {d : De}, Val k e → Sy F e d → Wi F (enorm k e) → Sy F (enorm k e) (dnorm k d) := by
 induction k with
 | zero => intro e d _ h _; exact h
 | succ k ih =>
  intro e d hv h hw
  rw [enorm] at hw ⊢
  rw [dnorm, h.size]
  split
  ·rename_i hs
   rw [if_pos hs] at hw
   have hv' := eshift_val hv hs
   exact ih hv' (sy_shift hv.low hs h (wi_norm k hv' hw)) hw
  ·exact h
theorem sy_bit {e : En} {d : De} (hv : Val 0 e) {p b : Nat} (hb : b < 2) (hp1 : 1 ≤ p) (hp2 : p ≤ 2047) (h : Sy F e d) (hw : Wi F (ebit p b e)) : dbt p d = b ∧ Sy F (ebit p b e) (dbit p d) := by
 obtain ⟨h1, h2, h3, h4⟩ := epart_val hv (b := b) hp1 hp2
 have k := wi_norm 2 h1 hw
 obtain ⟨u1, u2⟩ := val_up hv
 obtain ⟨b1, b2⟩ := bound_le e.size p u1 hp1 hp2
 have key : dbt p d = b ∧ Sy F (epart p b e) (dpart p d) := by
  obtain ⟨⟨g1, g2, g3⟩, i1, i2, i3, i4, i5⟩ := h
  have k2 := k.lo
  have k3 := k.hi
  rw [h4] at k2 k3
  have hz : b = 0 ∨ b = 1 := by omega
  rcases hz with rfl | rfl
  ·have e1 : epart p 0 e = ⟨e.out, e.low, e.size / 2048 * p⟩ := by simp [epart]
   have hN : N (epart p 0 e) = N e := by rw [e1]; rfl
   have hS : (epart p 0 e).size = e.size / 2048 * p := by rw [e1]
   have hc : d.code < d.size / 2048 * p := by rw [i1, i2]; omega
   have hd : dpart p d = { d with size := d.size / 2048 * p } := by unfold dpart; rw [if_pos hc]
   rw [hd]
   exact ⟨by simp [dbt, hc], k, by rw [hS, ← i1], by rw [h4, hN]; exact i2, by rw [h4]; exact i3, i4, i5⟩
  ·have hN : N (epart p 1 e) = N e + e.size / 2048 * p := by
    unfold epart
    rw [if_neg (by omega)]
    split
    ·rename_i hov
     have h5 := hv.top
     have hc : vl 0 e.out + 1 < 256 ^ e.out.length := by
      simp only [N] at h5
      generalize 256 ^ e.out.length = M at *
      generalize e.size / 2048 * p = B at *
      have := hv.low
      omega
     simp only [N, vl_carry e.out hc]
     omega
    ·simp only [N]; omega
   have hS : (epart p 1 e).size = e.size - e.size / 2048 * p := by
    unfold epart
    rw [if_neg (by omega)]
    split <;> rfl
   have hc : ¬ d.code < d.size / 2048 * p := by rw [i1, i2]; omega
   have hd : dpart p d = { d with code := d.code - d.size / 2048 * p, size := d.size - d.size / 2048 * p } := by unfold dpart; rw [if_neg hc]
   rw [hd]
   exact ⟨by simp [dbt, hc], k, by rw [hS, ← i1], by rw [h4, hN]; show d.code - d.size / 2048 * p = _; rw [i1, i2]; omega, by rw [h4]; exact i3, i4, i5⟩
 exact ⟨key.1, sy_norm 2 h1 key.2 hw⟩
theorem wi_dir (n v : Nat) : ∀ {e : En}, Val 0 e → Wi F (edir n v e) → Wi F e ∧ Val 0 (edir n v e) := by
 induction n with
 | zero => intro e h k; exact ⟨k, h⟩
 | succ n ih =>
  intro e h k
  obtain ⟨a, b⟩ := ih (ebit_val h (p := 1024) (by omega) (by omega)) k
  exact ⟨wi_bit h (by omega) (by omega) a, b⟩
theorem edir_val (n v : Nat) : ∀ {e : En}, Val 0 e → Val 0 (edir n v e) := by
 induction n with
 | zero => intro e h; exact h
 | succ n ih => intro e h; exact ih (ebit_val h (p := 1024) (by omega) (by omega))
theorem sy_dir (n v : Nat) : ∀ (a : Nat) {e : En} {d : De}, Val 0 e → Sy F e d → Wi F (edir n v e) → (ddir n a d).1 = a * 2 ^ n + v % 2 ^ n ∧ Sy F (edir n v e) (ddir n a d).2 := by
 induction n with
 | zero => intro a e d _ h _; exact ⟨by simp [ddir, Nat.mod_one], h⟩
 | succ n ih =>
  intro a e d hv h hw
  have hv' := ebit_val hv (p := 1024) (b := v / 2 ^ n % 2) (by omega) (by omega)
  have hw' := (wi_dir n v hv' hw).1
  obtain ⟨h1, h2⟩ := sy_bit hv (by omega) (by omega) (by omega) h hw'
  obtain ⟨h3, h4⟩ := ih (2 * a + v / 2 ^ n % 2) hv' h2 hw
  rw [ddir, h1]
  refine ⟨?_, h4⟩
  rw [h3, Nat.pow_succ, Nat.mod_mul, Nat.add_mul, Nat.mul_comm (v / 2 ^ n % 2)]
  have : 2 * a * 2 ^ n = a * (2 ^ n * 2) := by rw [Nat.mul_comm 2 a, Nat.mul_assoc, Nat.mul_comm 2]
  omega
theorem wi_fin {e : En} (h : Val 0 e) : Wi (efin e) e := by
 have hl : (efin e).length = e.out.length + 4 := by simp [efin, be_length]
 have hp : P (efin e) (e.out.length + 4) = N e := by
  unfold P
  rw [List.take_of_length_le (by omega)]
  unfold efin N
  have h3 := h.low
  have : vl 0 (e.out ++ be 4 e.low) = vl (vl 0 e.out) (be 4 e.low) := by simp [vl, List.foldl_append]
  rw [this, vl_be]
  omega
 have := val_up h
 exact ⟨by omega, by omega, by omega⟩
end
theorem four {F : List UInt8} (h : 4 ≤ F.length) : ∃ a b c d t, F = a :: b :: c :: d :: t := by
 rcases F with _ | ⟨a, _ | ⟨b, _ | ⟨c, _ | ⟨d, t⟩⟩⟩⟩
 ·simp at h
 ·simp at h
 ·simp at h
 ·simp at h
 ·exact ⟨a, b, c, d, t, rfl⟩
theorem dpre_four (a b c d : UInt8) (t : List UInt8) : dpre (a :: b :: c :: d :: t) = ⟨t, ((a.toNat * 256 + b.toNat) * 256 + c.toNat) * 256 + d.toNat, 4294967295, false, false⟩ := by
 have ha := UInt8.toNat_lt a
 have hb := UInt8.toNat_lt b
 have hc := UInt8.toNat_lt c
 have hd := UInt8.toNat_lt d
 simp only [dpre, dnext]
 have : (((0 * 256 % 4294967296 + a.toNat) * 256 % 4294967296 + b.toNat) * 256 % 4294967296 + c.toNat) * 256 % 4294967296 + d.toNat = ((a.toNat * 256 + b.toNat) * 256 + c.toNat) * 256 + d.toNat := by omega
 rw [this]
theorem sy_start {F : List UInt8} (h : Wi F e0) : Sy F e0 (d0 F) := by
 obtain ⟨a, b, c, d, t, rfl⟩ := four (show 4 ≤ F.length from h.len)
 have h2 := h.hi
 have h3 : P (a :: b :: c :: d :: t) (e0.out.length + 4) = ((a.toNat * 256 + b.toNat) * 256 + c.toNat) * 256 + d.toNat := by
  show vl 0 [a, b, c, d] = _
  simp [vl]
  omega
 have h4 : N e0 = 0 := rfl
 have h5 : e0.size = 4294967295 := rfl
 rw [h3, h4, h5] at h2
 have hd := dpre_four a b c d t
 refine ⟨h, ?_, ?_, ?_, ?_, ?_⟩
 ·show (dpre _).size = _
  rw [hd, h5]
 ·show (dpre _).code = _
  rw [hd, h3, h4]
  rfl
 ·show (dpre _).rest = _
  rw [hd]
  rfl
 ·show (dpre _).miss = _
  rw [hd]
 ·show decide ((dpre _).code = (dpre _).size) = false
  rw [hd, decide_eq_false_iff_not]
  exact Nat.ne_of_lt (by simpa using h2)
end Wv.Rc
/-
  Adaptive models over the range coder in plain Lean: trees of probabilities, numbers, lists of numbers. No program stands here.
-/
namespace Wv.Mo
open Wv.Vi Wv.Rc
def adapt (z b : Nat) : Nat := if b = 0 then z + (2048 - z) / 32 else z - z / 32
def tenc : Nat → Nat → Nat → List Nat → En → List Nat × En
 | 0, _, _, t, e => (t, e)
 | n + 1, v, m, t, e => tenc n v (2 * m + v / 2 ^ n % 2) (t.set m (adapt (t.getD m 0) (v / 2 ^ n % 2))) (ebit (t.getD m 0) (v / 2 ^ n % 2) e)
def tdec : Nat → Nat → List Nat → De → Nat × List Nat × De
 | 0, m, t, d => (m, t, d)
 | n + 1, m, t, d => tdec n (2 * m + dbt (t.getD m 0) d) (t.set m (adapt (t.getD m 0) (dbt (t.getD m 0) d))) (dbit (t.getD m 0) d)
def blen (n : Nat) : Nat := if n = 0 then 0 else n.log2 + 1
def nenc (v : Nat) (x : List Nat × En) : List Nat × En :=
 ((tenc 6 (blen v) 1 x.1 x.2).1, if 2 ≤ blen v then edir (blen v - 1) v (tenc 6 (blen v) 1 x.1 x.2).2 else (tenc 6 (blen v) 1 x.1 x.2).2)
def nval (n : Nat) (d : De) : Int := if n < 2 then (n : Int) else if n = 63 then -1 else ((2 ^ (n - 1) + (ddir (n - 1) 0 d).1 : Nat) : Int)
def ndec (t : List Nat) (d : De) : Int × List Nat × De :=
 (nval ((tdec 6 1 t d).1 - 64) (tdec 6 1 t d).2.2, (tdec 6 1 t d).2.1,
  if (tdec 6 1 t d).1 - 64 < 2 then (tdec 6 1 t d).2.2 else if (tdec 6 1 t d).1 - 64 = 63 then (tdec 6 1 t d).2.2 else (ddir ((tdec 6 1 t d).1 - 64 - 1) 0 (tdec 6 1 t d).2.2).2)
def t0 : List Nat := List.replicate 64 1024
def nencs : List Nat → List Nat × En → List Nat × En
 | [], x => x
 | v :: l, x => nencs l (nenc v x)
def encn (l : List Nat) : List UInt8 := num l.length ++ if l = [] then [] else efin (nencs l (t0, e0)).2
def TOk (t : List Nat) : Prop := ∀ x ∈ t, 1 ≤ x ∧ x ≤ 2047
theorem adapt_ok {z b : Nat} (h : 1 ≤ z ∧ z ≤ 2047) : 1 ≤ adapt z b ∧ adapt z b ≤ 2047 := by unfold adapt; split <;> omega
theorem tok_get {t : List Nat} (h : TOk t) {m : Nat} (hm : m < t.length) : 1 ≤ t.getD m 0 ∧ t.getD m 0 ≤ 2047 := by
 have e : t.getD m 0 = t[m] := by simp [List.getD, hm]
 rw [e]
 exact h _ (List.getElem_mem _)
theorem tok_set {t : List Nat} (h : TOk t) (m : Nat) {z : Nat} (hz : 1 ≤ z ∧ z ≤ 2047) : TOk (t.set m z) := by
 intro x hx
 rcases List.mem_or_eq_of_mem_set hx with h1 | h1
 ·exact h x h1
 ·exact h1 ▸ hz
theorem tok_0 : TOk t0 := by
 intro x hx
 rw [t0, List.mem_replicate] at hx
 omega
theorem node_lt {m n L : Nat} (h : (m + 1) * 2 ^ (n + 1) ≤ 2 * L) : m < L := by
 have : 2 ≤ 2 ^ (n + 1) := by have := Nat.one_le_two_pow (n := n); rw [Nat.pow_succ]; omega
 have h2 : (m + 1) * 2 ≤ (m + 1) * 2 ^ (n + 1) := Nat.mul_le_mul_left _ this
 omega
theorem node_step {m n L b : Nat} (hb : b < 2) (h : (m + 1) * 2 ^ (n + 1) ≤ 2 * L) : (2 * m + b + 1) * 2 ^ n ≤ 2 * L := by
 refine Nat.le_trans ?_ h
 rw [Nat.pow_succ, Nat.mul_comm _ 2, ← Nat.mul_assoc]
 exact Nat.mul_le_mul_right _ (by omega)
theorem tenc_val (n : Nat) : ∀ (v m : Nat) {t : List Nat} {e : En}, TOk t → (m + 1) * 2 ^ n ≤ 2 * t.length → Val 0 e →
  TOk (tenc n v m t e).1 ∧ (tenc n v m t e).1.length = t.length ∧ Val 0 (tenc n v m t e).2 := by
 induction n with
 | zero => intro v m t e h1 _ h3; exact ⟨h1, rfl, h3⟩
 | succ n ih =>
  intro v m t e h1 h2 h3
  have hp := tok_get h1 (node_lt h2)
  have hb : v / 2 ^ n % 2 < 2 := by omega
  obtain ⟨a, b, c⟩ := ih v (2 * m + v / 2 ^ n % 2) (tok_set h1 m (adapt_ok (b := v / 2 ^ n % 2) hp)) (by rw [List.length_set]; exact node_step hb h2) (ebit_val h3 (b := v / 2 ^ n % 2) hp.1 hp.2)
  exact ⟨a, by rw [tenc, b, List.length_set], c⟩
section
variable {F : List UInt8}
theorem wi_tenc (n : Nat) : ∀ (v m : Nat) {t : List Nat} {e : En}, TOk t → (m + 1) * 2 ^ n ≤ 2 * t.length → Val 0 e → Wi F (tenc n v m t e).2 → Wi F e := by
 induction n with
 | zero => intro v m t e _ _ _ h; exact h
 | succ n ih =>
  intro v m t e h1 h2 h3 h
  have hp := tok_get h1 (node_lt h2)
  have hb : v / 2 ^ n % 2 < 2 := by omega
  have := ih v (2 * m + v / 2 ^ n % 2) (tok_set h1 m (adapt_ok (b := v / 2 ^ n % 2) hp)) (by rw [List.length_set]; exact node_step hb h2) (ebit_val h3 (b := v / 2 ^ n % 2) hp.1 hp.2) h
  exact wi_bit h3 hp.1 hp.2 this
theorem sy_tenc (n : Nat) : ∀ (v m : Nat) {t : List Nat} {e : En} {d : De}, TOk t → (m + 1) * 2 ^ n ≤ 2 * t.length → Val 0 e → Sy F e d → Wi F (tenc n v m t e).2 →
  (tdec n m t d).1 = m * 2 ^ n + v % 2 ^ n ∧ (tdec n m t d).2.1 = (tenc n v m t e).1 ∧ Sy F (tenc n v m t e).2 (tdec n m t d).2.2 := by
 induction n with
 | zero => intro v m t e d _ _ _ h _; exact ⟨by simp [tdec, Nat.mod_one], rfl, h⟩
 | succ n ih =>
  intro v m t e d h1 h2 h3 h hw
  have hp := tok_get h1 (node_lt h2)
  have hb : v / 2 ^ n % 2 < 2 := by omega
  have k1 := tok_set h1 m (adapt_ok (b := v / 2 ^ n % 2) hp)
  have k2 : (2 * m + v / 2 ^ n % 2 + 1) * 2 ^ n ≤ 2 * (t.set m (adapt (t.getD m 0) (v / 2 ^ n % 2))).length := by rw [List.length_set]; exact node_step hb h2
  have k3 := ebit_val h3 (b := v / 2 ^ n % 2) hp.1 hp.2
  have hw' := wi_tenc n v _ k1 k2 k3 hw
  obtain ⟨a1, a2⟩ := sy_bit h3 hb hp.1 hp.2 h hw'
  obtain ⟨b1, b2, b3⟩ := ih v (2 * m + v / 2 ^ n % 2) k1 k2 k3 a2 hw
  rw [tdec, a1]
  refine ⟨?_, b2, b3⟩
  rw [b1, Nat.pow_succ, Nat.mod_mul, Nat.add_mul, Nat.mul_comm (v / 2 ^ n % 2)]
  have : 2 * m * 2 ^ n = m * (2 ^ n * 2) := by rw [Nat.mul_comm 2 m, Nat.mul_assoc, Nat.mul_comm 2]
  omega
end
def TNum (t : List Nat) : Prop := TOk t ∧ t.length = 64
theorem tnum_0 : TNum t0 := ⟨tok_0, by simp [t0]⟩
theorem blen_le {v : Nat} (h : v < 4611686018427387904) : blen v ≤ 62 := by
 unfold blen
 split
 ·omega
 ·have := (Nat.log2_lt (n := v) (k := 62) (by omega)).2 (by omega)
  omega
theorem blen_split {v : Nat} (h : 0 < v) : 2 ^ (blen v - 1) + v % 2 ^ (blen v - 1) = v := by
 unfold blen
 rw [if_neg (by omega), Nat.add_sub_cancel]
 have h1 := Nat.log2_self_le (n := v) (by omega)
 have h2 : v < 2 ^ (v.log2 + 1) := (Nat.log2_lt (n := v) (k := v.log2 + 1) (by omega)).1 (by omega)
 rw [Nat.pow_succ] at h2
 rw [Nat.mod_eq_sub_mod h1, Nat.mod_eq_of_lt (by omega)]
 omega
theorem blen_one {v : Nat} (h : blen v < 2) : v = blen v := by
 rcases Nat.eq_zero_or_pos v with rfl | hv
 ·rfl
 ·have := blen_split hv
  have h1 : blen v = 1 := by unfold blen at *; rw [if_neg (by omega)] at *; omega
  rw [h1] at this ⊢
  simp [Nat.mod_one] at this
  omega
theorem nenc_val {v : Nat} {x : List Nat × En} (ht : TNum x.1) (he : Val 0 x.2) : TNum (nenc v x).1 ∧ Val 0 (nenc v x).2 := by
 obtain ⟨a, b, c⟩ := tenc_val 6 (blen v) 1 ht.1 (by rw [ht.2]; decide) he
 refine ⟨⟨a, b.trans ht.2⟩, ?_⟩
 unfold nenc
 simp only
 split
 ·exact edir_val _ _ c
 ·exact c
section
variable {F : List UInt8}
theorem wi_nenc {v : Nat} {x : List Nat × En} (ht : TNum x.1) (he : Val 0 x.2) (hw : Wi F (nenc v x).2) : Wi F x.2 := by
 obtain ⟨a, b, c⟩ := tenc_val 6 (blen v) 1 ht.1 (by rw [ht.2]; decide) he
 refine wi_tenc 6 (blen v) 1 ht.1 (by rw [ht.2]; decide) he ?_
 unfold nenc at hw
 simp only at hw
 split at hw
 ·exact (wi_dir _ _ c hw).1
 ·exact hw
theorem sy_nenc {v : Nat} {x : List Nat × En} {d : De} (ht : TNum x.1) (he : Val 0 x.2) (hv : v < 4611686018427387904) (h : Sy F x.2 d) (hw : Wi F (nenc v x).2) :
  (ndec x.1 d).1 = v ∧ (ndec x.1 d).2.1 = (nenc v x).1 ∧ Sy F (nenc v x).2 (ndec x.1 d).2.2 := by
 obtain ⟨a, b, c⟩ := tenc_val 6 (blen v) 1 ht.1 (by rw [ht.2]; decide) he
 have hb := blen_le hv
 have hwt : Wi F (tenc 6 (blen v) 1 x.1 x.2).2 := by
  unfold nenc at hw
  simp only at hw
  split at hw
  ·exact (wi_dir _ _ c hw).1
  ·exact hw
 obtain ⟨p, q, r⟩ := sy_tenc 6 (blen v) 1 ht.1 (by rw [ht.2]; decide) he h hwt
 have hm : (tdec 6 1 x.1 d).1 - 64 = blen v := by
  rw [p]
  have : blen v % 2 ^ 6 = blen v := Nat.mod_eq_of_lt (by omega)
  omega
 refine ⟨?_, q, ?_⟩
 ·show nval ((tdec 6 1 x.1 d).1 - 64) _ = _
  rw [hm]
  unfold nval
  split
  ·rename_i h1
   have := blen_one h1
   omega
  ·rename_i h1
   rw [if_neg (by omega)]
   have hw2 : Wi F (edir (blen v - 1) v (tenc 6 (blen v) 1 x.1 x.2).2) := by
    unfold nenc at hw
    simp only at hw
    rw [if_pos (by omega)] at hw
    exact hw
   have h3 := (sy_dir (blen v - 1) v 0 c r hw2).1
   rw [h3]
   have hp : 0 < v := by
    rcases Nat.eq_zero_or_pos v with rfl | h4
    ·exfalso; apply h1; decide
    ·exact h4
   have := blen_split hp
   omega
 ·show Sy F _ (if (tdec 6 1 x.1 d).1 - 64 < 2 then _ else _)
  rw [hm]
  unfold nenc at hw ⊢
  simp only at hw ⊢
  by_cases h2 : blen v < 2
  ·rw [if_pos h2, if_neg (by omega)]
   exact r
  ·rw [if_pos (by omega)] at hw ⊢
   rw [if_neg h2, if_neg (by omega)]
   exact (sy_dir (blen v - 1) v 0 c r hw).2
end
end Wv.Mo
/-
  Runs of equal texts in plain Lean: dictionary, runs, places of numbers that move to the front, and their laws. No program stands here.
-/
namespace Wv.Ru
set_option linter.unusedSectionVars false
open Wv.Vi Wv.Rc Wv.Mo
section
variable {α : Type} [DecidableEq α]
def ix : List α → α → Nat
 | [], _ => 0
 | a :: t, s => if a = s then 0 else ix t s + 1
def dstep (acc : List α) (s : α) : List α := if s ∈ acc then acc else acc ++ [s]
def dict (l : List α) : List α := l.foldl dstep []
def bump (l : List (Nat × Nat)) : List (Nat × Nat) :=
 match l.getLast? with
 | none => []
 | some x => l.dropLast ++ [(x.1, x.2 + 1)]
def rstep (d : List α) (x : List (Nat × Nat) × Option α) (s : α) : List (Nat × Nat) × Option α := (if x.2 = some s then bump x.1 else x.1 ++ [(ix d s, 1)], some s)
def runs (d l : List α) : List (Nat × Nat) := (l.foldl (rstep d) ([], none)).1
def expand [Inhabited α] (d : List α) : List (Int × Int) → List α → List α × Nat
 | [], acc => (acc, 0)
 | x :: t, acc => if x.1 < 0 ∨ (d.length : Int) ≤ x.1 ∨ x.2 < 1 then ([], 2) else if 4096 - (acc.length : Int) < x.2 then ([], 9)
  else expand d t (acc ++ List.replicate x.2.toNat (d.getD x.1.toNat default))

section
variable [Inhabited α]
end
end

def movef (r : List Nat) (p : Nat) : List Nat := r.getD p 0 :: r.eraseIdx p
def frontA : List Nat → List Nat → List Nat
 | _, [] => []
 | r, n :: t => ix r n :: frontA (movef r (ix r n)) t
def unfrontA : List Nat → List Nat → List Nat
 | _, [] => []
 | r, n :: t => r.getD n 0 :: unfrontA (movef r n) t
def chkn (l : List Int) : Nat := if 4096 < l.length then 9 else if ∀ n ∈ l, 0 ≤ n ∧ n < 4096 then 0 else 2
def r0 : List Nat := List.range 4096
def front (l : List Int) : List Nat × Nat := if chkn l = 0 then (frontA r0 (l.map Int.toNat), 0) else ([], chkn l)
def unfront (l : List Int) : List Nat × Nat := if chkn l = 0 then (unfrontA r0 (l.map Int.toNat), 0) else ([], chkn l)
end Wv.Ru
/-
  Lists of texts as bytes in plain Lean: both codings, the reading of bytes, and their laws. No program stands here.
-/
namespace Wv.Ru
open Wv.Vi Wv.Rc Wv.Mo
def text (s : ByteArray) : List UInt8 := num s.size ++ toL s
def idxs (l : List ByteArray) : List Nat := (runs (dict l) l).map (·.1)
def cnts (l : List ByteArray) : List Nat := (runs (dict l) l).map (fun x => x.2 - 1)
def encA (c : Nat) (l : List ByteArray) : List UInt8 := encn (if c = 1 then frontA r0 (idxs l) else idxs l)
def encB (c : Nat) (l : List ByteArray) : List UInt8 :=
 num c ++ num (dict l).length ++ (dict l).flatMap text ++ (num (encA c l).length ++ encA c l) ++ encn (cnts l)
def enc (l : List ByteArray) : List UInt8 × Nat :=
 if 4096 < l.length ∨ ∃ s ∈ l, 128 < s.size then ([], 9) else if (encB 1 l).length < (encB 0 l).length then (encB 1 l, 0) else (encB 0 l, 0)
def rnum (s : List UInt8) (most : Nat) : Option (Nat × List UInt8) :=
 match rd s with
 | none => none
 | some (n, z) => if most < n then none else some (n, s.drop z)
def rtext (s : List UInt8) (most : Nat) : Option (List UInt8 × List UInt8) :=
 match rnum s most with
 | none => none
 | some (n, t) => if t.length < n then none else some (t.take n, t.drop n)
def fin (c : Nat) (ws : List ByteArray) (A B : List Int × Nat) : Option (List ByteArray) :=
 if A.2 ≠ 0 ∨ B.2 ≠ 0 ∨ A.1.length ≠ B.1.length then none
 else if c = 1 ∧ (unfront A.1).2 ≠ 0 then none
 else if ∃ v ∈ B.1, 4096 ≤ v then none
 else if (expand ws ((if c = 1 then (unfront A.1).1.map Int.ofNat else A.1).zip (B.1.map (· + 1))) []).2 = 0
  then some (expand ws ((if c = 1 then (unfront A.1).1.map Int.ofNat else A.1).zip (B.1.map (· + 1))) []).1 else none
theorem rnum_num (n most : Nat) (h : n ≤ most) (hn : n < 9223372036854775808) (r : List UInt8) : rnum (num n ++ r) most = some (n, r) := by
 unfold rnum
 rw [rd_num n hn r]
 simp only
 rw [if_neg (by omega), ← num_length, List.drop_left]
theorem rtext_text (t : List UInt8) (most : Nat) (h : t.length ≤ most) (hn : t.length < 9223372036854775808) (r : List UInt8) : rtext (num t.length ++ (t ++ r)) most = some (t, r) := by
 unfold rtext
 rw [rnum_num _ _ h hn]
 simp only
 rw [if_neg (by rw [List.length_append]; omega), List.take_left, List.drop_left]
end Wv.Ru
