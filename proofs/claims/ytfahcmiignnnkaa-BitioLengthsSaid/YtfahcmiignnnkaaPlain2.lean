/-
  Bit strings in plain Lean: what is read is the bits of the code that is read; bytes and their bits.
-/
import Derived.Test.YtfahcmiignnnkaaPlain1
namespace Wv.Bit

theorem num_take (l : List Bool) (k v : Nat) (h : k ≤ l.length) (hv : v % 2 ^ k = val (l.take k)) : num k v = l.take k :=
  num_eq k v _ (by rw [List.length_take]; omega) hv
theorem val_len (l : List Bool) (k : Nat) (h : k ≤ l.length) : val (l.take k) < 2 ^ k := val_take_lt l k
/-- What is read, if it is not too great, is the bits of a valid code. -/
def Sound (k p : Int) (l : List Bool) (r : Nat × Nat × Nat) : Prop :=
  r.2.2 = 0 → r.1 ≤ 4611686018427387903 → vld k p (r.1 : Int) = true ∧ r.2.1 ≤ l.length ∧ l.take r.2.1 = cbits k.toNat p.toNat r.1
theorem sound0 (p : Nat) (l : List Bool) (hp : p ≤ 62) : Sound 0 (p : Int) l (rd 0 p l) := by
  unfold Sound rd
  simp only [if_true]
  split
  · simp
  · rename_i h
    intro _ _
    have h1 := val_take_lt l p
    refine ⟨?_, by simp only; omega, ?_⟩
    · simp [vld, par]
      refine ⟨by omega, ?_⟩
      exact_mod_cast h1
    · simp only [cbits, Int.toNat_zero, if_true, Int.toNat_natCast]
      exact (num_take l p _ (by omega) (Nat.mod_eq_of_lt h1)).symm
theorem sound2 (p : Nat) (l : List Bool) (hp : p ≤ 30) (v s : Nat) (h : rdp p 4097 l false = (v, s, 0)) : v / 2 ^ p ≤ 4096 ∧ s ≤ l.length ∧ l.take s = una (v / 2 ^ p) ++ num p v := by
  have h0 := ones_le 4097 l
  have hu := una_ones 4097 l
  unfold rdp at h
  generalize hn : ones 4097 l = n at *
  simp only [Bool.false_eq_true, if_false] at h
  split at h
  · simp at h
  · split at h
    · simp at h
    · split at h
      · simp at h
      · rename_i c1 c2 c3
        simp only [Prod.mk.injEq, and_true] at h
        obtain ⟨hv, hs⟩ := h
        have hl := hu (by omega) (by omega)
        have hx := val_take_lt (l.drop (n + 1)) p
        have hd : v / 2 ^ p = n := by
          rw [← hv, Nat.mul_comm, Nat.mul_add_div (Nat.two_pow_pos _), Nat.div_eq_of_lt hx]; omega
        have hm : v % 2 ^ p = val ((l.drop (n + 1)).take p) := by
          rw [← hv, Nat.mul_comm, Nat.mul_add_mod, Nat.mod_eq_of_lt hx]
        rw [hd]
        refine ⟨by omega, by omega, ?_⟩
        rw [num_take (l.drop (n + 1)) p v (by rw [List.length_drop]; omega) hm, ← hs]
        rw [List.take_add, ← List.take_add]
        have : l.take (n + 1 + p) = (una n ++ l.drop (n + 1)).take (n + 1 + p) := by rw [← hl]
        rw [this, List.take_append, una_length, Nat.add_sub_cancel_left, List.take_of_length_le (by rw [una_length]; omega)]
theorem sound3 (p : Nat) (l : List Bool) (hp : p ≤ 30) (v s : Nat) (h : rdp p 63 l true = (v, s, 0)) : s ≤ l.length ∧ l.take s = una (blen (v + 2 ^ p) - 1 - p) ++ num (blen (v + 2 ^ p) - 1) (v + 2 ^ p) := by
  have h0 := ones_le 63 l
  have hu := una_ones 63 l
  unfold rdp at h
  generalize hn : ones 63 l = n at *
  simp only [if_true] at h
  split at h
  · simp at h
  · split at h
    · simp at h
    · split at h
      · simp at h
      · split at h
        · simp at h
        · rename_i c1 c2 c3 c4
          simp only [Prod.mk.injEq, and_true] at h
          obtain ⟨hv, hs⟩ := h
          have hl := hu (by omega) (by omega)
          have hx := val_take_lt (l.drop (n + 1)) (n + p)
          have h4 : 2 ^ p ≤ 2 ^ (n + p) := Nat.pow_le_pow_right (by omega) (by omega)
          have hv2 : v + 2 ^ p = 2 ^ (n + p) + val ((l.drop (n + 1)).take (n + p)) := by omega
          have hb : blen (v + 2 ^ p) = n + p + 1 := blen_eq _ _ (by omega) (by rw [Nat.pow_succ]; omega)
          have hm : (v + 2 ^ p) % 2 ^ (n + p) = val ((l.drop (n + 1)).take (n + p)) := by
            rw [hv2, Nat.add_mod_left, Nat.mod_eq_of_lt hx]
          rw [hb, Nat.add_sub_cancel, Nat.add_sub_cancel]
          refine ⟨by omega, ?_⟩
          rw [num_take (l.drop (n + 1)) (n + p) (v + 2 ^ p) (by rw [List.length_drop]; omega) hm, ← hs]
          have : l.take (n + 1 + (n + p)) = (una n ++ l.drop (n + 1)).take (n + 1 + (n + p)) := by rw [← hl]
          rw [this, List.take_append, una_length, Nat.add_sub_cancel_left, List.take_of_length_le (by rw [una_length]; omega)]
theorem sound4 (p : Nat) (l : List Bool) (hp : 0 < p) (v s : Nat) (h : rdt p l = (v, s, 0)) : v < p ∧ s ≤ l.length ∧ l.take s = if v < 2 ^ blen p - p then num (blen p - 1) v else num (blen p) (v + (2 ^ blen p - p)) := by
  obtain ⟨k, hk, h1, h2⟩ := blen_pos p hp
  have h3 : 2 ^ (k + 1) = 2 * 2 ^ k := by rw [Nat.pow_succ]; omega
  unfold rdt at h
  rw [hk] at h ⊢
  simp only [Nat.add_sub_cancel] at h ⊢
  have x1 := val_take_lt l k
  split at h
  · simp at h
  · split at h
    · rename_i c1 c2
      simp only [Prod.mk.injEq, and_true] at h
      obtain ⟨rfl, rfl⟩ := h
      rw [if_pos c2]
      exact ⟨by omega, by omega, (num_take l k _ (by omega) (Nat.mod_eq_of_lt x1)).symm⟩
    · split at h
      · simp at h
      · rename_i c1 c2 c3
        simp only [Prod.mk.injEq, and_true] at h
        obtain ⟨hv, rfl⟩ := h
        have x2 := val_take_lt l (k + 1)
        have x3 := val_take_succ l k (by omega)
        rw [if_neg (by omega)]
        refine ⟨by omega, by omega, ?_⟩
        rw [show v + (2 ^ (k + 1) - p) = val (l.take (k + 1)) from by omega]
        exact (num_take l (k + 1) _ (by omega) (Nat.mod_eq_of_lt x2)).symm
theorem rd_sound {k p : Int} (hp : par k p = true) (l : List Bool) : Sound k p l (rd k.toNat p.toNat l) := by
  rcases par_cases hp with ⟨rfl, a, b⟩ | ⟨rfl, rfl⟩ | ⟨rfl, a, b⟩ | ⟨rfl, a, b⟩ | ⟨rfl, a, b⟩
  · have := sound0 p.toNat l (by omega)
    rw [Int.toNat_of_nonneg a] at this
    exact this
  · intro h0 h1
    obtain ⟨v, s, hr⟩ : ∃ v s, rdp 0 4097 l false = (v, s, 0) := ⟨_, _, Prod.ext rfl (Prod.ext rfl h0)⟩
    obtain ⟨c1, c2, c3⟩ := sound2 0 l (by omega) v s hr
    have e : rd (1 : Int).toNat (0 : Int).toNat l = (v, s, 0) := hr
    rw [e] at h1 ⊢
    simp only [Nat.pow_zero, Nat.div_one] at c1 c3
    refine ⟨?_, c2, ?_⟩
    · simp [vld, par]; omega
    · rw [c3]; simp [num, cbits]
  · intro h0 h1
    obtain ⟨v, s, hr⟩ : ∃ v s, rdp p.toNat 4097 l false = (v, s, 0) := ⟨_, _, Prod.ext rfl (Prod.ext rfl h0)⟩
    obtain ⟨c1, c2, c3⟩ := sound2 p.toNat l (by omega) v s hr
    have e : rd (2 : Int).toNat p.toNat l = (v, s, 0) := hr
    rw [e] at h1 ⊢
    refine ⟨?_, c2, ?_⟩
    · have h5 := toNat_div (v := (v : Int)) (by omega) p.toNat
      rw [Int.toNat_natCast] at h5
      have h6 : (v : Int) / 2 ^ p.toNat ≤ 4096 := by omega
      simp only [vld, hp]
      simp
      exact h6
    · rw [c3]; rfl
  · intro h0 h1
    obtain ⟨v, s, hr⟩ : ∃ v s, rdp p.toNat 63 l true = (v, s, 0) := ⟨_, _, Prod.ext rfl (Prod.ext rfl h0)⟩
    obtain ⟨c2, c3⟩ := sound3 p.toNat l (by omega) v s hr
    have e : rd (3 : Int).toNat p.toNat l = (v, s, 0) := hr
    rw [e] at h1 ⊢
    refine ⟨?_, c2, ?_⟩
    · simp only [vld, hp]
      simp
      simp only at h1
      omega
    · rw [c3]; rfl
  · intro h0 h1
    obtain ⟨v, s, hr⟩ : ∃ v s, rdt p.toNat l = (v, s, 0) := ⟨_, _, Prod.ext rfl (Prod.ext rfl h0)⟩
    obtain ⟨c1, c2, c3⟩ := sound4 p.toNat l (by omega) v s hr
    have e : rd (4 : Int).toNat p.toNat l = (v, s, 0) := hr
    rw [e] at h1 ⊢
    refine ⟨?_, c2, ?_⟩
    · simp only [vld, hp]
      simp
      omega
    · rw [c3]; rfl
/-- What 'Get' reads: nothing; or a valid code in front, not above the limit. -/
theorem getm_cases (k p m : Int) (l : List Bool) : (getm k p m l = (l, 0, (getm k p m l).2.2) ∧ (getm k p m l).2.2 ≠ 0) ∨
    ∃ v : Nat, ∃ r, getm k p m l = (r, v, 0) ∧ vld k p v = true ∧ (v : Int) ≤ m ∧ l = cbits k.toNat p.toNat v ++ r := by
  unfold getm
  split
  · rename_i hp
    have hs := rd_sound hp l
    generalize rd k.toNat p.toNat l = q at *
    obtain ⟨v, s, e⟩ := q
    simp only
    split
    · rename_i h; exact .inl ⟨rfl, h⟩
    · rename_i h
      split
      · exact .inl ⟨rfl, by simp⟩
      · rename_i h2
        have he : e = 0 := by omega
        obtain ⟨a, b, c⟩ := hs he (by simp only; omega)
        simp only at a b c
        exact .inr ⟨v, l.drop s, rfl, a, by omega, by rw [← c, List.take_append_drop]⟩
  · exact .inl ⟨rfl, by simp⟩

theorem byte_of_bits (x y : UInt8) (h : ∀ i, i < 8 → x.toNat.testBit i = y.toNat.testBit i) : x = y := by
  apply UInt8.toNat_inj.1
  apply Nat.eq_of_testBit_eq
  intro i
  rcases Nat.lt_or_ge i 8 with h1 | h1
  · exact h i h1
  · have h2 := UInt8.toNat_lt x
    have h3 := UInt8.toNat_lt y
    have h4 : 256 ≤ 2 ^ i := Nat.le_trans (by decide) (Nat.pow_le_pow_right (show 0 < 2 by omega) h1)
    rw [Nat.testBit_lt_two_pow (by omega), Nat.testBit_lt_two_pow (by omega)]
theorem bytes_of_bits (s t : ByteArray) (hs : s.size = t.size) (h : ∀ i, i < 8 * s.size → rbit s i = rbit t i) : s = t := by
  apply ByteArray.ext
  apply Array.ext hs
  intro j h1 h2
  apply byte_of_bits
  intro i hi
  have := h (8 * j + (7 - i)) (by have : j < s.size := h1; omega)
  unfold rbit at this
  rw [show (8 * j + (7 - i)) / 8 = j from by omega, show 7 - (8 * j + (7 - i)) % 8 = i from by omega] at this
  have e1 : s.data[j]? = some s.data[j] := Array.getElem?_eq_getElem h1
  have e2 : t.data[j]? = some t.data[j] := Array.getElem?_eq_getElem h2
  simpa [List.getD, e1, e2] using this
/-- Bytes that say a bit string are its bytes. -/
theorem bstr_rbits (s : ByteArray) (n : Nat) (h : nrd s = some n) : bstr (rbits s n) = s := by
  obtain ⟨h1, ⟨h2, h3, h4⟩, _⟩ := nrd_le h
  have hn0 : s.size ≠ 0 := fun e => by omega
  have hlast : s.data.toList.getD (s.size - 1) 0 ≠ 0 := fun e => by rw [nrd_none1 e] at h; cases h
  have hsz : s.size = n / 8 + 1 := by
    rcases Nat.lt_or_ge n (8 * (s.size - 1)) with h5 | h5
    · exfalso
      apply hlast
      apply byte_of_bits
      intro i hi
      have := h4 (8 * (s.size - 1) + (7 - i)) (by omega) (by omega)
      unfold rbit at this
      rw [show (8 * (s.size - 1) + (7 - i)) / 8 = s.size - 1 from by omega, show 7 - (8 * (s.size - 1) + (7 - i)) % 8 = i from by omega] at this
      rw [this]
      simp
    · omega
  have hsz2 : (bstr (rbits s n)).size = s.size := by rw [bstr_size, rbits_length, hsz]
  apply bytes_of_bits _ _ hsz2
  intro i hi
  rw [hsz2] at hi
  have hp : rbit (bstr (rbits s n)) i = (rbits s n ++ [true]).getD i false := by
    unfold bstr
    apply rbit_pack
    rw [pack_length, List.length_append, rbits_length]
    simp only [List.length_singleton]
    omega
  rw [hp]
  rcases Nat.lt_trichotomy i n with h5 | h5 | h5
  · rw [List.getD_eq_getElem?_getD, List.getElem?_append_left (by rw [rbits_length]; exact h5), ← List.getD_eq_getElem?_getD, rbits_get s n i h5]
  · rw [List.getD_eq_getElem?_getD, List.getElem?_append_right (by rw [rbits_length]; omega), rbits_length, h5, Nat.sub_self, h3]; rfl
  · rw [List.getD_eq_getElem?_getD, List.getElem?_eq_none (by simp [rbits_length]; omega), h4 i h5 hi]; rfl
theorem bstr_inj (a b : List Bool) (ha : a.length ≤ 65536) (hb : b.length ≤ 65536) (h : bstr a = bstr b) : a = b := by
  obtain ⟨h1, h2⟩ := nrd_bstr a ha
  obtain ⟨h3, h4⟩ := nrd_bstr b hb
  rw [h, h3] at h1
  injection h1 with h1
  rw [← h2, h, ← h1, h4]
end Wv.Bit
