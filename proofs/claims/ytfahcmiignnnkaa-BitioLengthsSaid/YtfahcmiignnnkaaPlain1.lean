/-
  Bit strings in plain Lean: what is written is read again, and what is read is what was written.
-/
import Derived.Test.YtfahcmiignnnkaaBits4
namespace Wv.Bit

theorem num_mod : ∀ (k v : Nat), num k (v % 2 ^ k) = num k v
  | 0, _ => rfl
  | k + 1, v => by
    have h1 : (v % 2 ^ (k + 1)).testBit k = v.testBit k := by
      rw [Nat.testBit_mod_two_pow]; simp
    have h2 : num k (v % 2 ^ (k + 1)) = num k v := by
      rw [← num_mod k (v % 2 ^ (k + 1)), ← num_mod k v]
      rw [Nat.mod_mod_of_dvd _ (Nat.pow_dvd_pow 2 (by omega))]
    simp only [num, h1, h2]
theorem num_val (l : List Bool) : num l.length (val l) = l := by
  induction l with
  | nil => rfl
  | cons b l ih =>
    have h0 := val_lt l
    simp only [List.length_cons, num]
    have h1 : (val (b :: l)).testBit l.length = b := by
      rw [val_cons, Nat.testBit_eq_decide_div_mod_eq]
      rw [Nat.add_comm, Nat.add_mul_div_right _ _ (Nat.two_pow_pos _), Nat.div_eq_of_lt h0]
      cases b <;> simp
    have h2 : num l.length (val (b :: l)) = num l.length (val l) := by
      rw [← num_mod l.length (val (b :: l)), val_cons, Nat.add_comm, Nat.add_mul_mod_self_right, num_mod]
    rw [h1, h2, ih]
theorem num_eq (k v : Nat) (x : List Bool) (hx : x.length = k) (h : v % 2 ^ k = val x) : num k v = x := by
  rw [← num_mod, h, ← hx, num_val]
theorem take_app {α : Type} (a b : List α) (k : Nat) (h : k = a.length) : (a ++ b).take k = a := by rw [h, List.take_left]
theorem drop_app {α : Type} (a b : List α) (k : Nat) (h : k = a.length) : (a ++ b).drop k = b := by rw [h, List.drop_left]
theorem ones_una (q m : Nat) (r : List Bool) (h : q < m) : ones m (una q ++ r) = q := by
  induction q generalizing m with
  | zero =>
    obtain ⟨m, rfl⟩ : ∃ k, m = k + 1 := ⟨m - 1, by omega⟩
    rfl
  | succ q ih =>
    obtain ⟨m, rfl⟩ : ∃ k, m = k + 1 := ⟨m - 1, by omega⟩
    have : una (q + 1) ++ r = true :: (una q ++ r) := by simp [una, List.replicate_succ]
    rw [this]
    show ones m (una q ++ r) + 1 = q + 1
    rw [ih m (by omega)]
theorem una_ones (m : Nat) : ∀ l : List Bool, ones m l < m → ones m l < l.length → l = una (ones m l) ++ l.drop (ones m l + 1) := by
  induction m with
  | zero => intro l h; omega
  | succ m ih =>
    intro l h1 h2
    match l with
    | [] => simp at h2
    | false :: l => simp [ones, una]
    | true :: l =>
      have e : ones (m + 1) (true :: l) = ones m l + 1 := rfl
      rw [e] at h1 h2 ⊢
      have := ih l (by omega) (by simpa using h2)
      simp only [una, List.replicate_succ, List.cons_append, List.drop_succ_cons]
      simp only [una] at this
      rw [List.append_assoc] at this ⊢
      exact congrArg (List.cons true) this
theorem rdp_una (q p m v : Nat) (r : List Bool) (h : q < m) (hq : v / 2 ^ p = q) : rdp p m (una q ++ (num p v ++ r)) false = (v, q + 1 + p, 0) := by
  have hl : (una q ++ (num p v ++ r)).length = q + 1 + p + r.length := by simp [una_length, num_length]; omega
  unfold rdp
  rw [ones_una q m _ h, hl]
  simp only [Bool.false_eq_true, if_false]
  rw [if_neg (by omega), if_neg (by omega), if_neg (by omega), drop_app (una q) _ _ (by rw [una_length]), take_app (num p v) _ _ (by rw [num_length]), val_num]
  have := Nat.div_add_mod v (2 ^ p)
  rw [← hq, Nat.mul_comm]
  rw [this]
theorem rdp_gol (n p v : Nat) (r : List Bool) (h : n + p ≤ 62) (h1 : 2 ^ (n + p) ≤ v + 2 ^ p) (h2 : v + 2 ^ p < 2 ^ (n + p + 1)) : rdp p 63 (una n ++ (num (n + p) (v + 2 ^ p) ++ r)) true = (v, n + 1 + (n + p), 0) := by
  have hl : (una n ++ (num (n + p) (v + 2 ^ p) ++ r)).length = n + 1 + (n + p) + r.length := by simp [una_length, num_length]; omega
  unfold rdp
  rw [ones_una n 63 _ (by omega), hl]
  simp only [if_true]
  rw [if_neg (by omega), if_neg (by omega), if_neg (by omega), if_neg (by omega), drop_app (una n) _ _ (by rw [una_length]), take_app (num (n + p) _) _ _ (by rw [num_length]), val_num]
  have h3 : (v + 2 ^ p) % 2 ^ (n + p) = v + 2 ^ p - 2 ^ (n + p) := by
    rw [Nat.pow_succ] at h2
    rw [Nat.mod_eq_sub_mod h1, Nat.mod_eq_of_lt (by omega)]
  have h4 : 2 ^ p ≤ 2 ^ (n + p) := Nat.pow_le_pow_right (by omega) (by omega)
  rw [h3]
  congr 1
  omega
theorem blen_pos (p : Nat) (h : 0 < p) : ∃ k, blen p = k + 1 ∧ 2 ^ k ≤ p ∧ p < 2 ^ (k + 1) := by
  obtain ⟨a, b⟩ := blen_ge p h
  have c := blen_lt p
  exact ⟨blen p - 1, by omega, a, by rwa [show blen p - 1 + 1 = blen p from by omega]⟩
theorem rdt_num (p v : Nat) (r : List Bool) (h : v < p) : rdt p ((if v < 2 ^ blen p - p then num (blen p - 1) v else num (blen p) (v + (2 ^ blen p - p))) ++ r) = (v, (if v < 2 ^ blen p - p then num (blen p - 1) v else num (blen p) (v + (2 ^ blen p - p))).length, 0) := by
  obtain ⟨k, hk, h1, h2⟩ := blen_pos p (by omega)
  have h3 : 2 ^ (k + 1) = 2 * 2 ^ k := by rw [Nat.pow_succ]; omega
  unfold rdt
  rw [hk]
  simp only [Nat.add_sub_cancel]
  by_cases hu : v < 2 ^ (k + 1) - p
  · simp only [if_pos hu]
    rw [take_app (num k v) _ _ (by rw [num_length]), val_num, Nat.mod_eq_of_lt (by omega), if_neg (by simp [num_length]), if_pos hu, num_length]
  · simp only [if_neg hu]
    have hx : v + (2 ^ (k + 1) - p) < 2 ^ (k + 1) := by omega
    generalize hxx : v + (2 ^ (k + 1) - p) = x at *
    have ht : (num (k + 1) x ++ r).take k = num k (x / 2) := by
      rw [num_snoc, List.append_assoc, take_app _ _ _ (by rw [num_length])]
    rw [ht, val_num, Nat.mod_eq_of_lt (by omega), if_neg (by simp [num_length]; omega), if_neg (by omega), if_neg (by simp [num_length]), take_app (num (k + 1) x) _ _ (by rw [num_length]), val_num, Nat.mod_eq_of_lt hx, num_length]
    congr 1
    omega
theorem vld_max {k p v : Int} (h : vld k p v = true) : v ≤ 4611686018427387903 := by
  obtain ⟨h0, h1 | h1 | h1 | h1 | h1⟩ := vld_cases h
  · obtain ⟨rfl, a, b, c⟩ := h1
    rw [pow_cast] at c
    have := pow62 p.toNat (by omega)
    omega
  · omega
  · obtain ⟨rfl, a, b, c⟩ := h1
    rw [pow_cast] at c
    have h2 := pow30 p.toNat (by omega)
    have h3 : 0 < 2 ^ p.toNat := Nat.two_pow_pos _
    generalize 2 ^ p.toNat = t at *
    have h4 : v < ((4097 * t : Nat) : Int) := by
      have := Int.lt_mul_of_ediv_lt (a := v) (b := 4097) (c := (t : Int)) (by omega) (by omega)
      omega
    omega
  · omega
  · omega
theorem rd_cbits {k p v : Int} (h : vld k p v = true) (r : List Bool) : rd k.toNat p.toNat (cbits k.toNat p.toNat v.toNat ++ r) = (v.toNat, (cbits k.toNat p.toNat v.toNat).length, 0) := by
  obtain ⟨h0, h1 | h1 | h1 | h1 | h1⟩ := vld_cases h
  · obtain ⟨rfl, a, b, c⟩ := h1
    rw [pow_cast] at c
    simp only [rd, cbits, Int.toNat_zero, if_true, num_length]
    rw [if_neg (by rw [List.length_append, num_length]; omega), take_app (num _ _) _ _ (by rw [num_length]), val_num, Nat.mod_eq_of_lt (by omega)]
  · obtain ⟨rfl, rfl, c⟩ := h1
    have := rdp_una v.toNat 0 4097 v.toNat r (by omega) (by simp)
    simp only [num, List.nil_append] at this
    show rdp 0 4097 (una v.toNat ++ r) false = (v.toNat, (una v.toNat).length, 0)
    rw [this, una_length]
  · obtain ⟨rfl, a, b, c⟩ := h1
    have hq : v.toNat / 2 ^ p.toNat < 4097 := by
      have := toNat_div h0 p.toNat
      omega
    have := rdp_una (v.toNat / 2 ^ p.toNat) p.toNat 4097 v.toNat r hq rfl
    show rdp p.toNat 4097 (una (v.toNat / 2 ^ p.toNat) ++ num p.toNat v.toNat ++ r) false = (v.toNat, (una (v.toNat / 2 ^ p.toNat) ++ num p.toNat v.toNat).length, 0)
    rw [List.append_assoc, this, List.length_append, una_length, num_length]
  · obtain ⟨rfl, a, b, c⟩ := h1
    have h30 := pow30 p.toNat (by omega)
    have h3 : 0 < 2 ^ p.toNat := Nat.two_pow_pos _
    obtain ⟨m, hm, h4, h5⟩ := blen_pos (v.toNat + 2 ^ p.toNat) (by omega)
    have h6 : p.toNat ≤ m := by
      rcases Nat.lt_or_ge m p.toNat with h7 | h7
      · have : 2 ^ (m + 1) ≤ 2 ^ p.toNat := Nat.pow_le_pow_right (by omega) (by omega)
        omega
      · exact h7
    have h8 : m ≤ 62 := by
      rcases Nat.lt_or_ge 62 m with h7 | h7
      · have : 2 ^ 63 ≤ 2 ^ m := Nat.pow_le_pow_right (by omega) (by omega)
        omega
      · exact h7
    have := rdp_gol (m - p.toNat) p.toNat v.toNat r (by omega) (by rwa [show m - p.toNat + p.toNat = m from by omega]) (by rwa [show m - p.toNat + p.toNat = m from by omega])
    rw [show m - p.toNat + p.toNat = m from by omega] at this
    show rdp p.toNat 63 (una (blen (v.toNat + 2 ^ p.toNat) - 1 - p.toNat) ++ num (blen (v.toNat + 2 ^ p.toNat) - 1) (v.toNat + 2 ^ p.toNat) ++ r) true = (v.toNat, (una (blen (v.toNat + 2 ^ p.toNat) - 1 - p.toNat) ++ num (blen (v.toNat + 2 ^ p.toNat) - 1) (v.toNat + 2 ^ p.toNat)).length, 0)
    rw [hm, Nat.add_sub_cancel, List.append_assoc, this, List.length_append, una_length, num_length]
  · obtain ⟨rfl, a, b, c⟩ := h1
    have := rdt_num p.toNat v.toNat r (by omega)
    exact this
theorem getm_cbits {k p v : Int} (h : vld k p v = true) (m : Int) (hm : v ≤ m) (r : List Bool) : getm k p m (cbits k.toNat p.toNat v.toNat ++ r) = (r, v.toNat, 0) := by
  have h1 := rd_cbits h r
  have h2 := vld_max h
  have h3 := (vld_cases h).1
  unfold getm
  rw [if_pos (vld_par h), h1]
  simp only
  rw [if_neg (by simp), if_neg (by omega), drop_app _ _ _ rfl]
end Wv.Bit
