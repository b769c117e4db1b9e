/-
  Joined texts: Row3, Pa, Pb.
-/
import Derived.Test.YtgllednilkfpgaaGreatJ09
import Derived.Test.YtgllednilkfpgaaGreatJ02
import Derived.Test.YtgllednilkfpgaaGreatJ31
set_option linter.unusedVariables false
set_option linter.unusedSimpArgs false
/-
  Slices of short integers, as the arguments of a law.
-/
namespace Wv
open Go Go.RowKit Go.Deep Go.ChangeShapes Go.WideShapes
set_option linter.unusedVariables false
section
variable {H : Type} {enc : TypeId × Value → H} {P : Program} {w : World} {base : Nat} {spare : Nat → Bool} {held : Bool}
theorem u16_wf {n : Int} (h : (Lit.int .u16 n).wf = true) : 0 ≤ n ∧ n < 65536 := by
  simp [Lit.wf, IntKind.min, IntKind.max, IntKind.signed, IntKind.bits] at h
  omega
theorem u16s_open {t e : TypeId} {fuel n cap : Nat} {A : Option Addr} {x : DataW H × List MemPlace} (ht : P.underlying t = some (.slice e)) (c0 : P.cellsOf e = 1) (u0 : P.underlying e = some (.int .u16))
    (h : DataW.trod enc P w base spare held fuel t [.slice A n cap] = some x) :
    ∃ l : List Int, At w A (l.map (fun n => .int .u16 n)) ∧ (∀ n ∈ l, 0 ≤ n ∧ n < 65536) ∧ n = l.length ∧ n ≤ 9223372036854775807 := by
  rcases open_slice1 ht c0 h with ⟨h0, _⟩ | ⟨a, len, c, m, k, V, D, Pl, hcs, hb, hl, hm, hmm, rfl, hx⟩
  · simp at h0
    obtain ⟨rfl, rfl, rfl⟩ := h0
    exact ⟨[], At.nil _ _, by simp, rfl, by omega⟩
  · simp at hcs
    obtain ⟨rfl, rfl, rfl⟩ := hcs
    have hlm : n ≤ m := by rw [hmm]; split <;> omega
    have each : ∀ i, i < n → ∃ q : Int, (0 ≤ q ∧ q < 65536) ∧ w.cell? (a.add i) = some (.int .u16 q) := by
      intro i hi
      obtain ⟨h1, h2⟩ := hx i (by omega)
      obtain ⟨q, r, _, wf⟩ := DataW.trod_int u0 h2
      simp at r
      exact ⟨q, u16_wf wf, r ▸ h1⟩
    obtain ⟨q, hq⟩ := choose_lt each
    refine ⟨(List.range n).map q, ?_, ?_, by simp, by unfold maxLen at hm; omega⟩
    · intro i hi
      have hi' : i < n := by simpa using hi
      have q0 := (hq i hi').2
      obtain ⟨b, off, spot⟩ := a
      have hspot : spot = none := by simpa [Addr.add] using World.cell?_spot (hq 0 (by omega)).2
      subst hspot
      rw [add_plain] at q0
      refine ⟨b, off, rfl, cell_lt' q0, ?_⟩
      simp only [List.getElem_map, List.getElem_range]
      exact q0
    · intro c hc
      obtain ⟨i, hi, rfl⟩ := List.mem_map.1 hc
      exact (hq i (List.mem_range.1 hi)).1
end
end Wv
/-
  How many bytes the range coder writes at most: no program stands here.
-/
namespace Wv.Rc
open Wv.Vi
/-- What the way from e to e' costs: at most the factor b / a. -/
def Spd (a b : Nat) (e e' : En) : Prop := e.size * 256 ^ e'.out.length * a ≤ e'.size * 256 ^ e.out.length * b
theorem Spd.refl (e : En) : Spd 1 1 e e := Nat.le_refl _
theorem Spd.trans {a b c d : Nat} {e e' e'' : En} (hs : 0 < e'.size) (h : Spd a b e e') (k : Spd c d e' e'') : Spd (a * c) (b * d) e e'' := by
  unfold Spd at *
  have h1 := Nat.mul_le_mul h k
  have hp : 0 < e'.size * 256 ^ e'.out.length := Nat.mul_pos hs (Nat.pow_pos (by omega))
  refine Nat.le_of_mul_le_mul_left ?_ hp
  calc e'.size * 256 ^ e'.out.length * (e.size * 256 ^ e''.out.length * (a * c))
      = e.size * 256 ^ e'.out.length * a * (e'.size * 256 ^ e''.out.length * c) := by ac_rfl
    _ ≤ e'.size * 256 ^ e.out.length * b * (e''.size * 256 ^ e'.out.length * d) := h1
    _ = e'.size * 256 ^ e'.out.length * (e''.size * 256 ^ e.out.length * (b * d)) := by ac_rfl
theorem spd_shift (e : En) : Spd 1 1 e (eshift e) := by
  unfold Spd
  have h1 : (eshift e).out.length = e.out.length + 1 := eshift_len e
  have h2 : (eshift e).size = e.size * 256 := rfl
  rw [h1, h2, Nat.pow_succ]
  exact Nat.le_of_eq (by ac_rfl)
theorem spd_norm (k : Nat) : ∀ {e : En}, 0 < e.size → Spd 1 1 e (enorm k e) := by
  induction k with
  | zero => intro e _; exact Spd.refl e
  | succ k ih =>
    intro e h
    rw [enorm]
    split
    · have h2 : 0 < (eshift e).size := by show 0 < e.size * 256; omega
      exact Spd.trans h2 (spd_shift e) (ih h2)
    · exact Spd.refl e
theorem spd_part {e : En} (h : Val 0 e) {p b A : Nat} (hp1 : 1 ≤ p) (hp2 : p ≤ 2047) (h0 : A ≤ p) (h1 : A + p ≤ 2048) : Spd (A * 8191) (2048 * 8192) e (epart p b e) ∧ 0 < (epart p b e).size := by
  obtain ⟨_, _, _, hl⟩ := epart_val h (b := b) hp1 hp2
  obtain ⟨s1, s2⟩ := val_up h
  unfold Spd
  rw [hl]
  obtain ⟨k, hk⟩ : ∃ k, e.size / 2048 = k := ⟨_, rfl⟩
  have hk1 : 8192 ≤ k := by omega
  have hk2 : e.size ≤ 2048 * k + 2047 := by omega
  have hk3 : 2048 * k ≤ e.size := by omega
  have hsz : A * k ≤ (epart p b e).size := by
    have hA1 : A * k ≤ p * k := Nat.mul_le_mul_right k h0
    have hA2 : A * k + p * k ≤ 2048 * k := by rw [← Nat.add_mul]; exact Nat.mul_le_mul_right k h1
    have hkp : k * p = p * k := Nat.mul_comm k p
    unfold epart
    rw [hk]
    split
    · show A * k ≤ k * p; omega
    · split
      · show A * k ≤ e.size - k * p; omega
      · show A * k ≤ e.size - k * p; omega
  have hm : e.size * 8191 ≤ 2048 * 8192 * k := by omega
  constructor
  · calc e.size * 256 ^ e.out.length * (A * 8191) = (e.size * 8191) * (A * 256 ^ e.out.length) := by ac_rfl
      _ ≤ (2048 * 8192 * k) * (A * 256 ^ e.out.length) := Nat.mul_le_mul_right _ hm
      _ = (A * k) * (256 ^ e.out.length * (2048 * 8192)) := by ac_rfl
      _ ≤ (epart p b e).size * (256 ^ e.out.length * (2048 * 8192)) := Nat.mul_le_mul_right _ hsz
      _ = (epart p b e).size * 256 ^ e.out.length * (2048 * 8192) := by ac_rfl
  · have := (val_up h).1
    have := (epart_val h (b := b) hp1 hp2).1.sz.1
    rcases Nat.eq_zero_or_pos (epart p b e).size with h9 | h9
    · rw [h9] at this; omega
    · exact h9
theorem spd_bit {e : En} (h : Val 0 e) {p b A : Nat} (hp1 : 1 ≤ p) (hp2 : p ≤ 2047) (h0 : A ≤ p) (h1 : A + p ≤ 2048) : Spd (A * 8191) (2048 * 8192) e (ebit p b e) := by
  obtain ⟨k1, k2⟩ := spd_part (b := b) h hp1 hp2 h0 h1
  have := Spd.trans k2 k1 (spd_norm 2 k2)
  rw [Nat.mul_one, Nat.mul_one] at this
  exact this
theorem val_pos {e : En} (h : Val 0 e) : 0 < e.size := by have := (val_up h).1; omega
/-- Bits with even odds. -/
theorem spd_dir (n v : Nat) : ∀ {e : En}, Val 0 e → Spd ((1024 * 8191) ^ n) ((2048 * 8192) ^ n) e (edir n v e) := by
  induction n with
  | zero => intro e _; exact Spd.refl e
  | succ n ih =>
    intro e h
    have hv := ebit_val h (p := 1024) (b := v / 2 ^ n % 2) (by omega) (by omega)
    have := Spd.trans (val_pos hv) (spd_bit (b := v / 2 ^ n % 2) h (p := 1024) (A := 1024) (by omega) (by omega) (by omega) (by omega)) (ih hv)
    rw [Nat.pow_succ, Nat.pow_succ, Nat.mul_comm ((1024 * 8191) ^ n), Nat.mul_comm ((2048 * 8192) ^ n)]
    exact this
end Wv.Rc
namespace Wv.Mo
open Wv.Vi Wv.Rc
/-- The nodes of a tree lie between A and 2048 - A, those behind m between B and 2048 - B. -/
def TIn (A : Nat) (t : List Nat) : Prop := ∀ x ∈ t, A ≤ x ∧ A + x ≤ 2048
def lo (a : Nat) : Nat := a - a / 32
theorem lo_le (a : Nat) : lo a ≤ a := by unfold lo; omega
theorem adapt_lo {a z b : Nat} (h : a ≤ z ∧ a + z ≤ 2048) : lo a ≤ adapt z b ∧ lo a + adapt z b ≤ 2048 := by
  unfold adapt lo
  split <;> omega
theorem spd_tree {A : Nat} (hA : 1 ≤ A) (n : Nat) : ∀ (v m : Nat) {t : List Nat} {e : En}, TOk t → (m + 1) * 2 ^ n ≤ 2 * t.length → Val 0 e → TIn (lo A) t → (∀ j, m ≤ j → j < t.length → A ≤ t.getD j 0 ∧ A + t.getD j 0 ≤ 2048) → 1 ≤ m →
    Spd ((A * 8191) ^ n) ((2048 * 8192) ^ n) e (tenc n v m t e).2 ∧ TIn (lo A) (tenc n v m t e).1 := by
  induction n with
  | zero => intro v m t e _ _ _ h _ _; exact ⟨Spd.refl e, h⟩
  | succ n ih =>
    intro v m t e ht hl he hin hbeh hm
    have hmt := node_lt hl
    obtain ⟨p1, p2⟩ := tok_get ht hmt
    obtain ⟨q1, q2⟩ := hbeh m (Nat.le_refl _) hmt
    have hv := ebit_val he (p := t.getD m 0) (b := v / 2 ^ n % 2) p1 p2
    have hb : v / 2 ^ n % 2 < 2 := Nat.mod_lt _ (by omega)
    have hs := spd_bit (b := v / 2 ^ n % 2) he p1 p2 q1 q2
    obtain ⟨i1, i2⟩ := ih v (2 * m + v / 2 ^ n % 2) (t := t.set m (adapt (t.getD m 0) (v / 2 ^ n % 2))) (e := ebit (t.getD m 0) (v / 2 ^ n % 2) e) (tok_set ht m (adapt_ok ⟨p1, p2⟩)) (by rw [List.length_set]; exact node_step hb hl) hv
      (fun x hx => by
        rcases List.mem_or_eq_of_mem_set hx with h | h
        · exact hin x h
        · rw [h]; exact adapt_lo ⟨q1, q2⟩)
      (fun j hj hj2 => by
        rw [List.length_set] at hj2
        have hne : m ≠ j := by omega
        have : (t.set m (adapt (t.getD m 0) (v / 2 ^ n % 2))).getD j 0 = t.getD j 0 := by
          simp [List.getD, List.getElem?_set_ne hne]
        rw [this]
        exact hbeh j (by omega) hj2)
      (by omega)
    refine ⟨?_, i2⟩
    have := Spd.trans (val_pos hv) hs i1
    rw [Nat.pow_succ, Nat.pow_succ, Nat.mul_comm ((A * 8191) ^ n), Nat.mul_comm ((2048 * 8192) ^ n)]
    exact this
/-- A number of so many bits. -/
theorem spd_num {A v : Nat} {x : List Nat × En} (hA : 1 ≤ A) (ht : TNum x.1) (he : Val 0 x.2) (hin : TIn A x.1) :
    Spd ((A * 8191) ^ 6 * (1024 * 8191) ^ (blen v - 1)) ((2048 * 8192) ^ 6 * (2048 * 8192) ^ (blen v - 1)) x.2 (nenc v x).2 ∧ TIn (lo A) (nenc v x).1 := by
  obtain ⟨ht1, ht2⟩ := ht
  obtain ⟨k1, k2⟩ := spd_tree hA 6 (blen v) 1 (t := x.1) (e := x.2) ht1 (by rw [ht2]; decide) he
    (fun y hy => by have := hin y hy; have := lo_le A; omega)
    (fun j _ hj => by
      have : x.1.getD j 0 = x.1[j] := by simp [List.getD, hj]
      rw [this]; exact hin _ (List.getElem_mem _)) (by omega)
  obtain ⟨_, _, hvv⟩ := tenc_val 6 (blen v) 1 (t := x.1) (e := x.2) ht1 (by rw [ht2]; decide) he
  refine ⟨?_, k2⟩
  unfold nenc
  simp only
  by_cases h2 : 2 ≤ blen v
  · rw [if_pos h2]
    exact Spd.trans (val_pos hvv) k1 (spd_dir (blen v - 1) v hvv)
  · rw [if_neg h2]
    have h3 : blen v - 1 = 0 := by omega
    rw [h3, Nat.pow_zero, Nat.mul_one, Nat.mul_one]
    exact k1
theorem Spd.less {a a' b : Nat} {e e' : En} (h : Spd a b e e') (ha : a' ≤ a) : Spd a' b e e' :=
  Nat.le_trans (Nat.mul_le_mul_left _ ha) h
theorem Spd.weak {a b c : Nat} {e e' : En} (h : Spd a b e e') (hb : b ≤ c * a) (ha : 0 < a) : Spd 1 c e e' := by
  unfold Spd at *
  refine Nat.le_of_mul_le_mul_right ?_ ha
  calc e.size * 256 ^ e'.out.length * 1 * a = e.size * 256 ^ e'.out.length * a := by rw [Nat.mul_one]
    _ ≤ e'.size * 256 ^ e.out.length * b := h
    _ ≤ e'.size * 256 ^ e.out.length * (c * a) := Nat.mul_le_mul_left _ hb
    _ = e'.size * 256 ^ e.out.length * c * a := by ac_rfl
def it : Nat → Nat → Nat
  | 0, a => a
  | i + 1, a => it i (lo a)
/-- A list of numbers of so many bits at most: c bits each. -/
theorem spd_nums {c B : Nat} (hB : ∀ j, j < B → (2048 * 8192) ^ 6 * (2048 * 8192) ^ j ≤ 2 ^ c * ((772 * 8191) ^ 6 * (1024 * 8191) ^ j)) (l : List Nat) : ∀ {A : Nat} {x : List Nat × En}, TNum x.1 → Val 0 x.2 → TIn A x.1 →
    (∀ v ∈ l, blen v - 1 < B) → (∀ i, i < l.length → 772 ≤ it i A) → Spd 1 (2 ^ (c * l.length)) x.2 (nencs l x).2 := by
  induction l with
  | nil => intro A x _ _ _ _ _; exact Spd.refl _
  | cons v r ih =>
    intro A x ht he hin hv hi
    have hA : 772 ≤ A := hi 0 (by simp)
    obtain ⟨k1, k2⟩ := spd_num (v := v) (by omega) ht he hin
    obtain ⟨v1, v2⟩ := nenc_val (v := v) ht he
    have k3 := ih (A := lo A) (x := nenc v x) v1 v2 k2 (fun y hy => hv y (List.mem_cons_of_mem _ hy)) (fun i hi2 => hi (i + 1) (by simp; omega))
    have k4 : Spd 1 (2 ^ c) x.2 (nenc v x).2 := by
      refine Spd.weak (Spd.less k1 (a' := (772 * 8191) ^ 6 * (1024 * 8191) ^ (blen v - 1)) ?_) (hB _ (hv v List.mem_cons_self)) (Nat.mul_pos (Nat.pow_pos (by omega)) (Nat.pow_pos (by omega)))
      exact Nat.mul_le_mul_right _ (Nat.pow_le_pow_left (Nat.mul_le_mul_right _ hA) 6)
    have := Spd.trans (val_pos v2) k4 k3
    rw [Nat.one_mul, ← Nat.pow_add] at this
    have h2 : c + c * r.length = c * (v :: r).length := by rw [List.length_cons, Nat.mul_add]; omega
    rw [h2] at this
    exact this
theorem tin_0 : TIn 1024 t0 := by
  intro x hx
  have : x = 1024 := List.eq_of_mem_replicate hx
  omega
theorem it_ok : ∀ i, i < 10 → 772 ≤ it i 1024 := by decide
/-- At most ten numbers of so many bits. -/
theorem encn_bits {c B : Nat} (hB : ∀ j, j < B → (2048 * 8192) ^ 6 * (2048 * 8192) ^ j ≤ 2 ^ c * ((772 * 8191) ^ 6 * (1024 * 8191) ^ j)) (l : List Nat) (hl : l.length ≤ 10) (hv : ∀ v ∈ l, blen v - 1 < B) : 8 * (encn l).length ≤ 40 + c * l.length := by
  have hk : kof l.length = 0 := by
    rcases kof_spec l.length with h | h | h | h | h | h | h | h | h <;> omega
  have hnl := num_length l.length
  rw [hk] at hnl
  unfold encn
  by_cases h0 : l = []
  · rw [if_pos h0, List.append_nil, hnl]; omega
  · rw [if_neg h0, List.length_append, hnl]
    have h1 := spd_nums hB l (A := 1024) (x := (t0, e0)) tnum_0 val_0 tin_0 hv (fun i hi => it_ok i (by omega))
    obtain ⟨_, k2⟩ := nencs_val l (x := (t0, e0)) tnum_0 val_0
    have h2 := (val_up k2).2
    have h3 : (efin (nencs l (t0, e0)).2).length = (nencs l (t0, e0)).2.out.length + 4 := by simp [efin, be_length]
    rw [h3]
    unfold Spd at h1
    have h4 : (e0).size = 4294967295 := rfl
    have h5 : (e0).out.length = 0 := rfl
    simp only at h1
    rw [h4, h5, Nat.pow_zero, Nat.mul_one, Nat.mul_one] at h1
    obtain ⟨o, ho⟩ : ∃ o, (nencs l (t0, e0)).2.out.length = o := ⟨_, rfl⟩
    rw [ho] at h1 ⊢
    have h6 : 256 ^ o ≤ 2 ^ (c * l.length) := by
      have h8 : (nencs l (t0, e0)).2.size * 2 ^ (c * l.length) ≤ 4294967295 * 2 ^ (c * l.length) := Nat.mul_le_mul_right _ (by omega)
      exact Nat.le_of_mul_le_mul_left (Nat.le_trans h1 h8) (by omega)
    have h7 : (256 : Nat) ^ o = 2 ^ (8 * o) := by rw [Nat.pow_mul]
    rw [h7] at h6
    have := (Nat.pow_le_pow_iff_right (by omega : 1 < 2)).1 h6
    omega
theorem cost19 : ∀ j, j < 11 → (2048 * 8192) ^ 6 * (2048 * 8192) ^ j ≤ 2 ^ 19 * ((772 * 8191) ^ 6 * (1024 * 8191) ^ j) := by decide +kernel
theorem cost49 : ∀ j, j < 41 → (2048 * 8192) ^ 6 * (2048 * 8192) ^ j ≤ 2 ^ 49 * ((772 * 8191) ^ 6 * (1024 * 8191) ^ j) := by decide +kernel
theorem blen_lt {v n : Nat} (h : v < 2 ^ n) : blen v ≤ n := by
  unfold blen
  split
  · omega
  · rename_i h0
    have := (Nat.log2_lt h0).2 h
    omega
end Wv.Mo
/-
  Clocks with some times taken out and others put in: how many bytes they take. No program stands here.
-/
namespace Go.Proofs.YtgllednilkfpgaaGreat
open Go.RowKit Go.Proofs Wv Wv.Vi Wv.Rc Wv.Mo Wv.Ru Wv.Tm
set_option linter.unusedVariables false
theorem gp_le {M : Int} {l : List Int} : ∀ {last : Int}, -1 ≤ last → tv last l = true → (∀ t ∈ l, t ≤ M) → ∀ g ∈ gp last l, g ≤ M := by
  induction l with
  | nil => intro _ _ _ _ g hg; cases hg
  | cons a r ih =>
    intro last h0 h hM g hg
    obtain ⟨h1, h2, h3⟩ := tv_cons.1 h
    rcases List.mem_cons.1 hg with rfl | hg
    · have := hM a List.mem_cons_self; omega
    · exact ih (by omega) h3 (fun t ht => hM t (List.mem_cons_of_mem _ ht)) g hg
theorem mnT_le (a b : List UInt8) : (mnT a b).length ≤ a.length ∧ (mnT a b).length ≤ b.length := by
  unfold mnT
  split <;> omega
theorem kof40 {n : Nat} (h : n ≤ 1099511627776) : kof n ≤ 5 := by
  rcases kof_spec n with h | h | h | h | h | h | h | h | h <;> omega
theorem kof12 {n : Nat} (h : n ≤ 4096) : kof n ≤ 1 := by
  rcases kof_spec n with h | h | h | h | h | h | h | h | h <;> omega
theorem kof7 {n : Nat} (h : n < 128) : kof n = 0 := by
  rcases kof_spec n with h | h | h | h | h | h | h | h | h <;> omega
theorem numsI_bits {c B n : Nat} {M : Int} (hB : ∀ j, j < B → (2048 * 8192) ^ 6 * (2048 * 8192) ^ j ≤ 2 ^ c * ((772 * 8191) ^ 6 * (1024 * 8191) ^ j)) {l : List Int} (hv : validT l = true) (hl : l.length ≤ 10) (hM : ∀ t ∈ l, t ≤ M) (hM2 : M < 2 ^ n) (hn : n ≤ B) (hn1 : 1 ≤ n) :
    8 * (numsI (gapsT l)).length ≤ 40 + c * l.length := by
  have h1 := encn_bits hB ((gapsT l).map Int.toNat) (by rw [List.length_map]; unfold gapsT; rw [gp_length]; exact hl) (fun v hv2 => by
    obtain ⟨g, hg, rfl⟩ := List.mem_map.1 hv2
    have g1 := gapsT_in hv g hg
    have hv3 := hv
    unfold validT at hv3
    rw [Bool.and_eq_true] at hv3
    have g2 := gp_le (M := M) (by omega) hv3.1 hM g hg
    have g3 : g.toNat < 2 ^ n := by
      have : ((2 ^ n : Nat) : Int) = (2 : Int) ^ n := by simp
      omega
    have := blen_lt g3
    omega)
  have h2 : ((gapsT l).map Int.toNat).length = l.length := by rw [List.length_map]; unfold gapsT; rw [gp_length]
  rw [h2] at h1
  exact h1
/-- The coding over a clock, where few times are missing and few are not the clock's. -/
theorem cod1_short {l : List Int} (hv : validT l = true) (h2 : 2 ≤ l.length) {k : Nat} (hk : k ≤ 10) (hm : (missL (detect l) l).length ≤ k) (hf : (furL (detect l) l).length ≤ k) (hn : (detect l).n ≤ 2000) : (cod1 l).length ≤ 50 + 9 * k := by
  have hvc := detect_vclk hv h2
  have hi := (vclk_iff.1 hvc).1
  obtain ⟨i1, i2, i3, i4, i5, i6, i7, i8⟩ := hi
  have b1 := numsI_bits (M := 2000) (n := 11) cost19 (missL_valid (vclk_iff.1 hvc).1 l) (by omega) (fun t ht => by
    obtain ⟨i, hi, rfl⟩ := List.mem_map.1 ht
    have := List.mem_range.1 (List.mem_filter.1 hi).1
    show (i : Int) ≤ 2000
    omega) (by decide) (by omega) (by omega)
  have b2 := numsI_bits (M := 1099511627776) (n := 41) cost49 (furL_valid (c := detect l) hv) (by omega) (fun t ht => by
    have := (validT_iff.1 (furL_valid (c := detect l) hv)).2.1 t ht
    omega) (by decide) (by omega) (by omega)
  have c1 := kof40 (n := (detect l).st.toNat) (by omega)
  have c2 := kof40 (n := (detect l).f.toNat) (by omega)
  have c3 := kof40 (n := (detect l).s.toNat) (by omega)
  have c4 := kof12 (n := (detect l).n.toNat) (by omega)
  have c5 := kof7 (n := 1) (by omega)
  have d1 : 19 * (missL (detect l) l).length ≤ 19 * k := Nat.mul_le_mul_left _ hm
  have d2 : 49 * (furL (detect l) l).length ≤ 49 * k := Nat.mul_le_mul_left _ hf
  rw [cod1_eq]
  unfold text
  simp only [List.length_append, num_length, toL_length, bs_size]
  have c6 := kof7 (n := (numsI (gapsT (missL (detect l) l))).length) (by omega)
  omega
theorem encT_short {l : List Int} (hv : validT l = true) (h2 : 2 ≤ l.length) {k : Nat} (hk : k ≤ 10) (hm : (missL (detect l) l).length ≤ k) (hf : (furL (detect l) l).length ≤ k) (hn : (detect l).n ≤ 2000) : (encT l).1.length ≤ 50 + 9 * k := by
  have h := cod1_short hv h2 hk hm hf hn
  unfold encT
  rw [if_pos hv, if_neg (by omega)]
  have h1 := mnT_le (mnT (cod0 l) (cod1 l)) (cod2 l)
  have h3 := mnT_le (cod0 l) (cod1 l)
  simp only
  omega
theorem nodup_len {α : Type} [DecidableEq α] {l1 : List α} : ∀ {l2 : List α}, l1.Nodup → (∀ x ∈ l1, x ∈ l2) → l1.length ≤ l2.length := by
  induction l1 with
  | nil => intro _ _ _; simp
  | cons a r ih =>
    intro l2 hn hs
    rw [List.nodup_cons] at hn
    have ha := hs a List.mem_cons_self
    have := ih (l2 := l2.erase a) hn.2 (fun x hx => (List.mem_erase_of_ne (fun e => hn.1 (by rw [← e]; exact hx))).2 (hs x (List.mem_cons_of_mem _ hx)))
    rw [List.length_erase_of_mem ha] at this
    have := List.length_pos_of_mem ha
    simp only [List.length_cons]
    omega
/-- Times are taken out, by their indices; others are put in. -/
def outF (c : Clk) (l : List Int) (i : Nat) : List Int := l.filter (fun t => !(t == atC c i))
def inF (c : Clk) (l : List Int) (t : Int) : List Int := if atC c 2 < t ∧ t ≤ 1099511627776 ∧ l.contains t = false then l ++ [t] else l
structure MixOk (c : Clk) (W : List Nat) (F : List Int) (l : List Int) : Prop where
  nd : l.Nodup
  h0 : atC c 0 ∈ l
  h1 : atC c 1 ∈ l
  h2 : atC c 2 ∈ l
  big : ∀ t ∈ l, t = atC c 0 ∨ t = atC c 1 ∨ t = atC c 2 ∨ (atC c 2 < t ∧ t ≤ 1099511627776)
  gone : ∀ i, i < c.n.toNat → atC c i ∉ l → i ∈ W
  from_ : ∀ t ∈ l, t ∈ timesL c ∨ t ∈ F
  len : l.length ≤ c.n.toNat + F.length
theorem mix_start {c : Clk} (hc : vclk c = true) (hn : 3 ≤ c.n) : MixOk c [] [] (timesL c) := by
  obtain ⟨hi, hlast⟩ := vclk_iff.1 hc
  have hin := fun i (h : i < c.n.toNat) => mem_timesL.2 ⟨i, h, rfl⟩
  refine ⟨lt_nodup (timesL_sorted hi), hin 0 (by omega), hin 1 (by omega), hin 2 (by omega), ?_, fun i hi h => absurd (hin i hi) h, fun t ht => .inl ht, by rw [timesL_length]; simp⟩
  intro t ht
  obtain ⟨i, hi2, rfl⟩ := mem_timesL.1 ht
  rcases (show i = 0 ∨ i = 1 ∨ i = 2 ∨ 2 < i by omega) with rfl | rfl | rfl | h
  · exact .inl rfl
  · exact .inr (.inl rfl)
  · exact .inr (.inr (.inl rfl))
  · exact .inr (.inr (.inr ⟨atC_lt hi h, Int.le_trans (atC_le hi (by omega)) hlast⟩))
theorem atC_inj {c : Clk} (h : inC c) {i j : Nat} (e : atC c i = atC c j) : i = j := by
  rcases Nat.lt_trichotomy i j with h1 | h1 | h1
  · have := atC_lt h h1; omega
  · exact h1
  · have := atC_lt h h1; omega
theorem mix_out {c : Clk} (hc : vclk c = true) {W : List Nat} {F l : List Int} (h : MixOk c W F l) {i : Nat} (hi : 3 ≤ i) : MixOk c (W ++ [i]) F (outF c l i) := by
  have hin := (vclk_iff.1 hc).1
  have key : ∀ t, t ∈ outF c l i ↔ t ∈ l ∧ t ≠ atC c i := fun t => by
    unfold outF
    rw [List.mem_filter]
    simp
  have hne : ∀ j, j < 3 → atC c j ≠ atC c i := fun j hj e => by have := atC_inj hin e; omega
  refine ⟨h.nd.sublist List.filter_sublist, (key _).2 ⟨h.h0, hne 0 (by omega)⟩, (key _).2 ⟨h.h1, hne 1 (by omega)⟩, (key _).2 ⟨h.h2, hne 2 (by omega)⟩, fun t ht => h.big t ((key t).1 ht).1, fun j hj hnj => ?_, fun t ht => h.from_ t ((key t).1 ht).1, ?_⟩
  · by_cases hm : atC c j ∈ l
    · have : atC c j = atC c i := by
        rcases Classical.em (atC c j = atC c i) with e | e
        · exact e
        · exact absurd ((key _).2 ⟨hm, e⟩) hnj
      rw [atC_inj hin this]
      simp
    · exact List.mem_append_left _ (h.gone j hj hm)
  · exact Nat.le_trans (List.length_filter_le _ _) h.len
theorem mix_in {c : Clk} {W : List Nat} {F l : List Int} (h : MixOk c W F l) (t : Int) : MixOk c W (F ++ [t]) (inF c l t) := by
  unfold inF
  split
  · rename_i hc
    obtain ⟨c1, c2, c3⟩ := hc
    have hnm : t ∉ l := by simpa using c3
    refine ⟨?_, List.mem_append_left _ h.h0, List.mem_append_left _ h.h1, List.mem_append_left _ h.h2, fun x hx => ?_, fun i hi hn => h.gone i hi (fun hm => hn (List.mem_append_left _ hm)), fun x hx => ?_, ?_⟩
    · rw [List.nodup_append]
      refine ⟨h.nd, by simp, ?_⟩
      rintro a ha b hb rfl
      rw [List.mem_singleton] at hb
      exact hnm (hb ▸ ha)
    · rcases List.mem_append.1 hx with hx | hx
      · exact h.big x hx
      · rw [List.mem_singleton] at hx
        subst hx
        exact .inr (.inr (.inr ⟨c1, c2⟩))
    · rcases List.mem_append.1 hx with hx | hx
      · rcases h.from_ x hx with h1 | h1
        · exact .inl h1
        · exact .inr (List.mem_append_left _ h1)
      · exact .inr (List.mem_append_right _ hx)
    · have := h.len
      simp only [List.length_append, List.length_singleton]
      omega
  · refine ⟨h.nd, h.h0, h.h1, h.h2, h.big, h.gone, fun x hx => ?_, ?_⟩
    · rcases h.from_ x hx with h1 | h1
      · exact .inl h1
      · exact .inr (List.mem_append_left _ h1)
    · have := h.len
      simp only [List.length_append, List.length_singleton]
      omega
theorem srt_lt {l : List Int} (h : l.Nodup) : (srt l).Pairwise (· < ·) := by
  have h1 := srt_sorted l
  have h2 : (srt l).Nodup := (srt_perm l).nodup_iff.2 h
  exact (List.pairwise_and_iff.2 ⟨h1, h2⟩).imp (fun ⟨a, b⟩ => by omega)
theorem head_min {l : List Int} (hs : l.Pairwise (· < ·)) {a : Int} (ha : a ∈ l) (h : ∀ t ∈ l, a ≤ t) : ∃ r, l = a :: r := by
  cases l with
  | nil => cases ha
  | cons b r =>
    rw [List.pairwise_cons] at hs
    rcases List.mem_cons.1 ha with rfl | h1
    · exact ⟨r, rfl⟩
    · have := hs.1 a h1
      have := h b List.mem_cons_self
      omega
/-- The times, sorted: they begin as the clock does. -/
theorem mix_sorted {c : Clk} (hc : vclk c = true) {W : List Nat} {F l : List Int} (h : MixOk c W F l) (hn3 : 3 ≤ c.n) (hlen : c.n.toNat + F.length ≤ 4096) : validT (srt l) = true ∧ ∃ r, srt l = atC c 0 :: atC c 1 :: atC c 2 :: r := by
  have hin := (vclk_iff.1 hc).1
  have hlt := srt_lt h.nd
  have hm : ∀ t, t ∈ srt l ↔ t ∈ l := fun t => (srt_perm l).mem_iff
  have l01 := atC_lt hin (show 0 < 1 by omega)
  have l12 := atC_lt hin (show 1 < 2 by omega)
  have h00 := atC_pos hin 0
  have hlast := (vclk_iff.1 hc).2
  constructor
  · refine validT_iff.2 ⟨hlt, fun t ht => ?_, by rw [(srt_perm l).length_eq]; have := h.len; omega⟩
    have h3 := h.big t ((hm t).1 ht)
    have h4 : ∀ j, j ≤ 2 → atC c j ≤ 1099511627776 := fun j hj => Int.le_trans (atC_le hin (by omega)) hlast
    rcases h3 with e | e | e | e
    · subst e; exact ⟨h00, h4 0 (by omega)⟩
    · subst e; exact ⟨by omega, h4 1 (by omega)⟩
    · subst e; exact ⟨by omega, h4 2 (by omega)⟩
    · omega
  · obtain ⟨r0, e0⟩ := head_min hlt ((hm _).2 h.h0) (fun t ht => by
      rcases h.big t ((hm t).1 ht) with e | e | e | e <;> omega)
    rw [e0] at hlt hm
    rw [List.pairwise_cons] at hlt
    have m1 : atC c 1 ∈ r0 := by
      rcases List.mem_cons.1 ((hm _).2 h.h1) with e | e
      · omega
      · exact e
    obtain ⟨r1, e1⟩ := head_min hlt.2 m1 (fun t ht => by
      have := hlt.1 t ht
      rcases h.big t ((hm t).1 (List.mem_cons_of_mem _ ht)) with e | e | e | e <;> omega)
    rw [e1] at hlt hm
    rw [List.pairwise_cons] at hlt
    have m2 : atC c 2 ∈ r1 := by
      rcases List.mem_cons.1 ((hm _).2 h.h2) with e | e
      · omega
      · rcases List.mem_cons.1 e with e | e
        · omega
        · exact e
    obtain ⟨r2, e2⟩ := head_min hlt.2.2 m2 (fun t ht => by
      have := hlt.2.1 t ht
      have := hlt.1 t (List.mem_cons_of_mem _ ht)
      rcases h.big t ((hm t).1 (List.mem_cons_of_mem _ (List.mem_cons_of_mem _ ht))) with e | e | e | e <;> omega)
    exact ⟨r2, by rw [e0, e1, e2]⟩
/-- What the law asks of the times. -/
theorem mix_law {c : Clk} (hc : vclk c = true) {W : List Nat} {F l : List Int} (h : MixOk c W F l) (hn3 : 3 ≤ c.n) (hn : c.n ≤ 2000) (hW : W.length ≤ 10) (hF : F.length ≤ W.length) :
    (detect (srt l)).st = c.st ∧ (detect (srt l)).f = c.f ∧ (detect (srt l)).s = c.s ∧ ((detect (srt l)).n ≤ c.n → (encT (srt l)).1.length ≤ 50 + 9 * W.length) := by
  have hin := (vclk_iff.1 hc).1
  obtain ⟨hv, r, hr⟩ := mix_sorted hc h hn3 (by omega)
  have hm : ∀ t, t ∈ srt l ↔ t ∈ l := fun t => (srt_perm l).mem_iff
  have s1 := atC_succ c 0
  have s2 := atC_succ c 1
  have s0 := atC_zero c
  have t0' : stepC c 0 = c.f := rfl
  have t1' : stepC c 1 = c.s := rfl
  rw [t0', Nat.zero_add] at s1
  have s2' : atC c 2 = atC c 1 + c.s := by rw [← t1']; exact s2
  obtain ⟨m, hmx⟩ : ∃ m, (atC c 0 :: atC c 1 :: atC c 2 :: r).getLast (by simp) = m := ⟨_, rfl⟩
  have hd : detect (srt l) = { detF (atC c 0) (atC c 1) (atC c 2 :: r) with n := (cntC (detF (atC c 0) (atC c 1) (atC c 2 :: r)) m 4096 1 : Nat) } := by
    rw [hr] at hv ⊢
    show (if _ then _ else _) = _
    rw [if_pos hv, hmx]
  obtain ⟨k, hk⟩ : ∃ k, cntC (detF (atC c 0) (atC c 1) (atC c 2 :: r)) m 4096 1 = k := ⟨_, rfl⟩
  obtain ⟨i1, i2, i3, i4⟩ := cntC_spec (detF (atC c 0) (atC c 1) (atC c 2 :: r)) m 4096 1 (by omega) (by omega)
  rw [hk] at hd i1 i2 i3 i4
  have hat : ∀ i, atC (detF (atC c 0) (atC c 1) (atC c 2 :: r)) i = atC c i := fun i => by
    unfold atC detF
    simp only
    have e1 : c.st + ((0 + 1) / 2 : Nat) * c.f + (0 / 2 : Nat) * c.s = c.st := by simp
    show (atC c 0) + _ * (atC c 1 - atC c 0) + _ * (atC c 2 - atC c 1) = _
    rw [s0, show atC c 1 - c.st = c.f by omega, show atC c 2 - atC c 1 = c.s by omega]
  obtain ⟨d, hdd⟩ : ∃ d, detect (srt l) = d := ⟨_, rfl⟩
  have d1 : d.st = c.st := by rw [← hdd, hd]; exact s0
  have d2 : d.f = c.f := by rw [← hdd, hd]; show atC c 1 - atC c 0 = c.f; omega
  have d3 : d.s = c.s := by rw [← hdd, hd]; show atC c 2 - atC c 1 = c.s; omega
  have d4 : d.n = (k : Int) := by rw [← hdd, hd]
  have dat : ∀ i, atC d i = atC c i := fun i => by unfold atC; rw [d1, d2, d3]
  refine ⟨by rw [hdd]; exact d1, by rw [hdd]; exact d2, by rw [hdd]; exact d3, fun hle => ?_⟩
  rw [hdd, d4] at hle
  have h2 : 2 ≤ (srt l).length := by rw [hr]; simp
  have hlastm : ∀ t ∈ srt l, t ≤ m := by
    intro t ht
    have hs := srt_sorted l
    rw [hr] at hs ht
    rw [← hmx]
    obtain ⟨q, hq⟩ : ∃ q, atC c 0 :: atC c 1 :: atC c 2 :: r = q := ⟨_, rfl⟩
    have hqn : q ≠ [] := by rw [← hq]; simp
    have hg : (atC c 0 :: atC c 1 :: atC c 2 :: r).getLast (by simp) = q.getLast hqn := by simp only [hq]
    rw [hg]
    rw [hq] at hs ht
    clear hq hg
    have : q = q.dropLast ++ [q.getLast hqn] := (List.dropLast_concat_getLast hqn).symm
    rw [this] at ht hs
    rw [List.pairwise_append] at hs
    rcases List.mem_append.1 ht with h1 | h1
    · exact hs.2.2 t h1 _ (by simp)
    · rw [List.mem_singleton] at h1; omega
  refine encT_short hv h2 hW ?_ ?_ (by rw [hdd, d4]; omega)
  · rw [hdd]
    have hnd : (missL d (srt l)).Nodup := by
      unfold missL
      rw [List.nodup_iff_pairwise_ne, List.pairwise_map]
      exact (List.pairwise_lt_range.sublist List.filter_sublist).imp (fun h e => by have := Int.ofNat.inj e; omega)
    have := nodup_len (l2 := W.map Int.ofNat) hnd (fun x hx => by
      obtain ⟨i, hi, rfl⟩ := List.mem_map.1 hx
      obtain ⟨h1, h3⟩ := List.mem_filter.1 hi
      have h4 := List.mem_range.1 h1
      rw [d4] at h4
      have h5 : atC c i ∉ l := by
        rw [dat] at h3
        have h6 : atC c i ∉ srt l := by simpa using h3
        exact fun h => h6 ((hm _).2 h)
      exact List.mem_map.2 ⟨i, h.gone i (by omega) h5, rfl⟩)
    rw [List.length_map] at this
    exact this
  · rw [hdd]
    have hnd : (furL d (srt l)).Nodup := ((srt_perm l).nodup_iff.2 h.nd).sublist List.filter_sublist
    refine Nat.le_trans (nodup_len (l2 := F) hnd (fun x hx => ?_)) hF
    obtain ⟨h1, h3⟩ := List.mem_filter.1 hx
    have h4 : x ∉ timesL d := by simpa using h3
    rcases h.from_ x ((hm _).1 h1) with h5 | h5
    · exfalso
      obtain ⟨i, hi, rfl⟩ := mem_timesL.1 h5
      apply h4
      refine mem_timesL.2 ⟨i, ?_, dat i⟩
      rw [d4]
      rcases Nat.lt_or_ge i k with h6 | h6
      · omega
      · have h7 := i4 (by omega)
        rw [hat] at h7
        have h8 := atC_le hin h6
        have h9 := hlastm _ h1
        omega
    · exact h5
end Go.Proofs.YtgllednilkfpgaaGreat
