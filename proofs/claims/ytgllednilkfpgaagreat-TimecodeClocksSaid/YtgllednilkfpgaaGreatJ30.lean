/-
  Joined texts: Ha, Hb, Hc.
-/
import Derived.Test.YtgllednilkfpgaaGreatJ02
set_option linter.unusedVariables false
set_option linter.unusedSimpArgs false
/-
  Times in plain Lean: what times are, their gaps, times out of gaps. No program stands here.
-/
namespace Wv.Tm
/-- Times that come behind 'last', one behind the other. -/
def tv : Int → List Int → Bool
  | _, [] => true
  | last, t :: r => decide (last < t) && decide (t ≤ 1099511627776) && tv t r
def validT (l : List Int) : Bool := tv (-1) l && decide (l.length ≤ 4096)
def gp : Int → List Int → List Int
  | _, [] => []
  | last, t :: r => (t - last - 1) :: gp t r
def gapsT (l : List Int) : List Int := gp (-1) l
/-- Times out of gaps. -/
def jn : Int → List Int → Option (List Int)
  | _, [] => some []
  | last, g :: r => if g < 0 ∨ 1099511627776 < g ∨ 1099511627776 < last + g + 1 then none else (jn (last + g + 1) r).map ((last + g + 1) :: ·)
def jnL (x : List Int) : Option (List Int) := match jn (-1) x with
  | some l => if l.length ≤ 4096 then some l else none
  | none => none
theorem tv_cons {last t : Int} {r : List Int} : tv last (t :: r) = true ↔ last < t ∧ t ≤ 1099511627776 ∧ tv t r = true := by
  show (decide _ && decide _ && _) = true ↔ _
  rw [Bool.and_eq_true, Bool.and_eq_true, decide_eq_true_iff, decide_eq_true_iff, and_assoc]
theorem tv_in {l : List Int} : ∀ {last : Int}, tv last l = true → ∀ t ∈ l, last < t ∧ t ≤ 1099511627776 := by
  induction l with
  | nil => intro last _ t ht; cases ht
  | cons a r ih =>
    intro last h t ht
    obtain ⟨h1, h2, h3⟩ := tv_cons.1 h
    rcases List.mem_cons.1 ht with rfl | ht
    · exact ⟨h1, h2⟩
    · have := ih h3 t ht
      omega
/-- Sorted without doubles. -/
theorem tv_sorted {l : List Int} : ∀ {last : Int}, tv last l = true → l.Pairwise (· < ·) := by
  induction l with
  | nil => intro _ _; exact List.Pairwise.nil
  | cons a r ih =>
    intro last h
    obtain ⟨_, _, h3⟩ := tv_cons.1 h
    exact List.Pairwise.cons (fun t ht => (tv_in h3 t ht).1) (ih h3)
theorem tv_of {l : List Int} : ∀ {last : Int}, l.Pairwise (· < ·) → (∀ t ∈ l, last < t ∧ t ≤ 1099511627776) → tv last l = true := by
  induction l with
  | nil => intro _ _ _; rfl
  | cons a r ih =>
    intro last h hb
    rw [List.pairwise_cons] at h
    refine tv_cons.2 ⟨(hb a List.mem_cons_self).1, (hb a List.mem_cons_self).2, ih h.2 (fun t ht => ⟨h.1 t ht, (hb t (List.mem_cons_of_mem _ ht)).2⟩)⟩
theorem validT_iff {l : List Int} : validT l = true ↔ l.Pairwise (· < ·) ∧ (∀ t ∈ l, 0 ≤ t ∧ t ≤ 1099511627776) ∧ l.length ≤ 4096 := by
  unfold validT
  rw [Bool.and_eq_true, decide_eq_true_iff]
  constructor
  · rintro ⟨h1, h2⟩
    exact ⟨tv_sorted h1, fun t ht => by have := tv_in h1 t ht; omega, h2⟩
  · rintro ⟨h1, h2, h3⟩
    exact ⟨tv_of h1 (fun t ht => by have := h2 t ht; omega), h3⟩
theorem gp_length (l : List Int) : ∀ last, (gp last l).length = l.length := by
  induction l with
  | nil => intro _; rfl
  | cons a r ih => intro last; simp [gp, ih]
theorem gp_in {l : List Int} : ∀ {last : Int}, -1 ≤ last → tv last l = true → ∀ g ∈ gp last l, 0 ≤ g ∧ g ≤ 1099511627776 := by
  induction l with
  | nil => intro last _ _ g hg; cases hg
  | cons a r ih =>
    intro last h0 h g hg
    obtain ⟨h1, h2, h3⟩ := tv_cons.1 h
    rcases List.mem_cons.1 hg with rfl | hg
    · omega
    · exact ih (by omega) h3 g hg
theorem jn_gp {l : List Int} : ∀ {last : Int}, -1 ≤ last → tv last l = true → jn last (gp last l) = some l := by
  induction l with
  | nil => intro _ _ _; rfl
  | cons a r ih =>
    intro last h0 h
    obtain ⟨h1, h2, h3⟩ := tv_cons.1 h
    show (if _ then none else _) = _
    rw [if_neg (by omega), show last + (a - last - 1) + 1 = a by omega, ih (by omega) h3]
    rfl
theorem jn_tv {x : List Int} : ∀ {last : Int} {l : List Int}, -1 ≤ last → jn last x = some l → tv last l = true ∧ gp last l = x ∧ l.length = x.length := by
  induction x with
  | nil => intro last l _ h; injection h with h; subst h; exact ⟨rfl, rfl, rfl⟩
  | cons g r ih =>
    intro last l h0 h
    unfold jn at h
    split at h
    · cases h
    · rename_i hc
      match hj : jn (last + g + 1) r, h with
      | none, h => cases h
      | some l', h =>
        injection h with h
        subst h
        obtain ⟨i1, i2, i3⟩ := ih (by omega) hj
        exact ⟨tv_cons.2 ⟨by omega, by omega, i1⟩, by simp [gp, i2]; omega, by simp [i3]⟩
theorem jnL_gaps {l : List Int} (h : validT l = true) : jnL (gapsT l) = some l := by
  unfold validT at h
  rw [Bool.and_eq_true, decide_eq_true_iff] at h
  unfold jnL gapsT
  rw [jn_gp (by omega) h.1]
  simp only
  rw [if_pos h.2]
theorem jnL_valid {x l : List Int} (h : jnL x = some l) : validT l = true ∧ gapsT l = x := by
  unfold jnL at h
  match hj : jn (-1) x, h with
  | none, h => cases h
  | some l', h =>
    simp only at h
    split at h
    · rename_i h4
      injection h with h
      subst h
      obtain ⟨i1, i2, _⟩ := jn_tv (by omega) hj
      exact ⟨by unfold validT; rw [Bool.and_eq_true, decide_eq_true_iff]; exact ⟨i1, h4⟩, i2⟩
    · cases h
theorem gapsT_in {l : List Int} (h : validT l = true) : ∀ g ∈ gapsT l, 0 ≤ g ∧ g ≤ 1099511627776 := by
  unfold validT at h
  rw [Bool.and_eq_true] at h
  exact gp_in (by omega) h.1
/-- The reference's way of adding gaps up. -/
def jnR : Int → List Int → Option (List Int)
  | _, [] => some []
  | last, g :: r => if 1099511627776 - last - 1 < g then none else (jnR (last + 1 + g) r).map ((last + 1 + g) :: ·)
theorem jnR_eq {x : List Int} : ∀ {last : Int}, -1 ≤ last → (∀ g ∈ x, 0 ≤ g) → jnR last x = jn last x := by
  induction x with
  | nil => intro _ _ _; rfl
  | cons g r ih =>
    intro last h0 hg
    have g0 := hg g List.mem_cons_self
    unfold jnR jn
    by_cases h : 1099511627776 - last - 1 < g
    · rw [if_pos h, if_pos (by omega)]
    · rw [if_neg h, if_neg (by omega), show last + 1 + g = last + g + 1 by omega, ih (by omega) (fun v hv => hg v (List.mem_cons_of_mem _ hv))]
end Wv.Tm
/-
  Clocks in plain Lean: their times, the clock of times. No program stands here.
-/
namespace Wv.Tm
/-- A clock: start, first and second difference, how many times. -/
structure Clk where
  st : Int
  f : Int
  s : Int
  n : Int
deriving DecidableEq
def zeroC : Clk := ⟨0, 0, 0, 0⟩
/-- The time with an index. -/
def atC (c : Clk) (i : Nat) : Int := c.st + ((i + 1) / 2 : Nat) * c.f + (i / 2 : Nat) * c.s
def stepC (c : Clk) (i : Nat) : Int := if i % 2 = 0 then c.f else c.s
theorem atC_zero (c : Clk) : atC c 0 = c.st := by unfold atC; simp
theorem atC_succ (c : Clk) (i : Nat) : atC c (i + 1) = atC c i + stepC c i := by
  unfold atC stepC
  rcases Nat.mod_two_eq_zero_or_one i with h | h
  · rw [if_pos h, show (i + 1 + 1) / 2 = (i + 1) / 2 + 1 by omega, show (i + 1) / 2 = i / 2 by omega, Int.natCast_add, Int.add_mul]
    omega
  · rw [if_neg (by omega), show (i + 1 + 1) / 2 = (i + 1) / 2 by omega, show (i + 1) / 2 = i / 2 + 1 by omega, Int.natCast_add, Int.add_mul, Int.add_mul]
    omega
/-- The parts of a clock that are in their places; the last time is asked besides. -/
def inC (c : Clk) : Prop := 1 ≤ c.n ∧ c.n ≤ 4096 ∧ 0 ≤ c.st ∧ c.st ≤ 1099511627776 ∧ 1 ≤ c.f ∧ c.f ≤ 1099511627776 ∧ 1 ≤ c.s ∧ c.s ≤ 1099511627776
instance (c : Clk) : Decidable (inC c) := by unfold inC; infer_instance
def vclk (c : Clk) : Bool := decide (inC c) && decide (atC c (c.n - 1).toNat ≤ 1099511627776)
theorem vclk_iff {c : Clk} : vclk c = true ↔ inC c ∧ atC c (c.n - 1).toNat ≤ 1099511627776 := by
  unfold vclk
  rw [Bool.and_eq_true, decide_eq_true_iff, decide_eq_true_iff]
theorem stepC_in {c : Clk} (h : inC c) (i : Nat) : 1 ≤ stepC c i ∧ stepC c i ≤ 1099511627776 := by
  obtain ⟨_, _, _, _, h1, h2, h3, h4⟩ := h
  unfold stepC
  split <;> omega
theorem atC_lt {c : Clk} (h : inC c) : ∀ {i j : Nat}, i < j → atC c i < atC c j := by
  intro i j hij
  induction j with
  | zero => omega
  | succ j ih =>
    have hs := stepC_in h j
    rw [atC_succ]
    rcases Nat.lt_or_ge i j with h1 | h1
    · have := ih h1; omega
    · have : i = j := by omega
      subst this
      omega
theorem atC_le {c : Clk} (h : inC c) {i j : Nat} (hij : i ≤ j) : atC c i ≤ atC c j := by
  rcases Nat.lt_or_ge i j with h1 | h1
  · exact Int.le_of_lt (atC_lt h h1)
  · have : i = j := by omega
    rw [this]; exact Int.le_refl _
theorem atC_pos {c : Clk} (h : inC c) (i : Nat) : 0 ≤ atC c i := by
  have := atC_le h (Nat.zero_le i)
  rw [atC_zero] at this
  exact Int.le_trans h.2.2.1 this
/-- A rough bound, for sums of machine words. -/
theorem atC_rough {c : Clk} (h : inC c) (i : Nat) : atC c i ≤ 1099511627776 * (i + 1) := by
  induction i with
  | zero => rw [atC_zero]; have := h.2.2.2.1; omega
  | succ i ih => rw [atC_succ]; have := stepC_in h i; omega
def timesL (c : Clk) : List Int := (List.range c.n.toNat).map (atC c)
def timesC (c : Clk) : Option (List Int) := if vclk c = true then some (timesL c) else none
theorem timesL_length (c : Clk) : (timesL c).length = c.n.toNat := by simp [timesL]
theorem mem_timesL {c : Clk} {t : Int} : t ∈ timesL c ↔ ∃ i, i < c.n.toNat ∧ atC c i = t := by
  simp [timesL]
theorem timesL_sorted {c : Clk} (h : inC c) : (timesL c).Pairwise (· < ·) := by
  unfold timesL
  rw [List.pairwise_map]
  exact List.Pairwise.imp (fun hab => atC_lt h hab) List.pairwise_lt_range
theorem timesL_valid {c : Clk} (h : vclk c = true) : validT (timesL c) = true := by
  obtain ⟨h1, h2⟩ := vclk_iff.1 h
  refine validT_iff.2 ⟨timesL_sorted h1, fun t ht => ?_, ?_⟩
  · obtain ⟨i, hi, rfl⟩ := mem_timesL.1 ht
    exact ⟨atC_pos h1 i, Int.le_trans (atC_le h1 (by omega)) h2⟩
  · rw [timesL_length]; have := h1.2.1; omega
/-- How far a clock goes. -/
def cntC (c : Clk) (m : Int) : Nat → Nat → Nat
  | 0, k => k
  | fuel + 1, k => if k < 4096 ∧ atC c k ≤ m then cntC c m fuel (k + 1) else k
theorem cntC_stop (c : Clk) (m : Int) : ∀ (fuel k : Nat), ¬ (k < 4096 ∧ atC c k ≤ m) → cntC c m fuel k = k := by
  intro fuel k h
  cases fuel with
  | zero => rfl
  | succ f => rw [cntC, if_neg h]
theorem cntC_step (c : Clk) (m : Int) (fuel k : Nat) (h : k < 4096 ∧ atC c k ≤ m) : cntC c m (fuel + 1) k = cntC c m fuel (k + 1) := by rw [cntC, if_pos h]
theorem cntC_spec (c : Clk) (m : Int) : ∀ (fuel k : Nat), k ≤ 4096 → 4096 - k ≤ fuel → k ≤ cntC c m fuel k ∧ cntC c m fuel k ≤ 4096 ∧ (∀ i, k ≤ i → i < cntC c m fuel k → atC c i ≤ m) ∧ (cntC c m fuel k < 4096 → m < atC c (cntC c m fuel k)) := by
  intro fuel
  induction fuel with
  | zero =>
    intro k h1 h2
    rw [cntC]
    exact ⟨Nat.le_refl _, h1, fun i _ _ => by omega, fun _ => by omega⟩
  | succ f ih =>
    intro k h1 h2
    rw [cntC]
    by_cases h : k < 4096 ∧ atC c k ≤ m
    · rw [if_pos h]
      obtain ⟨i1, i2, i3, i4⟩ := ih (k + 1) (by omega) (by omega)
      refine ⟨by omega, i2, fun i hi hi2 => ?_, i4⟩
      rcases Nat.lt_or_ge k i with h9 | h9
      · exact i3 i h9 hi2
      · have : i = k := by omega
        rw [this]; exact h.2
    · rw [if_neg h]
      exact ⟨Nat.le_refl _, h1, fun i _ _ => by omega, fun _ => by omega⟩
/-- The clock of times. -/
def detF (a b : Int) (r : List Int) : Clk := ⟨a, b - a, match r with | [] => b - a | t :: _ => t - b, 1⟩
def detect (l : List Int) : Clk := match l with
  | a :: b :: r => if validT l = true then { detF a b r with n := (cntC (detF a b r) ((a :: b :: r).getLast (by simp)) 4096 1 : Nat) } else zeroC
  | _ => zeroC
theorem atC_n (c : Clk) (n : Int) (i : Nat) : atC { c with n := n } i = atC c i := rfl
/-- The clock of times is valid. -/
theorem detect_vclk {l : List Int} (h : validT l = true) (h2 : 2 ≤ l.length) : vclk (detect l) = true := by
  match l, h2 with
  | a :: b :: r, _ =>
    have hd : detect (a :: b :: r) = { detF a b r with n := (cntC (detF a b r) ((a :: b :: r).getLast (by simp)) 4096 1 : Nat) } := by
      show (if _ then _ else _) = _
      rw [if_pos h]
    obtain ⟨v1, v2, v3⟩ := validT_iff.1 h
    obtain ⟨m, hm⟩ : ∃ m, (a :: b :: r).getLast (by simp) = m := ⟨_, rfl⟩
    have hml := v2 m (by rw [← hm]; exact List.getLast_mem _)
    rw [hd, hm]
    obtain ⟨i1, i2, i3, i4⟩ := cntC_spec (detF a b r) m 4096 1 (by omega) (by omega)
    obtain ⟨k, hk⟩ : ∃ k, cntC (detF a b r) m 4096 1 = k := ⟨_, rfl⟩
    rw [hk] at i1 i2 i3 i4 ⊢
    have ha := v2 a List.mem_cons_self
    have hb := v2 b (List.mem_cons_of_mem _ List.mem_cons_self)
    rw [List.pairwise_cons] at v1
    obtain ⟨w1, w2⟩ := v1
    have hab := w1 b List.mem_cons_self
    have hs : 1 ≤ (detF a b r).s ∧ (detF a b r).s ≤ 1099511627776 := by
      unfold detF
      cases r with
      | nil => simp only; omega
      | cons t q =>
        have ht := v2 t (List.mem_cons_of_mem _ (List.mem_cons_of_mem _ List.mem_cons_self))
        rw [List.pairwise_cons] at w2
        have := w2.1 t List.mem_cons_self
        simp only
        omega
    refine vclk_iff.2 ⟨⟨by simp only; omega, by simp only; omega, ha.1, ha.2, by show 1 ≤ b - a; omega, by show b - a ≤ _; omega, hs.1, hs.2⟩, ?_⟩
    rw [atC_n]
    show atC _ ((k : Int) - 1).toNat ≤ _
    rw [show ((k : Int) - 1).toNat = k - 1 by omega]
    rcases Nat.lt_or_ge 1 k with h9 | h9
    · exact Int.le_trans (i3 (k - 1) (by omega) (by omega)) hml.2
    · rw [show k - 1 = 0 by omega, atC_zero]; exact ha.2
end Wv.Tm
/-
  Times that a clock misses, and those that it does not have; the times out of both. No program stands here.
-/
namespace Wv.Tm
/-- Sorted. -/
def srt (l : List Int) : List Int := l.mergeSort (fun a b => decide (a ≤ b))
theorem srt_perm (l : List Int) : (srt l).Perm l := List.mergeSort_perm _ _
theorem srt_sorted (l : List Int) : (srt l).Pairwise (· ≤ ·) := by
  have := List.pairwise_mergeSort (le := fun a b : Int => decide (a ≤ b)) (fun a b c h1 h2 => by simp at *; omega) (fun a b => by simp; omega) l
  exact this.imp (fun h => by simpa using h)
theorem srt_eq {l r : List Int} (h : r.Perm l) (hs : r.Pairwise (· ≤ ·)) : srt l = r :=
  List.Perm.eq_of_pairwise (le := (· ≤ ·)) (fun a b _ _ h1 h2 => Int.le_antisymm h1 h2) (srt_sorted l) hs ((srt_perm l).trans h.symm)
def missL (c : Clk) (l : List Int) : List Int := ((List.range c.n.toNat).filter (fun i => !l.contains (atC c i))).map Int.ofNat
def furL (c : Clk) (l : List Int) : List Int := l.filter (fun t => !(timesL c).contains t)
def excT (c : Clk) (l : List Int) : Option (List Int × List Int) := if vclk c = true ∧ validT l = true then some (missL c l, furL c l) else none
def keepL (c : Clk) (m : List Int) : List Int := ((List.range c.n.toNat).filter (fun (i : Nat) => !m.contains (i : Int))).map (atC c)
def rebL (c : Clk) (m x : List Int) : List Int := srt (keepL c m ++ x)
theorem keep_miss (c : Clk) (l : List Int) : keepL c (missL c l) = (timesL c).filter (fun t => l.contains t) := by
  unfold keepL timesL
  rw [List.filter_map]
  congr 1
  apply List.filter_congr
  intro i hi
  rw [Bool.eq_iff_iff]
  simp only [Bool.not_eq_true', List.contains_eq_mem, decide_eq_false_iff_not, Function.comp, decide_eq_true_eq]
  unfold missL
  constructor
  · intro h
    by_cases hm : atC c i ∈ l
    · exact hm
    · exact absurd (List.mem_map.2 ⟨i, List.mem_filter.2 ⟨hi, by simp [hm]⟩, rfl⟩) h
  · intro h hm
    obtain ⟨j, hj, hji⟩ := List.mem_map.1 hm
    have : j = i := Int.ofNat.inj hji
    subst this
    have := (List.mem_filter.1 hj).2
    simp [h] at this
theorem lt_nodup {l : List Int} (h : l.Pairwise (· < ·)) : l.Nodup := h.imp (fun h e => by omega)
/-- The times are a clock's without the missing ones, and the further ones. -/
theorem reb_exc {c : Clk} {l : List Int} (hc : inC c) (hl : validT l = true) : rebL c (missL c l) (furL c l) = l := by
  obtain ⟨v1, v2, v3⟩ := validT_iff.1 hl
  unfold rebL
  refine srt_eq ?_ (v1.imp (fun h => Int.le_of_lt h))
  rw [keep_miss]
  have hT := timesL_sorted hc
  have n1 : ((timesL c).filter (fun t => l.contains t) ++ furL c l).Nodup := by
    rw [List.nodup_append]
    refine ⟨lt_nodup (hT.sublist List.filter_sublist), lt_nodup (v1.sublist List.filter_sublist), ?_⟩
    rintro a ha b hb rfl
    have h1 := (List.mem_filter.1 ha).1
    have h2 := (List.mem_filter.1 hb).2
    simp [h1] at h2
  refine (List.perm_ext_iff_of_nodup (lt_nodup v1) n1).2 (fun a => ?_)
  rw [List.mem_append]
  unfold furL
  rw [List.mem_filter, List.mem_filter]
  by_cases h : a ∈ timesL c <;> simp [h]
theorem missL_valid {c : Clk} (hc : inC c) (l : List Int) : validT (missL c l) = true := by
  refine validT_iff.2 ⟨?_, ?_, ?_⟩
  · unfold missL
    rw [List.pairwise_map]
    exact (List.pairwise_lt_range.sublist List.filter_sublist).imp (fun h => Int.ofNat_lt.2 h)
  · intro t ht
    obtain ⟨i, hi, rfl⟩ := List.mem_map.1 ht
    have := List.mem_range.1 (List.mem_filter.1 hi).1
    have := hc.2.1
    constructor
    · exact Int.natCast_nonneg i
    · show (i : Int) ≤ _; omega
  · unfold missL
    rw [List.length_map]
    have h1 := List.length_filter_le (fun i => !l.contains (atC c i)) (List.range c.n.toNat)
    rw [List.length_range] at h1
    have := hc.2.1
    omega
theorem furL_valid {c : Clk} {l : List Int} (hl : validT l = true) : validT (furL c l) = true := by
  obtain ⟨v1, v2, v3⟩ := validT_iff.1 hl
  refine validT_iff.2 ⟨v1.sublist List.filter_sublist, fun t ht => v2 t (List.mem_filter.1 ht).1, ?_⟩
  have h1 := List.length_filter_le (fun t => !(timesL c).contains t) l
  unfold furL
  omega
/-- The reference's way: a clock's times and the further ones, merged. -/
def mrg (m : List Int) : Nat → List Int → List Int → List Int
  | _, [], F => F
  | i, t :: T, [] => (if m.contains (i : Int) then [] else [t]) ++ mrg m (i + 1) T []
  | i, t :: T, f :: F => if t ≤ f then (if m.contains (i : Int) then [] else [t]) ++ mrg m (i + 1) T (f :: F) else f :: mrg m i (t :: T) F
termination_by _ T F => T.length + F.length
/-- The times that stay, from an index on. -/
def kpt (m : List Int) : Nat → List Int → List Int
  | _, [] => []
  | i, t :: T => (if m.contains (i : Int) then [] else [t]) ++ kpt m (i + 1) T
theorem kpt_mem {m : List Int} : ∀ {T : List Int} {i : Nat} {t : Int}, t ∈ kpt m i T → t ∈ T := by
  intro T
  induction T with
  | nil => intro i t h; cases h
  | cons a T ih =>
    intro i t h
    rw [kpt] at h
    rcases List.mem_append.1 h with h | h
    · split at h
      · cases h
      · rw [List.mem_singleton] at h; rw [h]; exact List.mem_cons_self
    · exact List.mem_cons_of_mem _ (ih h)
theorem mrg_perm (m : List Int) : ∀ (n i : Nat) (T F : List Int), T.length + F.length = n → (mrg m i T F).Perm (kpt m i T ++ F) := by
  intro n
  induction n with
  | zero =>
    intro i T F h
    have h1 : T = [] := List.eq_nil_of_length_eq_zero (by omega)
    subst h1
    rw [mrg, kpt]
    exact List.Perm.refl _
  | succ n ih =>
    intro i T F h
    match T, F with
    | [], F => rw [mrg, kpt]; exact List.Perm.refl _
    | t :: T, [] =>
      rw [mrg, kpt, List.append_assoc]
      exact (ih (i + 1) T [] (by simp at h ⊢; omega)).append_left _
    | t :: T, f :: F =>
      rw [mrg]
      split
      · rw [kpt, List.append_assoc]
        exact (ih (i + 1) T (f :: F) (by simp at h ⊢; omega)).append_left _
      · exact (List.Perm.cons f (ih i (t :: T) F (by simp at h ⊢; omega))).trans List.perm_middle.symm
theorem mrg_sorted (m : List Int) : ∀ (n i : Nat) (T F : List Int), T.length + F.length = n → T.Pairwise (· ≤ ·) → F.Pairwise (· ≤ ·) → (mrg m i T F).Pairwise (· ≤ ·) := by
  intro n
  induction n with
  | zero =>
    intro i T F h _ hF
    have h1 : T = [] := List.eq_nil_of_length_eq_zero (by omega)
    subst h1
    rw [mrg]
    exact hF
  | succ n ih =>
    intro i T F h hT hF
    have key : ∀ (a : Int) (j : Nat) (T' F' : List Int), (∀ t ∈ T', a ≤ t) → (∀ f ∈ F', a ≤ f) → ∀ x ∈ mrg m j T' F', a ≤ x := by
      intro a j T' F' h1 h2 x hx
      have := (mrg_perm m _ j T' F' rfl).mem_iff.1 hx
      rcases List.mem_append.1 this with h | h
      · exact h1 x (kpt_mem h)
      · exact h2 x h
    match T, F with
    | [], F => rw [mrg]; exact hF
    | t :: T, [] =>
      rw [List.pairwise_cons] at hT
      have h9 := ih (i + 1) T [] (by simp at h ⊢; omega) hT.2 hF
      rw [mrg]
      split
      · exact h9
      · exact List.Pairwise.cons (key t _ _ _ hT.1 (fun f hf => by cases hf)) h9
    | t :: T, f :: F =>
      rw [mrg]
      split
      · rename_i htf
        rw [List.pairwise_cons] at hT
        have h9 := ih (i + 1) T (f :: F) (by simp at h ⊢; omega) hT.2 hF
        split
        · exact h9
        · refine List.Pairwise.cons (key t _ _ _ hT.1 (fun x hx => ?_)) h9
          rw [List.pairwise_cons] at hF
          rcases List.mem_cons.1 hx with rfl | hx
          · exact htf
          · exact Int.le_trans htf (hF.1 x hx)
      · rename_i htf
        rw [List.pairwise_cons] at hF
        have h9 := ih i (t :: T) F (by simp at h ⊢; omega) hT hF.2
        refine List.Pairwise.cons (key f _ _ _ (fun x hx => ?_) hF.1) h9
        rw [List.pairwise_cons] at hT
        rcases List.mem_cons.1 hx with rfl | hx
        · omega
        · exact Int.le_trans (by omega) (hT.1 x hx)
theorem kpt_range (c : Clk) (m : List Int) : ∀ (n i : Nat), kpt m i ((List.range' i n).map (atC c)) = ((List.range' i n).filter (fun (j : Nat) => !m.contains (j : Int))).map (atC c) := by
  intro n
  induction n with
  | zero => intro i; rfl
  | succ n ih =>
    intro i
    rw [List.range'_succ, List.map_cons, kpt, ih (i + 1), List.filter_cons]
    by_cases h : m.contains (i : Int) = true
    · rw [if_pos h, h]; rfl
    · rw [if_neg h]
      simp only [Bool.not_eq_true] at h
      rw [h]
      rfl
/-- Both ways give the same. -/
theorem mrg_eq {c : Clk} (hc : inC c) (m : List Int) {F : List Int} (hF : F.Pairwise (· < ·)) : mrg m 0 (timesL c) F = rebL c m F := by
  unfold rebL
  have hk : kpt m 0 (timesL c) = keepL c m := by
    have := kpt_range c m c.n.toNat 0
    unfold timesL keepL
    rw [List.range_eq_range']
    exact this
  rw [← hk]
  exact (srt_eq (mrg_perm m _ 0 _ F rfl) (mrg_sorted m _ 0 _ F rfl ((timesL_sorted hc).imp (fun h => Int.le_of_lt h)) (hF.imp (fun h => Int.le_of_lt h)))).symm
end Wv.Tm
