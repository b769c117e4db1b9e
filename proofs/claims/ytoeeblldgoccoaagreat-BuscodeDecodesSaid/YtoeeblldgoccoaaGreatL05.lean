/-
  Joined texts: Ka, Ha, Hb, Hc, BioRef1, BioRef2, BioRef3, BioRef4, Codes.
-/
import Derived.Test.YtoeeblldgoccoaaGreatL04
import Derived.Test.YtoeeblldgoccoaaGreatChecked
import Derived.Test.YtoeeblldgoccoaaGreatL02
import Derived.Test.YtoeeblldgoccoaaGreatL01
import Derived.WalkKit
import Derived.WalkSpells
import Derived.WalkLawsBesides
import Derived.Deep.QuietTactic
import Derived.BigQuiet
import Derived.Deep.RegionWith
import Derived.Deep.DrawnRows
set_option linter.unusedVariables false
set_option linter.unusedSimpArgs false
set_option maxRecDepth 100000
set_option maxHeartbeats 8000000
namespace Wv.Bc
def cd (c : UInt8) : Nat := if c = 48 then 0 else if c = 49 then 1 else if c = 120 then 2 else if c = 122 then 3 else 4
def ch (n : Nat) : UInt8 := if n = 0 then 48 else if n = 1 then 49 else if n = 2 then 120 else 122
theorem cd_cases (c : UInt8) : (c = 48 ∧ cd c = 0) ∨ (c = 49 ∧ cd c = 1) ∨ (c = 120 ∧ cd c = 2) ∨ (c = 122 ∧ cd c = 3) ∨ (c ≠ 48 ∧ c ≠ 49 ∧ c ≠ 120 ∧ c ≠ 122 ∧ cd c = 4) := by
 unfold cd
 by_cases h1 : c = 48
 ·exact .inl ⟨h1, by rw [if_pos h1]⟩
 ·rw [if_neg h1]
  by_cases h2 : c = 49
  ·exact .inr (.inl ⟨h2, by rw [if_pos h2]⟩)
  ·rw [if_neg h2]
   by_cases h3 : c = 120
   ·exact .inr (.inr (.inl ⟨h3, by rw [if_pos h3]⟩))
   ·rw [if_neg h3]
    by_cases h4 : c = 122
    ·exact .inr (.inr (.inr (.inl ⟨h4, by rw [if_pos h4]⟩)))
    ·exact .inr (.inr (.inr (.inr ⟨h1, h2, h3, h4, by rw [if_neg h4]⟩)))
theorem cd_le (c : UInt8) : cd c ≤ 4 := by rcases cd_cases c with ⟨_, h⟩ | ⟨_, h⟩ | ⟨_, h⟩ | ⟨_, h⟩ | ⟨_, _, _, _, h⟩ <;> omega
theorem cd_ch (n : Nat) (h : n < 4) : cd (ch n) = n := by
 rcases (show n = 0 ∨ n = 1 ∨ n = 2 ∨ n = 3 by omega) with rfl | rfl | rfl | rfl <;> decide
theorem ch_cd (c : UInt8) (h : cd c < 4) : ch (cd c) = c := by
 rcases cd_cases c with ⟨rfl, _⟩ | ⟨rfl, _⟩ | ⟨rfl, _⟩ | ⟨rfl, _⟩ | ⟨_, _, _, _, h4⟩
 ·decide
 ·decide
 ·decide
 ·decide
 ·omega
def isC (c : UInt8) : Bool := decide (cd c < 4)
def isV (v : List UInt8) : Bool := v.all isC && !v.isEmpty && decide (v.length ≤ 128)
def knV (v : List UInt8) : Bool := isV v && v.all (fun c => decide (cd c < 2))
def vld (w : Int) (v : List UInt8) : Bool := isV v && decide ((v.length : Int) = w)
theorem isV_iff {v : List UInt8} : isV v = true ↔ (∀ c ∈ v, cd c < 4) ∧ v ≠ [] ∧ v.length ≤ 128 := by
 unfold isV isC;rw [Bool.and_eq_true, Bool.and_eq_true, List.all_eq_true, decide_eq_true_iff, and_assoc]
 cases v <;> simp
theorem knV_iff {v : List UInt8} : knV v = true ↔ (∀ c ∈ v, cd c < 2) ∧ v ≠ [] ∧ v.length ≤ 128 := by
 unfold knV;rw [Bool.and_eq_true, isV_iff, List.all_eq_true]
 constructor
 ·rintro ⟨⟨h1, h2, h3⟩, h4⟩
  exact ⟨fun c hc => by simpa using h4 c hc, h2, h3⟩
 ·rintro ⟨h1, h2, h3⟩
  exact ⟨⟨fun c hc => by have := h1 c hc; omega, h2, h3⟩, fun c hc => by simpa using h1 c hc⟩
theorem knV_isV {v : List UInt8} (h : knV v = true) : isV v = true := by unfold knV at h; rw [Bool.and_eq_true] at h; exact h.1
theorem vld_iff {w : Int} {v : List UInt8} : vld w v = true ↔ isV v = true ∧ (v.length : Int) = w := by
 unfold vld;rw [Bool.and_eq_true, decide_eq_true_iff]
def allV (w : Int) (c : UInt8) : List UInt8 := if w < 1 ∨ 128 < w ∨ isC c = false then [] else List.replicate w.toNat c
def fr (c : UInt8) : UInt8 := if c = 49 then 48 else c
theorem fr_fr (c : UInt8) : fr (fr c) = fr c := by
 unfold fr
 by_cases h : c = 49
 ·rw [if_pos h]; rfl
 ·rw [if_neg h, if_neg h]
theorem fr_cd {c : UInt8} (h : cd c < 4) : cd (fr c) < 4 := by
 unfold fr
 split
 ·decide
 ·exact h
def ext (w : Int) (s : List UInt8) : List UInt8 × Nat :=
 if w < 1 ∨ 128 < w then ([], 1) else match s with
  | [] => ([], 3)
  | c :: t => if (c :: t).all isC = false then ([], 3) else if w < ((c :: t).length : Int) then ([], 8) else (List.replicate (w.toNat - (c :: t).length) (fr c) ++ (c :: t), 0)
def shq : List UInt8 → List UInt8
 | a :: b :: r => if a = fr b then shq (b :: r) else a :: b :: r
 | l => l
def shr (v : List UInt8) : List UInt8 := if isV v = true then shq v else []
theorem shq_cons2 (a b : UInt8) (r : List UInt8) : shq (a :: b :: r) = if a = fr b then shq (b :: r) else a :: b :: r := rfl
theorem shq_form : ∀ (v : List UInt8), v ≠ [] → ∃ k c t, shq v = c :: t ∧ v = List.replicate k (fr c) ++ (c :: t)
 | [], h => absurd rfl h
 | [a], _ => ⟨0, a, [], rfl, rfl⟩
 | a :: b :: r, _ => by
  obtain ⟨k, c, t, h1, h2⟩ := shq_form (b :: r) (by simp);rw [shq_cons2]
  by_cases h : a = fr b
  ·rw [if_pos h]
   refine ⟨k + 1, c, t, h1, ?_⟩
   have hb : fr b = fr c := by
    cases k with
    | zero => simp only [List.replicate_zero, List.nil_append] at h2; injection h2 with h3 _; rw [h3]
    | succ k => rw [List.replicate_succ, List.cons_append] at h2; injection h2 with h3 _; rw [h3, fr_fr]
   rw [List.replicate_succ, List.cons_append, ← h2, h, hb]
  ·rw [if_neg h]
   exact ⟨0, a, b :: r, rfl, rfl⟩
theorem ext_shr {v : List UInt8} (h : isV v = true) : ext (v.length : Int) (shr v) = (v, 0) := by
 obtain ⟨h1, h2, h3⟩ := isV_iff.1 h;obtain ⟨k, c, t, e1, e2⟩ := shq_form v h2;have hl := congrArg List.length e2;rw [List.length_append, List.length_replicate] at hl;have hpos : 0 < v.length := List.length_pos_iff.2 h2;unfold shr ext;rw [if_pos h, e1, if_neg (by omega)];simp only
 have ha : (c :: t).all isC = true := by
  rw [List.all_eq_true];intro x hx;unfold isC;rw [decide_eq_true_iff];exact h1 x (by rw [e2]; exact List.mem_append_right _ hx)
 rw [ha, if_neg (by simp), if_neg (by omega)];rw [Int.toNat_natCast, show v.length - (c :: t).length = k by omega, ← e2]
theorem shr_len (v : List UInt8) : (shr v).length ≤ v.length ∧ (isV v = true → shr v ≠ []) := by
 unfold shr
 by_cases h : isV v = true
 ·rw [if_pos h]
  obtain ⟨k, c, t, e1, e2⟩ := shq_form v (isV_iff.1 h).2.1;refine ⟨?_, fun _ => by rw [e1]; simp⟩;rw [e1];have hl := congrArg List.length e2;rw [List.length_append, List.length_replicate] at hl;omega
 ·rw [if_neg h]
  exact ⟨by simp, fun h2 => absurd h2 h⟩
theorem shr_len128 (v : List UInt8) : (shr v).length ≤ 128 := by
 by_cases h : isV v = true
 ·have := (shr_len v).1
  have := (isV_iff.1 h).2.2;omega
 ·unfold shr; rw [if_neg h]; simp
theorem ext_vld {w : Int} {s v : List UInt8} (h : ext w s = (v, 0)) : vld w v = true := by
 unfold ext at h
 split at h
 ·cases h
 ·rename_i hw
  cases s with
  | nil => cases h
  | cons c t =>
   simp only at h
   split at h
   ·cases h
   ·rename_i ha
    split at h
    ·cases h
    ·rename_i hl
     injection h with h _
     subst h
     have ha2 : ∀ x ∈ c :: t, cd x < 4 := by
      have : (c :: t).all isC = true := by simpa using ha
      rw [List.all_eq_true] at this;intro x hx;have := this x hx;unfold isC at this
      simpa using this
     have hlen : (List.replicate (w.toNat - (c :: t).length) (fr c) ++ (c :: t)).length = w.toNat := by
      rw [List.length_append, List.length_replicate]; omega
     refine vld_iff.2 ⟨isV_iff.2 ⟨fun x hx => ?_, by simp, by rw [hlen]; omega⟩, by rw [hlen]; omega⟩
     rcases List.mem_append.1 hx with hx | hx
     ·rw [List.eq_of_mem_replicate hx]
      exact fr_cd (ha2 c List.mem_cons_self)
     ·exact ha2 x hx
def mx (a b : UInt8) : UInt8 := ch (cd a ^^^ cd b)
def mixV (a b : List UInt8) : List UInt8 × Nat := if isV a = false ∨ isV b = false then ([], 1) else if a.length ≠ b.length then ([], 8) else (List.zipWith mx a b, 0)
theorem xor_lt : ∀ x, x < 4 → ∀ y, y < 4 → x ^^^ y < 4 ∧ (x ^^^ y) ^^^ y = x ∧ x ^^^ y = y ^^^ x ∧ (x + y) % 2 + 2 * ((x / 2 + y / 2) % 2) = x ^^^ y := by decide
theorem mx_lt {a b : UInt8} (ha : cd a < 4) (hb : cd b < 4) : cd (mx a b) < 4 := by
 unfold mx;have := (xor_lt _ ha _ hb).1;rw [cd_ch _ this];exact this
theorem mx_mx {a b : UInt8} (ha : cd a < 4) (hb : cd b < 4) : mx (mx a b) b = a := by
 have h1 := xor_lt _ ha _ hb
 show ch (cd (ch (cd a ^^^ cd b)) ^^^ cd b) = a
 rw [cd_ch _ h1.1, h1.2.1, ch_cd a ha]
theorem mx_comm {a b : UInt8} (ha : cd a < 4) (hb : cd b < 4) : mx a b = mx b a := by
 unfold mx;rw [(xor_lt _ ha _ hb).2.2.1]
theorem zip_isV {a b : List UInt8} (ha : isV a = true) (hb : isV b = true) (hl : a.length = b.length) : isV (List.zipWith mx a b) = true ∧ (List.zipWith mx a b).length = a.length := by
 obtain ⟨a1, a2, a3⟩ := isV_iff.1 ha;obtain ⟨b1, _, _⟩ := isV_iff.1 hb
 have hlen : (List.zipWith mx a b).length = a.length := by rw [List.length_zipWith]; omega
 refine ⟨isV_iff.2 ⟨fun c hc => ?_, fun h => ?_, by omega⟩, hlen⟩
 ·obtain ⟨i, hi, rfl⟩ := List.getElem_of_mem hc
  rw [List.getElem_zipWith];exact mx_lt (a1 _ (List.getElem_mem _)) (b1 _ (List.getElem_mem _))
 ·rw [h] at hlen
  exact a2 (List.eq_nil_of_length_eq_zero hlen.symm)
theorem mix_comm (a b : List UInt8) : mixV a b = mixV b a := by
 by_cases h1 : isV a = false ∨ isV b = false
 ·unfold mixV
  rw [if_pos h1, if_pos h1.symm]
 ·have e1 : mixV a b = if a.length ≠ b.length then ([], 8) else (List.zipWith mx a b, 0) := by unfold mixV; rw [if_neg h1]
  have e2 : mixV b a = if b.length ≠ a.length then ([], 8) else (List.zipWith mx b a, 0) := by unfold mixV; rw [if_neg (fun h => h1 h.symm)]
  rw [e1, e2]
  by_cases h2 : a.length = b.length
  ·rw [if_neg (by omega), if_neg (by omega)]
   simp only [not_or, Bool.not_eq_false] at h1;obtain ⟨a1, _, _⟩ := isV_iff.1 h1.1;obtain ⟨b1, _, _⟩ := isV_iff.1 h1.2
   congr 1
   apply List.ext_getElem
   ·simp [h2]
   ·intro i k1 k2
    rw [List.getElem_zipWith, List.getElem_zipWith];exact mx_comm (a1 _ (List.getElem_mem _)) (b1 _ (List.getElem_mem _))
  ·rw [if_pos h2, if_pos (Ne.symm h2)]
theorem mix_back {a b : List UInt8} (ha : isV a = true) (hb : isV b = true) (hl : a.length = b.length) : ∃ m, mixV a b = (m, 0) ∧ isV m = true ∧ m.length = a.length ∧ mixV m b = (a, 0) := by
 obtain ⟨m1, m2⟩ := zip_isV ha hb hl;obtain ⟨a1, _, _⟩ := isV_iff.1 ha;obtain ⟨b1, _, _⟩ := isV_iff.1 hb;refine ⟨List.zipWith mx a b, ?_, m1, m2, ?_⟩
 ·unfold mixV
  rw [if_neg (by simp [ha, hb]), if_neg (by omega)]
 ·unfold mixV
  rw [if_neg (by simp [m1, hb]), if_neg (by omega)]
  congr 1
  apply List.ext_getElem
  ·rw [List.length_zipWith]; omega
  ·intro i k1 k2
   rw [List.getElem_zipWith, List.getElem_zipWith];exact mx_mx (a1 _ (List.getElem_mem _)) (b1 _ (List.getElem_mem _))
def sm : List UInt8 → List UInt8 → Nat → List UInt8 × Nat
 | x :: a, y :: b, c => (UInt8.ofNat (48 + (cd x + cd y + (sm a b c).2) % 2) :: (sm a b c).1, (cd x + cd y + (sm a b c).2) / 2)
 | _, _, c => ([], c)
def inv (v : List UInt8) : List UInt8 := v.map (fun c => ch (if cd c < 2 then 1 - cd c else cd c))
def addV (a b : List UInt8) : List UInt8 × Bool := if knV a = true ∧ knV b = true ∧ a.length = b.length then ((sm a b 0).1, true) else ([], false)
def difV (a b : List UInt8) : List UInt8 × Bool := if knV a = true ∧ knV b = true ∧ a.length = b.length then ((sm b (inv a) 1).1, true) else ([], false)
theorem sm_len : ∀ (a b : List UInt8) (c : Nat), a.length = b.length → (sm a b c).1.length = a.length
 | [], [], _, _ => rfl
 | x :: a, y :: b, c, h => by
  show ((sm a b c).1.length + 1) = _
  rw [sm_len a b c (by simpa using h)];rfl
theorem sm_dig : ∀ (a b : List UInt8) (c : Nat), ∀ d ∈ (sm a b c).1, cd d < 2
 | [], _, _ => fun d hd => by simp [sm] at hd
 | _ :: _, [], _ => fun d hd => by simp [sm] at hd
 | x :: a, y :: b, c => fun d hd => by
  rcases List.mem_cons.1 hd with rfl | hd
  ·rcases Nat.mod_two_eq_zero_or_one (cd x + cd y + (sm a b c).2) with h | h <;> rw [h] <;> decide
  ·exact sm_dig a b c d hd
theorem addV_known {a b v : List UInt8} (h : addV a b = (v, true)) : knV v = true ∧ v.length = a.length ∧ knV a = true ∧ knV b = true ∧ a.length = b.length := by
 unfold addV at h
 split at h
 ·rename_i hc
  injection h with h _
  subst h;obtain ⟨a1, a2, a3⟩ := knV_iff.1 hc.1;have hl := sm_len a b 0 hc.2.2;refine ⟨knV_iff.2 ⟨sm_dig a b 0, fun e => ?_, by omega⟩, hl, hc⟩;rw [e] at hl;exact a2 (List.eq_nil_of_length_eq_zero hl.symm)
 ·cases h
theorem difV_known {a b v : List UInt8} (h : difV a b = (v, true)) : knV v = true ∧ v.length = a.length := by
 unfold difV at h
 split at h
 ·rename_i hc
  injection h with h _
  subst h;obtain ⟨a1, a2, a3⟩ := knV_iff.1 hc.1;have hl := sm_len b (inv a) 1 (by unfold inv; rw [List.length_map]; omega);refine ⟨knV_iff.2 ⟨sm_dig b (inv a) 1, fun e => ?_, by omega⟩, by omega⟩;rw [e] at hl;exact a2 (List.eq_nil_of_length_eq_zero (by simp at hl; omega))
 ·cases h
end Wv.Bc
namespace Wv.Tm
def tv : Int → List Int → Bool
 | _, [] => true
 | last, t :: r => decide (last < t) && decide (t ≤ 1099511627776) && tv t r
def validT (l : List Int) : Bool := tv (-1) l && decide (l.length ≤ 4096)
def gp : Int → List Int → List Int
 | _, [] => []
 | last, t :: r => (t - last - 1) :: gp t r
def gapsT (l : List Int) : List Int := gp (-1) l
theorem tv_cons {last t : Int} {r : List Int} : tv last (t :: r) = true ↔ last < t ∧ t ≤ 1099511627776 ∧ tv t r = true := by
 show (decide _ && decide _ && _) = true ↔ _
 rw [Bool.and_eq_true, Bool.and_eq_true, decide_eq_true_iff, decide_eq_true_iff, and_assoc]
theorem tv_in {l : List Int} : ∀ {last : Int}, tv last l = true → ∀ t ∈ l, last < t ∧ t ≤ 1099511627776 := by
 induction l with
 | nil => intro last _ t ht; cases ht
 | cons a r ih =>
  intro last h t ht;obtain ⟨h1, h2, h3⟩ := tv_cons.1 h
  rcases List.mem_cons.1 ht with rfl | ht
  ·exact ⟨h1, h2⟩
  ·have := ih h3 t ht
   omega
theorem tv_sorted {l : List Int} : ∀ {last : Int}, tv last l = true → l.Pairwise (· < ·) := by
 induction l with
 | nil => intro _ _; exact List.Pairwise.nil
 | cons a r ih =>
  intro last h;obtain ⟨_, _, h3⟩ := tv_cons.1 h;exact List.Pairwise.cons (fun t ht => (tv_in h3 t ht).1) (ih h3)
theorem tv_of {l : List Int} : ∀ {last : Int}, l.Pairwise (· < ·) → (∀ t ∈ l, last < t ∧ t ≤ 1099511627776) → tv last l = true := by
 induction l with
 | nil => intro _ _ _; rfl
 | cons a r ih =>
  intro last h hb;rw [List.pairwise_cons] at h;refine tv_cons.2 ⟨(hb a List.mem_cons_self).1, (hb a List.mem_cons_self).2, ih h.2 (fun t ht => ⟨h.1 t ht, (hb t (List.mem_cons_of_mem _ ht)).2⟩)⟩
theorem validT_iff {l : List Int} : validT l = true ↔ l.Pairwise (· < ·) ∧ (∀ t ∈ l, 0 ≤ t ∧ t ≤ 1099511627776) ∧ l.length ≤ 4096 := by
 unfold validT;rw [Bool.and_eq_true, decide_eq_true_iff]
 constructor
 ·rintro ⟨h1, h2⟩
  exact ⟨tv_sorted h1, fun t ht => by have := tv_in h1 t ht; omega, h2⟩
 ·rintro ⟨h1, h2, h3⟩
  exact ⟨tv_of h1 (fun t ht => by have := h2 t ht; omega), h3⟩
theorem gp_length (l : List Int) : ∀ last, (gp last l).length = l.length := by
 induction l with
 | nil => intro _; rfl
 | cons a r ih => intro last; simp [gp, ih]
theorem gp_in {l : List Int} : ∀ {last : Int}, -1 ≤ last → tv last l = true → ∀ g ∈ gp last l, 0 ≤ g ∧ g ≤ 1099511627776 := by
 induction l with
 | nil => intro last _ _ g hg; cases hg
 | cons a r ih =>
  intro last h0 h g hg;obtain ⟨h1, h2, h3⟩ := tv_cons.1 h
  rcases List.mem_cons.1 hg with rfl | hg
  ·omega
  ·exact ih (by omega) h3 g hg
theorem gapsT_in {l : List Int} (h : validT l = true) : ∀ g ∈ gapsT l, 0 ≤ g ∧ g ≤ 1099511627776 := by
 unfold validT at h;rw [Bool.and_eq_true] at h;exact gp_in (by omega) h.1
structure Clk where
 st : Int
 f : Int
 s : Int
 n : Int
deriving DecidableEq
def inC (c : Clk) : Prop := 1 ≤ c.n ∧ c.n ≤ 4096 ∧ 0 ≤ c.st ∧ c.st ≤ 1099511627776 ∧ 1 ≤ c.f ∧ c.f ≤ 1099511627776 ∧ 1 ≤ c.s ∧ c.s ≤ 1099511627776
instance (c : Clk) : Decidable (inC c) := by unfold inC; infer_instance
end Wv.Tm
namespace Go.Proofs.YtoeeblldgoccoaaGreat.Bio
open Go.RowKit Go.Proofs Wv Wv.Bit
theorem u8info : (Tryz.prog.info? 5).map (fun i => (i.zero, i.size, i.bytes)) = some (some (.int .u8 0), 1, 1) := by kernel_rfl
attribute [local go_sem ↓] Go.wp_at_zero Go.wp_at_succ
end Go.Proofs.YtoeeblldgoccoaaGreat.Bio
namespace Go.Proofs.YtoeeblldgoccoaaGreat.Bio
open Go.RowKit Go.Proofs Wv Wv.Bit
attribute [local go_sem ↓] Go.wp_at_zero Go.wp_at_succ
end Go.Proofs.YtoeeblldgoccoaaGreat.Bio
namespace Go.Proofs.YtoeeblldgoccoaaGreat.Bio
open Go.RowKit Go.Proofs Wv Wv.Bit
attribute [local go_sem ↓] Go.wp_at_zero Go.wp_at_succ
end Go.Proofs.YtoeeblldgoccoaaGreat.Bio
namespace Wv.Bit
open Go Go.RowKit Wv
def CodesAt (w : World) (A : Option Addr) (l : List Cd) : Prop :=
 ∀ i (h : i < l.length), ∃ b o, A = some ⟨b, o, none⟩ ∧ b < w.heap.size ∧ w.cell? ⟨b, o + i * 3, none⟩ = some (.int .i64 l[i].k) ∧ w.cell? ⟨b, o + i * 3 + 1, none⟩ = some (.int .i64 l[i].p) ∧ w.cell? ⟨b, o + i * 3 + 2, none⟩ = some (.int .i64 l[i].v)
theorem CodesAt.keep {w w' : World} {A : Option Addr} {l : List Cd} {S : Nat → Prop} (h : CodesAt w A l) (hf : Fr S w w') (hS : ∀ b o, A = some ⟨b, o, none⟩ → ¬ S b) : CodesAt w' A l := by
 intro i hi;obtain ⟨b, o, hA, hb, h1, h2, h3⟩ := h i hi;have := hS b o hA;exact ⟨b, o, hA, Nat.lt_of_lt_of_le hb hf.size, (hf.cell (p := ⟨b, _, none⟩) hb this).trans h1, (hf.cell (p := ⟨b, _, none⟩) hb this).trans h2, (hf.cell (p := ⟨b, _, none⟩) hb this).trans h3⟩
theorem CodesAt.below {w w' : World} {A : Option Addr} {l : List Cd} (h : CodesAt w A l) (hb : Below w.heap.size w w') : CodesAt w' A l :=
 h.keep (Fr.of_below (S := nob) hb) (fun _ _ _ f => f)
theorem CodesAt.drewN {w : World} {A : Option Addr} {l : List Cd} (h : CodesAt w A l) (n : Nat) : CodesAt (w.drewN n) A l := h
theorem CodesAt.alloc {w : World} {A : Option Addr} {l : List Cd} (h : CodesAt w A l) (o : Obj) : CodesAt (w.alloc o) A l := h.below ((Below.refl _ _).alloc (Nat.le_refl _) o)
end Wv.Bit
