/-
  Joined texts: Ka, Md, Vf, V6, Base6, Base7, Ha, Hb, Hc, Base8, BioRef1, BioRef2, BioRef3, BioRef4, Codes.
-/
import Derived.Test.YtoeeblldgoccoaaGreatJ10
import Derived.Deep.DrawnRows
set_option linter.unusedVariables false
set_option linter.unusedSimpArgs false
/-
  Values of kind Bits in plain Lean: characters and their codes, values of a width, extended and shortened digits. No program stands here.
-/
namespace Wv.Bc
def cd (c : UInt8) : Nat := if c = 48 then 0 else if c = 49 then 1 else if c = 120 then 2 else if c = 122 then 3 else 4
def ch (n : Nat) : UInt8 := if n = 0 then 48 else if n = 1 then 49 else if n = 2 then 120 else 122
theorem cd_cases (c : UInt8) : (c = 48 ∧ cd c = 0) ∨ (c = 49 ∧ cd c = 1) ∨ (c = 120 ∧ cd c = 2) ∨ (c = 122 ∧ cd c = 3) ∨ (c ≠ 48 ∧ c ≠ 49 ∧ c ≠ 120 ∧ c ≠ 122 ∧ cd c = 4) := by
 unfold cd
 by_cases h1 : c = 48
 ·exact .inl ⟨h1, by rw [if_pos h1]⟩
 ·rw [if_neg h1]
  by_cases h2 : c = 49
  ·exact .inr (.inl ⟨h2, by rw [if_pos h2]⟩)
  ·rw [if_neg h2]
   by_cases h3 : c = 120
   ·exact .inr (.inr (.inl ⟨h3, by rw [if_pos h3]⟩))
   ·rw [if_neg h3]
    by_cases h4 : c = 122
    ·exact .inr (.inr (.inr (.inl ⟨h4, by rw [if_pos h4]⟩)))
    ·exact .inr (.inr (.inr (.inr ⟨h1, h2, h3, h4, by rw [if_neg h4]⟩)))
theorem cd_le (c : UInt8) : cd c ≤ 4 := by rcases cd_cases c with ⟨_, h⟩ | ⟨_, h⟩ | ⟨_, h⟩ | ⟨_, h⟩ | ⟨_, _, _, _, h⟩ <;> omega
theorem cd_ch (n : Nat) (h : n < 4) : cd (ch n) = n := by
 rcases (show n = 0 ∨ n = 1 ∨ n = 2 ∨ n = 3 by omega) with rfl | rfl | rfl | rfl <;> decide
theorem ch_cd (c : UInt8) (h : cd c < 4) : ch (cd c) = c := by
 rcases cd_cases c with ⟨rfl, _⟩ | ⟨rfl, _⟩ | ⟨rfl, _⟩ | ⟨rfl, _⟩ | ⟨_, _, _, _, h4⟩
 ·decide
 ·decide
 ·decide
 ·decide
 ·omega
def isC (c : UInt8) : Bool := decide (cd c < 4)
def isV (v : List UInt8) : Bool := v.all isC && !v.isEmpty && decide (v.length ≤ 128)
def knV (v : List UInt8) : Bool := isV v && v.all (fun c => decide (cd c < 2))
def vld (w : Int) (v : List UInt8) : Bool := isV v && decide ((v.length : Int) = w)
theorem isV_iff {v : List UInt8} : isV v = true ↔ (∀ c ∈ v, cd c < 4) ∧ v ≠ [] ∧ v.length ≤ 128 := by
 unfold isV isC
 rw [Bool.and_eq_true, Bool.and_eq_true, List.all_eq_true, decide_eq_true_iff, and_assoc]
 cases v <;> simp
theorem knV_iff {v : List UInt8} : knV v = true ↔ (∀ c ∈ v, cd c < 2) ∧ v ≠ [] ∧ v.length ≤ 128 := by
 unfold knV
 rw [Bool.and_eq_true, isV_iff, List.all_eq_true]
 constructor
 ·rintro ⟨⟨h1, h2, h3⟩, h4⟩
  exact ⟨fun c hc => by simpa using h4 c hc, h2, h3⟩
 ·rintro ⟨h1, h2, h3⟩
  exact ⟨⟨fun c hc => by have := h1 c hc; omega, h2, h3⟩, fun c hc => by simpa using h1 c hc⟩
theorem knV_isV {v : List UInt8} (h : knV v = true) : isV v = true := by unfold knV at h; rw [Bool.and_eq_true] at h; exact h.1
theorem vld_iff {w : Int} {v : List UInt8} : vld w v = true ↔ isV v = true ∧ (v.length : Int) = w := by
 unfold vld
 rw [Bool.and_eq_true, decide_eq_true_iff]
def allV (w : Int) (c : UInt8) : List UInt8 := if w < 1 ∨ 128 < w ∨ isC c = false then [] else List.replicate w.toNat c
def fr (c : UInt8) : UInt8 := if c = 49 then 48 else c
theorem fr_fr (c : UInt8) : fr (fr c) = fr c := by
 unfold fr
 by_cases h : c = 49
 ·rw [if_pos h]; rfl
 ·rw [if_neg h, if_neg h]
theorem fr_cd {c : UInt8} (h : cd c < 4) : cd (fr c) < 4 := by
 unfold fr
 split
 ·decide
 ·exact h
def ext (w : Int) (s : List UInt8) : List UInt8 × Nat :=
 if w < 1 ∨ 128 < w then ([], 1) else match s with
  | [] => ([], 3)
  | c :: t => if (c :: t).all isC = false then ([], 3) else if w < ((c :: t).length : Int) then ([], 8) else (List.replicate (w.toNat - (c :: t).length) (fr c) ++ (c :: t), 0)
def shq : List UInt8 → List UInt8
 | a :: b :: r => if a = fr b then shq (b :: r) else a :: b :: r
 | l => l
def shr (v : List UInt8) : List UInt8 := if isV v = true then shq v else []
theorem shq_cons2 (a b : UInt8) (r : List UInt8) : shq (a :: b :: r) = if a = fr b then shq (b :: r) else a :: b :: r := rfl
theorem shq_form : ∀ (v : List UInt8), v ≠ [] → ∃ k c t, shq v = c :: t ∧ v = List.replicate k (fr c) ++ (c :: t)
 | [], h => absurd rfl h
 | [a], _ => ⟨0, a, [], rfl, rfl⟩
 | a :: b :: r, _ => by
  obtain ⟨k, c, t, h1, h2⟩ := shq_form (b :: r) (by simp)
  rw [shq_cons2]
  by_cases h : a = fr b
  ·rw [if_pos h]
   refine ⟨k + 1, c, t, h1, ?_⟩
   have hb : fr b = fr c := by
    cases k with
    | zero => simp only [List.replicate_zero, List.nil_append] at h2; injection h2 with h3 _; rw [h3]
    | succ k => rw [List.replicate_succ, List.cons_append] at h2; injection h2 with h3 _; rw [h3, fr_fr]
   rw [List.replicate_succ, List.cons_append, ← h2, h, hb]
  ·rw [if_neg h]
   exact ⟨0, a, b :: r, rfl, rfl⟩
theorem ext_shr {v : List UInt8} (h : isV v = true) : ext (v.length : Int) (shr v) = (v, 0) := by
 obtain ⟨h1, h2, h3⟩ := isV_iff.1 h
 obtain ⟨k, c, t, e1, e2⟩ := shq_form v h2
 have hl := congrArg List.length e2
 rw [List.length_append, List.length_replicate] at hl
 have hpos : 0 < v.length := List.length_pos_iff.2 h2
 unfold shr ext
 rw [if_pos h, e1, if_neg (by omega)]
 simp only
 have ha : (c :: t).all isC = true := by
  rw [List.all_eq_true]
  intro x hx
  unfold isC
  rw [decide_eq_true_iff]
  exact h1 x (by rw [e2]; exact List.mem_append_right _ hx)
 rw [ha, if_neg (by simp), if_neg (by omega)]
 rw [Int.toNat_natCast, show v.length - (c :: t).length = k by omega, ← e2]
theorem shr_len (v : List UInt8) : (shr v).length ≤ v.length ∧ (isV v = true → shr v ≠ []) := by
 unfold shr
 by_cases h : isV v = true
 ·rw [if_pos h]
  obtain ⟨k, c, t, e1, e2⟩ := shq_form v (isV_iff.1 h).2.1
  refine ⟨?_, fun _ => by rw [e1]; simp⟩
  rw [e1]
  have hl := congrArg List.length e2
  rw [List.length_append, List.length_replicate] at hl
  omega
 ·rw [if_neg h]
  exact ⟨by simp, fun h2 => absurd h2 h⟩
theorem shr_len128 (v : List UInt8) : (shr v).length ≤ 128 := by
 by_cases h : isV v = true
 ·have := (shr_len v).1
  have := (isV_iff.1 h).2.2
  omega
 ·unfold shr; rw [if_neg h]; simp
theorem ext_vld {w : Int} {s v : List UInt8} (h : ext w s = (v, 0)) : vld w v = true := by
 unfold ext at h
 split at h
 ·cases h
 ·rename_i hw
  cases s with
  | nil => cases h
  | cons c t =>
   simp only at h
   split at h
   ·cases h
   ·rename_i ha
    split at h
    ·cases h
    ·rename_i hl
     injection h with h _
     subst h
     have ha2 : ∀ x ∈ c :: t, cd x < 4 := by
      have : (c :: t).all isC = true := by simpa using ha
      rw [List.all_eq_true] at this
      intro x hx
      have := this x hx
      unfold isC at this
      simpa using this
     have hlen : (List.replicate (w.toNat - (c :: t).length) (fr c) ++ (c :: t)).length = w.toNat := by
      rw [List.length_append, List.length_replicate]; omega
     refine vld_iff.2 ⟨isV_iff.2 ⟨fun x hx => ?_, by simp, by rw [hlen]; omega⟩, by rw [hlen]; omega⟩
     rcases List.mem_append.1 hx with hx | hx
     ·rw [List.eq_of_mem_replicate hx]
      exact fr_cd (ha2 c List.mem_cons_self)
     ·exact ha2 x hx
def mx (a b : UInt8) : UInt8 := ch (cd a ^^^ cd b)
def mixV (a b : List UInt8) : List UInt8 × Nat := if isV a = false ∨ isV b = false then ([], 1) else if a.length ≠ b.length then ([], 8) else (List.zipWith mx a b, 0)
theorem xor_lt : ∀ x, x < 4 → ∀ y, y < 4 → x ^^^ y < 4 ∧ (x ^^^ y) ^^^ y = x ∧ x ^^^ y = y ^^^ x ∧ (x + y) % 2 + 2 * ((x / 2 + y / 2) % 2) = x ^^^ y := by decide
theorem mx_lt {a b : UInt8} (ha : cd a < 4) (hb : cd b < 4) : cd (mx a b) < 4 := by
 unfold mx
 have := (xor_lt _ ha _ hb).1
 rw [cd_ch _ this]
 exact this
theorem mx_mx {a b : UInt8} (ha : cd a < 4) (hb : cd b < 4) : mx (mx a b) b = a := by
 have h1 := xor_lt _ ha _ hb
 show ch (cd (ch (cd a ^^^ cd b)) ^^^ cd b) = a
 rw [cd_ch _ h1.1, h1.2.1, ch_cd a ha]
theorem mx_comm {a b : UInt8} (ha : cd a < 4) (hb : cd b < 4) : mx a b = mx b a := by
 unfold mx
 rw [(xor_lt _ ha _ hb).2.2.1]
theorem zip_isV {a b : List UInt8} (ha : isV a = true) (hb : isV b = true) (hl : a.length = b.length) : isV (List.zipWith mx a b) = true ∧ (List.zipWith mx a b).length = a.length := by
 obtain ⟨a1, a2, a3⟩ := isV_iff.1 ha
 obtain ⟨b1, _, _⟩ := isV_iff.1 hb
 have hlen : (List.zipWith mx a b).length = a.length := by rw [List.length_zipWith]; omega
 refine ⟨isV_iff.2 ⟨fun c hc => ?_, fun h => ?_, by omega⟩, hlen⟩
 ·obtain ⟨i, hi, rfl⟩ := List.getElem_of_mem hc
  rw [List.getElem_zipWith]
  exact mx_lt (a1 _ (List.getElem_mem _)) (b1 _ (List.getElem_mem _))
 ·rw [h] at hlen
  exact a2 (List.eq_nil_of_length_eq_zero hlen.symm)
theorem mix_comm (a b : List UInt8) : mixV a b = mixV b a := by
 by_cases h1 : isV a = false ∨ isV b = false
 ·unfold mixV
  rw [if_pos h1, if_pos h1.symm]
 ·have e1 : mixV a b = if a.length ≠ b.length then ([], 8) else (List.zipWith mx a b, 0) := by unfold mixV; rw [if_neg h1]
  have e2 : mixV b a = if b.length ≠ a.length then ([], 8) else (List.zipWith mx b a, 0) := by unfold mixV; rw [if_neg (fun h => h1 h.symm)]
  rw [e1, e2]
  by_cases h2 : a.length = b.length
  ·rw [if_neg (by omega), if_neg (by omega)]
   simp only [not_or, Bool.not_eq_false] at h1
   obtain ⟨a1, _, _⟩ := isV_iff.1 h1.1
   obtain ⟨b1, _, _⟩ := isV_iff.1 h1.2
   congr 1
   apply List.ext_getElem
   ·simp [h2]
   ·intro i k1 k2
    rw [List.getElem_zipWith, List.getElem_zipWith]
    exact mx_comm (a1 _ (List.getElem_mem _)) (b1 _ (List.getElem_mem _))
  ·rw [if_pos h2, if_pos (Ne.symm h2)]
theorem mix_back {a b : List UInt8} (ha : isV a = true) (hb : isV b = true) (hl : a.length = b.length) : ∃ m, mixV a b = (m, 0) ∧ isV m = true ∧ m.length = a.length ∧ mixV m b = (a, 0) := by
 obtain ⟨m1, m2⟩ := zip_isV ha hb hl
 obtain ⟨a1, _, _⟩ := isV_iff.1 ha
 obtain ⟨b1, _, _⟩ := isV_iff.1 hb
 refine ⟨List.zipWith mx a b, ?_, m1, m2, ?_⟩
 ·unfold mixV
  rw [if_neg (by simp [ha, hb]), if_neg (by omega)]
 ·unfold mixV
  rw [if_neg (by simp [m1, hb]), if_neg (by omega)]
  congr 1
  apply List.ext_getElem
  ·rw [List.length_zipWith]; omega
  ·intro i k1 k2
   rw [List.getElem_zipWith, List.getElem_zipWith]
   exact mx_mx (a1 _ (List.getElem_mem _)) (b1 _ (List.getElem_mem _))
def sm : List UInt8 → List UInt8 → Nat → List UInt8 × Nat
 | x :: a, y :: b, c => (UInt8.ofNat (48 + (cd x + cd y + (sm a b c).2) % 2) :: (sm a b c).1, (cd x + cd y + (sm a b c).2) / 2)
 | _, _, c => ([], c)
def inv (v : List UInt8) : List UInt8 := v.map (fun c => ch (if cd c < 2 then 1 - cd c else cd c))
def addV (a b : List UInt8) : List UInt8 × Bool := if knV a = true ∧ knV b = true ∧ a.length = b.length then ((sm a b 0).1, true) else ([], false)
def difV (a b : List UInt8) : List UInt8 × Bool := if knV a = true ∧ knV b = true ∧ a.length = b.length then ((sm b (inv a) 1).1, true) else ([], false)
theorem sm_len : ∀ (a b : List UInt8) (c : Nat), a.length = b.length → (sm a b c).1.length = a.length
 | [], [], _, _ => rfl
 | x :: a, y :: b, c, h => by
  show ((sm a b c).1.length + 1) = _
  rw [sm_len a b c (by simpa using h)]
  rfl
theorem sm_dig : ∀ (a b : List UInt8) (c : Nat), ∀ d ∈ (sm a b c).1, cd d < 2
 | [], _, _ => fun d hd => by simp [sm] at hd
 | _ :: _, [], _ => fun d hd => by simp [sm] at hd
 | x :: a, y :: b, c => fun d hd => by
  rcases List.mem_cons.1 hd with rfl | hd
  ·rcases Nat.mod_two_eq_zero_or_one (cd x + cd y + (sm a b c).2) with h | h <;> rw [h] <;> decide
  ·exact sm_dig a b c d hd
theorem addV_known {a b v : List UInt8} (h : addV a b = (v, true)) : knV v = true ∧ v.length = a.length ∧ knV a = true ∧ knV b = true ∧ a.length = b.length := by
 unfold addV at h
 split at h
 ·rename_i hc
  injection h with h _
  subst h
  obtain ⟨a1, a2, a3⟩ := knV_iff.1 hc.1
  have hl := sm_len a b 0 hc.2.2
  refine ⟨knV_iff.2 ⟨sm_dig a b 0, fun e => ?_, by omega⟩, hl, hc⟩
  rw [e] at hl
  exact a2 (List.eq_nil_of_length_eq_zero hl.symm)
 ·cases h
theorem difV_known {a b v : List UInt8} (h : difV a b = (v, true)) : knV v = true ∧ v.length = a.length := by
 unfold difV at h
 split at h
 ·rename_i hc
  injection h with h _
  subst h
  obtain ⟨a1, a2, a3⟩ := knV_iff.1 hc.1
  have hl := sm_len b (inv a) 1 (by unfold inv; rw [List.length_map]; omega)
  refine ⟨knV_iff.2 ⟨sm_dig b (inv a) 1, fun e => ?_, by omega⟩, by omega⟩
  rw [e] at hl
  exact a2 (List.eq_nil_of_length_eq_zero (by simp at hl; omega))
 ·cases h
end Wv.Bc
/-
  The walks over the models, fourth part: a new model of numbers.
-/
namespace Go.Proofs.YtoeeblldgoccoaaGreat
open Go.RowKit Go.Proofs Wv Wv.Vi Wv.Rc Wv.Mo
set_option linter.unusedVariables false

theorem intinf : (Tryz.prog.info? 3).map (fun i => (i.zero, i.size, i.bytes)) = some (some (.int .i64 0), 1, 8) := by kernel_rfl
def half (j : Nat) : List Nat := List.replicate j 1024 ++ List.replicate (64 - j) 0
theorem half_set (j : Nat) (h : j < 64) : (half j).set j 1024 = half (j + 1) := by
 unfold half
 rw [List.set_append_right _ _ (by simp), List.length_replicate, Nat.sub_self, show 64 - j = (64 - (j + 1)) + 1 from by omega, List.replicate_succ, List.set_cons_zero, List.replicate_succ', List.append_assoc]
 rfl
theorem half_length (j : Nat) (h : j ≤ 64) : (half j).length = 64 := by simp [half]; omega
theorem half_all : half 64 = t0 := by decide
theorem half_none : nc (half 0) = Array.replicate 64 (.int .i64 0) := by
 apply Array.toList_inj.1
 simp [nc, half]

set_option maxHeartbeats 1000000 in
theorem plant_any (w : World) :
  Calls Tryz.prog 166 #[.int .i64 1, .int .i64 6] w fun x w' => x = .returned (.slice (some ⟨w.heap.size + 1, 0, none⟩) 1 1) ∧ Bk w' w.heap.size 3 (nc t0) ∧ Bk w' (w.heap.size + 1) 194 #[.int .i64 6, .slice (some ⟨w.heap.size, 0, none⟩) 64 64] ∧ Below w.heap.size w w' := by
 have hmk := mk_row (P := Tryz.prog) 85 3 _ _ Tryz.underlying85 intinf rfl 64 64 rfl (by omega) (by omega) w
 rw [← half_none] at hmk
 have hmk2 : ∀ w : World, (Instr.makeSlice 195 (.int .i64 1) (.int .i64 1)).run Tryz.prog w = .ok (.slice (some ⟨w.heap.size, 0, none⟩) 1 1) (w.alloc (.cells #[.int .i64 0, .slice none 0 0] 194)) := fun _ => by kernel_rfl
 go_enter Tryz.func166, Tryz.ntmps166
 go_wp2
 go_loopw [6, 17] (fun _ i wr => ∃ j : Nat, j ≤ 64 ∧ i = .int .i64 j ∧ Bk wr w.heap.size 3 (nc (half j)) ∧ Below w.heap.size w wr ∧ wr.heap.size = w.heap.size + 1) (fun _ i _ => (64 - intOf i).toNat)
 case atStart => exact ⟨0, by omega, rfl, Bk.new _ _ _, (Below.refl _ _).alloc (Nat.le_refl _) _, by simp⟩
 case round =>
  obtain ⟨j, hj, rfl, hbk, hf, hsz⟩ := hrel
  by_cases hlt : j < 64
  ·have hc := hbk.cell j
   rw [nc_get _ _ (by rw [half_length j hj]; exact hlt)] at hc
   have fc := hbk.frozen j
   have hp := hbk.put j (.int .i64 ((1024 : Nat) : Int))
   rw [nc_set, half_set j hlt] at hp
   have Hp := hide hp
   have Hz := hide hsz
   clear hp hbk hsz hmk
   go_wp2
   go_roundw
   case rel => exact ⟨j + 1, by omega, by go_num, Hp.out, hf.setCell (p := ⟨w.heap.size, j, none⟩) (Nat.le_refl _) _, by simpa using Hz.out⟩
   case measure => simp [intOf] <;> omega
  ·have hj64 : j = 64 := by omega
   subst hj64
   have Hz := hide hsz
   have Hbk := hide hbk
   clear hsz hbk hmk
   go_wp2
   rw [Hz.out]
   have hf2 := hf.alloc hf.size (.cells #[.int .i64 0, .slice none 0 0] 194)
   have hb2 := Hbk.out.alloc (.cells #[.int .i64 0, .slice none 0 0] 194)
   have hb3 : Bk (wr.alloc (.cells #[.int .i64 0, .slice none 0 0] 194)) (w.heap.size + 1) 194 #[.int .i64 0, .slice none 0 0] := Hz.out ▸ Bk.new wr _ _
   go_loopw [8, 9, 10, 28] (fun _ _ _ i wr2 => ∃ j : Nat, j ≤ 1 ∧ i = .int .i64 j ∧ (j = 0 → Bk wr2 (w.heap.size + 1) 194 #[.int .i64 0, .slice none 0 0]) ∧ (j = 1 → Bk wr2 (w.heap.size + 1) 194 #[.int .i64 6, .slice (some ⟨w.heap.size, 0, none⟩) 64 64]) ∧ Bk wr2 w.heap.size 3 (nc (half 64)) ∧ Below w.heap.size w wr2) (fun _ _ _ i _ => (1 - intOf i).toNat)
   case atStart => exact ⟨0, by omega, rfl, fun _ => hb3, fun h => by omega, hb2, hf2⟩
   case round =>
    clear hf2 hb2 hb3 hf
    obtain ⟨j, hj, rfl, h0, h1, hb, hf⟩ := hrel
    by_cases hlt : j < 1
    ·have hj0 : j = 0 := by omega
     subst hj0
     have hb0 := h0 rfl
     have q0 := hb0.cell 0
     have q1 := hb0.cell 1
     have p0 := hb0.frozen 0
     have p1 := hb0.frozen 1
     simp at q0 q1
     have Hb0 := hide hb0
     clear h0 h1 hb0 hlt
     go_wp2
     go_region
     go_wp2
     go_roundw
     case rel =>
      refine ⟨1, by omega, rfl, fun h => by omega, fun _ => ?_, ?_, ?_⟩
      ·have h9 := (Hb0.out.put 0 (.int .i64 6)).put 1 (.slice (some ⟨w.heap.size, 0, none⟩) 64 64)
       have h8 := h9.drew
       simpa using h8
      ·exact ((hb.off (p := ⟨w.heap.size + 1, 0, none⟩) (by simp) _).off (p := ⟨w.heap.size + 1, 1, none⟩) (by simp) _).drew
      ·exact ((hf.setCell (p := ⟨w.heap.size + 1, 0, none⟩) (by simp) _).setCell (p := ⟨w.heap.size + 1, 1, none⟩) (by simp) _).drew
     case measure => simp [intOf]
    ·have hj1 : j = 1 := by omega
     subst hj1
     have hb1 := hide (h1 rfl)
     clear h0 h1
     go_wp2
     go_ret
     exact ⟨rfl, by rw [← half_all]; exact hb, hb1.out, hf⟩
set_option maxHeartbeats 1000000 in
theorem nnew_any (w : World) :
  Calls Tryz.prog 144 #[] w fun x w' => ∃ b, x = .returned (.pointer (some ⟨b, 0, none⟩)) ∧ w.heap.size ≤ b ∧ NAt w' b w.heap.size t0 ∧ Below w.heap.size w w' := by
 have Hp := hide (plant_any w)
 go_enter Tryz.func144, Tryz.ntmps144
 go_wp2_with fail
 refine (Hp.out).mono ?_
 rintro x w1 ⟨rfl, h0, h1, hb⟩
 have q0 := h1.cell 0
 have q1 := h1.cell 1
 simp at q0 q1
 have hs := hb.size
 have H0 := hide h0
 clear h0 h1
 go_wp2
 go_ret
 exact ⟨w1.heap.size, rfl, hs, ⟨Bk.new _ _ _, H0.out.alloc _⟩, hb.alloc hs _⟩
end Go.Proofs.YtoeeblldgoccoaaGreat
/-
  The walks over numbers as bytes, sixth part: a reader's text, and its end.
-/
namespace Go.Proofs.YtoeeblldgoccoaaGreat
open Go.RowKit Go.Proofs Wv Wv.Vi Wv.Ru
set_option linter.unusedVariables false

def textR (s : ByteArray) (e : Nat) (most : Int) : ByteArray × ByteArray × Nat :=
 if (takeR (numR s e most).2.1 (numR s e most).2.2 ((numR s e most).1 : Nat)).2.2 = 0 then takeR (numR s e most).2.1 (numR s e most).2.2 ((numR s e most).1 : Nat)
 else (bs [], s, (takeR (numR s e most).2.1 (numR s e most).2.2 ((numR s e most).1 : Nat)).2.2)
theorem numR_size {s : ByteArray} {e : Nat} {most : Int} : (numR s e most).2.1.size ≤ s.size := by
 unfold numR
 split
 ·split
  ·exact Nat.le_refl _
  ·split
   ·exact Nat.le_refl _
   ·rw [bs_size, List.length_drop, toL_length]; omega
 ·exact Nat.le_refl _
set_option maxHeartbeats 400000 in
theorem vtext_any {w : World} {b e : Nat} {s : ByteArray} (h : RV w b s e) (hm : s.size ≤ 1099511627776) (most : Int) :
  Calls Tryz.prog 135 #[.pointer (some ⟨b, 0, none⟩), .int .i64 most] w fun x w' => x = .returned (.string (textR s e most).1) ∧ RV w' b (textR s e most).2.1 (textR s e most).2.2 ∧ Fr (only b) w w' := by
 have h0 := h.c0
 have hlt := Bk.lt h
 have Hn := hide (vnum_any h hm most)
 have hsz := numR_size (s := s) (e := e) (most := most)
 have ht : textR s e most = if (takeR (numR s e most).2.1 (numR s e most).2.2 ((numR s e most).1 : Nat)).2.2 = 0 then takeR (numR s e most).2.1 (numR s e most).2.2 ((numR s e most).1 : Nat)
  else (bs [], s, (takeR (numR s e most).2.1 (numR s e most).2.2 ((numR s e most).1 : Nat)).2.2) := rfl
 generalize numR s e most = q at *
 obtain ⟨n, s1, e1⟩ := q
 generalize textR s e most = r at *
 obtain ⟨⟨t, s2, e2⟩, htk⟩ : ∃ x, takeR s1 e1 (n : Int) = x := ⟨_, rfl⟩
 simp only at ht Hn hsz
 rw [htk] at ht
 simp only at ht
 have Htk := hide htk
 have Hr := hide ht
 clear htk ht
 go_enter Tryz.func135, Tryz.ntmps135
 go_wp2_with fail
 refine (Hn.out).mono ?_
 rintro x w1 ⟨rfl, hr1, hf1⟩
 have Ht := hide (vtake_any hr1 (Nat.le_trans hsz hm) (n : Int))
 rw [Htk.out] at Ht
 go_wp2_with fail
 refine (Ht.out).mono ?_
 rintro x w2 ⟨rfl, hr2, hf2⟩
 have g1 := hr2.c1
 have g0 := hr2.c0
 have p0 := hr2.f0
 have hf := hf1.trans hf2
 by_cases he : e2 = 0
 ·subst he
  go_wp2
  go_ret
  rw [Hr.out]
  exact ⟨rfl, hr2, hf⟩
 ·have hne : ((e2 : Int) != 0) = true := by rw [bne_iff_ne]; omega
  have Hr2 : Hid (r = (bs [], s, e2)) := hide (by rw [Hr.out, if_neg he])
  clear he
  go_wp2
  go_ret
  rw [Hr2.out]
  exact ⟨rfl, by simpa [RV] using Bk.put hr2 0 (.string s), hf.setCell (p := ⟨b, 0, none⟩) (.inl rfl) _⟩
def endR (s : ByteArray) (e : Nat) : Nat := if e = 0 ∧ s.size ≠ 0 then 12 else e
set_option maxHeartbeats 400000 in
theorem vend_any {w : World} {b e : Nat} {s : ByteArray} (h : RV w b s e) :
  Calls Tryz.prog 134 #[.pointer (some ⟨b, 0, none⟩)] w fun x w' => x = .returned (.int .i64 (endR s e : Nat)) ∧ Fr (only b) w w' := by
 have h0 := h.c0
 have h1 := h.c1
 by_cases he : e = 0
 ·subst he
  by_cases hs : s.size = 0
  ·have hr : endR s 0 = 0 := by unfold endR; rw [if_neg (by omega)]
   have hem := emp1 hs
   have Hr := hide hr
   clear hs hr
   go_enter Tryz.func134, Tryz.ntmps134
   go_wp2
   go_ret
   exact ⟨ret_int (by rw [Hr.out]; rfl), Fr.refl _ _⟩
  ·have hr : endR s 0 = 12 := by unfold endR; rw [if_pos ⟨rfl, hs⟩]
   have hem := emp0 (s := s) (by omega)
   have Hr := hide hr
   have Hf := hide (vfail_any h 12)
   clear hs hr
   go_enter Tryz.func134, Tryz.ntmps134
   go_wp2_with fail
   refine (Hf.out).mono ?_
   rintro x w2 ⟨rfl, hr2, hf2⟩
   have g1 := hr2.c1
   go_wp2
   go_ret
   exact ⟨ret_int (by rw [Hr.out]; rfl), hf2⟩
 ·have hr : endR s e = e := by unfold endR; rw [if_neg (by omega)]
  have hne : ((e : Int) == 0) = false := by rw [beq_eq_false_iff_ne]; omega
  have Hr := hide hr
  clear hr he
  go_enter Tryz.func134, Tryz.ntmps134
  go_wp2
  go_ret
  exact ⟨ret_int (by rw [Hr.out]), Fr.refl _ _⟩
end Go.Proofs.YtoeeblldgoccoaaGreat
/-
  What holds of the runs of a list of texts, in plain Lean. No program stands here.
-/
namespace Wv.Ru
open Wv.Vi Wv.Rc Wv.Mo
set_option linter.unusedSectionVars false
def nx (l : List Nat) : Nat := l.foldl (fun a x => if x = a then a + 1 else a) 0
structure RunsOk (I C : List Nat) (len dl : Nat) : Prop where
 size : I.length = C.length
 sum : C.sum = len
 next : nx I = dl
 pos : ∀ c ∈ C, 1 ≤ c
 each : ∀ k (h : k < I.length), I[k] ≤ nx (I.take k)
 apart : ∀ k (h : k + 1 < I.length), I[k] ≠ I[k + 1]
section
variable {α : Type} [DecidableEq α]
end
end Wv.Ru
/-
  Two appends in one statement, in whatever order.
-/
namespace Wv
open Go Go.RowKit
set_option linter.unusedVariables false
structure TwoSt (wb : World) (B : Nat) (e : TypeId) (v1 : Value) (xs : List Value) (v2 : Value) (ys : List Value) (w : World) : Prop where
 own1 : w.ownsRow B e 1 v1 xs.length xs
 own2 : w.ownsRow B e 1 v2 ys.length ys
 apart : ∀ g, v1.ownBlock = some g → v2.ownBlock ≠ some g
 bel : Below B wb w
 base : B ≤ w.heap.size
theorem TwoSt.alloc {wb w : World} {B : Nat} {e : TypeId} {v1 v2 : Value} {xs ys : List Value} (h : TwoSt wb B e v1 xs v2 ys w) (o : Obj) : TwoSt wb B e v1 xs v2 ys (w.alloc o) :=
 ⟨h.own1.alloc o, h.own2.alloc o, h.apart, h.bel.alloc h.base o, Nat.le_trans h.base (by simp)⟩
theorem TwoSt.drew {wb w : World} {B : Nat} {e : TypeId} {v1 v2 : Value} {xs ys : List Value} (h : TwoSt wb B e v1 xs v2 ys w) : TwoSt wb B e v1 xs v2 ys w.drew := ⟨h.own1, h.own2, h.apart, h.bel.drew, h.base⟩
theorem TwoSt.swap {wb w : World} {B : Nat} {e : TypeId} {v1 v2 : Value} {xs ys : List Value} (h : TwoSt wb B e v1 xs v2 ys w) : TwoSt wb B e v2 ys v1 xs w := ⟨h.own2, h.own1, fun g h1 h2 => h.apart g h2 h1, h.bel, h.base⟩
theorem two_step {P : Program} (t e : TypeId) (z : Value) (bytes : Nat) (ht : P.underlying t = some (.slice e)) (hinfo : (P.info? e).map (fun i => (i.zero, i.size, i.bytes)) = some (some z, 1, bytes)) (hz1 : z.cells.size = 1) {wb w : World} {B : Nat} {v1 v2 : Value} {xs ys : List Value} (h : TwoSt wb B e v1 xs v2 ys w) (a : Nat) (x : Value) (ha : w.cell? ⟨a, 0, none⟩ = some x) (h1 : x.oneCell' = true) (h63 : xs.length + 1 ≤ maxLen) (hby : (xs.length + 1) * bytes ≤ 140737488355328) :
    ∃ v' w', (Builtin.append_ #[t, t] t #[v1, .slice (some ⟨a, 0, none⟩) 1 1]).run P w = .ok v' w' ∧ TwoSt wb B e v' (xs ++ [x]) v2 ys w' ∧ (∀ b, some b ≠ v1.ownBlock → b < w.heap.size → w'.cell? ⟨b, 0, none⟩ = w.cell? ⟨b, 0, none⟩) ∧ (∀ xb T cs, Bk w xb T cs → T ≠ e → Bk w' xb T cs) := by
  obtain ⟨i, hi, hz, hs, hb⟩ := info_parts hinfo
  obtain ⟨v', w', hr, h2, h3, _, h5⟩ := run_append_own_at (P := P) w B t t e i z 1 bytes ht hi hz hs hb hz1 (by omega) v1 xs.length xs h.own1 ⟨a, 0, none⟩ 1 1 [x] rfl (fun j u hu => by
      cases j with
      | zero =>
        simp at hu; subst hu
        exact ha
      | succ j => simp at hu) (by simpa using h1) h63 hby h.base
  have hfr : Fr (fun k => v1.ownBlock = some k) w w' := (Fr.refl _ w).grown h3 (fun k hk => .inl hk)
  refine ⟨v', w', hr, ⟨by rw [List.length_append]; exact h2, own_fr h.own2 hfr (fun g hg e => h.apart g e hg), fun g hg => ?_, h.bel.grown h3 h.base (fun k hk => (h.own1.lt k hk).1), Nat.le_trans h.base hfr.size⟩, fun b hb hlt => hfr.cell (p := ⟨b, 0, none⟩) hlt (fun e => hb e.symm), fun xb T cs hb hT => hb.grown h3 (fun e => own_apart h.own1 hb (fun e => hT e.symm) e.symm)⟩
  rcases h5 with h5 | h5
  · exact h.apart g (h5 ▸ hg)
  · intro h6
    have h7 : some g = some w.heap.size := hg.symm.trans h5
    injection h7 with h7
    have := (h.own2.lt g h6).2
    omega
theorem two_both {P : Program} (t e : TypeId) (z : Value) (bytes : Nat) (ht : P.underlying t = some (.slice e)) (hinfo : (P.info? e).map (fun i => (i.zero, i.size, i.bytes)) = some (some z, 1, bytes)) (hz1 : z.cells.size = 1) {wb w : World} {B : Nat} {v1 v2 : Value} {xs ys : List Value} (h : TwoSt wb B e v1 xs v2 ys w) (x y : Value) (hx : x.oneCell' = true) (hy : y.oneCell' = true) (hxl : xs.length + 1 ≤ maxLen) (hxb : (xs.length + 1) * bytes ≤ 140737488355328)
  (hyl : ys.length + 1 ≤ maxLen) (hyb : (ys.length + 1) * bytes ≤ 140737488355328) (xb : Nat) (T : TypeId) (cs : Array Value) (hk : Bk w xb T cs) (hT : T ≠ e) :
  (∃ a1 w1 a2 w2, (Builtin.append_ #[t, t] t #[v1, .slice (some ⟨w.heap.size, 0, none⟩) 1 1]).run P (w.alloc (.cells #[x] e)).drew = .ok a1 w1 ∧ (Builtin.append_ #[t, t] t #[v2, .slice (some ⟨w1.heap.size, 0, none⟩) 1 1]).run P (w1.alloc (.cells #[y] e)) = .ok a2 w2 ∧ TwoSt wb B e a1 (xs ++ [x]) a2 (ys ++ [y]) w2 ∧ Bk w1 xb T cs ∧ Bk w2 xb T cs) ∧
  (∃ a1 w1 a2 w2, (Builtin.append_ #[t, t] t #[v1, .slice (some ⟨w.heap.size, 0, none⟩) 1 1]).run P ((w.alloc (.cells #[x] e)).alloc (.cells #[y] e)).drew = .ok a1 w1 ∧ (Builtin.append_ #[t, t] t #[v2, .slice (some ⟨w.heap.size + 1, 0, none⟩) 1 1]).run P w1 = .ok a2 w2 ∧ TwoSt wb B e a1 (xs ++ [x]) a2 (ys ++ [y]) w2 ∧ Bk w1 xb T cs ∧ Bk w2 xb T cs) ∧
  (∃ a1 w1 a2 w2, (Builtin.append_ #[t, t] t #[v1, .slice (some ⟨w.heap.size + 1, 0, none⟩) 1 1]).run P ((w.alloc (.cells #[y] e)).alloc (.cells #[x] e)).drew = .ok a1 w1 ∧ (Builtin.append_ #[t, t] t #[v2, .slice (some ⟨w.heap.size, 0, none⟩) 1 1]).run P w1 = .ok a2 w2 ∧ TwoSt wb B e a1 (xs ++ [x]) a2 (ys ++ [y]) w2 ∧ Bk w1 xb T cs ∧ Bk w2 xb T cs) := by
 have hlt1 : ∀ g, v1.ownBlock = some g → g < w.heap.size := fun g hg => (h.own1.lt g hg).2
 have cx : (w.alloc (.cells #[x] e)).cell? ⟨w.heap.size, 0, none⟩ = some x := (Bk.new w e #[x]).cell 0
 have cy : (w.alloc (.cells #[y] e)).cell? ⟨w.heap.size, 0, none⟩ = some y := (Bk.new w e #[y]).cell 0
 have hs1 : (w.alloc (.cells #[x] e)).heap.size = w.heap.size + 1 := by simp
 have hs2 : (w.alloc (.cells #[y] e)).heap.size = w.heap.size + 1 := by simp
 refine ⟨?_, ?_, ?_⟩
 ·obtain ⟨a1, w1, r1, t1, _, b1⟩ := two_step t e z bytes ht hinfo hz1 (h.alloc (.cells #[x] e)).drew w.heap.size x cx hx hxl hxb
  obtain ⟨a2, w2, r2, t2, _, b2⟩ := two_step t e z bytes ht hinfo hz1 (t1.swap.alloc (.cells #[y] e)) w1.heap.size y ((Bk.new w1 e #[y]).cell 0) hy hyl hyb
  exact ⟨a1, w1, a2, w2, r1, r2, t2.swap, b1 xb T cs (hk.alloc (.cells #[x] e)).drew hT, b2 xb T cs ((b1 xb T cs (hk.alloc (.cells #[x] e)).drew hT).alloc (.cells #[y] e)) hT⟩
 ·have c1 : ((w.alloc (.cells #[x] e)).alloc (.cells #[y] e)).drew.cell? ⟨w.heap.size, 0, none⟩ = some x := ((Bk.new w e #[x]).alloc (.cells #[y] e)).cell 0
  have c2 : ((w.alloc (.cells #[x] e)).alloc (.cells #[y] e)).drew.cell? ⟨w.heap.size + 1, 0, none⟩ = some y := by
   have := (Bk.new (w.alloc (.cells #[x] e)) e #[y]).cell 0
   rw [hs1] at this
   exact this
  obtain ⟨a1, w1, r1, t1, k1, b1⟩ := two_step t e z bytes ht hinfo hz1 ((h.alloc (.cells #[x] e)).alloc (.cells #[y] e)).drew w.heap.size x c1 hx hxl hxb
  have c3 := (k1 (w.heap.size + 1) (fun e => by have := hlt1 _ e.symm; omega) (by show _ < ((w.alloc (.cells #[x] e)).alloc (.cells #[y] e)).heap.size; simp <;> omega)).trans c2
  obtain ⟨a2, w2, r2, t2, _, b2⟩ := two_step t e z bytes ht hinfo hz1 t1.swap (w.heap.size + 1) y c3 hy hyl hyb
  exact ⟨a1, w1, a2, w2, r1, r2, t2.swap, b1 xb T cs ((hk.alloc (.cells #[x] e)).alloc (.cells #[y] e)).drew hT, b2 xb T cs (b1 xb T cs ((hk.alloc (.cells #[x] e)).alloc (.cells #[y] e)).drew hT) hT⟩
 ·have c1 : ((w.alloc (.cells #[y] e)).alloc (.cells #[x] e)).drew.cell? ⟨w.heap.size, 0, none⟩ = some y := ((Bk.new w e #[y]).alloc (.cells #[x] e)).cell 0
  have c2 : ((w.alloc (.cells #[y] e)).alloc (.cells #[x] e)).drew.cell? ⟨w.heap.size + 1, 0, none⟩ = some x := by
   have := (Bk.new (w.alloc (.cells #[y] e)) e #[x]).cell 0
   rw [hs2] at this
   exact this
  obtain ⟨a1, w1, r1, t1, k1, b1⟩ := two_step t e z bytes ht hinfo hz1 ((h.alloc (.cells #[y] e)).alloc (.cells #[x] e)).drew (w.heap.size + 1) x c2 hx hxl hxb
  have c3 := (k1 w.heap.size (fun e => by have := hlt1 _ e.symm; omega) (by show _ < ((w.alloc (.cells #[y] e)).alloc (.cells #[x] e)).heap.size; simp <;> omega)).trans c1
  obtain ⟨a2, w2, r2, t2, _, b2⟩ := two_step t e z bytes ht hinfo hz1 t1.swap w.heap.size y c3 hy hyl hyb
  exact ⟨a1, w1, a2, w2, r1, r2, t2.swap, b1 xb T cs ((hk.alloc (.cells #[y] e)).alloc (.cells #[x] e)).drew hT, b2 xb T cs (b1 xb T cs ((hk.alloc (.cells #[y] e)).alloc (.cells #[x] e)).drew hT) hT⟩
end Wv
/-
  The built-in append of a row that is only seen (a caller's): copies; a copy with one more element, in whatever order.
-/
namespace Wv
open Go Go.RowKit
set_option linter.unusedVariables false
theorem run_appAt {P : Program} (t e : TypeId) (z : Value) (bytes : Nat) (ht : P.underlying t = some (.slice e)) (hinfo : (P.info? e).map (fun i => (i.zero, i.size, i.bytes)) = some (some z, 1, bytes)) (hz1 : z.cells.size = 1) {w : World} {base : Nat} {v : Value} {n : Nat} {xs ys : List Value} (hv : w.ownsRow base e 1 v n xs) {A : Option Addr} (hu : At w A ys) (cap m : Nat) (hm : m = ys.length) (hA : A = none → ys = []) (h1 : ∀ y ∈ ys, y.oneCell' = true)
  (h63 : n + m ≤ maxLen) (hbytes : (n + m) * bytes ≤ 140737488355328) (hbase : base ≤ w.heap.size) :
  ∃ v' w', (Builtin.append_ #[t, t] t #[v, .slice A m cap]).run P w = .ok v' w' ∧ w'.ownsRow base e 1 v' (n + m) (xs ++ ys) ∧ w.grownBy w' v.ownBlock ∧ (v'.ownBlock = v.ownBlock ∨ v'.ownBlock = some w.heap.size) := by
 obtain ⟨i, hi, hz, hs, hby⟩ := info_parts hinfo
 cases A with
 | none =>
  have hy := hA rfl
  subst hy
  simp at hm
  subst hm
  refine ⟨v, w, ?_, by simpa using hv, ⟨rfl, rfl, rfl, Nat.le_refl _, fun _ _ _ => rfl⟩, .inl rfl⟩
  rcases hv.2 with ⟨rfl, rfl⟩ | ⟨g, cap, cur, rfl, _, _, hnc, _⟩
  ·simp [Builtin.append_, run_underlying ht, Go.sizeOf, typeInfo, hi, Builtin.lenOf, Builtin.firstCells]
  ·simp [Builtin.append_, run_underlying ht, Go.sizeOf, typeInfo, hi, Builtin.lenOf, Builtin.firstCells, hnc, storeCells]
 | some a =>
  obtain ⟨v', w', hr, h2, h3, _, h5⟩ := run_append_own_at (P := P) w base t t e i z 1 bytes ht hi hz hs hby hz1 (by omega) v n xs hv a m cap ys (by omega) (fun j u hj => by
   obtain ⟨hlt, rfl⟩ := List.getElem?_eq_some_iff.1 hj
   obtain ⟨b, o, hA, hb, hc⟩ := hu j hlt
   injection hA with hA
   subst hA
   rw [Go.WideShapes.add_plain]
   exact hc) h1 h63 hbytes hbase
  exact ⟨v', w', hr, h2, h3, h5⟩
theorem own_made0 (e : TypeId) (w : World) : (w.alloc (.cells #[] e)).ownsRow w.heap.size e 1 (.slice (some ⟨w.heap.size, 0, none⟩) 0 0) 0 [] :=
 World.ownsRow_made w #[] 0 (Nat.le_refl _) (by unfold maxLen; omega) rfl
theorem run_copy {P : Program} (t e : TypeId) (z : Value) (bytes : Nat) (ht : P.underlying t = some (.slice e)) (hinfo : (P.info? e).map (fun i => (i.zero, i.size, i.bytes)) = some (some z, 1, bytes)) (hz1 : z.cells.size = 1) {w : World} {ys : List Value} {A : Option Addr} (hu : At w A ys) (cap m : Nat) (hm : m = ys.length) (hA : A = none → ys = []) (h1 : ∀ y ∈ ys, y.oneCell' = true) (h63 : m ≤ maxLen) (hbytes : m * bytes ≤ 140737488355328) :
  ∃ v' w', (Builtin.append_ #[t, t] t #[.slice (some ⟨w.heap.size, 0, none⟩) 0 0, .slice A m cap]).run P (w.alloc (.cells #[] e)) = .ok v' w' ∧ w'.ownsRow w.heap.size e 1 v' m ys ∧ Below w.heap.size w w' ∧ (∀ xb T cs, Bk w xb T cs → Bk w' xb T cs) := by
 obtain ⟨v', w', hr, ho, hg, _⟩ := run_appAt t e z bytes ht hinfo hz1 (own_made0 e w) (hu.alloc (.cells #[] e)) cap m hm hA h1 (by omega) (by rw [Nat.zero_add]; exact hbytes) (by simp)
 refine ⟨v', w', hr, by simpa using ho, ((Below.refl w.heap.size w).alloc (Nat.le_refl _) (.cells #[] e)).grown hg (by simp) (fun k hk => by simp [Value.ownBlock] at hk; omega), fun xb T cs hk => ?_⟩
 exact (hk.alloc (.cells #[] e)).grown hg (fun e => by
  have := hk.lt
  simp [Value.ownBlock] at e
  omega)
theorem copy_push {P : Program} (t e : TypeId) (z : Value) (bytes : Nat) (ht : P.underlying t = some (.slice e)) (hinfo : (P.info? e).map (fun i => (i.zero, i.size, i.bytes)) = some (some z, 1, bytes)) (hz1 : z.cells.size = 1) {w : World} {ys : List Value} {A : Option Addr} (hu : At w A ys) (cap m : Nat) (hm : m = ys.length) (hA : A = none → ys = []) (h1 : ∀ y ∈ ys, y.oneCell' = true) (x : Value) (hx : x.oneCell' = true) (h63 : m + 1 ≤ maxLen) (hbytes : (m + 1) * bytes ≤ 140737488355328) :
  (∃ v1 w1 v2 w2, (Builtin.append_ #[t, t] t #[.slice (some ⟨w.heap.size, 0, none⟩) 0 0, .slice A m cap]).run P (w.alloc (.cells #[] e)).drew = .ok v1 w1 ∧ (Builtin.append_ #[t, t] t #[v1, .slice (some ⟨w1.heap.size, 0, none⟩) 1 1]).run P (w1.alloc (.cells #[x] e)) = .ok v2 w2 ∧
   w2.ownsRow w.heap.size e 1 v2 (m + 1) (ys ++ [x]) ∧ Below w.heap.size w w2 ∧ (∀ xb T cs, Bk w xb T cs → Bk w1 xb T cs ∧ Bk w2 xb T cs) ∧ w.heap.size ≤ w1.heap.size) ∧
  (∃ v1 w1 v2 w2, (Builtin.append_ #[t, t] t #[.slice (some ⟨w.heap.size, 0, none⟩) 0 0, .slice A m cap]).run P ((w.alloc (.cells #[] e)).alloc (.cells #[x] e)).drew = .ok v1 w1 ∧ (Builtin.append_ #[t, t] t #[v1, .slice (some ⟨w.heap.size + 1, 0, none⟩) 1 1]).run P w1 = .ok v2 w2 ∧
   w2.ownsRow w.heap.size e 1 v2 (m + 1) (ys ++ [x]) ∧ Below w.heap.size w w2 ∧ (∀ xb T cs, Bk w xb T cs → Bk w1 xb T cs ∧ Bk w2 xb T cs) ∧ w.heap.size ≤ w1.heap.size) ∧
  (∃ v1 w1 v2 w2, (Builtin.append_ #[t, t] t #[.slice (some ⟨w.heap.size + 1, 0, none⟩) 0 0, .slice A m cap]).run P ((w.alloc (.cells #[x] e)).alloc (.cells #[] e)).drew = .ok v1 w1 ∧ (Builtin.append_ #[t, t] t #[v1, .slice (some ⟨w.heap.size, 0, none⟩) 1 1]).run P w1 = .ok v2 w2 ∧
   w2.ownsRow w.heap.size e 1 v2 (m + 1) (ys ++ [x]) ∧ Below w.heap.size w w2 ∧ (∀ xb T cs, Bk w xb T cs → Bk w1 xb T cs ∧ Bk w2 xb T cs) ∧ w.heap.size ≤ w1.heap.size) := by
 obtain ⟨i, hi, hz, hs, hby⟩ := info_parts hinfo
 -- the second append, at whatever world
 have second : ∀ (w1 : World) (v1 : Value) (a : Nat), w1.ownsRow w.heap.size e 1 v1 m ys → w1.cell? ⟨a, 0, none⟩ = some x → w.heap.size ≤ w1.heap.size → Below w.heap.size w w1 → (∀ xb T cs, Bk w xb T cs → Bk w1 xb T cs) →
   ∃ v2 w2, (Builtin.append_ #[t, t] t #[v1, .slice (some ⟨a, 0, none⟩) 1 1]).run P w1 = .ok v2 w2 ∧ w2.ownsRow w.heap.size e 1 v2 (m + 1) (ys ++ [x]) ∧ Below w.heap.size w w2 ∧ (∀ xb T cs, Bk w xb T cs → Bk w2 xb T cs) := by
  intro w1 v1 a ho ha hsz hb hk
  obtain ⟨v2, w2, hr, h2, h3, _⟩ := run_append_own_at (P := P) w1 w.heap.size t t e i z 1 bytes ht hi hz hs hby hz1 (by omega) v1 m ys ho ⟨a, 0, none⟩ 1 1 [x] rfl (fun j u hu => by
   cases j with
   | zero => simp at hu; subst hu; exact ha
   | succ j => simp at hu) (by simpa using hx) h63 hbytes hsz
  refine ⟨v2, w2, hr, h2, hb.grown h3 hsz (fun k hk => (ho.lt k hk).1), fun xb T cs hx => (hk xb T cs hx).grown h3 (fun e => ?_)⟩
  have h4 := (ho.lt xb e.symm).1
  have h5 := hx.lt
  omega
 have hb0 : ∀ o : Obj, Below w.heap.size w (w.alloc o) := fun o => (Below.refl w.heap.size w).alloc (Nat.le_refl _) o
 refine ⟨?_, ?_, ?_⟩
 ·obtain ⟨v1, w1, r1, o1, b1, k1⟩ := run_copy t e z bytes ht hinfo hz1 (w := w.drew) hu cap m hm hA h1 (by omega) (Nat.le_trans (Nat.mul_le_mul_right _ (by omega)) hbytes)
  have b1' : Below w.heap.size w w1 := (Below.refl w.heap.size w).drew.trans b1
  obtain ⟨v2, w2, r2, o2, b2, k2⟩ := second (w1.alloc (.cells #[x] e)) v1 w1.heap.size (o1.alloc _) ((Bk.new w1 e #[x]).cell 0) (Nat.le_trans b1'.size (by simp)) (b1'.alloc b1'.size _) (fun xb T cs hk => (k1 xb T cs hk).alloc _)
  exact ⟨v1, w1, v2, w2, r1, r2, o2, b2, fun xb T cs hk => ⟨k1 xb T cs hk, k2 xb T cs hk⟩, b1'.size⟩
 ·have ho : ((w.alloc (.cells #[] e)).alloc (.cells #[x] e)).drew.ownsRow w.heap.size e 1 (.slice (some ⟨w.heap.size, 0, none⟩) 0 0) 0 [] := (own_made0 e w).alloc _
  obtain ⟨v1, w1, r1, o1, g1, _⟩ := run_appAt t e z bytes ht hinfo hz1 ho (A := A) (ys := ys) ((hu.alloc _).alloc _) cap m hm hA h1 (by omega) (Nat.le_trans (Nat.mul_le_mul_right _ (by omega)) hbytes) (by show _ ≤ ((w.alloc _).alloc _).heap.size; simp; omega)
  have hbb : Below w.heap.size w ((w.alloc (.cells #[] e)).alloc (.cells #[x] e)).drew := ((hb0 _).alloc (by simp) _).drew
  have b1 : Below w.heap.size w w1 := hbb.grown g1 hbb.size (fun k hk => by simp [Value.ownBlock] at hk; omega)
  have cx : w1.cell? ⟨w.heap.size + 1, 0, none⟩ = some x := by
   have h3 := (Bk.new (w.alloc (.cells #[] e)) e #[x])
   have h3' : Bk ((w.alloc (.cells #[] e)).alloc (.cells #[x] e)) (w.heap.size + 1) e #[x] := by simpa using h3
   have h4 : Bk ((w.alloc (.cells #[] e)).alloc (.cells #[x] e)).drew (w.heap.size + 1) e #[x] := h3'
   exact (h4.grown g1 (fun e => by simp [Value.ownBlock] at e)).cell 0
  have k1 : ∀ xb T cs, Bk w xb T cs → Bk w1 xb T cs := fun xb T cs hk => (((hk.alloc _).alloc _).drew).grown g1 (fun e => by have := hk.lt; simp [Value.ownBlock] at e; omega)
  obtain ⟨v2, w2, r2, o2, b2, k2⟩ := second w1 v1 (w.heap.size + 1) (by simpa using o1) cx b1.size b1 k1
  exact ⟨v1, w1, v2, w2, r1, r2, o2, b2, fun xb T cs hk => ⟨k1 xb T cs hk, k2 xb T cs hk⟩, b1.size⟩
 ·have ho0 := own_made0 e (w.alloc (.cells #[x] e))
  have ho : ((w.alloc (.cells #[x] e)).alloc (.cells #[] e)).drew.ownsRow w.heap.size e 1 (.slice (some ⟨w.heap.size + 1, 0, none⟩) 0 0) 0 [] := by
   have h1 := own_base ho0 (base' := w.heap.size) (by simp)
   have h2 : ((w.alloc (.cells #[x] e)).alloc (.cells #[] e)).ownsRow w.heap.size e 1 (.slice (some ⟨w.heap.size + 1, 0, none⟩) 0 0) 0 [] := by simpa using h1
   exact h2
  obtain ⟨v1, w1, r1, o1, g1, _⟩ := run_appAt t e z bytes ht hinfo hz1 ho (A := A) (ys := ys) ((hu.alloc _).alloc _) cap m hm hA h1 (by omega) (Nat.le_trans (Nat.mul_le_mul_right _ (by omega)) hbytes) (by show _ ≤ ((w.alloc _).alloc _).heap.size; simp; omega)
  have hbb : Below w.heap.size w ((w.alloc (.cells #[x] e)).alloc (.cells #[] e)).drew := ((hb0 _).alloc (by simp) _).drew
  have b1 : Below w.heap.size w w1 := hbb.grown g1 hbb.size (fun k hk => by simp [Value.ownBlock] at hk; omega)
  have cx : w1.cell? ⟨w.heap.size, 0, none⟩ = some x := by
   have h4 : Bk ((w.alloc (.cells #[x] e)).alloc (.cells #[] e)).drew w.heap.size e #[x] := ((Bk.new w e #[x]).alloc _).drew
   exact (h4.grown g1 (fun e => by simp [Value.ownBlock] at e)).cell 0
  have k1 : ∀ xb T cs, Bk w xb T cs → Bk w1 xb T cs := fun xb T cs hk => (((hk.alloc _).alloc _).drew).grown g1 (fun e => by have := hk.lt; simp [Value.ownBlock] at e; omega)
  obtain ⟨v2, w2, r2, o2, b2, k2⟩ := second w1 v1 w.heap.size (by simpa using o1) cx b1.size b1 k1
  exact ⟨v1, w1, v2, w2, r1, r2, o2, b2, fun xb T cs hk => ⟨k1 xb T cs hk, k2 xb T cs hk⟩, b1.size⟩
theorem wpList_run {P : Program} {ops : Array Oper} {rest : List Oper} {o : Oper} {a : Act} {w w0 w' : World} {Q : Exit → Act → World → Prop} {v' : Value} (hw : w = w0) (hgd : o.guard = none) (s x : Operand) (t : TypeId)
  (ho : o.op = .call { callee := .builtin .append, args := #[s, x], argTypes := #[t, t] }) (v u : Value) (hs : a.eval s = v) (hx : a.eval x = u)
  (hr : (Builtin.append_ #[t, t] o.type #[v, u]).run P w0 = .ok v' w') (h : wpList P ops Q rest (a.put o.dst v') w') : wpList P ops Q (o :: rest) a w := by
 subst hw
 refine wpList_plain hgd fun K hK => ?_
 unfold Oper.wp execOp
 simp only [ho, resolve, invoke, builtin, Sem.run_bind, Sem.run_pure, Result.andThen_ok, List.map_toArray, List.map_cons, List.map_nil, hs, hx, hr]
 exact hK _ _ h
theorem step_at {P : Program} {o : Oper} {a : Act} {w : World} (w0 : World) {K : Act → World → Prop} {Q : Exit → Act → World → Prop} {E : Prop} {c : Prop} [Decidable c] (hw : w = w0) (h : if c then Oper.wp P o a w0 K Q else E) : if c then Oper.wp P o a w K Q else E := by
 subst hw
 exact h
theorem step_runW {P : Program} {ops : Array Oper} {o : Oper} {a : Act} {w w0 w' : World} {K : Act → World → Prop} {Q : Exit → Act → World → Prop} {E : Prop} {v' : Value} (hw : w = w0) (hgd : o.guard = none) (s x : Operand) (t : TypeId)
  (ho : o.op = .call { callee := .builtin .append, args := #[s, x], argTypes := #[t, t] }) (v u : Value) (hs : a.eval s = v) (hx : a.eval x = u)
  (hr : (Builtin.append_ #[t, t] o.type #[v, u]).run P w0 = .ok v' w') (h : K (a.put o.dst v') w') :
  if Region.wanted o (yielded ops a.tmps) = true then Oper.wp P o a w K Q else E := by
 subst hw
 exact step_run hgd s x t ho v u hs hx hr h
end Wv
/-
  Times in plain Lean: what times are, their gaps, times out of gaps. No program stands here.
-/
namespace Wv.Tm
def tv : Int → List Int → Bool
 | _, [] => true
 | last, t :: r => decide (last < t) && decide (t ≤ 1099511627776) && tv t r
def validT (l : List Int) : Bool := tv (-1) l && decide (l.length ≤ 4096)
def gp : Int → List Int → List Int
 | _, [] => []
 | last, t :: r => (t - last - 1) :: gp t r
def gapsT (l : List Int) : List Int := gp (-1) l
theorem tv_cons {last t : Int} {r : List Int} : tv last (t :: r) = true ↔ last < t ∧ t ≤ 1099511627776 ∧ tv t r = true := by
 show (decide _ && decide _ && _) = true ↔ _
 rw [Bool.and_eq_true, Bool.and_eq_true, decide_eq_true_iff, decide_eq_true_iff, and_assoc]
theorem tv_in {l : List Int} : ∀ {last : Int}, tv last l = true → ∀ t ∈ l, last < t ∧ t ≤ 1099511627776 := by
 induction l with
 | nil => intro last _ t ht; cases ht
 | cons a r ih =>
  intro last h t ht
  obtain ⟨h1, h2, h3⟩ := tv_cons.1 h
  rcases List.mem_cons.1 ht with rfl | ht
  ·exact ⟨h1, h2⟩
  ·have := ih h3 t ht
   omega
theorem tv_sorted {l : List Int} : ∀ {last : Int}, tv last l = true → l.Pairwise (· < ·) := by
 induction l with
 | nil => intro _ _; exact List.Pairwise.nil
 | cons a r ih =>
  intro last h
  obtain ⟨_, _, h3⟩ := tv_cons.1 h
  exact List.Pairwise.cons (fun t ht => (tv_in h3 t ht).1) (ih h3)
theorem tv_of {l : List Int} : ∀ {last : Int}, l.Pairwise (· < ·) → (∀ t ∈ l, last < t ∧ t ≤ 1099511627776) → tv last l = true := by
 induction l with
 | nil => intro _ _ _; rfl
 | cons a r ih =>
  intro last h hb
  rw [List.pairwise_cons] at h
  refine tv_cons.2 ⟨(hb a List.mem_cons_self).1, (hb a List.mem_cons_self).2, ih h.2 (fun t ht => ⟨h.1 t ht, (hb t (List.mem_cons_of_mem _ ht)).2⟩)⟩
theorem validT_iff {l : List Int} : validT l = true ↔ l.Pairwise (· < ·) ∧ (∀ t ∈ l, 0 ≤ t ∧ t ≤ 1099511627776) ∧ l.length ≤ 4096 := by
 unfold validT
 rw [Bool.and_eq_true, decide_eq_true_iff]
 constructor
 ·rintro ⟨h1, h2⟩
  exact ⟨tv_sorted h1, fun t ht => by have := tv_in h1 t ht; omega, h2⟩
 ·rintro ⟨h1, h2, h3⟩
  exact ⟨tv_of h1 (fun t ht => by have := h2 t ht; omega), h3⟩
theorem gp_length (l : List Int) : ∀ last, (gp last l).length = l.length := by
 induction l with
 | nil => intro _; rfl
 | cons a r ih => intro last; simp [gp, ih]
theorem gp_in {l : List Int} : ∀ {last : Int}, -1 ≤ last → tv last l = true → ∀ g ∈ gp last l, 0 ≤ g ∧ g ≤ 1099511627776 := by
 induction l with
 | nil => intro last _ _ g hg; cases hg
 | cons a r ih =>
  intro last h0 h g hg
  obtain ⟨h1, h2, h3⟩ := tv_cons.1 h
  rcases List.mem_cons.1 hg with rfl | hg
  ·omega
  ·exact ih (by omega) h3 g hg
theorem gapsT_in {l : List Int} (h : validT l = true) : ∀ g ∈ gapsT l, 0 ≤ g ∧ g ≤ 1099511627776 := by
 unfold validT at h
 rw [Bool.and_eq_true] at h
 exact gp_in (by omega) h.1
end Wv.Tm
/-
  Clocks in plain Lean: their times, the clock of times. No program stands here.
-/
namespace Wv.Tm
structure Clk where
 st : Int
 f : Int
 s : Int
 n : Int
deriving DecidableEq
def atC (c : Clk) (i : Nat) : Int := c.st + ((i + 1) / 2 : Nat) * c.f + (i / 2 : Nat) * c.s
def inC (c : Clk) : Prop := 1 ≤ c.n ∧ c.n ≤ 4096 ∧ 0 ≤ c.st ∧ c.st ≤ 1099511627776 ∧ 1 ≤ c.f ∧ c.f ≤ 1099511627776 ∧ 1 ≤ c.s ∧ c.s ≤ 1099511627776
instance (c : Clk) : Decidable (inC c) := by unfold inC; infer_instance
def timesL (c : Clk) : List Int := (List.range c.n.toNat).map (atC c)
end Wv.Tm
namespace Wv.Tm
end Wv.Tm
/-
  The built-in append of one element, its run known ahead.
-/
namespace Wv
open Go Go.RowKit
set_option linter.unusedVariables false
theorem app_own {P : Program} (t e : TypeId) (z : Value) (bytes : Nat) (ht : P.underlying t = some (.slice e)) (hinfo : (P.info? e).map (fun i => (i.zero, i.size, i.bytes)) = some (some z, 1, bytes)) (hz1 : z.cells.size = 1) {w wb : World} {B : Nat} {v : Value} {n : Nat} {xs : List Value} (h : w.ownsRow B e 1 v n xs) (hf : Below B wb w) (hB : B ≤ w.heap.size) (x : Value) (hx : x.oneCell' = true) (h63 : n + 1 ≤ maxLen) (hbytes : (n + 1) * bytes ≤ 140737488355328) :
  ∃ v' w', (Builtin.append_ #[t, t] t #[v, .slice (some ⟨w.heap.size, 0, none⟩) 1 1]).run P (w.alloc (.cells #[x] e)) = .ok v' w' ∧ w'.ownsRow B e 1 v' (n + 1) (xs ++ [x]) ∧ Below B wb w' ∧ (∀ xb T cs, Bk w xb T cs → e ≠ T → Bk w' xb T cs) := by
 obtain ⟨i, hi, hz, hs, hby⟩ := info_parts hinfo
 obtain ⟨v', w', hr, h2, h3, _⟩ := run_append_own_at (P := P) (w.alloc (.cells #[x] e)) B t t e i z 1 bytes ht hi hz hs hby hz1 (by omega) v n xs (h.alloc _) ⟨w.heap.size, 0, none⟩ 1 1 [x] rfl (news_one _ _ _) (by simpa using hx) h63 hbytes (Nat.le_trans hB (by simp))
 exact ⟨v', w', hr, h2, (hf.alloc hB _).grown h3 (Nat.le_trans hB (by simp)) (fun k hk => (h.lt k hk).1), fun xb T cs hk hT => (hk.alloc _).grown h3 (fun e => own_apart h hk hT e.symm)⟩
theorem app_own2 {P : Program} (t e : TypeId) (z : Value) (bytes : Nat) (ht : P.underlying t = some (.slice e)) (hinfo : (P.info? e).map (fun i => (i.zero, i.size, i.bytes)) = some (some z, 1, bytes)) (hz1 : z.cells.size = 1) {w wb : World} {B : Nat} {v : Value} {n : Nat} {xs : List Value} (h : w.ownsRow B e 1 v n xs) (hf : Below B wb w) (hB : B ≤ w.heap.size) (x : Value) (hx : x.oneCell' = true) (h63 : n + 1 ≤ maxLen) (hbytes : (n + 1) * bytes ≤ 140737488355328) :
  ∃ v' w', (Builtin.append_ #[t, t] t #[v, .slice (some ⟨w.heap.size, 0, none⟩) 1 1]).run P (w.alloc (.cells #[x] e)) = .ok v' w' ∧ w'.ownsRow B e 1 v' (n + 1) (xs ++ [x]) ∧ Below B wb w' ∧ (v'.ownBlock = v.ownBlock ∨ v'.ownBlock = some (w.heap.size + 1)) ∧ w.heap.size + 1 ≤ w'.heap.size ∧
   (∀ A vs, At w A vs → (∀ b o, A = some ⟨b, o, none⟩ → v.ownBlock ≠ some b) → At w' A vs) := by
 obtain ⟨i, hi, hz, hs, hby⟩ := info_parts hinfo
 obtain ⟨v', w', hr, h2, h3, _, h5⟩ := run_append_own_at (P := P) (w.alloc (.cells #[x] e)) B t t e i z 1 bytes ht hi hz hs hby hz1 (by omega) v n xs (h.alloc _) ⟨w.heap.size, 0, none⟩ 1 1 [x] rfl (news_one _ _ _) (by simpa using hx) h63 hbytes (Nat.le_trans hB (by simp))
 have hfr : Fr (fun k => v.ownBlock = some k) (w.alloc (.cells #[x] e)) w' := (Fr.refl _ _).grown h3 (fun k hk => .inl hk)
 refine ⟨v', w', hr, h2, (hf.alloc hB _).grown h3 (Nat.le_trans hB (by simp)) (fun k hk => (h.lt k hk).1), ?_, ?_, fun A vs ha hA => ?_⟩
 ·rcases h5 with h5 | h5
  ·exact .inl h5
  ·refine .inr (h5.trans ?_)
   simp
 ·have := hfr.size
  simpa using this
 ·exact (ha.alloc _).keep hfr (fun b o hb hs => hA b o hb hs)
theorem app_ownL {P : Program} (t e : TypeId) (z : Value) (bytes size : Nat) (ht : P.underlying t = some (.slice e)) (hinfo : (P.info? e).map (fun i => (i.zero, i.size, i.bytes)) = some (some z, size, bytes)) (hz1 : z.cells.size = size) (hs0 : 0 < size) {w wb : World} {B : Nat} {v : Value} {n : Nat} {xs : List Value} (h : w.ownsRow B e size v n xs) (hf : Below B wb w) (hB : B ≤ w.heap.size) (ys : List Value) (hys : ys.length = size) (h1 : ∀ y ∈ ys, y.oneCell' = true) (h63 : n + 1 ≤ maxLen) (hbytes : (n + 1) * bytes ≤ 140737488355328) :
    ∃ v' w', (Builtin.append_ #[t, t] t #[v, .slice (some ⟨w.heap.size, 0, none⟩) 1 1]).run P (w.alloc (.cells ys.toArray e)) = .ok v' w' ∧ w'.ownsRow B e size v' (n + 1) (xs ++ ys) ∧ Below B wb w' ∧ (v'.ownBlock = v.ownBlock ∨ v'.ownBlock = some (w.heap.size + 1)) ∧ w.heap.size + 1 ≤ w'.heap.size ∧
      (∀ A vs, At w A vs → (∀ b o, A = some ⟨b, o, none⟩ → v.ownBlock ≠ some b) → At w' A vs) := by
  obtain ⟨i, hi, hz, hs, hby⟩ := info_parts hinfo
  obtain ⟨v', w', hr, h2, h3, _, h5⟩ := run_append_own_at (P := P) (w.alloc (.cells ys.toArray e)) B t t e i z size bytes ht hi hz hs hby hz1 hs0 v n xs (h.alloc _) ⟨w.heap.size, 0, none⟩ 1 1 ys (by omega) (fun j u hu => by
      have hb := (Bk.new w e ys.toArray).cell j
      rw [Go.WideShapes.add_plain, Nat.zero_add, hb]
      simpa using hu) h1 h63 hbytes (Nat.le_trans hB (by simp))
  have hfr : Fr (fun k => v.ownBlock = some k) (w.alloc (.cells ys.toArray e)) w' := (Fr.refl _ _).grown h3 (fun k hk => .inl hk)
  refine ⟨v', w', hr, h2, (hf.alloc hB _).grown h3 (Nat.le_trans hB (by simp)) (fun k hk => (h.lt k hk).1), ?_, ?_, fun A vs ha hA => ?_⟩
  · rcases h5 with h5 | h5
    · exact .inl h5
    · refine .inr (h5.trans ?_)
      simp
  · have := hfr.size
    simpa using this
  · exact (ha.alloc _).keep hfr (fun b o hb hs => hA b o hb hs)
theorem two_bothB {P : Program} (t e : TypeId) (z : Value) (bytes : Nat) (ht : P.underlying t = some (.slice e)) (hinfo : (P.info? e).map (fun i => (i.zero, i.size, i.bytes)) = some (some z, 1, bytes)) (hz1 : z.cells.size = 1) {wb w : World} {B : Nat} {v1 v2 : Value} {xs ys : List Value} (h : TwoSt wb B e v1 xs v2 ys w) (x y : Value) (hx : x.oneCell' = true) (hy : y.oneCell' = true) (hxl : xs.length + 1 ≤ maxLen) (hxb : (xs.length + 1) * bytes ≤ 140737488355328)
  (hyl : ys.length + 1 ≤ maxLen) (hyb : (ys.length + 1) * bytes ≤ 140737488355328) :
  (∃ a1 w1 a2 w2, (Builtin.append_ #[t, t] t #[v1, .slice (some ⟨w.heap.size, 0, none⟩) 1 1]).run P (w.alloc (.cells #[x] e)).drew = .ok a1 w1 ∧ (Builtin.append_ #[t, t] t #[v2, .slice (some ⟨w1.heap.size, 0, none⟩) 1 1]).run P (w1.alloc (.cells #[y] e)) = .ok a2 w2 ∧ TwoSt wb B e a1 (xs ++ [x]) a2 (ys ++ [y]) w2 ∧ Below B wb w1 ∧ Below B wb w2) ∧
  (∃ a1 w1 a2 w2, (Builtin.append_ #[t, t] t #[v1, .slice (some ⟨w.heap.size, 0, none⟩) 1 1]).run P ((w.alloc (.cells #[x] e)).alloc (.cells #[y] e)).drew = .ok a1 w1 ∧ (Builtin.append_ #[t, t] t #[v2, .slice (some ⟨w.heap.size + 1, 0, none⟩) 1 1]).run P w1 = .ok a2 w2 ∧ TwoSt wb B e a1 (xs ++ [x]) a2 (ys ++ [y]) w2 ∧ Below B wb w1 ∧ Below B wb w2) ∧
  (∃ a1 w1 a2 w2, (Builtin.append_ #[t, t] t #[v1, .slice (some ⟨w.heap.size + 1, 0, none⟩) 1 1]).run P ((w.alloc (.cells #[y] e)).alloc (.cells #[x] e)).drew = .ok a1 w1 ∧ (Builtin.append_ #[t, t] t #[v2, .slice (some ⟨w.heap.size, 0, none⟩) 1 1]).run P w1 = .ok a2 w2 ∧ TwoSt wb B e a1 (xs ++ [x]) a2 (ys ++ [y]) w2 ∧ Below B wb w1 ∧ Below B wb w2) := by
 have hlt1 : ∀ g, v1.ownBlock = some g → g < w.heap.size := fun g hg => (h.own1.lt g hg).2
 have cx : (w.alloc (.cells #[x] e)).cell? ⟨w.heap.size, 0, none⟩ = some x := (Bk.new w e #[x]).cell 0
 have cy : (w.alloc (.cells #[y] e)).cell? ⟨w.heap.size, 0, none⟩ = some y := (Bk.new w e #[y]).cell 0
 have hs1 : (w.alloc (.cells #[x] e)).heap.size = w.heap.size + 1 := by simp
 have hs2 : (w.alloc (.cells #[y] e)).heap.size = w.heap.size + 1 := by simp
 refine ⟨?_, ?_, ?_⟩
 ·obtain ⟨a1, w1, r1, t1, _, b1⟩ := two_step t e z bytes ht hinfo hz1 (h.alloc (.cells #[x] e)).drew w.heap.size x cx hx hxl hxb
  obtain ⟨a2, w2, r2, t2, _, b2⟩ := two_step t e z bytes ht hinfo hz1 (t1.swap.alloc (.cells #[y] e)) w1.heap.size y ((Bk.new w1 e #[y]).cell 0) hy hyl hyb
  exact ⟨a1, w1, a2, w2, r1, r2, t2.swap, t1.bel, t2.bel⟩
 ·have c1 : ((w.alloc (.cells #[x] e)).alloc (.cells #[y] e)).drew.cell? ⟨w.heap.size, 0, none⟩ = some x := ((Bk.new w e #[x]).alloc (.cells #[y] e)).cell 0
  have c2 : ((w.alloc (.cells #[x] e)).alloc (.cells #[y] e)).drew.cell? ⟨w.heap.size + 1, 0, none⟩ = some y := by
   have := (Bk.new (w.alloc (.cells #[x] e)) e #[y]).cell 0
   rw [hs1] at this
   exact this
  obtain ⟨a1, w1, r1, t1, k1, b1⟩ := two_step t e z bytes ht hinfo hz1 ((h.alloc (.cells #[x] e)).alloc (.cells #[y] e)).drew w.heap.size x c1 hx hxl hxb
  have c3 := (k1 (w.heap.size + 1) (fun e => by have := hlt1 _ e.symm; omega) (by show _ < ((w.alloc (.cells #[x] e)).alloc (.cells #[y] e)).heap.size; simp <;> omega)).trans c2
  obtain ⟨a2, w2, r2, t2, _, b2⟩ := two_step t e z bytes ht hinfo hz1 t1.swap (w.heap.size + 1) y c3 hy hyl hyb
  exact ⟨a1, w1, a2, w2, r1, r2, t2.swap, t1.bel, t2.bel⟩
 ·have c1 : ((w.alloc (.cells #[y] e)).alloc (.cells #[x] e)).drew.cell? ⟨w.heap.size, 0, none⟩ = some y := ((Bk.new w e #[y]).alloc (.cells #[x] e)).cell 0
  have c2 : ((w.alloc (.cells #[y] e)).alloc (.cells #[x] e)).drew.cell? ⟨w.heap.size + 1, 0, none⟩ = some x := by
   have := (Bk.new (w.alloc (.cells #[y] e)) e #[x]).cell 0
   rw [hs2] at this
   exact this
  obtain ⟨a1, w1, r1, t1, k1, b1⟩ := two_step t e z bytes ht hinfo hz1 ((h.alloc (.cells #[y] e)).alloc (.cells #[x] e)).drew (w.heap.size + 1) x c2 hx hxl hxb
  have c3 := (k1 w.heap.size (fun e => by have := hlt1 _ e.symm; omega) (by show _ < ((w.alloc (.cells #[y] e)).alloc (.cells #[x] e)).heap.size; simp <;> omega)).trans c1
  obtain ⟨a2, w2, r2, t2, _, b2⟩ := two_step t e z bytes ht hinfo hz1 t1.swap w.heap.size y c3 hy hyl hyb
  exact ⟨a1, w1, a2, w2, r1, r2, t2.swap, t1.bel, t2.bel⟩
end Wv
/-
  The walks over the reference of the bit strings, first part: numbers, runs, parameters, valid codes.
-/
namespace Go.Proofs.YtoeeblldgoccoaaGreat.Bio
set_option maxRecDepth 100000
open Go.RowKit Go.Proofs Wv Wv.Bit

theorem u8info : (Tryz.prog.info? 5).map (fun i => (i.zero, i.size, i.bytes)) = some (some (.int .u8 0), 1, 1) := by kernel_rfl
end Go.Proofs.YtoeeblldgoccoaaGreat.Bio
/-
  The walks over the reference of the bit strings, second part: codes.
-/
namespace Go.Proofs.YtoeeblldgoccoaaGreat.Bio
set_option maxRecDepth 100000
open Go.RowKit Go.Proofs Wv Wv.Bit
attribute [local go_sem ↓] Go.wp_at_zero Go.wp_at_succ

end Go.Proofs.YtoeeblldgoccoaaGreat.Bio
/-
  The walks over the reference of the bit strings, third part: a code behind bits, and a code in front of bits.
-/
namespace Go.Proofs.YtoeeblldgoccoaaGreat.Bio
set_option maxRecDepth 100000
open Go.RowKit Go.Proofs Wv Wv.Bit
attribute [local go_sem ↓] Go.wp_at_zero Go.wp_at_succ

end Go.Proofs.YtoeeblldgoccoaaGreat.Bio
/-
  The walks over the reference of the bit strings, fourth part: exponential Golomb and truncated codes in front of bits, and Get.
-/
namespace Go.Proofs.YtoeeblldgoccoaaGreat.Bio
set_option maxRecDepth 100000
open Go.RowKit Go.Proofs Wv Wv.Bit
attribute [local go_sem ↓] Go.wp_at_zero Go.wp_at_succ

end Go.Proofs.YtoeeblldgoccoaaGreat.Bio
/-
  A slice of codes in memory.
-/
namespace Wv.Bit
open Go Go.RowKit Wv
def CodesAt (w : World) (A : Option Addr) (l : List Cd) : Prop :=
 ∀ i (h : i < l.length), ∃ b o, A = some ⟨b, o, none⟩ ∧ b < w.heap.size ∧ w.cell? ⟨b, o + i * 3, none⟩ = some (.int .i64 l[i].k) ∧ w.cell? ⟨b, o + i * 3 + 1, none⟩ = some (.int .i64 l[i].p) ∧ w.cell? ⟨b, o + i * 3 + 2, none⟩ = some (.int .i64 l[i].v)
theorem CodesAt.keep {w w' : World} {A : Option Addr} {l : List Cd} {S : Nat → Prop} (h : CodesAt w A l) (hf : Fr S w w') (hS : ∀ b o, A = some ⟨b, o, none⟩ → ¬ S b) : CodesAt w' A l := by
 intro i hi
 obtain ⟨b, o, hA, hb, h1, h2, h3⟩ := h i hi
 have := hS b o hA
 exact ⟨b, o, hA, Nat.lt_of_lt_of_le hb hf.size, (hf.cell (p := ⟨b, _, none⟩) hb this).trans h1, (hf.cell (p := ⟨b, _, none⟩) hb this).trans h2, (hf.cell (p := ⟨b, _, none⟩) hb this).trans h3⟩
theorem CodesAt.below {w w' : World} {A : Option Addr} {l : List Cd} (h : CodesAt w A l) (hb : Below w.heap.size w w') : CodesAt w' A l :=
 h.keep (Fr.of_below (S := nob) hb) (fun _ _ _ f => f)
theorem CodesAt.drewN {w : World} {A : Option Addr} {l : List Cd} (h : CodesAt w A l) (n : Nat) : CodesAt (w.drewN n) A l := h
theorem CodesAt.alloc {w : World} {A : Option Addr} {l : List Cd} (h : CodesAt w A l) (o : Obj) : CodesAt (w.alloc o) A l := h.below ((Below.refl _ _).alloc (Nat.le_refl _) o)
end Wv.Bit
