/-
  Joined texts: Ao, Ub, Uc, Pb, Je.
-/
import Derived.Test.YtoeeblldgoccoaaGreatJ32
import Derived.Test.YtoeeblldgoccoaaGreatJ43
import Derived.Test.YtoeeblldgoccoaaGreatJ40
set_option linter.unusedVariables false
set_option linter.unusedSimpArgs false
namespace Go.Proofs.YtoeeblldgoccoaaGreat
open Go.RowKit Go.Proofs Wv Wv.Vi Wv.Rc Wv.Mo Wv.Ru Wv.Tm Wv.Bc
set_option linter.unusedVariables false
end Go.Proofs.YtoeeblldgoccoaaGreat
namespace Go.Proofs.YtoeeblldgoccoaaGreat
open Go.RowKit Go.Proofs Wv Wv.Vi Wv.Rc Wv.Mo Wv.Ru
set_option linter.unusedVariables false

end Go.Proofs.YtoeeblldgoccoaaGreat
namespace Go.Proofs.YtoeeblldgoccoaaGreat
open Go.RowKit Go.Proofs Wv Wv.Vi Wv.Rc Wv.Mo Wv.Ru
set_option linter.unusedVariables false

end Go.Proofs.YtoeeblldgoccoaaGreat
/-
  Clocks with some times taken out and others put in: how many bytes they take. No program stands here.
-/
namespace Go.Proofs.YtoeeblldgoccoaaGreat
open Go.RowKit Go.Proofs Wv Wv.Vi Wv.Rc Wv.Mo Wv.Ru Wv.Tm
set_option linter.unusedVariables false
theorem gp_le {M : Int} {l : List Int} : ∀ {last : Int}, -1 ≤ last → tv last l = true → (∀ t ∈ l, t ≤ M) → ∀ g ∈ gp last l, g ≤ M := by
 induction l with
 | nil => intro _ _ _ _ g hg; cases hg
 | cons a r ih =>
  intro last h0 h hM g hg
  obtain ⟨h1, h2, h3⟩ := tv_cons.1 h
  rcases List.mem_cons.1 hg with rfl | hg
  ·have := hM a List.mem_cons_self; omega
  ·exact ih (by omega) h3 (fun t ht => hM t (List.mem_cons_of_mem _ ht)) g hg
theorem kof12 {n : Nat} (h : n ≤ 4096) : kof n ≤ 1 := by
 rcases kof_spec n with h | h | h | h | h | h | h | h | h <;> omega
theorem kof7 {n : Nat} (h : n < 128) : kof n = 0 := by
 rcases kof_spec n with h | h | h | h | h | h | h | h | h <;> omega
theorem numsI_bits {c B n : Nat} {M : Int} (hB : ∀ j, j < B → (2048 * 8192) ^ 6 * (2048 * 8192) ^ j ≤ 2 ^ c * ((772 * 8191) ^ 6 * (1024 * 8191) ^ j)) {l : List Int} (hv : validT l = true) (hl : l.length ≤ 10) (hM : ∀ t ∈ l, t ≤ M) (hM2 : M < 2 ^ n) (hn : n ≤ B) (hn1 : 1 ≤ n) :
  8 * (numsI (gapsT l)).length ≤ 40 + c * l.length := by
 have h1 := encn_bits hB ((gapsT l).map Int.toNat) (by rw [List.length_map]; unfold gapsT; rw [gp_length]; exact hl) (fun v hv2 => by
  obtain ⟨g, hg, rfl⟩ := List.mem_map.1 hv2
  have g1 := gapsT_in hv g hg
  have hv3 := hv
  unfold validT at hv3
  rw [Bool.and_eq_true] at hv3
  have g2 := gp_le (M := M) (by omega) hv3.1 hM g hg
  have g3 : g.toNat < 2 ^ n := by
   have : ((2 ^ n : Nat) : Int) = (2 : Int) ^ n := by simp
   omega
  have := blen_lt g3
  omega)
 have h2 : ((gapsT l).map Int.toNat).length = l.length := by rw [List.length_map]; unfold gapsT; rw [gp_length]
 rw [h2] at h1
 exact h1
theorem nodup_len {α : Type} [DecidableEq α] {l1 : List α} : ∀ {l2 : List α}, l1.Nodup → (∀ x ∈ l1, x ∈ l2) → l1.length ≤ l2.length := by
 induction l1 with
 | nil => intro _ _ _; simp
 | cons a r ih =>
  intro l2 hn hs
  rw [List.nodup_cons] at hn
  have ha := hs a List.mem_cons_self
  have := ih (l2 := l2.erase a) hn.2 (fun x hx => (List.mem_erase_of_ne (fun e => hn.1 (by rw [← e]; exact hx))).2 (hs x (List.mem_cons_of_mem _ hx)))
  rw [List.length_erase_of_mem ha] at this
  have := List.length_pos_of_mem ha
  simp only [List.length_cons]
  omega
structure MixOk (c : Clk) (W : List Nat) (F : List Int) (l : List Int) : Prop where
 nd : l.Nodup
 h0 : atC c 0 ∈ l
 h1 : atC c 1 ∈ l
 h2 : atC c 2 ∈ l
 big : ∀ t ∈ l, t = atC c 0 ∨ t = atC c 1 ∨ t = atC c 2 ∨ (atC c 2 < t ∧ t ≤ 1099511627776)
 gone : ∀ i, i < c.n.toNat → atC c i ∉ l → i ∈ W
 from_ : ∀ t ∈ l, t ∈ timesL c ∨ t ∈ F
 len : l.length ≤ c.n.toNat + F.length
end Go.Proofs.YtoeeblldgoccoaaGreat
/-
  How long the bytes of lists of values are at most: equal values; counters of which some values are replaced. No program stands here.
-/
namespace Go.Proofs.YtoeeblldgoccoaaGreat
open Go.RowKit Go.Proofs Wv Wv.Vi Wv.Rc Wv.Mo Wv.Ru Wv.Tm Wv.Bc
set_option linter.unusedVariables false
theorem bstB_le {W : Int} {l : List ByteArray} {i : Nat} {s : List UInt8} (h : codB i W l = some s) : ∀ k, i < k → (bstB W l k).length ≤ (num i ++ s).length ∧ bstB W l k ≠ [] := by
 intro k
 induction k with
 | zero => intro h; omega
 | succ k ih =>
  intro hk
  have e : bstB W l (k + 1) = match codB k W l with
   | none => bstB W l k
   | some s => if bstB W l k = [] ∨ (num k ++ s).length < (bstB W l k).length then num k ++ s else bstB W l k := rfl
  rw [e]
  rcases Nat.lt_or_ge i k with h1 | h1
  ·obtain ⟨i1, i2⟩ := ih h1
   cases codB k W l with
   | none => exact ⟨i1, i2⟩
   | some t =>
    simp only
    split
    ·rename_i hc
     rcases hc with hc | hc
     ·exact absurd hc i2
     ·exact ⟨by omega, num_ne _ _⟩
    ·exact ⟨i1, i2⟩
  ·have : i = k := by omega
   subst this
   rw [h]
   simp only
   split
   ·exact ⟨Nat.le_refl _, num_ne _ _⟩
   ·rename_i hc
    exact ⟨by omega, fun h => hc (.inl h)⟩
theorem encB_le {W : Int} {l : List ByteArray} (hv : validB W l = true) {i : Nat} (hi : i < 4) {s : List UInt8} (h : codB i W l = some s) : (encB' W l).1.length ≤ (num i ++ s).length := by
 unfold encB'
 rw [if_neg (by simp [hv])]
 exact (bstB_le h 4 hi).1
theorem enc_le0 (l : List ByteArray) : (enc l).1.length ≤ (encB 0 l).length := by
 unfold enc
 split
 ·exact Nat.zero_le _
 ·split
  ·simp only; omega
  ·exact Nat.le_refl _
theorem text_le {s : ByteArray} (h : s.size ≤ 128) : (text s).length ≤ 130 := by
 unfold text
 rw [List.length_append, num_length, toL_length]
 have := kof12 (n := s.size) (by omega)
 omega
theorem texts_le (l : List ByteArray) (h : ∀ s ∈ l, s.size ≤ 128) : (l.flatMap text).length ≤ 130 * l.length := by
 induction l with
 | nil => exact Nat.zero_le _
 | cons a r ih =>
  rw [List.flatMap_cons, List.length_append, List.length_cons]
  have h1 := text_le (h a List.mem_cons_self)
  have h2 := ih (fun s hs => h s (List.mem_cons_of_mem _ hs))
  omega
theorem encB0_few (l : List ByteArray) (hl : l.length ≤ 10) (h : ∀ s ∈ l, s.size ≤ 128) : 4 * (encB 0 l).length ≤ 52 + (520 + 19) * l.length := by
 have hd := dict_length l
 have hr := runs_length (dict l) l
 have hb := runs_bound (dict l) l
 have b1 := encn_bits cost19 (idxs l) (by rw [idxs_length]; omega) (fun v hv => by
  obtain ⟨x, hx, rfl⟩ := List.mem_map.1 hv
  have := (hb x hx).1
  have := blen_lt (v := x.1) (n := 11) (by omega)
  omega)
 have b2 := encn_bits cost19 (cnts l) (by rw [cnts_length]; omega) (fun v hv => by
  obtain ⟨x, hx, rfl⟩ := List.mem_map.1 hv
  have := (hb x hx).2.2
  have := blen_lt (v := x.2 - 1) (n := 11) (by omega)
  omega)
 rw [idxs_length] at b1
 rw [cnts_length] at b2
 have t1 := texts_le (dict l) (size_dict h)
 have e : encA 0 l = encn (idxs l) := by unfold encA; rw [if_neg (by decide)]
 have d1 : 19 * (runs (dict l) l).length ≤ 19 * l.length := Nat.mul_le_mul_left _ hr
 have d2 : 130 * (dict l).length ≤ 130 * l.length := Nat.mul_le_mul_left _ hd
 have c1 := kof7 (n := 0) (by omega)
 have c2 := kof7 (n := (dict l).length) (by omega)
 have c3 := kof7 (n := (encn (idxs l)).length) (by omega)
 unfold encB
 rw [e]
 simp only [List.length_append, num_length]
 omega
theorem dict_rep (x : ByteArray) (k : Nat) : dict (List.replicate (k + 1) x) = [x] := by
 induction k with
 | zero => rfl
 | succ k ih =>
  rw [List.replicate_succ', dict_snoc, ih]
  exact if_pos (by simp)
theorem runs_rep (x : ByteArray) (k : Nat) : runs [x] (List.replicate (k + 1) x) = [(0, k + 1)] := by
 induction k with
 | zero =>
  show runs [x] [x] = _
  have := runs_snoc [x] [] x
  rw [List.nil_append] at this
  rw [this]
  have h0 : runs [x] [] = [] := rfl
  have h1 : ix [x] x = 0 := by
   have := ix_lt.2 (show x ∈ [x] by simp)
   simp at this
   omega
  rw [h0, h1]
  simp
 | succ k ih =>
  rw [List.replicate_succ', runs_snoc, ih]
  rw [if_pos (by rw [List.replicate_succ']; simp)]
  have := bump_snoc [] (0, k + 1)
  rw [List.nil_append] at this
  rw [this]
  rfl
theorem encB0_rep (x : ByteArray) (hx : x.size ≤ 128) (k : Nat) (hk : k ≤ 4096) : (encB 0 (List.replicate k x)).length ≤ 160 := by
 cases k with
 | zero =>
  have := encB0_few [] (by decide) (fun s hs => by cases hs)
  show (encB 0 []).length ≤ 160
  simp only [List.length_nil] at this
  omega
 | succ k =>
  obtain ⟨l, hl⟩ : ∃ l, List.replicate (k + 1) x = l := ⟨_, rfl⟩
  have hd := dict_rep x k
  have hr := runs_rep x k
  rw [hl] at hd hr ⊢
  have ei : idxs l = [0] := by unfold idxs; rw [hd, hr]; rfl
  have ec : cnts l = [k] := by unfold cnts; rw [hd, hr]; rfl
  have b1 := encn_bits cost19 [0] (by decide) (fun v hv => by
   rw [List.mem_singleton] at hv
   subst hv
   decide)
  have b2 := encn_bits cost49 [k] (by simp) (fun v hv => by
   rw [List.mem_singleton] at hv
   subst hv
   have := blen_lt (v := v) (n := 12) (by omega)
   omega)
  simp only [List.length_singleton] at b1 b2
  have e : encA 0 l = encn [0] := by unfold encA; rw [if_neg (by decide), ei]
  have t1 := text_le hx
  have c1 := kof7 (n := 0) (by omega)
  have c2 := kof7 (n := 1) (by omega)
  have c3 := kof7 (n := (encn [0]).length) (by omega)
  unfold encB
  rw [e, ec, hd]
  simp only [List.length_append, num_length, List.length_singleton, List.flatMap_cons, List.flatMap_nil, List.append_nil]
  omega
theorem shortL_rep (v : ByteArray) (k : Nat) : shortL (List.replicate k v) = List.replicate k (bs (shr (toL v))) := by unfold shortL; rw [List.map_replicate]
theorem rep_valid {v : ByteArray} (hv : isV (toL v) = true) {k : Nat} (hk : k ≤ 4096) : validB (v.size : Int) (List.replicate k v) = true := by
 obtain ⟨h1, h2, h3⟩ := isV_iff.1 hv
 have hp := List.length_pos_iff.2 h2
 rw [toL_length] at hp h3
 refine validB_iff.2 ⟨fun x hx => ?_, by omega, by omega, by rw [List.length_replicate]; exact hk⟩
 rw [List.eq_of_mem_replicate hx]
 exact vld_iff.2 ⟨hv, by rw [toL_length]⟩
theorem long_law {v : ByteArray} (hv : isV (toL v) = true) (k : Nat) :
  (4096 < k → encB' (v.size : Int) (List.replicate k v) = ([], 2) ∧ encAsB 0 (v.size : Int) (List.replicate k v) = ([], 2)) ∧
  (k ≤ 4096 → (encB' (v.size : Int) (List.replicate k v)).2 = 0 ∧ (encB' (v.size : Int) (List.replicate k v)).1.length ≤ 300 ∧
   decB (v.size : Int) (encB' (v.size : Int) (List.replicate k v)).1 (k : Int) = (List.replicate k v, 0) ∧
   (65536 < 2 * v.size * k → encAsB 0 (v.size : Int) (List.replicate k v) = ([], 9)) ∧
   (2 * v.size * k ≤ 65536 → ∃ t, encAsB 0 (v.size : Int) (List.replicate k v) = (0 :: t, 0) ∧ 2 + 2 * v.size * k / 8 ≤ (0 :: t).length ∧ (0 :: t).length ≤ 100000)) := by
 constructor
 ·intro hk
  have hb : validB (v.size : Int) (List.replicate k v) = false := by
   rcases Bool.eq_false_or_eq_true (validB (v.size : Int) (List.replicate k v)) with h | h
   ·have := (validB_iff.1 h).2.2.2
    rw [List.length_replicate] at this
    omega
   ·exact h
  exact ⟨encB_bad hb, by unfold encAsB; rw [if_neg (by decide), if_pos hb]⟩
 ·intro hk
  have hb := rep_valid hv hk
  refine ⟨?_, ?_, ?_, ?_, ?_⟩
  ·obtain ⟨c, s, _, _, he⟩ := encB_cases hb
   rw [he]
  ·have h1 := encB_le hb (i := 3) (by omega) (s := codW (List.replicate k v)) rfl
   have h2 := enc_le0 (shortL (List.replicate k v))
   have h3 := encB0_rep (bs (shr (toL v))) (by rw [bs_size]; exact shr_len128 _) k hk
   rw [shortL_rep] at h2
   have c1 := kof7 (n := 3) (by omega)
   rw [List.length_append, num_length] at h1
   have e : codW (List.replicate k v) = (enc (List.replicate k (bs (shr (toL v))))).1 := by unfold codW; rw [shortL_rep]
   rw [e] at h1
   omega
  ·rw [decB_enc hb, List.length_replicate, if_neg (by omega)]
  ·intro h
   have hl := bitsL_len (validB_iff.1 hb).1
   rw [List.length_replicate] at hl
   have e : 2 * v.size * k = 2 * (k * v.size) := by rw [Nat.mul_assoc, Nat.mul_comm v.size k]
   have h2 : 65536 < (bitsL (List.replicate k v)).length := by
    have : ((2 * (k * v.size) : Nat) : Int) = 2 * ((k : Int) * (v.size : Int)) := by simp
    omega
   have h3 : codP (List.replicate k v) = none := by unfold codP; rw [if_pos h2]
   have h4 : codB (0 : Int).toNat (v.size : Int) (List.replicate k v) = none := by
    show codP _ = none
    exact h3
   unfold encAsB
   rw [if_neg (by decide), if_neg (by simp [hb]), h4]
  ·intro h
   have hl := bitsL_len (validB_iff.1 hb).1
   rw [List.length_replicate] at hl
   have e : 2 * v.size * k = 2 * (k * v.size) := by rw [Nat.mul_assoc, Nat.mul_comm v.size k]
   have h2 : (bitsL (List.replicate k v)).length = 2 * v.size * k := by
    have : ((2 * (k * v.size) : Nat) : Int) = 2 * ((k : Int) * (v.size : Int)) := by simp
    omega
   have h3 : codP (List.replicate k v) = some (num k ++ toL (Bit.bstr (bitsL (List.replicate k v)))) := by
    unfold codP
    rw [if_neg (by omega), List.length_replicate]
   have h4 : codB (0 : Int).toNat (v.size : Int) (List.replicate k v) = some (num k ++ toL (Bit.bstr (bitsL (List.replicate k v)))) := by
    show codP _ = _
    exact h3
   refine ⟨num k ++ toL (Bit.bstr (bitsL (List.replicate k v))), ?_, ?_⟩
   ·unfold encAsB
    rw [if_neg (by decide), if_neg (by simp [hb]), h4]
    rfl
   ·have c := kof12 (n := k) hk
    rw [List.length_cons, List.length_append, num_length, toL_length, Bit.bstr_size, h2]
    omega
/-! ## Counters -/
theorem ofNat_cd {c : UInt8} (h : cd c < 2) : UInt8.ofNat (48 + cd c) = c := by
 rcases cd_cases c with ⟨rfl, h1⟩ | ⟨rfl, h1⟩ | ⟨rfl, h1⟩ | ⟨rfl, h1⟩ | ⟨_, _, _, _, h1⟩
 ·rfl
 ·rfl
 ·omega
 ·omega
 ·omega
theorem cd_digJ (n : Nat) (h : n < 2) : cd (UInt8.ofNat (48 + n)) = n := by
 rcases (show n = 0 ∨ n = 1 by omega) with rfl | rfl <;> decide
theorem sm_back : ∀ (a s : List UInt8), a.length = s.length → (∀ c ∈ a, cd c < 2) → (∀ c ∈ s, cd c < 2) → sm (sm a s 0).1 (inv a) 1 = (s, 1 - (sm a s 0).2) ∧ (sm a s 0).2 ≤ 1
 | [], [], _, _, _ => ⟨rfl, by decide⟩
 | [], _ :: _, h, _, _ => by simp at h
 | _ :: _, [], h, _, _ => by simp at h
 | x :: a, y :: s, h, ha, hs => by
  obtain ⟨i1, i2⟩ := sm_back a s (by simpa using h) (fun c hc => ha c (List.mem_cons_of_mem _ hc)) (fun c hc => hs c (List.mem_cons_of_mem _ hc))
  have hx := ha x List.mem_cons_self
  have hy := hs y List.mem_cons_self
  obtain ⟨r, c, hrc⟩ : ∃ r c, sm a s 0 = (r, c) := ⟨_, _, rfl⟩
  rw [hrc] at i1 i2
  simp only at i1 i2
  have e : sm (x :: a) (y :: s) 0 = (UInt8.ofNat (48 + (cd x + cd y + c) % 2) :: r, (cd x + cd y + c) / 2) := by
   show (UInt8.ofNat (48 + (cd x + cd y + (sm a s 0).2) % 2) :: (sm a s 0).1, (cd x + cd y + (sm a s 0).2) / 2) = _
   rw [hrc]
  have e2 : inv (x :: a) = ch (1 - cd x) :: inv a := by
   show ch (if cd x < 2 then 1 - cd x else cd x) :: inv a = _
   rw [if_pos hx]
  rw [e, e2]
  have e3 : sm (UInt8.ofNat (48 + (cd x + cd y + c) % 2) :: r) (ch (1 - cd x) :: inv a) 1 = (UInt8.ofNat (48 + (cd (UInt8.ofNat (48 + (cd x + cd y + c) % 2)) + cd (ch (1 - cd x)) + (sm r (inv a) 1).2) % 2) :: (sm r (inv a) 1).1, (cd (UInt8.ofNat (48 + (cd x + cd y + c) % 2)) + cd (ch (1 - cd x)) + (sm r (inv a) 1).2) / 2) := rfl
  simp only
  rw [e3, i1, cd_digJ _ (by omega), cd_ch _ (by omega)]
  simp only
  have h1 : ((cd x + cd y + c) % 2 + (1 - cd x) + (1 - c)) % 2 = cd y := by omega
  have h2 : ((cd x + cd y + c) % 2 + (1 - cd x) + (1 - c)) / 2 = 1 - (cd x + cd y + c) / 2 := by omega
  rw [h1, h2, ofNat_cd hy]
  exact ⟨rfl, by omega⟩
theorem dif_add {a s : List UInt8} (ha : knV a = true) (hs : knV s = true) (hl : a.length = s.length) : addV a s = ((sm a s 0).1, true) ∧ difV a (sm a s 0).1 = (s, true) := by
 have h1 : addV a s = ((sm a s 0).1, true) := by unfold addV; rw [if_pos ⟨ha, hs, hl⟩]
 obtain ⟨k1, k2, _⟩ := addV_known h1
 refine ⟨h1, ?_⟩
 unfold difV
 rw [if_pos ⟨ha, k1, k2.symm⟩, (sm_back a s hl (knV_iff.1 ha).1 (knV_iff.1 hs).1).1]
def cnt (f s : ByteArray) : Nat → ByteArray
 | 0 => f
 | i + 1 => bs (sm (toL (cnt f s i)) (toL s) 0).1
theorem cnt_known {f s : ByteArray} (hf : knV (toL f) = true) (hs : knV (toL s) = true) (hl : f.size = s.size) (i : Nat) : knV (toL (cnt f s i)) = true ∧ (cnt f s i).size = f.size := by
 induction i with
 | zero => exact ⟨hf, rfl⟩
 | succ i ih =>
  have hl2 : (toL (cnt f s i)).length = (toL s).length := by rw [toL_length, toL_length, ih.2, hl]
  obtain ⟨h1, h2, _⟩ := addV_known (dif_add ih.1 hs hl2).1
  show knV (toL (bs _)) = true ∧ (bs _).size = _
  rw [toL_bs, bs_size, h2, toL_length]
  exact ⟨h1, ih.2⟩
theorem cnt_next {f s : ByteArray} (hf : knV (toL f) = true) (hs : knV (toL s) = true) (hl : f.size = s.size) (i : Nat) : addV (toL (cnt f s i)) (toL s) = (toL (cnt f s (i + 1)), true) ∧ difV (toL (cnt f s i)) (toL (cnt f s (i + 1))) = (toL s, true) := by
 obtain ⟨h1, h2⟩ := cnt_known hf hs hl i
 obtain ⟨k1, k2⟩ := dif_add h1 hs (by rw [toL_length, toL_length, h2, hl])
 have e : toL (cnt f s (i + 1)) = (sm (toL (cnt f s i)) (toL s) 0).1 := by
  show toL (bs _) = _
  rw [toL_bs]
 rw [e]
 exact ⟨k1, k2⟩
structure CtMix (f s : ByteArray) (k : Nat) (P : List Nat) (l : List ByteArray) : Prop where
 len : l.length = k
 vl : ∀ v ∈ l, vld (f.size : Int) (toL v) = true
 same : ∀ j, j < k → j ∉ P → l.getD j default = cnt f s j
theorem ct_start {f s : ByteArray} (hf : knV (toL f) = true) (hs : knV (toL s) = true) (hl : f.size = s.size) (k : Nat) : CtMix f s k [] ((List.range k).map (cnt f s)) := by
 refine ⟨by simp, fun v hv => ?_, fun j hj _ => ?_⟩
 ·obtain ⟨i, _, rfl⟩ := List.mem_map.1 hv
  obtain ⟨h1, h2⟩ := cnt_known hf hs hl i
  exact vld_iff.2 ⟨knV_isV h1, by rw [toL_length, h2]⟩
 ·simp [List.getD, hj]
theorem ct_put {f s : ByteArray} {k : Nat} {P : List Nat} {l : List ByteArray} (h : CtMix f s k P l) {v : ByteArray} (hv : vld (f.size : Int) (toL v) = true) (i : Nat) : CtMix f s k (P ++ [i]) (l.set i v) := by
 refine ⟨by rw [List.length_set]; exact h.len, fun x hx => ?_, fun j hj hn => ?_⟩
 ·rcases List.mem_or_eq_of_mem_set hx with hx | hx
  ·exact h.vl x hx
  ·rw [hx]; exact hv
 ·have h1 : j ∉ P := fun hp => hn (List.mem_append_left _ hp)
  have h2 : i ≠ j := fun e => hn (List.mem_append_right _ (by simp [e]))
  rw [← h.same j hj h1]
  simp [List.getD, List.getElem?_set_ne h2]
theorem ct_more {f s : ByteArray} {k : Nat} {P : List Nat} {l : List ByteArray} (h : CtMix f s k P l) (i : Nat) : CtMix f s k (P ++ [i]) l :=
 ⟨h.len, h.vl, fun j hj hn => h.same j hj (fun hp => hn (List.mem_append_left _ hp))⟩
def badP (P : List Nat) (j : Nat) : Bool := decide (j ∈ P) || decide (j + 1 ∈ P)
theorem bad_len (P : List Nat) (m : Nat) : ((List.range m).filter (badP P)).length ≤ 2 * P.length := by
 have := nodup_len (l1 := (List.range m).filter (badP P)) (l2 := P ++ P.map (· - 1)) (List.Nodup.sublist List.filter_sublist List.nodup_range) (fun x hx => by
  have h1 := (List.mem_filter.1 hx).2
  unfold badP at h1
  rw [Bool.or_eq_true, decide_eq_true_iff, decide_eq_true_iff] at h1
  rcases h1 with h1 | h1
  ·exact List.mem_append_left _ h1
  ·exact List.mem_append_right _ (List.mem_map.2 ⟨x + 1, h1, by omega⟩))
 rw [List.length_append, List.length_map] at this
 omega
theorem ct_good {f s : ByteArray} (hf : knV (toL f) = true) (hs : knV (toL s) = true) (hl : f.size = s.size) {k : Nat} {P : List Nat} {l : List ByteArray} (h : CtMix f s k P l) {j : Nat} (hj : j + 1 < k) (hb : badP P j = false) : dAt l j = some s ∧ okA l s j = true := by
 unfold badP at hb
 rw [Bool.or_eq_false_iff, decide_eq_false_iff_not, decide_eq_false_iff_not] at hb
 have e1 := h.same j (by omega) hb.1
 have e2 := h.same (j + 1) hj hb.2
 obtain ⟨n1, n2⟩ := cnt_next hf hs hl j
 constructor
 ·unfold dAt
  rw [e1, e2, n2, if_pos rfl, bs_toL]
 ·unfold okA
  rw [e1, e2, n1, decide_eq_true_iff]
theorem count_le {α : Type} (p q : α → Bool) (l : List α) (h : ∀ x ∈ l, p x = true → q x = true) : l.countP p ≤ l.countP q := List.countP_mono_left h
theorem range_split (P : List Nat) (m : Nat) : ((List.range m).filter (badP P)).length + (List.range m).countP (fun j => !badP P j) = m := by
 rw [← List.countP_eq_length_filter]
 have := List.length_eq_countP_add_countP (badP P) (l := List.range m)
 rw [List.length_range] at this
 have e : (List.range m).countP (fun j => decide ¬badP P j = true) = (List.range m).countP (fun j => !badP P j) := by
  congr 1
  funext j
  cases badP P j <;> rfl
 rw [e] at this
 omega
theorem ct_counts {f s : ByteArray} (hf : knV (toL f) = true) (hs : knV (toL s) = true) (hl : f.size = s.size) {k : Nat} {P : List Nat} {l : List ByteArray} (h : CtMix f s k P l) : k - 1 ≤ (difs l).count s + 2 * P.length ∧ ∀ d, d ≠ s → (difs l).count d ≤ 2 * P.length := by
 have hb := bad_len P (k - 1)
 have hsp := range_split P (k - 1)
 have ec : ∀ d, (difs l).count d = (List.range (k - 1)).countP (fun j => dAt l j == some d) := fun d => by
  unfold difs difP
  rw [List.count_filterMap, h.len]
 constructor
 ·rw [ec]
  have := count_le (fun j => !badP P j) (fun j => dAt l j == some s) (List.range (k - 1)) (fun j hj hp => by
   have hj2 := List.mem_range.1 hj
   rw [(ct_good hf hs hl h (j := j) (by omega) (by simpa using hp)).1]
   simp)
  omega
 ·intro d hd
  rw [ec]
  have := count_le (fun j => dAt l j == some d) (badP P) (List.range (k - 1)) (fun j hj hp => by
   have hj2 := List.mem_range.1 hj
   cases hq : badP P j with
   | true => rfl
   | false =>
    rw [(ct_good hf hs hl h (j := j) (by omega) hq).1] at hp
    have hp2 : some s = some d := by simpa using hp
    injection hp2 with hp2
    exact absurd hp2.symm hd)
  rw [List.countP_eq_length_filter (p := badP P)] at this
  omega
theorem ct_valid {f s : ByteArray} (hf : knV (toL f) = true) {k : Nat} {P : List Nat} {l : List ByteArray} (h : CtMix f s k P l) (hk : k ≤ 4096) : validB (f.size : Int) l = true := by
 obtain ⟨_, h2, h3⟩ := knV_iff.1 hf
 have hp := List.length_pos_iff.2 h2
 rw [toL_length] at hp h3
 exact validB_iff.2 ⟨h.vl, by omega, by omega, by rw [h.len]; exact hk⟩
theorem ct_step {f s : ByteArray} (hf : knV (toL f) = true) (hs : knV (toL s) = true) (hl : f.size = s.size) {k : Nat} {P : List Nat} {l : List ByteArray} (h : CtMix f s k P l) (hP : P.length ≤ 5) (hk : 30 ≤ k) (hk2 : k ≤ 4096) : stepB l = s := by
 obtain ⟨c1, c2⟩ := ct_counts hf hs hl h
 have hlen := h.len
 have h0 : (l.getD 0 default).size = f.size := by
  have hm : l.getD 0 default ∈ l := by
   rw [List.getD_eq_getElem?_getD, List.getElem?_eq_getElem (by omega), Option.getD_some]
   exact List.getElem_mem _
  have := (vld_iff.1 (h.vl _ hm)).2
  rw [toL_length] at this
  omega
 unfold stepB
 rw [if_neg (by
  rw [h0, ct_valid hf h hk2]
  rintro (e | e)
  ·rw [e] at hlen; simp at hlen; omega
  ·cases e)]
 unfold stepOf
 have hcl : (difs l).count (bs []) = 0 := by
  rw [List.count_eq_zero]
  intro hm
  have := difs_ne (l := l) (k := l.length - 1) _ hm
  rw [toL_bs] at this
  simp [knV, isV] at this
 have hms : s ∈ difs l := List.count_pos_iff.1 (by omega)
 have g1 := (fold_ge (fun d => (difs l).count d) (difs l) (bs [], 0)).2 s hms
 have g2 := fold_snd (fun d => (difs l).count d) (difs l) (bs [], 0) hcl.symm
 rw [g2] at g1
 generalize ((difs l).foldl (bstep (fun d => (difs l).count d)) (bs [], 0)).1 = d at g1 ⊢
 rcases Classical.em (d = s) with e | e
 ·exact e
 ·have := c2 d e
  omega
theorem ct_exc {f s : ByteArray} (hf : knV (toL f) = true) (hs : knV (toL s) = true) (hl : f.size = s.size) {k : Nat} {P : List Nat} {l : List ByteArray} (h : CtMix f s k P l) : (exI l s).length ≤ 2 * P.length := by
 unfold exI exP
 rw [List.length_map, h.len]
 refine Nat.le_trans ?_ (bad_len P (k - 1))
 rw [← List.countP_eq_length_filter, ← List.countP_eq_length_filter]
 refine count_le _ _ _ (fun j hj hp => ?_)
 have hj2 := List.mem_range.1 hj
 cases hq : badP P j with
 | true => rfl
 | false =>
  rw [(ct_good hf hs hl h (j := j) (by omega) hq).2] at hp
  simp at hp
theorem ct_law {f s : ByteArray} (hf : knV (toL f) = true) (hs : knV (toL s) = true) (hl : f.size = s.size) {k : Nat} {P : List Nat} {l : List ByteArray} (h : CtMix f s k P l) (hP : P.length ≤ 5) (hk : 30 ≤ k) (hk2 : k ≤ 1000) :
  validB (f.size : Int) l = true ∧ stepB l = s ∧ (encB' (f.size : Int) l).2 = 0 ∧ (encB' (f.size : Int) l).1.length ≤ 300 + 300 * P.length ∧ decB (f.size : Int) (encB' (f.size : Int) l).1 (k : Int) = (l, 0) := by
 have hv := ct_valid hf h (by omega)
 have hst := ct_step hf hs hl h hP hk (by omega)
 have hex := ct_exc hf hs hl h
 refine ⟨hv, hst, ?_, ?_, ?_⟩
 ·obtain ⟨c, s, _, _, he⟩ := encB_cases hv
  rw [he]
 ·have h1 := encB_le hv (i := 1) (by omega) (s := codC l) rfl
  have hex2 := exI_len l s
  rw [h.len] at hex2
  have g := numsI_bits (M := 1000) (n := 11) cost19 (exI_valid (l := l) (by rw [h.len]; omega) s) (by omega) (fun t ht => by
   have := (exI_in (l := l) (st := s) t ht).2
   rw [h.len] at this
   omega) (by decide) (by omega) (by omega)
  have e2 := enc_le0 (shortL (atI l (exI l s)))
  have hsl : (shortL (atI l (exI l s))).length = (exI l s).length := by unfold shortL atI; rw [List.length_map, List.length_map]
  have e3 := encB0_few (shortL (atI l (exI l s))) (by omega) (fun x hx => by
   unfold shortL at hx
   obtain ⟨y, _, rfl⟩ := List.mem_map.1 hx
   rw [bs_size]
   exact shr_len128 _)
  rw [hsl] at e3
  have t1 := text_le (s := bs (shr (toL (l.getD 0 default)))) (by rw [bs_size]; exact shr_len128 _)
  have t2 := text_le (s := bs (shr (toL s))) (by rw [bs_size]; exact shr_len128 _)
  have hne : l ≠ [] := fun e => by have := h.len; rw [e] at this; simp at this; omega
  have c1 := kof7 (n := 1) (by omega)
  have c2 := kof12 (n := l.length) (by rw [h.len]; omega)
  have c3 := kof7 (n := (numsI (gapsT (exI l s))).length) (by omega)
  have t3 : (text (bs (numsI (gapsT (exI l s))))).length = 1 + (numsI (gapsT (exI l s))).length := by
   unfold text
   rw [List.length_append, num_length, toL_length, bs_size, c3]
  have hc : (codC l).length ≤ 2 + 130 + 130 + (text (bs (numsI (gapsT (exI l s))))).length + (enc (shortL (atI l (exI l s)))).1.length := by
   unfold codC
   rw [if_neg hne, hst]
   simp only [List.length_append, num_length]
   omega
  rw [List.length_append, num_length] at h1
  have m1 : 19 * (exI l s).length ≤ 19 * (2 * P.length) := Nat.mul_le_mul_left _ hex
  have m2 : (520 + 19) * (exI l s).length ≤ (520 + 19) * (2 * P.length) := Nat.mul_le_mul_left _ hex
  omega
 ·rw [decB_enc hv, h.len, if_neg (by omega)]
end Go.Proofs.YtoeeblldgoccoaaGreat
