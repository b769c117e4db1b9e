/-
  Joined texts: Kb, Wa, Row2, Bits4.
-/
import Derived.Test.YtoeeblldgoccoaaGreatL05
import Derived.Test.YtoeeblldgoccoaaGreatL06
import Derived.BigRegion
import Derived.SliceStrings
set_option linter.unusedVariables false
set_option linter.unusedSimpArgs false
set_option maxRecDepth 100000
set_option maxHeartbeats 8000000
namespace Wv.Bc
open Wv.Vi Wv.Ru
def validB (w : Int) (l : List ByteArray) : Bool := l.all (fun v => vld w (toL v)) && (decide (1 ≤ w) && decide (w ≤ 128) && decide (l.length ≤ 4096))
theorem validB_iff {w : Int} {l : List ByteArray} : validB w l = true ↔ (∀ v ∈ l, vld w (toL v) = true) ∧ 1 ≤ w ∧ w ≤ 128 ∧ l.length ≤ 4096 := by
 unfold validB;rw [Bool.and_eq_true, Bool.and_eq_true, Bool.and_eq_true, List.all_eq_true, decide_eq_true_iff, decide_eq_true_iff, decide_eq_true_iff, and_assoc]
def dAt (l : List ByteArray) (j : Nat) : Option ByteArray := if (difV (toL (l.getD j default)) (toL (l.getD (j + 1) default))).2 = true then some (bs (difV (toL (l.getD j default)) (toL (l.getD (j + 1) default))).1) else none
def difP (l : List ByteArray) (k : Nat) : List ByteArray := (List.range k).filterMap (dAt l)
def difs (l : List ByteArray) : List ByteArray := difP l (l.length - 1)
theorem difP_succ (l : List ByteArray) (k : Nat) : difP l (k + 1) = difP l k ++ (dAt l k).toList := by
 unfold difP;rw [List.range_succ, List.filterMap_append]
 congr 1 <;> (cases h : dAt l k <;> simp [h])
theorem difs_ne {l : List ByteArray} {k : Nat} : ∀ d ∈ difP l k, knV (toL d) = true := by
 intro d hd;obtain ⟨j, _, hj⟩ := List.mem_filterMap.1 hd;unfold dAt at hj
 split at hj
 ·rename_i h
  injection hj with hj
  subst hj;exact (difV_known (Prod.ext rfl h)).1
 ·cases hj
def bstep (F : ByteArray → Nat) (p : ByteArray × Nat) (d : ByteArray) : ByteArray × Nat := if p.2 < F d then (d, F d) else p
def stepOf (ds : List ByteArray) : ByteArray := (ds.foldl (bstep (fun d => ds.count d)) (bs [], 0)).1
def stepB (l : List ByteArray) : ByteArray := if l = [] ∨ validB ((l.getD 0 default).size : Int) l = false then bs [] else stepOf (difs l)
theorem bstep_le (F : ByteArray → Nat) (p : ByteArray × Nat) (d : ByteArray) : p.2 ≤ (bstep F p d).2 ∧ F d ≤ (bstep F p d).2 := by
 unfold bstep
 split
 ·exact ⟨by simp only; omega, Nat.le_refl _⟩
 ·exact ⟨Nat.le_refl _, by omega⟩
theorem fold_ge (F : ByteArray → Nat) (ds : List ByteArray) : ∀ p, p.2 ≤ (ds.foldl (bstep F) p).2 ∧ ∀ d ∈ ds, F d ≤ (ds.foldl (bstep F) p).2 := by
 induction ds with
 | nil => intro p; exact ⟨Nat.le_refl _, fun d hd => by cases hd⟩
 | cons a r ih =>
  intro p;obtain ⟨h1, h2⟩ := bstep_le F p a;obtain ⟨i1, i2⟩ := ih (bstep F p a);refine ⟨Nat.le_trans h1 i1, fun d hd => ?_⟩
  rcases List.mem_cons.1 hd with rfl | hd
  ·exact Nat.le_trans h2 i1
  ·exact i2 d hd
theorem dict_snoc (l : List ByteArray) (x : ByteArray) : dict (l ++ [x]) = dstep (dict l) x := by unfold dict; rw [List.foldl_append]; rfl
theorem fold_dict (F : ByteArray → Nat) (ds : List ByteArray) (p : ByteArray × Nat) : (dict ds).foldl (bstep F) p = ds.foldl (bstep F) p := by
 rw [← List.reverse_reverse ds]
 induction ds.reverse with
 | nil => rfl
 | cons a r ih =>
  rw [List.reverse_cons, dict_snoc, List.foldl_append];unfold dstep
  by_cases h : a ∈ dict r.reverse
  ·rw [if_pos h, ih]
   have h2 : a ∈ r.reverse := (mem_dict _ _).1 h;have := (fold_ge F r.reverse p).2 a h2
   show _ = bstep F _ a
   generalize List.foldl (bstep F) p r.reverse = q at *
   unfold bstep;rw [if_neg (by omega)]
  ·rw [if_neg h, List.foldl_append, ih]
theorem fold_snd (F : ByteArray → Nat) (ds : List ByteArray) : ∀ p, p.2 = F p.1 → (ds.foldl (bstep F) p).2 = F (ds.foldl (bstep F) p).1 := by
 induction ds with
 | nil => intro p h; exact h
 | cons a r ih =>
  intro p h
  apply ih
  unfold bstep
  split
  ·rfl
  ·exact h
def okA (l : List ByteArray) (st : ByteArray) (j : Nat) : Bool := decide (addV (toL (l.getD j default)) (toL st) = (toL (l.getD (j + 1) default), true))
def exP (l : List ByteArray) (st : ByteArray) (k : Nat) : List Int := ((List.range k).filter (fun j => !okA l st j)).map (fun (j : Nat) => (j : Int) + 1)
def exI (l : List ByteArray) (st : ByteArray) : List Int := exP l st (l.length - 1)
theorem exP_succ (l : List ByteArray) (st : ByteArray) (k : Nat) : exP l st (k + 1) = if okA l st k = true then exP l st k else exP l st k ++ [(k : Int) + 1] := by
 unfold exP;rw [List.range_succ, List.filter_append, List.map_append]
 cases h : okA l st k <;> simp [h]
theorem exP_len (l : List ByteArray) (st : ByteArray) (k : Nat) : (exP l st k).length ≤ k := by
 unfold exP;rw [List.length_map];have := List.length_filter_le (fun j => !okA l st j) (List.range k);rw [List.length_range] at this;exact this
theorem exP_in {l : List ByteArray} {st : ByteArray} {k : Nat} : ∀ x ∈ exP l st k, 1 ≤ x ∧ x ≤ (k : Int) := by
 intro x hx;obtain ⟨j, hj, rfl⟩ := List.mem_map.1 hx;have := List.mem_range.1 (List.mem_filter.1 hj).1;omega
theorem exP_sorted (l : List ByteArray) (st : ByteArray) (k : Nat) : (exP l st k).Pairwise (· < ·) := by
 unfold exP;rw [List.pairwise_map];exact (List.pairwise_lt_range.sublist List.filter_sublist).imp (fun h => by omega)
def atI (l : List ByteArray) (x : List Int) : List ByteArray := x.map (fun i => l.getD i.toNat default)
def shortL (l : List ByteArray) : List ByteArray := l.map (fun v => bs (shr (toL v)))
def extL (w : Int) : List ByteArray → Option (List ByteArray)
 | [] => some []
 | s :: r => if (ext w (toL s)).2 = 0 then (extL w r).map (bs (ext w (toL s)).1 :: ·) else none
def mixL (last : ByteArray) : List ByteArray → List ByteArray
 | [] => []
 | v :: r => bs (mixV (toL v) (toL last)).1 :: mixL v r
def unmix (last : ByteArray) : List ByteArray → List ByteArray
 | [] => []
 | v :: r => bs (mixV (toL v) (toL last)).1 :: unmix (bs (mixV (toL v) (toL last)).1) r
theorem extL_short {w : Int} {l : List ByteArray} (h : ∀ v ∈ l, vld w (toL v) = true) : extL w (shortL l) = some l := by
 induction l with
 | nil => rfl
 | cons v r ih =>
  have hv := vld_iff.1 (h v List.mem_cons_self);have he := ext_shr hv.1;rw [hv.2] at he
  show (if (ext w (toL (bs (shr (toL v))))).2 = 0 then (extL w (shortL r)).map (bs (ext w (toL (bs (shr (toL v))))).1 :: ·) else none) = _
  rw [toL_bs, he, if_pos rfl, ih (fun x hx => h x (List.mem_cons_of_mem _ hx))];rfl
theorem extL_valid {w : Int} {l r : List ByteArray} (h : extL w l = some r) : (∀ v ∈ r, vld w (toL v) = true) ∧ r.length = l.length := by
 induction l generalizing r with
 | nil => injection h with h; subst h; exact ⟨fun v hv => (by cases hv), rfl⟩
 | cons s t ih =>
  unfold extL at h
  split at h
  ·rename_i he
   match hq : extL w t, h with
   | none, h => cases h
   | some q, h =>
    injection h with h
    subst h;obtain ⟨i1, i2⟩ := ih hq;refine ⟨fun v hv => ?_, by simp [i2]⟩
    rcases List.mem_cons.1 hv with rfl | hv
    ·rw [toL_bs]; exact ext_vld (Prod.ext rfl he)
    ·exact i1 v hv
  ·cases h
theorem mixL_len (l : List ByteArray) : ∀ last, (mixL last l).length = l.length := by
 induction l with
 | nil => intro _; rfl
 | cons v r ih => intro last; simp [mixL, ih]
theorem vld_mix {w : Int} {a b : List UInt8} (ha : vld w a = true) (hb : vld w b = true) : vld w (mixV a b).1 = true ∧ mixV (mixV a b).1 b = (a, 0) := by
 obtain ⟨a1, a2⟩ := vld_iff.1 ha;obtain ⟨b1, b2⟩ := vld_iff.1 hb;obtain ⟨m, h1, h2, h3, h4⟩ := mix_back a1 b1 (by omega);rw [h1];exact ⟨vld_iff.2 ⟨h2, by show (m.length : Int) = w; omega⟩, h4⟩
theorem mixL_valid {w : Int} {l : List ByteArray} : ∀ {last : ByteArray}, vld w (toL last) = true → (∀ v ∈ l, vld w (toL v) = true) → (∀ v ∈ mixL last l, vld w (toL v) = true) ∧ unmix last (mixL last l) = l := by
 induction l with
 | nil => intro last _ _; exact ⟨fun v hv => (by cases hv), rfl⟩
 | cons v r ih =>
  intro last hl h;have hv := h v List.mem_cons_self;obtain ⟨m1, m2⟩ := vld_mix hv hl;obtain ⟨i1, i2⟩ := ih (last := v) hv (fun x hx => h x (List.mem_cons_of_mem _ hx));refine ⟨fun x hx => ?_, ?_⟩
  ·rcases List.mem_cons.1 hx with rfl | hx
   ·rw [toL_bs]; exact m1
   ·exact i1 x hx
  ·show bs (mixV (toL (bs (mixV (toL v) (toL last)).1)) (toL last)).1 :: unmix (bs (mixV (toL (bs (mixV (toL v) (toL last)).1)) (toL last)).1) (mixL v r) = _
   rw [toL_bs, m2];simp only [bs_toL];rw [i2]
theorem zeros_vld {w : Int} (h1 : 1 ≤ w) (h2 : w ≤ 128) : vld w (allV w 48) = true := by
 unfold allV;rw [if_neg (by simp [isC, cd]; omega)];refine vld_iff.2 ⟨isV_iff.2 ⟨fun c hc => ?_, fun h => ?_, by rw [List.length_replicate]; omega⟩, by rw [List.length_replicate]; omega⟩
 ·rw [List.eq_of_mem_replicate hc]; decide
 ·have := congrArg List.length h
  rw [List.length_replicate] at this
  simp at this
  omega
end Wv.Bc
namespace Go.Proofs.YtoeeblldgoccoaaGreat
open Go.RowKit Go.Proofs Wv Wv.Vi Wv.Rc
theorem u8inf : (Tryz.prog.info? 5).map (fun i => (i.zero, i.size, i.bytes)) = some (some (.int .u8 0), 1, 1) := by kernel_rfl
def OwnNew (w : World) (dv dv' : Value) : Prop := dv'.ownBlock = dv.ownBlock ∨ ∀ g, dv'.ownBlock = some g → w.heap.size ≤ g
theorem OwnNew.refl (w : World) (dv : Value) : OwnNew w dv dv := .inl rfl
theorem OwnNew.trans {w w' : World} {a b c : Value} (h : OwnNew w a b) (k : OwnNew w' b c) (hs : w.heap.size ≤ w'.heap.size) : OwnNew w a c := by
 rcases k with k | k
 ·rcases h with h | h
  ·exact .inl (k.trans h)
  ·exact .inr (fun g hg => h g (k ▸ hg))
 ·exact .inr (fun g hg => Nat.le_trans hs (k g hg))
theorem fr_foot {w w1 w2 : World} {b : Nat} {a d : Value} (h : Fr (foot b a) w w1) (k : Fr (foot b d) w1 w2) (ho : OwnNew w a d) : Fr (foot b a) w w2 :=
 h.trans' k (fun i hi hs => by
  rcases hs with hs | hs
  ·exact .inl hs
  ·rcases ho with ho | ho
   ·exact .inr (ho ▸ hs)
   ·have := ho i hs; omega)
def EnAt (w : World) (b : Nat) (dv : Value) (e : En) : Prop :=
 Bk w b 223 #[dv, .int .u32 (e.low : Int), .int .u32 (e.size : Int)] ∧ w.ownsRow 0 5 1 dv e.out.length (e.out.map bv)
theorem EnAt.drewN {w : World} {b : Nat} {dv : Value} {e : En} (h : EnAt w b dv e) (n : Nat) : EnAt (w.drewN n) b dv e := h
theorem EnAt.drew {w : World} {b : Nat} {dv : Value} {e : En} (h : EnAt w b dv e) : EnAt w.drew b dv e := h
theorem EnAt.apart {w : World} {b : Nat} {dv : Value} {e : En} (h : EnAt w b dv e) : dv.ownBlock ≠ some b := own_apart h.2 h.1 (by decide)
theorem EnAt.below {w w' : World} {b : Nat} {dv : Value} {e : En} (h : EnAt w b dv e) (hb : Below w.heap.size w w') : EnAt w' b dv e :=
 ⟨h.1.below hb h.1.lt, own_fr h.2 (Fr.of_below (S := nob) hb) (fun _ _ f => f)⟩
theorem EnAt.fr {S : Nat → Prop} {w w' : World} {b : Nat} {dv : Value} {e : En} (h : EnAt w b dv e) (hf : Fr S w w') (h1 : ¬ S b) (h2 : ∀ g, dv.ownBlock = some g → ¬ S g) : EnAt w' b dv e :=
 ⟨h.1.fr hf h1, own_fr h.2 hf h2⟩
theorem rclamp_any (p : Int) (h1 : 1 ≤ p) (h2 : p ≤ 2047) (w : World) :
  Calls Tryz.prog 252 #[.int .i64 p] w fun x w' => x = .returned (.int .u32 p) ∧ w = w' := by
 go_enter Tryz.func252, Tryz.ntmps252
 go_wp2
 go_ret
 exact ⟨rfl, rfl⟩
theorem carry_at (l : List UInt8) (j : Nat) (hj : j < l.length) (h : carry l = carry (l.take (j + 1)) ++ List.replicate (l.length - (j + 1)) 0) :
  (l[j] = 255 → carry l = carry (l.take j) ++ List.replicate (l.length - j) 0) ∧ (l[j] ≠ 255 → carry l = l.take j ++ (l[j] + 1) :: List.replicate (l.length - (j + 1)) 0) := by
 rw [List.take_succ_eq_append_getElem hj] at h;refine ⟨fun e => ?_, fun e => ?_⟩
 ·rw [e, carry_full] at h
  rw [h, List.append_assoc, show l.length - j = l.length - (j + 1) + 1 from by omega, List.replicate_succ];rfl
 ·rw [carry_room _ _ e] at h
  rw [h, List.append_assoc];rfl
theorem bump_byte (x : UInt8) : ((x.toNat : Int) + 1) % 256 = ((x + 1).toNat : Int) := by
 rw [UInt8.toNat_add];have : (1 : UInt8).toNat = 1 := rfl;have := UInt8.toNat_lt x;omega
theorem zero_byte (x : UInt8) (h : x = 255) : (((x + 1).toNat : Int) != 0) = false := by rw [h]; rfl
theorem some_byte (x : UInt8) (h : x ≠ 255) : (((x + 1).toNat : Int) != 0) = true := by
 rw [bne_iff_ne]
 have h1 : x.toNat ≠ 255 := fun e => h (UInt8.toNat_inj.1 e)
 rw [← bump_byte];have := UInt8.toNat_lt x;omega
def Part (l : List UInt8) (j : Nat) : List UInt8 := l.take j ++ List.replicate (l.length - j) 0
theorem part_length (l : List UInt8) (j : Nat) (h : j ≤ l.length) : (Part l j).length = l.length := by simp [Part]; omega
theorem part_get (l : List UInt8) (j : Nat) (h : j < l.length) : (Part l (j + 1))[j]? = some l[j] := by
 unfold Part;rw [List.getElem?_append_left (by rw [List.length_take]; omega), List.getElem?_take_of_lt (by omega), List.getElem?_eq_getElem h]
theorem part_set (l : List UInt8) (j : Nat) (h : j < l.length) (x : UInt8) : (Part l (j + 1)).set j x = l.take j ++ x :: List.replicate (l.length - (j + 1)) 0 := by
 unfold Part
 have hl : (l.take j).length = j := by rw [List.length_take]; omega
 rw [List.take_succ_eq_append_getElem h, List.append_assoc, List.set_append_right _ _ (by omega), hl, Nat.sub_self];rfl
theorem part_zero (l : List UInt8) (j : Nat) (h : j < l.length) : l.take j ++ 0 :: List.replicate (l.length - (j + 1)) 0 = Part l j := by
 unfold Part;rw [show l.length - j = l.length - (j + 1) + 1 from by omega, List.replicate_succ]
theorem rcarry_any {w : World} {b : Nat} {dv : Value} {e : En} (h : EnAt w b dv e) (hpos : 0 < e.out.length) (hm : e.out.length ≤ 9223372036854775807) :
  Calls Tryz.prog 254 #[.pointer (some ⟨b, 0, none⟩)] w fun x w' => x = .returned (.tuple #[]) ∧ EnAt w' b dv { e with out := carry e.out } ∧ Fr (foot b dv) w w' := by
 have h0 := h.1.cell 0
 simp at h0
 obtain ⟨g, cap, rfl, hcap⟩ := own_form h.2 hpos;obtain ⟨o, ho⟩ : ∃ o, e.out = o := ⟨_, rfl⟩;have hown := h.2;rw [ho] at hown hm h0 hcap hpos;have hbk := h.1;rw [ho] at hbk
 have hgb : b ≠ g := fun e => by
  have := h.apart
  simp [Value.ownBlock, e] at this
 have Hgb := hide hgb;have Ho := hide ho;clear hgb h ho;rw [Ho.out]
 go_enter Tryz.func254, Tryz.ntmps254
 go_wp2
 go_loopw [2] (fun i wr => ∃ j : Nat, j ≤ o.length ∧ i = .int .i64 ((j : Int) - 1) ∧ Bk wr b 223 #[.slice (some ⟨g, 0, none⟩) o.length cap, .int .u32 (e.low : Int), .int .u32 (e.size : Int)] ∧ wr.ownsRow 0 5 1 (.slice (some ⟨g, 0, none⟩) o.length cap) o.length ((Part o j).map bv) ∧ Fr (foot b (.slice (some ⟨g, 0, none⟩) o.length cap)) w wr ∧ Hid (carry o = carry (o.take j) ++ List.replicate (o.length - j) 0)) (fun i _ => (intOf i + 1).toNat)
 case atStart => exact ⟨o.length, Nat.le_refl _, rfl, hbk, by simpa [Part] using hown, Fr.refl _ _, hide (by simp)⟩
 case round =>
  obtain ⟨j, hj, rfl, hbk, hown, hf, hcar⟩ := hrel;clear h0;have g0 := hbk.cell 0
  simp at g0
  by_cases hlt : 0 < j
  ·obtain ⟨k, rfl⟩ : ∃ k, j = k + 1 := ⟨j - 1, by omega⟩
   have hk : k < o.length := by omega
   obtain ⟨x, hx⟩ : ∃ x, o[k] = x := ⟨_, rfl⟩;have hca := carry_at o k hk hcar.out;rw [hx] at hca;have Hca := hide hca;obtain ⟨c1, c2⟩ := own_cell hown k (.int .u8 (x.toNat : Int)) (by rw [List.getElem?_map, part_get o k hk, hx]; rfl)
   have i1 : ((k + 1 : Nat) : Int) - 1 = (k : Int) := by omega
   have hk2 : (k : Int) < (o.length : Int) := by omega
   have hb := bump_byte x;have hz0 := hide (fun h => zero_byte x h);have hz1 := hide (fun h => some_byte x h);have hyv : bv (x + 1) = .int .u8 ((x + 1).toNat : Int) := rfl;obtain ⟨y, hy⟩ : ∃ y : Nat, (x + 1).toNat = y := ⟨_, rfl⟩;rw [hy] at hb hz0 hz1 hyv;have hps := part_set o k hk (x + 1);have hput := own_put hown k hk (.int .u8 (y : Int));have hcell := (own_cell hput k (.int .u8 (y : Int)) (by rw [List.getElem?_set_self (by rw [List.length_map, part_length o _ (by omega)]; exact hk)])).1;rw [show ((Part o (k + 1)).map bv).set k (.int .u8 (y : Int)) = ((Part o (k + 1)).set k (x + 1)).map bv from by rw [List.map_set, hyv], hps] at hput;have hoff := hbk.off (p := ⟨g, k, none⟩) Hgb.out (.int .u8 (y : Int));have q0 := hoff.cell 0
   simp at q0
   have hf2 := hf.setCell (p := ⟨g, k, none⟩) (.inl (.inr rfl)) (.int .u8 (y : Int));have Hput := hide hput;have Hoff := hide hoff;have Hf2 := hide hf2;have hpz := hide (part_zero o k hk);rw [i1]
   by_cases hx255 : x = 255
   ·have hz := hz0.out hx255
    have Hx := hide hx255;clear hx hcar hca hps hput hoff hf2 hown hbk hf hx255 hyv hy hz0 hz1
    go_wp2
    go_roundw
    case rel =>
     refine ⟨k, by omega, rfl, Hoff.out, ?_, Hf2.out, hide (Hca.out.1 Hx.out)⟩;have := Hput.out;rw [Hx.out] at this;rw [← hpz.out];exact this
    case measure => simp [intOf] <;> omega
   ·have hz := hz1.out hx255
    have Hx := hide (Hca.out.2 hx255);clear hx hcar hca hps hput hoff hf2 hown hbk hf hx255 hyv hy hz0 hz1
    go_wp2
    go_returns
    refine ⟨rfl, ⟨?_, ?_⟩, Hf2.out⟩
    ·have := Hoff.out
     simp only [carry_length];exact this
    ·have := Hput.out
     simp only [carry_length];rw [Hx.out];exact this
  ·have hj0 : j = 0 := by omega
   subst hj0
   go_wp2
   go_end0
   refine ⟨rfl, ⟨?_, ?_⟩, hf⟩
   ·simp only [carry_length]
    exact hbk
   ·simp only [carry_length]
    rw [hcar.out];have := hown
    simpa [Part, carry, inc] using this
end Go.Proofs.YtoeeblldgoccoaaGreat
namespace Wv
open Go Go.RowKit Go.Deep Go.ChangeShapes Go.WideShapes
section
variable {H : Type} {enc : TypeId × Value → H} {P : Program} {w : World} {base : Nat} {spare : Nat → Bool} {held : Bool}
def I64 (n : Int) : Prop := -9223372036854775808 ≤ n ∧ n ≤ 9223372036854775807
theorem i64_wf {n : Int} (h : (Lit.int .i64 n).wf = true) : I64 n := bounds_i64 h
def pv (l : List (Int × Int)) : List Value := l.flatMap fun x => [iv x.1, iv x.2]
theorem pv_length (l : List (Int × Int)) : (pv l).length = l.length * 2 := by
 induction l with
 | nil => rfl
 | cons c D ih => rw [show pv (c :: D) = [iv c.1, iv c.2] ++ pv D from rfl, List.length_append, ih, List.length_cons]; simp; omega
theorem pv_snoc (l : List (Int × Int)) (x : Int × Int) : pv (l ++ [x]) = pv l ++ [iv x.1, iv x.2] := by simp [pv]
theorem pv_get (D : List (Int × Int)) : ∀ (i : Nat) (h : i < D.length), (pv D)[i * 2]? = some (iv D[i].1) ∧ (pv D)[i * 2 + 1]? = some (iv D[i].2) := by
 induction D with
 | nil => intro i h; simp at h
 | cons c D ih =>
  intro i h;have e : pv (c :: D) = [iv c.1, iv c.2] ++ pv D := rfl
  match i, h with
  | 0, _ => exact ⟨rfl, rfl⟩
  | i + 1, h =>
   have h2 : i < D.length := by simpa using h
   rw [e, List.getElem?_append_right (by simp; omega), List.getElem?_append_right (by simp; omega)];have := ih i h2;rw [show (i + 1) * 2 - [iv c.1, iv c.2].length = i * 2 from by simp; omega, show (i + 1) * 2 + 1 - [iv c.1, iv c.2].length = i * 2 + 1 from by simp; omega];exact this
end
end Wv
namespace Wv.Bit
open Go.Lib (trailingZeros8)
def nrd (s : ByteArray) : Option Nat :=
 if s.size = 0 then none
 else if s.data.toList.getD (s.size - 1) 0 = 0 then none
 else if 65536 < 8 * s.size - 1 - trailingZeros8 (s.data.toList.getD (s.size - 1) 0).toNat then none
 else some (8 * s.size - 1 - trailingZeros8 (s.data.toList.getD (s.size - 1) 0).toNat)
def IsLast (s : ByteArray) (n : Nat) : Prop := n < 8 * s.size ∧ rbit s n = true ∧ ∀ i, n < i → i < 8 * s.size → rbit s i = false
theorem IsLast.unique {s : ByteArray} {n m : Nat} (h : IsLast s n) (k : IsLast s m) : n = m := by
 rcases Nat.lt_trichotomy n m with c | c | c
 ·have := h.2.2 m c k.1; rw [k.2.1] at this; cases this
 ·exact c
 ·have := k.2.2 n c h.1; rw [h.2.1] at this; cases this
theorem tz8_spec : ∀ x : Fin 256, x.val ≠ 0 → trailingZeros8 x.val < 8 ∧ x.val.testBit (trailingZeros8 x.val) = true ∧ ∀ j : Fin 8, j.val < trailingZeros8 x.val → x.val.testBit j.val = false := by decide +kernel
theorem last_of (s : ByteArray) (h0 : s.size ≠ 0) (hl : s.data.toList.getD (s.size - 1) 0 ≠ 0) : IsLast s (8 * s.size - 1 - trailingZeros8 (s.data.toList.getD (s.size - 1) 0).toNat) := by
 obtain ⟨x, hx⟩ : ∃ x, s.data.toList.getD (s.size - 1) 0 = x := ⟨_, rfl⟩;rw [hx] at hl ⊢
 have hx0 : x.toNat ≠ 0 := fun h => hl (by
  have := congrArg UInt8.ofNat h
  simpa using this)
 obtain ⟨h1, h2, h3⟩ := tz8_spec ⟨x.toNat, UInt8.toNat_lt x⟩ hx0;simp only at h1 h2 h3
 generalize trailingZeros8 x.toNat = t at *
 have hr : ∀ i, 8 * (s.size - 1) ≤ i → i < 8 * s.size → rbit s i = x.toNat.testBit (7 - i % 8) := by
  intro i a b;rw [rbit, show i / 8 = s.size - 1 from by omega, hx]
 refine ⟨by omega, ?_, fun i a b => ?_⟩
 ·rw [hr _ (by omega) (by omega), show 7 - (8 * s.size - 1 - t) % 8 = t from by omega, h2]
 ·rw [hr i (by omega) b]
  exact h3 ⟨7 - i % 8, by omega⟩ (by simp only; omega)
theorem nrd_le {s : ByteArray} {n : Nat} (h : nrd s = some n) : n ≤ 65536 ∧ IsLast s n ∧ s.size ≤ 8193 := by
 unfold nrd at h
 split at h
 ·cases h
 ·rename_i h0
  split at h
  ·cases h
  ·rename_i h1
   split at h
   ·cases h
   ·rename_i h2
    injection h with h
    have := last_of s h0 h1;rw [h] at this h2;refine ⟨by omega, this, ?_⟩;have h8 : trailingZeros8 (s.data.toList.getD (s.size - 1) 0).toNat ≤ 8 := Go.Lib.trailingZeros8_le8 ⟨_, UInt8.toNat_lt _⟩;omega
theorem nrd_of {s : ByteArray} {n : Nat} (h : IsLast s n) (h0 : s.size ≠ 0) (hl : s.data.toList.getD (s.size - 1) 0 ≠ 0) : nrd s = if 65536 < n then none else some n := by
 have := (last_of s h0 hl).unique h;unfold nrd;rw [if_neg h0, if_neg hl, this]
theorem nrd_none0 {s : ByteArray} (h : s.size = 0) : nrd s = none := by unfold nrd; rw [if_pos h]
theorem nrd_none1 {s : ByteArray} (h : s.data.toList.getD (s.size - 1) 0 = 0) : nrd s = none := by
 unfold nrd
 by_cases h0 : s.size = 0
 ·rw [if_pos h0]
 ·rw [if_neg h0, if_pos h]
def bstr (l : List Bool) : ByteArray := ⟨(pack (l ++ [true])).toArray⟩
theorem bstr_size (l : List Bool) : (bstr l).size = l.length / 8 + 1 := by
 show (pack (l ++ [true])).toArray.size = _
 simp [pack_length]; omega
theorem rbit_pack (l : List Bool) (i : Nat) (h : i < 8 * (pack l).length) : rbit ⟨(pack l).toArray⟩ i = l.getD i false := by
 have h1 : (pack l).toArray.toList.getD (i / 8) 0 = UInt8.ofNat (byteAt l (i / 8)) := by
  simp only [List.getD, List.getElem?_eq_getElem (show i / 8 < (pack l).length by omega), pack_getElem];rfl
 have h2 : (UInt8.ofNat (byteAt l (i / 8))).toNat = byteAt l (i / 8) := by
  have := byteAt_lt l (i / 8)
  simp [Nat.mod_eq_of_lt this]
 unfold rbit
 show ((pack l).toArray.toList.getD (i / 8) 0).toNat.testBit _ = _
 rw [h1, h2]
 have h3 : byteAt l (i / 8) / 2 ^ (7 - i % 8) % 2 = bt l i := by
  have e : ∀ k, bt l k ≤ 1 := bt_le l;rw [byteAt_sum];have hm : i % 8 < 8 := Nat.mod_lt _ (by omega);have hi : i = 8 * (i / 8) + i % 8 := (Nat.div_add_mod i 8).symm
  generalize i / 8 = q at *
  generalize i % 8 = m at *
  subst hi
  have e0 := e (8 * q); have e1 := e (8 * q + 1); have e2 := e (8 * q + 2); have e3 := e (8 * q + 3)
  have e4 := e (8 * q + 4); have e5 := e (8 * q + 5); have e6 := e (8 * q + 6); have e7 := e (8 * q + 7)
  have : m = 0 ∨ m = 1 ∨ m = 2 ∨ m = 3 ∨ m = 4 ∨ m = 5 ∨ m = 6 ∨ m = 7 := by omega
  rcases this with rfl | rfl | rfl | rfl | rfl | rfl | rfl | rfl <;> simp <;> omega
 rw [Nat.testBit_eq_decide_div_mod_eq, h3, bt]
 cases l.getD i false <;> simp
theorem nrd_bstr (l : List Bool) (h : l.length ≤ 65536) : nrd (bstr l) = some l.length ∧ rbits (bstr l) l.length = l := by
 have hs := bstr_size l
 have hpl : (pack (l ++ [true])).length = l.length / 8 + 1 := by rw [pack_length, List.length_append, List.length_singleton]; omega
 have hr : ∀ i, i < 8 * (l.length / 8 + 1) → rbit (bstr l) i = (l ++ [true]).getD i false := fun i hi => rbit_pack (l ++ [true]) i (by rw [hpl]; exact hi)
 have hlast : IsLast (bstr l) l.length := by
  refine ⟨by rw [hs]; omega, ?_, fun i a b => ?_⟩
  ·rw [hr _ (by omega)]; simp
  ·rw [hr _ (by rw [hs] at b; exact b)]
   simp [List.getD, List.getElem?_append, List.getElem?_eq_none (show ([true] : List Bool).length ≤ i - l.length by simp; omega), show ¬ i < l.length by omega]
 constructor
 ·rw [nrd_of hlast (by omega) ?_, if_neg (by omega)]
  intro hz;have h1 := hlast.2.1;unfold rbit at h1;rw [show l.length / 8 = (bstr l).size - 1 from by omega, hz] at h1
  simp at h1
 ·apply List.ext_getElem
  ·rw [rbits_length]
  ·intro i h1 h2
   have := rbits_get (bstr l) l.length i h2;rw [hr i (by omega)] at this;simp only [List.getD, List.getElem?_eq_getElem h1, Option.getD_some] at this;rw [this, List.getElem?_append_left h2, List.getElem?_eq_getElem h2];rfl
end Wv.Bit
