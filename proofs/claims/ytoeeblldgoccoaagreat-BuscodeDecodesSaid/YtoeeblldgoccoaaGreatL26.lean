/-
  Joined texts: Ro, Ta, Hd, He, Oa, Kc, Kd, Qj, Qk.
-/
import Derived.Test.YtoeeblldgoccoaaGreatL25
import Derived.Test.YtoeeblldgoccoaaGreatL11
set_option linter.unusedVariables false
set_option linter.unusedSimpArgs false
set_option maxRecDepth 100000
set_option maxHeartbeats 8000000
namespace Go.Proofs.YtoeeblldgoccoaaGreat
open Go.RowKit Go.Proofs Wv Wv.Vi Wv.Rc Wv.Mo Wv.Ru
theorem read_any {w : World} (data : ByteArray) (hd : data.size ≤ 1000000000) :
  Calls Tryz.prog 160 #[.string data] w fun x w' => RdRes w (readL (toL data)) x w' := by
 match h1 : rnum (toL data) 1 with
 | none =>
  obtain ⟨e, he, hn⟩ := numR_nok h1
  have hr : readL (toL data) = none := by unfold readL; rw [h1]
  rw [hr];exact read_bad data (by omega) 0 data e data e hn (numR_err he 4096) he (Nat.le_refl _)
 | some (c, s1) =>
  obtain ⟨n1, hc1, hl1⟩ := numR_some h1
  match h2 : rnum s1 4096 with
  | none =>
   obtain ⟨e, he, hn⟩ := numR_nok h2
   have hr : readL (toL data) = none := by unfold readL; rw [h1]; simp only; rw [h2]
   rw [hr];exact read_bad data (by omega) c (bs s1) 0 (bs s1) e n1 hn he hl1
  | some (n, s2) => exact read_main data hd c n s1 s2 h1 h2
theorem fin_len {c : Nat} {ws : List ByteArray} {A B : List Int × Nat} {l : List ByteArray} (h : fin c ws A B = some l) : ∃ Z, expand ws Z [] = (l, 0) := by
 unfold fin at h;obtain ⟨Z, hZ⟩ : ∃ Z, (if c = 1 then (unfront A.1).1.map Int.ofNat else A.1).zip (B.1.map (· + 1)) = Z := ⟨_, rfl⟩;rw [hZ] at h
 split at h
 ·cases h
 ·split at h
  ·cases h
  ·split at h
   ·cases h
   ·split at h
    ·rename_i h0
     injection h with h
     exact ⟨_, Prod.ext h h0⟩
    ·cases h
theorem readL_fin {s : List UInt8} {l : List ByteArray} (h : readL s = some l) : ∃ c ws A B n s2 s3, fin c ws A B = some l ∧ rtexts n s2 = some (ws, s3) := by
 unfold readL at h
 match h1 : rnum s 1, h with
 | none, h => cases h
 | some (c, s1), h =>
  simp only at h
  match h2 : rnum s1 4096, h with
  | none, h => cases h
  | some (n, s2), h =>
   simp only at h
   match h3 : rtexts n s2, h with
   | none, h => cases h
   | some (ws, s3), h =>
    simp only at h
    match h4 : rtext s3 s.length, h with
    | none, h => cases h
    | some (a, s4), h => exact ⟨_, _, _, _, n, s2, s3, h, h3⟩
theorem rtexts_size (n : Nat) : ∀ {s : List UInt8} {ws : List ByteArray} {t : List UInt8}, rtexts n s = some (ws, t) → ∀ x ∈ ws, x.size ≤ 128 := by
 induction n with
 | zero =>
  intro s ws t h x hx;rw [rtexts] at h
  injection h with h
  injection h with h1 h2
  subst h1
  cases hx
 | succ n ih =>
  intro s ws t h x hx
  match h1 : rtext s 128 with
  | none => rw [rtexts_no h1] at h; cases h
  | some (a, u) =>
   rw [rtexts_go h1] at h
   match h2 : rtexts n u with
   | none => rw [h2] at h; cases h
   | some (l, v) =>
    rw [h2] at h
    injection h with h
    injection h with h3 h4
    subst h3
    rcases List.mem_cons.1 hx with h5 | h5
    ·rw [h5, bs_size]
     exact (textR_some h1).2.2.2
    ·exact ih h2 x h5
theorem expand_size (d : List ByteArray) (hd : ∀ x ∈ d, x.size ≤ 128) (Z : List (Int × Int)) : ∀ acc : List ByteArray, (∀ x ∈ acc, x.size ≤ 128) → acc.length ≤ 4096 → (∀ x ∈ (expand d Z acc).1, x.size ≤ 128) ∧ (expand d Z acc).1.length ≤ 4096 := by
 induction Z with
 | nil => intro acc h1 h2; exact ⟨h1, h2⟩
 | cons z Z ih =>
  intro acc h1 h2;rw [expand]
  split
  ·exact ⟨by simp, by simp⟩
  ·rename_i c1
   split
   ·exact ⟨by simp, by simp⟩
   ·refine ih _ (fun x hx => ?_) ?_
    ·rcases List.mem_append.1 hx with h | h
     ·exact h1 x h
     ·rw [(List.mem_replicate.1 h).2]
      have : z.1.toNat < d.length := by omega
      have e : d.getD z.1.toNat default = d[z.1.toNat] := by simp [List.getD, this]
      rw [e];exact hd _ (List.getElem_mem _)
    ·rw [List.length_append, List.length_replicate]; omega
theorem readL_good {s : List UInt8} {l : List ByteArray} (h : readL s = some l) : (∀ x ∈ l, x.size ≤ 128) ∧ l.length ≤ 4096 := by
 obtain ⟨c, ws, A, B, n, s2, s3, h1, h2⟩ := readL_fin h;obtain ⟨Z, hZ⟩ := fin_len h1;have := expand_size ws (rtexts_size n h2) Z [] (by simp) (by simp);rw [hZ] at this;exact this
theorem decode_any {w : World} (data : ByteArray) (hd : data.size ≤ 1000000000) (most : Int) :
  Calls Tryz.prog 137 #[.string data, .int .i64 most] w fun x w' => TRes w (dec (toL data) most) x w' := by
 have H1 := hide (read_any (w := w) data hd);unfold dec
 match hr : readL (toL data) with
 | none =>
  rw [hr] at H1;simp only;clear hr hd
  go_enter Tryz.func137, Tryz.ntmps137
  go_wp2_with fail
  refine (H1.out).mono ?_;rintro x w1 ⟨v, rfl, hs, hb⟩;simp only [Option.isSome_none];clear hs
  go_wp2
  go_returns
  exact tres_err 12 hb
 | some l =>
  rw [hr] at H1;simp only;obtain ⟨g1, g2⟩ := readL_good hr;have H2 := hide (fun W A cap (h : At W A (svs l)) => encode_any h (fun s hs => by have := g1 s hs; omega) l.length cap rfl (by omega));obtain ⟨⟨X, xe⟩, hX⟩ : ∃ x, enc l = x := ⟨_, rfl⟩;rw [hX] at H2 ⊢;simp only;clear hr hd hX g1
  by_cases hbad : xe ≠ 0 ∨ X ≠ toL data
  ·rw [if_pos hbad]
   have q : ((xe : Int) != 0) = true ∨ (((xe : Int) != 0) = false ∧ (((bs X).toList != data.toList) = true ∧ ((bs X).toList == data.toList) = false)) := by
    by_cases hx : xe = 0
    ·right
     have hne : X ≠ toL data := hbad.resolve_left (fun h => h hx)
     have h3 : ((bs X).toList == data.toList) = false := by
      rw [str_eq, decide_eq_false_iff_not];intro h;exact hne (by rw [← h, toL_bs])
     refine ⟨by rw [hx]; rfl, by rw [bne, h3]; rfl, h3⟩
    ·left; rw [bne_iff_ne]; omega
   clear hbad
   rcases q with q | ⟨q, q2, q3⟩
   all_goals
    go_enter Tryz.func137, Tryz.ntmps137
    go_wp2_with fail
    refine (H1.out).mono ?_;rintro x w1 ⟨v, rfl, hs, hb⟩;simp only [Option.isSome_some];obtain ⟨A, cap, rfl, hat⟩ := hs l rfl;have H3 := hide (H2.out _ _ cap hat);clear hs hat
    go_wp2_with fail
    refine (H3.out).mono ?_;rintro x w2 ⟨rfl, hb2⟩;have hbb := hb.trans (hb2.mono hb.size)
    go_wp2
    go_returns
    exact tres_err 12 hbb
  ·rw [if_neg hbad]
   have hx : xe = 0 := by omega
   have hXd : X = toL data := by
    rcases Classical.em (X = toL data) with h | h
    ·exact h
    ·exact absurd (.inr h) hbad
   subst hx; subst hXd
   have q2 : ((bs (toL data)).toList != data.toList) = false := by rw [bs_toL, bne_self_eq_false]
   have q3 : ((bs (toL data)).toList == data.toList) = true := by rw [bs_toL, beq_self_eq_true]
   clear hbad
   by_cases hm : most < (l.length : Int)
   ·rw [if_pos hm]
    go_enter Tryz.func137, Tryz.ntmps137
    go_wp2_with fail
    refine (H1.out).mono ?_;rintro x w1 ⟨v, rfl, hs, hb⟩;simp only [Option.isSome_some];obtain ⟨A, cap, rfl, hat⟩ := hs l rfl;have H3 := hide (H2.out _ _ cap hat);clear hs hat
    go_wp2_with fail
    refine (H3.out).mono ?_;rintro x w2 ⟨rfl, hb2⟩;have hbb := hb.trans (hb2.mono hb.size)
    go_wp2
    go_returns
    exact tres_err 2 hbb
   ·rw [if_neg hm]
    go_enter Tryz.func137, Tryz.ntmps137
    go_wp2_with fail
    refine (H1.out).mono ?_;rintro x w1 ⟨v, rfl, hs, hb⟩;simp only [Option.isSome_some];obtain ⟨A, cap, rfl, hat⟩ := hs l rfl;have H3 := hide (H2.out _ _ cap hat);have Hat := hide hat;clear hs hat
    go_wp2_with fail
    refine (H3.out).mono ?_;rintro x w2 ⟨rfl, hb2⟩;have hbb := hb.trans (hb2.mono hb.size);have hat2 := Hat.out.below hb2
    go_wp2
    go_returns
    exact ⟨_, rfl, ⟨A, cap, rfl, hat2⟩, hbb⟩
theorem encA_len (c : Nat) (l : List ByteArray) (hl : l.length ≤ 4096) : (encA c l).length < 9223372036854775808 := by
 have h1 := encn_len (codeA c l) (fun v hv => by have := codeA_lt c l hl v hv; omega);have h2 := runs_length (dict l) l;rw [codeA_length] at h1
 show (encn (codeA c l)).length < _
 omega
theorem enc_ok {l : List ByteArray} (hl : l.length ≤ 4096) (hs : ∀ s ∈ l, s.size ≤ 128) : enc l = (if (encB 1 l).length < (encB 0 l).length then encB 1 l else encB 0 l, 0) := by
 unfold enc;rw [if_neg]
 ·split <;> rfl
 ·rintro (h | ⟨s, h1, h2⟩)
  ·omega
  ·have := hs s h1; omega
theorem enc_cases {l : List ByteArray} (hl : l.length ≤ 4096) (hs : ∀ s ∈ l, s.size ≤ 128) : ∃ c, c ≤ 1 ∧ enc l = (encB c l, 0) := by
 rw [enc_ok hl hs]
 split
 ·exact ⟨1, by omega, rfl⟩
 ·exact ⟨0, by omega, rfl⟩
theorem dec_encB {c : Nat} {l : List ByteArray} (hc : c ≤ 1) (hl : l.length ≤ 4096) (hs : ∀ s ∈ l, s.size ≤ 128) (most : Int) :
  dec (encB c l) most = if (enc l).1 ≠ encB c l then ([], 12) else if most < (l.length : Int) then ([], 2) else (l, 0) := by
 have h1 := readL_ok c hc l hl hs (encA_len c l hl);unfold dec;rw [h1];simp only
 have h2 : (enc l).2 = 0 := by rw [enc_ok hl hs]
 rw [h2]
 simp
theorem dec_enc {l : List ByteArray} (hl : l.length ≤ 4096) (hs : ∀ s ∈ l, s.size ≤ 128) (most : Int) :
  dec (enc l).1 most = if most < (l.length : Int) then ([], 2) else (l, 0) := by
 obtain ⟨c, hc, he⟩ := enc_cases hl hs;have := dec_encB hc hl hs most;rw [he] at this ⊢
 simpa using this
theorem dec_strict (data : List UInt8) (most : Int) : (dec data most = ([], 12) ∨ dec data most = ([], 2)) ∨ ∃ l, dec data most = (l, 0) ∧ enc l = (data, 0) ∧ readL data = some l ∧ (∀ x ∈ l, x.size ≤ 128) ∧ l.length ≤ 4096 := by
 unfold dec
 match h : readL data with
 | none => exact .inl (.inl rfl)
 | some l =>
  simp only;obtain ⟨g1, g2⟩ := readL_good h
  by_cases h1 : (enc l).2 ≠ 0 ∨ (enc l).1 ≠ data
  ·rw [if_pos h1]; exact .inl (.inl rfl)
  ·rw [if_neg h1]
   by_cases h2 : most < (l.length : Int)
   ·rw [if_pos h2]; exact .inl (.inr rfl)
   ·rw [if_neg h2]
    refine .inr ⟨l, rfl, ?_, rfl, g1, g2⟩
    have h3 : (enc l).2 = 0 := by
     rcases Nat.eq_zero_or_pos (enc l).2 with h | h
     ·exact h
     ·exact absurd (.inl (by omega)) h1
    have h4 : (enc l).1 = data := by
     rcases Classical.em ((enc l).1 = data) with h | h
     ·exact h
     ·exact absurd (.inr h) h1
    exact Prod.ext h4 h3
open Wv.Tm
theorem tmencB_len (c : Nat) {l : List ByteArray} (hl : l.length ≤ 4096) (hs : ∀ s ∈ l, s.size ≤ 128) : (encB c l).length ≤ 2000000 := by
 have hDl := dict_length l;have h1 := frontB_len c (dict l) (dict l).length (size_dict hs) (by omega);have h2 := encn_len (codeA c l) (fun v hv => by have := codeA_lt c l hl v hv; omega);have h3 := encn_len (cnts l) (fun v hv => by have := cnts_lt l hl v hv; omega);have h4 := kof9 (encA c l).length;have h5 := runs_length (dict l) l;rw [codeA_length] at h2;rw [cnts_length] at h3
 have h6 : encB c l = frontB c (dict l) (dict l).length ++ (num (encA c l).length ++ encn (codeA c l)) ++ encn (cnts l) := by
  unfold encB frontB;rw [List.take_length];rfl
 rw [h6, List.length_append, List.length_append, List.length_append];omega
theorem tmenc_len {l : List ByteArray} (hl : l.length ≤ 4096) (hs : ∀ s ∈ l, s.size ≤ 128) : (enc l).1.length ≤ 2000000 := by
 obtain ⟨c, hc, he⟩ := enc_cases hl hs;rw [he];exact tmencB_len c hl hs
def numsI (l : List Int) : List UInt8 := encn (l.map Int.toNat)
theorem numsI_len {l : List Int} (h : validT l = true) : (numsI (gapsT l)).length ≤ 600000 := by
 obtain ⟨_, _, v3⟩ := validT_iff.1 h;have hg := gapsT_in h
 have := encn_len ((gapsT l).map Int.toNat) (fun v hv => by
  obtain ⟨g, hg1, rfl⟩ := List.mem_map.1 hv;have := hg g hg1
  omega)
 rw [List.length_map] at this;unfold gapsT at this;rw [gp_length] at this;unfold numsI gapsT;omega
def q1 (s : ByteArray) := numR s 0 1099511627776
def q2 (s : ByteArray) := numR (q1 s).2.1 (q1 s).2.2 1099511627776
def q3 (s : ByteArray) := numR (q2 s).2.1 (q2 s).2.2 1099511627776
def q4 (s : ByteArray) := numR (q3 s).2.1 (q3 s).2.2 4096
def q5 (s : ByteArray) := textR (q4 s).2.1 (q4 s).2.2 ((q4 s).2.1.size : Int)
theorem nat_gaps {l : List Int} (h : validT l = true) : ((gapsT l).map Int.toNat).length ≤ 4096 ∧ (∀ v ∈ (gapsT l).map Int.toNat, v < 4611686018427387904) ∧ ((gapsT l).map Int.toNat).map Int.ofNat = gapsT l := by
 obtain ⟨_, _, v3⟩ := validT_iff.1 h;have hg := gapsT_in h;refine ⟨?_, ?_, ?_⟩
 ·rw [List.length_map]; unfold gapsT; rw [gp_length]; exact v3
 ·intro v hv
  obtain ⟨g, h1, rfl⟩ := List.mem_map.1 hv;have := hg g h1;omega
 ·rw [List.map_map]
  conv => rhs; rw [← List.map_id (gapsT l)]
  apply List.map_congr_left
  intro g h1;have := hg g h1;simp only [Function.comp, id];exact Int.toNat_of_nonneg this.1
theorem numsI_dec {l : List Int} (h : validT l = true) : decn (numsI (gapsT l)) 4096 = (gapsT l, 0) := by
 obtain ⟨n1, n2, n3⟩ := nat_gaps h;have := decn_encn _ 4096 n1 (by omega) n2;rw [n3] at this;exact this
open Wv.Bc
def cbit (c : UInt8) : List Bool := [decide (2 ≤ cd c), decide (cd c % 2 = 1)]
def bitsV (v : List UInt8) : List Bool := v.flatMap cbit
def bitsL (l : List ByteArray) : List Bool := l.flatMap (fun v => bitsV (toL v))
theorem bitsV_len (v : List UInt8) : (bitsV v).length = 2 * v.length := by
 unfold bitsV
 induction v with
 | nil => rfl
 | cons c r ih => rw [List.flatMap_cons, List.length_append, ih, List.length_cons]; simp [cbit]; omega
theorem bitsL_len {w : Int} {l : List ByteArray} (h : ∀ v ∈ l, vld w (toL v) = true) : ((bitsL l).length : Int) = 2 * (l.length * w) := by
 unfold bitsL
 induction l with
 | nil => simp
 | cons v r ih =>
  have hv := (vld_iff.1 (h v List.mem_cons_self)).2;have i1 := ih (fun x hx => h x (List.mem_cons_of_mem _ hx));rw [List.flatMap_cons, List.length_append, bitsV_len, List.length_cons];rw [Int.natCast_add, i1, Int.natCast_mul, hv, Int.natCast_add, Int.add_mul];omega
def codP (l : List ByteArray) : Option (List UInt8) := if 65536 < (bitsL l).length then none else some (num l.length ++ toL (Bit.bstr (bitsL l)))
def codC (l : List ByteArray) : List UInt8 := num l.length ++ if l = [] then [] else
 text (bs (shr (toL (l.getD 0 default)))) ++ text (bs (shr (toL (stepB l)))) ++ text (bs (numsI (gapsT (exI l (stepB l))))) ++ (enc (shortL (atI l (exI l (stepB l))))).1
def codM (w : Int) (l : List ByteArray) : List UInt8 := (enc (shortL (mixL (bs (allV w 48)) l))).1
def codW (l : List ByteArray) : List UInt8 := (enc (shortL l)).1
def codB (c : Nat) (w : Int) (l : List ByteArray) : Option (List UInt8) := if c = 0 then codP l else if c = 1 then some (codC l) else if c = 2 then some (codM w l) else some (codW l)
def encAsB (c w : Int) (l : List ByteArray) : List UInt8 × Nat := if c < 0 ∨ 3 < c then ([], 1) else if validB w l = false then ([], 2) else match codB c.toNat w l with
 | none => ([], 9)
 | some s => (num c.toNat ++ s, 0)
def bstB (w : Int) (l : List ByteArray) : Nat → List UInt8
 | 0 => []
 | i + 1 => match codB i w l with
  | none => bstB w l i
  | some s => if bstB w l i = [] ∨ (num i ++ s).length < (bstB w l i).length then num i ++ s else bstB w l i
def encB' (w : Int) (l : List ByteArray) : List UInt8 × Nat := if validB w l = false then ([], 2) else (bstB w l 4, 0)
def valOf : Nat → List Bool → List UInt8
 | 0, _ => []
 | k + 1, b => ch (2 * (b.getD 0 false).toNat + (b.getD 1 false).toNat) :: valOf k (b.drop 2)
def valsOf (w : Nat) : Nat → List Bool → List ByteArray
 | 0, _ => []
 | n + 1, b => bs (valOf w b) :: valsOf w n (b.drop (2 * w))
def readPl (w : Int) (s : List UInt8) : Option (List ByteArray) := match rnum s 4096 with
 | none => none
 | some (n, r) => match Bit.nrd (bs r) with
  | none => none
  | some k => if (k : Int) = 2 * n * w then some (valsOf w.toNat n (Bit.rbits (bs r) k)) else none
def atS : Int → List Int → List Int
 | _, [] => []
 | last, g :: r => (last + 1 + g) :: atS (last + 1 + g) r
def look : List Int → List ByteArray → Int → Option ByteArray
 | i :: x, v :: r, k => if i = k then some v else look x r k
 | _, _, _ => none
def runB (x : List Int) (vs : List ByteArray) (st : ByteArray) : Nat → Nat → ByteArray → Option (List ByteArray)
 | 0, _, _ => some []
 | k + 1, i, last => match look x vs (i : Int) with
  | some v => (runB x vs st k (i + 1) v).map (v :: ·)
  | none => if (addV (toL last) (toL st)).2 = true then (runB x vs st k (i + 1) (bs (addV (toL last) (toL st)).1)).map (bs (addV (toL last) (toL st)).1 :: ·) else none
def readCt (w : Int) (s : List UInt8) : Option (List ByteArray) := match rnum s 4096 with
  | none => none
  | some (n, s1) => if n = 0 then (if s1 = [] then some [] else none) else match rtext s1 128 with
    | none => none
    | some (f, s2) => match rtext s2 128 with
      | none => none
      | some (st, s3) => match rtext s3 s3.length with
        | none => none
        | some (a, s4) => if (decn a 4096).2 ≠ 0 ∨ (dec s4 4096).2 ≠ 0 then none else match extL w (dec s4 4096).1, extL w [bs f] with
          | some vs, some q => if (decn a 4096).1.length ≠ vs.length then none else
              if st ≠ [] ∧ (ext w st).2 ≠ 0 then none else
              if (∀ g ∈ (decn a 4096).1, g < (n : Int)) then (runB (atS (-1) (decn a 4096).1) vs (bs (if st = [] then [] else (ext w st).1)) (n - 1) 1 (q.getD 0 default)).map (q.getD 0 default :: ·) else none
          | _, _ => none
def readWd (w : Int) (s : List UInt8) : Option (List ByteArray) := if (dec s 4096).2 ≠ 0 then none else extL w (dec s 4096).1
def readB (w : Int) (data : List UInt8) : Option (List ByteArray) := match rnum data 3 with
 | none => none
 | some (c, r) => if c = 0 then readPl w r else if c = 1 then readCt w r else if c = 2 then (readWd w r).map (unmix (bs (allV w 48))) else readWd w r
def okB (w : Int) (data : List UInt8) (most : Int) (o : Option (List ByteArray)) : List ByteArray × Nat := match o with
 | none => ([], 12)
 | some l => if (encB' w l).2 ≠ 0 ∨ (encB' w l).1 ≠ data then ([], 12) else if most < (l.length : Int) then ([], 2) else (l, 0)
def decB (w : Int) (data : List UInt8) (most : Int) : List ByteArray × Nat := if w < 1 ∨ 128 < w then ([], 1) else okB w data most (readB w data)
theorem cbit_val {c : UInt8} (h : cd c < 4) (r : List Bool) : ch (2 * ((cbit c ++ r).getD 0 false).toNat + ((cbit c ++ r).getD 1 false).toNat) = c ∧ (cbit c ++ r).drop 2 = r := by
 refine ⟨?_, rfl⟩;have hc := ch_cd c h
 rcases (show cd c = 0 ∨ cd c = 1 ∨ cd c = 2 ∨ cd c = 3 by omega) with h0 | h0 | h0 | h0
 all_goals
  rw [h0] at hc;unfold cbit;rw [h0];exact hc
theorem valOf_bits : ∀ (v : List UInt8) (r : List Bool), (∀ c ∈ v, cd c < 4) → valOf v.length (bitsV v ++ r) = v
 | [], r, _ => rfl
 | c :: v, r, h => by
  have hc := h c List.mem_cons_self
  have e : bitsV (c :: v) ++ r = cbit c ++ (bitsV v ++ r) := by unfold bitsV; rw [List.flatMap_cons, List.append_assoc]
  obtain ⟨h1, h2⟩ := cbit_val hc (bitsV v ++ r);rw [List.length_cons, e]
  show ch _ :: valOf v.length ((cbit c ++ (bitsV v ++ r)).drop 2) = _
  rw [h1, h2, valOf_bits v r (fun x hx => h x (List.mem_cons_of_mem _ hx))]
theorem valsOf_bits (w : Nat) : ∀ (l : List ByteArray) (r : List Bool), (∀ v ∈ l, vld (w : Int) (toL v) = true) → valsOf w l.length (bitsL l ++ r) = l
 | [], r, _ => rfl
 | v :: l, r, h => by
  have hv := vld_iff.1 (h v List.mem_cons_self)
  have hw : (toL v).length = w := by have := hv.2; omega
  have e : bitsL (v :: l) ++ r = bitsV (toL v) ++ (bitsL l ++ r) := by unfold bitsL; rw [List.flatMap_cons, List.append_assoc]
  rw [List.length_cons, e]
  show bs (valOf w _) :: valsOf w l.length (_ : List Bool) = _
  have h1 := valOf_bits (toL v) (bitsL l ++ r) (isV_iff.1 hv.1).1;rw [hw] at h1
  have h2 : (bitsV (toL v) ++ (bitsL l ++ r)).drop (2 * w) = bitsL l ++ r := by
   rw [← hw, ← bitsV_len];exact List.drop_left
  rw [h1, h2, valsOf_bits w l r (fun x hx => h x (List.mem_cons_of_mem _ hx)), bs_toL]
theorem readPl_cod {w : Int} {l : List ByteArray} (h : validB w l = true) {s : List UInt8} (hs : codP l = some s) : readPl w s = some l := by
 obtain ⟨h1, h2, h3, h4⟩ := validB_iff.1 h;unfold codP at hs
 split at hs
 ·cases hs
 ·rename_i hb
  injection hs with hs
  subst hs;have hbl := bitsL_len h1;obtain ⟨n1, n2⟩ := Bit.nrd_bstr (bitsL l) (by omega);unfold readPl;rw [rnum_num _ _ h4 (by omega)];simp only [bs_toL];rw [n1];simp only;rw [if_pos (by rw [hbl, Int.mul_assoc]), n2];have := valsOf_bits w.toNat l [] (fun v hv => by rw [Int.toNat_of_nonneg (by omega)]; exact h1 v hv);rw [List.append_nil] at this;rw [this]
theorem short_ok {l : List ByteArray} (h : l.length ≤ 4096) : (shortL l).length ≤ 4096 ∧ ∀ s ∈ shortL l, s.size ≤ 128 := by
 unfold shortL;refine ⟨by rw [List.length_map]; exact h, fun s hs => ?_⟩;obtain ⟨v, _, rfl⟩ := List.mem_map.1 hs;rw [bs_size];exact shr_len128 _
theorem dec_short {l : List ByteArray} (h : l.length ≤ 4096) : dec (enc (shortL l)).1 4096 = (shortL l, 0) ∧ (enc (shortL l)).2 = 0 := by
 obtain ⟨s1, s2⟩ := short_ok h;refine ⟨?_, by obtain ⟨c, _, he⟩ := enc_cases s1 s2; rw [he]⟩;rw [dec_enc s1 s2, if_neg (by omega)]
theorem readWd_cod {w : Int} {l : List ByteArray} (h1 : ∀ v ∈ l, vld w (toL v) = true) (h4 : l.length ≤ 4096) : readWd w (enc (shortL l)).1 = some l := by
 unfold readWd;obtain ⟨d1, _⟩ := dec_short h4;rw [d1, if_neg (by simp)];exact extL_short h1
theorem atS_gp (x : List Int) : ∀ last, atS last (gp last x) = x := by
 induction x with
 | nil => intro _; rfl
 | cons t r ih =>
  intro last
  show (last + 1 + (t - last - 1)) :: atS (last + 1 + (t - last - 1)) (gp t r) = _
  rw [show last + 1 + (t - last - 1) = t by omega, ih]
theorem look_at (l : List ByteArray) (k : Int) : ∀ x : List Int, look x (atI l x) k = if k ∈ x then some (l.getD k.toNat default) else none := by
 intro x
 induction x with
 | nil => rfl
 | cons i r ih =>
  show (if i = k then some (l.getD i.toNat default) else look r (atI l r) k) = _
  by_cases h : i = k
  ·rw [if_pos h, h, if_pos List.mem_cons_self]
  ·rw [if_neg h, ih]
   by_cases h2 : k ∈ r
   ·rw [if_pos h2, if_pos (List.mem_cons_of_mem _ h2)]
   ·rw [if_neg h2, if_neg (fun h3 => (List.mem_cons.1 h3).elim (fun e => h e.symm) h2)]
theorem exI_mem {l : List ByteArray} {st : ByteArray} {i : Nat} (h1 : 1 ≤ i) (h2 : i < l.length) : (i : Int) ∈ exI l st ↔ okA l st (i - 1) = false := by
 unfold exI exP
 constructor
 ·intro h
  obtain ⟨j, hj, e⟩ := List.mem_map.1 h
  have : j = i - 1 := by omega
  subst this
  simpa using (List.mem_filter.1 hj).2
 ·intro h
  refine List.mem_map.2 ⟨i - 1, List.mem_filter.2 ⟨List.mem_range.2 (by omega), by simp [h]⟩, by omega⟩
theorem runB_cod (l : List ByteArray) (st : ByteArray) : ∀ (k i : Nat), 1 ≤ i → i + k = l.length → runB (exI l st) (atI l (exI l st)) st k i (l.getD (i - 1) default) = some (l.drop i) := by
 intro k
 induction k with
 | zero => intro i _ h; rw [List.drop_eq_nil_of_le (by omega)]; rfl
 | succ k ih =>
  intro i h1 h2
  have hil : i < l.length := by omega
  have hd : l.drop i = l[i] :: l.drop (i + 1) := List.drop_eq_getElem_cons hil
  have hg : l.getD i default = l[i] := by simp [List.getD, hil]
  have hn := ih (i + 1) (by omega) (by omega);rw [Nat.add_sub_cancel, hg] at hn;unfold runB;rw [look_at]
  by_cases hm : (i : Int) ∈ exI l st
  ·rw [if_pos hm]
   simp only [Int.toNat_natCast];rw [hg, hn, hd];rfl
  ·rw [if_neg hm]
   simp only
   have hok : okA l st (i - 1) = true := by
    cases h : okA l st (i - 1) with
    | true => rfl
    | false => exact absurd ((exI_mem h1 hil).2 h) hm
   unfold okA at hok;rw [decide_eq_true_iff] at hok;rw [show i - 1 + 1 = i by omega, hg] at hok;rw [hok, if_pos rfl];simp only [bs_toL];rw [hn, hd];rfl
theorem exI_valid {l : List ByteArray} (h : l.length ≤ 4096) (st : ByteArray) : validT (exI l st) = true := by
 unfold exI;refine validT_iff.2 ⟨exP_sorted _ _ _, fun t ht => ?_, ?_⟩
 ·have := exP_in t ht; omega
 ·have := exP_len l st (l.length - 1); omega
theorem stepB_cases (l : List ByteArray) : (toL (stepB l) = []) ∨ (l ≠ [] ∧ validB ((l.getD 0 default).size : Int) l = true ∧ knV (toL (stepB l)) = true ∧ stepB l ∈ difs l) := by
 unfold stepB
 by_cases h : l = [] ∨ validB ((l.getD 0 default).size : Int) l = false
 ·rw [if_pos h]; exact .inl rfl
 ·rw [if_neg h]
  simp only [not_or, Bool.not_eq_false] at h
  have key : ∀ (ds : List ByteArray) (F : ByteArray → Nat) (p : ByteArray × Nat), (ds.foldl (bstep F) p).1 = p.1 ∨ (ds.foldl (bstep F) p).1 ∈ ds := by
   intro ds F
   induction ds with
   | nil => intro p; exact .inl rfl
   | cons a r ih =>
    intro p
    rcases ih (bstep F p a) with h1 | h1
    ·have e : (List.foldl (bstep F) p (a :: r)).1 = (bstep F p a).1 := h1
     rw [e]
     by_cases hc : p.2 < F a
     ·have e2 : bstep F p a = (a, F a) := by unfold bstep; rw [if_pos hc]
      rw [e2];exact .inr List.mem_cons_self
     ·have e2 : bstep F p a = p := by unfold bstep; rw [if_neg hc]
      rw [e2];exact .inl rfl
    ·exact .inr (List.mem_cons_of_mem _ h1)
  rcases key (difs l) (fun d => (difs l).count d) (bs [], 0) with h1 | h1
  ·left; unfold stepOf; rw [h1]; rfl
  ·right
   exact ⟨h.1, h.2, difs_ne _ h1, h1⟩
theorem gapsM {M : Int} {l : List Int} : ∀ {last : Int}, -1 ≤ last → tv last l = true → (∀ t ∈ l, t ≤ M) → ∀ g ∈ gp last l, g ≤ M := by
 induction l with
 | nil => intro _ _ _ _ g hg; cases hg
 | cons a r ih =>
  intro last h0 h hM g hg;obtain ⟨h1, h2, h3⟩ := tv_cons.1 h
  rcases List.mem_cons.1 hg with rfl | hg
  ·have := hM a List.mem_cons_self; omega
  ·exact ih (by omega) h3 (fun t ht => hM t (List.mem_cons_of_mem _ ht)) g hg
theorem step_vld {w : Int} {l : List ByteArray} (h : validB w l = true) : toL (stepB l) = [] ∨ (vld w (toL (stepB l)) = true ∧ shr (toL (stepB l)) ≠ []) := by
 obtain ⟨h1, h2, h3, h4⟩ := validB_iff.1 h
 rcases stepB_cases l with h5 | ⟨h5, _, h6, h7⟩
 ·exact .inl h5
 ·right
  refine ⟨vld_iff.2 ⟨knV_isV h6, ?_⟩, (shr_len _).2 (knV_isV h6)⟩;unfold difs difP at h7;obtain ⟨j, hj, e⟩ := List.mem_filterMap.1 h7;have hj2 := List.mem_range.1 hj;unfold dAt at e
  split at e
  ·rename_i hc
   injection e with e
   rw [← e, toL_bs];have hk := (difV_known (Prod.ext rfl hc)).2;rw [hk]
   have hjl : j < l.length := by omega
   have hg : l.getD j default = l[j] := by simp [List.getD, hjl]
   rw [hg];exact (vld_iff.1 (h1 _ (List.getElem_mem _))).2
  ·cases e
theorem text_bs (X : List UInt8) : text (bs X) = num X.length ++ X := rfl
theorem atI_in {l : List ByteArray} {x : List Int} (h : ∀ i ∈ x, 0 ≤ i ∧ i < (l.length : Int)) : ∀ v ∈ atI l x, v ∈ l := by
 intro v hv;obtain ⟨i, hi, rfl⟩ := List.mem_map.1 hv;have := h i hi
 have hl : i.toNat < l.length := by omega
 have hg : l.getD i.toNat default = l[i.toNat] := by simp [List.getD, hl]
 rw [hg];exact List.getElem_mem _
theorem exI_in {l : List ByteArray} {st : ByteArray} : ∀ i ∈ exI l st, 0 ≤ i ∧ i < (l.length : Int) := by
 intro i hi;have := exP_in i hi;unfold exI at hi;have h2 := exP_in i hi;omega
theorem exI_len (l : List ByteArray) (st : ByteArray) : (exI l st).length ≤ l.length - 1 := exP_len _ _ _
theorem readCt_cod {w : Int} {l : List ByteArray} (h : validB w l = true) : readCt w (codC l) = some l := by
  obtain ⟨h1, h2, h3, h4⟩ := validB_iff.1 h;unfold readCt codC;rw [rnum_num _ _ h4 (by omega)];simp only
  by_cases h0 : l = []
  · subst h0
    rfl
  · rw [if_neg h0, if_neg (fun e => h0 (List.eq_nil_of_length_eq_zero e))]
    obtain ⟨v0, r, hl⟩ : ∃ v r, l = v :: r := by cases l with | nil => exact absurd rfl h0 | cons v r => exact ⟨v, r, rfl⟩
    have hv0 : l.getD 0 default = v0 := by rw [hl]; rfl
    have hv := h1 v0 (by rw [hl]; exact List.mem_cons_self);have hxv := exI_valid h4 (stepB l);have hxl := exI_len l (stepB l);have hnl := numsI_len hxv;simp only [text_bs, List.append_assoc];have k1 := shr_len128 (toL (l.getD 0 default));have k2 := shr_len128 (toL (stepB l));rw [rtext_text _ _ k1 (by omega)];simp only;rw [rtext_text _ _ k2 (by omega)];simp only;rw [rtext_text _ _ (by rw [List.length_append, List.length_append]; omega) (by omega)];simp only
    have hal : (atI l (exI l (stepB l))).length ≤ 4096 := by unfold atI; rw [List.length_map]; omega
    obtain ⟨d1, _⟩ := dec_short hal;rw [d1, numsI_dec hxv, if_neg (by simp)];simp only;rw [extL_short (fun v hv2 => h1 v (atI_in exI_in v hv2))]
    have hst : extL w [bs (shr (toL (l.getD 0 default)))] = some [v0] := by
      rw [hv0];exact extL_short (l := [v0]) (fun v hv2 => by rw [List.mem_singleton] at hv2; rw [hv2]; exact hv)
    rw [hst];simp only
    have hgl : (gapsT (exI l (stepB l))).length = (atI l (exI l (stepB l))).length := by unfold gapsT atI; rw [gp_length, List.length_map]
    have hstep : ¬ (shr (toL (stepB l)) ≠ [] ∧ (ext w (shr (toL (stepB l)))).2 ≠ 0) := by
      rintro ⟨e1, e2⟩
      rcases step_vld h with h5 | ⟨h5, _⟩
      · rw [h5] at e1; exact e1 rfl
      · have := ext_shr (vld_iff.1 h5).1
        rw [(vld_iff.1 h5).2] at this;rw [this] at e2;exact e2 rfl
    have hsv : bs (if shr (toL (stepB l)) = [] then [] else (ext w (shr (toL (stepB l)))).1) = stepB l := by
      rcases step_vld h with h5 | ⟨h5, h6⟩
      · rw [h5]
        have : stepB l = bs [] := by rw [← bs_toL (stepB l), h5]
        rw [this];rfl
      · rw [if_neg h6]
        have := ext_shr (vld_iff.1 h5).1;rw [(vld_iff.1 h5).2] at this;rw [this, bs_toL]
    have hgn : ∀ g ∈ gapsT (exI l (stepB l)), g < (l.length : Int) := by
      intro g hg;have hxv2 := hxv;unfold validT at hxv2;rw [Bool.and_eq_true] at hxv2;have := gapsM (M := (l.length : Int) - 1) (by omega) hxv2.1 (fun t ht => by have := exI_in t ht; omega) g hg;omega
    rw [if_neg (by rw [hgl]; simp), if_neg hstep, if_pos hgn, hsv];have hat : atS (-1) (gapsT (exI l (stepB l))) = exI l (stepB l) := atS_gp _ _;rw [hat]
    have hrun := runB_cod l (stepB l) (l.length - 1) 1 (by omega) (by have : 0 < l.length := by rw [hl]; simp
                                                                      omega)
    rw [Nat.sub_self, hv0] at hrun
    show (runB _ _ _ _ _ v0).map (v0 :: ·) = _
    rw [hrun, hl];rfl
theorem mix_zero {w : Int} {l : List ByteArray} (h : validB w l = true) : (∀ v ∈ mixL (bs (allV w 48)) l, vld w (toL v) = true) ∧ unmix (bs (allV w 48)) (mixL (bs (allV w 48)) l) = l := by
 obtain ⟨h1, h2, h3, h4⟩ := validB_iff.1 h;exact mixL_valid (by rw [toL_bs]; exact zeros_vld h2 h3) h1
theorem readB_cod {w : Int} {l : List ByteArray} (h : validB w l = true) {c : Nat} (hc : c ≤ 3) {s : List UInt8} (hs : codB c w l = some s) : readB w (num c ++ s) = some l := by
 obtain ⟨h1, h2, h3, h4⟩ := validB_iff.1 h;unfold readB;rw [rnum_num _ _ hc (by omega)];simp only
 rcases (show c = 0 ∨ c = 1 ∨ c = 2 ∨ c = 3 by omega) with rfl | rfl | rfl | rfl
 ·rw [if_pos rfl]
  exact readPl_cod h hs
 ·rw [if_neg (by decide), if_pos rfl]
  have : codB 1 w l = some (codC l) := rfl;rw [this] at hs
  injection hs with hs
  subst hs;exact readCt_cod h
 ·rw [if_neg (by decide), if_neg (by decide), if_pos rfl]
  have : codB 2 w l = some (codM w l) := rfl;rw [this] at hs
  injection hs with hs
  subst hs;obtain ⟨m1, m2⟩ := mix_zero h;unfold codM;rw [readWd_cod m1 (by rw [mixL_len]; exact h4)]
  show some (unmix _ _) = _
  rw [m2]
 ·rw [if_neg (by decide), if_neg (by decide), if_neg (by decide)]
  have : codB 3 w l = some (codW l) := rfl;rw [this] at hs
  injection hs with hs
  subst hs;exact readWd_cod h1 h4
theorem bstB_cases (w : Int) (l : List ByteArray) : ∀ k, bstB w l k = [] ∨ ∃ c s, c < k ∧ codB c w l = some s ∧ bstB w l k = num c ++ s := by
 intro k
 induction k with
 | zero => exact .inl rfl
 | succ k ih =>
  have e : bstB w l (k + 1) = match codB k w l with
   | none => bstB w l k
   | some s => if bstB w l k = [] ∨ (num k ++ s).length < (bstB w l k).length then num k ++ s else bstB w l k := rfl
  rw [e]
  match hk : codB k w l with
  | none =>
   simp only
   rcases ih with h | ⟨c, s, h1, h2, h3⟩
   ·exact .inl h
   ·exact .inr ⟨c, s, by omega, h2, h3⟩
  | some s =>
   simp only
   split
   ·exact .inr ⟨k, s, by omega, hk, rfl⟩
   ·rcases ih with h | ⟨c, s', h1, h2, h3⟩
    ·exact .inl h
    ·exact .inr ⟨c, s', by omega, h2, h3⟩
theorem num_ne (n : Nat) (s : List UInt8) : num n ++ s ≠ [] := fun h => by
 have := congrArg List.length h;rw [List.length_append, num_length] at this
 simp at this
theorem encB_cases {w : Int} {l : List ByteArray} (h : validB w l = true) : ∃ c s, c ≤ 3 ∧ codB c w l = some s ∧ encB' w l = (num c ++ s, 0) := by
 unfold encB';rw [if_neg (by rw [h]; simp)]
 rcases bstB_cases w l 4 with h1 | ⟨c, s, h1, h2, h3⟩
 ·exfalso
  have e : bstB w l 4 = if bstB w l 3 = [] ∨ (num 3 ++ codW l).length < (bstB w l 3).length then num 3 ++ codW l else bstB w l 3 := rfl
  rw [e] at h1
  split at h1
  ·exact num_ne _ _ h1
  ·rename_i h2
   exact h2 (.inl h1)
 ·exact ⟨c, s, by omega, h2, by rw [h3]⟩
theorem encB_bad {w : Int} {l : List ByteArray} (h : validB w l = false) : encB' w l = ([], 2) := by unfold encB'; rw [if_pos h]
theorem encB_valid {w : Int} {l : List ByteArray} (h : (encB' w l).2 = 0) : validB w l = true := by
 cases hv : validB w l with
 | true => rfl
 | false => rw [encB_bad hv] at h; cases h
theorem decB_cod {w : Int} {l : List ByteArray} (h : validB w l = true) {c : Nat} (hc : c ≤ 3) {s : List UInt8} (hs : codB c w l = some s) (most : Int) :
  decB w (num c ++ s) most = if (encB' w l).1 ≠ num c ++ s then ([], 12) else if most < (l.length : Int) then ([], 2) else (l, 0) := by
 obtain ⟨h1, h2, h3, h4⟩ := validB_iff.1 h
 have h5 : (encB' w l).2 = 0 := by obtain ⟨c, s, _, _, he⟩ := encB_cases h; rw [he]
 unfold decB okB;rw [if_neg (by omega), readB_cod h hc hs];simp only;rw [h5]
 simp
theorem decB_enc {w : Int} {l : List ByteArray} (h : validB w l = true) (most : Int) : decB w (encB' w l).1 most = if most < (l.length : Int) then ([], 2) else (l, 0) := by
 obtain ⟨c, s, hc, hs, he⟩ := encB_cases h;have := decB_cod h hc hs most;rw [he] at this ⊢
 simpa using this
theorem okB_same {w : Int} {data : List UInt8} {most : Int} {o : Option (List ByteArray)} (ho : ∀ l, validB w l = true → encB' w l = (data, 0) → o = some l) : okB w data most o = okB w data most (readB w data) := by
 have hr : ∀ l, validB w l = true → encB' w l = (data, 0) → readB w data = some l := fun l hv he => by
  obtain ⟨c, s, hc, hs, he2⟩ := encB_cases hv;rw [he] at he2
  injection he2 with he2
  rw [he2];exact readB_cod hv hc hs
 have key : ∀ o1 o2 : Option (List ByteArray), (∀ l, validB w l = true → encB' w l = (data, 0) → o1 = some l) → (∀ l, validB w l = true → encB' w l = (data, 0) → o2 = some l) → (∃ l, o1 = some l ∧ ¬ ((encB' w l).2 ≠ 0 ∨ (encB' w l).1 ≠ data)) → okB w data most o1 = okB w data most o2 := by
  rintro o1 o2 h1 h2 ⟨l, e, hn⟩;simp only [not_or, Decidable.not_not] at hn;have he : encB' w l = (data, 0) := Prod.ext hn.2 hn.1;rw [e, h2 l (encB_valid hn.1) he]
 by_cases c1 : ∃ l, o = some l ∧ ¬ ((encB' w l).2 ≠ 0 ∨ (encB' w l).1 ≠ data)
 ·exact key _ _ ho hr c1
 ·by_cases c2 : ∃ l, readB w data = some l ∧ ¬ ((encB' w l).2 ≠ 0 ∨ (encB' w l).1 ≠ data)
  ·exact (key _ _ hr ho c2).symm
  ·have bad : ∀ o : Option (List ByteArray), ¬ (∃ l, o = some l ∧ ¬ ((encB' w l).2 ≠ 0 ∨ (encB' w l).1 ≠ data)) → okB w data most o = ([], 12) := by
    intro o hn
    cases o with
    | none => rfl
    | some l =>
     unfold okB;simp only;rw [if_pos]
     rcases Classical.em ((encB' w l).2 ≠ 0 ∨ (encB' w l).1 ≠ data) with h | h
     ·exact h
     ·exact absurd ⟨l, rfl, h⟩ hn
   rw [bad o c1, bad _ c2]
theorem decB_strict (w : Int) (data : List UInt8) (most : Int) : ((w < 1 ∨ 128 < w) ∧ decB w data most = ([], 1)) ∨ (1 ≤ w ∧ w ≤ 128 ∧ (decB w data most = ([], 12) ∨ decB w data most = ([], 2))) ∨ ∃ l, decB w data most = (l, 0) ∧ encB' w l = (data, 0) ∧ validB w l = true ∧ (l.length : Int) ≤ most := by
 unfold decB
 by_cases hw : w < 1 ∨ 128 < w
 ·rw [if_pos hw]; exact .inl ⟨hw, rfl⟩
 ·rw [if_neg hw]
  right
  unfold okB
  match h : readB w data with
  | none => exact .inl ⟨by omega, by omega, .inl rfl⟩
  | some l =>
   simp only
   by_cases h1 : (encB' w l).2 ≠ 0 ∨ (encB' w l).1 ≠ data
   ·rw [if_pos h1]; exact .inl ⟨by omega, by omega, .inl rfl⟩
   ·rw [if_neg h1]
    simp only [not_or, Decidable.not_not] at h1
    by_cases h2 : most < (l.length : Int)
    ·rw [if_pos h2]; exact .inl ⟨by omega, by omega, .inr rfl⟩
    ·rw [if_neg h2]
     exact .inr ⟨l, rfl, Prod.ext h1.2 h1.1, encB_valid h1.1, by omega⟩
end Go.Proofs.YtoeeblldgoccoaaGreat
namespace Go.Proofs.YtoeeblldgoccoaaGreat
open Go.RowKit Go.Proofs Wv Wv.Vi Wv.Rc Wv.Mo Wv.Ru Wv.Bc
theorem sv_cell {w : World} {A : Option Addr} {l : List ByteArray} (h : At w A (svs l)) (i : Nat) (hi : i < l.length) : ∃ b o, A = some ⟨b, o, none⟩ ∧ b < w.heap.size ∧ w.cell? ⟨b, o + i, none⟩ = some (.string l[i]) :=
 h.get i _ (svs_get l i hi)
theorem validB_any {w : World} {A : Option Addr} {l : List ByteArray} (ha : At w A (svs l)) (hsz : ∀ s ∈ l, s.size ≤ 1099511627776) (n cap : Nat) (hn : n = l.length) (hm : n ≤ 9223372036854775807) (W : Int) :
  Calls Tryz.prog 13 #[.int .i64 W, .slice A n cap] w fun x w' => x = .returned (.bool (validB W l)) ∧ Below w.heap.size w w' := by
 have Ha := hide ha
 have Hv := hide (fun (v : ByteArray) (hv : v ∈ l) W2 => (by
  have := bvalid1_any W (toL v) (by rw [toL_length]; exact hsz v hv) W2;rw [bs_toL] at this
  exact this : Calls Tryz.prog 31 #[.int .i64 W, .string v] W2 fun x w' => x = .returned (.bool (vld W (toL v))) ∧ Below W2.heap.size W2 w'))
 have hb0 := hide (Below.refl w.heap.size w);have Hn := hide hn;clear ha hsz hn
 go_enter Tryz.func13, Tryz.ntmps13
 go_wp2
 go_loopw [9] (fun s9 wr => ∃ j : Nat, j ≤ n ∧ s9 = .int .i64 (j : Int) ∧ Hid (∀ v ∈ l.take j, vld W (toL v) = true) ∧ Hid (Below w.heap.size w wr)) (fun s9 _ => (n - intOf s9).toNat)
 case atStart => exact ⟨0, Nat.zero_le _, rfl, hide (by simp), hb0⟩
 case round =>
  clear hb0;obtain ⟨j, hj, rfl, hall, hb⟩ := hrel
  by_cases hlt : j < n
  ·have hjl : j < l.length := by rw [← Hn.out]; exact hlt
   obtain ⟨b, o, rfl, hbl, hc⟩ := sv_cell (Ha.out.below hb.out) j hjl;have Hv1 := hide (Hv.out l[j] (List.getElem_mem _));have hap : l.take (j + 1) = l.take j ++ [l[j]] := List.take_succ_eq_append_getElem hjl;have Hin := hide (List.getElem_mem hjl);obtain ⟨S, hS⟩ : ∃ S, l[j] = S := ⟨_, rfl⟩;rw [hS] at hc Hv1 hap Hin;have Hap := hide hap;clear hap hS hjl
   cases hv : vld W (toL S) with
   | true =>
    rw [hv] at Hv1
    have Hall2 := hide (show ∀ v ∈ l.take (j + 1), vld W (toL v) = true from fun v hm => by
     rw [Hap.out, List.mem_append, List.mem_singleton] at hm
     rcases hm with hm | rfl
     ·exact hall.out v hm
     ·exact hv)
    clear hall Hap hv
    go_wp2_with fail
    refine (Hv1.out _).mono ?_;rintro x w1 ⟨rfl, hb1⟩;have Hb2 := hide (hb.out.trans (hb1.mono hb.out.size));clear hb1 Hv1 hb
    go_wp2
    refine ⟨⟨j + 1, hlt, by go_num, Hall2, Hb2⟩, ?_⟩
    simp [intOf] <;> omega
   | false =>
    rw [hv] at Hv1
    have Hres := hide (show validB W l = false by
     cases h : validB W l with
     | false => rfl
     | true =>
      have := (validB_iff.1 h).1 S Hin.out
      rw [hv] at this; cases this)
    clear hall Hap hv
    go_wp2_with fail
    refine (Hv1.out _).mono ?_;rintro x w1 ⟨rfl, hb1⟩;have Hb2 := hide (hb.out.trans (hb1.mono hb.out.size));clear hb1 Hv1 hb
    go_wp2
    go_returns
    exact ⟨by rw [Hres.out]; rfl, Hb2.out⟩
  ·have hjn : j = n := by omega
   have hall' := hall.out;rw [hjn, List.take_of_length_le (by rw [Hn.out]; exact Nat.le_refl _)] at hall'
   have hres : validB W l = (decide (1 ≤ W) && decide (W ≤ 128) && decide (n ≤ 4096)) := by
    unfold validB;rw [← Hn.out, List.all_eq_true.2 hall', Bool.true_and]
   have Hres := hide hres;clear hall hall' hres Hv
   by_cases h1 : 1 ≤ W
   ·by_cases h2 : W ≤ 128
    ·by_cases h3 : (n : Int) ≤ 4096
     ·have h3n : n ≤ 4096 := by omega
      rw [decide_eq_true h1, decide_eq_true h2, decide_eq_true h3n] at Hres
      go_wp2
      go_returns
      exact ⟨by rw [Hres.out]; rfl, hb.out⟩
     ·have h3n : ¬ n ≤ 4096 := by omega
      rw [decide_eq_true h1, decide_eq_true h2, decide_eq_false h3n] at Hres
      go_wp2
      go_returns
      exact ⟨by rw [Hres.out]; rfl, hb.out⟩
    ·rw [decide_eq_true h1, decide_eq_false h2] at Hres
     go_wp2
     go_returns
     exact ⟨by rw [Hres.out]; rfl, hb.out⟩
   ·rw [decide_eq_false h1] at Hres
    go_wp2
    go_returns
    exact ⟨by rw [Hres.out]; rfl, hb.out⟩
theorem svs_len (l : List ByteArray) : (svs l).length = l.length := by unfold svs; rw [List.length_map]
def fillS (F : ByteArray → ByteArray) (l : List ByteArray) (i : Nat) : List ByteArray := (l.take i).map F ++ List.replicate (l.length - i) ⟨#[]⟩
theorem fillS_len (F : ByteArray → ByteArray) (l : List ByteArray) (i : Nat) (hi : i ≤ l.length) : (fillS F l i).length = l.length := by
 unfold fillS;rw [List.length_append, List.length_map, List.length_take, List.length_replicate];omega
theorem fillS_set (F : ByteArray → ByteArray) (l : List ByteArray) (i : Nat) (hi : i < l.length) : (fillS F l i).set i (F l[i]) = fillS F l (i + 1) := by
 have hz : ((l.take i).map F).length = i := by rw [List.length_map, List.length_take]; omega
 unfold fillS;rw [List.set_append_right _ _ (by omega), hz, Nat.sub_self, List.take_succ_eq_append_getElem hi, List.map_append, show l.length - i = (l.length - (i + 1)) + 1 by omega, List.replicate_succ, List.set_cons_zero]
 simp
theorem fillS_end (F : ByteArray → ByteArray) (l : List ByteArray) : fillS F l l.length = l.map F := by
 unfold fillS;rw [List.take_length, Nat.sub_self, List.replicate_zero, List.append_nil]
theorem fillS_0 (F : ByteArray → ByteArray) (l : List ByteArray) : (svs (fillS F l 0)).toArray = Array.replicate l.length (.string ⟨#[]⟩ : Value) := by
 unfold fillS;rw [List.take_zero, List.map_nil, List.nil_append, Nat.sub_zero];unfold svs;rw [List.map_replicate];rfl
theorem bk_sets {w : World} {g : Nat} {t : TypeId} {l : List ByteArray} (h : Bk w g t (svs l).toArray) (i : Nat) (x : ByteArray) : Bk (w.setCell ⟨g, i, none⟩ (.string x)) g t (svs (l.set i x)).toArray := by
 have := h.put i (.string x);rw [List.setIfInBounds_toArray] at this;unfold svs at this ⊢;rw [List.map_set];exact this
theorem shortL_any {w : World} {A : Option Addr} {l : List ByteArray} (ha : At w A (svs l)) (hsz : ∀ s ∈ l, s.size ≤ 1099511627776) (n cap : Nat) (hn : n = l.length) (hm : n ≤ 1099511627776) :
  Calls Tryz.prog 105 #[.slice A n cap] w fun x w' => ∃ g, x = .returned (.slice (some ⟨g, 0, none⟩) n n) ∧ w.heap.size ≤ g ∧ g < w'.heap.size ∧ At w' (some ⟨g, 0, none⟩) (svs (shortL l)) ∧ Below w.heap.size w w' := by
 have Ha := hide ha
 have Hv := hide (fun (v : ByteArray) (hv : v ∈ l) W2 => (by
  have := bshort_any (toL v) (by rw [toL_length]; exact hsz v hv) W2;rw [bs_toL] at this
  exact this : Calls Tryz.prog 107 #[.string v] W2 fun x w' => x = .returned (.string (bs (shr (toL v)))) ∧ Below W2.heap.size W2 w'))
 have hmk := mk_row (P := Tryz.prog) 22 9 (.string ⟨#[]⟩) 16 Tryz.underlying22 strinf rfl (n : Int) n rfl (by omega) (by omega) w;have hk0 := Bk.new w 9 (Array.replicate n (.string ⟨#[]⟩));have hb0 := hide (bel_new1 w (.cells (Array.replicate n (.string ⟨#[]⟩)) 9))
 have hr0 : Array.replicate n (.string ⟨#[]⟩ : Value) = (svs (fillS (fun v => bs (shr (toL v))) l 0)).toArray := by rw [hn, fillS_0]
 have Hr0 := hide hr0
 have hlt0 : w.heap.size < (w.alloc (.cells (Array.replicate n (.string ⟨#[]⟩)) 9)).heap.size := by rw [World.size_alloc]; omega
 have Hk0 := hide hk0;have Hlt0 := hide hlt0;have Hn := hide hn
 generalize w.alloc (.cells (Array.replicate n (.string ⟨#[]⟩)) 9) = W0 at *
 rw [Hr0.out] at Hk0;clear ha hsz hn hk0 hr0 hlt0 Hr0
 go_enter Tryz.func105, Tryz.ntmps105
 go_wp2
 go_loopw [11] (fun s11 wr => ∃ j : Nat, j ≤ n ∧ s11 = .int .i64 (j : Int) ∧ Hid (Bk wr w.heap.size 9 (svs (fillS (fun v => bs (shr (toL v))) l j)).toArray) ∧ Hid (Below w.heap.size w wr)) (fun s11 _ => (n - intOf s11).toNat)
 case atStart => exact ⟨0, Nat.zero_le _, rfl, Hk0, hb0⟩
 case round =>
  clear hb0 Hk0 hmk;obtain ⟨j, hj, rfl, hk, hb⟩ := hrel
  by_cases hlt : j < n
  ·have hjl : j < l.length := by rw [← Hn.out]; exact hlt
   obtain ⟨b, o, rfl, hbl, hc⟩ := sv_cell (Ha.out.below hb.out) j hjl;have Hv1 := hide (Hv.out l[j] (List.getElem_mem _));have Hset := hide (fillS_set (fun v => bs (shr (toL v))) l j hjl);have hlen := fillS_len (fun v => bs (shr (toL v))) l j (by omega);obtain ⟨S, hS⟩ : ∃ S, l[j] = S := ⟨_, rfl⟩;rw [hS] at hc Hv1 Hset;obtain ⟨T, hT⟩ : ∃ T, bs (shr (toL S)) = T := ⟨_, rfl⟩;rw [hT] at Hv1 Hset;have Hlen := hide (show j < (fillS (fun v => bs (shr (toL v))) l j).length by rw [hlen]; exact hjl);clear hS hT hjl hlen
   have hlti : (j : Int) < (n : Int) := by omega
   have hj0 : (0 : Int) ≤ (j : Int) := by omega
   go_wp2_with fail
   refine (Hv1.out _).mono ?_;rintro x w1 ⟨rfl, hb1⟩;have hk1 := hk.out.below hb1 hk.out.lt;have hcell := hk1.cell j;rw [List.getElem?_toArray, svs_get _ _ Hlen.out] at hcell;have hfroz := hk1.frozen j;have hput := bk_sets hk1 j T;rw [Hset.out] at hput;have Hput := hide hput;have Hb2 := hide ((hb.out.trans (hb1.mono hb.out.size)).setCell (p := ⟨w.heap.size, j, none⟩) (Nat.le_refl _) (.string T))
   generalize (fillS (fun v => bs (shr (toL v))) l j)[j] = OLD at *
   clear hb1 Hv1 hb hk hk1 hput Hset Hlen
   go_wp2
   refine ⟨⟨j + 1, hlt, by go_num, Hput, Hb2⟩, ?_⟩
   simp [intOf] <;> omega
  ·have hjn : j = n := by omega
   have hk1 := hk.out;rw [hjn, Hn.out, fillS_end] at hk1;have Hk1 := hide hk1;clear hk1 hk Hv
   go_wp2
   go_returns
   refine ⟨_, rfl, Nat.le_refl _, Hk1.out.lt, ?_, hb.out⟩;have := Hk1.out.at_;rw [List.toList_toArray] at this;exact this
theorem extL_all {w : Int} {l : List ByteArray} (h : ∀ s ∈ l, (ext w (toL s)).2 = 0) : extL w l = some (l.map (fun s => bs (ext w (toL s)).1)) := by
 induction l with
 | nil => rfl
 | cons s r ih =>
  unfold extL;rw [if_pos (h s List.mem_cons_self), ih (fun x hx => h x (List.mem_cons_of_mem _ hx))];rfl
theorem extL_bad {w : Int} {l : List ByteArray} {s : ByteArray} (hs : s ∈ l) (h : (ext w (toL s)).2 ≠ 0) : extL w l = none := by
 induction l with
 | nil => cases hs
 | cons a r ih =>
  unfold extL
  by_cases ha : (ext w (toL a)).2 = 0
  ·rw [if_pos ha]
   rcases List.mem_cons.1 hs with rfl | hs
   ·exact absurd ha h
   ·rw [ih hs]; rfl
  ·rw [if_neg ha]
def LgR (w : World) (o : Option (List ByteArray)) (x : Ending) (w' : World) : Prop := Below w.heap.size w w' ∧ match o with
 | none => ∃ A, x = .returned (.tuple #[.slice A 0 0, .bool false])
 | some r => ∃ g, x = .returned (.tuple #[.slice (some ⟨g, 0, none⟩) r.length r.length, .bool true]) ∧ w.heap.size ≤ g ∧ Bk w' g 9 (svs r).toArray
theorem blong_any {w : World} {A : Option Addr} {l : List ByteArray} (ha : At w A (svs l)) (hsz : ∀ s ∈ l, s.size ≤ 1099511627776) (n cap : Nat) (hn : n = l.length) (hm : n ≤ 1099511627776) (W : Int) :
  Calls Tryz.prog 138 #[.agg #[.int .i64 W], .slice A n cap] w fun x w' => LgR w (extL W l) x w' := by
 have hc0 := Bk.new w 60 #[.int .i64 W];have hb0 := bel_new1 w (.cells #[.int .i64 W] 60);have hmk := mk_row (P := Tryz.prog) 22 9 (.string ⟨#[]⟩) 16 Tryz.underlying22 strinf rfl (n : Int) n rfl (by omega) (by omega) (w.alloc (.cells #[.int .i64 W] 60));have hk0 := Bk.new (w.alloc (.cells #[.int .i64 W] 60)) 9 (Array.replicate n (.string ⟨#[]⟩));have hc1 := hide (hc0.alloc (.cells (Array.replicate n (.string ⟨#[]⟩)) 9));have hb1 := hide (hb0.alloc hb0.size (.cells (Array.replicate n (.string ⟨#[]⟩)) 9))
 have hr0 : Array.replicate n (.string ⟨#[]⟩ : Value) = (svs (fillS (fun s => bs (ext W (toL s)).1) l 0)).toArray := by rw [hn, fillS_0]
 rw [World.size_alloc] at hmk hk0;have Ha := hide ha
 have Hv := hide (fun (v : ByteArray) (hv : v ∈ l) W2 => (by
  have := ext_any W (toL v) (by rw [toL_length]; exact hsz v hv) W2;rw [bs_toL] at this
  exact this : Calls Tryz.prog 161 #[.int .i64 W, .string v] W2 fun x w' => x = .returned (.tuple #[.string (bs (ext W (toL v)).1), .int .i64 ((ext W (toL v)).2 : Int)]) ∧ Below W2.heap.size W2 w'))
 have Hr0 := hide hr0;have Hk0 := hide hk0;have Hn := hide hn
 generalize (w.alloc (.cells #[.int .i64 W] 60)).alloc (.cells (Array.replicate n (.string ⟨#[]⟩)) 9) = W0 at *
 rw [Hr0.out] at Hk0;clear ha hsz hn hk0 hr0 Hr0 hc0 hb0
 go_enter Tryz.func138, Tryz.ntmps138
 go_wp2
 go_loopw [16] (fun s16 wr => ∃ j : Nat, j ≤ n ∧ s16 = .int .i64 (j : Int) ∧ Hid (∀ s ∈ l.take j, (ext W (toL s)).2 = 0) ∧ Hid (Bk wr (w.heap.size + 1) 9 (svs (fillS (fun s => bs (ext W (toL s)).1) l j)).toArray) ∧ Hid (Bk wr w.heap.size 60 #[.int .i64 W]) ∧ Hid (Below w.heap.size w wr)) (fun s16 _ => (n - intOf s16).toNat)
 case atStart => exact ⟨0, Nat.zero_le _, rfl, hide (by simp), Hk0, hc1, hb1⟩
 case round =>
  clear hb1 Hk0 hmk hc1;obtain ⟨j, hj, rfl, hall, hk, hco, hb⟩ := hrel
  by_cases hlt : j < n
  ·have hjl : j < l.length := by rw [← Hn.out]; exact hlt
   obtain ⟨b, o, rfl, hbl, hc⟩ := sv_cell (Ha.out.below hb.out) j hjl;have Hv1 := hide (Hv.out l[j] (List.getElem_mem _));have Hin := hide (List.getElem_mem hjl);have Hset := hide (fillS_set (fun s => bs (ext W (toL s)).1) l j hjl);have hlen := fillS_len (fun s => bs (ext W (toL s)).1) l j (by omega);have hap : l.take (j + 1) = l.take j ++ [l[j]] := List.take_succ_eq_append_getElem hjl;obtain ⟨S, hS⟩ : ∃ S, l[j] = S := ⟨_, rfl⟩;rw [hS] at hc Hv1 Hset hap Hin;have Hap := hide hap;have Hlen := hide (show j < (fillS (fun s => bs (ext W (toL s)).1) l j).length by rw [hlen]; exact hjl);have hfld : wr.cell? ⟨w.heap.size, 0, none⟩ = some (.int .i64 W) := hco.out.cell 0;obtain ⟨T, hT⟩ : ∃ T, bs (ext W (toL S)).1 = T := ⟨_, rfl⟩;rw [hT] at Hv1 Hset;clear hS hT hjl hlen hap
   have hlti : (j : Int) < (n : Int) := by omega
   have hj0 : (0 : Int) ≤ (j : Int) := by omega
   by_cases he : (ext W (toL S)).2 = 0
   ·rw [he] at Hv1
    have Hall2 := hide (show ∀ v ∈ l.take (j + 1), (ext W (toL v)).2 = 0 from fun v hm => by
     rw [Hap.out, List.mem_append, List.mem_singleton] at hm
     rcases hm with hm | rfl
     ·exact hall.out v hm
     ·exact he)
    clear he Hap Hin hall
    go_wp2_with fail
    refine (Hv1.out _).mono ?_;rintro x w1 ⟨rfl, hb1⟩;have hk1 := hk.out.below hb1 hk.out.lt;have Hco1 := hide (hco.out.below hb1 hco.out.lt);have hcell := hk1.cell j;rw [List.getElem?_toArray, svs_get _ _ Hlen.out] at hcell;have hfroz := hk1.frozen j;have hput := bk_sets hk1 j T;rw [Hset.out] at hput;have Hput := hide hput;have Hco2 := hide (Hco1.out.off (p := ⟨w.heap.size + 1, j, none⟩) (by simp) (.string T));have Hb2 := hide ((hb.out.trans (hb1.mono hb.out.size)).setCell (p := ⟨w.heap.size + 1, j, none⟩) (by simp) (.string T))
    generalize (fillS (fun s => bs (ext W (toL s)).1) l j)[j] = OLD at *
    clear hb1 Hv1 hb hk hk1 hput Hset Hlen Hco1 hco hfld
    go_wp2
    refine ⟨⟨j + 1, hlt, by go_num, Hall2, Hput, Hco2, Hb2⟩, ?_⟩
    simp [intOf] <;> omega
   ·have Hres := hide (extL_bad Hin.out he)
    have hne : (((ext W (toL S)).2 : Int) != 0) = true := by rw [bne_iff_ne]; omega
    generalize ((ext W (toL S)).2 : Int) = E at *
    clear he Hap Hin hall Hset Hlen
    go_wp2_with fail
    refine (Hv1.out _).mono ?_;rintro x w1 ⟨rfl, hb1⟩;have Hb2 := hide (hb.out.trans (hb1.mono hb.out.size));clear hb1 Hv1 hb
    go_wp2
    go_returns
    refine ⟨Hb2.out, ?_⟩;rw [Hres.out];exact ⟨none, rfl⟩
  ·have hjn : j = n := by omega
   have hk1 := hk.out;rw [hjn, Hn.out, fillS_end] at hk1;have Hk1 := hide hk1;have hall' := hall.out;rw [hjn, List.take_of_length_le (by rw [Hn.out]; exact Nat.le_refl _)] at hall';have Hres := hide (extL_all hall');have Hl := hide (show (l.map (fun s => bs (ext W (toL s)).1)).length = n by rw [List.length_map, Hn.out]);clear hk1 hk Hv hall hall'
   go_wp2
   go_returns
   refine ⟨hb.out, ?_⟩;rw [Hres.out];exact ⟨_, by rw [Hl.out]; rfl, by omega, Hk1.out⟩
theorem bwords_any {w : World} {A : Option Addr} {l : List ByteArray} (ha : At w A (svs l)) (hsz : ∀ s ∈ l, s.size ≤ 1099511627776) (n cap : Nat) (hn : n = l.length) (hm : n ≤ 4096) (W : Int) :
  Calls Tryz.prog 64 #[.agg #[.int .i64 W], .slice A n cap] w fun x w' => x = .returned (.tuple #[.string (bs (codW l)), .bool true]) ∧ Below w.heap.size w w' := by
 have hb0 := bel_new1 w (.cells #[.int .i64 W] 60);have H1 := hide (shortL_any (ha.alloc (.cells #[.int .i64 W] 60)) hsz n cap hn (by omega))
 have hln : n = (shortL l).length := by unfold shortL; rw [List.length_map]; exact hn
 have hso := short_ok (l := l) (by omega);have H2 := hide (fun W2 (B : Option Addr) (c : Nat) (h : At W2 B (svs (shortL l))) => encode_any h (fun s hs => by have := hso.2 s hs; omega) n c hln (by omega));have he2 := dec_short (l := l) (by omega)
 have he : ((enc (shortL l)).2 : Int) = 0 := by rw [he2.2]; rfl
 unfold codW;unfold ERes at H2;rw [he2.2] at H2;have Hb0 := hide hb0
 generalize bs (enc (shortL l)).1 = SR at *
 clear ha hsz hn hln hso he2 he hb0
 go_enter Tryz.func64, Tryz.ntmps64
 go_wp2_with fail
 refine (H1.out).mono ?_;rintro x w1 ⟨g, rfl, hg1, hg2, hat, hb1⟩;have hb := Hb0.out.trans (hb1.mono Hb0.out.size);clear hb1 H1 Hb0;have H3 := hide (H2.out w1 _ n hat);clear H2 hat
 go_wp2_with fail
 refine (H3.out).mono ?_;rintro x w2 ⟨rfl, hb2⟩;have hbb := hb.trans (hb2.mono hb.size);clear hb hb2 H3
 go_wp2
 go_returns
 exact ⟨rfl, hbb⟩
end Go.Proofs.YtoeeblldgoccoaaGreat
