/-
  Joined texts: Ke, Aa, Ac, Ad, Ae, Af, Ag, Ah.
-/
import Derived.Test.YtoeeblldgoccoaaGreatL26
set_option linter.unusedVariables false
set_option linter.unusedSimpArgs false
set_option maxRecDepth 100000
set_option maxHeartbeats 8000000
namespace Go.Proofs.YtoeeblldgoccoaaGreat
open Go.RowKit Go.Proofs Wv Wv.Vi Wv.Rc Wv.Mo Wv.Ru Wv.Tm Wv.Bc
theorem shq_rep : ∀ (j : Nat) (d : UInt8) (s : List UInt8), shq (List.replicate j (fr d) ++ (d :: s)) = shq (d :: s)
 | 0, d, s => rfl
 | 1, d, s => by
  show shq (fr d :: d :: s) = _
  rw [shq_cons2, if_pos rfl]
 | j + 2, d, s => by
  show shq (fr d :: fr d :: (List.replicate j (fr d) ++ (d :: s))) = _
  rw [shq_cons2, if_pos (fr_fr d).symm];exact shq_rep (j + 1) d s
theorem ext_good {w : Int} {u : List UInt8} (h : (ext w u).1 ≠ []) : (ext w u).2 = 0 := by
 unfold ext at h ⊢
 split
 ·rename_i hw
  rw [if_pos hw] at h;exact absurd rfl h
 ·rename_i hw
  rw [if_neg hw] at h
  cases u with
  | nil => exact absurd rfl h
  | cons c t =>
   simp only at h ⊢
   split
   ·rename_i h1
    rw [if_pos h1] at h;exact absurd rfl h
   ·rename_i h1
    rw [if_neg h1] at h
    split
    ·rename_i h2
     rw [if_pos h2] at h;exact absurd rfl h
    ·rfl
theorem ext_form {w : Int} {u v : List UInt8} (h : ext w u = (v, 0)) : ∃ c t k, u = c :: t ∧ v = List.replicate k (fr c) ++ (c :: t) := by
 unfold ext at h
 split at h
 ·cases h
 ·cases u with
  | nil => cases h
  | cons c t =>
   simp only at h
   split at h
   ·cases h
   ·split at h
    ·cases h
    ·injection h with h _
     exact ⟨c, t, _, rfl, h.symm⟩
theorem shq_len (v : List UInt8) : (shq v).length ≤ v.length := by
 cases v with
 | nil => exact Nat.le_refl _
 | cons a r =>
  obtain ⟨k, c, t, e1, e2⟩ := shq_form (a :: r) (by simp);rw [e1];have := congrArg List.length e2;rw [List.length_append] at this;omega
theorem shr_find {v : List UInt8} (hv : isV v = true) {n : Nat} (h1 : 1 ≤ n) (h2 : n ≤ v.length) (h : ext (v.length : Int) (v.drop (v.length - n)) = (v, 0)) (hno : ∀ m, 1 ≤ m → m < n → (ext (v.length : Int) (v.drop (v.length - m))).1 ≠ v) : shr v = v.drop (v.length - n) := by
 have hx := ext_shr hv;unfold shr at hx ⊢;rw [if_pos hv] at hx ⊢;obtain ⟨k, c, t, e1, e2⟩ := shq_form v (isV_iff.1 hv).2.1
 have hd : shq v = v.drop (v.length - (shq v).length) := by
  rw [e1]
  have hl : v.length - (c :: t).length = k := by
   have := congrArg List.length e2;rw [List.length_append, List.length_replicate] at this;omega
  rw [hl]
  conv => rhs; rw [e2]
  rw [List.drop_append_of_le_length (by rw [List.length_replicate]; exact Nat.le_refl _), List.drop_replicate, Nat.sub_self];rfl
 have hge : ¬ (shq v).length < n := fun hlt => hno _ (by rw [e1]; simp) hlt (by rw [← hd, hx])
 obtain ⟨d, s, j, f1, f2⟩ := ext_form h
 have hle : (shq v).length ≤ n := by
  have : shq v = shq (v.drop (v.length - n)) := by
   rw [f1]
   conv => lhs; rw [f2]
   exact shq_rep j d s
  rw [this];refine Nat.le_trans (shq_len _) ?_;rw [List.length_drop];omega
 rw [hd, show (shq v).length = n by omega]
theorem ext_self {v : List UInt8} (hv : isV v = true) : ext (v.length : Int) v = (v, 0) := by
 obtain ⟨h1, h2, h3⟩ := isV_iff.1 hv;have hp : 0 < v.length := List.length_pos_iff.2 h2;unfold ext;rw [if_neg (by omega)]
 match v, h2 with
 | c :: t, _ =>
  simp only
  have ha : (c :: t).all isC = true := by
   rw [List.all_eq_true];intro x hx;unfold isC;rw [decide_eq_true_iff];exact h1 x hx
  rw [ha, if_neg (by simp), if_neg (by omega), Int.toNat_natCast, Nat.sub_self];rfl
def invR (c : UInt8) : UInt8 := if c = 122 then 122 else if c = 48 then 49 else if c = 49 then 48 else 120
theorem invR_ok {c : UInt8} (h : cd c < 4) : ch (if cd c < 2 then 1 - cd c else cd c) = invR c := by
 rcases cd_cases c with ⟨rfl, _⟩ | ⟨rfl, _⟩ | ⟨rfl, _⟩ | ⟨rfl, _⟩ | ⟨_, _, _, _, h4⟩
 ·decide
 ·decide
 ·decide
 ·decide
 ·omega
theorem inv_ref {v : List UInt8} (h : isV v = true) : inv v = v.map invR := by
 unfold inv
 exact List.map_congr_left fun c hc => invR_ok ((isV_iff.1 h).1 c hc)
def hi (c : UInt8) : Bool := decide (2 ≤ cd c)
theorem stepOf_fold (ds : List ByteArray) : stepOf ds = (ds.foldl (bstep (fun d => ds.count d)) (bs [], 0)).1 := rfl
def nxt (N pt : Int) : List Int → Int
 | [] => pt
 | g :: _ => pt + 1 + min g N
def runR (N : Int) (st : ByteArray) : Nat → Int → Int → List ByteArray → List Int → ByteArray → Option (List ByteArray)
 | 0, _, _, _, _, _ => some []
 | m + 1, i, pt, vs, gs, last =>
  if i = pt then
   (if vs.headD default = bs [] then none else (runR N st m (i + 1) (nxt N pt gs) vs.tail gs.tail (vs.headD default)).map (vs.headD default :: ·))
  else (if (addV (toL last) (toL st)).1 = [] then none else (runR N st m (i + 1) pt vs gs (bs (addV (toL last) (toL st)).1)).map (bs (addV (toL last) (toL st)).1 :: ·))
def readCR (w : Int) (s : List UInt8) : Option (List ByteArray) := match rnum s 4096 with
  | none => none
  | some (n, s1) => if n = 0 then (if s1 = [] then some [] else none) else match rtext s1 s.length with
    | none => none
    | some (f, s2) => match rtext s2 s.length with
      | none => none
      | some (st, s3) => match rtext s3 s.length with
        | none => none
        | some (a, s4) => if (decn a 4096).2 ≠ 0 ∨ (dec s4 4096).2 ≠ 0 then none else match extL w (dec s4 4096).1 with
          | none => none
          | some vs => if (ext w f).2 ≠ 0 ∨ (decn a 4096).1.length ≠ vs.length then none else
              (runR n (bs (ext w st).1) (n - 1) 1 (nxt n (-1) (decn a 4096).1) vs (decn a 4096).1.tail (bs (ext w f).1)).map (bs (ext w f).1 :: ·)
def readR (w : Int) (data : List UInt8) : Option (List ByteArray) := match rnum data 3 with
 | none => none
 | some (c, r) => if c = 0 then readPl w r else if c = 1 then readCR w r else if c = 2 then (readWd w r).map (unmix (bs (allV w 48))) else readWd w r
end Go.Proofs.YtoeeblldgoccoaaGreat
namespace Go.Proofs.YtoeeblldgoccoaaGreat
open Go.RowKit Go.Proofs Wv Wv.Vi Wv.Bc
theorem u48 : (((48 : UInt8).toNat : Nat) : Int) = 48 := rfl
theorem u49 : (((49 : UInt8).toNat : Nat) : Int) = 49 := rfl
theorem u120 : (((120 : UInt8).toNat : Nat) : Int) = 120 := rfl
theorem u122 : (((122 : UInt8).toNat : Nat) : Int) = 122 := rfl
theorem eq48 {c : UInt8} (h : c ≠ 48) : ((c.toNat : Int) == 48) = false := by have := u8_eqb c 48; rw [u48, decide_eq_false h] at this; exact this
theorem eq49 {c : UInt8} (h : c ≠ 49) : ((c.toNat : Int) == 49) = false := by have := u8_eqb c 49; rw [u49, decide_eq_false h] at this; exact this
theorem eq120 {c : UInt8} (h : c ≠ 120) : ((c.toNat : Int) == 120) = false := by have := u8_eqb c 120; rw [u120, decide_eq_false h] at this; exact this
theorem eq122 {c : UInt8} (h : c ≠ 122) : ((c.toNat : Int) == 122) = false := by have := u8_eqb c 122; rw [u122, decide_eq_false h] at this; exact this
theorem acode_any (c : UInt8) (w : World) : Calls Tryz.prog 85 #[.int .u8 (c.toNat : Int)] w fun x w' => x = .returned (.int .i64 (cdI c)) ∧ w = w' := by
 rcases cd_cases c with ⟨rfl, _⟩ | ⟨rfl, _⟩ | ⟨rfl, _⟩ | ⟨rfl, _⟩ | ⟨h0, h1, h2, h3, h4⟩
 ·rw [u48, show cdI 48 = 0 by decide]
  go_enter Tryz.func85, Tryz.ntmps85
  go_wp2
  go_returns
  exact ⟨rfl, rfl⟩
 ·rw [u49, show cdI 49 = 1 by decide]
  go_enter Tryz.func85, Tryz.ntmps85
  go_wp2
  go_returns
  exact ⟨rfl, rfl⟩
 ·rw [u120, show cdI 120 = 2 by decide]
  go_enter Tryz.func85, Tryz.ntmps85
  go_wp2
  go_returns
  exact ⟨rfl, rfl⟩
 ·rw [u122, show cdI 122 = 3 by decide]
  go_enter Tryz.func85, Tryz.ntmps85
  go_wp2
  go_returns
  exact ⟨rfl, rfl⟩
 ·have e : cdI c = -1 := by unfold cdI; rw [h4]; rfl
  have e0 := eq48 h0;have e1 := eq49 h1;have e2 := eq120 h2;have e3 := eq122 h3;rw [e]
  generalize (c.toNat : Int) = C at *
  clear e h0 h1 h2 h3 h4
  go_enter Tryz.func85, Tryz.ntmps85
  go_wp2
  go_returns
  exact ⟨rfl, rfl⟩
theorem achar_any (n : Nat) (hn : n < 4) (w : World) : Calls Tryz.prog 86 #[.int .i64 (n : Int)] w fun x w' => x = .returned (.tuple #[.int .u8 ((ch n).toNat : Int), .bool true]) ∧ w = w' := by
 rcases (show n = 0 ∨ n = 1 ∨ n = 2 ∨ n = 3 by omega) with rfl | rfl | rfl | rfl
 all_goals
  go_enter Tryz.func86, Tryz.ntmps86
  go_wp2
  go_returns
  exact ⟨rfl, rfl⟩
theorem aval_any (c : UInt8) (w : World) : Calls Tryz.prog 56 #[.int .u8 (c.toNat : Int)] w fun x w' => x = .returned (.bool (isC c)) ∧ w = w' := by
 rcases cd_cases c with ⟨rfl, _⟩ | ⟨rfl, _⟩ | ⟨rfl, _⟩ | ⟨rfl, _⟩ | ⟨h0, h1, h2, h3, h4⟩
 ·rw [u48, show isC 48 = true by decide]
  go_enter Tryz.func56, Tryz.ntmps56
  go_wp2
  go_returns
  exact ⟨rfl, rfl⟩
 ·rw [u49, show isC 49 = true by decide]
  go_enter Tryz.func56, Tryz.ntmps56
  go_wp2
  go_returns
  exact ⟨rfl, rfl⟩
 ·rw [u120, show isC 120 = true by decide]
  go_enter Tryz.func56, Tryz.ntmps56
  go_wp2
  go_returns
  exact ⟨rfl, rfl⟩
 ·rw [u122, show isC 122 = true by decide]
  go_enter Tryz.func56, Tryz.ntmps56
  go_wp2
  go_returns
  exact ⟨rfl, rfl⟩
 ·have e : isC c = false := by unfold isC; rw [h4]; rfl
  have e0 := eq48 h0;have e1 := eq49 h1;have e2 := eq120 h2;have e3 := eq122 h3;rw [e]
  generalize (c.toNat : Int) = C at *
  clear e h0 h1 h2 h3 h4
  go_enter Tryz.func56, Tryz.ntmps56
  go_wp2
  go_returns
  exact ⟨rfl, rfl⟩
theorem ainv_any (c : UInt8) (w : World) : Calls Tryz.prog 140 #[.int .u8 (c.toNat : Int)] w fun x w' => x = .returned (.int .u8 ((invR c).toNat : Int)) ∧ w = w' := by
 by_cases h3 : c = 122
 ·subst h3
  rw [u122, show (((invR 122).toNat : Nat) : Int) = 122 from rfl]
  go_enter Tryz.func140, Tryz.ntmps140
  go_wp2
  go_returns
  exact ⟨rfl, rfl⟩
 ·have e3 := eq122 h3
  by_cases h0 : c = 48
  ·subst h0
   rw [u48, show (((invR 48).toNat : Nat) : Int) = 49 from rfl];clear e3 h3
   go_enter Tryz.func140, Tryz.ntmps140
   go_wp2
   go_returns
   exact ⟨rfl, rfl⟩
  ·have e0 := eq48 h0
   by_cases h1 : c = 49
   ·subst h1
    rw [u49, show (((invR 49).toNat : Nat) : Int) = 48 from rfl];clear e0 e3 h3 h0
    go_enter Tryz.func140, Tryz.ntmps140
    go_wp2
    go_returns
    exact ⟨rfl, rfl⟩
   ·have e1 := eq49 h1
    have e : ((invR c).toNat : Int) = 120 := by unfold invR; rw [if_neg h3, if_neg h0, if_neg h1]; rfl
    rw [e]
    generalize (c.toNat : Int) = C at *
    clear e h0 h1 h3
    go_enter Tryz.func140, Tryz.ntmps140
    go_wp2
    go_returns
    exact ⟨rfl, rfl⟩
theorem acount_big (v : List UInt8) (hv : v.length ≤ 9223372036854775807) (w : World) :
  Calls Tryz.prog 53 #[.string (bs v)] w fun x w' => x = .returned (.agg (cnA v)) ∧ Below w.heap.size w w' := by
 have hsz : (bs v).size = v.length := bs_size v;have hb0 := hide (((Below.refl w.heap.size w).alloc (Nat.le_refl _) (.cells #[.int .i64 0, .int .i64 0, .int .i64 0, .int .i64 0] 76)).alloc (by simp) (.cells #[.int .i64 0, .int .i64 0, .int .i64 0, .int .i64 0] 76));have hk0 := hide ((Bk.new w 76 #[.int .i64 0, .int .i64 0, .int .i64 0, .int .i64 0]).alloc (.cells #[.int .i64 0, .int .i64 0, .int .i64 0, .int .i64 0] 76));have hk1 := Bk.new (w.alloc (.cells #[.int .i64 0, .int .i64 0, .int .i64 0, .int .i64 0] 76)) 76 #[.int .i64 0, .int .i64 0, .int .i64 0, .int .i64 0];rw [World.size_alloc] at hk1;have hk1' := hide hk1;have Hget : Hid (∀ (i : Nat) (h : i < v.length) (h2 : i < (bs v).size), (bs v)[i]'h2 = v[i]'h) := hide (fun i h h2 => bs_get v i h h2);obtain ⟨n, hn⟩ : ∃ n, v.length = n := ⟨_, rfl⟩;obtain ⟨S, hS⟩ : ∃ S, bs v = S := ⟨_, rfl⟩;rw [hS] at hsz Hget ⊢;rw [hn] at hsz hv;have Hn := hide hn;have Hsz := hide hsz;clear hn hS hk1 hsz
 go_enter Tryz.func53, Tryz.ntmps53
 go_wp2
 go_loopw [4] (fun s4 wr => ∃ i : Nat, i ≤ n ∧ s4 = .int .i64 (i : Int) ∧ Hid (Bk wr w.heap.size 76 #[.int .i64 0, .int .i64 0, .int .i64 0, .int .i64 0]) ∧ Hid (Bk wr (w.heap.size + 1) 76 (cnA (v.take i))) ∧ Hid (Below w.heap.size w wr)) (fun s4 _ => (n - intOf s4).toNat)
 case atStart => exact ⟨0, Nat.zero_le _, rfl, hk0, hk1', hb0⟩
 case round =>
  clear hk0 hk1' hb0;obtain ⟨i, hi, rfl, hka, hkb, hb⟩ := hrel
  by_cases hlt : i < n
  ·have hil : i < v.length := by rw [Hn.out]; exact hlt
   have hiS : i < S.size := by rw [Hsz.out]; exact hlt
   have hg0 := Hget.out i hil;have htk : v.take (i + 1) = v.take i ++ [v[i]] := List.take_succ_eq_append_getElem hil;obtain ⟨c, hc⟩ : ∃ c, v[i] = c := ⟨_, rfl⟩;rw [hc] at hg0 htk
   have hget : ∀ h : i < S.size, (S[i]'h).toNat = c.toNat := fun h => by rw [hg0 h]
   have hlti : (i : Int) < (S.size : Int) := by omega
   have hlti0 : (0 : Int) ≤ (i : Int) := by omega
   have hcl : cn 0 (v.take i) ≤ i ∧ cn 1 (v.take i) ≤ i ∧ cn 2 (v.take i) ≤ i ∧ cn 3 (v.take i) ≤ i := by
    have hl : (v.take i).length ≤ i := by rw [List.length_take]; omega
    exact ⟨Nat.le_trans (cn_le _ _) hl, Nat.le_trans (cn_le _ _) hl, Nat.le_trans (cn_le _ _) hl, Nat.le_trans (cn_le _ _) hl⟩
   obtain ⟨hc0, hc1, hc2, hc3⟩ := hcl;have Hco := hide (acode_any c wr);unfold cdI at Hco;have hu0 := hkb.out.cell 0;have hu1 := hkb.out.cell 1;have hu2 := hkb.out.cell 2;have hu3 := hkb.out.cell 3;have f0 := hkb.out.frozen 0;have f1 := hkb.out.frozen 1;have f2 := hkb.out.frozen 2;have f3 := hkb.out.frozen 3;unfold cnA at hu0 hu1 hu2 hu3;simp only [List.getElem?_toArray, List.getElem?_cons_zero, List.getElem?_cons_succ] at hu0 hu1 hu2 hu3;have Hput := hide (fun k (h : cd c = k) (h4 : k < 4) => (by rw [htk, ← cnA_step _ c k h h4]; exact Bk.put hkb.out k (.int .i64 ((cn k (v.take i) : Int) + 1)) : Bk (wr.setCell ⟨w.heap.size + 1, k, none⟩ (.int .i64 ((cn k (v.take i) : Int) + 1))) (w.heap.size + 1) 76 (cnA (v.take (i + 1)))));have Hsame := hide (fun (h : ¬ cd c < 4) => (by rw [htk, cnA_same _ c h]; exact hkb.out : Bk wr (w.heap.size + 1) 76 (cnA (v.take (i + 1)))));have Hoff := hide (fun k (u : Value) => Bk.off hka.out (p := ⟨w.heap.size + 1, k, none⟩) (by simp) u);have Hbs := hide (fun k (u : Value) => hb.out.setCell (p := ⟨w.heap.size + 1, k, none⟩) (by simp) u);have hle := cd_le c;obtain ⟨CN, hCN⟩ : ∃ f : Nat → Nat, (fun k => cn k (v.take i)) = f := ⟨_, rfl⟩
   have hck : ∀ k, cn k (v.take i) = CN k := fun k => congrFun hCN k
   simp only [hck] at Hput hu0 hu1 hu2 hu3 hc0 hc1 hc2 hc3;clear hil hg0 htk hc hCN hck
   by_cases h4 : cd c < 4
   ·rw [if_pos h4] at Hco
    clear Hsame;obtain ⟨k, hk⟩ : ∃ k, cd c = k := ⟨_, rfl⟩;rw [hk] at Hco h4;have hks := hide (Hput.out k hk h4);have hka2 := hide (fun u => Hoff.out k u);have hb2 := hide (fun u => Hbs.out k u);clear Hput Hoff Hbs hle hk
    rcases (show k = 0 ∨ k = 1 ∨ k = 2 ∨ k = 3 by omega) with rfl | rfl | rfl | rfl
    all_goals
     clear h4
     go_wp2_with fail
     refine (Hco.out).mono ?_;rintro x w1 ⟨rfl, rfl⟩
     go_wp2
     refine ⟨⟨i + 1, hlt, by go_num, hide (hka2.out _), hks, hide (hb2.out _)⟩, ?_⟩
     simp [intOf] <;> omega
   ·rw [if_neg h4] at Hco
    have hks := hide (Hsame.out h4);clear Hput Hsame Hoff Hbs h4 hu0 hu1 hu2 hu3 f0 f1 f2 f3 hle
    go_wp2_with fail
    refine (Hco.out).mono ?_;rintro x w1 ⟨rfl, rfl⟩
    go_wp2
    refine ⟨⟨i + 1, hlt, by go_num, hka, hks, hb⟩, ?_⟩
    simp [intOf] <;> omega
  ·have hin : i = n := by omega
   subst hin
   have hend : ¬ (i : Int) < (S.size : Int) := by rw [Hsz.out]; omega
   have htk : v.take i = v := List.take_of_length_le (by rw [Hn.out]; exact Nat.le_refl _);have hkb2 := hkb.out;rw [htk] at hkb2;have hu0 := hkb2.cell 0;have hu1 := hkb2.cell 1;have hu2 := hkb2.cell 2;have hu3 := hkb2.cell 3;have hr0 := hka.out.frozen 0;have hr1 := hka.out.frozen 1;have hr2 := hka.out.frozen 2;have hr3 := hka.out.frozen 3;have hv0 := hka.out.cell 0;have hv1 := hka.out.cell 1;have hv2 := hka.out.cell 2;have hv3 := hka.out.cell 3;unfold cnA at hu0 hu1 hu2 hu3;simp only [List.getElem?_toArray, List.getElem?_cons_zero, List.getElem?_cons_succ] at hu0 hu1 hu2 hu3 hv0 hv1 hv2 hv3;have hcn : cnA v = #[.int .i64 (cn 0 v : Int), .int .i64 (cn 1 v : Int), .int .i64 (cn 2 v : Int), .int .i64 (cn 3 v : Int)] := rfl;have hCN := hide hcn;clear hcn
   generalize cn 0 v = n0 at *
   generalize cn 1 v = n1 at *
   generalize cn 2 v = n2 at *
   generalize cn 3 v = n3 at *
   clear htk hkb2;have hF := hide ((((hka.out.put 0 (.int .i64 (n0 : Int))).put 1 (.int .i64 (n1 : Int))).put 2 (.int .i64 (n2 : Int))).put 3 (.int .i64 (n3 : Int)));have hbF := hide ((((hb.out.setCell (p := ⟨w.heap.size, 0, none⟩) (Nat.le_refl _) (.int .i64 (n0 : Int))).setCell (p := ⟨w.heap.size, 1, none⟩) (Nat.le_refl _) (.int .i64 (n1 : Int))).setCell (p := ⟨w.heap.size, 2, none⟩) (Nat.le_refl _) (.int .i64 (n2 : Int))).setCell (p := ⟨w.heap.size, 3, none⟩) (Nat.le_refl _) (.int .i64 (n3 : Int)))
   go_wp2
   have z0 := hF.out.cell 0;have z1 := hF.out.cell 1;have z2 := hF.out.cell 2;have z3 := hF.out.cell 3
   simp at z0 z1 z2 z3
   generalize ((((wr.setCell ⟨w.heap.size, 0, none⟩ (.int .i64 (n0 : Int))).setCell ⟨w.heap.size, 1, none⟩ (.int .i64 (n1 : Int))).setCell ⟨w.heap.size, 2, none⟩ (.int .i64 (n2 : Int))).setCell ⟨w.heap.size, 3, none⟩ (.int .i64 (n3 : Int))) = WF at *
   refine bodyPost_ret (v := .agg #[.int .i64 (n0 : Int), .int .i64 (n1 : Int), .int .i64 (n2 : Int), .int .i64 (n3 : Int)]) (by simp [results, Tryz.results53, go_sem, z0, z1, z2, z3]; try rfl) rfl ?_;exact ⟨by rw [hCN.out], hbF.out⟩
theorem aisv_big (v : List UInt8) (hv : v.length ≤ 9223372036854775807) (w : World) :
  Calls Tryz.prog 28 #[.string (bs v)] w fun x w' => x = .returned (.bool (isV v)) ∧ w = w' := by
 have hsz : (bs v).size = v.length := bs_size v;have Hget : Hid (∀ (i : Nat) (h : i < v.length) (h2 : i < (bs v).size), (bs v)[i]'h2 = v[i]'h) := hide (fun i h h2 => bs_get v i h h2);obtain ⟨n, hn⟩ : ∃ n, v.length = n := ⟨_, rfl⟩;obtain ⟨S, hS⟩ : ∃ S, bs v = S := ⟨_, rfl⟩;obtain ⟨V, hV⟩ : ∃ V, isV v = V := ⟨_, rfl⟩;have HV := hide hV;rw [hS] at hsz Hget ⊢;rw [hn] at hsz hv;rw [hV];have Hn := hide hn;have Hsz := hide hsz;have Hva := hide (fun c W => aval_any c W);clear hn hS hsz hV
 go_enter Tryz.func28, Tryz.ntmps28
 go_wp2
 go_loopw [3] (fun s3 wr => ∃ i : Nat, i ≤ n ∧ s3 = .int .i64 (i : Int) ∧ Hid (∀ c ∈ v.take i, cd c < 4) ∧ wr = w) (fun s3 _ => (n - intOf s3).toNat)
 case atStart => exact ⟨0, Nat.zero_le _, rfl, hide (fun c hc => by simp at hc), rfl⟩
 case round =>
  obtain ⟨i, hi, rfl, hal, rfl⟩ := hrel
  by_cases hlt : i < n
  ·have hil : i < v.length := by rw [Hn.out]; exact hlt
   have hiS : i < S.size := by rw [Hsz.out]; exact hlt
   have hg0 := Hget.out i hil;have htk : v.take (i + 1) = v.take i ++ [v[i]] := List.take_succ_eq_append_getElem hil;have hmem : v[i] ∈ v := List.getElem_mem _;obtain ⟨c, hc⟩ : ∃ c, v[i] = c := ⟨_, rfl⟩;rw [hc] at hg0 htk hmem
   have hget : ∀ h : i < S.size, (S[i]'h).toNat = c.toNat := fun h => by rw [hg0 h]
   have hlti : (i : Int) < (S.size : Int) := by omega
   have hlti0 : (0 : Int) ≤ (i : Int) := by omega
   have Hc := hide (Hva.out c wr)
   cases h4 : isC c with
   | true =>
    have h5 : cd c < 4 := by unfold isC at h4; simpa using h4
    have hnx : Hid (∀ c ∈ v.take (i + 1), cd c < 4) := hide (fun x hx => by
     rw [htk] at hx
     rcases List.mem_append.1 hx with hx | hx
     ·exact hal.out x hx
     ·rw [List.mem_singleton.1 hx]; exact h5)
    rw [h4] at Hc;clear hil hg0 htk hc hmem hal h4 h5
    go_wp2_with fail
    refine (Hc.out).mono ?_;rintro x w1 ⟨rfl, rfl⟩
    go_wp2
    refine ⟨⟨i + 1, hlt, by go_num, hnx, by first | rfl | trivial⟩, ?_⟩
    simp [intOf] <;> omega
   | false =>
    have hno : Hid (V = false) := hide (by
     rw [← HV.out]
     cases h : isV v with
     | false => rfl
     | true =>
      have := (isV_iff.1 h).1 c hmem;unfold isC at h4;rw [decide_eq_false_iff_not] at h4
      exact absurd this h4)
    rw [h4] at Hc;clear hil hg0 htk hc hmem hal h4
    go_wp2_with fail
    refine (Hc.out).mono ?_;rintro x w1 ⟨rfl, rfl⟩
    go_wp2
    go_returns
    exact ⟨ret_bool hno.out.symm, rfl⟩
  ·have hin : i = n := by omega
   subst hin;have htk : v.take i = v := List.take_of_length_le (by rw [Hn.out]; exact Nat.le_refl _);have hal2 := hal.out;rw [htk] at hal2
   have hend : ¬ (i : Int) < (S.size : Int) := by rw [Hsz.out]; omega
   have hfin : Hid (V = (decide (1 ≤ i) && decide (i ≤ 128))) := hide (by
    rw [← HV.out, Bool.eq_iff_iff, isV_iff];simp only [Bool.and_eq_true, decide_eq_true_iff];rw [← Hn.out]
    constructor
    ·rintro ⟨_, h2, h3⟩
     exact ⟨List.length_pos_iff.2 h2, h3⟩
    ·rintro ⟨h2, h3⟩
     exact ⟨hal2, List.length_pos_iff.1 h2, h3⟩)
   have hSi := Hsz.out;clear htk hal hal2
   by_cases h1 : 1 ≤ i
   ·have g1 : (1 : Int) ≤ (S.size : Int) := by omega
    have hf2 := hfin.out;rw [decide_eq_true h1, Bool.true_and] at hf2
    by_cases h2 : i ≤ 128
    ·have g2 : (S.size : Int) ≤ 128 := by omega
     rw [decide_eq_true h2] at hf2;have Hf2 := hide hf2;clear hf2 hfin h1 h2 hSi
     go_wp2
     go_returns
     exact ⟨ret_bool Hf2.out.symm, rfl⟩
    ·have g2 : ¬ (S.size : Int) ≤ 128 := by omega
     rw [decide_eq_false h2] at hf2;have Hf2 := hide hf2;clear hf2 hfin h1 h2 hSi
     go_wp2
     go_returns
     exact ⟨ret_bool Hf2.out.symm, rfl⟩
   ·have g1 : ¬ (1 : Int) ≤ (S.size : Int) := by omega
    have hf2 := hfin.out;rw [decide_eq_false h1, Bool.false_and] at hf2;have Hf2 := hide hf2;clear hf2 hfin h1 hSi
    go_wp2
    go_returns
    exact ⟨ret_bool Hf2.out.symm, rfl⟩
theorem aisv_any (v : List UInt8) (hv : v.length ≤ 1099511627776) (w : World) :
  Calls Tryz.prog 28 #[.string (bs v)] w fun x w' => x = .returned (.bool (isV v)) ∧ w = w' :=
 aisv_big v (by omega) w
theorem avalid_big (n : Int) (v : List UInt8) (hv : v.length ≤ 9223372036854775807) (w : World) :
  Calls Tryz.prog 27 #[.int .i64 n, .string (bs v)] w fun x w' => x = .returned (.bool (vld n v)) ∧ w = w' := by
 have Hi := hide (aisv_big v hv w);have hsz : (bs v).size = v.length := bs_size v;unfold vld;rw [← hsz];clear hsz
 generalize bs v = S at *
 cases h : isV v with
 | false =>
  rw [h] at Hi;rw [Bool.false_and];clear h
  go_enter Tryz.func27, Tryz.ntmps27
  go_wp2_with fail
  refine (Hi.out).mono ?_;rintro x w1 ⟨rfl, rfl⟩
  go_wp2
  go_returns
  exact ⟨rfl, rfl⟩
 | true =>
  rw [h] at Hi;rw [Bool.true_and]
  have he : ((S.size : Int) == n) = decide ((S.size : Int) = n) := by rw [Bool.eq_iff_iff]; simp
  have He := hide he;clear h he
  go_enter Tryz.func27, Tryz.ntmps27
  go_wp2_with fail
  refine (Hi.out).mono ?_;rintro x w1 ⟨rfl, rfl⟩
  go_wp2
  go_returns
  exact ⟨by first | rfl | (rw [← He.out]; rfl), rfl⟩
theorem avalid_any (n : Int) (v : List UInt8) (hv : v.length ≤ 1099511627776) (w : World) :
  Calls Tryz.prog 27 #[.int .i64 n, .string (bs v)] w fun x w' => x = .returned (.bool (vld n v)) ∧ w = w' :=
 avalid_big n v (by omega) w
theorem aknown_big (v : List UInt8) (hv : v.length ≤ 9223372036854775807) (w : World) :
  Calls Tryz.prog 25 #[.string (bs v)] w fun x w' => x = .returned (.bool (knV v)) ∧ Below w.heap.size w w' := by
 have Hc := hide (acount_big v hv w);have hcn : cnA v = #[.int .i64 (cn 0 v : Int), .int .i64 (cn 1 v : Int), .int .i64 (cn 2 v : Int), .int .i64 (cn 3 v : Int)] := rfl;rw [hcn] at Hc;have hsz : (bs v).size = v.length := bs_size v;have Hi := hide (fun W => aisv_big v hv W);have c0 := cn_le 0 v;have c1 := cn_le 1 v;obtain ⟨s1, s2, s3, s4⟩ := cn_sum v
 have hk : Hid (isV v = true → knV v = decide ((cn 0 v : Int) + (cn 1 v : Int) = ((bs v).size : Int))) := hide (fun h => by
  rw [Bool.eq_iff_iff, decide_eq_true_iff, knV_iff, hsz]
  constructor
  ·intro hh
   have := s3.2 hh.1;omega
  ·intro hh
   exact ⟨s3.1 (by omega), (isV_iff.1 h).2⟩)
 have hk0 : Hid (isV v = false → knV v = false) := hide (fun h => by unfold knV; rw [h]; rfl)
 have c01 : cn 0 v + cn 1 v ≤ v.length := by omega
 clear s1 s2 s3 s4 hcn hsz
 generalize cn 0 v = n0 at *
 generalize cn 1 v = n1 at *
 generalize cn 2 v = n2 at *
 generalize cn 3 v = n3 at *
 generalize bs v = S at *
 generalize knV v = K at *
 cases h : isV v with
 | false =>
  rw [h] at Hi;have Hk := hide (hk0.out h);clear hk hk0 h
  go_enter Tryz.func25, Tryz.ntmps25
  go_wp2_with fail
  refine (Hc.out).mono ?_;rintro x w1 ⟨rfl, hb1⟩;have Hb1 := hide (hb1.alloc hb1.size (.cells #[.int .i64 (n0 : Int), .int .i64 (n1 : Int), .int .i64 (n2 : Int), .int .i64 (n3 : Int)] 76));clear hb1 Hc
  go_wp2_with fail
  refine (Hi.out _).mono ?_;rintro x w2 ⟨rfl, rfl⟩
  go_wp2
  go_returns
  exact ⟨ret_bool Hk.out.symm, Hb1.out⟩
 | true =>
  rw [h] at Hi;have Hk := hide (hk.out h);clear hk hk0 h
  go_enter Tryz.func25, Tryz.ntmps25
  go_wp2_with fail
  refine (Hc.out).mono ?_;rintro x w1 ⟨rfl, hb1⟩;have Hb1 := hide (hb1.alloc hb1.size (.cells #[.int .i64 (n0 : Int), .int .i64 (n1 : Int), .int .i64 (n2 : Int), .int .i64 (n3 : Int)] 76));clear hb1 Hc
  go_wp2_with fail
  refine (Hi.out _).mono ?_;rintro x w2 ⟨rfl, rfl⟩
  go_wp2
  go_returns
  exact ⟨by first | (rw [Hk.out]; rfl) | (rw [Hk.out]; congr 2; rw [Bool.eq_iff_iff]; simp), Hb1.out⟩
theorem aknown_any (v : List UInt8) (hv : v.length ≤ 1099511627776) (w : World) :
  Calls Tryz.prog 25 #[.string (bs v)] w fun x w' => x = .returned (.bool (knV v)) ∧ Below w.heap.size w w' :=
 aknown_big v (by omega) w
theorem allV_take (c : UInt8) (j : Nat) : bs (List.replicate j c) ++ ⟨#[c]⟩ = bs (List.replicate (j + 1) c) := by
 rw [List.replicate_succ'];exact bs_append _ [c]
theorem aall_any (n : Int) (c : UInt8) (w : World) :
  Calls Tryz.prog 84 #[.int .i64 n, .int .u8 (c.toNat : Int)] w fun x w' => x = .returned (.string (bs (allV n c))) ∧ Below w.heap.size w w' := by
 have Hv := hide (fun W => aval_any c W);have he : bs ([] : List UInt8) = ⟨#[]⟩ := rfl
 have hal : allV n c = if n < 1 ∨ 128 < n ∨ isC c = false then [] else List.replicate n.toNat c := rfl
 by_cases h1 : n < 1
 ·rw [if_pos (.inl h1)] at hal
  rw [hal, he]
  generalize (c.toNat : Int) = C at *
  clear hal he
  go_enter Tryz.func84, Tryz.ntmps84
  go_wp2_with fail
  go_returns
  exact ⟨rfl, Below.refl _ _⟩
 ·by_cases h2 : 128 < n
  ·rw [if_pos (.inr (.inl h2))] at hal
   rw [hal, he]
   generalize (c.toNat : Int) = C at *
   clear hal he
   go_enter Tryz.func84, Tryz.ntmps84
   go_wp2_with fail
   go_returns
   exact ⟨rfl, Below.refl _ _⟩
  ·cases h3 : isC c with
   | false =>
    rw [if_pos (.inr (.inr h3))] at hal;rw [hal, he];rw [h3] at Hv
    generalize (c.toNat : Int) = C at *
    clear hal he h3
    go_enter Tryz.func84, Tryz.ntmps84
    go_wp2_with fail
    refine (Hv.out _).mono ?_;rintro x w1 ⟨rfl, rfl⟩
    go_wp2
    go_returns
    exact ⟨rfl, Below.refl _ _⟩
   | true =>
    rw [if_neg (by rw [h3]; simp; omega)] at hal;rw [h3] at Hv;obtain ⟨m, rfl⟩ : ∃ m : Nat, n = m := ⟨n.toNat, by omega⟩;rw [Int.toNat_natCast] at hal;rw [hal];have Hst := hide (fun j => allV_take c j);have Hsz := hide (fun j => by rw [bs_size, List.length_replicate] : ∀ j, (bs (List.replicate j c)).size = j);have Hz : Hid (bs (List.replicate 0 c) = ⟨#[]⟩) := hide rfl;obtain ⟨R, hR⟩ : ∃ R : Nat → ByteArray, (fun j => bs (List.replicate j c)) = R := ⟨_, rfl⟩
    have hRj : ∀ j, bs (List.replicate j c) = R j := fun j => congrFun hR j
    simp only [hRj] at Hst Hsz Hz;rw [hRj];have hc256 := UInt8.toNat_lt c
    have e1 : UInt8.ofNat (c.toNat : Int).toNat = c := by simp
    have hcv := fun W => conv_one (P := Tryz.prog) 42 9 5 Tryz.underlying42 Tryz.underlying5 Tryz.underlying9 W (c.toNat : Int)
    rw [e1] at hcv;have hz1 : (⟨#[c]⟩ : ByteArray).size = 1 := rfl;obtain ⟨Z, hZ⟩ : ∃ Z : ByteArray, (⟨#[c]⟩ : ByteArray) = Z := ⟨_, rfl⟩;rw [hZ] at Hst hcv hz1
    generalize (c.toNat : Int) = C at *
    clear hal he h3 hR hRj e1 hZ hc256
    have hm : m ≤ 128 := by omega
    have hm1 : 1 ≤ m := by omega
    go_enter Tryz.func84, Tryz.ntmps84
    go_wp2_with fail
    refine (Hv.out _).mono ?_;rintro x w1 ⟨rfl, rfl⟩
    go_wp2
    go_loopw [5] (fun s5 wr => ∃ j : Nat, j ≤ m ∧ s5 = .string (R j) ∧ Hid (Below w.heap.size w wr)) (fun s5 _ => match s5 with
     | .string s => m - s.size
     | _ => 0)
    case atStart => exact ⟨0, Nat.zero_le _, by rw [Hz.out], hide (Below.refl _ _)⟩
    case round =>
     obtain ⟨j, hj, rfl, hb⟩ := hrel;have hs := Hsz.out j
     by_cases hlt : j < m
     ·have hs1 : ((R j).size : Int) < (m : Int) := by omega
      have hs2 : (R j).size ≤ 128 := by omega
      have hst := Hst.out j;have hbb := hide (hb.out.alloc hb.out.size (.cells #[.int .u8 C] 5));have hcw := hcv wr;have Hs2 := Hsz.out (j + 1)
      have hms : m - (R (j + 1)).size < m - (R j).size := by omega
      have Hms := hide hms;clear hcv hb hs hms Hs2
      go_wp2
      refine ⟨⟨j + 1, hlt, rfl, hbb⟩, ?_⟩;exact Hms.out
     ·have hjm : j = m := by omega
      subst hjm
      have hs1 : ¬ ((R j).size : Int) < (j : Int) := by omega
      clear hcv
      go_wp2
      go_returns
      exact ⟨rfl, hb.out⟩
theorem bs_consA (l : List UInt8) (c : UInt8) : (⟨#[c]⟩ : ByteArray) ++ bs l = bs (c :: l) := bs_append [c] l
theorem u8_back (c : UInt8) : UInt8.ofNat (c.toNat : Int).toNat = c := by simp
theorem ext_syn {n : Int} {v : List UInt8} (h1 : ¬ n < 1) (h2 : ¬ 128 < n) {c : UInt8} (hc : c ∈ v) (h4 : ¬ cd c < 4) : ext n v = ([], 3) := by
 unfold ext;rw [if_neg (by omega)]
 match v, hc with
 | d :: t, hc =>
  simp only;rw [if_pos]
  cases ha : (d :: t).all isC with
  | false => rfl
  | true =>
   rw [List.all_eq_true] at ha;have := ha c hc;unfold isC at this;exact absurd (by simpa using this) h4
theorem ext_all {n : Int} {v : List UInt8} (h1 : ¬ n < 1) (h2 : ¬ 128 < n) (hal : ∀ c ∈ v, cd c < 4) : ext n v = if v = [] then ([], 3) else if n < (v.length : Int) then ([], 8) else (List.replicate (n.toNat - v.length) (fr (v.headD 0)) ++ v, 0) := by
 unfold ext;rw [if_neg (by omega)]
 match v, hal with
 | [], _ => rfl
 | d :: t, hal =>
  simp only
  have ha : (d :: t).all isC = true := by
   rw [List.all_eq_true];intro x hx;unfold isC;rw [decide_eq_true_iff];exact hal x hx
  rw [ha, if_neg (by simp), if_neg (List.cons_ne_nil d t)];rfl
theorem afront_any (c : UInt8) (t : List UInt8) (w : World) : Calls Tryz.prog 123 #[.string (bs (c :: t))] w fun x w' => x = .returned (.int .u8 ((fr c).toNat : Int)) ∧ w = w' := by
 have hpos : 0 < (bs (c :: t)).size := by rw [bs_size]; simp
 have hget : ∀ h : 0 < (bs (c :: t)).size, ((bs (c :: t))[0]'h).toNat = c.toNat := fun h => by rw [bs_get _ 0 (by simp)]; rfl
 have hposI : (0 : Int) < ((bs (c :: t)).size : Int) := by omega
 have hq := u8_eqb c 49;rw [u49] at hq
 by_cases h : c = 49
 ·have hf : ((fr c).toNat : Int) = 48 := by unfold fr; rw [if_pos h]; rfl
  rw [decide_eq_true h] at hq;rw [hf]
  generalize bs (c :: t) = S at *
  generalize c.toNat = C at *
  clear h hf
  go_enter Tryz.func123, Tryz.ntmps123
  go_wp2
  go_returns
  exact ⟨rfl, rfl⟩
 ·have hf : ((fr c).toNat : Int) = (c.toNat : Int) := by unfold fr; rw [if_neg h]
  rw [decide_eq_false h] at hq;rw [hf]
  generalize bs (c :: t) = S at *
  generalize c.toNat = C at *
  clear h hf
  go_enter Tryz.func123, Tryz.ntmps123
  go_wp2
  go_returns
  exact ⟨rfl, rfl⟩
theorem nosumC {a b : Nat} (h : a + b ≤ 9000000) : (9223372036854775807 < a + b) = False := by
 rw [eq_iff_iff, iff_false]; omega
theorem fr_isC {c : UInt8} (h : cd c < 4) : isC (fr c) = true := by unfold isC; exact decide_eq_true (fr_cd h)
theorem aext_any (n : Int) (v : List UInt8) (hv : v.length ≤ 1099511627776) (w : World) :
  Calls Tryz.prog 81 #[.int .i64 n, .string (bs v)] w fun x w' => x = .returned (.tuple #[.string (bs (ext n v).1), .int .i64 ((ext n v).2 : Int)]) ∧ Below w.heap.size w w' := by
 have he : bs ([] : List UInt8) = ⟨#[]⟩ := rfl
 by_cases h1 : n < 1
 ·have hx : ext n v = ([], 1) := by unfold ext; rw [if_pos (.inl h1)]
  rw [hx];simp only [he];clear hx he
  generalize bs v = S at *
  go_enter Tryz.func81, Tryz.ntmps81
  go_wp2_with fail
  go_returns
  exact ⟨rfl, Below.refl _ _⟩
 by_cases h2 : 128 < n
 ·have hx : ext n v = ([], 1) := by unfold ext; rw [if_pos (.inr h2)]
  rw [hx];simp only [he];clear hx he
  generalize bs v = S at *
  go_enter Tryz.func81, Tryz.ntmps81
  go_wp2_with fail
  go_returns
  exact ⟨rfl, Below.refl _ _⟩
 have hsz : (bs v).size = v.length := bs_size v;have Hsyn := hide (fun (c : UInt8) (hc : c ∈ v) (h4 : ¬ cd c < 4) => ext_syn h1 h2 hc h4);have Hall := hide (fun (hal : ∀ c ∈ v, cd c < 4) => ext_all h1 h2 hal);have Hget : Hid (∀ (i : Nat) (h : i < v.length) (h2 : i < (bs v).size), (bs v)[i]'h2 = v[i]'h) := hide (fun i h h2 => bs_get v i h h2);have Hva := hide (fun c W => aval_any c W);have HAl := hide (fun k c W => aall_any k c W);obtain ⟨m, rfl⟩ : ∃ m : Nat, n = m := ⟨n.toNat, by omega⟩;obtain ⟨R, hR⟩ : ∃ R, ext (m : Int) v = R := ⟨_, rfl⟩;have HR := hide hR;rw [hR];obtain ⟨N, hn⟩ : ∃ n, v.length = n := ⟨_, rfl⟩;have Hn := hide hn;rw [hn] at hsz hv;have Hsz := hide hsz;clear hR hn
 go_enter Tryz.func81, Tryz.ntmps81
 go_wp2
 go_loopw [6] (fun s3 wr => ∃ i : Nat, i ≤ N ∧ s3 = .int .i64 (i : Int) ∧ Hid (∀ c ∈ v.take i, cd c < 4) ∧ wr = w) (fun s3 _ => (N - intOf s3).toNat)
 case atStart => exact ⟨0, Nat.zero_le _, rfl, hide (fun c hc => by simp at hc), rfl⟩
 case round =>
  obtain ⟨i, hi, rfl, hal, rfl⟩ := hrel
  by_cases hlt : i < N
  ·have hil : i < v.length := by rw [Hn.out]; exact hlt
   have hiS : i < (bs v).size := by rw [Hsz.out]; exact hlt
   have htk : v.take (i + 1) = v.take i ++ [v[i]'hil] := List.take_succ_eq_append_getElem hil;have hmem : v[i]'hil ∈ v := List.getElem_mem _;obtain ⟨c, hc⟩ : ∃ c, v[i]'hil = c := ⟨_, rfl⟩;rw [hc] at htk hmem
   have hget : ∀ h : i < (bs v).size, ((bs v)[i]'h).toNat = c.toNat := fun h => by rw [Hget.out i hil h, hc]
   have hlti : (i : Int) < ((bs v).size : Int) := by omega
   have hlti0 : (0 : Int) ≤ (i : Int) := by omega
   have Hc := hide (Hva.out c wr)
   cases h4 : isC c with
   | true =>
    have h5 : cd c < 4 := by unfold isC at h4; simpa using h4
    have hnx : Hid (∀ c ∈ v.take (i + 1), cd c < 4) := hide (fun x hx => by
     rw [htk] at hx
     rcases List.mem_append.1 hx with hx | hx
     ·exact hal.out x hx
     ·rw [List.mem_singleton.1 hx]; exact h5)
    rw [h4] at Hc;clear hil htk hc hmem hal h4 h5 hsz he
    generalize bs v = S at *
    go_wp2_with fail
    refine (Hc.out).mono ?_;rintro x w1 ⟨rfl, rfl⟩
    go_wp2
    refine ⟨⟨i + 1, hlt, by go_num, hnx, by first | rfl | trivial⟩, ?_⟩
    simp [intOf] <;> omega
   | false =>
    have hno : Hid (R = ([], 3)) := hide (by
     rw [← HR.out];refine Hsyn.out c hmem ?_;unfold isC at h4
     simpa using h4)
    rw [h4] at Hc;clear hil htk hc hmem hal h4 hsz he
    generalize bs v = S at *
    go_wp2_with fail
    refine (Hc.out).mono ?_;rintro x w1 ⟨rfl, rfl⟩
    go_wp2
    go_returns
    exact ⟨by rw [hno.out]; rfl, Below.refl _ _⟩
  ·have hin : i = N := by omega
   subst hin;have htk : v.take i = v := List.take_of_length_le (by rw [Hn.out]; exact Nat.le_refl _);have hal2 := hal.out;rw [htk] at hal2;have hfin := Hall.out hal2;rw [HR.out] at hfin
   have hend : ¬ (i : Int) < ((bs v).size : Int) := by rw [Hsz.out]; omega
   have hvl := Hn.out;clear hal htk Hsyn Hall HR
   by_cases hv0 : v = []
   ·rw [if_pos hv0] at hfin
    have Hf := hide hfin
    have hz : ((bs v).size : Int) = 0 := by rw [bs_size, hv0]; rfl
    have hzb : (((bs v).size : Int) == 0) = true := by rw [hz]; rfl
    clear he hfin hv0 hal2 hvl hsz hz
    generalize bs v = S at *
    go_wp2
    go_returns
    exact ⟨by rw [Hf.out]; rfl, Below.refl _ _⟩
   ·rw [if_neg hv0] at hfin
    have hp : 0 < v.length := List.length_pos_iff.2 hv0
    have hzb : (((bs v).size : Int) == 0) = false := by rw [beq_eq_false_iff_ne, bs_size]; omega
    by_cases hw : (m : Int) < (v.length : Int)
    ·rw [if_pos hw] at hfin
     have Hf := hide hfin
     have hw2 : (m : Int) < ((bs v).size : Int) := by rw [bs_size]; exact hw
     clear he hfin hv0 hal2 hvl hsz hp hw
     generalize bs v = S at *
     go_wp2
     go_returns
     exact ⟨by rw [Hf.out]; rfl, Below.refl _ _⟩
    ·rw [if_neg hw] at hfin
     have hw2 : ¬ (m : Int) < ((bs v).size : Int) := by rw [bs_size]; exact hw
     by_cases hq : (v.length : Int) = (m : Int)
     ·have hq2 : (((bs v).size : Int) == (m : Int)) = true := by rw [bs_size, hq]; simp
      rw [show (m : Int).toNat - v.length = 0 by omega] at hfin;have Hf := hide (show bs R.1 = bs v ∧ R.2 = 0 by rw [hfin]; exact ⟨rfl, rfl⟩);clear he hfin hv0 hal2 hvl hsz hp hw hq
      generalize bs v = S at *
      go_wp2
      go_returns
      exact ⟨by rw [Hf.out.1, Hf.out.2]; rfl, Below.refl _ _⟩
     ·have hq2 : (((bs v).size : Int) == (m : Int)) = false := by rw [beq_eq_false_iff_ne, bs_size]; exact hq
      match v, hv0, hal2, hfin, hvl, hp, hw, hq, hw2, hq2, hzb, hend, hsz, Hsz with
      | c :: t, _, hal2, hfin, hvl, hp, hw, hq, hw2, hq2, hzb, hend, hsz, Hsz =>
       have K1 := hide (fun W => afront_any c t W)
       have hd : (m : Int) - ((bs (c :: t)).size : Int) = ((m - (c :: t).length : Nat) : Int) := by rw [bs_size]; omega
       obtain ⟨d, hdd⟩ : ∃ d, m - (c :: t).length = d := ⟨_, rfl⟩;have K2 := hide (fun W => HAl.out (d : Int) (fr c) W)
       have hav : allV (d : Int) (fr c) = List.replicate d (fr c) := by
        unfold allV;rw [if_neg (by rw [fr_isC (hal2 c List.mem_cons_self)]; simp; omega)];rfl
       rw [hav] at K2;rw [hdd] at hd
       have hm128 : m ≤ 128 := by omega
       have hd128 : d ≤ 128 := by omega
       have happ : bs (List.replicate d (fr c)) ++ bs (c :: t) = bs (List.replicate d (fr c) ++ (c :: t)) := bs_append _ _;have hsum := nosumC (a := (bs (List.replicate d (fr c))).size) (b := (bs (c :: t)).size) (by rw [bs_size, List.length_replicate, bs_size]; omega);simp only [List.headD_cons, Int.toNat_natCast] at hfin;rw [hdd] at hfin;have Hf := hide (show bs R.1 = bs (List.replicate d (fr c)) ++ bs (c :: t) ∧ R.2 = 0 by rw [hfin]; exact ⟨happ.symm, rfl⟩);clear he hfin hal2 hvl hsz hp hw hq hav happ hdd Hget HAl
       generalize bs (List.replicate d (fr c)) = SR at *
       generalize fr c = F at *
       generalize bs (c :: t) = S at *
       go_wp2_with fail
       refine (K1.out _).mono ?_;rintro x w1 ⟨rfl, rfl⟩;clear K1
       go_wp2_with fail
       refine (K2.out _).mono ?_;rintro x w2 ⟨rfl, hb2⟩;clear K2
       go_wp2
       go_returns
       exact ⟨by rw [Hf.out.1, Hf.out.2]; rfl, hb2⟩
theorem ashort_any (v : List UInt8) (hv : v.length ≤ 1099511627776) (w : World) :
  Calls Tryz.prog 75 #[.string (bs v)] w fun x w' => x = .returned (.string (bs (shr v))) ∧ Below w.heap.size w w' := by
 have Hi := hide (aisv_any v hv w);have he : bs ([] : List UInt8) = ⟨#[]⟩ := rfl
 cases h : isV v with
 | false =>
  rw [h] at Hi
  have hs : shr v = [] := by unfold shr; rw [h, if_neg (by simp)]
  rw [hs, he];clear he h hs
  generalize bs v = S at *
  go_enter Tryz.func75, Tryz.ntmps75
  go_wp2_with fail
  refine (Hi.out).mono ?_;rintro x w1 ⟨rfl, rfl⟩
  go_wp2
  go_returns
  exact ⟨rfl, Below.refl _ _⟩
 | true =>
  rw [h] at Hi;obtain ⟨h1, h2, h3⟩ := isV_iff.1 h;have hp : 0 < v.length := List.length_pos_iff.2 h2;have hsz : (bs v).size = v.length := bs_size v;have Hfind := hide (fun (n : Nat) (a1 : 1 ≤ n) (a2 : n ≤ v.length) (a3 : (ext (v.length : Int) (v.drop (v.length - n))).1 = v) a4 => shr_find h a1 a2 (Prod.ext a3 (ext_good (by rw [a3]; exact h2))) a4);have Hself := hide (ext_self h);have Hex := hide (fun (n : Nat) W => aext_any (v.length : Int) (v.drop (v.length - n)) (by rw [List.length_drop]; omega) W);have Hdr := hide (fun z => by have := ext_drop (bs v) z; rw [toL_bs] at this; exact this : ∀ z, (bs v).extract z (bs v).size = bs (v.drop z));obtain ⟨N, hn⟩ : ∃ n, v.length = n := ⟨_, rfl⟩;have Hn := hide hn;rw [hn] at hsz h3 hp Hfind Hself Hex;have Hsz := hide hsz;obtain ⟨R, hR⟩ : ∃ R, shr v = R := ⟨_, rfl⟩;rw [hR] at Hfind ⊢;clear he h h1 h2 hn hR
  go_enter Tryz.func75, Tryz.ntmps75
  go_wp2_with fail
  refine (Hi.out).mono ?_;rintro x w1 ⟨rfl, rfl⟩;clear Hi
  go_wp2
  go_loopw [3] (fun s3 wr => ∃ n : Nat, 1 ≤ n ∧ n ≤ N ∧ s3 = .int .i64 (n : Int) ∧ Hid (∀ m, 1 ≤ m → m < n → (ext (N : Int) (v.drop (N - m))).1 ≠ v) ∧ Hid (Below w.heap.size w wr)) (fun s3 _ => (N - intOf s3).toNat)
  case atStart => exact ⟨1, Nat.le_refl _, hp, rfl, hide (fun m a b => by omega), hide (Below.refl _ _)⟩
  case round =>
   obtain ⟨n, hn1, hnN, rfl, hno, hb⟩ := hrel
   by_cases hlt : n < N
   ·have hsub : (N : Int) - (n : Int) = ((N - n : Nat) : Int) := by omega
    have hex := Hdr.out (N - n);have K := hide (Hex.out n);have hfnd := Hfind.out n hn1 hnN;obtain ⟨z, hz⟩ : ∃ z, N - n = z := ⟨_, rfl⟩;have hnoo := hno.out;rw [hz] at hsub hex K hfnd;obtain ⟨⟨E, e⟩, hE⟩ : ∃ q, ext (N : Int) (v.drop z) = q := ⟨_, rfl⟩;rw [hE] at K hfnd;simp only at K hfnd;have hcm := str_eq (a := bs E) (b := bs v);have hEv : (bs E = bs v) ↔ E = v := ⟨fun h => by have := congrArg toL h; rwa [toL_bs, toL_bs] at this, fun h => by rw [h]⟩
    have hlt2 : (n : Int) < ((bs v).size : Int) := by rw [Hsz.out]; omega
    have hzz : z ≤ (bs v).size := by rw [Hsz.out]; omega
    have hzi : (z : Int) ≤ ((bs v).size : Int) := by omega
    have hsN : ((bs v).size : Int) = (N : Int) := by rw [Hsz.out]
    by_cases hEq : E = v
    ·rw [decide_eq_true (hEv.2 hEq)] at hcm
     have hfin := hfnd hEq hno.out;have Hfin := hide (show bs R = bs (v.drop z) by rw [hfin])
     generalize bs (v.drop z) = SD at *
     generalize bs v = S at *
     generalize bs E = SE at *
     clear hEv hEq hfin hfnd hE hz hno hnoo Hfind Hself Hex Hdr hsz
     go_wp2_with fail
     refine (K.out _).mono ?_;rintro x w2 ⟨rfl, hb2⟩;have Hb2 := hide (hb.out.trans (hb2.mono hb.out.size));clear hb2 hb K
     go_wp2
     go_returns
     exact ⟨ret_str Hfin.out.symm, Hb2.out⟩
    ·rw [decide_eq_false (fun h => hEq (hEv.1 h))] at hcm
     have Hno2 := hide (show ∀ m, 1 ≤ m → m < n + 1 → (ext (N : Int) (v.drop (N - m))).1 ≠ v from fun m a1 a2 => by
      by_cases hm : m = n
      ·rw [hm, hz, hE]; exact hEq
      ·exact hnoo m a1 (by omega))
     generalize bs (v.drop z) = SD at *
     generalize bs v = S at *
     generalize bs E = SE at *
     clear hEv hEq hfnd hE hz hno hnoo Hfind Hself Hex Hdr hsz
     go_wp2_with fail
     refine (K.out _).mono ?_;rintro x w2 ⟨rfl, hb2⟩;have Hb2 := hide (hb.out.trans (hb2.mono hb.out.size));clear hb2 hb K
     go_wp2
     refine ⟨⟨n + 1, by omega, by omega, by go_num, Hno2, Hb2⟩, ?_⟩
     simp [intOf] <;> omega
   ·have hnN2 : n = N := by omega
    have hfin := Hfind.out n hn1 hnN (by rw [hnN2, Nat.sub_self, List.drop_zero, Hself.out]) hno.out
    have hend : ¬ (n : Int) < ((bs v).size : Int) := by rw [Hsz.out]; omega
    have Hfin := hide (show bs R = bs v by rw [hfin, hnN2, Nat.sub_self, List.drop_zero]);clear hfin Hfind Hself Hex Hdr hno hsz hnN2
    generalize bs v = S at *
    go_wp2
    go_returns
    exact ⟨ret_str Hfin.out.symm, hb.out⟩
theorem ainverse_any (v : List UInt8) (hv : v.length ≤ 1099511627776) (h : isV v = true) (w : World) :
  Calls Tryz.prog 97 #[.string (bs v)] w fun x w' => x = .returned (.string (bs (inv v))) ∧ Below w.heap.size w w' := by
 have Hi := hide (aisv_any v hv w);rw [h] at Hi;obtain ⟨h1, h2, h3⟩ := isV_iff.1 h;have hsz : (bs v).size = v.length := bs_size v;have Hget : Hid (∀ (i : Nat) (h : i < v.length) (h2 : i < (bs v).size), (bs v)[i]'h2 = v[i]'h) := hide (fun i h h2 => bs_get v i h h2);have Hinv := hide (fun c W => ainv_any c W);have Hst := hide (fun i (hi : i < v.length) => by rw [List.take_succ_eq_append_getElem hi, List.map_append, ← bs_append]; rfl : ∀ i (hi : i < v.length), bs ((v.take (i + 1)).map invR) = bs ((v.take i).map invR) ++ ⟨#[invR v[i]]⟩);have Hln := hide (fun i => by rw [bs_size, List.length_map]; exact List.length_take_le' _ _ : ∀ i, (bs ((v.take i).map invR)).size ≤ v.length);have Hz : Hid (bs ((v.take 0).map invR) = ⟨#[]⟩) := hide rfl;rw [inv_ref h];have Hall : Hid (bs ((v.take v.length).map invR) = bs (v.map invR)) := hide (by rw [List.take_length]);obtain ⟨N, hn⟩ : ∃ n, v.length = n := ⟨_, rfl⟩;have Hn := hide hn;rw [hn] at hsz h3 Hln Hall;have Hsz := hide hsz;obtain ⟨OT, hOT⟩ : ∃ f : Nat → ByteArray, (fun i => bs ((v.take i).map invR)) = f := ⟨_, rfl⟩
 have hOi : ∀ i, bs ((v.take i).map invR) = OT i := fun i => congrFun hOT i
 simp only [hOi] at Hst Hln Hz Hall
 generalize bs (v.map invR) = SR at *
 have hcv := fun W (c : UInt8) => conv_one (P := Tryz.prog) 42 9 5 Tryz.underlying42 Tryz.underlying5 Tryz.underlying9 W (c.toNat : Int)
 simp only [u8_back] at hcv;have Hcv := hide hcv;obtain ⟨S, hS⟩ : ∃ S, bs v = S := ⟨_, rfl⟩;rw [hS] at hsz Hget Hsz Hi ⊢;clear h h1 h2 hn hOT hOi hcv hS hsz
 go_enter Tryz.func97, Tryz.ntmps97
 go_wp2_with fail
 refine (Hi.out).mono ?_;rintro x w1 ⟨rfl, rfl⟩;clear Hi
 go_wp2
 go_loopw [3, 4] (fun s3 s4 wr => ∃ i : Nat, i ≤ N ∧ s4 = .int .i64 (i : Int) ∧ s3 = .string (OT i) ∧ Hid (Below w.heap.size w wr)) (fun _ s4 _ => (N - intOf s4).toNat)
 case atStart => exact ⟨0, Nat.zero_le _, rfl, by rw [Hz.out], hide (Below.refl _ _)⟩
 case round =>
  obtain ⟨i, hi, rfl, rfl, hb⟩ := hrel
  by_cases hlt : i < N
  ·have hil : i < v.length := by rw [Hn.out]; exact hlt
   have hiS : i < S.size := by rw [Hsz.out]; exact hlt
   have hg0 := Hget.out i hil;have hst := Hst.out i hil;have hln := Hln.out i;obtain ⟨c, hc⟩ : ∃ c, v[i] = c := ⟨_, rfl⟩;rw [hc] at hg0 hst
   have hget : ∀ h : i < S.size, (S[i]'h).toNat = c.toNat := fun h => by rw [hg0 h]
   have hlti : (i : Int) < (S.size : Int) := by omega
   have hlti0 : (0 : Int) ≤ (i : Int) := by omega
   have Hc := hide (Hinv.out c wr);have hcw := Hcv.out wr (invR c);have Hst1 := hide hst;have Hbb := hide (hb.out.alloc hb.out.size (.cells #[.int .u8 ((invR c).toNat : Int)] 5));have hz1 : (⟨#[invR c]⟩ : ByteArray).size = 1 := rfl
   generalize (⟨#[invR c]⟩ : ByteArray) = Z at *
   generalize ((invR c).toNat : Int) = C at *
   clear hil hg0 hst hc Hst Hln Hget hb
   go_wp2_with fail
   refine (Hc.out).mono ?_;rintro x w1 ⟨rfl, rfl⟩
   go_wp2
   refine ⟨⟨i + 1, hlt, by go_num, by rw [Hst1.out], Hbb⟩, ?_⟩
   simp [intOf] <;> omega
  ·have hin : i = N := by omega
   have hend : ¬ (i : Int) < (S.size : Int) := by rw [Hsz.out]; omega
   have Hfin := hide (show OT i = SR by rw [hin]; exact Hall.out);clear hin Hst Hln Hget
   go_wp2
   go_returns
   exact ⟨ret_str Hfin.out, hb.out⟩
theorem asum_any (a b : List UInt8) (c : Nat) (hc : c ≤ 1) (ha : knV a = true) (hb : knV b = true) (hl : a.length = b.length) (w : World) :
  Calls Tryz.prog 96 #[.string (bs a), .string (bs b), .int .i64 (c : Int)] w fun x w' => x = .returned (.string (bs (sm a b c).1)) ∧ Below w.heap.size w w' := by
 obtain ⟨a1, a2, a3⟩ := knV_iff.1 ha;obtain ⟨b1, b2, b3⟩ := knV_iff.1 hb;have hsa : (bs a).size = a.length := bs_size a;have hsb : (bs b).size = b.length := bs_size b;have Hga : Hid (∀ (i : Nat) (h : i < a.length) (h2 : i < (bs a).size), (bs a)[i]'h2 = a[i]'h) := hide (fun i h h2 => bs_get a i h h2);have Hgb : Hid (∀ (i : Nat) (h : i < b.length) (h2 : i < (bs b).size), (bs b)[i]'h2 = b[i]'h) := hide (fun i h h2 => bs_get b i h h2);obtain ⟨n, hn⟩ : ∃ n, a.length = n := ⟨_, rfl⟩
 have hnb : b.length = n := by omega
 rw [hn] at hsa a3;rw [hnb] at hsb;have e0 : a.drop n = [] := List.drop_eq_nil_of_le (by omega);have Hstart := hide (show sm (a.drop n) (b.drop n) c = ([], c) by rw [e0]; rfl);have Hcar := hide (fun k => sm_carry c hc (a.drop k) (b.drop k) (fun x hx => a1 x (List.mem_of_mem_drop hx)) (fun x hx => b1 x (List.mem_of_mem_drop hx)));have Hsm := hide (fun k (h1 : k < a.length) (h2 : k < b.length) => sm_step c h1 h2);have Hlen := hide (fun k => sm_len (a.drop k) (b.drop k) c (by rw [List.length_drop, List.length_drop, hl]));have Hdl := hide (fun k => List.length_drop (i := k) (l := a));have Ha1 := hide a1;have Hb1 := hide b1;have Hn := hide hn;have Hnb := hide hnb;have H0 := hide (show sm (a.drop 0) (b.drop 0) c = sm a b c from rfl);obtain ⟨SA, hSA⟩ : ∃ s, bs a = s := ⟨_, rfl⟩;obtain ⟨SB, hSB⟩ : ∃ s, bs b = s := ⟨_, rfl⟩;rw [hSA] at hsa Hga ⊢;rw [hSB] at hsb Hgb ⊢;have Hsa := hide hsa;have Hsb := hide hsb;obtain ⟨SM, hSM⟩ : ∃ f, (fun k => sm (a.drop k) (b.drop k) c) = f := ⟨_, rfl⟩
 have hS : ∀ k, sm (a.drop k) (b.drop k) c = SM k := fun k => congrFun hSM k
 simp only [hS] at Hstart Hcar Hsm Hlen H0;have hfin : Hid (bs (sm a b c).1 = bs (SM 0).1) := hide (by rw [← H0.out])
 generalize bs (sm a b c).1 = RS at *
 have hcv := fun W (x : Int) => conv_one (P := Tryz.prog) 42 9 5 Tryz.underlying42 Tryz.underlying5 Tryz.underlying9 W x
 obtain ⟨Z0, hZ0⟩ : ∃ z : ByteArray, (⟨#[48]⟩ : ByteArray) = z := ⟨_, rfl⟩;obtain ⟨Z1, hZ1⟩ : ∃ z : ByteArray, (⟨#[49]⟩ : ByteArray) = z := ⟨_, rfl⟩;have HZ0 := hide hZ0;have HZ1 := hide hZ1;have Hcv0 : Hid (∀ (W : World) (q : Nat), (convert 42 9 (.slice (some ⟨W.heap.size, 0, none⟩) 1 1)).run Tryz.prog ((W.drewN q).alloc (.cells #[.int .u8 48] 5)) = .ok (.string Z0) ((W.drewN q).alloc (.cells #[.int .u8 48] 5))) := hide (fun W q => by rw [← hZ0]; exact hcv (W.drewN q) 48);have Hcv1 : Hid (∀ (W : World) (q : Nat), (convert 42 9 (.slice (some ⟨W.heap.size, 0, none⟩) 1 1)).run Tryz.prog ((W.drewN q).alloc (.cells #[.int .u8 49] 5)) = .ok (.string Z1) ((W.drewN q).alloc (.cells #[.int .u8 49] 5))) := hide (fun W q => by rw [← hZ1]; exact hcv (W.drewN q) 49);clear hZ0 hZ1 a1 b1 hn hnb hSA hSB hsa hsb ha hb hl a2 b2 b3 e0 hSM hS hcv H0
 have hA128 : SA.size ≤ 128 := by rw [Hsa.out]; exact a3
 go_enter Tryz.func96, Tryz.ntmps96
 go_wp2
 go_loopw [2, 7, 8] (fun s2 s7 s8 wr => ∃ k : Nat, k ≤ n ∧ s8 = .int .i64 ((k : Int) - 1) ∧ s2 = .int .i64 ((SM k).2 : Int) ∧ s7 = .string (bs (SM k).1) ∧ Hid (Below w.heap.size w wr)) (fun _ _ s8 _ => (intOf s8 + 1).toNat)
 case atStart => exact ⟨n, Nat.le_refl _, by rw [Hsa.out], by rw [Hstart.out], by rw [Hstart.out]; rfl, hide (Below.refl _ _)⟩
 case round =>
  clear Hstart;obtain ⟨k, hk, rfl, rfl, rfl, hb⟩ := hrel
  cases k with
  | succ i =>
   have hia : i < a.length := by rw [Hn.out]; omega
   have hib : i < b.length := by rw [Hnb.out]; omega
   have hiA : i < SA.size := by rw [Hsa.out]; omega
   have hiB : i < SB.size := by rw [Hsb.out]; omega
   have hs := Hsm.out i hia hib;have hca := Hcar.out (i + 1);have hxa := Ha1.out (a[i]'hia) (List.getElem_mem _);have hxb := Hb1.out (b[i]'hib) (List.getElem_mem _);have hga := Hga.out i hia;have hgb := Hgb.out i hib;have hln := Hlen.out (i + 1);rw [Hdl.out] at hln;obtain ⟨x, hx⟩ : ∃ x, a[i]'hia = x := ⟨_, rfl⟩;obtain ⟨y, hy⟩ : ∃ y, b[i]'hib = y := ⟨_, rfl⟩;rw [hx, hy] at hs;rw [hx] at hxa hga;rw [hy] at hxb hgb;obtain ⟨⟨ds, cr⟩, hr⟩ : ∃ r, SM (i + 1) = r := ⟨_, rfl⟩;rw [hr] at hs hca hln ⊢;simp only at hs hca hln ⊢
   have hget1 : ∀ h : i < SA.size, (SA[i]'h).toNat = 48 + cd x := fun h => by rw [hga h, cd2 hxa]
   have hget2 : ∀ h : i < SB.size, (SB[i]'h).toNat = 48 + cd y := fun h => by rw [hgb h, cd2 hxb]
   obtain ⟨p, hp⟩ : ∃ p, cd x = p := ⟨_, rfl⟩;obtain ⟨q, hq⟩ : ∃ q, cd y = q := ⟨_, rfl⟩;rw [hp] at hs hxa hget1;rw [hq] at hs hxb hget2
   have e1 : ((i + 1 : Nat) : Int) - 1 = (i : Int) := by omega
   rw [e1]
   have hi0 : (0 : Int) ≤ (i : Int) := by omega
   have hin : (i : Int) < (SA.size : Int) := by omega
   have hin2 : (i : Int) < (SB.size : Int) := by omega
   obtain ⟨mm, hmm⟩ : ∃ m, p + q + cr = m := ⟨_, rfl⟩;rw [hmm] at hs
   have hzs : (bs ds).size ≤ 128 := by rw [bs_size, hln]; have := Hn.out; omega
   have hcc : bs (UInt8.ofNat (48 + mm % 2) :: ds) = bs (SM i).1 := by rw [hs]
   have hcc0 : mm % 2 = 0 → Z0 ++ bs ds = bs (SM i).1 := fun h => by rw [← hcc, h, ← HZ0.out]; exact bs_consA ds _
   have hcc1 : mm % 2 = 1 → Z1 ++ bs ds = bs (SM i).1 := fun h => by rw [← hcc, h, ← HZ1.out]; exact bs_consA ds _
   have Hcc0 := hide hcc0;have Hcc1 := hide hcc1;have Hcr := hide (show (SM i).2 = mm / 2 by rw [hs])
   have hpq : (p = 0 ∨ p = 1) ∧ (q = 0 ∨ q = 1) ∧ (cr = 0 ∨ cr = 1) := by omega
   obtain ⟨h1, h2, h3⟩ := hpq
   have hz0 : Z0.size = 1 := by rw [← HZ0.out]; rfl
   have hz1 : Z1.size = 1 := by rw [← HZ1.out]; rfl
   have hw0 := Hcv0.out wr;have hw1 := Hcv1.out wr;clear hia hib hs hga hgb hx hy hr hp hq e1 hcc hcc0 hcc1 hln Hsm Hcar Ha1 Hb1 Hga Hgb Hlen hca hxa hxb
   rcases h1 with rfl | rfl <;> rcases h2 with rfl | rfl <;> rcases h3 with rfl | rfl
   all_goals
    subst hmm
    go_wp2
    go_quiet (fail)
    go_wp2
    refine ⟨⟨i, by omega, by go_num, by rw [Hcr.out]; rfl, by first | exact congrArg Value.string (Hcc0.out (of_decide_eq_true rfl)) | exact congrArg Value.string (Hcc1.out (of_decide_eq_true rfl)), hide ((bdN hb.out nq).alloc (bdN hb.out nq).size _)⟩, ?_⟩
    simp [intOf] <;> omega
  | zero =>
   have e1 : ((0 : Nat) : Int) - 1 = -1 := rfl;rw [e1];clear Hsm Hcar Ha1 Hb1 Hga Hgb Hlen
   go_wp2
   go_returns
   exact ⟨ret_str hfin.out.symm, hb.out⟩
theorem aadd_any (a b : List UInt8) (ha : a.length ≤ 1099511627776) (hb : b.length ≤ 1099511627776) (w : World) :
  Calls Tryz.prog 82 #[.string (bs a), .string (bs b)] w fun x w' => x = .returned (.tuple #[.string (bs (addV a b).1), .bool (addV a b).2]) ∧ Below w.heap.size w w' := by
 have Ha := hide (aknown_any a ha w);have Hb := hide (fun W => aknown_any b hb W);have hsa : (bs a).size = a.length := bs_size a;have hsb : (bs b).size = b.length := bs_size b;have he : bs ([] : List UInt8) = ⟨#[]⟩ := rfl;unfold addV
 cases hka : knV a with
 | false =>
  rw [hka] at Ha;rw [if_neg (by simp)];simp only [he];clear hsa hsb he
  generalize bs a = SA at *
  generalize bs b = SB at *
  go_enter Tryz.func82, Tryz.ntmps82
  go_wp2_with fail
  refine (Ha.out).mono ?_;rintro x w1 ⟨rfl, hb1⟩
  go_wp2
  go_returns
  exact ⟨rfl, hb1⟩
 | true =>
  cases hkb : knV b with
  | false =>
   rw [hka] at Ha;rw [hkb] at Hb;rw [if_neg (by simp)];simp only [he];clear hsa hsb he
   generalize bs a = SA at *
   generalize bs b = SB at *
   go_enter Tryz.func82, Tryz.ntmps82
   go_wp2_with fail
   refine (Ha.out).mono ?_;rintro x w1 ⟨rfl, hb1⟩
   go_wp2_with fail
   refine (Hb.out _).mono ?_;rintro x w2 ⟨rfl, hb2⟩;have hbb := hb1.trans (hb2.mono hb1.size)
   go_wp2
   go_returns
   exact ⟨rfl, hbb⟩
  | true =>
   rw [hka] at Ha;rw [hkb] at Hb
   by_cases hl : a.length = b.length
   ·have Hs := hide (fun W => asum_any a b 0 (by omega) hka hkb hl W)
    rw [if_pos ⟨rfl, rfl, hl⟩]
    have hne : (((bs a).size : Int) != ((bs b).size : Int)) = false := by rw [hsa, hsb, hl]; exact bne_self_eq_false _
    have hHs := Hs;simp only
    generalize bs (sm a b 0).1 = SR at *
    clear hsa hsb he hka hkb hl hHs
    generalize bs a = SA at *
    generalize bs b = SB at *
    go_enter Tryz.func82, Tryz.ntmps82
    go_wp2_with fail
    refine (Ha.out).mono ?_;rintro x w1 ⟨rfl, hb1⟩
    go_wp2_with fail
    refine (Hb.out _).mono ?_;rintro x w2 ⟨rfl, hb2⟩;have hbb := hb1.trans (hb2.mono hb1.size);clear hb1 hb2
    go_wp2_with fail
    refine (Hs.out _).mono ?_;rintro x w3 ⟨rfl, hb3⟩;have hbc := hbb.trans (hb3.mono hbb.size);clear hbb hb3
    go_wp2
    go_returns
    exact ⟨rfl, hbc⟩
   ·rw [if_neg (fun h => hl h.2.2)]
    have hne : (((bs a).size : Int) != ((bs b).size : Int)) = true := by rw [hsa, hsb, bne_iff_ne]; omega
    simp only [he];clear hsa hsb he hka hkb hl
    generalize bs a = SA at *
    generalize bs b = SB at *
    go_enter Tryz.func82, Tryz.ntmps82
    go_wp2_with fail
    refine (Ha.out).mono ?_;rintro x w1 ⟨rfl, hb1⟩
    go_wp2_with fail
    refine (Hb.out _).mono ?_;rintro x w2 ⟨rfl, hb2⟩;have hbb := hb1.trans (hb2.mono hb1.size)
    go_wp2
    go_returns
    exact ⟨rfl, hbb⟩
theorem adif_any (a b : List UInt8) (ha : a.length ≤ 1099511627776) (hb : b.length ≤ 1099511627776) (w : World) :
  Calls Tryz.prog 60 #[.string (bs a), .string (bs b)] w fun x w' => x = .returned (.tuple #[.string (bs (difV a b).1), .bool (difV a b).2]) ∧ Below w.heap.size w w' := by
 have Ha := hide (aknown_any a ha w);have Hb := hide (fun W => aknown_any b hb W);have hsa : (bs a).size = a.length := bs_size a;have hsb : (bs b).size = b.length := bs_size b;have he : bs ([] : List UInt8) = ⟨#[]⟩ := rfl;unfold difV
 cases hka : knV a with
 | false =>
  rw [hka] at Ha;rw [if_neg (by simp)];simp only [he];clear hsa hsb he
  generalize bs a = SA at *
  generalize bs b = SB at *
  go_enter Tryz.func60, Tryz.ntmps60
  go_wp2_with fail
  refine (Ha.out).mono ?_;rintro x w1 ⟨rfl, hb1⟩
  go_wp2
  go_returns
  exact ⟨rfl, hb1⟩
 | true =>
  cases hkb : knV b with
  | false =>
   rw [hka] at Ha;rw [hkb] at Hb;rw [if_neg (by simp)];simp only [he];clear hsa hsb he
   generalize bs a = SA at *
   generalize bs b = SB at *
   go_enter Tryz.func60, Tryz.ntmps60
   go_wp2_with fail
   refine (Ha.out).mono ?_;rintro x w1 ⟨rfl, hb1⟩
   go_wp2_with fail
   refine (Hb.out _).mono ?_;rintro x w2 ⟨rfl, hb2⟩;have hbb := hb1.trans (hb2.mono hb1.size)
   go_wp2
   go_returns
   exact ⟨rfl, hbb⟩
  | true =>
   rw [hka] at Ha;rw [hkb] at Hb
   by_cases hl : a.length = b.length
   ·obtain ⟨k1, k2⟩ := inv_known hka
    have Hs := hide (fun W => asum_any b (inv a) 1 (by omega) hkb k1 (by omega) W);have Hi := hide (fun W => ainverse_any a ha (knV_isV hka) W);rw [if_pos ⟨rfl, rfl, hl⟩]
    have hne : (((bs a).size : Int) != ((bs b).size : Int)) = false := by rw [hsa, hsb, hl]; exact bne_self_eq_false _
    simp only
    generalize bs (sm b (inv a) 1).1 = SR at *
    generalize bs (inv a) = SI at *
    clear hsa hsb he hka hkb hl k1 k2
    generalize bs a = SA at *
    generalize bs b = SB at *
    go_enter Tryz.func60, Tryz.ntmps60
    go_wp2_with fail
    refine (Ha.out).mono ?_;rintro x w1 ⟨rfl, hb1⟩
    go_wp2_with fail
    refine (Hb.out _).mono ?_;rintro x w2 ⟨rfl, hb2⟩;have hbb := hb1.trans (hb2.mono hb1.size);clear hb1 hb2
    go_wp2_with fail
    refine (Hi.out _).mono ?_;rintro x w3 ⟨rfl, hb3⟩;have hbc := hbb.trans (hb3.mono hbb.size);clear hbb hb3
    go_wp2_with fail
    refine (Hs.out _).mono ?_;rintro x w4 ⟨rfl, hb4⟩;have hbd := hbc.trans (hb4.mono hbc.size);clear hbc hb4
    go_wp2
    go_returns
    exact ⟨rfl, hbd⟩
   ·rw [if_neg (fun h => hl h.2.2)]
    have hne : (((bs a).size : Int) != ((bs b).size : Int)) = true := by rw [hsa, hsb, bne_iff_ne]; omega
    simp only [he];clear hsa hsb he hka hkb hl
    generalize bs a = SA at *
    generalize bs b = SB at *
    go_enter Tryz.func60, Tryz.ntmps60
    go_wp2_with fail
    refine (Ha.out).mono ?_;rintro x w1 ⟨rfl, hb1⟩
    go_wp2_with fail
    refine (Hb.out _).mono ?_;rintro x w2 ⟨rfl, hb2⟩;have hbb := hb1.trans (hb2.mono hb1.size)
    go_wp2
    go_returns
    exact ⟨rfl, hbb⟩
theorem amix_any (a b : List UInt8) (hal : a.length ≤ 1099511627776) (hbl : b.length ≤ 1099511627776) (w : World) :
  Calls Tryz.prog 48 #[.string (bs a), .string (bs b)] w fun x w' => x = .returned (.tuple #[.string (bs (mixV a b).1), .int .i64 ((mixV a b).2 : Int)]) ∧ Below w.heap.size w w' := by
 have Ha := hide (aisv_any a hal w);have Hb := hide (fun W => aisv_any b hbl W);have hsa : (bs a).size = a.length := bs_size a;have hsb : (bs b).size = b.length := bs_size b;have he : bs ([] : List UInt8) = ⟨#[]⟩ := rfl;unfold mixV
 cases hka : isV a with
 | false =>
  rw [hka] at Ha;rw [if_pos (.inl rfl)];simp only [he];clear hsa hsb he
  generalize bs a = SA at *
  generalize bs b = SB at *
  go_enter Tryz.func48, Tryz.ntmps48
  go_wp2_with fail
  refine (Ha.out).mono ?_;rintro x w1 ⟨rfl, rfl⟩
  go_wp2
  go_returns
  exact ⟨rfl, Below.refl _ _⟩
 | true =>
  cases hkb : isV b with
  | false =>
   rw [hka] at Ha;rw [hkb] at Hb;rw [if_pos (.inr rfl)];simp only [he];clear hsa hsb he
   generalize bs a = SA at *
   generalize bs b = SB at *
   go_enter Tryz.func48, Tryz.ntmps48
   go_wp2_with fail
   refine (Ha.out).mono ?_;rintro x w1 ⟨rfl, rfl⟩
   go_wp2_with fail
   refine (Hb.out _).mono ?_;rintro x w2 ⟨rfl, rfl⟩
   go_wp2
   go_returns
   exact ⟨rfl, Below.refl _ _⟩
  | true =>
   rw [hka] at Ha;rw [hkb] at Hb;rw [if_neg (by simp)]
   by_cases hl : a.length = b.length
   ·rw [if_neg (by simp [hl])]
    simp only
    have hne : (((bs a).size : Int) != ((bs b).size : Int)) = false := by rw [hsa, hsb, hl]; exact bne_self_eq_false _
    obtain ⟨a1, a2, a3⟩ := isV_iff.1 hka;obtain ⟨b1, b2, b3⟩ := isV_iff.1 hkb;have Hga : Hid (∀ (i : Nat) (h : i < a.length) (h2 : i < (bs a).size), (bs a)[i]'h2 = a[i]'h) := hide (fun i h h2 => bs_get a i h h2);have Hgb : Hid (∀ (i : Nat) (h : i < b.length) (h2 : i < (bs b).size), (bs b)[i]'h2 = b[i]'h) := hide (fun i h h2 => bs_get b i h h2);obtain ⟨n, hn⟩ : ∃ n, a.length = n := ⟨_, rfl⟩
    have hnb : b.length = n := by omega
    have hst : ∀ i (h1 : i < a.length) (h2 : i < b.length), bs (List.zipWith mx (a.take (i + 1)) (b.take (i + 1))) = bs (List.zipWith mx (a.take i) (b.take i)) ++ ⟨#[mx (a[i]'h1) (b[i]'h2)]⟩ := fun i h1 h2 => by
     rw [List.take_succ_eq_append_getElem h1, List.take_succ_eq_append_getElem h2, List.zipWith_append (by rw [List.length_take, List.length_take]; omega), ← bs_append];rfl
    have Hst := hide hst
    have hln : ∀ i, (bs (List.zipWith mx (a.take i) (b.take i))).size ≤ 128 := fun i => by rw [bs_size, List.length_zipWith, List.length_take, List.length_take]; omega
    have Hln := hide hln;have Hz : Hid (bs (List.zipWith mx (a.take 0) (b.take 0)) = ⟨#[]⟩) := hide rfl;have Hall : Hid (bs (List.zipWith mx a b) = bs (List.zipWith mx (a.take n) (b.take n))) := hide (by rw [List.take_of_length_le (by omega), List.take_of_length_le (by omega)]);have Ha1 := hide a1;have Hb1 := hide b1
    have hn128 : n ≤ 128 := by omega
    have Hn := hide hn;have Hnb := hide hnb;rw [hn] at hsa;rw [hnb] at hsb;obtain ⟨OT, hOT⟩ : ∃ f : Nat → ByteArray, (fun i => bs (List.zipWith mx (a.take i) (b.take i))) = f := ⟨_, rfl⟩
    have hOi : ∀ i, bs (List.zipWith mx (a.take i) (b.take i)) = OT i := fun i => congrFun hOT i
    simp only [hOi] at Hst Hln Hz Hall
    generalize bs (List.zipWith mx a b) = SR at *
    have hcv := fun W (c : UInt8) => conv_one (P := Tryz.prog) 42 9 5 Tryz.underlying42 Tryz.underlying5 Tryz.underlying9 W (c.toNat : Int)
    simp only [u8_back] at hcv;have Hcv := hide hcv;obtain ⟨SA, hSA⟩ : ∃ s, bs a = s := ⟨_, rfl⟩;obtain ⟨SB, hSB⟩ : ∃ s, bs b = s := ⟨_, rfl⟩;rw [hSA] at hsa hne Hga Ha ⊢;rw [hSB] at hsb hne Hgb Hb ⊢;have Hsa := hide hsa;have Hsb := hide hsb;clear hst hln hOT hOi hcv a1 b1 hn hnb hSA hSB hsa hsb hal hbl a2 b2 a3 b3 he hka hkb hl
    go_enter Tryz.func48, Tryz.ntmps48
    go_wp2_with fail
    refine (Ha.out).mono ?_;rintro x w1 ⟨rfl, rfl⟩
    go_wp2_with fail
    refine (Hb.out _).mono ?_;rintro x w2 ⟨rfl, rfl⟩;clear Ha Hb
    go_wp2
    go_loopw [6, 7] (fun s6 s7 wr => ∃ i : Nat, i ≤ n ∧ s7 = .int .i64 (i : Int) ∧ s6 = .string (OT i) ∧ Hid (Below w.heap.size w wr)) (fun _ s7 _ => (n - intOf s7).toNat)
    case atStart => exact ⟨0, Nat.zero_le _, rfl, by rw [Hz.out], hide (Below.refl _ _)⟩
    case round =>
     obtain ⟨i, hi, rfl, rfl, hb⟩ := hrel
     by_cases hlt : i < n
     ·have hia : i < a.length := by rw [Hn.out]; exact hlt
      have hib : i < b.length := by rw [Hnb.out]; exact hlt
      have hga := Hga.out i hia;have hgb := Hgb.out i hib;have hxa := Ha1.out (a[i]'hia) (List.getElem_mem _);have hxb := Hb1.out (b[i]'hib) (List.getElem_mem _);have hs := Hst.out i hia hib;have hln := Hln.out i;obtain ⟨x, hx⟩ : ∃ x, a[i]'hia = x := ⟨_, rfl⟩;obtain ⟨y, hy⟩ : ∃ x, b[i]'hib = x := ⟨_, rfl⟩;rw [hx] at hga hxa hs;rw [hy] at hgb hxb hs;have HC1 := hide (fun W => acode_any x W);have HC2 := hide (fun W => acode_any y W);obtain ⟨x1, x2, x3, x4⟩ := xor_lt _ hxa _ hxb;have HC3 := hide (fun W => achar_any (cd x ^^^ cd y) x1 W);rw [cdI_ok hxa] at HC1;rw [cdI_ok hxb] at HC2;have hmx : mx x y = ch (cd x ^^^ cd y) := rfl;rw [hmx] at hs;have Hs := hide hs
      have hga' : ∀ h : i < SA.size, ((SA[i]'h).toNat : Int) = (x.toNat : Int) := fun h => by rw [hga h]
      have hgb' : ∀ h : i < SB.size, ((SB[i]'h).toNat : Int) = (y.toNat : Int) := fun h => by rw [hgb h]
      have hiA : i < SA.size := by rw [Hsa.out]; omega
      have hiB : i < SB.size := by rw [Hsb.out]; omega
      have hcw1 : (convert 42 9 (.slice (some ⟨wr.heap.size, 0, none⟩) 1 1)).run Tryz.prog (wr.alloc (.cells #[.int .u8 ((ch (cd x ^^^ cd y)).toNat : Int)] 5)).drew = .ok (.string ⟨#[ch (cd x ^^^ cd y)]⟩) (wr.alloc (.cells #[.int .u8 ((ch (cd x ^^^ cd y)).toNat : Int)] 5)).drew := Hcv.out wr.drew _;have hz1 : (⟨#[ch (cd x ^^^ cd y)]⟩ : ByteArray).size = 1 := rfl;obtain ⟨Z, hZ⟩ : ∃ z, (⟨#[ch (cd x ^^^ cd y)]⟩ : ByteArray) = z := ⟨_, rfl⟩;rw [hZ] at Hs hcw1 hz1;obtain ⟨C, hC⟩ : ∃ z, ((ch (cd x ^^^ cd y)).toNat : Int) = z := ⟨_, rfl⟩;rw [hC] at HC3 hcw1;clear hs hga hgb hmx x2 x3 hZ hC hx hy
      generalize (cd x ^^^ cd y) = M at *
      generalize cd x = P at *
      generalize cd y = Q at *
      have hgA := hga' hiA;have hgB := hgb' hiB
      generalize (x.toNat : Int) = A at *
      generalize (y.toNat : Int) = B at *
      have hi0 : (0 : Int) ≤ (i : Int) := by omega
      clear hga' hgb' hia hib Hst Hln Hga Hgb Ha1 Hb1 Hcv
      have hsA : (i : Int) < (SA.size : Int) := by omega
      have hsB : (i : Int) < (SB.size : Int) := by omega
      have hmi : ((P : Int) + (Q : Int)) % 2 + 2 * (((P : Int) / 2 + (Q : Int) / 2) % 2) = (M : Int) := by rw [← x4]; omega
      go_wp2
      go_region_with (first
       | (go_at_call 85; with_reducible refine (HC1.out _).mono ?_; rintro r w9 ⟨rfl, rfl⟩)
       | (go_at_call 85; with_reducible refine (HC2.out _).mono ?_; rintro r w9 ⟨rfl, rfl⟩))
      all_goals
       clear HC1 HC2
       go_wp2_with fail
       refine (HC3.out _).mono ?_;rintro r w9 ⟨rfl, rfl⟩
       go_wp2
       go_roundw
       case rel => exact ⟨i + 1, hlt, by go_num, by rw [Hs.out], hide (hb.out.alloc hb.out.size _).drew⟩
       case measure => simp [intOf] <;> omega
     ·have hin : i = n := by omega
      have hend : ¬ (i : Int) < (SA.size : Int) := by rw [Hsa.out]; omega
      have Hfin := hide (show SR = OT i by rw [hin]; exact Hall.out);clear hin Hst Hln Hga Hgb Ha1 Hb1 Hcv
      go_wp2
      go_returns
      exact ⟨by rw [Hfin.out]; rfl, hb.out⟩
   ·rw [if_pos hl]
    have hne : (((bs a).size : Int) != ((bs b).size : Int)) = true := by rw [hsa, hsb, bne_iff_ne]; omega
    simp only [he];clear hsa hsb he hka hkb hl
    generalize bs a = SA at *
    generalize bs b = SB at *
    go_enter Tryz.func48, Tryz.ntmps48
    go_wp2_with fail
    refine (Ha.out).mono ?_;rintro x w1 ⟨rfl, rfl⟩
    go_wp2_with fail
    refine (Hb.out _).mono ?_;rintro x w2 ⟨rfl, rfl⟩
    go_wp2
    go_returns
    exact ⟨rfl, Below.refl _ _⟩
def loC (c : UInt8) : UInt8 := UInt8.ofNat (48 + cd c % 2)
def hiC (c : UInt8) : UInt8 := UInt8.ofNat (48 + cd c / 2)
theorem conv_newB (w : World) (c : UInt8) (o : Obj) : (convert 42 9 (.slice (some ⟨w.heap.size, 0, none⟩) 1 1)).run Tryz.prog ((w.alloc (.cells #[.int .u8 (c.toNat : Int)] 5)).alloc o) = .ok (.string ⟨#[c]⟩) ((w.alloc (.cells #[.int .u8 (c.toNat : Int)] 5)).alloc o) :=
 conv_all (P := Tryz.prog) 42 9 5 Tryz.underlying42 Tryz.underlying5 Tryz.underlying9 ((w.alloc (.cells #[.int .u8 (c.toNat : Int)] 5)).alloc o) w.heap.size 1 1 [c] [] ((Bk.new w 5 #[.int .u8 (c.toNat : Int)]).alloc o) rfl
theorem aplanes_any (v : List UInt8) (hv : v.length ≤ 1099511627776) (h : isV v = true) (w : World) :
  Calls Tryz.prog 69 #[.string (bs v)] w fun x w' => x = .returned (.tuple #[.string (bs (v.map loC)), .string (bs (v.map hiC))]) ∧ Below w.heap.size w w' := by
 have Hi := hide (aisv_any v hv w);rw [h] at Hi;obtain ⟨h1, h2, h3⟩ := isV_iff.1 h;have hsz : (bs v).size = v.length := bs_size v;have Hget : Hid (∀ (i : Nat) (h : i < v.length) (h2 : i < (bs v).size), (bs v)[i]'h2 = v[i]'h) := hide (fun i h h2 => bs_get v i h h2);have Hco := hide (fun c W => acode_any c W);obtain ⟨ZF, hZF⟩ : ∃ f : UInt8 → ByteArray, (fun c => (⟨#[c]⟩ : ByteArray)) = f := ⟨_, rfl⟩
 have hZ : ∀ c : UInt8, (⟨#[c]⟩ : ByteArray) = ZF c := fun c => congrFun hZF c
 have hst : ∀ (f : UInt8 → UInt8) i (hi : i < v.length), bs ((v.take (i + 1)).map f) = bs ((v.take i).map f) ++ ZF (f (v[i]'hi)) := fun f i hi => by rw [List.take_succ_eq_append_getElem hi, List.map_append, ← bs_append, ← hZ]; rfl
 have Hst := hide hst
 have hln : ∀ (f : UInt8 → UInt8) i, (bs ((v.take i).map f)).size ≤ 128 := fun f i => by rw [bs_size, List.length_map, List.length_take]; omega
 have Hln := hide hln
 have hz1 : ∀ c, (ZF c).size = 1 := fun c => by rw [← hZ]; rfl
 have Hz1 := hide hz1;have Hr1 := hide (fun W (c : UInt8) => by have := conv_one (P := Tryz.prog) 42 9 5 Tryz.underlying42 Tryz.underlying5 Tryz.underlying9 W (c.toNat : Int); rw [u8_back, hZ] at this; exact this);have Hr2 := hide (fun W (c : UInt8) o => by have := conv_newB W c o; rw [hZ] at this; exact this);obtain ⟨N, hn⟩ : ∃ n, v.length = n := ⟨_, rfl⟩;have Hn := hide hn;have Hlow : Hid (bs (v.map loC) = bs ((v.take N).map loC)) := hide (by rw [← hn, List.take_length]);have Hhig : Hid (bs (v.map hiC) = bs ((v.take N).map hiC)) := hide (by rw [← hn, List.take_length]);have Hz : Hid (∀ f : UInt8 → UInt8, bs ((v.take 0).map f) = ⟨#[]⟩) := hide (fun _ => rfl);rw [hn] at hsz h3;have Hsz := hide hsz;have H1 := hide h1
 generalize bs (v.map loC) = RL at *
 generalize bs (v.map hiC) = RH at *
 obtain ⟨TT, hTT⟩ : ∃ f : (UInt8 → UInt8) → Nat → ByteArray, (fun g i => bs ((v.take i).map g)) = f := ⟨_, rfl⟩
 have hTi : ∀ g i, bs ((v.take i).map g) = TT g i := fun g i => congrFun (congrFun hTT g) i
 simp only [hTi] at Hst Hln Hlow Hhig Hz;obtain ⟨S, hS⟩ : ∃ S, bs v = S := ⟨_, rfl⟩;rw [hS] at hsz Hget Hsz Hi ⊢;clear h h1 h2 hn hTT hTi hst hln hS hsz hZF hZ hz1
 go_enter Tryz.func69, Tryz.ntmps69
 go_wp2_with fail
 refine (Hi.out).mono ?_;rintro x w1 ⟨rfl, rfl⟩;clear Hi
 go_wp2
 go_loopw [4, 5, 6] (fun s4 s5 s6 wr => ∃ i : Nat, i ≤ N ∧ s6 = .int .i64 (i : Int) ∧ s4 = .string (TT loC i) ∧ s5 = .string (TT hiC i) ∧ Hid (Below w.heap.size w wr)) (fun _ _ s6 _ => (N - intOf s6).toNat)
 case atStart => exact ⟨0, Nat.zero_le _, rfl, by rw [Hz.out], by rw [Hz.out], hide (Below.refl _ _)⟩
 case round =>
  obtain ⟨i, hi, rfl, rfl, rfl, hb⟩ := hrel
  by_cases hlt : i < N
  ·have hil : i < v.length := by rw [Hn.out]; exact hlt
   have hiS : i < S.size := by rw [Hsz.out]; exact hlt
   have hg0 := Hget.out i hil;have hs1 := Hst.out loC i hil;have hs2 := Hst.out hiC i hil;have hl1 := Hln.out loC i;have hl2 := Hln.out hiC i;have hcd := H1.out (v[i]'hil) (List.getElem_mem _);obtain ⟨c, hc⟩ : ∃ c, v[i]'hil = c := ⟨_, rfl⟩;rw [hc] at hg0 hs1 hs2 hcd
   have hget : ∀ h : i < S.size, (S[i]'h).toNat = c.toNat := fun h => by rw [hg0 h]
   have hlti : (i : Int) < (S.size : Int) := by omega
   have hlti0 : (0 : Int) ≤ (i : Int) := by omega
   have Hc := hide (Hco.out c wr);rw [cdI_ok hcd] at Hc;rw [show loC c = UInt8.ofNat (48 + cd c % 2) from rfl] at hs1;rw [show hiC c = UInt8.ofNat (48 + cd c / 2) from rfl] at hs2;obtain ⟨k, hk⟩ : ∃ k, cd c = k := ⟨_, rfl⟩;rw [hk] at Hc hs1 hs2 hcd;have Hs1 := hide hs1;have Hs2 := hide hs2;have Hbx := hide (fun (x y : Value) => ((hb.out.alloc hb.out.size (.cells #[x] 5)).alloc (by rw [World.size_alloc]; have := hb.out.size; omega) (.cells #[y] 5)).drew);have z48 := Hz1.out 48;have z49 := Hz1.out 49;have a48 : (convert 42 9 (.slice (some ⟨wr.heap.size, 0, none⟩) 1 1)).run Tryz.prog (wr.alloc (.cells #[.int .u8 48] 5)).drew = .ok (.string (ZF 48)) (wr.alloc (.cells #[.int .u8 48] 5)).drew := Hr1.out wr.drew 48;have a49 : (convert 42 9 (.slice (some ⟨wr.heap.size, 0, none⟩) 1 1)).run Tryz.prog (wr.alloc (.cells #[.int .u8 49] 5)).drew = .ok (.string (ZF 49)) (wr.alloc (.cells #[.int .u8 49] 5)).drew := Hr1.out wr.drew 49
   have b48 : ∀ y : Int, (convert 42 9 (.slice (some ⟨wr.heap.size, 0, none⟩) 1 1)).run Tryz.prog ((wr.alloc (.cells #[.int .u8 48] 5)).alloc (.cells #[.int .u8 y] 5)).drew = .ok (.string (ZF 48)) ((wr.alloc (.cells #[.int .u8 48] 5)).alloc (.cells #[.int .u8 y] 5)).drew := fun y => Hr2.out wr.drew 48 _
   have b49 : ∀ y : Int, (convert 42 9 (.slice (some ⟨wr.heap.size, 0, none⟩) 1 1)).run Tryz.prog ((wr.alloc (.cells #[.int .u8 49] 5)).alloc (.cells #[.int .u8 y] 5)).drew = .ok (.string (ZF 49)) ((wr.alloc (.cells #[.int .u8 49] 5)).alloc (.cells #[.int .u8 y] 5)).drew := fun y => Hr2.out wr.drew 49 _
   have d48 : ∀ y : Int, (convert 42 9 (.slice (some ⟨wr.heap.size + 1, 0, none⟩) 1 1)).run Tryz.prog ((wr.alloc (.cells #[.int .u8 y] 5)).alloc (.cells #[.int .u8 48] 5)).drew = .ok (.string (ZF 48)) ((wr.alloc (.cells #[.int .u8 y] 5)).alloc (.cells #[.int .u8 48] 5)).drew := fun y => by
    have := Hr1.out (wr.drew.alloc (.cells #[.int .u8 y] 5)) 48;rw [World.size_alloc] at this;exact this
   have d49 : ∀ y : Int, (convert 42 9 (.slice (some ⟨wr.heap.size + 1, 0, none⟩) 1 1)).run Tryz.prog ((wr.alloc (.cells #[.int .u8 y] 5)).alloc (.cells #[.int .u8 49] 5)).drew = .ok (.string (ZF 49)) ((wr.alloc (.cells #[.int .u8 y] 5)).alloc (.cells #[.int .u8 49] 5)).drew := fun y => by
    have := Hr1.out (wr.drew.alloc (.cells #[.int .u8 y] 5)) 49;rw [World.size_alloc] at this;exact this
   clear hil hg0 hc hk hs1 hs2 Hst Hln Hget Hco H1 Hr1 Hr2 Hz1 hb
   go_wp2_with fail
   refine (Hc.out).mono ?_;rintro x w1 ⟨rfl, rfl⟩;clear Hc
   rcases (show k = 0 ∨ k = 1 ∨ k = 2 ∨ k = 3 by omega) with rfl | rfl | rfl | rfl
   all_goals
    go_wp2
    go_region
    all_goals
     go_wp2
     go_roundw
     case rel => exact ⟨i + 1, hlt, by go_num, by rw [Hs1.out]; rfl, by rw [Hs2.out]; rfl, hide (Hbx.out _ _)⟩
     case measure => simp [intOf] <;> omega
  ·have hin : i = N := by omega
   have hend : ¬ (i : Int) < (S.size : Int) := by rw [Hsz.out]; omega
   have Hf1 := hide (show RL = TT loC i by rw [hin]; exact Hlow.out);have Hf2 := hide (show RH = TT hiC i by rw [hin]; exact Hhig.out);clear hin Hst Hln Hget
   go_wp2
   go_returns
   exact ⟨by rw [Hf1.out, Hf2.out]; rfl, hb.out⟩
theorem lit48 : (((48 : UInt8).toNat : Nat) : Int) = 48 := rfl
theorem lit49 : (((49 : UInt8).toNat : Nat) : Int) = 49 := rfl
theorem lit120 : (((120 : UInt8).toNat : Nat) : Int) = 120 := rfl
theorem lit122 : (((122 : UInt8).toNat : Nat) : Int) = 122 := rfl
def fpC (l h : UInt8) : UInt8 := ch (cd l + 2 * cd h)
theorem afrom_any (a b : List UInt8) (hka : knV a = true) (hkb : knV b = true) (hl : a.length = b.length) (w : World) :
  Calls Tryz.prog 78 #[.string (bs a), .string (bs b)] w fun x w' => x = .returned (.tuple #[.string (bs (List.zipWith fpC a b)), .int .i64 0]) ∧ Below w.heap.size w w' := by
 obtain ⟨a1, a2, a3⟩ := knV_iff.1 hka;obtain ⟨b1, b2, b3⟩ := knV_iff.1 hkb;have Ha := hide (aknown_any a (by omega) w);have Hb := hide (fun W => aknown_any b (by omega) W);rw [hka] at Ha;rw [hkb] at Hb;have hsa : (bs a).size = a.length := bs_size a;have hsb : (bs b).size = b.length := bs_size b
 have hne : (((bs a).size : Int) != ((bs b).size : Int)) = false := by rw [hsa, hsb, hl]; exact bne_self_eq_false _
 have Hga : Hid (∀ (i : Nat) (h : i < a.length) (h2 : i < (bs a).size), (bs a)[i]'h2 = a[i]'h) := hide (fun i h h2 => bs_get a i h h2);have Hgb : Hid (∀ (i : Nat) (h : i < b.length) (h2 : i < (bs b).size), (bs b)[i]'h2 = b[i]'h) := hide (fun i h h2 => bs_get b i h h2);obtain ⟨n, hn⟩ : ∃ n, a.length = n := ⟨_, rfl⟩
 have hnb : b.length = n := by omega
 have hst : ∀ i (h1 : i < a.length) (h2 : i < b.length), bs (List.zipWith fpC (a.take (i + 1)) (b.take (i + 1))) = bs (List.zipWith fpC (a.take i) (b.take i)) ++ ⟨#[fpC (a[i]'h1) (b[i]'h2)]⟩ := fun i h1 h2 => by
  rw [List.take_succ_eq_append_getElem h1, List.take_succ_eq_append_getElem h2, List.zipWith_append (by rw [List.length_take, List.length_take]; omega), ← bs_append];rfl
 have Hst := hide hst
 have hln : ∀ i, (bs (List.zipWith fpC (a.take i) (b.take i))).size ≤ 128 := fun i => by rw [bs_size, List.length_zipWith, List.length_take, List.length_take]; omega
 have Hln := hide hln;have Hz : Hid (bs (List.zipWith fpC (a.take 0) (b.take 0)) = ⟨#[]⟩) := hide rfl;have Hall : Hid (bs (List.zipWith fpC a b) = bs (List.zipWith fpC (a.take n) (b.take n))) := hide (by rw [List.take_of_length_le (by omega), List.take_of_length_le (by omega)]);have Ha1 := hide a1;have Hb1 := hide b1
 have hn128 : n ≤ 128 := by omega
 have Hn := hide hn;have Hnb := hide hnb;rw [hn] at hsa;rw [hnb] at hsb;obtain ⟨OT, hOT⟩ : ∃ f : Nat → ByteArray, (fun i => bs (List.zipWith fpC (a.take i) (b.take i))) = f := ⟨_, rfl⟩
 have hOi : ∀ i, bs (List.zipWith fpC (a.take i) (b.take i)) = OT i := fun i => congrFun hOT i
 simp only [hOi] at Hst Hln Hz Hall
 generalize bs (List.zipWith fpC a b) = SR at *
 have hcv := fun W (c : UInt8) => conv_one (P := Tryz.prog) 42 9 5 Tryz.underlying42 Tryz.underlying5 Tryz.underlying9 W (c.toNat : Int)
 simp only [u8_back] at hcv
 have hcv2 : ∀ (W : World) (k : Nat) (c : UInt8), (convert 42 9 (.slice (some ⟨W.heap.size, 0, none⟩) 1 1)).run Tryz.prog ((W.drewN k).alloc (.cells #[.int .u8 (c.toNat : Int)] 5)) = .ok (.string ⟨#[c]⟩) ((W.drewN k).alloc (.cells #[.int .u8 (c.toNat : Int)] 5)) := fun W k c => hcv (W.drewN k) c
 have Hcv := hide hcv2;obtain ⟨SA, hSA⟩ : ∃ s, bs a = s := ⟨_, rfl⟩;obtain ⟨SB, hSB⟩ : ∃ s, bs b = s := ⟨_, rfl⟩;rw [hSA] at hsa hne Hga Ha ⊢;rw [hSB] at hsb hne Hgb Hb ⊢;have Hsa := hide hsa;have Hsb := hide hsb;clear hst hln hOT hOi hcv hcv2 a1 b1 hn hnb hSA hSB hsa hsb a2 b2 a3 b3 hka hkb hl
 go_enter Tryz.func78, Tryz.ntmps78
 go_wp2_with fail
 refine (Ha.out).mono ?_;rintro x w1 ⟨rfl, hb1⟩
 go_wp2_with fail
 refine (Hb.out _).mono ?_;rintro x w2 ⟨rfl, hb2⟩;have Hb2 := hide (hb1.trans (hb2.mono hb1.size));clear Ha Hb hb1 hb2
 go_wp2
 go_loopw [6, 7] (fun s6 s7 wr => ∃ i : Nat, i ≤ n ∧ s7 = .int .i64 (i : Int) ∧ s6 = .string (OT i) ∧ Hid (Below w.heap.size w wr)) (fun _ s7 _ => (n - intOf s7).toNat)
 case atStart => exact ⟨0, Nat.zero_le _, rfl, by rw [Hz.out], Hb2⟩
 case round =>
  clear Hb2;obtain ⟨i, hi, rfl, rfl, hb⟩ := hrel
  by_cases hlt : i < n
  ·have hia : i < a.length := by rw [Hn.out]; exact hlt
   have hib : i < b.length := by rw [Hnb.out]; exact hlt
   have hga := Hga.out i hia;have hgb := Hgb.out i hib;have hxa := Ha1.out (a[i]'hia) (List.getElem_mem _);have hxb := Hb1.out (b[i]'hib) (List.getElem_mem _);have hs := Hst.out i hia hib;have hln := Hln.out i;obtain ⟨x, hx⟩ : ∃ x, a[i]'hia = x := ⟨_, rfl⟩;obtain ⟨y, hy⟩ : ∃ x, b[i]'hib = x := ⟨_, rfl⟩;rw [hx] at hga hxa hs;rw [hy] at hgb hxb hs;have hmx : fpC x y = ch (cd x + 2 * cd y) := rfl;rw [hmx] at hs
   have hget1 : ∀ h : i < SA.size, (SA[i]'h).toNat = 48 + cd x := fun h => by rw [hga h, cd2 hxa]
   have hget2 : ∀ h : i < SB.size, (SB[i]'h).toNat = 48 + cd y := fun h => by rw [hgb h, cd2 hxb]
   have hiA : i < SA.size := by rw [Hsa.out]; omega
   have hiB : i < SB.size := by rw [Hsb.out]; omega
   have hi0 : (0 : Int) ≤ (i : Int) := by omega
   have hsA : (i : Int) < (SA.size : Int) := by omega
   have hsB : (i : Int) < (SB.size : Int) := by omega
   have Hs := hide hs
   generalize cd x = p at *
   generalize cd y = q at *
   clear hs hga hgb hmx hx hy hia hib Hst Hln Hga Hgb Ha1 Hb1
   rcases (show p = 0 ∨ p = 1 by omega) with rfl | rfl <;> rcases (show q = 0 ∨ q = 1 by omega) with rfl | rfl
   all_goals
    first
     | (have HC4 := hide (fun k => achar_any 0 (by omega) (wr.drewN k)); have hv : Hid (OT (i + 1) = OT i ++ ⟨#[ch 0]⟩) := hide (Hs.out); have hcw := fun k => Hcv.out wr k (ch 0); have cc : ch 0 = 48 := rfl; rw [cc] at hv; simp only [cc, lit48, lit49, lit120, lit122] at HC4 hcw)
     | (have HC4 := hide (fun k => achar_any 1 (by omega) (wr.drewN k)); have hv : Hid (OT (i + 1) = OT i ++ ⟨#[ch 1]⟩) := hide (Hs.out); have hcw := fun k => Hcv.out wr k (ch 1); have cc : ch 1 = 49 := rfl; rw [cc] at hv; simp only [cc, lit48, lit49, lit120, lit122] at HC4 hcw)
     | (have HC4 := hide (fun k => achar_any 2 (by omega) (wr.drewN k)); have hv : Hid (OT (i + 1) = OT i ++ ⟨#[ch 2]⟩) := hide (Hs.out); have hcw := fun k => Hcv.out wr k (ch 2); have cc : ch 2 = 120 := rfl; rw [cc] at hv; simp only [cc, lit48, lit49, lit120, lit122] at HC4 hcw)
     | (have HC4 := hide (fun k => achar_any 3 (by omega) (wr.drewN k)); have hv : Hid (OT (i + 1) = OT i ++ ⟨#[ch 3]⟩) := hide (Hs.out); have hcw := fun k => Hcv.out wr k (ch 3); have cc : ch 3 = 122 := rfl; rw [cc] at hv; simp only [cc, lit48, lit49, lit120, lit122] at HC4 hcw)
    generalize hZ : (⟨#[_]⟩ : ByteArray) = Z at hv hcw
    have hz1 : Z.size = 1 := by rw [← hZ]; rfl
    clear hZ Hs Hcv cc
    go_wp2
    go_quiet ((go_at_call 86; exact Wv.q1 (HC4.out _)))
    have hcw1 := hcw nq
    go_wp2
    refine ⟨⟨i + 1, hlt, by go_num, by rw [hv.out], hide ((bdN hb.out nq).alloc (bdN hb.out nq).size _)⟩, ?_⟩
    simp [intOf] <;> omega
  ·have hin : i = n := by omega
   have hend : ¬ (i : Int) < (SA.size : Int) := by rw [Hsa.out]; omega
   have Hfin := hide (show SR = OT i by rw [hin]; exact Hall.out);clear hin Hst Hln Hga Hgb Ha1 Hb1 Hcv
   go_wp2
   go_returns
   exact ⟨by rw [Hfin.out]; rfl, hb.out⟩
end Go.Proofs.YtoeeblldgoccoaaGreat
