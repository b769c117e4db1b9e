/-
  Joined texts: Ab, Ao, BioRef6, Ak, An, So, Sp, Uc, Row3.
-/
import Derived.Test.YtoeeblldgoccoaaGreatL41
import Derived.Test.YtoeeblldgoccoaaGreatL35
set_option linter.unusedVariables false
set_option linter.unusedSimpArgs false
set_option maxRecDepth 100000
set_option maxHeartbeats 8000000
namespace Go.Proofs.YtoeeblldgoccoaaGreat
open Go.RowKit Go.Proofs Wv Wv.Vi Wv.Rc Wv.Mo Wv.Ru Wv.Tm Wv.Bc
theorem runR_cod (l : List ByteArray) (st : ByteArray) (hne : ∀ v ∈ l, toL v ≠ []) : ∀ (m i : Nat) (x : List Int) (pt : Int) (vs : List ByteArray) (gs : List Int), 1 ≤ i → i + m = l.length →
    x.Pairwise (· < ·) → (∀ t ∈ x, (i : Int) ≤ t ∧ t < (l.length : Int)) → (∀ j : Nat, i ≤ j → j < l.length → ((j : Int) ∈ exI l st ↔ (j : Int) ∈ x)) →
    (x = [] → pt < (i : Int)) → (∀ a r, x = a :: r → pt = a ∧ vs = atI l (a :: r) ∧ gs = gp a r) →
    runR (l.length : Int) st m (i : Int) pt vs gs (l.getD (i - 1) default) = some (l.drop i) := by
  intro m
  induction m with
  | zero =>
    intro i x pt vs gs _ h _ _ _ _ _;rw [List.drop_eq_nil_of_le (by omega)];rfl
  | succ m ih =>
    intro i x pt vs gs h1 h2 hx hin hiff h0 hc
    have hil : i < l.length := by omega
    have hd : l.drop i = l[i] :: l.drop (i + 1) := List.drop_eq_getElem_cons hil
    have hgi : l.getD i default = l[i] := by rw [List.getD_eq_getElem?_getD, List.getElem?_eq_getElem hil]; rfl
    have hnz : l[i] ≠ bs [] := fun e => hne l[i] (List.getElem_mem _) (by rw [e]; rfl)
    rw [runR]
    by_cases hp : (i : Int) = pt
    · rw [if_pos hp]
      match x, h0, hc, hx, hin, hiff with
      | [], h0, _, _, _, _ => exact absurd (h0 rfl) (by omega)
      | a :: r, _, hc, hx, hin, hiff =>
        obtain ⟨c1, c2, c3⟩ := hc a r rfl
        have ha : a = (i : Int) := by omega
        have hv : vs.headD default = l[i] := by
          rw [c2]
          show l.getD a.toNat default = _
          rw [ha, Int.toNat_natCast, hgi]
        obtain ⟨x1, x2⟩ := List.pairwise_cons.1 hx;rw [hv, if_neg hnz];have := ih (i + 1) r (nxt (l.length : Int) pt gs) vs.tail gs.tail (by omega) (by omega) x2 (fun t ht => by have := x1 t ht; have := hin t (List.mem_cons_of_mem _ ht); omega)
          (fun j j1 j2 => by
            rw [hiff j (by omega) j2, List.mem_cons]
            constructor
            · rintro (h | h)
              · omega
              · exact h
            · exact fun h => .inr h)
          (fun e => by rw [c3, e]; show pt < _; omega)
          (fun b q e => by
            subst e;have hb := hin b (List.mem_cons_of_mem _ List.mem_cons_self);refine ⟨?_, ?_, ?_⟩
            · rw [c3]
              show pt + 1 + min (b - a - 1) (l.length : Int) = b
              omega
            · rw [c2]; rfl
            · rw [c3]; rfl)
        rw [show (i : Int) + 1 = ((i + 1 : Nat) : Int) by omega];rw [Nat.add_sub_cancel, hgi] at this;rw [this, hd];rfl
    · rw [if_neg hp]
      have hno : ¬ (i : Int) ∈ exI l st := by
        rw [hiff i (Nat.le_refl _) hil];intro hm
        match x, hc, hx, hin, hm with
        | a :: r, hc, hx, hin, hm =>
          obtain ⟨c1, _, _⟩ := hc a r rfl;obtain ⟨x1, _⟩ := List.pairwise_cons.1 hx;have := hin a List.mem_cons_self
          rcases List.mem_cons.1 hm with h | h
          · omega
          · have := x1 _ h
            omega
      have hok : okA l st (i - 1) = true := by
        cases h : okA l st (i - 1) with
        | true => rfl
        | false => exact absurd ((exI_mem h1 hil).2 h) hno
      unfold okA at hok;rw [decide_eq_true_iff, show i - 1 + 1 = i by omega, hgi] at hok;rw [hok];simp only;rw [if_neg (hne l[i] (List.getElem_mem _))]
      have := ih (i + 1) x pt vs gs (by omega) (by omega) hx (fun t ht => by
          have := hin t ht;refine ⟨?_, this.2⟩
          have hne2 : t ≠ (i : Int) := fun e => hno ((hiff i (Nat.le_refl _) hil).2 (e ▸ ht))
          omega) (fun j j1 j2 => hiff j (by omega) j2) (fun e => by have := h0 e; omega) hc
      rw [Nat.add_sub_cancel, hgi] at this;rw [bs_toL, show (i : Int) + 1 = ((i + 1 : Nat) : Int) by omega, this, hd];rfl
theorem readCR_cod {w : Int} {l : List ByteArray} (h : validB w l = true) : readCR w (codC l) = some l := by
 obtain ⟨h1, h2, h3, h4⟩ := validB_iff.1 h;obtain ⟨N, hN⟩ : ∃ N, (codC l).length = N := ⟨_, rfl⟩;unfold readCR;rw [hN];unfold codC at hN ⊢;rw [rnum_num _ _ h4 (by omega)];simp only
 by_cases h0 : l = []
 ·subst h0
  rfl
 ·rw [if_neg h0] at hN ⊢
  rw [if_neg (fun e => h0 (List.eq_nil_of_length_eq_zero e))];have hpos : 0 < l.length := List.length_pos_iff.2 h0;have hxv := exI_valid h4 (stepB l);have hxl := exI_len l (stepB l);have hnl := numsI_len hxv;simp only [text_bs, List.append_assoc] at hN ⊢;have k1 := shr_len128 (toL (l.getD 0 default));have k2 := shr_len128 (toL (stepB l));have hNl := hN;simp only [List.length_append] at hNl;rw [rtext_text _ _ (by omega) (by omega)];simp only;rw [rtext_text _ _ (by omega) (by omega)];simp only;rw [rtext_text _ _ (by omega) (by omega)];simp only
  have hal : (atI l (exI l (stepB l))).length ≤ 4096 := by unfold atI; rw [List.length_map]; omega
  obtain ⟨d1, _⟩ := dec_short hal;rw [d1, numsI_dec hxv, if_neg (by simp)];simp only;rw [extL_short (fun v hv2 => h1 v (atI_in exI_in v hv2))];simp only
  obtain ⟨v0, r, hl⟩ : ∃ v r, l = v :: r := by cases l with | nil => exact absurd rfl h0 | cons v r => exact ⟨v, r, rfl⟩
  have hv0 : l.getD 0 default = v0 := by rw [hl]; rfl
  have hv := vld_iff.1 (h1 v0 (by rw [hl]; exact List.mem_cons_self))
  have hf : ext w (shr (toL (l.getD 0 default))) = (toL v0, 0) := by
   rw [hv0, ← hv.2];exact ext_shr hv.1
  rw [hf]
  have hgl : (gapsT (exI l (stepB l))).length = (atI l (exI l (stepB l))).length := by unfold gapsT atI; rw [gp_length, List.length_map]
  rw [if_neg (by rw [hgl]; simp)]
  have hsv : bs (ext w (shr (toL (stepB l)))).1 = stepB l := by
   rcases step_vld h with h5 | ⟨h5, h6⟩
   ·rw [h5]
    have e1 : stepB l = bs [] := by rw [← bs_toL (stepB l), h5]
    have e2 : (ext w (shr [])).1 = [] := by
     show (ext w []).1 = []
     unfold ext
     split <;> rfl
    rw [e2, e1]
   ·have := ext_shr (vld_iff.1 h5).1
    rw [(vld_iff.1 h5).2] at this;rw [this, bs_toL]
  rw [hsv];have hx := exI_in (l := l) (st := stepB l);have hrun := runR_cod l (stepB l) (fun v hv => (isV_iff.1 (vld_iff.1 (h1 v hv)).1).2.1) (l.length - 1) 1 (exI l (stepB l)) (nxt (l.length : Int) (-1) (gapsT (exI l (stepB l)))) (atI l (exI l (stepB l))) (gapsT (exI l (stepB l))).tail (by omega) (by omega)
   (exP_sorted _ _ _) (fun t ht => ⟨(exP_in t ht).1, (hx t ht).2⟩) (fun j j1 j2 => Iff.rfl) (fun e => by rw [e]; show (-1 : Int) < _; omega)
   (fun a q e => by
    have ha := hx a (by rw [e]; exact List.mem_cons_self);refine ⟨?_, by rw [e], by rw [e]; rfl⟩;rw [e]
    show (-1 : Int) + 1 + min (a - (-1) - 1) (l.length : Int) = a
    omega)
  rw [Nat.sub_self, hv0] at hrun;simp only [bs_toL];rw [show ((1 : Nat) : Int) = 1 from rfl] at hrun;rw [hrun, hl];rfl
theorem readR_cod {w : Int} {l : List ByteArray} {data : List UInt8} (h : validB w l = true) (he : encB' w l = (data, 0)) : readR w data = some l := by
 obtain ⟨c, s, hc, hs, he2⟩ := encB_cases h;have hb := readB_cod h hc hs;rw [he] at he2
 injection he2 with he2 _
 subst he2;unfold readB at hb;unfold readR;rw [rnum_num _ _ hc (by omega)] at hb ⊢;simp only at hb ⊢
 by_cases h1 : c = 1
 ·subst h1
  rw [if_neg (by decide), if_pos rfl];have : codB 1 w l = some (codC l) := rfl;rw [this] at hs
  injection hs with hs
  subst hs;exact readCR_cod h
 ·rw [if_neg h1] at hb ⊢
  exact hb
theorem takeR_fst (s : ByteArray) (e : Nat) (n : Int) : (takeR s e n).1.size ≤ s.size := by
 unfold takeR
 split
 ·split
  ·exact Nat.zero_le _
  ·split
   ·exact Nat.zero_le _
   ·rw [bs_size, List.length_take, toL_length]; omega
 ·exact Nat.zero_le _
theorem textR_fst (s : ByteArray) (e : Nat) (most : Int) : (textR s e most).1.size ≤ s.size := by
 unfold textR
 split
 ·exact Nat.le_trans (takeR_fst _ _ _) numR_size
 ·exact Nat.zero_le _
def ucS (M : Int) (S0 : ByteArray) : Nat → List ByteArray × ByteArray × Nat
 | 0 => ([], S0, 0)
 | i + 1 => ((ucS M S0 i).1 ++ [(textR (ucS M S0 i).2.1 (ucS M S0 i).2.2 M).1], (textR (ucS M S0 i).2.1 (ucS M S0 i).2.2 M).2.1, (textR (ucS M S0 i).2.1 (ucS M S0 i).2.2 M).2.2)
theorem ucS_succ (M : Int) (S0 : ByteArray) (i : Nat) : ucS M S0 (i + 1) = ((ucS M S0 i).1 ++ [(textR (ucS M S0 i).2.1 (ucS M S0 i).2.2 M).1], (textR (ucS M S0 i).2.1 (ucS M S0 i).2.2 M).2.1, (textR (ucS M S0 i).2.1 (ucS M S0 i).2.2 M).2.2) := rfl
theorem ucS_0 (M : Int) (S0 : ByteArray) : ucS M S0 0 = ([], S0, 0) := rfl
theorem ucS_size (M : Int) (S0 : ByteArray) : ∀ i, (ucS M S0 i).2.1.size ≤ S0.size
 | 0 => Nat.le_refl _
 | i + 1 => Nat.le_trans (textR_size _ _ _) (ucS_size M S0 i)
theorem uc_cases (r : List UInt8) (M : Nat) : ∃ t1 t2 t3 S e, ucS (M : Int) (bs r) 3 = ([t1, t2, t3], S, e) ∧ S.size ≤ r.length ∧ t1.size ≤ r.length ∧ t2.size ≤ r.length ∧ t3.size ≤ r.length ∧
    ((e ≠ 0 ∧ ∀ f s2 st s3 a s4, rtext r M = some (f, s2) → rtext s2 M = some (st, s3) → rtext s3 M ≠ some (a, s4)) ∨
     (e = 0 ∧ ∃ f s2 st s3 a s4, rtext r M = some (f, s2) ∧ rtext s2 M = some (st, s3) ∧ rtext s3 M = some (a, s4) ∧ t1 = bs f ∧ t2 = bs st ∧ t3 = bs a ∧ S = bs s4)) := by
  obtain ⟨⟨t1, S1, e1⟩, h1⟩ : ∃ q, textR (bs r) 0 (M : Int) = q := ⟨_, rfl⟩;obtain ⟨⟨t2, S2, e2⟩, h2⟩ : ∃ q, textR S1 e1 (M : Int) = q := ⟨_, rfl⟩;obtain ⟨⟨t3, S3, e3⟩, h3⟩ : ∃ q, textR S2 e2 (M : Int) = q := ⟨_, rfl⟩;have z1 := textR_size (bs r) 0 (M : Int);have z2 := textR_size S1 e1 (M : Int);have z3 := textR_size S2 e2 (M : Int);have y1 := textR_fst (bs r) 0 (M : Int);have y2 := textR_fst S1 e1 (M : Int);have y3 := textR_fst S2 e2 (M : Int);rw [h1, bs_size] at z1 y1;rw [h2] at z2 y2;rw [h3] at z3 y3;simp only at z1 z2 z3 y1 y2 y3
  have hu : ucS (M : Int) (bs r) 3 = ([t1, t2, t3], S3, e3) := by
    have u1 : ucS (M : Int) (bs r) 1 = ([t1], S1, e1) := by
      rw [ucS_succ, ucS_0];simp only;rw [h1];rfl
    have u2 : ucS (M : Int) (bs r) 2 = ([t1, t2], S2, e2) := by
      rw [ucS_succ, u1];simp only;rw [h2];rfl
    rw [ucS_succ, u2];simp only;rw [h3];rfl
  refine ⟨t1, t2, t3, S3, e3, hu, by omega, by omega, by omega, by omega, ?_⟩;obtain ⟨q1, Q1, f1, g1, c1⟩ := textR_cases r M;rw [h1] at g1
  injection g1 with a1 a2
  injection a2 with a2 a3
  subst a1; subst a2; subst a3
  rcases c1 with ⟨rfl, f, s2, r1, rfl, rfl, _⟩ | ⟨he1, r1⟩
  · obtain ⟨q2, Q2, f2, g2, c2⟩ := textR_cases s2 M
    rw [h2] at g2
    injection g2 with a1 a2
    injection a2 with a2 a3
    subst a1; subst a2; subst a3
    rcases c2 with ⟨rfl, st, s3, r2, rfl, rfl, _⟩ | ⟨he2, r2⟩
    · obtain ⟨q3, Q3, f3, g3, c3⟩ := textR_cases s3 M
      rw [h3] at g3
      injection g3 with a1 a2
      injection a2 with a2 a3
      subst a1; subst a2; subst a3
      rcases c3 with ⟨rfl, a, s4, r3, rfl, rfl, _⟩ | ⟨he3, r3⟩
      · exact .inr ⟨rfl, f, s2, st, s3, a, s4, r1, r2, r3, rfl, rfl, rfl, rfl⟩
      · refine .inl ⟨he3, fun f' s2' st' s3' a' s4' k1 k2 k3 => ?_⟩
        rw [r1] at k1
        injection k1 with k1
        injection k1 with _ k1
        subst k1;rw [r2] at k2
        injection k2 with k2
        injection k2 with _ k2
        subst k2;rw [r3] at k3
        cases k3
    · rw [textR_err he2] at h3
      injection h3 with _ b2
      injection b2 with _ b3
      refine .inl ⟨by rw [← b3]; exact he2, fun f' s2' st' s3' a' s4' k1 k2 k3 => ?_⟩;rw [r1] at k1
      injection k1 with k1
      injection k1 with _ k1
      subst k1;rw [r2] at k2
      cases k2
  · rw [textR_err he1] at h2
    injection h2 with _ b2
    injection b2 with _ b3
    have he2 : e2 ≠ 0 := by rw [← b3]; exact he1
    rw [textR_err he2] at h3
    injection h3 with _ b2
    injection b2 with _ b3
    refine .inl ⟨by rw [← b3]; exact he2, fun f' s2' st' s3' a' s4' k1 k2 k3 => ?_⟩;rw [r1] at k1
    cases k1
def crFin (w : Int) (n : Nat) (f st : List UInt8) (G : List Int × Nat) (D : List ByteArray × Nat) : Option (List ByteArray) :=
  if G.2 ≠ 0 ∨ D.2 ≠ 0 then none else match extL w D.1 with
    | none => none
    | some vs => if (ext w f).2 ≠ 0 ∨ G.1.length ≠ vs.length then none else
        (runR n (bs (ext w st).1) (n - 1) 1 (nxt n (-1) G.1) vs G.1.tail (bs (ext w f).1)).map (bs (ext w f).1 :: ·)
theorem readCR_fin {w : Int} {s r f s2 st s3 a s4 : List UInt8} {n : Nat} (h0 : rnum s 4096 = some (n, r)) (hn : n ≠ 0) (h1 : rtext r s.length = some (f, s2)) (h2 : rtext s2 s.length = some (st, s3)) (h3 : rtext s3 s.length = some (a, s4)) :
  readCR w s = crFin w n f st (decn a 4096) (dec s4 4096) := by
 unfold readCR crFin;rw [h0];simp only;rw [if_neg hn, h1];simp only;rw [h2];simp only;rw [h3];rfl
theorem readCR_bad {w : Int} {s r : List UInt8} {n : Nat} (h0 : rnum s 4096 = some (n, r)) (hn : n ≠ 0) (hb : ∀ f s2 st s3 a s4, rtext r s.length = some (f, s2) → rtext s2 s.length = some (st, s3) → rtext s3 s.length ≠ some (a, s4)) : readCR w s = none := by
 unfold readCR;rw [h0];simp only;rw [if_neg hn]
 cases h1 : rtext r s.length with
 | none => rfl
 | some p =>
  obtain ⟨f, s2⟩ := p;simp only
  cases h2 : rtext s2 s.length with
  | none => rfl
  | some p =>
   obtain ⟨st, s3⟩ := p;simp only
   cases h3 : rtext s3 s.length with
   | none => rfl
   | some p =>
    obtain ⟨a, s4⟩ := p;exact absurd h3 (hb _ _ _ _ _ _ h1 h2)
theorem readCR_zero {w : Int} {s : List UInt8} (S : ByteArray) (n e : Nat) (h : numR (bs s) 0 4096 = (n, S, e)) (hz : e ≠ 0 ∨ n = 0) : readCR w s = if e = 0 ∧ S.size = 0 then some [] else none := by
 unfold readCR
 cases h0 : rnum s 4096 with
 | none =>
  obtain ⟨e', he, hn⟩ := numR_nok h0;rw [show ((4096 : Nat) : Int) = 4096 from rfl, h] at hn
  injection hn with _ hn
  injection hn with hn1 hn2
  subst hn2;simp only;rw [if_neg (fun h => he h.1)]
 | some p =>
  obtain ⟨n', r⟩ := p;obtain ⟨hn, _, _⟩ := numR_some h0;rw [show ((4096 : Nat) : Int) = 4096 from rfl, h] at hn
  injection hn with hn0 hn
  injection hn with hn1 hn2
  subst hn0; subst hn1; subst hn2
  have hn0 : n = 0 := by
   rcases hz with h | h
   ·exact absurd rfl h
   ·exact h
  subst hn0;simp only [if_true, true_and];rw [bs_size]
  cases r <;> simp
end Go.Proofs.YtoeeblldgoccoaaGreat
namespace Go.Proofs.YtoeeblldgoccoaaGreat.Bio
open Go.RowKit Go.Proofs Wv Wv.Bit
theorem ret_sb {s t : ByteArray} {a b : Bool} (h : s = t) (h2 : a = b) : Ending.returned (.tuple #[.string s, .bool a]) = .returned (.tuple #[.string t, .bool b]) := by rw [h, h2]
def rows (s : ByteArray) (k : Nat) : List UInt8 := (rbits s k).map dig ++ List.replicate (8 * s.size - k) 0
theorem rows_length (s : ByteArray) (k : Nat) (h : k ≤ 8 * s.size) : (rows s k).length = 8 * s.size := by simp [rows, rbits_length]; omega
theorem rows_succ (s : ByteArray) (k : Nat) (h : k < 8 * s.size) : rows s (k + 1) = (rows s k).set k (dig (rbit s k)) := by
 have h1 : (rbits s (k + 1)).map dig = (rbits s k).map dig ++ [dig (rbit s k)] := by simp [rbits, List.range_succ]
 unfold rows;rw [h1, List.set_append_right _ _ (by simp [rbits_length])];simp only [List.length_map, rbits_length, Nat.sub_self];rw [show 8 * s.size - k = (8 * s.size - (k + 1)) + 1 from by omega, List.replicate_succ, List.set_cons_zero, List.append_assoc];rfl
theorem rows_get? (s : ByteArray) (k j : Nat) (hj : j < k) : (rows s k)[j]? = some (dig (rbit s j)) := by
 unfold rows;rw [List.getElem?_append_left (by simp [rbits_length]; exact hj)]
 simp [rbits, hj]
theorem rows_get (s : ByteArray) (k j : Nat) (hj : j < k) (h : j < (rows s k).length) : (rows s k)[j] = dig (rbit s j) :=
 (List.getElem?_eq_some_iff.1 (rows_get? s k j hj)).2
theorem rows_take (s : ByteArray) (n : Nat) (h : n ≤ 8 * s.size) : rows s (8 * s.size) = (rbits s n).map dig ++ (rows s (8 * s.size)).drop n := by
 have : (rbits s n).map dig = (rows s (8 * s.size)).take n := by
  apply List.ext_getElem
  ·rw [List.length_take, rows_length _ _ (Nat.le_refl _), List.length_map, rbits_length]; omega
  ·intro j h1 h2
   have h3 : j < n := by simpa [rbits_length] using h1
   rw [List.getElem_take, rows_get s _ j (by omega)]
   simp [rbits]
 rw [this, List.take_append_drop]
theorem fill_arith (s : ByteArray) (k z : Nat) (hz : k / 8 = z) (h : z < s.size) : (48 + Go.bits .and .u8 ((s[z].toNat : Int) / 2 ^ (7 - k % 8)) 1) % 256 = ((dig (rbit s k)).toNat : Int) := by
 subst hz
 have h1 : ((s[k / 8].toNat : Int)) / 2 ^ (7 - k % 8) = ((s[k / 8].toNat / 2 ^ (7 - k % 8) : Nat) : Int) := by push_cast; rfl
 have h2 : s[k / 8].toNat / 2 ^ (7 - k % 8) < 256 := Nat.lt_of_le_of_lt (Nat.div_le_self _ _) (UInt8.toNat_lt _);rw [h1, and1_u8 _ h2, dig_nat, rbit_nat s k h];omega
theorem refread_main (s : ByteArray) (w : World) (n : Nat) (h : IsLast s n) (hs : s.size ≤ 8193) (hl : s.data.toList.getD (s.size - 1) 0 ≠ 0) :
  Calls Tryz.prog 77 #[.string s] w fun e w' => e = .returned (.tuple #[.string (txt (rbits s n)), .bool (decide (n ≤ 65536))]) ∧ Below w.heap.size w w' := by
 have hn := h.1
 have hlt : s.size - 1 < s.size := by omega
 have hpos : 0 < s.size := by omega
 obtain ⟨x, hx⟩ : ∃ x, s[s.size - 1] = x := ⟨_, rfl⟩
 have hx2 : s.data.toList.getD (s.size - 1) 0 = x := by
  rw [← hx];simp only [List.getD, Array.getElem?_toList];rw [Array.getElem?_eq_getElem (show s.size - 1 < s.data.size from hlt)];rfl
 have hb : ((x.toNat : Int) == 0) = false := by
  rw [beq_eq_false_iff_ne];intro e
  exact hl (hx2.trans (by
   have e2 : x.toNat = 0 := by omega
   have := congrArg UInt8.ofNat e2
   simpa using this))
 have hs0 : ((s.size : Int) == 0) = false := by rw [beq_eq_false_iff_ne]; omega
 obtain ⟨M, hM⟩ : ∃ M, 8 * s.size = M := ⟨_, rfl⟩
 have hM2 : 8 * (s.size : Int) = (M : Int) := by omega
 have hmk := mk_row (P := Tryz.prog) 42 5 _ _ Tryz.underlying42 u8info rfl ((M : Nat) : Int) M rfl (by omega) (by omega);rw [bc_replicate] at hmk
 have hr0 : List.replicate M 0 = rows s 0 := by simp [rows, rbits, hM]
 rw [hr0] at hmk;have HM := hide hM;have Hh := hide h;clear hl hx2 hr0 h hM
 go_enter Tryz.func77, Tryz.ntmps77
 go_wp2
 go_loopw [5] (fun i wr => ∃ k : Nat, k ≤ M ∧ i = .int .i64 k ∧ Bk wr w.heap.size 5 (bc (rows s k)) ∧ Below w.heap.size w wr) (fun i _ => (M - intOf i).toNat)
 case atStart => exact ⟨0, by omega, rfl, Bk.new _ _ _, (Below.refl _ _).alloc (Nat.le_refl _) _⟩
 case round =>
  obtain ⟨k, hk, rfl, hbk, hf⟩ := hrel
  by_cases hkM : k < M
  ·obtain ⟨z, hz⟩ : ∃ z, k / 8 = z := ⟨_, rfl⟩
   have hzs : z < s.size := by have := HM.out; omega
   have hzs2 : (z : Int) < (s.size : Int) := by omega
   have i3 : (k : Int) / 8 = (z : Int) := by omega
   have hlen := rows_length s k (by have := HM.out; omega);have hcl := hbk.cell k;rw [bc_get _ _ (by have := HM.out; omega)] at hcl;have hfk := hbk.frozen k;have Hfa := hide (fill_arith s k z hz hzs);have Hsucc := hide (rows_succ s k (by have := HM.out; omega));clear hz
   go_wp2
   go_roundw
   case rel =>
    refine ⟨k + 1, by omega, by go_num, ?_, hf.setCell (p := ⟨w.heap.size, k, none⟩) (Nat.le_refl _) _⟩;rw [Hfa.out];have := hbk.put k (.int .u8 ((dig (rbit s k)).toNat : Int));rw [bc_set _ _ _ (by omega) (by have := UInt8.toNat_lt (dig (rbit s k)); omega), Int.toNat_natCast] at this;rw [Hsucc.out]
    simpa using this
   case measure => simp [intOf]; omega
  ·have hkM2 : k = M := by omega
   subst hkM2;have hk8 := HM.out
   have hall : Bk wr w.heap.size 5 (bc (rows s (8 * s.size))) := by rw [hk8]; exact hbk
   have Hall := hide hall;clear hbk hall hk8 hmk
   go_wp2
   go_loop [6] (fun i => ∃ j : Nat, n ≤ j ∧ j < k ∧ i = .int .i64 j) (fun i => (intOf i).toNat)
   case atStart => exact ⟨k - 1, by have := HM.out; omega, by have := HM.out; omega, by congr 1; have := HM.out; omega⟩
   case round =>
    obtain ⟨j, hj1, hj2, rfl⟩ := hrel;have hcl := Hall.out.cell j;have hg8 := HM.out;rw [bc_get _ _ (by rw [rows_length _ _ (Nat.le_refl _)]; omega), rows_get s _ j (by omega), dig_nat] at hcl;clear hg8
    by_cases hbit : rbit s j = true
    ·have hjn : j = n := by
      rcases Nat.lt_or_ge n j with h9 | h9
      ·have := Hh.out.2.2 j h9 (by have := HM.out; omega)
       rw [hbit] at this; cases this
      ·omega
     have e1 : (((48 + (rbit s j).toNat : Nat) : Int) == 48) = false := by rw [hbit]; rfl
     have hcv := conv_all (P := Tryz.prog) 42 9 5 Tryz.underlying42 Tryz.underlying5 Tryz.underlying9 wr w.heap.size j k ((rbits s j).map dig) ((rows s (8 * s.size)).drop j) (by rw [← rows_take s j (by have := HM.out; omega)]; exact Hall.out) (by simp [rbits_length]);have hd := hide (show decide ((j : Int) ≤ 65536) = decide (n ≤ 65536) from by rw [hjn]; simp; omega);have Hjn := hide hjn;clear hbit hjn
     generalize ((48 + (rbit s j).toNat : Nat) : Int) = y at *
     go_wp2
     go_ret2
     exact ⟨ret_sb (by rw [← Hjn.out]; rfl) hd.out, hf⟩
    ·have hbf : rbit s j = false := by simpa using hbit
     have hne : n ≠ j := fun e => by
      have := Hh.out.2.1
      rw [e, hbf] at this; cases this
     have e1 : (((48 + (rbit s j).toNat : Nat) : Int) == 48) = true := by rw [hbf]; rfl
     clear hbit hbf
     generalize ((48 + (rbit s j).toNat : Nat) : Int) = y at *
     go_wp2
     go_round
     case rel => exact ⟨j - 1, by omega, by omega, by congr 1; omega⟩
     case measure => simp [intOf]; omega
theorem refread_few (s : ByteArray) (w : World) (h : s.size = 0 ∨ s.data.toList.getD (s.size - 1) 0 = 0 ∨ 8193 < s.size) (h9 : s.size ≤ 9223372036854775807) :
  Calls Tryz.prog 77 #[.string s] w fun e w' => e = .returned (.tuple #[.string ⟨#[]⟩, .bool false]) ∧ Below w.heap.size w w' := by
 by_cases h0 : s.size = 0
 ·have hs0 : ((s.size : Int) == 0) = true := by rw [beq_iff_eq]; omega
  clear h h0
  go_enter Tryz.func77, Tryz.ntmps77
  go_wp2
  go_ret2
  exact ⟨rfl, Below.refl _ _⟩
 ·have hlt : s.size - 1 < s.size := by omega
  have hpos : 0 < s.size := by omega
  obtain ⟨x, hx⟩ : ∃ x, s[s.size - 1] = x := ⟨_, rfl⟩
  have hx2 : s.data.toList.getD (s.size - 1) 0 = x := by
   rw [← hx];simp only [List.getD, Array.getElem?_toList];rw [Array.getElem?_eq_getElem (show s.size - 1 < s.data.size from hlt)];rfl
  have hs0 : ((s.size : Int) == 0) = false := by rw [beq_eq_false_iff_ne]; omega
  by_cases hz : x = 0
  ·have hb : ((x.toNat : Int) == 0) = true := by rw [hz]; rfl
   clear h h0 hx2 hz
   go_enter Tryz.func77, Tryz.ntmps77
   go_wp2
   go_ret2
   exact ⟨rfl, Below.refl _ _⟩
  ·have h8 : 8193 < s.size := by
    rcases h with h | h | h
    ·omega
    ·exact (hz (hx2.symm.trans h)).elim
    ·exact h
   have hb : ((x.toNat : Int) == 0) = false := by
    rw [beq_eq_false_iff_ne];intro e
    exact hz (by
     have e2 : x.toNat = 0 := by omega
     have := congrArg UInt8.ofNat e2
     simpa using this)
   clear h h0 hx2 hz
   go_enter Tryz.func77, Tryz.ntmps77
   go_wp2
   go_ret2
   exact ⟨rfl, Below.refl _ _⟩
theorem refread_none (s : ByteArray) (w : World) (h : nrd s = none) (h9 : s.size ≤ 9223372036854775807) :
  Calls Tryz.prog 77 #[.string s] w fun e w' => (∃ t, e = .returned (.tuple #[.string t, .bool false])) ∧ Below w.heap.size w w' := by
 by_cases h0 : s.size = 0 ∨ s.data.toList.getD (s.size - 1) 0 = 0 ∨ 8193 < s.size
 ·exact (refread_few s w h0 h9).mono fun e w' ⟨a, b⟩ => ⟨⟨_, a⟩, b⟩
 ·have a1 : s.size ≠ 0 := fun e => h0 (.inl e)
  have a2 : s.data.toList.getD (s.size - 1) 0 ≠ 0 := fun e => h0 (.inr (.inl e))
  have a3 : s.size ≤ 8193 := by
   rcases Nat.lt_or_ge 8193 s.size with c | c
   ·exact (h0 (.inr (.inr c))).elim
   ·exact c
  have hl := last_of s a1 a2;have hn := nrd_of hl a1 a2;rw [h] at hn;have hm := refread_main s w _ hl a3 a2
  rw [show decide (8 * s.size - 1 - Lib.trailingZeros8 (s.data.toList.getD (s.size - 1) 0).toNat ≤ 65536) = false from by
   rw [decide_eq_false_iff_not];intro c;rw [if_neg (by omega)] at hn
   cases hn] at hm
  exact hm.mono fun e w' ⟨a, b⟩ => ⟨⟨_, a⟩, b⟩
theorem refread_some (s : ByteArray) (w : World) (n : Nat) (h : nrd s = some n) :
  Calls Tryz.prog 77 #[.string s] w fun e w' => e = .returned (.tuple #[.string (txt (rbits s n)), .bool true]) ∧ Below w.heap.size w w' := by
 obtain ⟨a1, a2, a3⟩ := nrd_le h
 have hl : s.data.toList.getD (s.size - 1) 0 ≠ 0 := fun e => by rw [nrd_none1 e] at h; cases h
 have := refread_main s w n a2 a3 hl;rw [show decide (n ≤ 65536) = true from by simpa using a1] at this;exact this
end Go.Proofs.YtoeeblldgoccoaaGreat.Bio
namespace Go.Proofs.YtoeeblldgoccoaaGreat
open Go.RowKit Go.Proofs Wv Wv.Vi Wv.Rc Wv.Mo Wv.Ru Wv.Tm Wv.Bc
theorem ires_own {w : World} {base n : Nat} {v : Value} {l : List Int} (h : w.ownsRow base 3 1 v n (ivs l)) (hn : n = l.length) : IRes w v l := by
 obtain ⟨A, cap, hv, hat⟩ := own_at h;exact ⟨A, cap, by rw [hv, hn], hat⟩
theorem ivs_snoc1 (a : List Int) (x : Int) : ivs (a ++ [x]) = ivs a ++ [.int .i64 x] := by simp [ivs, iv]
theorem ngaps_any {w : World} {A : Option Addr} {l : List Int} (ha : At w A (ivs l)) (n cap : Nat) (hn : n = l.length) (hv : validT l = true) :
  Calls Tryz.prog 73 #[.slice A n cap] w fun x w' => ∃ v, x = .returned v ∧ IRes w' v (gapsT l) ∧ Below w.heap.size w w' := by
 obtain ⟨v1, v2, v3⟩ := validT_iff.1 hv
 have hn4 : n ≤ 4096 := by omega
 have Ha := hide ha;have Hn := hide hn;have Hv2 := hide v2;have Hlen : Hid ((gapsT l).length = n) := hide (by unfold gapsT; rw [gp_length, hn]);have ho0 := hide (own_made0 3 w);have hb0 := hide ((Below.refl w.heap.size w).alloc (Nat.le_refl _) (.cells #[] 3));clear ha hn hv v1 v2 v3
 go_enter Tryz.func73, Tryz.ntmps73
 go_wp2
 go_loopw [3, 4] (fun s3 s4 wr => ∃ (i : Nat) (last : Int) (G : List Int), i ≤ n ∧ -1 ≤ last ∧ last ≤ 1099511627776 ∧ s4 = .int .i64 (i : Int) ∧ Hid (gapsT l = G ++ gp last (l.drop i)) ∧ Hid (G.length = i) ∧ Hid ((i = 0 → last = -1) ∧ ∀ j, i = j + 1 → (ivs l)[j]? = some (.int .i64 last)) ∧ Hid (wr.ownsRow w.heap.size 3 1 s3 i (ivs G)) ∧ Hid (Below w.heap.size w wr)) (fun _ s4 _ => (n - intOf s4).toNat)
 case atStart => exact ⟨0, -1, [], Nat.zero_le _, by omega, by omega, rfl, hide rfl, hide rfl, hide ⟨fun _ => rfl, fun j h => by omega⟩, ho0, hb0⟩
 case round =>
  clear ho0 hb0;obtain ⟨i, last, G, hi, hl1, hl2, rfl, hG, hGl, hlast, hown, hb⟩ := hrel
  by_cases hlt : i < n
  ·have hil : i < l.length := by rw [← Hn.out]; exact hlt
   have hd : l.drop i = l[i] :: l.drop (i + 1) := List.drop_eq_getElem_cons hil;have hget := ivs_atC l i hil;have hx2 := Hv2.out l[i] (List.getElem_mem _);obtain ⟨x, hx⟩ : ∃ x, l[i] = x := ⟨_, rfl⟩;rw [hx] at hd hget hx2;obtain ⟨b, o, hA, hbA, hc0⟩ := Ha.out.get i _ hget;subst hA;have Hget := hide hget;obtain ⟨hx3, hx4⟩ := hx2;have hc : wr.cell? ⟨b, o + i, none⟩ = some (.int .i64 x) := (hb.out.cell (p := ⟨b, o + i, none⟩) hbA).trans hc0;have Hn1 : Hid ((i + 1 = 0 → x = -1) ∧ ∀ j, i + 1 = j + 1 → (ivs l)[j]? = some (.int .i64 x)) := hide ⟨fun h => by omega, fun j h => by rw [← Nat.succ.inj h]; exact Hget.out⟩;have HG : Hid (gapsT l = (G ++ [x - last - 1]) ++ gp x (l.drop (i + 1))) := hide (by rw [hG.out, hd, List.append_assoc]; rfl);have HGl : Hid ((G ++ [x - last - 1]).length = i + 1) := hide (by rw [List.length_append, hGl.out]; rfl)
   have hlti0 : (0 : Int) ≤ (i : Int) := by omega
   have hlti : (i : Int) < (n : Int) := by omega
   obtain ⟨g, hg⟩ : ∃ g, x - last - 1 = g := ⟨_, rfl⟩;rw [hg] at HG HGl
   rcases Nat.eq_zero_or_pos i with h0 | h0
   ·have hd3 : ((i : Int) == 0) = true := by simp; omega
    have hla := hlast.out.1 h0
    have hgx : g = x := by omega
    subst hgx
    have hcz : wr.cell? ⟨b, o, none⟩ = some (.int .i64 g) := by rw [h0] at hc; exact hc
    obtain ⟨v', w4, hrun, hown1, hf1, _⟩ := app_own (P := Tryz.prog) 85 3 _ _ Tryz.underlying85 intinf rfl (w := wr) hown.out hb.out hb.out.size (.int .i64 g) rfl (by unfold maxLen; omega) (by omega);have Hrun := hide hrun;have Hown1 : Hid (w4.ownsRow w.heap.size 3 1 v' (i + 1) (ivs (G ++ [g]))) := hide (by rw [ivs_snoc1]; exact hown1);have Hf1 := hide hf1
    have hn0 : (0 : Int) < (n : Int) := by omega
    clear hil hd hget hx hG hGl hlast hown hb hc0 hc hg hla hrun hown1 hf1 h0
    go_wp2_with (
     at_builtin
     refine wpList_run (by with_reducible rfl) rfl _ _ _ rfl _ _ (by rfl) (by rfl) Hrun.out ?_)
    refine ⟨⟨i + 1, g, _, hlt, by omega, hx4, by go_num, HG, HGl, Hn1, Hown1, Hf1⟩, ?_⟩
    simp [intOf] <;> omega
   ·have hd3 : ((i : Int) == 0) = false := by rw [beq_eq_false_iff_ne]; omega
    obtain ⟨j, hj⟩ : ∃ j, i - 1 = j := ⟨_, rfl⟩
    have hij : i = j + 1 := by omega
    obtain ⟨b', o', hA', hb', hc1⟩ := Ha.out.get j _ (hlast.out.2 j hij)
    injection hA' with hA'
    injection hA' with hA1 hA2
    subst hA1; subst hA2
    have hcj : wr.cell? ⟨b, o + j, none⟩ = some (.int .i64 last) := (hb.out.cell (p := ⟨b, o + j, none⟩) hb').trans hc1
    have hj0 : (0 : Int) ≤ (j : Int) := by omega
    have hj1 : (j : Int) < (n : Int) := by omega
    obtain ⟨d, hdd⟩ : ∃ d, x - last = d := ⟨_, rfl⟩
    have ik : IntKind.i64.wrap ((i : Int) - 1) = (j : Int) := by rw [IntWalk.i64_in _ (by omega)]; omega
    have ij : IntKind.i64.wrap (j : Int) = (j : Int) := by rw [IntWalk.i64_in _ (by omega)]
    have i1 : IntKind.i64.wrap (x - last) = d := by rw [IntWalk.i64_in _ (by omega)]; omega
    have i2 : IntKind.i64.wrap (d - 1) = g := by rw [IntWalk.i64_in _ (by omega)]; omega
    obtain ⟨A5, M5, cap5, rfl⟩ := own_slice hown.out;obtain ⟨v', w4, hrun, hown1, hf1, _⟩ := app_own (P := Tryz.prog) 85 3 _ _ Tryz.underlying85 intinf rfl (w := wr.drew) hown.out (hb.out.drew) hb.out.size (.int .i64 g) rfl (by unfold maxLen; omega) (by omega);obtain ⟨A6, M6, cap6, rfl⟩ := own_slice hown1;have Hrun := hide (show (Builtin.append_ #[85, 85] 85 #[.slice A5 M5 cap5, .slice (some ⟨wr.heap.size, 0, none⟩) 1 1]).run Tryz.prog (wr.alloc (.cells #[.int .i64 g] 3)).drew = .ok (.slice A6 M6 cap6) w4 from hrun);have Hown1 : Hid (w4.ownsRow w.heap.size 3 1 (.slice A6 M6 cap6) (i + 1) (ivs (G ++ [g]))) := hide (by rw [ivs_snoc1]; exact hown1);have Hf1 := hide hf1;clear hil hd hget hx hG hGl hlast hown hb hc0 hg hrun hown1 hf1 h0 hdd hj hij hb' hc1;have n0 := World.new_ne _ _ hc;have n1 := World.new_ne _ _ hcj
    go_wp2
    go_region_law ((refine step_runW (by with_reducible rfl) (by rfl) _ _ _ (by rfl) _ _ (by rfl) (by rfl) Hrun.out ?_))
    all_goals
     go_wp2
     refine ⟨⟨i + 1, x, _, hlt, by omega, hx4, by go_num, HG, HGl, Hn1, Hown1, Hf1⟩, ?_⟩
     simp [intOf] <;> omega
  ·have hiN : i = n := by omega
   subst hiN;have hG2 := hG.out;rw [List.drop_eq_nil_of_le (by rw [← Hn.out]; exact Nat.le_refl _)] at hG2
   have hG3 : gapsT l = G := by rw [hG2]; exact List.append_nil _
   obtain ⟨A5, M5, cap5, rfl⟩ := own_slice hown.out;have Hres : Hid (IRes wr (.slice A5 M5 cap5) (gapsT l)) := hide (ires_own (by rw [hG3]; exact hown.out) (by rw [Hlen.out]));clear hG2 hG3 hG hGl hown hlast
   go_wp2
   go_ret
   exact ⟨_, rfl, Hres.out, hb.out⟩
theorem ext_one (L : List UInt8) (k : Nat) (h : k < L.length) : (bs L).extract k (k + 1) = bs [L[k]'h] := by
 apply ByteArray.ext
 apply Array.toList_inj.1
 simp only [bs, ByteArray.data_extract, Array.toList_extract, List.extract_eq_take_drop, List.toList_toArray];rw [Nat.add_sub_cancel_left, List.drop_eq_getElem_cons h];rfl
theorem hi_dig {c : UInt8} (h : cd c < 4) : bs [hiC c] = Bit.txt [decide (2 ≤ cd c)] ∧ bs [loC c] = Bit.txt [decide (cd c % 2 = 1)] := by
 unfold hiC loC
 rcases (show cd c = 0 ∨ cd c = 1 ∨ cd c = 2 ∨ cd c = 3 by omega) with h0 | h0 | h0 | h0 <;> rw [h0] <;> exact ⟨rfl, rfl⟩
theorem num_szA (k : Nat) : (bs (num k)).size ≤ 9 := by rw [bs_size, num_length]; have := kof_le k; omega
def pkR (l : List ByteArray) : List UInt8 × Nat := match codP l with
 | none => ([], 9)
 | some s => (s, 0)
theorem a14packed_any {w : World} {A : Option Addr} {l : List ByteArray} (ha : At w A (svs l)) (hv : ∀ s ∈ l, isV (toL s) = true) (n cap : Nat) (hn : n = l.length) (hm : n ≤ 4096) :
  Calls Tryz.prog 37 #[.slice A n cap] w fun x w' => ERes w (pkR l) x w' := by
 have Ha := hide ha;have Hn := hide hn
 have hsz : ∀ s ∈ l, s.size ≤ 128 := fun s hs => by rw [← toL_length]; exact (isV_iff.1 (hv s hs)).2.2
 have Hsz := hide hsz
 have Hpl := hide (fun (s : ByteArray) (hs : s ∈ l) W => (by
  have := aplanes_any (toL s) (by rw [toL_length]; have := hsz s hs; omega) (hv s hs) W;rw [bs_toL] at this
  exact this : Calls Tryz.prog 69 #[.string s] W fun x w' => x = .returned (.tuple #[.string (bs ((toL s).map loC)), .string (bs ((toL s).map hiC))]) ∧ Below W.heap.size W w'))
 have Hcd := hide (fun (s : ByteArray) (hs : s ∈ l) => (isV_iff.1 (hv s hs)).1);have HN := hide (fun W => rnumber_any (n : Int) (by omega) (by omega) W);rw [Int.toNat_natCast] at HN;have HB := hide (fun (h : (bitsL l).length ≤ 65536) W => Bio.refbytes_any (bitsL l) W h)
 have hbz := fun (h : (bitsL l).length ≤ 65536) => (show (Bit.bstr (bitsL l)).size ≤ 8193 by rw [Bit.bstr_size]; omega)
 have Hbz := hide hbz;have hnz := num_szA n
 have hp1 : (bitsL l).length ≤ 65536 → bs (pkR l).1 = bs (num n) ++ Bit.bstr (bitsL l) ∧ (pkR l).2 = 0 := fun h => by
  unfold pkR codP;rw [if_neg (by omega), ← hn];refine ⟨?_, rfl⟩
  show bs (num n ++ toL (Bit.bstr (bitsL l))) = _
  rw [← bs_append, bs_toL]
 have hp2 : 65536 < (bitsL l).length → pkR l = ([], 9) := fun h => by
  unfold pkR codP;rw [if_pos h]
 have Hp1 := hide hp1;have Hp2 := hide hp2;obtain ⟨R, hR⟩ : ∃ R, pkR l = R := ⟨_, rfl⟩;rw [hR] at Hp1 Hp2 ⊢;have Htk := hide (fun j (h : j < l.length) => bitsL_take l j h);have Hge := hide (fun j (h : j < l.length) => bitsL_ge l j (toL l[j]).length h);have Hle := hide (fun j => bitsL_le l j);have Hlen := hide (fun v => bitsV_len v);have H0 : Hid (Bit.txt (bitsL (l.take 0)) = ⟨#[]⟩) := hide rfl;have Htl := hide (List.take_of_length_le (l := l) (i := n) (by omega));have Hts := hide (fun L => Bit.txt_size L);have Hap := hide (fun a b => Bit.txt_append a b);obtain ⟨BL, hBL⟩ : ∃ B, bitsL l = B := ⟨_, rfl⟩;rw [hBL] at HB Hbz Hp1 Hp2 Hge Hle;have HBL := hide hBL
 generalize bs (num n) = S0 at *
 clear ha hn hsz hv hbz hp1 hp2 hR hBL
 go_enter Tryz.func37, Tryz.ntmps37
 go_wp2
 go_loopw [4, 5] (fun s4 s5 wr => ∃ i : Nat, i ≤ n ∧ s5 = .int .i64 (i : Int) ∧ s4 = .string (Bit.txt (bitsL (l.take i))) ∧ (bitsL (l.take i)).length ≤ 65536 ∧ Hid (Below w.heap.size w wr)) (fun _ s5 _ => (n - intOf s5).toNat)
 case atStart => exact ⟨0, Nat.zero_le _, rfl, by rw [H0.out], Nat.zero_le _, hide (Below.refl _ _)⟩
 case round =>
  obtain ⟨i, hi, rfl, rfl, hbl, hb⟩ := hrel
  by_cases hlt : i < n
  ·have hil : i < l.length := by rw [← Hn.out]; exact hlt
   obtain ⟨b, o, rfl, hbA, hc0⟩ := sv_cell Ha.out i hil;have hc : wr.cell? ⟨b, o + i, none⟩ = some (.string (l[i]'hil)) := (hb.out.cell (p := ⟨b, o + i, none⟩) hbA).trans hc0;have hmem : l[i]'hil ∈ l := List.getElem_mem _;have htk := Htk.out i hil;have hge := Hge.out i hil;obtain ⟨S, hS⟩ : ∃ S, l[i]'hil = S := ⟨_, rfl⟩;rw [hS] at hc hmem htk hge;have hS8 := Hsz.out S hmem;have hts := Hts.out (bitsL (l.take i))
   have hi0 : (0 : Int) ≤ (i : Int) := by omega
   have hi1 : (i : Int) < (n : Int) := by omega
   obtain ⟨L, hL⟩ : ∃ L, bitsL (l.take i) = L := ⟨_, rfl⟩;rw [hL] at hbl hts htk ⊢
   have hge2 : L.length + 2 * S.size ≤ BL.length := by
    have h1 := Hle.out (i + 1);rw [htk, List.length_append, Hlen.out, toL_length] at h1;exact h1
   by_cases hfar : 65536 < L.length + 2 * S.size
   ·have HRn := hide (Hp2.out (by omega))
    have hfi : (65536 : Int) < ((Bit.txt L).size : Int) + 2 * (S.size : Int) := by rw [hts]; omega
    generalize Bit.txt L = T at *
    clear hil hmem htk hge hS hc0 hfar Hpl Htk Hge Hle Hcd
    go_wp2
    go_returns
    rw [HRn.out];exact ⟨rfl, hb.out⟩
   ·have hfi : ¬ (65536 : Int) < ((Bit.txt L).size : Int) + 2 * (S.size : Int) := by rw [hts]; omega
    have K := hide (Hpl.out S hmem wr);have hcds := Hcd.out S hmem;have Hcds := hide hcds
    have hm1 : (bs ((toL S).map loC)).size = S.size := by rw [bs_size, List.length_map, toL_length]
    have hm2 : (bs ((toL S).map hiC)).size = S.size := by rw [bs_size, List.length_map, toL_length]
    have Hx := hide (fun k (hk : k < (toL S).length) => And.intro (ext_one ((toL S).map loC) k (by rw [List.length_map]; exact hk)) (ext_one ((toL S).map hiC) k (by rw [List.length_map]; exact hk)));simp only [List.getElem_map] at Hx;have Hbt := hide (fun k (hk : k < (toL S).length) => bitsV_take (toL S) k hk);have Hln := hide (toL_length S);have Htn := hide (show bitsL (l.take (i + 1)) = L ++ bitsV ((toL S).take S.size) by rw [htk, List.take_of_length_le (by rw [toL_length]; exact Nat.le_refl _)]);have hts2 := hts;have H00 : Hid (Bit.txt (L ++ bitsV ((toL S).take 0)) = Bit.txt L) := hide (by show Bit.txt (L ++ []) = _; rw [List.append_nil]);obtain ⟨Z, hZ⟩ : ∃ z, S.size = z := ⟨_, rfl⟩;rw [hZ] at hm1 hm2 hfi hfar hS8 Hln Htn;obtain ⟨SL, hSL⟩ : ∃ s, bs ((toL S).map loC) = s := ⟨_, rfl⟩;obtain ⟨SH, hSH⟩ : ∃ s, bs ((toL S).map hiC) = s := ⟨_, rfl⟩;rw [hSL] at hm1 Hx K;rw [hSH] at hm2 Hx K;have HZ := hide hZ;clear hil hmem htk hge hS hc0 Hpl Htk Hge hge2 hSL hSH hcds hZ
    have hZS : (S.size : Int) = (Z : Int) := by rw [HZ.out]
    go_wp2_with fail
    refine (K.out).mono ?_;rintro x w1 ⟨rfl, hb1⟩;have Hb1 := hide (hb.out.trans (hb1.mono hb.out.size));clear hb1 hb K hc
    go_wp2
    go_loopw [4, 8] (fun s4 s8 wq => ∃ k : Nat, k ≤ Z ∧ s8 = .int .i64 (k : Int) ∧ s4 = .string (Bit.txt (L ++ bitsV ((toL S).take k))) ∧ Hid (Below w.heap.size w wq)) (fun _ s8 _ => (Z - intOf s8).toNat)
    case atStart => exact ⟨0, Nat.zero_le _, rfl, by rw [H00.out], Hb1⟩
    case round =>
     clear Hb1;obtain ⟨k, hk, rfl, rfl, hbq⟩ := hrel
     by_cases hlk : k < Z
     ·have hkl : k < (toL S).length := by rw [Hln.out]; exact hlk
      obtain ⟨x1, x2⟩ := Hx.out k hkl;have hbt := Hbt.out k hkl;have hcd := Hcds.out ((toL S)[k]'hkl) (List.getElem_mem _);obtain ⟨c, hcc⟩ : ∃ c, (toL S)[k]'hkl = c := ⟨_, rfl⟩;rw [hcc] at x1 x2 hbt hcd;obtain ⟨d1, d2⟩ := hi_dig hcd;rw [d2] at x1;rw [d1] at x2;obtain ⟨m, hmk⟩ : ∃ m, k + 1 = m := ⟨_, rfl⟩;rw [hmk] at x1 x2
      have ik : IntKind.i64.wrap ((k : Int) + 1) = (m : Int) := by rw [IntWalk.i64_in _ (by omega)]; omega
      have hkm : (k : Int) ≤ (m : Int) := by omega
      have hkmn : k ≤ m := by omega
      have hmZ : (m : Int) ≤ (Z : Int) := by omega
      have hmZn : m ≤ Z := by omega
      have hm0 : (0 : Int) ≤ (m : Int) := by omega
      have Hmk := hide hmk
      have hki0 : (0 : Int) ≤ (k : Int) := by omega
      have hki1 : (k : Int) < (Z : Int) := by omega
      have hsl : (SL.size : Int) = (Z : Int) := by rw [hm1]
      have hsh : (SH.size : Int) = (Z : Int) := by rw [hm2]
      have hql : ((L ++ bitsV ((toL S).take k)).length) ≤ 65536 := by
       rw [List.length_append, Hlen.out, List.length_take, Hln.out];omega
      have htx := Hts.out (L ++ bitsV ((toL S).take k))
      have Hnx : Hid (Bit.txt (L ++ bitsV ((toL S).take k)) ++ Bit.txt [decide (2 ≤ cd c)] ++ Bit.txt [decide (cd c % 2 = 1)] = Bit.txt (L ++ bitsV ((toL S).take m))) := hide (by
       rw [← hmk, hbt, ← Bit.txt_append, ← Bit.txt_append, List.append_assoc, List.append_assoc]
       rfl)
      have z1 : (Bit.txt [decide (2 ≤ cd c)]).size ≤ 1 := by rw [Bit.txt_size]; exact Nat.le_refl _
      have z2 : (Bit.txt [decide (cd c % 2 = 1)]).size ≤ 1 := by rw [Bit.txt_size]; exact Nat.le_refl _
      generalize Bit.txt [decide (2 ≤ cd c)] = X1 at *
      generalize Bit.txt [decide (cd c % 2 = 1)] = X2 at *
      obtain ⟨T, hT⟩ : ∃ t, Bit.txt (L ++ bitsV ((toL S).take k)) = t := ⟨_, rfl⟩;rw [hT] at htx Hnx ⊢;have e1 := nosumC (a := T.size) (b := X1.size) (by omega);have e2 := nosumC (a := T.size + X1.size) (b := X2.size) (by omega);clear hmk hkl hbt hcd hcc d1 d2 hT Hx Hbt Hcds Htn htx hql
      go_wp2
      go_quiet (fail)
      go_wp2
      refine ⟨⟨m, hmZn, by first | rfl | (have := Hmk.out; go_num), by rw [Hnx.out], hide (bdN hbq.out nq)⟩, ?_⟩;have := Hmk.out
      simp [intOf] <;> omega
     ·have hkZ : k = Z := by omega
      have hsl : (SL.size : Int) = (Z : Int) := by rw [hm1]
      have hend : ¬ (k : Int) < (Z : Int) := by omega
      have hln : (bitsL (l.take (i + 1))).length ≤ 65536 := by
       rw [Htn.out, List.length_append, Hlen.out, List.length_take, Hln.out];omega
      have Hnx := hide (show Bit.txt (L ++ bitsV ((toL S).take k)) = Bit.txt (bitsL (l.take (i + 1))) by rw [Htn.out, hkZ]);clear hkZ Hx Hbt Hcds Htn
      go_wp2
      refine ⟨⟨i + 1, hlt, by go_num, by rw [Hnx.out], hln, hbq⟩, ?_⟩
      simp [intOf] <;> omega
  ·have hin : i = n := by omega
   have hend : ¬ (i : Int) < (n : Int) := by omega
   have hall : bitsL (l.take i) = BL := by rw [hin, Htl.out, HBL.out]
   rw [hall] at hbl ⊢;have K1 := hide (HB.out hbl);obtain ⟨r1, r2⟩ := Hp1.out hbl;have hbz := Hbz.out hbl;have hsum := nosumC (a := S0.size) (b := (Bit.bstr BL).size) (by omega);have Hr := hide (And.intro r1 r2)
   generalize Bit.bstr BL = SB at *
   generalize Bit.txt BL = T at *
   clear hin hall r1 r2 HB Hp1 Hp2 Hpl Htk Hge Hle Hcd Hbz
   go_wp2_with fail
   refine (HN.out _).mono ?_;rintro x w2 ⟨rfl, hb2⟩;have Hb2 := hide (hb.out.trans (hb2.mono hb.out.size));clear hb2 hb HN
   go_wp2_with fail
   refine (K1.out _).mono ?_;rintro x w3 ⟨rfl, hb3⟩;have Hb3 := hide (Hb2.out.trans (hb3.mono Hb2.out.size));clear hb3 Hb2 K1
   go_wp2
   go_returns
   exact ⟨by rw [Hr.out.1, Hr.out.2]; rfl, Hb3.out⟩
theorem cd_dig (b : Bool) : cd (Bit.dig b) = b.toNat := by cases b <;> decide
theorem kn_dig {l : List Bool} (h1 : 1 ≤ l.length) (h2 : l.length ≤ 128) : knV (l.map Bit.dig) = true :=
 knV_iff.2 ⟨fun c hc => by
  obtain ⟨b, _, rfl⟩ := List.mem_map.1 hc;rw [cd_dig]
  cases b <;> decide, fun e => by
  have := congrArg List.length e;rw [List.length_map] at this
  simp at this
  rw [this] at h1
  simp at h1, by rw [List.length_map]; exact h2⟩
theorem fp_dig (l h : Bool) : fpC (Bit.dig l) (Bit.dig h) = ch (2 * h.toNat + l.toNat) := by
 unfold fpC;rw [cd_dig, cd_dig, Nat.add_comm]
def lowP (L : List Bool) (a j : Nat) : List Bool := (List.range j).map (fun q => L.getD (a + 2 * q + 1) false)
def higP (L : List Bool) (a j : Nat) : List Bool := (List.range j).map (fun q => L.getD (a + 2 * q) false)
theorem lowP_succ (L : List Bool) (a j : Nat) : lowP L a (j + 1) = lowP L a j ++ [L.getD (a + 2 * j + 1) false] ∧ higP L a (j + 1) = higP L a j ++ [L.getD (a + 2 * j) false] := by
 unfold lowP higP;rw [List.range_succ, List.map_append, List.map_append];exact ⟨rfl, rfl⟩
theorem lowP_len (L : List Bool) (a j : Nat) : (lowP L a j).length = j ∧ (higP L a j).length = j := by unfold lowP higP; simp
theorem planes_val (L : List Bool) (a m : Nat) : List.zipWith fpC ((lowP L a m).map Bit.dig) ((higP L a m).map Bit.dig) = valOf m (L.drop a) := by
 rw [valOf_range];unfold lowP higP;rw [List.map_map, List.map_map]
 induction m with
 | zero => rfl
 | succ m ih =>
  rw [List.range_succ, List.map_append, List.map_append, List.map_append, List.zipWith_append (by simp), ih]
  congr 1
  show [fpC (Bit.dig _) (Bit.dig _)] = [chAt (L.drop a) m]
  rw [fp_dig];unfold chAt;rw [getD_drop, getD_drop];rfl
theorem txt_bs (l : List Bool) : Bit.txt l = bs (l.map Bit.dig) := rfl
theorem ext_txt (L : List Bool) (k : Nat) (h : k < L.length) : (Bit.txt L).extract k (k + 1) = Bit.txt [L.getD k false] := by
 rw [txt_bs, ext_one _ k (by rw [List.length_map]; exact h), List.getElem_map];rw [List.getD_eq_getElem?_getD, List.getElem?_eq_getElem h];rfl
theorem exr_none {w w' : World} {A : Option Addr} {n c : Nat} {o : Option (List ByteArray)} (hb : Below w.heap.size w w') (ho : o = none) : ExR w o (.returned (.tuple #[.slice A n c, .bool false])) w' := by
 subst ho;exact ⟨hb, _, _, _, rfl⟩
theorem a14unpack_any (m : Nat) (hm1 : 1 ≤ m) (hm : m ≤ 128) (s : ByteArray) (hs : s.size ≤ 1000000000) (w : World) :
  Calls Tryz.prog 43 #[.int .i64 (m : Int), .string s] w fun x w' => ExR w (readPl (m : Int) (toL s)) x w' := by
 have HR := hide (rread_any (s := s) (by omega) w)
 obtain ⟨nn, zz, hrk, hzs, hz0⟩ : ∃ nn zz : Nat, rk s = .tuple #[.int .i64 (nn : Int), .int .i64 (zz : Int)] ∧ zz ≤ s.size ∧ ((zz = 0 ∧ rd (toL s) = none) ∨ (1 ≤ zz ∧ rd (toL s) = some (nn, zz))) := by
  cases h : rd (toL s) with
  | none => exact ⟨0, 0, rk_none h, Nat.zero_le _, .inl ⟨rfl, rfl⟩⟩
  | some p =>
   obtain ⟨n, z⟩ := p;obtain ⟨h1, h2, h3, h4⟩ := rd_le h;rw [toL_length] at h3;exact ⟨n, z, rk_some h, by omega, .inr ⟨by omega, rfl⟩⟩
 rw [hrk] at HR;have hex : s.extract zz s.size = bs ((toL s).drop zz) := ext_drop s zz;obtain ⟨r, hr⟩ : ∃ r, (toL s).drop zz = r := ⟨_, rfl⟩;rw [hr] at hex
 have hrl : r.length ≤ 1000000000 := by rw [← hr, List.length_drop, toL_length]; omega
 have HB : Hid (∀ W, Calls Tryz.prog 77 #[.string (bs r)] W fun x w' => (∃ T okb, x = .returned (.tuple #[.string T, .bool okb]) ∧ ((okb = false ∧ Bit.nrd (bs r) = none) ∨ (okb = true ∧ ∃ k, Bit.nrd (bs r) = some k ∧ T = Bit.txt (Bit.rbits (bs r) k)))) ∧ Below W.heap.size W w') := hide (fun W => by
  cases h : Bit.nrd (bs r) with
  | none => exact (Bio.refread_none (bs r) W h (by rw [bs_size]; omega)).mono fun x w' ⟨⟨t, ht⟩, hb⟩ => ⟨⟨t, false, ht, .inl ⟨rfl, rfl⟩⟩, hb⟩
  | some k => exact (Bio.refread_some (bs r) W k h).mono fun x w' ⟨ht, hb⟩ => ⟨⟨_, true, ht, .inr ⟨rfl, k, rfl, rfl⟩⟩, hb⟩)
 have hpl : readPl (m : Int) (toL s) = if zz = 0 ∨ 4096 < nn then none else match Bit.nrd (bs r) with
   | none => none
   | some k => if (k : Int) = 2 * nn * m then some (valsOf m nn (Bit.rbits (bs r) k)) else none := by
  unfold readPl rnum
  rcases hz0 with ⟨h0, h1⟩ | ⟨h0, h1⟩
  ·rw [h1, if_pos (.inl h0)]
  ·rw [h1]
   simp only
   by_cases h4 : 4096 < nn
   ·rw [if_pos h4, if_pos (.inr h4)]
   ·rw [if_neg h4, if_neg (by omega), hr, Int.toNat_natCast]
    rfl
 obtain ⟨R, hR⟩ : ∃ R, readPl (m : Int) (toL s) = R := ⟨_, rfl⟩;rw [hR] at hpl ⊢;have Hpl := hide hpl;have Hz0 := hide hz0
 have hzi : (zz : Int) ≤ (s.size : Int) := by omega
 have Hnr := hide (fun k => Bit.rbits_length (bs r) k)
 generalize bs r = SR at *
 clear hrk hpl hz0 hR hr hrl hs
 go_enter Tryz.func43, Tryz.ntmps43
 go_wp2_with fail
 refine (HR.out).mono ?_;rintro x w1 ⟨rfl, hb1⟩;have Hb1 := hide hb1;clear hb1 HR
 go_wp2_with fail
 refine (HB.out _).mono ?_;rintro x w2 ⟨⟨T, okb, rfl, hT⟩, hb2⟩;have Hb2 := hide (Hb1.out.trans (hb2.mono Hb1.out.size));clear hb2 Hb1 HB
 by_cases hz : zz = 0
 ·have HRn := hide (show R = none by rw [Hpl.out, if_pos (.inl hz)])
  have hzz : ((zz : Int) == 0) = true := by rw [hz]; rfl
  clear hT Hpl Hz0 hz
  go_wp2
  go_returns
  exact exr_none Hb2.out HRn.out
 have hzz : ((zz : Int) == 0) = false := by rw [beq_eq_false_iff_ne]; omega
 rcases hT with ⟨rfl, hnr⟩ | ⟨rfl, k, hnr, rfl⟩
 ·have HRn := hide (show R = none by rw [Hpl.out, hnr]; split <;> rfl)
  clear Hpl Hz0 hnr
  go_wp2
  go_returns
  exact exr_none Hb2.out HRn.out
 by_cases h4 : 4096 < nn
 ·have HRn := hide (show R = none by rw [Hpl.out, if_pos (.inr h4)])
  have h4i : (4096 : Int) < (nn : Int) := by omega
  generalize Bit.txt (Bit.rbits SR k) = T at *
  clear Hpl Hz0 hnr h4
  go_wp2
  go_returns
  exact exr_none Hb2.out HRn.out
 have h4i : ¬ (4096 : Int) < (nn : Int) := by omega
 have hR2 := Hpl.out;rw [if_neg (by omega), hnr] at hR2;simp only at hR2
 have hTl : (Bit.txt (Bit.rbits SR k)).size = k := by rw [Bit.txt_size, Hnr.out]
 obtain ⟨P2, hP2⟩ : ∃ p : Nat, 2 * m * nn = p := ⟨_, rfl⟩
 have hmn : 2 * (m : Int) * (nn : Int) = (P2 : Int) := by rw [← hP2, Int.natCast_mul, Int.natCast_mul]; rfl
 have hpb : P2 ≤ 1048576 := by
  rw [← hP2];have := Nat.mul_le_mul (show 2 * m ≤ 256 by omega) (show nn ≤ 4096 by omega);omega
 by_cases hk : k = P2
 case neg =>
  rw [if_neg (fun h => hk (by
   have h2 : (k : Int) = (P2 : Int) := by rw [h, ← hmn, Int.mul_assoc, Int.mul_comm (nn : Int), ← Int.mul_assoc]
   omega))] at hR2
  have HRn := hide hR2
  have hne : ((k : Int) != (P2 : Int)) = true := by rw [bne_iff_ne]; omega
  have hTi : ((Bit.txt (Bit.rbits SR k)).size : Int) = (k : Int) := by rw [hTl]
  generalize Bit.txt (Bit.rbits SR k) = T at *
  clear Hpl Hz0 hnr h4 hR2 hk hP2 hTl
  go_wp2
  go_returns
  exact exr_none Hb2.out HRn.out
 subst hk;rw [if_pos (by rw [← hmn, Int.mul_assoc, Int.mul_comm (m : Int), ← Int.mul_assoc])] at hR2
 have hne : ((k : Int) != (k : Int)) = false := by simp
 have hTi : ((Bit.txt (Bit.rbits SR k)).size : Int) = (k : Int) := by rw [hTl]
 have hLl : (Bit.rbits SR k).length = k := Hnr.out k;rw [valsOf_range] at hR2;obtain ⟨L, hL⟩ : ∃ L, Bit.rbits SR k = L := ⟨_, rfl⟩;rw [hL] at hR2 hTl hTi hLl ⊢;have HR2 := hide hR2
 have hvx : ∀ q (h : q < k), (Bit.txt L).extract q (q + 1) = Bit.txt [L.getD q false] := fun q h => ext_txt L q (by omega)
 have Hvx := hide hvx
 have Hfr : Hid (∀ (a : Nat) (W : World), Calls Tryz.prog 78 #[.string (Bit.txt (lowP L a m)), .string (Bit.txt (higP L a m))] W fun x w' => x = .returned (.tuple #[.string (bs (valOf m (L.drop a))), .int .i64 0]) ∧ Below W.heap.size W w') := hide (fun a W => by
  obtain ⟨l1, l2⟩ := lowP_len L a m;have := afrom_any ((lowP L a m).map Bit.dig) ((higP L a m).map Bit.dig) (kn_dig (by omega) (by omega)) (kn_dig (by omega) (by omega)) (by rw [List.length_map, List.length_map, l1, l2]) W;rw [planes_val] at this
  exact this)
 have Hps := hide (fun a j => lowP_succ L a j);have Hpl2 := hide (fun a j => lowP_len L a j);have Hpz : Hid (∀ a, Bit.txt (lowP L a 0) = ⟨#[]⟩ ∧ Bit.txt (higP L a 0) = ⟨#[]⟩) := hide (fun _ => ⟨rfl, rfl⟩);obtain ⟨T, hT⟩ : ∃ T, Bit.txt L = T := ⟨_, rfl⟩;rw [hT] at hTl hTi Hvx ⊢;have ho0 := hide (own_base (own_made0 9 w2) Hb2.out.size);have hb0 := hide (Hb2.out.alloc Hb2.out.size (.cells #[] 9));have HP2 := hide hP2;clear Hpl Hz0 hnr h4 hR2 hL hT hvx hP2 hLl Hb2
 go_wp2
 go_loopw [10, 11] (fun s10 s11 wr => ∃ i : Nat, i ≤ nn ∧ s11 = .int .i64 (i : Int) ∧ Hid (wr.ownsRow w.heap.size 9 1 s10 i (svs ((List.range i).map (fun j => bs (valOf m (L.drop (2 * m * j))))))) ∧ Hid (Below w.heap.size w wr)) (fun _ s11 _ => (nn - intOf s11).toNat)
 case atStart => exact ⟨0, Nat.zero_le _, rfl, ho0, hb0⟩
 case round =>
  clear ho0 hb0;obtain ⟨i, hi, rfl, hown, hb⟩ := hrel;obtain ⟨A5, M5, cap5, rfl⟩ := own_slice hown.out
  by_cases hlt : i < nn
  ·obtain ⟨P, hP⟩ : ∃ p : Nat, i * m = p := ⟨_, rfl⟩
   have hPi : (i : Int) * (m : Int) = (P : Int) := by rw [← hP, Int.natCast_mul]
   have hPb : 2 * P + 2 * m ≤ k := by
    rw [← HP2.out, ← hP];have h1 : (i + 1) * m ≤ nn * m := Nat.mul_le_mul_right m (by omega);rw [Nat.add_mul, Nat.one_mul] at h1
    have h2 : 2 * m * nn = 2 * (nn * m) := by rw [Nat.mul_assoc, Nat.mul_comm m]
    omega
   have HPa := hide (show 2 * m * i = 2 * P by rw [← hP, Nat.mul_assoc, Nat.mul_comm m]);obtain ⟨z1, z2⟩ := Hpz.out (2 * P);have Hz1 := hide z1;have Hz2 := hide z2
   have hi1 : (i : Int) < (nn : Int) := by omega
   obtain ⟨wo, rfl⟩ : ∃ wo : World, wo = wr := ⟨_, rfl⟩;clear hP z1 z2
   go_wp2
   go_loopw [12, 13, 14] (fun s12 s13 s14 wr => ∃ (j q : Nat), j ≤ m ∧ s14 = .int .i64 (j : Int) ∧ s12 = .string (Bit.txt (lowP L (2 * P) j)) ∧ s13 = .string (Bit.txt (higP L (2 * P) j)) ∧ wr = wo.drewN q) (fun _ _ s14 _ => (m - intOf s14).toNat)
   case atStart => exact ⟨0, 0, Nat.zero_le _, rfl, by rw [Hz1.out], by rw [Hz2.out], rfl⟩
   case round =>
    clear Hz1 Hz2;obtain ⟨j, q, hj, rfl, rfl, rfl, rfl⟩ := hrel;obtain ⟨l1, l2⟩ := Hpl2.out (2 * P) j;have t1 := Bit.txt_size (lowP L (2 * P) j);have t2 := Bit.txt_size (higP L (2 * P) j)
    by_cases hlj : j < m
    ·obtain ⟨a, ha⟩ : ∃ a, 2 * P + 2 * j = a := ⟨_, rfl⟩
     obtain ⟨p1, p2⟩ := Hps.out (2 * P) j;rw [ha] at p1 p2;have x1 := Hvx.out a (by omega);have x2 := Hvx.out (a + 1) (by omega);obtain ⟨a1, ha1⟩ : ∃ b, a + 1 = b := ⟨_, rfl⟩;obtain ⟨a2, ha2⟩ : ∃ b, a + 1 + 1 = b := ⟨_, rfl⟩;rw [ha2] at x2;rw [ha1] at x1 x2 p1;have Hn1 : Hid (Bit.txt (lowP L (2 * P) j) ++ Bit.txt [L.getD a1 false] = Bit.txt (lowP L (2 * P) (j + 1))) := hide (by rw [p1, Bit.txt_append]);have Hn2 : Hid (Bit.txt (higP L (2 * P) j) ++ Bit.txt [L.getD a false] = Bit.txt (higP L (2 * P) (j + 1))) := hide (by rw [p2, Bit.txt_append])
     have y1 : (Bit.txt [L.getD a1 false]).size ≤ 1 := by rw [Bit.txt_size]; exact Nat.le_refl _
     have y2 : (Bit.txt [L.getD a false]).size ≤ 1 := by rw [Bit.txt_size]; exact Nat.le_refl _
     have iat : 2 * ((P : Int) + (j : Int)) = (a : Int) := by omega
     have ia1 : IntKind.i64.wrap ((a : Int) + 1) = (a1 : Int) := by rw [IntWalk.i64_in _ (by omega)]; omega
     have ia2 : IntKind.i64.wrap ((a : Int) + 2) = (a2 : Int) := by rw [IntWalk.i64_in _ (by omega)]; omega
     have b1 : (a : Int) ≤ (a1 : Int) := by omega
     have b2 : (a1 : Int) ≤ (a2 : Int) := by omega
     have b3 : (a2 : Int) ≤ (k : Int) := by omega
     have b4 : (a1 : Int) ≤ (k : Int) := by omega
     have b5 : (0 : Int) ≤ (a : Int) := by omega
     have c1 : a ≤ a1 := by omega
     have c2 : a1 ≤ a2 := by omega
     have c3 : a2 ≤ k := by omega
     have c4 : a1 ≤ k := by omega
     have hj1 : (j : Int) < (m : Int) := by omega
     have hj2 : j + 1 ≤ m := hlj
     generalize Bit.txt [L.getD a1 false] = X1 at *
     generalize Bit.txt [L.getD a false] = X2 at *
     generalize Bit.txt (lowP L (2 * P) j) = TL at *
     generalize Bit.txt (higP L (2 * P) j) = TH at *
     have n1 := nosumC (a := TL.size) (b := X1.size) (by omega);have n2 := nosumC (a := TH.size) (b := X2.size) (by omega)
     have hTs : T.size ≤ k := by omega
     clear p1 p2 ha ha1 ha2 t1 t2 l1 l2 hown hb Hvx Hps Hfr HR2
     go_wp2
     go_quiet (fail)
     go_wp2
     refine ⟨⟨j + 1, q + nq, hj2, by go_num, by rw [Hn1.out], by rw [Hn2.out], by first | rfl | rw [World.drewN_drewN]⟩, ?_⟩
     simp [intOf] <;> omega
    ·have hjm : j = m := by omega
     have hjend : ¬ (j : Int) < (m : Int) := by omega
     have K := hide (Hfr.out (2 * P) (wo.drewN q));rw [hjm]
     have hF : (List.range (i + 1)).map (fun j => bs (valOf m (L.drop (2 * m * j)))) = (List.range i).map (fun j => bs (valOf m (L.drop (2 * m * j)))) ++ [bs (valOf m (L.drop (2 * P)))] := by
      rw [List.range_succ, List.map_append]
      show _ ++ [bs (valOf m (L.drop (2 * m * i)))] = _
      rw [HPa.out]
     have HF := hide hF
     generalize bs (valOf m (L.drop (2 * P))) = X at *
     generalize Bit.txt (lowP L (2 * P) m) = TL at *
     generalize Bit.txt (higP L (2 * P) m) = TH at *
     have Hownq := hide (show (wo.drewN q).ownsRow w.heap.size 9 1 (.slice A5 M5 cap5) i (svs ((List.range i).map (fun j => bs (valOf m (L.drop (2 * m * j)))))) from hown.out);have Hbq := hide (bdN hb.out q);clear hjm t1 t2 l1 l2 hF hown hb Hvx Hps Hfr HPa Hpl2 Hpz
     have hjm2 : ¬ (m : Int) < (m : Int) := by omega
     go_wp2_with fail
     refine (K.out).mono ?_;rintro x w4 ⟨rfl, hb4⟩;have hown1 := own_fr Hownq.out (Fr.of_below (S := nob) hb4) (fun _ _ f => f);have hbx := Hbq.out.trans (hb4.mono Hbq.out.size);obtain ⟨v', w5, hrun, hown5, hf5, _⟩ := app_own (P := Tryz.prog) 22 9 _ _ Tryz.underlying22 strinf rfl (w := w4) hown1 hbx hbx.size (.string X) rfl (by unfold maxLen; omega) (by omega);have Hrun := hide hrun;have Hown5 := hide (show w5.ownsRow w.heap.size 9 1 v' (i + 1) (svs ((List.range (i + 1)).map (fun j => bs (valOf m (L.drop (2 * m * j)))))) by rw [HF.out, svs_snocB]; exact hown5);have Hf5 := hide hf5;clear hb4 K hown1 hbx hrun hown5 hf5 Hownq Hbq HF
     go_wp2_with (
      at_builtin
      refine wpList_run (by with_reducible rfl) rfl _ _ _ rfl _ _ (by rfl) (by rfl) Hrun.out ?_)
     refine ⟨⟨i + 1, hlt, by go_num, Hown5, Hf5⟩, ?_⟩
     simp [intOf] <;> omega
  ·have hin : i = nn := by omega
   have hend : ¬ (i : Int) < (nn : Int) := by omega
   have Hres := hide (own_sres (w := wr) (v := .slice A5 M5 cap5) (l := (List.range i).map (fun j => bs (valOf m (L.drop (2 * m * j))))) (by rw [List.length_map, List.length_range]; exact hown.out));have HRf := hide (show R = some ((List.range i).map (fun j => bs (valOf m (L.drop (2 * m * j))))) by rw [HR2.out, hin]);clear hown hin Hvx Hps Hfr HR2
   go_wp2
   go_returns
   obtain ⟨A6, c6, hv6, hat6⟩ := Hres.out;refine ⟨hb.out, ?_⟩;rw [HRf.out];exact ⟨A6, c6, congrArg (fun z => Ending.returned (.tuple #[z, .bool true])) hv6, hat6⟩
end Go.Proofs.YtoeeblldgoccoaaGreat
namespace Go.Proofs.YtoeeblldgoccoaaGreat
open Go.RowKit Go.Proofs Wv Wv.Vi Wv.Rc Wv.Mo Wv.Ru
theorem rencas_arg {w : World} (c : Int) (hc : c ≠ 0) (hc1 : c ≠ 1) (A : Option Addr) (n cap : Nat) :
  Calls Tryz.prog 76 #[.int .i64 c, .slice A n cap] w fun x w' => ERes w ([], 1) x w' := by
 have h0 : c < 0 ∨ (¬ c < 0 ∧ 1 < c) := by omega
 have hb := hide (Below.refl w.heap.size w);clear hc hc1
 rcases h0 with h0 | ⟨h0, h1⟩
 all_goals
  go_enter Tryz.func76, Tryz.ntmps76
  go_wp2
  go_returns
  exact eres_err 1 hb.out
theorem rencas_large {w : World} {A : Option Addr} {l : List ByteArray} (c : Nat) (hc : c ≤ 1) (ha : At w A (svs l)) (hsz : ∀ s ∈ l, s.size ≤ 9223372036854775807) (n cap : Nat) (hn : n = l.length) (hm : n ≤ 9223372036854775807) (hbig : 4096 < l.length ∨ ∃ s ∈ l, 128 < s.size) :
  Calls Tryz.prog 76 #[.int .i64 (c : Int), .slice A n cap] w fun x w' => ERes w ([], 9) x w' := by
 have hb := hide (Below.refl w.heap.size w)
 have hs : shortB l 4096 128 = false := decide_eq_false (by
  rintro ⟨h1, h2⟩
  rcases hbig with h | ⟨s, h3, h4⟩
  ·omega
  ·have := h1 s h3; omega)
 have HS := hide (short_any ha hsz n cap hn hm 4096 128);rw [hs] at HS
 have h0 : ¬ (c : Int) < 0 := by omega
 have h1 : ¬ (1 : Int) < (c : Int) := by omega
 clear hs hbig ha hsz hn hm hc
 go_enter Tryz.func76, Tryz.ntmps76
 go_wp2_with fail
 refine (HS.out).mono ?_;rintro x w1 ⟨rfl, rfl⟩
 go_wp2
 go_returns
 exact eres_err 9 hb.out
theorem rencas_front {w : World} {A : Option Addr} {l : List ByteArray} (c : Nat) (hc : c ≤ 1) (ha : At w A (svs l)) (h128 : ∀ s ∈ l, s.size ≤ 128) (n cap : Nat) (hn : n = l.length) (hm : n ≤ 4096) :
  Calls Tryz.prog 76 #[.int .i64 (c : Int), .slice A n cap] w fun x w' => ERes w (encB c l, 0) x w' := by
 have hs : shortB l 4096 128 = true := decide_eq_true ⟨fun s hs => by have := h128 s hs; omega, by omega⟩;have HS := hide (short_any ha (fun s hs => by have := h128 s hs; omega) n cap hn (by omega) 4096 128);rw [hs] at HS;have Hd := hide (rdict_any ha n cap hn hm);have Ha := hide ha;have Hn := hide hn;have hRl := runs_length (dict l) l;obtain ⟨R, hR⟩ : ∃ R, runs (dict l) l = R := ⟨_, rfl⟩;have Hr := hide (fun W (h : At W A (svs l)) => rruns_any h n cap hn hm);have hRb := runs_bound (dict l) l;rw [hR] at Hr hRl hRb;have HR := hide hR;have HRb := hide hRb;obtain ⟨D, hD⟩ : ∃ D, dict l = D := ⟨_, rfl⟩;have hDl := dict_length l;have hD128 := size_dict h128;rw [hD] at hDl hD128
 have hD4 : D.length ≤ 4096 := by omega
 have hR4 : R.length ≤ 4096 := by omega
 have H1 := fun w => rnumber_any (c : Int) (by omega) (by omega) w
 have H2 := fun w => rnumber_any (D.length : Int) (by omega) (by omega) w
 simp only [Int.toNat_natCast] at H1 H2;have k1 := kof9 c;have k2 := kof9 D.length;rw [← bs_size] at k1 k2
 have hfr0 : bs (num c) ++ bs (num D.length) = bs (frontB c D 0) := by rw [bs_append]; unfold frontB; simp
 rw [hD] at Hd;have HD := hide hD;have HD128 := hide hD128;have Hfr0 := hide hfr0
 generalize bs (num c) = s1 at *
 generalize bs (num D.length) = s2 at *
 have H1 := hide H1;have H2 := hide H2
 have hc0 : ¬ (c : Int) < 0 := by omega
 have hc1 : ¬ (1 : Int) < (c : Int) := by omega
 clear ha hn hD hD128 hfr0 h128 hDl hs hR hRb hRl
 go_enter Tryz.func76, Tryz.ntmps76
 go_wp2_with fail
 refine (HS.out).mono ?_;rintro x w1 ⟨rfl, rfl⟩
 go_wp2_with fail
 refine (Hd.out).mono ?_;rintro x w1 ⟨v6, rfl, ⟨AD, capD, rfl, hatD⟩, hb1⟩;have Hr1 := hide (Hr.out w1 (Ha.out.below hb1))
 go_wp2_with fail
 refine (Hr1.out).mono ?_;rintro x w2 ⟨AR, capR, rfl, hatR, hb2⟩;have hb12 := hb1.trans (hb2.mono hb1.size);have hatD2 := hatD.below hb2;simp only [cast2_len];clear hb1 hb2 hatD Hr1 Hr HS Hd
 go_wp2_with fail
 refine (H1.out _).mono ?_;rintro x w3 ⟨rfl, hb3⟩
 go_wp2_with fail
 refine (H2.out _).mono ?_;rintro x w4 ⟨rfl, hb4⟩;have hb34 := hb3.trans (hb4.mono hb3.size);have hatD4 := hatD2.below hb34;have hatR4 := hatR.below hb34;have hbw4 := hb12.trans (hb34.mono hb12.size);clear hb3 hb4 hb34 hb12 hatD2 hatR
 go_wp2
 rw [Hfr0.out]
 go_loopw [8, 9] (fun out i wr => ∃ k : Nat, k ≤ D.length ∧ i = .int .i64 k ∧ out = .string (bs (frontB c D k)) ∧ At wr AD (svs D) ∧ At wr AR (pv (cast2 R)) ∧ Below w.heap.size w wr) (fun _ i _ => (D.length - intOf i).toNat)
 case atStart => exact ⟨0, by omega, rfl, rfl, hatD4, hatR4, hbw4⟩
 case round =>
  clear hatD4 hatR4 hbw4 H1 H2 Hfr0;obtain ⟨k, hk, rfl, rfl, hat, hatR, hf⟩ := hrel;have hfl := frontB_len c D k HD128.out hD4;rw [← bs_size] at hfl
  by_cases hlt : k < D.length
  ·obtain ⟨s, hs⟩ : ∃ s, D[k] = s := ⟨_, rfl⟩
   have hs128 := HD128.out s (hs ▸ List.getElem_mem _);obtain ⟨bA, oA, hA, hbA, hcA⟩ := hat.get k (.string s) (by rw [svs_get D k hlt, hs]);subst hA
   have Ht := fun w => rtext_any s (by omega) w
   have htl := text_len s hs128;rw [← bs_size] at htl
   have hnx : bs (frontB c D k) ++ bs (text s) = bs (frontB c D (k + 1)) := by rw [bs_append, frontB_succ c D k hlt, hs]
   have Hat := hide hat;have HatR := hide hatR
   generalize bs (frontB c D k) = S1 at *
   generalize bs (text s) = S2 at *
   have Hnx := hide hnx;have Ht := hide Ht;clear hnx hs hat hs128 hatR
   go_wp2_with fail
   refine (Ht.out _).mono ?_;rintro x w4 ⟨rfl, hb4⟩;have hat4 := Hat.out.below hb4;have hatR4 := HatR.out.below hb4;have hf4 := hf.trans (hb4.mono hf.size);clear hb4
   go_wp2
   go_roundw
   case rel => exact ⟨k + 1, by omega, by go_num, by rw [Hnx.out], hat4, hatR4, hf4⟩
   case measure => simp [intOf] <;> omega
  ·have hkD : k = D.length := by omega
   subst hkD;have Hf := hide hf;have hbl := (Below.refl wr.heap.size wr).alloc (Nat.le_refl _) (.cells #[] 3);have hbl2 := hbl.alloc (by simp) (.cells #[] 3);have ho1 := (own_made0 3 wr).alloc (.cells #[] 3);have ho2 := own_made0 3 (wr.alloc (.cells #[] 3));have ho2' := own_base ho2 (base' := wr.heap.size) (by simp);simp only [World.size_alloc] at ho2';have HatR := hide hatR;have htw0 : TwoSt wr wr.heap.size 3 (.slice (some ⟨wr.heap.size, 0, none⟩) 0 0) [] (.slice (some ⟨wr.heap.size + 1, 0, none⟩) 0 0) [] ((wr.alloc (.cells #[] 3)).alloc (.cells #[] 3)) := ⟨ho1, ho2', by simp [Value.ownBlock], hbl2, by simp; omega⟩;have Htw0 := hide htw0;clear hat hatR hf hlt hbl hbl2 ho1 ho2 ho2' htw0
   go_wp2
   generalize hw4 : wr = w4 at *
   clear hw4
   go_loopw [10, 11, 12] (fun v10 v11 i wr => ∃ k : Nat, k ≤ R.length ∧ i = .int .i64 k ∧ TwoSt w4 w4.heap.size 3 v10 (ivs (inx (R.take k))) v11 (ivs (cnx (R.take k))) wr) (fun _ _ i _ => (R.length - intOf i).toNat)
   case atStart => exact ⟨0, by omega, rfl, Htw0.out⟩
   case round =>
    obtain ⟨q, hq, rfl, htw⟩ := hrel
    by_cases hlt2 : q < R.length
    ·have hI := inx_take R q hlt2
     have hC := cnx_take R q hlt2;obtain ⟨⟨ri, rc⟩, hrq⟩ : ∃ x, R[q] = x := ⟨_, rfl⟩;have hbd := HRb.out R[q] (List.getElem_mem _);have hpk := pv_get (cast2 R) q (by rw [cast2_len]; exact hlt2);rw [cast2_get R q hlt2] at hpk;rw [hrq] at hI hC hbd hpk;simp only at hI hC hbd hpk
     have hlI : (ivs (inx (R.take q))).length ≤ 4096 := by rw [ivs_len]; unfold inx; rw [List.length_map, List.length_take]; omega
     have hlC : (ivs (cnx (R.take q))).length ≤ 4096 := by rw [ivs_len]; unfold cnx; rw [List.length_map, List.length_take]; omega
     obtain ⟨bB, oB, hB, hbB, _⟩ := HatR.out.get (q * 2) _ hpk.1
     have cells : ∀ W : World, Below w4.heap.size w4 W → W.cell? ⟨bB, oB + q * 2, none⟩ = some (.int .i64 (ri : Int)) ∧ W.cell? ⟨bB, oB + q * 2 + 1, none⟩ = some (.int .i64 (rc : Int)) := by
      intro W hW;obtain ⟨b1, o1, h1, _, h2⟩ := (HatR.out.below hW).get (q * 2) _ hpk.1;obtain ⟨b2, o2, h3, _, h4⟩ := (HatR.out.below hW).get (q * 2 + 1) _ hpk.2;rw [hB] at h1 h3
      injection h1 with h1
      injection h1 with h1 h1'
      injection h3 with h3
      injection h3 with h3 h3'
      subst h1; subst h1'; subst h3; subst h3'
      exact ⟨h2, h4⟩
     subst hB;obtain ⟨x0, x1⟩ := cells wr htw.bel
     have hrc : rc ≤ 4096 := by have := Hn.out; omega
     have i2 : IntKind.i64.wrap ((rc : Int) - 1) = (rc : Int) - 1 := by rw [IntWalk.i64_in _ (by omega)]
     obtain ⟨X, hX⟩ : ∃ X, ivs (inx (R.take q)) = X := ⟨_, rfl⟩;obtain ⟨Y, hY⟩ : ∃ Y, ivs (cnx (R.take q)) = Y := ⟨_, rfl⟩;rw [hX] at htw hlI;rw [hY] at htw hlC;have HI : Hid (ivs (inx (R.take (q + 1))) = X ++ [.int .i64 (ri : Int)]) := hide (by rw [hI, ivs_snoc, hX]);have HC : Hid (ivs (cnx (R.take (q + 1))) = Y ++ [.int .i64 ((rc : Int) - 1)]) := hide (by rw [hC, ivs_snoc, hY]);obtain ⟨t1, t2, t3⟩ := two_bothB (P := Tryz.prog) 85 3 _ 8 Tryz.underlying85 intinf rfl htw (.int .i64 (ri : Int)) (.int .i64 ((rc : Int) - 1)) (by rfl) (by rfl) (by unfold maxLen; omega) (by omega) (by unfold maxLen; omega) (by omega);obtain ⟨t4, t5, t6⟩ := two_bothB (P := Tryz.prog) 85 3 _ 8 Tryz.underlying85 intinf rfl htw.swap (.int .i64 ((rc : Int) - 1)) (.int .i64 (ri : Int)) (by rfl) (by rfl) (by unfold maxLen; omega) (by omega) (by unfold maxLen; omega) (by omega);have hbBr : bB < wr.heap.size := Nat.lt_of_lt_of_le hbB htw.base
     have hq0 : (0 : Int) ≤ (q : Int) := by omega
     have hq1 : (q : Int) < (R.length : Int) := by omega
     clear hI hC hpk hrq hX hY hbd;obtain ⟨a1a, w1a, a1b, w1b, e1a, e1b, ts1, ba1, bb1⟩ := t1;have E1a := hide e1a;have E1b := hide e1b;have TS1 := hide ts1;obtain ⟨ca10, ca11⟩ := cells _ ba1;obtain ⟨cb10, cb11⟩ := cells _ bb1;clear e1a e1b ts1 ba1 bb1;obtain ⟨a2a, w2a, a2b, w2b, e2a, e2b, ts2, ba2, bb2⟩ := t2;have E2a := hide e2a;have E2b := hide e2b;have TS2 := hide ts2;obtain ⟨ca20, ca21⟩ := cells _ ba2;obtain ⟨cb20, cb21⟩ := cells _ bb2;clear e2a e2b ts2 ba2 bb2;obtain ⟨a3a, w3a, a3b, w3b, e3a, e3b, ts3, ba3, bb3⟩ := t3;have E3a := hide e3a;have E3b := hide e3b;have TS3 := hide ts3;obtain ⟨ca30, ca31⟩ := cells _ ba3;obtain ⟨cb30, cb31⟩ := cells _ bb3;clear e3a e3b ts3 ba3 bb3;obtain ⟨a4a, w4a, a4b, w4b, e4a, e4b, ts4, ba4, bb4⟩ := t4;have E4a := hide e4a;have E4b := hide e4b;have TS4 := hide ts4;obtain ⟨ca40, ca41⟩ := cells _ ba4;obtain ⟨cb40, cb41⟩ := cells _ bb4;clear e4a e4b ts4 ba4 bb4;obtain ⟨a5a, w5a, a5b, w5b, e5a, e5b, ts5, ba5, bb5⟩ := t5;have E5a := hide e5a;have E5b := hide e5b;have TS5 := hide ts5;obtain ⟨ca50, ca51⟩ := cells _ ba5;obtain ⟨cb50, cb51⟩ := cells _ bb5;clear e5a e5b ts5 ba5 bb5;obtain ⟨a6a, w6a, a6b, w6b, e6a, e6b, ts6, ba6, bb6⟩ := t6;have E6a := hide e6a;have E6b := hide e6b;have TS6 := hide ts6;obtain ⟨ca60, ca61⟩ := cells _ ba6;obtain ⟨cb60, cb61⟩ := cells _ bb6;clear e6a e6b ts6 ba6 bb6;clear cells htw;have n0 := World.new_ne _ _ x0;have n1 := World.new_ne _ _ x1
     go_upto_region 15 with fail
     go_region_held3 (fun W => W.cell? ⟨bB, oB + q * 2, none⟩ = some (.int .i64 (ri : Int)) ∧ W.cell? ⟨bB, oB + q * 2 + 1, none⟩ = some (.int .i64 (rc : Int))) (first | go_keep)
      ((first | refine step_runW (by with_reducible rfl) (by rfl) _ _ _ (by rfl) _ _ (by rfl) (by rfl) E1a.out ?_ | refine step_runW (by with_reducible rfl) (by rfl) _ _ _ (by rfl) _ _ (by rfl) (by rfl) E1b.out ?_ | refine step_runW (by with_reducible rfl) (by rfl) _ _ _ (by rfl) _ _ (by rfl) (by rfl) E2a.out ?_ | refine step_runW (by with_reducible rfl) (by rfl) _ _ _ (by rfl) _ _ (by rfl) (by rfl) E2b.out ?_ | refine step_runW (by with_reducible rfl) (by rfl) _ _ _ (by rfl) _ _ (by rfl) (by rfl) E3a.out ?_ | refine step_runW (by with_reducible rfl) (by rfl) _ _ _ (by rfl) _ _ (by rfl) (by rfl) E3b.out ?_ | refine step_runW (by with_reducible rfl) (by rfl) _ _ _ (by rfl) _ _ (by rfl) (by rfl) E4a.out ?_ | refine step_runW (by with_reducible rfl) (by rfl) _ _ _ (by rfl) _ _ (by rfl) (by rfl) E4b.out ?_ | refine step_runW (by with_reducible rfl) (by rfl) _ _ _ (by rfl) _ _ (by rfl) (by rfl) E5a.out ?_ | refine step_runW (by with_reducible rfl) (by rfl) _ _ _ (by rfl) _ _ (by rfl) (by rfl) E5b.out ?_ | refine step_runW (by with_reducible rfl) (by rfl) _ _ _ (by rfl) _ _ (by rfl) (by rfl) E6a.out ?_ | refine step_runW (by with_reducible rfl) (by rfl) _ _ _ (by rfl) _ _ (by rfl) (by rfl) E6b.out ?_))
     all_goals
      go_wp2
      go_roundw
      case rel =>
       refine ⟨q + 1, by omega, by go_num, ?_⟩;rw [HI.out, HC.out]
       first | exact TS1.out | exact TS2.out | exact TS3.out | exact TS4.out.swap | exact TS5.out.swap | exact TS6.out.swap
      case measure => simp [intOf] <;> omega
    ·have hqR : q = R.length := by omega
     subst hqR;rw [List.take_length] at htw
     have hI : inx R = (idxs l).map Int.ofNat := by
      unfold inx idxs;rw [HR.out, List.map_map];rfl
     have hC : cnx R = (cnts l).map Int.ofNat := by
      unfold cnx cnts;rw [HR.out, List.map_map];refine List.map_congr_left fun x hx => ?_;have := (HRb.out x hx).2.1
      show (x.2 : Int) - 1 = ((x.2 - 1 : Nat) : Int)
      omega
     have hl1 : (ivs (inx R)).length = R.length := by rw [ivs_len]; simp [inx]
     have hl2 : (ivs (cnx R)).length = R.length := by rw [ivs_len]; simp [cnx]
     obtain ⟨A1, c1, rfl, hat1⟩ := own_at htw.own1;obtain ⟨A2, c2, rfl, hat2⟩ := own_at htw.own2
     have hll : l.length ≤ 4096 := by rw [← Hn.out]; exact hm
     have hnI : (idxs l).length = R.length := by rw [idxs_length, HR.out]
     have hnC : (cnts l).length = R.length := by rw [cnts_length, HR.out]
     have hnA : (codeA c l).length = R.length := by rw [codeA_length, HR.out]
     rw [hI] at hat1;rw [hC] at hat2;have hbel := Hf.out.trans (htw.bel.mono Hf.out.size);have Hat1 := hide hat1;have Hat2 := hide hat2;have Hbel := hide hbel
     have hfront : front ((idxs l).map Int.ofNat) = (frontA r0 (idxs l), 0) := by
      unfold front
      rw [if_pos (chkn_ok (by rw [List.length_map, hnI]; exact hR4) (fun n hn => by
       obtain ⟨m, hm, rfl⟩ := List.mem_map.1 hn;have := idxs_lt l hll m hm
       exact ⟨by simp, by simp; omega⟩)), map_toNat_ofNat]
     have HF := hide (rfront_any hat1 R.length c1 (by rw [List.length_map, hnI]) (by omega));rw [hfront] at HF;have HlA := hide (codeA_lt c l hll);have HlC := hide (cnts_lt l hll);have hel1 := encn_len (codeA c l) (fun v hv => by have := codeA_lt c l hll v hv; omega);have hel2 := encn_len (cnts l) (fun v hv => by have := cnts_lt l hll v hv; omega);rw [hnA] at hel1;rw [hnC] at hel2;have hfl := frontB_len c D D.length HD128.out hD4;have heA : encA c l = encn (codeA c l) := rfl
     have htx : (text (bs (encn (codeA c l)))).length ≤ 600000 := by
      unfold text;rw [List.length_append, toL_bs];have := kof9 (bs (encn (codeA c l))).size;omega
     have Hcat : Hid (bs (frontB c D D.length) ++ bs (text (bs (encn (codeA c l)))) ++ bs (encn (cnts l)) = bs (encB c l)) := hide (by
      rw [bs_append, bs_append];unfold frontB encB text
      rw [List.take_length, HD.out, heA, toL_bs, bs_size])
     have HnA := hide hnA;have HnC := hide hnC
     have hes : (bs (encn (codeA c l))).size ≤ 1099511627776 := by rw [bs_size]; omega
     have Ht := fun w => rtext_any (bs (encn (codeA c l))) hes w
     have hc01 : c = 0 ∨ c = 1 := by omega
     have H0 : Hid (c = 0 → codeA c l = idxs l) := hide (fun h => by subst h; rfl);have H1 : Hid (c = 1 → codeA c l = frontA r0 (idxs l)) := hide (fun h => by subst h; rfl);rw [← bs_size] at hfl hel2 htx
     generalize bs (frontB c D D.length) = S1 at *
     generalize bs (text (bs (encn (codeA c l)))) = S2 at *
     have Ht := hide Ht;clear hlt2 hq htw hat1 hat2 hbel hI hC hnI hnC hnA hfront heA hel1 hes;rw [hl1, hl2]
     go_upto_if 75 with fail
     go_cut [10] (fun s10 wx => ∃ A cap, s10 = .slice A R.length cap ∧ At wx A (ivs ((codeA c l).map Int.ofNat)) ∧ Below wr.heap.size wr wx)
     case first =>
      rcases hc01 with hc0 | hc0
      ·have g0 : ¬ ((c : Int) = 1) := by omega
       have H0' := hide (H0.out hc0);clear H0 H1 hc0
       go_wp2
       go_meet
       case rel => exact ⟨A1, c1, rfl, by rw [H0'.out]; exact Hat1.out, Below.refl _ _⟩
      ·have g0 : ((c : Int) == 1) = true := by rw [beq_iff_eq]; omega
       have H1' := hide (H1.out hc0);have Hfl : Hid ((frontA r0 (idxs l)).length = R.length) := hide (by rw [← H1'.out, HnA.out]);clear H0 H1 hc0 hc
       go_wp2_with fail
       refine (HF.out).mono ?_;rintro x w5 ⟨v5, rfl, ⟨A5, cap5, rfl, hat5⟩, hb5⟩
       go_wp2
       go_meet
       case rel => exact ⟨A5, cap5, by rw [Hfl.out], by rw [H1'.out]; exact hat5, hb5⟩
     case rest =>
      obtain ⟨A5, cap5, rfl, hat5, hb5⟩ := hcut;clear HF H0 H1 hc01;have HE1 := hide (fencn_any hat5 R.length cap5 HnA.out.symm (by rw [HnA.out]; exact hR4) (fun v hv => by have := HlA.out v hv; omega));have hbx := Hbel.out.trans (hb5.mono Hbel.out.size);have hat2x := Hat2.out.below hb5;clear hat5 hb5
      go_wp2_with fail
      refine (HE1.out).mono ?_;rintro x w6 ⟨rfl, hb6⟩;have HE2 := hide (fencn_any (hat2x.below hb6) R.length c2 HnC.out.symm (by rw [HnC.out]; exact hR4) (fun v hv => by have := HlC.out v hv; omega));have hbx6 := hbx.trans (hb6.mono hbx.size);clear hat2x hb6 hbx
      go_wp2_with fail
      refine (HE2.out).mono ?_;rintro x w7 ⟨rfl, hb7⟩;have hbx7 := hbx6.trans (hb7.mono hbx6.size)
      generalize bs (encn (codeA c l)) = S3 at *
      generalize bs (encn (cnts l)) = S4 at *
      clear hb7 hbx6
      go_wp2_with fail
      refine (Ht.out _).mono ?_;rintro x w8 ⟨rfl, hb8⟩;have hbx8 := hbx7.trans (hb8.mono hbx7.size);clear hb8 hbx7
      go_wp2
      go_returns
      exact ⟨by rw [Hcat.out]; rfl, hbx8⟩
theorem rencas_any {w : World} {A : Option Addr} {l : List ByteArray} (c : Int) (ha : At w A (svs l)) (hsz : ∀ s ∈ l, s.size ≤ 9223372036854775807) (n cap : Nat) (hn : n = l.length) (hm : n ≤ 9223372036854775807) :
  Calls Tryz.prog 76 #[.int .i64 c, .slice A n cap] w fun x w' => ERes w (encAs c l) x w' := by
 unfold encAs
 by_cases hc : c ≠ 0 ∧ c ≠ 1
 ·rw [if_pos hc]
  exact rencas_arg c hc.1 hc.2 A n cap
 ·rw [if_neg hc]
  have hc01 : c = 0 ∨ c = 1 := by omega
  obtain ⟨c, rfl⟩ := Int.eq_ofNat_of_zero_le (show 0 ≤ c by omega)
  by_cases hb : 4096 < l.length ∨ ∃ s ∈ l, 128 < s.size
  ·rw [if_pos hb]
   exact rencas_large c (by omega) ha hsz n cap hn hm hb
  ·rw [if_neg hb, Int.toNat_natCast]
   exact rencas_front c (by omega) ha (fun s hs => by
    rcases Nat.lt_or_ge 128 s.size with h | h
    ·exact absurd (.inr ⟨s, hs, h⟩) hb
    ·exact h) n cap hn (by omega)
theorem rencode_any {w : World} {A : Option Addr} {l : List ByteArray} (ha : At w A (svs l)) (hsz : ∀ s ∈ l, s.size ≤ 9223372036854775807) (n cap : Nat) (hn : n = l.length) (hm : n ≤ 9223372036854775807) :
  Calls Tryz.prog 39 #[.slice A n cap] w fun x w' => ERes w (enc l) x w' := by
 have H0 := hide (rencas_any 0 ha hsz n cap hn hm);have H1 := hide (fun w' (h : Below w.heap.size w w') => rencas_any 1 (ha.below h) hsz n cap hn hm);clear ha hn;unfold enc;unfold encAs at H0 H1;rw [if_neg (by decide)] at H0;simp only [show ¬ ((1 : Int) ≠ 0 ∧ (1 : Int) ≠ 1) from by decide, if_false] at H1
 by_cases hb : 4096 < l.length ∨ ∃ s ∈ l, 128 < s.size
 ·simp only [hb, if_true] at H0 ⊢
  clear H1 hb hsz
  go_enter Tryz.func39, Tryz.ntmps39
  go_wp2_with fail
  refine (H0.out).mono ?_;rintro x w1 ⟨rfl, hb1⟩
  go_wp2
  go_returns
  exact eres_err 9 hb1
 ·simp only [hb, if_false, show (0 : Int).toNat = 0 from rfl, show (1 : Int).toNat = 1 from rfl] at H0 H1 ⊢
  clear hb hsz;have hl0 := bs_size (encB 0 l);have hl1 := bs_size (encB 1 l)
  by_cases hlt : (encB 1 l).length < (encB 0 l).length
  ·rw [if_pos hlt]
   have hlt2 : ((bs (encB 1 l)).size : Int) < ((bs (encB 0 l)).size : Int) := by rw [hl0, hl1]; exact Int.ofNat_lt.2 hlt
   clear hlt hl0 hl1;obtain ⟨S0, hS0⟩ : ∃ S, bs (encB 0 l) = S := ⟨_, rfl⟩;have H0' : Hid (Calls Tryz.prog 76 #[.int .i64 0, .slice A n cap] w fun x w' => x = .returned (.tuple #[.string S0, .int .i64 0]) ∧ Below w.heap.size w w') := hide (by rw [← hS0]; exact H0.out);obtain ⟨S1, hS1⟩ : ∃ S, bs (encB 1 l) = S := ⟨_, rfl⟩;have H1' : Hid (∀ w', Below w.heap.size w w' → Calls Tryz.prog 76 #[.int .i64 1, .slice A n cap] w' fun x w2 => x = .returned (.tuple #[.string S1, .int .i64 0]) ∧ Below w'.heap.size w' w2) := hide (by rw [← hS1]; exact H1.out);rw [hS0, hS1] at hlt2;have Hr : Hid (∀ w', Below w.heap.size w w' → ERes w (encB 1 l, 0) (.returned (.tuple #[.string S1, .int .i64 0])) w') := hide (fun w' h => by rw [← hS1]; exact ⟨rfl, h⟩);clear H0 H1 hS0 hS1
   go_enter Tryz.func39, Tryz.ntmps39
   go_wp2_with fail
   refine (H0'.out).mono ?_;rintro x w1 ⟨rfl, hb1⟩
   go_wp2_with fail
   refine (H1'.out _ hb1).mono ?_;rintro x w2 ⟨rfl, hb2⟩;have hb := hb1.trans (hb2.mono hb1.size)
   go_wp2
   go_returns
   exact Hr.out _ hb
  ·rw [if_neg hlt]
   have hlt2 : ¬ ((bs (encB 1 l)).size : Int) < ((bs (encB 0 l)).size : Int) := by rw [hl0, hl1]; omega
   clear hlt hl0 hl1;obtain ⟨S0, hS0⟩ : ∃ S, bs (encB 0 l) = S := ⟨_, rfl⟩;have H0' : Hid (Calls Tryz.prog 76 #[.int .i64 0, .slice A n cap] w fun x w' => x = .returned (.tuple #[.string S0, .int .i64 0]) ∧ Below w.heap.size w w') := hide (by rw [← hS0]; exact H0.out);obtain ⟨S1, hS1⟩ : ∃ S, bs (encB 1 l) = S := ⟨_, rfl⟩;have H1' : Hid (∀ w', Below w.heap.size w w' → Calls Tryz.prog 76 #[.int .i64 1, .slice A n cap] w' fun x w2 => x = .returned (.tuple #[.string S1, .int .i64 0]) ∧ Below w'.heap.size w' w2) := hide (by rw [← hS1]; exact H1.out);rw [hS0, hS1] at hlt2;have Hr : Hid (∀ w', Below w.heap.size w w' → ERes w (encB 0 l, 0) (.returned (.tuple #[.string S0, .int .i64 0])) w') := hide (fun w' h => by rw [← hS0]; exact ⟨rfl, h⟩);clear H0 H1 hS0 hS1
   go_enter Tryz.func39, Tryz.ntmps39
   go_wp2_with fail
   refine (H0'.out).mono ?_;rintro x w1 ⟨rfl, hb1⟩
   go_wp2_with fail
   refine (H1'.out _ hb1).mono ?_;rintro x w2 ⟨rfl, hb2⟩;have hb := hb1.trans (hb2.mono hb1.size)
   go_wp2
   go_returns
   exact Hr.out _ hb
theorem rdecode12_any (data : ByteArray) (hd : data.size ≤ 1000000000) (most : Int) (w : World) :
  Calls Tryz.prog 45 #[.string data, .int .i64 most] w fun x w' => TRes w (dec (toL data) most) x w' := by
 have H1 := hide (rread12_any data hd w);unfold dec
 match hr : readL (toL data) with
 | none =>
  rw [hr] at H1;simp only;clear hr hd
  go_enter Tryz.func45, Tryz.ntmps45
  go_wp2_with fail
  refine (H1.out).mono ?_;rintro x w1 ⟨v, rfl, hs, hb⟩;simp only [Option.isSome_none];clear hs
  go_wp2
  go_returns
  exact tres_err 12 hb
 | some l =>
  rw [hr] at H1;simp only;obtain ⟨g1, g2⟩ := readL_good hr;have H2 := hide (fun W A cap (h : At W A (svs l)) => rencode_any h (fun s hs => by have := g1 s hs; omega) l.length cap rfl (by omega));obtain ⟨⟨X, xe⟩, hX⟩ : ∃ x, enc l = x := ⟨_, rfl⟩;rw [hX] at H2 ⊢;simp only;clear hr hd hX g1
  by_cases hbad : xe ≠ 0 ∨ X ≠ toL data
  ·rw [if_pos hbad]
   have q : ((xe : Int) != 0) = true ∨ (((xe : Int) != 0) = false ∧ (((bs X).toList != data.toList) = true ∧ ((bs X).toList == data.toList) = false)) := by
    by_cases hx : xe = 0
    ·right
     have hne : X ≠ toL data := hbad.resolve_left (fun h => h hx)
     have h3 : ((bs X).toList == data.toList) = false := by
      rw [str_eq, decide_eq_false_iff_not];intro h;exact hne (by rw [← h, toL_bs])
     refine ⟨by rw [hx]; rfl, by rw [bne, h3]; rfl, h3⟩
    ·left; rw [bne_iff_ne]; omega
   clear hbad
   rcases q with q | ⟨q, q2, q3⟩
   all_goals
    go_enter Tryz.func45, Tryz.ntmps45
    go_wp2_with fail
    refine (H1.out).mono ?_;rintro x w1 ⟨v, rfl, hs, hb⟩;simp only [Option.isSome_some];obtain ⟨A, cap, rfl, hat⟩ := hs l rfl;have H3 := hide (H2.out _ _ cap hat);clear hs hat
    go_wp2_with fail
    refine (H3.out).mono ?_;rintro x w2 ⟨rfl, hb2⟩;have hbb := hb.trans (hb2.mono hb.size)
    go_wp2
    go_returns
    exact tres_err 12 hbb
  ·rw [if_neg hbad]
   have hx : xe = 0 := by omega
   have hXd : X = toL data := by
    rcases Classical.em (X = toL data) with h | h
    ·exact h
    ·exact absurd (.inr h) hbad
   subst hx; subst hXd
   have q2 : ((bs (toL data)).toList != data.toList) = false := by rw [bs_toL, bne_self_eq_false]
   have q3 : ((bs (toL data)).toList == data.toList) = true := by rw [bs_toL, beq_self_eq_true]
   clear hbad
   by_cases hm : most < (l.length : Int)
   ·rw [if_pos hm]
    go_enter Tryz.func45, Tryz.ntmps45
    go_wp2_with fail
    refine (H1.out).mono ?_;rintro x w1 ⟨v, rfl, hs, hb⟩;simp only [Option.isSome_some];obtain ⟨A, cap, rfl, hat⟩ := hs l rfl;have H3 := hide (H2.out _ _ cap hat);clear hs hat
    go_wp2_with fail
    refine (H3.out).mono ?_;rintro x w2 ⟨rfl, hb2⟩;have hbb := hb.trans (hb2.mono hb.size)
    go_wp2
    go_returns
    exact tres_err 2 hbb
   ·rw [if_neg hm]
    go_enter Tryz.func45, Tryz.ntmps45
    go_wp2_with fail
    refine (H1.out).mono ?_;rintro x w1 ⟨v, rfl, hs, hb⟩;simp only [Option.isSome_some];obtain ⟨A, cap, rfl, hat⟩ := hs l rfl;have H3 := hide (H2.out _ _ cap hat);have Hat := hide hat;clear hs hat
    go_wp2_with fail
    refine (H3.out).mono ?_;rintro x w2 ⟨rfl, hb2⟩;have hbb := hb.trans (hb2.mono hb.size);have hat2 := Hat.out.below hb2
    go_wp2
    go_returns
    exact ⟨_, rfl, ⟨A, cap, rfl, hat2⟩, hbb⟩
end Go.Proofs.YtoeeblldgoccoaaGreat
namespace Wv
open Go Go.RowKit Go.Deep Go.ChangeShapes Go.WideShapes
section
variable {H : Type} {enc : TypeId × Value → H} {P : Program} {w : World} {base : Nat} {spare : Nat → Bool} {held : Bool}
end
end Wv
