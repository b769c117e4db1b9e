/-
  The walks over the reference of lists of values: the second coding is read.
-/
import Derived.Test.YtoeeblldgoccoaaGreatL42
set_option linter.unusedVariables false
set_option linter.unusedSimpArgs false
set_option maxRecDepth 100000
set_option maxHeartbeats 8000000
namespace Go.Proofs.YtoeeblldgoccoaaGreat
open Go.RowKit Go.Proofs Wv Wv.Vi Wv.Rc Wv.Mo Wv.Ru Wv.Tm Wv.Bc
theorem ex_open {w w' : World} {o : Option (List ByteArray)} {x : Ending} (h : ExR w o x w') : ∃ A k c ok, x = .returned (.tuple #[.slice A k c, .bool ok]) ∧ Below w.heap.size w w' ∧ ((ok = false ∧ o = none) ∨ (ok = true ∧ ∃ r, o = some r ∧ k = r.length ∧ At w' A (svs r))) := by
 obtain ⟨h1, h2⟩ := h
 cases o with
 | none => obtain ⟨A, n, c, h⟩ := h2; exact ⟨A, n, c, false, h, h1, .inl ⟨rfl, rfl⟩⟩
 | some r => obtain ⟨A, c, h, hk⟩ := h2; exact ⟨_, _, _, true, h, h1, .inr ⟨rfl, r, rfl, rfl, hk⟩⟩
theorem uc_zero (m : Int) (data : ByteArray) (hd : data.size ≤ 1000000000) {n e : Nat} {S : ByteArray} (hN : numR data 0 4096 = (n, S, e)) (hz : e ≠ 0 ∨ n = 0) (w : World) :
  Calls Tryz.prog 44 #[.int .i64 m, .string data] w fun x w' => ExR w (readCR m (toL data)) x w' := by
 have hR := readCR_zero (w := m) (s := toL data) S n e (by rw [bs_toL]; exact hN) hz;rw [hR]
 have h1 := fun W => rdo0_any (s := data) (by omega) 0 4096 W
 rw [dv0_of hN] at h1;have H1 := hide h1;have hx0 : SB (w.alloc (.cells #[.string data, .int .i64 0] 91)) w.heap.size data 0 := Bk.new _ _ _;have hb0 := (Below.refl w.heap.size w).alloc (Nat.le_refl _) (.cells #[.string data, .int .i64 0] 91);have Hx0 := hide hx0;have Hb0 := hide hb0;have hem := bs_emp (toL S);rw [bs_toL] at hem
 have hst : (S.size = 0) ↔ toL S = [] := by rw [← toL_length]; exact ⟨fun h => List.eq_nil_of_length_eq_zero h, fun h => by rw [h]; rfl⟩
 obtain ⟨R, hRe⟩ : ∃ R : Option (List ByteArray), (if e = 0 ∧ S.size = 0 then some [] else none) = R := ⟨_, rfl⟩;have HRe := hide hRe;rw [hRe];clear h1 hN hR hx0 hb0 hRe hd
 go_enter Tryz.func44, Tryz.ntmps44
 go_wp2_with fail
 refine (H1.out _).mono ?_;rintro x w1 ⟨rfl, hb1⟩;have hx1 := Hx0.out.below hb1;have hx1b := hx1.two (s2 := S) (e2 := (e : Int));have hbw1 := two_bel (Hb0.out.trans (hb1.mono Hb0.out.size)) (Nat.le_refl _) (.string S) (.int .i64 (e : Int));obtain ⟨⟨c0, c1⟩, f0, f1⟩ := hx1.cells;have Hx1 := hide hx1b;have Hbw1 := hide hbw1;clear hx1 hx1b hbw1 hb1 H1 Hx0 Hb0
 go_upto_region 3 with fail
 generalize ((w1.setCell ⟨w.heap.size, 0, none⟩ (.string S)).setCell ⟨w.heap.size, 1, none⟩ (.int .i64 (e : Int))) = W1 at *
 clear c0 c1 f0 f1;obtain ⟨⟨c0, c1⟩, f0, f1⟩ := Hx1.out.cells
 by_cases he : e = 0
 ·subst he
  have hn0 : n = 0 := by
   rcases hz with h | h
   ·exact absurd rfl h
   ·exact h
  subst hn0;clear hz
  by_cases hs : toL S = []
  ·rw [decide_eq_true hs] at hem
   have HR := hide (show R = some [] by rw [← HRe.out, if_pos ⟨rfl, hst.2 hs⟩]);clear HRe hs hst
   go_wp2
   go_quiet (fail)
   go_wp2
   go_returns
   refine ⟨bdN Hbw1.out _, ?_⟩;rw [HR.out];exact ⟨none, 0, rfl, At.nil _ _⟩
  ·rw [decide_eq_false hs] at hem
   have HR := hide (show R = none by rw [← HRe.out, if_neg (fun h => hs (hst.1 h.2))]);clear HRe hs hst
   go_wp2
   go_quiet (fail)
   go_wp2
   go_returns
   exact exr_none (bdN Hbw1.out _) HR.out
 ·have hne : ((e : Int) != 0) = true := by rw [bne_iff_ne]; omega
  have heq : ((e : Int) == 0) = false := by rw [beq_eq_false_iff_ne]; omega
  have HR := hide (show R = none by rw [← HRe.out, if_neg (fun h => he h.1)]);clear HRe hst he hz hem
  go_wp2
  go_quiet (fail)
  go_wp2
  go_returns
  exact exr_none (bdN Hbw1.out _) HR.out
def UcM (w : World) (S : ByteArray) (e : Nat) (A9 : Option Addr) (ts : List ByteArray) (A1 : Option Addr) (G : List Int) (A2 : Option Addr) (D : List ByteArray) (W : World) : Prop :=
 Below w.heap.size w W ∧ SB W w.heap.size S (e : Int) ∧ At W A9 (svs ts) ∧ At W A1 (ivs G) ∧ At W A2 (svs D)
theorem UcM.next {w : World} {S : ByteArray} {e : Nat} {A9 A1 A2 : Option Addr} {ts D : List ByteArray} {G : List Int} {W W' : World} (h : UcM w S e A9 ts A1 G A2 D W) (hb : Below W.heap.size W W') : UcM w S e A9 ts A1 G A2 D W' :=
 ⟨h.1.trans (hb.mono h.1.size), h.2.1.below hb, h.2.2.1.below hb, h.2.2.2.1.below hb, h.2.2.2.2.below hb⟩
theorem head_tailI (G : List Int) (h : 0 < G.length) : G = (G[0]'h) :: G.tail := by
 cases G with
 | nil => simp at h
 | cons a q => rfl
theorem runR_go {N : Int} {st : ByteArray} {m : Nat} {i pt : Int} {vs : List ByteArray} {gs : List Int} {last : ByteArray} : runR N st (m + 1) i pt vs gs last =
  if i = pt then
   (if vs.headD default = bs [] then none else (runR N st m (i + 1) (nxt N pt gs) vs.tail gs.tail (vs.headD default)).map (vs.headD default :: ·))
  else (if (addV (toL last) (toL st)).1 = [] then none else (runR N st m (i + 1) pt vs gs (bs (addV (toL last) (toL st)).1)).map (bs (addV (toL last) (toL st)).1 :: ·)) := rfl
theorem runR_at {N : Int} {st : ByteArray} {m : Nat} {i pt : Int} {v : ByteArray} {vs : List ByteArray} {gs : List Int} {last : ByteArray} (h : i = pt) (hv : v ≠ bs []) : runR N st (m + 1) i pt (v :: vs) gs last = (runR N st m (i + 1) (nxt N pt gs) vs gs.tail v).map (v :: ·) := by
 rw [runR_go, if_pos h, if_neg (show ¬ (v :: vs).headD default = bs [] from hv)];rfl
theorem uc_main (m : Nat) (data : ByteArray) (hd : data.size ≤ 1000000000) {n : Nat} {r : List UInt8} (hyes : rnum (toL data) 4096 = some (n, r)) (hn0 : n ≠ 0) (w : World) :
  Calls Tryz.prog 44 #[.int .i64 (m : Int), .string data] w fun x w' => ExR w (readCR (m : Int) (toL data)) x w' := by
 obtain ⟨hnr, hn4, hrl⟩ := rest_of hyes;rw [bs_toL] at hnr;rw [toL_length] at hrl
 have h1 := fun W => rdo0_any (s := data) (by omega) 0 4096 W
 rw [dv0_of hnr] at h1;have H1 := hide h1;have H3 := hide (fun i W => rdo3_any (s := (ucS (data.size : Int) (bs r) i).2.1) (by have := ucS_size (data.size : Int) (bs r) i; rw [bs_size] at this; omega) (ucS (data.size : Int) (bs r) i).2.2 (data.size : Int) W);have Hst := hide (fun i => ucS_succ (data.size : Int) (bs r) i);have H0 := hide (ucS_0 (data.size : Int) (bs r));obtain ⟨t1, t2, t3, S3, e3, hu, hS3, hz1, hz2, hz3, hcase⟩ := uc_cases r data.size
 have hlen : ∀ i, (ucS (data.size : Int) (bs r) i).1.length = i := by
  intro i
  induction i with
  | zero => rfl
  | succ i ih => rw [ucS_succ]; simp [ih]
 have Hlen := hide hlen;obtain ⟨U, hU⟩ : ∃ U, ucS (data.size : Int) (bs r) = U := ⟨_, rfl⟩;rw [hU] at H3 Hst H0 Hlen hu;have Hu := hide hu
 have hcr : (e3 ≠ 0 ∧ readCR (m : Int) (toL data) = none) ∨ (e3 = 0 ∧ readCR (m : Int) (toL data) = crFin (m : Int) n (toL t1) (toL t2) (decn (toL t3) 4096) (dec (toL S3) 4096)) := by
  rw [← toL_length] at hcase
  rcases hcase with ⟨he, hno⟩ | ⟨he, f, s2, st, s3, a, s4, r1, r2, r3, d1, d2, d3, d4⟩
  ·exact .inl ⟨he, readCR_bad hyes hn0 hno⟩
  ·refine .inr ⟨he, ?_⟩
   rw [d1, d2, d3, d4, toL_bs, toL_bs, toL_bs, toL_bs];exact readCR_fin hyes hn0 r1 r2 r3
 have Hcr := hide hcr;obtain ⟨R, hR⟩ : ∃ R, readCR (m : Int) (toL data) = R := ⟨_, rfl⟩;rw [hR] at Hcr ⊢;have hx0 : SB (w.alloc (.cells #[.string data, .int .i64 0] 91)) w.heap.size data 0 := Bk.new _ _ _;have hb0 := (Below.refl w.heap.size w).alloc (Nat.le_refl _) (.cells #[.string data, .int .i64 0] 91);have Hx0 := hide hx0;have Hb0 := hide hb0
 have hnn : ((n : Int) == 0) = false := by rw [beq_eq_false_iff_ne]; omega
 obtain ⟨SR, hSR⟩ : ∃ s, bs r = s := ⟨_, rfl⟩;rw [hSR] at H1 H0;have hgG := decn_good (toL t3) 4096
 have HG : Hid (∀ W, Calls Tryz.prog 80 #[.string t3, .int .i64 4096] W fun x w' => LRes W x w' (decn (toL t3) 4096)) := hide (fun W => by
  have := fdecn_any (toL t3) (by rw [toL_length]; omega) 4096 W;rw [bs_toL] at this
  exact this)
 have HD := hide (fun W => rdecode12_any S3 (by omega) 4096 W)
 have hdec : (∀ t ∈ (dec (toL S3) 4096).1, t.size ≤ 128) ∧ (dec (toL S3) 4096).1.length ≤ 4096 := by
  rcases dec_strict (toL S3) 4096 with (h | h) | ⟨l, h, he, hr, hl128, hl4⟩
  ·rw [h]; exact ⟨fun t ht => (by cases ht), Nat.zero_le _⟩
  ·rw [h]; exact ⟨fun t ht => (by cases ht), Nat.zero_le _⟩
  ·rw [h]; exact ⟨hl128, by simpa using hl4⟩
 generalize decn (toL t3) 4096 = GG at *
 generalize dec (toL S3) 4096 = DD at *
 obtain ⟨G, eg⟩ := GG;obtain ⟨D, ed⟩ := DD;simp only at hgG hdec;unfold LRes at HG;unfold TRes at HD;simp only at HG HD;have HF := hide (fun W => aext_two t1 (by omega) (m : Int) W);have HT := hide (fun W => aext_two t2 (by omega) (m : Int) W);have HV := hide (fun W2 (A : Option Addr) (cap : Nat) (hat : At W2 A (svs D)) => a14extend_any hat (fun t ht => by have := hdec.1 t ht; omega) D.length cap rfl (by omega) (m : Int));have HGG := hide hgG
 have Hst0 := hide (show (t2.toList.isEmpty = true ∧ toL t2 = []) ∨ (t2.toList.isEmpty = false ∧ toL t2 ≠ []) by
  have := bs_emp (toL t2);rw [bs_toL] at this
  by_cases h : toL t2 = []
  ·exact .inl ⟨by rw [this]; exact decide_eq_true h, h⟩
  ·exact .inr ⟨by rw [this]; exact decide_eq_false h, h⟩)
 have hd2 : (data.size : Int) ≤ 1000000000 := by omega
 clear h1 hnr hrl hu hcase hlen hcr hR hx0 hb0 hU hyes hSR hgG hdec hS3 hz1 hz2 hz3 hd
 go_enter Tryz.func44, Tryz.ntmps44
 go_wp2_with fail
 refine (H1.out _).mono ?_;rintro x w1 ⟨rfl, hb1⟩;have hx1 := Hx0.out.below hb1;have hx1b := hx1.two (s2 := SR) (e2 := ((0 : Nat) : Int));have hbw1 := two_bel (Hb0.out.trans (hb1.mono Hb0.out.size)) (Nat.le_refl _) (.string SR) (.int .i64 ((0 : Nat) : Int));obtain ⟨⟨c0, c1⟩, f0, f1⟩ := hx1.cells;have Hx1 := hide hx1b;have Hbw1 := hide hbw1;clear hx1 hx1b hbw1 hb1 H1 Hx0 Hb0
 go_upto_region 3 with fail
 obtain ⟨W1, hW1⟩ : ∃ W, ((w1.setCell ⟨w.heap.size, 0, none⟩ (.string SR)).setCell ⟨w.heap.size, 1, none⟩ (.int .i64 ((0 : Nat) : Int))) = W := ⟨_, rfl⟩;rw [hW1] at Hx1 Hbw1;have hW1b : ((w1.setCell ⟨w.heap.size, 0, none⟩ (.string SR)).setCell ⟨w.heap.size, 1, none⟩ (.int .i64 0)) = W1 := hW1
 try rw [hW1]
 try rw [hW1b]
 clear hW1 hW1b c0 c1 f0 f1;obtain ⟨⟨c0, c1⟩, f0, f1⟩ := Hx1.out.cells;have hx3 := Hx1.out.alloc (.cells #[] 9);have hb3 := Hbw1.out.alloc Hbw1.out.size (.cells #[] 9);have ho3 := own_base (own_made0 9 W1) Hbw1.out.size;have Hx3 := hide hx3;have Hb3 := hide hb3;have Ho3 := hide ho3;clear hx3 hb3 ho3 Hx1 Hbw1;have c1' : W1.cell? ⟨w.heap.size, 1, none⟩ = some (.int .i64 0) := c1
 go_wp2
 go_loopw [9, 10] (fun dv iv wr => ∃ i : Nat, i ≤ 3 ∧ iv = .int .i64 (i : Int) ∧ Hid (wr.ownsRow w.heap.size 9 1 dv i (svs (U i).1)) ∧ Hid (SB wr w.heap.size (U i).2.1 ((U i).2.2 : Int)) ∧ Hid (Below w.heap.size w wr)) (fun _ iv _ => (3 - intOf iv).toNat)
 case atStart => exact ⟨0, by omega, rfl, hide (by rw [H0.out]; exact Ho3.out), hide (by rw [H0.out]; exact Hx3.out), Hb3⟩
 case round =>
  clear Ho3 Hx3 Hb3 c0 c1 f0 f1 c1';obtain ⟨i, hi, rfl, hown, hx, hf⟩ := hrel;obtain ⟨A5, M5, cap5, rfl⟩ := own_slice hown.out
  by_cases hlt : i < 3
  case pos => as_aux_lemma =>
   obtain ⟨⟨c0, c1⟩, f0, f1⟩ := hx.out.cells;have h3 := H3.out i;have hst := Hst.out i;obtain ⟨⟨tt, S', e'⟩, htx⟩ : ∃ q, textR (U i).2.1 (U i).2.2 (data.size : Int) = q := ⟨_, rfl⟩;rw [dv3_of htx] at h3;rw [htx] at hst;obtain ⟨⟨ws, S, e⟩, hUi⟩ : ∃ q, U i = q := ⟨_, rfl⟩;have hli := Hlen.out i;rw [hUi] at h3 hst hown hx hli c0 c1;simp only at h3 hst hown hx hli c0 c1;have H3' := hide h3;have Hst' := hide hst
   have hi3 : (i : Int) < 3 := by omega
   clear h3 hst htx hUi H3 Hst H0 Hu Hcr HG HD HF HT HV HGG Hst0 Hlen hli
   go_wp2_with fail
   refine (H3'.out _).mono ?_;rintro z w4 ⟨rfl, hb4⟩;have hx4 := (hx.out.below hb4).alloc (.cells #[.string S', .int .i64 (e' : Int)] 91);have hy4 : SB (w4.alloc (.cells #[.string S', .int .i64 (e' : Int)] 91)) w4.heap.size S' (e' : Int) := Bk.new _ _ _;have hf4 := hf.out.trans (hb4.mono hf.out.size);have hf4a := hf4.alloc hf4.size (.cells #[.string S', .int .i64 (e' : Int)] 91);have hown4 := (own_fr hown.out (Fr.of_below (S := nob) hb4) (fun _ _ f => f)).alloc (.cells #[.string S', .int .i64 (e' : Int)] 91);have Hx4 := hide hx4;have Hy4 := hide hy4;have Hf4 := hide hf4a;have Hown4 := hide hown4;clear hx4 hy4 hf4 hf4a hown4 hb4 H3' hx hf hown c0 c1 f0 f1
   go_upto_region 10 with fail
   generalize w4.alloc (.cells #[.string S', .int .i64 (e' : Int)] 91) = W4 at *
   obtain ⟨⟨y0, y1⟩, _, _⟩ := Hy4.out.cells;obtain ⟨⟨x0, x1⟩, f0, f1⟩ := Hx4.out.cells
   have hp1 : i + 1 ≤ maxLen := by unfold maxLen; omega
   have hp2 : (i + 1) * 16 ≤ 140737488355328 := by omega
   obtain ⟨va, wa, ra, oa, ba, na, sa, ta, ka⟩ := app_own3 (P := Tryz.prog) 22 9 _ _ Tryz.underlying22 strinf rfl Hown4.out.drew Hf4.out.drew Hf4.out.size (.string tt) rfl hp1 hp2;obtain ⟨A9, M9, cap9, rfl⟩ := own_slice oa;have hya : SB wa w4.heap.size S' (e' : Int) := ka _ _ _ (Bk.drew Hy4.out) (by decide);have hxa : SB wa w.heap.size S (e : Int) := ka _ _ _ (Bk.drew Hx4.out) (by decide);have hoF := (own_fr oa (only_set (only_set (Fr.refl (only w.heap.size) wa) 0 (.string S')) 1 (.int .i64 (e' : Int))) (fun g hg h => own_apart oa hxa (by decide) (by rw [hg]; exact congrArg some h)))
   have hoF2 : ((wa.setCell ⟨w.heap.size, 0, none⟩ (.string S')).setCell ⟨w.heap.size, 1, none⟩ (.int .i64 (e' : Int))).ownsRow w.heap.size 9 1 (.slice A9 M9 cap9) (i + 1) (svs (U (i + 1)).1) := by rw [Hst'.out]; show World.ownsRow _ _ _ _ _ _ (svs (ws ++ [tt])); rw [svs_snoc]; exact hoF
   have hxF := hxa.two (s2 := S') (e2 := (e' : Int));have hbF := two_bel ba (Nat.le_refl _) (.string S') (.int .i64 (e' : Int));have Hra := hide (show (Builtin.append_ #[22, 22] 22 #[.slice A5 M5 cap5, .slice (some ⟨W4.heap.size, 0, none⟩) 1 1]).run Tryz.prog (W4.alloc (.cells #[.string tt] 9)).drew = .ok (.slice A9 M9 cap9) wa from ra);have ly := Bk.lt Hy4.out;have lx := Bk.lt Hx4.out;obtain ⟨⟨q0, q1⟩, _, _⟩ := hya.cells;obtain ⟨⟨z0, z1⟩, g0, g1⟩ := hxa.cells;have HoF := hide hoF2;have HxF := hide (show SB ((wa.setCell ⟨w.heap.size, 0, none⟩ (.string S')).setCell ⟨w.heap.size, 1, none⟩ (.int .i64 (e' : Int))) w.heap.size (U (i + 1)).2.1 ((U (i + 1)).2.2 : Int) by rw [Hst'.out]; exact hxF);have HbF := hide hbF;clear ra oa ba na sa ta ka hya hxa hoF hoF2 hxF hbF hp1 hp2 Hst'
   go_region_law ((refine step_runW (by with_reducible rfl) (by rfl) _ _ _ (by rfl) _ _ (by rfl) (by rfl) Hra.out ?_))
   all_goals
    clear q0 q1 z0 z1 g0 g1 y0 y1 x0 x1 f0 f1 Hra
    generalize ((wa.setCell ⟨w.heap.size, 0, none⟩ (.string S')).setCell ⟨w.heap.size, 1, none⟩ (.int .i64 (e' : Int))) = W9 at *
    go_wp2
    go_roundw
    case rel => exact ⟨i + 1, by omega, by go_num, HoF, HxF, HbF⟩
    case measure => simp [intOf] <;> omega
  case neg => as_aux_lemma =>
   have hi3 : i = 3 := by omega
   subst hi3;obtain ⟨A9, c9, hv9, hat9⟩ := own_at hown.out
   injection hv9 with g1 g2 g3
   have g2 := g2.symm
   subst g1; subst g2; subst g3
   rw [Hu.out] at hat9 hx;have hU3 := Hu.out;obtain ⟨b9, o9, rfl, hb9, k0⟩ := sv_cell hat9 0 (by simp);have hM0 : UcM w S3 e3 (some ⟨b9, o9, none⟩) [t1, t2, t3] none [] none [] wr := ⟨hf.out, hx.out, hat9, At.nil _ _, At.nil _ _⟩;have HM0 := hide hM0
   have HC := hide (fun W (h : At W (some ⟨b9, o9, none⟩) (svs [t1, t2, t3])) => (by
    obtain ⟨b', o', e', _, q0⟩ := sv_cell h 0 (by simp);obtain ⟨b1, o1, e1, _, q1⟩ := sv_cell h 1 (by simp);obtain ⟨b2, o2, e2, _, q2⟩ := sv_cell h 2 (by simp)
    injection e' with e'; injection e' with x1 x2; subst x1; subst x2
    injection e1 with e1; injection e1 with x1 x2; subst x1; subst x2
    injection e2 with e2; injection e2 with x1 x2; subst x1; subst x2
    exact ⟨q0, q1, q2⟩ : W.cell? ⟨b9, o9, none⟩ = some (.string t1) ∧ W.cell? ⟨b9, o9 + 1, none⟩ = some (.string t2) ∧ W.cell? ⟨b9, o9 + 2, none⟩ = some (.string t3)))
   obtain ⟨k0', k1', k2'⟩ := HC.out wr hat9;clear hown hx hf hat9 k0 hU3 H3 Hst H0 Hu Hlen hM0 hlt hi;have K1 := hide (HG.out wr);obtain ⟨⟨F1, ef⟩, hF1⟩ : ∃ q, ext (m : Int) (toL t1) = q := ⟨_, rfl⟩;obtain ⟨⟨T1, et⟩, hT1⟩ : ∃ q, ext (m : Int) (toL t2) = q := ⟨_, rfl⟩;rw [hF1] at HF;rw [hT1] at HT;simp only at HF HT;have HF1 := hide hF1;have HT1 := hide hT1;clear hF1 hT1;have hcr := Hcr.out;unfold crFin at hcr;rw [HF1.out, HT1.out] at hcr;simp only at hcr;have Hcr2 := hide hcr;clear hcr Hcr HG
   go_wp2_with fail
   refine (K1.out).mono ?_;rintro x w5 ⟨v, rfl, ⟨A1, cap1, rfl, hat1⟩, hb⟩;have hM5 := HM0.out.next hb;have HM5 : Hid (UcM w S3 e3 (some ⟨b9, o9, none⟩) [t1, t2, t3] A1 G none [] w5) := hide ⟨hM5.1, hM5.2.1, hM5.2.2.1, hat1, hM5.2.2.2.2⟩;obtain ⟨⟨c0, c1⟩, _, _⟩ := hM5.2.1.cells;obtain ⟨k0, k1, k2⟩ := HC.out w5 hM5.2.2.1;have K2 := hide (HD.out w5);clear hb hat1 hM5 K1 HM0 HD k0' k1' k2'
   go_wp2_with fail
   refine (K2.out).mono ?_;rintro x w6 ⟨v, rfl, ⟨A2, cap2, rfl, hat2⟩, hb⟩;have hM6 := HM5.out.next hb;have HM6 : Hid (UcM w S3 e3 (some ⟨b9, o9, none⟩) [t1, t2, t3] A1 G A2 D w6) := hide ⟨hM6.1, hM6.2.1, hM6.2.2.1, hM6.2.2.2.1, hat2⟩;clear c0 c1 k0 k1 k2;obtain ⟨⟨c0, c1⟩, _, _⟩ := hM6.2.1.cells;obtain ⟨k0, k1, k2⟩ := HC.out w6 hM6.2.2.1;have K3 := hide (HF.out w6);clear hb hat2 hM6 K2 HM5 HF
   go_wp2_with fail
   refine (K3.out).mono ?_;rintro x w7 ⟨rfl, hb⟩;have HM7 := hide (HM6.out.next hb);clear c0 c1 k0 k1 k2;obtain ⟨⟨c0, c1⟩, _, _⟩ := HM7.out.2.1.cells;obtain ⟨k0, k1, k2⟩ := HC.out w7 HM7.out.2.2.1;have K4 := hide (HT.out w7);clear hb K3 HM6 HT
   go_upto_if 95 with fail
   go_cut [20] (fun s20 wx => s20 = .string (bs T1) ∧ Hid (UcM w S3 e3 (some ⟨b9, o9, none⟩) [t1, t2, t3] A1 G A2 D wx))
   case first => as_aux_lemma =>
    rcases Hst0.out with ⟨hem, hst⟩ | ⟨hem, hst⟩
    ·rw [hem]
     have hT : bs T1 = ⟨#[]⟩ := by
      have := HT1.out;rw [hst] at this
      have h2 : T1 = [] := by
       unfold ext at this
       split at this
       ·injection this with h _; exact h.symm
       ·injection this with h _; exact h.symm
      rw [h2]; rfl
     have HTt := hide hT;clear hst Hst0 K4 HV hT Hcr2 HC
     go_wp2
     go_meet
     case rel => exact ⟨by rw [HTt.out], HM7⟩
    ·rw [hem]
     clear hst Hst0 HV Hcr2 HC
     go_wp2_with fail
     refine (K4.out).mono ?_;rintro x w8 ⟨rfl, hb⟩;have HM8 := hide (HM7.out.next hb);clear hb K4 HM7
     go_wp2
     go_meet
     case rel => exact ⟨rfl, HM8⟩
   case rest => as_aux_lemma =>
    obtain ⟨rfl, HM8⟩ := hcut;have K5 := hide (HV.out wc A2 cap2 HM8.out.2.2.2.2);clear HM7 K4 HV Hst0 c0 c1 k0 k1 k2 HC
    go_wp2_with fail
    refine (K5.out).mono ?_;rintro x w9 hx;obtain ⟨AV, kv, cv, okv, rfl, hb, hov⟩ := ex_open hx;have HM9 := hide (HM8.out.next hb);obtain ⟨⟨c0, c1⟩, _, _⟩ := HM9.out.2.1.cells;have Hov := hide hov;clear hx hb hov K5 HM8
    by_cases he3 : e3 = 0
    case neg =>
     have HRn := hide (show R = none by
      rcases Hcr2.out with ⟨_, h⟩ | ⟨h, _⟩
      ·exact h
      ·exact absurd h he3)
     have hne : ((e3 : Int) != 0) = true := by rw [bne_iff_ne]; omega
     clear Hcr2 Hov HGG he3
     go_wp2
     go_returns
     exact exr_none HM9.out.1 HRn.out
    have hne3 : ((e3 : Int) != 0) = false := by rw [he3]; rfl
    have hR2 := (Hcr2.out.resolve_left (fun h => h.1 he3)).2;clear he3 Hcr2
    by_cases hg0 : eg = 0
    case neg =>
     rw [if_pos (.inl hg0)] at hR2;have HRn := hide hR2
     have hne : ((eg : Int) != 0) = true := by rw [bne_iff_ne]; omega
     clear Hov HGG hg0 hR2
     go_wp2
     go_returns
     exact exr_none HM9.out.1 HRn.out
    by_cases hd0 : ed = 0
    case neg =>
     rw [if_pos (.inr hd0)] at hR2;have HRn := hide hR2
     have hne : ((ed : Int) != 0) = true := by rw [bne_iff_ne]; omega
     have hng : ((eg : Int) != 0) = false := by rw [hg0]; rfl
     clear Hov HGG hd0 hR2 hg0
     go_wp2
     go_returns
     exact exr_none HM9.out.1 HRn.out
    rw [if_neg (by rintro (h | h); exact h hg0; exact h hd0)] at hR2
    have hng : ((eg : Int) != 0) = false := by rw [hg0]; rfl
    have hnd : ((ed : Int) != 0) = false := by rw [hd0]; rfl
    clear hg0 hd0
    by_cases hf0 : ef = 0
    case neg =>
     have HRn := hide (show R = none by
      rw [hR2]
      cases extL (m : Int) D with
      | none => rfl
      | some vs => simp only; rw [if_pos (.inl hf0)])
     have hne : ((ef : Int) != 0) = true := by rw [bne_iff_ne]; omega
     clear Hov HGG hf0 hR2
     go_wp2
     go_returns
     exact exr_none HM9.out.1 HRn.out
    have hnf : ((ef : Int) != 0) = false := by rw [hf0]; rfl
    rcases Hov.out with ⟨rfl, hov⟩ | ⟨rfl, vs, hov, rfl, hatv⟩
    ·rw [hov] at hR2
     have HRn := hide hR2;clear Hov HGG hf0 hR2 hov
     go_wp2
     go_returns
     exact exr_none HM9.out.1 HRn.out
    rw [hov] at hR2;simp only at hR2;have hvl := extL_valid hov
    by_cases hll : G.length = vs.length
    case neg =>
     rw [if_pos (.inr hll)] at hR2;have HRn := hide hR2
     have hne : ((G.length : Int) != (vs.length : Int)) = true := by rw [bne_iff_ne]; omega
     clear Hov HGG hf0 hR2 hov hvl hatv hll
     go_wp2
     go_returns
     exact exr_none HM9.out.1 HRn.out
    rw [if_neg (by rintro (h | h); exact h hf0; exact h hll)] at hR2
    have hq2 : ((G.length : Int) != (vs.length : Int)) = false := by rw [hll]; simp
    have hF8 : (bs F1).size ≤ 128 := by
     have := HF1.out;rw [hf0] at this;have h2 := ext_vld this;rw [bs_size];exact (isV_iff.1 (vld_iff.1 h2).1).2.2
    have hS8 : (bs T1).size ≤ 128 := by
     have h := HT1.out;rw [bs_size]
     by_cases ht : et = 0
     ·rw [ht] at h
      exact (isV_iff.1 (vld_iff.1 (ext_vld h)).1).2.2
     ·have h3 : T1 = [] := by
       cases h4 : T1 with
       | nil => rfl
       | cons a q =>
        have := ext_good (w := (m : Int)) (u := toL t2) (by rw [h]; simp only; rw [h4]; simp);rw [h] at this;exact absurd this ht
      rw [h3]; exact Nat.zero_le _
    have hvs : ∀ v ∈ vs, v.size ≤ 128 ∧ v ≠ bs [] := fun v hv => by
     have h := isV_iff.1 (vld_iff.1 (hvl.1 v hv)).1;exact ⟨by rw [← toL_length]; exact h.2.2, fun e => h.2.1 (by rw [e]; rfl)⟩
    have HR2 := hide hR2;have Hvs := hide hvs;have Hll := hide hll;have Hatv := hide hatv
    have hvl2 : vs.length ≤ 4096 := by have := HGG.out.2; omega
    clear Hov hf0 hR2 hov hvl hatv hll hvs HF1 HT1;obtain ⟨K, hK⟩ : ∃ K, G.length = K := ⟨_, rfl⟩
    have hK4 : K ≤ 4096 := by have := HGG.out.2; omega
    rw [← Hll.out, hK];have HK := hide hK;have HKv := hide (Hll.out.symm.trans hK);obtain ⟨F, hF⟩ : ∃ F, bs F1 = F := ⟨_, rfl⟩;obtain ⟨SB', hSB⟩ : ∃ F, bs T1 = F := ⟨_, rfl⟩;rw [hF] at hF8 HR2 ⊢;rw [hSB] at hS8 HR2 ⊢;have ho0 := hide (own_made1 w9 9 (.string F));have hb0 := hide (bel_new1 w9 (.cells #[.string F] 9));have Hat1 := hide HM9.out.2.2.2.1;have Hw9 := hide HM9.out.1;have Hadd := hide (fun (v : ByteArray) (h : v.size ≤ 128) W2 => aadd_two v SB' (by omega) (by omega) W2);have Hgz := hide HGG.out.1
    have hnle : 1 ≤ n := by omega
    have HF8 := hide hF8;clear hK hF hSB HGG Hll hvl2 hF8 hS8 hq2
    go_upto_if 140 with fail
    go_cut [23] (fun s23 wx => ∃ pt : Int, s23 = .int .i64 pt ∧ -1 ≤ pt ∧ pt ≤ 4096 ∧ Hid (pt = nxt (n : Int) (-1) G) ∧ Hid (K = 0 → pt = -1) ∧ wx = w9.alloc (.cells #[.string F] 9))
    case first => as_aux_lemma =>
     rcases Nat.eq_zero_or_pos K with h0 | hp
     ·have hG0 : G = [] := List.eq_nil_of_length_eq_zero (by rw [HK.out]; exact h0)
      have hk0 : ¬ (0 : Int) < (K : Int) := by omega
      have Hnx := hide (show (-1 : Int) = nxt (n : Int) (-1) G by rw [hG0]; rfl);clear hG0 h0
      go_wp2
      go_meet
      case rel => exact ⟨-1, rfl, by omega, by omega, Hnx, hide (fun _ => rfl), rfl⟩
     ·have hkp : (0 : Int) < (K : Int) := by omega
      have h0G : 0 < G.length := by rw [HK.out]; exact hp
      have hget := ivs_atC G 0 h0G;have hg0 := Hgz.out (G[0]'h0G) (List.getElem_mem _);have hGe : G = (G[0]'h0G) :: G.tail := head_tailI G h0G;obtain ⟨g, hg⟩ : ∃ g, G[0]'h0G = g := ⟨_, rfl⟩;rw [hg] at hget hg0
      have hGe2 : G = g :: G.tail := by rw [← hg]; exact hGe
      obtain ⟨bA, oA, hA, hbA, hcA⟩ := (Hat1.out.below hb0.out).get 0 _ hget;subst hA;rw [Nat.add_zero] at hcA;obtain ⟨M, hM⟩ : ∃ M, min g (n : Int) = M := ⟨_, rfl⟩
      have hM0 : 0 ≤ M ∧ M ≤ 4096 := by omega
      have Hnx := hide (show M = nxt (n : Int) (-1) G by rw [hGe2]; show M = (-1 : Int) + 1 + min g (n : Int); omega);obtain ⟨m1, m2⟩ := hM0;clear hget hg hGe hGe2 h0G
      go_wp2
      go_meet
      case rel => exact ⟨M, rfl, by omega, m2, Hnx, hide (fun h => by omega), rfl⟩
    case rest => as_aux_lemma =>
     obtain ⟨pt0, rfl, hp1, hp2, hpn, hpz, rfl⟩ := hcut
     have Hst := hide (show R = (runR (n : Int) SB' (n - 1) 1 pt0 (vs.drop 0) (G.drop 1) F).map ([F] ++ ·) by
      rw [HR2.out, hpn.out];rw [List.drop_zero, List.drop_one]
      rfl)
     have hn1i : (1 : Int) ≤ (n : Int) := by omega
     clear HR2 hpn Hw9;have Hw9 := hide HM9.out.1;clear HM9
     go_wp2
     go_loopw [22, 23, 24, 25] (fun s22 s23 s24 s25 wr => ∃ (i k : Nat) (pt : Int) (os : List ByteArray), 1 ≤ i ∧ i ≤ n ∧ s25 = .int .i64 (i : Int) ∧ s24 = .int .i64 (k : Int) ∧ s23 = .int .i64 pt ∧ k ≤ K ∧ -1 ≤ pt ∧ pt ≤ 8200 ∧ Hid (k = K → pt < (i : Int)) ∧ Hid (os.length = i) ∧ Hid (∀ v ∈ os, v.size ≤ 128) ∧ Hid (R = (runR (n : Int) SB' (n - i) (i : Int) pt (vs.drop k) (G.drop (k + 1)) (os.getLastD default)).map (os ++ ·)) ∧ Hid (wr.ownsRow w9.heap.size 9 1 s22 i (svs os)) ∧ Hid (Below w9.heap.size w9 wr)) (fun _ _ _ s25 _ => (n - intOf s25).toNat)
     case atStart => exact ⟨1, 0, pt0, [F], Nat.le_refl _, hnle, rfl, rfl, rfl, Nat.zero_le _, hp1, by omega, hide (fun h => by have := hpz.out h.symm; omega), hide rfl, hide (fun v hv => by rw [List.mem_singleton.1 hv]; exact HF8.out), Hst, ho0, hb0⟩
     case round =>
      clear Hst ho0 hb0 hpz hp1 hp2;obtain ⟨i, k, pt, os, hi1, hin, rfl, rfl, rfl, hkK, hq1, hq2, hkp, hol, hos, hR6, hown, hb⟩ := hrel;obtain ⟨A5, M5, cap5, rfl⟩ := own_slice hown.out
      by_cases hlt : i < n
      case neg => as_aux_lemma =>
       have hjn2 : i = n := by omega
       have HRf := hide (show R = some os by rw [hR6.out, hjn2, Nat.sub_self]; show some (os ++ []) = _; rw [List.append_nil])
       have hj2 : ¬ (i : Int) < (n : Int) := by omega
       have Hres := hide (own_sres (w := wr) (v := .slice A5 M5 cap5) (l := os) (by rw [hol.out]; exact hown.out));have Hbf := hide (Hw9.out.trans (hb.out.mono Hw9.out.size));clear hR6 hown hb hos hol hjn2 hkp
       go_wp2
       go_returns
       obtain ⟨A6, c6, hv6, hat6⟩ := Hres.out;refine ⟨Hbf.out, ?_⟩;rw [HRf.out];exact ⟨A6, c6, congrArg (fun z => Ending.returned (.tuple #[z, .bool true])) hv6, hat6⟩
      case pos => as_aux_lemma =>
       have hj2 : (i : Int) < (n : Int) := by omega
       have hR7 := hR6.out;rw [show n - i = (n - (i + 1)) + 1 by omega] at hR7;obtain ⟨A6, cap6, hv6, hat6⟩ := own_at hown.out
       injection hv6 with e1 e2 e3
       have e1 := e1.symm;have e3 := e3.symm
       subst e1; subst e2; subst e3
       have hj3 : M5 - 1 < os.length := by rw [hol.out]; omega
       have hge : os.getLastD default = os[M5 - 1] := by
        have hl := hol.out
        have hne : os ≠ [] := fun e => by rw [e] at hl; simp at hl; omega
        rw [List.getLastD_eq_getLast?, List.getLast?_eq_getElem?, hl, List.getElem?_eq_getElem hj3];rfl
       obtain ⟨b6, o6, hA6, hb6, hc6⟩ := sv_cell hat6 (M5 - 1) hj3;subst hA6;rw [hge] at hR7;have hu8 := hos.out os[M5 - 1] (List.getElem_mem _);obtain ⟨u, hu⟩ : ∃ u, os[M5 - 1] = u := ⟨_, rfl⟩;rw [hu] at hc6 hR7 hu8;have HR0 := hide hR7;rw [runR_go] at hR7
       have hi6 : IntKind.i64.wrap ((M5 : Int) - 1) = ((M5 - 1 : Nat) : Int) := by rw [IntWalk.i64_in _ (by omega)]; omega
       have hi7 : (M5 : Int) - 1 = ((M5 - 1 : Nat) : Int) := by omega
       have hi8 : ((M5 - 1 : Nat) : Int) < (M5 : Int) := by omega
       have hi9 : (0 : Int) ≤ ((M5 - 1 : Nat) : Int) := by omega
       have K1 := hide (Hadd.out u hu8);obtain ⟨⟨r0, q0⟩, hr⟩ : ∃ r, addV (toL u) (toL SB') = r := ⟨_, rfl⟩;rw [hr] at K1 hR7;simp only at K1 hR7
       have hr8 : (bs r0).size ≤ 128 := by
        rw [bs_size]
        cases hq : q0 with
        | true => rw [hq] at hr; exact (knV_iff.1 (addV_known hr).1).2.2
        | false =>
         have : r0 = [] := by
          unfold addV at hr
          split at hr
          ·injection hr with _ h; rw [hq] at h; cases h
          ·injection hr with h _; exact h.symm
         rw [this]; exact Nat.zero_le _
       have HR7 := hide hR7;obtain ⟨J, hJ⟩ : ∃ J, M5 - 1 = J := ⟨_, rfl⟩;rw [hJ] at hc6 hi6 hi7 hi8 hi9;have hem := bs_emp r0;clear hr hR7 hat6 hge hu hR6 hj3 hJ hu8
       go_wp2_with fail
       refine (K1.out _).mono ?_;rintro x w3 ⟨rfl, hb3⟩;have Hown1 := hide (own_fr hown.out (Fr.of_below (S := nob) hb3) (fun _ _ f => f));have Hbx := hide (hb.out.trans (hb3.mono hb.out.size));clear hb3 hown hb hc6 K1
       by_cases hpt : (M5 : Int) = pt
       case neg => as_aux_lemma =>
        have hR7 := HR7.out;rw [if_neg hpt] at hR7
        have hbe : ((M5 : Int) == pt) = false := by rw [beq_eq_false_iff_ne]; exact hpt
        by_cases hr0 : r0 = []
        ·rw [if_pos hr0] at hR7
         rw [decide_eq_true hr0] at hem;have HRn := hide (show R = none from hR7);have Hbf := hide (Hw9.out.trans (Hbx.out.mono Hw9.out.size))
         generalize bs r0 = X at *
         clear hR7 HR7 Hown1 Hbx hos hol hkp hr0
         go_wp2
         go_returns
         exact exr_none Hbf.out HRn.out
        ·rw [if_neg hr0] at hR7
         rw [decide_eq_false hr0] at hem;obtain ⟨v, hv⟩ : ∃ v, bs r0 = v := ⟨_, rfl⟩;rw [hv] at hr8 hR7 hem ⊢;obtain ⟨v', w4, hrun, hown4, hf4, _⟩ := app_own (P := Tryz.prog) 22 9 _ _ Tryz.underlying22 strinf rfl (w := w3) Hown1.out Hbx.out Hbx.out.size (.string v) rfl (by unfold maxLen; omega) (by omega);have Hrun := hide hrun;have Hown4 := hide (show w4.ownsRow w9.heap.size 9 1 v' (M5 + 1) (svs (os ++ [v])) by rw [svs_snocB]; exact hown4);have Hf4 := hide hf4;have Hol2 := hide (show (os ++ [v]).length = M5 + 1 by rw [List.length_append, hol.out]; rfl)
         have Hos2 := hide (show ∀ u ∈ os ++ [v], u.size ≤ 128 from fun u hu => by
          rcases List.mem_append.1 hu with hu | hu
          ·exact hos.out u hu
          ·rw [List.mem_singleton.1 hu]; exact hr8)
         have HR8 := hide (show R = (runR (n : Int) SB' (n - (M5 + 1)) ((M5 + 1 : Nat) : Int) pt (vs.drop k) (G.drop (k + 1)) ((os ++ [v]).getLastD default)).map ((os ++ [v]) ++ ·) by
          rw [hR7, List.getLastD_concat, Option.map_map]
          congr 1
          funext q
          simp)
         have hkp2 := hide (show k = K → pt < ((M5 + 1 : Nat) : Int) from fun h => by have := hkp.out h; omega);clear hR7 hv hrun hown4 hf4 hos hol HR7 Hown1 Hbx hkp hr0
         go_wp2_with (
          at_builtin
          refine wpList_run (by with_reducible rfl) rfl _ _ _ rfl _ _ (by rfl) (by rfl) Hrun.out ?_)
         refine ⟨⟨M5 + 1, k, pt, os ++ [v], by omega, hlt, by go_num, rfl, rfl, hkK, hq1, hq2, hkp2, Hol2, Hos2, HR8, Hown4, Hf4⟩, ?_⟩
         simp [intOf] <;> omega
       case pos => as_aux_lemma =>
        have hR7 := HR0.out
        have hbe : ((M5 : Int) == pt) = true := by rw [hpt]; simp
        have hkl : k < K := by
         rcases Nat.lt_or_ge k K with h | h
         ·exact h
         ·have := hkp.out (by omega)
          omega
        have hkv : k < vs.length := by rw [HKv.out]; exact hkl
        have hvd : vs.drop k = (vs[k]'hkv) :: vs.drop (k + 1) := List.drop_eq_getElem_cons hkv;obtain ⟨v8, vne⟩ := Hvs.out (vs[k]'hkv) (List.getElem_mem _);obtain ⟨bv, ov, hAV, hbV, hcV⟩ := sv_cell (Hatv.out.below Hbx.out) k hkv;subst hAV;obtain ⟨v, hv⟩ : ∃ v, vs[k]'hkv = v := ⟨_, rfl⟩;rw [hv] at hvd v8 vne hcV;rw [hvd, runR_at hpt vne] at hR7;have hemv := bs_emp (toL v);rw [bs_toL, decide_eq_false (fun h => vne (by rw [← bs_toL v, h]))] at hemv;obtain ⟨v', w4, hrun, hown4, hf4, _⟩ := app_own (P := Tryz.prog) 22 9 _ _ Tryz.underlying22 strinf rfl (w := w3) Hown1.out Hbx.out Hbx.out.size (.string v) rfl (by unfold maxLen; omega) (by omega);have Hrun := hide hrun;have Hown4 := hide (show w4.ownsRow w9.heap.size 9 1 v' (M5 + 1) (svs (os ++ [v])) by rw [svs_snocB]; exact hown4);have Hf4 := hide hf4;have Hol2 := hide (show (os ++ [v]).length = M5 + 1 by rw [List.length_append, hol.out]; rfl)
        have Hos2 := hide (show ∀ u ∈ os ++ [v], u.size ≤ 128 from fun u hu => by
         rcases List.mem_append.1 hu with hu | hu
         ·exact hos.out u hu
         ·rw [List.mem_singleton.1 hu]; exact v8)
        have HR8 := hide (show R = (runR (n : Int) SB' (n - (M5 + 1)) ((M5 + 1 : Nat) : Int) (nxt (n : Int) pt (G.drop (k + 1))) (vs.drop (k + 1)) (G.drop (k + 1)).tail ((os ++ [v]).getLastD default)).map ((os ++ [v]) ++ ·) by
         rw [hR7, List.getLastD_concat, Option.map_map]
         congr 1
         funext q
         simp)
        have hk0 : (0 : Int) ≤ (k : Int) := by omega
        have hk1 : (k : Int) < (K : Int) := by omega
        by_cases hk2 : k + 1 < K
        ·have hkG : k + 1 < G.length := by rw [HK.out]; exact hk2
         have hget := ivs_atC G (k + 1) hkG;have hg0 := Hgz.out (G[k + 1]'hkG) (List.getElem_mem _);have hgd : G.drop (k + 1) = (G[k + 1]'hkG) :: G.drop (k + 1 + 1) := List.drop_eq_getElem_cons hkG;obtain ⟨bA, oA, hA1, hbA, hcA⟩ := (Hat1.out.below Hbx.out).get (k + 1) _ hget;subst hA1;obtain ⟨g, hg⟩ : ∃ g, G[k + 1]'hkG = g := ⟨_, rfl⟩;rw [hg] at hcA hg0 hgd;obtain ⟨M, hM⟩ : ∃ M, min g (n : Int) = M := ⟨_, rfl⟩
         have hM0 : 0 ≤ M ∧ M ≤ 4096 := by omega
         obtain ⟨m1, m2⟩ := hM0
         have HR9 := hide (show R = (runR (n : Int) SB' (n - (M5 + 1)) ((M5 + 1 : Nat) : Int) (pt + 1 + M) (vs.drop (k + 1)) (G.drop (k + 1 + 1)) ((os ++ [v]).getLastD default)).map ((os ++ [v]) ++ ·) by
          have h := HR8.out;rw [hgd] at h;simp only [List.tail_cons] at h
          have h2 : nxt (n : Int) pt (g :: G.drop (k + 1 + 1)) = pt + 1 + M := by
           show pt + 1 + min g (n : Int) = _
           rw [hM]
          rw [h2] at h
          exact h)
         have hk3 : (k : Int) + 1 < (K : Int) := by omega
         have hk4 : (0 : Int) ≤ (k : Int) + 1 := by omega
         have hk5 : ((k : Int) + 1).toNat = k + 1 := by omega
         have hptb : pt ≤ 4096 := by omega
         have hkp2 := hide (show k + 1 = K → pt + 1 + M < ((M5 + 1 : Nat) : Int) from fun h => by omega);clear hR7 HR7 HR8 hkv hvd hv hrun hown4 hf4 hos hol Hown1 Hbx hkp hget hg hgd hkG hpt Hvs
         go_wp2_with (
          at_builtin
          refine wpList_run (by with_reducible rfl) rfl _ _ _ rfl _ _ (by rfl) (by rfl) Hrun.out ?_)
         refine ⟨⟨M5 + 1, k + 1, pt + 1 + M, os ++ [v], by omega, hlt, by go_num, by go_num, by go_num, by omega, by omega, by omega, hkp2, Hol2, Hos2, HR9, Hown4, Hf4⟩, ?_⟩
         simp [intOf] <;> omega
        ·have hgd : G.drop (k + 1) = [] := List.drop_eq_nil_of_le (by rw [HK.out]; omega)
         have HR9 := hide (show R = (runR (n : Int) SB' (n - (M5 + 1)) ((M5 + 1 : Nat) : Int) pt (vs.drop (k + 1)) (G.drop (k + 1 + 1)) ((os ++ [v]).getLastD default)).map ((os ++ [v]) ++ ·) by
          have h := HR8.out;rw [hgd] at h;rw [List.drop_eq_nil_of_le (show G.length ≤ k + 1 + 1 by rw [HK.out]; omega)]
          exact h)
         have hk3 : ¬ (k : Int) + 1 < (K : Int) := by omega
         have hkp2 := hide (show k + 1 = K → pt < ((M5 + 1 : Nat) : Int) from fun h => by omega);clear hR7 HR7 HR8 hkv hvd hv hrun hown4 hf4 hos hol Hown1 Hbx hkp hgd hpt Hvs
         go_wp2_with (
          at_builtin
          refine wpList_run (by with_reducible rfl) rfl _ _ _ rfl _ _ (by rfl) (by rfl) Hrun.out ?_)
         refine ⟨⟨M5 + 1, k + 1, pt, os ++ [v], by omega, hlt, by go_num, by go_num, rfl, by omega, hq1, hq2, hkp2, Hol2, Hos2, HR9, Hown4, Hf4⟩, ?_⟩
         simp [intOf] <;> omega
end Go.Proofs.YtoeeblldgoccoaaGreat
