/-
  Joined texts: BioPr9, Su.
-/
import Derived.Test.YtoeeblldgoccoaaGreatL19
import Derived.Test.YtoeeblldgoccoaaGreatL17
set_option linter.unusedVariables false
set_option linter.unusedSimpArgs false
set_option maxRecDepth 100000
set_option maxHeartbeats 8000000
namespace Go.Proofs.YtoeeblldgoccoaaGreat.Bio
open Go.RowKit Go.Proofs Wv Wv.Bit
theorem RdAt.below {w w' : World} {b x n : Nat} {s : ByteArray} (h : RdAt w b s x n) (hb : Below w.heap.size w w') : RdAt w' b s x n := ⟨h.1.below hb h.1.lt, h.2⟩
theorem RdAt.alloc {w : World} {b x n : Nat} {s : ByteArray} (h : RdAt w b s x n) (o : Obj) : RdAt (w.alloc o) b s x n := ⟨h.1.alloc o, h.2⟩
theorem RdAt.back {w : World} {b x y n : Nat} {s : ByteArray} (h : RdAt w b s y n) (hx : x ≤ n) : RdAt (w.setCell ⟨b, 1, none⟩ (.int .i64 (x : Int))) b s x n := ⟨h.1.put 1 _, hx, h.2.2⟩
theorem get0 {b x n : Nat} {s : ByteArray} {w : World} (h : RdAt w b s x n) (p m : Int) (h0 : 0 ≤ p) (h1 : p ≤ 62) :
  Calls Tryz.prog 132 #[.pointer (some ⟨b, 0, none⟩), .int .i64 0, .int .i64 p, .int .i64 m] w fun e w' => ∃ y, e = .returned (.tuple #[.int .i64 ((getm 0 p m ((rbits s n).drop x)).2.1 : Nat), .int .i64 ((getm 0 p m ((rbits s n).drop x)).2.2 : Nat)]) ∧ RdAt w' b s y n ∧ Fr (only b) w w' ∧ (getm 0 p m ((rbits s n).drop x)).1 = (rbits s n).drop y := by
 have hfd := find0 p h0 h1 w
 have hp : par 0 p = true := by simp [par]; omega
 unfold kv0 at hfd;have Hf := hide hfd;clear hfd;have Hh := hide h
 go_enter Tryz.func132, Tryz.ntmps132
 go_wp2_with fail
 refine (Hf.out).mono ?_;rintro e w1 ⟨rfl, hb⟩;have hr1 := Hh.out.below hb;have hc1 := hr1.c1;have hs := hb.size;have hlt := hr1.1.lt
 go_wp2_with fail
 have hr2 := (hr1.alloc (.cells kv0.cells 166));have Hr := hide (kread0 hr2 p h0 h1);simp only [kv0, Value.cells] at Hr;have hf0 := ((Fr.of_below (S := only b) hb).alloc (.cells kv0.cells 166));simp only [kv0, Value.cells] at hf0;refine (Hr.out).mono ?_;rintro e w2 ⟨v, er, y, rfl, hr3, hf3, hres⟩;have hxn := h.2.1;have g1 := hr3.c1;have g2 : w2.frozen? ⟨b, 1, none⟩ = false := hr3.1.frozen 1
 by_cases he : er = 0
 ·subst he
  obtain ⟨h5, h6, h7⟩ := getm_ok (m := m) hp hres
  by_cases hm : m < v
  ·rw [if_pos hm] at h6
   have H6 := hide h6;clear h6
   go_wp2
   go_ret2
   exact ⟨x, ret_int2 (by rw [H6.out]; rfl) (by rw [H6.out]; rfl), hr3.back hxn, (hf0.trans hf3).setCell (p := ⟨b, 1, none⟩) (.inl rfl) _, by rw [H6.out]⟩
  ·rw [if_neg hm] at h6
   have H6 := hide h6;clear h6
   go_wp2
   go_ret2
   exact ⟨y, ret_int2 (by rw [H6.out]; simp only; omega) (by rw [H6.out]; rfl), hr3, hf0.trans hf3, by rw [H6.out]; simp only; rw [List.drop_drop, show x + (y - x) = y from by omega]⟩
 ·have H6 := hide (getm_err (m := m) hp hres he)
  have he1 : ((er : Int) == 0) = false := by rw [beq_eq_false_iff_ne]; omega
  have he2 : ((er : Int) != 0) = true := by rw [bne_iff_ne]; omega
  clear he
  go_wp2
  go_ret2
  exact ⟨x, ret_int2 (by rw [H6.out]; rfl) (by rw [H6.out]), hr3.back hxn, (hf0.trans hf3).setCell (p := ⟨b, 1, none⟩) (.inl rfl) _, by rw [H6.out]⟩
end Go.Proofs.YtoeeblldgoccoaaGreat.Bio
namespace Go.Proofs.YtoeeblldgoccoaaGreat
open Go.RowKit Go.Proofs Wv Wv.Vi Wv.Rc
def dsm (b : Nat) (w : World) : Nat := match w.cell? ⟨b, 2, none⟩ with
 | some (.int _ n) => (16777216 - n).toNat
 | _ => 0
theorem dsm_eq {w : World} {b : Nat} {d : De} (h : DB w b d) : dsm b w = (16777216 - (d.size : Int)).toNat := by
 have := h.cells.2.2.1;unfold dsm;rw [this]
theorem fdread_any (d : De) (hv : DV 0 d) (p : Nat) (hp1 : 1 ≤ p) (hp2 : p ≤ 2047) (w : World) :
    Calls Tryz.prog 180 #[.agg #[.string (bs d.rest), .int .i64 (d.code : Int), .int .i64 (d.size : Int), .bool d.miss, .bool d.full], .int .i64 (p : Int)] w fun x w' => x = .returned (.tuple #[.agg #[.string (bs (dbit p d).rest), .int .i64 ((dbit p d).code : Int), .int .i64 ((dbit p d).size : Int), .bool (dbit p d).miss, .bool (dbit p d).full], .int .i64 (dbt p d : Nat)]) ∧ Below w.heap.size w w' := by
  obtain ⟨v1, v2⟩ := dv_up hv;obtain ⟨b1, b2⟩ := bound_le d.size p v1 hp1 hp2;have hcode := hv.2;have hpv := dpart_v hv hp1 hp2;obtain ⟨B, hB⟩ : ∃ B, d.size / 2048 * p = B := ⟨_, rfl⟩;have Hcl := hide (flimit_any (p : Int) (by omega) (by omega));rw [hB] at b1 b2
  have hdp : dpart p d = if d.code < B then { d with size := B } else { d with code := d.code - B, size := d.size - B } := by unfold dpart; rw [hB]
  have hdb : dbt p d = if d.code < B then 0 else 1 := by unfold dbt; rw [hB]
  have i0 : IntKind.i64.wrap ((d.size : Int) / 2048 * (p : Int)) = (B : Int) := by
    have : (d.size : Int) / 2048 * (p : Int) = (B : Int) := by rw [← hB, Int.natCast_mul, Int.natCast_ediv]; rfl
    rw [this, IntWalk.i64_in _ (by omega)]
  have hd0 : DB ((w.alloc (.cells #[.string (bs d.rest), .int .i64 (d.code : Int), .int .i64 (d.size : Int), .bool d.miss, .bool d.full] 140)).alloc (.cells #[.string ⟨#[]⟩, .int .i64 0, .int .i64 0, .bool false, .bool false] 140)) w.heap.size d := DB.alloc (Bk.new _ _ _) _;have hr0 := dzero_new (w.alloc (.cells #[.string (bs d.rest), .int .i64 (d.code : Int), .int .i64 (d.size : Int), .bool d.miss, .bool d.full] 140));rw [World.size_alloc] at hr0;have hb0 := two_below w (.cells #[.string (bs d.rest), .int .i64 (d.code : Int), .int .i64 (d.size : Int), .bool d.miss, .bool d.full] 140) (.cells #[.string ⟨#[]⟩, .int .i64 0, .int .i64 0, .bool false, .bool false] 140);have Hd0 := hide hd0;have Hr0 := hide hr0;have Hb0 := hide hb0;have Hpv := hide hpv;have Hdp := hide hdp;have Hdb := hide hdb;clear hB hpv hv hdp hdb hd0 hr0 hb0
  go_enter Tryz.func180, Tryz.ntmps180
  go_wp2
  obtain ⟨W0, hW0⟩ : ∃ W, ((w.alloc (.cells #[.string (bs d.rest), .int .i64 (d.code : Int), .int .i64 (d.size : Int), .bool d.miss, .bool d.full] 140)).alloc (.cells #[.string ⟨#[]⟩, .int .i64 0, .int .i64 0, .bool false, .bool false] 140)) = W := ⟨_, rfl⟩;rw [hW0] at Hd0 Hr0 Hb0 ⊢;clear hW0;obtain ⟨c0, c1, c2, c3, c4⟩ := Hd0.out.cells;obtain ⟨f0, f1, f2, f3, f4⟩ := Hd0.out.frozens
  go_quiet ((go_at_call 218; exact q1 (Hcl.out _)))
  clear i0
  go_upto_if 17 with fail
  go_cut [7] (fun s7 wx => s7 = .int .i64 (dbt p d : Nat) ∧ DB wx w.heap.size (dpart p d) ∧ DB wx (w.heap.size + 1) dzero ∧ Below w.heap.size w wx)
  case first =>
    by_cases hc : d.code < B
    · have Hz := Hdp.out
      have Hy := Hdb.out;rw [if_pos hc] at Hz Hy;have Hz := hide Hz;have Hy := hide Hy
      have hc2 : (d.code : Int) < (B : Int) := by omega
      clear hc
      go_wp2
      go_meet
      case rel =>
        rw [Hz.out, Hy.out];exact ⟨rfl, ((Hd0.out).drewN nq).put2 B, (Hr0.out.drewN nq).off (by omega) 2 _, (bdN Hb0.out nq).setCell (p := ⟨w.heap.size, 2, none⟩) (Nat.le_refl _) _⟩
    · have Hz := Hdp.out
      have Hy := Hdb.out;rw [if_neg hc] at Hz Hy
      have hc2 : ¬ (d.code : Int) < (B : Int) := by omega
      obtain ⟨C, hC⟩ : ∃ C, d.code - B = C := ⟨_, rfl⟩;obtain ⟨S, hS⟩ : ∃ S, d.size - B = S := ⟨_, rfl⟩;rw [hC, hS] at Hz
      have i1 : (d.code : Int) - (B : Int) = (C : Int) := by omega
      have i2 : (d.size : Int) - (B : Int) = (S : Int) := by omega
      have Hz := hide Hz;have Hy := hide Hy;clear hc hC hS
      go_wp2
      go_meet
      case rel =>
        rw [Hz.out, Hy.out];exact ⟨rfl, (((Hd0.out).drewN nq).put1 C).put2 S, ((Hr0.out.drewN nq).off (by omega) 1 _).off (by omega) 2 _, ((bdN Hb0.out nq).setCell (p := ⟨w.heap.size, 1, none⟩) (Nat.le_refl _) _).setCell (p := ⟨w.heap.size, 2, none⟩) (Nat.le_refl _) _⟩
  case rest =>
    clear c0 c1 c2 c3 c4 f0 f1 f2 f3 f4 Hd0 Hr0 Hb0 Hdp Hcl;obtain ⟨rfl, hd, hr, hf⟩ := hcut;have hd' := hide hd;have hr' := hide hr;have hf' := hide hf;clear hd hr hf b1 b2 hcode v1 v2
    go_wp2
    go_loopw [] (fun wr => ∃ (k : Nat) (x : De), DB wr w.heap.size x ∧ DV k x ∧ k ≤ 2 ∧ Hid (dnorm k x = dbit p d) ∧ DB wr (w.heap.size + 1) dzero ∧ Below w.heap.size w wr) (fun wr => dsm w.heap.size wr)
    case atStart => exact ⟨2, _, hd'.out, Hpv.out, Nat.le_refl _, hide rfl, hr'.out, hf'.out⟩
    case round =>
      clear hd' hr' hf' Hpv;obtain ⟨k, x, hx, hvx, hk, hn, hr, hf⟩ := hrel;obtain ⟨c0, c1, c2, c3, c4⟩ := hx.cells;have hsz := hvx.1.2;have hcx := hvx.2
      by_cases hlt : x.size < 16777216
      · obtain ⟨j, rfl⟩ : ∃ j, k = j + 1 := by
          rcases Nat.eq_zero_or_pos k with h9 | h9
          · subst h9
            have := dv_up hvx;omega
          · exact ⟨k - 1, by omega⟩
        have hvs := dshift_v hvx hlt
        have hen : dnorm (j + 1) x = dnorm j (dshift x) := by rw [dnorm, if_pos hlt]
        have hlt2 : (x.size : Int) < 16777216 := by omega
        have hsz0 : 0 < x.size := by
          have := hvx.1.1
          rcases Nat.eq_zero_or_pos x.size with h9 | h9
          · rw [h9, Nat.zero_mul] at this; omega
          · exact h9
        obtain ⟨Q, hQ⟩ : ∃ Q, x.size * 256 = Q := ⟨_, rfl⟩
        have i4 : (x.size : Int) * 256 = (Q : Int) := by omega
        have Hn := hide (fun W => fnext_any x hcx W);have hdz : (dnext x).size = x.size := dnext_v.1;obtain ⟨E, hE⟩ : ∃ E, dnext x = E := ⟨_, rfl⟩
        have hds : dshift x = { E with size := Q } := by unfold dshift; rw [hQ, hE]
        rw [hE] at Hn hdz;have Hen := hide hen;have Hvs := hide hvs;have Hds := hide hds;have HQ := hide hQ;have Hx := hide hx;have Hr := hide hr;have Hf := hide hf
        have i5 : (E.size : Int) * 256 = (Q : Int) := by omega
        clear hdz;clear hvs hen hvx hx hlt hQ hds hE hr hf hsz hcx
        go_wp2_with fail
        refine (Hn.out _).mono ?_;rintro y w1 ⟨rfl, hb1⟩;have hd1 := Hx.out.below hb1;have hr1 := Hr.out.below hb1;have hf1 := Hf.out.trans (hb1.mono Hf.out.size);clear c0 c1 c2 c3 c4;obtain ⟨c0, c1, c2, c3, c4⟩ := hd1.cells;obtain ⟨f0, f1, f2, f3, f4⟩ := hd1.frozens;have hdF := (hd1.putAll E).put2 Q;have hrF := (hr1.fr (Fr.five w.heap.size (.string (bs E.rest)) (.int .i64 (E.code : Int)) (.int .i64 (E.size : Int)) (.bool E.miss) (.bool E.full)) (fun h => by have : w.heap.size + 1 = w.heap.size := h; omega)).off (b' := w.heap.size) (by omega) 2 (.int .i64 (Q : Int));have hfF := (hf1.trans (own_below (Fr.five w.heap.size (.string (bs E.rest)) (.int .i64 (E.code : Int)) (.int .i64 (E.size : Int)) (.bool E.miss) (.bool E.full)) hf1.size (Nat.le_refl _))).setCell (p := ⟨w.heap.size, 2, none⟩) (Nat.le_refl _) (.int .i64 (Q : Int));have HdF := hide hdF;have HrF := hide hrF;have HfF := hide hfF;clear hd1 hr1 hf1 hdF hrF hfF hb1
        go_wp2
        refine ⟨⟨j, dshift x, ?_, Hvs.out, by omega, hide (by rw [← Hen.out, hn.out]), HrF.out, HfF.out⟩, ?_⟩
        · rw [Hds.out]
          exact HdF.out
        · show dsm _ _ < dsm _ _
          rw [dsm_eq HdF.out, dsm_eq Hx.out];have := HQ.out;simp only;omega
      · have hen : dnorm k x = x := by cases k with
          | zero => rfl
          | succ k => rw [dnorm, if_neg hlt]
        have Hen := hide (hn.out.symm.trans hen)
        have hlt2 : ¬ (x.size : Int) < 16777216 := by omega
        obtain ⟨r0, r1, r2, r3, r4⟩ := hr.cells;obtain ⟨g0, g1, g2, g3, g4⟩ := hr.frozens;have Hr := hide hr;have Hf := hide hf;clear hlt hen hn hr hf hsz hcx hvx hx;obtain ⟨WF, hWF, u0, u1, u2, u3, u4, hfr⟩ := dres_endB x (Hr.out) (Hf.out) (by omega) ;have HWF := hide hWF;have HbF := hide hfr;clear hWF hfr 
        go_wp2
        rw [HWF.out];refine bodyPost_ret (by simp [results, Tryz.results180, go_sem, u0, u1, u2, u3, u4]; try rfl) rfl ?_;exact ⟨by rw [Hen.out], HbF.out⟩
theorem ddir_s (k : Nat) (d : De) : ddir (k + 1) 0 d = (2 * (ddir k 0 d).1 + dbt 1024 (ddir k 0 d).2, dbit 1024 (ddir k 0 d).2) := ddir_snoc k 0 d
theorem fddir_any (d : De) (hv : DV 0 d) (n : Nat) (hn : n ≤ 62) (w : World) :
  Calls Tryz.prog 157 #[.agg #[.string (bs d.rest), .int .i64 (d.code : Int), .int .i64 (d.size : Int), .bool d.miss, .bool d.full], .int .i64 (n : Int)] w fun x w' => x = .returned (.tuple #[.agg #[.string (bs (ddir n 0 d).2.rest), .int .i64 ((ddir n 0 d).2.code : Int), .int .i64 ((ddir n 0 d).2.size : Int), .bool (ddir n 0 d).2.miss, .bool (ddir n 0 d).2.full], .int .i64 ((ddir n 0 d).1 : Nat)]) ∧ Below w.heap.size w w' := by
 have hd0 : DB ((w.alloc (.cells #[.string (bs d.rest), .int .i64 (d.code : Int), .int .i64 (d.size : Int), .bool d.miss, .bool d.full] 140)).alloc (.cells #[.string ⟨#[]⟩, .int .i64 0, .int .i64 0, .bool false, .bool false] 140)) w.heap.size d := DB.alloc (Bk.new _ _ _) _;have hr0 := dzero_new (w.alloc (.cells #[.string (bs d.rest), .int .i64 (d.code : Int), .int .i64 (d.size : Int), .bool d.miss, .bool d.full] 140));rw [World.size_alloc] at hr0;have hb0 := two_below w (.cells #[.string (bs d.rest), .int .i64 (d.code : Int), .int .i64 (d.size : Int), .bool d.miss, .bool d.full] 140) (.cells #[.string ⟨#[]⟩, .int .i64 0, .int .i64 0, .bool false, .bool false] 140);have Hd0 := hide hd0;have Hr0 := hide hr0;have Hb0 := hide hb0;have Hv := hide (fun k => ddir_v k 0 d hv);have Hs := hide (fun k => ddir_s k d);clear hd0 hr0 hb0 hv
 go_enter Tryz.func157, Tryz.ntmps157
 go_wp2
 go_loopw [6, 7] (fun v i wr => ∃ k : Nat, k ≤ n ∧ i = .int .i64 k ∧ v = .int .i64 ((ddir k 0 d).1 : Nat) ∧ DB wr w.heap.size (ddir k 0 d).2 ∧ DB wr (w.heap.size + 1) dzero ∧ Below w.heap.size w wr) (fun _ i _ => (n - intOf i).toNat)
 case atStart => exact ⟨0, by omega, rfl, rfl, Hd0.out, Hr0.out, Hb0.out⟩
 case round =>
  clear Hd0 Hr0 Hb0;obtain ⟨k, hk, rfl, rfl, hd, hr, hf⟩ := hrel;obtain ⟨hdv, hvl⟩ := Hv.out k
  by_cases hlt : k < n
  ·have hs := Hs.out k
   have hp : (0 + 1) * 2 ^ k ≤ 2305843009213693952 := by
    rw [Nat.zero_add, Nat.one_mul];exact Nat.pow_le_pow_right (n := 2) (by omega) (show k ≤ 61 by omega)
   obtain ⟨D, hD⟩ : ∃ D, ddir k 0 d = D := ⟨_, rfl⟩;rw [hD] at hs hdv hvl hd ⊢;obtain ⟨v, D⟩ := D;simp only at hs hdv hvl hd ⊢;have Hb := hide (fun W => fdread_any D hdv 1024 (by omega) (by omega) W);have hy := dbt_le 1024 D;obtain ⟨y, hyy⟩ : ∃ y, dbt 1024 D = y := ⟨_, rfl⟩;obtain ⟨E, hE⟩ : ∃ E, dbit 1024 D = E := ⟨_, rfl⟩;rw [hyy, hE] at Hb hs;rw [hyy] at hy
   have hv61 : (v : Int) < 2305843009213693952 := by omega
   have Hst := hide hs;obtain ⟨c0, c1, c2, c3, c4⟩ := hd.cells;have Hd := hide hd;have Hr := hide hr;have Hf := hide hf;clear hs hdv hvl hp hd hyy hr hf Hv Hs hD hE;have Hw : Hid (wrap64 (wrap64 (2 * (v : Int)) + (y : Int)) = ((2 * v + y : Nat) : Int)) := hide (by unfold wrap64; omega);clear hv61
   go_wp2_with fail
   refine (Hb.out _).mono ?_;rintro z w1 ⟨rfl, hb1⟩;have hd1 := Hd.out.below hb1;have hr1 := Hr.out.below hb1;have hf1 := Hf.out.trans (hb1.mono Hf.out.size);clear c0 c1 c2 c3 c4;obtain ⟨c0, c1, c2, c3, c4⟩ := hd1.cells;obtain ⟨f0, f1, f2, f3, f4⟩ := hd1.frozens;have l1 := Bk.lt hd1;have hdF := (hd1.putAll E).alloc (.cells #[.string (bs E.rest), .int .i64 (E.code : Int), .int .i64 (E.size : Int), .bool E.miss, .bool E.full] 140);have hrF := (hr1.fr (Fr.five w.heap.size (.string (bs E.rest)) (.int .i64 (E.code : Int)) (.int .i64 (E.size : Int)) (.bool E.miss) (.bool E.full)) (fun h => by have : w.heap.size + 1 = w.heap.size := h; omega)).alloc (.cells #[.string (bs E.rest), .int .i64 (E.code : Int), .int .i64 (E.size : Int), .bool E.miss, .bool E.full] 140);have hfF := hf1.trans (own_below (Fr.five w.heap.size (.string (bs E.rest)) (.int .i64 (E.code : Int)) (.int .i64 (E.size : Int)) (.bool E.miss) (.bool E.full)) hf1.size (Nat.le_refl _));have hfG := hfF.alloc hfF.size (.cells #[.string (bs E.rest), .int .i64 (E.code : Int), .int .i64 (E.size : Int), .bool E.miss, .bool E.full] 140);have HdF := hide hdF;have HrF := hide hrF;have HfF := hide hfG;clear hd1 hr1 hf1 hdF hrF hfF hfG hb1 Hd Hr Hf
   go_wp2
   refine ⟨⟨k + 1, by omega, by go_num, by rw [Hw.out, Hst.out], by rw [Hst.out]; exact HdF.out, HrF.out, HfF.out⟩, ?_⟩
   simp [intOf] <;> omega
  ·have : k = n := by omega
   subst this;obtain ⟨D, hD⟩ : ∃ D, ddir k 0 d = D := ⟨_, rfl⟩;have HD := hide hD;rw [hD] at hd ⊢;obtain ⟨v, D⟩ := D;simp only at hd ⊢;obtain ⟨c0, c1, c2, c3, c4⟩ := hd.cells;obtain ⟨r0, r1, r2, r3, r4⟩ := hr.cells;obtain ⟨g0, g1, g2, g3, g4⟩ := hr.frozens;have Hr := hide hr;have Hf := hide hf;clear hd hr hf hD Hs Hv hdv hvl;obtain ⟨WF, hWF, u0, u1, u2, u3, u4, hfr⟩ := dres_endB D (Hr.out) (Hf.out) (by omega) ;have HWF := hide hWF;have HbF := hide hfr;clear hWF hfr 
   go_wp2
   rw [HWF.out];refine bodyPost_ret (by simp [results, Tryz.results157, go_sem, u0, u1, u2, u3, u4]; try rfl) rfl ?_;exact ⟨by rw [HD.out], HbF.out⟩
theorem fend_any (d : De) (w : World) :
  Calls Tryz.prog 122 #[.agg #[.string (bs d.rest), .int .i64 (d.code : Int), .int .i64 (d.size : Int), .bool d.miss, .bool d.full]] w fun x w' => x = .returned (.int .i64 (endV d)) ∧ Below w.heap.size w w' := by
 have hb0 := (Below.refl w.heap.size w).alloc (Nat.le_refl _) (.cells #[.string (bs d.rest), .int .i64 (d.code : Int), .int .i64 (d.size : Int), .bool d.miss, .bool d.full] 140);obtain ⟨rest, code, size, miss, full⟩ := d;have Hb0 := hide hb0;clear hb0;simp only at Hb0 ⊢
 have he : endV ⟨rest, code, size, miss, full⟩ = if (!miss && !full && rest.isEmpty && code == 0) = true then 0 else 12 := rfl
 have hrest : (rest.isEmpty = true ∧ (bs rest).toList.isEmpty = true) ∨ (rest.isEmpty = false ∧ (bs rest).toList.isEmpty = false) := by
  cases rest with
  | nil => exact .inl ⟨rfl, emp1 rfl⟩
  | cons c t => exact .inr ⟨rfl, emp0 (by rw [bs_size]; simp)⟩
 have hcode : (((code : Int) != 0) = false ∧ (code == 0) = true) ∨ (((code : Int) != 0) = true ∧ (code == 0) = false) := by
  by_cases h : code = 0
  ·subst h; exact .inl ⟨rfl, rfl⟩
  ·refine .inr ⟨?_, ?_⟩
   ·rw [bne_iff_ne]; omega
   ·rw [beq_eq_false_iff_ne]; exact h
 obtain ⟨c, hc⟩ : ∃ c : Int, (code : Int) = c := ⟨_, rfl⟩;rw [hc] at hcode Hb0 ⊢;clear hc;have He := hide he;clear he
 rcases hrest with ⟨h1, h2⟩ | ⟨h1, h2⟩ <;> rcases hcode with ⟨h3, h4⟩ | ⟨h3, h4⟩ <;> cases miss <;> cases full
 all_goals
  have he := He.out;rw [h1, h4] at he;have He2 := hide he;clear he He h1 h4
  generalize bs rest = s at *
  go_enter Tryz.func122, Tryz.ntmps122
  go_wp2
  go_returns
  rw [He2.out];exact ⟨rfl, (Below.refl w.heap.size w).alloc (Nat.le_refl _) _⟩
end Go.Proofs.YtoeeblldgoccoaaGreat
