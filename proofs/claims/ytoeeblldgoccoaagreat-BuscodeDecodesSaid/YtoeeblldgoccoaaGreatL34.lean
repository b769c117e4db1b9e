/-
  The walks over the references: models, a tree's reading of a number.
-/
import Derived.Test.YtoeeblldgoccoaaGreatL33
import Derived.Test.YtoeeblldgoccoaaGreatL28
set_option linter.unusedVariables false
set_option linter.unusedSimpArgs false
set_option maxRecDepth 100000
set_option maxHeartbeats 8000000
namespace Go.Proofs.YtoeeblldgoccoaaGreat
open Go.RowKit Go.Proofs Wv Wv.Vi Wv.Rc Wv.Mo
def DRT (w : World) (A : Option Addr) (d : De) (t : List Nat) (n : Int) (x : Ending) (w' : World) : Prop := ∃ A' cap', x = .returned (.tuple #[.agg #[.string (bs d.rest), .int .i64 (d.code : Int), .int .i64 (d.size : Int), .bool d.miss, .bool d.full], .slice A' 64 cap', .int .i64 n]) ∧ At w' A' (ns t) ∧ Below w.heap.size w w' ∧ (∀ b o, A' = some ⟨b, o, none⟩ → A' = A ∨ w.heap.size ≤ b)
theorem at_below_block {w : World} {A : Option Addr} {t : List Nat} (ha : At w A (ns t)) (h0 : 0 < t.length) : ∀ b o, A = some ⟨b, o, none⟩ → b < w.heap.size := fun b o h => by
 obtain ⟨b', o', h1, h2, _⟩ := ha 0 (by rw [ns_len]; omega);rw [h] at h1
 injection h1 with h1
 injection h1 with h1
 omega
theorem at_five {w : World} {A : Option Addr} {t : List Nat} {g : Nat} (ha : At w A (ns t)) (hne : ∀ b o, A = some ⟨b, o, none⟩ → b ≠ g) (x0 x1 x2 x3 x4 : Value) :
  At (((((w.setCell ⟨g, 0, none⟩ x0).setCell ⟨g, 1, none⟩ x1).setCell ⟨g, 2, none⟩ x2).setCell ⟨g, 3, none⟩ x3).setCell ⟨g, 4, none⟩ x4) A (ns t) :=
 ha.keep (Fr.five g x0 x1 x2 x3 x4) (fun b o h hs => hne b o h hs)
theorem armA {wr w2 : World} (hb2 : Below (wr.alloc (.cells #[.string ⟨#[]⟩, .int .i64 0, .int .i64 0, .bool false, .bool false] 140)).drew.heap.size (wr.alloc (.cells #[.string ⟨#[]⟩, .int .i64 0, .int .i64 0, .bool false, .bool false] 140)).drew w2) : DB w2 wr.heap.size dzero ∧ Below wr.heap.size wr w2 :=
 ⟨DB.below (show DB (wr.alloc (.cells #[.string ⟨#[]⟩, .int .i64 0, .int .i64 0, .bool false, .bool false] 140)).drew wr.heap.size dzero from dzero_new wr) hb2, ((Below.refl wr.heap.size wr).alloc (Nat.le_refl _) (.cells #[.string ⟨#[]⟩, .int .i64 0, .int .i64 0, .bool false, .bool false] 140)).drew.trans (hb2.mono (by show wr.heap.size ≤ (wr.alloc (.cells #[.string ⟨#[]⟩, .int .i64 0, .int .i64 0, .bool false, .bool false] 140)).heap.size; rw [World.size_alloc]; omega))⟩
theorem armB {wr w2 : World} (hb2 : Below wr.drew.heap.size wr.drew w2) : Below wr.heap.size wr w2 := ((Below.refl wr.heap.size wr).drew).trans (hb2.mono (Nat.le_refl _))
theorem ftdec_any {w : World} {A : Option Addr} {t : List Nat} (d : De) (hv : DV 0 d) (ha : At w A (ns t)) (ht : TNum t) (cap : Nat) :
  Calls Tryz.prog 156 #[.agg #[.string (bs d.rest), .int .i64 (d.code : Int), .int .i64 (d.size : Int), .bool d.miss, .bool d.full], .slice A 64 cap] w fun x w' => DRT w A (tdec 6 1 t d).2.2 (tdec 6 1 t d).2.1 (((tdec 6 1 t d).1 - 64 : Nat) : Int) x w' := by
 have hd0 : DB ((w.alloc (.cells #[.string (bs d.rest), .int .i64 (d.code : Int), .int .i64 (d.size : Int), .bool d.miss, .bool d.full] 140)).alloc (.cells #[.string ⟨#[]⟩, .int .i64 0, .int .i64 0, .bool false, .bool false] 140)) w.heap.size d := DB.alloc (Bk.new _ _ _) _;have hr0 := dzero_new (w.alloc (.cells #[.string (bs d.rest), .int .i64 (d.code : Int), .int .i64 (d.size : Int), .bool d.miss, .bool d.full] 140));rw [World.size_alloc] at hr0;have hb0 := two_below w (.cells #[.string (bs d.rest), .int .i64 (d.code : Int), .int .i64 (d.size : Int), .bool d.miss, .bool d.full] 140) (.cells #[.string ⟨#[]⟩, .int .i64 0, .int .i64 0, .bool false, .bool false] 140);have hat0 := (ha.alloc (.cells #[.string (bs d.rest), .int .i64 (d.code : Int), .int .i64 (d.size : Int), .bool d.miss, .bool d.full] 140)).alloc (.cells #[.string ⟨#[]⟩, .int .i64 0, .int .i64 0, .bool false, .bool false] 140);have hab := at_below_block ha (by rw [ht.2]; omega);have Hd0 := hide hd0;have Hr0 := hide hr0;have Hb0 := hide hb0;have Hat0 := hide hat0;have Hbl := hide (hide hab);clear hd0 hr0 hb0 hat0 hab ha
 go_enter Tryz.func156, Tryz.ntmps156
 go_wp2
 go_loopw [1, 7] (fun tv mv wr => ∃ (j m : Nat) (A' : Option Addr) (cap' : Nat) (u : List Nat) (x : De), j ≤ 6 ∧ mv = .int .i64 m ∧ (m + 1) * 2 ^ j ≤ 128 ∧ 64 ≤ m * 2 ^ j ∧ tv = .slice A' 64 cap' ∧ At wr A' (ns u) ∧ Hid (∀ b o, A' = some ⟨b, o, none⟩ → A' = A ∨ w.heap.size + 2 ≤ b) ∧ TNum u ∧ DB wr w.heap.size x ∧ DV 0 x ∧ Hid (tdec j m u x = tdec 6 1 t d) ∧ DB wr (w.heap.size + 1) dzero ∧ Below w.heap.size w wr) (fun _ mv _ => (64 - intOf mv).toNat)
 case atStart => exact ⟨6, 1, A, cap, t, d, by omega, rfl, by decide, by decide, rfl, Hat0.out, hide (fun _ _ _ => .inl rfl), ht, Hd0.out, hv, hide rfl, Hr0.out, Hb0.out⟩
 case round =>
  clear Hd0 Hr0 Hb0 Hat0 ht hv;obtain ⟨j, m, A', cap', u, x, hj, rfl, hm, hm2, rfl, hat, hfar0, htu, hx, hvx, hte, hr, hf⟩ := hrel
  have hfar : Hid (∀ b o, A' = some ⟨b, o, none⟩ → b ≠ w.heap.size ∧ b ≠ w.heap.size + 1) := hide (fun b o h => by
   rcases hfar0.out b o h with h1 | h1
   ·have := Hbl.out.out b o (h1 ▸ h)
    omega
   ·omega)
  by_cases hlt : 0 < j
  ·obtain ⟨k, rfl⟩ : ∃ k, j = k + 1 := ⟨j - 1, by omega⟩
   have hm64 : m < u.length := node_lt (by rw [htu.2]; exact hm);have hst := tdec_step k m u x;have hp := tok_get htu.1 hm64;obtain ⟨bA, oA, hA, hbA, hcA⟩ := hat.get m _ (ns_get u m hm64);subst hA;obtain ⟨z, hz⟩ : ∃ z, u.getD m 0 = z := ⟨_, rfl⟩;rw [hz] at hst hcA hp;have hy1 := dbt_le z x
   have hb := fun W => fdread_any x hvx z hp.1 hp.2 W
   have hval := dbit_v hvx hp.1 hp.2;obtain ⟨y, hy⟩ : ∃ y, dbt z x = y := ⟨_, rfl⟩;obtain ⟨E, hE⟩ : ∃ E, dbit z x = E := ⟨_, rfl⟩;rw [hy, hE] at hst hb;rw [hy] at hy1;rw [hE] at hval
   have hy2 : y < 2 := by omega
   have hmn : (2 * m + y + 1) * 2 ^ k ≤ 128 := node_step (L := 64) hy2 hm
   have hml : 64 ≤ (2 * m + y) * 2 ^ k := by
    refine Nat.le_trans hm2 ?_;rw [Nat.pow_succ, Nat.mul_comm (2 ^ k) 2, ← Nat.mul_assoc];exact Nat.mul_le_mul_right _ (by omega)
   have hm1 : 1 ≤ m := by
    rcases Nat.eq_zero_or_pos m with h | h
    ·rw [h, Nat.zero_mul] at hm2; omega
    ·exact h
   have hm642 : (m : Int) < 64 := by rw [htu.2] at hm64; omega
   have Ha := hide (fadapt_any z y hp.1 hp.2 hy2);have htn : TNum (u.set m (adapt z y)) := ⟨tok_set htu.1 m (adapt_ok hp), by rw [List.length_set]; exact htu.2⟩;have Hs := hide (fun W (hW : At W (some ⟨bA, oA, none⟩) (ns u)) => fset_any (z := adapt z y) hW 64 cap' htu.2.symm m hm64 (by rw [htu.2]; omega));have Hb := hide hb;have Hst := hide hst;have Hval := hide hval;have Htn := hide htn;have Hmn := hide (And.intro hmn hml);have Hz := hide (And.intro hz (And.intro htu.2 hm64));have hbA1 := (hfar.out _ _ rfl).1;obtain ⟨c0, c1, c2, c3, c4⟩ := hx.cells;have Hx := hide hx;have Hat := hide hat;have Hr := hide hr;have Hf := hide hf;have Hj := hide hj;clear hst hb hval htn hmn hml hz hx hvx htu hm hm2 hm64 hp hat hr hf hj hy hE hy1 hlt
   go_wp2
   go_cut [8, 9] (fun s8 s9 wx => ∃ b, s8 = .pointer (some ⟨b, 0, none⟩) ∧ s9 = .int .i64 (y : Int) ∧ DB wx b E ∧ w.heap.size + 2 ≤ b ∧ Below wr.heap.size wr wx)
   case first =>
    have hw2 : w.heap.size + 2 ≤ wr.heap.size := Bk.lt Hr.out
    have hw1 : w.heap.size < wr.heap.size := by omega
    clear Ha Hs Hst Hval Htn Hmn Hx Hat Hr Hf Hj hte hfar hfar0 Hbl hbA1 hm1 hy2 Hz
    go_region_with ((go_at_call 180; refine (Hb.out _).mono ?_; rintro r w2 ⟨rfl, hb2⟩; first | (have hyb := armA hb2; obtain ⟨q0, q1, q2, q3, q4⟩ := hyb.1.cells; obtain ⟨p0, p1, p2, p3, p4⟩ := hyb.1.frozens; have Hyb := hide hyb; clear hb2 hyb) | (have hbW := armB hb2; have HbW := hide hbW; clear hb2 hbW)))
    all_goals
     go_wp2
     go_meet
     case rel =>
      first
       | exact ⟨_, rfl, rfl, Hyb.out.1.putAll E, hw2, Hyb.out.2.trans (own_below (Fr.five wr.heap.size (.string (bs E.rest)) (.int .i64 (E.code : Int)) (.int .i64 (E.size : Int)) (.bool E.miss) (.bool E.full)) Hyb.out.2.size (Nat.le_refl _))⟩
       | exact ⟨_, rfl, rfl, Bk.new _ _ _, Nat.le_trans hw2 HbW.out.size, HbW.out.alloc HbW.out.size _⟩
   case rest =>
    obtain ⟨b, rfl, rfl, hyb, hbg, hbw⟩ := hcut;have hx1 := Hx.out.below hbw;have hr1 := Hr.out.below hbw;have hf1 := Hf.out.trans (hbw.mono Hf.out.size);have hat1 := Hat.out.below hbw;have hdF := hx1.putAll E;have hrF := hr1.fr (Fr.five w.heap.size (.string (bs E.rest)) (.int .i64 (E.code : Int)) (.int .i64 (E.size : Int)) (.bool E.miss) (.bool E.full)) (fun h => by have : w.heap.size + 1 = w.heap.size := h; omega);have hfF := hf1.trans (own_below (Fr.five w.heap.size (.string (bs E.rest)) (.int .i64 (E.code : Int)) (.int .i64 (E.size : Int)) (.bool E.miss) (.bool E.full)) hf1.size (Nat.le_refl _));have hatF := at_five hat1 (fun b o h => (hfar.out b o h).1) (.string (bs E.rest)) (.int .i64 (E.code : Int)) (.int .i64 (E.size : Int)) (.bool E.miss) (.bool E.full);clear c0 c1 c2 c3 c4 hcA;obtain ⟨c0, c1, c2, c3, c4⟩ := hx1.cells;obtain ⟨f0, f1, f2, f3, f4⟩ := hx1.frozens;obtain ⟨q0, q1, q2, q3, q4⟩ := hyb.cells;have HdF := hide hdF;have HrF := hide hrF;have HfF := hide hfF;have HatF := hide hatF;clear hx1 hr1 hf1 hat1 hdF hrF hfF hatF hyb hbw Hx Hr Hf Hat Hb Hbl
    go_upto_region 5 with fail
    generalize (((((wc.setCell ⟨w.heap.size, 0, none⟩ (.string (bs E.rest))).setCell ⟨w.heap.size, 1, none⟩ (.int .i64 (E.code : Int))).setCell ⟨w.heap.size, 2, none⟩ (.int .i64 (E.size : Int))).setCell ⟨w.heap.size, 3, none⟩ (.bool E.miss)).setCell ⟨w.heap.size, 4, none⟩ (.bool E.full)) = W4 at *
    clear c0 c1 c2 c3 c4 f0 f1 f2 f3 f4 q0 q1 q2 q3 q4;have hat4 := HatF.out;obtain ⟨b3, o3, hA3, hb3, hc3⟩ := hat4.get m _ (ns_get u m Hz.out.2.2)
    injection hA3 with hA3
    injection hA3 with hA3 hO3
    subst hA3; subst hO3
    have hz3 : W4.cell? ⟨bA, oA + m, none⟩ = some (.int .i64 (z : Int)) := by rw [hc3, Hz.out.1]
    have Hset := hide (Hs.out W4 hat4);have hbs := HfF.out.size;have hw2 : w.heap.size + 2 ≤ W4.heap.size := Bk.lt HrF.out;have Hw2 := hide hw2;clear hat4 hc3 hb3 hbs hw2 Hs
    go_wp2_with fail
    refine (Ha.out _).mono ?_;rintro r w4 ⟨rfl, rfl⟩
    go_wp2_with fail
    refine (Hset.out).mono ?_;rintro r w5 ⟨A5, cap5, rfl, hat5, hb5, hfr5⟩;have hx5 := HdF.out.below hb5;have hr5 := HrF.out.below hb5;have hf5 := HfF.out.trans (hb5.mono HfF.out.size);have Hx5 := hide hx5;have Hr5 := hide hr5;have Hf5 := hide hf5;have Hat5 := hide hat5;have Hfr5 : Hid (∀ b o, A5 = some ⟨b, o, none⟩ → A5 = A ∨ w.heap.size + 2 ≤ b) := hide (fun b o h => by have := hfr5 b o h; have := Hw2.out; exact .inr (by omega));clear hx5 hr5 hf5 hat5 hb5 hfr5 HdF HrF HfF HatF Hset
    go_wp2
    go_roundw
    case rel => exact ⟨k, 2 * m + y, A5, cap5, u.set m (adapt z y), E, by have := Hj.out; omega, by congr 1, Hmn.out.1, Hmn.out.2, rfl, Hat5.out, Hfr5, Htn.out, Hx5.out, Hval.out, hide (by rw [← Hst.out]; exact hte.out), Hr5.out, Hf5.out⟩
    case measure => simp [intOf] <;> omega
  ·have hj0 : j = 0 := by omega
   subst hj0;rw [Nat.pow_zero, Nat.mul_one] at hm hm2;have hfin := hte.out;rw [tdec] at hfin;have hab := at_below_block hat (by rw [htu.2]; omega);obtain ⟨c0, c1, c2, c3, c4⟩ := hx.cells;obtain ⟨r0, r1, r2, r3, r4⟩ := hr.cells;obtain ⟨g0, g1, g2, g3, g4⟩ := hr.frozens;have hatF := at_five hat (fun b o h => (hfar.out b o h).2) (.string (bs x.rest)) (.int .i64 (x.code : Int)) (.int .i64 (x.size : Int)) (.bool x.miss) (.bool x.full);obtain ⟨WF, hWF, u0, u1, u2, u3, u4, hfr⟩ := dres_endB x hr hf (by omega);rw [hWF] at hatF;have HWF := hide hWF;have HbF := hide hfr;have HatF := hide hatF;have Hfin := hide hfin
   have hml : ¬ (m : Int) < 64 := by omega
   have hmu : (m : Int) ≤ 127 := by omega
   clear hWF hfr hatF hx hr hf hat hfin hte hvx htu hm hm2 hab hlt
   go_wp2
   rw [HWF.out];refine bodyPost_ret (by simp [results, Tryz.results156, go_sem, u0, u1, u2, u3, u4]; try rfl) rfl ?_;rw [← Hfin.out]
   have em : ((m - 64 : Nat) : Int) = (m : Int) - 64 := by omega
   exact ⟨A', cap', by rw [em], HatF.out, HbF.out, fun b o h => by
    rcases hfar0.out b o h with h1 | h1
    ·exact .inl h1
    ·exact .inr (by omega)⟩
end Go.Proofs.YtoeeblldgoccoaaGreat
