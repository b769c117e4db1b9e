/-
  Joined texts: St, Sm, Sn.
-/
import Derived.Test.YtoeeblldgoccoaaGreatL28
set_option linter.unusedVariables false
set_option linter.unusedSimpArgs false
set_option maxRecDepth 100000
set_option maxHeartbeats 8000000
namespace Go.Proofs.YtoeeblldgoccoaaGreat
open Go.RowKit Go.Proofs Wv Wv.Vi Wv.Ru
def dv0 (s : ByteArray) (e : Nat) (most : Int) : Value := .tuple #[.agg #[.string (numR s e most).2.1, .int .i64 ((numR s e most).2.2 : Int)], .int .i64 ((numR s e most).1 : Int), .string ⟨#[]⟩]
def dv3 (s : ByteArray) (e : Nat) (most : Int) : Value := .tuple #[.agg #[.string (textR s e most).2.1, .int .i64 ((textR s e most).2.2 : Int)], .int .i64 0, .string (textR s e most).1]
theorem dv0_of {s t : ByteArray} {e n f : Nat} {most : Int} (h : numR s e most = (n, t, f)) : dv0 s e most = .tuple #[.agg #[.string t, .int .i64 (f : Int)], .int .i64 (n : Int), .string ⟨#[]⟩] := by unfold dv0; rw [h]
theorem dv3_of {s t a : ByteArray} {e f : Nat} {most : Int} (h : textR s e most = (a, t, f)) : dv3 s e most = .tuple #[.agg #[.string t, .int .i64 (f : Int)], .int .i64 0, .string a] := by unfold dv3; rw [h]
theorem takeR_er {s : ByteArray} {e : Nat} (he : e ≠ 0) (n : Int) : takeR s e n = (bs [], s, e) := by unfold takeR; rw [if_neg he]
theorem textR_er {s : ByteArray} {e : Nat} {most : Int} {n f : Nat} {t : ByteArray} (h : numR s e most = (n, t, f)) (hf : f ≠ 0) : textR s e most = (bs [], s, f) := by
 unfold textR;rw [h];simp only;rw [takeR_er hf];simp only;rw [if_neg hf]
theorem textR_short {s : ByteArray} {e : Nat} {most : Int} {n : Nat} {t : ByteArray} (h : numR s e most = (n, t, 0)) (hn : (t.size : Int) < n) : textR s e most = (bs [], s, 12) := by
 unfold textR;rw [h]
 have ht : takeR t 0 (n : Int) = (bs [], t, 12) := by unfold takeR; rw [if_pos rfl, if_neg (by omega), if_pos hn]
 simp only;rw [ht];simp only;rw [if_neg (by decide)]
theorem textR_good {s : ByteArray} {e : Nat} {most : Int} {n : Nat} {t : ByteArray} (h : numR s e most = (n, t, 0)) (hn : ¬ (t.size : Int) < n) : textR s e most = (bs ((toL t).take n), bs ((toL t).drop n), 0) := by
 unfold textR;rw [h]
 have ht : takeR t 0 (n : Int) = (bs ((toL t).take n), bs ((toL t).drop n), 0) := by unfold takeR; rw [if_pos rfl, if_neg (by omega), if_neg hn, Int.toNat_natCast]
 simp only;rw [ht];simp only [if_true]
theorem numR_keep {s : ByteArray} {e : Nat} {most : Int} {n f : Nat} {t : ByteArray} (h : numR s e most = (n, t, f)) (hf : f ≠ 0) : t = s ∧ n = 0 := by
 unfold numR at h
 split at h
 ·split at h
  ·injection h with h1 h2; injection h2 with h2 h3; exact ⟨h2.symm, h1.symm⟩
  ·split at h
   ·injection h with h1 h2; injection h2 with h2 h3; exact ⟨h2.symm, h1.symm⟩
   ·injection h with h1 h2; injection h2 with h2 h3; exact absurd h3.symm hf
 ·injection h with h1 h2; injection h2 with h2 h3; exact ⟨h2.symm, h1.symm⟩
theorem sres_endB {w0 w : World} {r : Nat} {s0 : ByteArray} {e0 : Int} (hr : SB w r s0 e0) (hb : Below w0.heap.size w0 w) (h0 : w0.heap.size ≤ r) (s : ByteArray) (e : Int) :
  ∃ W, ((w.setCell ⟨r, 0, none⟩ (.string s)).setCell ⟨r, 1, none⟩ (.int .i64 e)) = W ∧ W.cell? ⟨r, 0, none⟩ = some (.string s) ∧ W.cell? ⟨r, 1, none⟩ = some (.int .i64 e) ∧ Below w0.heap.size w0 W := by
 obtain ⟨W, h1, h2, h3, h4⟩ := sres_end hr s e;exact ⟨W, h1, h2, h3, hb.trans (own_below h4 hb.size h0)⟩
theorem sres_endA {w0 w : World} {r : Nat} {s0 : ByteArray} {e0 : Int} (hr : SB w r s0 e0) (hb : Below w0.heap.size w0 w) (h0 : w0.heap.size ≤ r) (s : ByteArray) (e : Int) (o : Obj) :
  ∃ W, (((w.setCell ⟨r, 0, none⟩ (.string s)).setCell ⟨r, 1, none⟩ (.int .i64 e)).alloc o) = W ∧ W.cell? ⟨r, 0, none⟩ = some (.string s) ∧ W.cell? ⟨r, 1, none⟩ = some (.int .i64 e) ∧ Below w0.heap.size w0 W := by
 have hk := ((hr.put0 s).put1 e).alloc o;have hb2 := (hb.setCell (p := ⟨r, 0, none⟩) h0 (.string s)).setCell (p := ⟨r, 1, none⟩) h0 (.int .i64 e);exact ⟨_, rfl, Bk.cell hk 0, Bk.cell hk 1, hb2.alloc hb2.size o⟩
theorem sres_endD {w0 w : World} {r : Nat} {s0 : ByteArray} {e0 : Int} (hr : SB w r s0 e0) (hb : Below w0.heap.size w0 w) (h0 : w0.heap.size ≤ r) (s : ByteArray) (e : Int) (o : Obj) :
  ∃ W, (((w.setCell ⟨r, 0, none⟩ (.string s)).setCell ⟨r, 1, none⟩ (.int .i64 e)).alloc o).drew = W ∧ W.cell? ⟨r, 0, none⟩ = some (.string s) ∧ W.cell? ⟨r, 1, none⟩ = some (.int .i64 e) ∧ Below w0.heap.size w0 W := by
 have hk := ((hr.put0 s).put1 e).alloc o;have hb2 := (hb.setCell (p := ⟨r, 0, none⟩) h0 (.string s)).setCell (p := ⟨r, 1, none⟩) h0 (.int .i64 e);exact ⟨_, rfl, Bk.cell hk 0, Bk.cell hk 1, (hb2.alloc hb2.size o).drew⟩
def doW (w : World) (s : ByteArray) (e k most : Int) : World := ((w.alloc (.cells #[.string s, .int .i64 e] 91)).alloc (.cells #[.int .i64 k, .int .i64 0, .int .i64 most] 95)).alloc (.cells #[.string ⟨#[]⟩, .int .i64 0] 91)
theorem doW_facts (w : World) (s : ByteArray) (e k most : Int) : SB (doW w s e k most) w.heap.size s e ∧ SB (doW w s e k most) (w.heap.size + 1 + 1) ⟨#[]⟩ 0 ∧ Below w.heap.size w (doW w s e k most) := by
 refine ⟨SB.alloc (SB.alloc (Bk.new _ _ _) _) _, ?_, (((Below.refl w.heap.size w).alloc (Nat.le_refl _) _).alloc (by simp) _).alloc (by simp <;> omega) _⟩;have := Bk.new ((w.alloc (.cells #[.string s, .int .i64 e] 91)).alloc (.cells #[.int .i64 k, .int .i64 0, .int .i64 most] 95)) 91 #[.string ⟨#[]⟩, .int .i64 0];simp only [World.size_alloc] at this;exact this
theorem rdo0_any {s : ByteArray} (hm : s.size ≤ 1099511627776) (e : Nat) (most : Int) (w : World) :
  Calls Tryz.prog 79 #[.agg #[.string s, .int .i64 (e : Int)], .agg #[.int .i64 0, .int .i64 0, .int .i64 most]] w fun r w' => r = .returned (dv0 s e most) ∧ Below w.heap.size w w' := by
 have kk : bits .and .i64 0 7 = 0 := by decide
 obtain ⟨hx0, hr0, hb0⟩ := doW_facts w s (e : Int) 0 most;have Hx0 := hide hx0;have Hr0 := hide hr0;have Hb0 := hide hb0;clear hx0 hr0 hb0
 by_cases he : e = 0
 ·subst he
  obtain ⟨n, t, f, hnr⟩ : ∃ n t f, numR s 0 most = (n, t, f) := ⟨_, _, _, rfl⟩;have Hn := hide (dv0_of hnr);have Hr := hide (fun W => rnum_any hm 0 most W);rw [nvR_of hnr] at Hr;clear hnr
  go_enter Tryz.func79, Tryz.ntmps79
  go_wp2_with fail
  refine (Hr.out _).mono ?_;rintro x w1 ⟨rfl, hb1⟩;have hr1 := Hr0.out.below hb1;have hx1 := Hx0.out.below hb1;have hbw := Hb0.out.trans (hb1.mono Hb0.out.size);have hr2 := hr1.alloc (.cells #[.string t, .int .i64 (f : Int)] 91);have hb2 := hbw.alloc hbw.size (.cells #[.string t, .int .i64 (f : Int)] 91);have hx2 := hx1.alloc (.cells #[.string t, .int .i64 (f : Int)] 91);obtain ⟨⟨r0, r1⟩, g0, g1⟩ := hr1.cells;obtain ⟨⟨c0, c1⟩, f0, f1⟩ := hx1.cells;have l1 := Bk.lt hr1;have l0 := Bk.lt hx1;have Hr1 := hide hr1;have Hb1 := hide hbw;have Hr2 := hide hr2;have Hb2 := hide hb2;have Hx2 := hide hx2;clear hr1 hx1 hbw hr2 hb2 hx2 hb1 Hr;obtain ⟨WF, hWF, u0, u1, hfr⟩ := sres_endA (Hr1.out) (Hb1.out) (by omega) (t) (f : Int) (.cells #[.string t, .int .i64 (f : Int)] 91);have HWF := hide hWF;have HbF := hide hfr;clear hWF hfr 
  go_wp2
  rw [HWF.out];refine bodyPost_ret (by simp [results, Tryz.results79, go_sem, u0, u1]; try rfl) rfl ?_;exact ⟨by rw [Hn.out] <;> rfl, HbF.out⟩
 ·have Hn := hide (dv0_of (numR_er (s := s) he most))
  have hne : ((e : Int) != 0) = true := by rw [bne_iff_ne]; omega
  go_enter Tryz.func79, Tryz.ntmps79
  go_wp2
  go_returns
  exact ⟨by rw [Hn.out] <;> rfl, (((Below.refl w.heap.size w).alloc (Nat.le_refl _) _).alloc (by simp) _).alloc (by simp <;> omega) _⟩
theorem rdo3_any {s : ByteArray} (hm : s.size ≤ 1099511627776) (e : Nat) (most : Int) (w : World) :
  Calls Tryz.prog 79 #[.agg #[.string s, .int .i64 (e : Int)], .agg #[.int .i64 3, .int .i64 0, .int .i64 most]] w fun r w' => r = .returned (dv3 s e most) ∧ Below w.heap.size w w' := by
 have kk : bits .and .i64 3 7 = 3 := by decide
 obtain ⟨hx0, hr0, hb0⟩ := doW_facts w s (e : Int) 3 most;have Hx0 := hide hx0;have Hr0 := hide hr0;have Hb0 := hide hb0;clear hx0 hr0 hb0
 by_cases he : e = 0
 ·subst he
  obtain ⟨n, t, f, hnr⟩ : ∃ n t f, numR s 0 most = (n, t, f) := ⟨_, _, _, rfl⟩;have Hr := hide (fun W => rnum_any hm 0 most W);have Hf := hide (fun x W => ffail_any s 0 x W);rw [nvR_of hnr] at Hr
  by_cases hf : f = 0
  ·subst hf
   by_cases hn : (t.size : Int) < n
   ·have Hn := hide (dv3_of (textR_short hnr hn))
    clear hnr
    go_enter Tryz.func79, Tryz.ntmps79
    go_wp2_with fail
    refine (Hr.out _).mono ?_;rintro x w1 ⟨rfl, hb1⟩;have hr1 := Hr0.out.below hb1;have hx1 := Hx0.out.below hb1;have hbw := Hb0.out.trans (hb1.mono Hb0.out.size);have hr2 := hr1.alloc (.cells #[.string t, .int .i64 ((0 : Nat) : Int)] 91);have hb2 := hbw.alloc hbw.size (.cells #[.string t, .int .i64 ((0 : Nat) : Int)] 91);have hx2 := hx1.alloc (.cells #[.string t, .int .i64 ((0 : Nat) : Int)] 91);obtain ⟨⟨r0, r1⟩, g0, g1⟩ := hr1.cells;obtain ⟨⟨c0, c1⟩, f0, f1⟩ := hx1.cells;have l1 := Bk.lt hr1;have l0 := Bk.lt hx1;have Hr1 := hide hr1;have Hb1 := hide hbw;have Hr2 := hide hr2;have Hb2 := hide hb2;have Hx2 := hide hx2;clear hr1 hx1 hbw hr2 hb2 hx2 hb1 Hr
    go_wp2_with fail
    refine (Hf.out _ _).mono ?_;rintro x w3 ⟨rfl, hb3⟩;have hr3 := Hr2.out.below hb3;have hbw3 := Hb2.out.trans (hb3.mono Hb2.out.size);clear r0 r1 g0 g1 c0 c1 f0 f1;obtain ⟨⟨r0, r1⟩, g0, g1⟩ := hr3.cells;have Hr3 := hide hr3;have Hbw3 := hide hbw3;clear hr3 hbw3 hb3;obtain ⟨WF, hWF, u0, u1, hfr⟩ := sres_endB (Hr3.out) (Hbw3.out) (by omega) (s) 12 ;have HWF := hide hWF;have HbF := hide hfr;clear hWF hfr 
    go_wp2
    rw [HWF.out];refine bodyPost_ret (by simp [results, Tryz.results79, go_sem, u0, u1]; try rfl) rfl ?_;exact ⟨by rw [Hn.out] <;> rfl, HbF.out⟩
   ·have Hn := hide (dv3_of (textR_good hnr hn))
    have hex := ext_drop t n;have het := ext_take t n
    have hnt : n ≤ t.size := by omega
    clear hnr
    go_enter Tryz.func79, Tryz.ntmps79
    go_wp2_with fail
    refine (Hr.out _).mono ?_;rintro x w1 ⟨rfl, hb1⟩;have hr1 := Hr0.out.below hb1;have hx1 := Hx0.out.below hb1;have hbw := Hb0.out.trans (hb1.mono Hb0.out.size);have hr2 := hr1.alloc (.cells #[.string t, .int .i64 ((0 : Nat) : Int)] 91);have hb2 := hbw.alloc hbw.size (.cells #[.string t, .int .i64 ((0 : Nat) : Int)] 91);have hx2 := hx1.alloc (.cells #[.string t, .int .i64 ((0 : Nat) : Int)] 91);obtain ⟨⟨r0, r1⟩, g0, g1⟩ := hr1.cells;obtain ⟨⟨c0, c1⟩, f0, f1⟩ := hx1.cells;have l1 := Bk.lt hr1;have l0 := Bk.lt hx1;have Hr1 := hide hr1;have Hb1 := hide hbw;have Hr2 := hide hr2;have Hb2 := hide hb2;have Hx2 := hide hx2;clear hr1 hx1 hbw hr2 hb2 hx2 hb1 Hr
    go_wp2
    go_region
    all_goals
     obtain ⟨WF, hWF, u0, u1, hfr⟩ := sres_endD (Hr1.out) (Hb1.out) (by omega) (bs ((toL t).drop n)) 0 (.cells #[.string t, .int .i64 0] 91);have HWF := hide hWF;have HbF := hide hfr;clear hWF hfr 
     go_wp2
     rw [HWF.out];refine bodyPost_ret (by simp [results, Tryz.results79, go_sem, u0, u1]; try rfl) rfl ?_;exact ⟨by rw [Hn.out] <;> rfl, HbF.out⟩
  ·have Hn := hide (dv3_of (textR_er hnr hf))
   have hk := numR_keep hnr hf
   have hne : ((f : Int) != 0) = true := by rw [bne_iff_ne]; omega
   obtain ⟨rfl, rfl⟩ := hk;clear hnr hf
   go_enter Tryz.func79, Tryz.ntmps79
   go_wp2_with fail
   refine (Hr.out _).mono ?_;rintro x w1 ⟨rfl, hb1⟩;have hr1 := Hr0.out.below hb1;have hx1 := Hx0.out.below hb1;have hbw := Hb0.out.trans (hb1.mono Hb0.out.size);have hr2 := hr1.alloc (.cells #[.string t, .int .i64 (f : Int)] 91);have hb2 := hbw.alloc hbw.size (.cells #[.string t, .int .i64 (f : Int)] 91);have hx2 := hx1.alloc (.cells #[.string t, .int .i64 (f : Int)] 91);obtain ⟨⟨r0, r1⟩, g0, g1⟩ := hr1.cells;obtain ⟨⟨c0, c1⟩, f0, f1⟩ := hx1.cells;have l1 := Bk.lt hr1;have l0 := Bk.lt hx1;have Hr1 := hide hr1;have Hb1 := hide hbw;have Hr2 := hide hr2;have Hb2 := hide hb2;have Hx2 := hide hx2;clear hr1 hx1 hbw hr2 hb2 hx2 hb1 Hr;obtain ⟨WF, hWF, u0, u1, hfr⟩ := sres_endA (Hr1.out) (Hb1.out) (by omega) (t) (f : Int) (.cells #[.string t, .int .i64 (f : Int)] 91);have HWF := hide hWF;have HbF := hide hfr;clear hWF hfr 
   go_wp2
   rw [HWF.out];refine bodyPost_ret (by simp [results, Tryz.results79, go_sem, u0, u1]; try rfl) rfl ?_;exact ⟨by rw [Hn.out] <;> rfl, HbF.out⟩
 ·have Hn := hide (dv3_of (textR_er (numR_er (s := s) he most) he))
  have hne : ((e : Int) != 0) = true := by rw [bne_iff_ne]; omega
  go_enter Tryz.func79, Tryz.ntmps79
  go_wp2
  go_returns
  exact ⟨by rw [Hn.out] <;> rfl, (((Below.refl w.heap.size w).alloc (Nat.le_refl _) _).alloc (by simp) _).alloc (by simp <;> omega) _⟩
open Wv.Rc Wv.Mo
theorem rruns_any {w : World} {A : Option Addr} {l : List ByteArray} (ha : At w A (svs l)) (n cap : Nat) (hn : n = l.length) (hm : n ≤ 4096) :
  Calls Tryz.prog 115 #[.slice A n cap] w fun x w' => PRes w (cast2 (runs (dict l) l)) x w' := by
 have Hd := hide (rdict_all (ha.alloc (.cells #[] 132)) n cap hn hm);have Ha := hide ha;have Hn := hide hn;have ho0 : (w.alloc (.cells #[] 132)).ownsRow w.heap.size 132 2 (.slice (some ⟨w.heap.size, 0, none⟩) 0 0) 0 [] := ⟨by simp, .inr ⟨w.heap.size, 0, #[], rfl, Nat.le_refl _, heap_alloc_new w _, Nat.le_refl _, by unfold maxLen; omega, by simp, by simp⟩⟩;have hb0 := (Below.refl w.heap.size w).alloc (Nat.le_refl _) (.cells #[] 132);have Ho0 := hide ho0;have Hb0 := hide hb0;obtain ⟨Dl, hDl⟩ : ∃ Dl, dict l = Dl := ⟨_, rfl⟩;have Hmem := hide (fun s (hs : s ∈ l) => show s ∈ Dl from hDl ▸ (mem_dict l s).2 hs);have hDll := dict_length l;rw [hDl] at Hd hDll ⊢
 have hD4 : Dl.length ≤ 4096 := by omega
 clear ha hn hDl ho0 hb0 hDll
 go_enter Tryz.func115, Tryz.ntmps115
 go_wp2_with fail
 refine (Hd.out).mono ?_;rintro x w1 ⟨AD, capD, rfl, hatD, hb1, hfarD⟩
 have Hfar : Hid (∀ b o, AD = some ⟨b, o, none⟩ → (Value.slice (some ⟨w.heap.size, 0, none⟩) 0 0).ownBlock ≠ some b) := hide (fun b o h => by
  have := hfarD b o h
  simp at this
  simp [Value.ownBlock]
  omega)
 have hbb := Hb0.out.trans (hb1.mono (by simp));have ho1 := own_fr Ho0.out (Fr.of_below (S := nob) hb1) (fun g hg h => h);have HatD := hide hatD;have Hbb := hide hbb;have Ho1 := hide ho1;clear hatD hfarD hb1 hbb ho1 Ho0 Hb0 Hd
 go_wp2
 go_loopw [3, 5] (fun v3 i wr => ∃ k : Nat, k ≤ n ∧ i = .int .i64 k ∧ wr.ownsRow w.heap.size 132 2 v3 (cast2 (runs Dl (l.take k))).length (pv (cast2 (runs Dl (l.take k)))) ∧ Hid (At wr AD (svs Dl)) ∧ Hid (∀ b o, AD = some ⟨b, o, none⟩ → v3.ownBlock ≠ some b) ∧ Below w.heap.size w wr) (fun _ i _ => (n - intOf i).toNat)
 case atStart => exact ⟨0, by omega, rfl, Ho1.out, HatD, Hfar, Hbb.out⟩
 case round =>
  clear Ho1 HatD Hfar Hbb;obtain ⟨k, hk, rfl, hown, hatD, hfar, hf1⟩ := hrel
  by_cases hlt : k < n
  ·have hkl : k < l.length := by rw [← Hn.out]; exact hlt
   obtain ⟨s, hs⟩ : ∃ s, l[k] = s := ⟨_, rfl⟩;obtain ⟨bA, oA, hA, hbA, hcA⟩ := (Ha.out.below hf1).get k (.string s) (by rw [svs_get l k hkl, hs]);subst hA;have hsm := hide (Hmem.out s (hs ▸ List.getElem_mem _));obtain ⟨r1, r2⟩ := runs_take Dl l k hkl;rw [hs] at r1 r2;have hrl := runs_length Dl (l.take k);rw [List.length_take] at hrl
   have hk0i : (0 : Int) ≤ (k : Int) := by omega
   have hkni : (k : Int) < (n : Int) := by omega
   by_cases hsame : 0 < k ∧ l[k - 1]? = some s
   ·obtain ⟨h0, hsm1⟩ := hsame
    have hprev := (Ha.out.below hf1).get (k - 1) (.string s) (by
     rw [svs, List.getElem?_map, hsm1]
     rfl)
    obtain ⟨bA2, oA2, hA2, _, hcP⟩ := hprev
    injection hA2 with hA2
    injection hA2 with hA2 hA3
    subst hA2; subst hA3
    obtain ⟨xs, c, hx, hc1⟩ := runs_open Dl l (k - 1) (by omega);rw [show k - 1 + 1 = k from by omega] at hx;obtain ⟨ii, hii⟩ : ∃ ii, ix Dl (l[k - 1]'(by omega)) = ii := ⟨_, rfl⟩;rw [hii] at hx;have hr1 := r1 h0 hsm1;rw [hx, bump_snoc] at hr1;rw [hx] at hown hrl
    have hc2 : cast2 (xs ++ [(ii, c)]) = cast2 xs ++ [((ii : Int), (c : Int))] := by simp [cast2]
    have hc3 : cast2 (xs ++ [(ii, c + 1)]) = cast2 xs ++ [((ii : Int), (c : Int) + 1)] := by simp [cast2]
    rw [hc2] at hown;have hps := pv_set1 (cast2 xs) ((ii : Int), (c : Int)) ((c : Int) + 1);obtain ⟨X, hX⟩ : ∃ X, cast2 xs = X := ⟨_, rfl⟩
    have hXl : X.length = xs.length := by rw [← hX]; simp [cast2]
    rw [hX] at hown hps hc3;rw [List.length_append, List.length_singleton] at hown;obtain ⟨g, cap2, hv5, hcap2⟩ := own_formS hown (by omega);subst hv5
    have hcb : c ≤ 4096 := by
     have := (runs_bound Dl (l.take k) (ii, c) (by rw [hx]; simp)).2.2;rw [List.length_take] at this;simp only at this;omega
    have hxl : xs.length + 1 ≤ k := by
     rw [List.length_append, List.length_singleton] at hrl;omega
    have hlen : X.length ≤ 4096 := by omega
    have i1 : ((X.length : Int) + 1) - 1 = (X.length : Int) := by omega
    have heq : (s.toList == s.toList) = true := by simp
    have hd : decide ((0 : Int) < (k : Int)) = true := decide_eq_true (by omega)
    have ik : (k : Int) - 1 = ((k - 1 : Nat) : Int) := by omega
    obtain ⟨kp, hkp⟩ : ∃ kp, k - 1 = kp := ⟨_, rfl⟩;rw [hkp] at ik hcP
    have hkp1 : (0 : Int) ≤ (kp : Int) := by omega
    have hkp2 : (kp : Int) < (n : Int) := by omega
    have Hr1 := hide hr1;have Hc3 := hide hc3;have Hps := hide hps;have Hown := hide hown;have Hf1 := hide hf1;clear r1 r2 hs hx hr1 hc2 hc3 hps hX hXl hown hii hrl hkp hsm1 hf1 Ha
    go_wp2
    go_quiet (fail)
    have hown : (wr.drewN nq).ownsRow w.heap.size 132 2 (.slice (some ⟨g, 0, none⟩) (X.length + 1) cap2) (X.length + 1) (pv (X ++ [((ii : Int), (c : Int))])) := Hown.out;have hatW := hide (hatD.out.drewN nq);have hfW := bdN Hf1.out nq
    generalize wr.drewN nq = W at *
    have hcell := own_cellS hown (X.length * 2 + 1) (iv (c : Int)) (by
     have := (pv_get (X ++ [((ii : Int), (c : Int))]) X.length (by simp)).2
     simpa using this)
    obtain ⟨q1, q2⟩ := hcell;have hput := own_putS hown (X.length * 2 + 1) (iv ((c : Int) + 1));rw [Hps.out] at hput;have hgb := (hown.lt g rfl).1;have hfx := hfW.setCell (p := ⟨g, X.length * 2 + 1, none⟩) hgb (iv ((c : Int) + 1));unfold iv at q1;have hputv := hput;have Hput := hide hput;have Hfx := hide hfx
    have HatX := hide (hatW.out.keep ((Fr.refl (only g) W).setCell (p := ⟨g, X.length * 2 + 1, none⟩) (.inl rfl) (iv ((c : Int) + 1))) (fun b o hb hs => by
     have hs2 : b = g := hs
     exact hfar.out b o hb (by rw [hs2]; rfl)))
    clear hown hfW hput hputv hfx hatW hatD Hown Hf1 Hps
    go_wp2
    go_roundw
    case rel =>
     refine ⟨k + 1, by omega, by go_num, ?_, HatX, hfar, Hfx.out⟩;rw [Hr1.out, Hc3.out, List.length_append, List.length_singleton];exact Hput.out
    case measure => simp [intOf] <;> omega
   ·have hcase : k = 0 ∨ l[k - 1]? ≠ some s := by
     rcases Nat.eq_zero_or_pos k with h0 | h0
     ·exact .inl h0
     ·exact .inr (fun h => hsame ⟨h0, h⟩)
    have hr2 := r2 hcase;obtain ⟨ii, hii⟩ : ∃ ii, ix Dl s = ii := ⟨_, rfl⟩;rw [hii] at hr2;obtain ⟨R, hR⟩ : ∃ R, runs Dl (l.take k) = R := ⟨_, rfl⟩;rw [hR] at hr2 hown hrl
    have hc3 : cast2 (R ++ [(ii, 1)]) = cast2 R ++ [((ii : Int), 1)] := by simp [cast2]
    obtain ⟨X, hX⟩ : ∃ X, cast2 R = X := ⟨_, rfl⟩
    have hXl : X.length = R.length := by rw [← hX]; simp [cast2]
    rw [hX] at hown hc3
    have hXk : X.length ≤ 4096 := by omega
    obtain ⟨A4, cap4, hv4, hat4⟩ := own_at hown;subst hv4
    have hdec : (k = 0 ∧ decide ((0 : Int) < (k : Int)) = false) ∨ (0 < k ∧ decide ((0 : Int) < (k : Int)) = true ∧ ∃ s2 : ByteArray, (s2.toList == s.toList) = false ∧ wr.cell? ⟨bA, oA + (k - 1), none⟩ = some (.string s2)) := by
     rcases Nat.eq_zero_or_pos k with h0 | h0
     ·exact .inl ⟨h0, decide_eq_false (by omega)⟩
     ·right
      have hlt3 : k - 1 < l.length := by omega
      obtain ⟨bA2, oA2, hA2, _, hcP⟩ := (Ha.out.below hf1).get (k - 1) (.string (l[k - 1])) (svs_get l (k - 1) hlt3)
      injection hA2 with hA2
      injection hA2 with hA2 hA3
      subst hA2; subst hA3
      refine ⟨h0, decide_eq_true (by omega), l[k - 1], ?_, hcP⟩;rw [str_eq, decide_eq_false_iff_not];intro e;refine hsame ⟨h0, ?_⟩;rw [List.getElem?_eq_getElem hlt3, e]
    have Hr2 := hide hr2;have Hc3 := hide hc3;have Hown := hide hown;have Hf1 := hide hf1;have Hi := hide (fun W (h : At W AD (svs Dl)) => rindex_any h Dl.length capD rfl (by omega) s);rw [hii] at Hi;clear r1 r2 hs hr2 hc3 hX hown hrl hii hR hat4 hsame hcase hf1 hXl Ha
    have key : ∀ (W : World) (hW : ∃ q, W = wr.drewN q), ∃ v' w2, (Builtin.append_ #[129, 129] 129 #[.slice A4 X.length cap4, .slice (some ⟨W.heap.size, 0, none⟩) 1 1]).run Tryz.prog (W.alloc (.cells #[.int .i64 (ii : Int), .int .i64 1] 132)) = .ok v' w2 ∧ w2.ownsRow w.heap.size 132 2 v' (X ++ [((ii : Int), (1 : Int))]).length (pv (X ++ [((ii : Int), (1 : Int))])) ∧ Below w.heap.size w w2 ∧ At w2 AD (svs Dl) ∧ (∀ b o, AD = some ⟨b, o, none⟩ → v'.ownBlock ≠ some b) := by
     rintro W ⟨q, rfl⟩;obtain ⟨v', w2, hr, ho, hb, hblk, hsz, hkeep⟩ := app_ownL (P := Tryz.prog) 129 132 _ 16 2 Tryz.underlying129 repinf rfl (by omega) (w := wr.drewN q) (show (wr.drewN q).ownsRow _ _ _ _ _ _ from Hown.out) (bdN Hf1.out q) (bdN Hf1.out q).size [.int .i64 (ii : Int), .int .i64 1] rfl (by simp [Value.oneCell']) (by unfold maxLen; omega) (by omega);refine ⟨v', w2, hr, ?_, hb, hkeep _ _ (hatD.out.drewN q) hfar.out, fun b o h hs => ?_⟩
     ·rw [List.length_append, pv_snoc]
      exact ho
     ·rcases hblk with h1 | h1
      ·exact hfar.out b o h (h1 ▸ hs)
      ·have h2 : some b = some ((wr.drewN q).heap.size + 1) := hs.symm.trans h1
       injection h2 with h2
       have h3 : (wr.drewN q).heap.size = wr.heap.size := rfl;rw [h3] at h2;obtain ⟨b', o', h4, h5, _⟩ := hatD.out 0 (by simp only [svs, List.length_map]; exact List.length_pos_of_mem hsm.out);rw [h] at h4
       injection h4 with h4
       injection h4 with h4
       omega
    have Key := hide key;clear key hXk
    rcases hdec with ⟨hk0, hd⟩ | ⟨hk0, hd, s2, he2, hcP⟩
    ·have hd2 : decide (0 < k) = false := decide_eq_false (by omega)
     clear hk0
     go_wp2
     go_quiet (fail)
     obtain ⟨v', w2, hrun, ho2, hf2, hat2, hfar2⟩ := Key.out (wr.drewN nq) ⟨nq, rfl⟩;have hI := Hi.out (wr.drewN nq) (hatD.out.drewN nq);have hcW : (wr.drewN nq).cell? ⟨bA, oA + k, none⟩ = some (.string s) := hcA
     generalize wr.drewN nq = W at *
     have HI := hide hI;have Hrun := hide hrun;have Ho2 := hide ho2;have Hf2 := hide hf2;have Hat2 := hide hat2;have Hfar2 := hide hfar2;clear hI hrun ho2 hf2 hat2 hfar2 hcA Key Hi Hown Hf1
     go_wp2_with fail
     refine (HI.out).mono ?_;rintro x w3 ⟨rfl, rfl⟩
     go_wp2_with (
      at_builtin
      refine wpList_run (by with_reducible rfl) rfl _ _ _ rfl _ _ (by rfl) (by rfl) Hrun.out ?_)
     refine ⟨⟨k + 1, by omega, by go_num, by rw [Hr2.out, Hc3.out]; exact Ho2.out, Hat2, Hfar2, Hf2.out⟩, ?_⟩
     simp [intOf] <;> omega
    ·have ik : (k : Int) - 1 = ((k - 1 : Nat) : Int) := by omega
     obtain ⟨kp, hkp⟩ : ∃ kp, k - 1 = kp := ⟨_, rfl⟩;rw [hkp] at ik hcP
     have hkp1 : (0 : Int) ≤ (kp : Int) := by omega
     have hkp2 : (kp : Int) < (n : Int) := by omega
     have hd2 : decide (0 < k) = true := decide_eq_true hk0;clear hkp
     go_wp2
     go_quiet (fail)
     obtain ⟨v', w2, hrun, ho2, hf2, hat2, hfar2⟩ := Key.out (wr.drewN nq) ⟨nq, rfl⟩;have hI := Hi.out (wr.drewN nq) (hatD.out.drewN nq);have hcW : (wr.drewN nq).cell? ⟨bA, oA + k, none⟩ = some (.string s) := hcA
     generalize wr.drewN nq = W at *
     have HI := hide hI;have Hrun := hide hrun;have Ho2 := hide ho2;have Hf2 := hide hf2;have Hat2 := hide hat2;have Hfar2 := hide hfar2;clear hI hrun ho2 hf2 hat2 hfar2 hcA Key Hi Hown Hf1 hcP
     go_wp2_with fail
     refine (HI.out).mono ?_;rintro x w3 ⟨rfl, rfl⟩
     go_wp2_with (
      at_builtin
      refine wpList_run (by with_reducible rfl) rfl _ _ _ rfl _ _ (by rfl) (by rfl) Hrun.out ?_)
     refine ⟨⟨k + 1, by omega, by go_num, by rw [Hr2.out, Hc3.out]; exact Ho2.out, Hat2, Hfar2, Hf2.out⟩, ?_⟩
     simp [intOf] <;> omega
  ·have hkn : k = n := by omega
   have htk : l.take k = l := List.take_of_length_le (by rw [← Hn.out]; omega);rw [htk] at hown;obtain ⟨A4, cap4, hv4, hat4⟩ := own_at hown;subst hv4;have Hat := hide hat4;clear htk hown hat4
   go_wp2
   go_returns
   exact ⟨A4, cap4, rfl, Hat.out, hf1⟩
theorem rexpand_any {w : World} {A B : Option Addr} {d : List ByteArray} {l : List (Int × Int)} (ha : At w A (svs d)) (hp : At w B (pv l)) (n cap m cap2 : Nat) (hn : n = d.length) (hm : m = l.length) (hn4 : n ≤ 9223372036854775807) (hm4 : m ≤ 9223372036854775807) :
  Calls Tryz.prog 125 #[.slice A n cap, .slice B m cap2] w fun x w' => TRes w (expand d l []) x w' := by
 have Ha := hide ha;have Hp := hide hp;have Hn := hide hn;have Hm := hide hm;obtain ⟨i0, hi, hz0, hz1, hz2⟩ := info_parts strinf;have Hinf := hide (And.intro hi (And.intro hz0 (And.intro hz1 hz2)));clear ha hp hn hm hi hz0 hz1 hz2;have ho0 := hide (own_made0 9 w);have hb0 := hide ((Below.refl w.heap.size w).alloc (Nat.le_refl _) (.cells #[] 9))
 go_enter Tryz.func125, Tryz.ntmps125
 go_wp2
 go_loopw [6, 7] (fun v6 i wr => ∃ (k : Nat) (acc : List ByteArray), k ≤ m ∧ i = .int .i64 k ∧ acc.length ≤ 4096 ∧ wr.ownsRow w.heap.size 9 1 v6 acc.length (svs acc) ∧ Hid (expand d (l.drop k) acc = expand d l []) ∧ Below w.heap.size w wr) (fun _ i _ => (m - intOf i).toNat)
 case atStart => exact ⟨0, [], by omega, rfl, by simp, ho0.out, hide rfl, hb0.out⟩
 case round =>
  clear ho0 hb0;obtain ⟨k, acc, hk, rfl, hal, hown, hex, hf⟩ := hrel;obtain ⟨A4, cap4, hv4, hat4⟩ := own_at hown;subst hv4
  by_cases hlt : k < m
  ·have hkl : k < l.length := by rw [← Hm.out]; exact hlt
   have hstep := expand_drop d l k hkl acc;have hpk := pv_get l k hkl;obtain ⟨⟨i, c⟩, hic⟩ : ∃ x, l[k] = x := ⟨_, rfl⟩;rw [hic] at hstep hpk;simp only at hstep hpk;have hpw := Hp.out.below hf;obtain ⟨bB, oB, hB, hbB, hcB0⟩ := hpw.get (k * 2) (iv i) hpk.1;obtain ⟨bB', oB', hB', _, hcB1⟩ := hpw.get (k * 2 + 1) (iv c) hpk.2;rw [hB] at hB'
   injection hB' with hB'
   injection hB' with hB1 hB2
   subst hB1; subst hB2; subst hB
   unfold iv at hcB0 hcB1;have Hown := hide hown;have Hf := hide hf;have hcB1' : wr.cell? ⟨bB, oB + k * 2 + 1, none⟩ = some (.int .i64 c) := hcB1;have hbel := hide (hf.alloc hf.size (.cells #[.int .i64 i, .int .i64 c] 132))
   by_cases hbad : i < 0 ∨ (d.length : Int) ≤ i ∨ c < 1
   ·rw [if_pos hbad] at hstep
    have Hr : Hid (expand d l [] = ([], 2)) := hide (by rw [← hex.out, hstep])
    have hb2 : i < 0 ∨ (n : Int) ≤ i ∨ c < 1 := by rw [Hn.out]; exact hbad
    clear hbad hstep hic hpk hpw hat4 hown hf hcB1
    by_cases b1 : i < 0
    ·clear hb2
     go_wp2
     go_returns
     rw [Hr.out];exact tres_err 2 hbel.out
    ·by_cases b2 : (n : Int) ≤ i
     ·clear hb2
      go_wp2
      go_returns
      rw [Hr.out];exact tres_err 2 hbel.out
     ·have b3 : c < 1 := by omega
      clear hb2
      go_wp2
      go_returns
      rw [Hr.out];exact tres_err 2 hbel.out
   ·rw [if_neg hbad] at hstep
    have b1 : ¬ i < 0 := by omega
    have b2 : ¬ (n : Int) ≤ i := by rw [Hn.out]; omega
    have b3 : ¬ c < 1 := by omega
    by_cases hbig : 4096 - (acc.length : Int) < c
    ·rw [if_pos hbig] at hstep
     have Hr : Hid (expand d l [] = ([], 9)) := hide (by rw [← hex.out, hstep]);clear hbad hstep hic hpk hpw hat4 hown hf hcB1
     go_wp2
     go_returns
     rw [Hr.out];exact tres_err 9 hbel.out
    ·rw [if_neg hbig] at hstep
     obtain ⟨i, rfl⟩ := Int.eq_ofNat_of_zero_le (show 0 ≤ i by omega);obtain ⟨c, rfl⟩ := Int.eq_ofNat_of_zero_le (show 0 ≤ c by omega);rw [Int.toNat_natCast, Int.toNat_natCast] at hstep
     have hid : i < d.length := by omega
     have hin : (i : Int) < (n : Int) := by omega
     obtain ⟨s, hs⟩ : ∃ s, d.getD i default = s := ⟨_, rfl⟩
     have hds : (svs d)[i]? = some (.string s) := by
      rw [svs_get d i hid, ← hs]
      simp [List.getD, hid]
     rw [hs] at hstep;have Hst : Hid (expand d (l.drop (k + 1)) (acc ++ List.replicate c s) = expand d l []) := hide (by rw [← hstep]; exact hex.out)
     have hc4 : acc.length + c ≤ 4096 := by omega
     clear hbad hstep hic hpk hpw hat4 hown hf hcB1 hex hs;have hxb := Bk.new wr 132 #[.int .i64 (i : Int), .int .i64 (c : Int)];have ho2 := Hown.out.alloc (.cells #[.int .i64 (i : Int), .int .i64 (c : Int)] 132)
     go_wp2
     go_loopw [6, 9] (fun v6 j wr2 => ∃ q : Nat, q ≤ c ∧ j = .int .i64 q ∧ wr2.ownsRow w.heap.size 9 1 v6 (acc ++ List.replicate q s).length (svs (acc ++ List.replicate q s)) ∧ Bk wr2 wr.heap.size 132 #[.int .i64 (i : Int), .int .i64 (c : Int)] ∧ Below w.heap.size w wr2) (fun _ j _ => (c - intOf j).toNat)
     case atStart => exact ⟨0, by omega, rfl, by simpa using ho2, hxb, hbel.out⟩
     case round =>
      have Hsz := hide Hf.out.size;clear hxb ho2;obtain ⟨q, hq, rfl, hown, hxb, hf⟩ := hrel;have x1 := hxb.cell 1
      simp at x1
      by_cases hlt2 : q < c
      ·have hat := Ha.out.below hf
       obtain ⟨bA, oA, hA, hbA, hcA⟩ := hat.get i (.string s) hds;subst hA;have x0 := hxb.cell 0
       simp at x0
       obtain ⟨L, hL⟩ : ∃ L, acc ++ List.replicate q s = L := ⟨_, rfl⟩
       have hLl : L.length = acc.length + q := by rw [← hL]; simp
       have hL2 : acc ++ List.replicate (q + 1) s = L ++ [s] := by rw [List.replicate_succ', ← List.append_assoc, hL]
       rw [hL] at hown;obtain ⟨A5, cap5, hv5, _⟩ := own_at hown;subst hv5
       have hp1 : L.length + 1 ≤ maxLen := by unfold maxLen; omega
       have hp2 : (L.length + 1) * 16 ≤ 140737488355328 := by omega
       have hbase := hf.size;have HL2 := hide hL2;have Hown2 := hide hown;have Hxb := hide hxb;have Hf2 := hide hf;have Hb2 := hide hcB0;clear hL hL2 hown hxb hat hf hLl hcB0 hcB1';obtain ⟨hi, hz0, hz1, hz2⟩ := Hinf.out
       go_wp2_with (
        at_builtin
        refine wpList_append_own_at _ rfl (.tmp 50) (.tmp 56) _ rfl w.heap.size 9 i0 (.string ByteArray.empty) 1 16 Tryz.underlying22 hi hz0 hz1 hz2 rfl (by omega) (.slice A5 L.length cap5) L.length (svs L) (by rfl) (Hown2.out.alloc _) ⟨_, 0, none⟩ 1 1 [.string s] (by rfl) rfl (news_one _ _ _) (by simp [Value.oneCell']) hp1 hp2 (Nat.le_trans hbase (by simp)) ?_;intro v' w3 hown1 hg1 _ hat1;have Hown1 := hide hown1;have Hg1 := hide hg1
        clear hown1 hg1 hat1)
       have hxb3 := (Hxb.out.alloc (.cells #[.string s] 9)).grown Hg1.out (fun e => own_apart Hown2.out Hxb.out (by decide) e.symm);have hf3 : Below w.heap.size w w3 := (Hf2.out.alloc hbase (.cells #[.string s] 9)).grown Hg1.out (Nat.le_trans hbase (by simp)) (fun j hj => (Hown2.out.lt j hj).1)
       have ho3 : w3.ownsRow w.heap.size 9 1 v' (L ++ [s]).length (svs (L ++ [s])) := by
        have := Hown1.out;rw [List.length_append];unfold svs at this ⊢;rw [List.map_append];exact this
       clear Hown1 Hg1 hcA x0 x1
       go_wp2
       go_roundw
       case rel => exact ⟨q + 1, by omega, by go_num, by rw [HL2.out]; exact ho3, hxb3, hf3⟩
       case measure => simp [intOf] <;> omega
      ·have hqc : q = c := by omega
       subst hqc;have Hown2 := hide hown;have Hf2 := hide hf;clear hown hxb hf hcB0 hcB1'
       go_wp2
       go_roundw
       case rel => exact ⟨k + 1, acc ++ List.replicate q s, by omega, by go_num, by rw [List.length_append, List.length_replicate]; omega, Hown2.out, Hst, Hf2.out⟩
       case measure => simp [intOf] <;> omega
  ·have hkm : k = m := by omega
   subst hkm;have hdr : l.drop k = [] := List.drop_of_length_le (by rw [← Hm.out]; exact Nat.le_refl _);have hfin := hex.out;rw [hdr, expand] at hfin;have Hfin := hide hfin;have hres := hide (own_sres hown);clear hdr hfin hown hat4
   go_wp2
   go_returns
   rw [← Hfin.out];exact ⟨.slice A4 acc.length cap4, rfl, hres.out, hf⟩
end Go.Proofs.YtoeeblldgoccoaaGreat
