/-
  Joined texts: Sa, Ss, Sf, Sj, Sk.
-/
import Derived.Test.YtoeeblldgoccoaaGreatL23
import Derived.Test.YtoeeblldgoccoaaGreatL17
set_option linter.unusedVariables false
set_option linter.unusedSimpArgs false
set_option maxRecDepth 100000
set_option maxHeartbeats 8000000
namespace Go.Proofs.YtoeeblldgoccoaaGreat
open Go.RowKit Go.Proofs Wv Wv.Vi Wv.Rc Wv.Mo Wv.Ru
theorem str_ne {a b : ByteArray} : (a.toList != b.toList) = !decide (a = b) := by
 rw [← str_eq];rfl
theorem texts_any {w : World} {A B : Option Addr} {a b : List ByteArray} (ha : At w A (svs a)) (hb : At w B (svs b)) (n cap m cap2 : Nat) (hn : n = a.length) (hm : m = b.length) (hn4 : n ≤ 9223372036854775807) (hm4 : m ≤ 9223372036854775807) :
  Calls Tryz.prog 24 #[.slice A n cap, .slice B m cap2] w fun x w' => x = .returned (.bool (decide (a = b))) ∧ ∃ q, w' = w.drewN q := by
 have Ha := hide ha;have Hb := hide hb;have Hn := hide hn;have Hm := hide hm;clear ha hb hn hm
 by_cases hl : n = m
 ·subst hl
  have hbn : ((n : Int) != (n : Int)) = false := by simp
  go_enter Tryz.func24, Tryz.ntmps24
  go_wp2
  go_loopw [5] (fun i wr => ∃ k : Nat, k ≤ n ∧ i = .int .i64 k ∧ (∃ q, wr = w.drewN q) ∧ Hid (a.take k = b.take k)) (fun i _ => (n - intOf i).toNat)
  case atStart => exact ⟨0, by omega, rfl, ⟨0, rfl⟩, hide (by simp)⟩
  case round =>
   obtain ⟨k, hk, rfl, ⟨q, rfl⟩, hall⟩ := hrel
   by_cases hlt : k < n
   ·have hka : k < a.length := by rw [← Hn.out]; exact hlt
    have hkb : k < b.length := by rw [← Hm.out]; exact hlt
    obtain ⟨x, hx⟩ : ∃ x, a[k] = x := ⟨_, rfl⟩;obtain ⟨y, hy⟩ : ∃ y, b[k] = y := ⟨_, rfl⟩;obtain ⟨bA, oA, hA, hbA, hcA⟩ := Ha.out.get k (.string x) (by rw [svs_get a k hka, hx]);subst hA;obtain ⟨bB, oB, hB, hbB, hcB⟩ := Hb.out.get k (.string y) (by rw [svs_get b k hkb, hy]);subst hB
    have hlt0 : (0 : Int) ≤ (k : Int) := by omega
    have hlt1 : (k : Int) < (n : Int) := by omega
    by_cases he : x = y
    ·have hne : (x.toList != y.toList) = false := by rw [str_ne, he]; simp
     have heq : (x.toList == y.toList) = true := by rw [he]; simp
     have Hall : Hid (a.take (k + 1) = b.take (k + 1)) := hide (by
      rw [List.take_succ_eq_append_getElem hka, List.take_succ_eq_append_getElem hkb, hall.out, hx, hy, he])
     clear he hx hy
     go_wp2
     go_quiet (fail)
     go_wp2
     refine ⟨⟨k + 1, by omega, by go_num, ⟨q + nq, by first | rfl | rw [World.drewN_drewN]⟩, Hall⟩, ?_⟩
     simp [intOf] <;> omega
    ·have hne : (x.toList != y.toList) = true := by rw [str_ne, decide_eq_false he]; rfl
     have heq : (x.toList == y.toList) = false := by rw [str_eq, decide_eq_false he]
     have Hr : Hid (decide (a = b) = false) := hide (decide_eq_false (fun e => he (by subst e; exact hx.symm.trans hy)));clear he hx hy
     go_wp2
     go_quiet (fail)
     go_wp2
     go_ret
     exact ⟨ret_bool Hr.out.symm, q + nq, by first | rfl | rw [World.drewN_drewN]⟩
   ·have Hr : Hid (decide (a = b) = true) := hide (decide_eq_true (by
     have := hall.out
     rwa [List.take_of_length_le (by rw [← Hn.out]; omega), List.take_of_length_le (by rw [← Hm.out]; omega)] at this))
    go_wp2
    go_ret
    exact ⟨ret_bool Hr.out.symm, q, rfl⟩
 ·have hbn : ((n : Int) != (m : Int)) = true := by rw [bne_iff_ne]; omega
  have Hr : Hid (decide (a = b) = false) := hide (decide_eq_false (fun e => hl (by rw [Hn.out, Hm.out, e])));clear hl
  go_enter Tryz.func24, Tryz.ntmps24
  go_wp2
  go_ret
  exact ⟨ret_bool Hr.out.symm, 0, rfl⟩
def shortB (l : List ByteArray) (most bytes : Int) : Bool := decide ((∀ s ∈ l, (s.size : Int) ≤ bytes) ∧ (l.length : Int) ≤ most)
theorem short_any {w : World} {A : Option Addr} {l : List ByteArray} (ha : At w A (svs l)) (hsz : ∀ s ∈ l, s.size ≤ 9223372036854775807) (n cap : Nat) (hn : n = l.length) (hn4 : n ≤ 9223372036854775807) (most bytes : Int) :
  Calls Tryz.prog 30 #[.slice A n cap, .int .i64 most, .int .i64 bytes] w fun x w' => x = .returned (.bool (shortB l most bytes)) ∧ w = w' := by
 have Ha := hide ha;have Hn := hide hn;have Hs := hide hsz;clear ha hn hsz
 go_enter Tryz.func30, Tryz.ntmps30
 go_wp2
 go_loop [7] (fun i => ∃ k : Nat, k ≤ n ∧ i = .int .i64 k ∧ Hid (∀ s ∈ l.take k, (s.size : Int) ≤ bytes)) (fun i => (n - intOf i).toNat)
 case atStart => exact ⟨0, by omega, rfl, hide (by simp)⟩
 case round =>
  obtain ⟨k, hk, rfl, hall⟩ := hrel
  by_cases hlt : k < n
  ·have hkl : k < l.length := by rw [← Hn.out]; exact hlt
   obtain ⟨s, hs⟩ : ∃ s, l[k] = s := ⟨_, rfl⟩;have hmem : s ∈ l := hs ▸ List.getElem_mem _;have hss := Hs.out s hmem;obtain ⟨bA, oA, hA, hbA, hcA⟩ := Ha.out.get k (.string s) (by rw [svs_get l k hkl, hs]);subst hA
   by_cases hl : (s.size : Int) ≤ bytes
   ·have Hall : Hid (∀ u ∈ l.take (k + 1), (u.size : Int) ≤ bytes) := hide (by
     intro u hu;rw [List.take_succ_eq_append_getElem hkl, hs] at hu
     rcases List.mem_append.1 hu with h | h
     ·exact hall.out u h
     ·rw [List.mem_singleton] at h; rw [h]; exact hl)
    have hl2 : ¬ bytes < (s.size : Int) := by omega
    clear hs hl hmem
    go_wp2
    go_round
    case rel => exact ⟨k + 1, by omega, by go_num, Hall⟩
    case measure => simp [intOf] <;> omega
   ·have Hr : Hid (shortB l most bytes = false) := hide (decide_eq_false (fun h => hl (h.1 s hmem)))
    have hl2 : bytes < (s.size : Int) := by omega
    clear hs hl hmem
    go_wp2
    go_ret
    exact ⟨ret_bool Hr.out.symm, rfl⟩
  ·have hall2 : ∀ s ∈ l, (s.size : Int) ≤ bytes := by
    have := hall.out
    rwa [List.take_of_length_le (by rw [← Hn.out]; omega)] at this
   by_cases hmo : (n : Int) ≤ most
   ·have Hr : Hid (shortB l most bytes = true) := hide (decide_eq_true ⟨hall2, by rw [← Hn.out]; exact hmo⟩)
    have hd := hide (show decide ((n : Int) ≤ most) = true from decide_eq_true hmo);clear hall2
    go_wp2
    go_ret
    exact ⟨ret_bool Hr.out.symm, rfl⟩
   ·have Hr : Hid (shortB l most bytes = false) := hide (decide_eq_false (fun h => hmo (by rw [Hn.out]; exact h.2)))
    have hd := hide (show decide ((n : Int) ≤ most) = false from decide_eq_false hmo);clear hall2
    go_wp2
    go_ret
    exact ⟨ret_bool Hr.out.symm, rfl⟩
end Go.Proofs.YtoeeblldgoccoaaGreat
namespace Go.Proofs.YtoeeblldgoccoaaGreat
open Go.RowKit Go.Proofs Wv Wv.Vi Wv.Ru
def SB (w : World) (b : Nat) (s : ByteArray) (e : Int) : Prop := Bk w b 91 #[.string s, .int .i64 e]
theorem SB.put0 {w : World} {b : Nat} {e : Int} {s : ByteArray} (h : SB w b s e) (x : ByteArray) : SB (w.setCell ⟨b, 0, none⟩ (.string x)) b x e := by simpa [SB] using Bk.put h 0 (.string x)
theorem SB.put1 {w : World} {b : Nat} {e : Int} {s : ByteArray} (h : SB w b s e) (x : Int) : SB (w.setCell ⟨b, 1, none⟩ (.int .i64 x)) b s x := by simpa [SB] using Bk.put h 1 (.int .i64 x)
theorem SB.off {w : World} {b : Nat} {e : Int} {s : ByteArray} (h : SB w b s e) {b' : Nat} (hne : b' ≠ b) (k : Nat) (x : Value) : SB (w.setCell ⟨b', k, none⟩ x) b s e := Bk.off h (p := ⟨b', k, none⟩) (Ne.symm hne) x
theorem SB.alloc {w : World} {b : Nat} {e : Int} {s : ByteArray} (h : SB w b s e) (o : Obj) : SB (w.alloc o) b s e := Bk.alloc h o
theorem SB.below {w w' : World} {b : Nat} {e : Int} {s : ByteArray} (h : SB w b s e) (hb : Below w.heap.size w w') : SB w' b s e := Bk.below h hb (Bk.lt h)
theorem sres_end {w : World} {r : Nat} {s0 : ByteArray} {e0 : Int} (hr : SB w r s0 e0) (s : ByteArray) (e : Int) :
  ∃ W, ((w.setCell ⟨r, 0, none⟩ (.string s)).setCell ⟨r, 1, none⟩ (.int .i64 e)) = W ∧ W.cell? ⟨r, 0, none⟩ = some (.string s) ∧ W.cell? ⟨r, 1, none⟩ = some (.int .i64 e) ∧ Fr (only r) w W := by
 have hk := (hr.put0 s).put1 e;exact ⟨_, rfl, Bk.cell hk 0, Bk.cell hk 1, only_set (only_set (Fr.refl _ _) 0 _) 1 _⟩
theorem ffail_any (s : ByteArray) (e x : Int) (w : World) :
  Calls Tryz.prog 118 #[.agg #[.string s, .int .i64 e], .int .i64 x] w fun r w' => r = .returned (.agg #[.string s, .int .i64 x]) ∧ Below w.heap.size w w' := by
 go_enter Tryz.func118, Tryz.ntmps118
 go_wp2
 go_returns
 exact ⟨rfl, ((Below.refl w.heap.size w).alloc (Nat.le_refl _) _).alloc (by simp) _⟩
theorem SB.cells {w : World} {b : Nat} {e : Int} {s : ByteArray} (h : SB w b s e) : (w.cell? ⟨b, 0, none⟩ = some (.string s) ∧ w.cell? ⟨b, 1, none⟩ = some (.int .i64 e)) ∧ w.frozen? ⟨b, 0, none⟩ = false ∧ w.frozen? ⟨b, 1, none⟩ = false := ⟨⟨Bk.cell h 0, Bk.cell h 1⟩, Bk.frozen h 0, Bk.frozen h 1⟩
def nvR (s : ByteArray) (e : Nat) (most : Int) : Value := .tuple #[.agg #[.string (numR s e most).2.1, .int .i64 ((numR s e most).2.2 : Int)], .int .i64 ((numR s e most).1 : Int)]
theorem numR_er {s : ByteArray} {e : Nat} (he : e ≠ 0) (most : Int) : numR s e most = (0, s, e) := by unfold numR; rw [if_neg he]
theorem nvR_of {s t : ByteArray} {e n f : Nat} {most : Int} (h : numR s e most = (n, t, f)) : nvR s e most = .tuple #[.agg #[.string t, .int .i64 (f : Int)], .int .i64 (n : Int)] := by unfold nvR; rw [h]
theorem rnum_any {s : ByteArray} (hm : s.size ≤ 1099511627776) (e : Nat) (most : Int) (w : World) :
  Calls Tryz.prog 117 #[.agg #[.string s, .int .i64 (e : Int)], .int .i64 most] w fun r w' => r = .returned (nvR s e most) ∧ Below w.heap.size w w' := by
 have Hr := hide (fun W => rread_any hm W);have Hf := hide (fun x W => ffail_any s e x W);have hx0 : SB ((w.alloc (.cells #[.string s, .int .i64 (e : Int)] 91)).alloc (.cells #[.string ⟨#[]⟩, .int .i64 0] 91)) w.heap.size s e := SB.alloc (Bk.new _ _ _) _;have hr0 := Bk.new (w.alloc (.cells #[.string s, .int .i64 (e : Int)] 91)) 91 #[.string ⟨#[]⟩, .int .i64 0]
 have hr1 : SB ((w.alloc (.cells #[.string s, .int .i64 (e : Int)] 91)).alloc (.cells #[.string ⟨#[]⟩, .int .i64 0] 91)) (w.heap.size + 1) ⟨#[]⟩ 0 := by
  rw [World.size_alloc] at hr0;exact hr0
 have hb0 := ((Below.refl w.heap.size w).alloc (Nat.le_refl _) (.cells #[.string s, .int .i64 (e : Int)] 91)).alloc (by simp) (.cells #[.string ⟨#[]⟩, .int .i64 0] 91);have Hx0 := hide hx0;have Hr1 := hide hr1;have Hb0 := hide hb0;clear hx0 hr0 hr1 hb0
 by_cases he : e = 0
 ·subst he
  match hrd : rd (toL s) with
  | none =>
   rw [rk_none hrd] at Hr;have Hn := hide (nvR_of (s := s) (e := 0) (most := most) (n := 0) (t := s) (f := 12) (by unfold numR; rw [if_pos rfl, hrd]));clear hrd
   go_enter Tryz.func117, Tryz.ntmps117
   go_wp2_with fail
   refine (Hr.out _).mono ?_;rintro x w1 ⟨rfl, hb1⟩;have hx1 := Hx0.out.below hb1;obtain ⟨⟨c0, c1⟩, f0, f1⟩ := hx1.cells;obtain ⟨⟨r0, r1⟩, g0, g1⟩ := (Hr1.out.below hb1).cells;have hbw := Hb0.out.trans (hb1.mono Hb0.out.size);have hr2 := Hr1.out.below hb1;have Hbw := hide hbw;have Hr2 := hide hr2;have Hx1 := hide hx1;clear hb1 hbw hr2 Hr hx1
   go_wp2_with fail
   refine (Hf.out _ _).mono ?_;rintro x w2 ⟨rfl, hb2⟩;have hr3 := Hr2.out.below hb2;obtain ⟨⟨r0, r1⟩, g0, g1⟩ := hr3.cells;have Hr3 := hide hr3;have Hb2 := hide (Hbw.out.trans (hb2.mono Hbw.out.size));clear hr3 hb2 c0 c1 f0 f1;obtain ⟨WF, hWF, u0, u1, hfr⟩ := sres_end (Hr3.out) (s) 12;have HWF := hide hWF;have HbF := hide ((Hb2.out).trans (own_below hfr (Hb2.out).size (show w.heap.size ≤ w.heap.size + 1 by omega)));clear hWF hfr 
   go_wp2
   rw [HWF.out];refine bodyPost_ret (by simp [results, Tryz.results117, go_sem, u0, u1]; try rfl) rfl ?_;exact ⟨by rw [Hn.out]; rfl, HbF.out⟩
  | some (n, z) =>
   rw [rk_some hrd] at Hr;have hle := rd_le hrd
   have hz0 : ((z : Int) == 0) = false := by rw [beq_eq_false_iff_ne]; omega
   have hzs : z ≤ s.size := hle.2.2.1
   by_cases hmn : most < (n : Int)
   ·have Hn := hide (nvR_of (s := s) (e := 0) (most := most) (n := 0) (t := s) (f := 2) (by unfold numR; rw [if_pos rfl, hrd]; simp only; rw [if_pos hmn]))
    clear hrd hle
    go_enter Tryz.func117, Tryz.ntmps117
    go_wp2_with fail
    refine (Hr.out _).mono ?_;rintro x w1 ⟨rfl, hb1⟩;have hx1 := Hx0.out.below hb1;obtain ⟨⟨c0, c1⟩, f0, f1⟩ := hx1.cells;obtain ⟨⟨r0, r1⟩, g0, g1⟩ := (Hr1.out.below hb1).cells;have hbw := Hb0.out.trans (hb1.mono Hb0.out.size);have hr2 := Hr1.out.below hb1;have Hbw := hide hbw;have Hr2 := hide hr2;have Hx1 := hide hx1;clear hb1 hbw hr2 Hr hx1
    go_wp2_with fail
    refine (Hf.out _ _).mono ?_;rintro x w2 ⟨rfl, hb2⟩;have hr3 := Hr2.out.below hb2;obtain ⟨⟨r0, r1⟩, g0, g1⟩ := hr3.cells;have Hr3 := hide hr3;have Hb2 := hide (Hbw.out.trans (hb2.mono Hbw.out.size));clear hr3 hb2 c0 c1 f0 f1;obtain ⟨WF, hWF, u0, u1, hfr⟩ := sres_end (Hr3.out) (s) 2;have HWF := hide hWF;have HbF := hide ((Hb2.out).trans (own_below hfr (Hb2.out).size (show w.heap.size ≤ w.heap.size + 1 by omega)));clear hWF hfr 
    go_wp2
    rw [HWF.out];refine bodyPost_ret (by simp [results, Tryz.results117, go_sem, u0, u1]; try rfl) rfl ?_;exact ⟨by rw [Hn.out]; rfl, HbF.out⟩
   ·have Hn := hide (nvR_of (s := s) (e := 0) (most := most) (n := n) (t := bs ((toL s).drop z)) (f := 0) (by unfold numR; rw [if_pos rfl, hrd]; simp only; rw [if_neg hmn]))
    have hex := ext_drop s z
    have hzi : (z : Int) ≤ (s.size : Int) := by omega
    clear hrd hle
    go_enter Tryz.func117, Tryz.ntmps117
    go_wp2_with fail
    refine (Hr.out _).mono ?_;rintro x w1 ⟨rfl, hb1⟩;have hx1 := Hx0.out.below hb1;obtain ⟨⟨c0, c1⟩, f0, f1⟩ := hx1.cells;obtain ⟨⟨r0, r1⟩, g0, g1⟩ := (Hr1.out.below hb1).cells;have hbw := Hb0.out.trans (hb1.mono Hb0.out.size);have hr2 := Hr1.out.below hb1;have Hbw := hide hbw;have Hr2 := hide hr2;have Hx1 := hide hx1;clear hb1 hbw hr2 Hr hx1;have hput := Hx1.out.put0 (bs ((toL s).drop z));have hrp := Hr2.out.off (b' := w.heap.size) (by omega) 0 (.string (bs ((toL s).drop z)));have hbp := Hbw.out.setCell (p := ⟨w.heap.size, 0, none⟩) (Nat.le_refl _) (.string (bs ((toL s).drop z)));obtain ⟨WF, hWF, u0, u1, hfr⟩ := sres_end (hrp) (bs ((toL s).drop z)) 0;have HWF := hide hWF;have HbF := hide ((hbp).trans (own_below hfr (hbp).size (show w.heap.size ≤ w.heap.size + 1 by omega)));clear hWF hfr 
    go_wp2
    rw [HWF.out];refine bodyPost_ret (by simp [results, Tryz.results117, go_sem, u0, u1]; try rfl) rfl ?_;exact ⟨by rw [Hn.out]; rfl, HbF.out⟩
 ·have Hn := hide (nvR_of (numR_er (s := s) he most))
  have hne : ((e : Int) != 0) = true := by rw [bne_iff_ne]; omega
  obtain ⟨N, Z, hrk⟩ : ∃ N Z : Int, rk s = .tuple #[.int .i64 N, .int .i64 Z] := by
   unfold rk
   split
   ·exact ⟨_, _, rfl⟩
   ·exact ⟨_, _, rfl⟩
  rw [hrk] at Hr;clear hrk he
  go_enter Tryz.func117, Tryz.ntmps117
  go_wp2_with fail
  refine (Hr.out _).mono ?_;rintro x w1 ⟨rfl, hb1⟩;have hx1 := Hx0.out.below hb1;obtain ⟨⟨c0, c1⟩, f0, f1⟩ := hx1.cells;obtain ⟨⟨r0, r1⟩, g0, g1⟩ := (Hr1.out.below hb1).cells;have hbw := Hb0.out.trans (hb1.mono Hb0.out.size);have hr2 := Hr1.out.below hb1;have Hbw := hide hbw;have Hr2 := hide hr2;have Hx1 := hide hx1;clear hb1 hbw hr2 Hr hx1;obtain ⟨WF, hWF, u0, u1, hfr⟩ := sres_end (Hr2.out) (s) e;have HWF := hide hWF;have HbF := hide ((Hbw.out).trans (own_below hfr (Hbw.out).size (show w.heap.size ≤ w.heap.size + 1 by omega)));clear hWF hfr 
  go_wp2
  rw [HWF.out];refine bodyPost_ret (by simp [results, Tryz.results117, go_sem, u0, u1]; try rfl) rfl ?_;exact ⟨by rw [Hn.out]; rfl, HbF.out⟩
end Go.Proofs.YtoeeblldgoccoaaGreat
namespace Wv
open Go Go.RowKit
theorem and_two (n k : Nat) (hn : n < 9223372036854775808) (hk : k < 63) : bits .and .i64 (n : Int) ((2 ^ k : Nat) : Int) = ((n / 2 ^ k % 2 * 2 ^ k : Nat) : Int) := by
 have hp : 2 ^ k < 2 ^ 63 := Nat.pow_lt_pow_right (by omega) hk
 have e1 : (BitVec.ofInt 64 (n : Int)).toNat = n := by
  rw [BitVec.toNat_ofInt];have : ((n : Int) % ((2 ^ 64 : Nat) : Int)) = (n : Int) := Int.emod_eq_of_lt (by omega) (by omega);rw [this, Int.toNat_natCast]
 have e2 : (BitVec.ofInt 64 ((2 ^ k : Nat) : Int)).toNat = 2 ^ k := by
  rw [BitVec.toNat_ofInt]
  generalize 2 ^ k = p at *
  have : ((p : Int) % ((2 ^ 64 : Nat) : Int)) = (p : Int) := Int.emod_eq_of_lt (by omega) (by omega);rw [this, Int.toNat_natCast]
 have key : (BitVec.ofInt 64 (n : Int) &&& BitVec.ofInt 64 ((2 ^ k : Nat) : Int)).toNat = n / 2 ^ k % 2 * 2 ^ k := by
  rw [BitVec.toNat_and, e1, e2]
  apply Nat.eq_of_testBit_eq
  intro i;rw [Nat.testBit_and, Nat.testBit_two_pow]
  have h2 : n / 2 ^ k % 2 = 0 ∨ n / 2 ^ k % 2 = 1 := by omega
  have h3 : n.testBit k = decide (n / 2 ^ k % 2 = 1) := Nat.testBit_eq_decide_div_mod_eq
  by_cases hik : k = i
  ·subst hik
   rcases h2 with h | h
   ·rw [h3, h]; simp
   ·rw [h3, h, Nat.one_mul, Nat.testBit_two_pow]; simp
  ·rcases h2 with h | h
   ·rw [h]; simp [hik]
   ·rw [h, Nat.one_mul, Nat.testBit_two_pow]; simp [hik]
 show IntKind.i64.wrap ((BitVec.ofInt 64 (n : Int) &&& BitVec.ofInt 64 ((2 ^ k : Nat) : Int)).toNat : Nat) = _
 rw [key]
 have : n / 2 ^ k % 2 * 2 ^ k ≤ 2 ^ k := by
  have h2 : n / 2 ^ k % 2 ≤ 1 := by omega
  exact Nat.le_trans (Nat.mul_le_mul_right _ h2) (by omega)
 rw [IntWalk.i64_in _ (by omega)]
end Wv
namespace Go.Proofs.YtoeeblldgoccoaaGreat
open Go.RowKit Go.Proofs Wv Wv.Vi Wv.Rc Wv.Mo
def ns (t : List Nat) : List Value := ivs (t.map Int.ofNat)
theorem ns_len (t : List Nat) : (ns t).length = t.length := by simp [ns, ivs]
theorem ns_get (t : List Nat) (i : Nat) (h : i < t.length) : (ns t)[i]? = some (.int .i64 (t.getD i 0 : Nat)) := by
 have : t.getD i 0 = t[i] := by simp [List.getD, h]
 rw [this]
 simp [ns, ivs, iv, h]
theorem ns_set (t : List Nat) (i z : Nat) : (ns t).set i (.int .i64 (z : Int)) = ns (t.set i z) := by simp [ns, ivs, iv, List.map_set]
theorem ns_snoc (t : List Nat) (z : Nat) : ns (t ++ [z]) = ns t ++ [.int .i64 (z : Int)] := by simp [ns, ivs, iv]
theorem ns_one (t : List Nat) : ∀ y ∈ ns t, y.oneCell' = true := by
 intro y hy;unfold ns ivs at hy;obtain ⟨b, _, rfl⟩ := List.mem_map.1 hy;rfl
theorem fadapt_any (z b : Nat) (h1 : 1 ≤ z) (h2 : z ≤ 2047) (hb : b < 2) (w : World) :
  Calls Tryz.prog 179 #[.int .i64 (z : Int), .int .i64 (b : Int)] w fun x w' => x = .returned (.int .i64 (adapt z b : Nat)) ∧ w = w' := by
 have hz : b = 0 ∨ b = 1 := by omega
 rcases hz with rfl | rfl
 ·have ha := hide (show adapt z 0 = z + (2048 - z) / 32 by unfold adapt; rw [if_pos rfl])
  go_enter Tryz.func179, Tryz.ntmps179
  go_wp2
  go_ret
  exact ⟨ret_int (by rw [ha.out]; omega), rfl⟩
 ·have ha := hide (show adapt z 1 = z - z / 32 by unfold adapt; rw [if_neg (by omega)])
  have hne : (((1 : Nat) : Int) == 0) = false := rfl
  go_enter Tryz.func179, Tryz.ntmps179
  go_wp2
  go_ret
  exact ⟨ret_int (by rw [ha.out]; omega), rfl⟩
theorem flength_any (n : Nat) (h63 : n ≤ 9223372036854775807) (w : World) :
  Calls Tryz.prog 148 #[.int .i64 (n : Int)] w fun e w' => e = .returned (.int .i64 (blen n : Nat)) ∧ w = w' := by
 have hbl : blen n ≤ 64 := by
  unfold blen
  split
  ·omega
  ·have := (Nat.log2_lt (n := n) (k := 63) (by omega)).2 (by omega)
   omega
 go_enter Tryz.func148, Tryz.ntmps148
 go_wp2
 go_loop [0, 3] (fun x v => ∃ j k : Nat, j ≤ n ∧ blen j + k ≤ blen n ∧ blen n ≤ blen j + k ∧ x = .int .i64 j ∧ v = .int .i64 k) (fun x _ => (intOf x).toNat)
 case atStart => exact ⟨n, 0, by omega, by omega, by omega, rfl, rfl⟩
 case round =>
  obtain ⟨j, k, hj, h1, h2, rfl, rfl⟩ := hrel
  by_cases hlt : 0 < j
  ·have hb := blen_half j hlt
   have h3 : blen (j / 2) + (k + 1) ≤ blen n := by omega
   have h4 : blen n ≤ blen (j / 2) + (k + 1) := by omega
   clear hb
   go_wp2
   go_round
   case rel => exact ⟨j / 2, k + 1, by omega, h3, h4, by go_num, by go_num⟩
   case measure => simp [intOf]; omega
  ·have : j = 0 := by omega
   subst this;have h0 : blen 0 = 0 := rfl;rw [h0] at h1 h2
   have h3 : k = blen n := by omega
   clear hlt h1 h2
   go_wp2
   go_ret
   exact ⟨ret_int (by omega), rfl⟩
theorem fset_any {w : World} {A : Option Addr} {t : List Nat} (ha : At w A (ns t)) (n cap : Nat) (hn : n = t.length) (m z : Nat) (hm : m < t.length) (ht : t.length ≤ 4096) :
  Calls Tryz.prog 178 #[.slice A n cap, .int .i64 (m : Int), .int .i64 (z : Int)] w fun x w' => ∃ A' cap', x = .returned (.slice A' n cap') ∧ At w' A' (ns (t.set m z)) ∧ Below w.heap.size w w' ∧ (∀ b o, A' = some ⟨b, o, none⟩ → w.heap.size ≤ b) := by
 have hA : A = none → ns t = [] := by
  rintro rfl;obtain ⟨b, p, h, _⟩ := ha 0 (by rw [ns_len]; omega)
  cases h
 obtain ⟨v', w1, hrun, hown, hbel, _⟩ := run_copy (P := Tryz.prog) 124 3 _ _ Tryz.underlying124 intinf rfl ha cap n (by rw [ns_len, hn]) hA (ns_one t) (by unfold maxLen; omega) (by omega);obtain ⟨g, cap', rfl, hcap⟩ := own_form hown (by omega);obtain ⟨c1, c2⟩ := own_cell hown m _ (ns_get t m hm);have hput := own_put hown m (by omega) (.int .i64 (z : Int));rw [ns_set] at hput;have hbel2 := hbel.setCell (p := ⟨g, m, none⟩) ((hown.lt g rfl).1) (.int .i64 (z : Int));have Hrun := hide hrun;have Hput := hide hput;have Hbel := hide hbel2
 have hmn : m < n := by omega
 have hgb := (hown.lt g rfl).1;clear hrun ha hA hown hbel hput hbel2 hn hm ht
 go_enter Tryz.func178, Tryz.ntmps178
 go_wp2_with (
  at_builtin
  refine wpList_run (by with_reducible rfl) rfl _ _ _ rfl _ _ (by rfl) (by rfl) Hrun.out ?_)
 go_returns
 obtain ⟨A', cap2, hv, hat⟩ := own_at Hput.out
 injection hv with h1 h2 h3
 subst h1; subst h3
 exact ⟨_, cap', rfl, hat, Hbel.out, fun b o h => by injection h with h; injection h with h; omega⟩
theorem fnewtree_any (w : World) :
  Calls Tryz.prog 111 #[.int .i64 6] w fun x w' => ∃ A' cap', x = .returned (.slice A' 64 cap') ∧ At w' A' (ns t0) ∧ Below w.heap.size w w' := by
 obtain ⟨i0, hi, hz0, hz1, hz2⟩ := info_parts intinf;have Hinf := hide (And.intro hi (And.intro hz0 (And.intro hz1 hz2)));have ho0 := hide (own_made0 3 w);have hb0 := hide ((Below.refl w.heap.size w).alloc (Nat.le_refl _) (.cells #[] 3));clear hi hz0 hz1 hz2
 go_enter Tryz.func111, Tryz.ntmps111
 go_wp2
 go_loopw [3, 4] (fun v i wr => ∃ k : Nat, k ≤ 64 ∧ i = .int .i64 k ∧ wr.ownsRow w.heap.size 3 1 v k (ns (List.replicate k 1024)) ∧ Below w.heap.size w wr) (fun _ i _ => (64 - intOf i).toNat)
 case atStart => exact ⟨0, by omega, rfl, ho0.out, hb0.out⟩
 case round =>
  obtain ⟨k, hk, rfl, hown, hf⟩ := hrel
  by_cases hlt : k < 64
  ·obtain ⟨A5, cap5, hv5, _⟩ := own_at hown
   subst hv5
   have hp1 : k + 1 ≤ maxLen := by unfold maxLen; omega
   have hp2 : (k + 1) * 8 ≤ 140737488355328 := by omega
   have Hp := hide (And.intro hp1 hp2);have hbase := hf.size;have Hown := hide hown;have Hf := hide hf;obtain ⟨hi, hz0, hz1, hz2⟩ := Hinf.out
   have hlt2 : (k : Int) < 64 := by omega
   have Hk := hide (And.intro hk hlt);have Hbase := hide hbase;clear hown hf ho0 hb0 hp1 hp2 hk hlt hbase
   go_wp2_with (
    at_builtin
    refine wpList_append_own_at _ rfl (.tmp 12) (.tmp 13) _ rfl w.heap.size 3 i0 (.int .i64 0) 1 8 Tryz.underlying124 hi hz0 hz1 hz2 rfl (by omega) (.slice A5 k cap5) k (ns (List.replicate k 1024)) (by rfl) (Hown.out.alloc _) ⟨_, 0, none⟩ 1 1 [.int .i64 1024] (by rfl) rfl (news_one _ _ _) (by simp [Value.oneCell']) Hp.out.1 Hp.out.2 (Nat.le_trans Hbase.out (by simp)) ?_;intro v' w3 hown1 hg1 _ hat1;have Hown1 := hide hown1;have Hg1 := hide hg1
    clear hown1 hg1 hat1)
   have hbase := Hbase.out;have hf3 : Below w.heap.size w w3 := (Hf.out.alloc hbase (.cells #[.int .i64 1024] 3)).grown Hg1.out (Nat.le_trans hbase (by simp)) (fun j hj => (Hown.out.lt j hj).1)
   have ho3 : w3.ownsRow w.heap.size 3 1 v' (k + 1) (ns (List.replicate (k + 1) 1024)) := by
    have := Hown1.out;rw [List.replicate_succ', ns_snoc];exact this
   have Ho3 := hide ho3;have Hf3 := hide hf3;clear Hown1 Hg1 Hown Hf ho3 hf3 hi hz0 hz1 hz2 hbase Hp
   go_wp2
   go_roundw
   case rel => exact ⟨k + 1, (by have := Hk.out; omega), by go_num, Ho3.out, Hf3.out⟩
   case measure => simp [intOf] <;> omega
  ·have hk64 : k = 64 := by omega
   clear hk hlt;subst hk64;obtain ⟨A5, cap5, hv5, hat⟩ := own_at hown;subst hv5;have Hat := hide hat;clear hown ho0 hb0 hat
   go_wp2
   go_returns
   exact ⟨_, _, rfl, Hat.out, hf⟩
open Wv.Ru
theorem own_cap {w : World} {base e size n g cap : Nat} {xs : List Value} (h : w.ownsRow base e size (.slice (some ⟨g, 0, none⟩) n cap) n xs) : cap ≤ maxLen := by
 rcases h.2 with ⟨h, _⟩ | ⟨g', cap', cur, hv, _, _, _, hm, _⟩
 ·cases h
 ·injection hv with _ _ hv
  rw [hv]; exact hm
theorem rindex_any {w : World} {A : Option Addr} {l : List ByteArray} (ha : At w A (svs l)) (n cap : Nat) (hn : n = l.length) (hm : n ≤ 9223372036854775807) (s : ByteArray) :
  Calls Tryz.prog 151 #[.slice A n cap, .string s] w fun x w' => x = .returned (.int .i64 (ix l s : Nat)) ∧ w = w' := by
 have Ha := hide ha;have Hn := hide hn;have hle := ix_le l s;rw [← hn] at hle;clear ha hn
 go_enter Tryz.func151, Tryz.ntmps151
 go_wp2
 go_loop [5] (fun i => ∃ j : Nat, j ≤ ix l s ∧ i = .int .i64 j) (fun i => (n - intOf i).toNat)
 case atStart => exact ⟨0, by omega, rfl⟩
 case round =>
  obtain ⟨j, hj, rfl⟩ := hrel
  by_cases hlt : j < n
  ·have hjl : j < l.length := by rw [← Hn.out]; exact hlt
   obtain ⟨u, hu⟩ : ∃ u, l[j] = u := ⟨_, rfl⟩;obtain ⟨bA, oA, hA, hbA, hcA⟩ := Ha.out.get j (.string u) (by rw [svs_get l j hjl, hu]);subst hA
   by_cases hji : j < ix l s
   ·have hne2 : (u.toList == s.toList) = false := by
     rw [str_eq]
     have : u ≠ s := fun e => ix_before j hji (by rw [List.getElem?_eq_getElem hjl, hu, e])
     simp [this]
    have hne : (u.toList != s.toList) = true := by rw [bne, hne2]; rfl
    clear hu
    go_wp2
    go_round
    case rel => exact ⟨j + 1, by omega, by go_num⟩
    case measure => simp [intOf] <;> omega
   ·have hje : j = ix l s := by omega
    have hne2 : (u.toList == s.toList) = true := by
     have hm : s ∈ l := ix_lt.1 (by omega);have := ix_get? hm;rw [← hje, List.getElem?_eq_getElem hjl, hu] at this
     injection this with this
     rw [this];exact beq_self_eq_true _
    have hne : (u.toList != s.toList) = false := by rw [bne, hne2]; rfl
    have Hje := hide hje;clear hu hje hji
    go_wp2
    go_ret
    exact ⟨ret_int (by rw [← Hje.out]), rfl⟩
  ·have hje : j = ix l s := by omega
   have Hje := hide hje;clear hje
   go_wp2
   go_ret
   exact ⟨ret_int (by rw [← Hje.out]), rfl⟩
theorem rdict_all {w : World} {A : Option Addr} {l : List ByteArray} (ha : At w A (svs l)) (n cap : Nat) (hn : n = l.length) (hm : n ≤ 4096) :
  Calls Tryz.prog 114 #[.slice A n cap] w fun x w' => ∃ A' cap', x = .returned (.slice A' (dict l).length cap') ∧ At w' A' (svs (dict l)) ∧ Below w.heap.size w w' ∧ (∀ b o, A' = some ⟨b, o, none⟩ → w.heap.size ≤ b) := by
 have Ha := hide ha;have Hn := hide hn;have ho0 := hide (own_made0 9 w);have hb0 := hide ((Below.refl w.heap.size w).alloc (Nat.le_refl _) (.cells #[] 9));clear ha hn
 go_enter Tryz.func114, Tryz.ntmps114
 go_wp2
 go_loopw [3, 4] (fun v i wr => ∃ k : Nat, k ≤ n ∧ i = .int .i64 k ∧ wr.ownsRow w.heap.size 9 1 v (dict (l.take k)).length (svs (dict (l.take k))) ∧ Below w.heap.size w wr) (fun _ i _ => (n - intOf i).toNat)
 case atStart => exact ⟨0, by omega, rfl, ho0.out, hb0.out⟩
 case round =>
  clear ho0 hb0;obtain ⟨k, hk, rfl, hown, hf⟩ := hrel;have hdl := dict_length (l.take k);rw [List.length_take] at hdl
  by_cases hlt : k < n
  ·have hkl : k < l.length := by rw [← Hn.out]; exact hlt
   obtain ⟨s, hs⟩ : ∃ s, l[k] = s := ⟨_, rfl⟩;obtain ⟨bA, oA, hA, hbA, hcA⟩ := (Ha.out.below hf).get k (.string s) (by rw [svs_get l k hkl, hs]);subst hA;obtain ⟨d1, d2⟩ := dict_take l k hkl;rw [hs] at d1 d2;obtain ⟨D, hD⟩ : ∃ D, dict (l.take k) = D := ⟨_, rfl⟩;rw [hD] at d1 d2 hown hdl;obtain ⟨A4, cap4, hv4, hat4⟩ := own_at hown;subst hv4;have Hi := hide (rindex_any hat4 D.length cap4 rfl (by omega) s)
   by_cases hin : s ∈ D
   ·have hne : ((ix D s : Int) == (D.length : Int)) = false := by
     rw [beq_eq_false_iff_ne];have := ix_lt.2 hin;omega
    have Hd := hide (d1 hin);have Hown := hide hown;clear d1 d2 hs hD hin hown hdl hat4
    go_wp2_with fail
    refine (Hi.out).mono ?_;rintro x w1 ⟨rfl, rfl⟩
    go_wp2
    go_roundw
    case rel => exact ⟨k + 1, by omega, by go_num, by rw [Hd.out]; exact Hown.out, hf⟩
    case measure => simp [intOf] <;> omega
   ·have hixe : ix D s = D.length := by
     have h1 := ix_le D s
     have h2 : ¬ ix D s < D.length := fun h => hin (ix_lt.1 h)
     omega
    rw [hixe] at Hi;obtain ⟨v', w1, hrun, hown1, hf1, _⟩ := app_own (P := Tryz.prog) 22 9 _ _ Tryz.underlying22 strinf rfl hown hf hf.size (.string s) rfl (by unfold maxLen; omega) (by omega);have Hd := hide (d2 hin);have Hrun := hide hrun
    have Hown1 : Hid (w1.ownsRow w.heap.size 9 1 v' (D ++ [s]).length (svs (D ++ [s]))) := hide (by
     rw [List.length_append];unfold svs at hown1 ⊢;rw [List.map_append]
     exact hown1)
    have Hf1 := hide hf1;clear d1 d2 hs hD hin hown hdl hat4 hrun hown1 hf1 hf hixe
    go_wp2_with fail
    refine (Hi.out).mono ?_;rintro x w2 ⟨rfl, rfl⟩
    go_wp2_with (
     at_builtin
     refine wpList_run (by with_reducible rfl) rfl _ _ _ rfl _ _ (by rfl) (by rfl) Hrun.out ?_)
    go_roundw
    case rel => exact ⟨k + 1, by omega, by go_num, by rw [Hd.out]; exact Hown1.out, Hf1.out⟩
    case measure => simp [intOf] <;> omega
  ·have hkn : k = n := by omega
   have htk : l.take k = l := List.take_of_length_le (by rw [← Hn.out]; omega);rw [htk] at hown;obtain ⟨A4, cap4, hv4, hat4⟩ := own_at hown;subst hv4;have Hat := hide hat4;have Hfar := hide (fun (b o : Nat) (h : A4 = some ⟨b, o, none⟩) => (hown.lt b (by rw [h]; rfl)).1);clear htk hown hat4 hdl
   go_wp2
   go_returns
   exact ⟨A4, cap4, rfl, Hat.out, hf, Hfar.out⟩
theorem rdict_any {w : World} {A : Option Addr} {l : List ByteArray} (ha : At w A (svs l)) (n cap : Nat) (hn : n = l.length) (hm : n ≤ 4096) :
  Calls Tryz.prog 114 #[.slice A n cap] w fun x w' => DRes w (dict l) x w' :=
 (rdict_all ha n cap hn hm).mono fun x w' ⟨A', cap', hx, hat, hb, _⟩ => ⟨_, hx, ⟨A', cap', rfl, hat⟩, hb⟩
theorem rrow_any (w : World) :
  Calls Tryz.prog 153 #[] w fun x w' => ∃ A cap, x = .returned (.slice A 4096 cap) ∧ (4096 ≤ cap ∧ cap ≤ maxLen) ∧ At w' A (ns r0) ∧ Below w.heap.size w w' ∧ (∀ b o, A = some ⟨b, o, none⟩ → w.heap.size ≤ b) := by
 have ho0 := hide (own_made0 3 w);have hb0 := hide ((Below.refl w.heap.size w).alloc (Nat.le_refl _) (.cells #[] 3))
 go_enter Tryz.func153, Tryz.ntmps153
 go_wp2
 go_loopw [1, 2] (fun v i wr => ∃ k : Nat, k ≤ 4096 ∧ i = .int .i64 k ∧ wr.ownsRow w.heap.size 3 1 v k (ns (List.range k)) ∧ Below w.heap.size w wr) (fun _ i _ => (4096 - intOf i).toNat)
 case atStart => exact ⟨0, by omega, rfl, ho0.out, hb0.out⟩
 case round =>
  clear ho0 hb0;obtain ⟨k, hk, rfl, hown, hf⟩ := hrel
  by_cases hlt : k < 4096
  ·have hlt2 : (k : Int) < 4096 := by omega
   obtain ⟨v', w1, hrun, hown1, hf1, _⟩ := app_own (P := Tryz.prog) 85 3 _ _ Tryz.underlying85 intinf rfl hown hf hf.size (.int .i64 (k : Int)) rfl (by unfold maxLen; omega) (by omega);rw [← ns_snoc, ← List.range_succ] at hown1;have Hrun := hide hrun;have Hown1 := hide hown1;have Hf1 := hide hf1;have Hk := hide (And.intro hk hlt);clear hrun hown hown1 hf1 hf hk hlt
   go_wp2_with (
    at_builtin
    refine wpList_run (by with_reducible rfl) rfl _ _ _ rfl _ _ (by rfl) (by rfl) Hrun.out ?_)
   go_roundw
   case rel => exact ⟨k + 1, (by have := Hk.out; omega), by go_num, Hown1.out, Hf1.out⟩
   case measure => simp [intOf] <;> omega
  ·have hk2 : k = 4096 := by omega
   clear hk hlt;subst hk2;obtain ⟨g, capg, hvg, hcg⟩ := own_form hown (by omega);subst hvg;obtain ⟨A4, cap4, hv4, hat4⟩ := own_at hown
   injection hv4 with h1 h2 h3
   subst h1; subst h3
   have Hat := hide hat4;have Hcg := hide (And.intro hcg (own_cap hown));have hgl := hide ((hown.lt g rfl).1);clear hown hat4 hcg h2
   go_wp2
   go_returns
   exact ⟨_, capg, rfl, Hcg.out, Hat.out, hf, fun b o h => by injection h with h; injection h with h; have := hgl.out; omega⟩
theorem rcheck_any {w : World} {A : Option Addr} {l : List Int} (ha : At w A (ivs l)) (n cap : Nat) (hn : n = l.length) (hm : n ≤ 9223372036854775807) :
  Calls Tryz.prog 152 #[.slice A n cap] w fun x w' => x = .returned (.int .i64 (chkn l : Nat)) ∧ w = w' := by
 have Ha := hide ha;have Hn := hide hn
 by_cases h4 : 4096 < n
 ·have hc : chkn l = 9 := by unfold chkn; rw [if_pos (by omega)]
  have Hc := hide hc
  have h42 : (4096 : Int) < (n : Int) := by omega
  clear ha hn hc h4
  go_enter Tryz.func152, Tryz.ntmps152
  go_wp2
  go_ret
  exact ⟨ret_int (by rw [Hc.out]; rfl), rfl⟩
 ·have hc : chkn l = if ∀ n ∈ l, 0 ≤ n ∧ n < 4096 then 0 else 2 := by unfold chkn; rw [if_neg (by omega)]
  have Hc := hide hc
  have h42 : ¬ (4096 : Int) < (n : Int) := by omega
  clear ha hn hc
  go_enter Tryz.func152, Tryz.ntmps152
  go_wp2
  go_loop [3] (fun i => ∃ k : Nat, k ≤ n ∧ i = .int .i64 k ∧ Hid (∀ v ∈ l.take k, 0 ≤ v ∧ v < 4096)) (fun i => (n - intOf i).toNat)
  case atStart => exact ⟨0, by omega, rfl, hide (by simp)⟩
  case round =>
   obtain ⟨k, hk, rfl, hall⟩ := hrel
   by_cases hlt : k < n
   ·have hkl : k < l.length := by rw [← Hn.out]; exact hlt
    obtain ⟨v, hv⟩ : ∃ v, l[k] = v := ⟨_, rfl⟩;obtain ⟨bA, oA, hA, hbA, hcA⟩ := Ha.out.get k (.int .i64 v) (by rw [← hv]; simp [ivs, iv, hkl]);subst hA
    by_cases hbad : v < 0 ∨ 4096 ≤ v
    ·have hr : chkn l = 2 := by
      rw [Hc.out, if_neg];intro h;have := h v (hv ▸ List.getElem_mem _);omega
     have Hr := hide hr
     have hb2 : v < 0 ∨ (¬ v < 0 ∧ (4096 : Int) ≤ v) := by omega
     clear hr hv hbad
     rcases hb2 with b1 | ⟨b1, b2⟩
     all_goals
      go_wp2
      go_ret
      exact ⟨ret_int (by rw [Hr.out]; rfl), rfl⟩
    ·have b1 : ¬ v < 0 := by omega
     have b2 : ¬ (4096 : Int) ≤ v := by omega
     have hall2 : Hid (∀ u ∈ l.take (k + 1), 0 ≤ u ∧ u < 4096) := hide (by
      intro u hu;rw [List.take_succ_eq_append_getElem hkl, hv] at hu
      rcases List.mem_append.1 hu with h | h
      ·exact hall.out u h
      ·rw [List.mem_singleton] at h; omega)
     clear hv hbad
     go_wp2
     go_round
     case rel => exact ⟨k + 1, by omega, by go_num, hall2⟩
     case measure => simp [intOf] <;> omega
   ·have hkn : k = n := by omega
    have hr : chkn l = 0 := by
     rw [Hc.out, if_pos];intro v hv;refine hall.out v ?_;rw [List.take_of_length_le (by rw [← Hn.out]; omega)];exact hv
    have Hr := hide hr;clear hr
    go_wp2
    go_ret
    exact ⟨ret_int (by rw [Hr.out]; rfl), rfl⟩
theorem own_made1 (w : World) (e : TypeId) (x : Value) : (w.alloc (.cells #[x] e)).ownsRow w.heap.size e 1 (.slice (some ⟨w.heap.size, 0, none⟩) 1 1) 1 [x] :=
 ⟨by simp, .inr ⟨w.heap.size, 1, #[x], rfl, Nat.le_refl _, heap_alloc_new w _, Nat.le_refl _, by unfold maxLen; omega, by simp, by simp⟩⟩
theorem ns_append (a b : List Nat) : ns (a ++ b) = ns a ++ ns b := by simp [ns, ivs]
theorem at_take {w : World} {A : Option Addr} {t : List Nat} (h : At w A (ns t)) (p : Nat) : At w A (ns (t.take p)) := by
 intro i hi;rw [ns_len, List.length_take] at hi;obtain ⟨b, o, hA, hb, hc⟩ := h i (by rw [ns_len]; omega);refine ⟨b, o, hA, hb, hc.trans ?_⟩
 simp [ns, ivs]
theorem at_drop {w : World} {b o : Nat} {t : List Nat} (h : At w (some ⟨b, o, none⟩) (ns t)) (p : Nat) : At w (some ⟨b, o + p, none⟩) (ns (t.drop p)) := by
 intro i hi;rw [ns_len, List.length_drop] at hi;obtain ⟨b', o', hA, hb, hc⟩ := h (p + i) (by rw [ns_len]; omega)
 injection hA with hA
 injection hA with hA hO
 subst hA; subst hO
 refine ⟨b, o + p, rfl, hb, ?_⟩;rw [Nat.add_assoc, hc]
 simp [ns, ivs]
theorem rmoved_any {w : World} {A : Option Addr} {r : List Nat} (ha : At w A (ns r)) (hr : r.length = 4096) (cap : Nat) (hcap : 4096 ≤ cap) (hcm : cap ≤ maxLen) (p : Nat) (hp : p < 4096) :
  Calls Tryz.prog 154 #[.slice A 4096 cap, .int .i64 (p : Int)] w fun x w' => ∃ A' cap', x = .returned (.slice A' 4096 cap') ∧ (4096 ≤ cap' ∧ cap' ≤ maxLen) ∧ At w' A' (ns (movef r p)) ∧ Below w.heap.size w w' ∧ (∀ b o, A' = some ⟨b, o, none⟩ → w.heap.size ≤ b) := by
 obtain ⟨bA, oA, hA, hbA, hcA⟩ := ha.get p _ (ns_get r p (by omega));subst hA;obtain ⟨z, hz⟩ : ∃ z, r.getD p 0 = z := ⟨_, rfl⟩;rw [hz] at hcA;obtain ⟨q, hq⟩ : ∃ q, p + 1 = q := ⟨_, rfl⟩;have h1 := own_made1 w 3 (.int .i64 (z : Int));have h1' : (w.alloc (.cells #[.int .i64 (z : Int)] 3)).drew.ownsRow w.heap.size 3 1 (.slice (some ⟨w.heap.size, 0, none⟩) 1 1) 1 [.int .i64 (z : Int)] := h1;obtain ⟨v1, w1, e1, o1, g1, _⟩ := run_appAt (P := Tryz.prog) 85 3 _ _ Tryz.underlying85 intinf rfl h1' ((at_take ha p).alloc (.cells #[.int .i64 (z : Int)] 3)).drew cap p (by rw [ns_len, List.length_take]; omega) (fun h => by cases h) (ns_one _) (by unfold maxLen; omega) (by omega) (by show _ ≤ (w.alloc _).heap.size; simp);have hb1 : Below w.heap.size w w1 := (((Below.refl w.heap.size w).alloc (Nat.le_refl _) (.cells #[.int .i64 (z : Int)] 3)).drew).grown g1 (by show _ ≤ (w.alloc _).heap.size; simp) (fun k hk => by simp [Value.ownBlock] at hk; omega)
 have haq : At w (if cap = q then some ⟨bA, oA, none⟩ else some ⟨bA, oA + q, none⟩) (ns (r.drop q)) := by
  split
  ·rw [List.drop_of_length_le (by omega)]
   exact At.nil _ _
  ·exact at_drop ha q
 obtain ⟨v2, w2, e2, o2, g2, _⟩ := run_appAt (P := Tryz.prog) 85 3 _ _ Tryz.underlying85 intinf rfl o1 (haq.below hb1) (cap - q) (4096 - q) (by rw [ns_len, List.length_drop]; omega) (fun h => by split at h <;> cases h) (ns_one _) (by unfold maxLen; omega) (by omega) hb1.size;have hb2 : Below w.heap.size w w2 := hb1.grown g2 hb1.size (fun k hk => (o1.lt k hk).1)
 have hmv : [.int .i64 (z : Int)] ++ ns (r.take p) ++ ns (r.drop q) = ns (movef r p) := by
  subst hq;unfold movef;rw [hz, List.eraseIdx_eq_take_drop_succ, show z :: (r.take p ++ r.drop (p + 1)) = [z] ++ (r.take p ++ r.drop (p + 1)) from rfl, ns_append, ns_append, List.append_assoc];rfl
 rw [hmv, show 1 + p + (4096 - q) = 4096 from by omega] at o2;obtain ⟨A1, M1, cap1, rfl⟩ := own_slice o1;obtain ⟨g, cap2, hvg, hcg⟩ := own_form o2 (by omega);subst hvg;obtain ⟨A4, cap4, hv4, hat4⟩ := own_at o2
 injection hv4 with h5 h6 h7
 subst h5; subst h7
 have hcm2 := own_cap o2;have hgl := (o2.lt g rfl).1;have E1 := hide e1;have E2 := hide e2;have Hfin := hide (And.intro hat4 (And.intro hb2 (And.intro hcg hcm2)));have Hb1 := hide hb1
 have hp2 : (p : Int) < 4096 := by omega
 have hcap2 : (p : Int) ≤ (cap : Int) := by omega
 have hcap3 : (4096 : Int) ≤ (cap : Int) := by omega
 have i1 : IntKind.i64.wrap ((p : Int) + 1) = (q : Int) := by rw [IntWalk.i64_in _ (by omega)]; omega
 have hq2 : (q : Int) ≤ 4096 := by omega
 have hq3 : (q : Int) ≤ (cap : Int) := by omega
 have hq4 : (0 : Int) ≤ (q : Int) := by omega
 clear e1 e2 o1 o2 g1 g2 h1 h1' hb1 hb2 hmv ha hat4 hcg hcm2 hz h6 hr hq haq;have n0 := World.new_ne _ _ hcA;have c1 : w1.cell? ⟨bA, oA + p, none⟩ = some (.int .i64 (z : Int)) := (Hb1.out.cell (p := ⟨bA, oA + p, none⟩) hbA).trans hcA;have c2 : w2.cell? ⟨bA, oA + p, none⟩ = some (.int .i64 (z : Int)) := (Hfin.out.2.1.cell (p := ⟨bA, oA + p, none⟩) hbA).trans hcA
 go_enter Tryz.func154, Tryz.ntmps154
 go_wp2
 go_region_held3 (fun W => W.cell? ⟨bA, oA + p, none⟩ = some (.int .i64 (z : Int))) (first | go_keep)
  ((first | (refine step_at (w.alloc (.cells #[.int .i64 (z : Int)] 3)).drew (by with_reducible rfl) ?_; refine step_run (by rfl) _ _ _ (by rfl) _ _ (by rfl) (by rfl) E1.out ?_) | (refine step_at w1 (by with_reducible rfl) ?_; refine step_run (by rfl) _ _ _ (by rfl) _ _ (by rfl) (by rfl) E2.out ?_)))
 go_wp2
 all_goals
  go_returns
  exact ⟨_, cap2, rfl, Hfin.out.2.2, Hfin.out.1, Hfin.out.2.1, fun b o h => by injection h with h; injection h with h; omega⟩
theorem ivs_ns {l : List Int} (h : ∀ n ∈ l, 0 ≤ n ∧ n < 4096) : ivs l = ns (l.map Int.toNat) := by
 unfold ns;rw [map_toNat_nat h]
theorem rfront_any {w : World} {A : Option Addr} {l : List Int} (ha : At w A (ivs l)) (n cap : Nat) (hn : n = l.length) (hm : n ≤ 9223372036854775807) :
  Calls Tryz.prog 116 #[.slice A n cap] w fun x w' => NRes w x w' (front l) := by
 have Hc := hide (rcheck_any ha n cap hn hm)
 by_cases hc : chkn l = 0
 ·obtain ⟨h1, h2⟩ := front_ok hc
  have hf : front l = (frontA r0 (l.map Int.toNat), 0) := by unfold front; rw [if_pos hc]
  rw [hf];rw [hc] at Hc;have hin := mem_r0 h2;rw [ivs_ns h2] at ha
  have hln : n = (l.map Int.toNat).length := by rw [List.length_map]; exact hn
  generalize l.map Int.toNat = L at *
  have ho0 := hide (own_made0 3 w);have hb0 := hide ((Below.refl w.heap.size w).alloc (Nat.le_refl _) (.cells #[] 3));have Hrow := hide (rrow_any (w.alloc (.cells #[] 3)));have Ha := hide ha;have Hn := hide hln;have Hin := hide hin
  have hn4 : n ≤ 4096 := by omega
  clear ha hln hn hin h1 h2 hc hf hm
  go_enter Tryz.func116, Tryz.ntmps116
  go_wp2_with fail
  refine (Hc.out).mono ?_;rintro x w1 ⟨rfl, rfl⟩
  go_wp2_with fail
  refine (Hrow.out).mono ?_;rintro x w1 ⟨A1, cap1, rfl, ⟨hc1, hcm1⟩, hat1, hb1, hfar1⟩;have hbb := hb0.out.trans (hb1.mono (by simp));have ho1 := own_fr ho0.out (Fr.of_below (S := nob) hb1) (fun g hg h => h)
  have hfar : Hid (∀ b o, A1 = some ⟨b, o, none⟩ → (Value.slice (some ⟨w.heap.size, 0, none⟩) 0 0).ownBlock ≠ some b) := hide (fun b o h => by
   have := hfar1 b o h
   simp at this
   simp [Value.ownBlock]
   omega)
  have Hc1 := hide (And.intro hc1 hcm1);have Hat1 := hide hat1;have Hbb := hide hbb;have Ho1 := hide ho1;clear hat1 hb1 hfar1 hbb ho1 hc1 hcm1 ho0 hb0 Hrow Hc
  go_wp2
  go_loopw [5, 6, 7] (fun v5 v6 i wr => ∃ (k cap' : Nat) (Ar : Option Addr), k ≤ n ∧ i = .int .i64 k ∧ v6 = .slice Ar 4096 cap' ∧ Hid (4096 ≤ cap' ∧ cap' ≤ maxLen) ∧ At wr Ar (ns (rowF r0 (L.take k))) ∧ wr.ownsRow w.heap.size 3 1 v5 k (ns (frontA r0 (L.take k))) ∧ Hid (∀ b o, Ar = some ⟨b, o, none⟩ → v5.ownBlock ≠ some b) ∧ Below w.heap.size w wr) (fun _ _ i _ => (n - intOf i).toNat)
  case atStart => exact ⟨0, cap1, A1, by omega, rfl, rfl, Hc1, Hat1.out, Ho1.out, hfar, Hbb.out⟩
  case round =>
   clear Hc1 Hat1 Ho1 hfar Hbb;obtain ⟨k, cap', Ar, hk, rfl, rfl, hcap, hat, hown, hfar, hf⟩ := hrel
   by_cases hlt : k < n
   ·have hkl : k < L.length := by rw [← Hn.out]; exact hlt
    obtain ⟨v, hv⟩ : ∃ v, L.getD k 0 = v := ⟨_, rfl⟩
    have hvL : L[k] = v := by rw [← hv]; simp [List.getD, hkl]
    obtain ⟨bA, oA, hA, hbA, hcA⟩ := (Ha.out.below hf).get k _ (ns_get L k hkl);subst hA;rw [hv] at hcA;obtain ⟨s1, s2⟩ := frontA_snoc (L.take k) v r0;rw [← hvL, ← List.take_succ_eq_append_getElem hkl, hvL] at s1 s2;obtain ⟨q1, q2⟩ := rowF_ok (L.take k) r0 (fun m hm => Hin.out m (List.mem_of_mem_take hm));have hvr := q2 v (Hin.out v (hvL ▸ List.getElem_mem _))
    have hr0 : r0.length = 4096 := by simp [r0]
    rw [hr0] at q1;obtain ⟨R, hR⟩ : ∃ R, rowF r0 (L.take k) = R := ⟨_, rfl⟩;rw [hR] at s1 s2 q1 hvr hat;have hix := ix_lt.2 hvr;obtain ⟨p, hp⟩ : ∃ p, ix R v = p := ⟨_, rfl⟩;have hbef := @ix_before _ _ R v;have hget := ix_get? hvr;rw [hp] at s1 s2 hix hbef hget;rw [q1] at hix;obtain ⟨bR, oR, hAr, hbR, _⟩ := hat.get 0 _ (ns_get R 0 (by omega));subst hAr;have Hat := hide hat;have Hown := hide hown;have Hf := hide hf;have Hbef := hide hbef;have Hget := hide hget;have Hq1 := hide q1;have Hix := hide hix;have S1 := hide s1;have S2 := hide s2
    have hkn0 : (0 : Int) ≤ (k : Int) := by omega
    have hkn1 : (k : Int) < (n : Int) := by omega
    clear hat hown hf hbef hget q1 q2 s1 s2 hix hvr hr0 hR hp hv hvL Ha
    go_wp2
    go_loopw [8] (fun a wx => ∃ j : Nat, j ≤ p ∧ a = .int .i64 j ∧ ∃ q, wx = wr.drewN q) (fun a _ => (p - intOf a).toNat)
    case atStart => exact ⟨0, by omega, rfl, 0, rfl⟩
    case round =>
     obtain ⟨j, hj, rfl, q, rfl⟩ := hrel
     have hjR : j < R.length := by rw [Hq1.out]; have := Hix.out; omega
     obtain ⟨y, hy⟩ : ∃ y, R.getD j 0 = y := ⟨_, rfl⟩
     have hjy : R[j]? = some y := by rw [List.getElem?_eq_getElem hjR, ← hy]; simp [List.getD, hjR]
     obtain ⟨b3, o3, hA3, _, hcR⟩ := Hat.out.get j _ (ns_get R j hjR)
     injection hA3 with hA3
     injection hA3 with hA3 hO3
     subst hA3; subst hO3
     rw [hy] at hcR
     have hj0 : (0 : Int) ≤ (j : Int) := by omega
     have hj1 : (j : Int) < 4096 := by have := Hix.out; omega
     by_cases hlt2 : j < p
     ·have hne : ((y : Int) != (v : Int)) = true := by
       rw [bne_iff_ne];intro e;exact Hbef.out j hlt2 (by rw [hjy]; congr 1; omega)
      clear hy hjy hjR
      go_wp2
      go_quiet (fail)
      go_wp2
      refine ⟨⟨j + 1, by omega, by go_num, q + nq, by first | rfl | rw [World.drewN_drewN]⟩, ?_⟩
      simp [intOf] <;> omega
     ·have hjp : j = p := by omega
      have hne : ((y : Int) != (v : Int)) = false := by
       have := Hget.out;rw [← hjp, hjy] at this
       injection this with this
       rw [this];exact bne_self_eq_false _
      subst hjp;clear hy hjy hjR hlt2 hj
      go_upto_region 11 with fail
      go_quiet (fail)
      try simp only [World.drewN_drewN]
      have hatM := Hat.out.drewN (q + nq);have hownM : (wr.drewN (q + nq)).ownsRow w.heap.size 3 1 u5 k (ns (frontA r0 (L.take k))) := Hown.out;have hfM := bdN Hf.out (q + nq)
      generalize wr.drewN (q + nq) = W at *
      obtain ⟨v', w3, hrun, hown3, hf3, hblk, hsz3, hkeep⟩ := app_own2 (P := Tryz.prog) 85 3 _ _ Tryz.underlying85 intinf rfl hownM hfM hfM.size (.int .i64 (j : Int)) rfl (by unfold maxLen; omega) (by omega);have hat3 := hkeep _ _ hatM hfar.out;have Hm := hide (rmoved_any hat3 Hq1.out cap' hcap.out.1 hcap.out.2 j Hix.out);have Hrun := hide hrun;have Hown3 : Hid (w3.ownsRow w.heap.size 3 1 v' (k + 1) (ns (frontA r0 (L.take (k + 1))))) := hide (by rw [S1.out, ns_snoc]; exact hown3);have Hf3 := hide hf3;clear hcR hcA hatM hownM hfM hrun hown3 hf3 hblk hsz3 hkeep hat3 hne
      go_wp2_with (
       at_builtin
       refine wpList_run (by with_reducible rfl) rfl _ _ _ rfl _ _ (by rfl) (by rfl) Hrun.out ?_)
      refine (Hm.out).mono ?_;rintro x w4 ⟨A4, cap4, rfl, hcp4, hat4, hb4, hfar4⟩;have hf4 := Hf3.out.trans (hb4.mono Hf3.out.size);have ho4 := own_fr Hown3.out (Fr.of_below (S := nob) hb4) (fun g hg h => h)
      have Hfar4 : Hid (∀ b o, A4 = some ⟨b, o, none⟩ → v'.ownBlock ≠ some b) := hide (fun b o h hs => by
       have h5 := hfar4 b o h;have h6 := (Hown3.out.lt b hs).2
       omega)
      have Hf4 := hide hf4;have Ho4 := hide ho4;have Hat4 := hide hat4;have Hcp4 := hide hcp4;clear hf4 ho4 hat4 hb4 hfar4 hcp4 Hm Hrun Hown3 Hf3
      go_wp2
      refine ⟨⟨k + 1, cap4, A4, by omega, by go_num, rfl, Hcp4.out, by rw [S2.out]; exact Hat4.out, Ho4.out, Hfar4, Hf4.out⟩, ?_⟩
      simp [intOf] <;> omega
   ·have hkn : k = n := by omega
    have htk : L.take k = L := List.take_of_length_le (by rw [← Hn.out]; omega);rw [htk] at hown;obtain ⟨A4, cap4, hv4, hat4⟩ := own_at hown;subst hv4;have Hat4 := hide hat4
    have hfl : (frontA r0 L).length = k := by rw [frontA_length, ← Hn.out, hkn]
    have Hfl := hide hfl;clear htk hown hat4 hat Ha hfl
    go_wp2
    go_returns
    exact ⟨_, rfl, ⟨A4, cap4, by simp only [List.length_map]; rw [Hfl.out]; rfl, Hat4.out⟩, hf⟩
 ·have hf : front l = ([], chkn l) := by unfold front; rw [if_neg hc]
  rw [hf];obtain ⟨e, he⟩ : ∃ e, chkn l = e := ⟨_, rfl⟩;rw [he] at Hc hc ⊢
  have hne : ((e : Int) != 0) = true := by rw [bne_iff_ne]; omega
  have hb := hide (Below.refl w.heap.size w);clear he hf hc ha hn hm
  go_enter Tryz.func116, Tryz.ntmps116
  go_wp2_with fail
  refine (Hc.out).mono ?_;rintro x w1 ⟨rfl, rfl⟩
  go_wp2
  go_returns
  exact nres_err e hb.out
end Go.Proofs.YtoeeblldgoccoaaGreat
