/-
  Joined texts: Rh, Ri, Rj.
-/
import Derived.Test.YtoeeblldgoccoaaGreatL22
set_option linter.unusedVariables false
set_option linter.unusedSimpArgs false
set_option maxRecDepth 100000
set_option maxHeartbeats 8000000
namespace Wv
open Go Go.RowKit Wv.Ru
theorem own_putS {w : World} {base g n cap size : Nat} {e : TypeId} {xs : List Value} (h : w.ownsRow base e size (.slice (some ⟨g, 0, none⟩) n cap) n xs) (i : Nat) (u : Value) :
  (w.setCell ⟨g, i, none⟩ u).ownsRow base e size (.slice (some ⟨g, 0, none⟩) n cap) n (xs.set i u) := by
 refine ⟨by rw [List.length_set]; exact h.1, ?_⟩
 rcases h.2 with ⟨h2, _⟩ | ⟨g', cap', cur, hv, hb, hg, hnc, hcm, hcs, htk⟩
 ·cases h2
 ·injection hv with hv1 hv2 hv3
  injection hv1 with hv1
  injection hv1 with hv1
  subst hv1; subst hv3
  refine .inr ⟨g, cap, cur.setIfInBounds i u, rfl, hb, ?_, hnc, hcm, by rw [Array.size_setIfInBounds]; exact hcs, ?_⟩
  ·simp [World.setCell, Array.getElem?_modify, hg]
  ·rw [← htk, Array.toList_setIfInBounds, List.take_set]
theorem own_cellS {w : World} {base g n cap size : Nat} {e : TypeId} {xs : List Value} (h : w.ownsRow base e size (.slice (some ⟨g, 0, none⟩) n cap) n xs) (i : Nat) (u : Value) (hu : xs[i]? = some u) :
  w.cell? ⟨g, i, none⟩ = some u ∧ w.frozen? ⟨g, i, none⟩ = false := by
 have h1 := h.cells (g := g) rfl i u hu
 have : (⟨g, 0, none⟩ : Addr).add i = ⟨g, i, none⟩ := by unfold Addr.add; split <;> simp_all
 rw [this] at h1;refine ⟨h1, ?_⟩
 rcases h.2 with ⟨h2, _⟩ | ⟨g', cap', cur, hv, hb, hg, _⟩
 ·cases h2
 ·injection hv with hv1 hv2 hv3
  injection hv1 with hv1
  injection hv1 with hv1
  subst hv1
  simp [World.frozen?, hg]
theorem own_formS {w : World} {base n size : Nat} {e : TypeId} {v : Value} {xs : List Value} (h : w.ownsRow base e size v n xs) (hn : 0 < n) : ∃ g cap, v = .slice (some ⟨g, 0, none⟩) n cap ∧ n ≤ cap := by
 rcases h.2 with ⟨_, h2⟩ | ⟨g', cap', cur, hv, hb, hg, hc, _⟩
 ·omega
 ·exact ⟨g', cap', hv, hc⟩
theorem news_two (w : World) (t : TypeId) (a b : Value) : ∀ (j : Nat) (u : Value), [a, b][j]? = some u → (w.alloc (.cells #[a, b] t)).cell? ((⟨w.heap.size, 0, none⟩ : Addr).add j) = some u := by
 intro j u h;rw [Go.WideShapes.add_plain, Nat.zero_add];have := (Bk.new w t #[a, b]).cell j;rw [this]
 simpa using h
theorem pv_set1 (l : List (Int × Int)) (x : Int × Int) (c : Int) : (pv (l ++ [x])).set (l.length * 2 + 1) (iv c) = pv (l ++ [(x.1, c)]) := by
 rw [pv_snoc, pv_snoc, List.set_append_right _ _ (by rw [pv_length]; omega), pv_length, show l.length * 2 + 1 - l.length * 2 = 1 from by omega];rfl
theorem str_eq {a b : ByteArray} : (a.toList == b.toList) = decide (a = b) := by
 rw [Bool.eq_iff_iff, beq_iff_eq, decide_eq_true_iff, ByteArray.toList_eq, ByteArray.toList_eq];exact toL_inj
end Wv
namespace Go.Proofs.YtoeeblldgoccoaaGreat
open Go.RowKit Go.Proofs Wv Wv.Vi Wv.Rc Wv.Mo Wv.Ru
theorem repinf : (Tryz.prog.info? 132).map (fun i => (i.zero, i.size, i.bytes)) = some (some (.agg #[.int .i64 0, .int .i64 0]), 2, 16) := by kernel_rfl
theorem runs_take (d l : List ByteArray) (k : Nat) (h : k < l.length) :
  (0 < k → l[k - 1]? = some l[k] → runs d (l.take (k + 1)) = bump (runs d (l.take k))) ∧ ((k = 0 ∨ l[k - 1]? ≠ some l[k]) → runs d (l.take (k + 1)) = runs d (l.take k) ++ [(ix d l[k], 1)]) := by
 have hg : 0 < k → (l.take k).getLast? = l[k - 1]? := by
  intro h0;rw [List.getLast?_eq_getElem?, List.length_take, Nat.min_eq_left (by omega), List.getElem?_take_of_lt (by omega)]
 rw [List.take_succ_eq_append_getElem h, runs_snoc];refine ⟨fun h0 he => ?_, fun hc => ?_⟩
 ·rw [hg h0, if_pos he]
 ·rcases Nat.eq_zero_or_pos k with h0 | h0
  ·subst h0
   rw [if_neg (by simp)]
  ·rw [hg h0, if_neg (hc.resolve_left (by omega))]
theorem runs_open (d l : List ByteArray) (k : Nat) (h : k < l.length) : ∃ xs c, runs d (l.take (k + 1)) = xs ++ [(ix d l[k], c)] ∧ 1 ≤ c := by
 rw [List.take_succ_eq_append_getElem h];exact runs_last d (l.take k) l[k]
def PRes (w : World) (r : List (Int × Int)) (x : Ending) (w' : World) : Prop := ∃ A cap, x = .returned (.slice A r.length cap) ∧ At w' A (pv r) ∧ Below w.heap.size w w'
theorem runs_any {w : World} {A : Option Addr} {l : List ByteArray} (ha : At w A (svs l)) (n cap : Nat) (hn : n = l.length) (hm : n ≤ 4096) :
  Calls Tryz.prog 170 #[.slice A n cap] w fun x w' => PRes w (cast2 (runs (dict l) l)) x w' := by
 have H := hide (index_any ha n cap hn hm);have Ha := hide ha;have Hn := hide hn;obtain ⟨i0, hi, hz0, hz1, hz2⟩ := info_parts repinf;have Hinf := hide (And.intro hi (And.intro hz0 (And.intro hz1 hz2)));obtain ⟨Dl, hDl⟩ : ∃ Dl, dict l = Dl := ⟨_, rfl⟩;have Hmem := hide (fun s (hs : s ∈ l) => show s ∈ Dl from hDl ▸ (mem_dict l s).2 hs);have HDl := hide hDl;clear ha hn hi hz0 hz1 hz2 hDl
 go_enter Tryz.func170, Tryz.ntmps170
 go_wp2_with fail
 refine (H.out).mono ?_;rintro x w1 ⟨v, b, rfl, hb, ho, hm2, hf⟩;rw [HDl.out] at hm2;have ha1 := Ha.out.below hf;clear ho
 go_wp2
 go_loopw [5, 6, 7, 15] (fun v5 _ _ i wr => ∃ k : Nat, k ≤ n ∧ i = .int .i64 k ∧ wr.ownsRow w1.heap.size 132 2 v5 (cast2 (runs Dl (l.take k))).length (pv (cast2 (runs Dl (l.take k)))) ∧ MAt wr b Dl ∧ At wr A (svs l) ∧ Below w1.heap.size w1 wr) (fun _ _ _ i _ => (n - intOf i).toNat)
 case atStart => exact ⟨0, by omega, rfl, own_nil, hm2, ha1, Below.refl _ _⟩
 case round =>
  have Hml := hide hm2.lt;clear hm2 ha1;obtain ⟨k, hk, rfl, hown, hmap, hat, hf1⟩ := hrel
  by_cases hlt : k < n
  ·have hkl : k < l.length := by rw [← Hn.out]; exact hlt
   obtain ⟨s, hs⟩ : ∃ s, l[k] = s := ⟨_, rfl⟩;have hsm := Hmem.out s (hs ▸ List.getElem_mem _);obtain ⟨bA, oA, hA, hbA, hcA⟩ := hat.get k (.string s) (by rw [svs_get l k hkl, hs]);subst hA;obtain ⟨r1, r2⟩ := runs_take Dl l k hkl;rw [hs] at r1 r2;have hrl := runs_length Dl (l.take k);rw [List.length_take] at hrl
   by_cases hsame : 0 < k ∧ l[k - 1]? = some s
   ·obtain ⟨h0, hsm1⟩ := hsame
    have hprev := hat.get (k - 1) (.string s) (by
     rw [svs, List.getElem?_map, hsm1]
     rfl)
    obtain ⟨bA2, oA2, hA2, _, hcP⟩ := hprev
    injection hA2 with hA2
    injection hA2 with hA2 hA3
    subst hA2; subst hA3
    obtain ⟨xs, c, hx, hc1⟩ := runs_open Dl l (k - 1) (by omega);rw [show k - 1 + 1 = k from by omega] at hx;obtain ⟨ii, hii⟩ : ∃ ii, ix Dl (l[k - 1]'(by omega)) = ii := ⟨_, rfl⟩;rw [hii] at hx;have hr1 := r1 h0 hsm1;rw [hx, bump_snoc] at hr1;rw [hx] at hown hrl
    have hc2 : cast2 (xs ++ [(ii, c)]) = cast2 xs ++ [((ii : Int), (c : Int))] := by simp [cast2]
    have hc3 : cast2 (xs ++ [(ii, c + 1)]) = cast2 xs ++ [((ii : Int), (c : Int) + 1)] := by simp [cast2]
    rw [hc2] at hown;have hps := pv_set1 (cast2 xs) ((ii : Int), (c : Int)) ((c : Int) + 1);obtain ⟨X, hX⟩ : ∃ X, cast2 xs = X := ⟨_, rfl⟩
    have hXl : X.length = xs.length := by rw [← hX]; simp [cast2]
    rw [hX] at hown hps hc3;rw [List.length_append, List.length_singleton] at hown;obtain ⟨g, cap2, hv5, hcap2⟩ := own_formS hown (by omega);subst hv5
    have hcell := own_cellS hown (X.length * 2 + 1) (iv (c : Int)) (by
     have := (pv_get (X ++ [((ii : Int), (c : Int))]) X.length (by simp)).2
     simpa using this)
    obtain ⟨q1, q2⟩ := hcell;have hput := own_putS hown (X.length * 2 + 1) (iv ((c : Int) + 1));rw [hps] at hput
    have hcb : c ≤ 4096 := by
     have := (runs_bound Dl (l.take k) (ii, c) (by rw [hx]; simp)).2.2;rw [List.length_take] at this;simp only at this;omega
    have hfx := hf1.setCell (p := ⟨g, X.length * 2 + 1, none⟩) ((hown.lt g rfl).1) (iv ((c : Int) + 1))
    have hxl : xs.length + 1 ≤ k := by
     rw [List.length_append, List.length_singleton] at hrl;omega
    have hlen : X.length ≤ 4096 := by omega
    have i1 : ((X.length : Int) + 1) - 1 = (X.length : Int) := by omega
    have hpm : MAt (wr.setCell ⟨g, X.length * 2 + 1, none⟩ (iv ((c : Int) + 1))) b Dl := (Below.heap_setCell wr ⟨g, X.length * 2 + 1, none⟩ _ b (by
     intro e
     exact own_notmap hown hmap (by show some g = some b; rw [e]))).trans hmap
    have hpa : At (wr.setCell ⟨g, X.length * 2 + 1, none⟩ (iv ((c : Int) + 1))) (some ⟨bA, oA, none⟩) (svs l) := (Ha.out.below hf).below hfx
    have heq : (s.toList == s.toList) = true := by simp
    have hk0 : (0 : Int) < (k : Int) := by omega
    have ik : (k : Int) - 1 = ((k - 1 : Nat) : Int) := by omega
    obtain ⟨kp, hkp⟩ : ∃ kp, k - 1 = kp := ⟨_, rfl⟩;rw [hkp] at ik hcP
    have hkp2 : (kp : Int) < (n : Int) := by omega
    have hcc : w1.heap.size ≤ g := (hown.lt g rfl).1;unfold iv at q1;have Hr1 := hide hr1;have Hc3 := hide hc3;have Hput := hide hput;have Hpm := hide hpm;have Hpa := hide hpa;have Hfx := hide hfx;clear r1 r2 hs hx hr1 hc2 hc3 hps hX hXl hown hput hpm hpa hfx hii hmap hat hrl hkp hsm hsm1 hf1
    go_wp2
    go_roundw
    case rel =>
     refine ⟨k + 1, by omega, by go_num, ?_, Hpm.out, Hpa.out, Hfx.out⟩;rw [Hr1.out, Hc3.out, List.length_append, List.length_singleton];exact Hput.out
    case measure => simp [intOf] <;> omega
   ·have hcase : k = 0 ∨ l[k - 1]? ≠ some s := by
     rcases Nat.eq_zero_or_pos k with h0 | h0
     ·exact .inl h0
     ·exact .inr (fun h => hsame ⟨h0, h⟩)
    have hr2 := r2 hcase;have hl := mat_get (P := Tryz.prog) Tryz.underlying54 Tryz.underlying9 hmap s hsm;obtain ⟨ii, hii⟩ : ∃ ii, ix Dl s = ii := ⟨_, rfl⟩;rw [hii] at hr2 hl;obtain ⟨R, hR⟩ : ∃ R, runs Dl (l.take k) = R := ⟨_, rfl⟩;rw [hR] at hr2 hown hrl
    have hc3 : cast2 (R ++ [(ii, 1)]) = cast2 R ++ [((ii : Int), 1)] := by simp [cast2]
    obtain ⟨X, hX⟩ : ∃ X, cast2 R = X := ⟨_, rfl⟩
    have hXl : X.length = R.length := by rw [← hX]; simp [cast2]
    rw [hX] at hown hc3;obtain ⟨A4, cap4, hv4, hat4⟩ := own_at hown;subst hv4
    have hp1 : X.length + 1 ≤ maxLen := by unfold maxLen; omega
    have hp2 : (X.length + 1) * 16 ≤ 140737488355328 := by omega
    have hbase := hf1.size
    have hdec : (k = 0) ∨ (0 < k ∧ ∃ s2 : ByteArray, (s2.toList == s.toList) = false ∧ wr.cell? ⟨bA, oA + (k - 1), none⟩ = some (.string s2)) := by
     rcases Nat.eq_zero_or_pos k with h0 | h0
     ·exact .inl h0
     ·right
      have hlt3 : k - 1 < l.length := by omega
      obtain ⟨bA2, oA2, hA2, _, hcP⟩ := hat.get (k - 1) (.string (l[k - 1])) (svs_get l (k - 1) hlt3)
      injection hA2 with hA2
      injection hA2 with hA2 hA3
      subst hA2; subst hA3
      refine ⟨h0, l[k - 1], ?_, hcP⟩;rw [str_eq, decide_eq_false_iff_not];intro e;refine hsame ⟨h0, ?_⟩;rw [List.getElem?_eq_getElem hlt3, e]
    have Hr2 := hide hr2;have Hc3 := hide hc3;have Hown := hide hown;have Hmap := hide hmap;have Hf1 := hide hf1;have Hhf := hide hf;clear r1 r2 hs hr2 hc3 hX hown hmap hat hrl hii hR hat4 hsame hcase hf1 hXl hsm hf;obtain ⟨hi, hz0, hz1, hz2⟩ := Hinf.out
    rcases hdec with hk0 | ⟨hk0, s2, he2, hcP⟩
    ·have hk1 : ¬ (0 : Int) < (k : Int) := by omega
     clear hk0
     go_wp2_with (
      at_builtin
      refine wpList_append_own_at _ rfl (.tmp 41) (.tmp 46) _ rfl w1.heap.size 132 i0 (.agg #[.int .i64 0, .int .i64 0]) 2 16 Tryz.underlying129 hi hz0 hz1 hz2 rfl (by omega) (.slice A4 X.length cap4) X.length (pv X) (by rfl) (Hown.out.alloc _) ⟨wr.heap.size, 0, none⟩ 1 1 [iv (ii : Int), iv 1] (by rfl) rfl (news_two _ _ _ _) (by simp [Value.oneCell', iv]) hp1 hp2 (Nat.le_trans hbase (by simp)) ?_;intro v' w2 hown1 hg1 _ hat1;have Hown1 := hide hown1;have Hg1 := hide hg1
      clear hown1 hg1 hat1)
     have hm1 := (Hmap.out.alloc (.cells #[.int .i64 (ii : Int), .int .i64 1] 132)).grown Hg1.out (fun e => own_notmap Hown.out Hmap.out e.symm);have hf3 : Below w1.heap.size w1 w2 := (Hf1.out.alloc hbase (.cells #[.int .i64 (ii : Int), .int .i64 1] 132)).grown Hg1.out (Nat.le_trans hbase (by simp)) (fun j hj => (Hown.out.lt j hj).1);have ha3 := (Ha.out.below Hhf.out).below hf3
     have ho3 : w2.ownsRow w1.heap.size 132 2 v' (X ++ [((ii : Int), (1 : Int))]).length (pv (X ++ [((ii : Int), (1 : Int))])) := by
      have := Hown1.out;rw [List.length_append, pv_snoc];exact this
     clear Hown1 Hg1 hl hcA
     go_wp2
     go_roundw
     case rel => exact ⟨k + 1, by omega, by go_num, by rw [Hr2.out, Hc3.out]; exact ho3, hm1, ha3, hf3⟩
     case measure => simp [intOf] <;> omega
    ·have hk1 : (0 : Int) < (k : Int) := by omega
     have ik : (k : Int) - 1 = ((k - 1 : Nat) : Int) := by omega
     obtain ⟨kp, hkp⟩ : ∃ kp, k - 1 = kp := ⟨_, rfl⟩;rw [hkp] at ik hcP
     have hkp2 : (kp : Int) < (n : Int) := by omega
     clear hkp hk0
     go_wp2_with (
      at_builtin
      refine wpList_append_own_at _ rfl (.tmp 41) (.tmp 46) _ rfl w1.heap.size 132 i0 (.agg #[.int .i64 0, .int .i64 0]) 2 16 Tryz.underlying129 hi hz0 hz1 hz2 rfl (by omega) (.slice A4 X.length cap4) X.length (pv X) (by rfl) (Hown.out.alloc _) ⟨wr.heap.size, 0, none⟩ 1 1 [iv (ii : Int), iv 1] (by rfl) rfl (news_two _ _ _ _) (by simp [Value.oneCell', iv]) hp1 hp2 (Nat.le_trans hbase (by simp)) ?_;intro v' w2 hown1 hg1 _ hat1;have Hown1 := hide hown1;have Hg1 := hide hg1
      clear hown1 hg1 hat1)
     have hm1 := (Hmap.out.alloc (.cells #[.int .i64 (ii : Int), .int .i64 1] 132)).grown Hg1.out (fun e => own_notmap Hown.out Hmap.out e.symm);have hf3 : Below w1.heap.size w1 w2 := (Hf1.out.alloc hbase (.cells #[.int .i64 (ii : Int), .int .i64 1] 132)).grown Hg1.out (Nat.le_trans hbase (by simp)) (fun j hj => (Hown.out.lt j hj).1);have ha3 := (Ha.out.below Hhf.out).below hf3
     have ho3 : w2.ownsRow w1.heap.size 132 2 v' (X ++ [((ii : Int), (1 : Int))]).length (pv (X ++ [((ii : Int), (1 : Int))])) := by
      have := Hown1.out;rw [List.length_append, pv_snoc];exact this
     clear Hown1 Hg1 hl hcA hcP
     go_wp2
     go_roundw
     case rel => exact ⟨k + 1, by omega, by go_num, by rw [Hr2.out, Hc3.out]; exact ho3, hm1, ha3, hf3⟩
     case measure => simp [intOf] <;> omega
  ·have hkn : k = n := by omega
   subst hkn;have htk : l.take k = l := List.take_of_length_le (by rw [← Hn.out]; exact Nat.le_refl _);rw [htk] at hown;obtain ⟨A2, cap2, hv, hat2⟩ := own_at hown;subst hv;have Hat2 := hide hat2;clear htk hat hown hmap hat2
   go_wp2
   go_ret
   rw [HDl.out];exact ⟨A2, cap2, rfl, Hat2.out, hf.trans (hf1.mono hf.size)⟩
def TRes (w : World) (r : List ByteArray × Nat) (x : Ending) (w' : World) : Prop := ∃ v, x = .returned (.tuple #[v, .int .i64 (r.2 : Int)]) ∧ SRes w' v r.1 ∧ Below w.heap.size w w'
theorem tres_err {w w' : World} (e : Nat) (hb : Below w.heap.size w w') : TRes w ([], e) (.returned (.tuple #[.slice none 0 0, .int .i64 (e : Int)])) w' := ⟨_, rfl, SRes.nil _, hb⟩
theorem expand_drop (d : List ByteArray) (l : List (Int × Int)) (k : Nat) (h : k < l.length) (acc : List ByteArray) :
  expand d (l.drop k) acc = if l[k].1 < 0 ∨ (d.length : Int) ≤ l[k].1 ∨ l[k].2 < 1 then ([], 2) else if 4096 - (acc.length : Int) < l[k].2 then ([], 9)
   else expand d (l.drop (k + 1)) (acc ++ List.replicate l[k].2.toNat (d.getD l[k].1.toNat default)) := by
 rw [List.drop_eq_getElem_cons h, expand]
theorem expand_any {w : World} {A B : Option Addr} {d : List ByteArray} {l : List (Int × Int)} (ha : At w A (svs d)) (hp : At w B (pv l)) (n cap m cap2 : Nat) (hn : n = d.length) (hm : m = l.length) (hn4 : n ≤ 9223372036854775807) (hm4 : m ≤ 9223372036854775807) :
  Calls Tryz.prog 184 #[.slice A n cap, .slice B m cap2] w fun x w' => TRes w (expand d l []) x w' := by
 have Ha := hide ha;have Hp := hide hp;have Hn := hide hn;have Hm := hide hm;obtain ⟨i0, hi, hz0, hz1, hz2⟩ := info_parts strinf;have Hinf := hide (And.intro hi (And.intro hz0 (And.intro hz1 hz2)));clear ha hp hn hm hi hz0 hz1 hz2
 go_enter Tryz.func184, Tryz.ntmps184
 go_wp2
 go_loopw [6, 8, 11] (fun v6 _ i wr => ∃ (k : Nat) (acc : List ByteArray), k ≤ m ∧ i = .int .i64 k ∧ acc.length ≤ 4096 ∧ wr.ownsRow w.heap.size 9 1 v6 acc.length (svs acc) ∧ Hid (expand d (l.drop k) acc = expand d l []) ∧ Below w.heap.size w wr) (fun _ _ i _ => (m - intOf i).toNat)
 case atStart => exact ⟨0, [], by omega, rfl, by simp, own_nil, hide rfl, Below.refl _ _⟩
 case round =>
  obtain ⟨k, acc, hk, rfl, hal, hown, hex, hf⟩ := hrel;obtain ⟨A4, cap4, hv4, hat4⟩ := own_at hown;subst hv4
  by_cases hlt : k < m
  ·have hkl : k < l.length := by rw [← Hm.out]; exact hlt
   have hstep := expand_drop d l k hkl acc;have hpk := pv_get l k hkl;obtain ⟨⟨i, c⟩, hic⟩ : ∃ x, l[k] = x := ⟨_, rfl⟩;rw [hic] at hstep hpk;simp only at hstep hpk;have hpw := Hp.out.below hf;obtain ⟨bB, oB, hB, hbB, hcB0⟩ := hpw.get (k * 2) (iv i) hpk.1;obtain ⟨bB', oB', hB', _, hcB1⟩ := hpw.get (k * 2 + 1) (iv c) hpk.2;rw [hB] at hB'
   injection hB' with hB'
   injection hB' with hB1 hB2
   subst hB1; subst hB2; subst hB
   unfold iv at hcB0 hcB1;have Hown := hide hown;have Hf := hide hf;have hcB1' : wr.cell? ⟨bB, oB + k * 2 + 1, none⟩ = some (.int .i64 c) := hcB1;have hbel := hide (hf.alloc hf.size (.cells #[.int .i64 i, .int .i64 c] 132))
   by_cases hbad : i < 0 ∨ (d.length : Int) ≤ i ∨ c < 1
   ·rw [if_pos hbad] at hstep
    have Hr : Hid (expand d l [] = ([], 2)) := hide (by rw [← hex.out, hstep])
    have hb2 : i < 0 ∨ (n : Int) ≤ i ∨ c < 1 := by rw [Hn.out]; exact hbad
    clear hbad hstep hic hpk hpw hat4 hown hf hcB1
    by_cases b1 : i < 0
    ·clear hb2
     go_wp2
     go_returns
     rw [Hr.out];exact tres_err 2 hbel.out
    ·by_cases b2 : (n : Int) ≤ i
     ·clear hb2
      go_wp2
      go_returns
      rw [Hr.out];exact tres_err 2 hbel.out
     ·have b3 : c < 1 := by omega
      clear hb2
      go_wp2
      go_returns
      rw [Hr.out];exact tres_err 2 hbel.out
   ·rw [if_neg hbad] at hstep
    have b1 : ¬ i < 0 := by omega
    have b2 : ¬ (n : Int) ≤ i := by rw [Hn.out]; omega
    have b3 : ¬ c < 1 := by omega
    by_cases hbig : 4096 - (acc.length : Int) < c
    ·rw [if_pos hbig] at hstep
     have Hr : Hid (expand d l [] = ([], 9)) := hide (by rw [← hex.out, hstep]);clear hbad hstep hic hpk hpw hat4 hown hf hcB1
     go_wp2
     go_returns
     rw [Hr.out];exact tres_err 9 hbel.out
    ·rw [if_neg hbig] at hstep
     obtain ⟨i, rfl⟩ := Int.eq_ofNat_of_zero_le (show 0 ≤ i by omega);obtain ⟨c, rfl⟩ := Int.eq_ofNat_of_zero_le (show 0 ≤ c by omega);rw [Int.toNat_natCast, Int.toNat_natCast] at hstep
     have hid : i < d.length := by omega
     have hin : (i : Int) < (n : Int) := by omega
     obtain ⟨s, hs⟩ : ∃ s, d.getD i default = s := ⟨_, rfl⟩
     have hds : (svs d)[i]? = some (.string s) := by
      rw [svs_get d i hid, ← hs]
      simp [List.getD, hid]
     rw [hs] at hstep;have Hst : Hid (expand d (l.drop (k + 1)) (acc ++ List.replicate c s) = expand d l []) := hide (by rw [← hstep]; exact hex.out)
     have hc4 : acc.length + c ≤ 4096 := by omega
     clear hbad hstep hic hpk hpw hat4 hown hf hcB1 hex hs;have hxb := Bk.new wr 132 #[.int .i64 (i : Int), .int .i64 (c : Int)];have ho2 := Hown.out.alloc (.cells #[.int .i64 (i : Int), .int .i64 (c : Int)] 132)
     go_wp2
     go_loopw [6, 38] (fun v6 j wr2 => ∃ q : Nat, q ≤ c ∧ j = .int .i64 q ∧ wr2.ownsRow w.heap.size 9 1 v6 (acc ++ List.replicate q s).length (svs (acc ++ List.replicate q s)) ∧ Bk wr2 wr.heap.size 132 #[.int .i64 (i : Int), .int .i64 (c : Int)] ∧ Below w.heap.size w wr2) (fun _ j _ => (c - intOf j).toNat)
     case atStart => exact ⟨0, by omega, rfl, by simpa using ho2, hxb, hbel.out⟩
     case round =>
      have Hsz := hide Hf.out.size;clear hxb ho2;obtain ⟨q, hq, rfl, hown, hxb, hf⟩ := hrel
      by_cases hlt2 : q < c
      ·have hat := Ha.out.below hf
       obtain ⟨bA, oA, hA, hbA, hcA⟩ := hat.get i (.string s) hds;subst hA;have x0 := hxb.cell 0
       simp at x0
       obtain ⟨L, hL⟩ : ∃ L, acc ++ List.replicate q s = L := ⟨_, rfl⟩
       have hLl : L.length = acc.length + q := by rw [← hL]; simp
       have hL2 : acc ++ List.replicate (q + 1) s = L ++ [s] := by rw [List.replicate_succ', ← List.append_assoc, hL]
       rw [hL] at hown;obtain ⟨A5, cap5, hv5, _⟩ := own_at hown;subst hv5
       have hp1 : L.length + 1 ≤ maxLen := by unfold maxLen; omega
       have hp2 : (L.length + 1) * 16 ≤ 140737488355328 := by omega
       have hbase := hf.size;have HL2 := hide hL2;have Hown2 := hide hown;have Hxb := hide hxb;have Hf2 := hide hf;have Hb2 := hide hcB0;clear hL hL2 hown hxb hat hf hLl hcB0 hcB1';obtain ⟨hi, hz0, hz1, hz2⟩ := Hinf.out
       go_wp2_with (
        at_builtin
        refine wpList_append_own_at _ rfl (.tmp 40) (.tmp 46) _ rfl w.heap.size 9 i0 (.string ByteArray.empty) 1 16 Tryz.underlying22 hi hz0 hz1 hz2 rfl (by omega) (.slice A5 L.length cap5) L.length (svs L) (by rfl) (Hown2.out.alloc _) ⟨_, 0, none⟩ 1 1 [.string s] (by rfl) rfl (news_one _ _ _) (by simp [Value.oneCell']) hp1 hp2 (Nat.le_trans hbase (by simp)) ?_;intro v' w3 hown1 hg1 _ hat1;have Hown1 := hide hown1;have Hg1 := hide hg1
        clear hown1 hg1 hat1)
       have hxb3 := (Hxb.out.alloc (.cells #[.string s] 9)).grown Hg1.out (fun e => own_apart Hown2.out Hxb.out (by decide) e.symm);have hf3 : Below w.heap.size w w3 := (Hf2.out.alloc hbase (.cells #[.string s] 9)).grown Hg1.out (Nat.le_trans hbase (by simp)) (fun j hj => (Hown2.out.lt j hj).1)
       have ho3 : w3.ownsRow w.heap.size 9 1 v' (L ++ [s]).length (svs (L ++ [s])) := by
        have := Hown1.out;rw [List.length_append];unfold svs at this ⊢;rw [List.map_append];exact this
       clear Hown1 Hg1 hcA x0
       go_wp2
       go_roundw
       case rel => exact ⟨q + 1, by omega, by go_num, by rw [HL2.out]; exact ho3, hxb3, hf3⟩
       case measure => simp [intOf] <;> omega
      ·have hqc : q = c := by omega
       subst hqc;have Hown2 := hide hown;have Hf2 := hide hf;clear hown hxb hf hcB0 hcB1'
       go_wp2
       go_roundw
       case rel => exact ⟨k + 1, acc ++ List.replicate q s, by omega, by go_num, by rw [List.length_append, List.length_replicate]; omega, Hown2.out, Hst, Hf2.out⟩
       case measure => simp [intOf] <;> omega
  ·have hkm : k = m := by omega
   subst hkm;have hdr : l.drop k = [] := List.drop_of_length_le (by rw [← Hm.out]; exact Nat.le_refl _);have hfin := hex.out;rw [hdr, expand] at hfin;have Hfin := hide hfin;have hres := hide (own_sres hown);clear hdr hfin hown hat4
   go_wp2
   go_returns
   rw [← Hfin.out];exact ⟨.slice A4 acc.length cap4, rfl, hres.out, hf⟩
def ERes (w : World) (r : List UInt8 × Nat) (x : Ending) (w' : World) : Prop := x = .returned (.tuple #[.string (bs r.1), .int .i64 (r.2 : Int)]) ∧ Below w.heap.size w w'
theorem eres_err {w w' : World} (e : Nat) (hb : Below w.heap.size w w') : ERes w ([], e) (.returned (.tuple #[.string (bs []), .int .i64 (e : Int)])) w' := ⟨rfl, hb⟩
theorem encas_arg {w : World} (c : Int) (hc : c ≠ 0) (hc1 : c ≠ 1) (A : Option Addr) (n cap : Nat) :
  Calls Tryz.prog 145 #[.int .i64 c, .slice A n cap] w fun x w' => ERes w ([], 1) x w' := by
 have h0 : (c != 0) = true := by rw [bne_iff_ne]; exact hc
 have h1 : (c != 1) = true := by rw [bne_iff_ne]; exact hc1
 have hb := hide (Below.refl w.heap.size w);clear hc hc1
 go_enter Tryz.func145, Tryz.ntmps145
 go_wp2
 go_returns
 exact eres_err 1 hb.out
theorem encas_large {w : World} {A : Option Addr} {l : List ByteArray} (c : Nat) (hc : c ≤ 1) (ha : At w A (svs l)) (hsz : ∀ s ∈ l, s.size ≤ 9223372036854775807) (n cap : Nat) (hn : n = l.length) (hm : n ≤ 9223372036854775807) (hbig : 4096 < l.length ∨ ∃ s ∈ l, 128 < s.size) :
  Calls Tryz.prog 145 #[.int .i64 (c : Int), .slice A n cap] w fun x w' => ERes w ([], 9) x w' := by
 have hb := hide (Below.refl w.heap.size w)
 have hcc : c = 0 ∨ c = 1 := by omega
 by_cases h4 : 4096 < n
 ·have h42 : (4096 : Int) < (n : Int) := by omega
  clear h4 hbig ha hsz hn hc
  rcases hcc with rfl | rfl
  all_goals
   go_enter Tryz.func145, Tryz.ntmps145
   go_wp2
   go_returns
   exact eres_err 9 hb.out
 ·have h42 : ¬ (4096 : Int) < (n : Int) := by omega
  have hL := long_any ha hsz n cap hn (by omega);have hl : longB l = true := decide_eq_true (hbig.resolve_left (by omega));rw [hl] at hL;have HL := hide hL;clear h4 hbig ha hsz hn hc hL hl
  rcases hcc with rfl | rfl
  all_goals
   go_enter Tryz.func145, Tryz.ntmps145
   go_wp2_with fail
   refine (HL.out).mono ?_;rintro x w1 ⟨rfl, rfl⟩
   go_wp2
   go_returns
   exact eres_err 9 hb.out
theorem text_len (s : ByteArray) (h : s.size ≤ 128) : (text s).length ≤ 137 := by
 unfold text;have := kof9 s.size;rw [List.length_append, toL_length];omega
theorem flat_len (D : List ByteArray) (h : ∀ s ∈ D, s.size ≤ 128) : (D.flatMap text).length ≤ 137 * D.length := by
 induction D with
 | nil => simp
 | cons s D ih =>
  have h1 := text_len s (h s List.mem_cons_self);have h2 := ih (fun u hu => h u (List.mem_cons_of_mem _ hu));rw [List.flatMap_cons, List.length_append, List.length_cons];omega
theorem flat_take (D : List ByteArray) (k : Nat) (h : k < D.length) : (D.take (k + 1)).flatMap text = (D.take k).flatMap text ++ text D[k] := by
 rw [List.take_succ_eq_append_getElem h, List.flatMap_append]
 simp
theorem encn_len (l : List Nat) (h : ∀ v ∈ l, v < 4611686018427387904) : (encn l).length ≤ 13 + 134 * l.length := by
 unfold encn;rw [List.length_append];have h1 := kof9 l.length
 split
 ·simp; omega
 ·have h2 := nencs_len l (t0, e0) h
  rw [show (e0.out.length) = 0 from rfl] at h2;unfold efin;rw [List.length_append, be_length];omega
end Go.Proofs.YtoeeblldgoccoaaGreat
