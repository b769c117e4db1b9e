/-
  Joined texts: Qd, Qe, Qf, Qg, Qh, Qi.
-/
import Derived.Test.YtoeeblldgoccoaaGreatL10
import Derived.Test.YtoeeblldgoccoaaGreatLShelf
import Derived.Lib.Repeat
import Derived.StillTailTactics
set_option linter.unusedVariables false
set_option linter.unusedSimpArgs false
set_option maxRecDepth 100000
set_option maxHeartbeats 8000000
namespace Go.Proofs.YtoeeblldgoccoaaGreat
open Go.RowKit Go.Proofs Wv Wv.Vi Wv.Bc
theorem bs_emp (v : List UInt8) : (bs v).toList.isEmpty = decide (v = []) := by
 have h : (bs v).toList.isEmpty = ((bs v).toList == (bs []).toList) := by
  have : (bs ([] : List UInt8)).toList = [] := by decide +kernel
  rw [this]
  cases (bs v).toList <;> rfl
 rw [h, Bool.eq_iff_iff, beq_iff_eq, decide_eq_true_iff, ByteArray.toList_eq, ByteArray.toList_eq];exact Iff.rfl
theorem isV_cn {v : List UInt8} (h0 : v ≠ []) (h1 : v.length ≤ 128) : isV v = decide ((cn 0 v : Int) + (cn 1 v : Int) + (cn 2 v : Int) + (cn 3 v : Int) = (v.length : Int)) := by
 rw [Bool.eq_iff_iff, isV_iff, decide_eq_true_iff];obtain ⟨_, s2, _, _⟩ := cn_sum v
 constructor
 ·rintro ⟨h, _, _⟩
  have := s2.2 h;omega
 ·intro h
  exact ⟨s2.1 (by omega), h0, h1⟩
theorem knV_cn {v : List UInt8} (h : isV v = true) : knV v = decide ((cn 2 v : Int) + (cn 3 v : Int) = 0) := by
 obtain ⟨a, b, c⟩ := isV_iff.1 h;rw [Bool.eq_iff_iff, knV_iff, decide_eq_true_iff];obtain ⟨_, _, _, s4⟩ := cn_sum v
 constructor
 ·rintro ⟨h, _, _⟩
  have := (s4 a).2 h;omega
 ·intro h
  exact ⟨(s4 a).1 (by omega), b, c⟩
theorem is_any (v : List UInt8) (hv : v.length ≤ 1099511627776) (w : World) :
    Calls Tryz.prog 58 #[.string (bs v)] w fun x w' => x = .returned (.bool (isV v)) ∧ Below w.heap.size w w' := by
  have hem := bs_emp v;have hsz : (bs v).size = v.length := bs_size v
  by_cases h0 : v = []
  · have hi : isV v = false := by cases h : isV v with
      | false => rfl
      | true => exact absurd h0 (isV_iff.1 h).2.1
    rw [decide_eq_true h0] at hem;rw [hi];clear hsz hi h0
    generalize bs v = S at *
    go_enter Tryz.func58, Tryz.ntmps58
    go_wp2
    go_returns
    exact ⟨rfl, Below.refl _ _⟩
  · rw [decide_eq_false h0] at hem
    by_cases h1 : 128 < v.length
    · have hi : isV v = false := by cases h : isV v with
        | false => rfl
        | true => have := (isV_iff.1 h).2.2; omega
      rw [hi]
      have h2 : (128 : Int) < ((bs v).size : Int) := by omega
      clear hsz hi h0 h1
      generalize bs v = S at *
      go_enter Tryz.func58, Tryz.ntmps58
      go_wp2
      go_returns
      exact ⟨rfl, Below.refl _ _⟩
    · have hi := isV_cn h0 (by omega)
      have Hc := hide (count_any v hv w);have hcn : cnA v = #[.int .i64 (cn 0 v : Int), .int .i64 (cn 1 v : Int), .int .i64 (cn 2 v : Int), .int .i64 (cn 3 v : Int)] := rfl;rw [hcn] at Hc;have c0 := cn_le 0 v;have c1 := cn_le 1 v;have c2 := cn_le 2 v;have c3 := cn_le 3 v;have hSl : Hid ((bs v).size = v.length) := hide hsz
      have h2 : ¬ (128 : Int) < ((bs v).size : Int) := by omega
      have Hi := hide hi
      have h128 : v.length ≤ 128 := by omega
      obtain ⟨n, hn⟩ : ∃ n, v.length = n := ⟨_, rfl⟩;rw [hn] at Hi hSl c0 c1 c2 c3 h128
      generalize cn 0 v = n0 at *
      generalize cn 1 v = n1 at *
      generalize cn 2 v = n2 at *
      generalize cn 3 v = n3 at *
      generalize bs v = S at *
      clear hcn hsz hi h0 h1 hn hv
      go_enter Tryz.func58, Tryz.ntmps58
      go_wp2_with fail
      refine (Hc.out).mono ?_;rintro x w1 ⟨rfl, hb1⟩;have Hb1 := hide (hb1.alloc hb1.size (.cells #[.int .i64 (n0 : Int), .int .i64 (n1 : Int), .int .i64 (n2 : Int), .int .i64 (n3 : Int)] 76));clear hb1 Hc
      go_wp2
      go_returns
      rw [hSl.out, Hi.out];exact ⟨by first | rfl | (congr 2; rw [Bool.eq_iff_iff]; simp), Hb1.out⟩
theorem kn_any (v : List UInt8) (hv : v.length ≤ 1099511627776) (w : World) :
  Calls Tryz.prog 54 #[.string (bs v)] w fun x w' => x = .returned (.bool (knV v)) ∧ Below w.heap.size w w' := by
 have Hc := hide (count_any v hv w);have hcn : cnA v = #[.int .i64 (cn 0 v : Int), .int .i64 (cn 1 v : Int), .int .i64 (cn 2 v : Int), .int .i64 (cn 3 v : Int)] := rfl;rw [hcn] at Hc;have Hi := hide (fun W => is_any v hv W);have c2 := cn_le 2 v;have c3 := cn_le 3 v
 cases h : isV v with
 | false =>
  have hk : knV v = false := by cases hk : knV v with
   | false => rfl
   | true => rw [knV_isV hk] at h; cases h
  rw [h] at Hi;rw [hk]
  generalize cn 0 v = n0 at *
  generalize cn 1 v = n1 at *
  generalize cn 2 v = n2 at *
  generalize cn 3 v = n3 at *
  generalize bs v = S at *
  clear hcn h hk
  go_enter Tryz.func54, Tryz.ntmps54
  go_wp2_with fail
  refine (Hc.out).mono ?_;rintro x w1 ⟨rfl, hb1⟩;have Hb1 := hide (hb1.alloc hb1.size (.cells #[.int .i64 (n0 : Int), .int .i64 (n1 : Int), .int .i64 (n2 : Int), .int .i64 (n3 : Int)] 76));clear hb1 Hc
  go_wp2_with fail
  refine (Hi.out _).mono ?_;rintro x w2 ⟨rfl, hb2⟩;have Hb2 := hide (Hb1.out.trans (hb2.mono Hb1.out.size));clear hb2
  go_wp2
  go_returns
  exact ⟨rfl, Hb2.out⟩
 | true =>
  have hk := knV_cn h;have h128 := (isV_iff.1 h).2.2;rw [h] at Hi;rw [hk]
  have c2' : cn 2 v ≤ 128 := by omega
  have c3' : cn 3 v ≤ 128 := by omega
  generalize cn 0 v = n0 at *
  generalize cn 1 v = n1 at *
  generalize cn 2 v = n2 at *
  generalize cn 3 v = n3 at *
  generalize bs v = S at *
  clear hcn h hk c2 c3 h128
  go_enter Tryz.func54, Tryz.ntmps54
  go_wp2_with fail
  refine (Hc.out).mono ?_;rintro x w1 ⟨rfl, hb1⟩;have Hk1 := hide (Bk.new w1 76 #[.int .i64 (n0 : Int), .int .i64 (n1 : Int), .int .i64 (n2 : Int), .int .i64 (n3 : Int)]);have Hb1 := hide (hb1.alloc hb1.size (.cells #[.int .i64 (n0 : Int), .int .i64 (n1 : Int), .int .i64 (n2 : Int), .int .i64 (n3 : Int)] 76));clear hb1 Hc
  go_wp2_with fail
  refine (Hi.out _).mono ?_;rintro x w2 ⟨rfl, hb2⟩;have hk2 := Bk.below Hk1.out hb2 (by simp);have k2 := hk2.cell 2;have k3 := hk2.cell 3;simp only [List.getElem?_toArray, List.getElem?_cons_zero, List.getElem?_cons_succ] at k2 k3;have Hb2 := hide (Hb1.out.trans (hb2.mono Hb1.out.size));clear hb2 hk2 Hk1 Hb1
  go_wp2
  go_returns
  exact ⟨by first | rfl | (congr 2; rw [Bool.eq_iff_iff]; simp), Hb2.out⟩
theorem bvalid1_any (wd : Int) (v : List UInt8) (hv : v.length ≤ 1099511627776) (w : World) :
  Calls Tryz.prog 31 #[.int .i64 wd, .string (bs v)] w fun x w' => x = .returned (.bool (vld wd v)) ∧ Below w.heap.size w w' := by
 have Hi := hide (is_any v hv w);have hsz : (bs v).size = v.length := bs_size v;have Hsz := hide hsz;unfold vld
 generalize isV v = b at *
 generalize bs v = S at *
 clear hsz
 cases b with
 | false =>
  go_enter Tryz.func31, Tryz.ntmps31
  go_wp2_with fail
  refine (Hi.out).mono ?_;rintro x w1 ⟨rfl, hb1⟩
  go_wp2
  go_returns
  exact ⟨rfl, hb1⟩
 | true =>
  go_enter Tryz.func31, Tryz.ntmps31
  go_wp2_with fail
  refine (Hi.out).mono ?_;rintro x w1 ⟨rfl, hb1⟩
  go_wp2
  go_returns
  rw [Hsz.out];exact ⟨by first | rfl | (congr 2; rw [Bool.eq_iff_iff]; simp), hb1⟩
end Go.Proofs.YtoeeblldgoccoaaGreat
namespace Wv
open Go Go.RowKit
def ByR (w : World) (g : Nat) (e : TypeId) (R : List UInt8) : Prop := ∃ cs fz sp, w.heap[g]? = some (.cells cs e fz) ∧ cs.toList = R.map bv ++ sp ∧ R.length ≤ fz.1
theorem ByR.lt {w : World} {g : Nat} {e : TypeId} {R : List UInt8} (h : ByR w g e R) : g < w.heap.size := by
 obtain ⟨cs, fz, sp, h1, _, _⟩ := h;exact (Array.getElem?_eq_some_iff.1 h1).1
theorem ByR.cell {w : World} {g : Nat} {e : TypeId} {R : List UInt8} (h : ByR w g e R) (i : Nat) (hi : i < R.length) : w.cell? ⟨g, i, none⟩ = some (bv R[i]) ∧ w.frozen? ⟨g, i, none⟩ = false := by
 obtain ⟨cs, fz, sp, h1, h2, h3⟩ := h
 constructor
 ·simp only [World.cell?, h1]
  rw [← Array.getElem?_toList, h2, List.getElem?_append_left (by rw [List.length_map]; exact hi), List.getElem?_map, List.getElem?_eq_getElem hi];rfl
 ·simp only [World.frozen?, h1]
  simp
  omega
theorem ByR.put {w : World} {g : Nat} {e : TypeId} {R : List UInt8} (h : ByR w g e R) (i : Nat) (hi : i < R.length) (x : UInt8) : ByR (w.setCell ⟨g, i, none⟩ (bv x)) g e (R.set i x) := by
 obtain ⟨cs, fz, sp, h1, h2, h3⟩ := h;refine ⟨cs.setIfInBounds i (bv x), fz, sp, ?_, ?_, by rw [List.length_set]; exact h3⟩
 ·simp [World.setCell, Array.getElem?_modify, h1]
 ·rw [Array.toList_setIfInBounds, h2, List.set_append_left _ _ (by rw [List.length_map]; exact hi), List.map_set]
theorem ByR.below {w w' : World} {B g : Nat} {e : TypeId} {R : List UInt8} (h : ByR w g e R) (hb : Below B w w') (hg : g < B) : ByR w' g e R := by
 obtain ⟨cs, fz, sp, h1, h2, h3⟩ := h;exact ⟨cs, fz, sp, (hb.block g hg).trans h1, h2, h3⟩
theorem ByR.new (w : World) (e : TypeId) (s : ByteArray) (cap : Nat) (z : Nat × Nat) (hz : s.size ≤ z.1) : ByR (w.alloc (.cells (bytesRow s cap) e z)) w.heap.size e s.data.toList := by
 refine ⟨bytesRow s cap, z, (Array.replicate (cap - s.size) (.int .u8 0)).toList, ?_, ?_, by rw [Array.length_toList]; exact hz⟩
 ·show (w.heap.push _)[w.heap.size]? = _
  simp
 ·unfold bytesRow
  rw [Array.toList_append, Array.toList_map];rfl
end Wv
namespace Go.Proofs.YtoeeblldgoccoaaGreat
open Go.RowKit Go.Proofs Wv Wv.Vi Wv.Bc
theorem inv_map (v : List UInt8) (h : isV v = true) : inv v = v.map invC := by
 unfold inv
 apply List.map_congr_left
 intro c hc;have := (isV_iff.1 h).1 c hc;unfold invC cdK;rw [if_pos this]
theorem each_any (v : List UInt8) (hv : v.length ≤ 1099511627776) (w : World) :
  Calls Tryz.prog 94 #[.string (bs v), .func (.func 95) #[] #[]] w fun x w' => x = .returned (.string (bs (v.map invC))) ∧ Below w.heap.size w w' := by
 have hcv := run_bytes_of_string (P := Tryz.prog) w 9 42 5 (bs v) Tryz.underlying9 Tryz.underlying42 Tryz.underlying5;have hsz : (bs v).size = v.length := bs_size v;have hby := ByR.new w.drew 5 (bs v) (grownCap w (bs v).size 0 5) ((bytesRow (bs v) (grownCap w (bs v).size 0 5)).size, (bytesRow (bs v) (grownCap w (bs v).size 0 5)).size + 1) (by unfold bytesRow; simp);have hb0 := hide (((Below.refl w.heap.size w).drew).alloc (Nat.le_refl _) (.cells (bytesRow (bs v) (grownCap w (bs v).size 0 5)) 5 ((bytesRow (bs v) (grownCap w (bs v).size 0 5)).size, (bytesRow (bs v) (grownCap w (bs v).size 0 5)).size + 1)));have hdl : (bs v).data.toList = v := rfl;rw [hdl] at hby;have Hby := hide (show ByR _ w.heap.size 5 v from hby);have Hin := hide (fun c W => inverse_any c W);obtain ⟨n, hn⟩ : ∃ n, v.length = n := ⟨_, rfl⟩;obtain ⟨cap, hcap⟩ : ∃ c, grownCap w (bs v).size 0 5 = c := ⟨_, rfl⟩;rw [hcap] at hcv hb0 Hby
 have hnc : n ≤ cap := by
  have := grownCap_ge w (bs v).size 0 5;rw [hcap] at this;omega
 generalize w.drew.alloc (.cells (bytesRow (bs v) cap) 5 ((bytesRow (bs v) cap).size, (bytesRow (bs v) cap).size + 1)) = W0 at *
 rw [hsz, hn] at hcv;rw [hn] at hv;have Hn := hide hn;obtain ⟨S, hS⟩ : ∃ S, bs v = S := ⟨_, rfl⟩;rw [hS] at hcv ⊢;clear hsz hby hdl hcap hn hS
 go_enter Tryz.func94, Tryz.ntmps94
 go_wp2
 go_loopw [12] (fun s12 wr => ∃ i : Nat, i ≤ n ∧ s12 = .int .i64 (i : Int) ∧ Hid (ByR wr w.heap.size 5 ((v.take i).map invC ++ v.drop i)) ∧ Hid (Below w.heap.size w wr)) (fun s12 _ => (n - intOf s12).toNat)
 case atStart => exact ⟨0, Nat.zero_le _, rfl, Hby, hb0⟩
 case round =>
  clear Hby hb0 hcv;obtain ⟨i, hi, rfl, hby, hb⟩ := hrel
  by_cases hlt : i < n
  ·have hil : i < v.length := by rw [Hn.out]; exact hlt
   have htk : v.take (i + 1) = v.take i ++ [v[i]] := List.take_succ_eq_append_getElem hil;have hdr : v.drop i = v[i] :: v.drop (i + 1) := List.drop_eq_getElem_cons hil
   have hml : ((v.take i).map invC).length = i := by rw [List.length_map, List.length_take]; omega
   obtain ⟨c, hc⟩ : ∃ c, v[i] = c := ⟨_, rfl⟩;rw [hc] at htk hdr
   have hil2 : i < ((v.take i).map invC ++ v.drop i).length := by rw [List.length_append, hml, List.length_drop]; omega
   obtain ⟨h1, h2⟩ := hby.out.cell i hil2
   have hgi : ((v.take i).map invC ++ v.drop i)[i] = c := by
    rw [List.getElem_append_right (by omega)];simp only [hml, Nat.sub_self];rw [List.getElem_drop]
    simpa using hc
   rw [hgi] at h1;have h1' : wr.cell? ⟨w.heap.size, i, none⟩ = some (.int .u8 (c.toNat : Int)) := h1;have hput := hby.out.put i hil2 (invC c)
   have hset : ((v.take i).map invC ++ v.drop i).set i (invC c) = (v.take (i + 1)).map invC ++ v.drop (i + 1) := by
    rw [List.set_append_right _ _ (by omega), hml, Nat.sub_self, hdr, List.set_cons_zero, htk, List.map_append]
    simp
   rw [hset] at hput;have Hput := hide hput;have Hi := hide (Hin.out c wr);have Hbs := hide (hb.out.setCell (p := ⟨w.heap.size, i, none⟩) (Nat.le_refl _) (bv (invC c)))
   have hlti : (i : Int) < (n : Int) := by omega
   have hlti0 : (0 : Int) ≤ (i : Int) := by omega
   clear hil htk hdr hml hc hil2 h1 hgi hput hset hby hb;unfold bv at Hput Hbs
   go_wp2_with fail
   refine (Hi.out).mono ?_;rintro x w1 ⟨rfl, rfl⟩
   go_wp2
   refine ⟨⟨i + 1, hlt, by go_num, Hput, Hbs⟩, ?_⟩
   simp [intOf] <;> omega
  ·have hin : i = n := by omega
   subst hin;have htk : v.take i = v := List.take_of_length_le (by rw [Hn.out]; exact Nat.le_refl _);have hdr : v.drop i = [] := List.drop_eq_nil_of_le (by rw [Hn.out]; exact Nat.le_refl _);have hby2 := hby.out;rw [htk, hdr, List.append_nil] at hby2
   have hml : (v.map invC).length = i := by rw [List.length_map, Hn.out]
   have hcb := run_convert_bytes_back (P := Tryz.prog) wr 42 9 5 ⟨w.heap.size, 0, none⟩ cap (v.map invC) Tryz.underlying42 Tryz.underlying5 Tryz.underlying9 (fun j hj => by
    have := (hby2.cell j hj).1;rw [Go.WideShapes.add_plain, Nat.zero_add]
    exact this)
   rw [hml] at hcb;have hbsv : (⟨(v.map invC).toArray⟩ : ByteArray) = bs (v.map invC) := rfl;rw [hbsv] at hcb;obtain ⟨SR, hSR⟩ : ∃ s, bs (v.map invC) = s := ⟨_, rfl⟩;rw [hSR] at hcb;have HSR := hide hSR;clear htk hdr hby2 hml hby hbsv hSR
   go_wp2
   go_returns
   exact ⟨by rw [HSR.out]; rfl, hb.out⟩
theorem binv_any (v : List UInt8) (hv : v.length ≤ 1099511627776) (w : World) :
  Calls Tryz.prog 59 #[.string (bs v)] w fun x w' => x = .returned (.string (bs (if isV v = true then inv v else []))) ∧ Below w.heap.size w w' := by
 have Hi := hide (is_any v hv w);have He := hide (fun W => each_any v hv W)
 cases h : isV v with
 | false =>
  rw [h] at Hi;rw [if_neg (by simp)]
  generalize bs v = S at *
  go_enter Tryz.func59, Tryz.ntmps59
  go_wp2_with fail
  refine (Hi.out).mono ?_;rintro x w1 ⟨rfl, hb1⟩
  go_wp2
  go_returns
  exact ⟨rfl, hb1⟩
 | true =>
  rw [h] at Hi;rw [if_pos rfl, inv_map v h]
  generalize bs (v.map invC) = SR at *
  generalize bs v = S at *
  go_enter Tryz.func59, Tryz.ntmps59
  go_wp2_with fail
  refine (Hi.out).mono ?_;rintro x w1 ⟨rfl, hb1⟩
  go_wp2_with fail
  refine (He.out _).mono ?_;rintro x w2 ⟨rfl, hb2⟩;have hb := hb1.trans (hb2.mono hb1.size)
  go_wp2
  go_returns
  exact ⟨rfl, hb⟩
theorem bel_new1 (w : World) (o : Obj) : Below w.heap.size w (w.alloc o) := (Below.refl w.heap.size w).alloc (Nat.le_refl _) o
theorem run_sliceA (w : World) (g n : Nat) (hn : n ≤ 128) : (Instr.sliceAt 108 (.pointer (some ⟨g, 0, none⟩)) none (some (.int .i64 (n : Int))) none).run Tryz.prog w = .ok (.slice (some ⟨g, 0, none⟩) n 128) w := by
 have h1 : Tryz.prog.arrayLen 108 = 128 := by kernel_rfl
 have h2 : Tryz.prog.underlying 108 = some (.array (Tryz.prog.arrayLen 108) (Tryz.prog.elem 108)) := by kernel_rfl
 have h3 : ∀ w, (sizeOf (Tryz.prog.elem 108)).run Tryz.prog w = .ok 1 w := fun w => by kernel_rfl
 rw [run_sliceAt_array_h w _ ⟨g, 0, none⟩ h2 .i64 (n : Int) (by omega) (by rw [h1]; omega), h3, h1];unfold slicedAt
 simp [Result.andThen, Addr.add]
theorem cd2 {c : UInt8} (h : cd c < 2) : c.toNat = 48 + cd c := by
 rcases cd_cases c with ⟨rfl, h1⟩ | ⟨rfl, h1⟩ | ⟨_, h1⟩ | ⟨_, h1⟩ | ⟨_, _, _, _, h1⟩
 ·rfl
 ·rfl
 all_goals omega
theorem sm_step {a b : List UInt8} {k : Nat} (c : Nat) (ha : k < a.length) (hb : k < b.length) : sm (a.drop k) (b.drop k) c = (UInt8.ofNat (48 + (cd a[k] + cd b[k] + (sm (a.drop (k + 1)) (b.drop (k + 1)) c).2) % 2) :: (sm (a.drop (k + 1)) (b.drop (k + 1)) c).1, (cd a[k] + cd b[k] + (sm (a.drop (k + 1)) (b.drop (k + 1)) c).2) / 2) := by
 rw [List.drop_eq_getElem_cons ha, List.drop_eq_getElem_cons hb];rfl
theorem sm_carry (c : Nat) (hc : c ≤ 1) : ∀ (a b : List UInt8), (∀ x ∈ a, cd x < 2) → (∀ x ∈ b, cd x < 2) → (sm a b c).2 ≤ 1
 | [], _, _, _ => by simpa [sm] using hc
 | _ :: _, [], _, _ => by simpa [sm] using hc
 | x :: a, y :: b, h1, h2 => by
  have h3 := sm_carry c hc a b (fun z hz => h1 z (List.mem_cons_of_mem _ hz)) (fun z hz => h2 z (List.mem_cons_of_mem _ hz));have h4 := h1 x List.mem_cons_self;have h5 := h2 y List.mem_cons_self
  show (cd x + cd y + (sm a b c).2) / 2 ≤ 1
  omega
def smA (n k : Nat) (ds : List UInt8) : Array Value := ((List.replicate k 0 ++ ds ++ List.replicate (128 - n) 0).map bv).toArray
theorem sum_any (a b : List UInt8) (c : Nat) (hc : c ≤ 1) (ha : knV a = true) (hb : knV b = true) (hl : a.length = b.length) (w : World) :
  Calls Tryz.prog 55 #[.string (bs a), .string (bs b), .int .u8 (c : Int)] w fun x w' => x = .returned (.string (bs (sm a b c).1)) ∧ Below w.heap.size w w' := by
 obtain ⟨a1, a2, a3⟩ := knV_iff.1 ha;obtain ⟨b1, b2, b3⟩ := knV_iff.1 hb;have hsa : (bs a).size = a.length := bs_size a;have hsb : (bs b).size = b.length := bs_size b;have Hga : Hid (∀ (i : Nat) (h : i < a.length) (h2 : i < (bs a).size), (bs a)[i]'h2 = a[i]'h) := hide (fun i h h2 => bs_get a i h h2);have Hgb : Hid (∀ (i : Nat) (h : i < b.length) (h2 : i < (bs b).size), (bs b)[i]'h2 = b[i]'h) := hide (fun i h h2 => bs_get b i h h2);obtain ⟨n, hn⟩ : ∃ n, a.length = n := ⟨_, rfl⟩
 have hnb : b.length = n := by omega
 rw [hn] at hsa a3;rw [hnb] at hsb;have hk0 := hide (Bk.new w 108 (Array.replicate 128 (.int .u8 0)));have hb0 := hide (bel_new1 w (.cells (Array.replicate 128 (.int .u8 0)) 108))
 have hstart : Array.replicate 128 (.int .u8 0 : Value) = smA n n (sm (a.drop n) (b.drop n) c).1 := by
  have e1 : a.drop n = [] := List.drop_eq_nil_of_le (by omega);rw [e1]
  show _ = ((List.replicate n (0 : UInt8) ++ [] ++ List.replicate (128 - n) (0 : UInt8)).map bv).toArray
  rw [List.append_nil, List.replicate_append_replicate, show n + (128 - n) = 128 by omega, List.map_replicate];rfl
 have Hst := hide hstart
 have hc0 : (sm (a.drop n) (b.drop n) c).2 = c := by
  have e1 : a.drop n = [] := List.drop_eq_nil_of_le (by omega)
  rw [e1]; rfl
 have Hc0 := hide hc0;have Hcar := hide (fun k => sm_carry c hc (a.drop k) (b.drop k) (fun x hx => a1 x (List.mem_of_mem_drop hx)) (fun x hx => b1 x (List.mem_of_mem_drop hx)));have Hsm := hide (fun k (h1 : k < a.length) (h2 : k < b.length) => sm_step c h1 h2);have Ha1 := hide a1;have Hb1 := hide b1;have Hn := hide hn;have Hnb := hide hnb
 have hsml : (sm a b c).1.length = n := by rw [sm_len a b c hl, hn]
 have Hsml := hide hsml;obtain ⟨SA, hSA⟩ : ∃ s, bs a = s := ⟨_, rfl⟩;obtain ⟨SB, hSB⟩ : ∃ s, bs b = s := ⟨_, rfl⟩;rw [hSA] at hsa Hga ⊢;rw [hSB] at hsb Hgb ⊢;have Hsa := hide hsa;have Hsb := hide hsb;clear hstart hc0 a1 b1 hn hnb hSA hSB hsa hsb ha hb hl a2 b2 b3 hsml
 have hA128 : SA.size ≤ 128 := by rw [Hsa.out]; exact a3
 go_enter Tryz.func55, Tryz.ntmps55
 go_wp2
 rw [Hsa.out]
 go_loopw [2, 8] (fun s2 s8 wr => ∃ k : Nat, k ≤ n ∧ s8 = .int .i64 ((k : Int) - 1) ∧ s2 = .int .u8 (((sm (a.drop k) (b.drop k) c).2 : Nat) : Int) ∧ Hid (Bk wr w.heap.size 108 (smA n k (sm (a.drop k) (b.drop k) c).1)) ∧ Hid (Below w.heap.size w wr)) (fun _ s8 _ => (intOf s8 + 1).toNat)
 case atStart => exact ⟨n, Nat.le_refl _, rfl, by rw [Hc0.out], hide (by rw [← Hst.out]; exact hk0.out), hb0⟩
 case round =>
  clear hk0 hb0 Hst Hc0;obtain ⟨k, hk, rfl, rfl, hbk, hb⟩ := hrel
  cases k with
  | succ i =>
   have hia : i < a.length := by rw [Hn.out]; omega
   have hib : i < b.length := by rw [Hnb.out]; omega
   have hiA : i < SA.size := by rw [Hsa.out]; omega
   have hiB : i < SB.size := by rw [Hsb.out]; omega
   have hs := Hsm.out i hia hib;have hca := Hcar.out (i + 1);have hxa := Ha1.out a[i] (List.getElem_mem _);have hxb := Hb1.out b[i] (List.getElem_mem _);have hga := Hga.out i hia;have hgb := Hgb.out i hib;obtain ⟨x, hx⟩ : ∃ x, a[i] = x := ⟨_, rfl⟩;obtain ⟨y, hy⟩ : ∃ y, b[i] = y := ⟨_, rfl⟩;rw [hx, hy] at hs;rw [hx] at hxa hga;rw [hy] at hxb hgb;obtain ⟨⟨ds, cr⟩, hr⟩ : ∃ r, sm (a.drop (i + 1)) (b.drop (i + 1)) c = r := ⟨_, rfl⟩;rw [hr] at hs hca hbk;simp only at hs hca hbk
   have hget1 : ∀ h : i < SA.size, (SA[i]'h).toNat = 48 + cd x := fun h => by rw [hga h, cd2 hxa]
   have hget2 : ∀ h : i < SB.size, (SB[i]'h).toNat = 48 + cd y := fun h => by rw [hgb h, cd2 hxb]
   obtain ⟨p, hp⟩ : ∃ p, cd x = p := ⟨_, rfl⟩;obtain ⟨q, hq⟩ : ∃ q, cd y = q := ⟨_, rfl⟩;rw [hp] at hs hxa hget1;rw [hq] at hs hxb hget2
   have e1 : ((i + 1 : Nat) : Int) - 1 = (i : Int) := by omega
   rw [e1, hr]
   have hi0 : (0 : Int) ≤ (i : Int) := by omega
   have hin : (i : Int) < (n : Int) := by omega
   have hi128 : (i : Int) < 128 := by omega
   have hi128n : i < 128 := by omega
   have hcell := hbk.out.cell i;have hfroz := hbk.out.frozen i
   have hput := fun u => hbk.out.put i u
   have hset : ∀ d : UInt8, (smA n (i + 1) ds).setIfInBounds i (bv d) = smA n i (d :: ds) := fun d => by
    unfold smA;rw [List.setIfInBounds_toArray, ← List.map_set]
    congr 2
    rw [List.replicate_succ', List.append_assoc, List.append_assoc, List.set_append_right _ _ (by rw [List.length_replicate]; exact Nat.le_refl _), List.length_replicate, Nat.sub_self]
    simp
   have hc2 : (smA n (i + 1) ds)[i]? = some (.int .u8 0) := by
    unfold smA;rw [List.getElem?_toArray, List.getElem?_map, List.append_assoc, List.getElem?_append_left (by rw [List.length_replicate]; omega), List.getElem?_replicate, if_pos (by omega)];rfl
   rw [hc2] at hcell;have Hput := hide (fun d : UInt8 => (by rw [← hset d]; exact hput (bv d) : Bk (wr.setCell ⟨w.heap.size, i, none⟩ (bv d)) w.heap.size 108 (smA n i (d :: ds))));have Hbs := hide (fun u : Value => hb.out.setCell (p := ⟨w.heap.size, i, none⟩) (Nat.le_refl _) u);unfold bv at Hput;obtain ⟨mm, hmm⟩ : ∃ m, p + q + cr = m := ⟨_, rfl⟩;rw [hmm] at hs
   have hdn : ((UInt8.ofNat (48 + mm % 2)).toNat : Int) = ((48 + mm % 2 : Nat) : Int) := by simp; omega
   have Hput1 := hide (show Bk (wr.setCell ⟨w.heap.size, i, none⟩ (.int .u8 ((48 + mm % 2 : Nat) : Int))) w.heap.size 108 (smA n i (sm (a.drop i) (b.drop i) c).1) by
    have := Hput.out (UInt8.ofNat (48 + mm % 2));rw [hdn] at this;rw [hs]
    exact this)
   have Hcr1 := hide (show (((sm (a.drop i) (b.drop i) c).2 : Nat) : Int) = ((mm / 2 : Nat) : Int) by rw [hs])
   have b0 : Go.bits .and .u8 0 1 = 0 := by decide
   have b1 : Go.bits .and .u8 1 1 = 1 := by decide
   have b2 : Go.bits .and .u8 2 1 = 0 := by decide
   have b3 : Go.bits .and .u8 3 1 = 1 := by decide
   clear Hput hdn;clear hia hib hs hga hgb hx hy hr hp hq e1 hput hset hc2 hbk hb Hsm Hcar Ha1 Hb1 Hga Hgb
   have hpq : (p = 0 ∨ p = 1) ∧ (q = 0 ∨ q = 1) ∧ (cr = 0 ∨ cr = 1) := by omega
   obtain ⟨h1, h2, h3⟩ := hpq;clear hca hxa hxb
   rcases h1 with rfl | rfl <;> rcases h2 with rfl | rfl <;> rcases h3 with rfl | rfl
   all_goals
    go_wp2
    go_quiet (fail)
    have hcell' : (wr.drewN nq).cell? ⟨w.heap.size, i, none⟩ = some (.int .u8 0) := hcell;have hfroz' : (wr.drewN nq).frozen? ⟨w.heap.size, i, none⟩ = false := hfroz;have Hput' : Hid (Bk ((wr.drewN nq).setCell ⟨w.heap.size, i, none⟩ (.int .u8 ((48 + mm % 2 : Nat) : Int))) w.heap.size 108 (smA n i (sm (a.drop i) (b.drop i) c).1)) := hide Hput1.out;have Hbs' : Hid (∀ u : Value, Below w.heap.size w ((wr.drewN nq).setCell ⟨w.heap.size, i, none⟩ u)) := hide (fun u => bdN (Hbs.out u) nq);clear hcell hfroz Hput1 Hbs
    generalize wr.drewN nq = W at *
    subst hmm
    go_wp2
    refine ⟨⟨i, by omega, by go_num, by rw [Hcr1.out]; rfl, hide (by exact Hput'.out), hide (Hbs'.out _)⟩, ?_⟩
    simp [intOf] <;> omega
  | zero =>
   have e1 : ((0 : Nat) : Int) - 1 = -1 := rfl;rw [e1];simp only [List.drop_zero] at hbk ⊢;have hsl := Hsml.out
   have hcs : ∀ j (hj : j < (sm a b c).1.length), wr.cell? ⟨w.heap.size, 0 + j, none⟩ = some (.int .u8 (((sm a b c).1[j]).toNat : Int)) := fun j hj => by
    rw [Nat.zero_add, hbk.out.cell j];unfold smA;rw [List.getElem?_toArray, List.getElem?_map, List.replicate_zero, List.nil_append, List.getElem?_append_left hj, List.getElem?_eq_getElem hj];rfl
   have hcb := run_convert_bytes_back (P := Tryz.prog) wr 42 9 5 ⟨w.heap.size, 0, none⟩ 128 (sm a b c).1 Tryz.underlying42 Tryz.underlying5 Tryz.underlying9 (fun j hj => by
    rw [Go.WideShapes.add_plain]
    exact hcs j hj)
   rw [hsl] at hcb;have hbsv : (⟨((sm a b c).1).toArray⟩ : ByteArray) = bs (sm a b c).1 := rfl;rw [hbsv] at hcb;obtain ⟨SR, hSR⟩ : ∃ s, bs (sm a b c).1 = s := ⟨_, rfl⟩;rw [hSR] at hcb;have HSR := hide hSR
   have hn0 : (0 : Int) ≤ (n : Int) := by omega
   have hn1 : (n : Int) ≤ 128 := by omega
   generalize (sm a b c).2 = c2 at *
   clear hsl hcs hbsv hSR hbk Hsm Hcar Ha1 Hb1 Hga Hgb Hsml e1;have hsl2 := run_sliceA wr w.heap.size n (by omega)
   have hSAn : (SA.size : Int) = (n : Int) := by rw [Hsa.out]
   go_wp2
   go_returns
   exact ⟨by rw [HSR.out]; rfl, hb.out⟩
theorem badd_any (a b : List UInt8) (ha : a.length ≤ 1099511627776) (hb : b.length ≤ 1099511627776) (w : World) :
  Calls Tryz.prog 26 #[.string (bs a), .string (bs b)] w fun x w' => x = .returned (.tuple #[.string (bs (addV a b).1), .bool (addV a b).2]) ∧ Below w.heap.size w w' := by
 have Ha := hide (kn_any a ha w);have Hb := hide (fun W => kn_any b hb W);have hsa : (bs a).size = a.length := bs_size a;have hsb : (bs b).size = b.length := bs_size b;have he : bs ([] : List UInt8) = ⟨#[]⟩ := rfl;unfold addV
 cases hka : knV a with
 | false =>
  rw [hka] at Ha;rw [if_neg (by simp)];simp only [he];clear hsa hsb he
  generalize bs a = SA at *
  generalize bs b = SB at *
  go_enter Tryz.func26, Tryz.ntmps26
  go_wp2_with fail
  refine (Ha.out).mono ?_;rintro x w1 ⟨rfl, hb1⟩
  go_wp2
  go_returns
  exact ⟨rfl, hb1⟩
 | true =>
  cases hkb : knV b with
  | false =>
   rw [hka] at Ha;rw [hkb] at Hb;rw [if_neg (by simp)];simp only [he];clear hsa hsb he
   generalize bs a = SA at *
   generalize bs b = SB at *
   go_enter Tryz.func26, Tryz.ntmps26
   go_wp2_with fail
   refine (Ha.out).mono ?_;rintro x w1 ⟨rfl, hb1⟩
   go_wp2_with fail
   refine (Hb.out _).mono ?_;rintro x w2 ⟨rfl, hb2⟩;have hbb := hb1.trans (hb2.mono hb1.size)
   go_wp2
   go_returns
   exact ⟨rfl, hbb⟩
  | true =>
   rw [hka] at Ha;rw [hkb] at Hb
   by_cases hl : a.length = b.length
   ·have Hs := hide (fun W => sum_any a b 0 (by omega) hka hkb hl W)
    rw [if_pos ⟨rfl, rfl, hl⟩]
    have hne : (((bs a).size : Int) != ((bs b).size : Int)) = false := by rw [hsa, hsb, hl]; exact bne_self_eq_false _
    have hHs := Hs;simp only
    generalize bs (sm a b 0).1 = SR at *
    clear hsa hsb he hka hkb hl hHs
    generalize bs a = SA at *
    generalize bs b = SB at *
    go_enter Tryz.func26, Tryz.ntmps26
    go_wp2_with fail
    refine (Ha.out).mono ?_;rintro x w1 ⟨rfl, hb1⟩
    go_wp2_with fail
    refine (Hb.out _).mono ?_;rintro x w2 ⟨rfl, hb2⟩;have hbb := hb1.trans (hb2.mono hb1.size);clear hb1 hb2
    go_wp2_with fail
    refine (Hs.out _).mono ?_;rintro x w3 ⟨rfl, hb3⟩;have hbc := hbb.trans (hb3.mono hbb.size);clear hbb hb3
    go_wp2
    go_returns
    exact ⟨rfl, hbc⟩
   ·rw [if_neg (fun h => hl h.2.2)]
    have hne : (((bs a).size : Int) != ((bs b).size : Int)) = true := by rw [hsa, hsb, bne_iff_ne]; omega
    simp only [he];clear hsa hsb he hka hkb hl
    generalize bs a = SA at *
    generalize bs b = SB at *
    go_enter Tryz.func26, Tryz.ntmps26
    go_wp2_with fail
    refine (Ha.out).mono ?_;rintro x w1 ⟨rfl, hb1⟩
    go_wp2_with fail
    refine (Hb.out _).mono ?_;rintro x w2 ⟨rfl, hb2⟩;have hbb := hb1.trans (hb2.mono hb1.size)
    go_wp2
    go_returns
    exact ⟨rfl, hbb⟩
theorem inv_known {v : List UInt8} (h : knV v = true) : knV (inv v) = true ∧ (inv v).length = v.length := by
 obtain ⟨a1, a2, a3⟩ := knV_iff.1 h
 have hl : (inv v).length = v.length := by unfold inv; rw [List.length_map]
 refine ⟨knV_iff.2 ⟨fun c hc => ?_, fun e => ?_, by omega⟩, hl⟩
 ·unfold inv at hc
  obtain ⟨d, hd, rfl⟩ := List.mem_map.1 hc;have := a1 d hd;rw [if_pos this, cd_ch _ (by omega)];omega
 ·rw [e] at hl
  exact a2 (List.eq_nil_of_length_eq_zero hl.symm)
theorem bdif_any (a b : List UInt8) (ha : a.length ≤ 1099511627776) (hb : b.length ≤ 1099511627776) (w : World) :
  Calls Tryz.prog 32 #[.string (bs a), .string (bs b)] w fun x w' => x = .returned (.tuple #[.string (bs (difV a b).1), .bool (difV a b).2]) ∧ Below w.heap.size w w' := by
 have Ha := hide (kn_any a ha w);have Hb := hide (fun W => kn_any b hb W);have hsa : (bs a).size = a.length := bs_size a;have hsb : (bs b).size = b.length := bs_size b;have he : bs ([] : List UInt8) = ⟨#[]⟩ := rfl;unfold difV
 cases hka : knV a with
 | false =>
  rw [hka] at Ha;rw [if_neg (by simp)];simp only [he];clear hsa hsb he
  generalize bs a = SA at *
  generalize bs b = SB at *
  go_enter Tryz.func32, Tryz.ntmps32
  go_wp2_with fail
  refine (Ha.out).mono ?_;rintro x w1 ⟨rfl, hb1⟩
  go_wp2
  go_returns
  exact ⟨rfl, hb1⟩
 | true =>
  cases hkb : knV b with
  | false =>
   rw [hka] at Ha;rw [hkb] at Hb;rw [if_neg (by simp)];simp only [he];clear hsa hsb he
   generalize bs a = SA at *
   generalize bs b = SB at *
   go_enter Tryz.func32, Tryz.ntmps32
   go_wp2_with fail
   refine (Ha.out).mono ?_;rintro x w1 ⟨rfl, hb1⟩
   go_wp2_with fail
   refine (Hb.out _).mono ?_;rintro x w2 ⟨rfl, hb2⟩;have hbb := hb1.trans (hb2.mono hb1.size)
   go_wp2
   go_returns
   exact ⟨rfl, hbb⟩
  | true =>
   rw [hka] at Ha;rw [hkb] at Hb
   by_cases hl : a.length = b.length
   ·obtain ⟨k1, k2⟩ := inv_known hka
    have Hs := hide (fun W => sum_any b (inv a) 1 (by omega) hkb k1 (by omega) W);have Hi := hide (fun W => binv_any a ha W);rw [if_pos (knV_isV hka)] at Hi;rw [if_pos ⟨rfl, rfl, hl⟩]
    have hne : (((bs a).size : Int) != ((bs b).size : Int)) = false := by rw [hsa, hsb, hl]; exact bne_self_eq_false _
    simp only
    generalize bs (sm b (inv a) 1).1 = SR at *
    generalize bs (inv a) = SI at *
    clear hsa hsb he hka hkb hl k1 k2
    generalize bs a = SA at *
    generalize bs b = SB at *
    go_enter Tryz.func32, Tryz.ntmps32
    go_wp2_with fail
    refine (Ha.out).mono ?_;rintro x w1 ⟨rfl, hb1⟩
    go_wp2_with fail
    refine (Hb.out _).mono ?_;rintro x w2 ⟨rfl, hb2⟩;have hbb := hb1.trans (hb2.mono hb1.size);clear hb1 hb2
    go_wp2_with fail
    refine (Hi.out _).mono ?_;rintro x w3 ⟨rfl, hb3⟩;have hbc := hbb.trans (hb3.mono hbb.size);clear hbb hb3
    go_wp2_with fail
    refine (Hs.out _).mono ?_;rintro x w4 ⟨rfl, hb4⟩;have hbd := hbc.trans (hb4.mono hbc.size);clear hbc hb4
    go_wp2
    go_returns
    exact ⟨rfl, hbd⟩
   ·rw [if_neg (fun h => hl h.2.2)]
    have hne : (((bs a).size : Int) != ((bs b).size : Int)) = true := by rw [hsa, hsb, bne_iff_ne]; omega
    simp only [he];clear hsa hsb he hka hkb hl
    generalize bs a = SA at *
    generalize bs b = SB at *
    go_enter Tryz.func32, Tryz.ntmps32
    go_wp2_with fail
    refine (Ha.out).mono ?_;rintro x w1 ⟨rfl, hb1⟩
    go_wp2_with fail
    refine (Hb.out _).mono ?_;rintro x w2 ⟨rfl, hb2⟩;have hbb := hb1.trans (hb2.mono hb1.size)
    go_wp2
    go_returns
    exact ⟨rfl, hbb⟩
theorem u8_eqb (a b : UInt8) : ((a.toNat : Int) == (b.toNat : Int)) = decide (a = b) := by
 rw [Bool.eq_iff_iff, beq_iff_eq, decide_eq_true_iff];exact ⟨fun h => UInt8.toNat_inj.1 (by omega), fun h => by rw [h]⟩
theorem bshort_any (v : List UInt8) (hv : v.length ≤ 1099511627776) (w : World) :
  Calls Tryz.prog 107 #[.string (bs v)] w fun x w' => x = .returned (.string (bs (shr v))) ∧ Below w.heap.size w w' := by
 have Hi := hide (is_any v hv w);have he : bs ([] : List UInt8) = ⟨#[]⟩ := rfl;unfold shr
 cases h : isV v with
 | false =>
  rw [h] at Hi;rw [if_neg (by simp), he];clear he
  generalize bs v = S at *
  go_enter Tryz.func107, Tryz.ntmps107
  go_wp2_with fail
  refine (Hi.out).mono ?_;rintro x w1 ⟨rfl, hb1⟩
  go_wp2
  go_returns
  exact ⟨rfl, hb1⟩
 | true =>
  rw [h] at Hi;rw [if_pos rfl];obtain ⟨h1, h2, h3⟩ := isV_iff.1 h;have H2 := hide h2;clear he h h1 h2
  go_enter Tryz.func107, Tryz.ntmps107
  go_wp2_with fail
  refine (Hi.out).mono ?_;rintro x w1 ⟨rfl, hb1⟩;have Hb1 := hide hb1;clear hb1 Hi
  go_wp2
  go_loopw [0] (fun s0 wr => ∃ u : List UInt8, s0 = .string (bs u) ∧ Hid (shq u = shq v) ∧ Hid (u ≠ []) ∧ u.length ≤ 128 ∧ Hid (Below w.heap.size w wr)) (fun s0 _ => match s0 with
   | .string s => s.size
   | _ => 0)
  case atStart => exact ⟨v, rfl, hide rfl, H2, h3, Hb1⟩
  case round =>
   clear Hb1 H2;obtain ⟨u, rfl, hq, hne, hl, hb⟩ := hrel;have hsz : (bs u).size = u.length := bs_size u;have hex := ext_drop (bs u) 1;rw [toL_bs] at hex
   go_upto_region 3 with fail
   go_cut [30] (fun s30 wx => ∃ q : Bool, s30 = .bool q ∧ Hid ((q = true ∧ ∃ a b r, u = a :: b :: r ∧ a = fr b) ∨ (q = false ∧ shq u = u)) ∧ ∃ k, wx = wr.drewN k)
   case first =>
    clear hex hq hb
    match u, hne.out with
    | [c], _ =>
     have h0 : decide ((1 : Int) < ((bs [c]).size : Int)) = false := by rw [hsz]; rfl
     have h1 : ¬ (1 : Int) < ((bs [c]).size : Int) := by rw [hsz]; simp
     generalize bs [c] = S at *
     clear hsz
     go_quiet (fail)
     go_wp2
     go_meet
     case rel => exact ⟨false, rfl, hide (.inr ⟨rfl, rfl⟩), _, rfl⟩
    | a :: b :: r, _ =>
     have hlen : (bs (a :: b :: r)).size = r.length + 2 := by rw [hsz]; rfl
     have g0 : ∀ hh : 0 < (bs (a :: b :: r)).size, ((bs (a :: b :: r))[0]'hh).toNat = a.toNat := fun hh => by rw [bs_get _ 0 (by simp)]; rfl
     have g1 : ∀ hh : 1 < (bs (a :: b :: r)).size, ((bs (a :: b :: r))[1]'hh).toNat = b.toNat := fun hh => by rw [bs_get _ 1 (by simp)]; rfl
     have hs1 : (1 : Int) < ((bs (a :: b :: r)).size : Int) := by rw [hlen]; omega
     have hs2 : decide ((1 : Int) < ((bs (a :: b :: r)).size : Int)) = true := decide_eq_true hs1
     have hs3 : 0 < (bs (a :: b :: r)).size := by omega
     have hs4 : 1 < (bs (a :: b :: r)).size := by omega
     have x1 := u8_eqb a b;have x2 := u8_eqb a 49;have x3 := u8_eqb a 48;have x4 := u8_eqb b 49;have y2 : (((49 : UInt8).toNat : Nat) : Int) = 49 := rfl;have y3 : (((48 : UInt8).toNat : Nat) : Int) = 48 := rfl;rw [y2] at x2 x4;rw [y3] at x3
     have z2 : ((a.toNat : Int) != 49) = !decide (a = 49) := by rw [bne, x2]
     have hfr : fr b = if b = 49 then 48 else b := rfl
     have hsh := shq_cons2 a b r;have HF := hide hfr;have HSH := hide hsh;obtain ⟨A, hA⟩ : ∃ A, a.toNat = A := ⟨_, rfl⟩;obtain ⟨B, hB⟩ : ∃ B, b.toNat = B := ⟨_, rfl⟩;rw [hA] at g0 x1 x2 x3 z2;rw [hB] at g1 x1 x4
     generalize bs (a :: b :: r) = S at *
     clear hsz hlen y2 y3 hfr hsh hA hB hl
     by_cases c1 : a = b
     ·rw [decide_eq_true c1] at x1
      by_cases c2 : a = 49
      ·rw [decide_eq_true c2] at x2 z2
       have c3 : ¬ a = 48 := by rw [c2]; decide
       rw [decide_eq_false c3] at x3
       have hno : Hid (shq (a :: b :: r) = a :: b :: r) := hide (by
        rw [HSH.out, if_neg];rw [HF.out, ← c1, if_pos c2, c2]
        decide)
       clear c1 c2 c3 HF HSH x2 x4
       go_quiet (fail)
       go_wp2
       go_meet
       case rel => exact ⟨false, by simp [x1, z2, x3], hide (.inr ⟨rfl, hno.out⟩), _, rfl⟩
      ·rw [decide_eq_false c2] at x2 z2
       have hyes : Hid (a = fr b) := hide (by rw [HF.out, ← c1, if_neg c2]);clear c1 c2 HF HSH x2 x4 x3
       go_quiet (fail)
       go_wp2
       go_meet
       case rel => exact ⟨true, by simp [x1, z2], hide (.inl ⟨rfl, a, b, r, rfl, hyes.out⟩), _, rfl⟩
     ·rw [decide_eq_false c1] at x1
      by_cases c2 : a = 48
      ·rw [decide_eq_true c2] at x3
       by_cases c3 : b = 49
       ·rw [decide_eq_true c3] at x4
        have hyes : Hid (a = fr b) := hide (by rw [HF.out, if_pos c3, c2]);clear c1 c2 c3 HF HSH x2 z2
        go_quiet (fail)
        go_wp2
        go_meet
        case rel => exact ⟨true, by simp [x1, x3, x4], hide (.inl ⟨rfl, a, b, r, rfl, hyes.out⟩), _, rfl⟩
       ·rw [decide_eq_false c3] at x4
        have hno : Hid (shq (a :: b :: r) = a :: b :: r) := hide (by
         rw [HSH.out, if_neg];rw [HF.out, if_neg c3]
         exact c1)
        clear c1 c2 c3 HF HSH x2 z2
        go_quiet (fail)
        go_wp2
        go_meet
        case rel => exact ⟨false, by simp [x1, x3, x4], hide (.inr ⟨rfl, hno.out⟩), _, rfl⟩
      ·rw [decide_eq_false c2] at x3
       have hno : Hid (shq (a :: b :: r) = a :: b :: r) := hide (by
        rw [HSH.out, if_neg];rw [HF.out]
        by_cases c3 : b = 49
        ·rw [if_pos c3]; exact c2
        ·rw [if_neg c3]; exact c1)
       clear c1 c2 HF HSH x2 z2 x4
       go_quiet (fail)
       go_wp2
       go_meet
       case rel => exact ⟨false, by simp [x1, x3], hide (.inr ⟨rfl, hno.out⟩), _, rfl⟩
   case rest =>
    obtain ⟨q, rfl, hqq, k, rfl⟩ := hcut;have Hbk := hide (bdN hb.out k)
    rcases hqq.out with ⟨rfl, a, b, r, hu, ha⟩ | ⟨rfl, hno⟩
    ·have hq2 : Hid (shq (b :: r) = shq v) := hide (by rw [← hq.out, hu, shq_cons2, if_pos ha])
     have hdr : u.drop 1 = b :: r := by rw [hu]; rfl
     rw [hdr] at hex
     have hs1 : (1 : Int) ≤ ((bs u).size : Int) := by rw [hsz, hu]; simp; omega
     have hs1n : 1 ≤ (bs u).size := by omega
     have hll : (b :: r).length ≤ 128 := by rw [hu] at hl; simp at hl ⊢; omega
     have hms : (bs (b :: r)).size < u.length := by rw [bs_size, hu]; simp
     have Hms := hide hms;clear hms;have hnn : Hid (b :: r ≠ []) := hide (by simp);clear hqq hu ha hdr hq hne hb hsz hl
     generalize bs u = S at *
     go_wp2
     refine ⟨⟨b :: r, rfl, hq2, hnn, hll, Hbk⟩, ?_⟩
     show (bs (b :: r)).size < (bs u).size
     rw [bs_size u];exact Hms.out
    ·have hres : Hid (bs u = bs (shq v)) := hide (by rw [← hq.out, hno])
     clear hqq hno hex hsz
     go_wp2
     go_returns
     exact ⟨by rw [← hres.out]; rfl, Hbk.out⟩
theorem rep_one (c : UInt8) : ∀ n, Lib.repeatL [c] n = List.replicate n c
 | 0 => rfl
 | n + 1 => by rw [Lib.repeatL, rep_one c n, List.replicate_succ]; rfl
theorem rep_any (c : UInt8) (n : Nat) (hn : n ≤ 1099511627776) (W : World) :
  Calls Tryz.prog 147 #[.string ⟨#[c]⟩, .int .i64 (n : Int)] W fun e w' => e = .returned (.string (bs (List.replicate n c))) ∧ Below W.heap.size W w' := by
 have h := Tryz.strings_Repeat ⟨#[c]⟩ n W (by omega) (by rw [show (⟨#[c]⟩ : ByteArray).size = 1 from rfl]; omega);refine h.mono ?_;rintro x w1 ⟨rfl, h2⟩;refine ⟨?_, h2⟩;rw [← rep_one];rfl
theorem all_any (n : Int) (c : UInt8) (w : World) :
  Calls Tryz.prog 108 #[.int .i64 n, .int .u8 (c.toNat : Int)] w fun x w' => x = .returned (.string (bs (allV n c))) ∧ Below w.heap.size w w' := by
 have Hv := hide (fun W => valid1_any c W);have he : bs ([] : List UInt8) = ⟨#[]⟩ := rfl;unfold allV
 by_cases h1 : n < 1
 ·rw [if_pos (.inl h1), he]
  clear he Hv
  go_enter Tryz.func108, Tryz.ntmps108
  go_wp2
  go_returns
  exact ⟨rfl, Below.refl _ _⟩
 ·by_cases h2 : 128 < n
  ·rw [if_pos (.inr (.inl h2)), he]
   clear he Hv
   go_enter Tryz.func108, Tryz.ntmps108
   go_wp2
   go_returns
   exact ⟨rfl, Below.refl _ _⟩
  ·cases h3 : isC c with
   | false =>
    rw [if_pos (.inr (.inr rfl)), he];rw [h3] at Hv;clear he h3
    generalize (c.toNat : Int) = C at *
    go_enter Tryz.func108, Tryz.ntmps108
    go_wp2_with fail
    refine (Hv.out _).mono ?_;rintro x w1 ⟨rfl, rfl⟩
    go_wp2
    go_returns
    exact ⟨rfl, Below.refl _ _⟩
   | true =>
    rw [if_neg (by simp [h1, h2])];rw [h3] at Hv;have hcv := conv_one (P := Tryz.prog) 42 9 5 Tryz.underlying42 Tryz.underlying5 Tryz.underlying9 w (c.toNat : Int)
    have e1 : UInt8.ofNat (c.toNat : Int).toNat = c := by simp
    rw [e1] at hcv;obtain ⟨m, rfl⟩ : ∃ m : Nat, n = m := ⟨n.toNat, by omega⟩;rw [Int.toNat_natCast];have Hr := hide (fun W => rep_any c m (by omega) W);have hb0 := bel_new1 w (.cells #[.int .u8 (c.toNat : Int)] 5);have Hb0 := hide hb0;clear he h3 e1 hb0
    generalize (c.toNat : Int) = C at *
    generalize bs (List.replicate m c) = SR at *
    go_enter Tryz.func108, Tryz.ntmps108
    go_wp2_with fail
    refine (Hv.out _).mono ?_;rintro x w1 ⟨rfl, rfl⟩
    go_wp2_with fail
    refine (Hr.out _).mono ?_;rintro x w1 ⟨rfl, hb⟩;have hbb := Hb0.out.trans (hb.mono Hb0.out.size);clear hb Hb0 Hv Hr hcv
    go_wp2
    go_returns
    exact ⟨rfl, hbb⟩
theorem ext_any (n : Int) (v : List UInt8) (hv : v.length ≤ 1099511627776) (w : World) :
  Calls Tryz.prog 161 #[.int .i64 n, .string (bs v)] w fun x w' => x = .returned (.tuple #[.string (bs (ext n v).1), .int .i64 ((ext n v).2 : Int)]) ∧ Below w.heap.size w w' := by
 have he : bs ([] : List UInt8) = ⟨#[]⟩ := rfl;have hsz : (bs v).size = v.length := bs_size v;have Hc := hide (count_any v hv w);unfold ext
 by_cases h1 : n < 1
 ·rw [if_pos (.inl h1)]
  simp only [he];clear he hsz Hc
  generalize bs v = S at *
  go_enter Tryz.func161, Tryz.ntmps161
  go_wp2
  go_returns
  exact ⟨rfl, Below.refl _ _⟩
 ·by_cases h2 : 128 < n
  ·rw [if_pos (.inr h2)]
   simp only [he];clear he hsz Hc
   generalize bs v = S at *
   go_enter Tryz.func161, Tryz.ntmps161
   go_wp2
   go_returns
   exact ⟨rfl, Below.refl _ _⟩
  ·rw [if_neg (by omega)]
   obtain ⟨m, rfl⟩ : ∃ m : Nat, n = m := ⟨n.toNat, by omega⟩
   match v, hv with
   | [], _ =>
    have hem := bs_emp [];rw [decide_eq_true rfl] at hem;simp only [he] at *;unfold cnA at Hc
    generalize (cn 0 [] : Int) = n0 at *
    generalize (cn 1 [] : Int) = n1 at *
    generalize (cn 2 [] : Int) = n2 at *
    generalize (cn 3 [] : Int) = n3 at *
    clear hsz
    go_enter Tryz.func161, Tryz.ntmps161
    go_wp2_with fail
    refine (Hc.out).mono ?_;rintro x w1 ⟨rfl, hb1⟩;have Hb := hide (hb1.alloc hb1.size (.cells #[.int .i64 n0, .int .i64 n1, .int .i64 n2, .int .i64 n3] 76));clear hb1
    go_wp2
    go_returns
    exact ⟨rfl, Hb.out⟩
   | c :: t, hv =>
    have hem := bs_emp (c :: t);rw [decide_eq_false (by simp)] at hem;obtain ⟨s1, s2, s3, s4⟩ := cn_sum (c :: t)
    have hsum : decide ((cn 0 (c :: t) : Int) + (cn 1 (c :: t) : Int) + (cn 2 (c :: t) : Int) + (cn 3 (c :: t) : Int) = ((bs (c :: t)).size : Int)) = (c :: t).all isC := by
     rw [Bool.eq_iff_iff, decide_eq_true_iff, List.all_eq_true, hsz]
     constructor
     ·intro h x hx
      have := s2.1 (by omega) x hx;unfold isC
      rw [decide_eq_true_iff]; exact this
     ·intro h
      have := s2.2 (fun x hx => by have := h x hx; unfold isC at this; simpa using this);omega
    have hlen : cn 0 (c :: t) ≤ 1099511627776 ∧ cn 1 (c :: t) ≤ 1099511627776 ∧ cn 2 (c :: t) ≤ 1099511627776 ∧ cn 3 (c :: t) ≤ 1099511627776 := by omega
    have hsum2 : ((cn 0 (c :: t) : Int) + (cn 1 (c :: t) : Int) + (cn 2 (c :: t) : Int) + (cn 3 (c :: t) : Int) != ((bs (c :: t)).size : Int)) = !((c :: t).all isC) := by
     rw [← hsum, bne, Bool.not_eq_eq_eq_not, Bool.not_not, Bool.eq_iff_iff, beq_iff_eq, decide_eq_true_iff]
    obtain ⟨l0, l1, l2, l3⟩ := hlen;unfold cnA at Hc
    generalize cn 0 (c :: t) = n0 at *
    generalize cn 1 (c :: t) = n1 at *
    generalize cn 2 (c :: t) = n2 at *
    generalize cn 3 (c :: t) = n3 at *
    clear s1 s2 s3 s4 hsum;simp only
    cases ha : (c :: t).all isC with
    | false =>
     rw [if_pos rfl];rw [ha] at hsum2;simp only [he];clear hsz
     generalize bs (c :: t) = S at *
     go_enter Tryz.func161, Tryz.ntmps161
     go_wp2_with fail
     refine (Hc.out).mono ?_;rintro x w1 ⟨rfl, hb1⟩;have Hb := hide (hb1.alloc hb1.size (.cells #[.int .i64 (n0 : Int), .int .i64 (n1 : Int), .int .i64 (n2 : Int), .int .i64 (n3 : Int)] 76));clear hb1
     go_wp2
     go_returns
     exact ⟨rfl, Hb.out⟩
    | true =>
     rw [if_neg (by simp)];rw [ha] at hsum2
     by_cases hlt : (m : Int) < ((c :: t).length : Int)
     ·rw [if_pos hlt]
      rw [← hsz] at hlt;simp only [he];clear hsz
      generalize bs (c :: t) = S at *
      go_enter Tryz.func161, Tryz.ntmps161
      go_wp2_with fail
      refine (Hc.out).mono ?_;rintro x w1 ⟨rfl, hb1⟩;have Hb := hide (hb1.alloc hb1.size (.cells #[.int .i64 (n0 : Int), .int .i64 (n1 : Int), .int .i64 (n2 : Int), .int .i64 (n3 : Int)] 76));clear hb1
      go_wp2
      go_returns
      exact ⟨rfl, Hb.out⟩
     ·rw [if_neg hlt]
      have hdl : (m : Int) - ((bs (c :: t)).size : Int) = ((m - (c :: t).length : Nat) : Int) := by rw [hsz]; omega
      have hlt2 : ¬ (m : Int) < ((bs (c :: t)).size : Int) := by rw [hsz]; exact hlt
      have hpos : 0 < (bs (c :: t)).size := by rw [hsz]; simp
      have hget : ∀ h : 0 < (bs (c :: t)).size, ((bs (c :: t))[0]'h).toNat = c.toNat := fun h => by rw [bs_get _ 0 (by simp)]; rfl
      have happ : bs (List.replicate (m - (c :: t).length) (fr c)) ++ bs (c :: t) = bs (List.replicate (m - (c :: t).length) (fr c) ++ (c :: t)) := bs_append _ _;have Happ := hide happ;obtain ⟨d, hd⟩ : ∃ d, m - (c :: t).length = d := ⟨_, rfl⟩
      have hd2 : d ≤ 128 := by omega
      have hm2 : (m : Int) ≤ 128 := by omega
      simp only [Int.toNat_natCast];rw [hd] at hdl Happ ⊢;have Hr := hide (fun W => rep_any (fr c) d (by omega) W);have Hsz2 : Hid ((bs (List.replicate d (fr c))).size + (bs (c :: t)).size ≤ 128) := hide (by rw [bs_size, bs_size, List.length_replicate]; omega)
      have e1 : UInt8.ofNat ((fr c).toNat : Int).toNat = fr c := by simp
      have hcv := fun W => conv_one (P := Tryz.prog) 42 9 5 Tryz.underlying42 Tryz.underlying5 Tryz.underlying9 W ((fr c).toNat : Int)
      rw [e1] at hcv
      have hf : ((fr c).toNat : Int) = if c = 49 then 48 else (c.toNat : Int) := by
       unfold fr
       by_cases h : c = 49
       ·rw [if_pos h, if_pos h]; rfl
       ·rw [if_neg h, if_neg h]
      have hq := u8_eqb c 49;rw [show (((49 : UInt8).toNat : Nat) : Int) = 49 from rfl] at hq;rw [← Happ.out];obtain ⟨A, hA⟩ : ∃ A, c.toNat = A := ⟨_, rfl⟩;rw [hA] at hget hf hq;obtain ⟨F, hF⟩ : ∃ F, ((fr c).toNat : Int) = F := ⟨_, rfl⟩;rw [hF] at hf hcv
      generalize bs (List.replicate d (fr c)) = SR at *
      generalize fr c = f at *
      clear Happ hd hsz he happ ha e1 hA hF hlt
      generalize bs (c :: t) = S at *
      have hss : SR.size + S.size ≤ 128 := Hsz2.out
      by_cases h49 : c = 49
      ·rw [if_pos h49] at hf
       rw [decide_eq_true h49] at hq;subst hf;clear h49
       go_enter Tryz.func161, Tryz.ntmps161
       go_wp2_with fail
       refine (Hc.out).mono ?_;rintro x w1 ⟨rfl, hb1⟩;have Hb := hide (hb1.alloc hb1.size (.cells #[.int .i64 (n0 : Int), .int .i64 (n1 : Int), .int .i64 (n2 : Int), .int .i64 (n3 : Int)] 76));have Hb2 := hide (Hb.out.alloc Hb.out.size (.cells #[.int .u8 48] 5));have hcw := hcv (w1.alloc (.cells #[.int .i64 (n0 : Int), .int .i64 (n1 : Int), .int .i64 (n2 : Int), .int .i64 (n3 : Int)] 76));rw [World.size_alloc] at hcw;clear hb1 hcv Hb
       go_wp2_with fail
       refine (Hr.out _).mono ?_;rintro x w2 ⟨rfl, hb2⟩;have hbb := Hb2.out.trans (hb2.mono Hb2.out.size);clear hb2 Hb2 Hr hcw Hc
       go_wp2
       go_returns
       exact ⟨rfl, hbb⟩
      ·rw [if_neg h49] at hf
       rw [decide_eq_false h49] at hq;subst hf;clear h49
       go_enter Tryz.func161, Tryz.ntmps161
       go_wp2_with fail
       refine (Hc.out).mono ?_;rintro x w1 ⟨rfl, hb1⟩;have Hb := hide (hb1.alloc hb1.size (.cells #[.int .i64 (n0 : Int), .int .i64 (n1 : Int), .int .i64 (n2 : Int), .int .i64 (n3 : Int)] 76));have Hb2 := hide (Hb.out.alloc Hb.out.size (.cells #[.int .u8 (A : Int)] 5));have hcw := hcv (w1.alloc (.cells #[.int .i64 (n0 : Int), .int .i64 (n1 : Int), .int .i64 (n2 : Int), .int .i64 (n3 : Int)] 76));rw [World.size_alloc] at hcw;clear hb1 hcv Hb
       go_wp2_with fail
       refine (Hr.out _).mono ?_;rintro x w2 ⟨rfl, hb2⟩;have hbb := Hb2.out.trans (hb2.mono Hb2.out.size);clear hb2 Hb2 Hr hcw Hc
       go_wp2
       go_returns
       exact ⟨rfl, hbb⟩
theorem xor_bits {p q : Nat} (hp : p < 4) (hq : q < 4) : Go.bits .xor .i64 (p : Int) (q : Int) = ((p ^^^ q : Nat) : Int) := by
 rcases (show p = 0 ∨ p = 1 ∨ p = 2 ∨ p = 3 by omega) with rfl | rfl | rfl | rfl <;> rcases (show q = 0 ∨ q = 1 ∨ q = 2 ∨ q = 3 by omega) with rfl | rfl | rfl | rfl <;> decide
theorem cdI_ok {c : UInt8} (h : cd c < 4) : cdI c = (cd c : Int) := by unfold cdI; rw [if_pos h]
def mxA (a b : List UInt8) (i : Nat) : List UInt8 := List.zipWith mx (a.take i) (b.take i) ++ List.replicate (a.length - i) 0
theorem mxA_len (a b : List UInt8) (hl : a.length = b.length) (i : Nat) (hi : i ≤ a.length) : (mxA a b i).length = a.length := by
 unfold mxA;rw [List.length_append, List.length_zipWith, List.length_take, List.length_take, List.length_replicate];omega
theorem mxA_set (a b : List UInt8) (hl : a.length = b.length) (i : Nat) (ha : i < a.length) (hb : i < b.length) : (mxA a b i).set i (mx a[i] b[i]) = mxA a b (i + 1) := by
 have hz : (List.zipWith mx (a.take i) (b.take i)).length = i := by
  rw [List.length_zipWith, List.length_take, List.length_take]; omega
 unfold mxA
 rw [List.set_append_right _ _ (by omega), hz, Nat.sub_self, List.take_succ_eq_append_getElem ha, List.take_succ_eq_append_getElem hb,
  List.zipWith_append (by rw [List.length_take, List.length_take]; omega), show a.length - i = (a.length - (i + 1)) + 1 by omega, List.replicate_succ, List.set_cons_zero]
 simp
theorem bmix_any (a b : List UInt8) (hal : a.length ≤ 1099511627776) (hbl : b.length ≤ 1099511627776) (w : World) :
  Calls Tryz.prog 109 #[.string (bs a), .string (bs b)] w fun x w' => x = .returned (.tuple #[.string (bs (mixV a b).1), .int .i64 ((mixV a b).2 : Int)]) ∧ Below w.heap.size w w' := by
 have Ha := hide (is_any a hal w);have Hb := hide (fun W => is_any b hbl W);have hsa : (bs a).size = a.length := bs_size a;have hsb : (bs b).size = b.length := bs_size b;have he : bs ([] : List UInt8) = ⟨#[]⟩ := rfl;unfold mixV
 cases hka : isV a with
 | false =>
  rw [hka] at Ha;rw [if_pos (.inl rfl)];simp only [he];clear hsa hsb he
  generalize bs a = SA at *
  generalize bs b = SB at *
  go_enter Tryz.func109, Tryz.ntmps109
  go_wp2_with fail
  refine (Ha.out).mono ?_;rintro x w1 ⟨rfl, hb1⟩
  go_wp2
  go_returns
  exact ⟨rfl, hb1⟩
 | true =>
  cases hkb : isV b with
  | false =>
   rw [hka] at Ha;rw [hkb] at Hb;rw [if_pos (.inr rfl)];simp only [he];clear hsa hsb he
   generalize bs a = SA at *
   generalize bs b = SB at *
   go_enter Tryz.func109, Tryz.ntmps109
   go_wp2_with fail
   refine (Ha.out).mono ?_;rintro x w1 ⟨rfl, hb1⟩
   go_wp2_with fail
   refine (Hb.out _).mono ?_;rintro x w2 ⟨rfl, hb2⟩;have hbb := hb1.trans (hb2.mono hb1.size)
   go_wp2
   go_returns
   exact ⟨rfl, hbb⟩
  | true =>
   rw [hka] at Ha;rw [hkb] at Hb;rw [if_neg (by simp)]
   by_cases hl : a.length = b.length
   ·rw [if_neg (by simp [hl])]
    simp only
    have hne : (((bs a).size : Int) != ((bs b).size : Int)) = false := by rw [hsa, hsb, hl]; exact bne_self_eq_false _
    obtain ⟨a1, a2, a3⟩ := isV_iff.1 hka;obtain ⟨b1, b2, b3⟩ := isV_iff.1 hkb;have Hga : Hid (∀ (i : Nat) (h : i < a.length) (h2 : i < (bs a).size), (bs a)[i]'h2 = a[i]'h) := hide (fun i h h2 => bs_get a i h h2);have Hgb : Hid (∀ (i : Nat) (h : i < b.length) (h2 : i < (bs b).size), (bs b)[i]'h2 = b[i]'h) := hide (fun i h h2 => bs_get b i h h2);obtain ⟨n, hn⟩ : ∃ n, a.length = n := ⟨_, rfl⟩
    have hnb : b.length = n := by omega
    have hmk := fun W => mk_row (P := Tryz.prog) 42 5 (.int .u8 0) 1 Tryz.underlying42 (by kernel_rfl) rfl ((bs a).size : Int) n (by rw [hsa, hn]) (by omega) (by omega) W
    have hst : (Array.replicate n (.int .u8 0 : Value)) = ((mxA a b 0).map bv).toArray := by
     unfold mxA;rw [List.take_zero, List.zipWith_nil_left, List.nil_append, Nat.sub_zero, List.map_replicate, hn];rfl
    have Hst := hide hst;have Hlen := hide (fun i (hi : i ≤ n) => (show (mxA a b i).length = n by rw [mxA_len a b hl i (by omega), hn]));have Hset := hide (fun i (h1 : i < a.length) (h2 : i < b.length) => mxA_set a b hl i h1 h2)
    have Hend : Hid (mxA a b n = List.zipWith mx a b) := hide (by
     unfold mxA
     rw [List.take_of_length_le (by omega), List.take_of_length_le (by omega), hn, Nat.sub_self, List.replicate_zero, List.append_nil])
    have Ha1 := hide a1;have Hb1 := hide b1;have Hn := hide hn;have Hnb := hide hnb;rw [hn] at hsa;rw [hnb] at hsb;obtain ⟨SA, hSA⟩ : ∃ s, bs a = s := ⟨_, rfl⟩;obtain ⟨SB, hSB⟩ : ∃ s, bs b = s := ⟨_, rfl⟩;rw [hSA] at hsa hne hmk Hga Ha ⊢;rw [hSB] at hsb hne Hgb Hb ⊢;rw [hn] at a3;have Hsa := hide hsa;have Hsb := hide hsb;clear hst a1 b1 hn hnb hSA hSB hsa hsb hal hbl a2 b2 b3 he hka hkb hl
    go_enter Tryz.func109, Tryz.ntmps109
    go_wp2_with fail
    refine (Ha.out).mono ?_;rintro x w1 ⟨rfl, hb1⟩
    go_wp2_with fail
    refine (Hb.out _).mono ?_;rintro x w2 ⟨rfl, hb2⟩;have hbb := hb1.trans (hb2.mono hb1.size);have hmk2 := hmk w2;have hk0 := Bk.new w2 5 (Array.replicate n (.int .u8 0));rw [Hst.out] at hk0;have Hk0 := hide hk0;have hb0 := hide (hbb.alloc hbb.size (.cells (Array.replicate n (.int .u8 0)) 5));have hG := hbb.size;obtain ⟨G, hGe⟩ : ∃ G, w2.heap.size = G := ⟨_, rfl⟩;rw [hGe] at hmk2 hG Hk0;rw [← Hst.out] at Hk0
    generalize w2.alloc (.cells (Array.replicate n (.int .u8 0)) 5) = W0 at *
    clear hmk Ha Hb hb1 hb2 hbb hk0 hGe;rw [Hst.out] at Hk0
    go_wp2
    go_loopw [26] (fun s26 wr => ∃ i : Nat, i ≤ n ∧ s26 = .int .i64 (i : Int) ∧ Hid (Bk wr G 5 ((mxA a b i).map bv).toArray) ∧ Hid (Below w.heap.size w wr)) (fun s26 _ => (n - intOf s26).toNat)
    case atStart => exact ⟨0, Nat.zero_le _, rfl, Hk0, hb0⟩
    case round =>
     clear Hk0 hb0 hmk2 Hst;obtain ⟨i, hi, rfl, hbk, hb⟩ := hrel
     by_cases hlt : i < n
     ·have hia : i < a.length := by rw [Hn.out]; exact hlt
      have hib : i < b.length := by rw [Hnb.out]; exact hlt
      have hga := Hga.out i hia;have hgb := Hgb.out i hib;have hxa := Ha1.out a[i] (List.getElem_mem _);have hxb := Hb1.out b[i] (List.getElem_mem _);have hs := Hset.out i hia hib;have hln := Hlen.out i hi;have hput := hbk.out.put i (bv (mx a[i] b[i]));rw [List.setIfInBounds_toArray, ← List.map_set, hs] at hput;have hcell := hbk.out.cell i;rw [List.getElem?_toArray, List.getElem?_map, List.getElem?_eq_getElem (by omega)] at hcell;have hfroz := hbk.out.frozen i;obtain ⟨old, hold⟩ : ∃ o, (Option.map bv (some (mxA a b i)[i])) = some o := ⟨_, rfl⟩;rw [hold] at hcell;have HC1 := hide (fun W => code_any a[i] W);have HC2 := hide (fun W => code_any b[i] W);have HC3 := hide (fun W => char_any (cd a[i] ^^^ cd b[i]) (xor_lt _ hxa _ hxb).1 W);rw [cdI_ok hxa] at HC1;rw [cdI_ok hxb] at HC2;have hxb2 := xor_bits hxa hxb;have hmx : mx a[i] b[i] = ch (cd a[i] ^^^ cd b[i]) := rfl;rw [hmx] at hput;have Hput := hide hput;have Hbs := hide (hb.out.setCell (p := ⟨G, i, none⟩) hG (bv (ch (cd a[i] ^^^ cd b[i]))));unfold bv at Hput Hbs
      have hga' : ∀ h : i < SA.size, ((SA[i]'h).toNat : Int) = (a[i].toNat : Int) := fun h => by rw [hga h]
      have hgb' : ∀ h : i < SB.size, ((SB[i]'h).toNat : Int) = (b[i].toNat : Int) := fun h => by rw [hgb h]
      have hiA : i < SA.size := by rw [Hsa.out]; omega
      have hiB : i < SB.size := by rw [Hsb.out]; omega
      obtain ⟨Z, hZ⟩ : ∃ z, ((ch (cd a[i] ^^^ cd b[i])).toNat : Int) = z := ⟨_, rfl⟩;rw [hZ] at Hput Hbs HC3;clear hput hs hln hold hmx hga hgb hxa hxb hZ hbk hb
      generalize (cd a[i] ^^^ cd b[i]) = M at *
      generalize cd a[i] = P at *
      generalize cd b[i] = Q at *
      have hgA := hga' hiA;have hgB := hgb' hiB
      generalize (a[i].toNat : Int) = A at *
      generalize (b[i].toNat : Int) = B at *
      have hi0 : (0 : Int) ≤ (i : Int) := by omega
      have hlti : (i : Int) < (n : Int) := by omega
      clear hga' hgb' hia hib Hset Hlen Hend Hga Hgb Ha1 Hb1
      have hsA : (i : Int) < (SA.size : Int) := by omega
      have hsB : (i : Int) < (SB.size : Int) := by omega
      go_wp2
      go_region_with (first
       | (go_at_call 133; with_reducible refine (HC3.out _).mono ?_; rintro r w9 ⟨rfl, rfl⟩)
       | (go_at_call 100; with_reducible refine (HC1.out _).mono ?_; rintro r w9 ⟨rfl, rfl⟩)
       | (go_at_call 100; with_reducible refine (HC2.out _).mono ?_; rintro r w9 ⟨rfl, rfl⟩))
      all_goals
       clear hcell hfroz HC1 HC2 HC3
       go_wp2
       go_roundw
       case rel => first | exact ⟨i + 1, hlt, by go_num, hide (Hput.out.drew), hide (Hbs.out.drew)⟩ | ((repeat apply Exists.intro); exact ⟨⟨i + 1, hlt, by go_num, hide (Hput.out.drew), hide (Hbs.out.drew)⟩, rfl⟩)
       case measure => simp [intOf] <;> omega
     ·have hin : i = n := by omega
      subst hin;have hbk2 := hbk.out;rw [Hend.out] at hbk2
      have hln : (List.zipWith mx a b).length = i := by rw [← Hend.out]; exact Hlen.out i (Nat.le_refl _)
      have hcb := run_convert_bytes_back (P := Tryz.prog) wr 42 9 5 ⟨G, 0, none⟩ i (List.zipWith mx a b) Tryz.underlying42 Tryz.underlying5 Tryz.underlying9 (fun j hj => by
       rw [Go.WideShapes.add_plain, Nat.zero_add, hbk2.cell j, List.getElem?_toArray, List.getElem?_map, List.getElem?_eq_getElem hj]
       rfl)
      rw [hln] at hcb;have hbsv : (⟨(List.zipWith mx a b).toArray⟩ : ByteArray) = bs (List.zipWith mx a b) := rfl;rw [hbsv] at hcb;obtain ⟨SR, hSR⟩ : ∃ s, bs (List.zipWith mx a b) = s := ⟨_, rfl⟩;rw [hSR] at hcb;have HSR := hide hSR;clear hbk2 hln hbsv hSR hbk Hset Hlen Hend Hga Hgb Ha1 Hb1
      go_wp2
      go_returns
      exact ⟨by rw [HSR.out]; rfl, hb.out⟩
   ·rw [if_pos hl]
    have hne : (((bs a).size : Int) != ((bs b).size : Int)) = true := by rw [hsa, hsb, bne_iff_ne]; omega
    simp only [he];clear hsa hsb he hka hkb hl
    generalize bs a = SA at *
    generalize bs b = SB at *
    go_enter Tryz.func109, Tryz.ntmps109
    go_wp2_with fail
    refine (Ha.out).mono ?_;rintro x w1 ⟨rfl, hb1⟩
    go_wp2_with fail
    refine (Hb.out _).mono ?_;rintro x w2 ⟨rfl, hb2⟩;have hbb := hb1.trans (hb2.mono hb1.size)
    go_wp2
    go_returns
    exact ⟨rfl, hbb⟩
end Go.Proofs.YtoeeblldgoccoaaGreat
