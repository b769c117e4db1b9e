/-
  Joined texts: Sq, Se, Sr.
-/
import Derived.Test.YtoeeblldgoccoaaGreatL10
import Derived.Test.YtoeeblldgoccoaaGreatL16
import Derived.Test.YtoeeblldgoccoaaGreatL13
set_option linter.unusedVariables false
set_option linter.unusedSimpArgs false
set_option maxRecDepth 100000
set_option maxHeartbeats 8000000
namespace Go.Proofs.YtoeeblldgoccoaaGreat
open Go.RowKit Go.Proofs Wv Wv.Vi Wv.Ru
def rk (s : ByteArray) : Value := match rd (toL s) with
 | none => .tuple #[.int .i64 0, .int .i64 0]
 | some x => .tuple #[.int .i64 (x.1 : Int), .int .i64 (x.2 : Int)]
theorem rk_none {s : ByteArray} (h : rd (toL s) = none) : rk s = .tuple #[.int .i64 0, .int .i64 0] := by unfold rk; rw [h]
theorem rk_some {s : ByteArray} {n z : Nat} (h : rd (toL s) = some (n, z)) : rk s = .tuple #[.int .i64 (n : Int), .int .i64 (z : Int)] := by unfold rk; rw [h]
theorem lead_shift : ∀ c : Nat, c < 256 → ∀ j : Nat, j < 8 → j ≤ lead c → (((c / 2 ^ (7 - j) % 2 : Nat)) == 1) = decide (j < lead c) := by decide +kernel
theorem vl_ge (l : List UInt8) : ∀ a, l ≠ [] → 256 * a ≤ vl a l := by
 induction l with
 | nil => intro a h; exact absurd rfl h
 | cons b t ih =>
  intro a _
  show 256 * a ≤ vl (256 * a + b.toNat) t
  by_cases ht : t = []
  ·subst ht
   show 256 * a ≤ 256 * a + b.toNat
   omega
  ·have := ih (256 * a + b.toNat) ht
   omega
theorem vl_far (a : Nat) (l : List UInt8) {m k : Nat} (h : m < k) (hk : k ≤ l.length) (hb : 36028797018963968 ≤ vl a (l.take m)) : 9223372036854775808 ≤ vl a (l.take k) := by
 have e : l.take k = l.take m ++ (l.drop m).take (k - m) := by
  rw [← List.take_add, show m + (k - m) = k from by omega]
 have e2 : vl a (l.take k) = vl (vl a (l.take m)) ((l.drop m).take (k - m)) := by
  rw [e];simp only [vl, List.foldl_append]
 rw [e2]
 have := vl_ge ((l.drop m).take (k - m)) (vl a (l.take m)) (by
  intro h2;have := congrArg List.length h2;rw [List.length_take, List.length_drop] at this
  simp at this
  omega)
 omega
theorem first_sub (c : Nat) (hc : c < 256) : 256 - 2 ^ (8 - lead c) ≤ c := by
 have h := lead_spec c
 rcases nine (lead c) (lead_le c) with e | e | e | e | e | e | e | e | e <;> rw [e] at h ⊢ <;> simp only [Nat.reducePow, Nat.reduceSub] <;> omega
theorem rread_nil {s : ByteArray} (hs : s.size = 0) (w : World) :
  Calls Tryz.prog 42 #[.string s] w fun x w' => x = .returned (.tuple #[.int .i64 0, .int .i64 0]) ∧ w = w' := by
 go_enter Tryz.func42, Tryz.ntmps42
 go_wp2
 go_returns
 exact ⟨rfl, rfl⟩
theorem rread_main {s : ByteArray} (hp : 0 < s.size) (hm : s.size ≤ 1099511627776) (w : World) :
    Calls Tryz.prog 42 #[.string s] w fun x w' => x = .returned (rk s) ∧ Below w.heap.size w w' := by
  obtain ⟨c, hf, hc0, hs⟩ := fst_of hp;have hg := hf.get hp;have hc := hf.lt;have hk8 := lead_le c;have hlim := first_lt c hc;have hfs := first_sub c hc;have hrd := rd_cons (UInt8.ofNat c) ((toL s).drop 1);rw [← hs, show (UInt8.ofNat c).toNat = c from by simp; omega, show ((toL s).drop 1).length = s.size - 1 from by rw [List.length_drop]; rfl] at hrd;have Hlb := hide (lead_shift c hc);have Hbnd := hide (rfrom_any (lead c : Int) (by omega) (by omega));rw [Int.toNat_natCast] at Hbnd;have hb8 := bnd_le (lead c) hk8;obtain ⟨k, hk⟩ : ∃ k, lead c = k := ⟨_, rfl⟩;rw [hk] at Hlb hlim hfs hrd Hbnd hk8 hb8;obtain ⟨a, ha⟩ : ∃ a, c - (256 - 2 ^ (8 - k)) = a := ⟨_, rfl⟩;rw [ha] at hlim hrd;obtain ⟨B, hB⟩ : ∃ B, bnd k = B := ⟨_, rfl⟩;rw [hB] at Hbnd hrd hb8;have Hrd := hide hrd;have Hlim := hide hlim
  have ha256 : a < 256 := by omega
  have Hk := hide (show ∀ K : Nat, k = K → c = a + (256 - 2 ^ (8 - K)) from fun K e => by subst e; omega);clear hs hc0 hf hk ha hB hrd hlim hfs
  go_enter Tryz.func42, Tryz.ntmps42
  go_wp2
  go_loop [4] (fun i => ∃ j : Nat, j ≤ k ∧ i = .int .i64 j) (fun i => (9 - intOf i).toNat)
  case atStart => exact ⟨0, by omega, rfl⟩
  case round =>
    obtain ⟨j, hj, rfl⟩ := hrel
    by_cases hjk : j < k
    · have hb := Hlb.out j (by omega) hj
      rw [decide_eq_true hjk, beq_iff_eq] at hb
      have hj8 : j < 8 := by omega
      have hz : j = 0 ∨ j = 1 ∨ j = 2 ∨ j = 3 ∨ j = 4 ∨ j = 5 ∨ j = 6 ∨ j = 7 := by omega
      rcases hz with rfl | rfl | rfl | rfl | rfl | rfl | rfl | rfl
      all_goals
        simp only [Nat.reducePow, Nat.reduceSub] at hb
        go_wp2
        go_round
        case rel => exact ⟨_, hjk, by rfl⟩
        case measure => simp [intOf] <;> omega
    · have hjk2 : j = k := by omega
      subst hjk2
      have hlbj : j < 8 → c / 2 ^ (7 - j) % 2 ≠ 1 := fun h8 => by
        have := Hlb.out j h8 (Nat.le_refl _);rw [decide_eq_false hjk, beq_eq_false_iff_ne] at this;exact this
      by_cases hsz : s.size < j + 1
      · have hpk := hide (rk_none (by rw [Hrd.out, if_pos (by omega)]))
        have hz := nine j hk8;clear Hlb Hbnd Hrd Hlim Hk
        rcases hz with rfl | rfl | rfl | rfl | rfl | rfl | rfl | rfl | rfl
        all_goals
          simp only [Nat.reducePow, Nat.reduceSub, Nat.reduceLT, forall_const, false_implies] at hlbj
          go_wp2
        all_goals
          go_returns
          exact ⟨ret_of hpk.out.symm, Below.refl _ _⟩
      · have hcase : (j < 8 ∧ (((c : Int) / 2 ^ (7 - j)).tmod 2 == 1) = false) ∨ 8 ≤ j := by
          by_cases h8 : j < 8
          · refine .inl ⟨h8, ?_⟩
            have e : (c : Int) / 2 ^ (7 - j) = ((c / 2 ^ (7 - j) : Nat) : Int) := by rw [Int.natCast_ediv, Int.natCast_pow]; rfl
            have e2 : (((c / 2 ^ (7 - j) : Nat) : Int)).tmod 2 = ((c / 2 ^ (7 - j) % 2 : Nat) : Int) := rfl;have := hlbj h8;rw [e, e2, beq_eq_false_iff_ne];omega
          · exact .inr (by omega)
        clear hlbj
        rcases hcase with ⟨h8, hb⟩ | h8
        all_goals
          go_wp2
        all_goals
         go_cut [5] (fun n wx => n = .int .i64 (a : Int) ∧ Below w.heap.size w wx)
         case first =>
           have hz := nine j hk8;clear Hlb Hbnd Hrd Hlim
           rcases hz with rfl | rfl | rfl | rfl | rfl | rfl | rfl | rfl | rfl
           all_goals
             have hca := Hk.out _ rfl;simp only [Nat.reducePow, Nat.reduceSub, Nat.reduceLT, forall_const, false_implies] at hca
             go_quiet (fail)
             go_wp2
             go_meet
             case rel => exact ⟨by go_num, bdN (Below.refl _ _) nq⟩
         case rest =>
           obtain ⟨rfl, hbw⟩ := hcut;clear Hlb Hk
           go_wp2
           go_loopw [5, 6] (fun n i wr => ∃ m : Nat, 1 ≤ m ∧ m ≤ j + 1 ∧ i = .int .i64 m ∧ n = .int .i64 ((vl a (((toL s).drop 1).take (m - 1)) : Nat) : Int) ∧ Below w.heap.size w wr) (fun _ i _ => (j + 2 - intOf i).toNat)
           case atStart => exact ⟨1, by omega, by omega, rfl, by simp [vl], hbw⟩
           case round =>
             clear hbw;obtain ⟨m, hm1, hmj, rfl, rfl, hf⟩ := hrel;have hvl := vl_lt (((toL s).drop 1).take (m - 1)) a
             have hdl : ((toL s).drop 1).length = s.size - 1 := by rw [List.length_drop]; rfl
             by_cases hmk : m ≤ j
             · have hms : m < s.size := by omega
               have Hst := hide (vl_take_byte a m s hm1 hms);have hfar := vl_far a ((toL s).drop 1) (m := m - 1) (k := j) (by omega) (by omega);have hrd9 := Hrd.out;rw [if_neg (by omega)] at hrd9;obtain ⟨y, hy⟩ : ∃ y, (s[m]).toNat = y := ⟨_, rfl⟩
               have hy8 : y < 256 := by rw [← hy]; exact UInt8.toNat_lt _
               rw [hy] at Hst;obtain ⟨v, hv⟩ : ∃ v, vl a (((toL s).drop 1).take (m - 1)) = v := ⟨_, rfl⟩;rw [hv] at Hst hfar ⊢
               by_cases hbig : 36028797018963968 ≤ v
               · have hff := hfar hbig
                 have hpk := hide (rk_none (by rw [hrd9, if_pos (by omega)]))
                 have i1 : (36028797018963967 : Int) < (v : Int) := by omega
                 clear hff hfar hrd9 hvl hv hy hbig Hst Hrd Hlim
                 go_wp2
                 go_returns
                 exact ⟨ret_of hpk.out.symm, hf⟩
               · have i1 : ¬ (36028797018963967 : Int) < (v : Int) := by omega
                 have i2 : ((s[m]).toNat : Int) = (y : Int) := by rw [hy]
                 have i3 : (v : Int) ≤ 36028797018963967 := by omega
                 clear hfar hrd9 hvl hv hbig
                 go_wp2
                 refine ⟨⟨m + 1, by omega, by omega, by go_num, by rw [Nat.add_sub_cancel, Hst.out]; go_num, hf⟩, ?_⟩
                 simp [intOf]; omega
             · have hmj2 : m = j + 1 := by omega
               subst hmj2;rw [Nat.add_sub_cancel] at hvl ⊢
               have hlen : (((toL s).drop 1).take j).length = j := by
                 rw [List.length_take, hdl]; omega
               rw [hlen] at hvl;have hv64 := Nat.lt_of_lt_of_le hvl Hlim.out.1;obtain ⟨v, hv⟩ : ∃ v, vl a (((toL s).drop 1).take j) = v := ⟨_, rfl⟩;rw [hv] at hv64 ⊢;have Hrd2 := Hrd.out;rw [hv, if_neg (by omega)] at Hrd2;have Hbs := Hbnd.out;clear hvl hlen hv Hbnd Hlim Hrd
               by_cases hov : 9223372036854775807 < v + B
               · rw [if_pos hov] at Hrd2
                 have hpk := hide (rk_none Hrd2)
                 have i2 : (9223372036854775807 : Int) - (B : Int) < (v : Int) := by omega
                 clear Hrd2 hov
                 go_wp2_with (go_at_call 68; refine (Hbs _).mono ?_; rintro e w' ⟨rfl, rfl⟩)
                 go_returns
                 exact ⟨ret_of hpk.out.symm, hf⟩
               · rw [if_neg hov] at Hrd2
                 have hpk := hide (rk_some Hrd2)
                 have i2 : ¬ (9223372036854775807 : Int) - (B : Int) < (v : Int) := by omega
                 clear Hrd2
                 go_wp2_with (go_at_call 68; refine (Hbs _).mono ?_; rintro e w' ⟨rfl, rfl⟩)
                 go_returns
                 exact ⟨ret_of (by rw [hpk.out]; push_cast; rfl), hf⟩
theorem rread_any {s : ByteArray} (hm : s.size ≤ 1099511627776) (w : World) :
  Calls Tryz.prog 42 #[.string s] w fun x w' => x = .returned (rk s) ∧ Below w.heap.size w w' := by
 by_cases hp : 0 < s.size
 ·exact rread_main hp hm w
 ·have hs : s.size = 0 := by omega
  refine (rread_nil hs w).mono ?_;rintro x w' ⟨rfl, rfl⟩;have : toL s = [] := List.eq_nil_of_length_eq_zero hs;exact ⟨ret_of (rk_none (by rw [this]; rfl)).symm, Below.refl _ _⟩
end Go.Proofs.YtoeeblldgoccoaaGreat
namespace Go.Proofs.YtoeeblldgoccoaaGreat
open Go.RowKit Go.Proofs Wv Wv.Vi Wv.Rc
theorem RB.en {w : World} {b : Nat} {A : Option Addr} {cap : Nat} {e : En} (h : RB w b A cap e) : REn w (.agg #[.slice A e.out.length cap, .int .i64 (e.low : Int), .int .i64 (e.size : Int)]) e := ⟨A, cap, rfl, h.2⟩
theorem bv_not (o : List UInt8) (A : Option Addr) (n cap : Nat) (x y : Int) : ∀ v ∈ o.map bv, v ∉ (#[.slice A n cap, .int .i64 x, .int .i64 y] : Array Value).toList := fun v hv => by
 obtain ⟨y, _, rfl⟩ := List.mem_map.1 hv
 simp [bv]
theorem RB.putAll {w : World} {b : Nat} {A A' : Option Addr} {cap cap' : Nat} {e e' : En} (h : RB w b A cap e) (ha : At w A' (e'.out.map bv)) :
  RB (((w.setCell ⟨b, 0, none⟩ (.slice A' e'.out.length cap')).setCell ⟨b, 1, none⟩ (.int .i64 (e'.low : Int))).setCell ⟨b, 2, none⟩ (.int .i64 (e'.size : Int))) b A' cap' e' :=
 ((h.put0 ha).put1 e'.low).put2 e'.size
theorem res_end {w : World} {b r : Nat} {A : Option Addr} {cap : Nat} {e : En} {cs : Array Value} (h : RB w b A cap e) (hr : Bk w r 122 cs) (hc : cs = #[.slice none 0 0, .int .i64 0, .int .i64 0]) :
  ∃ W, ((w.setCell ⟨r, 0, none⟩ (.slice A e.out.length cap)).setCell ⟨r, 1, none⟩ (.int .i64 (e.low : Int))).setCell ⟨r, 2, none⟩ (.int .i64 (e.size : Int)) = W ∧ W.cell? ⟨r, 0, none⟩ = some (.slice A e.out.length cap) ∧ W.cell? ⟨r, 1, none⟩ = some (.int .i64 (e.low : Int)) ∧ W.cell? ⟨r, 2, none⟩ = some (.int .i64 (e.size : Int)) ∧
   REn W (.agg #[.slice A e.out.length cap, .int .i64 (e.low : Int), .int .i64 (e.size : Int)]) e ∧ Fr (only r) w W := by
 subst hc
 have hf : Fr (only r) w (((w.setCell ⟨r, 0, none⟩ (.slice A e.out.length cap)).setCell ⟨r, 1, none⟩ (.int .i64 (e.low : Int))).setCell ⟨r, 2, none⟩ (.int .i64 (e.size : Int))) :=
  (((Fr.refl (only r) w).setCell (p := ⟨r, 0, none⟩) (.inl rfl) _).setCell (p := ⟨r, 1, none⟩) (.inl rfl) _).setCell (p := ⟨r, 2, none⟩) (.inl rfl) _
 have hk := ((hr.put 0 (.slice A e.out.length cap)).put 1 (.int .i64 (e.low : Int))).put 2 (.int .i64 (e.size : Int));exact ⟨_, rfl, hk.cell 0, hk.cell 1, hk.cell 2, ⟨A, cap, rfl, at_only h.2 hr (bv_not _ _ _ _ _ _) hf⟩, hf⟩
theorem own_below {w w' : World} {r : Nat} (hf : Fr (only r) w w') {B : Nat} (hB : B ≤ w.heap.size) (hr : B ≤ r) : Below B w w' := hf.toBelow' hB (fun j hj e => by have : j = r := e; omega)
theorem fdirect_any {w : World} {v : Value} {e : En} (h : REn w v e) (hv : Val 0 e) (n u : Nat) (hn : n ≤ 62) (hu : u ≤ 9223372036854775807) (hl : e.out.length ≤ 900000) :
  Calls Tryz.prog 150 #[v, .int .i64 (n : Int), .int .i64 (u : Int)] w fun x w' => ∃ v', x = .returned v' ∧ REn w' v' (edir n u e) ∧ Below w.heap.size w w' := by
 obtain ⟨A, cap, rfl, hat⟩ := h;have ha := and1
 have hrb0 : RB ((w.alloc (.cells #[.slice A e.out.length cap, .int .i64 (e.low : Int), .int .i64 (e.size : Int)] 122)).alloc (.cells #[.slice none 0 0, .int .i64 0, .int .i64 0] 122)) w.heap.size A cap e :=
  RB.alloc ⟨Bk.new _ _ _, hat.alloc _⟩ _
 have hbel0 := (((Below.refl w.heap.size w).alloc (Nat.le_refl _) (.cells #[.slice A e.out.length cap, .int .i64 (e.low : Int), .int .i64 (e.size : Int)] 122)).alloc (by simp) (.cells #[.slice none 0 0, .int .i64 0, .int .i64 0] 122));have hres0 := (Bk.new (w.alloc (.cells #[.slice A e.out.length cap, .int .i64 (e.low : Int), .int .i64 (e.size : Int)] 122)) 122 #[.slice none 0 0, .int .i64 0, .int .i64 0]);simp only [World.size_alloc] at hres0;have Hrb0 := hide hrb0;have Hbel0 := hide hbel0;have Hres0 := hide hres0;clear hrb0 hbel0 hres0 hat
 go_enter Tryz.func150, Tryz.ntmps150
 go_wp2
 go_loopw [7] (fun i wr => ∃ (j : Nat) (A' : Option Addr) (cap' : Nat), j ≤ n ∧ i = .int .i64 ((j : Int) - 1) ∧ RB wr w.heap.size A' cap' (edir (n - j) (u / 2 ^ j) e) ∧ Bk wr (w.heap.size + 1) 122 #[.slice none 0 0, .int .i64 0, .int .i64 0] ∧ Below w.heap.size w wr) (fun i _ => (intOf i + 1).toNat)
 case atStart => exact ⟨n, A, cap, by omega, rfl, by rw [Nat.sub_self]; exact Hrb0.out, Hres0.out, Hbel0.out⟩
 case round =>
  clear Hrb0 Hbel0 Hres0;obtain ⟨j, A1, cap1, hj, rfl, hx, hres, hf⟩ := hrel
  by_cases hlt : 0 < j
  ·obtain ⟨k, rfl⟩ : ∃ k, j = k + 1 := ⟨j - 1, by omega⟩
   have hg := edir_grow n k u e (by omega);have hlen := edir_len (n - (k + 1)) (u / 2 ^ (k + 1)) e;have hval := edir_val (n - (k + 1)) (u / 2 ^ (k + 1)) hv
   have i1 : ((k + 1 : Nat) : Int) - 1 = (k : Int) := by omega
   rw [i1];obtain ⟨E, hE⟩ : ∃ E, edir (n - (k + 1)) (u / 2 ^ (k + 1)) e = E := ⟨_, rfl⟩;obtain ⟨y, hy⟩ : ∃ y, u / 2 ^ k % 2 = y := ⟨_, rfl⟩
   have hy2 : y < 2 := by omega
   have i2 : (u : Int) / 2 ^ k % 2 = (y : Int) := by rw [← hy, Int.natCast_emod, Int.natCast_ediv, Int.natCast_pow]; rfl
   rw [hE] at hg hlen hval hx;rw [hy] at hg;have Hb := hide (fbit_any hx.drew.en hval 1024 y (by omega) (by omega) hy2 (by omega));have Hg := hide hg;have c0 : wr.cell? ⟨w.heap.size, 0, none⟩ = some (.slice A1 E.out.length cap1) := hx.1.cell 0;have c1 : wr.cell? ⟨w.heap.size, 1, none⟩ = some (.int .i64 (E.low : Int)) := hx.1.cell 1;have c2 : wr.cell? ⟨w.heap.size, 2, none⟩ = some (.int .i64 (E.size : Int)) := hx.1.cell 2;have Hx := hide hx;have Hres := hide hres;have Hf := hide hf
   have hkn : k < 63 := by omega
   clear hg hE hy hx hlen hval hres hf
   go_wp2
   go_region_with ((go_at_call 177; refine (Hb.out).mono ?_; rintro x w2 ⟨v2, rfl, ⟨A2, cap2, rfl, hat2⟩, hb2⟩; have hrb2 := Hx.out.drew.below hb2; have p0 := hrb2.1.frozen 0; have p1 := hrb2.1.frozen 1; have p2 := hrb2.1.frozen 2; have q0 : w2.cell? ⟨w.heap.size, 0, none⟩ = some (.slice A1 E.out.length cap1) := hrb2.1.cell 0; have q1 : w2.cell? ⟨w.heap.size, 1, none⟩ = some (.int .i64 (E.low : Int)) := hrb2.1.cell 1; have q2 : w2.cell? ⟨w.heap.size, 2, none⟩ = some (.int .i64 (E.size : Int)) := hrb2.1.cell 2; have Hrb2 := hide hrb2; have Hat2 := hide hat2; have Hb2 := hide hb2; clear hrb2 hat2 hb2))
   all_goals
    go_wp2
    refine ⟨⟨k, A2, cap2, by omega, rfl, ?_, ?_, ?_⟩, ?_⟩
    ·rw [Hg.out]
     exact Hrb2.out.putAll Hat2.out
    ·exact (((Hres.out.drew.below Hb2.out Hres.out.lt).off (p := ⟨w.heap.size, 0, none⟩) (by simp) _).off (p := ⟨w.heap.size, 1, none⟩) (by simp) _).off (p := ⟨w.heap.size, 2, none⟩) (by simp) _
    ·exact (((Hf.out.drew.trans (Hb2.out.mono Hf.out.size)).setCell (p := ⟨w.heap.size, 0, none⟩) (Nat.le_refl _) _).setCell (p := ⟨w.heap.size, 1, none⟩) (Nat.le_refl _) _).setCell (p := ⟨w.heap.size, 2, none⟩) (Nat.le_refl _) _
    ·simp [intOf] <;> omega
  ·have hj0 : j = 0 := by omega
   subst hj0;rw [Nat.sub_zero, Nat.pow_zero, Nat.div_one] at hx;obtain ⟨E, hE⟩ : ∃ E, edir n u e = E := ⟨_, rfl⟩;rw [hE] at hx;have HE := hide hE;obtain ⟨WF, hWF, u0, u1, u2, hren, hfr⟩ := res_end hx hres rfl;have c0 : wr.cell? ⟨w.heap.size, 0, none⟩ = some (.slice A1 E.out.length cap1) := hx.1.cell 0;have c1 : wr.cell? ⟨w.heap.size, 1, none⟩ = some (.int .i64 (E.low : Int)) := hx.1.cell 1;have c2 : wr.cell? ⟨w.heap.size, 2, none⟩ = some (.int .i64 (E.size : Int)) := hx.1.cell 2;have z0 : wr.cell? ⟨w.heap.size + 1, 0, none⟩ = some (.slice none 0 0) := hres.cell 0;have z1 : wr.cell? ⟨w.heap.size + 1, 1, none⟩ = some (.int .i64 0) := hres.cell 1;have z2 : wr.cell? ⟨w.heap.size + 1, 2, none⟩ = some (.int .i64 0) := hres.cell 2;have y0 := hres.frozen 0;have y1 := hres.frozen 1;have y2 := hres.frozen 2;have hbe := own_below hfr hf.size (show w.heap.size ≤ w.heap.size + 1 by omega);have Hren := hide hren;have Hbe := hide (hf.trans hbe);have HWF := hide hWF;clear hx hres hf hren hbe hfr hWF hE
   go_wp2
   rw [HWF.out];clear c0 c1 c2 z0 z1 z2 y0 y1 y2;refine bodyPost_ret (by simp [results, Tryz.results150, go_sem, u0, u1, u2]; try rfl) rfl ?_;exact ⟨_, rfl, by rw [HE.out]; exact Hren.out, Hbe.out⟩
theorem conv_at {P : Program} (src dst e : TypeId) (hs : P.underlying src = some (.slice e)) (he : P.underlying e = some (.int .u8)) (hd : P.underlying dst = some .string) {w : World} {A : Option Addr} {l : List UInt8} (h : At w A (l.map bv)) (cap : Nat) :
  (convert src dst (.slice A l.length cap)).run P w = .ok (.string (bs l)) w := by
 cases A with
 | none =>
  have hl : l = [] := by
   rcases l with _ | ⟨c, t⟩
   ·rfl
   ·obtain ⟨b, p, h, _⟩ := h 0 (by simp)
    cases h
  subst hl;exact run_convert_bytes_nil w src e hs he 0 cap dst hd
 | some a =>
  refine run_convert_bytes_back w src dst e a cap l hs he hd (fun j hj => ?_);obtain ⟨b, o, hA, hb, hc⟩ := h j (by rw [List.length_map]; exact hj)
  injection hA with hA
  subst hA;rw [Go.WideShapes.add_plain, hc]
  simp [bv]
theorem ffinish_any {w : World} {v : Value} {e : En} (h : REn w v e) (hlow : e.low < 4294967296) (hl : e.out.length ≤ 1000000) :
  Calls Tryz.prog 113 #[v] w fun x w' => x = .returned (.string (bs (efin e))) ∧ Below w.heap.size w w' := by
 obtain ⟨A, cap, rfl, hat⟩ := h;obtain ⟨a1, h1⟩ : ∃ a, e.low / 16777216 = a := ⟨_, rfl⟩;obtain ⟨a2, h2⟩ : ∃ a, e.low / 65536 % 256 = a := ⟨_, rfl⟩;obtain ⟨a3, h3⟩ : ∃ a, e.low / 256 % 256 = a := ⟨_, rfl⟩;obtain ⟨a4, h4⟩ : ∃ a, e.low % 256 = a := ⟨_, rfl⟩
 have i1 : (e.low : Int) / 16777216 = (a1 : Int) := by omega
 have i2 : (e.low : Int) / 65536 % 256 = (a2 : Int) := by omega
 have i3 : (e.low : Int) / 256 % 256 = (a3 : Int) := by omega
 have i4 : (e.low : Int) % 256 = (a4 : Int) := by omega
 have j1 : (a1 : Int) % 256 = (a1 : Int) := by omega
 have H1 := hide h1;have H2 := hide h2;have H3 := hide h3;have H4 := hide h4
 have l1 : a1 < 256 := by omega
 have l2 : a2 < 256 := by omega
 have l3 : a3 < 256 := by omega
 have l4 : a4 < 256 := by omega
 clear h1 h2 h3 h4;have hcv1 := conv_at (P := Tryz.prog) 42 9 5 Tryz.underlying42 Tryz.underlying5 Tryz.underlying9 (hat.alloc (.cells #[.slice A e.out.length cap, .int .i64 (e.low : Int), .int .i64 (e.size : Int)] 122)) cap;have hb2 : Below w.heap.size w ((w.alloc (.cells #[.slice A e.out.length cap, .int .i64 (e.low : Int), .int .i64 (e.size : Int)] 122)).alloc (.cells #[.int .u8 (a1 : Int), .int .u8 (a2 : Int), .int .u8 (a3 : Int), .int .u8 (a4 : Int)] 5)) := ((Below.refl _ _).alloc (Nat.le_refl _) _).alloc (by simp) _
 have hK : Bk ((w.alloc (.cells #[.slice A e.out.length cap, .int .i64 (e.low : Int), .int .i64 (e.size : Int)] 122)).alloc (.cells #[.int .u8 (a1 : Int), .int .u8 (a2 : Int), .int .u8 (a3 : Int), .int .u8 (a4 : Int)] 5)) (w.heap.size + 1) 5 #[.int .u8 (a1 : Int), .int .u8 (a2 : Int), .int .u8 (a3 : Int), .int .u8 (a4 : Int)] := by
  have := Bk.new (w.alloc (.cells #[.slice A e.out.length cap, .int .i64 (e.low : Int), .int .i64 (e.size : Int)] 122)) 5 #[.int .u8 (a1 : Int), .int .u8 (a2 : Int), .int .u8 (a3 : Int), .int .u8 (a4 : Int)];rw [World.size_alloc] at this;exact this
 have hcv2 : (convert 42 9 (.slice (some ⟨w.heap.size + 1, 0, none⟩) 4 4)).run Tryz.prog ((w.alloc (.cells #[.slice A e.out.length cap, .int .i64 (e.low : Int), .int .i64 (e.size : Int)] 122)).alloc (.cells #[.int .u8 (a1 : Int), .int .u8 (a2 : Int), .int .u8 (a3 : Int), .int .u8 (a4 : Int)] 5)) = .ok (.string (bs [UInt8.ofNat a1, UInt8.ofNat a2, UInt8.ofNat a3, UInt8.ofNat a4])) ((w.alloc (.cells #[.slice A e.out.length cap, .int .i64 (e.low : Int), .int .i64 (e.size : Int)] 122)).alloc (.cells #[.int .u8 (a1 : Int), .int .u8 (a2 : Int), .int .u8 (a3 : Int), .int .u8 (a4 : Int)] 5)) := by
  refine run_convert_bytes_back _ 42 9 5 ⟨w.heap.size + 1, 0, none⟩ 4 [UInt8.ofNat a1, UInt8.ofNat a2, UInt8.ofNat a3, UInt8.ofNat a4] Tryz.underlying42 Tryz.underlying5 Tryz.underlying9 (fun j hj => ?_);have hj4 : j < 4 := hj;rw [Go.WideShapes.add_plain, Nat.zero_add, hK.cell]
  have : j = 0 ∨ j = 1 ∨ j = 2 ∨ j = 3 := by omega
  rcases this with rfl | rfl | rfl | rfl <;> simp [Nat.mod_eq_of_lt, *]
 have hsz : (bs e.out).size ≤ 1000000 := by rw [bs_size]; exact hl
 have hsz2 : (bs [UInt8.ofNat a1, UInt8.ofNat a2, UInt8.ofNat a3, UInt8.ofNat a4]).size = 4 := rfl
 have Hr := hide (show bs e.out ++ bs [UInt8.ofNat a1, UInt8.ofNat a2, UInt8.ofNat a3, UInt8.ofNat a4] = bs (efin e) from by
  rw [bs_append, efin, be4, ← H1.out, ← H2.out, ← H3.out, ← H4.out]
  have q : ∀ x : Nat, UInt8.ofNat (x % 256) = UInt8.ofNat x := fun x => by apply UInt8.toNat_inj.1; simp
  rw [q, q, q])
 generalize bs e.out = s1 at *
 generalize bs [UInt8.ofNat a1, UInt8.ofNat a2, UInt8.ofNat a3, UInt8.ofNat a4] = s2 at *
 have Hb2 := hide hb2;clear hat hK hb2 l1 l2 l3 l4 hlow hl
 go_enter Tryz.func113, Tryz.ntmps113
 go_wp2
 go_returns
 exact ⟨ret_str Hr.out, Hb2.out⟩
def DB (w : World) (b : Nat) (d : De) : Prop := Bk w b 140 #[.string (bs d.rest), .int .i64 (d.code : Int), .int .i64 (d.size : Int), .bool d.miss, .bool d.full]
def dzero : De := ⟨[], 0, 0, false, false⟩
theorem DB.drewN {w : World} {b : Nat} {d : De} (h : DB w b d) (n : Nat) : DB (w.drewN n) b d := h
theorem DB.drew {w : World} {b : Nat} {d : De} (h : DB w b d) : DB w.drew b d := h
theorem DB.fr {S : Nat → Prop} {w w' : World} {b : Nat} {d : De} (h : DB w b d) (hf : Fr S w w') (hS : ¬ S b) : DB w' b d := Bk.fr h hf hS
theorem DB.below {w w' : World} {b : Nat} {d : De} (h : DB w b d) (hb : Below w.heap.size w w') : DB w' b d := Bk.below h hb (Bk.lt h)
theorem DB.alloc {w : World} {b : Nat} {d : De} (h : DB w b d) (o : Obj) : DB (w.alloc o) b d := Bk.alloc h o
theorem DB.off {w : World} {b : Nat} {d : De} (h : DB w b d) {b' : Nat} (hne : b' ≠ b) (k : Nat) (x : Value) : DB (w.setCell ⟨b', k, none⟩ x) b d := Bk.off h (p := ⟨b', k, none⟩) (Ne.symm hne) x
theorem DB.put0 {w : World} {b : Nat} {d : De} (h : DB w b d) (x : List UInt8) : DB (w.setCell ⟨b, 0, none⟩ (.string (bs x))) b { d with rest := x } := by simpa [DB] using Bk.put h 0 (.string (bs x))
theorem DB.put1 {w : World} {b : Nat} {d : De} (h : DB w b d) (x : Nat) : DB (w.setCell ⟨b, 1, none⟩ (.int .i64 (x : Int))) b { d with code := x } := by simpa [DB] using Bk.put h 1 (.int .i64 (x : Int))
theorem DB.put2 {w : World} {b : Nat} {d : De} (h : DB w b d) (x : Nat) : DB (w.setCell ⟨b, 2, none⟩ (.int .i64 (x : Int))) b { d with size := x } := by simpa [DB] using Bk.put h 2 (.int .i64 (x : Int))
theorem DB.put3 {w : World} {b : Nat} {d : De} (h : DB w b d) (x : Bool) : DB (w.setCell ⟨b, 3, none⟩ (.bool x)) b { d with miss := x } := by simpa [DB] using Bk.put h 3 (.bool x)
theorem DB.put4 {w : World} {b : Nat} {d : De} (h : DB w b d) (x : Bool) : DB (w.setCell ⟨b, 4, none⟩ (.bool x)) b { d with full := x } := by simpa [DB] using Bk.put h 4 (.bool x)
theorem DB.putAll {w : World} {b : Nat} {d : De} (h : DB w b d) (e : De) : DB (((((w.setCell ⟨b, 0, none⟩ (.string (bs e.rest))).setCell ⟨b, 1, none⟩ (.int .i64 (e.code : Int))).setCell ⟨b, 2, none⟩ (.int .i64 (e.size : Int))).setCell ⟨b, 3, none⟩ (.bool e.miss)).setCell ⟨b, 4, none⟩ (.bool e.full)) b e :=
 ((((h.put0 e.rest).put1 e.code).put2 e.size).put3 e.miss).put4 e.full
theorem Fr.five {w : World} (b : Nat) (x0 x1 x2 x3 x4 : Value) : Fr (only b) w (((((w.setCell ⟨b, 0, none⟩ x0).setCell ⟨b, 1, none⟩ x1).setCell ⟨b, 2, none⟩ x2).setCell ⟨b, 3, none⟩ x3).setCell ⟨b, 4, none⟩ x4) :=
 only_set (only_set (only_set (only_set (only_set (Fr.refl _ _) 0 _) 1 _) 2 _) 3 _) 4 _
theorem DB.cells {w : World} {b : Nat} {d : De} (h : DB w b d) : w.cell? ⟨b, 0, none⟩ = some (.string (bs d.rest)) ∧ w.cell? ⟨b, 1, none⟩ = some (.int .i64 (d.code : Int)) ∧ w.cell? ⟨b, 2, none⟩ = some (.int .i64 (d.size : Int)) ∧ w.cell? ⟨b, 3, none⟩ = some (.bool d.miss) ∧ w.cell? ⟨b, 4, none⟩ = some (.bool d.full) :=
 ⟨Bk.cell h 0, Bk.cell h 1, Bk.cell h 2, Bk.cell h 3, Bk.cell h 4⟩
theorem dres_endB {w0 w : World} {r : Nat} {z : De} (d : De) (hr : DB w r z) (hb : Below w0.heap.size w0 w) (h0 : w0.heap.size ≤ r) :
  ∃ W, (((((w.setCell ⟨r, 0, none⟩ (.string (bs d.rest))).setCell ⟨r, 1, none⟩ (.int .i64 (d.code : Int))).setCell ⟨r, 2, none⟩ (.int .i64 (d.size : Int))).setCell ⟨r, 3, none⟩ (.bool d.miss)).setCell ⟨r, 4, none⟩ (.bool d.full)) = W ∧ W.cell? ⟨r, 0, none⟩ = some (.string (bs d.rest)) ∧ W.cell? ⟨r, 1, none⟩ = some (.int .i64 (d.code : Int)) ∧ W.cell? ⟨r, 2, none⟩ = some (.int .i64 (d.size : Int)) ∧ W.cell? ⟨r, 3, none⟩ = some (.bool d.miss) ∧ W.cell? ⟨r, 4, none⟩ = some (.bool d.full) ∧ Below w0.heap.size w0 W := by
 have hk := hr.putAll d;have hb2 := hb.trans (own_below (Fr.five r (.string (bs d.rest)) (.int .i64 (d.code : Int)) (.int .i64 (d.size : Int)) (.bool d.miss) (.bool d.full)) hb.size h0);have hk3 := hk;have hb3 := hb2;clear hk hb2
 generalize (((((w.setCell ⟨r, 0, none⟩ (.string (bs d.rest))).setCell ⟨r, 1, none⟩ (.int .i64 (d.code : Int))).setCell ⟨r, 2, none⟩ (.int .i64 (d.size : Int))).setCell ⟨r, 3, none⟩ (.bool d.miss)).setCell ⟨r, 4, none⟩ (.bool d.full)) = W at *
 obtain ⟨k0, k1, k2, k3, k4⟩ := DB.cells hk3;exact ⟨W, rfl, k0, k1, k2, k3, k4, hb3⟩
theorem dres_endD {w0 w : World} {r : Nat} {z : De} (d : De) (hr : DB w r z) (hb : Below w0.heap.size w0 w) (h0 : w0.heap.size ≤ r) :
  ∃ W, (((((w.setCell ⟨r, 0, none⟩ (.string (bs d.rest))).setCell ⟨r, 1, none⟩ (.int .i64 (d.code : Int))).setCell ⟨r, 2, none⟩ (.int .i64 (d.size : Int))).setCell ⟨r, 3, none⟩ (.bool d.miss)).setCell ⟨r, 4, none⟩ (.bool d.full)).drew = W ∧ W.cell? ⟨r, 0, none⟩ = some (.string (bs d.rest)) ∧ W.cell? ⟨r, 1, none⟩ = some (.int .i64 (d.code : Int)) ∧ W.cell? ⟨r, 2, none⟩ = some (.int .i64 (d.size : Int)) ∧ W.cell? ⟨r, 3, none⟩ = some (.bool d.miss) ∧ W.cell? ⟨r, 4, none⟩ = some (.bool d.full) ∧ Below w0.heap.size w0 W := by
 have hk := hr.putAll d;have hb2 := hb.trans (own_below (Fr.five r (.string (bs d.rest)) (.int .i64 (d.code : Int)) (.int .i64 (d.size : Int)) (.bool d.miss) (.bool d.full)) hb.size h0);have hk3 := DB.drew hk;have hb3 := hb2.drew;clear hk hb2
 generalize (((((w.setCell ⟨r, 0, none⟩ (.string (bs d.rest))).setCell ⟨r, 1, none⟩ (.int .i64 (d.code : Int))).setCell ⟨r, 2, none⟩ (.int .i64 (d.size : Int))).setCell ⟨r, 3, none⟩ (.bool d.miss)).setCell ⟨r, 4, none⟩ (.bool d.full)).drew = W at *
 obtain ⟨k0, k1, k2, k3, k4⟩ := DB.cells hk3;exact ⟨W, rfl, k0, k1, k2, k3, k4, hb3⟩
theorem DB.frozens {w : World} {b : Nat} {d : De} (h : DB w b d) : w.frozen? ⟨b, 0, none⟩ = false ∧ w.frozen? ⟨b, 1, none⟩ = false ∧ w.frozen? ⟨b, 2, none⟩ = false ∧ w.frozen? ⟨b, 3, none⟩ = false ∧ w.frozen? ⟨b, 4, none⟩ = false :=
 ⟨Bk.frozen h 0, Bk.frozen h 1, Bk.frozen h 2, Bk.frozen h 3, Bk.frozen h 4⟩
theorem two_below (w : World) (o p : Obj) : Below w.heap.size w ((w.alloc o).alloc p) := ((Below.refl w.heap.size w).alloc (Nat.le_refl _) _).alloc (by simp) _
theorem fnext_any (d : De) (hc : d.code < 4294967296) (w : World) :
  Calls Tryz.prog 155 #[.agg #[.string (bs d.rest), .int .i64 (d.code : Int), .int .i64 (d.size : Int), .bool d.miss, .bool d.full]] w fun x w' => x = .returned (.agg #[.string (bs (dnext d).rest), .int .i64 ((dnext d).code : Int), .int .i64 ((dnext d).size : Int), .bool (dnext d).miss, .bool (dnext d).full]) ∧ Below w.heap.size w w' := by
 obtain ⟨X, hX⟩ : ∃ X, d.code * 256 % 4294967296 = X := ⟨_, rfl⟩
 have i1 : ((d.code : Int) * 256) % 4294967296 = (X : Int) := by omega
 match hr : d.rest with
 | [] =>
  have hn : dnext d = ⟨[], X, d.size, true, d.full⟩ := by unfold dnext; rw [hr]; simp only [hX]
  have Hn := hide hn;have hs : (bs []).size = 0 := rfl;have hem := emp1 hs;obtain ⟨s, hss⟩ : ∃ s, bs [] = s := ⟨_, rfl⟩;rw [hss] at hem ⊢;have Hss := hide hss
  have hc2 : (d.code : Int) < 4294967296 := by omega
  clear hn hr hX hss hs hc
  go_enter Tryz.func155, Tryz.ntmps155
  go_wp2
  go_returns
  rw [Hn.out];exact ⟨by rw [Hss.out], two_below _ _ _⟩
 | c :: t =>
  have hn : dnext d = ⟨t, X + c.toNat, d.size, d.miss, d.full⟩ := by unfold dnext; rw [hr]; simp only [hX]
  have hs : 0 < (bs (c :: t)).size := by rw [bs_size]; simp
  have hem := emp0 hs;have hex := ext_drop (bs (c :: t)) 1;rw [toL_bs, List.drop_one, List.tail_cons] at hex
  have hg : ∀ hh : 0 < (bs (c :: t)).size, ((bs (c :: t))[0]'hh).toNat = c.toNat := by
   intro hh;rfl
  generalize bs (c :: t) = s at *
  have hg0 := hg hs;obtain ⟨y, hy⟩ : ∃ y, c.toNat = y := ⟨_, rfl⟩;rw [hy] at hg0 hn
  have hy8 : y < 256 := by rw [← hy]; exact UInt8.toNat_lt c
  obtain ⟨Y, hY⟩ : ∃ Y, X + y = Y := ⟨_, rfl⟩;rw [hY] at hn
  have i2 : (X : Int) + (y : Int) = (Y : Int) := by omega
  have hX2 : (X : Int) < 4294967296 := by omega
  have hc2 : (d.code : Int) < 4294967296 := by omega
  clear hc;have Hn := hide hn;clear hn hr hX hg hy hY
  go_enter Tryz.func155, Tryz.ntmps155
  go_wp2
  go_region
  all_goals
   go_wp2
   go_returns
   rw [Hn.out];exact ⟨rfl, (two_below _ _ _).drew⟩
theorem dzero_new (w : World) : DB (w.alloc (.cells #[.string ⟨#[]⟩, .int .i64 0, .int .i64 0, .bool false, .bool false] 140)) w.heap.size dzero := Bk.new _ _ _
theorem dpk_code (k : Nat) (s : List UInt8) : (dpk k s).code < 4294967296 := by
 cases k with
 | zero => show 0 < 4294967296; decide
 | succ k => rw [dpk_succ]; exact dnext_v.2
theorem fnewdec_any (s : List UInt8) (w : World) :
  Calls Tryz.prog 120 #[.string (bs s)] w fun x w' => x = .returned (.agg #[.string (bs (d0 s).rest), .int .i64 ((d0 s).code : Int), .int .i64 ((d0 s).size : Int), .bool (d0 s).miss, .bool (d0 s).full]) ∧ Below w.heap.size w w' := by
 have hr0 : DB ((w.alloc (.cells #[.string ⟨#[]⟩, .int .i64 0, .int .i64 0, .bool false, .bool false] 140)).alloc (.cells #[.string (bs s), .int .i64 0, .int .i64 4294967295, .bool false, .bool false] 140)) w.heap.size dzero := DB.alloc (dzero_new w) _
 have hd0 : DB ((w.alloc (.cells #[.string ⟨#[]⟩, .int .i64 0, .int .i64 0, .bool false, .bool false] 140)).alloc (.cells #[.string (bs s), .int .i64 0, .int .i64 4294967295, .bool false, .bool false] 140)) (w.heap.size + 1) (dpk 0 s) := by
  have := Bk.new (w.alloc (.cells #[.string ⟨#[]⟩, .int .i64 0, .int .i64 0, .bool false, .bool false] 140)) 140 #[.string (bs s), .int .i64 0, .int .i64 4294967295, .bool false, .bool false];rw [World.size_alloc] at this;exact this
 have hb0 := two_below w (.cells #[.string ⟨#[]⟩, .int .i64 0, .int .i64 0, .bool false, .bool false] 140) (.cells #[.string (bs s), .int .i64 0, .int .i64 4294967295, .bool false, .bool false] 140);have Hr0 := hide hr0;have Hd0 := hide hd0;have Hb0 := hide hb0;have Hfl := hide (show d0 s = { dpk 4 s with full := decide ((dpk 4 s).code = (dpk 4 s).size) } from rfl);have Hcd := hide (fun k => dpk_code k s);have Hst := hide (fun k => dpk_succ k s);clear hr0 hd0 hb0
 go_enter Tryz.func120, Tryz.ntmps120
 go_wp2
 go_loopw [4] (fun i wr => ∃ k : Nat, k ≤ 4 ∧ i = .int .i64 k ∧ DB wr (w.heap.size + 1) (dpk k s) ∧ DB wr w.heap.size dzero ∧ Below w.heap.size w wr) (fun i _ => (4 - intOf i).toNat)
 case atStart => exact ⟨0, by omega, rfl, Hd0.out, Hr0.out, Hb0.out⟩
 case round =>
  clear Hd0 Hr0 Hb0;obtain ⟨k, hk, rfl, hd, hr, hf⟩ := hrel;have hcd := Hcd.out k
  by_cases hlt : k < 4
  ·have hst := Hst.out k
   obtain ⟨D, hD⟩ : ∃ D, dpk k s = D := ⟨_, rfl⟩;rw [hD] at hcd hst hd;have Hn := hide (fun W => fnext_any D hcd W);rw [← hst] at Hn;obtain ⟨E, hE⟩ : ∃ E, dpk (k + 1) s = E := ⟨_, rfl⟩;rw [hE] at Hn;obtain ⟨c0, c1, c2, c3, c4⟩ := hd.cells;have Hd := hide hd;have Hr := hide hr;have Hf := hide hf;have HE := hide hE;clear hd hr hf hE hD hst hcd Hcd Hst Hfl
   go_wp2_with fail
   refine (Hn.out _).mono ?_;rintro x w1 ⟨rfl, hb1⟩;have hd1 := Hd.out.below hb1;have hr1 := Hr.out.below hb1;have hf1 := Hf.out.trans (hb1.mono Hf.out.size);clear c0 c1 c2 c3 c4;obtain ⟨c0, c1, c2, c3, c4⟩ := hd1.cells;obtain ⟨f0, f1, f2, f3, f4⟩ := hd1.frozens;have hdF := hd1.putAll E;have hrF := hr1.fr (Fr.five (w.heap.size + 1) (.string (bs E.rest)) (.int .i64 (E.code : Int)) (.int .i64 (E.size : Int)) (.bool E.miss) (.bool E.full)) (fun h => by have : w.heap.size = w.heap.size + 1 := h; omega);have hfF := hf1.trans (own_below (Fr.five (w.heap.size + 1) (.string (bs E.rest)) (.int .i64 (E.code : Int)) (.int .i64 (E.size : Int)) (.bool E.miss) (.bool E.full)) hf1.size (by omega));have HdF := hide hdF;have HrF := hide hrF;have HfF := hide hfF;clear hd1 hr1 hf1 hdF hrF hfF hb1 Hd Hr Hf
   go_wp2
   go_roundw
   case rel => exact ⟨k + 1, by omega, by go_num, by rw [HE.out]; exact HdF.out, HrF.out, HfF.out⟩
   case measure => simp [intOf] <;> omega
  ·have hk4 : k = 4 := by omega
   subst hk4;have hfl := Hfl.out;obtain ⟨D, hD⟩ : ∃ D, dpk 4 s = D := ⟨_, rfl⟩;rw [hD] at hfl hd
   have hdec : ((D.code : Int) == (D.size : Int)) = decide (D.code = D.size) := by
    rw [Bool.eq_iff_iff, beq_iff_eq, decide_eq_true_iff];omega
   obtain ⟨c0, c1, c2, c3, c4⟩ := hd.cells;obtain ⟨f0, f1, f2, f3, f4⟩ := hd.frozens;obtain ⟨r0, r1, r2, r3, r4⟩ := hr.cells;obtain ⟨g0, g1, g2, g3, g4⟩ := hr.frozens;obtain ⟨B, hB⟩ : ∃ B, decide (D.code = D.size) = B := ⟨_, rfl⟩;rw [hB] at hfl hdec;have hdF := hd.put4 B;have hrF := hr.off (b' := w.heap.size + 1) (by omega) 4 (.bool B);have hfF := hf.setCell (p := ⟨w.heap.size + 1, 4, none⟩) (by simp) (.bool B);obtain ⟨E, hE⟩ : ∃ E, d0 s = E := ⟨_, rfl⟩;rw [hE] at hfl;have HE := hide hE
   have hE1 : E.rest = D.rest := by rw [hfl]
   have hE2 : E.code = D.code := by rw [hfl]
   have hE3 : E.size = D.size := by rw [hfl]
   have hE4 : E.miss = D.miss := by rw [hfl]
   have hE5 : E.full = B := by rw [hfl]
   rw [← hE1] at c0;rw [← hE2] at c1 hdec;rw [← hE3] at c2 hdec;rw [← hE4] at c3;rw [← hE5] at hdec hrF hfF;have HrF := hide hrF;have HfF := hide hfF;clear hd hr hf hE hD hB hfl Hfl Hcd Hst hcd hdF hrF hfF hE1 hE2 hE3 hE4 hE5;obtain ⟨WF, hWF, u0, u1, u2, u3, u4, hfr⟩ := dres_endB E (HrF.out) (HfF.out) (by omega) ;have HWF := hide hWF;have HbF := hide hfr;clear hWF hfr 
   go_wp2
   rw [HWF.out];refine bodyPost_ret (by simp [results, Tryz.results120, go_sem, u0, u1, u2, u3, u4]; try rfl) rfl ?_;exact ⟨by rw [HE.out], HbF.out⟩
end Go.Proofs.YtoeeblldgoccoaaGreat
