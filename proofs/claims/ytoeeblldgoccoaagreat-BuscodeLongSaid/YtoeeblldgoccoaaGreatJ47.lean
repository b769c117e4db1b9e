/-
  Joined texts: Jb, Jf.
-/
import Derived.Test.YtoeeblldgoccoaaGreatJ46
set_option linter.unusedVariables false
set_option linter.unusedSimpArgs false
/-
  The laws of lists of values: forms, bytes.
-/
namespace Go.Proofs.YtoeeblldgoccoaaGreat
open Go.RowKit Go.Proofs Wv Wv.Vi Wv.Rc Wv.Mo Wv.Ru Wv.Tm Wv.Bc
set_option linter.unusedVariables false
set_option maxRecDepth 100000 in
set_option maxHeartbeats 2000000 in
theorem lbforms_any {w : World} (W : Int) (_ : I64 W) {A : Option Addr} {l : List ByteArray} (ha : At w A (svs l)) (hsz : ∀ s ∈ l, s.size ≤ 9223372036854775807) (n cap : Nat) (hn : n = l.length) (hm : n ≤ 9223372036854775807) :
  Calls Tryz.prog 3 #[.int .i64 W, .slice A n cap] w fun x w' => BTrue w x w' := by
 have Haw := hide (bawake_any w)
 have Ha := hide ha
 have Hs := hide (fun W (h : At W A (svs l)) => lbshort_any h hsz n cap hn hm 60)
 have hcs : shortB l 60 200 = true ∨ shortB l 60 200 = false := by cases shortB l 60 200 <;> simp
 rcases hcs with hc | hc
 case inr =>
  rw [hc] at Hs
  clear hsz hn ha hc
  go_enter Tryz.func3, Tryz.ntmps3
  go_wp2_with fail
  refine (Haw.out).mono ?_
  rintro x w1 ⟨rfl, hb1⟩
  have Hs1 := hide (Hs.out w1 (Ha.out.below hb1))
  go_wp2_with fail
  refine (Hs1.out).mono ?_
  rintro x w2 ⟨rfl, rfl⟩
  go_wp2
  go_returns
  exact ⟨rfl, hb1⟩
 case inl =>
 obtain ⟨hl60, hlz⟩ := lbshort_of (m := 60) hc
 rw [hc] at Hs
 have H1 := hide (fun W2 (h : At W2 A (svs l)) => validB_any h hlz n cap hn hm W)
 have H2 := hide (fun W2 (h : At W2 A (svs l)) => a14valid_any h hlz n cap hn hm W)
 have H3 := hide (fun W2 (h : At W2 A (svs l)) => step_any h hlz n cap hn hm)
 have H4 := hide (fun W2 (h : At W2 A (svs l)) => a14step_any h hlz n cap hn (by omega))
 generalize validB W l = vb at *
 generalize stepB l = SB at *
 clear hsz hn ha hc hl60 hlz
 go_enter Tryz.func3, Tryz.ntmps3
 go_wp2_with fail
 refine (Haw.out).mono ?_
 rintro x w1 ⟨rfl, hb1⟩
 have Hs1 := hide (Hs.out w1 (Ha.out.below hb1))
 have Hb1 := hide hb1
 clear hb1 Haw Hs
 go_wp2_with fail
 refine (Hs1.out).mono ?_
 rintro x w2 ⟨rfl, rfl⟩
 have K1 := hide (H1.out _ (Ha.out.below Hb1.out))
 clear Hs1 H1
 go_wp2_with fail
 refine (K1.out).mono ?_
 rintro x w2 ⟨rfl, hb2⟩
 have Hb2 := hide (bel_step Hb1.out hb2)
 clear hb2 K1 Hb1
 have K2 := hide (H2.out _ (Ha.out.below Hb2.out))
 clear H2
 go_wp2_with fail
 refine (K2.out).mono ?_
 rintro x w3 ⟨rfl, rfl⟩
 have K3 := hide (H3.out _ (Ha.out.below Hb2.out))
 clear H3 K2
 have hvv : (vb == vb) = true := by simp
 go_wp2_with fail
 refine (K3.out).mono ?_
 rintro x w4 ⟨rfl, hb4⟩
 have Hb4 := hide (bel_step Hb2.out hb4)
 clear hb4 K3 Hb2
 have K4 := hide (H4.out _ (Ha.out.below Hb4.out))
 clear H4
 go_wp2_with fail
 refine (K4.out).mono ?_
 rintro x w5 ⟨rfl, hb5⟩
 have Hb5 := hide (bel_step Hb4.out hb5)
 clear hb5 K4 Hb4
 go_wp2
 go_returns
 exact ⟨rfl, Hb5.out⟩
set_option maxRecDepth 100000 in
set_option maxHeartbeats 2000000 in
theorem lbbytes_any {w : World} (c : Int) (_ : I64 c) (W : Int) (_ : I64 W) {A : Option Addr} {l : List ByteArray} (ha : At w A (svs l)) (hsz : ∀ s ∈ l, s.size ≤ 9223372036854775807) (n cap : Nat) (hn : n = l.length) (hm : n ≤ 9223372036854775807) :
  Calls Tryz.prog 4 #[.int .i64 c, .int .i64 W, .slice A n cap] w fun x w' => BTrue w x w' := by
 have Haw := hide (bawake_any w)
 have Ha := hide ha
 have Hs := hide (fun W (h : At W A (svs l)) => lbshort_any h hsz n cap hn hm 40)
 have hcs : shortB l 40 200 = true ∨ shortB l 40 200 = false := by cases shortB l 40 200 <;> simp
 rcases hcs with hc | hc
 case inr =>
  rw [hc] at Hs
  clear hsz hn ha hc
  go_enter Tryz.func4, Tryz.ntmps4
  go_wp2_with fail
  refine (Haw.out).mono ?_
  rintro x w1 ⟨rfl, hb1⟩
  have Hs1 := hide (Hs.out w1 (Ha.out.below hb1))
  go_wp2_with fail
  refine (Hs1.out).mono ?_
  rintro x w2 ⟨rfl, rfl⟩
  go_wp2
  go_returns
  exact ⟨rfl, hb1⟩
 case inl =>
 obtain ⟨hl40, hlz⟩ := lbshort_of (m := 40) hc
 rw [hc] at Hs
 have H1 := hide (fun W2 (h : At W2 A (svs l)) => bencas_any h hlz n cap hn hm c W)
 have H2 := hide (fun W2 (h : At W2 A (svs l)) => a14encas_any h hlz n cap hn hm c W)
 have H3 := hide (fun W2 (h : At W2 A (svs l)) => bencode_any h hlz n cap hn hm W)
 have H4 := hide (fun W2 (h : At W2 A (svs l)) => a14encode_any h hlz n cap hn hm W)
 unfold ERes at H1 H2 H3 H4
 generalize encAsB c W l = r1 at *
 generalize encB' W l = r2 at *
 obtain ⟨X, e⟩ := r1
 obtain ⟨Y, f⟩ := r2
 simp only at H1 H2 H3 H4
 generalize bs X = SX at *
 generalize bs Y = SY at *
 clear hsz hn ha hc hl40 hlz
 go_enter Tryz.func4, Tryz.ntmps4
 go_wp2_with fail
 refine (Haw.out).mono ?_
 rintro x w1 ⟨rfl, hb1⟩
 have Hs1 := hide (Hs.out w1 (Ha.out.below hb1))
 have Hb1 := hide hb1
 clear hb1 Haw Hs
 go_wp2_with fail
 refine (Hs1.out).mono ?_
 rintro x w2 ⟨rfl, rfl⟩
 have K1 := hide (H1.out _ (Ha.out.below Hb1.out))
 clear Hs1 H1
 go_wp2_with fail
 refine (K1.out).mono ?_
 rintro x w2 ⟨rfl, hb2⟩
 have Hb2 := hide (bel_step Hb1.out hb2)
 clear hb2 K1 Hb1
 have K2 := hide (H2.out _ (Ha.out.below Hb2.out))
 clear H2
 go_wp2_with fail
 refine (K2.out).mono ?_
 rintro x w3 ⟨rfl, hb3⟩
 have Hb3 := hide (bel_step Hb2.out hb3)
 clear hb3 K2 Hb2
 have K3 := hide (H3.out _ (Ha.out.below Hb3.out))
 clear H3
 go_wp2_with fail
 refine (K3.out).mono ?_
 rintro x w4 ⟨rfl, hb4⟩
 have Hb4 := hide (bel_step Hb3.out hb4)
 clear hb4 K3 Hb3
 have K4 := hide (H4.out _ (Ha.out.below Hb4.out))
 clear H4
 go_wp2_with fail
 refine (K4.out).mono ?_
 rintro x w5 ⟨rfl, hb5⟩
 have Hb5 := hide (bel_step Hb4.out hb5)
 clear hb5 K4 Hb4
 go_wp2
 go_returns
 exact ⟨rfl, Hb5.out⟩
end Go.Proofs.YtoeeblldgoccoaaGreat
/-
  The laws of lists of values: many equal values.
-/
namespace Go.Proofs.YtoeeblldgoccoaaGreat
open Go.RowKit Go.Proofs Wv Wv.Vi Wv.Rc Wv.Mo Wv.Ru Wv.Tm Wv.Bc
set_option linter.unusedVariables false
theorem a02isv_big (s : ByteArray) (hs : s.size ≤ 9223372036854775807) (W : World) : Calls Tryz.prog 28 #[.string s] W fun x w' => x = .returned (.bool (isV (toL s))) ∧ W = w' := by
 have := aisv_big (toL s) (by rw [toL_length]; exact hs) W
 rw [bs_toL] at this
 exact this
theorem long_ways {v : ByteArray} (hv : isV (toL v) = true) (k : Nat) :
    (4096 < k ∧ encB' (v.size : Int) (List.replicate k v) = ([], 2) ∧ encAsB 0 (v.size : Int) (List.replicate k v) = ([], 2)) ∨
    (k ≤ 4096 ∧ ∃ S, encB' (v.size : Int) (List.replicate k v) = (S, 0) ∧ S.length ≤ 300 ∧ decB (v.size : Int) S (k : Int) = (List.replicate k v, 0) ∧
      ((65536 < 2 * v.size * k ∧ encAsB 0 (v.size : Int) (List.replicate k v) = ([], 9)) ∨
       (2 * v.size * k ≤ 65536 ∧ ∃ t, encAsB 0 (v.size : Int) (List.replicate k v) = (0 :: t, 0) ∧ 2 + 2 * v.size * k / 8 ≤ (0 :: t).length ∧ (0 :: t).length ≤ 100000))) := by
  obtain ⟨L1, L2⟩ := long_law hv k
  rcases Nat.lt_or_ge 4096 k with h | h
  · exact .inl ⟨h, L1 h⟩
  · obtain ⟨a1, a2, a3, a4, a5⟩ := L2 h
    refine .inr ⟨h, (encB' (v.size : Int) (List.replicate k v)).1, Prod.ext rfl a1, a2, a3, ?_⟩
    rcases Nat.lt_or_ge 65536 (2 * v.size * k) with h2 | h2
    · exact .inl ⟨h2, a4 h2⟩
    · exact .inr ⟨h2, a5 h2⟩
set_option maxRecDepth 100000 in
set_option maxHeartbeats 4000000 in
theorem lblong_any {w : World} (v : ByteArray) (hv : v.size ≤ 9223372036854775807) (n : Int) (hn0 : 0 ≤ n) (hn1 : n < 65536) :
  Calls Tryz.prog 10 #[.string v, .int .u16 n] w fun x w' => BTrue w x w' := by
 have Haw := hide (bawake_any w)
 have Hi := hide (fun W => a02isv_big v hv W)
 cases hiv : isV (toL v) with
 | false =>
  rw [hiv] at Hi
  clear hiv
  go_enter Tryz.func10, Tryz.ntmps10
  go_wp2_with fail
  refine (Haw.out).mono ?_
  rintro x w1 ⟨rfl, hb1⟩
  go_wp2_with fail
  refine (Hi.out _).mono ?_
  rintro x w2 ⟨rfl, rfl⟩
  go_wp2
  go_returns
  exact ⟨rfl, hb1⟩
 | true =>
  rw [hiv] at Hi
  obtain ⟨v1, v2, v3⟩ := isV_iff.1 hiv
  have v4 := List.length_pos_iff.2 v2
  rw [toL_length] at v3 v4
  obtain ⟨k, hk⟩ : ∃ k : Nat, n % 5000 = (k : Int) := ⟨(n % 5000).toNat, by omega⟩
  have hk5 : k < 5000 := by omega
  have HW := hide (long_ways hiv k)
  have hsz2 : ∀ s ∈ List.replicate k v, s.size ≤ 1099511627776 := fun s hs => by rw [List.eq_of_mem_replicate hs]; omega
  have hll : k = (List.replicate k v).length := by rw [List.length_replicate]
  have He := hide (fun W A cap (h : At W A (svs (List.replicate k v))) => bencode_any h hsz2 k cap hll (by omega) (v.size : Int))
  have Has := hide (fun W A cap (h : At W A (svs (List.replicate k v))) => bencas_any h hsz2 k cap hll (by omega) 0 (v.size : Int))
  have Hin := hide (fun W2 B C c1 c2 (h1 : At W2 B (svs (List.replicate k v))) (h2 : At W2 C (svs (List.replicate k v))) => sv_texts h1 h2 k c1 k c2 hll hll (by omega))
  clear hiv v1 v2 hll hsz2
  go_enter Tryz.func10, Tryz.ntmps10
  go_wp2_with fail
  refine (Haw.out).mono ?_
  rintro x w1 ⟨rfl, hb1⟩
  have Hb1 := hide hb1
  clear hb1 Haw
  go_wp2_with fail
  refine (Hi.out _).mono ?_
  rintro x w2 ⟨rfl, rfl⟩
  clear Hi
  go_wp2
  rw [hk]
  clear hk
  go_loopw [6, 22] (fun s6 s22 wr => ∃ i : Nat, i ≤ k ∧ s22 = .int .i64 (i : Int) ∧ Hid (wr.ownsRow w.heap.size 9 1 s6 i (svs (List.replicate i v))) ∧ Hid (Below w.heap.size w wr)) (fun _ s22 _ => (k - intOf s22).toNat)
  case atStart => exact ⟨0, Nat.zero_le _, rfl, hide own_nil, Hb1⟩
  case round =>
   clear Hb1
   obtain ⟨i, hi, rfl, hown, hb⟩ := hrel
   by_cases hlt : i < k
   ·obtain ⟨A6, M6, cap6, rfl⟩ := own_slice hown.out
    have hlti : (i : Int) < (k : Int) := by omega
    obtain ⟨v', w4, hrun, hown4, hf4, _⟩ := app_own (P := Tryz.prog) 22 9 _ _ Tryz.underlying22 strinf rfl (w := wr) hown.out hb.out hb.out.size (.string v) rfl (by unfold maxLen; omega) (by omega)
    have Hrun := hide hrun
    have Hown4 := hide (show w4.ownsRow w.heap.size 9 1 v' (i + 1) (svs (List.replicate (i + 1) v)) by rw [List.replicate_succ', svs_snocB]; exact hown4)
    have Hf4 := hide hf4
    clear hown hb hrun hown4 hf4 He Has Hin HW
    go_wp2_with (
     at_builtin
     refine wpList_run (by with_reducible rfl) rfl _ _ _ rfl _ _ (by rfl) (by rfl) Hrun.out ?_)
    refine ⟨⟨i + 1, hlt, by go_num, Hown4, Hf4⟩, ?_⟩
    simp [intOf] <;> omega
   ·have hin : k = i := by omega
    subst hin
    obtain ⟨A, cap, hA, hat⟩ := own_at hown.out
    subst hA
    have hend : ¬ (k : Int) < (k : Int) := by omega
    have Hat := hide hat
    clear hown hat hlt
    have K1 := hide (He.out wr A cap Hat.out)
    have K2 := hide (fun W (h : Below w.heap.size w W) (h2 : At W A (svs (List.replicate k v))) => Has.out W A cap h2)
    clear He Has
    rcases HW.out with ⟨c1, c2, c3⟩ | ⟨c1, S, c2, c3, c4, c5⟩
    ·rw [c2] at K1
     rw [c3] at K2
     unfold ERes at K1 K2
     simp only at K1 K2
     have hem : (bs ([] : List UInt8)).toList.isEmpty = true := by decide +kernel
     have c1i : (4096 : Int) < (k : Int) := by omega
     clear c2 c3 HW Hin
     generalize bs ([] : List UInt8) = E at *
     go_wp2_with fail
     refine (K1.out).mono ?_
     rintro x w3 ⟨rfl, hb3⟩
     have Hb3 := hide (bel_step hb.out hb3)
     have K3 := hide (K2.out w3 Hb3.out (Hat.out.below hb3))
     clear hb3 K1 K2 hb
     go_wp2_with fail
     refine (K3.out).mono ?_
     rintro x w4 ⟨rfl, hb4⟩
     have Hb4 := hide (bel_step Hb3.out hb4)
     clear hb4 K3 Hb3
     go_wp2
     go_returns
     exact ⟨rfl, Hb4.out⟩
    ·rw [c2] at K1
     unfold ERes at K1
     simp only at K1
     have D0 := hide (fun W2 => bdecode_any (w := W2) (v.size : Int) (bs S) (by rw [bs_size]; omega) (k : Int))
     rw [toL_bs, c4] at D0
     have hSs : (bs S).size ≤ 300 := by rw [bs_size]; exact c3
     have c1i : ¬ (4096 : Int) < (k : Int) := by omega
     obtain ⟨p, hp⟩ : ∃ p : Nat, 2 * v.size * k = p := ⟨_, rfl⟩
     rw [hp] at c5
     have hpi : 2 * (v.size : Int) * (k : Int) = (p : Int) := by rw [← hp]; simp
     have hpl : p ≤ 1280000 := by
      rw [← hp]
      exact Nat.le_trans (Nat.mul_le_mul (show 2 * v.size ≤ 256 by omega) (show k ≤ 5000 by omega)) (by decide)
     have hSi : ¬ (300 : Int) < ((bs S).size : Int) := by omega
     clear c2 c3 c4 HW hp
     generalize bs S = SX at *
     rcases c5 with ⟨d1, d2⟩ | ⟨d1, t, d2, d3, d4⟩
     ·rw [d2] at K2
      unfold ERes at K2
      simp only at K2
      have hem : (bs ([] : List UInt8)).toList.isEmpty = true := by decide +kernel
      have d1i : (65536 : Int) < (p : Int) := by omega
      clear d2
      generalize bs ([] : List UInt8) = E at *
      go_wp2_with fail
      refine (K1.out).mono ?_
      rintro x w3 ⟨rfl, hb3⟩
      have Hb3 := hide (bel_step hb.out hb3)
      have Hat3 := hide (Hat.out.below hb3)
      have K3 := hide (K2.out w3 Hb3.out Hat3.out)
      clear hb3 K1 K2 hb Hat
      go_wp2_with fail
      refine (K3.out).mono ?_
      rintro x w4 ⟨rfl, hb4⟩
      have Hb4 := hide (bel_step Hb3.out hb4)
      have Hat4 := hide (Hat3.out.below hb4)
      clear hb4 K3 Hb3 Hat3
      go_wp2_with fail
      refine (D0.out _).mono ?_
      rintro x w5 hl5
      obtain ⟨B5, c5, rfl, hat5, hb5⟩ := tres_sv hl5
      rw [List.length_replicate]
      have Hb5 := hide (bel_step Hb4.out hb5)
      have H6 := hide (Hin.out _ _ _ c5 cap hat5 (Hat4.out.below hb5))
      clear Hb4 hb5 hl5 hat5 D0 Hin Hat4
      go_wp2_with fail
      refine (H6.out).mono ?_
      rintro x w6 ⟨rfl, hq6⟩
      have Hb6 := hide (drew_bel Hb5.out hq6)
      clear Hb5 hq6 H6
      go_wp2
      go_returns
      exact ⟨rfl, Hb6.out⟩
     ·rw [d2] at K2
      unfold ERes at K2
      simp only at K2
      have hpre : Hid (∀ W, Calls Tryz.prog 29 #[.string (bs (0 :: t)), .string ⟨#[0]⟩] W fun e w' => e = .returned (.bool true) ∧ w' = W) := hide (fun W => by
       have := Tryz.strings_HasPrefix (bs (0 :: t)) ⟨#[0]⟩ W
       have e : Go.Lib.hasPrefix (bs (0 :: t)).data.toList (⟨#[0]⟩ : ByteArray).data.toList = true := by simp [Go.Lib.hasPrefix, bs]
       rw [e] at this
       exact this)
      have d1i : ¬ (65536 : Int) < (p : Int) := by omega
      have hTs := bs_size (0 :: t)
      have d3i : (2 : Int) + (p : Int) / 8 ≤ ((bs (0 :: t)).size : Int) := by rw [hTs]; omega
      have d3n : decide ((2 : Int) + (p : Int) / 8 ≤ ((bs (0 :: t)).size : Int)) = true := decide_eq_true d3i
      clear d2 hTs d3 d4
      generalize bs (0 :: t) = T at *
      go_wp2_with fail
      refine (K1.out).mono ?_
      rintro x w3 ⟨rfl, hb3⟩
      have Hb3 := hide (bel_step hb.out hb3)
      have Hat3 := hide (Hat.out.below hb3)
      have K3 := hide (K2.out w3 Hb3.out Hat3.out)
      clear hb3 K1 K2 hb Hat
      go_wp2_with fail
      refine (K3.out).mono ?_
      rintro x w4 ⟨rfl, hb4⟩
      have Hb4 := hide (bel_step Hb3.out hb4)
      have Hat4 := hide (Hat3.out.below hb4)
      clear hb4 K3 Hb3 Hat3
      go_wp2_with fail
      refine (D0.out _).mono ?_
      rintro x w5 hl5
      obtain ⟨B5, c5, rfl, hat5, hb5⟩ := tres_sv hl5
      rw [List.length_replicate]
      have Hb5 := hide (bel_step Hb4.out hb5)
      have H6 := hide (Hin.out _ _ _ c5 cap hat5 (Hat4.out.below hb5))
      clear Hb4 hb5 hl5 hat5 D0 Hin Hat4
      go_wp2_with fail
      refine (H6.out).mono ?_
      rintro x w6 ⟨rfl, hq6⟩
      have Hb6 := hide (drew_bel Hb5.out hq6)
      clear Hb5 hq6 H6
      go_wp2_with fail
      refine (hpre.out _).mono ?_
      rintro x w7 ⟨rfl, rfl⟩
      go_wp2
      go_returns
      exact ⟨rfl, Hb6.out⟩
end Go.Proofs.YtoeeblldgoccoaaGreat
