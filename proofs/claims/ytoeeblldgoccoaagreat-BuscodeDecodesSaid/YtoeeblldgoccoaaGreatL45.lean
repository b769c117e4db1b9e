/-
  The walks over lists of values: the writer of the first value, the step and the exceptions.
-/
import Derived.Test.YtoeeblldgoccoaaGreatL44
set_option linter.unusedVariables false
set_option linter.unusedSimpArgs false
set_option maxRecDepth 100000
set_option maxHeartbeats 8000000
namespace Go.Proofs.YtoeeblldgoccoaaGreat
open Go.RowKit Go.Proofs Wv Wv.Vi Wv.Rc Wv.Mo Wv.Ru Wv.Tm Wv.Bc
theorem stepB_size (l : List ByteArray) : (stepB l).size ≤ 128 := by
 have := stepB_cases l;rw [← toL_length]
 rcases this with h | ⟨_, _, h, _⟩
 ·rw [h]; exact Nat.zero_le _
 ·exact (knV_iff.1 h).2.2
theorem atI_snoc (l : List ByteArray) (x : List Int) (i : Int) : atI l (x ++ [i]) = atI l x ++ [l.getD i.toNat default] := by simp [atI]
theorem ivs_atB (l : List Int) (i : Nat) (h : i < l.length) : (ivs l)[i]? = some (.int .i64 l[i]) := by simp [ivs, iv, h]
theorem codC_bs {l : List ByteArray} (h : l ≠ []) : bs (codC l) = bs (num l.length) ++ bs (text (bs (shr (toL (l.getD 0 default))))) ++ bs (text (bs (shr (toL (stepB l))))) ++ bs (text (bs (numsI (gapsT (exI l (stepB l)))))) ++ bs (enc (shortL (atI l (exI l (stepB l))))).1 := by
 unfold codC;rw [if_neg h];simp only [bs_append, List.append_assoc]
theorem nosumB {a b : Nat} (h : a + b ≤ 9000000) : (9223372036854775807 < a + b) = False := by
 rw [eq_iff_iff, iff_false]; omega
theorem shr_two (s : ByteArray) (hs : s.size ≤ 1099511627776) (W : World) : Calls Tryz.prog 107 #[.string s] W fun x w' => x = .returned (.string (bs (shr (toL s)))) ∧ Below W.heap.size W w' := by
 have := bshort_any (toL s) (by rw [toL_length]; exact hs) W;rw [bs_toL] at this;exact this
theorem num_sz (k : Nat) : (bs (num k)).size ≤ 9 := by rw [bs_size, num_length]; have := kof_le k; omega
theorem text_sz (s : List UInt8) : (bs (text (bs s))).size ≤ s.length + 9 := by
 have h : text (bs s) = num (bs s).size ++ toL (bs s) := rfl;rw [h, bs_size, List.length_append, num_length, toL_length, bs_size];have := kof_le s.length;omega
theorem bcounter_any {w : World} {A : Option Addr} {l : List ByteArray} (ha : At w A (svs l)) (hsz : ∀ s ∈ l, s.size ≤ 1099511627776) (n cap : Nat) (hn : n = l.length) (hm : n ≤ 4096) (W : Int) :
  Calls Tryz.prog 62 #[.agg #[.int .i64 W], .slice A n cap] w fun x w' => x = .returned (.tuple #[.string (bs (codC l)), .bool true]) ∧ Below w.heap.size w w' := by
 have hb0 := bel_new1 w (.cells #[.int .i64 W] 60);have HNum := hide (fun W2 => number_any (n : Int) (by omega) (by omega) W2);rw [Int.toNat_natCast] at HNum
 rcases Nat.eq_zero_or_pos n with h0 | hpos
 ·subst h0
  have hl : l = [] := List.eq_nil_of_length_eq_zero hn.symm
  have hc : codC l = num 0 := by unfold codC; rw [if_pos hl, hl, List.append_nil]; rfl
  rw [hc];have Hb0 := hide hb0
  generalize bs (num 0) = S0 at *
  clear ha hsz hn hl hc hb0
  go_enter Tryz.func62, Tryz.ntmps62
  go_wp2_with fail
  refine (HNum.out _).mono ?_;rintro x w1 ⟨rfl, hb1⟩;have hbb := Hb0.out.trans (hb1.mono Hb0.out.size)
  go_wp2
  go_returns
  exact ⟨rfl, hbb⟩
 ·have Ha := hide ha
  have Hn := hide hn;have Hsz := hide hsz;have HS := hide (fun W2 (h : At W2 A (svs l)) => step_any h hsz n cap hn (by omega));have HX := hide (fun W2 (h : At W2 A (svs l)) => bexc_any h hsz n cap hn hm (stepB l) (by have := stepB_size l; omega))
  have hxi := fun i => exI_in (l := l) (st := stepB l) i
  have hxl := exI_len l (stepB l);have Hxi := hide hxi;obtain ⟨ST, hST⟩ : ∃ s, stepB l = s := ⟨_, rfl⟩;have HST := hide hST;rw [hST] at HS HX Hxi hxl;obtain ⟨X, hX⟩ : ∃ X, exI l ST = X := ⟨_, rfl⟩;have HXe := hide hX;rw [hX] at HX Hxi hxl
  have hnz : ((n : Int) == 0) = false := by rw [beq_eq_false_iff_ne]; omega
  have Hb0 := hide hb0;obtain ⟨K, hK⟩ : ∃ K, X.length = K := ⟨_, rfl⟩;have HK := hide hK
  have hKn : K ≤ 4096 := by omega
  have Hhn := hide (show l.length = n from hn.symm);have hcC := codC_bs (l := l) (fun e => by rw [e] at hn; simp at hn; omega);rw [← hn, hST, hX] at hcC;have HcC := hide hcC;have hs0 := num_sz n;clear ha hn hsz hb0 hST hX hxi hxl hK hcC
  go_enter Tryz.func62, Tryz.ntmps62
  go_wp2_with fail
  refine (HNum.out _).mono ?_;rintro x w1 ⟨rfl, hb1⟩;have Hb1 := hide (Hb0.out.trans (hb1.mono Hb0.out.size));have HS1 := hide (HS.out w1 (Ha.out.below Hb1.out));clear hb1 HNum Hb0 HS
  generalize bs (num n) = S0 at *
  go_wp2_with fail
  refine (HS1.out).mono ?_;rintro x w2 ⟨rfl, hb2⟩;have Hb2 := hide (Hb1.out.trans (hb2.mono Hb1.out.size));have HX2 := hide (HX.out w2 (Ha.out.below Hb2.out));clear hb2 HS1 Hb1 HX
  go_wp2_with fail
  refine (HX2.out).mono ?_;rintro x w3 ⟨v3, rfl, ⟨A3, cap3, rfl, hat3⟩, hb3⟩;have Hb3 := hide (Hb2.out.trans (hb3.mono Hb2.out.size));have Hat3 := hide hat3;have ho8 := hide (own_nil (w := w3) (base := w3.heap.size) (e := 3) (size := 1));have ho9 := hide (own_nil (w := w3) (base := w3.heap.size) (e := 9) (size := 1));have hbr := hide (Below.refl w3.heap.size w3);rw [HK.out];clear hb3 hat3 HX2 Hb2
  go_wp2
  go_loopw [8, 9, 10, 31] (fun s8 s9 s10 s31 wr => ∃ (j : Nat) (last : Int) (G : List Int), j ≤ K ∧ -1 ≤ last ∧ last ≤ 4096 ∧ s10 = .int .i64 last ∧ s31 = .int .i64 (j : Int) ∧ Hid (gapsT X = G ++ gp last (X.drop j)) ∧ Hid (G.length = j) ∧ Hid (wr.ownsRow w3.heap.size 3 1 s8 j (ivs G)) ∧ Hid (wr.ownsRow w3.heap.size 9 1 s9 j (svs (atI l (X.take j)))) ∧ Hid (Below w3.heap.size w3 wr)) (fun _ _ _ s31 _ => (K - intOf s31).toNat)
  case atStart => exact ⟨0, -1, [], Nat.zero_le _, by omega, by omega, rfl, rfl, hide rfl, hide rfl, ho8, ho9, hbr⟩
  case round =>
   clear ho8 ho9 hbr;obtain ⟨j, last, G, hj, hl1, hl2, rfl, rfl, hG, hGl, h8, h9, hb⟩ := hrel;obtain ⟨A8, M8, cap8, rfl⟩ := own_slice h8.out;obtain ⟨A9, M9, cap9, rfl⟩ := own_slice h9.out
   by_cases hlt : j < K
   ·have hjX : j < X.length := by rw [HK.out]; exact hlt
    have hd : X.drop j = X[j] :: X.drop (j + 1) := List.drop_eq_getElem_cons hjX;have htk : X.take (j + 1) = X.take j ++ [X[j]] := List.take_succ_eq_append_getElem hjX;have hget := ivs_atB X j hjX;obtain ⟨hx1, hx2⟩ := Hxi.out X[j] (List.getElem_mem _);obtain ⟨x, hx⟩ : ∃ x, X[j] = x := ⟨_, rfl⟩;rw [hx] at hd htk hget hx1 hx2;obtain ⟨b3, o3, hA3, hbA3, hc3⟩ := Hat3.out.get j _ hget;subst hA3;have hcx : wr.cell? ⟨b3, o3 + j, none⟩ = some (.int .i64 x) := (hb.out.cell (p := ⟨b3, o3 + j, none⟩) hbA3).trans hc3;rw [Hhn.out] at hx2;obtain ⟨xn, rfl⟩ : ∃ xn : Nat, x = xn := ⟨x.toNat, by omega⟩
    have hxl : xn < l.length := by rw [Hhn.out]; omega
    have hatl := (Ha.out.below Hb3.out).below hb.out;obtain ⟨b, o, rfl, hbl, hcS⟩ := sv_cell hatl xn hxl;have hgS : l.getD xn default = l[xn] := getD_at hxl;obtain ⟨S, hS⟩ : ∃ S, l[xn] = S := ⟨_, rfl⟩;rw [hS] at hcS hgS
    have hG2 : gapsT X = (G ++ [(xn : Int) - last - 1]) ++ gp (xn : Int) (X.drop (j + 1)) := by rw [hG.out, hd, List.append_assoc]; rfl
    obtain ⟨g, hg⟩ : ∃ g, (xn : Int) - last - 1 = g := ⟨_, rfl⟩;rw [hg] at hG2;have HG2 := hide hG2;have HGl2 := hide (show (G ++ [g]).length = j + 1 by rw [List.length_append, hGl.out]; rfl);have HV2 := hide (show atI l (X.take (j + 1)) = atI l (X.take j) ++ [S] by rw [htk, atI_snoc, Int.toNat_natCast, hgS]);obtain ⟨⟨v1, w1, u1, z1, E1a, E1b, p1, q1, r1, s1⟩, ⟨v2, w2, u2, z2, E2a, E2b, p2, q2, r2⟩, ⟨v3, w3', u3, z3, E3a, E3b, p3, q3, r3⟩, ⟨u4, w4, v4, z4, E4a, E4b, p4, q4, r4⟩, ⟨u5, w5, v5, z5, E5a, E5b, p5, q5, r5⟩, ⟨u6, w6, v6, z6, E6a, E6b, p6, q6, r6⟩⟩ := six_ways h8.out h9.out hb.out.size g S (by omega) (by omega);have F1 := hide (show z1.ownsRow w3.heap.size 3 1 v1 (j + 1) (ivs (G ++ [g])) ∧ z1.ownsRow w3.heap.size 9 1 u1 (j + 1) (svs (atI l (X.take (j + 1)))) ∧ Below w3.heap.size w3 z1 from ⟨by rw [ivs_snocB]; exact p1, by rw [HV2.out, svs_snocB]; exact q1, r1 _ hb.out⟩);have F2 := hide (show z2.ownsRow w3.heap.size 3 1 v2 (j + 1) (ivs (G ++ [g])) ∧ z2.ownsRow w3.heap.size 9 1 u2 (j + 1) (svs (atI l (X.take (j + 1)))) ∧ Below w3.heap.size w3 z2 from ⟨by rw [ivs_snocB]; exact p2, by rw [HV2.out, svs_snocB]; exact q2, r2 _ hb.out⟩);have F3 := hide (show z3.ownsRow w3.heap.size 3 1 v3 (j + 1) (ivs (G ++ [g])) ∧ z3.ownsRow w3.heap.size 9 1 u3 (j + 1) (svs (atI l (X.take (j + 1)))) ∧ Below w3.heap.size w3 z3 from ⟨by rw [ivs_snocB]; exact p3, by rw [HV2.out, svs_snocB]; exact q3, r3 _ hb.out⟩);have F4 := hide (show z4.ownsRow w3.heap.size 3 1 v4 (j + 1) (ivs (G ++ [g])) ∧ z4.ownsRow w3.heap.size 9 1 u4 (j + 1) (svs (atI l (X.take (j + 1)))) ∧ Below w3.heap.size w3 z4 from ⟨by rw [ivs_snocB]; exact p4, by rw [HV2.out, svs_snocB]; exact q4, r4 _ hb.out⟩);have F5 := hide (show z5.ownsRow w3.heap.size 3 1 v5 (j + 1) (ivs (G ++ [g])) ∧ z5.ownsRow w3.heap.size 9 1 u5 (j + 1) (svs (atI l (X.take (j + 1)))) ∧ Below w3.heap.size w3 z5 from ⟨by rw [ivs_snocB]; exact p5, by rw [HV2.out, svs_snocB]; exact q5, r5 _ hb.out⟩);have F6 := hide (show z6.ownsRow w3.heap.size 3 1 v6 (j + 1) (ivs (G ++ [g])) ∧ z6.ownsRow w3.heap.size 9 1 u6 (j + 1) (svs (atI l (X.take (j + 1)))) ∧ Below w3.heap.size w3 z6 from ⟨by rw [ivs_snocB]; exact p6, by rw [HV2.out, svs_snocB]; exact q6, r6 _ hb.out⟩);have hbw1 := s1 _ hb.out
    have hcS1 : w1.cell? ⟨b, o + xn, none⟩ = some (.string S) := by
     obtain ⟨b2, o2, hA2, _, hc2⟩ := sv_cell ((Ha.out.below Hb3.out).below hbw1) xn hxl
     injection hA2 with hA2
     injection hA2 with e1 e2
     subst e1; subst e2
     rw [hS] at hc2;exact hc2
    have X1a := hide E1a;have X1b := hide E1b;have X2a := hide E2a;have X2b := hide E2b;have X3a := hide E3a;have X3b := hide E3b;have X4a := hide E4a;have X4b := hide E4b;have X5a := hide E5a;have X5b := hide E5b;have X6a := hide E6a;have X6b := hide E6b
    have hxn0 : (0 : Int) ≤ (xn : Int) := by omega
    have hxn1 : (xn : Int) < (n : Int) := hx2
    have hj0 : (0 : Int) ≤ (j : Int) := by omega
    have hjK : (j : Int) < (K : Int) := by omega
    have hnew := World.new_ne _ _ hcS;clear p1 q1 r1 s1 p2 q2 r2 p3 q3 r3 p4 q4 r4 p5 q5 r5 p6 q6 r6 E1a E1b E2a E2b E3a E3b E4a E4b E5a E5b E6a E6b hd htk hget hx hc3 hatl hgS hS hG2 hG hGl h8 h9 hbw1
    by_cases hneg : last < 0
    ·have hgx : g = (xn : Int) := by omega
     subst hgx
     go_upto_region 14 with fail
     clear hb HV2
     go_region_law (first
      | (refine step_runW (by with_reducible rfl) (by rfl) _ _ _ (by rfl) _ _ (by rfl) (by rfl) X1a.out ?_)
      | (refine step_runW (by with_reducible rfl) (by rfl) _ _ _ (by rfl) _ _ (by rfl) (by rfl) X1b.out ?_)
      | (refine step_runW (by with_reducible rfl) (by rfl) _ _ _ (by rfl) _ _ (by rfl) (by rfl) X2a.out ?_)
      | (refine step_runW (by with_reducible rfl) (by rfl) _ _ _ (by rfl) _ _ (by rfl) (by rfl) X2b.out ?_)
      | (refine step_runW (by with_reducible rfl) (by rfl) _ _ _ (by rfl) _ _ (by rfl) (by rfl) X3a.out ?_)
      | (refine step_runW (by with_reducible rfl) (by rfl) _ _ _ (by rfl) _ _ (by rfl) (by rfl) X3b.out ?_)
      | (refine step_runW (by with_reducible rfl) (by rfl) _ _ _ (by rfl) _ _ (by rfl) (by rfl) X4a.out ?_)
      | (refine step_runW (by with_reducible rfl) (by rfl) _ _ _ (by rfl) _ _ (by rfl) (by rfl) X4b.out ?_)
      | (refine step_runW (by with_reducible rfl) (by rfl) _ _ _ (by rfl) _ _ (by rfl) (by rfl) X5a.out ?_)
      | (refine step_runW (by with_reducible rfl) (by rfl) _ _ _ (by rfl) _ _ (by rfl) (by rfl) X5b.out ?_)
      | (refine step_runW (by with_reducible rfl) (by rfl) _ _ _ (by rfl) _ _ (by rfl) (by rfl) X6a.out ?_)
      | (refine step_runW (by with_reducible rfl) (by rfl) _ _ _ (by rfl) _ _ (by rfl) (by rfl) X6b.out ?_))
     all_goals
      go_wp2
      go_roundw
      case rel => first | exact ⟨j + 1, (xn : Int), G ++ [(xn : Int)], hlt, by omega, by omega, rfl, by go_num, HG2, HGl2, hide F1.out.1, hide F1.out.2.1, hide F1.out.2.2⟩ | exact ⟨j + 1, (xn : Int), G ++ [(xn : Int)], hlt, by omega, by omega, rfl, by go_num, HG2, HGl2, hide F2.out.1, hide F2.out.2.1, hide F2.out.2.2⟩ | exact ⟨j + 1, (xn : Int), G ++ [(xn : Int)], hlt, by omega, by omega, rfl, by go_num, HG2, HGl2, hide F3.out.1, hide F3.out.2.1, hide F3.out.2.2⟩ | exact ⟨j + 1, (xn : Int), G ++ [(xn : Int)], hlt, by omega, by omega, rfl, by go_num, HG2, HGl2, hide F4.out.1, hide F4.out.2.1, hide F4.out.2.2⟩ | exact ⟨j + 1, (xn : Int), G ++ [(xn : Int)], hlt, by omega, by omega, rfl, by go_num, HG2, HGl2, hide F5.out.1, hide F5.out.2.1, hide F5.out.2.2⟩ | exact ⟨j + 1, (xn : Int), G ++ [(xn : Int)], hlt, by omega, by omega, rfl, by go_num, HG2, HGl2, hide F6.out.1, hide F6.out.2.1, hide F6.out.2.2⟩
      case measure => simp [intOf] <;> omega
    ·go_upto_region 14 with fail
     clear hb HV2
     go_region_law (first
      | (refine step_runW (by with_reducible rfl) (by rfl) _ _ _ (by rfl) _ _ (by rfl) (by rfl) X1a.out ?_)
      | (refine step_runW (by with_reducible rfl) (by rfl) _ _ _ (by rfl) _ _ (by rfl) (by rfl) X1b.out ?_)
      | (refine step_runW (by with_reducible rfl) (by rfl) _ _ _ (by rfl) _ _ (by rfl) (by rfl) X2a.out ?_)
      | (refine step_runW (by with_reducible rfl) (by rfl) _ _ _ (by rfl) _ _ (by rfl) (by rfl) X2b.out ?_)
      | (refine step_runW (by with_reducible rfl) (by rfl) _ _ _ (by rfl) _ _ (by rfl) (by rfl) X3a.out ?_)
      | (refine step_runW (by with_reducible rfl) (by rfl) _ _ _ (by rfl) _ _ (by rfl) (by rfl) X3b.out ?_)
      | (refine step_runW (by with_reducible rfl) (by rfl) _ _ _ (by rfl) _ _ (by rfl) (by rfl) X4a.out ?_)
      | (refine step_runW (by with_reducible rfl) (by rfl) _ _ _ (by rfl) _ _ (by rfl) (by rfl) X4b.out ?_)
      | (refine step_runW (by with_reducible rfl) (by rfl) _ _ _ (by rfl) _ _ (by rfl) (by rfl) X5a.out ?_)
      | (refine step_runW (by with_reducible rfl) (by rfl) _ _ _ (by rfl) _ _ (by rfl) (by rfl) X5b.out ?_)
      | (refine step_runW (by with_reducible rfl) (by rfl) _ _ _ (by rfl) _ _ (by rfl) (by rfl) X6a.out ?_)
      | (refine step_runW (by with_reducible rfl) (by rfl) _ _ _ (by rfl) _ _ (by rfl) (by rfl) X6b.out ?_))
     all_goals
      go_wp2
      go_roundw
      case rel => first | exact ⟨j + 1, (xn : Int), G ++ [g], hlt, by omega, by omega, rfl, by go_num, HG2, HGl2, hide F1.out.1, hide F1.out.2.1, hide F1.out.2.2⟩ | exact ⟨j + 1, (xn : Int), G ++ [g], hlt, by omega, by omega, rfl, by go_num, HG2, HGl2, hide F2.out.1, hide F2.out.2.1, hide F2.out.2.2⟩ | exact ⟨j + 1, (xn : Int), G ++ [g], hlt, by omega, by omega, rfl, by go_num, HG2, HGl2, hide F3.out.1, hide F3.out.2.1, hide F3.out.2.2⟩ | exact ⟨j + 1, (xn : Int), G ++ [g], hlt, by omega, by omega, rfl, by go_num, HG2, HGl2, hide F4.out.1, hide F4.out.2.1, hide F4.out.2.2⟩ | exact ⟨j + 1, (xn : Int), G ++ [g], hlt, by omega, by omega, rfl, by go_num, HG2, HGl2, hide F5.out.1, hide F5.out.2.1, hide F5.out.2.2⟩ | exact ⟨j + 1, (xn : Int), G ++ [g], hlt, by omega, by omega, rfl, by go_num, HG2, HGl2, hide F6.out.1, hide F6.out.2.1, hide F6.out.2.2⟩
      case measure => simp [intOf] <;> omega
   ·have hjK : j = K := by omega
    have hd0 : X.drop j = [] := List.drop_eq_nil_of_le (by rw [HK.out]; omega)
    have hGX : gapsT X = G := by
     have := hG.out;rw [hd0] at this;rw [this];exact List.append_nil _
    have htX : X.take j = X := List.take_of_length_le (by rw [HK.out]; omega);have h9' := h9.out;rw [htX] at h9';obtain ⟨B8, c8, hv8, hat8⟩ := own_at h8.out;obtain ⟨B9, c9, hv9, hat9⟩ := own_at h9'
    injection hv8 with e1 e2 e3
    have e2 := e2.symm
    subst e1; subst e2; subst e3
    injection hv9 with e1 e2 e3
    have e2 := e2.symm
    subst e1; subst e2; subst e3
    obtain ⟨gn1, gn2, gn3⟩ := gaps_nat (l := l) (by rw [Hhn.out]; exact hm) ST;rw [HXe.out] at gn1 gn2 gn3
    have hXj : X.length = j := by rw [HK.out, hjK]
    have hEN := encodenums_any (w := wr) (A := A8) (l := (gapsT X).map Int.toNat) (by rw [gn1, hGX]; exact hat8) j cap8 (by rw [List.length_map, gn3, hXj]) (by rw [List.length_map, gn3, hXj]; omega) gn2;have HEN := hide hEN
    have hal : j = (atI l X).length := by unfold atI; rw [List.length_map, hXj]
    have hasz : ∀ s ∈ atI l X, s.size ≤ 1099511627776 := fun s hs => Hsz.out s (atI_in (fun i hi => Hxi.out i hi) s hs)
    have HSH := hide (fun W2 (h : At W2 A9 (svs (atI l X))) => shortL_any h hasz j cap9 hal (by omega))
    have hln : j = (shortL (atI l X)).length := by unfold shortL; rw [List.length_map]; exact hal
    have hso := short_ok (l := atI l X) (by omega);have HEC := hide (fun W2 (B : Option Addr) (c : Nat) (h : At W2 B (svs (shortL (atI l X)))) => encode_any h (fun s hs => by have := hso.2 s hs; omega) j c hln (by omega));have he2 := dec_short (l := atI l X) (by omega);unfold ERes at HEC;rw [he2.2] at HEC;have Hat9 := hide hat9;have hln2 := tmenc_len (l := shortL (atI l X)) (by omega) hso.2;have hxv := exI_valid (l := l) (by rw [Hhn.out]; exact hm) ST;rw [HXe.out] at hxv;have hnl := numsI_len hxv;have hs4 : (bs (enc (shortL (atI l X))).1).size ≤ 2000000 := hln2
    have hs3 : (bs (text (bs (numsI (gapsT X))))).size ≤ 700000 := by have := text_sz (numsI (gapsT X)); omega
    have hs2 : (bs (text (bs (shr (toL ST))))).size ≤ 140 := by have := text_sz (shr (toL ST)); have := shr_len128 (toL ST); omega
    have hs1 : (bs (text (bs (shr (toL (l.getD 0 default)))))).size ≤ 140 := by have := text_sz (shr (toL (l.getD 0 default))); have := shr_len128 (toL (l.getD 0 default)); omega
    have hst : ST.size ≤ 1099511627776 := by have := stepB_size l; rw [HST.out] at this; omega
    have hl0 : 0 < l.length := by rw [Hhn.out]; exact hpos
    have hg0 : l.getD 0 default = l[0] := getD_at hl0;have hz0 : l[0].size ≤ 1099511627776 := Hsz.out _ (List.getElem_mem _);have HA1 := hide (fun W => shr_two l[0] hz0 W);have HA2 := hide (fun W => text_any (bs (shr (toL l[0]))) (by rw [bs_size]; have := shr_len128 (toL l[0]); omega) W);have HB1 := hide (fun W => shr_two ST hst W);have HB2 := hide (fun W => text_any (bs (shr (toL ST))) (by rw [bs_size]; have := shr_len128 (toL ST); omega) W);have HC2 := hide (fun W => text_any (bs (numsI (gapsT X))) (by rw [bs_size]; omega) W);rw [hg0] at HcC hs1;have hSGe : encn ((gapsT X).map Int.toNat) = numsI (gapsT X) := rfl;rw [hSGe] at HEN;obtain ⟨L0, hL0⟩ : ∃ s, l[0] = s := ⟨_, rfl⟩;have HL0 := hide hL0;rw [hL0] at HA1 HA2 HcC hs1
    generalize bs (enc (shortL (atI l X))).1 = SE at *
    generalize bs (text (bs (numsI (gapsT X)))) = S3 at *
    generalize bs (numsI (gapsT X)) = SG at *
    generalize bs (text (bs (shr (toL ST)))) = S2 at *
    generalize bs (shr (toL ST)) = SS at *
    generalize bs (text (bs (shr (toL L0)))) = S1 at *
    generalize bs (shr (toL L0)) = SL at *
    have e1 := nosumB (a := S0.size) (b := S1.size) (by omega);have e2 := nosumB (a := S0.size + S1.size) (b := S2.size) (by omega);have e3 := nosumB (a := S0.size + S1.size + S2.size) (b := S3.size) (by omega);have e4 := nosumB (a := S0.size + S1.size + S2.size + S3.size) (b := SE.size) (by omega)
    have hn0 : (0 : Int) < (n : Int) := by omega
    clear hln2 hxv hnl hs0 hs1 hs2 hs3 hs4 hst hg0 hz0 hL0 hSGe;clear hjK hd0 hGX htX h9' h8 h9 hG hGl hat8 hat9 gn1 gn2 gn3 hXj hEN hal hasz hln hso he2
    go_wp2_with fail
    refine (HEN.out).mono ?_;rintro x w4 ⟨rfl, hb4⟩;have Hb4 := hide (hb.out.trans (hb4.mono hb.out.size));have HSH1 := hide (HSH.out w4 (Hat9.out.below hb4));clear hb4 HEN HSH Hat9
    go_wp2_with fail
    refine (HSH1.out).mono ?_;rintro x w5 ⟨g5, rfl, hg51, hg52, hat5, hb5⟩;have Hb5 := hide (Hb4.out.trans (hb5.mono Hb4.out.size));have HEC1 := hide (HEC.out w5 _ j hat5);clear hb5 HSH1 HEC hat5 hg51 hg52 Hb4
    go_wp2_with fail
    refine (HEC1.out).mono ?_;rintro x w6 ⟨rfl, hb6⟩;have Hb6 := hide (Hb5.out.trans (hb6.mono Hb5.out.size));obtain ⟨b, o, rfl, hbl, hcS⟩ := sv_cell ((Ha.out.below Hb3.out).below Hb6.out) 0 hl0;rw [Nat.add_zero, HL0.out] at hcS;clear hb6 HEC1 Hb5 Ha hbl
    go_wp2_with fail
    refine (HA1.out w6).mono ?_;rintro x w7 ⟨rfl, hb7⟩;have Hb7 := hide (Hb6.out.trans (hb7.mono Hb6.out.size));clear hb7 HA1 Hb6 hcS
    go_wp2_with fail
    refine (HA2.out w7).mono ?_;rintro x w8 ⟨rfl, hb8⟩;have Hb8 := hide (Hb7.out.trans (hb8.mono Hb7.out.size));clear hb8 HA2 Hb7
    go_wp2_with fail
    refine (HB1.out w8).mono ?_;rintro x w9 ⟨rfl, hb9⟩;have Hb9 := hide (Hb8.out.trans (hb9.mono Hb8.out.size));clear hb9 HB1 Hb8
    go_wp2_with fail
    refine (HB2.out w9).mono ?_;rintro x w10 ⟨rfl, hb10⟩;have Hb10 := hide (Hb9.out.trans (hb10.mono Hb9.out.size));clear hb10 HB2 Hb9
    go_wp2_with fail
    refine (HC2.out w10).mono ?_;rintro x w11 ⟨rfl, hb11⟩;have Hb11 := hide (Hb3.out.trans ((Hb10.out.trans (hb11.mono Hb10.out.size)).mono Hb3.out.size));clear hb11 HC2 Hb10
    go_wp2
    go_returns
    exact ⟨by rw [HcC.out]; rfl, Hb11.out⟩
end Go.Proofs.YtoeeblldgoccoaaGreat
