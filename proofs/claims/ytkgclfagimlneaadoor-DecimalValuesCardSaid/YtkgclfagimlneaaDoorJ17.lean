/-
  The walks over the references: reading a number, the walk.
-/
import Derived.Test.YtkgclfagimlneaaDoorJ16
set_option linter.unusedVariables false
set_option linter.unusedSimpArgs false
namespace Go.Proofs.YtkgclfagimlneaaDoor
open Go.RowKit Go.Proofs Wv Wv.Dc
set_option linter.unusedVariables false

set_option maxRecDepth 100000 in
set_option maxHeartbeats 4000000 in
theorem rread_any (s : ByteArray) (hs0 : s.size ≤ 1000000) (w : World) :
    Calls Tryd.prog 35 #[.string s] w fun x w' => RdRes w w' (scn cl2 (toL s)) x := by
  obtain ⟨R, hR⟩ : ∃ R, scn cl2 (toL s) = R := ⟨_, rfl⟩
  rw [hR]
  have hLz : (toL s).length = s.size := toL_length s
  obtain ⟨b, hb⟩ : ∃ b, hitB [45] (toL s) 0 = b := ⟨_, rfl⟩
  obtain ⟨k1, hk1⟩ : ∃ k1, sgK (toL s) 0 = k1 := ⟨_, rfl⟩
  have hk := sgK_le (L := toL s) (k := 0) (Nat.zero_le _)
  have hs2 := sgK_two (toL s) 0
  rw [hk1] at hk hs2
  have hk1s : k1 ≤ s.size := by omega
  have hk11 : k1 ≤ 1 := by rw [hs2]; split <;> omega
  have Hb := hide hb
  have Hs2 := hide hs2
  have Hst := hide (rd_start w)
  have HR := hide hR
  have Hk1 := hide hk1
  clear hb hs2 hR hk hk1 hLz
  go_enter Tryd.func35, Tryd.ntmps35
  go_upto_region 3 with fail
  generalize ((w.alloc (.cells #[.bool false, .string ⟨#[]⟩, .int .i64 0] 49)).alloc (.cells #[.bool false, .string ⟨#[]⟩, .int .i64 0] 49)) = W0 at *
  go_cut [23] (fun s23 wx => s23 = .bool (hitB [43, 45] (toL s) 0) ∧ wx = W0)
  case first => as_aux_lemma =>
    clear Hst
    by_cases h0 : 0 < s.size
    · have h2 := hit2 h0 43 45
      have h0i : (0 : Int) < (s.size : Int) := by omega
      obtain ⟨C, hC⟩ : ∃ C, (s[0]'h0).toNat = C := ⟨_, rfl⟩
      rw [hC] at h2
      have H2 := hide h2
      clear h2
      by_cases c1 : C = 43
      · subst c1
        go_wp2
        go_meet
        case rel => exact ⟨by rw [H2.out]; rfl, rfl⟩
      · have c1' : ((C : Int) == 43) = false := by rw [beq_eq_false_iff_ne]; omega
        by_cases c2 : C = 45
        · subst c2
          go_wp2
          go_meet
          case rel => exact ⟨by rw [H2.out]; rfl, rfl⟩
        · have c2' : ((C : Int) == 45) = false := by rw [beq_eq_false_iff_ne]; omega
          clear c1 c2
          go_wp2
          go_meet
          case rel => exact ⟨by rw [H2.out]; simp [c1', c2'], rfl⟩
    · have h0i : ¬ (0 : Int) < (s.size : Int) := by omega
      have H2 := hide (hit0 [43, 45] h0)
      go_wp2
      go_meet
      case rel => exact ⟨by rw [H2.out], rfl⟩
  case rest => as_aux_lemma =>
    obtain ⟨rfl, rfl⟩ := hcut
    go_upto_if 23 with fail
    go_cut [5] (fun s5 wx => s5 = .int .i64 (k1 : Int) ∧ RdSt w wx b [] 0)
    case first => as_aux_lemma =>
      cases hh : hitB [43, 45] (toL s) 0 with
      | false =>
        have e1 : k1 = 0 := by have := Hs2.out; rw [hh] at this; simpa using this
        have e2 : b = false := by
          rw [← Hb.out]
          by_cases h0 : 0 < s.size
          · rw [hit1 h0]
            rw [hit2 h0] at hh
            simp at hh
            simpa using hh.2
          · exact hit0 _ h0
        have HS := hide (show RdSt w wc b [] 0 by rw [e2]; exact Hst.out)
        subst e1
        go_wp2
        go_meet
        case rel => exact ⟨rfl, HS.out⟩
      | true =>
        have e1 : k1 = 1 := by have := Hs2.out; rw [hh] at this; simpa using this
        have h0 : 0 < s.size := by
          rcases Nat.eq_zero_or_pos s.size with h | h
          · rw [hit0 _ (by omega)] at hh; cases hh
          · exact h
        have e2 := Hb.out
        rw [hit1 h0] at e2
        obtain ⟨C, hC⟩ : ∃ C, (s[0]'h0).toNat = C := ⟨_, rfl⟩
        rw [hC] at e2
        have h0i : (0 : Int) < (s.size : Int) := by omega
        have f0 := Bk.frozen Hst.out.kp 0
        have n0 := Bk.cell Hst.out.kp 0
        simp at n0
        have HS := hide (Hst.out.neg b)
        have E2 := hide e2
        subst e1
        have e3 : ((C : Int) == 45) = b := e2
        clear hh e2 Hs2 Hb Hst
        go_wp2
        go_meet
        case rel => exact ⟨rfl, by first | exact HS.out | (rw [← E2.out] at HS; exact HS.out)⟩
    case rest => as_aux_lemma =>
      obtain ⟨rfl, hst⟩ := hcut
      have H1 := hide hst
      clear hst Hst Hs2
      obtain ⟨D, hD⟩ : ∃ D, dfr ((toL s).drop k1) = D := ⟨_, rfl⟩
      obtain ⟨l1, hl1⟩ : ∃ l, D.length = l := ⟨_, rfl⟩
      obtain ⟨k2, hk2⟩ : ∃ k, k1 + l1 = k := ⟨_, rfl⟩
      have hfit := dfr_fit (toL s) (k := k1) (by rw [toL_length]; exact hk1s)
      rw [hD, hl1, hk2, toL_length] at hfit
      have Hdig : Hid (∀ W, Calls Tryd.prog 54 #[.string s, .int .i64 (k1 : Int)] W fun x w' => x = .returned (.int .i64 (l1 : Int)) ∧ W = w') := hide (fun W => by
        have := rdigits_any s k1 hk1s hs0 W
        rw [hD, hl1] at this
        exact this)
      have hex : s.extract k1 k2 = bs D := by
        have := ext_sub s k1 l1 (by rw [hD, hl1])
        rw [hk2, hD] at this
        exact this
      have HD := hide hD
      have Hl1 := hide hl1
      clear hD hl1
      go_wp2_with fail
      refine (Hdig.out _).mono ?_
      rintro x w2 ⟨rfl, rfl⟩
      by_cases hbad : l1 = 0 ∨ 64 < s.size
      · have hRn : R = none := by
          rw [← HR.out]
          by_cases h64 : 64 < s.size
          · unfold scn
            rw [if_pos (by rw [toL_length]; exact h64)]
          · rw [scn_at cl2 (by rw [toL_length]; omega), Hk1.out, HD.out, if_pos (List.eq_nil_of_length_eq_zero (by rw [Hl1.out]; omega))]
        subst hRn
        have hway : l1 = 0 ∨ (l1 ≠ 0 ∧ 64 < s.size) := by omega
        obtain ⟨WF, hWF, u0, u1, u2, hbF⟩ := strip_end H1.out.kr H1.out.bel (Nat.le_refl _) false ⟨#[]⟩ 0
        have HWF := hide hWF
        have HbF := hide hbF
        have r0 := H1.out.kr.cell 0
        have r1 := H1.out.kr.cell 1
        have r2 := H1.out.kr.cell 2
        have g0 := H1.out.kr.frozen 0
        have g1 := H1.out.kr.frozen 1
        have g2 := H1.out.kr.frozen 2
        simp at r0 r1 r2
        clear hWF hbF hbad H1 HR HD hk2 hfit hex
        rcases hway with rfl | ⟨hl, h64⟩
        · as_aux_lemma =>
          go_wp2_with ((with_reducible show bodyPost _ _ _ _ _ _); rw [HWF.out]; refine bodyPost_ret (v := .tuple #[.agg #[.bool false, .string ⟨#[]⟩, .int .i64 0], .bool false]) (by simp [results, Tryd.results35, go_sem, u0, u1, u2]; try rfl) rfl ?_; exact ⟨false, [], 0, false, rfl, HbF.out, rfl⟩)
        · as_aux_lemma =>
          have h64i : (64 : Int) < (s.size : Int) := by omega
          have hl0 := beq_nat0 hl
          clear hl h64
          go_wp2_with ((with_reducible show bodyPost _ _ _ _ _ _); rw [HWF.out]; refine bodyPost_ret (v := .tuple #[.agg #[.bool false, .string ⟨#[]⟩, .int .i64 0], .bool false]) (by simp [results, Tryd.results35, go_sem, u0, u1, u2]; try rfl) rfl ?_; exact ⟨false, [], 0, false, rfl, HbF.out, rfl⟩)
      · have h64 : ¬ 64 < s.size := by omega
        have h64i : ¬ (64 : Int) < (s.size : Int) := by omega
        have hl0 := beq_nat0 (show l1 ≠ 0 by omega)
        have hD0 : D ≠ [] := fun h => hbad (.inl (by rw [← Hl1.out, h]; rfl))
        have hR2 := HR.out
        rw [scn_at cl2 (by rw [toL_length]; omega), Hk1.out, HD.out, if_neg hD0, Hl1.out, hk2, Hb.out] at hR2
        have HR2 := hide hR2
        have hkk : (k1 : Int) + (l1 : Int) = (k2 : Int) := by omega
        have hkb : (k2 : Int) ≤ (s.size : Int) := by omega
        have hkc : (k1 : Int) ≤ (k2 : Int) := by omega
        have hl64 : l1 ≤ 64 := by omega
        have n1 := Bk.cell H1.out.kp 1
        have n2 := Bk.cell H1.out.kp 2
        have f1 := Bk.frozen H1.out.kp 1
        have f2 := Bk.frozen H1.out.kp 2
        simp at n1 n2
        have H2 := hide ((H1.out.dg D).ex ((l1 : Int) - 1))
        clear hR2 HR hD0 HD H1 hbad Hk1 Hb
        obtain ⟨SD, hSD⟩ : ∃ S, bs D = S := ⟨_, rfl⟩
        rw [hSD] at hex H2
        have HSD := hide hSD
        clear hSD
        go_upto_region 9 with fail
        obtain ⟨W2, hW2⟩ : ∃ W, ((wc.setCell ⟨w.heap.size + 1, 1, none⟩ (.string SD)).setCell ⟨w.heap.size + 1, 2, none⟩ (.int .i64 ((l1 : Int) - 1))) = W := ⟨_, rfl⟩
        rw [hW2] at H2 ⊢
        clear hW2 n1 n2 f1 f2 hex Hdig
        go_cut [61] (fun s61 wx => s61 = .bool (hitB [46] (toL s) k2) ∧ wx = W2)
        case first => as_aux_lemma =>
          clear H2 HR2
          by_cases h0 : k2 < s.size
          · have h2 := hit1 h0 46
            have h0i : (k2 : Int) < (s.size : Int) := by omega
            obtain ⟨C, hC⟩ : ∃ C, (s[k2]'h0).toNat = C := ⟨_, rfl⟩
            rw [hC] at h2
            have H9 := hide h2
            clear h2
            go_wp2
            go_meet
            case rel => exact ⟨by rw [H9.out]; rfl, rfl⟩
          · have h0i : ¬ (k2 : Int) < (s.size : Int) := by omega
            have H9 := hide (hit0 [46] h0)
            go_wp2
            go_meet
            case rel => exact ⟨by rw [H9.out], rfl⟩
        case rest => as_aux_lemma =>
          obtain ⟨rfl, rfl⟩ := hcut
          have hfp := frac_place (toL s) k2
          go_upto_if 61 with fail
          go_cut [5] (fun s5 wx => ∃ (P : List UInt8) (k3 : Nat), s5 = .int .i64 (k3 : Int) ∧ k3 ≤ s.size ∧ P.length ≤ 64 ∧ Hid (frac ((toL s).drop k2) = some (P, (toL s).drop k3)) ∧ Hid (RdSt w wx b (D ++ P) ((l1 : Int) - 1)))
          case first => as_aux_lemma =>
            cases hdot : hitB [46] (toL s) k2 with
            | false =>
              rw [hdot] at hfp
              have Hfp := hide hfp
              have H3 := hide (show RdSt w wc b (D ++ []) ((l1 : Int) - 1) by rw [List.append_nil]; exact H2.out)
              clear hfp hdot
              go_wp2
              go_meet
              case rel => exact ⟨[], k2, rfl, hfit, by simp, Hfp, H3⟩
            | true =>
              rw [hdot, if_pos rfl] at hfp
              have hlt : k2 < s.size := by have := hit_lt hdot; rw [toL_length] at this; exact this
              obtain ⟨k2', hk2'⟩ : ∃ k, k2 + 1 = k := ⟨_, rfl⟩
              rw [hk2'] at hfp
              obtain ⟨P, hP⟩ : ∃ P, dfr ((toL s).drop k2') = P := ⟨_, rfl⟩
              obtain ⟨l2, hl2⟩ : ∃ l, P.length = l := ⟨_, rfl⟩
              obtain ⟨k3, hk3⟩ : ∃ k, k2' + l2 = k := ⟨_, rfl⟩
              have hfit2 := dfr_fit (toL s) (k := k2') (by rw [toL_length]; omega)
              rw [hP, hl2, hk3, toL_length] at hfit2
              rw [hP, hl2, hk3] at hfp
              have Hdig : Hid (∀ W, Calls Tryd.prog 54 #[.string s, .int .i64 (k2' : Int)] W fun x w' => x = .returned (.int .i64 (l2 : Int)) ∧ W = w') := hide (fun W => by
                have := rdigits_any s k2' (by omega) hs0 W
                rw [hP, hl2] at this
                exact this)
              have hex : s.extract k2' k3 = bs P := by
                have := ext_sub s k2' l2 (by rw [hP, hl2])
                rw [hk3, hP] at this
                exact this
              have i1 : (k2 : Int) + 1 = (k2' : Int) := by omega
              have i2 : (k2' : Int) + (l2 : Int) = (k3 : Int) := by omega
              have Hl2 := hide hl2
              clear hP hl2 hdot
              go_wp2_with fail
              refine (Hdig.out _).mono ?_
              rintro x w3 ⟨rfl, rfl⟩
              by_cases hl0' : l2 = 0
              · as_aux_lemma =>
                have hP0 : P = [] := List.eq_nil_of_length_eq_zero (by rw [Hl2.out]; exact hl0')
                rw [if_pos hP0] at hfp
                have hR2 := HR2.out
                rw [hfp] at hR2
                have hRn : R = none := hR2.symm
                subst hRn
                obtain ⟨WF, hWF, u0, u1, u2, hbF⟩ := strip_end H2.out.kr H2.out.bel (Nat.le_refl _) false ⟨#[]⟩ 0
                have HWF := hide hWF
                have HbF := hide hbF
                have r0 := H2.out.kr.cell 0
                have r1 := H2.out.kr.cell 1
                have r2 := H2.out.kr.cell 2
                have g0 := H2.out.kr.frozen 0
                have g1 := H2.out.kr.frozen 1
                have g2 := H2.out.kr.frozen 2
                simp at r0 r1 r2
                subst hl0'
                clear hWF hbF hfp hR2 hP0 H2 HR2 hex Hl2 hk3 hk2' i2
                go_wp2_with ((with_reducible show bodyPost _ _ _ _ _ _); rw [HWF.out]; refine bodyPost_ret (v := .tuple #[.agg #[.bool false, .string ⟨#[]⟩, .int .i64 0], .bool false]) (by simp [results, Tryd.results35, go_sem, u0, u1, u2]; try rfl) rfl ?_; exact ⟨false, [], 0, false, rfl, HbF.out, rfl⟩)
              · as_aux_lemma =>
                have hP0 : P ≠ [] := fun h => hl0' (by rw [← Hl2.out, h]; rfl)
                rw [if_neg hP0] at hfp
                have Hfp := hide hfp
                have hl00 := beq_nat0 hl0'
                have hP64 : P.length ≤ 64 := by rw [Hl2.out]; omega
                have n1 := Bk.cell H2.out.kp 1
                have f1 := Bk.frozen H2.out.kp 1
                simp at n1
                have H3 := hide ((H2.out.dg (D ++ P)).drew)
                have hcat : bs (D ++ P) = SD ++ bs P := by rw [← HSD.out, bs_append]
                rw [hcat] at H3
                obtain ⟨SP, hSP⟩ : ∃ S, bs P = S := ⟨_, rfl⟩
                rw [hSP] at H3 hex
                have z1 : SD.size ≤ 64 := by rw [← HSD.out, bs_size, Hl1.out]; exact hl64
                have z2 : SP.size ≤ 64 := by rw [← hSP, bs_size]; exact hP64
                have j1 : IntKind.i64.wrap ((k2 : Int) + 1) = (k2' : Int) := by rw [IntWalk.i64_in _ (by omega), i1]
                have j2 : IntKind.i64.wrap ((k2' : Int) + (l2 : Int)) = (k3 : Int) := by rw [IntWalk.i64_in _ (by omega), i2]
                have j3 : (k3 : Int) ≤ (s.size : Int) := by omega
                have j4 : (k2' : Int) ≤ (k3 : Int) := by omega
                rw [HSD.out] at n1
                clear hfp hcat hSP hP0 hl0' Hdig H2 HR2
                go_wp2
                go_region
                all_goals
                  go_wp2
                  go_meet
                  case rel => exact ⟨P, k3, rfl, hfit2, hP64, Hfp, H3⟩
          case rest => as_aux_lemma =>
            obtain ⟨P, k3, rfl, hk3s, hPl, hfr, hst⟩ := hcut
            have hR3 := HR2.out
            rw [hfr.out] at hR3
            simp only at hR3
            have HR3 := hide hR3
            have hDPl : (D ++ P).length ≤ 128 := by rw [List.length_append, Hl1.out]; omega
            have hDPm : (D ++ P).length = l1 + P.length := by rw [List.length_append, Hl1.out]
            obtain ⟨DP, hDP⟩ : ∃ DP, D ++ P = DP := ⟨_, rfl⟩
            rw [hDP] at HR3 hst hDPl hDPm
            have H4 := hst
            have HDPm := hide hDPm
            clear hR3 HR2 H2 hfr hfp hst hDP hDPm HSD hl0 hkk hkb hkc
            go_upto_region 14 with fail
            go_cut [100] (fun s100 wx => s100 = .bool (hitB [101, 69] (toL s) k3) ∧ wx = wc)
            case first => as_aux_lemma =>
              clear H4 HR3
              by_cases h0 : k3 < s.size
              · have h2 := hit2 h0 101 69
                have h0i : (k3 : Int) < (s.size : Int) := by omega
                obtain ⟨C, hC⟩ : ∃ C, (s[k3]'h0).toNat = C := ⟨_, rfl⟩
                rw [hC] at h2
                have H9 := hide h2
                clear h2
                by_cases c1 : C = 101
                · subst c1
                  go_wp2
                  go_meet
                  case rel => exact ⟨by rw [H9.out]; rfl, rfl⟩
                · have c1' : ((C : Int) == 101) = false := by rw [beq_eq_false_iff_ne]; omega
                  by_cases c2 : C = 69
                  · subst c2
                    go_wp2
                    go_meet
                    case rel => exact ⟨by rw [H9.out]; rfl, rfl⟩
                  · have c2' : ((C : Int) == 69) = false := by rw [beq_eq_false_iff_ne]; omega
                    clear c1 c2
                    go_wp2
                    go_meet
                    case rel => exact ⟨by rw [H9.out]; simp [c1', c2'], rfl⟩
              · have h0i : ¬ (k3 : Int) < (s.size : Int) := by omega
                have H9 := hide (hit0 [101, 69] h0)
                go_wp2
                go_meet
                case rel => exact ⟨by rw [H9.out], rfl⟩
            case rest => as_aux_lemma =>
              obtain ⟨rfl, rfl⟩ := hcut
              have hxp := expo_place cl2 (toL s) k3
              go_upto_if 100 with fail
              go_cut [5] (fun s5 wx => ∃ (E : Int) (k4 : Nat), s5 = .int .i64 (k4 : Int) ∧ k4 ≤ s.size ∧ Hid (expo cl2 ((toL s).drop k3) = some (E, (toL s).drop k4)) ∧ Hid (RdSt w wx b DP ((l1 : Int) - 1 + E)))
              case first => as_aux_lemma =>
                cases hE : hitB [101, 69] (toL s) k3 with
                | false =>
                  rw [hE] at hxp
                  have Hxp := hide hxp
                  clear hxp hE
                  go_wp2
                  go_meet
                  case rel => exact ⟨0, k3, rfl, hk3s, Hxp, hide (by rw [Int.add_zero]; exact H4.out)⟩
                | true =>
                  rw [hE, if_pos rfl] at hxp
                  have hlt : k3 < s.size := by have := hit_lt hE; rw [toL_length] at this; exact this
                  obtain ⟨k3', hk3'⟩ : ∃ k, k3 + 1 = k := ⟨_, rfl⟩
                  have hk3s' : k3' ≤ s.size := by omega
                  have i1 : (k3 : Int) + 1 = (k3' : Int) := by omega
                  have hs2 := sgK_two (toL s) k3'
                  have hk5 := (sgK_le (L := toL s) (k := k3') (by rw [toL_length]; exact hk3s')).2
                  rw [hk3'] at hxp
                  obtain ⟨bn, hbn⟩ : ∃ bn, hitB [45] (toL s) k3' = bn := ⟨_, rfl⟩
                  obtain ⟨k5, hk5e⟩ : ∃ k, sgK (toL s) k3' = k := ⟨_, rfl⟩
                  rw [hbn, hk5e] at hxp
                  rw [hk5e] at hs2
                  rw [hk5e, toL_length] at hk5
                  obtain ⟨D3, hD3⟩ : ∃ P, dfr ((toL s).drop k5) = P := ⟨_, rfl⟩
                  obtain ⟨l3, hl3⟩ : ∃ l, D3.length = l := ⟨_, rfl⟩
                  obtain ⟨k7, hk7⟩ : ∃ k, k5 + l3 = k := ⟨_, rfl⟩
                  have hfit3 := dfr_fit (toL s) (k := k5) (by rw [toL_length]; exact hk5)
                  rw [hD3, hl3, hk7, toL_length] at hfit3
                  rw [hD3, hl3, hk7] at hxp
                  have Hdig : Hid (∀ W, Calls Tryd.prog 54 #[.string s, .int .i64 (k5 : Int)] W fun x w' => x = .returned (.int .i64 (l3 : Int)) ∧ W = w') := hide (fun W => by
                    have := rdigits_any s k5 hk5 hs0 W
                    rw [hD3, hl3] at this
                    exact this)
                  have Hcell : Hid (∀ i, i < l3 → ∃ (h : k5 + i < s.size), 48 ≤ (s[k5 + i]'h).toNat ∧ (s[k5 + i]'h).toNat ≤ 57 ∧ cl2 (D3.take (i + 1)) = min (10 * cl2 (D3.take i) + ((s[k5 + i]'h).toNat - 48)) 100000) := hide (fun i hi => by
                    have hz : k5 + i < s.size := by omega
                    obtain ⟨c, hc1, hc2⟩ := dfr_get ((toL s).drop k5) i (by rw [hD3, hl3]; exact hi)
                    rw [List.getElem?_drop, byte_at s (k5 + i) hz] at hc1
                    injection hc1 with hc1
                    obtain ⟨q1, q2, q3⟩ := dig_dv hc2
                    have hdi : D3[i]'(by omega) = c := by
                      have h1 : D3[i]? = some c := by
                        rw [← hD3, dfr_pre, List.getElem?_take_of_lt (by rw [hD3, hl3]; exact hi), List.getElem?_drop, byte_at s (k5 + i) hz, hc1]
                      obtain ⟨_, h2⟩ := List.getElem?_eq_some_iff.1 h1
                      exact h2
                    refine ⟨hz, by rw [hc1]; exact q1, by rw [hc1]; exact q2, ?_⟩
                    rw [cl2_snoc D3 i (by omega), hdi, q3, hc1])
                  have Hbn := hide hbn
                  have Hs2 := hide hs2
                  have Hl3 := hide hl3
                  have Hxp := hide hxp
                  clear hxp hE hbn hs2 hk5e hD3 hl3 hlt
                  go_upto_region 16 with fail
                  go_cut [7] (fun s7 wx => s7 = .bool bn ∧ wx = wc)
                  case first => as_aux_lemma =>
                    have hbn := Hbn.out
                    clear H4 HR3 Hdig Hcell Hxp Hs2
                    by_cases h0 : k3' < s.size
                    · rw [hit1 h0] at hbn
                      have h0i : (k3' : Int) < (s.size : Int) := by omega
                      obtain ⟨C, hC⟩ : ∃ C, (s[k3']'h0).toNat = C := ⟨_, rfl⟩
                      rw [hC] at hbn
                      have H9 := hide hbn
                      clear hbn Hbn
                      go_wp2
                      go_meet
                      case rel => exact ⟨by rw [← H9.out]; rfl, rfl⟩
                    · have h0i : ¬ (k3' : Int) < (s.size : Int) := by omega
                      rw [hit0 [45] h0] at hbn
                      have H9 := hide hbn
                      clear hbn Hbn
                      go_wp2
                      go_meet
                      case rel => exact ⟨by rw [← H9.out], rfl⟩
                  case rest => as_aux_lemma =>
                    obtain ⟨rfl, rfl⟩ := hcut
                    go_upto_region 17 with fail
                    go_cut [128] (fun s128 wx => s128 = .bool (hitB [43, 45] (toL s) k3') ∧ wx = wc)
                    case first => as_aux_lemma =>
                      clear H4 HR3 Hdig Hcell Hxp Hs2 Hbn
                      by_cases h0 : k3' < s.size
                      · have h2 := hit2 h0 43 45
                        have h0i : (k3' : Int) < (s.size : Int) := by omega
                        obtain ⟨C, hC⟩ : ∃ C, (s[k3']'h0).toNat = C := ⟨_, rfl⟩
                        rw [hC] at h2
                        have H9 := hide h2
                        clear h2
                        by_cases c1 : C = 43
                        · subst c1
                          go_wp2
                          go_meet
                          case rel => exact ⟨by rw [H9.out]; rfl, rfl⟩
                        · have c1' : ((C : Int) == 43) = false := by rw [beq_eq_false_iff_ne]; omega
                          by_cases c2 : C = 45
                          · subst c2
                            go_wp2
                            go_meet
                            case rel => exact ⟨by rw [H9.out]; rfl, rfl⟩
                          · have c2' : ((C : Int) == 45) = false := by rw [beq_eq_false_iff_ne]; omega
                            clear c1 c2
                            go_wp2
                            go_meet
                            case rel => exact ⟨by rw [H9.out]; simp [c1', c2'], rfl⟩
                      · have h0i : ¬ (k3' : Int) < (s.size : Int) := by omega
                        have H9 := hide (hit0 [43, 45] h0)
                        go_wp2
                        go_meet
                        case rel => exact ⟨by rw [H9.out], rfl⟩
                    case rest => as_aux_lemma =>
                      obtain ⟨rfl, rfl⟩ := hcut
                      go_upto_if 128 with fail
                      go_cut [5] (fun s5 wx => s5 = .int .i64 (k5 : Int) ∧ wx = wc)
                      case first => as_aux_lemma =>
                        have hs2 := Hs2.out
                        clear H4 HR3 Hdig Hcell Hxp Hs2 Hbn
                        cases hh : hitB [43, 45] (toL s) k3' with
                        | false =>
                          rw [hh] at hs2
                          have e1 : k5 = k3' := by simpa using hs2
                          subst e1
                          clear hs2 hh
                          go_wp2
                          go_meet
                          case rel => exact ⟨rfl, rfl⟩
                        | true =>
                          rw [hh] at hs2
                          have e1 : k5 = k3' + 1 := by simpa using hs2
                          have e2 : (k3' : Int) + 1 = (k5 : Int) := by omega
                          clear hs2 hh e1
                          go_wp2
                          go_meet
                          case rel => exact ⟨rfl, rfl⟩
                      case rest => as_aux_lemma =>
                        obtain ⟨rfl, rfl⟩ := hcut
                        go_wp2_with fail
                        refine (Hdig.out _).mono ?_
                        rintro x w5 ⟨rfl, rfl⟩
                        by_cases hl0' : l3 = 0
                        · as_aux_lemma =>
                          have hP0 : D3 = [] := List.eq_nil_of_length_eq_zero (by rw [Hl3.out]; exact hl0')
                          have hxp := Hxp.out
                          rw [if_pos hP0] at hxp
                          have hR2 := HR3.out
                          rw [hxp] at hR2
                          have hRn : R = none := hR2.symm
                          subst hRn
                          obtain ⟨WF, hWF, u0, u1, u2, hbF⟩ := strip_end H4.out.kr H4.out.bel (Nat.le_refl _) false ⟨#[]⟩ 0
                          have HWF := hide hWF
                          have HbF := hide hbF
                          have r0 := H4.out.kr.cell 0
                          have r1 := H4.out.kr.cell 1
                          have r2 := H4.out.kr.cell 2
                          have g0 := H4.out.kr.frozen 0
                          have g1 := H4.out.kr.frozen 1
                          have g2 := H4.out.kr.frozen 2
                          simp at r0 r1 r2
                          subst hl0'
                          clear hWF hbF hxp hR2 hP0 H4 HR3 Hl3 hk7 hfit3 Hdig Hcell Hxp Hbn Hs2 i1 hk3'
                          go_wp2_with ((with_reducible show bodyPost _ _ _ _ _ _); rw [HWF.out]; refine bodyPost_ret (v := .tuple #[.agg #[.bool false, .string ⟨#[]⟩, .int .i64 0], .bool false]) (by simp [results, Tryd.results35, go_sem, u0, u1, u2]; try rfl) rfl ?_; exact ⟨false, [], 0, false, rfl, HbF.out, rfl⟩)
                        · as_aux_lemma =>
                          have hxp := Hxp.out
                          rw [if_neg (fun h => hl0' (by rw [← Hl3.out, h]; rfl))] at hxp
                          have Hxp2 := hide hxp
                          have hl00 := beq_nat0 hl0'
                          have hl364 : l3 ≤ 64 := by omega
                          have n2 := Bk.cell H4.out.kp 2
                          have f2 := Bk.frozen H4.out.kp 2
                          simp at n2
                          have Hfit3 := hide hfit3
                          have i3 : (k5 : Int) + (l3 : Int) = (k7 : Int) := by omega
                          have hk5z : k5 ≤ 64 := by omega
                          have hk5c : (k5 : Int) ≤ (s.size : Int) := by omega
                          clear hxp Hxp hl0' Hdig Hs2 HR3 hfit3 hk7 Hbn i1 hk3'
                          go_upto_region 24 with fail
                          go_loopw [8, 9] (fun s8 s9 wr => ∃ i : Nat, i ≤ l3 ∧ s8 = .int .i64 ((cl2 (D3.take i) : Nat) : Int) ∧ s9 = .int .i64 (i : Int) ∧ wr = wc) (fun _ s9 _ => (l3 - intOf s9).toNat)
                          case atStart => exact ⟨0, Nat.zero_le _, rfl, rfl, rfl⟩
                          case round => as_aux_lemma =>
                            obtain ⟨i, hi, rfl, rfl, rfl⟩ := hrel
                            obtain ⟨c, hc⟩ : ∃ c, cl2 (D3.take i) = c := ⟨_, rfl⟩
                            have hcl := cl2_le (D3.take i)
                            rw [hc] at hcl
                            by_cases hlt : i < l3
                            · obtain ⟨hz, q1, q2, q3⟩ := Hcell.out i hlt
                              rw [hc] at q3
                              obtain ⟨X, hX⟩ : ∃ X, (s[k5 + i]'hz).toNat = X := ⟨_, rfl⟩
                              rw [hX] at q1 q2 q3
                              obtain ⟨kk, hkk⟩ : ∃ k, k5 + i = k := ⟨_, rfl⟩
                              have i4 : (k5 : Int) + (i : Int) = (kk : Int) := by omega
                              obtain ⟨hz2, hX2⟩ : ∃ h : kk < s.size, (s[kk]'h).toNat = X := by
                                subst hkk
                                exact ⟨hz, hX⟩
                              have hzi : (kk : Int) < (s.size : Int) := by omega
                              have Q3 := hide q3
                              rw [hc]
                              clear q3 hc n2 f2 Hcell i3 hX hz hkk
                              go_wp2
                              refine ⟨⟨i + 1, hlt, ?_, by go_num, by first | trivial | rfl⟩, ?_⟩
                              · rw [Q3.out]
                                first
                                  | (congr 1; omega)
                                  | rfl
                              · simp [intOf] <;> omega
                            · have hiN : i = l3 := by omega
                              have htk : D3.take i = D3 := List.take_of_length_le (by have := Hl3.out; omega)
                              rw [htk] at hc
                              have hxp := Hxp2.out
                              rw [hc] at hxp
                              have Hxp3 := hide hxp
                              have hexs : Hid (∀ e', RdSt w (wr.setCell ⟨w.heap.size + 1, 2, none⟩ (.int .i64 e')) b DP e') := hide (fun e' => H4.out.ex e')
                              rw [htk, hc]
                              subst hiN
                              clear htk hc hxp Hxp2 Hcell
                              cases bn
                              · go_wp2
                                go_meet
                                case rel => exact ⟨_, k7, by first | rfl | go_num, Hfit3.out, Hxp3, hide (by
                                  have := hexs.out ((l1 : Int) - 1 + (c : Int))
                                  rw [show sg false * (c : Int) = (c : Int) by unfold sg; simp]
                                  exact this)⟩
                              · go_wp2
                                go_meet
                                case rel => exact ⟨_, k7, by first | rfl | go_num, Hfit3.out, Hxp3, hide (by
                                  have := hexs.out ((l1 : Int) - 1 + -(c : Int))
                                  rw [show sg true * (c : Int) = -(c : Int) by unfold sg; simp]
                                  exact this)⟩
              case rest => as_aux_lemma =>
                obtain ⟨E, k4, rfl, hk4s, hxp, hst⟩ := hcut
                obtain ⟨hE1, hE2⟩ := expo_in2 hxp.out
                have hR := HR3.out
                rw [hxp.out] at hR
                simp only at hR
                have hdl : (toL s).drop k4 = [] ↔ k4 = s.size := by
                  rw [List.drop_eq_nil_iff, toL_length]
                  omega
                have Hfin : Hid (∀ W, Below w.heap.size w W → RdRes w W R (.returned (.tuple #[.agg #[.bool b, .string (bs DP), .int .i64 ((l1 : Int) - 1 + E)], .bool (decide (k4 = s.size))]))) := hide (fun W hW => by
                  refine ⟨b, DP, (l1 : Int) - 1 + E, _, rfl, hW, ?_⟩
                  rw [← hR]
                  have hm := HDPm.out
                  by_cases hz : k4 = s.size
                  · rw [if_pos (hdl.2 hz)]
                    refine ⟨by simpa using hz, ?_, by omega, by omega, by omega⟩
                    show (⟨b, DP, E - (P.length : Int)⟩ : Num) = ⟨b, DP, (l1 : Int) - 1 + E - (DP.length : Int) + 1⟩
                    rw [show (l1 : Int) - 1 + E - (DP.length : Int) + 1 = E - (P.length : Int) by omega]
                  · rw [if_neg (fun h => hz (hdl.1 h))]
                    simpa using hz)
                obtain ⟨F, hF⟩ : ∃ F, (l1 : Int) - 1 + E = F := ⟨_, rfl⟩
                rw [hF] at hst Hfin
                obtain ⟨WF, hWF, u0, u1, u2, hbF⟩ := strip_end hst.out.kr hst.out.bel (Nat.le_refl _) b (bs DP) F
                have HWF := hide hWF
                have HbF := hide hbF
                have n0 := Bk.cell hst.out.kp 0
                have n1 := Bk.cell hst.out.kp 1
                have n2 := Bk.cell hst.out.kp 2
                have r0 := hst.out.kr.cell 0
                have r1 := hst.out.kr.cell 1
                have r2 := hst.out.kr.cell 2
                have g0 := hst.out.kr.frozen 0
                have g1 := hst.out.kr.frozen 1
                have g2 := hst.out.kr.frozen 2
                simp at n0 n1 n2 r0 r1 r2
                have hq : ((k4 : Int) == (s.size : Int)) = decide (k4 = s.size) := by
                  rw [Bool.eq_iff_iff, beq_iff_eq, decide_eq_true_iff]
                  omega
                have Hq := hide hq
                clear hWF hbF hq hdl hR hxp hst hF hE1 hE2 H4 HR3 HDPm
                obtain ⟨SDP, hSDP⟩ : ∃ S, bs DP = S := ⟨_, rfl⟩
                rw [hSDP] at HWF Hfin n1 u1
                clear hSDP
                obtain ⟨ok, hok⟩ : ∃ ok, decide (k4 = s.size) = ok := ⟨_, rfl⟩
                have hq2 : ((k4 : Int) == (s.size : Int)) = ok := Hq.out.trans hok
                rw [hok] at Hfin
                clear Hq hok
                go_wp2_with ((with_reducible show bodyPost _ _ _ _ _ _); rw [HWF.out]; refine bodyPost_ret (v := .tuple #[.agg #[.bool b, .string SDP, .int .i64 F], .bool ok]) (by simp [results, Tryd.results35, go_sem, u0, u1, u2]; try rfl) rfl ?_; exact Hfin.out WF HbF.out)
end Go.Proofs.YtkgclfagimlneaaDoor
