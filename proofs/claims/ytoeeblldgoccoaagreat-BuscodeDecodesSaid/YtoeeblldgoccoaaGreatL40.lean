/-
  The walks over lists of values: the reader of the second coding, whole.
-/
import Derived.Test.YtoeeblldgoccoaaGreatL39
set_option linter.unusedVariables false
set_option linter.unusedSimpArgs false
set_option maxRecDepth 100000
set_option maxHeartbeats 8000000
namespace Go.Proofs.YtoeeblldgoccoaaGreat
open Go.RowKit Go.Proofs Wv Wv.Vi Wv.Rc Wv.Mo Wv.Ru Wv.Tm Wv.Bc
theorem readCt_n {w : World} {b m n : Nat} {s : ByteArray} {r : List UInt8} (h : RV w b s 0) (hs : s.size ≤ 1000000000) (hm1 : 1 ≤ m) (hm : m ≤ 128) (hyes : rnum (toL s) 4096 = some (n, r)) (hn : n ≠ 0) :
  Calls Tryz.prog 90 #[.agg #[.int .i64 (m : Int)], .pointer (some ⟨b, 0, none⟩)] w fun x w' => FinR b w (readCt (m : Int) (toL s)) x w' := by
 obtain ⟨hnr, hn4, hrl⟩ := rest_of hyes;rw [bs_toL] at hnr;rw [toL_length] at hrl;have hlt := Bk.lt h;obtain ⟨t1, S1, e1, t2, S2, e2, t3, S3, e3, t4, S4, e4, q1, q2, q3, q4, z1, z2, z3, hcase⟩ := ct_texts r;have h0 : RV (w.alloc (.cells #[.int .i64 (m : Int)] 60)) b s 0 := Bk.alloc h _;have hb0 := bel_new1 w (.cells #[.int .i64 (m : Int)] 60);have hc0 := Bk.new w 60 #[.int .i64 (m : Int)];have hP0 : CtP b w (m : Int) s 0 (w.alloc (.cells #[.int .i64 (m : Int)] 60)) := ⟨Fr.of_below hb0, hc0, h0⟩;have HN := hide (vnum_any h0 (by omega) 4096);rw [hnr] at HN;have H1 := hide (fun W2 (h : RV W2 b (bs r) 0) => vtext_any h (by rw [bs_size]; omega) 128);have H2 := hide (fun W2 (h : RV W2 b S1 e1) => vtext_any h (by omega) 128);have HL2 := hide (fun W2 (h : RV W2 b S2 e2) => vleft_any h (by omega));have H3 := hide (fun W2 (h : RV W2 b S2 e2) => vtext_any h (by omega) (S2.size : Int));have HL3 := hide (fun W2 (h : RV W2 b S3 e3) => vleft_any h (by omega));have H4 := hide (fun W2 (h : RV W2 b S3 e3) => vtake_any h (by omega) (S3.size : Int));have HE := hide (fun W2 (h : RV W2 b S4 e4) => verr_any h);rw [q1] at H1;rw [q2] at H2;rw [q3] at H3;rw [q4] at H4
 have hn0 : ((n : Int) == 0) = false := by rw [beq_eq_false_iff_ne]; omega
 have Hcase : Hid ((e4 ≠ 0 ∧ readCt (m : Int) (toL s) = none) ∨ (e4 = 0 ∧ ∃ f st a s4 : List UInt8, readCt (m : Int) (toL s) = ctFin (m : Int) n f st (decn a 4096) (dec s4 4096) ∧ t1 = bs f ∧ t2 = bs st ∧ t3 = bs a ∧ t4 = bs s4 ∧ f.length ≤ 128 ∧ st.length ≤ 128 ∧ a.length ≤ 1000000000 ∧ s4.length ≤ 1000000000)) := hide (by
  rcases hcase with ⟨he, hno⟩ | ⟨he, f, s2, st, s3, a, s4, r1, r2, r3, d1, d2, d3, d4, l1, l2, l3, l4⟩
  ·exact .inl ⟨he, readCt_bad hyes hn hno⟩
  ·exact .inr ⟨he, f, st, a, s4, readCt_fin hyes hn r1 r2 r3, d1, d2, d3, d4, l1, l2, by omega, by omega⟩)
 obtain ⟨R, hR⟩ : ∃ R, readCt (m : Int) (toL s) = R := ⟨_, rfl⟩;rw [hR] at Hcase ⊢;have HP0 := hide hP0;have Hlt := hide hlt;have HM := hide (And.intro hm1 hm)
 generalize bs r = SR at *
 clear hR h0 hb0 hc0 hP0 q1 q2 q3 q4 hcase z1 z2 z3 hnr hrl hyes hs h hlt hm1 hm
 go_enter Tryz.func90, Tryz.ntmps90
 go_wp2_with fail
 refine (HN.out).mono ?_;rintro x w1 ⟨rfl, hv, hf⟩;have HP1 := hide (HP0.out.next Hlt.out hv hf);have K1 := hide (H1.out w1 hv);clear hv hf HN H1 HP0
 go_wp2_with fail
 refine (K1.out).mono ?_;rintro x w2 ⟨rfl, hv, hf⟩;have HP2 := hide (HP1.out.next Hlt.out hv hf);have K2 := hide (H2.out w2 hv);clear hv hf K1 H2 HP1
 go_wp2_with fail
 refine (K2.out).mono ?_;rintro x w3 ⟨rfl, hv, hf⟩;have HP3 := hide (HP2.out.next Hlt.out hv hf);have K3 := hide (HL2.out w3 hv);have K4 := hide (H3.out w3 hv);clear hv hf K2 HL2 H3 HP2
 go_wp2_with fail
 refine (K3.out).mono ?_;rintro x w4 ⟨rfl, rfl⟩;clear K3
 go_wp2_with fail
 refine (K4.out).mono ?_;rintro x w4 ⟨rfl, hv, hf⟩;have HP4 := hide (HP3.out.next Hlt.out hv hf);have K5 := hide (HL3.out w4 hv);have K6 := hide (H4.out w4 hv);clear hv hf K4 HL3 H4 HP3
 go_wp2_with fail
 refine (K5.out).mono ?_;rintro x w5 ⟨rfl, rfl⟩;clear K5
 go_wp2_with fail
 refine (K6.out).mono ?_;rintro x w5 ⟨rfl, hv, hf⟩;have HP5 := hide (HP4.out.next Hlt.out hv hf);have K7 := hide (HE.out w5 hv);clear hv hf K6 HE HP4
 go_wp2_with fail
 refine (K7.out).mono ?_;rintro x w6 ⟨rfl, rfl⟩;clear K7
 rcases Hcase.out with ⟨he, hR⟩ | ⟨rfl, f, st, a, s4, hR, rfl, rfl, rfl, rfl, lf, lst, la, ls⟩
 ·have hne : ((e4 : Int) != 0) = true := by rw [bne_iff_ne]; omega
  have HR := hide hR;clear Hcase hR he
  go_wp2
  go_returns
  exact fin_none HP5.out.1 HR.out
 ·have HQ5 : Hid (CtQ b w (m : Int) w5) := hide ⟨HP5.out.1, HP5.out.2.1⟩
  have hgG := decn_good a 4096;have HG := hide (fun W2 => decodenums_any (w := W2) a (by omega) 4096);have HD := hide (fun W2 => decode_any (w := W2) (bs s4) (by rw [bs_size]; exact ls) 4096)
  have hdec : (∀ t ∈ (dec s4 4096).1, t.size ≤ 128) ∧ (dec s4 4096).1.length ≤ 4096 := by
   rcases dec_strict s4 4096 with (h | h) | ⟨l, h, he, hr, hl128, hl4⟩
   ·rw [h]; exact ⟨fun t ht => (by cases ht), Nat.zero_le _⟩
   ·rw [h]; exact ⟨fun t ht => (by cases ht), Nat.zero_le _⟩
   ·rw [h]; exact ⟨hl128, by simpa using hl4⟩
  rw [toL_bs] at HD
  generalize decn a 4096 = GG at *
  generalize dec s4 4096 = DD at *
  obtain ⟨G, eg⟩ := GG;obtain ⟨D, ed⟩ := DD;simp only at hgG hdec;unfold LRes at HG;unfold TRes at HD;simp only at HG HD;have HF := hide (fun W2 (A : Option Addr) (hat : At W2 A (svs [bs f])) => blong_any hat (fun t ht => by rw [List.mem_singleton.1 ht, bs_size]; omega) 1 1 rfl (by omega) (m : Int));have HV := hide (fun W2 (A : Option Addr) (cap : Nat) (hat : At W2 A (svs D)) => blong_any hat (fun t ht => by have := hdec.1 t ht; omega) D.length cap rfl (by omega) (m : Int));have HST := hide (fun W2 (A : Option Addr) (hat : At W2 A (svs [bs st])) => blong_any hat (fun t ht => by rw [List.mem_singleton.1 ht, bs_size]; omega) 1 1 rfl (by omega) (m : Int));have HR := hide hR;have HGG := hide hgG
  have Hst0 := hide (show ((bs st).toList.isEmpty = true ∧ st = []) ∨ ((bs st).toList.isEmpty = false ∧ st ≠ []) by
   have := bs_emp st
   by_cases h : st = []
   ·exact .inl ⟨by rw [this]; exact decide_eq_true h, h⟩
   ·exact .inr ⟨by rw [this]; exact decide_eq_false h, h⟩)
  generalize hSF : bs f = SF at *
  generalize hSS : bs st = SS at *
  generalize bs a = SA at *
  generalize bs s4 = S4' at *
  have HSF := hide hSF;have HSS := hide hSS;have HDl := hide hdec;clear Hcase hR HP5 hdec hgG hSF hSS
  go_wp2_with fail
  refine (HG.out w5).mono ?_;rintro x w6 ⟨v, rfl, ⟨A1, cap1, rfl, hat1⟩, hb⟩;have HQ6 := hide (HQ5.out.next hb);have Hat1 := hide hat1;clear hb hat1 HG HQ5
  go_wp2_with fail
  refine (HD.out w6).mono ?_;rintro x w7 ⟨v, rfl, ⟨A2, cap2, rfl, hat2⟩, hb⟩;have HQ7 := hide (HQ6.out.next hb);have Hat1 := hide (Hat1.out.below hb);have K1 := hide (HV.out w7 A2 cap2 hat2);have hcell := HQ7.out.2.cell 0
  simp at hcell
  clear hb hat2 HD HQ6 HV
  go_wp2_with fail
  refine (K1.out).mono ?_;rintro x w8 hx;obtain ⟨AV, kv, okv, rfl, hb, hov⟩ := lg_open hx;have HQ8 := hide (HQ7.out.next hb);have Hat1 := hide (Hat1.out.below hb);have Hov := hide hov;have hbn := bel_new1 w8 (.cells #[.string SF] 9);have HQ9 := hide (HQ8.out.next hbn);have Hat1 := hide (Hat1.out.below hbn);have K2 := hide (HF.out (w8.alloc (.cells #[.string SF] 9)) (some ⟨w8.heap.size, 0, none⟩) (Bk.new w8 9 (svs [SF]).toArray).at_);have hcell := HQ8.out.2.cell 0
  simp at hcell
  have Hov9 : Hid ((okv = false ∧ extL (m : Int) D = none) ∨ (okv = true ∧ ∃ r g, extL (m : Int) D = some r ∧ kv = r.length ∧ AV = some ⟨g, 0, none⟩ ∧ Bk (w8.alloc (.cells #[.string SF] 9)) g 9 (svs r).toArray)) := hide (by
   rcases Hov.out with h | ⟨h1, r, g, h2, h3, h4, h5, h6⟩
   ·exact .inl h
   ·exact .inr ⟨h1, r, g, h2, h3, h4, h6.below hbn h6.lt⟩)
  have hsz8 : w.heap.size ≤ w8.heap.size := HQ8.out.1.size;clear hx hb hov K1 HQ7 HQ8 hbn HF Hov
  go_wp2_with fail
  refine (K2.out).mono ?_;rintro x w10 hx;obtain ⟨AF, kf, okf, rfl, hb, hof⟩ := lg_open hx;have HQ10 := hide (HQ9.out.next hb);have Hat1 := hide (Hat1.out.below hb)
  have Hov : Hid ((okv = false ∧ extL (m : Int) D = none) ∨ (okv = true ∧ ∃ r g, extL (m : Int) D = some r ∧ kv = r.length ∧ AV = some ⟨g, 0, none⟩ ∧ Bk w10 g 9 (svs r).toArray)) := hide (by
   rcases Hov9.out with h | ⟨h1, r, g, h2, h3, h4, h6⟩
   ·exact .inl h
   ·exact .inr ⟨h1, r, g, h2, h3, h4, h6.below hb h6.lt⟩)
  have Hof := hide hof;clear hx hb hof K2 HQ9 Hov9 hcell
  go_upto_region 12 with fail
  by_cases hg0 : eg = 0
  case neg =>
   have hne : ((eg : Int) != 0) = true := by rw [bne_iff_ne]; omega
   have HRn := hide (show R = none by rw [HR.out]; unfold ctFin; rw [if_pos (.inl hg0)]);clear hg0 HR Hov Hof HST HGG Hst0 HDl
   go_wp2
   go_returns
   exact fin_none HQ10.out.1 HRn.out
  subst hg0
  by_cases hd0 : ed = 0
  case neg =>
   have hne : ((ed : Int) != 0) = true := by rw [bne_iff_ne]; omega
   have HRn := hide (show R = none by rw [HR.out]; unfold ctFin; rw [if_pos (.inr hd0)]);clear hd0 HR Hov Hof HST HGG Hst0 HDl
   go_wp2
   go_returns
   exact fin_none HQ10.out.1 HRn.out
  subst hd0
  rcases Hov.out with ⟨rfl, hov⟩ | ⟨rfl, vs, gv, hov, rfl, rfl, hkv⟩
  ·have HRn := hide (show R = none by rw [HR.out]; unfold ctFin; rw [if_neg (by simp)]; simp only; rw [hov])
   clear hov HR Hov Hof HST HGG Hst0 HDl
   go_wp2
   go_returns
   exact fin_none HQ10.out.1 HRn.out
  have hR2 := HR.out;unfold ctFin at hR2;rw [if_neg (by simp)] at hR2;simp only at hR2;rw [hov] at hR2;simp only at hR2;have hvl := extL_valid hov
  have he : extL (m : Int) [SF] = if (ext (m : Int) f).2 = 0 then some [bs (ext (m : Int) f).1] else none := by
   rw [← HSF.out]
   show (if (ext (m : Int) (toL (bs f))).2 = 0 then (extL (m : Int) []).map (bs (ext (m : Int) (toL (bs f))).1 :: ·) else none) = _
   rw [toL_bs];rfl
  have hof := Hof.out;rw [he] at hof
  by_cases hf0 : (ext (m : Int) f).2 = 0
  case neg =>
   rw [if_neg hf0] at hof
   rcases hof with ⟨rfl, _⟩ | ⟨_, _, _, h, _⟩
   ·rw [if_pos hf0] at hR2
    have HRn := hide hR2;clear hov HR Hov Hof HST HGG Hst0 HDl hR2 hvl he hf0 hkv
    go_wp2
    go_returns
    exact fin_none HQ10.out.1 HRn.out
   ·cases h
  rw [if_pos hf0] at hof;rw [if_neg (fun h => h hf0)] at hR2
  rcases hof with ⟨_, h⟩ | ⟨rfl, q, gf, hq, rfl, rfl, hgf, hkf⟩
  ·cases h
  injection hq with hq
  subst hq
  by_cases hll : G.length = vs.length
  case neg =>
   rw [if_pos hll] at hR2;have HRn := hide hR2
   have hne : ((G.length : Int) != (vs.length : Int)) = true := by rw [bne_iff_ne]; omega
   clear hov HR Hov Hof HST HGG Hst0 HDl hR2 hvl he hf0 hkv hkf hll
   go_wp2
   go_returns
   exact fin_none HQ10.out.1 HRn.out
  rw [if_neg (fun h => h hll)] at hR2;have hFl := ext_len hf0;obtain ⟨F, hF⟩ : ∃ F, bs (ext (m : Int) f).1 = F := ⟨_, rfl⟩
  have hFs : F.size ≤ 128 := by rw [← hF, bs_size]; exact hFl
  rw [hF] at hR2 hkf
  have hvl2 : vs.length ≤ 4096 := by have := HGG.out.2; omega
  have hvs : ∀ v ∈ vs, v.size ≤ 128 := fun v hv => by rw [← toL_length]; exact (isV_iff.1 (vld_iff.1 (hvl.1 v hv)).1).2.2
  have HMM : Hid (CtM b w A1 G gv vs gf F w10) := hide ⟨HQ10.out.1, Hat1.out, hkv, hkf, by rw [World.size_alloc] at hgf; omega⟩;have HR2 := hide hR2;have Hvs := hide hvs;have Hll := hide hll
  have hq2 : ((G.length : Int) != (vs.length : Int)) = false := by rw [hll]; simp
  clear hov HR Hov Hof HDl hR2 hvl he hf0 hkv hkf hll hFl hF hvs Hat1 hgf hsz8
  go_upto_if 96 with fail
  go_cut [8] (fun s8 wx => ∃ SB : ByteArray, s8 = .string SB ∧ SB.size ≤ 128 ∧ Hid (CtM b w A1 G gv vs gf F wx) ∧ Hid (R = if (∀ g ∈ G, g < (n : Int)) then (runB (atS (-1) G) vs SB (n - 1) 1 F).map (F :: ·) else none))
  case first =>
   rcases Hst0.out with ⟨hem, hst⟩ | ⟨hem, hst⟩
   ·rw [hem]
    have hR3 := HR2.out;rw [if_neg (fun h => h.1 hst), if_pos hst] at hR3
    have hSS : SS = bs [] := by rw [← HSS.out, hst]
    rw [← hSS] at hR3;have HR3 := hide hR3
    have hSz : SS.size ≤ 128 := by rw [hSS]; exact Nat.zero_le _
    clear hR3 hSS HR2 hst Hst0 HST HQ10
    go_wp2
    go_meet
    case rel => exact ⟨SS, rfl, hSz, HMM, HR3⟩
   ·rw [hem]
    have hR3 := HR2.out;have hcell := HQ10.out.2.cell 0
    simp at hcell
    have hbn := bel_new1 w10 (.cells #[.string SS] 9);have HM2 := hide (HMM.out.next hbn);have K2 := hide (HST.out (w10.alloc (.cells #[.string SS] 9)) (some ⟨w10.heap.size, 0, none⟩) (Bk.new w10 9 (svs [SS]).toArray).at_)
    have he : extL (m : Int) [SS] = if (ext (m : Int) st).2 = 0 then some [bs (ext (m : Int) st).1] else none := by
     rw [← HSS.out]
     show (if (ext (m : Int) (toL (bs st))).2 = 0 then (extL (m : Int) []).map (bs (ext (m : Int) (toL (bs st))).1 :: ·) else none) = _
     rw [toL_bs];rfl
    have He := hide he;have HR3 := hide hR3;have Hsn := hide hst;clear hbn HMM HR2 Hst0 HST HQ10 hR3 he hst
    go_wp2_with fail
    refine (K2.out).mono ?_;rintro x w12 hx;obtain ⟨AS, ks, oks, rfl, hb, hos⟩ := lg_open hx;have HM3 := hide (HM2.out.next hb);rw [He.out] at hos;have hR3 := HR3.out;have hst := Hsn.out;clear hx hb HM2 hcell K2 He HR3 Hsn
    by_cases hs0 : (ext (m : Int) st).2 = 0
    ·rw [if_pos hs0] at hos
     rcases hos with ⟨_, h⟩ | ⟨rfl, q, gs, hq, rfl, rfl, _, hks⟩
     ·cases h
     injection hq with hq
     subst hq;have hSl := ext_len hs0;rw [if_neg (fun h => h.2 hs0), if_neg hst] at hR3;obtain ⟨SB, hSB⟩ : ∃ F, bs (ext (m : Int) st).1 = F := ⟨_, rfl⟩
     have hSz : SB.size ≤ 128 := by rw [← hSB, bs_size]; exact hSl
     rw [hSB] at hR3 hks;have HR3 := hide hR3;have hcs := hks.cell 0
     simp [svs, sv] at hcs
     clear hR3 hks hSl hSB hs0 hst
     go_wp2
     go_meet
     case rel => exact ⟨SB, rfl, hSz, HM3, HR3⟩
    ·rw [if_neg hs0] at hos
     rcases hos with ⟨rfl, _⟩ | ⟨_, _, _, h, _⟩
     ·rw [if_pos ⟨hst, hs0⟩] at hR3
      have HRn := hide hR3;clear hR3 hs0 hst
      go_wp2
      go_returns
      exact fin_none HM3.out.1 HRn.out
     ·cases h
  case rest =>
   obtain ⟨SB, rfl, hSz, HM4, HR4⟩ := hcut;clear Hst0 HST HQ10 HMM HR2 HSS HSF;obtain ⟨K, hK⟩ : ∃ K, G.length = K := ⟨_, rfl⟩
   have hK4 : K ≤ 4096 := by have := HGG.out.2; omega
   rw [← Hll.out, hK];have HK := hide hK;have hmap0 := mi_nil wc;have hbm := bel_new1 wc (.map #[] 0);have Hmap0 := hide hmap0;have Hbm := hide hbm;have Hbw := hide HM4.out.1.size;have Hgn := hide (fun i (h : i < K) => HGG.out.1 (G[i]'(by rw [HK.out]; exact h)) (List.getElem_mem _));clear hK hmap0 hbm hq2 hvl2;have hmm := @run_makeMap Tryz.prog
   go_wp2
   go_loopw [22, 112] (fun s22 s112 wr => ∃ (i : Nat) (a : Int), i ≤ K ∧ s112 = .int .i64 (i : Int) ∧ s22 = .int .i64 a ∧ -1 ≤ a ∧ a ≤ 4096 * (i : Int) ∧ Hid (a = (atS (-1) (G.take i)).getLastD (-1)) ∧ Hid (∀ g ∈ G.take i, 0 ≤ g ∧ g < (n : Int)) ∧ Hid (MI wr wc.heap.size (atS (-1) (G.take i)) (vs.take i)) ∧ Hid (Below wc.heap.size wc wr)) (fun _ s112 _ => (K - intOf s112).toNat)
   case atStart => exact ⟨0, -1, Nat.zero_le _, rfl, rfl, by omega, by omega, hide rfl, hide (fun g hg => by simp at hg), Hmap0, Hbm⟩
   case round =>
    clear Hmap0 Hbm hmm;obtain ⟨i, a, hi, rfl, rfl, ha1, ha2, hae, hgl, hM, hb⟩ := hrel
    by_cases hlt : i < K
    ·have hiG : i < G.length := by rw [HK.out]; exact hlt
     have hiV : i < vs.length := by rw [← Hll.out]; exact hiG
     have hget := ivs_atC G i hiG;have htk : G.take (i + 1) = G.take i ++ [G[i]] := List.take_succ_eq_append_getElem hiG;have hvk : vs.take (i + 1) = vs.take i ++ [vs[i]] := List.take_succ_eq_append_getElem hiV;have hg0 := Hgn.out i hlt;have hcv := (HM4.out.2.2.1.below hb.out HM4.out.2.2.1.lt).cell i;have hgm : G[i] ∈ G := List.getElem_mem _
     have hve : (svs vs).toArray[i]? = some (.string vs[i]) := by simp [svs, sv, hiV]
     rw [hve] at hcv;obtain ⟨g, hg⟩ : ∃ g, G[i] = g := ⟨_, rfl⟩;rw [hg] at hget htk hg0 hgm;obtain ⟨v, hv⟩ : ∃ v, vs[i] = v := ⟨_, rfl⟩;rw [hv] at hvk hcv;obtain ⟨b1, o1, hA1, hbA1, hc1⟩ := (HM4.out.2.1.below hb.out).get i _ hget;subst hA1
     have hiK0 : (0 : Int) ≤ (i : Int) := by omega
     have hiK : (i : Int) < (K : Int) := by omega
     by_cases hgn : g < (n : Int)
     ·have hlen : (atS (-1) (G.take i)).length = (vs.take i).length := by rw [atS_length, List.length_take, List.length_take]; omega
      have hbnd := atS_bnd (n := 4096) (by omega) (G.take i) (-1) (fun x hx => by have := hgl.out x hx; omega)
      have hnin : ∀ k : Int, a < k → k ∉ atS (-1) (G.take i) := fun k hk hm => by
       have := (hbnd.1 k hm).2;rw [← hae.out] at this;omega
      have hat : ∀ k : Int, k = a + 1 + g → atS (-1) (G.take (i + 1)) = atS (-1) (G.take i) ++ [k] := fun k hk => by
       rw [htk, atS_snoc, ← hae.out, hk]
      have hgl2 := hide (show ∀ x ∈ G.take (i + 1), 0 ≤ x ∧ x < (n : Int) from fun x hx => by
       rw [htk] at hx
       rcases List.mem_append.1 hx with hx | hx
       ·exact hgl.out x hx
       ·rw [List.mem_singleton.1 hx]; exact ⟨hg0, hgn⟩)
      have Hput := hide (fun (k : Int) (hk : k = a + 1 + g) => by
       obtain ⟨w', p1, p2, p3, p4⟩ := mi_put hM.out k v hlen (hnin k (by omega));rw [← hat k hk, ← hvk] at p2
       exact (⟨w', p1, p2, bel_put hb.out (Nat.le_refl _) p3⟩ : ∃ w', (Instr.mapUpdate 157 (.map (some wc.heap.size)) (.int .i64 k) (.string v)).run Tryz.prog wr = .ok () w' ∧ MI w' wc.heap.size (atS (-1) (G.take (i + 1))) (vs.take (i + 1)) ∧ Below wc.heap.size wc w'))
      have Hlast := hide (fun (k : Int) (hk : k = a + 1 + g) => by rw [hat k hk, List.getLastD_concat] : ∀ k : Int, k = a + 1 + g → k = (atS (-1) (G.take (i + 1))).getLastD (-1))
      have hgn2 : ¬ (n : Int) ≤ g := by omega
      clear hiG hiV hget htk hvk hgm hve hg hv hlen hbnd hnin hat hgl hM hae
      by_cases hneg : a < 0
      ·obtain ⟨w', hrun, p2, p3⟩ := Hput.out g (by omega)
       have P2 := hide p2;have P3 := hide p3;have PL := hide (Hlast.out g (by omega));clear Hput Hlast p2 p3
       go_wp2
       refine ⟨⟨i + 1, g, hlt, by go_num, rfl, by omega, by omega, PL, hgl2, P2, P3⟩, ?_⟩
       simp [intOf] <;> omega
      ·obtain ⟨w', hrun, p2, p3⟩ := Hput.out (a + (g + 1)) (by omega)
       have P2 := hide p2;have P3 := hide p3;have PL := hide (Hlast.out (a + (g + 1)) (by omega));clear Hput Hlast p2 p3
       go_wp2
       refine ⟨⟨i + 1, a + (g + 1), hlt, by go_num, rfl, by omega, by omega, PL, hgl2, P2, P3⟩, ?_⟩
       simp [intOf] <;> omega
     ·have HRn := hide (show R = none by rw [HR4.out, if_neg (fun h => hgn (h g hgm))])
      have hgn2 : (n : Int) ≤ g := by omega
      have Hfin := hide (HM4.out.1.below hb.out);clear hiG hiV hget htk hvk hgm hve hg hv hgl hM hae hgn hcv
      go_wp2
      go_returns
      exact fin_none Hfin.out HRn.out
    ·have hiK : i = K := by omega
     have hGK : G.take i = G := List.take_of_length_le (by rw [HK.out]; omega);have hVK : vs.take i = vs := List.take_of_length_le (by rw [← Hll.out, HK.out]; omega);have hgl2 := hgl.out;have hM2 := hM.out;rw [hGK] at hgl2 hM2;rw [hVK] at hM2;have hR5 := HR4.out;rw [if_pos (fun g hg => (hgl2 g hg).2)] at hR5;obtain ⟨X, hX⟩ : ∃ X, atS (-1) G = X := ⟨_, rfl⟩;rw [hX] at hM2 hR5;have HR5 := hide hR5;obtain ⟨wo, rfl⟩ : ∃ wo : World, wo = wr := ⟨_, rfl⟩;have Hfo := hide (HM4.out.1.below hb.out);have hown0 := own_of_bk (l := [F]) (HM4.out.2.2.2.1.below hb.out HM4.out.2.2.2.1.lt) HM4.out.2.2.2.2 (by unfold maxLen; simp);have Hown0 := hide (show wo.ownsRow w.heap.size 9 1 (.slice (some ⟨gf, 0, none⟩) 1 1) 1 (svs [F]) from hown0);have HM2 := hide hM2;have Hbo := hide (Below.refl w.heap.size wo);have Hwo := hide (Nat.le_trans Hbw.out hb.out.size)
     have hn1 : 1 ≤ n := by omega
     have HF2 := hide hFs;have Hst := hide (fun (v : ByteArray) (h : v.size ≤ 128) W2 => add_two v SB (by omega) (by omega) W2)
     have hnK : ¬ (i : Int) < (K : Int) := by omega
     clear hiK hGK hVK hgl2 hM2 hR5 hX hown0 hM hae hgl Hgn hb hFs
     go_wp2
     go_loopw [25, 26] (fun s25 s26 wr => ∃ (j : Nat) (os : List ByteArray), 1 ≤ j ∧ j ≤ n ∧ s26 = .int .i64 (j : Int) ∧ Hid (os.length = j) ∧ Hid (∀ v ∈ os, v.size ≤ 128) ∧ Hid (R = (runB X vs SB (n - j) j (os.getLastD default)).map (os ++ ·)) ∧ Hid (wr.ownsRow w.heap.size 9 1 s25 j (svs os)) ∧ Hid (MI wr wc.heap.size X vs) ∧ Hid (Below w.heap.size wo wr)) (fun _ s26 _ => (n - intOf s26).toNat)
     case atStart => exact ⟨1, [F], Nat.le_refl _, hn1, rfl, hide rfl, hide (fun v hv => by rw [List.mem_singleton.1 hv]; exact HF2.out), HR5, Hown0, HM2, Hbo⟩
     case round =>
      clear Hown0 HM2 Hbo HR5;obtain ⟨j, os, hj1, hjn, rfl, hol, hos, hR6, hown, hM, hb⟩ := hrel;obtain ⟨A5, M5, cap5, rfl⟩ := own_slice hown.out;have Hws := hide (Nat.le_trans Hwo.out hb.out.size)
      by_cases hlt : j < n
      ·have hj2 : (j : Int) < (n : Int) := by omega
       have hR7 := hR6.out;rw [show n - j = (n - (j + 1)) + 1 by omega, runB] at hR7
       cases hlk : look X vs (j : Int) with
       | some v =>
        rw [hlk] at hR7;simp only at hR7;have hrun0 := mi_some hM.out (j : Int) hlk;have hv8 := Hvs.out v (look_mem _ _ hlk);have hown1 := hown.out;obtain ⟨v', w4, hrun, hown4, hf4, _, hfr4, _⟩ := app_frB (P := Tryz.prog) 22 9 _ _ Tryz.underlying22 strinf rfl (w := wr) hown1 hb.out Hws.out (.string v) rfl (by unfold maxLen; omega) (by omega);have Hrun := hide hrun;have Hown4 := hide (show w4.ownsRow w.heap.size 9 1 v' (j + 1) (svs (os ++ [v])) by rw [svs_snocB]; exact hown4);have Hf4 := hide hf4;have HM5 := hide (mi_keep (hM.out.alloc (.cells #[.string v] 9)) hfr4 (hown1.alloc _));have Hol2 := hide (show (os ++ [v]).length = j + 1 by rw [List.length_append, hol.out]; rfl)
        have Hos2 := hide (show ∀ u ∈ os ++ [v], u.size ≤ 128 from fun u hu => by
         rcases List.mem_append.1 hu with hu | hu
         ·exact hos.out u hu
         ·rw [List.mem_singleton.1 hu]; exact hv8)
        have HR8 := hide (show R = (runB X vs SB (n - (j + 1)) (j + 1) ((os ++ [v]).getLastD default)).map ((os ++ [v]) ++ ·) by
         rw [hR7, List.getLastD_concat, Option.map_map]
         congr 1
         funext q
         simp)
        clear hlk hR7 hv8 hown1 hrun hown4 hf4 hfr4 hown hM hR6 hos hol
        go_wp2_with (
         at_builtin
         refine wpList_run (by with_reducible rfl) rfl _ _ _ rfl _ _ (by rfl) (by rfl) Hrun.out ?_)
        refine ⟨⟨j + 1, os ++ [v], by omega, hlt, by go_num, Hol2, Hos2, HR8, Hown4, HM5, Hf4⟩, ?_⟩
        simp [intOf] <;> omega
       | none =>
        rw [hlk] at hR7;simp only at hR7;have hrun0 := mi_none hM.out (j : Int) hlk;obtain ⟨A6, cap6, hv6, hat6⟩ := own_at hown.out
        injection hv6 with e1 e2 e3
        have e1 := e1.symm;have e2 := e2.symm;have e3 := e3.symm
        subst e1; subst e2; subst e3
        have hj3 : j - 1 < os.length := by rw [hol.out]; omega
        have hge : os.getLastD default = os[j - 1] := by
         have hl := hol.out
         have hne : os ≠ [] := fun e => by rw [e] at hl; simp at hl; omega
         rw [List.getLastD_eq_getLast?, List.getLast?_eq_getElem?, hl, List.getElem?_eq_getElem hj3];rfl
        obtain ⟨b6, o6, hA6, hb6, hc6⟩ := sv_cell hat6 (j - 1) hj3;subst hA6;rw [hge] at hR7;have hu8 := hos.out os[j - 1] (List.getElem_mem _);obtain ⟨u, hu⟩ : ∃ u, os[j - 1] = u := ⟨_, rfl⟩;rw [hu] at hc6 hR7 hu8
        have hi6 : IntKind.i64.wrap ((j : Int) - 1) = ((j - 1 : Nat) : Int) := by rw [IntWalk.i64_in _ (by omega)]; omega
        have hi7 : (j : Int) - 1 = ((j - 1 : Nat) : Int) := by omega
        have hi8 : ((j - 1 : Nat) : Int) < (j : Int) := by omega
        have hi9 : (0 : Int) ≤ ((j - 1 : Nat) : Int) := by omega
        have K1 := hide (Hst.out u hu8);obtain ⟨⟨r, q⟩, hr⟩ : ∃ r, addV (toL u) (toL SB) = r := ⟨_, rfl⟩;rw [hr] at K1 hR7;simp only at K1 hR7;have Hr := hide hr;have HR7 := hide hR7;obtain ⟨J, hJ⟩ : ∃ J, j - 1 = J := ⟨_, rfl⟩;rw [hJ] at hc6 hi6 hi7 hi8 hi9;clear hlk hr hR7 hat6 hge hu hR6 hj3 hJ hu8
        go_wp2_with fail
        refine (K1.out _).mono ?_;rintro x w3 ⟨rfl, hb3⟩;have hown1 := own_fr hown.out (Fr.of_below (S := nob) hb3) (fun _ _ f => f);have hbx := hb.out.trans (hb3.mono Hws.out);have hMx := hM.out.below hb3 hM.out.lt;have hwx := Nat.le_trans Hws.out hb3.size
        cases q with
        | false =>
         have HRn := hide (show R = none by rw [HR7.out]; rfl);have Hfin := hide (fr_bel Hfo.out hbx);clear hown1 hbx hMx hwx hb3 hown hM hb hos hol HR7 hc6 K1
         go_wp2
         go_returns
         exact fin_none Hfin.out HRn.out
        | true =>
         have hv8 : (bs r).size ≤ 128 := by
          rw [bs_size];exact (knV_iff.1 (addV_known Hr.out).1).2.2
         have hR7 := HR7.out;rw [if_pos rfl] at hR7;obtain ⟨v, hv⟩ : ∃ v, bs r = v := ⟨_, rfl⟩;rw [hv] at hv8 hR7 ⊢;obtain ⟨v', w4, hrun, hown4, hf4, _, hfr4, _⟩ := app_frB (P := Tryz.prog) 22 9 _ _ Tryz.underlying22 strinf rfl (w := w3) hown1 hbx hwx (.string v) rfl (by unfold maxLen; omega) (by omega);have Hrun := hide hrun;have Hown4 := hide (show w4.ownsRow w.heap.size 9 1 v' (j + 1) (svs (os ++ [v])) by rw [svs_snocB]; exact hown4);have Hf4 := hide hf4;have Hj := hide (mi_keep (hMx.alloc (.cells #[.string v] 9)) hfr4 (hown1.alloc _));have Hol2 := hide (show (os ++ [v]).length = j + 1 by rw [List.length_append, hol.out]; rfl)
         have Hos2 := hide (show ∀ u ∈ os ++ [v], u.size ≤ 128 from fun u hu => by
          rcases List.mem_append.1 hu with hu | hu
          ·exact hos.out u hu
          ·rw [List.mem_singleton.1 hu]; exact hv8)
         have HR8 := hide (show R = (runB X vs SB (n - (j + 1)) (j + 1) ((os ++ [v]).getLastD default)).map ((os ++ [v]) ++ ·) by
          rw [hR7, List.getLastD_concat, Option.map_map]
          congr 1
          funext q
          simp)
         clear hR7 hv8 hv hown1 hrun hown4 hf4 hfr4 hown hM hos hol hbx hMx hwx hb3 hb HR7 Hr hc6 K1
         go_wp2_with (
          at_builtin
          refine wpList_run (by with_reducible rfl) rfl _ _ _ rfl _ _ (by rfl) (by rfl) Hrun.out ?_)
         refine ⟨⟨j + 1, os ++ [v], by omega, hlt, by go_num, Hol2, Hos2, HR8, Hown4, Hj, Hf4⟩, ?_⟩
         simp [intOf] <;> omega
      ·have hjn2 : j = n := by omega
       have HRf := hide (show R = some os by rw [hR6.out, hjn2, Nat.sub_self]; show some (os ++ []) = _; rw [List.append_nil])
       have hj2 : ¬ (j : Int) < (n : Int) := by omega
       obtain ⟨A6, cap6, hv6, hat6⟩ := own_at hown.out;have Hat6 := hide hat6
       injection hv6 with e1 e2 e3
       have e2 := e2.symm
       subst e1; subst e2; subst e3
       have Hfin := hide (fr_bel Hfo.out hb.out);have hoj := hol.out;clear hR6 hown hM hb hos hol hat6 hjn2
       go_wp2
       go_returns
       rw [HRf.out];exact ⟨Hfin.out, A5, cap5, by rw [hoj]; rfl, Hat6.out⟩
end Go.Proofs.YtoeeblldgoccoaaGreat
