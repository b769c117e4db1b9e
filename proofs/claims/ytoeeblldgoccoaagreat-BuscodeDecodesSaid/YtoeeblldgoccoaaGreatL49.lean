/-
  Joined texts: Al, Am.
-/
import Derived.Test.YtoeeblldgoccoaaGreatL42
import Derived.Test.YtoeeblldgoccoaaGreatL47
set_option linter.unusedVariables false
set_option linter.unusedSimpArgs false
set_option maxRecDepth 100000
set_option maxHeartbeats 8000000
namespace Go.Proofs.YtoeeblldgoccoaaGreat
open Go.RowKit Go.Proofs Wv Wv.Vi Wv.Rc Wv.Mo Wv.Ru Wv.Tm Wv.Bc
theorem a14counted_any {w : World} {A : Option Addr} {l : List ByteArray} (ha : At w A (svs l)) (hsz : ∀ s ∈ l, s.size ≤ 1099511627776) (n cap : Nat) (hn : n = l.length) (hm : n ≤ 4096) :
  Calls Tryz.prog 38 #[.slice A n cap] w fun x w' => x = .returned (.string (bs (codC l))) ∧ Below w.heap.size w w' := by
 have HNum := hide (fun W2 => rnumber_any (n : Int) (by omega) (by omega) W2);rw [Int.toNat_natCast] at HNum
 rcases Nat.eq_zero_or_pos n with h0 | hpos
 ·subst h0
  have hl : l = [] := List.eq_nil_of_length_eq_zero hn.symm
  have hc : codC l = num 0 := by unfold codC; rw [if_pos hl, hl, List.append_nil]; rfl
  rw [hc]
  generalize bs (num 0) = S0 at *
  clear ha hsz hn hl hc
  go_enter Tryz.func38, Tryz.ntmps38
  go_wp2_with fail
  refine (HNum.out _).mono ?_;rintro x w1 ⟨rfl, hb1⟩
  go_wp2
  go_returns
  exact ⟨rfl, hb1⟩
 ·have Ha := hide ha
  have Hsz := hide hsz;have HX := hide (fun W2 (h : At W2 A (svs l)) => a14exc_any h hsz n cap hn hm);have HST := hide (fun W2 (h : At W2 A (svs l)) => a14step_any h hsz n cap hn hm)
  have hxi := fun i => exI_in (l := l) (st := stepB l) i
  have hxl := exI_len l (stepB l);have hxv := exI_valid (l := l) (by omega) (stepB l)
  have hstz : (stepB l).size ≤ 1099511627776 := by have := stepB_size l; omega
  have hcC := codC_bs (l := l) (fun e => by rw [e] at hn; simp at hn; omega);have hgn := gaps_nat (l := l) (by omega) (stepB l);obtain ⟨ST, hST⟩ : ∃ s, stepB l = s := ⟨_, rfl⟩;rw [hST] at HX HST hxi hxl hxv hcC hgn hstz;obtain ⟨X, hX⟩ : ∃ X, exI l ST = X := ⟨_, rfl⟩;rw [hX] at HX hxi hxl hxv hcC hgn;rw [← hn] at hcC;obtain ⟨g1, g2, g3⟩ := hgn;have hnl := numsI_len hxv;obtain ⟨K, hK⟩ : ∃ K, X.length = K := ⟨_, rfl⟩
  have hKn : K ≤ 4096 := by omega
  have hal : (atI l X).length = K := by unfold atI; rw [List.length_map, hK]
  have hasz : ∀ s ∈ atI l X, s.size ≤ 1099511627776 := fun s hs => hsz s (atI_in hxi s hs)
  have hso := short_ok (l := atI l X) (by omega)
  have hsl : (shortL (atI l X)).length = K := by unfold shortL; rw [List.length_map]; exact hal
  have hln2 := tmenc_len (l := shortL (atI l X)) (by omega) hso.2;have he2 := dec_short (l := atI l X) (by omega);have HG := hide (fun W2 (B : Option Addr) (c : Nat) (h : At W2 B (ivs X)) => ngaps_any h K c hK.symm hxv);have HEN : Hid (∀ W2 (B : Option Addr) (m c : Nat), m = (gapsT X).length → At W2 B (ivs (gapsT X)) → Calls Tryz.prog 72 #[.slice B m c] W2 fun x w' => x = .returned (.tuple #[.string (bs (numsI (gapsT X))), .int .i64 0]) ∧ Below W2.heap.size W2 w') := hide (fun W2 B m c hm2 h => fencn_any (l := (gapsT X).map Int.toNat) (by show At W2 B (ivs _); rw [g1]; exact h) m c (by rw [List.length_map]; exact hm2) (by rw [List.length_map, g3, hK]; exact hKn) g2);have HSH := hide (fun W2 (B : Option Addr) (c : Nat) (h : At W2 B (svs (atI l X))) => a14short_any h hasz K c hal.symm (by omega));have HEC := hide (fun W2 (B : Option Addr) (m c : Nat) (hm2 : m = (shortL (atI l X)).length) (h : At W2 B (svs (shortL (atI l X)))) => rencode_any h (fun s hs => by have := hso.2 s hs; omega) m c hm2 (by omega));unfold ERes at HEC;rw [he2.2] at HEC;have hs4 : (bs (enc (shortL (atI l X))).1).size ≤ 2000000 := hln2
  have hs3 : (bs (text (bs (numsI (gapsT X))))).size ≤ 700000 := by have := text_sz (numsI (gapsT X)); omega
  have hs2 : (bs (text (bs (shr (toL ST))))).size ≤ 140 := by have := text_sz (shr (toL ST)); have := shr_len128 (toL ST); omega
  have hl0 : 0 < l.length := by omega
  have hg0 : l.getD 0 default = l[0]'hl0 := getD_at hl0;have hz0 : (l[0]'hl0).size ≤ 1099511627776 := hsz _ (List.getElem_mem _)
  have hs1 : (bs (text (bs (shr (toL (l[0]'hl0)))))).size ≤ 140 := by have := text_sz (shr (toL (l[0]'hl0))); have := shr_len128 (toL (l[0]'hl0)); omega
  have hs0 := num_sz n;have HA1 := hide (fun W => ashort_two (l[0]'hl0) hz0 W);have HA2 := hide (fun W => rtext_any (bs (shr (toL (l[0]'hl0)))) (by rw [bs_size]; have := shr_len128 (toL (l[0]'hl0)); omega) W);have HB1 := hide (fun W => ashort_two ST hstz W);have HB2 := hide (fun W => rtext_any (bs (shr (toL ST))) (by rw [bs_size]; have := shr_len128 (toL ST); omega) W);have HC2 := hide (fun W => rtext_any (bs (numsI (gapsT X))) (by rw [bs_size]; omega) W);rw [hg0] at hcC;have HcC := hide hcC;obtain ⟨b, o, rfl, hbl, hc0⟩ := sv_cell ha 0 hl0;rw [Nat.add_zero] at hc0
  have Hcell := hide (fun k (hk : k < l.length) => by
   obtain ⟨b', o', e', hb', hc'⟩ := sv_cell ha k hk
   injection e' with e'
   injection e' with e1 e2
   subst e1; subst e2
   exact hc' : ∀ k (hk : k < l.length), w.cell? ⟨b, o + k, none⟩ = some (.string (l[k]'hk)))
  have hsn : ∀ j (h : j < X.length) (hx : (X[j]'h).toNat < l.length), atI l (X.take (j + 1)) = atI l (X.take j) ++ [l[(X[j]'h).toNat]'hx] := fun j h hx => by rw [List.take_succ_eq_append_getElem h, atI_snoc, getD_at hx]
  have Hsn := hide hsn;have Hxi := hide hxi;have HK := hide hK;have Hhn := hide hn.symm
  have hnz : ((n : Int) == 0) = false := by rw [beq_eq_false_iff_ne]; omega
  have hn0 : (0 : Int) < (n : Int) := by omega
  obtain ⟨L0, hL0⟩ : ∃ s, l[0]'hl0 = s := ⟨_, rfl⟩;rw [hL0] at HA1 HA2 HcC hs1 hc0;have Hgl := hide (show (gapsT X).length = K by rw [g3, hK]);have Hal := hide hal;have Hsl := hide hsl
  generalize bs (enc (shortL (atI l X))).1 = SE at *
  generalize bs (text (bs (numsI (gapsT X)))) = S3 at *
  generalize bs (numsI (gapsT X)) = SG at *
  generalize bs (text (bs (shr (toL ST)))) = S2 at *
  generalize bs (shr (toL ST)) = SS at *
  generalize bs (text (bs (shr (toL L0)))) = S1 at *
  generalize bs (shr (toL L0)) = SL at *
  generalize bs (num n) = S0 at *
  have e1 := nosumB (a := S0.size) (b := S1.size) (by omega);have e2 := nosumB (a := S0.size + S1.size) (b := S2.size) (by omega);have e3 := nosumB (a := S0.size + S1.size + S2.size) (b := S3.size) (by omega);have e4 := nosumB (a := S0.size + S1.size + S2.size + S3.size) (b := SE.size) (by omega);clear ha hn hsz hxi hxl hxv hcC g1 g2 g3 hST hX hnl hK hal hasz hso hsl hln2 he2 hs0 hs1 hs2 hs3 hs4 hstz hg0 hz0 hL0 hsn
  go_enter Tryz.func38, Tryz.ntmps38
  go_wp2_with fail
  refine (HNum.out _).mono ?_;rintro x w1 ⟨rfl, hb1⟩;have Hb1 := hide hb1;have K1 := hide (HX.out w1 (Ha.out.below hb1));clear hb1 HNum HX
  go_wp2_with fail
  refine (K1.out).mono ?_;rintro x w2 ⟨vx, rfl, hvx, hb2⟩;obtain ⟨AX, capx, rfl, hatx⟩ := hvx;have Hb2 := hide (Hb1.out.trans (hb2.mono Hb1.out.size));have Hatx := hide hatx;rw [HK.out];have ho0 := hide (own_made0 9 w2);have hbn := bel_new1 w2 (.cells #[] 9);have Hbn := hide hbn;clear hb2 hatx Hb1 K1 hbn
  go_wp2
  go_loopw [5, 6] (fun s5 s6 wr => ∃ j : Nat, j ≤ K ∧ s6 = .int .i64 (j : Int) ∧ Hid (wr.ownsRow w2.heap.size 9 1 s5 j (svs (atI l (X.take j)))) ∧ Hid (Below w2.heap.size w2 wr)) (fun _ s6 _ => (K - intOf s6).toNat)
  case atStart => exact ⟨0, Nat.zero_le _, rfl, ho0, Hbn⟩
  case round =>
   clear ho0 Hbn;obtain ⟨j, hj, rfl, hown, hb⟩ := hrel;obtain ⟨A5, M5, cap5, rfl⟩ := own_slice hown.out
   by_cases hlt : j < K
   ·have hjX : j < X.length := by rw [HK.out]; exact hlt
    have hget := ivs_atC X j hjX;obtain ⟨hx1, hx2⟩ := Hxi.out (X[j]'hjX) (List.getElem_mem _);have hsn := Hsn.out j hjX;obtain ⟨x, hx⟩ : ∃ x, X[j]'hjX = x := ⟨_, rfl⟩;rw [hx] at hget hx1 hx2;simp only [hx] at hsn;rw [Hhn.out] at hx2;obtain ⟨xn, rfl⟩ : ∃ xn : Nat, x = xn := ⟨x.toNat, by omega⟩;obtain ⟨b3, o3, hA3, hbA3, hc3⟩ := (Hatx.out.below hb.out).get j _ hget;subst hA3
    have hxl : xn < l.length := by rw [Hhn.out]; omega
    have hcS : wr.cell? ⟨b, o + xn, none⟩ = some (.string (l[xn]'hxl)) := ((Hb2.out.trans (hb.out.mono Hb2.out.size)).cell (p := ⟨b, o + xn, none⟩) hbl).trans (Hcell.out xn hxl);have hsn2 := hsn (by rw [Int.toNat_natCast]; exact hxl);simp only [Int.toNat_natCast] at hsn2;obtain ⟨S, hS⟩ : ∃ S, l[xn]'hxl = S := ⟨_, rfl⟩;rw [hS] at hcS hsn2;obtain ⟨v', w4, hrun, hown4, hf4, _⟩ := app_own (P := Tryz.prog) 22 9 _ _ Tryz.underlying22 strinf rfl hown.out hb.out hb.out.size (.string S) rfl (by unfold maxLen; omega) (by omega);have Hrun := hide hrun;have Hown4 := hide (show w4.ownsRow w2.heap.size 9 1 v' (j + 1) (svs (atI l (X.take (j + 1)))) by rw [hsn2, svs_snocB]; exact hown4);have Hf4 := hide hf4
    have hj0 : (0 : Int) ≤ (j : Int) := by omega
    have hj1 : (j : Int) < (K : Int) := by omega
    have hxn0 : (0 : Int) ≤ (xn : Int) := by omega
    clear hjX hget hx hsn hsn2 hS hrun hown4 hf4 hown hb hx1
    go_wp2_with (
     at_builtin
     refine wpList_run (by with_reducible rfl) rfl _ _ _ rfl _ _ (by rfl) (by rfl) Hrun.out ?_)
    refine ⟨⟨j + 1, hlt, by go_num, Hown4, Hf4⟩, ?_⟩
    simp [intOf] <;> omega
   ·have hjK : j = K := by omega
    have hend : ¬ (j : Int) < (K : Int) := by omega
    have htX : X.take j = X := List.take_of_length_le (by rw [HK.out]; omega);have h9 := hown.out;rw [htX] at h9;obtain ⟨B9, c9, hv9, hat9⟩ := own_at h9
    injection hv9 with f1 f2 f3
    have f2 := f2.symm
    subst f1; subst f2; subst f3
    have Hb3 := hide (Hb2.out.trans (hb.out.mono Hb2.out.size));have Hat9 := hide hat9;have K1 := hide (HG.out wr AX capx (Hatx.out.below hb.out));have hjK2 := hjK.symm;subst hjK2;clear htX h9 hat9 hown hb HG Hatx Hb2 hend
    go_wp2_with fail
    refine (K1.out).mono ?_;rintro x w5 ⟨vg, rfl, hvg, hb5⟩;obtain ⟨Ag, capg, rfl, hatg⟩ := hvg;have Hb5 := hide (Hb3.out.trans (hb5.mono Hb3.out.size));have Hat5 := hide (Hat9.out.below hb5);have K2 := hide (HEN.out w5 Ag _ capg rfl hatg);clear hb5 hatg K1 Hb3 Hat9 HEN
    go_wp2_with fail
    refine (K2.out).mono ?_;rintro x w6 ⟨rfl, hb6⟩;have Hb6 := hide (Hb5.out.trans (hb6.mono Hb5.out.size));have K3 := hide (HSH.out w6 A5 cap5 (Hat5.out.below hb6));clear hb6 K2 Hb5 Hat5 HSH
    go_wp2_with fail
    refine (K3.out).mono ?_;rintro x w7 ⟨vs, rfl, hvs, hb7⟩;obtain ⟨As, caps, rfl, hats⟩ := hvs;have Hb7 := hide (Hb6.out.trans (hb7.mono Hb6.out.size));have K4 := hide (HEC.out w7 As _ caps rfl hats);clear hb7 hats K3 Hb6 HEC
    go_wp2_with fail
    refine (K4.out).mono ?_;rintro x w8 ⟨rfl, hb8⟩;have Hb8 := hide (Hb7.out.trans (hb8.mono Hb7.out.size));have hcz : w8.cell? ⟨b, o, none⟩ = some (.string L0) := (Hb8.out.cell (p := ⟨b, o, none⟩) hbl).trans hc0;clear hb8 K4 Hb7
    go_wp2_with fail
    refine (HA1.out w8).mono ?_;rintro x w9 ⟨rfl, hb9⟩;have Hb9 := hide (Hb8.out.trans (hb9.mono Hb8.out.size));clear hb9 HA1 Hb8 hcz
    go_wp2_with fail
    refine (HA2.out w9).mono ?_;rintro x wa ⟨rfl, hba⟩;have Hba := hide (Hb9.out.trans (hba.mono Hb9.out.size));have K5 := hide (HST.out wa (Ha.out.below Hba.out));clear hba HA2 Hb9 HST
    go_wp2_with fail
    refine (K5.out).mono ?_;rintro x wb ⟨rfl, hbb⟩;have Hbb := hide (Hba.out.trans (hbb.mono Hba.out.size));clear hbb K5 Hba
    go_wp2_with fail
    refine (HB1.out wb).mono ?_;rintro x wc ⟨rfl, hbc⟩;have Hbc := hide (Hbb.out.trans (hbc.mono Hbb.out.size));clear hbc HB1 Hbb
    go_wp2_with fail
    refine (HB2.out wc).mono ?_;rintro x wd ⟨rfl, hbd⟩;have Hbd := hide (Hbc.out.trans (hbd.mono Hbc.out.size));clear hbd HB2 Hbc
    go_wp2_with fail
    refine (HC2.out wd).mono ?_;rintro x we ⟨rfl, hbe⟩;have Hbe := hide (Hbd.out.trans (hbe.mono Hbd.out.size));clear hbe HC2 Hbd
    go_wp2
    go_returns
    exact ⟨ret_str HcC.out.symm, Hbe.out⟩
theorem a14encas0 {w : World} {A : Option Addr} {l : List ByteArray} (ha : At w A (svs l)) (n cap : Nat) (hn : n = l.length) (W : Int) (hvl : validB W l = true) :
  Calls Tryz.prog 18 #[.int .i64 0, .int .i64 W, .slice A n cap] w fun x w' => ERes w (wrO 0 (codB 0 W l)) x w' := by
 obtain ⟨v1, v2, v3, v4⟩ := validB_iff.1 hvl
 have hm : n ≤ 4096 := by omega
 have hsz : ∀ s ∈ l, s.size ≤ 1099511627776 := fun s hs => by rw [← toL_length]; have := (isV_iff.1 (vld_iff.1 (v1 s hs)).1).2.2; omega
 have HV := hide (a14valid_any ha hsz n cap hn (by omega) W);rw [hvl] at HV;have HN := hide (fun W2 => rnumber_any 0 (by omega) (by omega) W2);have hs0 := num_sz (0 : Int).toNat;have Hln := codB_len (c := 0) hvl;have Ha := hide ha;have HP := hide (fun W2 (h : At W2 A (svs l)) => a14packed_any h (fun s hs => (vld_iff.1 (v1 s hs)).1) n cap hn hm);have hc : codB 0 W l = codP l := rfl
 have hp : pkR l = match codP l with | none => ([], 9) | some s => (s, 0) := rfl
 rw [hc] at Hln ⊢;unfold ERes at HP;rw [hp] at HP
 cases ho : codP l with
 | none =>
  rw [ho] at HP;simp only at HP;clear ha hn hvl v1 v4 hsz hc hp ho Hln hs0
  show Calls Tryz.prog 18 #[.int .i64 0, .int .i64 W, .slice A n cap] w fun x w' => ERes w ([], 9) x w'
  go_enter Tryz.func18, Tryz.ntmps18
  go_wp2_with fail
  refine (HV.out).mono ?_;rintro x w1 ⟨rfl, rfl⟩
  go_wp2_with fail
  refine (HN.out _).mono ?_;rintro x w2 ⟨rfl, hb2⟩;have K := hide (HP.out w2 (Ha.out.below hb2));have Hb2 := hide hb2;clear hb2 HP HN HV
  go_wp2_with fail
  refine (K.out).mono ?_;rintro x w3 ⟨rfl, hb3⟩;have Hb3 := hide (Hb2.out.trans (hb3.mono Hb2.out.size));clear hb3 K Hb2
  go_wp2
  go_returns
  exact ⟨rfl, Hb3.out⟩
 | some s =>
  rw [ho] at HP Hln;simp only at HP;have hs1 : (bs s).size ≤ 4000000 := Hln;have hsum := nosumB (a := (bs (num (0 : Int).toNat)).size) (b := (bs s).size) (by omega);have Hfin := hide (show bs (num (0 : Int).toNat) ++ bs s = bs (num 0 ++ s) from bs_append _ _)
  generalize bs s = S at *
  generalize bs (num (0 : Int).toNat) = S0 at *
  clear ha hn hvl v1 v4 hsz hc hp ho Hln hs0
  show Calls Tryz.prog 18 #[.int .i64 0, .int .i64 W, .slice A n cap] w fun x w' => ERes w (num 0 ++ s, 0) x w'
  go_enter Tryz.func18, Tryz.ntmps18
  go_wp2_with fail
  refine (HV.out).mono ?_;rintro x w1 ⟨rfl, rfl⟩
  go_wp2_with fail
  refine (HN.out _).mono ?_;rintro x w2 ⟨rfl, hb2⟩;have K := hide (HP.out w2 (Ha.out.below hb2));have Hb2 := hide hb2;clear hb2 HP HN HV
  go_wp2_with fail
  refine (K.out).mono ?_;rintro x w3 ⟨rfl, hb3⟩;have Hb3 := hide (Hb2.out.trans (hb3.mono Hb2.out.size));clear hb3 K Hb2
  go_wp2
  go_returns
  exact ⟨by rw [← Hfin.out]; rfl, Hb3.out⟩
theorem a14encas1 {w : World} {A : Option Addr} {l : List ByteArray} (ha : At w A (svs l)) (n cap : Nat) (hn : n = l.length) (W : Int) (hvl : validB W l = true) :
  Calls Tryz.prog 18 #[.int .i64 1, .int .i64 W, .slice A n cap] w fun x w' => ERes w (wrO 1 (codB 1 W l)) x w' := by
 obtain ⟨v1, v2, v3, v4⟩ := validB_iff.1 hvl
 have hm : n ≤ 4096 := by omega
 have hsz : ∀ s ∈ l, s.size ≤ 1099511627776 := fun s hs => by rw [← toL_length]; have := (isV_iff.1 (vld_iff.1 (v1 s hs)).1).2.2; omega
 have HV := hide (a14valid_any ha hsz n cap hn (by omega) W);rw [hvl] at HV;have HN := hide (fun W2 => rnumber_any 1 (by omega) (by omega) W2);have hs0 := num_sz (1 : Int).toNat;have Hln := codB_len (c := 1) hvl;have Ha := hide ha;have HP := hide (fun W2 (h : At W2 A (svs l)) => a14counted_any h hsz n cap hn hm);have hc : codB 1 W l = some (codC l) := rfl;rw [hc] at Hln ⊢;have hs1 : (bs (codC l)).size ≤ 4000000 := Hln;have hsum := nosumB (a := (bs (num (1 : Int).toNat)).size) (b := (bs (codC l)).size) (by omega);have Hfin := hide (show bs (num (1 : Int).toNat) ++ bs (codC l) = bs (num 1 ++ codC l) from bs_append _ _)
 show Calls Tryz.prog 18 #[.int .i64 1, .int .i64 W, .slice A n cap] w fun x w' => ERes w (num 1 ++ codC l, 0) x w'
 generalize num 1 ++ codC l = FIN at *
 generalize bs (codC l) = S at *
 generalize bs (num (1 : Int).toNat) = S0 at *
 clear ha hn hvl v1 v4 hsz hc Hln hs0
 go_enter Tryz.func18, Tryz.ntmps18
 go_wp2_with fail
 refine (HV.out).mono ?_;rintro x w1 ⟨rfl, rfl⟩
 go_wp2_with fail
 refine (HN.out _).mono ?_;rintro x w2 ⟨rfl, hb2⟩;have K := hide (HP.out w2 (Ha.out.below hb2));have Hb2 := hide hb2;clear hb2 HP HN HV
 go_wp2_with fail
 refine (K.out).mono ?_;rintro x w3 ⟨rfl, hb3⟩;have HbE := hide (Hb2.out.trans (hb3.mono Hb2.out.size));clear hb3 K Hb2
 go_wp2
 go_returns
 exact ⟨by rw [← Hfin.out]; rfl, HbE.out⟩
theorem a14encas2 {w : World} {A : Option Addr} {l : List ByteArray} (ha : At w A (svs l)) (n cap : Nat) (hn : n = l.length) (W : Int) (hvl : validB W l = true) :
  Calls Tryz.prog 18 #[.int .i64 2, .int .i64 W, .slice A n cap] w fun x w' => ERes w (wrO 2 (codB 2 W l)) x w' := by
 obtain ⟨v1, v2, v3, v4⟩ := validB_iff.1 hvl
 have hm : n ≤ 4096 := by omega
 have hsz : ∀ s ∈ l, s.size ≤ 1099511627776 := fun s hs => by rw [← toL_length]; have := (isV_iff.1 (vld_iff.1 (v1 s hs)).1).2.2; omega
 have HV := hide (a14valid_any ha hsz n cap hn (by omega) W);rw [hvl] at HV;have HN := hide (fun W2 => rnumber_any 2 (by omega) (by omega) W2);have hs0 := num_sz (2 : Int).toNat;have Hln := codB_len (c := 2) hvl;have Ha := hide ha;have HM := hide (fun W2 (h : At W2 A (svs l)) => a14mixed_any h hsz n cap hn (by omega) W);obtain ⟨Q, hQ⟩ : ∃ Q, mixL (bs (allV W 48)) l = Q := ⟨_, rfl⟩
 have hQl : Q.length ≤ 4096 := by rw [← hQ, mixL_len]; exact v4
 have hQz : ∀ s ∈ Q, s.size ≤ 1099511627776 := fun s hs => by rw [← hQ] at hs; exact mixL_sizes hsz _ s hs
 have hcm : codM W l = (enc (shortL Q)).1 := by unfold codM; rw [hQ]
 rw [hQ] at HM;have HP := hide (fun W2 (B : Option Addr) (c : Nat) (h : At W2 B (svs Q)) => a14short_any h hQz Q.length c rfl (by omega));have hso := short_ok (l := Q) hQl;have he2 := dec_short (l := Q) hQl
 have HEC : Hid (∀ W2 (B : Option Addr) (m c : Nat) (hm2 : m = (shortL Q).length) (h : At W2 B (svs (shortL Q))), Calls Tryz.prog 39 #[.slice B m c] W2 fun x w' => x = .returned (.tuple #[.string (bs (codM W l)), .int .i64 0]) ∧ Below W2.heap.size W2 w') := hide (fun W2 B m c hm2 h => by
  have := rencode_any h (fun s hs => by have := hso.2 s hs; omega) m c hm2 (by omega);unfold ERes at this;rw [he2.2, ← hcm] at this
  exact this)
 clear hcm hso he2;have hc : codB 2 W l = some (codM W l) := rfl;rw [hc] at Hln ⊢;have hs1 : (bs (codM W l)).size ≤ 4000000 := Hln;have hsum := nosumB (a := (bs (num (2 : Int).toNat)).size) (b := (bs (codM W l)).size) (by omega);have Hfin := hide (show bs (num (2 : Int).toNat) ++ bs (codM W l) = bs (num 2 ++ codM W l) from bs_append _ _)
 show Calls Tryz.prog 18 #[.int .i64 2, .int .i64 W, .slice A n cap] w fun x w' => ERes w (num 2 ++ codM W l, 0) x w'
 generalize num 2 ++ codM W l = FIN at *
 generalize bs (codM W l) = S at *
 generalize bs (num (2 : Int).toNat) = S0 at *
 clear ha hn hvl v1 v4 hsz hc Hln hs0
 go_enter Tryz.func18, Tryz.ntmps18
 go_wp2_with fail
 refine (HV.out).mono ?_;rintro x w1 ⟨rfl, rfl⟩
 go_wp2_with fail
 refine (HN.out _).mono ?_;rintro x w2 ⟨rfl, hb2⟩;have K0 := hide (HM.out w2 (Ha.out.below hb2));have Hb2 := hide hb2;clear hb2 HM HN HV
 go_wp2_with fail
 refine (K0.out).mono ?_;rintro x wq ⟨vq, rfl, ⟨Aq, capq, rfl, hatq⟩, hbq⟩;have Hbq := hide (Hb2.out.trans (hbq.mono Hb2.out.size));have K := hide (HP.out wq Aq capq hatq);clear hbq hatq K0 Hb2 HP
 go_wp2_with fail
 refine (K.out).mono ?_;rintro x w3 ⟨v3, rfl, ⟨A3, cap3, rfl, hat3⟩, hb3⟩;have Hb3 := hide (Hbq.out.trans (hb3.mono Hbq.out.size));have K2 := hide (HEC.out w3 A3 _ cap3 rfl hat3);clear hb3 K Hbq hat3 HEC
 go_wp2_with fail
 refine (K2.out).mono ?_;rintro x w4 ⟨rfl, hb4⟩;have HbE := hide (Hb3.out.trans (hb4.mono Hb3.out.size));clear hb4 K2 Hb3
 go_wp2
 go_returns
 exact ⟨by rw [← Hfin.out]; rfl, HbE.out⟩
theorem a14encas3 {w : World} {A : Option Addr} {l : List ByteArray} (ha : At w A (svs l)) (n cap : Nat) (hn : n = l.length) (W : Int) (hvl : validB W l = true) :
  Calls Tryz.prog 18 #[.int .i64 3, .int .i64 W, .slice A n cap] w fun x w' => ERes w (wrO 3 (codB 3 W l)) x w' := by
 obtain ⟨v1, v2, v3, v4⟩ := validB_iff.1 hvl
 have hm : n ≤ 4096 := by omega
 have hsz : ∀ s ∈ l, s.size ≤ 1099511627776 := fun s hs => by rw [← toL_length]; have := (isV_iff.1 (vld_iff.1 (v1 s hs)).1).2.2; omega
 have HV := hide (a14valid_any ha hsz n cap hn (by omega) W);rw [hvl] at HV;have HN := hide (fun W2 => rnumber_any 3 (by omega) (by omega) W2);have hs0 := num_sz (3 : Int).toNat;have Hln := codB_len (c := 3) hvl;have Ha := hide ha;have HP := hide (fun W2 (h : At W2 A (svs l)) => a14short_any h hsz n cap hn (by omega));have hso := short_ok (l := l) v4;have he2 := dec_short (l := l) v4
 have HEC : Hid (∀ W2 (B : Option Addr) (m c : Nat) (hm2 : m = (shortL l).length) (h : At W2 B (svs (shortL l))), Calls Tryz.prog 39 #[.slice B m c] W2 fun x w' => x = .returned (.tuple #[.string (bs (codW l)), .int .i64 0]) ∧ Below W2.heap.size W2 w') := hide (fun W2 B m c hm2 h => by
  have := rencode_any h (fun s hs => by have := hso.2 s hs; omega) m c hm2 (by omega);unfold ERes at this;rw [he2.2] at this
  exact this)
 have hc : codB 3 W l = some (codW l) := rfl;rw [hc] at Hln ⊢;have hs1 : (bs (codW l)).size ≤ 4000000 := Hln;have hsum := nosumB (a := (bs (num (3 : Int).toNat)).size) (b := (bs (codW l)).size) (by omega);have Hfin := hide (show bs (num (3 : Int).toNat) ++ bs (codW l) = bs (num 3 ++ codW l) from bs_append _ _)
 show Calls Tryz.prog 18 #[.int .i64 3, .int .i64 W, .slice A n cap] w fun x w' => ERes w (num 3 ++ codW l, 0) x w'
 generalize num 3 ++ codW l = FIN at *
 generalize bs (codW l) = S at *
 generalize bs (num (3 : Int).toNat) = S0 at *
 clear ha hn hvl v1 v4 hsz hc Hln hs0
 go_enter Tryz.func18, Tryz.ntmps18
 go_wp2_with fail
 refine (HV.out).mono ?_;rintro x w1 ⟨rfl, rfl⟩
 go_wp2_with fail
 refine (HN.out _).mono ?_;rintro x w2 ⟨rfl, hb2⟩;have K := hide (HP.out w2 (Ha.out.below hb2));have Hb2 := hide hb2;clear hb2 HP HN HV
 go_wp2_with fail
 refine (K.out).mono ?_;rintro x w3 ⟨v3, rfl, ⟨A3, cap3, rfl, hat3⟩, hb3⟩;have Hb3 := hide (Hb2.out.trans (hb3.mono Hb2.out.size));have K2 := hide (HEC.out w3 A3 _ cap3 rfl hat3);clear hb3 K Hb2 hat3 HEC
 go_wp2_with fail
 refine (K2.out).mono ?_;rintro x w4 ⟨rfl, hb4⟩;have HbE := hide (Hb3.out.trans (hb4.mono Hb3.out.size));clear hb4 K2 Hb3
 go_wp2
 go_returns
 exact ⟨by rw [← Hfin.out]; rfl, HbE.out⟩
theorem a14encas_any {w : World} {A : Option Addr} {l : List ByteArray} (ha : At w A (svs l)) (hsz : ∀ s ∈ l, s.size ≤ 1099511627776) (n cap : Nat) (hn : n = l.length) (hm : n ≤ 9223372036854775807) (c W : Int) :
  Calls Tryz.prog 18 #[.int .i64 c, .int .i64 W, .slice A n cap] w fun x w' => ERes w (encAsB c W l) x w' := by
 have hv := a14valid_any ha hsz n cap hn hm W;have he : bs ([] : List UInt8) = ⟨#[]⟩ := rfl;unfold encAsB
 by_cases h0 : c < 0
 ·rw [if_pos (.inl h0)]
  clear ha hsz hn hv
  go_enter Tryz.func18, Tryz.ntmps18
  go_wp2_with fail
  go_returns
  exact ⟨rfl, Below.refl _ _⟩
 ·by_cases h4 : 3 < c
  ·rw [if_pos (.inr h4)]
   clear ha hsz hn hv
   go_enter Tryz.func18, Tryz.ntmps18
   go_wp2_with fail
   go_returns
   exact ⟨rfl, Below.refl _ _⟩
  ·rw [if_neg (by omega)]
   cases hvl : validB W l with
   | false =>
    rw [if_pos rfl];rw [hvl] at hv;have HV := hide hv;clear ha hsz hn hv hvl
    go_enter Tryz.func18, Tryz.ntmps18
    go_wp2_with fail
    refine (HV.out).mono ?_;rintro x w1 ⟨rfl, rfl⟩
    go_wp2
    go_returns
    exact ⟨rfl, Below.refl _ _⟩
   | true =>
    rw [if_neg (by simp)]
    rcases (show c = ((0 : Nat) : Int) ∨ c = ((1 : Nat) : Int) ∨ c = ((2 : Nat) : Int) ∨ c = ((3 : Nat) : Int) by omega) with rfl | rfl | rfl | rfl
    ·exact a14encas0 ha n cap hn W hvl
    ·exact a14encas1 ha n cap hn W hvl
    ·exact a14encas2 ha n cap hn W hvl
    ·exact a14encas3 ha n cap hn W hvl
theorem a14encode_any {w : World} {A : Option Addr} {l : List ByteArray} (ha : At w A (svs l)) (hsz : ∀ s ∈ l, s.size ≤ 1099511627776) (n cap : Nat) (hn : n = l.length) (hm : n ≤ 9223372036854775807) (W : Int) :
  Calls Tryz.prog 20 #[.int .i64 W, .slice A n cap] w fun x w' => ERes w (encB' W l) x w' := by
 have hv := a14valid_any ha hsz n cap hn hm W;have he : bs ([] : List UInt8) = ⟨#[]⟩ := rfl;unfold encB'
 cases hvl : validB W l with
 | false =>
  rw [if_pos rfl];rw [hvl] at hv;have HV := hide hv;clear ha hsz hn hv hvl
  go_enter Tryz.func20, Tryz.ntmps20
  go_wp2_with fail
  refine (HV.out).mono ?_;rintro x w1 ⟨rfl, rfl⟩
  go_wp2
  go_returns
  exact ⟨rfl, Below.refl _ _⟩
 | true =>
  rw [if_neg (by simp)];rw [hvl] at hv;have HV := hide hv;have Ha := hide ha
  have Henc := hide (fun (i : Nat) (hi : i < 4) W2 (h : At W2 A (svs l)) => (by
   have := a14encas_any h hsz n cap hn hm (i : Int) W;unfold encAsB at this;rw [if_neg (by omega), hvl, if_neg (by simp), Int.toNat_natCast] at this
   exact this : Calls Tryz.prog 18 #[.int .i64 (i : Int), .int .i64 W, .slice A n cap] W2 fun x w' => ERes W2 (wrO i (codB i W l)) x w'))
  have Hlen := hide (bstB_len hvl)
  have hst : ∀ i, bstB W l (i + 1) = match codB i W l with | none => bstB W l i | some s => if bstB W l i = [] ∨ (num i ++ s).length < (bstB W l i).length then num i ++ s else bstB W l i := fun i => rfl
  have Hst := hide hst;have H0 : Hid (bs (bstB W l 0) = ⟨#[]⟩) := hide rfl;have Hlc := hide (fun i => codB_len (c := i) hvl);obtain ⟨BT, hBT⟩ : ∃ f, bstB W l = f := ⟨_, rfl⟩;obtain ⟨CB, hCB⟩ : ∃ f : Nat → Option (List UInt8), (fun i => codB i W l) = f := ⟨_, rfl⟩
  have hCi : ∀ i, codB i W l = CB i := fun i => congrFun hCB i
  simp only [hBT, hCi] at Henc Hlen Hst H0 Hlc ⊢;clear ha hsz hn hv hvl hst hBT hCB hCi he
  go_enter Tryz.func20, Tryz.ntmps20
  go_wp2_with fail
  refine (HV.out).mono ?_;rintro x w1 ⟨rfl, rfl⟩;have Hb1 := hide (Below.refl w.heap.size w);clear HV
  go_wp2
  go_loopw [6, 7] (fun s6 s14 wr => ∃ i : Nat, i ≤ 4 ∧ s14 = .int .i64 (i : Int) ∧ s6 = .string (bs (BT i)) ∧ Hid (Below w.heap.size w wr)) (fun _ s14 _ => (4 - intOf s14).toNat)
  case atStart => exact ⟨0, by omega, rfl, by rw [H0.out], Hb1⟩
  case round =>
   clear Hb1;obtain ⟨i, hi, rfl, rfl, hb⟩ := hrel
   by_cases hlt : i < 4
   ·have hk := Henc.out i hlt wr (Ha.out.below hb.out)
    have hs1 := Hst.out i;have hl1 := Hlen.out i;have hem := bs_emp (BT i);have hls := Hlc.out i
    have h0i : (0 : Int) ≤ (i : Int) := by omega
    have h4i : (i : Int) < 4 := by omega
    cases ho : CB i with
    | none =>
     rw [ho] at hk hs1;unfold wrO at hk;simp only at hk hs1;have K := hide hk;have HB : Hid (BT (i + 1) = BT i) := hide hs1;clear hk hs1 hem hls ho Henc Hst Hlen Hlc H0 hl1;unfold ERes at K
     go_wp2_with fail
     refine (K.out).mono ?_;rintro x w3 ⟨rfl, hb3⟩;have Hb3 := hide (hb.out.trans (hb3.mono hb.out.size));clear K hb3 hb
     go_wp2
     refine ⟨⟨i + 1, by omega, by go_num, by rw [HB.out], Hb3⟩, ?_⟩
     simp [intOf] <;> omega
    | some s =>
     rw [ho] at hk hs1 hls;unfold wrO at hk;simp only [Option.getD_some] at hk hs1 hls;unfold ERes at hk;simp only at hk;have hzs : (bs (num i ++ s)).size = (num i ++ s).length := bs_size _;have hzb : (bs (BT i)).size = (BT i).length := bs_size _;have K := hide hk;have HS := hide hs1
     by_cases he0 : BT i = []
     ·rw [decide_eq_true he0] at hem
      have HB : Hid (bs (BT (i + 1)) = bs (num i ++ s)) := hide (by rw [HS.out, if_pos (.inl he0)]);clear hk hs1 hls ho Henc Hst Hlen Hlc H0 hl1 hzs hzb HS he0
      generalize bs (BT i) = SB at *
      generalize bs (num i ++ s) = S at *
      go_wp2_with fail
      refine (K.out).mono ?_;rintro x w3 ⟨rfl, hb3⟩;have Hb3 := hide (hb.out.trans (hb3.mono hb.out.size));clear K hb3 hb
      go_wp2
      refine ⟨⟨i + 1, by omega, by go_num, by rw [HB.out], Hb3⟩, ?_⟩
      simp [intOf] <;> omega
     ·rw [decide_eq_false he0] at hem
      by_cases hll : (num i ++ s).length < (BT i).length
      ·have HB : Hid (bs (BT (i + 1)) = bs (num i ++ s)) := hide (by rw [HS.out, if_pos (.inr hll)])
       have hcmp : ((bs (num i ++ s)).size : Int) < ((bs (BT i)).size : Int) := by rw [hzs, hzb]; omega
       clear hk hs1 hls ho Henc Hst Hlen Hlc H0 hl1 hzs hzb HS he0 hll
       generalize bs (BT i) = SB at *
       generalize bs (num i ++ s) = S at *
       go_wp2_with fail
       refine (K.out).mono ?_;rintro x w3 ⟨rfl, hb3⟩;have Hb3 := hide (hb.out.trans (hb3.mono hb.out.size));clear K hb3 hb
       go_wp2
       refine ⟨⟨i + 1, by omega, by go_num, by rw [HB.out], Hb3⟩, ?_⟩
       simp [intOf] <;> omega
      ·have HB : Hid (bs (BT (i + 1)) = bs (BT i)) := hide (by rw [HS.out, if_neg (by rintro (h | h); exact he0 h; exact hll h)])
       have hcmp : ¬ ((bs (num i ++ s)).size : Int) < ((bs (BT i)).size : Int) := by rw [hzs, hzb]; omega
       clear hk hs1 hls ho Henc Hst Hlen Hlc H0 hl1 hzs hzb HS he0 hll
       generalize bs (BT i) = SB at *
       generalize bs (num i ++ s) = S at *
       go_wp2_with fail
       refine (K.out).mono ?_;rintro x w3 ⟨rfl, hb3⟩;have Hb3 := hide (hb.out.trans (hb3.mono hb.out.size));clear K hb3 hb
       go_wp2
       refine ⟨⟨i + 1, by omega, by go_num, by rw [HB.out], Hb3⟩, ?_⟩
       simp [intOf] <;> omega
   ·have hi4 : i = 4 := by omega
    subst hi4;clear Henc Hst Hlen Hlc H0
    go_wp2
    go_returns
    exact ⟨rfl, hb.out⟩
end Go.Proofs.YtoeeblldgoccoaaGreat
