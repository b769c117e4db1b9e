/-
  The laws of lists of values: counters of which some values are replaced.
-/
import Derived.Test.YtoeeblldgoccoaaGreatJ46
set_option linter.unusedVariables false
set_option linter.unusedSimpArgs false
namespace Go.Proofs.YtoeeblldgoccoaaGreat
open Go.RowKit Go.Proofs Wv Wv.Vi Wv.Rc Wv.Mo Wv.Ru Wv.Tm Wv.Bc
set_option linter.unusedVariables false
def hvs (l : List Int) : List Value := l.map (fun n => .int .u16 n)
theorem hvs_at (l : List Int) (i : Nat) (h : i < l.length) : (hvs l)[i]? = some (.int .u16 l[i]) := by simp [hvs, h]
theorem a02known_big (s : ByteArray) (hs : s.size ≤ 9223372036854775807) (W : World) : Calls Tryz.prog 25 #[.string s] W fun x w' => x = .returned (.bool (knV (toL s))) ∧ Below W.heap.size W w' := by
 have := aknown_big (toL s) (by rw [toL_length]; exact hs) W
 rw [bs_toL] at this
 exact this
theorem a02valid_big (s : ByteArray) (hs : s.size ≤ 9223372036854775807) (n : Int) (W : World) : Calls Tryz.prog 27 #[.int .i64 n, .string s] W fun x w' => x = .returned (.bool (vld n (toL s))) ∧ W = w' := by
 have := avalid_big n (toL s) (by rw [toL_length]; exact hs) W
 rw [bs_toL] at this
 exact this
def slLen : Value → Nat
 | .slice _ n _ => n
 | _ => 0
def cnts0 (f s : ByteArray) (i : Nat) : List ByteArray := (List.range i).map (cnt f s)
theorem cnts0_succ (f s : ByteArray) (i : Nat) : cnts0 f s (i + 1) = cnts0 f s i ++ [cnt f s i] := by unfold cnts0; rw [List.range_succ, List.map_append]; rfl
theorem cnts0_get (f s : ByteArray) (i j : Nat) (h : j < i) : (svs (cnts0 f s i))[j]? = some (.string (cnt f s j)) := by simp [svs, sv, cnts0, h]
set_option maxRecDepth 100000 in
set_option maxHeartbeats 4000000 in
theorem lbcounters_any {w : World} (f : ByteArray) (hf : f.size ≤ 9223372036854775807) (s : ByteArray) (hs : s.size ≤ 9223372036854775807) (n : Int) (hn0 : 0 ≤ n) (hn1 : n < 65536)
  {Ar : Option Addr} {rs : List Int} (hr : At w Ar (hvs rs)) (hrs : ∀ v ∈ rs, 0 ≤ v ∧ v < 65536) (nr cr : Nat) (hnr : nr = rs.length) (hmr : nr ≤ 9223372036854775807)
  {Ab : Option Addr} {bl : List ByteArray} (hb : At w Ab (svs bl)) (hbl : ∀ s ∈ bl, s.size ≤ 9223372036854775807) (nb cb : Nat) (hnb : nb = bl.length) (hmb : nb ≤ 9223372036854775807) :
  Calls Tryz.prog 9 #[.string f, .string s, .int .u16 n, .slice Ar nr cr, .slice Ab nb cb] w fun x w' => BTrue w x w' := by
 have Haw := hide (bawake_any w)
 have Hkf := hide (fun W => a02known_big f hf W)
 have Hks := hide (fun W => a02known_big s hs W)
 have hways : knV (toL f) = false ∨ (knV (toL f) = true ∧ knV (toL s) = false) ∨ (knV (toL f) = true ∧ knV (toL s) = true ∧ ((f.size : Int) ≠ (s.size : Int) ∨ ((f.size : Int) = (s.size : Int) ∧ (5 : Int) < (nr : Int)))) ∨ (knV (toL f) = true ∧ knV (toL s) = true ∧ f.size = s.size ∧ nr ≤ 5) := by
  cases knV (toL f)
  ·exact .inl rfl
  ·cases knV (toL s)
   ·exact .inr (.inl ⟨rfl, rfl⟩)
   ·by_cases h1 : f.size = s.size
    ·by_cases h2 : nr ≤ 5
     ·exact .inr (.inr (.inr ⟨rfl, rfl, h1, h2⟩))
     ·exact .inr (.inr (.inl ⟨rfl, rfl, .inr ⟨by omega, by omega⟩⟩))
    ·exact .inr (.inr (.inl ⟨rfl, rfl, .inl (by omega)⟩))
 rcases hways with c1 | ⟨c1, c2⟩ | ⟨c1, c2, c3⟩ | ⟨c1, c2, c3, c4⟩
 ·rw [c1] at Hkf
  clear c1 Hks hr hrs hnr hb hbl hnb
  go_enter Tryz.func9, Tryz.ntmps9
  go_wp2_with fail
  refine (Haw.out).mono ?_
  rintro x w1 ⟨rfl, hb1⟩
  go_wp2_with fail
  refine (Hkf.out _).mono ?_
  rintro x w2 ⟨rfl, hb2⟩
  have Hb2 := hide (bel_step hb1 hb2)
  clear hb1 hb2
  go_wp2
  go_returns
  exact ⟨rfl, Hb2.out⟩
 ·rw [c1] at Hkf
  rw [c2] at Hks
  clear c1 c2 hr hrs hnr hb hbl hnb
  go_enter Tryz.func9, Tryz.ntmps9
  go_wp2_with fail
  refine (Haw.out).mono ?_
  rintro x w1 ⟨rfl, hb1⟩
  go_wp2_with fail
  refine (Hkf.out _).mono ?_
  rintro x w2 ⟨rfl, hb2⟩
  have Hb2 := hide (bel_step hb1 hb2)
  clear hb1 hb2
  go_wp2_with fail
  refine (Hks.out _).mono ?_
  rintro x w3 ⟨rfl, hb3⟩
  have Hb3 := hide (bel_step Hb2.out hb3)
  clear hb3
  go_wp2
  go_returns
  exact ⟨rfl, Hb3.out⟩
 ·rw [c1] at Hkf
  rw [c2] at Hks
  clear c1 c2 hr hrs hnr hb hbl hnb
  rcases c3 with c3 | ⟨c3, c4⟩
  ·have c3d : ((f.size : Int) != (s.size : Int)) = true := bne_iff_ne.2 c3
   clear c3
   go_enter Tryz.func9, Tryz.ntmps9
   go_wp2_with fail
   refine (Haw.out).mono ?_
   rintro x w1 ⟨rfl, hb1⟩
   go_wp2_with fail
   refine (Hkf.out _).mono ?_
   rintro x w2 ⟨rfl, hb2⟩
   have Hb2 := hide (bel_step hb1 hb2)
   clear hb1 hb2
   go_wp2_with fail
   refine (Hks.out _).mono ?_
   rintro x w3 ⟨rfl, hb3⟩
   have Hb3 := hide (bel_step Hb2.out hb3)
   clear hb3
   go_wp2
   go_returns
   exact ⟨rfl, Hb3.out⟩
  ·have c5 : ((f.size : Int) != (s.size : Int)) = false := by rw [c3]; exact bne_self_eq_false _
   clear c3
   go_enter Tryz.func9, Tryz.ntmps9
   go_wp2_with fail
   refine (Haw.out).mono ?_
   rintro x w1 ⟨rfl, hb1⟩
   go_wp2_with fail
   refine (Hkf.out _).mono ?_
   rintro x w2 ⟨rfl, hb2⟩
   have Hb2 := hide (bel_step hb1 hb2)
   clear hb1 hb2
   go_wp2_with fail
   refine (Hks.out _).mono ?_
   rintro x w3 ⟨rfl, hb3⟩
   have Hb3 := hide (bel_step Hb2.out hb3)
   clear hb3
   go_wp2
   go_returns
   exact ⟨rfl, Hb3.out⟩
 ·rw [c1] at Hkf
  rw [c2] at Hks
  obtain ⟨m, hm⟩ : ∃ m : Nat, n % 970 = (m : Int) := ⟨(n % 970).toNat, by omega⟩
  have hm9 : m < 970 := by omega
  obtain ⟨K, hK⟩ : ∃ K : Nat, 30 + m = K := ⟨_, rfl⟩
  have hKi : (30 : Int) + (m : Int) = (K : Int) := by omega
  have hK1 : 30 ≤ K := by omega
  have hK2 : K ≤ 1000 := by omega
  have Hlaw := hide (fun (P : List Nat) (l : List ByteArray) (h : CtMix f s K P l) (hP : P.length ≤ 5) => ct_law c1 c2 c3 h hP hK1 hK2)
  have Hst := hide (ct_start c1 c2 c3 K)
  obtain ⟨hsz1, hsz2⟩ : f.size ≤ 128 ∧ s.size ≤ 128 := by
   have h1 := (knV_iff.1 c1).2.2
   have h2 := (knV_iff.1 c2).2.2
   rw [toL_length] at h1 h2
   exact ⟨h1, h2⟩
  have Hsz := hide (fun i => (cnt_known c1 c2 c3 i).2)
  have Hadd := hide (fun i W => by
   have := badd_any (toL (cnt f s i)) (toL s) (by rw [toL_length, (cnt_known c1 c2 c3 i).2]; omega) (by rw [toL_length]; omega) W
   rw [(cnt_next c1 c2 c3 i).1, bs_toL, bs_toL, bs_toL] at this
   exact this)
  have Hvb := hide (fun (v : ByteArray) (hv : v ∈ bl) W => a02valid_big v (hbl v hv) (f.size : Int) W)
  have Hr := hide hr
  have Hb := hide hb
  have Hrs := hide hrs
  have Hnr := hide hnr
  have Hnb := hide hnb
  have Hfs := hide c3
  have c5 : ((f.size : Int) != (s.size : Int)) = false := by rw [c3]; exact bne_self_eq_false _
  have hss : (s.toList == s.toList) = true := beq_self_eq_true _
  have c4i : ¬ (5 : Int) < (nr : Int) := by omega
  clear hf hs hr hrs hnr hb hbl hnb c1 c2 c3 hK hsz1 hsz2
  go_enter Tryz.func9, Tryz.ntmps9
  go_wp2_with fail
  refine (Haw.out).mono ?_
  rintro x w1 ⟨rfl, hb1⟩
  have Hb1 := hide hb1
  clear hb1 Haw
  go_wp2_with fail
  refine (Hkf.out _).mono ?_
  rintro x w2 ⟨rfl, hb2⟩
  have Hb2 := hide (bel_step Hb1.out hb2)
  clear hb2 Hb1 Hkf
  go_wp2_with fail
  refine (Hks.out _).mono ?_
  rintro x w3 ⟨rfl, hb3⟩
  have Hb3 := hide (bel_step Hb2.out hb3)
  have Hm3 := hide (own_base (own_made1 w3 9 (.string f)) Hb3.out.size)
  have Hb4 := hide (Hb3.out.alloc Hb3.out.size (.cells #[.string f] 9))
  clear hb3 Hb2 Hks Hb3
  go_wp2
  rw [hm]
  clear hm hKi c4i
  go_loopw [12] (fun s12 wr => ∃ i : Nat, i + 1 ≤ K ∧ Hid (wr.ownsRow w.heap.size 9 1 s12 (i + 1) (svs (cnts0 f s (i + 1)))) ∧ Hid (Below w.heap.size w wr)) (fun s12 _ => K - slLen s12)
  case atStart => exact ⟨0, by omega, Hm3, Hb4⟩
  case round =>
   clear Hb4 Hm3
   obtain ⟨i, hi, hown, hb⟩ := hrel
   obtain ⟨N, hN⟩ : ∃ N, i + 1 = N := ⟨_, rfl⟩
   rw [hN] at hi hown
   obtain ⟨g, cap, hvv, hcap⟩ := own_form hown.out (by omega)
   subst hvv
   by_cases hlt : N < K
   ·have hlti : (N : Int) < (K : Int) := by omega
    obtain ⟨hcell, _⟩ := own_cell hown.out i _ (cnts0_get f s N i (by omega))
    have hglt := hown.out.lt g rfl
    have K1 := hide (Hadd.out i wr)
    rw [hN] at K1
    have hii : (N : Int) - 1 = (i : Int) := by omega
    have hiN : i < N := by omega
    have hin1 : (i : Int) < (N : Int) := by omega
    have Hsn := hide (cnts0_succ f s N)
    obtain ⟨Y, hY⟩ : ∃ Y, cnt f s i = Y := ⟨_, rfl⟩
    obtain ⟨X, hX⟩ : ∃ X, cnt f s N = X := ⟨_, rfl⟩
    rw [hY] at hcell K1
    rw [hX] at K1 Hsn
    clear hN hY hX Hlaw Hst Hsz Hadd Hvb Hr Hb Hrs Hnr Hnb hss c5
    go_wp2_with fail
    refine (K1.out).mono ?_
    rintro x w5 ⟨rfl, hb5⟩
    have hown5 := own_fr hown.out (Fr.of_below (S := nob) hb5) (fun _ _ f => f)
    have hbx := hb.out.trans (hb5.mono hb.out.size)
    obtain ⟨v', w6, hrun, hown6, hf6, _⟩ := app_own (P := Tryz.prog) 22 9 _ _ Tryz.underlying22 strinf rfl (w := w5) hown5 hbx hbx.size (.string X) rfl (by unfold maxLen; omega) (by omega)
    obtain ⟨A', cap', hv', _⟩ := own_at hown6
    subst hv'
    have Hrun := hide hrun
    have Hown6 := hide (show w6.ownsRow w.heap.size 9 1 (.slice A' (N + 1) cap') (N + 1) (svs (cnts0 f s (N + 1))) by rw [Hsn.out, svs_snocB]; exact hown6)
    have Hf6 := hide hf6
    clear hb5 K1 hown hb hcell hrun hown6 hf6 hown5 hbx Hsn hglt
    go_wp2_with (
     at_builtin
     refine wpList_run (by with_reducible rfl) rfl _ _ _ rfl _ _ (by rfl) (by rfl) Hrun.out ?_)
    refine ⟨⟨N, by omega, Hown6, Hf6⟩, ?_⟩
    simp [slLen] <;> omega
   ·have hin : K = N := by omega
    subst hin
    have hend : ¬ (K : Int) < (K : Int) := by omega
    clear hN hi hlt Hadd
    go_wp2
    go_loopw [72] (fun s72 wr2 => ∃ (j : Nat) (l : List ByteArray) (P : List Nat), j ≤ nr ∧ s72 = .int .i64 (j : Int) ∧ Hid (CtMix f s K P l) ∧ Hid (P.length = j) ∧ Hid (wr2.ownsRow w.heap.size 9 1 (.slice (some ⟨g, 0, none⟩) K cap) K (svs l)) ∧ Hid (Below w.heap.size w wr2)) (fun s72 _ => (nr - intOf s72).toNat)
    case atStart => exact ⟨0, cnts0 f s K, [], Nat.zero_le _, rfl, Hst, hide rfl, hown, hb⟩
    case round =>
     clear Hst hown hb
     rename_i wr0 s120
     obtain ⟨j, l, P, hj, rfl, hmix, hPl, hown, hb⟩ := hrel
     by_cases hlt : j < nr
     ·have hjl : j < rs.length := by rw [← Hnr.out]; exact hlt
      have hgv := hvs_at rs j hjl
      have hvr := Hrs.out rs[j] (List.getElem_mem _)
      obtain ⟨v, hv⟩ : ∃ v, rs[j] = v := ⟨_, rfl⟩
      rw [hv] at hgv hvr
      obtain ⟨bR, oR, hA, hbR, hcR⟩ := (Hr.out.below hb.out).get j _ hgv
      subst hA
      obtain ⟨hv0, hv1⟩ := hvr
      obtain ⟨q, hq⟩ : ∃ q : Nat, v % (K : Int) = (q : Int) := ⟨(v % (K : Int)).toNat, by have := Int.emod_nonneg v (show (K : Int) ≠ 0 by omega); omega⟩
      have hqK : q < K := by have := Int.emod_lt_of_pos v (show (0 : Int) < (K : Int) by omega); omega
      have hlti : (j : Int) < (nr : Int) := by omega
      have hlti0 : (0 : Int) ≤ (j : Int) := by omega
      clear hjl hgv hv
      by_cases hjb : j < nb
      ·have hjbl : j < bl.length := by rw [← Hnb.out]; exact hjb
       have hjbi : (j : Int) < (nb : Int) := by omega
       obtain ⟨bB, oB, hA2, hbB, hcB⟩ := sv_cell (Hb.out.below hb.out) j hjbl
       subst hA2
       have K1 := hide (Hvb.out _ (List.getElem_mem hjbl) wr)
       obtain ⟨S, hS⟩ : ∃ S, bl[j]'hjbl = S := ⟨_, rfl⟩
       rw [hS] at K1 hcB
       clear hS Hlaw hjbl Hvb Hr Hb Hrs Hnr Hnb hss c5
       cases hvv : vld (f.size : Int) (toL S) with
       | false =>
        rw [hvv] at K1
        have Hmix2 := hide (ct_more hmix.out q)
        have HPl2 : Hid ((P ++ [q]).length = j + 1) := hide (by rw [List.length_append, hPl.out]; rfl)
        clear hmix hPl hvv hq
        go_wp2_with fail
        refine (K1.out).mono ?_
        rintro x w5 ⟨rfl, rfl⟩
        go_wp2
        refine ⟨⟨j + 1, l, P ++ [q], hlt, by go_num, Hmix2, HPl2, hown, hb⟩, ?_⟩
        simp [intOf] <;> omega
       | true =>
        rw [hvv] at K1
        have Hmix2 := hide (ct_put hmix.out hvv q)
        have HPl2 : Hid ((P ++ [q]).length = j + 1) := hide (by rw [List.length_append, hPl.out]; rfl)
        have hql : q < (svs l).length := by rw [svs_len, hmix.out.len]; exact hqK
        obtain ⟨hcell, hfz⟩ := own_cell hown.out q ((svs l)[q]'hql) (List.getElem?_eq_getElem hql)
        have Hput := hide (fun (w9 : World) (h : w9.ownsRow w.heap.size 9 1 (.slice (some ⟨g, 0, none⟩) K cap) K (svs l)) => (by
         have := Wv.own_put h q hqK (.string S)
         have e : (svs l).set q (.string S) = svs (l.set q S) := by unfold svs; rw [List.map_set]; rfl
         rw [e] at this
         exact this : (w9.setCell ⟨g, q, none⟩ (.string S)).ownsRow w.heap.size 9 1 (.slice (some ⟨g, 0, none⟩) K cap) K (svs (l.set q S))))
        have hglt := hown.out.lt g rfl
        have hqi : (q : Int) < (K : Int) := by omega
        have hqi0 : (0 : Int) ≤ (q : Int) := by omega
        have hqw : IntKind.i64.wrap v = v := by unfold IntKind.wrap; simp [IntKind.signed, IntKind.bits]; omega
        generalize (svs l)[q]'hql = old at *
        clear hmix hPl hvv hql
        go_wp2_with fail
        refine (K1.out).mono ?_
        rintro x w5 ⟨rfl, rfl⟩
        go_wp2
        go_region
        go_wp2
        go_roundw
        case rel => exact ⟨j + 1, l.set q S, P ++ [q], hlt, by go_num, Hmix2, HPl2, by first | exact hide (Hput.out _ hown.out).drew | exact hide (Hput.out _ hown.out), by first | exact hide (hb.out.setCell (p := ⟨g, q, none⟩) hglt.1 _).drew | exact hide (hb.out.setCell (p := ⟨g, q, none⟩) hglt.1 _)⟩
        case measure => simp [intOf] <;> omega
      ·have hjbi : ¬ (j : Int) < (nb : Int) := by omega
       have Hmix2 := hide (ct_more hmix.out q)
       have HPl2 : Hid ((P ++ [q]).length = j + 1) := hide (by rw [List.length_append, hPl.out]; rfl)
       clear hmix hPl Hlaw hq Hvb Hr Hb Hrs Hnr Hnb hss c5
       go_wp2
       refine ⟨⟨j + 1, l, P ++ [q], hlt, by go_num, Hmix2, HPl2, hown, hb⟩, ?_⟩
       simp [intOf] <;> omega
     ·have hin : nr = j := by omega
      subst hin
      have hend2 : ¬ (nr : Int) < (nr : Int) := by omega
      obtain ⟨k1, k2, k3, k4, k5⟩ := Hlaw.out P l hmix.out (by rw [hPl.out]; exact c4)
      rw [hPl.out] at k4
      have hszl : ∀ x ∈ l, x.size ≤ 1099511627776 := fun x hx => by
       have h1 := vld_iff.1 (hmix.out.vl x hx)
       have h2 := (isV_iff.1 h1.1).2.2
       rw [toL_length] at h2
       omega
      have hKl : K = l.length := hmix.out.len.symm
      obtain ⟨A, cap2, hA, hat⟩ := own_at hown.out
      have Hat : Hid (At wr (some ⟨g, 0, none⟩) (svs l)) := hide (by injection hA with hA _ _; rw [hA]; exact hat)
      have He := hide (bencode_any Hat.out hszl K cap hKl (by omega) (f.size : Int))
      have Hstep := hide (fun W (h : At W (some ⟨g, 0, none⟩) (svs l)) => step_any h hszl K cap hKl (by omega))
      have Hin := hide (fun W2 B c1 (h1 : At W2 B (svs l)) (h2 : At W2 (some ⟨g, 0, none⟩) (svs l)) => sv_texts h1 h2 l.length c1 K cap rfl hKl (by omega))
      rw [k2] at Hstep
      obtain ⟨⟨S, e⟩, hS⟩ : ∃ x, encB' (f.size : Int) l = x := ⟨_, rfl⟩
      rw [hS] at k3 k4 k5 He
      unfold ERes at He
      simp only at k3 k4 k5 He
      subst k3
      have D0 := hide (fun W2 => bdecode_any (w := W2) (f.size : Int) (bs S) (by rw [bs_size]; omega) (K : Int))
      rw [toL_bs, k5] at D0
      have hlen : ((bs S).size : Int) ≤ 300 + 300 * (nr : Int) := by rw [bs_size]; omega
      clear k1 k2 k4 k5 hS hszl hA hat hKl Hlaw hmix hPl hown Hvb Hr Hb Hrs Hnr Hnb c5
      generalize bs S = SX at *
      go_wp2_with fail
      refine (He.out).mono ?_
      rintro x w5 ⟨rfl, hb5⟩
      have Hb5 := hide (bel_step hb.out hb5)
      have Hat5 := hide (Hat.out.below hb5)
      clear hb5 hb Hat He
      go_wp2_with fail
      refine (D0.out _).mono ?_
      rintro x w6 hl6
      obtain ⟨B6, c6, rfl, hat6, hb6⟩ := tres_sv hl6
      have Hb6 := hide (bel_step Hb5.out hb6)
      have Hat6 := hide (Hat5.out.below hb6)
      have H7 := hide (Hin.out _ _ c6 hat6 Hat6.out)
      clear hb6 hl6 hat6 D0 Hin Hat5 Hb5
      go_wp2_with fail
      refine (H7.out).mono ?_
      rintro x w7 ⟨rfl, hq7⟩
      have Hb7 := hide (drew_bel Hb6.out hq7)
      have H8 := hide (Hstep.out w7 (by obtain ⟨q, rfl⟩ := hq7; exact Hat6.out.drewN q))
      clear hq7 H7 Hb6 Hat6 Hstep
      go_wp2_with fail
      refine (H8.out).mono ?_
      rintro x w8 ⟨rfl, hb8⟩
      have Hb8 := hide (bel_step Hb7.out hb8)
      clear hb8 H8 Hb7
      go_wp2
      go_returns
      exact ⟨rfl, Hb8.out⟩
end Go.Proofs.YtoeeblldgoccoaaGreat
