/-
  The walks over the compression: pieces are read.
-/
import Derived.Test.YtjfcemlbbinanaaGreatDoorJ32
set_option linter.unusedVariables false
set_option linter.unusedSimpArgs false
namespace Go.Proofs.YtjfcemlbbinanaaGreatDoor
open Go.RowKit Go.Proofs Wv Wv.Vi Wv.Rc Wv.Mo Wv.Lz
set_option linter.unusedVariables false
def optB (o : Option (List UInt8)) : Value := match o with
 | some t => .tuple #[.string (bs t), .bool true]
 | none => .tuple #[.string (bs []), .bool false]
def slen (v : Value) : Nat := match v with
 | .slice _ n _ => n
 | _ => 0
theorem rdP_end {f n : Nat} {o : List UInt8} {m : Ms} {d : De} (h : ¬ o.length < n) : rdP f n o m d = some o := by
 cases f with
 | zero => rfl
 | succ f => rw [rdP, if_neg h]
theorem u8inf2 : (Tryz.prog.info? 5).map (fun i => (i.zero, i.size, i.bytes)) = some (some (.int .u8 0), 1, 1) := by kernel_rfl
set_option maxRecDepth 100000 in
set_option maxHeartbeats 4000000 in
theorem lzread_any (data : List UInt8) (n : Nat) (hn : n ≤ 4096) (w : World) :
  Calls Tryz.prog 105 #[.string (bs data), .int .i64 (n : Int)] w fun x w' => x = .returned (optB (lzR data n)) ∧ Below w.heap.size w w' := by
 have Hs := hide (fun W => newset_any W)
 unfold setC at Hs
 have He := hide (fun W => dnew_any data W)
 have hR0 : Hid (rdP n n [] m0 (d0 data) = lzR data n) := hide rfl
 have hv0 := d0_v data
 obtain ⟨R, hR⟩ : ∃ R, lzR data n = R := ⟨_, rfl⟩
 rw [hR] at hR0 ⊢
 generalize d0 data = D0 at *
 generalize bs data = S at *
 clear hR
 go_enter Tryz.func105, Tryz.ntmps105
 go_wp2_with fail
 refine (Hs.out _).mono ?_
 rintro x w1 ⟨p, rfl, hm1, hp1, hb1⟩
 go_wp2_with fail
 refine (He.out _).mono ?_
 rintro x w2 ⟨rfl, hd2, hb2⟩
 have s1 := hb1.size
 have s2 := hb2.size
 have hW5 : RdA (w2.alloc (.cells (setC p) 97)) p w2.heap.size w1.heap.size m0 D0 :=
  ⟨(hm1.below hb2).below ((Below.refl w2.heap.size w2).alloc (Nat.le_refl _) _), hd2.below ((Below.refl w2.heap.size w2).alloc (Nat.le_refl _) _), Bk.new _ _ _⟩
 have hb5 := (hb1.trans (hb2.mono s1)).alloc (by omega) (.cells (setC p) 97)
 have HW5 := hide hW5
 have Hb5 := hide hb5
 have HP := hide hp1
 have heb : w.heap.size ≤ w1.heap.size := by omega
 have hrow0 : Hid ((w2.alloc (.cells (setC p) 97)).ownsRow w.heap.size 5 1 (.slice none 0 0) ([] : List UInt8).length (([] : List UInt8).map bv)) := hide own_nil
 have hcell := hW5.cells
 unfold setC at HW5 Hb5 hrow0 hcell
 clear hW5 hb5 hm1 hp1 hb1 hd2 hb2 s1 s2 Hs He
 go_wp2
 generalize (w2.alloc (.cells #[.pointer (some ⟨p.kb, 0, none⟩), .pointer (some ⟨p.bb, 0, none⟩), .pointer (some ⟨p.lb, 0, none⟩), .pointer (some ⟨p.db, 0, none⟩)] 97)) = W5 at *
 generalize w2.heap.size = mb at *
 generalize w1.heap.size = eb at *
 clear hcell
 go_loopw [8] (fun s8 wx => ∃ (f : Nat) (o : List UInt8) (m : Ms) (d : De) (ov : Value), s8 = ov ∧ Hid (RdA wx p mb eb m d) ∧ Hid (MOk m ∧ DV 0 d) ∧ Hid (rdP f n o m d = R) ∧ Hid (n ≤ o.length + f) ∧ Hid (o.length ≤ n) ∧ Hid (wx.ownsRow w.heap.size 5 1 ov o.length (o.map bv)) ∧ Hid (Below w.heap.size w wx)) (fun s8 _ => n - slen s8)
 case atStart => exact ⟨n, [], m0, D0, _, rfl, HW5, hide ⟨m0_ok, hv0⟩, hR0, hide (by simp), hide (Nat.zero_le _), hrow0, Hb5⟩
 case round =>
  clear HW5 Hb5 hrow0 hR0 hv0
  obtain ⟨f, o, m, d, ov, rfl, hW, hMV, hre, hnf, hon, hrow, hb⟩ := hrel
  obtain ⟨A, cap, rfl, _⟩ := own_at hrow.out
  obtain ⟨ol, hol⟩ : ∃ x, o.length = x := ⟨_, rfl⟩
  by_cases hlt : o.length < n
  ·obtain ⟨f1, rfl⟩ : ∃ g, f = g + 1 := ⟨f - 1, by have := hnf.out; omega⟩
   have hre2 := hre.out
   rw [rdP, if_pos hlt] at hre2
   obtain ⟨kv1, kv2⟩ := kdec_ok hMV.out.1 hMV.out.2
   have Hk := hide (rkind_any hW.out hMV.out.1 hMV.out.2)
   obtain ⟨c0, c1, c2, c3⟩ := hW.out.cells
   have hltI : (ol : Int) < (n : Int) := by omega
   have Hol := hide hol
   have hrow2 := hrow.out
   rw [hol] at hrow2 ⊢
   have HW0 := hW
   obtain ⟨kk, hkk⟩ : ∃ x, (kdec m d).1 = x := ⟨_, rfl⟩
   rw [hkk] at hre2 Hk
   generalize (kdec m d).2.1 = m1 at *
   generalize (kdec m d).2.2 = d1 at *
   clear hkk hW hre hlt hol
   by_cases hz : kk = 0
   ·subst hz
    rw [if_pos rfl] at hre2
    have z0 : ((0 : Nat) : Int) = 0 := rfl
    rw [z0] at Hk
    obtain ⟨bv1, bv2⟩ := bdec_ok kv1 kv2
    have Hbd := hide (fun (W : World) (h : RdA W p mb eb m1 d1) => rbyte_any h kv1 kv2)
    obtain ⟨c, hc⟩ : ∃ x, (bdec m1 d1).1 = x := ⟨_, rfl⟩
    rw [hc] at hre2 Hbd
    generalize (bdec m1 d1).2.1 = m2 at *
    generalize (bdec m1 d1).2.2 = d2 at *
    have Hre := hide hre2
    have Hrow := hide hrow2
    have Hv2 := hide (And.intro bv1 bv2)
    clear hc hre2 hrow2 hrow kv1 kv2 bv1 bv2 c2 c3 hMV
    go_wp2_with fail
    refine (Hk.out).mono ?_
    rintro x w3 ⟨rfl, hW3, hf3⟩
    have hrow3 := HW0.out.row hf3 Hrow.out
    have hb3 := rnew HP.out heb hb.out hb.out.size hf3
    obtain ⟨e0, e1, e2, e3⟩ := hW3.cells
    clear c0 c1 e2 e3 hf3 Hk hb Hrow HW0
    go_wp2_with fail
    refine (Hbd.out _ hW3).mono ?_
    rintro x w4 ⟨rfl, hW4, hf4⟩
    have hrow4 := hW3.row hf4 hrow3
    have hb4 := rnew HP.out heb hb3 hb3.size hf4
    obtain ⟨v', w5, hr, hrow5, hb5, hkeep⟩ := app_own (P := Tryz.prog) 74 5 _ _ Tryz.underlying74 u8inf2 rfl hrow4 hb4 hb4.size (.int .u8 (c.toNat : Int)) rfl (by unfold maxLen; have := hon.out; have := Hol.out; omega) (by have := hon.out; have := Hol.out; omega)
    rw [bv_snoc] at hrow5
    have hl1 : ol + 1 = (o ++ [c]).length := by rw [List.length_append, List.length_singleton, Hol.out]
    rw [hl1] at hrow5
    have HW5 := hide (hW4.keep hkeep)
    have Hrow5 := hide hrow5
    have Hb5 := hide hb5
    have Hrun := hide hr
    have Hnf : Hid (n ≤ (o ++ [c]).length + f1) := hide (by rw [← hl1]; have := hnf.out; have := Hol.out; omega)
    have Hon : Hid ((o ++ [c]).length ≤ n) := hide (by rw [← hl1]; omega)
    have Hme : Hid (n - slen v' < n - ol) := hide (by
     obtain ⟨A', cap', e, _⟩ := own_at hrow5
     rw [e]
     show n - (o ++ [c]).length < _
     rw [← hl1]
     omega)
    obtain ⟨A5, M5, cap5, rfl⟩ := own_slice hrow5
    generalize (c.toNat : Int) = C at *
    clear e0 e1 hf4 hW3 hrow3 hb3 hW4 hrow4 hb4 hr hrow5 hb5 hkeep hl1 hnf hon Hbd
    go_wp2_with (at_builtin; refine wpList_run (by with_reducible rfl) rfl _ _ _ rfl _ _ (by rfl) (by rfl) Hrun.out ?_)
    refine ⟨⟨f1, _, m2, d2, _, rfl, HW5, Hv2, Hre, Hnf, Hon, Hrow5, Hb5⟩, ?_⟩
    exact Hme.out
   ·rw [if_neg hz] at hre2
    have hz0 : ((kk : Int) == 0) = false := by rw [beq_eq_false_iff_ne]; omega
    obtain ⟨lv1, lv2⟩ := ldec_ok kv1 kv2
    have Hle := hide (fun (W : World) (h : RdA W p mb eb m1 d1) => rlen_any h kv1 kv2)
    obtain ⟨L, hL⟩ : ∃ x, (ldec m1 d1).1 = x := ⟨_, rfl⟩
    rw [hL] at hre2 Hle
    generalize (ldec m1 d1).2.1 = m2 at *
    generalize (ldec m1 d1).2.2 = d2 at *
    obtain ⟨dv1, dv2⟩ := ddec_ok lv1 lv2
    have Hdi := hide (fun (W : World) (h : RdA W p mb eb m2 d2) => rdist_any h lv1 lv2)
    obtain ⟨D, hD⟩ : ∃ x, (ddec m2 d2).1 = x := ⟨_, rfl⟩
    rw [hD] at hre2 Hdi
    generalize (ddec m2 d2).2.1 = m3 at *
    generalize (ddec m2 d2).2.2 = d3 at *
    have Hre := hide hre2
    have Hrow := hide hrow2
    have Hv3 := hide (And.intro dv1 dv2)
    clear hL hD hre2 hrow2 hrow kv1 kv2 lv1 lv2 dv1 dv2 hMV hz
    go_wp2_with fail
    refine (Hk.out).mono ?_
    rintro x w3 ⟨rfl, hW3, hf3⟩
    have hrow3 := HW0.out.row hf3 Hrow.out
    have hb3 := rnew HP.out heb hb.out hb.out.size hf3
    obtain ⟨e0, e1, e2, e3⟩ := hW3.cells
    have Hrow3 := hide hrow3
    have Hb3 := hide hb3
    have HW3 := hide hW3
    clear c0 c1 c2 c3 hf3 Hk hb Hrow HW0 hrow3 hb3 e0 e1 hW3
    go_wp2
    go_cut [9, 10] (fun s9 s10 wx => s9 = .int .i64 L ∧ s10 = .int .i64 D ∧ Hid (RdA wx p mb eb m3 d3) ∧ Hid (Fr (rfoot p eb) w3 wx))
    case first =>
     have H1 : w3.drew.cell? ⟨mb, 2, none⟩ = some (.pointer (some ⟨p.lb, 0, none⟩)) ∧ w3.drew.cell? ⟨mb, 3, none⟩ = some (.pointer (some ⟨p.db, 0, none⟩)) := ⟨e2, e3⟩
     have hW3d : RdA w3.drew p mb eb m1 d1 := HW3.out.drew
     clear Hre Hv3 Hrow3 Hb3 HW3 HP hnf hon
     go_region_held3 (fun W => W.cell? ⟨mb, 2, none⟩ = some (.pointer (some ⟨p.lb, 0, none⟩)) ∧ W.cell? ⟨mb, 3, none⟩ = some (.pointer (some ⟨p.db, 0, none⟩))) (first | with_reducible assumption | with_reducible exact H1)
      (first
       | (go_at_call 133; with_reducible refine (Hle.out _ (by with_reducible assumption)).mono ?_; rintro r wa ⟨rfl, hWa, hfa⟩; have HSa : wa.cell? ⟨mb, 2, none⟩ = some (.pointer (some ⟨p.lb, 0, none⟩)) ∧ wa.cell? ⟨mb, 3, none⟩ = some (.pointer (some ⟨p.db, 0, none⟩)) := ⟨hWa.cells.2.2.1, hWa.cells.2.2.2⟩)
       | (go_at_call 133; with_reducible refine (Hdi.out _ (by with_reducible assumption)).mono ?_; rintro r wb ⟨rfl, hWb, hfb⟩; have HSb : wb.cell? ⟨mb, 2, none⟩ = some (.pointer (some ⟨p.lb, 0, none⟩)) ∧ wb.cell? ⟨mb, 3, none⟩ = some (.pointer (some ⟨p.db, 0, none⟩)) := ⟨hWb.cells.2.2.1, hWb.cells.2.2.2⟩))
     all_goals
      go_wp2
      go_meet
      case rel => exact ⟨rfl, rfl, hide hWb, hide (((Fr.refl (rfoot p eb) w3).drew.trans hfa).trans hfb)⟩
    case rest =>
     obtain ⟨rfl, rfl, hWc, hfc⟩ := hcut
     have hrowc := HW3.out.row hfc.out Hrow3.out
     have hbc := rnew HP.out heb Hb3.out Hb3.out.size hfc.out
     have Hrowc := hide hrowc
     have Hbc := hide hbc
     clear hrowc hbc hfc Hrow3 Hb3 HW3 Hle Hdi e2 e3
     cases hbad : badL n o L D with
     | true =>
      have hRn : R = none := by
       have := Hre.out
       rw [hbad, if_pos rfl] at this
       exact this.symm
      subst hRn
      have hcs : L < 0 ∨ (¬ L < 0 ∧ (271 < L ∨ (¬ 271 < L ∧ ((n : Int) - (ol : Int) < L + 2 ∨ (¬ (n : Int) - (ol : Int) < L + 2 ∧ (D < 0 ∨ (¬ D < 0 ∧ (ol : Int) ≤ D))))))) := by
       unfold badL at hbad
       rw [Hol.out] at hbad
       simp only [Bool.or_eq_true, decide_eq_true_iff] at hbad
       omega
      have hon4 : ol ≤ 4096 := by have := hon.out; have := Hol.out; omega
      clear hbad Hre Hv3 hnf hon Hrowc hWc
      have he : bs ([] : List UInt8) = ⟨#[]⟩ := rfl
      rcases hcs with h1 | ⟨h1, h2 | ⟨h2, h3 | ⟨h3, h4 | ⟨h4, h5⟩⟩⟩⟩
      all_goals
       go_wp2
       go_returns
       exact ⟨rfl, Hbc.out⟩
     | false =>
      have hcs : 0 ≤ L ∧ L ≤ 271 ∧ L + 2 ≤ (n : Int) - (ol : Int) ∧ 0 ≤ D ∧ D < (ol : Int) := by
       unfold badL at hbad
       rw [Hol.out] at hbad
       simp only [Bool.or_eq_false_iff, decide_eq_false_iff_not] at hbad
       omega
      have hre3 := Hre.out
      rw [hbad, if_neg (by decide)] at hre3
      obtain ⟨a, rfl⟩ : ∃ a : Nat, L = a := ⟨L.toNat, by omega⟩
      obtain ⟨b, rfl⟩ : ∃ a : Nat, D = a := ⟨D.toNat, by omega⟩
      rw [Int.toNat_natCast, Int.toNat_natCast] at hre3
      obtain ⟨h1, h2, h3, h4, h5⟩ := hcs
      have h1' : ¬ (a : Int) < 0 := by omega
      have h2' : ¬ (271 : Int) < (a : Int) := by omega
      have h3' : ¬ (n : Int) - (ol : Int) < (a : Int) + 2 := by omega
      have h4' : ¬ (b : Int) < 0 := by omega
      have h5' : ¬ (ol : Int) ≤ (b : Int) := by omega
      have hoa : ol + a + 2 ≤ n := by omega
      have hbo : b < ol := by omega
      have ha2 : ((a + 2 : Nat) : Int) = (a : Int) + 2 := by omega
      obtain ⟨N2, hN2⟩ : ∃ x, a + 2 = x := ⟨_, rfl⟩
      have hN2i : (a : Int) + 2 = (N2 : Int) := by omega
      rw [hN2] at hre3
      have Hre3 := hide hre3
      have hstart : Hid (copyN (b + 1) (N2 - 0) o = copyN (b + 1) N2 o) := hide (by rw [Nat.sub_zero])
      have hon4 : ol ≤ 4096 := by have := hon.out; have := Hol.out; omega
      have hN2n : N2 ≤ 4096 := by omega
      have hnfN : n ≤ ol + f1 + 1 := by have := hnf.out; have := Hol.out; omega
      have hoN : ol + N2 ≤ n := by omega
      clear hbad Hre hre3 h1 h2 h3 h4 h5 ha2 hnf hon
      go_wp2
      clear h1' h2' h3' h4' h5'
      go_loopw [8, 65] (fun s8 s65 wy => ∃ (j : Nat) (o' : List UInt8) (ov : Value), j ≤ N2 ∧ s65 = .int .i64 (j : Int) ∧ s8 = ov ∧ Hid (o'.length = ol + j) ∧ Hid (copyN (b + 1) (N2 - j) o' = copyN (b + 1) N2 o) ∧ Hid (wy.ownsRow w.heap.size 5 1 ov o'.length (o'.map bv)) ∧ Hid (RdA wy p mb eb m3 d3) ∧ Hid (Below w.heap.size w wy)) (fun _ s65 _ => (N2 - intOf s65).toNat)
      case atStart => exact ⟨0, o, _, Nat.zero_le _, rfl, rfl, hide (by rw [Nat.add_zero]; exact Hol.out), hstart, hide (by rw [Hol.out]; exact Hrowc.out), hWc, Hbc⟩
      case round =>
       clear hstart Hrowc hWc Hbc
       obtain ⟨j, o', ov, hj, rfl, rfl, hlo, hcp, hrow, hW, hb⟩ := hrel
       obtain ⟨lj, hlj⟩ : ∃ x, o'.length = x := ⟨_, rfl⟩
       have hljs : lj = ol + j := by rw [← hlj]; exact hlo.out
       obtain ⟨g, cap', rfl, hcap⟩ := own_form hrow.out (by rw [hlj]; omega)
       have hrow2 := hrow.out
       rw [hlj] at hrow2 ⊢
       by_cases hjl : j < N2
       ·obtain ⟨r, hr⟩ : ∃ r, N2 - j = r + 1 := ⟨N2 - j - 1, by omega⟩
        have hcp2 := hcp.out
        rw [hr, copyN_step, hlj] at hcp2
        obtain ⟨ix, hix⟩ : ∃ x, lj - (b + 1) = x := ⟨_, rfl⟩
        rw [hix] at hcp2
        obtain ⟨c, hc⟩ : ∃ x, o'.getD ix 0 = x := ⟨_, rfl⟩
        rw [hc] at hcp2
        have hixl : ix < lj := by omega
        have hgc : (o'.map bv)[ix]? = some (.int .u8 (c.toNat : Int)) := by
         rw [List.getElem?_map, List.getElem?_eq_getElem (by rw [hlj]; exact hixl), ← hc]
         simp [List.getD, bv, hlj, hixl]
        obtain ⟨cc, _⟩ := own_cell hrow2 ix _ hgc
        have hixi : (lj : Int) - (b : Int) - 1 = (ix : Int) := by omega
        have hixI : (ix : Int) < (lj : Int) := by omega
        have hix0 : (0 : Int) ≤ (ix : Int) := by omega
        have hjlI : (j : Int) < (N2 : Int) := by omega
        have hlj4 : lj ≤ 10000 := by omega
        obtain ⟨v', w5, hru, hrow5, hb5, hkeep⟩ := app_own (P := Tryz.prog) 74 5 _ _ Tryz.underlying74 u8inf2 rfl hrow2 hb.out hb.out.size (.int .u8 (c.toNat : Int)) rfl (by unfold maxLen; omega) (by omega)
        rw [bv_snoc] at hrow5
        have hl1 : lj + 1 = (o' ++ [c]).length := by rw [List.length_append, List.length_singleton, hlj]
        rw [hl1] at hrow5
        have HW5 := hide (hW.out.keep hkeep)
        have Hrow5 := hide hrow5
        have Hb5 := hide hb5
        have Hrun := hide hru
        have Hlo5 : Hid ((o' ++ [c]).length = ol + (j + 1)) := hide (by rw [← hl1]; omega)
        have Hcp5 : Hid (copyN (b + 1) (N2 - (j + 1)) (o' ++ [c]) = copyN (b + 1) N2 o) := hide (by rw [show N2 - (j + 1) = r by omega]; exact hcp2)
        obtain ⟨A5, M5, cap5, rfl⟩ := own_slice hrow5
        generalize (c.toNat : Int) = C at *
        clear hlo hcp hrow hW hb hrow2 hr hcp2 hix hc hgc hru hrow5 hb5 hkeep hl1 hlj hljs hcap
        go_wp2_with (at_builtin; refine wpList_run (by with_reducible rfl) rfl _ _ _ rfl _ _ (by rfl) (by rfl) Hrun.out ?_)
        refine ⟨⟨j + 1, _, _, hjl, by go_num, rfl, Hlo5, Hcp5, Hrow5, HW5, Hb5⟩, ?_⟩
        simp [intOf] <;> omega
       ·have hjn : j = N2 := by omega
        subst hjn
        have hcp2 := hcp.out
        rw [Nat.sub_self] at hcp2
        have hcp3 : o' = copyN (b + 1) j o := hcp2
        have hjlI : ¬ (j : Int) < (j : Int) := by omega
        have HreF : Hid (rdP f1 n o' m3 d3 = R) := hide (by rw [hcp3]; exact Hre3.out)
        have Hnf2 : Hid (n ≤ o'.length + f1) := hide (by rw [hlj]; omega)
        have Hon2 : Hid (o'.length ≤ n) := hide (by rw [hlj]; omega)
        have Hme : Hid (n - lj < n - ol) := hide (by omega)
        have HrowF : Hid (wr.ownsRow w.heap.size 5 1 (.slice (some ⟨g, 0, none⟩) lj cap') o'.length (o'.map bv)) := hide (by rw [hlj]; exact hrow2)
        clear hlo hcp hcp2 hcp3 hlj hljs hcap hrow2
        go_wp2
        refine ⟨⟨f1, o', m3, d3, _, rfl, hW, Hv3, HreF, Hnf2, Hon2, HrowF, hb⟩, ?_⟩
        exact Hme.out
  ·have hoe : o.length = n := by have := hon.out; omega
   have hRs : R = some o := by rw [← hre.out]; exact rdP_end hlt
   subst hRs
   have hltI : ¬ (ol : Int) < (n : Int) := by omega
   have hcv := conv_row (P := Tryz.prog) 74 9 5 Tryz.underlying74 Tryz.underlying5 Tryz.underlying9 hrow.out
   rw [hol] at hcv ⊢
   have hopt : optB (some o) = .tuple #[.string (bs o), .bool true] := rfl
   have Hopt := hide hopt
   generalize bs o = OS at *
   clear hW hMV hre hnf hon hrow hopt hoe hlt
   go_wp2
   go_returns
   rw [Hopt.out]
   exact ⟨rfl, hb.out⟩
end Go.Proofs.YtjfcemlbbinanaaGreatDoor
