/-
  The laws of times: valid times, clocks, exceptions.
-/
import Derived.Test.YtgllednilkfpgaaGreatJ43
set_option linter.unusedVariables false
set_option linter.unusedSimpArgs false
namespace Go.Proofs.YtgllednilkfpgaaGreat
open Go.RowKit Go.Proofs Wv Wv.Vi Wv.Rc Wv.Mo Wv.Ru Wv.Tm
set_option linter.unusedVariables false
def tmL (c : Clk) : List Int := if vclk c = true then timesL c else []
def tmE (c : Clk) : Nat := if vclk c = true then 0 else 1
theorem tmL_len (c : Clk) : (tmL c).length ≤ 4096 := by
  unfold tmL
  split
  · rename_i h
    rw [timesL_length]
    have := (vclk_iff.1 h).1.2.1
    omega
  · simp
theorem ttimes_at (c : Clk) (W : World) : Calls Tryz.prog 12 #[CV c] W fun x w' => ∃ A cap, x = .returned (.tuple #[.slice A (tmL c).length cap, .int .i64 (tmE c : Int)]) ∧ At w' A (ivs (tmL c)) ∧ Below W.heap.size W w' :=
  (ttimes_any c W).mono fun x w' h => by
    unfold TmRes at h
    unfold tmL tmE
    by_cases hv : vclk c = true
    · rw [if_pos hv] at h
      rw [if_pos hv, if_pos hv]
      obtain ⟨g, h1, h2, _, h4⟩ := h
      exact ⟨_, _, by rw [h1, timesL_length]; rfl, ica_at h2, h4⟩
    · rw [if_neg hv] at h
      rw [if_neg hv, if_neg hv]
      exact ⟨none, 0, h.1, At.nil _ _, h.2⟩
theorem ntimes_at (c : Clk) (W : World) : Calls Tryz.prog 13 #[CV c] W fun x w' => ∃ A cap, x = .returned (.tuple #[.slice A (tmL c).length cap, .int .i64 (tmE c : Int)]) ∧ At w' A (ivs (tmL c)) ∧ Below W.heap.size W w' :=
  (ntimes_any c W).mono fun x w' h => by
    obtain ⟨A, cap, e, h1, h2, h3, h4⟩ := h
    have h5 : e = tmE c := h2
    rw [h5] at h1
    exact ⟨A, cap, h1, h3, h4⟩
def exM (c : Clk) (l : List Int) : List Int := match excT c l with
  | some (m, _) => m
  | none => []
def exX (c : Clk) (l : List Int) : List Int := match excT c l with
  | some (_, x) => x
  | none => []
def exE (c : Clk) (l : List Int) : Nat := match excT c l with
  | some _ => 0
  | none => 1
theorem exres_at {w w' : World} {c : Clk} {l : List Int} {x : Ending} (h : ExRes w (excT c l) x w') : ∃ A1 c1 A2 c2, x = .returned (.tuple #[.slice A1 (exM c l).length c1, .slice A2 (exX c l).length c2, .int .i64 (exE c l : Int)]) ∧ At w' A1 (ivs (exM c l)) ∧ At w' A2 (ivs (exX c l)) ∧ Below w.heap.size w w' := by
  unfold exM exX exE
  unfold ExRes at h
  match excT c l, h with
  | none, h => exact ⟨none, 0, none, 0, h.1, At.nil _ _, At.nil _ _, h.2⟩
  | some (m, f), h =>
    obtain ⟨v1, v2, h1, ⟨A1, c1, h2, h3⟩, ⟨A2, c2, h4, h5⟩, h6⟩ := h
    exact ⟨A1, c1, A2, c2, by rw [h1, h2, h4]; rfl, h3, h5, h6⟩
theorem exM_len (c : Clk) (l : List Int) : (exM c l).length ≤ 4096 ∧ (exX c l).length ≤ l.length := by
  unfold exM exX excT
  by_cases h : vclk c = true ∧ validT l = true
  · rw [if_pos h]
    refine ⟨(validT_iff.1 (missL_valid (vclk_iff.1 h.1).1 l)).2.2, ?_⟩
    exact List.length_filter_le _ _
  · rw [if_neg h]
    simp
set_option maxRecDepth 100000 in
set_option maxHeartbeats 4000000 in
theorem ltforms_any {w : World} {A : Option Addr} {l : List Int} (ha : At w A (ivs l)) (_ : ∀ n ∈ l, I64 n) (n cap : Nat) (hn : n = l.length) (hm : n ≤ 9223372036854775807) (a b d m : Int) :
    Calls Tryz.prog 3 #[.slice A n cap, .agg #[.int .i64 a, .int .i64 b, .int .i64 d, .int .i64 m]] w fun x w' => LTrue w x w' := by
  have Haw := hide (tawake_any (w.alloc (.cells #[.int .i64 a, .int .i64 b, .int .i64 d, .int .i64 m] 24)))
  have Ha0 := hide (ha.alloc (.cells #[.int .i64 a, .int .i64 b, .int .i64 d, .int .i64 m] 24))
  have Hk0 := hide (Bk.new w 24 #[.int .i64 a, .int .i64 b, .int .i64 d, .int .i64 m])
  have Hb0 := hide (bel_new w (.cells #[.int .i64 a, .int .i64 b, .int .i64 d, .int .i64 m] 24))
  have k0 := Hk0.out.cell 0
  have k1 := Hk0.out.cell 1
  have k2 := Hk0.out.cell 2
  have k3 := Hk0.out.cell 3
  simp only [List.getElem?_toArray, List.getElem?_cons_zero, List.getElem?_cons_succ] at k0 k1 k2 k3
  by_cases hbig : (60 : Int) < (n : Int)
  · clear ha hn
    go_enter Tryz.func3, Tryz.ntmps3
    go_wp2_with fail
    refine (Haw.out).mono ?_
    rintro x w1 ⟨rfl, hb1⟩
    go_wp2
    go_returns
    exact ⟨rfl, Hb0.out.trans (hb1.mono Hb0.out.size)⟩
  · by_cases hbig2 : (300 : Int) < m ∧ m ≤ 4096
    · obtain ⟨hm1, hm2⟩ := hbig2
      clear ha hn
      go_enter Tryz.func3, Tryz.ntmps3
      go_wp2_with fail
      refine (Haw.out).mono ?_
      rintro x w1 ⟨rfl, hb1⟩
      have hk1 := Bk.below Hk0.out hb1 (by simp)
      clear k0 k1 k2 k3
      have k0 := hk1.cell 0
      have k1 := hk1.cell 1
      have k2 := hk1.cell 2
      have k3 := hk1.cell 3
      simp only [List.getElem?_toArray, List.getElem?_cons_zero, List.getElem?_cons_succ] at k0 k1 k2 k3
      go_wp2
      go_returns
      exact ⟨rfl, Hb0.out.trans (hb1.mono Hb0.out.size)⟩
    · have Hml : Hid (¬ 300 < m ∨ (300 < m ∧ ¬ m ≤ 4096)) := hide (by omega)
      have hcv : CV ⟨a, b, d, m⟩ = .agg #[.int .i64 a, .int .i64 b, .int .i64 d, .int .i64 m] := rfl
      have Htt := hide (fun W => ttimes_at ⟨a, b, d, m⟩ W)
      have Hnt := hide (fun W => ntimes_at ⟨a, b, d, m⟩ W)
      have Hte := hide (fun W (h : At W A (ivs l)) => (texc_any ⟨a, b, d, m⟩ h n cap hn hm).mono fun x w' h => exres_at h)
      have Hne := hide (fun W (h : At W A (ivs l)) => (nexc_any ⟨a, b, d, m⟩ h n cap hn hm).mono fun x w' h => exres_at h)
      have hlt := tmL_len ⟨a, b, d, m⟩
      have hlx := exM_len ⟨a, b, d, m⟩ l
      have Htv := hide (fun W (h : At W A (ivs l)) => tvalid_any h n cap hn hm)
      have Hnv := hide (fun W (h : At W A (ivs l)) => nvalid_any h n cap hn hm)
      have Htd := hide (fun W (h : At W A (ivs l)) => tdetect_any h n cap hn hm)
      have Hnd := hide (fun W (h : At W A (ivs l)) => ndetect_any h n cap hn hm)
      rw [hcv] at Htt Hnt Hte Hne
      generalize tmL ⟨a, b, d, m⟩ = TL at *
      generalize tmE ⟨a, b, d, m⟩ = TE at *
      generalize exM ⟨a, b, d, m⟩ l = EM at *
      generalize exX ⟨a, b, d, m⟩ l = EX at *
      generalize exE ⟨a, b, d, m⟩ l = EE at *
      generalize validT l = VB at *
      obtain ⟨⟨a', b', d', m'⟩, hdt⟩ : ∃ c, detect l = c := ⟨_, rfl⟩
      have hcv' : CV ⟨a', b', d', m'⟩ = .agg #[.int .i64 a', .int .i64 b', .int .i64 d', .int .i64 m'] := rfl
      rw [hdt, hcv'] at Htd Hnd
      have Hin : Hid (∀ (X : List Int), X.length ≤ 9000 → ∀ W B C c1 c2, At W B (ivs X) → At W C (ivs X) → Calls Tryz.prog 20 #[.slice B X.length c1, .slice C X.length c2] W fun x w' => x = .returned (.bool true) ∧ ∃ q, w' = W.drewN q) := hide (fun X hX W B C c1 c2 h1 h2 => ints_same h1 h2 _ c1 _ c2 rfl rfl hX)
      have Hlt := hide hlt
      have Hlx1 := hide (show EM.length ≤ 9000 by omega)
      have Hlx2 := hide (show EX.length ≤ 9000 by omega)
      clear ha hn hcv hdt hcv' hlt hlx hbig2
      go_enter Tryz.func3, Tryz.ntmps3
      go_wp2_with fail
      refine (Haw.out).mono ?_
      rintro x w1 ⟨rfl, hb1⟩
      have hk1 := hide (Bk.below Hk0.out hb1 (by simp))
      have ha1 := hide (Ha0.out.below hb1)
      have hbn1 := hide (Hb0.out.trans (hb1.mono Hb0.out.size))
      clear k0 k1 k2 k3 Hk0 Ha0 Hb0 hb1 Haw
      obtain ⟨C, hC⟩ : ∃ C, w.heap.size = C := ⟨_, rfl⟩
      rw [hC] at hk1 ⊢
      have k0 := hk1.out.cell 0
      have k1 := hk1.out.cell 1
      have k2 := hk1.out.cell 2
      have k3 := hk1.out.cell 3
      simp only [List.getElem?_toArray, List.getElem?_cons_zero, List.getElem?_cons_succ] at k0 k1 k2 k3
      go_upto_region 3 with fail
      go_cut [29] (fun s29 wx => s29 = .bool false ∧ wx = w1)
      case first =>
        clear Htt Hnt Hte Hne Htv Hnv Htd Hnd Hin
        rcases Hml.out with h | ⟨h, h2⟩
        · go_wp2
          go_meet
          case rel => exact ⟨by simp; omega, rfl⟩
        · go_wp2
          go_meet
          case rel => exact ⟨by simp; omega, rfl⟩
      case rest =>
        obtain ⟨rfl, rfl⟩ := hcut
        clear Hml
        go_wp2_with fail
        refine (Htt.out _).mono ?_
        rintro x w2 ⟨A2, c2, rfl, hat2, hb2⟩
        have hk2 := hide (Bk.below hk1.out hb2 hk1.out.lt)
        have ha2 := hide (ha1.out.below hb2)
        have hbn2 := hide (bel_step hbn1.out hb2)
        have hat2' := hide hat2
        clear k0 k1 k2 k3 hk1 ha1 hbn1 hb2 hat2 Htt
        have k0 := hk2.out.cell 0
        have k1 := hk2.out.cell 1
        have k2 := hk2.out.cell 2
        have k3 := hk2.out.cell 3
        simp only [List.getElem?_toArray, List.getElem?_cons_zero, List.getElem?_cons_succ] at k0 k1 k2 k3
        go_wp2_with fail
        refine (Hnt.out _).mono ?_
        rintro x w3 ⟨A3, c3, rfl, hat3, hb3⟩
        have hk3 := hide (Bk.below hk2.out hb3 hk2.out.lt)
        have ha3 := hide (ha2.out.below hb3)
        have hbn3 := hide (bel_step hbn2.out hb3)
        have hat23 := hide (hat2'.out.below hb3)
        have hat3' := hide hat3
        clear k0 k1 k2 k3 hk2 ha2 hbn2 hb3 hat2' hat3 Hnt
        have k0 := hk3.out.cell 0
        have k1 := hk3.out.cell 1
        have k2 := hk3.out.cell 2
        have k3 := hk3.out.cell 3
        simp only [List.getElem?_toArray, List.getElem?_cons_zero, List.getElem?_cons_succ] at k0 k1 k2 k3
        go_wp2_with fail
        refine (Hte.out _ ha3.out).mono ?_
        rintro x w4 ⟨A4, c4, A5, c5, rfl, hat4, hat5, hb4⟩
        have hk4 := hide (Bk.below hk3.out hb4 hk3.out.lt)
        have ha4 := hide (ha3.out.below hb4)
        have hbn4 := hide (bel_step hbn3.out hb4)
        have hat24 := hide (hat23.out.below hb4)
        have hat34 := hide (hat3'.out.below hb4)
        have hat4' := hide hat4
        have hat5' := hide hat5
        clear k0 k1 k2 k3 hk3 ha3 hbn3 hb4 hat23 hat3' hat4 hat5 Hte
        have k0 := hk4.out.cell 0
        have k1 := hk4.out.cell 1
        have k2 := hk4.out.cell 2
        have k3 := hk4.out.cell 3
        simp only [List.getElem?_toArray, List.getElem?_cons_zero, List.getElem?_cons_succ] at k0 k1 k2 k3
        go_wp2_with fail
        refine (Hne.out _ ha4.out).mono ?_
        rintro x w5 ⟨A6, c6, A7, c7, rfl, hat6, hat7, hb5⟩
        have ha5 := hide (ha4.out.below hb5)
        have hbn5 := hide (bel_step hbn4.out hb5)
        have hat25 := hide (hat24.out.below hb5)
        have hat35 := hide (hat34.out.below hb5)
        have hat45 := hide (hat4'.out.below hb5)
        have hat55 := hide (hat5'.out.below hb5)
        have hat6' := hide hat6
        have hat7' := hide hat7
        clear k0 k1 k2 k3 hk4 ha4 hbn4 hb5 hat24 hat34 hat4' hat5' hat6 hat7 Hne
        have H6 := hide (Htv.out _ ha5.out)
        clear Htv
        go_wp2_with fail
        refine (H6.out).mono ?_
        rintro x w6 ⟨rfl, rfl⟩
        have H7 := hide (Hnv.out _ ha5.out)
        clear H6 Hnv
        go_wp2_with fail
        refine (H7.out).mono ?_
        rintro x w7 ⟨rfl, q7, rfl⟩
        have hb7 : Below w5.heap.size w5 (w5.drewN q7) := bdN (Below.refl _ _) q7
        generalize w5.drewN q7 = w7 at *
        have H8 := hide (Htd.out _ (ha5.out.below hb7))
        have hbn7 := hide (bel_step hbn5.out hb7)
        clear H7 Htd
        go_wp2_with fail
        refine (H8.out).mono ?_
        rintro x w8 ⟨rfl, hb8⟩
        have hb58 := bel_step hb7 hb8
        have H9 := hide (Hnd.out _ (ha5.out.below hb58))
        have hbn8 := hide (bel_step hbn7.out hb8)
        clear H8 Hnd hbn7 hb8 hb7
        go_wp2_with fail
        refine (H9.out).mono ?_
        rintro x w9 ⟨rfl, hb9⟩
        have hb59 := bel_step hb58 hb9
        have hbn9 := hide (bel_step hbn8.out hb9)
        have Ha1 := hide (hat25.out.below hb59)
        have Ha2 := hide (hat35.out.below hb59)
        have Ha3 := hide (hat45.out.below hb59)
        have Ha4 := hide (hat6'.out.below hb59)
        have Ha5 := hide (hat55.out.below hb59)
        have Ha6 := hide (hat7'.out.below hb59)
        clear H9 hbn8 hb58 hb9 hb59 hbn5 ha5 hat25 hat35 hat45 hat55 hat6' hat7'
        have H10 := hide (Hin.out TL (by have := Hlt.out; omega) _ _ _ c2 c3 Ha1.out Ha2.out)
        go_wp2_with fail
        refine (H10.out).mono ?_
        rintro x w10 ⟨rfl, q10, rfl⟩
        have hb10 : Below w9.heap.size w9 (w9.drewN q10) := bdN (Below.refl _ _) q10
        generalize w9.drewN q10 = w10 at *
        have H11 := hide (Hin.out EM Hlx1.out _ _ _ c4 c6 (Ha3.out.below hb10) (Ha4.out.below hb10))
        have hbn10 := hide (bel_step hbn9.out hb10)
        clear H10 hbn9
        go_wp2_with fail
        refine (H11.out).mono ?_
        rintro x w11 ⟨rfl, q11, rfl⟩
        have hb11 : Below w10.heap.size w10 (w10.drewN q11) := bdN (Below.refl _ _) q11
        generalize w10.drewN q11 = w11 at *
        have hb911 := bel_step hb10 hb11
        have H12 := hide (Hin.out EX Hlx2.out _ _ _ c5 c7 (Ha5.out.below hb911) (Ha6.out.below hb911))
        have hbn11 := hide (bel_step hbn10.out hb11)
        clear H11 hbn10 hb11 hb10 hb911
        go_wp2_with fail
        refine (H12.out).mono ?_
        rintro x w12 ⟨rfl, hq12⟩
        have hbn12 := drew_bel hbn11.out hq12
        clear H12 hbn11 hq12
        go_wp2
        go_returns
        exact ⟨rfl, hbn12⟩
end Go.Proofs.YtgllednilkfpgaaGreat
