/-
  The laws of times: clocks with some times taken out and others put in.
-/
import Derived.Test.YtgllednilkfpgaaGreatJ47
set_option linter.unusedVariables false
set_option linter.unusedSimpArgs false
namespace Go.Proofs.YtgllednilkfpgaaGreat
open Go.RowKit Go.Proofs Wv Wv.Vi Wv.Rc Wv.Mo Wv.Ru Wv.Tm
set_option linter.unusedVariables false
/-- Short numbers in memory. -/
def hvs (l : List Int) : List Value := l.map (fun n => .int .u16 n)
theorem hvs_at (l : List Int) (i : Nat) (h : i < l.length) : (hvs l)[i]? = some (.int .u16 l[i]) := by simp [hvs, h]
theorem own_bk {w : World} {g base : Nat} {l : List Int} (h : Bk w g 3 (ica l)) (hb : base ≤ g) (hl : l.length ≤ 4096) : w.ownsRow base 3 1 (.slice (some ⟨g, 0, none⟩) l.length l.length) l.length (ivs l) := by
  refine ⟨by rw [ivs_len, Nat.mul_one], .inr ⟨g, l.length, ica l, rfl, hb, h, Nat.le_refl _, by unfold maxLen; omega, by rw [ica_len, Nat.mul_one], ?_⟩⟩
  rw [Nat.mul_one]
  show (ivs l).toArray.toList.take l.length = ivs l
  rw [List.toList_toArray]
  exact List.take_of_length_le (by rw [ivs_len]; exact Nat.le_refl _)
/-- The index that a number names. -/
def wix (m v : Int) : Nat := (3 + v % (m - 3)).toNat
theorem wix_in {m v : Int} (hm : 5 ≤ m) : 3 ≤ wix m v ∧ (wix m v : Int) < m := by
  have h1 := Int.emod_nonneg v (show m - 3 ≠ 0 by omega)
  have h2 := Int.emod_lt_of_pos v (show 0 < m - 3 by omega)
  unfold wix
  omega
def wixs (m : Int) (l : List Int) : List Nat := l.map (wix m)
def inAll (c : Clk) : List Int → List Int → List Int
  | l, [] => l
  | l, t :: r => inAll c (inF c l t) r
/-- The walk's state. -/
structure CkSt (Wt wr : World) (A9 : Option Addr) (c : Clk) (s7 : Value) (l : List Int) : Prop where
  own : wr.ownsRow Wt.heap.size 3 1 s7 l.length (ivs l)
  fst : At wr A9 (ivs [atC c 0, atC c 1, atC c 2])
  ap : ∀ b o, A9 = some ⟨b, o, none⟩ → s7.ownBlock ≠ some b
  bel : Below Wt.heap.size Wt wr
set_option maxRecDepth 100000 in
set_option maxHeartbeats 4000000 in
theorem ltclocks_any {w : World} (a b d m : Int) {Aw : Option Addr} {ws : List Int} (hw : At w Aw (hvs ws)) (hws : ∀ v ∈ ws, 0 ≤ v ∧ v < 65536) (nw cw : Nat) (hnw : nw = ws.length) (hmw : nw ≤ 9223372036854775807) {Af : Option Addr} {fs : List Int} (hf : At w Af (ivs fs)) (_ : ∀ n ∈ fs, I64 n) (nf cf : Nat) (hnf : nf = fs.length) (hmf : nf ≤ 9223372036854775807) :
    Calls Tryz.prog 10 #[.agg #[.int .i64 a, .int .i64 b, .int .i64 d, .int .i64 m], .slice Aw nw cw, .slice Af nf cf] w fun x w' => LTrue w x w' := by
  have Haw := hide (tawake_any (w.alloc (.cells #[.int .i64 a, .int .i64 b, .int .i64 d, .int .i64 m] 24)))
  have Hw0 := hide (hw.alloc (.cells #[.int .i64 a, .int .i64 b, .int .i64 d, .int .i64 m] 24))
  have Hf0 := hide (hf.alloc (.cells #[.int .i64 a, .int .i64 b, .int .i64 d, .int .i64 m] 24))
  have Hk0 := hide (Bk.new w 24 #[.int .i64 a, .int .i64 b, .int .i64 d, .int .i64 m])
  have Hb0 := hide (bel_new w (.cells #[.int .i64 a, .int .i64 b, .int .i64 d, .int .i64 m] 24))
  by_cases hbig : (10 : Int) < (nw : Int)
  · clear hw hf hws hnw hnf
    go_enter Tryz.func10, Tryz.ntmps10
    go_wp2_with fail
    refine (Haw.out).mono ?_
    rintro x w1 ⟨rfl, hb1⟩
    go_wp2
    go_returns
    exact ⟨rfl, Hb0.out.trans (hb1.mono Hb0.out.size)⟩
  · by_cases hbig2 : (nw : Int) < (nf : Int)
    · clear hw hf hws hnw hnf
      go_enter Tryz.func10, Tryz.ntmps10
      go_wp2_with fail
      refine (Haw.out).mono ?_
      rintro x w1 ⟨rfl, hb1⟩
      go_wp2
      go_returns
      exact ⟨rfl, Hb0.out.trans (hb1.mono Hb0.out.size)⟩
    · have hcv : CV ⟨a, b, d, m⟩ = .agg #[.int .i64 a, .int .i64 b, .int .i64 d, .int .i64 m] := rfl
      have Hnc := hide (fun W => nclk_any ⟨a, b, d, m⟩ W)
      have Htt := hide (fun W => ttimes_any ⟨a, b, d, m⟩ W)
      rw [hcv] at Hnc Htt
      have hguard : vclk ⟨a, b, d, m⟩ = false ∨ (vclk ⟨a, b, d, m⟩ = true ∧ ((2000 : Int) < m ∨ (¬ (2000 : Int) < m ∧ m < 5))) ∨ (vclk ⟨a, b, d, m⟩ = true ∧ ¬ (2000 : Int) < m ∧ ¬ m < 5) := by
        cases vclk ⟨a, b, d, m⟩
        · exact .inl rfl
        · by_cases h1 : (2000 : Int) < m
          · exact .inr (.inl ⟨rfl, .inl h1⟩)
          · by_cases h2 : m < 5
            · exact .inr (.inl ⟨rfl, .inr ⟨h1, h2⟩⟩)
            · exact .inr (.inr ⟨rfl, h1, h2⟩)
      rcases hguard with hc | ⟨hc, hm⟩ | ⟨hc, hm2, hm5⟩
      · rw [hc] at Hnc
        clear hw hf hws hnw hnf hcv hc Htt
        go_enter Tryz.func10, Tryz.ntmps10
        go_wp2_with fail
        refine (Haw.out).mono ?_
        rintro x w1 ⟨rfl, hb1⟩
        have hk1 := hide (Bk.below Hk0.out hb1 (by simp))
        have hbn1 := hide (Hb0.out.trans (hb1.mono Hb0.out.size))
        have k0 := hk1.out.cell 0
        have k1 := hk1.out.cell 1
        have k2 := hk1.out.cell 2
        have k3 := hk1.out.cell 3
        simp only [List.getElem?_toArray, List.getElem?_cons_zero, List.getElem?_cons_succ] at k0 k1 k2 k3
        clear hb1
        go_wp2_with fail
        refine (Hnc.out _).mono ?_
        rintro x w2 ⟨rfl, hb2⟩
        have hbn2 := bel_step hbn1.out hb2
        clear hb2
        go_wp2
        go_returns
        exact ⟨rfl, hbn2⟩
      · rw [hc] at Hnc
        clear hw hf hws hnw hnf hcv hc Htt
        rcases hm with hm | ⟨hm, hm2⟩
        all_goals
          go_enter Tryz.func10, Tryz.ntmps10
          go_wp2_with fail
          refine (Haw.out).mono ?_
          rintro x w1 ⟨rfl, hb1⟩
          have hk1 := hide (Bk.below Hk0.out hb1 (by simp))
          have hbn1 := hide (Hb0.out.trans (hb1.mono Hb0.out.size))
          have k0 := hk1.out.cell 0
          have k1 := hk1.out.cell 1
          have k2 := hk1.out.cell 2
          have k3 := hk1.out.cell 3
          simp only [List.getElem?_toArray, List.getElem?_cons_zero, List.getElem?_cons_succ] at k0 k1 k2 k3
          clear hb1
          go_wp2_with fail
          refine (Hnc.out _).mono ?_
          rintro x w2 ⟨rfl, hb2⟩
          have hbn2 := bel_step hbn1.out hb2
          have hk2 := hide (Bk.below hk1.out hb2 hk1.out.lt)
          clear hb2 k0 k1 k2 k3
          have k3 := hk2.out.cell 3
          simp only [List.getElem?_toArray, List.getElem?_cons_zero, List.getElem?_cons_succ] at k3
          go_wp2
          go_returns
          exact ⟨rfl, hbn2⟩
      · obtain ⟨N, rfl⟩ := Int.eq_ofNat_of_zero_le (show 0 ≤ m by omega)
        have hin := (vclk_iff.1 hc).1
        have hid := inC_d hin
        obtain ⟨c, hcc⟩ : ∃ c : Clk, (⟨a, b, d, (N : Int)⟩ : Clk) = c := ⟨_, rfl⟩
        have e1 : c.st = a := by rw [← hcc]
        have e2 : c.f = b := by rw [← hcc]
        have e3 : c.s = d := by rw [← hcc]
        have e4 : c.n = (N : Int) := by rw [← hcc]
        rw [hcc] at Hnc Htt hc hin hid
        rw [hc] at Hnc
        have Htt2 : Hid (∀ W, Calls Tryz.prog 12 #[.agg #[.int .i64 a, .int .i64 b, .int .i64 d, .int .i64 (N : Int)]] W fun x w' => ∃ g, x = .returned (.tuple #[.slice (some ⟨g, 0, none⟩) N N, .int .i64 0]) ∧ Bk w' g 3 (ica (timesL c)) ∧ W.heap.size ≤ g ∧ Below W.heap.size W w') := hide (fun W => (Htt.out W).mono fun x w' h => by
          unfold TmRes at h
          rw [if_pos hc, e4, Int.toNat_natCast] at h
          exact h)
        have hTl : (timesL c).length = N := by rw [timesL_length, e4, Int.toNat_natCast]
        have hT3 : (timesL c).take 3 = [atC c 0, atC c 1, atC c 2] := by
          unfold timesL
          rw [e4, Int.toNat_natCast, ← List.map_take]
          have : (List.range N).take 3 = [0, 1, 2] := by
            rw [List.take_range, Nat.min_eq_left (by omega)]
            rfl
          rw [this]
          rfl
        have hst := mix_start hc (by rw [e4]; omega)
        have Hst := hide hst
        have HT3 := hide hT3
        have Hc := hide hc
        have Hid' := hide hid
        have HE : Hid (c.st = a ∧ c.f = b ∧ c.s = d ∧ c.n = (N : Int)) := hide ⟨e1, e2, e3, e4⟩
        have Hws := hide hws
        have Hnw := hide hnw
        have Hnf := hide hnf
        have HTl := hide hTl
        have hN1 : N ≤ 2000 := by omega
        have hN2 : 5 ≤ N := by omega
        have hn10 : nw ≤ 10 := by omega
        have hnfw : nf ≤ nw := by omega
        clear hw hf hws hnw hnf hcv hc hcc Htt hin hid e1 e2 e3 e4 hTl hT3 hst hm2 hm5
        have hm2 : ¬ (2000 : Int) < (N : Int) := by omega
        have hm5 : ¬ (N : Int) < 5 := by omega
        go_enter Tryz.func10, Tryz.ntmps10
        go_wp2_with fail
        refine (Haw.out).mono ?_
        rintro x w1 ⟨rfl, hb1⟩
        have hk1 := hide (Bk.below Hk0.out hb1 (by simp))
        have hbn1 := hide (Hb0.out.trans (hb1.mono Hb0.out.size))
        have hw1 := hide (Hw0.out.below hb1)
        have hf1 := hide (Hf0.out.below hb1)
        have k0 := hk1.out.cell 0
        have k1 := hk1.out.cell 1
        have k2 := hk1.out.cell 2
        have k3 := hk1.out.cell 3
        simp only [List.getElem?_toArray, List.getElem?_cons_zero, List.getElem?_cons_succ] at k0 k1 k2 k3
        clear hb1 Haw Hk0 Hb0 Hw0 Hf0
        go_wp2_with fail
        refine (Hnc.out _).mono ?_
        rintro x w2 ⟨rfl, hb2⟩
        have hbn2 := hide (bel_step hbn1.out hb2)
        have hk2 := hide (Bk.below hk1.out hb2 hk1.out.lt)
        have hw2 := hide (hw1.out.below hb2)
        have hf2 := hide (hf1.out.below hb2)
        clear hb2 k0 k1 k2 k3 hk1 hw1 hf1 hbn1 Hnc
        obtain ⟨C, hC⟩ : ∃ C, w.heap.size = C := ⟨_, rfl⟩
        rw [hC] at hk2 ⊢
        clear hC
        have k0 := hk2.out.cell 0
        have k1 := hk2.out.cell 1
        have k2 := hk2.out.cell 2
        have k3 := hk2.out.cell 3
        simp only [List.getElem?_toArray, List.getElem?_cons_zero, List.getElem?_cons_succ] at k0 k1 k2 k3
        go_wp2_with fail
        refine (Htt2.out _).mono ?_
        rintro x w3 ⟨g, rfl, hg, hgw, hb3⟩
        have Hb3 := hide hb3
        have hk3 := hide (Bk.below hk2.out hb3 hk2.out.lt)
        have Hown3 : Hid (w3.ownsRow w2.heap.size 3 1 (.slice (some ⟨g, 0, none⟩) N N) (timesL c).length (ivs (timesL c))) := hide (by
          have := own_bk hg hgw (by rw [HTl.out]; omega)
          rw [HTl.out] at this ⊢
          exact this)
        have Hat3 := hide (ica_at hg)
        have hglt := hg.lt
        have Hcl := hide ((Tryz.slices_Clone_int g 0 3 N (timesL c) w3 (by rw [HTl.out]; omega) (by omega) (fun j hj => by
          obtain ⟨b', o', hA, hb', hc⟩ := Hat3.out j (by rw [ivs_len]; exact hj)
          injection hA with hA
          injection hA with hA1 hA2
          subst hA1; subst hA2
          rw [hc]
          simp [ivs, iv, hj])))
        clear hg hgw hb3 k0 k1 k2 k3 Htt2
        have k3 := hk3.out.cell 3
        simp only [List.getElem?_toArray, List.getElem?_cons_zero, List.getElem?_cons_succ] at k3
        have hNN : ((N : Int) != (N : Int)) = false := bne_self_eq_false _
        have hN3 : (3 : Int) ≤ (N : Int) := by omega
        have hN3n : 3 ≤ N := by omega
        go_wp2_with fail
        refine (Hcl.out).mono ?_
        rintro x w4 ⟨v9, rfl, hown9, _, hb4⟩
        obtain ⟨g9, cap9, hv9, hcap9⟩ := own_form hown9 (by omega)
        subst hv9
        have Hck : Hid (CkSt w2 w4 (some ⟨g9, 0, none⟩) c (.slice (some ⟨g, 0, none⟩) N N) (timesL c)) := hide (by
          refine ⟨own_fr Hown3.out (Fr.of_below (S := nob) hb4) (fun _ _ f => f), ?_, ?_, Hb3.out.trans (hb4.mono Hb3.out.size)⟩
          · obtain ⟨A, cap, hA, hat⟩ := own_at hown9
            injection hA with hA
            subst hA
            rw [← HT3.out]
            exact hat
          · intro b o hb he
            injection hb with hb
            injection hb with hb _
            have h1 := (hown9.lt g9 rfl).1
            have h2 : g = b := by simpa [Value.ownBlock] using he
            omega)
        clear hown9 hb4 Hown3 Hat3 hglt Hcl Hb3 k3 hk3
        go_wp2
        go_loopw [7, 66] (fun s7 s66 wr => ∃ (i : Nat) (l : List Int), i ≤ nw ∧ s66 = .int .i64 (i : Int) ∧ Hid (MixOk c ((wixs (N : Int) ws).take i) [] l) ∧ Hid (CkSt w2 wr (some ⟨g9, 0, none⟩) c s7 l)) (fun _ s66 _ => (nw - intOf s66).toNat)
        case atStart => exact ⟨0, timesL c, Nat.zero_le _, rfl, Hst, Hck⟩
        case round =>
          clear Hst Hck
          obtain ⟨i, l, hi, rfl, hmix, hck⟩ := hrel
          by_cases hlt : i < nw
          · have hil : i < ws.length := by rw [← Hnw.out]; exact hlt
            have hgv := hvs_at ws i hil
            have hvr := Hws.out ws[i] (List.getElem_mem _)
            obtain ⟨v, hv⟩ : ∃ v, ws[i] = v := ⟨_, rfl⟩
            rw [hv] at hgv hvr
            obtain ⟨bW, oW, hA, hbW, hcW⟩ := (hw2.out.below hck.out.bel).get i _ hgv
            subst hA
            have hkr := Bk.below hk2.out hck.out.bel hk2.out.lt
            have k3 := hkr.cell 3
            simp only [List.getElem?_toArray, List.getElem?_cons_zero, List.getElem?_cons_succ] at k3
            have hlti : (i : Int) < (nw : Int) := by omega
            have hlti0 : (0 : Int) ≤ (i : Int) := by omega
            obtain ⟨hv0, hv1⟩ := hvr
            have hix1 := wix_in (m := (N : Int)) (v := v) (by omega)
            have hixe : (3 : Int) + v % ((N : Int) - 3) = (wix (N : Int) v : Int) := by
              have h1 := Int.emod_nonneg v (show (N : Int) - 3 ≠ 0 by omega)
              unfold wix
              omega
            obtain ⟨ix, hixx⟩ : ∃ ix, wix (N : Int) v = ix := ⟨_, rfl⟩
            rw [hixx] at hix1 hixe
            have hwt : (wixs (N : Int) ws).take (i + 1) = (wixs (N : Int) ws).take i ++ [ix] := by
              have hl2 : i < (wixs (N : Int) ws).length := by unfold wixs; rw [List.length_map]; exact hil
              rw [List.take_succ_eq_append_getElem hl2]
              have e9 : (wixs (N : Int) ws)[i] = wix (N : Int) ws[i] := by simp [wixs]
              rw [e9, hv, hixx]
            have Hmix2 : Hid (MixOk c ((wixs (N : Int) ws).take (i + 1)) [] (outF c l ix)) := hide (by rw [hwt]; exact mix_out Hc.out hmix.out hix1.1)
            have hll : l.length ≤ 2000 := by
              have h1 := hmix.out.len
              rw [HE.out.2.2.2, Int.toNat_natCast] at h1
              simp at h1
              omega
            have hkr2 : Bk wr C 24 #[.int .i64 c.st, .int .i64 c.f, .int .i64 c.s, .int .i64 c.n] := by
              rw [HE.out.1, HE.out.2.1, HE.out.2.2.1, HE.out.2.2.2]
              exact hkr
            have hapC := own_apart hck.out.own hkr2 (by decide)
            have Hdel := hide (ldelete_any (hck.out.own.alloc (.cells #[.int .i64 (ix : Int)] 3)) rfl (by omega) (hck.out.bel.alloc hck.out.bel.size (.cells #[.int .i64 (ix : Int)] 3)) (by have := hck.out.bel.size; simp; omega) Hid'.out (i := ix) (by omega) ⟨hkr2.alloc _, Bk.new wr _ _⟩ hapC (fun e => by have := (hck.out.own.lt _ e).2; omega))
            unfold clF at Hdel
            have hr1 : (N : Int) - 3 ≠ 0 := by omega
            clear hil hgv hv hbW hwt hll hkr2 hapC hixx
            go_wp2_with fail
            refine (Hdel.out).mono ?_
            rintro x w5 ⟨v', rfl, hown', hob, hbel', hfr'⟩
            have Hck2 : Hid (CkSt w2 w5 (some ⟨g9, 0, none⟩) c v' (outF c l ix)) := hide ⟨hown', (hck.out.fst.alloc _).keep hfr' (fun b o hA he => hck.out.ap b o hA he), fun b o hA he => hck.out.ap b o hA (by rw [← hob]; exact he), hbel'⟩
            clear hown' hob hbel' hfr' Hdel hck hmix
            go_wp2
            refine ⟨⟨i + 1, outF c l ix, hlt, by go_num, Hmix2, Hck2⟩, ?_⟩
            simp [intOf] <;> omega
          · have hin' : i = nw := by omega
            subst hin'
            have hwl : (wixs (N : Int) ws).length = i := by unfold wixs; rw [List.length_map]; exact Hnw.out.symm
            have Hmix : Hid (MixOk c (wixs (N : Int) ws) [] l) := hide (by
              have := hmix.out
              rw [List.take_of_length_le (by omega)] at this
              exact this)
            have Hwl := hide hwl
            obtain ⟨WX, hWX⟩ : ∃ W, wixs (N : Int) ws = W := ⟨_, rfl⟩
            rw [hWX] at Hmix Hwl
            have Hck := hide hck.out
            clear hmix hck hlt hi hwl hWX
            go_upto_region 15 with fail
            go_wp2
            go_loopw [7, 83] (fun s7 s83 wr => ∃ (k : Nat) (l : List Int), k ≤ nf ∧ s83 = .int .i64 (k : Int) ∧ Hid (MixOk c WX (fs.take k) l) ∧ Hid (CkSt w2 wr (some ⟨g9, 0, none⟩) c s7 l)) (fun _ s83 _ => (nf - intOf s83).toNat)
            case atStart => exact ⟨0, l, Nat.zero_le _, rfl, Hmix, Hck⟩
            case round =>
              clear Hmix Hck
              obtain ⟨k, l, hk, rfl, hmix, hck⟩ := hrel
              by_cases hlt : k < nf
              · have hkl : k < fs.length := by rw [← Hnf.out]; exact hlt
                have hgt := ivs_at fs k hkl
                have hft : fs.take (k + 1) = fs.take k ++ [fs[k]] := List.take_succ_eq_append_getElem hkl
                obtain ⟨t, ht⟩ : ∃ t, fs[k] = t := ⟨_, rfl⟩
                rw [ht] at hgt hft
                obtain ⟨bF, oF, hA, hbF, hcF⟩ := (hf2.out.below hck.out.bel).get k _ hgt
                subst hA
                obtain ⟨b9, o9, hA9, hb9, hc9⟩ := hck.out.fst.get 2 (.int .i64 (atC c 2)) rfl
                injection hA9 with hA9
                injection hA9 with hA91 hA92
                subst hA91; subst hA92
                rw [Nat.zero_add] at hc9
                have hll : l.length ≤ 2010 := by
                  have h1 := hmix.out.len
                  rw [HE.out.2.2.2, Int.toNat_natCast, List.length_take] at h1
                  omega
                have Hmix2 : Hid (MixOk c WX (fs.take (k + 1)) (inF c l t)) := hide (by rw [hft]; exact mix_in hmix.out t)
                have hlti : (k : Int) < (nf : Int) := by omega
                have hlti0 : (0 : Int) ≤ (k : Int) := by omega
                obtain ⟨a2, ha2⟩ : ∃ a, atC c 2 = a := ⟨_, rfl⟩
                rw [ha2] at hc9
                have hinF : inF c l t = if a2 < t ∧ t ≤ 1099511627776 ∧ l.contains t = false then l ++ [t] else l := by unfold inF; rw [ha2]
                have HinF := hide hinF
                obtain ⟨A7, c7, hv7, hat7⟩ := own_at hck.out.own
                subst hv7
                have Hco := hide (scontains_any hat7 l.length c7 rfl (by omega) t)
                have Hll := hide hll
                clear hkl hgt hft ht hbF hb9 hll ha2 hinF hat7
                go_upto_region 18 with fail
                go_cut [101] (fun s101 wx => ∃ q : Bool, s101 = .bool q ∧ Hid (q = true ↔ (a2 < t ∧ t ≤ 1099511627776 ∧ l.contains t = false)) ∧ wx = wr)
                case first =>
                  clear HinF Hmix2 hck hmix
                  by_cases h1 : a2 < t
                  · by_cases h2 : t ≤ 1099511627776
                    · go_wp2_with fail
                      refine (Hco.out).mono ?_
                      rintro x w5 ⟨rfl, rfl⟩
                      go_wp2
                      go_meet
                      case rel => exact ⟨!l.contains t, by simp, hide (by simp [h1, h2]), rfl⟩
                    · clear Hco
                      go_wp2
                      go_meet
                      case rel => exact ⟨false, by simp <;> omega, hide (by simp; omega), rfl⟩
                  · clear Hco
                    go_wp2
                    go_meet
                    case rel => exact ⟨false, by simp <;> omega, hide (by simp; omega), rfl⟩
                case rest =>
                  obtain ⟨q, rfl, hq, rfl⟩ := hcut
                  clear Hco
                  have hll := Hll.out
                  cases q with
                  | false =>
                    have he : inF c l t = l := by rw [HinF.out, if_neg (fun h => by have := hq.out.2 h; cases this)]
                    rw [he] at Hmix2
                    clear HinF hq hll he
                    go_wp2
                    refine ⟨⟨k + 1, l, hlt, by go_num, Hmix2, hck⟩, ?_⟩
                    simp [intOf] <;> omega
                  | true =>
                    have he : inF c l t = l ++ [t] := by rw [HinF.out, if_pos (hq.out.1 rfl)]
                    rw [he] at Hmix2
                    obtain ⟨v', w6, hrun, hown1, hf1, hob, hsz6, hkeep⟩ := app_own2 (P := Tryz.prog) 22 3 _ _ Tryz.underlying22 intinf rfl hck.out.own hck.out.bel hck.out.bel.size (.int .i64 t) rfl (by unfold maxLen; omega) (by omega)
                    have Hck2 : Hid (CkSt w2 w6 (some ⟨g9, 0, none⟩) c v' (l ++ [t])) := hide (by
                      refine ⟨?_, hkeep _ _ hck.out.fst hck.out.ap, fun b o hA h => ?_, hf1⟩
                      · rw [List.length_append, ivs_snoc]; exact hown1
                      · rcases hob with h1 | h1
                        · exact hck.out.ap b o hA (by rw [← h1]; exact h)
                        · rw [h1] at h
                          injection h with h
                          injection hA with hA
                          injection hA with hA _
                          have h9 := World.block_lt_of_cell? _ _ hc9
                          simp only at h9
                          omega)
                    have Hrun := hide hrun
                    clear hrun hown1 hf1 hob hsz6 hkeep HinF hq hll he hck hmix
                    go_wp2_with (
                      at_builtin
                      refine wpList_run (by with_reducible rfl) rfl _ _ _ rfl _ _ (by rfl) (by rfl) Hrun.out ?_)
                    refine ⟨⟨k + 1, l ++ [t], hlt, by go_num, Hmix2, Hck2⟩, ?_⟩
                    simp [intOf] <;> omega
              · have hkn : k = nf := by omega
                subst hkn
                have hmx := hmix.out
                rw [List.take_of_length_le (by rw [← Hnf.out]; exact Nat.le_refl _)] at hmx
                have hwl := Hwl.out
                have hfl := Hnf.out
                obtain ⟨g1, g2, g3, g4⟩ := mix_law Hc.out hmx (by rw [HE.out.2.2.2]; omega) (by rw [HE.out.2.2.2]; omega) (by omega) (by omega)
                obtain ⟨hv, r, hr⟩ := mix_sorted Hc.out hmx (by rw [HE.out.2.2.2]; omega) (by rw [HE.out.2.2.2, Int.toNat_natCast]; omega)
                have hsl : (srt l).length = l.length := (srt_perm l).length_eq
                have hll : l.length ≤ 4096 := by have := (validT_iff.1 hv).2.2; omega
                have hl3 : 3 ≤ (srt l).length := by rw [hr]; simp
                have hso := tsort_any hck.out.own rfl (by omega) hck.out.bel
                obtain ⟨A7, c7, hv7, _⟩ := own_at hck.out.own
                subst hv7
                have hd0 := decT_enc hv 4096
                rw [if_neg (by omega)] at hd0
                have he0 : (encT (srt l)).2 = 0 := by obtain ⟨c, _, _, he⟩ := encT_cases hv; rw [he]
                have hel := encT_len (srt l)
                obtain ⟨⟨dS, dF, d2, dN⟩, hdd⟩ : ∃ d, detect (srt l) = d := ⟨_, rfl⟩
                rw [hdd] at g1 g2 g3 g4
                simp only at g1 g2 g3 g4
                rw [HE.out.1] at g1
                rw [HE.out.2.1] at g2
                rw [HE.out.2.2.1] at g3
                rw [HE.out.2.2.2] at g4
                subst g1; subst g2; subst g3
                obtain ⟨⟨X, e⟩, hX⟩ : ∃ x, encT (srt l) = x := ⟨_, rfl⟩
                rw [hX] at hd0 he0 hel g4
                simp only at hd0 he0 hel g4
                subst he0
                obtain ⟨L, hL⟩ : ∃ L, srt l = L := ⟨_, rfl⟩
                rw [hL] at hso hX hdd hd0 hv hsl hl3
                have Hso := hide hso
                have Hen : Hid (∀ W A c, At W A (ivs L) → Calls Tryz.prog 25 #[.slice A l.length c] W fun x w' => x = .returned (.tuple #[.string (bs X), .int .i64 0]) ∧ Below W.heap.size W w') := hide (fun W A c h => by
                  have := tencode_any h l.length c hsl.symm (by omega)
                  rw [hX] at this
                  exact this)
                have Hde : Hid (∀ W, Calls Tryz.prog 23 #[.string (bs X), .int .i64 4096] W fun x w' => ∃ A c, x = .returned (.tuple #[.slice A l.length c, .int .i64 0]) ∧ At w' A (ivs L) ∧ Below W.heap.size W w') := hide (fun W => by
                  have := tdecode_any (w := W) (bs X) (by rw [bs_size]; omega) 4096
                  rw [toL_bs, hd0] at this
                  refine this.mono fun x w' hx => ?_
                  obtain ⟨A, cap, h1, h2, h3⟩ := lres_open hx
                  rw [hsl] at h1
                  exact ⟨A, cap, h1, h2, h3⟩)
                have Hdt : Hid (∀ W A c, At W A (ivs L) → Calls Tryz.prog 18 #[.slice A l.length c] W fun x w' => x = .returned (.agg #[.int .i64 dS, .int .i64 dF, .int .i64 d2, .int .i64 dN]) ∧ Below W.heap.size W w') := hide (fun W A c h => by
                  have := tdetect_any h l.length c hsl.symm (by omega)
                  rw [hdd] at this
                  exact this)
                have Heq : Hid (∀ W A B c1 c2, At W A (ivs L) → At W B (ivs L) → Calls Tryz.prog 31 #[.slice A l.length c1, .slice B l.length c2] W fun x w' => x = .returned (.bool true) ∧ ∃ q, w' = W.drewN q) := hide (fun W A B c1 c2 h1 h2 => by
                  have := sequal_any h1 h2 l.length c1 l.length c2 hsl.symm hsl.symm (by omega) (by omega)
                  simpa using this)
                have hxs : (bs X).size = X.length := bs_size X
                have Hg4 : Hid (dN ≤ (N : Int) → ((bs X).size : Int) ≤ 50 + 9 * (i : Int)) := hide (fun h => by have := g4 h; rw [hxs]; omega)
                obtain ⟨M, hM⟩ : ∃ M, l.length = M := ⟨_, rfl⟩
                rw [hM] at Hso Hen Hde Hdt Heq ⊢
                have hM3 : 3 ≤ M := by omega
                have hM4 : M ≤ 4096 := by omega
                have Hk2 := hide hk2.out
                have Hbel := hide hck.out.bel
                clear hmx hwl hfl hr hsl hll hl3 hso hd0 hel hdd hX hv hL hxs g4 hM hmix hck hlt hk Hnf Hwl
                generalize bs X = SX at *
                go_upto_region 21 with fail
                go_wp2_with fail
                refine (Hso.out).mono ?_
                rintro x w5 ⟨rfl, hir, hb5⟩
                obtain ⟨A8, c8, hv8, hat8⟩ := ires_open hir
                injection hv8 with hv81 hv82 hv83
                subst hv81
                have Hat5 := hide hat8
                have Hb5 := hide hb5
                have Hk5 := hide (Bk.below Hk2.out hb5 Hk2.out.lt)
                have H6 := hide (Hen.out _ _ c7 hat8)
                clear hir hat8 hb5 Hso Hen hv82 hv83 Hbel Hk2
                go_wp2_with fail
                refine (H6.out).mono ?_
                rintro x w6 ⟨rfl, hb6⟩
                have Hb6 := hide (Hb5.out.trans (hb6.mono Hb5.out.size))
                have Hk6 := hide (Bk.below Hk5.out hb6 Hk5.out.lt)
                have Hat6 := hide (Hat5.out.below hb6)
                clear hb6 H6 Hb5 Hk5 Hat5
                go_wp2_with fail
                refine (Hde.out _).mono ?_
                rintro x w7 ⟨Am, cm, rfl, hatm, hb7⟩
                have Hb7 := hide (Hb6.out.trans (hb7.mono Hb6.out.size))
                have Hk7 := hide (Bk.below Hk6.out hb7 Hk6.out.lt)
                have Hat7 := hide (Hat6.out.below hb7)
                have Hatm := hide hatm
                have H8 := hide (Hdt.out _ _ c7 Hat7.out)
                clear hb7 hatm Hde Hdt Hb6 Hk6 Hat6
                go_wp2_with fail
                refine (H8.out).mono ?_
                rintro x w8 ⟨rfl, hb8⟩
                have Hb8 := hide ((Hb7.out.trans (hb8.mono Hb7.out.size)).alloc (by have h1 := Hb7.out.size; have h2 := hb8.size; omega) (.cells #[.int .i64 dS, .int .i64 dF, .int .i64 d2, .int .i64 dN] 24))
                have Hk8 := hide ((Bk.below Hk7.out hb8 Hk7.out.lt).alloc (.cells #[.int .i64 dS, .int .i64 dF, .int .i64 d2, .int .i64 dN] 24))
                have Hd8 := hide (Bk.new w8 24 #[.int .i64 dS, .int .i64 dF, .int .i64 d2, .int .i64 dN])
                have H9 := hide (Heq.out _ _ _ cm c7 ((Hatm.out.below hb8).alloc (.cells #[.int .i64 dS, .int .i64 dF, .int .i64 d2, .int .i64 dN] 24)) ((Hat7.out.below hb8).alloc (.cells #[.int .i64 dS, .int .i64 dF, .int .i64 d2, .int .i64 dN] 24)))
                clear hb8 H8 Heq Hb7 Hk7 Hat7 Hatm
                go_wp2_with fail
                refine (H9.out).mono ?_
                rintro x w9 ⟨rfl, q9, rfl⟩
                have Hb9 := hide (bdN Hb8.out q9)
                have hk9 : Bk ((w8.alloc (.cells #[.int .i64 dS, .int .i64 dF, .int .i64 d2, .int .i64 dN] 24)).drewN q9) C 24 #[.int .i64 dS, .int .i64 dF, .int .i64 d2, .int .i64 (N : Int)] := Hk8.out
                have hd9 : Bk ((w8.alloc (.cells #[.int .i64 dS, .int .i64 dF, .int .i64 d2, .int .i64 dN] 24)).drewN q9) w8.heap.size 24 #[.int .i64 dS, .int .i64 dF, .int .i64 d2, .int .i64 dN] := Hd8.out
                generalize (w8.alloc (.cells #[.int .i64 dS, .int .i64 dF, .int .i64 d2, .int .i64 dN] 24)).drewN q9 = w9 at *
                obtain ⟨D, hD⟩ : ∃ D, w8.heap.size = D := ⟨_, rfl⟩
                rw [hD] at hd9 ⊢
                have k0 := hk9.cell 0
                have k1 := hk9.cell 1
                have k2 := hk9.cell 2
                have k3 := hk9.cell 3
                have d0 := hd9.cell 0
                have d1 := hd9.cell 1
                have d2' := hd9.cell 2
                have d3 := hd9.cell 3
                simp only [List.getElem?_toArray, List.getElem?_cons_zero, List.getElem?_cons_succ] at k0 k1 k2 k3 d0 d1 d2' d3
                have Hbf := hide (hbn2.out.trans (Hb9.out.mono hbn2.out.size))
                clear hk9 hd9 hD Hb9 H9 Hb8 Hk8 Hd8
                go_upto_region 27 with fail
                by_cases hM : M = 3
                · have hM3i : ((M : Int) == 3) = true := by rw [beq_iff_eq]; omega
                  clear Hg4 k0 k1 k2 d0 d1 d2' hM
                  go_wp2
                  go_returns
                  exact ⟨rfl, Hbf.out⟩
                · have hM3i : ((M : Int) == 3) = false := by rw [beq_eq_false_iff_ne]; omega
                  by_cases hdn : (N : Int) < dN
                  · clear Hg4 k0 k1 k2 d0 d1 d2' hM
                    go_wp2
                    go_returns
                    exact ⟨rfl, Hbf.out⟩
                  · have hg := Hg4.out (by omega)
                    clear Hg4 k0 k1 k2 d0 d1 d2' hM
                    go_wp2
                    go_returns
                    exact ⟨by first | (simp; done) | (simp; omega), Hbf.out⟩
end Go.Proofs.YtgllednilkfpgaaGreat
