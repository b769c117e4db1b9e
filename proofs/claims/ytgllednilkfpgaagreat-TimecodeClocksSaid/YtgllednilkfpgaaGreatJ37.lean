/-
  Joined texts: Nf, Ng.
-/
import Derived.Test.YtgllednilkfpgaaGreatJ36
import Derived.BigRegion
set_option linter.unusedVariables false
set_option linter.unusedSimpArgs false
/-
  The walks over the reference of times: the clock of times.
-/
namespace Go.Proofs.YtgllednilkfpgaaGreat
open Go.RowKit Go.Proofs Wv Wv.Vi Wv.Rc Wv.Mo Wv.Ru Wv.Tm
set_option linter.unusedVariables false

theorem dz_end {w W : World} {z : Clk} (hz : Bk W w.heap.size 24 (cvs z)) (hb : Below w.heap.size w W) (c : Clk) :
    ∃ WF, ((((W.setCell ⟨w.heap.size, 0, none⟩ (.int .i64 c.st)).setCell ⟨w.heap.size, 1, none⟩ (.int .i64 c.f)).setCell ⟨w.heap.size, 2, none⟩ (.int .i64 c.s)).setCell ⟨w.heap.size, 3, none⟩ (.int .i64 c.n)) = WF ∧ WF.cell? ⟨w.heap.size, 0, none⟩ = some (.int .i64 c.st) ∧ WF.cell? ⟨w.heap.size, 1, none⟩ = some (.int .i64 c.f) ∧ WF.cell? ⟨w.heap.size, 2, none⟩ = some (.int .i64 c.s) ∧ WF.cell? ⟨w.heap.size, 3, none⟩ = some (.int .i64 c.n) ∧ Below w.heap.size w WF := by
  have hk := (((hz.put 0 (.int .i64 c.st)).put 1 (.int .i64 c.f)).put 2 (.int .i64 c.s)).put 3 (.int .i64 c.n)
  refine ⟨_, rfl, hk.cell 0, hk.cell 1, hk.cell 2, hk.cell 3, ?_⟩
  exact (((hb.setCell (p := ⟨w.heap.size, 0, none⟩) (Nat.le_refl _) _).setCell (p := ⟨w.heap.size, 1, none⟩) (Nat.le_refl _) _).setCell (p := ⟨w.heap.size, 2, none⟩) (Nat.le_refl _) _).setCell (p := ⟨w.heap.size, 3, none⟩) (Nat.le_refl _) _
theorem DtSt.start1 {w W : World} (hk : Bk W w.heap.size 24 (cvs zeroC)) (hb : Below w.heap.size w W) (hs : W.heap.size = w.heap.size + 1) (c : Clk) : DtSt w (W.alloc (.cells (cvs c) 24)) c where
  kc := by
    have := Bk.new W 24 (cvs c)
    rw [hs] at this
    exact this
  kr := hk.alloc _
  bel := hb.alloc (by omega) _
theorem z_drew (w : World) (q : Nat) : Bk ((w.alloc (.cells (cvs zeroC) 24)).drewN q) w.heap.size 24 (cvs zeroC) ∧ Below w.heap.size w ((w.alloc (.cells (cvs zeroC) 24)).drewN q) ∧ ((w.alloc (.cells (cvs zeroC) 24)).drewN q).heap.size = w.heap.size + 1 :=
  ⟨Bk.new w 24 (cvs zeroC), bdN ((Below.refl w.heap.size w).alloc (Nat.le_refl _) _) q, by show (w.alloc _).heap.size = _; simp⟩
set_option maxRecDepth 100000 in
set_option maxHeartbeats 2000000 in
theorem ndetect_any {w : World} {A : Option Addr} {l : List Int} (ha : At w A (ivs l)) (n cap : Nat) (hn : n = l.length) (hn4 : n ≤ 9223372036854775807) :
    Calls Tryz.prog 19 #[.slice A n cap] w fun x w' => x = .returned (CV (detect l)) ∧ Below w.heap.size w w' := by
  have Hval := hide (fun W (h : Below w.heap.size w W) => nvalid_any (ha.below h) n cap hn hn4)
  have Hb0 := hide ((Below.refl w.heap.size w).alloc (Nat.le_refl _) (.cells #[.int .i64 0, .int .i64 0, .int .i64 0, .int .i64 0] 24))
  have Hz := hide (fun q W1 (h : W1 = (w.alloc (.cells #[.int .i64 0, .int .i64 0, .int .i64 0, .int .i64 0] 24)).drewN q) => show Bk W1 w.heap.size 24 (cvs zeroC) ∧ Below w.heap.size w W1 ∧ W1.heap.size = w.heap.size + 1 by subst h; exact z_drew w q)
  by_cases h2 : n < 2
  · rw [detect_bad (.inl (by omega))]
    have h2i : (n : Int) < 2 := by omega
    clear ha hn Hval Hz
    go_enter Tryz.func19, Tryz.ntmps19
    go_wp2
    refine bodyPost_ret (by simp [results, Tryz.results19, go_sem]; try rfl) rfl ?_
    exact ⟨rfl, Hb0.out⟩
  · have h2i : ¬ (n : Int) < 2 := by omega
    cases hv : validT l with
    | false =>
      rw [detect_bad (.inr hv)]
      rw [hv] at Hval
      clear ha hn hv
      go_enter Tryz.func19, Tryz.ntmps19
      go_wp2_with fail
      refine (Hval.out _ Hb0.out).mono ?_
      rintro x w1 ⟨rfl, q, hw1⟩
      obtain ⟨hk, hb, hs⟩ := Hz.out q _ hw1
      obtain ⟨WF, hWF, u0, u1, u2, u3, hbF⟩ := dz_end hk hb zeroC
      have HWF := hide hWF
      have HbF := hide hbF
      have r0 := hk.cell 0
      have r1 := hk.cell 1
      have r2 := hk.cell 2
      have r3 := hk.cell 3
      have g0 := hk.frozen 0
      have g1 := hk.frozen 1
      have g2 := hk.frozen 2
      have g3 := hk.frozen 3
      simp [cvs, zeroC] at r0 r1 r2 r3
      simp only [zeroC] at HWF u0 u1 u2 u3
      clear hWF hbF hk hb hs hw1 Hz Hb0 Hval
      go_wp2_with ((with_reducible show bodyPost _ _ _ _ _ _); rw [HWF.out]; refine bodyPost_ret (v := .agg #[.int .i64 0, .int .i64 0, .int .i64 0, .int .i64 0]) (by simp [results, Tryz.results19, go_sem, u0, u1, u2, u3]; try rfl) rfl ?_; exact ⟨rfl, HbF.out⟩)
    | true =>
      rw [hv] at Hval
      obtain ⟨a, b, r, rfl⟩ : ∃ a b r, l = a :: b :: r := by
        match l, hn with
        | [], hn => simp at hn; omega
        | [_], hn => simp at hn; omega
        | a :: b :: r, _ => exact ⟨a, b, r, rfl⟩
      have hd := detect_ok hv
      have hdv := (vclk_iff.1 (detect_vclk hv (by simp))).1
      obtain ⟨v1, v2, v3⟩ := validT_iff.1 hv
      have hln : r.length = n - 2 := by rw [hn]; simp
      obtain ⟨m, hm⟩ : ∃ m, (a :: b :: r).getLast (by simp) = m := ⟨_, rfl⟩
      have hmg : (ivs (a :: b :: r))[n - 1]? = some (.int .i64 m) := by
        have h1 : n - 1 < (a :: b :: r).length := by rw [← hn]; omega
        rw [ivs_at _ _ h1, ← hm, List.getLast_eq_getElem]
        congr 3
        rw [hn]
      rw [hm] at hd
      have hva := v2 a List.mem_cons_self
      have hvb := v2 b (List.mem_cons_of_mem _ List.mem_cons_self)
      have hvm := v2 m (by rw [← hm]; exact List.getLast_mem _)
      obtain ⟨F, hF⟩ : ∃ F, detF a b r = F := ⟨_, rfl⟩
      have hFe : F = ⟨a, b - a, match r with | [] => b - a | t :: _ => t - b, 1⟩ := hF.symm
      rw [hF] at hd
      have hFD : inD F := by
        rw [hd] at hdv
        exact inC_d (c := { F with n := (cntC F m 4096 1 : Nat) }) hdv
      obtain ⟨K, hK⟩ : ∃ K, cntC F m 4096 1 = K := ⟨_, rfl⟩
      rw [hK] at hd
      rw [hd]
      obtain ⟨bA, oA, rfl, hbA, hc0⟩ := ha 0 (by simp [ivs])
      simp [ivs, iv] at hc0
      obtain ⟨b1, o1, hA1, hb1, hc1⟩ := ha 1 (by simp [ivs])
      injection hA1 with hA1
      injection hA1 with hA1 hA2
      subst hA1; subst hA2
      simp [ivs, iv] at hc1
      obtain ⟨b2, o2, hA2, hb2, hcm⟩ := ha.get (n - 1) _ hmg
      injection hA2 with hA2
      injection hA2 with hA2 hA3
      subst hA2; subst hA3
      obtain ⟨m1, hm1⟩ : ∃ k, n - 1 = k := ⟨_, rfl⟩
      rw [hm1] at hcm
      have hm1i : (n : Int) - 1 = (m1 : Int) := by omega
      have hm1n : (m1 : Int) < (n : Int) := by omega
      have hn6 : n ≤ 4096 := by omega
      have Hr := hide (show (r = [] ∧ n = 2) ∨ (∃ t q, r = t :: q ∧ 2 < n ∧ w.cell? ⟨bA, oA + 2, none⟩ = some (.int .i64 t) ∧ 0 ≤ t ∧ t ≤ 1099511627776) by
        match r, hln with
        | [], hln => exact .inl ⟨rfl, by simp at hln; omega⟩
        | t :: q, hln =>
          obtain ⟨b3, o3, hA, _, hc⟩ := ha 2 (by simp [ivs])
          injection hA with hA
          injection hA with hA1 hA2
          subst hA1; subst hA2
          simp [ivs, iv] at hc
          have := v2 t (List.mem_cons_of_mem _ (List.mem_cons_of_mem _ List.mem_cons_self))
          exact .inr ⟨t, q, rfl, by simp at hln; omega, hc, this.1, this.2⟩)
      have HFe := hide hFe
      have HFD := hide hFD
      have HK := hide hK
      have Hc0 := hide hc0
      have Hcm := hide hcm
      have Hc1 := hide hc1
      have hn2i : (2 : Int) ≤ (n : Int) := by omega
      clear ha hn hv hd hdv v1 v2 v3 hln hm hmg hF hFe hFD hK hc0 hc1 hcm hb1 hb2 h2 hm1
      go_enter Tryz.func19, Tryz.ntmps19
      go_wp2_with fail
      refine (Hval.out _ Hb0.out).mono ?_
      rintro x w1 ⟨rfl, q, hw1⟩
      obtain ⟨hk, hb, hs⟩ := Hz.out q _ hw1
      clear hw1 Hz Hb0 Hval
      have w0 := (hb.cell (p := ⟨bA, oA, none⟩) hbA).trans Hc0.out
      have w1' := (hb.cell (p := ⟨bA, oA + 1, none⟩) hbA).trans Hc1.out
      have hbA' : bA < w1.heap.size := by rw [hs]; omega
      have Hst0 := hide (fun c => DtSt.start1 hk hb hs c)
      have Hs := hide hs
      have n0 := World.new_ne _ _ w0
      have n1 := World.new_ne _ _ w1'
      clear hk hb hs
      go_upto_region 3 with fail
      go_cut [3] (fun s3 wx => s3 = .pointer (some ⟨w.heap.size + 1, 0, none⟩) ∧ DtSt w wx ⟨a, b - a, b - a, 1⟩)
      case first =>
        clear Hr HFe HFD HK Hcm
        go_region
        all_goals
          go_wp2
          go_meet
          case rel => exact ⟨by rw [Hs.out], (Hst0.out ⟨a, b - a, b - a, 1⟩).below ((Below.refl _ _).drew)⟩
      case rest =>
        obtain ⟨rfl, hst⟩ := hcut
        have Hst1 := hide hst
        clear hst w0 w1' hbA' Hst0 Hs n0 n1
        have hn2' := Hst1.out.bel.size
        go_upto_if 34 with fail
        go_cut [] (fun wx => DtSt w wx F)
        case first =>
          rcases Hr.out with ⟨hr0, hn2⟩ | ⟨t, q2, hr0, hn2, hct, ht0, ht1⟩
          · have hFz : F = ⟨a, b - a, b - a, 1⟩ := by rw [HFe.out, hr0]
            have hn2i : ¬ (2 : Int) < (n : Int) := by omega
            have Hf := hide (show DtSt w wc F by rw [hFz]; exact Hst1.out)
            clear Hr hr0 hn2 hFz HFe HFD HK Hst1
            go_wp2
            go_meet
            case rel => exact Hf.out
          · have hFz : F = ⟨a, b - a, t - b, 1⟩ := by rw [HFe.out, hr0]
            have hn2i : (2 : Int) < (n : Int) := by omega
            have hbA1 : bA < wc.heap.size := by omega
            have ct := (Hst1.out.bel.cell (p := ⟨bA, oA + 2, none⟩) hbA).trans hct
            have cb := (Hst1.out.bel.cell (p := ⟨bA, oA + 1, none⟩) hbA).trans Hc1.out
            have f2 := Hst1.out.kc.frozen 2
            have c2 := Hst1.out.kc.cell 2
            simp [cvs] at c2
            have Hf := hide (fun (q : Nat) => (show DtSt w ((wc.drewN q).setCell ⟨w.heap.size + 1, 2, none⟩ (.int .i64 (t - b))) F by
              rw [hFz]
              exact DtSt.put (W := wc.drewN q) ⟨Hst1.out.kc, Hst1.out.kr, bdN Hst1.out.bel q⟩ 2 (t - b) ⟨a, b - a, t - b, 1⟩ rfl))
            have hne : w.heap.size + 1 ≠ bA := by omega
            clear Hr hr0 hn2 hFz HFe HFD HK Hst1 hct
            go_wp2
            go_region
            all_goals
              go_wp2
              go_meet
              case rel => exact Hf.out 1
        case rest =>
          have Hst2 := hide hcut
          clear hcut Hst1 Hr
          have hF4 : F.n = 1 := by rw [HFe.out]
          have HF4 := hide hF4
          have hT1 : atC F 1 = F.st + F.f := by rw [atC_succ F 0, atC_zero]; rfl
          have hFD := HFD.out
          have Hat0 := hide (fun i => atC_succ F i)
          have Hpos : Hid (∀ i, 0 ≤ stepC F i ∧ stepC F i ≤ 1099511627776) := hide (fun i => by
            obtain ⟨_, _, h3, h4, h5, h6⟩ := hFD
            unfold stepC
            split <;> omega)
          have HT1 := hide hT1
          have Hsteps := hide (fun (k : Nat) (hk : k ≤ 5000) W => nstep_any ⟨F.st, F.f, F.s, (k : Int)⟩ k hk W)
          have hse : ∀ k : Nat, stepC ⟨F.st, F.f, F.s, (k : Int)⟩ k = stepC F k := fun k => rfl
          obtain ⟨stc, hstc⟩ : ∃ s, stepC F = s := ⟨_, rfl⟩
          have Hse : Hid (∀ k : Nat, stepC ⟨F.st, F.f, F.s, (k : Int)⟩ k = stc k) := hide (fun k => by rw [← hstc]; rfl)
          rw [hstc] at Hat0 Hpos
          have hf1 := hFD.1
          have hf2 := hFD.2.1
          have hf3 := hFD.2.2.1
          have hf4 := hFD.2.2.2.1
          clear hF4 HFe hT1 hFD hse hstc
          obtain ⟨Fs, Ff, F2, F4⟩ := F
          simp only at *
          have c0 := Hst2.out.kc.cell 0
          have c1 := Hst2.out.kc.cell 1
          simp [cvs] at c0 c1
          go_upto_region 7 with fail
          clear c0 c1
          go_loopw [4] (fun s4 wr => ∃ (k : Nat) (T : Int), 1 ≤ k ∧ k ≤ 4096 ∧ 0 ≤ T ∧ T ≤ 2199023255552 ∧ s4 = .int .i64 T ∧ Hid (atC ⟨Fs, Ff, F2, F4⟩ k = T) ∧ Hid (cntC ⟨Fs, Ff, F2, F4⟩ m (4097 - k) k = K) ∧ Hid (DtSt w wr ⟨Fs, Ff, F2, (k : Int)⟩)) (fun _ wr => dmu (w.heap.size + 1) wr)
          case atStart =>
            refine ⟨1, Fs + Ff, Nat.le_refl _, by omega, by omega, by omega, rfl, HT1, HK, hide ?_⟩
            have := Hst2.out
            rw [HF4.out] at this
            exact this
          case round =>
            obtain ⟨k, T, hk1, hk2, hT0, hT1, rfl, hT, hK, hst⟩ := hrel
            have Hmu := hide (dmu_eq hst.out)
            have hcmr : wr.cell? ⟨bA, oA + m1, none⟩ = some (.int .i64 m) := (hst.out.bel.cell (p := ⟨bA, oA + m1, none⟩) hbA).trans Hcm.out
            have Hstp := hide (Hsteps.out k (by omega))
            have hps := Hpos.out k
            have hsu := Hat0.out k
            rw [hT.out] at hsu
            rw [Hse.out k] at Hstp
            obtain ⟨d, hd⟩ : ∃ d, stc k = d := ⟨_, rfl⟩
            rw [hd] at Hstp hps hsu
            have Hsu := hide hsu
            obtain ⟨d0, d1⟩ := hps
            unfold CV at Hstp
            simp only at Hstp
            have c0 := hst.out.kc.cell 0
            have c1 := hst.out.kc.cell 1
            have c2 := hst.out.kc.cell 2
            have c3 := hst.out.kc.cell 3
            simp [cvs] at c0 c1 c2 c3
            by_cases hkt : k < 4096 ∧ T ≤ m
            · obtain ⟨hk9, hTm⟩ := hkt
              have hki : (k : Int) < 4096 := by omega
              have hK2 := hK.out
              rw [show 4097 - k = (4096 - k) + 1 by omega, cntC_step _ _ _ _ ⟨hk9, by rw [hT.out]; exact hTm⟩, show 4096 - k = 4097 - (k + 1) by omega] at hK2
              have HK2 := hide hK2
              clear hd hsu hK hT hK2
              go_wp2_with fail
              refine (Hstp.out _).mono ?_
              rintro x w5 ⟨rfl, hb5⟩
              have Hst3 := hide (hst.out.below hb5)
              clear c0 c1 c2 c3 hcmr hst hb5
              have c3 := Hst3.out.kc.cell 3
              have f3 := Hst3.out.kc.frozen 3
              simp [cvs] at c3
              obtain ⟨k', hk'⟩ : ∃ k', k + 1 = k' := ⟨_, rfl⟩
              rw [hk'] at HK2 Hsu
              have hki' : (k : Int) + 1 = (k' : Int) := by omega
              have hk1' : 1 ≤ k' := by omega
              have hk2' : k' ≤ 4096 := by omega
              have Hst4 := hide (Hst3.out.put 3 (k' : Int) ⟨Fs, Ff, F2, (k' : Int)⟩ rfl)
              have Hmu2 := hide (dmu_eq Hst4.out)
              have Hkk := hide (And.intro hk9 hk')
              have hT3 : 0 ≤ T + d := by omega
              have hT4 : T + d ≤ 2199023255552 := by omega
              clear hk' Hst3 HK Hcm Hc1 Hst2 HFD HF4 hk9 Hsteps Hat0 Hpos Hse Hstp HT1
              go_wp2
              refine ⟨⟨k', T + d, hk1', hk2', hT3, hT4, rfl, Hsu, HK2, Hst4⟩, ?_⟩
              rw [Hmu2.out, Hmu.out]
              obtain ⟨x1, x2⟩ := Hkk.out
              try simp only
              omega
            · have hKk : K = k := by
                have := hK.out
                rw [cntC_stop _ _ _ _ (by rw [hT.out]; exact hkt)] at this
                exact this.symm
              subst hKk
              obtain ⟨WF, hWF, u0, u1, u2, u3, hbF⟩ := dt_end hst.out
              have HWF := hide hWF
              have HbF := hide hbF
              have r0 := hst.out.kr.cell 0
              have r1 := hst.out.kr.cell 1
              have r2 := hst.out.kr.cell 2
              have r3 := hst.out.kr.cell 3
              have g0 := hst.out.kr.frozen 0
              have g1 := hst.out.kr.frozen 1
              have g2 := hst.out.kr.frozen 2
              have g3 := hst.out.kr.frozen 3
              simp [cvs, zeroC] at r0 r1 r2 r3
              try simp only at HWF u0 u1 u2 u3
              have hor : m < T ∨ (T ≤ m ∧ 4096 ≤ (K : Int)) := by omega
              clear hWF hbF hkt hK HK Hcm Hc1 Hst2 HFD HF4 Hmu hd hsu hT hst Hsteps Hat0 Hpos Hse Hstp HT1 Hsu
              rcases hor with hor | ⟨hor, hor2⟩
              · go_wp2_with ((with_reducible show bodyPost _ _ _ _ _ _); rw [HWF.out]; refine bodyPost_ret (v := .agg #[.int .i64 Fs, .int .i64 Ff, .int .i64 F2, .int .i64 (K : Int)]) (by simp [results, Tryz.results19, go_sem, u0, u1, u2, u3]; try rfl) rfl ?_; exact ⟨rfl, HbF.out⟩)
              · go_wp2_with ((with_reducible show bodyPost _ _ _ _ _ _); rw [HWF.out]; refine bodyPost_ret (v := .agg #[.int .i64 Fs, .int .i64 Ff, .int .i64 F2, .int .i64 (K : Int)]) (by simp [results, Tryz.results19, go_sem, u0, u1, u2, u3]; try rfl) rfl ?_; exact ⟨rfl, HbF.out⟩)
end Go.Proofs.YtgllednilkfpgaaGreat
/-
  The walks over the reference of times: the exceptions to a clock.
-/
namespace Wv
open Go Go.RowKit
set_option linter.unusedVariables false
/-- One new element behind a row that is owned; what is touched. -/
theorem app_fr {P : Program} (t e : TypeId) (z : Value) (bytes : Nat) (ht : P.underlying t = some (.slice e)) (hinfo : (P.info? e).map (fun i => (i.zero, i.size, i.bytes)) = some (some z, 1, bytes)) (hz1 : z.cells.size = 1) {w wb : World} {B : Nat} {v : Value} {n : Nat} {xs : List Value} (h : w.ownsRow B e 1 v n xs) (hf : Below B wb w) (hB : B ≤ w.heap.size) (x : Value) (hx : x.oneCell' = true) (h63 : n + 1 ≤ maxLen) (hbytes : (n + 1) * bytes ≤ 140737488355328) :
    ∃ v' w', (Builtin.append_ #[t, t] t #[v, .slice (some ⟨w.heap.size, 0, none⟩) 1 1]).run P (w.alloc (.cells #[x] e)) = .ok v' w' ∧ w'.ownsRow B e 1 v' (n + 1) (xs ++ [x]) ∧ Below B wb w' ∧ (v'.ownBlock = v.ownBlock ∨ v'.ownBlock = some (w.heap.size + 1)) ∧ Fr (fun k => v.ownBlock = some k) (w.alloc (.cells #[x] e)) w' ∧
      (∀ A vs, At w A vs → (∀ b o, A = some ⟨b, o, none⟩ → v.ownBlock ≠ some b) → At w' A vs) := by
  obtain ⟨v1, w1, r1, a1, a2, a3, a4, a5⟩ := app_own2 t e z bytes ht hinfo hz1 h hf hB x hx h63 hbytes
  obtain ⟨i, hi, hz, hs, hby⟩ := info_parts hinfo
  obtain ⟨v', w', hr, h2, h3, _, h5⟩ := run_append_own_at (P := P) (w.alloc (.cells #[x] e)) B t t e i z 1 bytes ht hi hz hs hby hz1 (by omega) v n xs (h.alloc _) ⟨w.heap.size, 0, none⟩ 1 1 [x] rfl (news_one _ _ _) (by simpa using hx) h63 hbytes (Nat.le_trans hB (by simp))
  have e := r1.symm.trans hr
  injection e with e1 e2
  subst e1; subst e2
  exact ⟨v1, w1, r1, a1, a2, a3, (Fr.refl _ _).grown h3 (fun k hk => .inl hk), a5⟩
end Wv
namespace Go.Proofs.YtgllednilkfpgaaGreat
open Go.RowKit Go.Proofs Wv Wv.Vi Wv.Rc Wv.Mo Wv.Ru Wv.Tm
set_option linter.unusedVariables false
theorem furL_len (c : Clk) (l : List Int) (k : Nat) : ((l.take k).filter (fun t => !(timesL c).contains t)).length ≤ k := by
  have h1 := List.length_filter_le (fun t => !(timesL c).contains t) (l.take k)
  rw [List.length_take] at h1
  omega
/-- Two empty rows, one behind the other. -/
theorem own_two (w : World) : ((w.alloc (.cells #[] 3)).alloc (.cells #[] 3)).ownsRow w.heap.size 3 1 (.slice (some ⟨w.heap.size, 0, none⟩) 0 0) 0 [] ∧ ((w.alloc (.cells #[] 3)).alloc (.cells #[] 3)).ownsRow w.heap.size 3 1 (.slice (some ⟨w.heap.size + 1, 0, none⟩) 0 0) 0 [] ∧ Below w.heap.size w ((w.alloc (.cells #[] 3)).alloc (.cells #[] 3)) := by
  refine ⟨(own_made0 3 w).alloc _, ?_, ((Below.refl w.heap.size w).alloc (Nat.le_refl _) _).alloc (by simp) _⟩
  have h := own_made0 3 (w.alloc (.cells #[] 3))
  rw [World.size_alloc] at h
  refine ⟨h.1, ?_⟩
  rcases h.2 with h2 | ⟨g, cap, cur, hv, hb, rest⟩
  · exact .inl h2
  · exact .inr ⟨g, cap, cur, hv, by omega, rest⟩
set_option maxRecDepth 100000 in
set_option maxHeartbeats 2000000 in
theorem nexc_any {w : World} {A : Option Addr} {l : List Int} (c : Clk) (ha : At w A (ivs l)) (n cap : Nat) (hn : n = l.length) (hn4 : n ≤ 9223372036854775807) :
    Calls Tryz.prog 15 #[CV c, .slice A n cap] w fun x w' => ExRes w (excT c l) x w' := by
  have Hv := hide (fun W => nclk_any c W)
  have Hval := hide (fun W (h : Below w.heap.size w W) => nvalid_any (ha.below h) n cap hn hn4)
  have Ha := hide ha
  have Hn := hide hn
  have Hb0 := hide ((Below.refl w.heap.size w).alloc (Nat.le_refl _) (.cells #[.int .i64 c.st, .int .i64 c.f, .int .i64 c.s, .int .i64 c.n] 24))
  have Hkc := hide (Bk.new w 24 #[.int .i64 c.st, .int .i64 c.f, .int .i64 c.s, .int .i64 c.n])
  have hex : excT c l = if vclk c = true ∧ validT l = true then some (missL c l, furL c l) else none := rfl
  cases hv : vclk c with
  | false =>
    rw [hv, if_neg (by simp)] at hex
    rw [hex]
    rw [hv] at Hv
    clear hex hv ha hn Hval
    obtain ⟨st, f, s, cn⟩ := c
    unfold CV at Hv ⊢
    simp only at *
    go_enter Tryz.func15, Tryz.ntmps15
    go_wp2_with fail
    refine (Hv.out _).mono ?_
    rintro x w1 ⟨rfl, hb⟩
    have Hb1 := hide (Hb0.out.trans (hb.mono Hb0.out.size))
    clear hb
    go_wp2
    go_ret3
    exact ⟨rfl, Hb1.out⟩
  | true =>
    rw [hv] at Hv
    cases hl : validT l with
    | false =>
      rw [hv, hl, if_neg (by simp)] at hex
      rw [hex]
      rw [hl] at Hval
      clear hex hv ha hn hl
      obtain ⟨st, f, s, cn⟩ := c
      unfold CV at Hv ⊢
      simp only at *
      go_enter Tryz.func15, Tryz.ntmps15
      go_wp2_with fail
      refine (Hv.out _).mono ?_
      rintro x w1 ⟨rfl, hb⟩
      have Hb1 := hide (Hb0.out.trans (hb.mono Hb0.out.size))
      clear hb
      go_wp2_with fail
      refine (Hval.out _ Hb1.out).mono ?_
      rintro x w2 ⟨rfl, q, rfl⟩
      have Hb2 := hide (bdN Hb1.out q)
      go_wp2
      go_ret3
      exact ⟨rfl, Hb2.out⟩
    | true =>
      obtain ⟨hin, _⟩ := vclk_iff.1 hv
      have hmN : missL c l = missP c l c.n.toNat := rfl
      rw [hv, hl, if_pos ⟨rfl, rfl⟩, hmN] at hex
      rw [hex]
      rw [hl] at Hval
      have n1 := hin.1
      have n2 := hin.2.1
      have htl := timesL_length c
      have htg : ∀ i, i < c.n.toNat → (timesL c)[i]? = some (atC c i) := fun i h => by simp [timesL, h]
      have Htm : Hid (∀ W, Calls Tryz.prog 13 #[CV c] W fun x w' => ∃ A cap, x = .returned (.tuple #[.slice A (timesL c).length cap, .int .i64 0]) ∧ At w' A (ivs (timesL c)) ∧ Below W.heap.size W w') := hide (fun W => (ntimes_any c W).mono fun x w' h => by
        obtain ⟨A, cap, e, hx, he, hat, hb⟩ := h
        rw [if_pos hv] at hx he hat
        subst he
        exact ⟨A, cap, hx, hat, hb⟩)
      obtain ⟨v1, v2, v3⟩ := validT_iff.1 hl
      have hn6 : n ≤ 4096 := by omega
      have hms := fun i => missP_succ c l i
      have hml := fun i => missP_len c l i
      have hfl := fun k => furL_len c l k
      have hfur : furL c l = l.filter (fun t => !(timesL c).contains t) := rfl
      rw [hfur]
      obtain ⟨N, hN⟩ : ∃ N, c.n.toNat = N := ⟨_, rfl⟩
      rw [hN] at htl htg ⊢
      obtain ⟨TL, hTL⟩ : ∃ TL, timesL c = TL := ⟨_, rfl⟩
      rw [hTL] at htl htg Htm hfl ⊢
      obtain ⟨mp, hmp⟩ : ∃ mp, missP c l = mp := ⟨_, rfl⟩
      rw [hmp] at hms hml ⊢
      obtain ⟨atc, hatc⟩ : ∃ a, atC c = a := ⟨_, rfl⟩
      rw [hatc] at hms htg
      have hm0 : mp 0 = [] := by rw [← hmp]; rfl
      rw [htl] at Htm
      have Hm0 := hide hm0
      have Hms := hide hms
      have Hml := hide hml
      have Hfl := hide hfl
      have Htl := hide htl
      have Htg := hide htg
      have hN4 : N ≤ 4096 := by omega
      clear hex hv ha hn hin hl htl htg hmN v1 v2 v3 hms hml hfur hN hTL hmp hatc hm0 n1 n2 hfl
      obtain ⟨st, f, s, cn⟩ := c
      unfold CV at Hv Htm ⊢
      simp only at *
      go_enter Tryz.func15, Tryz.ntmps15
      go_wp2_with fail
      refine (Hv.out _).mono ?_
      rintro x w1 ⟨rfl, hb⟩
      have Hb1 := hide (Hb0.out.trans (hb.mono Hb0.out.size))
      have Hk1 := hide (Hkc.out.below hb Hkc.out.lt)
      clear hb Hb0 Hkc Hv
      go_wp2_with fail
      refine (Hval.out _ Hb1.out).mono ?_
      rintro x w2 ⟨rfl, q, hw2⟩
      have Hk2 := hide (show Bk w2 w.heap.size 24 #[.int .i64 st, .int .i64 f, .int .i64 s, .int .i64 cn] by subst hw2; exact Hk1.out)
      have Hb2 := hide (show Below w.heap.size w w2 by subst hw2; exact bdN Hb1.out q)
      clear hw2 Hval Hb1 Hk1
      have k0 := Hk2.out.cell 0
      have k1 := Hk2.out.cell 1
      have k2 := Hk2.out.cell 2
      have k3 := Hk2.out.cell 3
      simp at k0 k1 k2 k3
      go_wp2_with fail
      refine (Htm.out _).mono ?_
      rintro x w3 ⟨AT, capT, rfl, hatT, hb3⟩
      have Hb3 := hide (Hb2.out.trans (hb3.mono Hb2.out.size))
      have HatT := hide hatT
      have Hal := hide (Ha.out.below Hb3.out)
      obtain ⟨o1, o2, o3⟩ := own_two w3
      have O1 := hide o1
      have O2 := hide o2
      have O3 := hide o3
      clear k0 k1 k2 k3 hb3 Hb2 Hk2 Htm hatT o1 o2 o3
      go_upto_region 6 with fail
      go_loopw [9, 11] (fun s9 s11 wr => ∃ i : Nat, i ≤ N ∧ s11 = .int .i64 (i : Int) ∧ Hid (wr.ownsRow w3.heap.size 3 1 s9 (mp i).length (ivs (mp i))) ∧ Hid (s9.ownBlock ≠ some (w3.heap.size + 1)) ∧ Hid (wr.ownsRow w3.heap.size 3 1 (.slice (some ⟨w3.heap.size + 1, 0, none⟩) 0 0) 0 []) ∧ Hid (Below w3.heap.size w3 wr)) (fun _ s11 _ => (N - intOf s11).toNat)
      case atStart => exact ⟨0, Nat.zero_le _, rfl, hide (by rw [Hm0.out]; exact O1.out), hide (by simp [Value.ownBlock]), O2, O3⟩
      case round =>
        clear O1 O2 O3
        obtain ⟨i, hi, rfl, hown, hne, hoz, hbr⟩ := hrel
        have hat2 := HatT.out.below hbr.out
        have hal2 := Hal.out.below hbr.out
        by_cases hlt : i < N
        · have hti := Htg.out i hlt
          obtain ⟨T, hT⟩ : ∃ T, atc i = T := ⟨_, rfl⟩
          have hms := Hms.out i
          rw [hT] at hti hms
          have hgetT : (ivs TL)[i]? = some (.int .i64 T) := by unfold ivs; rw [List.getElem?_map, hti]; rfl
          obtain ⟨bT, oT, hA, hbT, hc⟩ := hat2.get i _ hgetT
          subst hA
          have Hse := hide (nhas_any hal2 n cap Hn.out (by omega) T)
          have hlti : (i : Int) < (N : Int) := by omega
          have hlti0 : (0 : Int) ≤ (i : Int) := by omega
          have hml := Hml.out i
          cases hco : l.contains T with
          | true =>
            rw [hco] at Hse hms
            rw [if_pos rfl] at hms
            have Hms2 := hide hms
            clear hti hT hms hgetT hat2 hal2 hbT hml hco
            go_wp2_with fail
            refine (Hse.out).mono ?_
            rintro x w4 ⟨rfl, rfl⟩
            go_wp2
            refine ⟨⟨i + 1, hlt, by go_num, hide (by rw [Hms2.out]; exact hown.out), hne, hoz, hbr⟩, ?_⟩
            simp [intOf] <;> omega
          | false =>
            rw [hco] at Hse hms
            rw [if_neg (by simp)] at hms
            have Hms2 := hide hms
            obtain ⟨v', w4, hrun, hown1, hf1, hblk, hfr, _⟩ := app_fr (P := Tryz.prog) 22 3 _ _ Tryz.underlying22 intinf rfl (w := wr) hown.out hbr.out hbr.out.size (.int .i64 (i : Int)) rfl (by unfold maxLen; omega) (by omega)
            have Hrun := hide hrun
            have Hown1 : Hid (w4.ownsRow w3.heap.size 3 1 v' (mp (i + 1)).length (ivs (mp (i + 1)))) := hide (by
              rw [Hms2.out, List.length_append, ivs_snoc]
              exact hown1)
            have Hne1 : Hid (v'.ownBlock ≠ some (w3.heap.size + 1)) := hide (by
              rcases hblk with h | h
              · rw [h]; exact hne.out
              · rw [h]
                intro e
                injection e with e
                have := (hoz.out.lt (w3.heap.size + 1) rfl).2
                omega)
            have Hoz1 := hide (own_fr (hoz.out.alloc (.cells #[.int .i64 (i : Int)] 3)) hfr (fun g hg h => by
              have e : w3.heap.size + 1 = g := by simpa [Value.ownBlock] using hg
              subst e
              exact hne.out h))
            have Hf1 := hide hf1
            clear hti hT hms hgetT hat2 hal2 hbT hco hrun hown1 hf1 hown hbr hml hblk hfr hne hoz
            go_wp2_with fail
            refine (Hse.out).mono ?_
            rintro x w5 ⟨rfl, rfl⟩
            go_wp2_with (
              at_builtin
              refine wpList_run (by with_reducible rfl) rfl _ _ _ rfl _ _ (by rfl) (by rfl) Hrun.out ?_)
            refine ⟨⟨i + 1, hlt, by go_num, Hown1, Hne1, Hoz1, Hf1⟩, ?_⟩
            simp [intOf] <;> omega
        · have hiN : i = N := by omega
          subst hiN
          obtain ⟨A9, cap9, hv9, hat9⟩ := own_at hown.out
          subst hv9
          have Hat9 := hide hat9
          have Hfar : Hid (∀ b o, A9 = some ⟨b, o, none⟩ → b < wr.heap.size ∧ b ≠ w3.heap.size + 1) := hide (fun b o h => ⟨(hown.out.lt b (by rw [h]; rfl)).2, fun e => hne.out (by rw [h, e]; rfl)⟩)
          have Hl0 := hide (show l.filter (fun t => !TL.contains t) = (l.take n).filter (fun t => !TL.contains t) by rw [List.take_of_length_le (by rw [Hn.out]; exact Nat.le_refl _)])
          have Hoz := hoz
          have Hbr := hbr
          obtain ⟨W5, hW5⟩ : ∃ W, W = wr := ⟨_, rfl⟩
          have Hfar2 : Hid (∀ b o, A9 = some ⟨b, o, none⟩ → b < wr.heap.size ∧ (Value.slice (some ⟨w3.heap.size + 1, 0, none⟩) 0 0).ownBlock ≠ some b) := hide (fun b o h => ⟨(Hfar.out b o h).1, fun e => (Hfar.out b o h).2 (by
            have e2 : w3.heap.size + 1 = b := by simpa [Value.ownBlock] using e
            exact e2.symm)⟩)
          clear hat9 hal2 hat2 hown hbr hoz hne Hm0 Hms Htg Hml hW5 Hfar
          go_wp2
          go_loopw [10, 12] (fun s10 s12 wx => ∃ k : Nat, k ≤ n ∧ s12 = .int .i64 (k : Int) ∧ Hid (wx.ownsRow w3.heap.size 3 1 s10 ((l.take k).filter (fun t => !TL.contains t)).length (ivs ((l.take k).filter (fun t => !TL.contains t)))) ∧ Hid (At wx A9 (ivs (mp i))) ∧ Hid (∀ b o, A9 = some ⟨b, o, none⟩ → b < wx.heap.size ∧ s10.ownBlock ≠ some b) ∧ Hid (Below w3.heap.size w3 wx)) (fun _ s12 _ => (n - intOf s12).toNat)
          case atStart => exact ⟨0, Nat.zero_le _, rfl, Hoz, Hat9, Hfar2, Hbr⟩
          case round =>
            clear Hoz Hat9 Hfar2 Hbr
            obtain ⟨k, hk, rfl, hown, hat9, hfar, hbx⟩ := hrel
            have hat3 := HatT.out.below hbx.out
            have hal3 := Hal.out.below hbx.out
            by_cases hlt : k < n
            · have hkl : k < l.length := by rw [← Hn.out]; exact hlt
              have hget := ivs_at l k hkl
              have hT2 : l.take (k + 1) = l.take k ++ [l[k]] := List.take_succ_eq_append_getElem hkl
              obtain ⟨T, hT⟩ : ∃ T, l[k] = T := ⟨_, rfl⟩
              rw [hT] at hget hT2
              obtain ⟨b', o', hA, hb', hc⟩ := hal3.get k _ hget
              subst hA
              have Hse := hide (nhas_any hat3 i capT Htl.out.symm (by omega) T)
              have hlti : (k : Int) < (n : Int) := by omega
              have hlti0 : (0 : Int) ≤ (k : Int) := by omega
              cases hco : TL.contains T with
              | true =>
                rw [hco] at Hse
                have Hms2 : Hid ((l.take (k + 1)).filter (fun t => !TL.contains t) = (l.take k).filter (fun t => !TL.contains t)) := hide (by
                  rw [hT2, List.filter_append, List.filter_cons, hco]
                  simp)
                clear hT hget hT2 hat3 hal3 hb' hco hkl
                go_wp2_with fail
                refine (Hse.out).mono ?_
                rintro x w4 ⟨rfl, rfl⟩
                go_wp2
                refine ⟨⟨k + 1, hlt, by go_num, hide (by rw [Hms2.out]; exact hown.out), hat9, hfar, hbx⟩, ?_⟩
                simp [intOf] <;> omega
              | false =>
                rw [hco] at Hse
                have Hms2 : Hid ((l.take (k + 1)).filter (fun t => !TL.contains t) = (l.take k).filter (fun t => !TL.contains t) ++ [T]) := hide (by
                  rw [hT2, List.filter_append, List.filter_cons, hco]
                  rfl)
                have hfl := Hfl.out k
                obtain ⟨v', w4, hrun, hown1, hf1, hblk, hfr, hkeep⟩ := app_fr (P := Tryz.prog) 22 3 _ _ Tryz.underlying22 intinf rfl (w := wr) hown.out hbx.out hbx.out.size (.int .i64 T) rfl (by unfold maxLen; omega) (by omega)
                have Hrun := hide hrun
                have Hown1 : Hid (w4.ownsRow w3.heap.size 3 1 v' ((l.take (k + 1)).filter (fun t => !TL.contains t)).length (ivs ((l.take (k + 1)).filter (fun t => !TL.contains t)))) := hide (by
                  rw [Hms2.out, List.length_append, ivs_snoc]
                  exact hown1)
                have Hat1 := hide (hkeep _ _ hat9.out (fun b o h => (hfar.out b o h).2))
                have hsz : wr.heap.size + 1 ≤ w4.heap.size := by
                  have h1 := hfr.size
                  rw [World.size_alloc] at h1
                  exact h1
                have Hfar1 : Hid (∀ b o, A9 = some ⟨b, o, none⟩ → b < w4.heap.size ∧ v'.ownBlock ≠ some b) := hide (fun b o h => by
                  obtain ⟨h1, h2⟩ := hfar.out b o h
                  refine ⟨by omega, ?_⟩
                  rcases hblk with h3 | h3
                  · rw [h3]; exact h2
                  · rw [h3]
                    intro e
                    injection e with e
                    omega)
                have Hf1 := hide hf1
                clear hT hget hT2 hat3 hal3 hb' hco hkl hrun hown1 hf1 hown hbx hfl hblk hfr hkeep hsz hat9 hfar
                go_wp2_with fail
                refine (Hse.out).mono ?_
                rintro x w5 ⟨rfl, rfl⟩
                go_wp2_with (
                  at_builtin
                  refine wpList_run (by with_reducible rfl) rfl _ _ _ rfl _ _ (by rfl) (by rfl) Hrun.out ?_)
                refine ⟨⟨k + 1, hlt, by go_num, Hown1, Hat1, Hfar1, Hf1⟩, ?_⟩
                simp [intOf] <;> omega
            · have hkn : k = n := by omega
              subst hkn
              obtain ⟨A8, M8, cap8, rfl⟩ := own_slice hown.out
              have Hr2 := hide (ires_own hown.out rfl)
              have Hr1 : Hid (IRes wr (.slice A9 (mp i).length cap9) (mp i)) := hide ⟨A9, cap9, rfl, hat9.out⟩
              have Hbf := hide (Hb3.out.trans (hbx.out.mono Hb3.out.size))
              clear hat3 hal3 hown hbx hat9 hfar
              go_wp2
              go_ret3
              exact ⟨_, _, rfl, Hr1.out, by rw [Hl0.out]; exact Hr2.out, Hbf.out⟩
end Go.Proofs.YtgllednilkfpgaaGreat
