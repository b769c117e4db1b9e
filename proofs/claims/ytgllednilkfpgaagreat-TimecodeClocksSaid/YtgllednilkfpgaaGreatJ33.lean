/-
  The walks over times: the clock of times.
-/
import Derived.Test.YtgllednilkfpgaaGreatJ32
set_option linter.unusedVariables false
set_option linter.unusedSimpArgs false
namespace Go.Proofs.YtgllednilkfpgaaGreat
open Go.RowKit Go.Proofs Wv Wv.Vi Wv.Rc Wv.Mo Wv.Ru Wv.Tm
set_option linter.unusedVariables false

def cvs (c : Clk) : Array Value := #[.int .i64 c.st, .int .i64 c.f, .int .i64 c.s, .int .i64 c.n]
/-- What lies in memory while a clock is sought. -/
structure DtSt (w wx : World) (c : Clk) : Prop where
  kc : Bk wx (w.heap.size + 1) 24 (cvs c)
  kr : Bk wx w.heap.size 24 (cvs zeroC)
  bel : Below w.heap.size w wx
theorem DtSt.below {w W W' : World} {c : Clk} (h : DtSt w W c) (hb : Below W.heap.size W W') : DtSt w W' c := ⟨h.kc.below hb h.kc.lt, h.kr.below hb h.kr.lt, h.bel.trans (hb.mono h.bel.size)⟩
theorem DtSt.put {w W : World} {c : Clk} (h : DtSt w W c) (i : Nat) (x : Int) (c' : Clk) (hc : cvs c' = (cvs c).setIfInBounds i (.int .i64 x)) : DtSt w (W.setCell ⟨w.heap.size + 1, i, none⟩ (.int .i64 x)) c' :=
  ⟨by rw [hc]; exact h.kc.put i _, h.kr.off (p := ⟨w.heap.size + 1, i, none⟩) (by show w.heap.size ≠ w.heap.size + 1; omega) _, h.bel.setCell (p := ⟨w.heap.size + 1, i, none⟩) (by show w.heap.size ≤ w.heap.size + 1; omega) _⟩
theorem DtSt.start (w : World) (c : Clk) : DtSt w ((w.alloc (.cells (cvs zeroC) 24)).alloc (.cells (cvs c) 24)) c where
  kc := by
    have := Bk.new (w.alloc (.cells (cvs zeroC) 24)) 24 (cvs c)
    rw [World.size_alloc] at this
    exact this
  kr := (Bk.new w _ _).alloc _
  bel := ((Below.refl w.heap.size w).alloc (Nat.le_refl _) _).alloc (by simp) _
/-- The cells that the search reads. -/
def DtS (w : World) (st f s n : Int) (p : Addr) (m : Int) (W : World) : Prop :=
  W.cell? ⟨w.heap.size + 1, 0, none⟩ = some (.int .i64 st) ∧ W.cell? ⟨w.heap.size + 1, 1, none⟩ = some (.int .i64 f) ∧ W.cell? ⟨w.heap.size + 1, 2, none⟩ = some (.int .i64 s) ∧ W.cell? ⟨w.heap.size + 1, 3, none⟩ = some (.int .i64 n) ∧ W.cell? p = some (.int .i64 m) ∧ DtSt w W ⟨st, f, s, n⟩
theorem DtS.of {w W : World} {st f s n : Int} {p : Addr} {m : Int} (h : DtSt w W ⟨st, f, s, n⟩) (hp : W.cell? p = some (.int .i64 m)) : DtS w st f s n p m W := ⟨h.kc.cell 0, h.kc.cell 1, h.kc.cell 2, h.kc.cell 3, hp, h⟩
theorem DtS.st {w W : World} {st f s n : Int} {p : Addr} {m : Int} (h : DtS w st f s n p m W) : DtSt w W ⟨st, f, s, n⟩ := h.2.2.2.2.2
theorem DtS.below {w W W' : World} {st f s n : Int} {p : Addr} {m : Int} (h : DtS w st f s n p m W) (hb : Below W.heap.size W W') : DtS w st f s n p m W' := DtS.of (h.st.below hb) ((hb.cell (World.block_lt_of_cell? W p h.2.2.2.2.1)).trans h.2.2.2.2.1)
/-- A measure: how far the count is. -/
def dmu (r : Nat) (w : World) : Nat := match w.cell? ⟨r, 3, none⟩ with
  | some (.int _ n) => (4096 - n).toNat
  | _ => 0
theorem dmu_eq {w W : World} {c : Clk} (h : DtSt w W c) : dmu (w.heap.size + 1) W = (4096 - c.n).toNat := by
  have := h.kc.cell 3
  simp [cvs] at this
  unfold dmu
  rw [this]
theorem dt_end {w W : World} {c : Clk} (h : DtSt w W c) :
    ∃ WF, ((((W.setCell ⟨w.heap.size, 0, none⟩ (.int .i64 c.st)).setCell ⟨w.heap.size, 1, none⟩ (.int .i64 c.f)).setCell ⟨w.heap.size, 2, none⟩ (.int .i64 c.s)).setCell ⟨w.heap.size, 3, none⟩ (.int .i64 c.n)) = WF ∧ WF.cell? ⟨w.heap.size, 0, none⟩ = some (.int .i64 c.st) ∧ WF.cell? ⟨w.heap.size, 1, none⟩ = some (.int .i64 c.f) ∧ WF.cell? ⟨w.heap.size, 2, none⟩ = some (.int .i64 c.s) ∧ WF.cell? ⟨w.heap.size, 3, none⟩ = some (.int .i64 c.n) ∧ Below w.heap.size w WF := by
  have hk := (((h.kr.put 0 (.int .i64 c.st)).put 1 (.int .i64 c.f)).put 2 (.int .i64 c.s)).put 3 (.int .i64 c.n)
  refine ⟨_, rfl, hk.cell 0, hk.cell 1, hk.cell 2, hk.cell 3, ?_⟩
  exact (((h.bel.setCell (p := ⟨w.heap.size, 0, none⟩) (Nat.le_refl _) _).setCell (p := ⟨w.heap.size, 1, none⟩) (Nat.le_refl _) _).setCell (p := ⟨w.heap.size, 2, none⟩) (Nat.le_refl _) _).setCell (p := ⟨w.heap.size, 3, none⟩) (Nat.le_refl _) _
theorem detect_ok {a b : Int} {r : List Int} (h : validT (a :: b :: r) = true) : detect (a :: b :: r) = { detF a b r with n := (cntC (detF a b r) ((a :: b :: r).getLast (by simp)) 4096 1 : Nat) } := by
  show (if _ then _ else _) = _
  rw [if_pos h]
theorem detect_bad {l : List Int} (h : l.length < 2 ∨ validT l = false) : detect l = zeroC := by
  match l, h with
  | [], _ => rfl
  | [_], _ => rfl
  | a :: b :: r, h =>
    show (if _ then _ else _) = _
    rw [if_neg]
    rcases h with h | h
    · simp at h; omega
    · rw [h]; simp
set_option maxRecDepth 100000 in
set_option maxHeartbeats 2000000 in
theorem tdetect_any {w : World} {A : Option Addr} {l : List Int} (ha : At w A (ivs l)) (n cap : Nat) (hn : n = l.length) (hn4 : n ≤ 9223372036854775807) :
    Calls Tryz.prog 18 #[.slice A n cap] w fun x w' => x = .returned (CV (detect l)) ∧ Below w.heap.size w w' := by
  have Hval := hide (fun W (h : Below w.heap.size w W) => tvalid_any (ha.below h) n cap hn hn4)
  have Hb0 := hide ((Below.refl w.heap.size w).alloc (Nat.le_refl _) (.cells #[.int .i64 0, .int .i64 0, .int .i64 0, .int .i64 0] 24))
  by_cases h2 : n < 2
  · rw [detect_bad (.inl (by omega))]
    have h2i : (n : Int) < 2 := by omega
    clear ha hn Hval
    go_enter Tryz.func18, Tryz.ntmps18
    go_wp2
    refine bodyPost_ret (by simp [results, Tryz.results18, go_sem]; try rfl) rfl ?_
    exact ⟨rfl, Hb0.out⟩
  · have h2i : ¬ (n : Int) < 2 := by omega
    cases hv : validT l with
    | false =>
      rw [detect_bad (.inr hv)]
      rw [hv] at Hval
      clear ha hn hv
      go_enter Tryz.func18, Tryz.ntmps18
      go_wp2_with fail
      refine (Hval.out _ Hb0.out).mono ?_
      rintro x w1 ⟨rfl, rfl⟩
      go_wp2
      refine bodyPost_ret (by simp [results, Tryz.results18, go_sem]; try rfl) rfl ?_
      exact ⟨rfl, Hb0.out⟩
    | true =>
      rw [hv] at Hval
      obtain ⟨a, b, r, rfl⟩ : ∃ a b r, l = a :: b :: r := by
        match l, hn with
        | [], hn => simp at hn; omega
        | [_], hn => simp at hn; omega
        | a :: b :: r, _ => exact ⟨a, b, r, rfl⟩
      have hd := detect_ok hv
      have hdv := (vclk_iff.1 (detect_vclk hv (by simp))).1
      obtain ⟨v1, v2, v3⟩ := validT_iff.1 hv
      have hln : r.length = n - 2 := by rw [hn]; simp
      obtain ⟨m, hm⟩ : ∃ m, (a :: b :: r).getLast (by simp) = m := ⟨_, rfl⟩
      have hmg : (ivs (a :: b :: r))[n - 1]? = some (.int .i64 m) := by
        have h1 : n - 1 < (a :: b :: r).length := by rw [← hn]; omega
        rw [ivs_at _ _ h1, ← hm, List.getLast_eq_getElem]
        congr 3
        rw [hn]
      rw [hm] at hd
      have hva := v2 a List.mem_cons_self
      have hvb := v2 b (List.mem_cons_of_mem _ List.mem_cons_self)
      have hvm := v2 m (by rw [← hm]; exact List.getLast_mem _)
      obtain ⟨F, hF⟩ : ∃ F, detF a b r = F := ⟨_, rfl⟩
      have hFe : F = ⟨a, b - a, match r with | [] => b - a | t :: _ => t - b, 1⟩ := hF.symm
      rw [hF] at hd
      have hFD : inD F := by
        rw [hd] at hdv
        exact inC_d (c := { F with n := (cntC F m 4096 1 : Nat) }) hdv
      obtain ⟨K, hK⟩ : ∃ K, cntC F m 4096 1 = K := ⟨_, rfl⟩
      rw [hK] at hd
      rw [hd]
      obtain ⟨bA, oA, rfl, hbA, hc0⟩ := ha 0 (by simp [ivs])
      simp [ivs, iv] at hc0
      obtain ⟨b1, o1, hA1, hb1, hc1⟩ := ha 1 (by simp [ivs])
      injection hA1 with hA1
      injection hA1 with hA1 hA2
      subst hA1; subst hA2
      simp [ivs, iv] at hc1
      obtain ⟨b2, o2, hA2, hb2, hcm⟩ := ha.get (n - 1) _ hmg
      injection hA2 with hA2
      injection hA2 with hA2 hA3
      subst hA2; subst hA3
      obtain ⟨m1, hm1⟩ : ∃ k, n - 1 = k := ⟨_, rfl⟩
      rw [hm1] at hcm
      have hm1i : (n : Int) - 1 = (m1 : Int) := by omega
      have hm1n : (m1 : Int) < (n : Int) := by omega
      have hn6 : n ≤ 4096 := by omega
      have Hr := hide (show (r = [] ∧ n = 2) ∨ (∃ t q, r = t :: q ∧ 2 < n ∧ w.cell? ⟨bA, oA + 2, none⟩ = some (.int .i64 t) ∧ 0 ≤ t ∧ t ≤ 1099511627776) by
        match r, hln with
        | [], hln => exact .inl ⟨rfl, by simp at hln; omega⟩
        | t :: q, hln =>
          obtain ⟨b3, o3, hA, _, hc⟩ := ha 2 (by simp [ivs])
          injection hA with hA
          injection hA with hA1 hA2
          subst hA1; subst hA2
          simp [ivs, iv] at hc
          have := v2 t (List.mem_cons_of_mem _ (List.mem_cons_of_mem _ List.mem_cons_self))
          exact .inr ⟨t, q, rfl, by simp at hln; omega, hc, this.1, this.2⟩)
      have HFe := hide hFe
      have HFD := hide hFD
      have HK := hide hK
      have Hw0 := hide (show (w.alloc (.cells #[.int .i64 0, .int .i64 0, .int .i64 0, .int .i64 0] 24)).cell? ⟨bA, oA, none⟩ = some (.int .i64 a) from (Hb0.out.cell (p := ⟨bA, oA, none⟩) hbA).trans hc0)
      have Hw1 := hide (show (w.alloc (.cells #[.int .i64 0, .int .i64 0, .int .i64 0, .int .i64 0] 24)).cell? ⟨bA, oA + 1, none⟩ = some (.int .i64 b) from (Hb0.out.cell (p := ⟨bA, oA + 1, none⟩) hbA).trans hc1)
      have Hst0 := hide (fun c => DtSt.start w c)
      have Hcm := hide hcm
      have Hc1 := hide hc1
      have hn2i : (2 : Int) ≤ (n : Int) := by omega
      clear ha hn hv hd hdv v1 v2 v3 hln hm hmg hF hFe hFD hK hc0 hc1 hcm hb1 hb2 h2 hm1
      go_enter Tryz.func18, Tryz.ntmps18
      go_wp2_with fail
      refine (Hval.out _ Hb0.out).mono ?_
      rintro x w1 ⟨rfl, rfl⟩
      have w0 := Hw0.out
      have w1' := Hw1.out
      have hbA' : bA < (w.alloc (.cells #[.int .i64 0, .int .i64 0, .int .i64 0, .int .i64 0] 24)).heap.size := by simp; omega
      go_upto_region 3 with fail
      go_cut [3] (fun s3 wx => s3 = .pointer (some ⟨w.heap.size + 1, 0, none⟩) ∧ DtSt w wx ⟨a, b - a, 0, 1⟩)
      case first =>
        clear Hr HFe HFD HK Hcm Hval
        go_region
        all_goals
          go_wp2
          go_meet
          case rel => exact ⟨rfl, (Hst0.out ⟨a, b - a, 0, 1⟩).below ((Below.refl _ _).drew)⟩
      case rest =>
        obtain ⟨rfl, hst⟩ := hcut
        have Hst := hide hst
        clear hst w0 w1' hbA' Hval Hw0 Hw1 Hst0 Hb0
        obtain ⟨c0, c1, c2, c3, _⟩ := DtS.of (p := ⟨bA, oA + m1, none⟩) (m := m) Hst.out ((Hst.out.bel.cell (p := ⟨bA, oA + m1, none⟩) (by first | exact hbA | (have := Hst.out.bel.size; omega))).trans Hcm.out)
        have f2 := Hst.out.kc.frozen 2
        have Hst1 := hide (Hst.out.put 2 (b - a) ⟨a, b - a, b - a, 1⟩ rfl)
        go_upto_region 5 with fail
        clear c0 c1 c2 c3 f2 Hst
        obtain ⟨W1, hW1⟩ : ∃ W, wc.setCell ⟨w.heap.size + 1, 2, none⟩ (.int .i64 (b - a)) = W := ⟨_, rfl⟩
        rw [hW1] at Hst1 ⊢
        clear hW1
        go_upto_if 29 with fail
        go_cut [] (fun wx => DtSt w wx F)
        case first =>
          rcases Hr.out with ⟨hr0, hn2⟩ | ⟨t, q, hr0, hn2, hct, ht0, ht1⟩
          · have hFz : F = ⟨a, b - a, b - a, 1⟩ := by rw [HFe.out, hr0]
            have hn2i : ¬ (2 : Int) < (n : Int) := by omega
            have Hf := hide (show DtSt w W1 F by rw [hFz]; exact Hst1.out)
            clear Hr hr0 hn2 hFz HFe HFD HK Hst1
            go_wp2
            go_meet
            case rel => exact Hf.out
          · have hFz : F = ⟨a, b - a, t - b, 1⟩ := by rw [HFe.out, hr0]
            have hn2i : (2 : Int) < (n : Int) := by omega
            have hbA1 : bA < W1.heap.size := by have := Hst1.out.bel.size; omega
            have ct := (Hst1.out.bel.cell (p := ⟨bA, oA + 2, none⟩) hbA).trans hct
            have cb := (Hst1.out.bel.cell (p := ⟨bA, oA + 1, none⟩) hbA).trans Hc1.out
            have f2 := Hst1.out.kc.frozen 2
            have c2 := Hst1.out.kc.cell 2
            simp [cvs] at c2
            have Hf := hide (fun (q : Nat) => (show DtSt w ((W1.drewN q).setCell ⟨w.heap.size + 1, 2, none⟩ (.int .i64 (t - b))) F by
              rw [hFz]
              exact DtSt.put (W := W1.drewN q) ⟨Hst1.out.kc, Hst1.out.kr, bdN Hst1.out.bel q⟩ 2 (t - b) ⟨a, b - a, t - b, 1⟩ rfl))
            have hne : w.heap.size + 1 ≠ bA := by omega
            clear Hr hr0 hn2 hFz HFe HFD HK Hst1 hct
            go_wp2
            go_region
            all_goals
              go_wp2
              go_meet
              case rel => exact Hf.out 1
        case rest =>
          have Hst2 := hide hcut
          clear hcut Hst1 Hr
          have hF4 : F.n = 1 := by rw [HFe.out]
          have HF4 := hide hF4
          clear hF4 HFe
          obtain ⟨Fs, Ff, F2, F4⟩ := F
          simp only at *
          go_wp2
          go_loopw [] (fun wr => ∃ k : Nat, 1 ≤ k ∧ k ≤ 4096 ∧ Hid (cntC ⟨Fs, Ff, F2, F4⟩ m (4097 - k) k = K) ∧ Hid (DtSt w wr ⟨Fs, Ff, F2, (k : Int)⟩)) (fun wr => dmu (w.heap.size + 1) wr)
          case atStart =>
            refine ⟨1, Nat.le_refl _, by omega, HK, hide ?_⟩
            have := Hst2.out
            rw [HF4.out] at this
            exact this
          case round =>
            obtain ⟨k, hk1, hk2, hK, hst⟩ := hrel
            have Hmu := hide (dmu_eq hst.out)
            have hcmr : wr.cell? ⟨bA, oA + m1, none⟩ = some (.int .i64 m) := (hst.out.bel.cell (p := ⟨bA, oA + m1, none⟩) hbA).trans Hcm.out
            have hFDk : inD ⟨Fs, Ff, F2, (k : Int)⟩ := HFD.out
            obtain ⟨T, hT⟩ : ∃ T, atC ⟨Fs, Ff, F2, F4⟩ k = T := ⟨_, rfl⟩
            have Hat := hide (fun W => tat_any hFDk k (by omega) W)
            have hTk : atC ⟨Fs, Ff, F2, (k : Int)⟩ k = T := hT
            rw [hTk] at Hat
            obtain ⟨B, hB⟩ : ∃ B, decide (k < 4096 ∧ T ≤ m) = B := ⟨_, rfl⟩
            have HB := hide hB
            have HT := hide hT
            have Hst := hst
            have Hcr := hide hcmr
            clear hst hcmr hFDk hT hTk hB
            unfold CV at Hat
            simp only at Hat
            go_upto_region 7 with fail
            go_cut [53] (fun s53 wx => s53 = .bool B ∧ DtSt w wx ⟨Fs, Ff, F2, (k : Int)⟩)
            case first =>
              clear Hst2 Hcm Hc1 hK
              by_cases hk : k < 4096
              · have hki : (k : Int) < 4096 := by omega
                have hkt : decide ((k : Int) < 4096) = true := by simpa using hki
                have hw1 : IntKind.i64.wrap ((n : Int) - 1) = (m1 : Int) := by rw [IntWalk.i64_in _ (by omega), hm1i]
                have hw2 : (0 : Int) ≤ (m1 : Int) := by omega
                have hw3 : IntKind.i64.wrap (m1 : Int) = (m1 : Int) := by rw [IntWalk.i64_in _ (by omega)]
                have H1 : DtS w Fs Ff F2 (k : Int) ⟨bA, oA + m1, none⟩ m wr.drew := DtS.of (Hst.out.below ((Below.refl _ _).drew)) Hcr.out
                unfold DtS at H1
                have HB2 : Hid (decide (T ≤ m) = B) := hide (by rw [← HB.out]; simp [hk])
                clear HB Hmu HT HFD HF4 Hcr Hst hk
                go_region_held3 (fun W => W.cell? ⟨w.heap.size + 1, 0, none⟩ = some (.int .i64 Fs) ∧ W.cell? ⟨w.heap.size + 1, 1, none⟩ = some (.int .i64 Ff) ∧ W.cell? ⟨w.heap.size + 1, 2, none⟩ = some (.int .i64 F2) ∧ W.cell? ⟨w.heap.size + 1, 3, none⟩ = some (.int .i64 (k : Int)) ∧ W.cell? ⟨bA, oA + m1, none⟩ = some (.int .i64 m) ∧ DtSt w W ⟨Fs, Ff, F2, (k : Int)⟩) (first | exact H1 | assumption | exact DtS.below (by assumption) (by assumption))
                  (first | (go_at_call 39; with_reducible refine (Hat.out _).mono ?_; rintro r w' ⟨rfl, hb2⟩))
                all_goals
                  go_wp2
                  go_meet
                  case rel => exact ⟨by rw [HB2.out], DtS.st (by assumption)⟩
              · have hki : ¬ (k : Int) < 4096 := by omega
                obtain ⟨c0, c1, c2, c3, cm, _⟩ := DtS.of Hst.out Hcr.out
                have HB2 : Hid (B = false) := hide (by rw [← HB.out]; simp [hk])
                clear HB Hmu HT HFD HF4 Hcr hk
                go_quiet (fail)
                go_wp2
                go_meet
                case rel => exact ⟨by rw [HB2.out], Hst.out.below (by first | exact Below.refl _ _ | exact bdN (Below.refl _ _) _)⟩
            case rest =>
              obtain ⟨rfl, hst⟩ := hcut
              have Hst3 := hide hst
              clear hst Hst Hcr
              cases B with
              | true =>
                have hb2 := HB.out
                simp at hb2
                obtain ⟨hk9, hTm⟩ := hb2
                have hK2 := hK.out
                rw [show 4097 - k = (4096 - k) + 1 by omega, cntC_step _ _ _ _ ⟨hk9, by rw [HT.out]; exact hTm⟩, show 4096 - k = 4097 - (k + 1) by omega] at hK2
                have HK2 := hide hK2
                have c3 := Hst3.out.kc.cell 3
                have f3 := Hst3.out.kc.frozen 3
                simp [cvs] at c3
                obtain ⟨k', hk'⟩ : ∃ k', k + 1 = k' := ⟨_, rfl⟩
                rw [hk'] at HK2
                have hki : (k : Int) + 1 = (k' : Int) := by omega
                have hk1' : 1 ≤ k' := by omega
                have hk2' : k' ≤ 4096 := by omega
                have Hst4 := hide (Hst3.out.put 3 (k' : Int) ⟨Fs, Ff, F2, (k' : Int)⟩ rfl)
                have Hmu2 := hide (dmu_eq Hst4.out)
                have Hkk := hide (And.intro hk9 hk')
                clear hK hK2 HB hTm hk' Hst3 HK Hcm Hc1 Hst2 HT HFD HF4 Hat hk9
                go_wp2
                refine ⟨⟨k', hk1', hk2', HK2, Hst4⟩, ?_⟩
                rw [Hmu2.out, Hmu.out]
                obtain ⟨x1, x2⟩ := Hkk.out
                simp only
                omega
              | false =>
                have hb2 := HB.out
                have hKk : K = k := by
                  have := hK.out
                  rw [cntC_stop _ _ _ _ (by rw [HT.out]; simpa using hb2)] at this
                  exact this.symm
                subst hKk
                obtain ⟨WF, hWF, u0, u1, u2, u3, hbF⟩ := dt_end Hst3.out
                have HWF := hide hWF
                have HbF := hide hbF
                have r0 := Hst3.out.kr.cell 0
                have r1 := Hst3.out.kr.cell 1
                have r2 := Hst3.out.kr.cell 2
                have r3 := Hst3.out.kr.cell 3
                have g0 := Hst3.out.kr.frozen 0
                have g1 := Hst3.out.kr.frozen 1
                have g2 := Hst3.out.kr.frozen 2
                have g3 := Hst3.out.kr.frozen 3
                have c0 := Hst3.out.kc.cell 0
                have c1 := Hst3.out.kc.cell 1
                have c2 := Hst3.out.kc.cell 2
                have c3 := Hst3.out.kc.cell 3
                simp [cvs, zeroC] at r0 r1 r2 r3 c0 c1 c2 c3
                simp only at HWF u0 u1 u2 u3
                clear hWF hbF hb2 hK HB Hst3 HK Hcm Hc1 Hst2 HT HFD HF4 Hat Hmu
                go_wp2_with ((with_reducible show bodyPost _ _ _ _ _ _); rw [HWF.out]; refine bodyPost_ret (v := .agg #[.int .i64 Fs, .int .i64 Ff, .int .i64 F2, .int .i64 (K : Int)]) (by simp [results, Tryz.results18, go_sem, u0, u1, u2, u3]; try rfl) rfl ?_; exact ⟨rfl, HbF.out⟩)
end Go.Proofs.YtgllednilkfpgaaGreat
