/-
  Joined texts: Og, Oh.
-/
import Derived.Test.YtgllednilkfpgaaGreatJ44
import Derived.Test.YtgllednilkfpgaaGreatJ34
import Derived.Test.YtgllednilkfpgaaGreatJ01
set_option linter.unusedVariables false
set_option linter.unusedSimpArgs false
/-
  The laws of times: whether numbers are sorted (the library's walk).
-/
namespace Go.Proofs.YtgllednilkfpgaaGreat
open Go.RowKit Go.Proofs Wv Wv.Vi Wv.Rc Wv.Mo Wv.Ru Wv.Tm
set_option linter.unusedVariables false
theorem nan_any (x : Int) (w : World) : Calls Tryz.prog 104 #[.int .i64 x] w fun e w' => e = .returned (.bool false) ∧ w = w' := by
  have h1 : (x != x) = false := bne_self_eq_false x
  go_enter Tryz.func104, Tryz.ntmps104
  go_wp2
  go_returns
  exact ⟨by simp, rfl⟩
theorem less_any (x y : Int) (w : World) : Calls Tryz.prog 58 #[.int .i64 x, .int .i64 y] w fun e w' => e = .returned (.bool (decide (x < y))) ∧ w = w' := by
  go_enter Tryz.func58, Tryz.ntmps58
  go_wp2_with fail
  refine (nan_any _ _).mono ?_
  rintro e w1 ⟨rfl, rfl⟩
  go_wp2
  go_returns
  exact ⟨by simp, rfl⟩
set_option maxRecDepth 100000 in
set_option maxHeartbeats 2000000 in
theorem ssorted_any {w : World} {A : Option Addr} {l : List Int} (ha : At w A (ivs l)) (n cap : Nat) (hn : n = l.length) (hn4 : n ≤ 1000000) (hs : l.Pairwise (· ≤ ·)) :
    Calls Tryz.prog 32 #[.slice A n cap] w fun x w' => x = .returned (.bool true) ∧ ∃ q, w' = w.drewN q := by
  have Ha := hide ha
  have Hn := hide hn
  have Hs := hide hs
  have Hl := hide less_any
  clear ha hn hs
  go_enter Tryz.func32, Tryz.ntmps32
  go_wp2
  go_loopw [3] (fun s3 wr => ∃ i : Int, -1 ≤ i ∧ i < n ∧ s3 = .int .i64 i ∧ ∃ q, wr = w.drewN q) (fun s3 _ => (intOf s3).toNat)
  case atStart => exact ⟨(n : Int) - 1, by omega, by omega, rfl, 0, rfl⟩
  case round =>
    obtain ⟨i, h1, h2, rfl, q, rfl⟩ := hrel
    by_cases h0 : 0 < i
    · obtain ⟨k, rfl⟩ : ∃ k : Nat, i = (k : Int) + 1 := ⟨(i - 1).toNat, by omega⟩
      have hk1 : k + 1 < l.length := by rw [← Hn.out]; omega
      obtain ⟨b, o, hA, hb, hc1⟩ := (Ha.out.drewN q).get (k + 1) _ (ivs_at l (k + 1) hk1)
      subst hA
      obtain ⟨b', o', hA', hb', hc0⟩ := (Ha.out.drewN q).get k _ (ivs_at l k (by omega))
      injection hA' with hA'
      injection hA' with hA1 hA2
      subst hA1; subst hA2
      have hle : l[k] ≤ l[k + 1] := List.pairwise_iff_getElem.1 Hs.out k (k + 1) (by omega) hk1 (by omega)
      obtain ⟨x, hx⟩ : ∃ x, l[k] = x := ⟨_, rfl⟩
      obtain ⟨y, hy⟩ : ∃ y, l[k + 1] = y := ⟨_, rfl⟩
      rw [hx, hy] at hle
      rw [hx] at hc0
      rw [hy] at hc1
      have hd : decide (y < x) = false := decide_eq_false (by omega)
      have Hl2 : Hid (∀ W, Calls Tryz.prog 58 #[.int .i64 y, .int .i64 x] W fun e w' => e = .returned (.bool false) ∧ W = w') := hide (fun W => by have := Hl.out y x W; rw [hd] at this; exact this)
      have i1 : (k : Int) + 1 - 1 = (k : Int) := by omega
      have i2 : (0 : Int) ≤ (k : Int) := by omega
      have i3 : (k : Int) < (n : Int) := by omega
      have i4 : (0 : Int) ≤ (k : Int) + 1 := by omega
      have i5 : (k : Int) + 1 < (n : Int) := by omega
      have i6 : ((k : Int) + 1).toNat = k + 1 := by omega
      clear hx hy hle hd hb hb'
      obtain ⟨W, hW⟩ : ∃ W, w.drewN q = W := ⟨_, rfl⟩
      rw [hW] at hc0 hc1 ⊢
      have HW := hide hW
      clear hW
      have i7 : IntKind.i64.wrap (k : Int) = (k : Int) := IntWalk.i64_in _ (by omega)
      go_wp2
      go_quiet ((go_at_call 58; first | exact Wv.q1 (Hl2.out _) | exact Wv.q2 (Hl2.out _)))
      go_wp2
      refine ⟨⟨(k : Int), by omega, by omega, by go_num, q + nq, by rw [← HW.out, World.drewN_drewN]⟩, ?_⟩
      simp [intOf] <;> omega
    · have h3 : ¬ 0 < i := h0
      go_wp2
      go_returns
      exact ⟨rfl, q, rfl⟩
end Go.Proofs.YtgllednilkfpgaaGreat
/-
  The laws of times: times out of a clock and its exceptions.
-/
namespace Go.Proofs.YtgllednilkfpgaaGreat
open Go.RowKit Go.Proofs Wv Wv.Vi Wv.Rc Wv.Mo Wv.Ru Wv.Tm
set_option linter.unusedVariables false
theorem lt_le {l : List Int} (h : l.Pairwise (· < ·)) : l.Pairwise (· ≤ ·) := h.imp (fun h => Int.le_of_lt h)
set_option maxRecDepth 100000 in
set_option maxHeartbeats 4000000 in
theorem ltrebuilt_any {w : World} {A : Option Addr} {l : List Int} (ha : At w A (ivs l)) (_ : ∀ n ∈ l, I64 n) (n cap : Nat) (hn : n = l.length) (hm : n ≤ 9223372036854775807) (a b d m : Int) :
    Calls Tryz.prog 9 #[.slice A n cap, .agg #[.int .i64 a, .int .i64 b, .int .i64 d, .int .i64 m]] w fun x w' => LTrue w x w' := by
  have Haw := hide (tawake_any (w.alloc (.cells #[.int .i64 a, .int .i64 b, .int .i64 d, .int .i64 m] 24)))
  have Ha0 := hide (ha.alloc (.cells #[.int .i64 a, .int .i64 b, .int .i64 d, .int .i64 m] 24))
  have Hk0_ := hide (Bk.new w 24 #[.int .i64 a, .int .i64 b, .int .i64 d, .int .i64 m])
  have Hb0 := hide (bel_new w (.cells #[.int .i64 a, .int .i64 b, .int .i64 d, .int .i64 m] 24))
  by_cases hbig : (60 : Int) < (n : Int)
  · clear ha hn
    go_enter Tryz.func9, Tryz.ntmps9
    go_wp2_with fail
    refine (Haw.out).mono ?_
    rintro x w1 ⟨rfl, hb1⟩
    go_wp2
    go_returns
    exact ⟨rfl, Hb0.out.trans (hb1.mono Hb0.out.size)⟩
  · by_cases hm1 : (300 : Int) < m
    · clear ha hn
      go_enter Tryz.func9, Tryz.ntmps9
      go_wp2_with fail
      refine (Haw.out).mono ?_
      rintro x w1 ⟨rfl, hb1⟩
      have hk1 := Bk.below Hk0_.out hb1 (by simp)
      have k3 := hk1.cell 3
      simp only [List.getElem?_toArray, List.getElem?_cons_zero, List.getElem?_cons_succ] at k3
      go_wp2
      go_returns
      exact ⟨rfl, Hb0.out.trans (hb1.mono Hb0.out.size)⟩
    · have Hnv := hide (fun W (h : At W A (ivs l)) => nvalid_any h n cap hn hm)
      cases hv : validT l with
      | false =>
        rw [hv] at Hnv
        clear ha hn hv
        go_enter Tryz.func9, Tryz.ntmps9
        go_wp2_with fail
        refine (Haw.out).mono ?_
        rintro x w1 ⟨rfl, hb1⟩
        have hk1 := Bk.below Hk0_.out hb1 (by simp)
        have k3 := hk1.cell 3
        simp only [List.getElem?_toArray, List.getElem?_cons_zero, List.getElem?_cons_succ] at k3
        have H1 := hide (Hnv.out _ (Ha0.out.below hb1))
        have hbn1 := hide (Hb0.out.trans (hb1.mono Hb0.out.size))
        clear hb1
        go_wp2_with fail
        refine (H1.out).mono ?_
        rintro x w2 ⟨rfl, hq2⟩
        have hbn2 := drew_bel hbn1.out hq2
        clear hq2 H1
        go_wp2
        go_returns
        exact ⟨rfl, hbn2⟩
      | true =>
        rw [hv] at Hnv
        have hcv : CV ⟨a, b, d, m⟩ = .agg #[.int .i64 a, .int .i64 b, .int .i64 d, .int .i64 m] := rfl
        have Htt := hide (fun W => ttimes_at ⟨a, b, d, m⟩ W)
        have Hte := hide (fun W (h : At W A (ivs l)) => (texc_any ⟨a, b, d, m⟩ h n cap hn hm).mono fun x w' h => exres_at h)
        rw [hcv] at Htt Hte
        cases hc : vclk ⟨a, b, d, m⟩ with
        | false =>
          have e1 : tmL ⟨a, b, d, m⟩ = [] := by unfold tmL; rw [if_neg (by rw [hc]; simp)]
          have e2 : tmE ⟨a, b, d, m⟩ = 1 := by unfold tmE; rw [if_neg (by rw [hc]; simp)]
          have ex : excT ⟨a, b, d, m⟩ l = none := by unfold excT; rw [if_neg (by rw [hc]; simp)]
          have e3 : exM ⟨a, b, d, m⟩ l = [] := by unfold exM; rw [ex]
          have e4 : exX ⟨a, b, d, m⟩ l = [] := by unfold exX; rw [ex]
          have e5 : exE ⟨a, b, d, m⟩ l = 1 := by unfold exE; rw [ex]
          rw [e1, e2] at Htt
          rw [e3, e4, e5] at Hte
          clear ha hn hv hc hcv e1 e2 ex e3 e4 e5
          go_enter Tryz.func9, Tryz.ntmps9
          go_wp2_with fail
          refine (Haw.out).mono ?_
          rintro x w1 ⟨rfl, hb1⟩
          have hk1 := hide (Bk.below Hk0_.out hb1 (by simp))
          have k3 := hk1.out.cell 3
          simp only [List.getElem?_toArray, List.getElem?_cons_zero, List.getElem?_cons_succ] at k3
          have ha1 := hide (Ha0.out.below hb1)
          have H1 := hide (Hnv.out _ ha1.out)
          have hbn1 := hide (Hb0.out.trans (hb1.mono Hb0.out.size))
          clear hb1
          go_wp2_with fail
          refine (H1.out).mono ?_
          rintro x w2 ⟨rfl, q2, rfl⟩
          have hbn2 := hide (bdN hbn1.out q2)
          have hk2 := hide (show Bk (w1.drewN q2) w.heap.size 24 #[.int .i64 a, .int .i64 b, .int .i64 d, .int .i64 m] from hk1.out)
          have ha2 := hide (show At (w1.drewN q2) A (ivs l) from ha1.out)
          clear k3 H1 hk1 ha1 hbn1
          generalize w1.drewN q2 = w2 at *
          obtain ⟨C, hC⟩ : ∃ C, w.heap.size = C := ⟨_, rfl⟩
          rw [hC] at hk2 ⊢
          have k0 := hk2.out.cell 0
          have k1 := hk2.out.cell 1
          have k2 := hk2.out.cell 2
          have k3 := hk2.out.cell 3
          simp only [List.getElem?_toArray, List.getElem?_cons_zero, List.getElem?_cons_succ] at k0 k1 k2 k3
          go_wp2_with fail
          refine (Hte.out _ ha2.out).mono ?_
          rintro x w3 ⟨A4, c4, A5, c5, rfl, hat4, hat5, hb3⟩
          have hk3 := hide (Bk.below hk2.out hb3 hk2.out.lt)
          have hbn3 := hide (bel_step hbn2.out hb3)
          clear k0 k1 k2 k3 hk2 ha2 hbn2 hb3 hat4 hat5 Hte
          have k0 := hk3.out.cell 0
          have k1 := hk3.out.cell 1
          have k2 := hk3.out.cell 2
          have k3 := hk3.out.cell 3
          simp only [List.getElem?_toArray, List.getElem?_cons_zero, List.getElem?_cons_succ, List.length_nil] at k0 k1 k2 k3 ⊢
          go_wp2_with fail
          refine (Htt.out _).mono ?_
          rintro x w4 ⟨A6, c6, rfl, hat6, hb4⟩
          have hbn4 := hide (bel_step hbn3.out hb4)
          clear k0 k1 k2 k3 hk3 hbn3 hb4 hat6
          simp only [List.length_nil]
          go_wp2
          go_returns
          exact ⟨rfl, hbn4.out⟩
        | true =>
          have hin := (vclk_iff.1 hc).1
          have e1 : tmL ⟨a, b, d, m⟩ = timesL ⟨a, b, d, m⟩ := by unfold tmL; rw [if_pos hc]
          have e2 : tmE ⟨a, b, d, m⟩ = 0 := by unfold tmE; rw [if_pos hc]
          have ex : excT ⟨a, b, d, m⟩ l = some (missL ⟨a, b, d, m⟩ l, furL ⟨a, b, d, m⟩ l) := by unfold excT; rw [if_pos ⟨hc, hv⟩]
          have e3 : exM ⟨a, b, d, m⟩ l = missL ⟨a, b, d, m⟩ l := by unfold exM; rw [ex]
          have e4 : exX ⟨a, b, d, m⟩ l = furL ⟨a, b, d, m⟩ l := by unfold exX; rw [ex]
          have e5 : exE ⟨a, b, d, m⟩ l = 0 := by unfold exE; rw [ex]
          rw [e1, e2] at Htt
          rw [e3, e4, e5] at Hte
          have hmv := validT_iff.1 (missL_valid hin l)
          have hxv := validT_iff.1 (furL_valid (c := ⟨a, b, d, m⟩) hv)
          have htv := timesL_valid hc
          have hreb := reb_exc hin hv
          have htl := timesL_length ⟨a, b, d, m⟩
          have htg : ∀ i, i < (timesL ⟨a, b, d, m⟩).length → (timesL ⟨a, b, d, m⟩)[i]? = some (atC ⟨a, b, d, m⟩ i) := fun i h => by
            have h' : i < m.toNat := by rw [htl] at h; exact h
            simp [timesL, h']
          have hfx : ∀ x ∈ furL ⟨a, b, d, m⟩ l, (timesL ⟨a, b, d, m⟩).contains x = false := fun x hx => by
            have := (List.mem_filter.1 hx).2
            simpa using this
          have hkn : keepL ⟨a, b, d, m⟩ (missL ⟨a, b, d, m⟩ l) = keepP ⟨a, b, d, m⟩ (missL ⟨a, b, d, m⟩ l) (timesL ⟨a, b, d, m⟩).length := by rw [htl]; rfl
          have hks := keepP_succ ⟨a, b, d, m⟩ (missL ⟨a, b, d, m⟩ l)
          have hkl := keepP_len ⟨a, b, d, m⟩ (missL ⟨a, b, d, m⟩ l)
          have hk0 : keepP ⟨a, b, d, m⟩ (missL ⟨a, b, d, m⟩ l) 0 = [] := rfl
          have hmi : ((timesL ⟨a, b, d, m⟩).length : Int) = m := by
            have h1 : 1 ≤ m := hin.1
            rw [htl]
            show ((m.toNat : Nat) : Int) = m
            omega
          have hm4 : m ≤ 4096 := hin.2.1
          unfold rebL at hreb
          rw [hkn] at hreb
          generalize keepP ⟨a, b, d, m⟩ (missL ⟨a, b, d, m⟩ l) = kp at *
          generalize missL ⟨a, b, d, m⟩ l = M at *
          generalize furL ⟨a, b, d, m⟩ l = X at *
          generalize timesL ⟨a, b, d, m⟩ = T at *
          generalize atC ⟨a, b, d, m⟩ = AC at *
          obtain ⟨N, hN⟩ : ∃ N, T.length = N := ⟨_, rfl⟩
          obtain ⟨K, hK⟩ : ∃ K, X.length = K := ⟨_, rfl⟩
          rw [hN] at htg hreb hmi
          have hN4 : N ≤ 4096 := by omega
          have hK4 : K ≤ 4096 := by rw [← hK]; exact hxv.2.2
          have hM4 : M.length ≤ 4096 := hmv.2.2
          have HN := hide hN
          have HK := hide hK
          have Htg := hide htg
          have Hfx := hide hfx
          have Hks := hide hks
          have Hkl := hide hkl
          have Hk0 := hide hk0
          have Hreb := hide hreb
          have Hmi := hide hmi
          have Hms := hide (lt_le hmv.1)
          have Hxs := hide (lt_le hxv.1)
          have Hln := hide hn
          have Htv : Hid (∀ W B c, At W B (ivs T) → Calls Tryz.prog 17 #[.slice B N c] W fun x w' => x = .returned (.bool true) ∧ ∃ q, w' = W.drewN q) := hide (fun W B c h => by
            have := nvalid_any h N c hN.symm (by omega)
            rw [htv] at this
            exact this)
          clear ha hn hv hc hcv e1 e2 ex e3 e4 e5 hin hmv hxv htv hreb htl htg hfx hkn hks hkl hk0 hmi
          go_enter Tryz.func9, Tryz.ntmps9
          go_wp2_with fail
          refine (Haw.out).mono ?_
          rintro x w1 ⟨rfl, hb1⟩
          have hk1 := hide (Bk.below Hk0_.out hb1 (by simp))
          have k3 := hk1.out.cell 3
          simp only [List.getElem?_toArray, List.getElem?_cons_zero, List.getElem?_cons_succ] at k3
          have ha1 := hide (Ha0.out.below hb1)
          have H1 := hide (Hnv.out _ ha1.out)
          have hbn1 := hide (Hb0.out.trans (hb1.mono Hb0.out.size))
          clear hb1 Haw Hnv Ha0 Hb0 Hk0_
          go_wp2_with fail
          refine (H1.out).mono ?_
          rintro x w2 ⟨rfl, q2, rfl⟩
          have hbn2 := hide (bdN hbn1.out q2)
          have hk2 := hide (show Bk (w1.drewN q2) w.heap.size 24 #[.int .i64 a, .int .i64 b, .int .i64 d, .int .i64 m] from hk1.out)
          have ha2 := hide (show At (w1.drewN q2) A (ivs l) from ha1.out)
          clear k3 H1 hk1 ha1 hbn1
          generalize w1.drewN q2 = w2 at *
          obtain ⟨C, hC⟩ : ∃ C, w.heap.size = C := ⟨_, rfl⟩
          rw [hC] at hk2 ⊢
          clear hC
          have k0 := hk2.out.cell 0
          have k1 := hk2.out.cell 1
          have k2 := hk2.out.cell 2
          have k3 := hk2.out.cell 3
          simp only [List.getElem?_toArray, List.getElem?_cons_zero, List.getElem?_cons_succ] at k0 k1 k2 k3
          go_wp2_with fail
          refine (Hte.out _ ha2.out).mono ?_
          rintro x w3 ⟨A4, c4, A5, c5, rfl, hat4, hat5, hb3⟩
          rw [hK]
          have hk3 := hide (Bk.below hk2.out hb3 hk2.out.lt)
          have ha3 := hide (ha2.out.below hb3)
          have hbn3 := hide (bel_step hbn2.out hb3)
          have hat4' := hide hat4
          have hat5' := hide hat5
          clear k0 k1 k2 k3 hk2 ha2 hbn2 hb3 hat4 hat5 Hte hK
          have k0 := hk3.out.cell 0
          have k1 := hk3.out.cell 1
          have k2 := hk3.out.cell 2
          have k3 := hk3.out.cell 3
          simp only [List.getElem?_toArray, List.getElem?_cons_zero, List.getElem?_cons_succ] at k0 k1 k2 k3
          go_wp2_with fail
          refine (Htt.out _).mono ?_
          rintro x w4 ⟨A6, c6, rfl, hat6, hb4⟩
          rw [hN]
          have hk4 := hide (Bk.below hk3.out hb4 hk3.out.lt)
          have ha4 := hide (ha3.out.below hb4)
          have hbn4 := hide (bel_step hbn3.out hb4)
          have hat44 := hide (hat4'.out.below hb4)
          have hat54 := hide (hat5'.out.below hb4)
          have hat64 := hide hat6
          clear k0 k1 k2 k3 hk3 ha3 hbn3 hb4 hat4' hat5' hat6 Htt hN
          go_upto_region 12 with fail
          go_wp2
          go_loopw [10, 62] (fun s10 s62 wr => ∃ i : Nat, i ≤ N ∧ s62 = .int .i64 (i : Int) ∧ Hid (wr.ownsRow w4.heap.size 3 1 s10 (kp i).length (ivs (kp i))) ∧ Hid (Below w4.heap.size w4 wr)) (fun _ s62 _ => (N - intOf s62).toNat)
          case atStart => exact ⟨0, Nat.zero_le _, rfl, hide (by rw [Hk0.out]; exact own_nil), hide (Below.refl _ _)⟩
          case round =>
            obtain ⟨i, hi, rfl, hown, hbr⟩ := hrel
            by_cases hlt : i < N
            · have hti := Htg.out i hlt
              obtain ⟨tt, hT⟩ : ∃ tt, AC i = tt := ⟨_, rfl⟩
              have hks := Hks.out i
              rw [hT] at hti hks
              have hgetT : (ivs T)[i]? = some (.int .i64 tt) := by unfold ivs; rw [List.getElem?_map, hti]; rfl
              obtain ⟨b', o', hA, hb', hc⟩ := (hat64.out.below hbr.out).get i _ hgetT
              subst hA
              have Hse := hide (scontains_any (hat44.out.below hbr.out) M.length c4 rfl (by omega) (i : Int))
              have hlti : (i : Int) < (N : Int) := by omega
              have hlti0 : (0 : Int) ≤ (i : Int) := by omega
              have hkl := Hkl.out i
              have Hkl2 := hide hkl
              cases hco : M.contains (i : Int) with
              | true =>
                rw [hco] at Hse hks
                rw [if_pos rfl] at hks
                have Hks2 := hide hks
                clear hti hT hks hgetT hb' hkl hco
                go_wp2_with fail
                refine (Hse.out).mono ?_
                rintro x w5 ⟨rfl, rfl⟩
                go_wp2
                refine ⟨⟨i + 1, hlt, by go_num, hide (by rw [Hks2.out]; exact hown.out), hbr⟩, ?_⟩
                simp [intOf] <;> omega
              | false =>
                rw [hco] at Hse hks
                rw [if_neg (by simp)] at hks
                have Hks2 := hide hks
                clear hti hT hks hgetT hb' hco hkl
                go_wp2_with fail
                refine (Hse.out).mono ?_
                rintro x w5 ⟨rfl, rfl⟩
                have hkl := Hkl2.out
                obtain ⟨v', w6, hrun, hown1, hf1, _⟩ := app_own (P := Tryz.prog) 22 3 _ _ Tryz.underlying22 intinf rfl hown.out hbr.out hbr.out.size (.int .i64 tt) rfl (by unfold maxLen; omega) (by omega)
                have Hrun := hide hrun
                have Hown1 : Hid (w6.ownsRow w4.heap.size 3 1 v' (kp (i + 1)).length (ivs (kp (i + 1)))) := hide (by
                  rw [Hks2.out, List.length_append, ivs_snoc]
                  exact hown1)
                have Hf1' := hide hf1
                clear hrun hown1 hf1 hown hbr hkl
                go_wp2_with (
                  at_builtin
                  refine wpList_run (by with_reducible rfl) rfl _ _ _ rfl _ _ (by rfl) (by rfl) Hrun.out ?_)
                refine ⟨⟨i + 1, hlt, by go_num, Hown1, Hf1'⟩, ?_⟩
                simp [intOf] <;> omega
            · have hiN : i = N := by omega
              subst hiN
              obtain ⟨A10, M10, cap10, rfl⟩ := own_slice hown.out
              clear hlt hi
              go_upto_region 18 with fail
              go_wp2
              go_loopw [78] (fun s78 wx => ∃ k : Nat, k ≤ K ∧ s78 = .int .i64 (k : Int) ∧ wx = wr) (fun s78 _ => (K - intOf s78).toNat)
              case atStart => exact ⟨0, Nat.zero_le _, rfl, rfl⟩
              case round =>
                obtain ⟨k, hk, rfl, rfl⟩ := hrel
                by_cases hlt : k < K
                · have hkX : k < X.length := by rw [HK.out]; exact hlt
                  have hgx := ivs_at X k hkX
                  have hfx := Hfx.out X[k] (List.getElem_mem _)
                  obtain ⟨x, hx⟩ : ∃ x, X[k] = x := ⟨_, rfl⟩
                  rw [hx] at hgx hfx
                  obtain ⟨b', o', hA, hb', hc⟩ := (hat54.out.below hbr.out).get k _ hgx
                  subst hA
                  have Hse := hide (scontains_any (hat64.out.below hbr.out) i c6 HN.out.symm (by omega) x)
                  rw [hfx] at Hse
                  have hlti : (k : Int) < (K : Int) := by omega
                  have hlti0 : (0 : Int) ≤ (k : Int) := by omega
                  clear hkX hgx hfx hx hb'
                  go_wp2_with fail
                  refine (Hse.out).mono ?_
                  rintro x' w5 ⟨rfl, rfl⟩
                  go_wp2
                  refine ⟨⟨k + 1, hlt, by go_num, by first | rfl | trivial⟩, ?_⟩
                  simp [intOf] <;> omega
                · have hkK : k = K := by omega
                  subst hkK
                  have hkl := Hkl.out i
                  have hatx := hat54.out.below hbr.out
                  obtain ⟨v', w5, hrun, hown1, hg1, _⟩ := run_appAt (P := Tryz.prog) 22 3 _ _ Tryz.underlying22 intinf rfl hown.out hatx c5 k (by rw [ivs_len]; exact HK.out.symm) (fun hA => by
                    subst hA
                    cases hfl : X with
                    | nil => rfl
                    | cons z r =>
                      rw [hfl] at hatx
                      obtain ⟨_, _, h0, _⟩ := hatx 0 (by simp [ivs])
                      cases h0) (fun y hy => by
                    obtain ⟨z, _, rfl⟩ := List.mem_map.1 hy
                    rfl) (by unfold maxLen; omega) (by omega) hbr.out.size
                  have hfin1 : Below w4.heap.size w4 w5 := hbr.out.grown hg1 hbr.out.size (fun k hk => (hown.out.lt k hk).1)
                  have hown2 : w5.ownsRow w4.heap.size 3 1 v' ((kp i).length + k) (ivs (kp i ++ X)) := by
                    have e : ivs (kp i ++ X) = ivs (kp i) ++ ivs X := by simp [ivs]
                    rw [e]; exact hown1
                  have Hso := hide (tsort_any hown2 (by rw [List.length_append, HK.out]) (by rw [List.length_append, HK.out]; omega) hfin1)
                  rw [Hreb.out] at Hso
                  have Hrun := hide hrun
                  clear hkl hatx hrun hown1 hg1 hfin1 hown2 hown hbr Hkl Hks Htg Hfx Hk0 Hreb hlt hk
                  go_wp2_with (first
                    | (at_builtin
                       refine wpList_run (by with_reducible rfl) rfl _ _ _ rfl _ _ (by rfl) (by rfl) Hrun.out ?_)
                    | (go_at_call 30
                       refine (Hso.out).mono ?_
                       rintro x w6 ⟨rfl, hir, hb6⟩))
                  obtain ⟨A7, c7, rfl, hat7⟩ := ires_open hir
                  have Heq := hide (sequal_any hat7 (ha4.out.below hb6) l.length c7 n cap rfl Hln.out (by rw [← Hln.out]; omega) hm)
                  have hat46 := hide (hat44.out.below hb6)
                  have hat56 := hide (hat54.out.below hb6)
                  have hat66 := hide (hat64.out.below hb6)
                  have hk6 := hide (Bk.below hk4.out hb6 hk4.out.lt)
                  have hbn6 := hide (bel_step hbn4.out hb6)
                  clear hir hat7 hb6 Hso Hrun hat44 hat54 hat64 hk4 hbn4 ha4
                  rw [decide_eq_true rfl] at Heq
                  go_wp2_with fail
                  refine (Heq.out).mono ?_
                  rintro x w7 ⟨rfl, q7, rfl⟩
                  have hb7 : Below w6.heap.size w6 (w6.drewN q7) := bdN (Below.refl _ _) q7
                  generalize w6.drewN q7 = w7 at *
                  have hbn7 := hide (bel_step hbn6.out hb7)
                  have H8 := hide (ssorted_any (hat46.out.below hb7) M.length c4 rfl (by omega) Hms.out)
                  clear Heq hbn6
                  go_wp2_with fail
                  refine (H8.out).mono ?_
                  rintro x w8 ⟨rfl, q8, rfl⟩
                  have hb8 : Below w7.heap.size w7 (w7.drewN q8) := bdN (Below.refl _ _) q8
                  generalize w7.drewN q8 = w8 at *
                  have hbn8 := hide (bel_step hbn7.out hb8)
                  have hb68 := bel_step hb7 hb8
                  have H9 := hide (ssorted_any (hat56.out.below hb68) k c5 HK.out.symm (by omega) Hxs.out)
                  clear H8 hbn7 hb7 hb8
                  go_wp2_with fail
                  refine (H9.out).mono ?_
                  rintro x w9 ⟨rfl, q9, rfl⟩
                  have hb9 : Below w8.heap.size w8 (w8.drewN q9) := bdN (Below.refl _ _) q9
                  generalize w8.drewN q9 = w9 at *
                  have hbn9 := hide (bel_step hbn8.out hb9)
                  have hb69 := bel_step hb68 hb9
                  have H10 := hide (Htv.out _ _ c6 (hat66.out.below hb69))
                  have hk9 := Bk.below hk6.out hb69 hk6.out.lt
                  have k3 := hk9.cell 3
                  simp only [List.getElem?_toArray, List.getElem?_cons_zero, List.getElem?_cons_succ] at k3
                  have hmi := Hmi.out
                  have hmb : (((i : Int)) == m) = true := by rw [beq_iff_eq]; exact hmi
                  clear H9 hbn8 hb68 hb9 hb69 hk9 hk6 hmi
                  go_wp2_with fail
                  refine (H10.out).mono ?_
                  rintro x w10 ⟨rfl, hq10⟩
                  have hbn10 := drew_bel hbn9.out hq10
                  clear hq10 H10 hbn9 k3
                  go_wp2
                  go_returns
                  exact ⟨rfl, hbn10⟩
end Go.Proofs.YtgllednilkfpgaaGreat
