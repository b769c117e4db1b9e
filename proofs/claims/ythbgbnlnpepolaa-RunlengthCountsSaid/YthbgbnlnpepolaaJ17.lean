/-
  The laws of runs of texts: counts.
-/
import Derived.Test.YthbgbnlnpepolaaJ16
set_option linter.unusedVariables false
set_option linter.unusedSimpArgs false
namespace Wv.Ru
set_option linter.unusedVariables false
theorem nx_le (l : List Nat) : nx l ≤ l.length := by
  induction l using Wv.Rc.snocInd with
  | h0 => simp [nx]
  | h1 l x ih =>
    rw [nx_snoc, List.length_append, List.length_singleton]
    split <;> omega
theorem nx_take (l : List Nat) (k : Nat) (h : k < l.length) : nx (l.take (k + 1)) = if l[k] = nx (l.take k) then nx (l.take k) + 1 else nx (l.take k) := by
  rw [List.take_succ_eq_append_getElem h, nx_snoc]
theorem sum_take (l : List Nat) (k : Nat) (h : k < l.length) : (l.take (k + 1)).sum = (l.take k).sum + l[k] := by
  rw [List.take_succ_eq_append_getElem h, List.sum_append, List.sum_cons, List.sum_nil, Nat.add_zero]
theorem sum_le (l : List Nat) (k : Nat) : (l.take k).sum ≤ l.sum := by
  have := List.sum_append (l₁ := l.take k) (l₂ := l.drop k)
  rw [List.take_append_drop] at this
  omega
end Wv.Ru
namespace Go.Proofs.Ythbgbnlnpepolaa
open Go.RowKit Go.Proofs Wv Wv.Vi Wv.Rc Wv.Mo Wv.Ru
set_option linter.unusedVariables false
/-- A place is 0 exactly where a number was asked for before. -/
theorem front_zero {l : List Int} (h : chkn l = 0) (i : Nat) (hi : i + 1 < l.length) : (((front l).1.getD (i + 1) 0 = 0) ↔ l.getD (i + 1) 0 = l.getD i 0) := by
  obtain ⟨h1, h2⟩ := front_ok h
  have h3 := frontA_zero (l.map Int.toNat) r0 (mem_r0 h2) i (by rw [List.length_map]; exact hi)
  unfold front
  rw [if_pos h]
  simp only
  rw [h3]
  have e1 : (l.map Int.toNat).getD (i + 1) 0 = (l.getD (i + 1) 0).toNat := by simp [List.getD, hi]
  have e2 : (l.map Int.toNat).getD i 0 = (l.getD i 0).toNat := by simp [List.getD, show i < l.length by omega]
  rw [e1, e2]
  have g1 : 0 ≤ l.getD (i + 1) 0 := by
    have : l.getD (i + 1) 0 = l[i + 1] := by simp [List.getD, hi]
    rw [this]
    exact (h2 _ (List.getElem_mem _)).1
  have g2 : 0 ≤ l.getD i 0 := by
    have : l.getD i 0 = l[i] := by simp [List.getD, show i < l.length by omega]
    rw [this]
    exact (h2 _ (List.getElem_mem _)).1
  omega
set_option maxRecDepth 100000 in
set_option maxHeartbeats 4000000 in
theorem lcounts_any {w : World} {A : Option Addr} {l : List ByteArray} (ha : At w A (svs l)) (hsz : ∀ s ∈ l, s.size ≤ 9223372036854775807) (n cap : Nat) (hn : n = l.length) (hm : n ≤ 9223372036854775807)
    {An : Option Addr} {L : List Int} (hl : At w An (ivs L)) (_ : ∀ x ∈ L, I64 x) (nl capl : Nat) (hnl : nl = L.length) (hml : nl ≤ 9223372036854775807) :
    Calls Try.prog 9 #[.slice A n cap, .slice An nl capl] w fun x w' => LRet w x w' := by
  have Haw := hide (awake_any w)
  have Ha := hide ha
  have HL := hide hl
  have Hs := hide (fun W (h : At W A (svs l)) => lshort_any h hsz n cap hn hm)
  have hcs : shortB l 60 200 = true ∨ shortB l 60 200 = false := by cases shortB l 60 200 <;> simp
  rcases hcs with hc | hc
  case inr =>
    rw [hc] at Hs
    clear hsz hn ha hl hnl hc
    go_enter Try.func9, Try.ntmps9
    go_wp2_with fail
    refine (Haw.out).mono ?_
    rintro x w1 ⟨rfl, hb1⟩
    have Hs1 := hide (Hs.out w1 (Ha.out.below hb1))
    go_wp2_with fail
    refine (Hs1.out).mono ?_
    rintro x w2 ⟨rfl, rfl⟩
    go_wp2
    go_returns
    exact ⟨rfl, hb1⟩
  case inl =>
  have hl60 := (shortB_true hc).2
  rw [hc] at Hs
  by_cases hbig : (40 : Int) < (nl : Int)
  · clear hsz hn ha hl hnl hc hl60
    go_enter Try.func9, Try.ntmps9
    go_wp2_with fail
    refine (Haw.out).mono ?_
    rintro x w1 ⟨rfl, hb1⟩
    have Hs1 := hide (Hs.out w1 (Ha.out.below hb1))
    go_wp2_with fail
    refine (Hs1.out).mono ?_
    rintro x w2 ⟨rfl, rfl⟩
    go_wp2
    go_returns
    exact ⟨rfl, hb1⟩
  · have H5 := hide (fun W (h : At W A (svs l)) => runs_any h n cap hn (by omega))
    have H3 := hide (fun W (h : At W A (svs l)) => (dictionary_any h n cap hn (by omega)).mono fun x w' h => dres_sv h)
    have hok := runs_all l
    have hRl := runs_length (dict l) l
    have hDl := dict_length l
    unfold idxs at hok
    obtain ⟨R, hR⟩ : ∃ R, runs (dict l) l = R := ⟨_, rfl⟩
    rw [hR] at H5 hok hRl
    generalize dict l = DD at *
    obtain ⟨I, hI⟩ : ∃ I, R.map (·.1) = I := ⟨_, rfl⟩
    obtain ⟨C, hC⟩ : ∃ C, R.map (·.2) = C := ⟨_, rfl⟩
    rw [hI, hC] at hok
    rw [← hn] at hok
    have hIl : I.length = R.length := by rw [← hI, List.length_map]
    have hCl : C.length = R.length := by rw [← hC, List.length_map]
    have Hcell : Hid (∀ k (h : k < R.length), (cast2 R)[k]'(by rw [cast2_len]; exact h) = (((I.getD k 0 : Nat) : Int), ((C.getD k 0 : Nat) : Int))) := hide (fun k h => by
      rw [cast2_get R k h]
      simp [← hI, ← hC, List.getD, h])
    have hn60 : n ≤ 60 := by omega
    have hR60 : R.length ≤ 60 := by omega
    have hD60 : DD.length ≤ 60 := by omega
    have Hok := hide hok
    have HIl := hide hIl
    have HCl := hide hCl
    have Hnl := hide hnl
    have h40 : nl ≤ 40 := by omega
    have hlc2 : (cast2 R).length = R.length := cast2_len R
    have H5' : Hid (∀ W, At W A (svs l) → Calls Try.prog 18 #[.slice A n cap] W fun x w' => ∃ B c, x = .returned (.slice B R.length c) ∧ At w' B (pv (cast2 R)) ∧ Below W.heap.size W w') := hide (fun W h => (H5.out W h).mono fun x w' ⟨B, c, h1, h2, h3⟩ => ⟨B, c, by rw [h1, hlc2], h2, h3⟩)
    clear hsz hn ha hl hnl hc hl60 H5 hok hRl hDl hR hI hC hIl hCl hlc2 hm hml
    go_enter Try.func9, Try.ntmps9
    go_wp2_with fail
    refine (Haw.out).mono ?_
    rintro x w1 ⟨rfl, hb1⟩
    have Hs1 := hide (Hs.out w1 (Ha.out.below hb1))
    have hbn1 := hide hb1
    clear hb1 Haw Hs
    go_wp2_with fail
    refine (Hs1.out).mono ?_
    rintro x w2 ⟨rfl, rfl⟩
    clear Hs1
    go_wp2_with fail
    refine (H5'.out _ (Ha.out.below hbn1.out)).mono ?_
    rintro x w2 ⟨AR, capR, rfl, hatR, hb2⟩
    have hbn2 := hide (bel_step hbn1.out hb2)
    have HatR := hide hatR
    clear hb2 hbn1 hatR H5'
    go_wp2
    go_loopw [5, 6, 31] (fun nv xv c wr => ∃ k : Nat, k ≤ R.length ∧ c = .int .i64 k ∧ nv = .int .i64 ((C.take k).sum : Nat) ∧ xv = .int .i64 (nx (I.take k) : Nat) ∧ Below w2.heap.size w2 wr) (fun _ _ c _ => (R.length - intOf c).toNat)
    case atStart => exact ⟨0, by omega, rfl, rfl, rfl, Below.refl _ _⟩
    case round =>
      obtain ⟨k, hk, rfl, rfl, rfl, hf⟩ := hrel
      have hsl := sum_le C k
      rw [Hok.out.sum] at hsl
      have hnx := nx_le (I.take k)
      rw [List.length_take] at hnx
      by_cases hlt : k < R.length
      · have hkI : k < I.length := by rw [HIl.out]; exact hlt
        have hkC : k < C.length := by rw [HCl.out]; exact hlt
        have hpk := pv_get (cast2 R) k (by rw [cast2_len]; exact hlt)
        rw [Hcell.out k hlt, show I.getD k 0 = I[k] by simp [List.getD, hkI], show C.getD k 0 = C[k] by simp [List.getD, hkC]] at hpk
        have hpos := Hok.out.pos C[k] (List.getElem_mem _)
        have heach := Hok.out.each k hkI
        have hst1 := nx_take I k hkI
        have hst2 := sum_take C k hkC
        have hsl2 := sum_le C (k + 1)
        rw [Hok.out.sum, hst2] at hsl2
        have hapart : 0 < k → ∀ h1 : k - 1 < I.length, I[k - 1] ≠ I[k] := fun h0 h1 => by
          have := Hok.out.apart (k - 1) (by omega)
          simpa [show k - 1 + 1 = k from by omega] using this
        obtain ⟨ri, hri⟩ : ∃ ri, I[k] = ri := ⟨_, rfl⟩
        obtain ⟨rc, hrc⟩ : ∃ rc, C[k] = rc := ⟨_, rfl⟩
        rw [hri] at hpk heach hst1 hapart
        rw [hrc] at hpk hpos hst2 hsl2
        obtain ⟨N, hN⟩ : ∃ N, nx (I.take k) = N := ⟨_, rfl⟩
        obtain ⟨SC, hSC⟩ : ∃ SC, (C.take k).sum = SC := ⟨_, rfl⟩
        rw [hN] at heach hst1 hnx ⊢
        rw [hSC] at hst2 hsl hsl2 ⊢
        have hat := HatR.out.below hf
        obtain ⟨bB, oB, hB, hbB, hcB0⟩ := hat.get (k * 2) _ hpk.1
        obtain ⟨bB', oB', hB', _, hcB1⟩ := hat.get (k * 2 + 1) _ hpk.2
        rw [hB] at hB'
        injection hB' with hB'
        injection hB' with hB1 hB2
        subst hB1; subst hB2
        unfold iv at hcB0 hcB1
        have hcB1' : wr.cell? ⟨bB, oB + k * 2 + 1, none⟩ = some (.int .i64 (rc : Int)) := hcB1
        have hprev : (k = 0 ∧ decide ((0 : Int) < (k : Int)) = false ∧ decide (0 < k) = false) ∨ (0 < k ∧ decide ((0 : Int) < (k : Int)) = true ∧ decide (0 < k) = true ∧ ∃ pi : Nat, ((pi : Int) == (ri : Int)) = false ∧ wr.cell? ⟨bB, oB + (k - 1) * 2, none⟩ = some (.int .i64 (pi : Int))) := by
          rcases Nat.eq_zero_or_pos k with h0 | h0
          · exact .inl ⟨h0, decide_eq_false (by omega), decide_eq_false (by omega)⟩
          · right
            have hk1 : k - 1 < R.length := by omega
            have hpp := pv_get (cast2 R) (k - 1) (by rw [cast2_len]; exact hk1)
            have hk1I : k - 1 < I.length := by rw [HIl.out]; exact hk1
            rw [Hcell.out (k - 1) hk1, show I.getD (k - 1) 0 = I[k - 1] by simp [List.getD, hk1I]] at hpp
            obtain ⟨b2, o2, h2, _, hcP⟩ := hat.get ((k - 1) * 2) _ hpp.1
            rw [hB] at h2
            injection h2 with h2
            injection h2 with h2 h3
            subst h2; subst h3
            have hap := hapart h0 (by rw [HIl.out]; exact hk1)
            refine ⟨h0, decide_eq_true (by omega), decide_eq_true h0, I[k - 1], ?_, hcP⟩
            rw [beq_eq_false_iff_ne]
            omega
        subst hB
        have d1 : decide ((rc : Int) < 1) = false := decide_eq_false (by omega)
        have d2 : decide ((N : Int) < (ri : Int)) = false := decide_eq_false (by omega)
        have d3 : decide ((ri : Int) < 0) = false := decide_eq_false (by omega)
        have d2' : decide (N < ri) = false := decide_eq_false (by omega)
        have hbBr : bB < wr.heap.size := hbB
        have hk0 : (0 : Int) ≤ (k : Int) := by omega
        have hk1 : (k : Int) < (R.length : Int) := by omega
        have x0 : (wr.alloc (.cells #[.int .i64 (ri : Int), .int .i64 (rc : Int)] 54)).cell? ⟨wr.heap.size, 0, none⟩ = some (.int .i64 (ri : Int)) := (Bk.new wr 54 #[.int .i64 (ri : Int), .int .i64 (rc : Int)]).cell 0
        have x1 : (wr.alloc (.cells #[.int .i64 (ri : Int), .int .i64 (rc : Int)] 54)).cell? ⟨wr.heap.size, 1, none⟩ = some (.int .i64 (rc : Int)) := (Bk.new wr 54 #[.int .i64 (ri : Int), .int .i64 (rc : Int)]).cell 1
        have hfa := hide (hf.alloc hf.size (.cells #[.int .i64 (ri : Int), .int .i64 (rc : Int)] 54))
        have St1 := hide hst1
        have St2 := hide hst2
        clear hpk hri hrc hN hSC hat hapart hst1 hst2 hf hcB1
        rcases hprev with ⟨hz, e1, e2⟩ | ⟨hz, e1, e2, pi, e3, hcP⟩
        · clear hz
          go_wp2
          go_quiet (fail)
          have hfD := hide (bdN hfa.out nq)
          have y0 : ((wr.alloc (.cells #[.int .i64 (ri : Int), .int .i64 (rc : Int)] 54)).drewN nq).cell? ⟨wr.heap.size, 0, none⟩ = some (.int .i64 (ri : Int)) := x0
          have y1 : ((wr.alloc (.cells #[.int .i64 (ri : Int), .int .i64 (rc : Int)] 54)).drewN nq).cell? ⟨wr.heap.size, 1, none⟩ = some (.int .i64 (rc : Int)) := x1
          generalize hWW : (wr.alloc (.cells #[.int .i64 (ri : Int), .int .i64 (rc : Int)] 54)).drewN nq = W at *
          clear hWW x0 x1 hfa hcB0 hcB1'
          by_cases hnew : ri = N
          · have e5 : ((ri : Int) == (N : Int)) = true := by rw [beq_iff_eq]; omega
            have hst := St1.out
            rw [if_pos hnew] at hst
            have Hst := hide hst
            clear hnew hst
            go_wp2
            refine ⟨⟨k + 1, by omega, by go_num, by rw [St2.out]; go_num, by rw [Hst.out]; go_num, hfD.out⟩, ?_⟩
            simp [intOf] <;> omega
          · have e5 : ((ri : Int) == (N : Int)) = false := by rw [beq_eq_false_iff_ne]; omega
            have hst := St1.out
            rw [if_neg hnew] at hst
            have Hst := hide hst
            clear hnew hst
            go_wp2
            refine ⟨⟨k + 1, by omega, by go_num, by rw [St2.out]; go_num, by rw [Hst.out], hfD.out⟩, ?_⟩
            simp [intOf] <;> omega
        · have ik : (k : Int) - 1 = ((k - 1 : Nat) : Int) := by omega
          obtain ⟨kp, hkp⟩ : ∃ kp, k - 1 = kp := ⟨_, rfl⟩
          rw [hkp] at ik hcP
          have hkp1 : (0 : Int) ≤ (kp : Int) := by omega
          have hkp2 : (kp : Int) < (R.length : Int) := by omega
          clear hkp
          go_wp2
          go_quiet (fail)
          have hfD := hide (bdN hfa.out nq)
          have y0 : ((wr.alloc (.cells #[.int .i64 (ri : Int), .int .i64 (rc : Int)] 54)).drewN nq).cell? ⟨wr.heap.size, 0, none⟩ = some (.int .i64 (ri : Int)) := x0
          have y1 : ((wr.alloc (.cells #[.int .i64 (ri : Int), .int .i64 (rc : Int)] 54)).drewN nq).cell? ⟨wr.heap.size, 1, none⟩ = some (.int .i64 (rc : Int)) := x1
          generalize hWW : (wr.alloc (.cells #[.int .i64 (ri : Int), .int .i64 (rc : Int)] 54)).drewN nq = W at *
          clear hWW x0 x1 hfa hcB0 hcB1' hcP
          by_cases hnew : ri = N
          · have e5 : ((ri : Int) == (N : Int)) = true := by rw [beq_iff_eq]; omega
            have hst := St1.out
            rw [if_pos hnew] at hst
            have Hst := hide hst
            clear hnew hst
            go_wp2
            refine ⟨⟨k + 1, by omega, by go_num, by rw [St2.out]; go_num, by rw [Hst.out]; go_num, hfD.out⟩, ?_⟩
            simp [intOf] <;> omega
          · have e5 : ((ri : Int) == (N : Int)) = false := by rw [beq_eq_false_iff_ne]; omega
            have hst := St1.out
            rw [if_neg hnew] at hst
            have Hst := hide hst
            clear hnew hst
            go_wp2
            refine ⟨⟨k + 1, by omega, by go_num, by rw [St2.out]; go_num, by rw [Hst.out], hfD.out⟩, ?_⟩
            simp [intOf] <;> omega
      · have hkR : k = R.length := by omega
        have hIt : I.take k = I := List.take_of_length_le (by rw [HIl.out]; omega)
        have hCt : C.take k = C := List.take_of_length_le (by rw [HCl.out]; omega)
        rw [hIt, hCt, Hok.out.sum, Hok.out.next]
        have hbx := hide (hbn2.out.trans (hf.mono hbn2.out.size))
        have hbn : ((n : Int) != (n : Int)) = false := by simp
        have hbd : ((DD.length : Int) != (DD.length : Int)) = false := by simp
        have hbA := hide (Ha.out.below hbx.out)
        have hbL := hide (HL.out.below hbx.out)
        have Hd := hide (H3.out _ hbA.out)
        clear hIt hCt hlt hsl hnx hf
        by_cases hch : chkn L = 0
        · obtain ⟨g1, g2⟩ := front_ok hch
          have hu := unfront_of_front hch
          have hfz := hide (fun i (hi : i + 1 < L.length) => front_zero hch i hi)
          obtain ⟨⟨X, xe⟩, hX⟩ : ∃ z, front L = z := ⟨_, rfl⟩
          have hX1 : xe = 0 ∧ X.length = nl := by
            unfold front at hX
            rw [if_pos hch] at hX
            injection hX with h1 h2
            refine ⟨h2.symm, ?_⟩
            rw [← h1, frontA_length, List.length_map, Hnl.out]
          obtain ⟨hxe, hXl⟩ := hX1
          subst hxe
          rw [hX] at hu hfz
          simp only at hu hfz
          have HF : Hid (∀ W, At W An (ivs L) → Calls Try.prog 20 #[.slice An nl capl] W fun x w' => ∃ B c, x = .returned (.tuple #[.slice B nl c, .int .i64 0]) ∧ At w' B (ns X) ∧ Below W.heap.size W w') := hide (fun W h => by
            have := pfront_any h nl capl Hnl.out (by omega)
            rw [hX] at this
            refine this.mono fun x w' h => ?_
            obtain ⟨B, c, h1, h2, h3⟩ := nres_ns h
            exact ⟨B, c, by rw [h1, hXl]; rfl, h2, h3⟩)
          have HU : Hid (∀ W B c, At W B (ns X) → Calls Try.prog 22 #[.slice B nl c] W fun x w' => ∃ B' c', x = .returned (.tuple #[.slice B' nl c', .int .i64 0]) ∧ At w' B' (ivs L) ∧ Below W.heap.size W w') := hide (fun W B c h => by
            have := punfront_any (l := X.map Int.ofNat) h nl c (by rw [List.length_map, hXl]) (by omega)
            rw [hu] at this
            refine this.mono fun x w' h => ?_
            obtain ⟨B, c, h1, h2, h3⟩ := nres_ns h
            rw [List.length_map, ← Hnl.out] at h1
            rw [← ivs_ns g2] at h2
            exact ⟨B, c, h1, h2, h3⟩)
          have HI : Hid (∀ W B c, At W B (ivs L) → At W An (ivs L) → Calls Try.prog 24 #[.slice B nl c, .slice An nl capl] W fun x w' => x = .returned (.bool true) ∧ ∃ q, w' = W.drewN q) := hide (fun W B c h1 h2 => by
            have := ints_any h1 h2 nl c nl capl Hnl.out Hnl.out (by omega) (by omega)
            simpa using this)
          have hbm : ((nl : Int) != (nl : Int)) = false := by simp
          have G2 := hide g2
          have HXl := hide hXl
          clear hu hX hch g1 g2 hXl
          go_wp2_with fail
          refine (Hd.out).mono ?_
          rintro x w4 ⟨B4, c4, rfl, _, hb4⟩
          have hbn4 := hide (bel_step hbx.out hb4)
          have hL4 := hide (hbL.out.below hb4)
          clear hb4 hbx hbL hbA Hd
          go_wp2_with fail
          refine (HF.out _ hL4.out).mono ?_
          rintro x w5 ⟨B5, c5, rfl, hx5, hb5⟩
          have hbn5 := hide (bel_step hbn4.out hb5)
          have hL5 := hide (hL4.out.below hb5)
          have hX5 := hide hx5
          clear hb5 hbn4 hL4 hx5
          go_wp2
          go_loop [13, 94] (fun _ c => ∃ k : Nat, k ≤ nl ∧ c = .int .i64 k) (fun _ c => (nl - intOf c).toNat)
          case atStart => exact ⟨0, by omega, rfl⟩
          case round =>
            obtain ⟨k, hk, rfl⟩ := hrel
            by_cases hlt : k < nl
            · have hkL : k < L.length := by rw [← Hnl.out]; exact hlt
              obtain ⟨v, hv⟩ : ∃ v, L[k] = v := ⟨_, rfl⟩
              obtain ⟨bA, oA, hA, hbA, hcA⟩ := hL5.out.get k (.int .i64 v) (by rw [← hv]; simp [ivs, iv, hkL])
              subst hA
              have hgv := G2.out v (hv ▸ List.getElem_mem _)
              have b1 : ¬ v < 0 := by omega
              have b2 : ¬ (4096 : Int) ≤ v := by omega
              clear hv hgv
              go_wp2
              go_round
              case rel => exact ⟨k + 1, by omega, by go_num⟩
              case measure => simp [intOf] <;> omega
            · go_wp2_with fail
              refine (HU.out _ _ _ hX5.out).mono ?_
              rintro x w6 ⟨B6, c6, rfl, hx6, hb6⟩
              have hbn6 := hide (bel_step hbn5.out hb6)
              have hL6 := hide (hL5.out.below hb6)
              have hX6 := hide (hX5.out.below hb6)
              have I6 := hide (HI.out _ _ c6 hx6 hL6.out)
              clear hb6 hbn5 hL5 hX5 hx6
              go_wp2_with fail
              refine (I6.out).mono ?_
              rintro x w7 ⟨rfl, q7, hq7⟩
              have hbn7 := hide (drew_bel hbn6.out ⟨q7, hq7⟩)
              have hL7 := hide (show At w7 An (ivs L) from hq7 ▸ hL6.out.drewN q7)
              have hX7 := hide (show At w7 B5 (ns X) from hq7 ▸ hX6.out.drewN q7)
              clear hq7 hbn6 hL6 hX6 I6
              go_wp2
              go_loopw [16] (fun c wx => ∃ k : Nat, 1 ≤ k ∧ c = .int .i64 k ∧ ∃ q, wx = w7.drewN q) (fun c _ => (nl - intOf c).toNat)
              case atStart => exact ⟨1, by omega, rfl, 0, rfl⟩
              case round =>
                obtain ⟨m, hm1, rfl, q, rfl⟩ := hrel
                by_cases hlt3 : m < nl
                · obtain ⟨p, rfl⟩ : ∃ p, m = p + 1 := ⟨m - 1, by omega⟩
                  have hpL : p + 1 < L.length := by rw [← Hnl.out]; exact hlt3
                  have hz := hfz.out p hpL
                  obtain ⟨u, hu⟩ : ∃ u, L.getD (p + 1) 0 = u := ⟨_, rfl⟩
                  obtain ⟨v, hv⟩ : ∃ v, L.getD p 0 = v := ⟨_, rfl⟩
                  obtain ⟨y, hy⟩ : ∃ y, X.getD (p + 1) 0 = y := ⟨_, rfl⟩
                  rw [hu, hv, hy] at hz
                  obtain ⟨bA, oA, hA, hbA, hcA⟩ := hL7.out.get (p + 1) (.int .i64 u) (by rw [← hu, ivs_get _ _ hpL])
                  obtain ⟨bA2, oA2, hA2, _, hcA2⟩ := hL7.out.get p (.int .i64 v) (by rw [← hv, ivs_get _ _ (by omega)])
                  rw [hA] at hA2
                  injection hA2 with hA2
                  injection hA2 with hA2 hA3
                  subst hA2; subst hA3; subst hA
                  obtain ⟨bX, oX, hXX, hbX, hcX⟩ := hX7.out.get (p + 1) _ (ns_get X (p + 1) (by rw [HXl.out]; exact hlt3))
                  subst hXX
                  rw [hy] at hcX
                  have i1 : (((p + 1 : Nat) : Int)) - 1 = (p : Int) := by omega
                  have hp0 : (0 : Int) ≤ (p : Int) := by omega
                  have hp1 : (p : Int) < (nl : Int) := by omega
                  obtain ⟨m, hm⟩ : ∃ m, p + 1 = m := ⟨_, rfl⟩
                  rw [hm] at i1 hcA hcX hlt3 ⊢
                  have hm2 : (0 : Int) ≤ (m : Int) := by omega
                  have hm3 : (m : Int) < (nl : Int) := by omega
                  have Hm1 := hide (show 1 ≤ m by omega)
                  by_cases huv : u = v
                  · have e1 : ((y : Int) == 0) = true := by rw [beq_iff_eq]; have := hz.2 huv; omega
                    have e2 : (u == v) = true := by rw [beq_iff_eq]; exact huv
                    clear hz hu hv hy huv hm hm1
                    go_wp2
                    go_quiet (fail)
                    go_wp2
                    refine ⟨⟨m + 1, by omega, by go_num, q + nq, by first | rfl | rw [World.drewN_drewN]⟩, ?_⟩
                    simp [intOf] <;> omega
                  · have e1 : ((y : Int) == 0) = false := by rw [beq_eq_false_iff_ne]; intro h; exact huv (hz.1 (by omega))
                    have e2 : (u == v) = false := by rw [beq_eq_false_iff_ne]; exact huv
                    clear hz hu hv hy huv hm hm1
                    go_wp2
                    go_quiet (fail)
                    go_wp2
                    refine ⟨⟨m + 1, by omega, by go_num, q + nq, by first | rfl | rw [World.drewN_drewN]⟩, ?_⟩
                    simp [intOf] <;> omega
                · have hbq := hide (bdN hbn7.out q)
                  go_wp2
                  go_returns
                  exact ⟨rfl, hbq.out⟩
        · have hbadx : ∃ v ∈ L, ¬ (0 ≤ v ∧ v < 4096) := by
            rcases Classical.em (∃ v ∈ L, ¬ (0 ≤ v ∧ v < 4096)) with h | h
            · exact h
            · refine absurd (chkn_ok (by rw [← Hnl.out]; omega) (fun v hv => ?_)) hch
              rcases Classical.em (0 ≤ v ∧ v < 4096) with h2 | h2
              · exact h2
              · exact absurd ⟨v, hv, h2⟩ h
          have hc2 : chkn L = 2 := by
            unfold chkn
            rw [if_neg (by rw [← Hnl.out]; omega), if_neg]
            intro h
            obtain ⟨v, hv, hb⟩ := hbadx
            exact hb (h v hv)
          have hfr : front L = ([], 2) := by
            unfold front
            rw [if_neg hch, hc2]
          have HF : Hid (∀ W, At W An (ivs L) → Calls Try.prog 20 #[.slice An nl capl] W fun x w' => ∃ B c, x = .returned (.tuple #[.slice B 0 c, .int .i64 2]) ∧ Below W.heap.size W w') := hide (fun W h => by
            have := pfront_any h nl capl Hnl.out (by omega)
            rw [hfr] at this
            refine this.mono fun x w' h => ?_
            obtain ⟨B, c, h1, h2, h3⟩ := nres_ns h
            exact ⟨B, c, h1, h3⟩)
          have Hbad := hide hbadx
          clear hbadx hc2 hfr hch
          go_wp2_with fail
          refine (Hd.out).mono ?_
          rintro x w4 ⟨B4, c4, rfl, _, hb4⟩
          have hbn4 := hide (bel_step hbx.out hb4)
          have hL4 := hide (hbL.out.below hb4)
          clear hb4 hbx hbL hbA Hd
          go_wp2_with fail
          refine (HF.out _ hL4.out).mono ?_
          rintro x w5 ⟨B5, c5, rfl, hb5⟩
          have hbn5 := hide (bel_step hbn4.out hb5)
          have hL5 := hide (hL4.out.below hb5)
          clear hb5 hbn4 hL4
          go_wp2
          go_loop [13, 94] (fun _ c => ∃ k : Nat, k ≤ nl ∧ c = .int .i64 k ∧ Hid (∀ v ∈ L.take k, 0 ≤ v ∧ v < 4096)) (fun _ c => (nl - intOf c).toNat)
          case atStart => exact ⟨0, by omega, rfl, hide (by simp)⟩
          case round =>
            obtain ⟨k, hk, rfl, hall⟩ := hrel
            by_cases hlt : k < nl
            · have hkL : k < L.length := by rw [← Hnl.out]; exact hlt
              obtain ⟨v, hv⟩ : ∃ v, L[k] = v := ⟨_, rfl⟩
              obtain ⟨bA, oA, hA, hbA, hcA⟩ := hL5.out.get k (.int .i64 v) (by rw [← hv]; simp [ivs, iv, hkL])
              subst hA
              by_cases hbad : v < 0 ∨ 4096 ≤ v
              · have hb2 : v < 0 ∨ (¬ v < 0 ∧ (4096 : Int) ≤ v) := by omega
                clear hv hbad
                rcases hb2 with b1 | ⟨b1, b2⟩
                all_goals
                  go_wp2
                  go_returns
                  exact ⟨rfl, hbn5.out⟩
              · have b1 : ¬ v < 0 := by omega
                have b2 : ¬ (4096 : Int) ≤ v := by omega
                have hall2 : Hid (∀ u ∈ L.take (k + 1), 0 ≤ u ∧ u < 4096) := hide (by
                  intro u hu
                  rw [List.take_succ_eq_append_getElem hkL, hv] at hu
                  rcases List.mem_append.1 hu with h | h
                  · exact hall.out u h
                  · rw [List.mem_singleton] at h; omega)
                clear hv hbad
                go_wp2
                go_round
                case rel => exact ⟨k + 1, by omega, by go_num, hall2⟩
                case measure => simp [intOf] <;> omega
            · obtain ⟨v, hv, hb⟩ := Hbad.out
              refine absurd (hall.out v ?_) hb
              rw [List.take_of_length_le (by rw [← Hnl.out]; omega)]
              exact hv
end Go.Proofs.Ythbgbnlnpepolaa
