/-
  The walks over the reference of times: the times of a clock with exceptions.
-/
import Derived.Test.YtgllednilkfpgaaGreatJ31
import Derived.Test.YtgllednilkfpgaaGreatJ37
import Derived.Test.YtgllednilkfpgaaGreatJ18
import Derived.Test.YtgllednilkfpgaaGreatJ21
import Derived.Test.YtgllednilkfpgaaGreatJ35
set_option linter.unusedVariables false
set_option linter.unusedSimpArgs false
namespace Go.Proofs.YtgllednilkfpgaaGreat
open Go.RowKit Go.Proofs Wv Wv.Vi Wv.Rc Wv.Mo Wv.Ru Wv.Tm
set_option linter.unusedVariables false

theorem own_low {w : World} {base base' e size n : Nat} {v : Value} {xs : List Value} (h : w.ownsRow base e size v n xs) (hb : base' ≤ base) : w.ownsRow base' e size v n xs := by
  refine ⟨h.1, ?_⟩
  rcases h.2 with h2 | ⟨g, cap, cur, hv, hg, rest⟩
  · exact .inl h2
  · exact .inr ⟨g, cap, cur, hv, by omega, rest⟩
/-- The merging's state. -/
theorem mrg_end {m : List Int} {i k : Nat} {T F : List Int} (hi : T.length ≤ i) (hk : F.length ≤ k) : mrg m i (T.drop i) (F.drop k) = [] := by
  rw [List.drop_eq_nil_of_le hi, List.drop_eq_nil_of_le hk, mrg]
theorem mrg_t {m : List Int} {i k : Nat} {T F : List Int} (hi : i < T.length) (h : F.length ≤ k ∨ ∃ h : k < F.length, T[i] ≤ F[k]) : mrg m i (T.drop i) (F.drop k) = (if m.contains (i : Int) then [] else [T[i]]) ++ mrg m (i + 1) (T.drop (i + 1)) (F.drop k) := by
  rw [List.drop_eq_getElem_cons hi]
  rcases h with h | ⟨h, h2⟩
  · rw [List.drop_eq_nil_of_le h, mrg]
  · rw [List.drop_eq_getElem_cons h, mrg, if_pos h2]
theorem mrg_f {m : List Int} {i k : Nat} {T F : List Int} (hk : k < F.length) (h : T.length ≤ i ∨ ∃ h : i < T.length, F[k] < T[i]) : mrg m i (T.drop i) (F.drop k) = F[k] :: mrg m i (T.drop i) (F.drop (k + 1)) := by
  rcases h with h | ⟨h, h2⟩
  · rw [List.drop_eq_nil_of_le h, mrg, mrg, List.drop_eq_getElem_cons hk]
  · rw [List.drop_eq_getElem_cons hk, List.drop_eq_getElem_cons h, mrg, if_neg (by omega)]
/-- What the call of Times leaves. -/
def NkS (w : World) (g n0 n1 n2 n3 : Nat) (T : ByteArray) (F : Nat) (W : World) : Prop := W.cell? ⟨g, 0, none⟩ = some (.int .i64 (n0 : Int)) ∧ W.cell? ⟨g, 1, none⟩ = some (.int .i64 (n1 : Int)) ∧ W.cell? ⟨g, 2, none⟩ = some (.int .i64 (n2 : Int)) ∧ W.cell? ⟨g, 3, none⟩ = some (.int .i64 (n3 : Int)) ∧ SB W w.heap.size T (F : Int) ∧ Below w.heap.size w W
theorem NkS.sb {w W : World} {g n0 n1 n2 n3 : Nat} {T : ByteArray} {F : Nat} (h : NkS w g n0 n1 n2 n3 T F W) : Hid (SB W w.heap.size T (F : Int)) := hide h.2.2.2.2.1
theorem NkS.bel {w W : World} {g n0 n1 n2 n3 : Nat} {T : ByteArray} {F : Nat} (h : NkS w g n0 n1 n2 n3 T F W) : Hid (Below w.heap.size w W) := hide h.2.2.2.2.2
theorem clk_do0 (D : ByteArray) (hD : D.size ≤ 1000000000) (i : Nat) (W : World) : Calls Tryz.prog 68 #[.agg #[.string (zs D i).1, .int .i64 ((zs D i).2 : Int)], .agg #[.int .i64 0, .int .i64 0, .int .i64 1099511627776]] W fun r w' => r = .returned (.tuple #[.agg #[.string (zs D (i + 1)).1, .int .i64 ((zs D (i + 1)).2 : Int)], .int .i64 (zn D i : Int), .string ⟨#[]⟩]) ∧ Below W.heap.size W w' := by
  have hz := zs_size D i
  have hs := zs_step D i
  generalize zs D i = p at *
  generalize zs D (i + 1) = q at *
  generalize zn D i = n at *
  have h := rdo0_any (s := p.1) (by omega) p.2 1099511627776 W
  rw [dv0_of hs] at h
  exact h
theorem clk_do3 (D : ByteArray) (hD : D.size ≤ 1000000000) (W : World) : Calls Tryz.prog 68 #[.agg #[.string (zs D 4).1, .int .i64 ((zs D 4).2 : Int)], .agg #[.int .i64 3, .int .i64 0, .int .i64 (D.size : Int)]] W fun r w' => r = .returned (.tuple #[.agg #[.string (z5 D).2.1, .int .i64 ((z5 D).2.2 : Int)], .int .i64 0, .string (z5 D).1]) ∧ Below W.heap.size W w' := by
  have hz := zs_size D 4
  have hs := z5_eq D
  generalize zs D 4 = p at *
  generalize z5 D = q at *
  have h := rdo3_any (s := p.1) (by omega) p.2 (D.size : Int) W
  rw [dv3_of hs] at h
  exact h
set_option maxRecDepth 100000 in
set_option maxHeartbeats 4000000 in
theorem nclocked_any (s : List UInt8) (hs : s.length ≤ 1000000000) (w : World) :
    Calls Tryz.prog 45 #[.string (bs s)] w fun x w' => JRes w (readC s) x w' := by
  have hds : (bs s).size ≤ 1000000000 := by rw [bs_size]; exact hs
  have Hsl := hide hs
  have Hrc := hide (rclkN s)
  obtain ⟨R, hR⟩ : ∃ R, readC s = R := ⟨_, rfl⟩
  rw [hR] at Hrc ⊢
  obtain ⟨D, hD⟩ : ∃ D, bs s = D := ⟨_, rfl⟩
  rw [hD] at Hrc hds ⊢
  have Hdo := hide (fun i W => clk_do0 D hds i W)
  have Hd3 := hide (fun W => clk_do3 D hds W)
  have Hzl := hide (fun i => zn_le D i)
  have hz0 : zs D 0 = (D, 0) := rfl
  have hcz : zc D = ⟨(zn D 0 : Int), (zn D 1 : Int), (zn D 2 : Int), (zn D 3 : Int)⟩ := rfl
  obtain ⟨Z, hZ⟩ : ∃ Z, zn D = Z := ⟨_, rfl⟩
  obtain ⟨ZS, hZS⟩ : ∃ Z, zs D = Z := ⟨_, rfl⟩
  obtain ⟨X5, hX5⟩ : ∃ X, z5 D = X := ⟨_, rfl⟩
  rw [hZ] at Hdo Hzl hcz
  rw [hZS] at Hdo Hd3 hz0
  rw [hX5] at Hd3 Hrc
  obtain ⟨c, hc⟩ : ∃ c, zc D = c := ⟨_, rfl⟩
  rw [hc] at Hrc hcz
  obtain ⟨X, T, F⟩ := X5
  simp only at Hd3 Hrc
  have Hz0 := hide hz0
  have Hcz := hide hcz
  have hb0 := hide ((Below.refl w.heap.size w).alloc (Nat.le_refl _) (.cells #[.string D, .int .i64 0] 93))
  have Hst := hide (show SB ((w.alloc (.cells #[.string D, .int .i64 0] 93)).alloc (.cells #[] 3)) w.heap.size (ZS 0).1 ((ZS 0).2 : Int) by rw [hz0]; exact SB.alloc (Bk.new _ _ _) _)
  have ho0 := own_made0 3 (w.alloc (.cells #[.string D, .int .i64 0] 93))
  have Ho0 := hide (own_low (base' := w.heap.size) ho0 (by simp))
  rw [World.size_alloc] at Ho0
  have Hb0 := hide (hb0.out.alloc hb0.out.size (.cells #[] 3))
  clear hs hR hD hZ hZS hX5 hc hz0 hcz hb0 ho0
  go_enter Tryz.func45, Tryz.ntmps45
  go_wp2
  go_loopw [5, 6] (fun s5 s6 wr => ∃ i : Nat, i ≤ 4 ∧ s6 = .int .i64 (i : Int) ∧ Hid (SB wr w.heap.size (ZS i).1 ((ZS i).2 : Int)) ∧ Hid (wr.ownsRow w.heap.size 3 1 s5 i (ns ((List.range i).map Z))) ∧ Hid (Below w.heap.size w wr)) (fun _ s6 _ => (4 - intOf s6).toNat)
  case atStart => exact ⟨0, by omega, rfl, Hst, Ho0, Hb0⟩
  case round =>
    clear Hst Ho0 Hb0
    obtain ⟨i, hi, rfl, hsb, hown, hb⟩ := hrel
    by_cases hlt : i < 4
    · have hlti : (i : Int) < 4 := by omega
      have Hc := hide (Hdo.out i)
      have hzl := Hzl.out i
      have hr1 : (List.range (i + 1)).map Z = (List.range i).map Z ++ [Z i] := by rw [List.range_succ, List.map_append]; rfl
      obtain ⟨n, hn⟩ : ∃ n, Z i = n := ⟨_, rfl⟩
      rw [hn] at Hc hr1
      have Hr1 := hide hr1
      obtain ⟨⟨S0, E0⟩, hS0⟩ : ∃ p, ZS i = p := ⟨_, rfl⟩
      obtain ⟨⟨S1, E1⟩, hS1⟩ : ∃ p, ZS (i + 1) = p := ⟨_, rfl⟩
      rw [hS0] at Hc hsb
      rw [hS1] at Hc
      have HS1 := hide hS1
      simp only at Hc hsb
      obtain ⟨⟨c0, c1⟩, f0, f1⟩ := SB.cells hsb.out
      obtain ⟨A5, M5, cap5, rfl⟩ := own_slice hown.out
      clear hr1 hn hS0 hS1 Hrc Hd3 Hzl Hcz Hdo
      go_wp2_with fail
      refine (Hc.out _).mono ?_
      rintro x w2 ⟨rfl, hb2⟩
      have hx4 := SB.alloc (SB.below hsb.out hb2) (.cells #[.string S1, .int .i64 (E1 : Int)] 93)
      have hy4 : SB (w2.alloc (.cells #[.string S1, .int .i64 (E1 : Int)] 93)) w2.heap.size S1 (E1 : Int) := Bk.new _ _ _
      have hf4 := hb.out.trans (hb2.mono hb.out.size)
      have Hf4 := hide (hf4.alloc hf4.size (.cells #[.string S1, .int .i64 (E1 : Int)] 93))
      have Hown4 := hide ((own_fr hown.out (Fr.of_below (S := nob) hb2) (fun _ _ f => f)).alloc (.cells #[.string S1, .int .i64 (E1 : Int)] 93))
      have Hx4 := hide hx4
      have Hy4 := hide hy4
      clear hx4 hy4 hf4 hb2 hsb hown hb c0 c1 f0 f1 Hc
      go_upto_region 7 with fail
      obtain ⟨Q, hQ⟩ : ∃ Q, w2.heap.size = Q := ⟨_, rfl⟩
      obtain ⟨W4, hW4⟩ : ∃ W, w2.alloc (.cells #[.string S1, .int .i64 (E1 : Int)] 93) = W := ⟨_, rfl⟩
      rw [hW4] at Hf4 Hown4 Hx4 Hy4 ⊢
      rw [hQ] at Hy4 ⊢
      clear hQ hW4
      obtain ⟨⟨c0, c1⟩, _, _⟩ := SB.cells Hy4.out
      obtain ⟨⟨x0, x1⟩, f0, f1⟩ := SB.cells Hx4.out
      obtain ⟨va, wa, ra, oa, ba, ka⟩ := app_own (P := Tryz.prog) 22 3 _ _ Tryz.underlying22 intinf rfl (w := W4.drew) (show W4.drew.ownsRow w.heap.size 3 1 _ _ _ from Hown4.out.drew) Hf4.out.drew Hf4.out.size (.int .i64 (n : Int)) rfl (by unfold maxLen; omega) (by omega)
      obtain ⟨A9, M9, cap9, rfl⟩ := own_slice oa
      have hya : SB wa Q S1 (E1 : Int) := ka _ _ _ (show Bk W4.drew Q 93 #[.string S1, .int .i64 (E1 : Int)] from Hy4.out) (by decide)
      have hxa : SB wa w.heap.size S0 (E0 : Int) := ka _ _ _ (show Bk W4.drew w.heap.size 93 #[.string S0, .int .i64 (E0 : Int)] from Hx4.out) (by decide)
      obtain ⟨⟨y0, y1⟩, _, _⟩ := SB.cells hya
      obtain ⟨⟨z0, z1⟩, g0, g1⟩ := SB.cells hxa
      have Hra := hide (show (Builtin.append_ #[22, 22] 22 #[.slice A5 M5 cap5, .slice (some ⟨W4.heap.size, 0, none⟩) 1 1]).run Tryz.prog (W4.alloc (.cells #[.int .i64 (n : Int)] 3)).drew = .ok (.slice A9 M9 cap9) wa from ra)
      have ly := Bk.lt Hy4.out
      have lx := Bk.lt Hx4.out
      have hsF := (SB.put0 hxa S1).put1 (E1 : Int)
      have hoF := own_fr oa (only_set (only_set (Fr.refl (only w.heap.size) wa) 0 (.string S1)) 1 (.int .i64 (E1 : Int))) (fun g hg h => own_apart oa hxa (by decide) (by rw [hg]; exact congrArg some h))
      have hfF := (ba.setCell (p := ⟨w.heap.size, 0, none⟩) (Nat.le_refl _) (.string S1)).setCell (p := ⟨w.heap.size, 1, none⟩) (Nat.le_refl _) (.int .i64 (E1 : Int))
      have HsF := hide (show SB ((wa.setCell ⟨w.heap.size, 0, none⟩ (.string S1)).setCell ⟨w.heap.size, 1, none⟩ (.int .i64 (E1 : Int))) w.heap.size (ZS (i + 1)).1 ((ZS (i + 1)).2 : Int) by rw [HS1.out]; exact hsF)
      have HoF := hide (show ((wa.setCell ⟨w.heap.size, 0, none⟩ (.string S1)).setCell ⟨w.heap.size, 1, none⟩ (.int .i64 (E1 : Int))).ownsRow w.heap.size 3 1 (.slice A9 M9 cap9) (i + 1) (ns ((List.range (i + 1)).map Z)) by rw [Hr1.out, ns_snoc]; exact hoF)
      have HfF := hide hfF
      clear ra oa ba ka hya hxa hsF hoF hfF Hf4 Hown4 Hx4 Hy4 Hr1 HS1 hzl
      go_wp2
      go_region_law ((refine step_runW (by with_reducible rfl) (by rfl) _ _ _ (by rfl) _ _ (by rfl) (by rfl) Hra.out ?_))
      all_goals
        clear y0 y1 z0 z1 g0 g1 c0 c1 x0 x1 f0 f1 Hra
        generalize ((wa.setCell ⟨w.heap.size, 0, none⟩ (.string S1)).setCell ⟨w.heap.size, 1, none⟩ (.int .i64 (E1 : Int))) = W9 at *
        go_wp2
        refine ⟨⟨i + 1, by omega, by go_num, HsF, HoF, HfF⟩, ?_⟩
        simp [intOf] <;> omega
    · have hi4 : i = 4 := by omega
      subst hi4
      clear hlt hi Hdo
      obtain ⟨g, capg, rfl, hcg⟩ := own_form hown.out (by omega)
      obtain ⟨⟨S4, E4⟩, hS4⟩ : ∃ p, ZS 4 = p := ⟨_, rfl⟩
      rw [hS4] at Hd3 hsb
      simp only at Hd3 hsb
      obtain ⟨⟨c0, c1⟩, _, _⟩ := SB.cells hsb.out
      have hRange : (List.range 4).map Z = [Z 0, Z 1, Z 2, Z 3] := rfl
      rw [hRange] at hown
      obtain ⟨n0, hn0⟩ : ∃ n, Z 0 = n := ⟨_, rfl⟩
      obtain ⟨n1, hn1⟩ : ∃ n, Z 1 = n := ⟨_, rfl⟩
      obtain ⟨n2, hn2⟩ : ∃ n, Z 2 = n := ⟨_, rfl⟩
      obtain ⟨n3, hn3⟩ : ∃ n, Z 3 = n := ⟨_, rfl⟩
      have hcz := Hcz.out
      rw [hn0, hn1, hn2, hn3] at hcz hown
      have Hcv : Hid (CV c = .agg #[.int .i64 (n0 : Int), .int .i64 (n1 : Int), .int .i64 (n2 : Int), .int .i64 (n3 : Int)]) := hide (by rw [hcz]; rfl)
      have Hapart := hide (own_apart hown.out hsb.out (by decide))
      clear hS4 hRange hn0 hn1 hn2 hn3 hcz Hcz Hzl Hz0
      go_wp2_with fail
      refine (Hd3.out _).mono ?_
      rintro x w2 ⟨rfl, hb2⟩
      have hsb2 := SB.below hsb.out hb2
      have hown2 := own_fr hown.out (Fr.of_below (S := nob) hb2) (fun _ _ f => f)
      have hbw2 := hb.out.trans (hb2.mono hb.out.size)
      clear c0 c1
      obtain ⟨_, f0, f1⟩ := SB.cells hsb2
      have hk : SB ((w2.setCell ⟨w.heap.size, 0, none⟩ (.string T)).setCell ⟨w.heap.size, 1, none⟩ (.int .i64 (F : Int))) w.heap.size T (F : Int) := (SB.put0 hsb2 T).put1 (F : Int)
      have ho := own_fr hown2 (only_set (only_set (Fr.refl (only w.heap.size) w2) 0 (.string T)) 1 (.int .i64 (F : Int))) (fun g' hg h => Hapart.out (by rw [hg]; exact congrArg some h))
      have hbF := (hbw2.setCell (p := ⟨w.heap.size, 0, none⟩) (Nat.le_refl _) (.string T)).setCell (p := ⟨w.heap.size, 1, none⟩) (Nat.le_refl _) (.int .i64 (F : Int))
      have Hk := hide hk
      have Ho := hide ho
      have HbF := hide hbF
      clear hk ho hbF hsb2 hown2 hbw2 hb2 hsb hown hb Hd3 Hapart
      go_upto_region 9 with fail
      obtain ⟨W3, hW3⟩ : ∃ W, ((w2.setCell ⟨w.heap.size, 0, none⟩ (.string T)).setCell ⟨w.heap.size, 1, none⟩ (.int .i64 (F : Int))) = W := ⟨_, rfl⟩
      rw [hW3] at Hk Ho HbF ⊢
      clear hW3 f0 f1
      obtain ⟨A4, cap4, hv4, hat4⟩ := own_at Ho.out
      injection hv4 with h5 h6 h7
      subst h5; subst h7
      obtain ⟨_, _, e0, hb0', l0⟩ := hat4.get 0 (.int .i64 (n0 : Int)) rfl
      obtain ⟨_, _, e1, _, l1⟩ := hat4.get 1 (.int .i64 (n1 : Int)) rfl
      obtain ⟨_, _, e2, _, l2⟩ := hat4.get 2 (.int .i64 (n2 : Int)) rfl
      obtain ⟨_, _, e3, _, l3⟩ := hat4.get 3 (.int .i64 (n3 : Int)) rfl
      injection e0 with e0; injection e0 with e0 o0
      injection e1 with e1; injection e1 with e1 o1
      injection e2 with e2; injection e2 with e2 o2
      injection e3 with e3; injection e3 with e3 o3
      subst e0; subst o0; subst e1; subst o1; subst e2; subst o2; subst e3; subst o3
      simp only [Nat.zero_add] at l0 l1 l2 l3
      obtain ⟨TT, hTT⟩ : ∃ t, (if vclk c = true then timesL c else []) = t := ⟨_, rfl⟩
      obtain ⟨EE, hEE⟩ : ∃ e : Nat, (if vclk c = true then 0 else 1) = e := ⟨_, rfl⟩
      have Htm : Hid (∀ W, Calls Tryz.prog 13 #[.agg #[.int .i64 (n0 : Int), .int .i64 (n1 : Int), .int .i64 (n2 : Int), .int .i64 (n3 : Int)]] W fun x w' => ∃ A cap, x = .returned (.tuple #[.slice A TT.length cap, .int .i64 (EE : Int)]) ∧ At w' A (ivs TT) ∧ Below W.heap.size W w') := hide (fun W => by
        have h := ntimes_any c W
        rw [Hcv.out] at h
        refine h.mono fun x w' hx => ?_
        obtain ⟨A, cap, e, hx, he, hat, hb⟩ := hx
        rw [hTT] at hx hat
        rw [hEE] at he
        rw [he] at hx
        exact ⟨A, cap, hx, hat, hb⟩)
      have HTT := hide hTT
      have HEE := hide hEE
      have hcg4 : (4 : Int) ≤ (capg : Int) := by omega
      have hS : W3.drew.cell? ⟨g, 0, none⟩ = some (.int .i64 (n0 : Int)) ∧ W3.drew.cell? ⟨g, 1, none⟩ = some (.int .i64 (n1 : Int)) ∧ W3.drew.cell? ⟨g, 2, none⟩ = some (.int .i64 (n2 : Int)) ∧ W3.drew.cell? ⟨g, 3, none⟩ = some (.int .i64 (n3 : Int)) ∧ SB W3.drew w.heap.size T (F : Int) ∧ Below w.heap.size w W3.drew := ⟨l0, l1, l2, l3, Hk.out, HbF.out.drew⟩
      have Keep : Hid (∀ W W' : World, (W.cell? ⟨g, 0, none⟩ = some (.int .i64 (n0 : Int)) ∧ W.cell? ⟨g, 1, none⟩ = some (.int .i64 (n1 : Int)) ∧ W.cell? ⟨g, 2, none⟩ = some (.int .i64 (n2 : Int)) ∧ W.cell? ⟨g, 3, none⟩ = some (.int .i64 (n3 : Int)) ∧ SB W w.heap.size T (F : Int) ∧ Below w.heap.size w W) → Below W.heap.size W W' → (W'.cell? ⟨g, 0, none⟩ = some (.int .i64 (n0 : Int)) ∧ W'.cell? ⟨g, 1, none⟩ = some (.int .i64 (n1 : Int)) ∧ W'.cell? ⟨g, 2, none⟩ = some (.int .i64 (n2 : Int)) ∧ W'.cell? ⟨g, 3, none⟩ = some (.int .i64 (n3 : Int)) ∧ SB W' w.heap.size T (F : Int) ∧ Below w.heap.size w W')) := hide (fun W W' h hb => by
        obtain ⟨h1, h2, h3, h4, h5, h6⟩ := h
        have k : ∀ {p : Addr} {v : Value}, W.cell? p = some v → W'.cell? p = some v := fun {p v} h => (hb.cell (World.block_lt_of_cell? W p h)).trans h
        exact ⟨k h1, k h2, k h3, k h4, SB.below h5 hb, h6.trans (hb.mono h6.size)⟩)
      clear hTT hEE hat4 h6 hb0' l0 l1 l2 l3 Hk Ho HbF Hcv
      go_cut [12, 13] (fun s12 s13 wx => ∃ A cap, s12 = .slice A TT.length cap ∧ s13 = .int .i64 (EE : Int) ∧ Hid (At wx A (ivs TT)) ∧ Hid (SB wx w.heap.size T (F : Int)) ∧ Hid (Below w.heap.size w wx))
      case first =>
        clear Hrc HTT HEE
        go_region_held3 (fun W => W.cell? ⟨g, 0, none⟩ = some (.int .i64 (n0 : Int)) ∧ W.cell? ⟨g, 1, none⟩ = some (.int .i64 (n1 : Int)) ∧ W.cell? ⟨g, 2, none⟩ = some (.int .i64 (n2 : Int)) ∧ W.cell? ⟨g, 3, none⟩ = some (.int .i64 (n3 : Int)) ∧ SB W w.heap.size T (F : Int) ∧ Below w.heap.size w W) (first | exact hS | assumption | exact Keep.out _ _ (by assumption) (by assumption))
          ((first | (go_at_call 13; with_reducible refine (Htm.out _).mono ?_; rintro r w' ⟨AT, capT, rfl, hatT, hbT⟩)))
        all_goals
          go_wp2
          go_meet
          case rel =>
            exact ⟨AT, capT, rfl, rfl, hide hatT, NkS.sb (w := w) (g := g) (n0 := n0) (n1 := n1) (n2 := n2) (n3 := n3) (T := T) (F := F) (by assumption), NkS.bel (w := w) (g := g) (n0 := n0) (n1 := n1) (n2 := n2) (n3 := n3) (T := T) (F := F) (by assumption)⟩
      case rest =>
        obtain ⟨AT, capT, rfl, rfl, HatT, Hsb5, Hb5⟩ := hcut
        clear hS Keep Htm
        obtain ⟨⟨c0, c1⟩, _, _⟩ := SB.cells Hsb5.out
        rcases Hrc.out with ⟨hbad, hr⟩ | ⟨hF0, hvc, xx, tt, hr, hX, hT, hxl, htl⟩
        · have Hr := hide hr
          rcases Nat.eq_zero_or_pos F with hF | hF
          · have hvc : vclk c = false := by
              rcases hbad with h | h
              · exact absurd hF h
              · exact h
            have hE1 : EE = 1 := by rw [← HEE.out, if_neg (by rw [hvc]; simp)]
            have hEi : ((EE : Int) != 0) = true := by rw [bne_iff_ne]; omega
            have hFi : ((F : Int) != 0) = false := by simp; omega
            clear hbad hr hF hvc hE1 Hrc HTT HEE HatT
            go_wp2
            go_ret2
            exact jres_none Hr.out Hb5.out
          · have hFi : ((F : Int) != 0) = true := by rw [bne_iff_ne]; omega
            clear hbad hr hF Hrc HTT HEE HatT
            go_wp2
            go_ret2
            exact jres_none Hr.out Hb5.out
        · have hE0 : EE = 0 := by rw [← HEE.out, if_pos hvc]
          have hEi : ((EE : Int) != 0) = false := by simp; omega
          have hFi : ((F : Int) != 0) = false := by simp; omega
          have HTL : Hid (TT = timesL c) := hide (by rw [← HTT.out, if_pos hvc])
          have Hvc := hide hvc
          have Hr := hide hr
          subst hX
          subst hT
          have hsl := Hsl.out
          have HX := hide (fun W => fdecn_any xx (by omega) 4096 W)
          have HT := hide (fun W => fdecn_any tt (by omega) 4096 W)
          have hxg := decn_good xx 4096
          have hyg := decn_good tt 4096
          obtain ⟨⟨X1, eX⟩, hX1⟩ : ∃ r, decn xx 4096 = r := ⟨_, rfl⟩
          obtain ⟨⟨Y1, eY⟩, hY1⟩ : ∃ r, decn tt 4096 = r := ⟨_, rfl⟩
          rw [hX1] at HX Hr hxg
          rw [hY1] at HT Hr hyg
          simp only at hxg hyg
          have Hxg := hide hxg
          have Hyg := hide hyg
          clear hr hF0 hvc hE0 Hrc HTT HEE hX1 hY1 hxg hyg hxl htl hsl
          go_wp2_with fail
          refine (HX.out _).mono ?_
          rintro x w6 hl6
          obtain ⟨Ax, cx, rfl, hax, hb6⟩ := lres_open hl6
          have Hax := hide hax
          have Hat6 := hide (HatT.out.below hb6)
          have Hsb6 := hide (SB.below Hsb5.out hb6)
          have Hb6 := hide (Hb5.out.trans (hb6.mono Hb5.out.size))
          clear hl6 hax hb6 HatT Hsb5 Hb5 HX c0 c1
          obtain ⟨⟨c0, c1⟩, _, _⟩ := SB.cells Hsb6.out
          simp only
          go_wp2_with fail
          refine (HT.out _).mono ?_
          rintro x w7 hl7
          obtain ⟨Ay, cy, rfl, hay, hb7⟩ := lres_open hl7
          have Hay := hide hay
          have Hat7 := hide (Hat6.out.below hb7)
          have Hax7 := hide (Hax.out.below hb7)
          have Hb7 := hide (Hb6.out.trans (hb7.mono Hb6.out.size))
          clear hl7 hay hb7 Hat6 Hsb6 Hb6 HT c0 c1 Hax
          simp only
          have hxg2 := Hxg.out
          have hyg2 := Hyg.out
          have HJ1 := hide (nsums_any Hax7.out X1.length cx rfl (by omega) hxg2.1)
          have HJ2 := hide (fun W (hW : Below w7.heap.size w7 W) => nsums_any (Hay.out.below hW) Y1.length cy rfl (by omega) hyg2.1)
          clear hxg2 hyg2
          go_wp2_with fail
          refine (HJ1.out).mono ?_
          rintro x w8 ⟨vm, okm, rfl, hokm, hm, hb8⟩
          have Hb8 := hide hb8
          have Hm := hide hm
          have Hokm := hide hokm
          clear hb8 hm HJ1 hokm
          go_wp2_with fail
          refine (HJ2.out _ Hb8.out).mono ?_
          rintro x w9 ⟨vf, okf, rfl, hokf, hf, hb9⟩
          have Hb9 := hide (Hb7.out.trans ((Hb8.out.trans (hb9.mono Hb8.out.size)).mono Hb7.out.size))
          have Hat9 := hide ((Hat7.out.below Hb8.out).below hb9)
          have Hm9 := hide (fun l h => (Hm.out l h).bel hb9)
          have Hff := hide hf
          have Hokf := hide hokf
          clear hb9 hf hokf HJ2 Hm Hat7 Hb7 Hb8 Hax7 Hay
          have hfin : finC c (X1, eX) (Y1, eY) = if vclk c = false ∨ eX ≠ 0 ∨ eY ≠ 0 then none else match jnL X1, jnL Y1 with | some m, some x => some (rebL c m x) | _, _ => none := rfl
          have hjX : jnL X1 = jn (-1) X1 := by
            unfold jnL
            cases hj : jn (-1) X1 with
            | none => rfl
            | some l => simp only; rw [if_pos (by rw [(jn_tv (by omega) hj).2.2]; exact Hxg.out.2)]
          have hjY : jnL Y1 = jn (-1) Y1 := by
            unfold jnL
            cases hj : jn (-1) Y1 with
            | none => rfl
            | some l => simp only; rw [if_pos (by rw [(jn_tv (by omega) hj).2.2]; exact Hyg.out.2)]
          rw [Hvc.out, hjX, hjY] at hfin
          obtain ⟨jm, hjm⟩ : ∃ j, jn (-1) X1 = j := ⟨_, rfl⟩
          obtain ⟨jf, hjf⟩ : ∃ j, jn (-1) Y1 = j := ⟨_, rfl⟩
          have Hjm := hide hjm
          have Hjf := hide hjf
          rw [hjm] at Hokm Hm9 hfin
          rw [hjf] at Hokf Hff hfin
          have hr := Hr.out
          rw [hfin] at hr
          clear hfin hjX hjY hjm hjf Hr
          by_cases heX : eX = 0
          · have heXi : ((eX : Int) != 0) = false := by simp; omega
            by_cases heY : eY = 0
            · have heYi : ((eY : Int) != 0) = false := by simp; omega
              rw [if_neg (by simp [heX, heY])] at hr
              have Hr := hide hr
              clear hr heX heY
              cases jm with
              | none =>
                have Hr2 : Hid (R = none) := hide Hr.out
                have hok : okm = false := Hokm.out
                subst hok
                clear Hokm Hokf Hr Hm9 Hff
                go_wp2
                go_ret2
                exact jres_none Hr2.out Hb9.out
              | some m =>
                have hok : okm = true := Hokm.out
                subst hok
                cases jf with
                | none =>
                  have Hr2 : Hid (R = none) := hide Hr.out
                  have hok : okf = false := Hokf.out
                  subst hok
                  clear Hokm Hokf Hr Hm9 Hff
                  go_wp2
                  go_ret2
                  exact jres_none Hr2.out Hb9.out
                | some f =>
                  have hok : okf = true := Hokf.out
                  subst hok
                  obtain ⟨Am, cm, hvm, hatm⟩ := ires_open (Hm9.out m rfl)
                  obtain ⟨Af, cf, hvf, hatf⟩ := ires_open (Hff.out f rfl)
                  subst hvm; subst hvf
                  have Hatm := hide hatm
                  have Hatf := hide hatf
                  have hr2 : R = some (rebL c m f) := Hr.out
                  obtain ⟨f1, _, f3⟩ := jn_tv (by omega) Hjf.out
                  obtain ⟨m1, _, m3⟩ := jn_tv (by omega) Hjm.out
                  rw [← mrg_eq (vclk_iff.1 Hvc.out).1 m (tv_sorted f1), ← HTL.out] at hr2
                  have Hr2 := hide hr2
                  have hTl : TT.length ≤ 4096 := by
                    rw [HTL.out, timesL_length]
                    have := (vclk_iff.1 Hvc.out).1.2.1
                    omega
                  have hml : m.length ≤ 4096 := by rw [m3]; exact Hxg.out.2
                  have hfl : f.length ≤ 4096 := by rw [f3]; exact Hyg.out.2
                  clear hr2 hatm hatf Hokm Hokf Hr Hm9 Hff f1 f3 m1 m3 Hjm Hjf HTL Hvc
                  have hT4 := hTl
                  have Hown0 := hide (own_made0 3 w9)
                  have Hbz := hide ((Below.refl w9.heap.size w9).alloc (Nat.le_refl _) (.cells #[] 3))
                  obtain ⟨N, hN⟩ : ∃ N, TT.length = N := ⟨_, rfl⟩
                  obtain ⟨K, hK⟩ : ∃ K, f.length = K := ⟨_, rfl⟩
                  rw [hN] at hT4 hTl
                  rw [hK] at hfl
                  have HN := hide hN
                  have HK := hide hK
                  rw [hN, hK]
                  clear hN hK
                  go_wp2
                  go_loopw [22, 23, 24] (fun s22 s23 s24 wr => ∃ (i k : Nat) (G : List Int), i ≤ N ∧ k ≤ K ∧ s23 = .int .i64 (i : Int) ∧ s24 = .int .i64 (k : Int) ∧ Hid (R = some (G ++ mrg m i (TT.drop i) (f.drop k))) ∧ Hid (G.length ≤ i + k) ∧ Hid (wr.ownsRow w9.heap.size 3 1 s22 G.length (ivs G)) ∧ Hid (Below w9.heap.size w9 wr)) (fun _ s23 s24 _ => (N - intOf s23).toNat + (K - intOf s24).toNat)
                  case atStart => exact ⟨0, 0, [], by omega, by omega, rfl, rfl, hide (by rw [Hr2.out]; rfl), hide (by simp), Hown0, Hbz⟩
                  case round =>
                    clear Hown0 Hbz Hr2
                    obtain ⟨i, k, G, hi, hk, rfl, rfl, hG, hGl, hown, hb⟩ := hrel
                    by_cases hiN : i < N
                    · have hiT : i < TT.length := by rw [HN.out]; exact hiN
                      have hgt := ivs_at TT i hiT
                      obtain ⟨t, ht⟩ : ∃ t, TT[i] = t := ⟨_, rfl⟩
                      rw [ht] at hgt
                      obtain ⟨bT, oT, hA, hbT, hct⟩ := (Hat9.out.below hb.out).get i _ hgt
                      subst hA
                      have hii0 : (0 : Int) ≤ (i : Int) := by omega
                      have hii : (i : Int) < (N : Int) := by omega
                      have hd1 : decide ((i : Int) < (N : Int)) = true := decide_eq_true hii
                      obtain ⟨B, hB⟩ : ∃ B : Bool, (B = true ↔ (f.length ≤ k ∨ ∃ h : k < f.length, t ≤ f[k])) := by
                        by_cases h : (f.length ≤ k ∨ ∃ h : k < f.length, t ≤ f[k])
                        · exact ⟨true, by simp [h]⟩
                        · exact ⟨false, by simp [h]⟩
                      have HB := hide hB
                      have Hct := hide hct
                      have Ht := hide ht
                      go_upto_region 21 with fail
                      go_cut [143] (fun s143 wx => s143 = .bool B ∧ ∃ q, wx = wr.drewN q)
                      case first =>
                        clear Ht hG hGl hown Hat9 Hatm ht hgt hiT
                        by_cases hkK : k < K
                        · have hkf : k < f.length := by rw [HK.out]; exact hkK
                          have hgf := ivs_at f k hkf
                          obtain ⟨x, hx⟩ : ∃ x, f[k] = x := ⟨_, rfl⟩
                          rw [hx] at hgf
                          obtain ⟨bF, oF, hA, hbF, hcf⟩ := (Hatf.out.below hb.out).get k _ hgf
                          subst hA
                          have hkk0 : (0 : Int) ≤ (k : Int) := by omega
                          have hkk : (k : Int) < (K : Int) := by omega
                          have hd2 : ((k : Int) == (K : Int)) = false := by rw [beq_eq_false_iff_ne]; omega
                          by_cases hle : t ≤ x
                          · have hd3 : decide (t ≤ x) = true := decide_eq_true hle
                            have Hb1 : Hid (B = true) := hide (HB.out.2 (.inr ⟨hkf, by rw [hx]; exact hle⟩))
                            clear HB hkf hgf hx hb hB
                            go_quiet (fail)
                            go_wp2
                            go_meet
                            case rel => exact ⟨by rw [Hb1.out], _, rfl⟩
                          · have hd3 : decide (t ≤ x) = false := decide_eq_false hle
                            have Hb1 : Hid (B = false) := hide (by
                              cases B with
                              | false => rfl
                              | true =>
                                rcases HB.out.1 rfl with h | ⟨h, h2⟩
                                · omega
                                · rw [hx] at h2; exact absurd h2 hle)
                            clear HB hkf hgf hx hb hB
                            go_quiet (fail)
                            go_wp2
                            go_meet
                            case rel => exact ⟨by rw [Hb1.out], _, rfl⟩
                        · have hd2 : ((k : Int) == (K : Int)) = true := by simp; omega
                          have Hb1 : Hid (B = true) := hide (HB.out.2 (.inl (by rw [HK.out]; omega)))
                          clear HB hb hB
                          go_quiet (fail)
                          go_wp2
                          go_meet
                          case rel => exact ⟨by rw [Hb1.out], _, rfl⟩
                      case rest =>
                        obtain ⟨rfl, q, rfl⟩ := hcut
                        obtain ⟨A5, M5, cap5, rfl⟩ := own_slice hown.out
                        have hownq : (wr.drewN q).ownsRow w9.heap.size 3 1 (.slice A5 M5 cap5) G.length (ivs G) := hown.out
                        have hbq : Below w9.heap.size w9 (wr.drewN q) := bdN hb.out q
                        have hcq : (wr.drewN q).cell? ⟨bT, oT + i, none⟩ = some (.int .i64 t) := Hct.out
                        have hgl := hGl.out
                        cases B with
                        | true =>
                          have hm := hG.out
                          rw [mrg_t hiT (by rw [Ht.out]; exact HB.out.1 rfl), Ht.out] at hm
                          have Hs := hide (nhas_any (Hatm.out.below hbq) m.length cm rfl (by omega) (i : Int))
                          cases hco : m.contains (i : Int) with
                          | true =>
                            rw [hco, if_pos rfl, List.nil_append] at hm
                            rw [hco] at Hs
                            have Hm := hide hm
                            have Hownq := hide hownq
                            have Hbq := hide hbq
                            have HGl1 : Hid (G.length ≤ (i + 1) + k) := hide (by omega)
                            clear hm hG hGl hown hb ht hgt hco HB hB hownq hbq hgl Ht hiT hcq
                            go_wp2_with fail
                            refine (Hs.out).mono ?_
                            rintro x w4 ⟨rfl, rfl⟩
                            go_wp2
                            refine ⟨⟨i + 1, k, G, by omega, by omega, by go_num, rfl, Hm, HGl1, Hownq, Hbq⟩, ?_⟩
                            simp [intOf] <;> omega
                          | false =>
                            rw [hco, if_neg (by simp)] at hm
                            rw [hco] at Hs
                            have Hm := hide (show R = some ((G ++ [t]) ++ mrg m (i + 1) (TT.drop (i + 1)) (f.drop k)) by rw [hm, List.append_assoc])
                            have HGl1 : Hid ((G ++ [t]).length ≤ (i + 1) + k) := hide (by rw [List.length_append]; simp; omega)
                            obtain ⟨v', w4, hrun, hown1, hf1, _⟩ := app_own (P := Tryz.prog) 22 3 _ _ Tryz.underlying22 intinf rfl hownq hbq hbq.size (.int .i64 t) rfl (by unfold maxLen; omega) (by omega)
                            have Hrun := hide hrun
                            have Hown1 : Hid (w4.ownsRow w9.heap.size 3 1 v' (G ++ [t]).length (ivs (G ++ [t]))) := hide (by rw [ivs_snoc1, List.length_append]; exact hown1)
                            have Hf1 := hide hf1
                            clear hm hG hGl hown hb ht hgt hco HB hB hownq hbq hgl Ht hiT hrun hown1 hf1
                            generalize wr.drewN q = W at *
                            go_wp2_with fail
                            refine (Hs.out).mono ?_
                            rintro x w5 ⟨rfl, rfl⟩
                            go_wp2_with (
                              at_builtin
                              refine wpList_run (by with_reducible rfl) rfl _ _ _ rfl _ _ (by rfl) (by rfl) Hrun.out ?_)
                            refine ⟨⟨i + 1, k, G ++ [t], by omega, by omega, by go_num, rfl, Hm, HGl1, Hown1, Hf1⟩, ?_⟩
                            simp [intOf] <;> omega
                        | false =>
                          have hnb : ¬ (f.length ≤ k ∨ ∃ h : k < f.length, t ≤ f[k]) := fun h => by have := HB.out.2 h; cases this
                          have hkf : k < f.length := by
                            rcases Nat.lt_or_ge k f.length with h | h
                            · exact h
                            · exact absurd (.inl h) hnb
                          have hgf := ivs_at f k hkf
                          have hm := hG.out
                          have hlt2 : f[k] < TT[i] := by
                            rw [Ht.out]
                            by_cases h : f[k] < t
                            · exact h
                            · exact absurd (.inr ⟨hkf, by omega⟩) hnb
                          rw [mrg_f hkf (.inr ⟨hiT, hlt2⟩)] at hm
                          obtain ⟨x, hx⟩ : ∃ x, f[k] = x := ⟨_, rfl⟩
                          rw [hx] at hgf hm
                          obtain ⟨bF, oF, hA, hbF, hcf⟩ := (Hatf.out.below hbq).get k _ hgf
                          subst hA
                          have hkk0 : (0 : Int) ≤ (k : Int) := by omega
                          have hkK : k < K := by rw [← HK.out]; exact hkf
                          have hkk : (k : Int) < (K : Int) := by omega
                          have Hm := hide (show R = some ((G ++ [x]) ++ mrg m i (TT.drop i) (f.drop (k + 1))) by rw [hm, List.append_assoc]; rfl)
                          have HGl1 : Hid ((G ++ [x]).length ≤ i + (k + 1)) := hide (by rw [List.length_append]; simp; omega)
                          obtain ⟨v', w4, hrun, hown1, hf1, _⟩ := app_own (P := Tryz.prog) 22 3 _ _ Tryz.underlying22 intinf rfl hownq hbq hbq.size (.int .i64 x) rfl (by unfold maxLen; omega) (by omega)
                          have Hrun := hide hrun
                          have Hown1 : Hid (w4.ownsRow w9.heap.size 3 1 v' (G ++ [x]).length (ivs (G ++ [x]))) := hide (by rw [ivs_snoc1, List.length_append]; exact hown1)
                          have Hf1 := hide hf1
                          clear hm hG hGl hown hb ht hgt HB hB hownq hbq hgl hnb hlt2 hgf hx hkf hbF Ht hiT hrun hown1 hf1 hcq
                          generalize wr.drewN q = W at *
                          go_wp2_with (
                            at_builtin
                            refine wpList_run (by with_reducible rfl) rfl _ _ _ rfl _ _ (by rfl) (by rfl) Hrun.out ?_)
                          refine ⟨⟨i, k + 1, G ++ [x], by omega, by omega, rfl, by go_num, Hm, HGl1, Hown1, Hf1⟩, ?_⟩
                          simp [intOf] <;> omega
                    · have hiE : i = N := by omega
                      have hiTT : TT.length ≤ i := by rw [HN.out]; omega
                      have hd0 : ¬ (i : Int) < (N : Int) := by omega
                      have hd1 : decide ((i : Int) < (N : Int)) = false := decide_eq_false hd0
                      obtain ⟨A5, M5, cap5, rfl⟩ := own_slice hown.out
                      by_cases hkK : k < K
                      · have hkf : k < f.length := by rw [HK.out]; exact hkK
                        have hgf := ivs_at f k hkf
                        have hm := hG.out
                        rw [mrg_f hkf (.inl hiTT)] at hm
                        obtain ⟨x, hx⟩ : ∃ x, f[k] = x := ⟨_, rfl⟩
                        rw [hx] at hgf hm
                        obtain ⟨bF, oF, hA, hbF, hcf⟩ := (Hatf.out.below hb.out).get k _ hgf
                        subst hA
                        have hkk0 : (0 : Int) ≤ (k : Int) := by omega
                        have hkk : (k : Int) < (K : Int) := by omega
                        have Hm := hide (show R = some ((G ++ [x]) ++ mrg m i (TT.drop i) (f.drop (k + 1))) by rw [hm, List.append_assoc]; rfl)
                        have HGl1 : Hid ((G ++ [x]).length ≤ i + (k + 1)) := hide (by rw [List.length_append]; have := hGl.out; simp; omega)
                        have hgl := hGl.out
                        have Hkey := hide (fun q => app_own (P := Tryz.prog) 22 3 _ _ Tryz.underlying22 intinf rfl (w := wr.drewN q) (show (wr.drewN q).ownsRow w9.heap.size 3 1 _ G.length (ivs G) from hown.out) (bdN hb.out q) (bdN hb.out q).size (.int .i64 x) rfl (by unfold maxLen; omega) (by omega))
                        have Hcf := hide hcf
                        clear hm hG hGl hown hiTT hb hx hgf hkf hbF hgl
                        go_upto_region 21 with fail
                        go_quiet (fail)
                        obtain ⟨v', w4, hrun, hown1, hf1, _⟩ := Hkey.out nq
                        have hcW : (wr.drewN nq).cell? ⟨bF, oF + k, none⟩ = some (.int .i64 x) := Hcf.out
                        generalize wr.drewN nq = W at *
                        have Hrun := hide hrun
                        have Hown1 : Hid (w4.ownsRow w9.heap.size 3 1 v' (G ++ [x]).length (ivs (G ++ [x]))) := hide (by rw [ivs_snoc1, List.length_append]; exact hown1)
                        have Hf1 := hide hf1
                        clear hrun hown1 hf1 Hkey
                        go_wp2_with (
                          at_builtin
                          refine wpList_run (by with_reducible rfl) rfl _ _ _ rfl _ _ (by rfl) (by rfl) Hrun.out ?_)
                        refine ⟨⟨i, k + 1, G ++ [x], by omega, by omega, by rw [hiE], by go_num, Hm, HGl1, Hown1, Hf1⟩, ?_⟩
                        simp [intOf] <;> omega
                      · have hd2 : ¬ (k : Int) < (K : Int) := by omega
                        have hm := hG.out
                        rw [mrg_end hiTT (by rw [HK.out]; omega), List.append_nil] at hm
                        have Hr2 := hide hm
                        have Hres := hide (ires_own hown.out rfl)
                        have Hbf := hide (Hb9.out.trans (hb.out.mono Hb9.out.size))
                        clear hm hG hGl hown hiTT hb
                        go_wp2
                        go_ret2
                        exact ⟨_, _, rfl, by rw [Hr2.out]; rfl, fun l hl => by
                          rw [Hr2.out] at hl
                          injection hl with hl
                          rw [← hl]
                          exact Hres.out, Hbf.out⟩
            · have heYi : ((eY : Int) != 0) = true := by rw [bne_iff_ne]; omega
              rw [if_pos (.inr (.inr heY))] at hr
              have Hr2 := hide hr
              clear hr heX heY Hokm Hokf Hm9 Hff
              go_wp2
              go_ret2
              exact jres_none Hr2.out Hb9.out
          · have heXi : ((eX : Int) != 0) = true := by rw [bne_iff_ne]; omega
            rw [if_pos (.inr (.inl heX))] at hr
            have Hr2 := hide hr
            clear hr heX Hokm Hokf Hm9 Hff
            go_wp2
            go_ret2
            exact jres_none Hr2.out Hb9.out
end Go.Proofs.YtgllednilkfpgaaGreat
