/-
  Joined texts: Ii, Ij, Ik.
-/
import Derived.Test.YtgllednilkfpgaaGreatJ34
set_option linter.unusedVariables false
set_option linter.unusedSimpArgs false
/-
  The walks over times: the times that a clock and its exceptions say.
-/
namespace Go.Proofs.YtgllednilkfpgaaGreat
open Go.RowKit Go.Proofs Wv Wv.Vi Wv.Rc Wv.Mo Wv.Ru Wv.Tm
set_option linter.unusedVariables false

/-- What reading gives back; the reader's own block turns. -/
def RcRes (w : World) (b : Nat) (r : Option (List Int)) (x : Ending) (w' : World) : Prop := ∃ v ok, x = .returned (.tuple #[v, .bool ok]) ∧ ok = r.isSome ∧ (∀ l, r = some l → IRes w' v l) ∧ Fr (only b) w w'
theorem rcres_none {w w' : World} {b : Nat} {r : Option (List Int)} {v : Value} (h : r = none) (hb : Fr (only b) w w') : RcRes w b r (.returned (.tuple #[v, .bool false])) w' := ⟨_, _, rfl, by rw [h]; rfl, (fun l h2 => by rw [h] at h2; cases h2), hb⟩
theorem fr_bel {w w1 w2 : World} {b : Nat} (h : Fr (only b) w w1) (hb : Below w1.heap.size w1 w2) : Fr (only b) w w2 := h.trans (Fr.of_below hb)
theorem fr_alloc {w w1 : World} {b : Nat} (h : Fr (only b) w w1) (o : Obj) : Fr (only b) w (w1.alloc o) := fr_bel h ((Below.refl _ _).alloc (Nat.le_refl _) o)
def keepP (c : Clk) (m : List Int) (i : Nat) : List Int := ((List.range i).filter (fun (i : Nat) => !m.contains (i : Int))).map (atC c)
theorem keepP_succ (c : Clk) (m : List Int) (i : Nat) : keepP c m (i + 1) = if m.contains (i : Int) = true then keepP c m i else keepP c m i ++ [atC c i] := by
  unfold keepP
  rw [List.range_succ, List.filter_append, List.map_append]
  by_cases h : m.contains (i : Int) = true
  · rw [if_pos h, List.filter_cons, h]; simp
  · rw [if_neg h]
    simp only [Bool.not_eq_true] at h
    rw [List.filter_cons, h]
    rfl
theorem keepP_len (c : Clk) (m : List Int) (i : Nat) : (keepP c m i).length ≤ i := by
  unfold keepP
  rw [List.length_map]
  have h1 := List.length_filter_le (fun (i : Nat) => !m.contains (i : Int)) (List.range i)
  rw [List.length_range] at h1
  exact h1
theorem tm_open {w w' : World} {c : Clk} {x : Ending} (h : TmRes w c x w') : ∃ v e, x = .returned (.tuple #[v, .int .i64 ((e : Nat) : Int)]) ∧ Below w.heap.size w w' ∧ ((e = 1 ∧ vclk c = false) ∨ (e = 0 ∧ vclk c = true ∧ ∃ g, v = .slice (some ⟨g, 0, none⟩) c.n.toNat c.n.toNat ∧ Bk w' g 3 (ica (timesL c)))) := by
  unfold TmRes at h
  by_cases hv : vclk c = true
  · rw [if_pos hv] at h
    obtain ⟨g, h1, h2, _, h3⟩ := h
    exact ⟨_, 0, h1, h3, .inr ⟨rfl, hv, g, rfl, h2⟩⟩
  · rw [if_neg hv] at h
    exact ⟨_, 1, h.1, h.2, .inl ⟨rfl, by simpa using hv⟩⟩
/-- A row of integers behind what a reader does with its own block. -/
theorem at_rv {w w' : World} {A : Option Addr} {l : List Int} {b e : Nat} {s s' : ByteArray} (h : At w A (ivs l)) (hv : RV w b s e) (hv' : RV w' b s' e) (hf : Fr (only b) w w') : At w' A (ivs l) := by
  intro i hi
  obtain ⟨b', o, hA, hb, hc⟩ := h i hi
  refine ⟨b', o, hA, Nat.lt_of_lt_of_le hb hf.size, ?_⟩
  by_cases hbb : b' = b
  · subst hbb
    have h1 := Bk.cell hv (o + i)
    have h2 := Bk.cell hv' (o + i)
    rw [hc] at h1
    rw [h2]
    match o + i, h1 with
    | 0, h1 => simp [ivs, iv] at h1
    | 1, h1 => simpa using h1.symm
    | k + 2, h1 => simp at h1
  · exact (hf.cell (p := ⟨b', _, none⟩) hb hbb).trans hc
theorem lres_open {w w' : World} {x : Ending} {r : List Int × Nat} (h : LRes w x w' r) : ∃ A cap, x = .returned (.tuple #[.slice A r.1.length cap, .int .i64 (r.2 : Int)]) ∧ At w' A (ivs r.1) ∧ Below w.heap.size w w' := by
  obtain ⟨v, h1, ⟨A, cap, rfl, h2⟩, h3⟩ := h
  exact ⟨A, cap, h1, h2, h3⟩
set_option maxRecDepth 100000 in
set_option maxHeartbeats 4000000 in
theorem treadc_any {w : World} {b : Nat} {s : List UInt8} (h : RV w b (bs s) 0) (hs : s.length ≤ 1000000000) :
    Calls Tryz.prog 76 #[.pointer (some ⟨b, 0, none⟩)] w fun x w' => RcRes w b (readC s) x w' := by
  have hrun := rclk_run s
  obtain ⟨z1, z2, z3, z4⟩ := q_sizes (bs s)
  have hz0 : (bs s).size = s.length := bs_size _
  rw [hz0] at z1 z2 z3 z4
  obtain ⟨n1, t1, x1, h1⟩ : ∃ n t e, q1 (bs s) = (n, t, e) := ⟨_, _, _, rfl⟩
  obtain ⟨n2, t2, x2, h2⟩ : ∃ n t e, q2 (bs s) = (n, t, e) := ⟨_, _, _, rfl⟩
  obtain ⟨n3, t3, x3, h3⟩ : ∃ n t e, q3 (bs s) = (n, t, e) := ⟨_, _, _, rfl⟩
  obtain ⟨n4, t4, x4, h4⟩ : ∃ n t e, q4 (bs s) = (n, t, e) := ⟨_, _, _, rfl⟩
  obtain ⟨a5, t5, x5, h5⟩ : ∃ n t e, q5 (bs s) = (n, t, e) := ⟨_, _, _, rfl⟩
  rw [h1] at z1 hrun
  rw [h2] at z2 hrun
  rw [h3] at z3 hrun
  rw [h4] at z4 hrun
  rw [h5] at hrun
  simp only at z1 z2 z3 z4 hrun
  have H1 : Hid (Calls Tryz.prog 71 #[.pointer (some ⟨b, 0, none⟩), .int .i64 1099511627776] w fun x w' => x = .returned (.int .i64 (n1 : Int)) ∧ RV w' b t1 x1 ∧ Fr (only b) w w') := hide (by
    have := vnum_any h (by omega) 1099511627776
    rw [show numR (bs s) 0 1099511627776 = (n1, t1, x1) from h1] at this
    exact this)
  have H2 : Hid (∀ W, RV W b t1 x1 → Calls Tryz.prog 71 #[.pointer (some ⟨b, 0, none⟩), .int .i64 1099511627776] W fun x w' => x = .returned (.int .i64 (n2 : Int)) ∧ RV w' b t2 x2 ∧ Fr (only b) W w') := hide (fun W hW => by
    have := vnum_any hW (by omega) 1099511627776
    rw [show numR t1 x1 1099511627776 = (n2, t2, x2) by rw [← h2]; unfold q2; rw [h1]] at this
    exact this)
  have H3 : Hid (∀ W, RV W b t2 x2 → Calls Tryz.prog 71 #[.pointer (some ⟨b, 0, none⟩), .int .i64 1099511627776] W fun x w' => x = .returned (.int .i64 (n3 : Int)) ∧ RV w' b t3 x3 ∧ Fr (only b) W w') := hide (fun W hW => by
    have := vnum_any hW (by omega) 1099511627776
    rw [show numR t2 x2 1099511627776 = (n3, t3, x3) by rw [← h3]; unfold q3; rw [h2]] at this
    exact this)
  have H4 : Hid (∀ W, RV W b t3 x3 → Calls Tryz.prog 71 #[.pointer (some ⟨b, 0, none⟩), .int .i64 4096] W fun x w' => x = .returned (.int .i64 (n4 : Int)) ∧ RV w' b t4 x4 ∧ Fr (only b) W w') := hide (fun W hW => by
    have := vnum_any hW (by omega) 4096
    rw [show numR t3 x3 4096 = (n4, t4, x4) by rw [← h4]; unfold q4; rw [h3]] at this
    exact this)
  have HL : Hid (∀ W, RV W b t4 x4 → Calls Tryz.prog 75 #[.pointer (some ⟨b, 0, none⟩)] W fun x w' => x = .returned (.int .i64 (t4.size : Int)) ∧ W = w') := hide (fun W hW => vleft_any hW (by omega))
  have H5 : Hid (∀ W, RV W b t4 x4 → Calls Tryz.prog 117 #[.pointer (some ⟨b, 0, none⟩), .int .i64 (t4.size : Int)] W fun x w' => x = .returned (.string a5) ∧ RV w' b t5 x5 ∧ Fr (only b) W w') := hide (fun W hW => by
    have := vtext_any hW (by omega) (t4.size : Int)
    rw [show textR t4 x4 (t4.size : Int) = (a5, t5, x5) by rw [← h5]; unfold q5; rw [h4]] at this
    exact this)
  have HE : Hid (∀ W, RV W b t5 x5 → Calls Tryz.prog 72 #[.pointer (some ⟨b, 0, none⟩)] W fun x w' => x = .returned (.int .i64 (x5 : Int)) ∧ W = w') := hide (fun W hW => verr_any hW)
  have hblt := hide h.lt
  have hread : readC s = match rclk s with | none => none | some (c, a, t) => finC c (decn a 4096) (decn t 4096) := rfl
  obtain ⟨R, hR⟩ : ∃ R, readC s = R := ⟨_, rfl⟩
  rw [hR] at hread ⊢
  have Hread := hide hread
  have Hrun := hide hrun
  have hz4 : t4.size ≤ 1000000000 := by omega
  clear h1 h2 h3 h4 h5 hread hrun h z1 z2 z3 z4 hz0 hR
  go_enter Tryz.func76, Tryz.ntmps76
  go_wp2_with fail
  refine (H1.out).mono ?_
  rintro x w1 ⟨rfl, hv1, hf1⟩
  have Hv1 := hide hv1
  have Hf1 := hide hf1
  clear hv1 hf1 H1
  go_wp2_with fail
  refine (H2.out _ Hv1.out).mono ?_
  rintro x w2 ⟨rfl, hv2, hf2⟩
  have Hv2 := hide hv2
  have Hf2 := hide (Hf1.out.trans hf2)
  clear hv2 hf2 H2 Hv1 Hf1
  go_wp2_with fail
  refine (H3.out _ Hv2.out).mono ?_
  rintro x w3 ⟨rfl, hv3, hf3⟩
  have Hv3 := hide hv3
  have Hf3 := hide (Hf2.out.trans hf3)
  clear hv3 hf3 H3 Hv2 Hf2
  go_wp2_with fail
  refine (H4.out _ Hv3.out).mono ?_
  rintro x w4 ⟨rfl, hv4, hf4⟩
  have hf4' := Hf3.out.trans hf4
  have Hb4 := hide (Nat.lt_of_lt_of_le hblt.out hf4'.size)
  have Hv4 := hide (show RV (w4.alloc (.cells #[.int .i64 (n1 : Int), .int .i64 (n2 : Int), .int .i64 (n3 : Int), .int .i64 (n4 : Int)] 24)) b t4 x4 from Bk.alloc hv4 _)
  have Hk4 := hide (Bk.new w4 24 #[.int .i64 (n1 : Int), .int .i64 (n2 : Int), .int .i64 (n3 : Int), .int .i64 (n4 : Int)])
  have Hf4 := hide (fr_alloc hf4' (.cells #[.int .i64 (n1 : Int), .int .i64 (n2 : Int), .int .i64 (n3 : Int), .int .i64 (n4 : Int)] 24))
  clear hv4 hf4 hf4' H4 Hv3 Hf3
  go_upto_region 2 with fail
  obtain ⟨Q, hQ⟩ : ∃ Q, w4.heap.size = Q := ⟨_, rfl⟩
  obtain ⟨W4, hW4⟩ : ∃ W, w4.alloc (.cells #[.int .i64 (n1 : Int), .int .i64 (n2 : Int), .int .i64 (n3 : Int), .int .i64 (n4 : Int)] 24) = W := ⟨_, rfl⟩
  rw [hQ] at Hk4 Hb4 ⊢
  rw [hW4] at Hv4 Hk4 Hf4 ⊢
  clear hQ hW4
  go_wp2_with fail
  refine (HL.out _ Hv4.out).mono ?_
  rintro x w5 ⟨rfl, rfl⟩
  go_wp2_with fail
  refine (H5.out _ Hv4.out).mono ?_
  rintro x w5 ⟨rfl, hv5, hf5⟩
  have Hk5 := hide (Hk4.out.fr hf5 (by show ¬ _ = _; have := Hb4.out; omega))
  have Hv5 := hide hv5
  have Hf5 := hide (Hf4.out.trans hf5)
  clear hv5 hf5 Hv4 Hk4 Hf4 H5 HL
  go_wp2_with fail
  refine (HE.out _ Hv5.out).mono ?_
  rintro x w6 ⟨rfl, rfl⟩
  rcases Hrun.out with ⟨he, hr⟩ | ⟨he, y, t, hr, ha5, ht5, hyl, htl⟩
  · have Hr : Hid (R = none) := hide (by rw [Hread.out, hr])
    have hne : ((x5 : Int) != 0) = true := by rw [bne_iff_ne]; omega
    clear hr he Hrun Hread
    go_wp2
    go_ret2
    exact rcres_none Hr.out Hf5.out
  · subst he
    subst ha5
    subst ht5
    have Hr : Hid (R = finC ⟨(n1 : Int), (n2 : Int), (n3 : Int), (n4 : Int)⟩ (decn y 4096) (decn t 4096)) := hide (by rw [Hread.out, hr])
    have k0 := Hk5.out.cell 0
    have k1 := Hk5.out.cell 1
    have k2 := Hk5.out.cell 2
    have k3 := Hk5.out.cell 3
    simp at k0 k1 k2 k3
    obtain ⟨c, hc⟩ : ∃ c : Clk, (⟨(n1 : Int), (n2 : Int), (n3 : Int), (n4 : Int)⟩ : Clk) = c := ⟨_, rfl⟩
    have hcv : CV c = .agg #[.int .i64 (n1 : Int), .int .i64 (n2 : Int), .int .i64 (n3 : Int), .int .i64 (n4 : Int)] := by rw [← hc]; rfl
    rw [hc] at Hr
    have Ht := hide (ttimes_any c w5)
    rw [hcv] at Ht
    clear hr Hrun Hread hc
    go_wp2_with fail
    refine (Ht.out).mono ?_
    rintro x w7 htm
    obtain ⟨vT, eT, rfl, hb7, hT⟩ := tm_open htm
    have HT := hide hT
    have Hv7 := hide (show RV w7 b (bs t) 0 from Bk.below Hv5.out hb7 (Bk.lt Hv5.out))
    have Hf7 := hide (fr_bel Hf5.out hb7)
    have Hx := hide (fun W => decodenums_any (w := W) y (by omega) 4096)
    have Hy := hide (fun W => decodenums_any (w := W) t (by omega) 4096)
    have hxg := decn_good y 4096
    have hyg := decn_good t 4096
    obtain ⟨⟨X, eX⟩, hX⟩ : ∃ r, decn y 4096 = r := ⟨_, rfl⟩
    obtain ⟨⟨Y, eY⟩, hY⟩ : ∃ r, decn t 4096 = r := ⟨_, rfl⟩
    rw [hX] at Hx Hr hxg
    rw [hY] at Hy Hr hyg
    simp only at hxg hyg
    have Hxl := hide hxg.2
    have Hyl := hide hyg.2
    have hTk := takeR_all t
    have HTk := hide hTk
    have hts : (bs t).size = t.length := bs_size _
    clear k0 k1 k2 k3 htm hT hb7 hX hY hxg hyg Ht Hv5 Hf5 Hk5 hTk HE
    go_wp2_with fail
    refine (Hx.out _).mono ?_
    rintro x w8 hl8
    obtain ⟨Ax, cx, rfl, hax, hb8⟩ := lres_open hl8
    have Hv8 := hide (show RV w8 b (bs t) 0 from Bk.below Hv7.out hb8 (Bk.lt Hv7.out))
    have Hf8 := hide (fr_bel Hf7.out hb8)
    have Hb8 := hide hb8
    have Hax := hide hax
    clear hl8 hb8 hax Hx
    simp only
    have HL8 := hide (vleft_any Hv8.out (by rw [hts]; omega))
    go_wp2_with fail
    refine (HL8.out).mono ?_
    rintro x w9 ⟨rfl, rfl⟩
    have HK8 := hide (vtake_any Hv8.out (by rw [hts]; omega) ((bs t).size : Int))
    rw [HTk.out] at HK8
    go_wp2_with fail
    refine (HK8.out).mono ?_
    rintro x w9 ⟨rfl, hv9, hf9⟩
    simp only
    have Hf9 := hide (Hf8.out.trans hf9)
    have Hblt8 := hide (Bk.lt Hv8.out)
    have Hax9 := hide (at_rv Hax.out Hv8.out hv9 hf9)
    have Hg9 := hide (fun g (hg : Bk w7 g 3 (ica (timesL c))) => at_rv ((ica_at hg).below Hb8.out) Hv8.out hv9 hf9)
    clear hv9 HL8 HK8 Hv8 Hv7 HTk hf9 Hax Hb8 Hf8
    go_wp2_with fail
    refine (Hy.out _).mono ?_
    rintro x w10 hl10
    obtain ⟨Ay, cy, rfl, hay, hb10⟩ := lres_open hl10
    have Hf10 := hide (fr_bel Hf9.out hb10)
    have Hx10 := hide (Hax9.out.below hb10)
    have Hy10 := hide (show At w10 Ay (ivs Y) from hay)
    have Hg10 := hide (fun g (hg : Bk w7 g 3 (ica (timesL c))) => (Hg9.out g hg).below hb10)
    clear hl10 hay hb10 Hf9 Hax9 Hg9 Hy
    simp only
    have hfin : finC c (X, eX) (Y, eY) = if vclk c = false ∨ eX ≠ 0 ∨ eY ≠ 0 then none else match jnL X, jnL Y with | some m, some x => some (rebL c m x) | _, _ => none := rfl
    rcases HT.out with ⟨he, hvc⟩ | ⟨he, hvc, g, hvT, hgk⟩
    · have Hr2 : Hid (R = none) := hide (by rw [Hr.out, hfin, if_pos (.inl hvc)])
      subst he
      clear hfin hvc Hr HT
      go_wp2
      go_ret2
      exact rcres_none Hr2.out Hf10.out
    · subst he
      by_cases heX : eX = 0
      · subst heX
        by_cases heY : eY = 0
        · subst heY
          rw [if_neg (by rw [hvc]; simp)] at hfin
          have hr2 := Hr.out
          rw [hfin] at hr2
          have Hr3 := hide hr2
          have HatT := hide (Hg10.out g hgk)
          obtain ⟨hin, _⟩ := vclk_iff.1 hvc
          have hn1 := hin.1
          have hn2 := hin.2.1
          have htg : ∀ i, i < c.n.toNat → (timesL c)[i]? = some (atC c i) := fun i h => by simp [timesL, h]
          have hkN : ∀ m, keepL c m = keepP c m c.n.toNat := fun m => rfl
          obtain ⟨N, hN⟩ : ∃ N, c.n.toNat = N := ⟨_, rfl⟩
          rw [hN] at htg hvT hkN
          have hN4 : N ≤ 4096 := by omega
          have Htg := hide htg
          have HkN := hide hkN
          subst hvT
          clear hfin hr2 Hr HT hvc hgk Hg10 hin htg hkN hN hn1 hn2
          have hxl := Hxl.out
          have hyl2 := Hyl.out
          have HJ1 := hide (tjoin_any Hx10.out X.length cx rfl (by omega))
          have HJ2 := hide (fun W (hW : Below w10.heap.size w10 W) => tjoin_any (Hy10.out.below hW) Y.length cy rfl (by omega))
          clear hxl hyl2
          go_wp2_with fail
          refine (HJ1.out).mono ?_
          rintro x w11 ⟨vm, okm, rfl, hokm, hm, hb11⟩
          have Hb11 := hide hb11
          have Hm := hide hm
          have Hokm := hide hokm
          clear hb11 hm HJ1 hokm
          go_wp2_with fail
          refine (HJ2.out _ Hb11.out).mono ?_
          rintro x w12 ⟨vf, okf, rfl, hokf, hf, hb12⟩
          have Hf12 := hide (fr_bel (fr_bel Hf10.out Hb11.out) hb12)
          have HatT2 := hide ((HatT.out.below Hb11.out).below hb12)
          have Hm12 := hide (fun l h => (Hm.out l h).bel hb12)
          have Hff := hide hf
          have Hokf := hide hokf
          clear hb12 hf hokf HJ2 Hm HatT Hf10 Hb11 Hx10 Hy10
          obtain ⟨jm, hjm⟩ : ∃ j, jnL X = j := ⟨_, rfl⟩
          obtain ⟨jf, hjf⟩ : ∃ j, jnL Y = j := ⟨_, rfl⟩
          have Hjm := hide hjm
          have Hjf := hide hjf
          rw [hjm] at Hokm Hm12 Hr3
          rw [hjf] at Hokf Hff Hr3
          clear hjm hjf
          cases jm with
          | none =>
            have Hr2 : Hid (R = none) := hide Hr3.out
            have hok : okm = false := Hokm.out
            subst hok
            clear Hokm Hokf Hr3 Hm12 Hff
            go_wp2
            go_ret2
            exact rcres_none Hr2.out Hf12.out
          | some m =>
            have hok : okm = true := Hokm.out
            subst hok
            cases jf with
            | none =>
              have Hr2 : Hid (R = none) := hide Hr3.out
              have hok : okf = false := Hokf.out
              subst hok
              clear Hokm Hokf Hr3 Hm12 Hff
              go_wp2
              go_ret2
              exact rcres_none Hr2.out Hf12.out
            | some f =>
              have hok : okf = true := Hokf.out
              subst hok
              have Hr2 : Hid (R = some (rebL c m f)) := hide Hr3.out
              obtain ⟨Am, cm, hvm, hatm⟩ := ires_open (Hm12.out m rfl)
              obtain ⟨Af, cf, hvf, hatf⟩ := ires_open (Hff.out f rfl)
              subst hvm; subst hvf
              obtain ⟨mv, _⟩ := jnL_valid Hjm.out
              obtain ⟨fv, _⟩ := jnL_valid Hjf.out
              obtain ⟨m1, m2, m3⟩ := validT_iff.1 mv
              obtain ⟨f1, f2, f3⟩ := validT_iff.1 fv
              have Hms := hide m1
              have Hatm := hide hatm
              have Hatf := hide hatf
              have Hf3 := hide f3
              have Hm3 := hide m3
              have hks := fun i => keepP_succ c m i
              have hkl := fun i => keepP_len c m i
              have hk0 : keepP c m 0 = [] := rfl
              have hkm := HkN.out m
              obtain ⟨kp, hkp⟩ : ∃ kp, keepP c m = kp := ⟨_, rfl⟩
              rw [hkp] at hks hkl hk0 hkm
              have Hks := hide hks
              have Hkl := hide hkl
              have Hk0 := hide hk0
              have Hkm := hide hkm
              clear Hokm Hokf Hr3 Hm12 Hff Hjm Hjf mv fv m1 m2 m3 f1 f2 f3 hatm hatf hks hkl hk0 hkm hkp HkN
              go_upto_region 15 with fail
              go_wp2
              go_loopw [16, 83] (fun s16 s83 wr => ∃ i : Nat, i ≤ N ∧ s83 = .int .i64 (i : Int) ∧ Hid (wr.ownsRow w12.heap.size 3 1 s16 (kp i).length (ivs (kp i))) ∧ Hid (Below w12.heap.size w12 wr)) (fun _ s83 _ => (N - intOf s83).toNat)
              case atStart => exact ⟨0, Nat.zero_le _, rfl, hide (by rw [Hk0.out]; exact own_nil), hide (Below.refl _ _)⟩
              case round =>
                obtain ⟨i, hi, rfl, hown, hbr⟩ := hrel
                by_cases hlt : i < N
                · have hti := Htg.out i hlt
                  obtain ⟨T, hT⟩ : ∃ T, atC c i = T := ⟨_, rfl⟩
                  have hks := Hks.out i
                  rw [hT] at hti hks
                  have hgetT : (ivs (timesL c))[i]? = some (.int .i64 T) := by unfold ivs; rw [List.getElem?_map, hti]; rfl
                  obtain ⟨b', o', hA, hb', hc⟩ := (HatT2.out.below hbr.out).get i _ hgetT
                  injection hA with hA
                  injection hA with hA1 hA2
                  subst hA1; subst hA2
                  rw [Nat.zero_add] at hc
                  have Hse := hide (tsearch_any (Hatm.out.below hbr.out) m.length cm rfl (by have := Hm3.out; omega) Hms.out (i : Int))
                  have hlti : (i : Int) < (N : Int) := by omega
                  have hkl := Hkl.out i
                  have Hkl2 := hide hkl
                  cases hco : m.contains (i : Int) with
                  | true =>
                    rw [hco] at Hse hks
                    rw [if_pos rfl] at hks
                    have Hks2 := hide hks
                    clear hti hT hks hgetT hb' hkl hco
                    go_wp2_with fail
                    refine (Hse.out).mono ?_
                    rintro x w3 ⟨⟨p, rfl⟩, q, rfl⟩
                    go_wp2
                    refine ⟨⟨i + 1, hlt, by go_num, hide (by rw [Hks2.out]; exact hown.out), hide (bdN hbr.out q)⟩, ?_⟩
                    simp [intOf] <;> omega
                  | false =>
                    rw [hco] at Hse hks
                    rw [if_neg (by simp)] at hks
                    have Hks2 := hide hks
                    clear hti hT hks hgetT hb' hco hkl
                    go_wp2_with fail
                    refine (Hse.out).mono ?_
                    rintro x w3 ⟨⟨p, rfl⟩, q, rfl⟩
                    have hkl := Hkl2.out
                    obtain ⟨v', w4', hrun, hown1, hf1, _⟩ := app_own (P := Tryz.prog) 22 3 _ _ Tryz.underlying22 intinf rfl (w := wr.drewN q) hown.out (bdN hbr.out q) hbr.out.size (.int .i64 T) rfl (by unfold maxLen; omega) (by omega)
                    have Hrun := hide hrun
                    have Hown1 : Hid (w4'.ownsRow w12.heap.size 3 1 v' (kp (i + 1)).length (ivs (kp (i + 1)))) := hide (by
                      rw [Hks2.out, List.length_append, ivs_snoc]
                      exact hown1)
                    have Hf1' := hide hf1
                    clear hrun hown1 hf1 hown hbr hkl
                    go_wp2_with (
                      at_builtin
                      refine wpList_run (by with_reducible rfl) rfl _ _ _ rfl _ _ (by rfl) (by rfl) Hrun.out ?_)
                    refine ⟨⟨i + 1, hlt, by go_num, Hown1, Hf1'⟩, ?_⟩
                    simp [intOf] <;> omega
                · have hiN : i = N := by omega
                  subst hiN
                  have hkl := Hkl.out i
                  have hf3' := Hf3.out
                  have hatf' := Hatf.out.below hbr.out
                  obtain ⟨v', w4', hrun, hown1, hg1, _⟩ := run_appAt (P := Tryz.prog) 22 3 _ _ Tryz.underlying22 intinf rfl hown.out hatf' cf f.length (by simp [ivs]) (fun hA => by
                    subst hA
                    cases hfl : f with
                    | nil => rfl
                    | cons z r =>
                      rw [hfl] at hatf'
                      obtain ⟨_, _, h0, _⟩ := hatf' 0 (by simp [ivs])
                      cases h0) (fun y hy => by
                    obtain ⟨z, _, rfl⟩ := List.mem_map.1 hy
                    rfl) (by unfold maxLen; omega) (by omega) hbr.out.size
                  have hfin1 : Below w12.heap.size w12 w4' := hbr.out.grown hg1 hbr.out.size (fun k hk => (hown.out.lt k hk).1)
                  have hown2 : w4'.ownsRow w12.heap.size 3 1 v' ((kp i).length + f.length) (ivs (kp i ++ f)) := by
                    have e : ivs (kp i ++ f) = ivs (kp i) ++ ivs f := by simp [ivs]
                    rw [e]; exact hown1
                  have Hso := hide (tsort_any hown2 (by simp) (by simp; omega) hfin1)
                  have Hrun := hide hrun
                  have Hres := hide Hkm.out
                  clear hkl hf3' hatf' hrun hown1 hg1 hfin1 hown2 hown hbr Hkl Hks Htg
                  go_wp2_with (first
                    | (at_builtin
                       refine wpList_run (by with_reducible rfl) rfl _ _ _ rfl _ _ (by rfl) (by rfl) Hrun.out ?_)
                    | (go_at_call 30
                       refine (Hso.out).mono ?_
                       rintro x w6 ⟨rfl, hir, hb6⟩))
                  go_ret2
                  exact ⟨_, _, rfl, by rw [Hr2.out]; rfl, (fun l hl => by
                    rw [Hr2.out] at hl
                    injection hl with hl
                    rw [← hl]
                    have hre : rebL c m f = srt (kp i ++ f) := by unfold rebL; rw [Hres.out]
                    rw [hre]
                    exact hir), fr_bel Hf12.out hb6⟩
        · have Hr2 : Hid (R = none) := hide (by rw [Hr.out, hfin, if_pos (.inr (.inr heY))])
          have hne : ((eY : Int) != 0) = true := by rw [bne_iff_ne]; omega
          clear hfin hvc Hr HT heY hgk Hg10
          go_wp2
          go_ret2
          exact rcres_none Hr2.out Hf10.out
      · have Hr2 : Hid (R = none) := hide (by rw [Hr.out, hfin, if_pos (.inr (.inl heX))])
        have hne : ((eX : Int) != 0) = true := by rw [bne_iff_ne]; omega
        clear hfin hvc Hr HT heX hgk Hg10
        go_wp2
        go_ret2
        exact rcres_none Hr2.out Hf10.out
end Go.Proofs.YtgllednilkfpgaaGreat
/-
  The walks over times: the times with some bytes.
-/
namespace Go.Proofs.YtgllednilkfpgaaGreat
open Go.RowKit Go.Proofs Wv Wv.Vi Wv.Rc Wv.Mo Wv.Ru Wv.Tm
set_option linter.unusedVariables false

theorem tres_open {w w' : World} {x : Ending} {r : List ByteArray × Nat} (h : TRes w r x w') : ∃ A cap, x = .returned (.tuple #[.slice A r.1.length cap, .int .i64 (r.2 : Int)]) ∧ At w' A (svs r.1) ∧ Below w.heap.size w w' := by
  obtain ⟨v, h1, ⟨A, cap, rfl, h2⟩, h3⟩ := h
  exact ⟨A, cap, h1, h2, h3⟩
theorem fr_low {w w1 w2 : World} {b : Nat} (h : Below w.heap.size w w1) (hf : Fr (only b) w1 w2) (hb : w.heap.size ≤ b) : Below w.heap.size w w2 := h.trans (hf.toBelow' h.size (fun j hj e => by have : j = b := e; omega))
theorem fr_lowB {w w1 w2 : World} {b B : Nat} (h : Below B w w1) (hf : Fr (only b) w1 w2) (hb : B ≤ b) (hB : B ≤ w1.heap.size := by omega) : Below B w w2 := h.trans (hf.toBelow' hB (fun j hj e => by have : j = b := e; omega))
theorem own_far {w : World} {base size n : Nat} {e : TypeId} {v : Value} {xs : List Value} (h : w.ownsRow base e size v n xs) : ∀ g, v.ownBlock = some g → g < w.heap.size := fun g hg => (h.lt g hg).2
theorem jn_len {X l : List Int} (h : jnL X = some l) : l.length ≤ 4096 := (validT_iff.1 (jnL_valid h).1).2.2
theorem dec_texts {r : List UInt8} (h : (dec r 4096).2 = 0) : (dec r 4096).1.length ≤ 4096 ∧ ∀ s ∈ (dec r 4096).1, s.size ≤ 128 := by
  unfold dec at h ⊢
  match hr : readL r, h with
  | none, h => cases h
  | some l, h =>
    obtain ⟨g1, g2⟩ := readL_good hr
    simp only at h ⊢
    split
    · simp
    · split
      · simp
      · exact ⟨g2, g1⟩
theorem numsT_cons (s : ByteArray) (r : List ByteArray) : numsT (s :: r) = match rnum (toL s) 1099511627776 with
    | some (g, []) => (numsT r).map ((g : Int) :: ·)
    | _ => none := rfl
set_option maxRecDepth 100000 in
set_option maxHeartbeats 4000000 in
theorem tread_any (data : ByteArray) (hd : data.size ≤ 1000000000) (w : World) :
    Calls Tryz.prog 48 #[.string data] w fun x w' => JRes w (readT (toL data)) x w' := by
  have Hnew := hide (vnew_any data w)
  have Hnum := hide (fun W (h : RV W w.heap.size data 0) => vnum_any h (by omega) 2)
  match h1 : rnum (toL data) 2 with
  | none =>
    obtain ⟨e, he, hn⟩ := numR_nok h1
    rw [bs_toL] at hn
    have hn' : numR data 0 2 = (0, data, e) := hn
    have hr : readT (toL data) = none := by unfold readT; rw [h1]
    rw [hr]
    rw [hn'] at Hnum
    have hne : ((e : Int) != 0) = true := by rw [bne_iff_ne]; omega
    clear h1 hn hn' hr he
    go_enter Tryz.func48, Tryz.ntmps48
    go_wp2_with fail
    refine (Hnew.out).mono ?_
    rintro x w1 ⟨rfl, hv1, hb1⟩
    have Hb1 := hide hb1
    have Hn1 := hide (Hnum.out _ hv1)
    clear hv1 hb1 Hnum Hnew
    go_wp2_with fail
    refine (Hn1.out).mono ?_
    rintro x w2 ⟨rfl, hv2, hf2⟩
    have Hb2 := hide (fr_low Hb1.out hf2 (Nat.le_refl _))
    have He := hide (verr_any hv2)
    clear hv2 hf2 Hn1
    go_wp2_with fail
    refine (He.out).mono ?_
    rintro x w3 ⟨rfl, rfl⟩
    go_wp2
    go_ret2
    exact jres_none rfl Hb2.out
  | some (c, r) =>
    obtain ⟨hn, hc2, hrl⟩ := numR_some h1
    rw [bs_toL] at hn
    have hn' : numR data 0 2 = (c, bs r, 0) := hn
    rw [hn'] at Hnum
    have hrd : readT (toL data) = if c = 0 then (if (decn r 4096).2 ≠ 0 then none else jnL (decn r 4096).1) else if c = 1 then readC r else if (dec r 4096).2 ≠ 0 then none else match numsT (dec r 4096).1 with | none => none | some g => jnL g := by
      unfold readT; rw [h1]; rfl
    have hrz : r.length ≤ 1000000000 := by rw [toL_length] at hrl; omega
    have hts : (bs r).size = r.length := bs_size _
    have HTk := hide (takeR_all r)
    have hc3 : c = 0 ∨ c = 1 ∨ c = 2 := by omega
    clear h1 hn hn' hrl hc2
    rcases hc3 with rfl | rfl | rfl
    · rw [if_pos rfl] at hrd
      rw [hrd]
      have Hx := hide (fun W => decodenums_any (w := W) r (by omega) 4096)
      have hxl := (decn_good r 4096).2
      obtain ⟨⟨X, eX⟩, hX⟩ : ∃ r', decn r 4096 = r' := ⟨_, rfl⟩
      rw [hX] at Hx hxl ⊢
      simp only at hxl ⊢
      have Hxl := hide hxl
      obtain ⟨R, hR⟩ : ∃ R, (if eX ≠ 0 then none else jnL X) = R := ⟨_, rfl⟩
      rw [hR]
      have HR := hide hR
      clear hrd hX hxl hR
      go_enter Tryz.func48, Tryz.ntmps48
      go_wp2_with fail
      refine (Hnew.out).mono ?_
      rintro x w1 ⟨rfl, hv1, hb1⟩
      have Hb1 := hide hb1
      have Hn1 := hide (Hnum.out _ hv1)
      clear hv1 hb1 Hnum Hnew
      go_wp2_with fail
      refine (Hn1.out).mono ?_
      rintro x w2 ⟨rfl, hv2, hf2⟩
      have Hb2 := hide (fr_low Hb1.out hf2 (Nat.le_refl _))
      have He := hide (verr_any hv2)
      have HL := hide (vleft_any hv2 (by show (bs r).size ≤ _; omega))
      have HK := hide (vtake_any hv2 (by show (bs r).size ≤ _; omega) ((bs r).size : Int))
      clear hv2 hf2 Hn1 Hb1
      rw [HTk.out] at HK
      go_wp2_with fail
      refine (He.out).mono ?_
      rintro x w3 ⟨rfl, rfl⟩
      go_wp2_with fail
      refine (HL.out).mono ?_
      rintro x w3 ⟨rfl, rfl⟩
      go_wp2_with fail
      refine (HK.out).mono ?_
      rintro x w3 ⟨rfl, hv3, hf3⟩
      have Hb3 := hide (fr_low Hb2.out hf3 (Nat.le_refl _))
      clear hv3 hf3 He HL HK Hb2 HTk
      simp only
      go_wp2_with fail
      refine (Hx.out _).mono ?_
      rintro x w4 hl4
      obtain ⟨Ax, cx, rfl, hax, hb4⟩ := lres_open hl4
      have Hb4 := hide (Hb3.out.trans (hb4.mono Hb3.out.size))
      have Hax := hide (show At w4 Ax (ivs X) from hax)
      clear hl4 hax hb4 Hb3 Hx
      simp only
      by_cases he : eX = 0
      · subst he
        have hr0 := HR.out
        rw [if_neg (by simp)] at hr0
        have hxl := Hxl.out
        have HJ := hide (tjoin_any Hax.out X.length cx rfl (by omega))
        rw [hr0] at HJ
        clear hxl hr0
        go_wp2_with fail
        refine (HJ.out).mono ?_
        rintro x w5 ⟨vm, okm, rfl, hokm, hm, hb5⟩
        have Hokm := hide hokm
        have Hm := hide hm
        clear hokm hm
        go_wp2
        go_ret2
        exact ⟨_, _, rfl, Hokm.out, Hm.out, Hb4.out.trans (hb5.mono Hb4.out.size)⟩
      · have Hr0 : Hid (R = none) := hide (by rw [← HR.out, if_pos he])
        have hne : ((eX : Int) != 0) = true := by rw [bne_iff_ne]; omega
        clear he HR
        go_wp2
        go_ret2
        exact jres_none Hr0.out Hb4.out
    · rw [if_neg (by decide), if_pos rfl] at hrd
      rw [hrd]
      clear hrd
      go_enter Tryz.func48, Tryz.ntmps48
      go_wp2_with fail
      refine (Hnew.out).mono ?_
      rintro x w1 ⟨rfl, hv1, hb1⟩
      have Hb1 := hide hb1
      have Hn1 := hide (Hnum.out _ hv1)
      clear hv1 hb1 Hnum Hnew
      go_wp2_with fail
      refine (Hn1.out).mono ?_
      rintro x w2 ⟨rfl, hv2, hf2⟩
      have Hb2 := hide (fr_low Hb1.out hf2 (Nat.le_refl _))
      have He := hide (verr_any hv2)
      have HC := hide (treadc_any hv2 hrz)
      clear hv2 hf2 Hn1 Hb1
      go_wp2_with fail
      refine (He.out).mono ?_
      rintro x w3 ⟨rfl, rfl⟩
      go_wp2_with fail
      refine (HC.out).mono ?_
      rintro x w3 ⟨v, ok, rfl, hok, hres, hf3⟩
      have Hok := hide hok
      have Hres := hide hres
      have Hb3 := hide (fr_low Hb2.out hf3 (Nat.le_refl _))
      clear hok hres hf3
      go_wp2
      go_ret2
      exact ⟨_, _, rfl, Hok.out, Hres.out, Hb3.out⟩
    · rw [if_neg (by decide), if_neg (by decide)] at hrd
      rw [hrd]
      have Hx := hide (fun W => decode_any (w := W) (bs r) (by omega) 4096)
      rw [toL_bs] at Hx
      have hgood := fun h => dec_texts (r := r) h
      obtain ⟨⟨L, eL⟩, hL⟩ : ∃ r', dec r 4096 = r' := ⟨_, rfl⟩
      rw [hL] at Hx hgood ⊢
      simp only at hgood ⊢
      have Hgood := hide hgood
      obtain ⟨R, hR⟩ : ∃ R, (if eL ≠ 0 then none else match numsT L with | none => none | some g => jnL g) = R := ⟨_, rfl⟩
      rw [hR]
      have HR0 := hide hR
      clear hrd hL hgood hR
      go_enter Tryz.func48, Tryz.ntmps48
      go_wp2_with fail
      refine (Hnew.out).mono ?_
      rintro x w1 ⟨rfl, hv1, hb1⟩
      have Hb1 := hide hb1
      have Hn1 := hide (Hnum.out _ hv1)
      clear hv1 hb1 Hnum Hnew
      go_wp2_with fail
      refine (Hn1.out).mono ?_
      rintro x w2 ⟨rfl, hv2, hf2⟩
      have Hb2 := hide (fr_low Hb1.out hf2 (Nat.le_refl _))
      have He := hide (verr_any hv2)
      have HL := hide (vleft_any hv2 (by show (bs r).size ≤ _; omega))
      have HK := hide (vtake_any hv2 (by show (bs r).size ≤ _; omega) ((bs r).size : Int))
      clear hv2 hf2 Hn1 Hb1
      rw [HTk.out] at HK
      go_wp2_with fail
      refine (He.out).mono ?_
      rintro x w3 ⟨rfl, rfl⟩
      go_wp2_with fail
      refine (HL.out).mono ?_
      rintro x w3 ⟨rfl, rfl⟩
      go_wp2_with fail
      refine (HK.out).mono ?_
      rintro x w3 ⟨rfl, hv3, hf3⟩
      have Hb3 := hide (fr_low Hb2.out hf3 (Nat.le_refl _))
      clear hv3 hf3 He HL HK Hb2 HTk
      simp only
      go_wp2_with fail
      refine (Hx.out _).mono ?_
      rintro x w4 hl4
      obtain ⟨Ax, cx, rfl, hax, hb4⟩ := tres_open hl4
      have Hb4 := hide (Hb3.out.trans (hb4.mono Hb3.out.size))
      have Hax := hide (show At w4 Ax (svs L) from hax)
      clear hl4 hax hb4 Hb3 Hx
      simp only
      by_cases he : eL = 0
      · have heb : ((eL : Int) != 0) = false := by rw [he]; rfl
        have hR := HR0.out
        rw [if_neg (by simp [he])] at hR
        obtain ⟨hL4, hL8⟩ := Hgood.out he
        have HL8 := hide hL8
        obtain ⟨N, hN⟩ : ∃ N, L.length = N := ⟨_, rfl⟩
        rw [hN] at hL4
        have HN := hide hN
        have HR : Hid (R = match numsT L with | none => none | some g => jnL g) := hide hR.symm
        clear hL8 Hgood hR HR0 he
        go_upto_region 18 with fail
        rw [hN]
        clear hN
        go_wp2
        go_loopw [6, 55] (fun s6 s55 wr => ∃ (i : Nat) (G : List Int), i ≤ N ∧ s55 = .int .i64 (i : Int) ∧ Hid (numsT L = (numsT (L.drop i)).map (G ++ ·)) ∧ G.length = i ∧ Hid (wr.ownsRow w4.heap.size 3 1 s6 G.length (ivs G)) ∧ Hid (Below w4.heap.size w4 wr)) (fun _ s55 _ => (N - intOf s55).toNat)
        case atStart => exact ⟨0, [], Nat.zero_le _, rfl, hide (by simp), rfl, hide own_nil, hide (Below.refl _ _)⟩
        case round =>
          obtain ⟨i, G, hi, rfl, hnm, hGi, hown, hbr⟩ := hrel
          by_cases hlt : i < N
          · have hil : i < L.length := by rw [HN.out]; exact hlt
            have hdr : L.drop i = L[i] :: L.drop (i + 1) := List.drop_eq_getElem_cons hil
            have hget : (svs L)[i]? = some (.string L[i]) := svs_get L i hil
            have hsz := HL8.out L[i] (List.getElem_mem _)
            obtain ⟨s, hs⟩ : ∃ s, L[i] = s := ⟨_, rfl⟩
            rw [hs] at hdr hget hsz
            obtain ⟨b', o', hA, hb', hc⟩ := (Hax.out.below hbr.out).get i _ hget
            subst hA
            have hnm2 := hnm.out
            rw [hdr, numsT_cons] at hnm2
            have hlti : (i : Int) < (N : Int) := by omega
            have Hnew := hide (vnew_any s wr)
            have Hnum := hide (fun W (h : RV W wr.heap.size s 0) => vnum_any h (by omega) 1099511627776)
            obtain ⟨gn, tn, en, hq⟩ : ∃ g t e, numR s 0 1099511627776 = (g, t, e) := ⟨_, _, _, rfl⟩
            rw [hq] at Hnum
            simp only at Hnum
            have hway : ((endR tn en ≠ 0) ∧ R = none) ∨ ((endR tn en = 0) ∧ numsT L = (numsT (L.drop (i + 1))).map ((G ++ [(gn : Int)]) ++ ·)) := by
              match h1 : rnum (toL s) 1099511627776 with
              | none =>
                obtain ⟨e, he, hn⟩ := numR_nok h1
                rw [bs_toL] at hn
                have hn' : numR s 0 1099511627776 = (0, s, e) := hn
                rw [hq] at hn'
                injection hn' with h3 h4
                injection h4 with h4 h5
                subst h3; subst h4; subst h5
                left
                rw [h1] at hnm2
                refine ⟨?_, by rw [HR.out, hnm2]; rfl⟩
                unfold endR
                rw [if_neg (fun h => he h.1)]
                exact he
              | some (g, u) =>
                obtain ⟨hn, _, _⟩ := numR_some h1
                rw [bs_toL] at hn
                have hn' : numR s 0 1099511627776 = (g, bs u, 0) := hn
                rw [hq] at hn'
                injection hn' with h3 h4
                injection h4 with h4 h5
                subst h3; subst h4; subst h5
                rw [h1] at hnm2
                cases u with
                | nil =>
                  right
                  refine ⟨rfl, ?_⟩
                  simp only at hnm2
                  rw [hnm2, Option.map_map]
                  congr 1
                  funext z
                  simp
                | cons z u =>
                  left
                  refine ⟨?_, by rw [HR.out, hnm2]; rfl⟩
                  unfold endR
                  rw [if_pos ⟨rfl, by rw [bs_size]; simp⟩]
                  decide
            have Hway := hide hway
            clear hil hdr hget hs hb' hnm2 hnm hq hway
            have HGi := hide hGi
            go_wp2_with fail
            refine (Hnew.out).mono ?_
            rintro x w5 ⟨rfl, hv5, hb5⟩
            have Hn5 := hide (Hnum.out _ hv5)
            have hown5 := own_fr hown.out (Fr.of_below (S := nob) hb5) (fun g hg h => h)
            have hbb5 := hbr.out.trans (hb5.mono hbr.out.size)
            have Hown5 := hide hown5
            have Hbb5 := hide hbb5
            have hfar := own_far hown.out
            have hwr := hbr.out.size
            have Hfar := hide hfar
            have Hwr := hide hwr
            clear hv5 hb5 hown5 hbb5 hfar hwr Hnew Hnum hown hbr
            go_wp2_with fail
            refine (Hn5.out).mono ?_
            rintro x w6 ⟨rfl, hv6, hf6⟩
            have hown6 := own_fr Hown5.out hf6 (fun g hg h => by have h1 := Hfar.out g hg; have h2 : g = wr.heap.size := h; omega)
            have hbb6 := fr_lowB Hbb5.out hf6 Hwr.out Hbb5.out.size
            have hGl : G.length ≤ 4096 := by omega
            obtain ⟨v', w7, hrun, hown1, hf1, hbk⟩ := app_own (P := Tryz.prog) 22 3 _ _ Tryz.underlying22 intinf rfl hown6 hbb6 hbb6.size (.int .i64 (gn : Int)) rfl (by unfold maxLen; omega) (by omega)
            have hv7 : RV w7 wr.heap.size tn en := hbk _ _ _ hv6 (by decide)
            have Hrun := hide hrun
            have Hown1 : Hid (w7.ownsRow w4.heap.size 3 1 v' (G ++ [(gn : Int)]).length (ivs (G ++ [(gn : Int)]))) := hide (by
              rw [List.length_append, ivs_snoc]
              exact hown1)
            have Hf1 := hide hf1
            have Hend := hide (vend_any hv7)
            have Hbo := hide (fun g hg => own_far hown1 g hg)
            have Hne : Hid (∀ g, v'.ownBlock = some g → g ≠ wr.heap.size) := hide (fun g hg he => by
              subst he
              exact absurd (own_apart hown1 hv7 (by decide)) (by rw [hg]; simp))
            clear hrun hown1 hf1 hbk hv7 hv6 hf6 hown6 hbb6 hGl Hn5 Hown5 Hbb5 Hfar
            obtain ⟨ee, hee⟩ : ∃ e, endR tn en = e := ⟨_, rfl⟩
            rw [hee] at Hend Hway
            clear hee
            rcases Hway.out with ⟨he1, hRn⟩ | ⟨he1, hnx⟩
            · have hne1 : ((ee : Int) != 0) = true := by rw [bne_iff_ne]; omega
              have HRn := hide hRn
              clear he1 hRn Hway
              go_wp2_with (first
                | (at_builtin
                   refine wpList_run (by with_reducible rfl) rfl _ _ _ rfl _ _ (by rfl) (by rfl) Hrun.out ?_)
                | (go_at_call 78
                   refine (Hend.out).mono ?_
                   rintro x w8 ⟨rfl, hf8⟩))
              go_ret2
              exact jres_none HRn.out (fr_lowB (Hb4.out.trans (Hf1.out.mono Hb4.out.size)) hf8 (by have := Hwr.out; have := Hb4.out.size; omega) (by have := Hf1.out.size; have := Hb4.out.size; omega))
            · have hne1 : ((ee : Int) != 0) = false := by rw [he1]; rfl
              have Hnx := hide hnx
              have hGs : (G ++ [(gn : Int)]).length = i + 1 := by rw [List.length_append, HGi.out]; rfl
              have HGs := hide hGs
              clear he1 hnx Hway hGs
              go_wp2_with (first
                | (at_builtin
                   refine wpList_run (by with_reducible rfl) rfl _ _ _ rfl _ _ (by rfl) (by rfl) Hrun.out ?_)
                | (go_at_call 78
                   refine (Hend.out).mono ?_
                   rintro x w8 ⟨rfl, hf8⟩))
              refine ⟨⟨i + 1, _, hlt, by go_num, Hnx, HGs.out, hide (own_fr Hown1.out hf8 (fun g hg h => Hne.out g hg h)), hide (fr_lowB Hf1.out hf8 Hwr.out Hf1.out.size)⟩, ?_⟩
              simp [intOf] <;> omega
          · have hiN : i = N := by omega
            subst hiN
            have hnm2 := hnm.out
            rw [List.drop_eq_nil_of_le (by rw [HN.out]; exact Nat.le_refl _)] at hnm2
            have hnm3 : numsT L = some G := by rw [hnm2]; simp [numsT]
            have hr2 : R = jnL G := by rw [HR.out, hnm3]
            obtain ⟨A9, cap9, hv9, hat9⟩ := own_at hown.out
            subst hv9
            have HJ := hide (tjoin_any hat9 G.length cap9 rfl (by omega))
            have Hb5 := hide (Hb4.out.trans (hbr.out.mono Hb4.out.size))
            rw [← hr2] at HJ
            clear hnm hnm2 hnm3 hr2 hat9 hown hbr hGi HR
            go_wp2_with fail
            refine (HJ.out).mono ?_
            rintro x w5 ⟨vm, okm, rfl, hokm, hm, hb5⟩
            have Hokm := hide hokm
            have Hm := hide hm
            clear hokm hm
            go_wp2
            go_ret2
            exact ⟨_, _, rfl, Hokm.out, Hm.out, Hb5.out.trans (hb5.mono Hb5.out.size)⟩
      · have Hr0 : Hid (R = none) := hide (by rw [← HR0.out, if_pos he])
        have hne : ((eL : Int) != 0) = true := by rw [bne_iff_ne]; omega
        clear he HR0
        go_wp2
        go_ret2
        exact jres_none Hr0.out Hb4.out
end Go.Proofs.YtgllednilkfpgaaGreat
/-
  The walks over times: the times with some bytes, if they are the bytes of the times.
-/
namespace Go.Proofs.YtgllednilkfpgaaGreat
open Go.RowKit Go.Proofs Wv Wv.Vi Wv.Rc Wv.Mo Wv.Ru Wv.Tm
set_option linter.unusedVariables false

theorem finC_len {c : Clk} {X Y : List Int × Nat} {l : List Int} (h : finC c X Y = some l) : l.length ≤ 8192 := by
  unfold finC at h
  split at h
  · cases h
  · rename_i hc
    have hv : vclk c = true := by
      cases hv : vclk c with
      | true => rfl
      | false => exact absurd (.inl hv) hc
    match h1 : jnL X.1, h2 : jnL Y.1, h with
    | some m, some x, h =>
      injection h with h
      subst h
      have h3 := jn_len h2
      have h4 := (vclk_iff.1 hv).1.2.1
      have h5 := keepP_len c m c.n.toNat
      have h6 : keepL c m = keepP c m c.n.toNat := rfl
      unfold rebL
      rw [srt_length, List.length_append, h6]
      omega
theorem readT_len {data : List UInt8} {l : List Int} (h : readT data = some l) : l.length ≤ 8192 := by
  unfold readT at h
  match h1 : rnum data 2, h with
  | some (c, r), h =>
    simp only at h
    split at h
    · split at h
      · cases h
      · have := jn_len h; omega
    · split at h
      · unfold readC at h
        match h2 : rclk r, h with
        | some (c, a, t), h => exact finC_len h
      · split at h
        · cases h
        · match h2 : numsT (dec r 4096).1, h with
          | some g, h => have := jn_len h; omega
set_option maxRecDepth 100000 in
set_option maxHeartbeats 1000000 in
theorem tdecode_any {w : World} (data : ByteArray) (hd : data.size ≤ 1000000000) (most : Int) :
    Calls Tryz.prog 23 #[.string data, .int .i64 most] w fun x w' => LRes w x w' (decT (toL data) most) := by
  have H1 := hide (tread_any data hd w)
  unfold decT
  match hr : readT (toL data) with
  | none =>
    rw [hr] at H1
    simp only
    clear hr hd
    go_enter Tryz.func23, Tryz.ntmps23
    go_wp2_with fail
    refine (H1.out).mono ?_
    rintro x w1 ⟨v, ok, rfl, hok, hs, hb⟩
    have hok2 : ok = false := hok
    subst hok2
    clear hs hok
    go_wp2
    go_returns
    exact lres_err 12 hb
  | some l =>
    rw [hr] at H1
    simp only
    have g2 := readT_len hr
    have H2 := hide (fun W A cap (h : At W A (ivs l)) => tencode_any h l.length cap rfl (by omega))
    obtain ⟨⟨X, xe⟩, hX⟩ : ∃ x, encT l = x := ⟨_, rfl⟩
    rw [hX] at H2 ⊢
    simp only
    clear hr hd hX
    by_cases hbad : xe ≠ 0 ∨ X ≠ toL data
    · rw [if_pos hbad]
      have q : ((xe : Int) != 0) = true ∨ (((xe : Int) != 0) = false ∧ (((bs X).toList != data.toList) = true ∧ ((bs X).toList == data.toList) = false)) := by
        by_cases hx : xe = 0
        · right
          have hne : X ≠ toL data := hbad.resolve_left (fun h => h hx)
          have h3 : ((bs X).toList == data.toList) = false := by
            rw [str_eq, decide_eq_false_iff_not]
            intro h
            exact hne (by rw [← h, toL_bs])
          refine ⟨by rw [hx]; rfl, by rw [bne, h3]; rfl, h3⟩
        · left; rw [bne_iff_ne]; omega
      clear hbad
      rcases q with q | ⟨q, q2, q3⟩
      all_goals
        go_enter Tryz.func23, Tryz.ntmps23
        go_wp2_with fail
        refine (H1.out).mono ?_
        rintro x w1 ⟨v, ok, rfl, hok, hs, hb⟩
        have hok2 : ok = true := hok
        subst hok2
        obtain ⟨A, cap, rfl, hat⟩ := hs l rfl
        have H3 := hide (H2.out _ _ cap hat)
        clear hs hat hok
        go_wp2_with fail
        refine (H3.out).mono ?_
        rintro x w2 ⟨rfl, hb2⟩
        have hbb := hb.trans (hb2.mono hb.size)
        go_wp2
        go_returns
        exact lres_err 12 hbb
    · rw [if_neg hbad]
      have hx : xe = 0 := by omega
      have hXd : X = toL data := by
        rcases Classical.em (X = toL data) with h | h
        · exact h
        · exact absurd (.inr h) hbad
      subst hx; subst hXd
      have q2 : ((bs (toL data)).toList != data.toList) = false := by rw [bs_toL, bne_self_eq_false]
      have q3 : ((bs (toL data)).toList == data.toList) = true := by rw [bs_toL, beq_self_eq_true]
      clear hbad
      by_cases hm : most < (l.length : Int)
      · rw [if_pos hm]
        go_enter Tryz.func23, Tryz.ntmps23
        go_wp2_with fail
        refine (H1.out).mono ?_
        rintro x w1 ⟨v, ok, rfl, hok, hs, hb⟩
        have hok2 : ok = true := hok
        subst hok2
        obtain ⟨A, cap, rfl, hat⟩ := hs l rfl
        have H3 := hide (H2.out _ _ cap hat)
        clear hs hat hok
        go_wp2_with fail
        refine (H3.out).mono ?_
        rintro x w2 ⟨rfl, hb2⟩
        have hbb := hb.trans (hb2.mono hb.size)
        go_wp2
        go_returns
        exact lres_err 2 hbb
      · rw [if_neg hm]
        go_enter Tryz.func23, Tryz.ntmps23
        go_wp2_with fail
        refine (H1.out).mono ?_
        rintro x w1 ⟨v, ok, rfl, hok, hs, hb⟩
        have hok2 : ok = true := hok
        subst hok2
        obtain ⟨A, cap, rfl, hat⟩ := hs l rfl
        have H3 := hide (H2.out _ _ cap hat)
        have Hat := hide hat
        clear hs hat hok
        go_wp2_with fail
        refine (H3.out).mono ?_
        rintro x w2 ⟨rfl, hb2⟩
        have hbb := hb.trans (hb2.mono hb.size)
        have hat2 := Hat.out.below hb2
        go_wp2
        go_returns
        exact ⟨_, rfl, ⟨A, cap, rfl, hat2⟩, hbb⟩
end Go.Proofs.YtgllednilkfpgaaGreat
