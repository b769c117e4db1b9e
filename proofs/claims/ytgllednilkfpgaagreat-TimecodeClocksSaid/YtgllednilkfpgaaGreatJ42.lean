/-
  The laws of times: decoding, strictness, inverting.
-/
import Derived.Test.YtgllednilkfpgaaGreatJ41
set_option linter.unusedVariables false
set_option linter.unusedSimpArgs false
namespace Go.Proofs.YtgllednilkfpgaaGreat
open Go.RowKit Go.Proofs Wv Wv.Vi Wv.Rc Wv.Mo Wv.Ru Wv.Tm
set_option linter.unusedVariables false
theorem run_field3 (a b d m : Int) (w : World) : (Instr.field 24 (.agg #[.int .i64 a, .int .i64 b, .int .i64 d, .int .i64 m]) 3).run Tryz.prog w = .ok (.int .i64 m) w := by
  kernel_rfl
set_option maxRecDepth 100000 in
theorem llight_any {w : World} {A : Option Addr} {l : List Int} (ha : At w A (ivs l)) (n cap : Nat) (hn : n = l.length) (hn4 : n ≤ 9223372036854775807) :
    Calls Tryz.prog 22 #[.slice A n cap] w fun x w' => x = .returned (.bool (decide ((detect l).n ≤ 300))) ∧ Below w.heap.size w w' := by
  have H := hide (ndetect_any ha n cap hn hn4)
  obtain ⟨⟨a, b, d, m⟩, hc⟩ : ∃ c, detect l = c := ⟨_, rfl⟩
  have hcv : CV ⟨a, b, d, m⟩ = .agg #[.int .i64 a, .int .i64 b, .int .i64 d, .int .i64 m] := rfl
  rw [hc, hcv] at H
  rw [hc]
  simp only
  clear ha hn hc hcv
  go_enter Tryz.func22, Tryz.ntmps22
  go_wp2_with fail
  refine (H.out).mono ?_
  rintro x w1 ⟨rfl, hb1⟩
  have hrf := run_field3 a b d m w1
  go_wp2
  go_returns
  exact ⟨rfl, hb1⟩
set_option maxRecDepth 100000 in
set_option maxHeartbeats 2000000 in
theorem ltdecodes_any {w : World} (data : ByteArray) (hsz : data.size ≤ 9223372036854775807) (most : Int) (hi : I64 most) :
    Calls Tryz.prog 4 #[.string data, .int .i64 most] w fun x w' => LTrue w x w' := by
  have Haw := hide (tawake_any w)
  by_cases hbig : (120 : Int) < (data.size : Int)
  · clear hsz hi
    go_enter Tryz.func4, Tryz.ntmps4
    go_wp2_with fail
    refine (Haw.out).mono ?_
    rintro x w1 ⟨rfl, hb1⟩
    go_wp2
    go_returns
    exact ⟨rfl, hb1⟩
  · have Hr := hide (fun W => nread_any data (by omega) W)
    have Hp := hide (fun W => tdecode_any (w := W) data (by omega) most)
    have Hq := hide (fun W => ndecode_any (w := W) data (by omega) most)
    have hdl := decT_len (toL data) most
    obtain ⟨⟨X, e⟩, hX⟩ : ∃ x, decT (toL data) most = x := ⟨_, rfl⟩
    rw [hX] at Hp Hq hdl
    simp only at hdl
    have Hin := hide (fun W B C c1 c2 (h1 : At W B (ivs X)) (h2 : At W C (ivs X)) => ints_same h1 h2 X.length c1 X.length c2 rfl rfl (by omega))
    clear hX
    obtain ⟨R, hR⟩ : ∃ R, readT (toL data) = R := ⟨_, rfl⟩
    rw [hR] at Hr
    have hlen : ∀ l, R = some l → l.length ≤ 8192 := fun l h => readT_len (hR.trans h)
    clear hR hsz hi hdl
    cases R with
    | none =>
      clear hlen
      go_enter Tryz.func4, Tryz.ntmps4
      go_wp2_with fail
      refine (Haw.out).mono ?_
      rintro x w1 ⟨rfl, hb1⟩
      go_wp2_with fail
      refine (Hr.out _).mono ?_
      rintro x w2 ⟨v2, ok, rfl, hok, _, hb2⟩
      have hok2 : ok = false := hok
      subst hok2
      have hbn2 := bel_step hb1 hb2
      clear hb1 hb2 hok
      go_wp2_with fail
      refine (Hp.out _).mono ?_
      rintro x w3 hl3
      obtain ⟨B3, c3, rfl, hat3, hb3⟩ := lres_open hl3
      have hbn3 := bel_step hbn2 hb3
      clear hbn2 hb3 hl3
      simp only at hat3 ⊢
      go_wp2_with fail
      refine (Hq.out _).mono ?_
      rintro x w4 hl4
      obtain ⟨B4, c4, rfl, hat4, hb4⟩ := lres_open hl4
      have hbn4 := bel_step hbn3 hb4
      have Ht := hide (Hin.out _ _ _ c3 c4 (hat3.below hb4) hat4)
      clear hbn3 hb4 hat3 hat4 hl4
      simp only
      go_wp2_with fail
      refine (Ht.out).mono ?_
      rintro x w5 ⟨rfl, hq5⟩
      have hbn5 := drew_bel hbn4 hq5
      clear hbn4 hq5
      go_wp2
      go_returns
      exact ⟨rfl, hbn5⟩
    | some l =>
      have hl8 := hlen l rfl
      clear hlen
      have Hli := hide (fun W A cap (h : At W A (ivs l)) => llight_any h l.length cap rfl (by omega))
      by_cases hl : (300 : Int) < (l.length : Int)
      · go_enter Tryz.func4, Tryz.ntmps4
        go_wp2_with fail
        refine (Haw.out).mono ?_
        rintro x w1 ⟨rfl, hb1⟩
        go_wp2_with fail
        refine (Hr.out _).mono ?_
        rintro x w2 ⟨v2, ok, rfl, hok, hs2, hb2⟩
        have hok2 : ok = true := hok
        subst hok2
        obtain ⟨A2, c2, rfl, _⟩ := hs2 l rfl
        have hbn2 := bel_step hb1 hb2
        clear hb1 hb2 hs2 hok
        go_wp2
        go_returns
        exact ⟨rfl, hbn2⟩
      · obtain ⟨lb, hlb⟩ : ∃ b, decide ((detect l).n ≤ 300) = b := ⟨_, rfl⟩
        rw [hlb] at Hli
        clear hlb
        cases lb with
        | false =>
          go_enter Tryz.func4, Tryz.ntmps4
          go_wp2_with fail
          refine (Haw.out).mono ?_
          rintro x w1 ⟨rfl, hb1⟩
          go_wp2_with fail
          refine (Hr.out _).mono ?_
          rintro x w2 ⟨v2, ok, rfl, hok, hs2, hb2⟩
          have hok2 : ok = true := hok
          subst hok2
          obtain ⟨A2, c2, rfl, hat2⟩ := hs2 l rfl
          have Hl2 := hide (Hli.out _ _ c2 hat2)
          have hbn2 := bel_step hb1 hb2
          clear hb1 hb2 hs2 hok hat2
          go_wp2_with fail
          refine (Hl2.out).mono ?_
          rintro x w3 ⟨rfl, hb3⟩
          have hbn3 := bel_step hbn2 hb3
          clear hbn2 hb3
          go_wp2
          go_returns
          exact ⟨rfl, hbn3⟩
        | true =>
          go_enter Tryz.func4, Tryz.ntmps4
          go_wp2_with fail
          refine (Haw.out).mono ?_
          rintro x w1 ⟨rfl, hb1⟩
          go_wp2_with fail
          refine (Hr.out _).mono ?_
          rintro x w2 ⟨v2, ok, rfl, hok, hs2, hb2⟩
          have hok2 : ok = true := hok
          subst hok2
          obtain ⟨A2, c2, rfl, hat2⟩ := hs2 l rfl
          have Hl2 := hide (Hli.out _ _ c2 hat2)
          have hbn2 := bel_step hb1 hb2
          clear hb1 hb2 hs2 hok hat2
          go_wp2_with fail
          refine (Hl2.out).mono ?_
          rintro x w3 ⟨rfl, hb3⟩
          have hbn3 := bel_step hbn2 hb3
          clear hbn2 hb3
          go_wp2_with fail
          refine (Hp.out _).mono ?_
          rintro x w4 hl4
          obtain ⟨B3, c3, rfl, hat3, hb4⟩ := lres_open hl4
          have hbn4 := bel_step hbn3 hb4
          clear hbn3 hb4 hl4
          simp only at hat3 ⊢
          go_wp2_with fail
          refine (Hq.out _).mono ?_
          rintro x w5 hl5
          obtain ⟨B4, c4, rfl, hat4, hb5⟩ := lres_open hl5
          have hbn5 := bel_step hbn4 hb5
          have Ht := hide (Hin.out _ _ _ c3 c4 (hat3.below hb5) hat4)
          clear hbn4 hb5 hat3 hat4 hl5
          simp only
          go_wp2_with fail
          refine (Ht.out).mono ?_
          rintro x w6 ⟨rfl, hq6⟩
          have hbn6 := drew_bel hbn5 hq6
          clear hbn5 hq6
          go_wp2
          go_returns
          exact ⟨rfl, hbn6⟩
set_option maxRecDepth 100000 in
set_option maxHeartbeats 2000000 in
theorem ltstrict_any {w : World} (data : ByteArray) (hsz : data.size ≤ 9223372036854775807) (b : Int) (hb0 : 0 ≤ b) (hb1 : b < 256) :
    Calls Tryz.prog 6 #[.string data, .int .u8 b] w fun x w' => LTrue w x w' := by
  have Haw := hide (tawake_any w)
  by_cases hbig : (200 : Int) < (data.size : Int)
  · clear hsz
    go_enter Tryz.func6, Tryz.ntmps6
    go_wp2_with fail
    refine (Haw.out).mono ?_
    rintro x w1 ⟨rfl, hb1⟩
    go_wp2
    go_returns
    exact ⟨rfl, hb1⟩
  · have Hd := hide (fun W => tdecode_any (w := W) data (by omega) 300)
    rcases decT_strict (toL data) 300 with (h | h) | ⟨l, h, he, hv, hr, hl3⟩
    · rw [h] at Hd
      clear hsz h
      go_enter Tryz.func6, Tryz.ntmps6
      go_wp2_with fail
      refine (Haw.out).mono ?_
      rintro x w1 ⟨rfl, hb1⟩
      go_wp2_with fail
      refine (Hd.out _).mono ?_
      rintro x w2 hl2
      obtain ⟨B2, c2, rfl, _, hb2⟩ := lres_open hl2
      have hbn2 := bel_step hb1 hb2
      clear hl2
      simp only [List.length_nil]
      go_wp2
      go_returns
      exact ⟨rfl, hbn2⟩
    · rw [h] at Hd
      clear hsz h
      go_enter Tryz.func6, Tryz.ntmps6
      go_wp2_with fail
      refine (Haw.out).mono ?_
      rintro x w1 ⟨rfl, hb1⟩
      go_wp2_with fail
      refine (Hd.out _).mono ?_
      rintro x w2 hl2
      obtain ⟨B2, c2, rfl, _, hb2⟩ := lres_open hl2
      have hbn2 := bel_step hb1 hb2
      clear hl2
      simp only [List.length_nil]
      go_wp2
      go_returns
      exact ⟨rfl, hbn2⟩
    · rw [h] at Hd
      have He : Hid (∀ W B c, At W B (ivs l) → Calls Tryz.prog 25 #[.slice B l.length c] W fun x w' => x = .returned (.tuple #[.string data, .int .i64 0]) ∧ Below W.heap.size W w') := hide (fun W B c h => by
        have := tencode_any h l.length c rfl (by omega)
        rw [he] at this
        exact this)
      have Hv : Hid (∀ W B c, At W B (ivs l) → Calls Tryz.prog 17 #[.slice B l.length c] W fun x w' => x = .returned (.bool true) ∧ ∃ q, w' = W.drewN q) := hide (fun W B c h => by
        have := nvalid_any h l.length c rfl (by omega)
        rw [hv] at this
        exact this)
      have hmore := decT_more he (UInt8.ofNat b.toNat) 300
      have hcat : data ++ ⟨#[UInt8.ofNat b.toNat]⟩ = bs (toL data ++ [UInt8.ofNat b.toNat]) := by
        rw [← bs_append]
        rfl
      have Hm := hide (fun W => tdecode_any (w := W) (bs (toL data ++ [UInt8.ofNat b.toNat])) (by rw [bs_size, List.length_append, toL_length]; simp; omega) 300)
      rw [toL_bs, hmore, ← hcat] at Hm
      have hcv := conv_one (P := Tryz.prog) 44 9 5 Tryz.underlying44 Tryz.underlying5 Tryz.underlying9
      have hs1 : (⟨#[UInt8.ofNat b.toNat]⟩ : ByteArray).size = 1 := rfl
      have hds : data.size ≤ 200 := by omega
      clear hsz h he hr hv hl3 hmore hcat
      go_enter Tryz.func6, Tryz.ntmps6
      go_wp2_with fail
      refine (Haw.out).mono ?_
      rintro x w1 ⟨rfl, hb1⟩
      have hbn1 := hide hb1
      clear hb1
      go_wp2_with fail
      refine (Hd.out _).mono ?_
      rintro x w2 hl2
      obtain ⟨B2, c2, rfl, hx2, hb2⟩ := lres_open hl2
      have hbn2 := hide (bel_step hbn1.out hb2)
      have He2 := hide (He.out _ _ c2 hx2)
      have hx2' := hide (show At w2 B2 (ivs l) from hx2)
      clear hb2 hbn1 hx2 hl2
      simp only
      go_wp2_with fail
      refine (He2.out).mono ?_
      rintro x w3 ⟨rfl, hb3⟩
      have hbn3 := hide (bel_step (bel_step hbn2.out hb3) (bel_new w3 (.cells #[.int .u8 b] 5)))
      have hx3 := hide ((hx2'.out.below hb3).alloc (.cells #[.int .u8 b] 5))
      clear hb3 hbn2 He2 hx2'
      go_wp2_with fail
      refine (Hm.out _).mono ?_
      rintro x w4 hl4
      obtain ⟨B4, c4, rfl, _, hb4⟩ := lres_open hl4
      have hbn4 := hide (bel_step hbn3.out hb4)
      have Hv4 := hide (Hv.out _ _ c2 (hx3.out.below hb4))
      clear hb4 hbn3 hl4 hx3
      simp only [List.length_nil]
      go_wp2_with fail
      refine (Hv4.out).mono ?_
      rintro x w5 ⟨rfl, hq5⟩
      have hbn5 := drew_bel hbn4.out hq5
      clear hbn4 hq5
      go_wp2
      go_returns
      exact ⟨rfl, hbn5⟩
set_option maxRecDepth 100000 in
set_option maxHeartbeats 2000000 in
theorem ltinverts_any {w : World} {A : Option Addr} {l : List Int} (ha : At w A (ivs l)) (_ : ∀ n ∈ l, I64 n) (n cap : Nat) (hn : n = l.length) (hm : n ≤ 9223372036854775807) :
    Calls Tryz.prog 5 #[.slice A n cap] w fun x w' => LTrue w x w' := by
  have Haw := hide (tawake_any w)
  by_cases hbig : (100 : Int) < (n : Int)
  · clear ha hn
    go_enter Tryz.func5, Tryz.ntmps5
    go_wp2_with fail
    refine (Haw.out).mono ?_
    rintro x w1 ⟨rfl, hb1⟩
    go_wp2
    go_returns
    exact ⟨rfl, hb1⟩
  · have Ha := hide ha
    have He := hide (fun W (h : At W A (ivs l)) => tencode_any h n cap hn (by omega))
    have Hnv := hide (fun W (h : At W A (ivs l)) => nvalid_any h n cap hn (by omega))
    have Htv := hide (fun W (h : At W A (ivs l)) => tvalid_any h n cap hn (by omega))
    cases hv : validT l with
    | false =>
      rw [hv] at Hnv Htv
      rw [encT_bad hv] at He
      have hem : (bs ([] : List UInt8)).toList.isEmpty = true := by decide +kernel
      clear ha hn hv
      go_enter Tryz.func5, Tryz.ntmps5
      go_wp2_with fail
      refine (Haw.out).mono ?_
      rintro x w1 ⟨rfl, hb1⟩
      have He1 := hide (He.out _ (Ha.out.below hb1))
      go_wp2_with fail
      refine (He1.out).mono ?_
      rintro x w2 ⟨rfl, hb2⟩
      have hbn2 := bel_step hb1 hb2
      have Hv2 := hide (Hnv.out _ (Ha.out.below hbn2))
      clear He1 hb1 hb2
      simp only
      go_wp2_with fail
      refine (Hv2.out).mono ?_
      rintro x w3 ⟨rfl, hq3⟩
      have hbn3 := drew_bel hbn2 hq3
      have Hv3 := hide (Htv.out _ (Ha.out.below hbn3))
      clear hbn2 hq3 Hv2
      go_wp2_with fail
      refine (Hv3.out).mono ?_
      rintro x w4 ⟨rfl, rfl⟩
      go_wp2
      go_returns
      exact ⟨rfl, hbn3⟩
    | true =>
      have hd0 := decT_enc hv (n : Int)
      have hd1 := decT_enc hv ((n : Int) - 1)
      rw [if_neg (by omega)] at hd0
      rw [if_pos (by omega)] at hd1
      have h2 : (encT l).2 = 0 := by obtain ⟨c, _, _, he⟩ := encT_cases hv; rw [he]
      have hel := encT_len l
      obtain ⟨⟨S, e⟩, hS⟩ : ∃ x, encT l = x := ⟨_, rfl⟩
      rw [hS] at hd0 hd1 h2 hel He
      unfold ERes at He
      simp only at hd0 hd1 h2 hel He
      subst h2
      have D0 := hide (fun W => tdecode_any (w := W) (bs S) (by rw [bs_size]; omega) (n : Int))
      have D1 := hide (fun W => tdecode_any (w := W) (bs S) (by rw [bs_size]; omega) ((n : Int) - 1))
      rw [toL_bs, hd0] at D0
      rw [toL_bs, hd1] at D1
      rw [hv] at Hnv Htv
      have Hin := hide (fun W B c1 (h1 : At W B (ivs l)) (h2 : At W A (ivs l)) => ints_same h1 h2 l.length c1 n cap rfl hn (by omega))
      clear ha hn hv hd0 hd1 hel hS
      generalize bs S = SX at *
      go_enter Tryz.func5, Tryz.ntmps5
      go_wp2_with fail
      refine (Haw.out).mono ?_
      rintro x w1 ⟨rfl, hb1⟩
      have He1 := hide (He.out _ (Ha.out.below hb1))
      go_wp2_with fail
      refine (He1.out).mono ?_
      rintro x w2 ⟨rfl, hb2⟩
      have hbn2 := bel_step hb1 hb2
      have Hv2 := hide (Hnv.out _ (Ha.out.below hbn2))
      clear He1 hb1 hb2
      simp only
      go_wp2_with fail
      refine (Hv2.out).mono ?_
      rintro x w3 ⟨rfl, hq3⟩
      have hbn3 := drew_bel hbn2 hq3
      clear hbn2 hq3 Hv2
      go_wp2_with fail
      refine (D0.out _).mono ?_
      rintro x w4 hl4
      obtain ⟨B4, c4, rfl, hat4, hb4⟩ := lres_open hl4
      have hbn4 := bel_step hbn3 hb4
      have hx4 := hide (show At w4 B4 (ivs l) from hat4)
      clear hbn3 hb4 hl4 hat4
      simp only
      go_wp2_with fail
      refine (D1.out _).mono ?_
      rintro x w5 hl5
      obtain ⟨B5, c5, rfl, _, hb5⟩ := lres_open hl5
      have hbn5 := bel_step hbn4 hb5
      have hx5 := hide (hx4.out.below hb5)
      have Hv5 := hide (Htv.out _ (Ha.out.below hbn5))
      clear hbn4 hb5 hl5 hx4
      simp only [List.length_nil]
      go_wp2_with fail
      refine (Hv5.out).mono ?_
      rintro x w6 ⟨rfl, rfl⟩
      have Hi6 := hide (Hin.out _ _ c4 hx5.out (Ha.out.below hbn5))
      clear Hv5 hx5
      go_wp2_with fail
      refine (Hi6.out).mono ?_
      rintro x w7 ⟨rfl, hq7⟩
      have hbn7 := drew_bel hbn5 hq7
      clear hbn5 hq7 Hi6
      go_wp2
      go_returns
      exact ⟨rfl, hbn7⟩
end Go.Proofs.YtgllednilkfpgaaGreat
