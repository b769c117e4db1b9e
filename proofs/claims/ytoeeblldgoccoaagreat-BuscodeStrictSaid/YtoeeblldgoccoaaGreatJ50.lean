/-
  The laws of lists of values: decoding, inverting, strictness.
-/
import Derived.Test.YtoeeblldgoccoaaGreatJ46
set_option linter.unusedVariables false
set_option linter.unusedSimpArgs false
namespace Go.Proofs.YtoeeblldgoccoaaGreat
open Go.RowKit Go.Proofs Wv Wv.Vi Wv.Rc Wv.Mo Wv.Ru Wv.Tm Wv.Bc
set_option linter.unusedVariables false
set_option maxRecDepth 100000 in
set_option maxHeartbeats 2000000 in
theorem lbinverts_any {w : World} (W : Int) (_ : I64 W) {A : Option Addr} {l : List ByteArray} (ha : At w A (svs l)) (hsz : ∀ s ∈ l, s.size ≤ 9223372036854775807) (n cap : Nat) (hn : n = l.length) (hm : n ≤ 9223372036854775807) :
  Calls Tryz.prog 6 #[.int .i64 W, .slice A n cap] w fun x w' => BTrue w x w' := by
 have Haw := hide (bawake_any w)
 have Ha := hide ha
 have Hs := hide (fun W (h : At W A (svs l)) => lbshort_any h hsz n cap hn hm 60)
 have hcs : shortB l 60 200 = true ∨ shortB l 60 200 = false := by cases shortB l 60 200 <;> simp
 rcases hcs with hc | hc
 case inr =>
  rw [hc] at Hs
  clear hsz hn ha hc
  go_enter Tryz.func6, Tryz.ntmps6
  go_wp2_with fail
  refine (Haw.out).mono ?_
  rintro x w1 ⟨rfl, hb1⟩
  have Hs1 := hide (Hs.out w1 (Ha.out.below hb1))
  go_wp2_with fail
  refine (Hs1.out).mono ?_
  rintro x w2 ⟨rfl, rfl⟩
  go_wp2
  go_returns
  exact ⟨rfl, hb1⟩
 case inl =>
 obtain ⟨hl60, hlz⟩ := lbshort_of (m := 60) hc
 rw [hc] at Hs
 have He := hide (fun W2 (h : At W2 A (svs l)) => bencode_any h hlz n cap hn hm W)
 have Hnv := hide (fun W2 (h : At W2 A (svs l)) => a14valid_any h hlz n cap hn hm W)
 have Htv := hide (fun W2 (h : At W2 A (svs l)) => validB_any h hlz n cap hn hm W)
 cases hv : validB W l with
 | false =>
  rw [hv] at Hnv Htv
  rw [encB_bad hv] at He
  have hem : (bs ([] : List UInt8)).toList.isEmpty = true := by decide +kernel
  clear ha hn hv hsz hc hl60 hlz
  go_enter Tryz.func6, Tryz.ntmps6
  go_wp2_with fail
  refine (Haw.out).mono ?_
  rintro x w1 ⟨rfl, hb1⟩
  have Hs1 := hide (Hs.out w1 (Ha.out.below hb1))
  have Hb1 := hide hb1
  clear hb1 Haw Hs
  go_wp2_with fail
  refine (Hs1.out).mono ?_
  rintro x w2 ⟨rfl, rfl⟩
  have He1 := hide (He.out _ (Ha.out.below Hb1.out))
  clear Hs1 He
  go_wp2_with fail
  refine (He1.out).mono ?_
  rintro x w2 ⟨rfl, hb2⟩
  have Hb2 := hide (bel_step Hb1.out hb2)
  have Hv2 := hide (Hnv.out _ (Ha.out.below Hb2.out))
  clear He1 Hb1 hb2 Hnv
  simp only
  go_wp2_with fail
  refine (Hv2.out).mono ?_
  rintro x w3 ⟨rfl, rfl⟩
  have Hv3 := hide (Htv.out _ (Ha.out.below Hb2.out))
  clear Hv2 Htv
  go_wp2_with fail
  refine (Hv3.out).mono ?_
  rintro x w4 ⟨rfl, hb4⟩
  have Hb4 := hide (bel_step Hb2.out hb4)
  clear Hv3 Hb2 hb4
  go_wp2
  go_returns
  exact ⟨rfl, Hb4.out⟩
 | true =>
  have hd0 := decB_enc hv (n : Int)
  have hd1 := decB_enc hv ((n : Int) - 1)
  rw [if_neg (by omega)] at hd0
  rw [if_pos (by omega)] at hd1
  have h2 : (encB' W l).2 = 0 := by obtain ⟨c, s, _, _, he⟩ := encB_cases hv; rw [he]
  have hel := encB_len W l
  obtain ⟨⟨S, e⟩, hS⟩ : ∃ x, encB' W l = x := ⟨_, rfl⟩
  rw [hS] at hd0 hd1 h2 hel He
  unfold ERes at He
  simp only at hd0 hd1 h2 hel He
  subst h2
  have D0 := hide (fun W2 => bdecode_any (w := W2) W (bs S) (by rw [bs_size]; omega) (n : Int))
  have D1 := hide (fun W2 => bdecode_any (w := W2) W (bs S) (by rw [bs_size]; omega) ((n : Int) - 1))
  rw [toL_bs, hd0] at D0
  rw [toL_bs, hd1] at D1
  rw [hv] at Hnv
  have Hin := hide (fun W2 B c1 (h1 : At W2 B (svs l)) (h2 : At W2 A (svs l)) => sv_texts h1 h2 l.length c1 n cap rfl hn (by omega))
  have hn60 : (n : Int) ≤ 60 := by omega
  clear ha hn hv hd0 hd1 hel hS hsz hc hl60 hlz Htv
  generalize bs S = SX at *
  go_enter Tryz.func6, Tryz.ntmps6
  go_wp2_with fail
  refine (Haw.out).mono ?_
  rintro x w1 ⟨rfl, hb1⟩
  have Hs1 := hide (Hs.out w1 (Ha.out.below hb1))
  have Hb1 := hide hb1
  clear hb1 Haw Hs
  go_wp2_with fail
  refine (Hs1.out).mono ?_
  rintro x w2 ⟨rfl, rfl⟩
  have He1 := hide (He.out _ (Ha.out.below Hb1.out))
  clear Hs1 He
  go_wp2_with fail
  refine (He1.out).mono ?_
  rintro x w2 ⟨rfl, hb2⟩
  have Hb2 := hide (bel_step Hb1.out hb2)
  have Hv2 := hide (Hnv.out _ (Ha.out.below Hb2.out))
  clear He1 Hb1 hb2 Hnv
  go_wp2_with fail
  refine (Hv2.out).mono ?_
  rintro x w3 ⟨rfl, rfl⟩
  clear Hv2
  go_wp2_with fail
  refine (D0.out _).mono ?_
  rintro x w4 hl4
  obtain ⟨B4, c4, rfl, hat4, hb4⟩ := tres_sv hl4
  have Hb4 := hide (bel_step Hb2.out hb4)
  have Hx4 := hide (show At w4 B4 (svs l) from hat4)
  clear Hb2 hb4 hl4 hat4 D0
  go_wp2_with fail
  refine (D1.out _).mono ?_
  rintro x w5 hl5
  obtain ⟨B5, c5, rfl, _, hb5⟩ := tres_sv hl5
  have Hb5 := hide (bel_step Hb4.out hb5)
  have Hi6 := hide (Hin.out _ _ c4 (Hx4.out.below hb5) (Ha.out.below Hb5.out))
  clear Hb4 hb5 hl5 Hx4 D1 Hin
  simp only [List.length_nil]
  go_wp2_with fail
  refine (Hi6.out).mono ?_
  rintro x w7 ⟨rfl, hq7⟩
  have Hb7 := hide (drew_bel Hb5.out hq7)
  clear Hb5 hq7 Hi6
  go_wp2
  go_returns
  exact ⟨rfl, Hb7.out⟩
set_option maxRecDepth 100000 in
set_option maxHeartbeats 2000000 in
theorem lbstrict_any {w : World} (W : Int) (_ : I64 W) (data : ByteArray) (hsz : data.size ≤ 9223372036854775807) (b : Int) (hb0 : 0 ≤ b) (hb1 : b < 256) :
  Calls Tryz.prog 8 #[.int .i64 W, .string data, .int .u8 b] w fun x w' => BTrue w x w' := by
 have Haw := hide (bawake_any w)
 by_cases hbig : (200 : Int) < (data.size : Int)
 ·clear hsz
  go_enter Tryz.func8, Tryz.ntmps8
  go_wp2_with fail
  refine (Haw.out).mono ?_
  rintro x w1 ⟨rfl, hb1⟩
  go_wp2
  go_returns
  exact ⟨rfl, hb1⟩
 ·have Hd := hide (fun W2 => bdecode_any (w := W2) W data (by omega) 300)
  rcases decB_strict W (toL data) 300 with ⟨hw, h⟩ | ⟨hw1, hw2, h | h⟩ | ⟨l, h, he, hv, hl3⟩
  ·rw [h] at Hd
   clear hsz h
   rcases hw with hw | hw
   ·go_enter Tryz.func8, Tryz.ntmps8
    go_wp2_with fail
    refine (Haw.out).mono ?_
    rintro x w1 ⟨rfl, hb1⟩
    go_wp2_with fail
    refine (Hd.out _).mono ?_
    rintro x w2 hl2
    obtain ⟨B2, c2, rfl, _, hb2⟩ := tres_sv hl2
    have hbn2 := bel_step hb1 hb2
    clear hl2
    simp only [List.length_nil]
    go_wp2
    go_returns
    exact ⟨rfl, hbn2⟩
   ·have hw3 : ¬ W < 1 := by omega
    go_enter Tryz.func8, Tryz.ntmps8
    go_wp2_with fail
    refine (Haw.out).mono ?_
    rintro x w1 ⟨rfl, hb1⟩
    go_wp2_with fail
    refine (Hd.out _).mono ?_
    rintro x w2 hl2
    obtain ⟨B2, c2, rfl, _, hb2⟩ := tres_sv hl2
    have hbn2 := bel_step hb1 hb2
    clear hl2
    simp only [List.length_nil]
    go_wp2
    go_returns
    exact ⟨rfl, hbn2⟩
  ·rw [h] at Hd
   clear hsz h
   go_enter Tryz.func8, Tryz.ntmps8
   go_wp2_with fail
   refine (Haw.out).mono ?_
   rintro x w1 ⟨rfl, hb1⟩
   go_wp2_with fail
   refine (Hd.out _).mono ?_
   rintro x w2 hl2
   obtain ⟨B2, c2, rfl, _, hb2⟩ := tres_sv hl2
   have hbn2 := bel_step hb1 hb2
   clear hl2
   simp only [List.length_nil]
   go_wp2
   go_returns
   exact ⟨rfl, hbn2⟩
  ·rw [h] at Hd
   clear hsz h
   go_enter Tryz.func8, Tryz.ntmps8
   go_wp2_with fail
   refine (Haw.out).mono ?_
   rintro x w1 ⟨rfl, hb1⟩
   go_wp2_with fail
   refine (Hd.out _).mono ?_
   rintro x w2 hl2
   obtain ⟨B2, c2, rfl, _, hb2⟩ := tres_sv hl2
   have hbn2 := bel_step hb1 hb2
   clear hl2
   simp only [List.length_nil]
   go_wp2
   go_returns
   exact ⟨rfl, hbn2⟩
  ·rw [h] at Hd
   have hlz : ∀ s ∈ l, s.size ≤ 1099511627776 := fun s hs => by
    have := (vld_iff.1 ((validB_iff.1 hv).1 s hs)).1
    have := (isV_iff.1 this).2.2
    rw [toL_length] at this
    omega
   have hl4 := (validB_iff.1 hv).2.2.2
   have He : Hid (∀ W2 B c, At W2 B (svs l) → Calls Tryz.prog 19 #[.int .i64 W, .slice B l.length c] W2 fun x w' => x = .returned (.tuple #[.string data, .int .i64 0]) ∧ Below W2.heap.size W2 w') := hide (fun W2 B c h => by
    have := bencode_any h hlz l.length c rfl (by omega) W
    rw [he] at this
    exact this)
   have Hv : Hid (∀ W2 B c, At W2 B (svs l) → Calls Tryz.prog 14 #[.int .i64 W, .slice B l.length c] W2 fun x w' => x = .returned (.bool true) ∧ W2 = w') := hide (fun W2 B c h => by
    have := a14valid_any h hlz l.length c rfl (by omega) W
    rw [hv] at this
    exact this)
   have hmore := decB_more he (UInt8.ofNat b.toNat) 300
   have hcat : data ++ ⟨#[UInt8.ofNat b.toNat]⟩ = bs (toL data ++ [UInt8.ofNat b.toNat]) := by
    rw [← bs_append]
    rfl
   have Hm := hide (fun W2 => bdecode_any (w := W2) W (bs (toL data ++ [UInt8.ofNat b.toNat])) (by rw [bs_size, List.length_append, toL_length]; simp; omega) 300)
   rw [toL_bs, hmore, ← hcat] at Hm
   have hcv := conv_one (P := Tryz.prog) 42 9 5 Tryz.underlying42 Tryz.underlying5 Tryz.underlying9
   have hs1 : (⟨#[UInt8.ofNat b.toNat]⟩ : ByteArray).size = 1 := rfl
   have hds : data.size ≤ 200 := by omega
   clear hsz h he hv hl3 hmore hcat hlz hl4
   go_enter Tryz.func8, Tryz.ntmps8
   go_wp2_with fail
   refine (Haw.out).mono ?_
   rintro x w1 ⟨rfl, hb1⟩
   have hbn1 := hide hb1
   clear hb1
   go_wp2_with fail
   refine (Hd.out _).mono ?_
   rintro x w2 hl2
   obtain ⟨B2, c2, rfl, hx2, hb2⟩ := tres_sv hl2
   have hbn2 := hide (bel_step hbn1.out hb2)
   have He2 := hide (He.out _ _ c2 hx2)
   have hx2' := hide (show At w2 B2 (svs l) from hx2)
   clear hb2 hbn1 hx2 hl2
   simp only
   go_wp2_with fail
   refine (He2.out).mono ?_
   rintro x w3 ⟨rfl, hb3⟩
   have hbn3 := hide (bel_step (bel_step hbn2.out hb3) (bel_new w3 (.cells #[.int .u8 b] 5)))
   have hx3 := hide ((hx2'.out.below hb3).alloc (.cells #[.int .u8 b] 5))
   clear hb3 hbn2 He2 hx2'
   go_wp2_with fail
   refine (Hm.out _).mono ?_
   rintro x w4 hl4
   obtain ⟨B4, c4, rfl, _, hb4⟩ := tres_sv hl4
   have hbn4 := hide (bel_step hbn3.out hb4)
   have Hv4 := hide (Hv.out _ _ c2 (hx3.out.below hb4))
   clear hb4 hbn3 hl4 hx3
   simp only [List.length_nil]
   go_wp2_with fail
   refine (Hv4.out).mono ?_
   rintro x w5 ⟨rfl, rfl⟩
   go_wp2
   go_returns
   exact ⟨rfl, hbn4.out⟩
end Go.Proofs.YtoeeblldgoccoaaGreat
