/-
  Joined texts: Od, Oe.
-/
import Derived.Test.YtgllednilkfpgaaGreatJ42
set_option linter.unusedVariables false
set_option linter.unusedSimpArgs false
/-
  The laws of times: bytes, choice.
-/
namespace Go.Proofs.YtgllednilkfpgaaGreat
open Go.RowKit Go.Proofs Wv Wv.Vi Wv.Rc Wv.Mo Wv.Ru Wv.Tm
set_option linter.unusedVariables false
set_option maxRecDepth 100000 in
set_option maxHeartbeats 2000000 in
theorem ltbytes_any {w : World} (c : Int) (_ : I64 c) {A : Option Addr} {l : List Int} (ha : At w A (ivs l)) (_ : ∀ n ∈ l, I64 n) (n cap : Nat) (hn : n = l.length) (hm : n ≤ 9223372036854775807) :
    Calls Tryz.prog 7 #[.int .i64 c, .slice A n cap] w fun x w' => LTrue w x w' := by
  have Haw := hide (tawake_any w)
  have Ha := hide ha
  by_cases hbig : (50 : Int) < (n : Int)
  · clear ha hn
    go_enter Tryz.func7, Tryz.ntmps7
    go_wp2_with fail
    refine (Haw.out).mono ?_
    rintro x w1 ⟨rfl, hb1⟩
    go_wp2
    go_returns
    exact ⟨rfl, hb1⟩
  · have Hli := hide (fun W (h : At W A (ivs l)) => llight_any h n cap hn (by omega))
    obtain ⟨lb, hlb⟩ : ∃ b, decide ((detect l).n ≤ 300) = b := ⟨_, rfl⟩
    rw [hlb] at Hli
    clear hlb
    cases lb with
    | false =>
      clear ha hn
      go_enter Tryz.func7, Tryz.ntmps7
      go_wp2_with fail
      refine (Haw.out).mono ?_
      rintro x w1 ⟨rfl, hb1⟩
      have Hl1 := hide (Hli.out _ (Ha.out.below hb1))
      go_wp2_with fail
      refine (Hl1.out).mono ?_
      rintro x w2 ⟨rfl, hb2⟩
      have hbn2 := bel_step hb1 hb2
      clear hb1 hb2 Hl1
      go_wp2
      go_returns
      exact ⟨rfl, hbn2⟩
    | true =>
      have H1 := hide (fun W (h : At W A (ivs l)) => tencas_any c h n cap hn hm)
      have H2 := hide (fun W (h : At W A (ivs l)) => nencas_any c h n cap hn hm)
      have H3 := hide (fun W (h : At W A (ivs l)) => tencode_any h n cap hn hm)
      have H4 := hide (fun W (h : At W A (ivs l)) => nencode_any h n cap hn hm)
      unfold ERes at H1 H2 H3 H4
      generalize encAsT c l = r1 at *
      generalize encT l = r2 at *
      obtain ⟨X, e⟩ := r1
      obtain ⟨Y, f⟩ := r2
      simp only at H1 H2 H3 H4
      generalize bs X = SX at *
      generalize bs Y = SY at *
      clear ha hn
      go_enter Tryz.func7, Tryz.ntmps7
      go_wp2_with fail
      refine (Haw.out).mono ?_
      rintro x w1 ⟨rfl, hb1⟩
      have hat1 := hide (Ha.out.below hb1)
      have Hl1 := hide (Hli.out _ hat1.out)
      have hbn1 := hide hb1
      clear hb1 Haw Hli
      go_wp2_with fail
      refine (Hl1.out).mono ?_
      rintro x w2 ⟨rfl, hb2⟩
      have hbn2 := hide (bel_step hbn1.out hb2)
      have hat2 := hide (hat1.out.below hb2)
      clear hb2 hbn1 hat1 Hl1
      go_wp2_with fail
      refine (H1.out _ hat2.out).mono ?_
      rintro x w3 ⟨rfl, hb3⟩
      have hbn3 := hide (bel_step hbn2.out hb3)
      have hat3 := hide (hat2.out.below hb3)
      clear hb3 hbn2 hat2
      go_wp2_with fail
      refine (H2.out _ hat3.out).mono ?_
      rintro x w4 ⟨rfl, hb4⟩
      have hbn4 := hide (bel_step hbn3.out hb4)
      have hat4 := hide (hat3.out.below hb4)
      clear hb4 hbn3 hat3
      go_wp2_with fail
      refine (H3.out _ hat4.out).mono ?_
      rintro x w5 ⟨rfl, hb5⟩
      have hbn5 := hide (bel_step hbn4.out hb5)
      have hat5 := hide (hat4.out.below hb5)
      clear hb5 hbn4 hat4
      go_wp2_with fail
      refine (H4.out _ hat5.out).mono ?_
      rintro x w6 ⟨rfl, hb6⟩
      have hbn6 := hide (bel_step hbn5.out hb6)
      clear hb6 hbn5 hat5
      go_wp2
      go_returns
      exact ⟨rfl, hbn6.out⟩
/-- The shortest of the codings so far. -/
def bstT (l : List Int) : Nat → List UInt8
  | 0 => []
  | i + 1 => if i = 1 ∧ l.length < 2 then bstT l i else if bstT l i = [] ∨ (codT i l).length < (bstT l i).length then codT i l else bstT l i
theorem codT_first {c : Nat} (hc : c ≤ 2) (l : List Int) : ∃ t, codT c l = UInt8.ofNat c :: t := by
  have h0 : num 0 = [0] := by decide
  have h1 : num 1 = [1] := by decide
  have h2 : num 2 = [2] := by decide
  rcases (show c = 0 ∨ c = 1 ∨ c = 2 by omega) with rfl | rfl | rfl
  · exact ⟨numsI (gapsT l), by show num 0 ++ _ = _; rw [h0]; rfl⟩
  · exact ⟨_, by show cod1 l = _; rw [cod1_eq, h1]; rfl⟩
  · exact ⟨(enc (txts (gapsT l))).1, by show num 2 ++ _ = _; rw [h2]; rfl⟩
theorem codT_ne {c : Nat} (hc : c ≤ 2) (l : List Int) : codT c l ≠ [] := by
  obtain ⟨t, h⟩ := codT_first hc l
  rw [h]
  simp
theorem bstT_three {l : List Int} (h : validT l = true) : bstT l 3 = (encT l).1 := by
  have n0 := codT_ne (c := 0) (by omega) l
  have n1 := codT_ne (c := 1) (by omega) l
  have b1 : bstT l 1 = cod0 l := by
    show (if (0 = 1 ∧ l.length < 2) then bstT l 0 else if bstT l 0 = [] ∨ (codT 0 l).length < (bstT l 0).length then codT 0 l else bstT l 0) = _
    rw [if_neg (by omega), if_pos (.inl rfl)]
    rfl
  unfold encT
  rw [if_pos h]
  simp only
  by_cases h2 : l.length < 2
  · rw [if_pos h2]
    have b2 : bstT l 2 = cod0 l := by
      show (if (1 = 1 ∧ _) then bstT l 1 else _) = _
      rw [if_pos ⟨rfl, h2⟩, b1]
    show (if (2 = 1 ∧ _) then _ else if bstT l 2 = [] ∨ (cod2 l).length < (bstT l 2).length then cod2 l else bstT l 2) = _
    rw [if_neg (by omega), b2]
    unfold mnT
    by_cases h3 : (cod2 l).length < (cod0 l).length
    · rw [if_pos (.inr h3), if_pos h3]
    · rw [if_neg (by rintro (h | h); exact n0 h; exact h3 h), if_neg h3]
  · rw [if_neg h2]
    have b2 : bstT l 2 = mnT (cod0 l) (cod1 l) := by
      show (if (1 = 1 ∧ l.length < 2) then bstT l 1 else if bstT l 1 = [] ∨ (cod1 l).length < (bstT l 1).length then cod1 l else bstT l 1) = _
      rw [if_neg (by omega), b1]
      unfold mnT
      by_cases h3 : (cod1 l).length < (cod0 l).length
      · rw [if_pos (.inr h3), if_pos h3]
      · rw [if_neg (by rintro (h | h); exact n0 h; exact h3 h), if_neg h3]
    show (if (2 = 1 ∧ _) then _ else if bstT l 2 = [] ∨ (cod2 l).length < (bstT l 2).length then cod2 l else bstT l 2) = _
    rw [if_neg (by omega), b2]
    have hz : mnT (cod0 l) (cod1 l) ≠ [] := by
      unfold mnT
      split
      · exact n1
      · exact n0
    obtain ⟨z, hz2⟩ : ∃ z, mnT (cod0 l) (cod1 l) = z := ⟨_, rfl⟩
    rw [hz2] at hz ⊢
    have h4 : mnT z (cod2 l) = if (cod2 l).length < z.length then cod2 l else z := rfl
    rw [h4]
    by_cases h3 : (cod2 l).length < z.length
    · rw [if_pos (.inr h3), if_pos h3]
    · rw [if_neg (by rintro (h | h); exact hz h; exact h3 h), if_neg h3]
theorem scontains_any {w : World} {A : Option Addr} {l : List Int} (ha : At w A (ivs l)) (n cap : Nat) (hn : n = l.length) (hn4 : n ≤ 9223372036854775807) (x : Int) :
    Calls Tryz.prog 29 #[.slice A n cap, .int .i64 x] w fun e w' => e = .returned (.bool (l.contains x)) ∧ w' = w := by
  by_cases h0 : n = 0
  · subst h0
    have hl : l = [] := List.eq_nil_of_length_eq_zero hn.symm
    subst hl
    exact Tryz.slices_Contains_int_empty A cap x w
  · obtain ⟨b, o, rfl, hb, _⟩ := ha 0 (by simp [ivs]; omega)
    refine (Tryz.slices_Contains_int b o n cap l x w (by omega) (by omega) (fun j hj => ?_)).mono fun e w' ⟨h1, h2⟩ => ⟨by rw [List.take_of_length_le (by omega)] at h1; exact h1, h2⟩
    obtain ⟨b', o', hA, hb', hc⟩ := ha j (by simpa [ivs] using hj)
    injection hA with hA
    injection hA with hA1 hA2
    subst hA1; subst hA2
    rw [hc]
    simp [ivs, iv, hj]
theorem sequal_any {w : World} {A B : Option Addr} {l r : List Int} (ha : At w A (ivs l)) (hb : At w B (ivs r)) (n c m d : Nat) (hn : n = l.length) (hm : m = r.length) (hn4 : n ≤ 9223372036854775807) (hm4 : m ≤ 9223372036854775807) :
    Calls Tryz.prog 31 #[.slice A n c, .slice B m d] w fun e w' => e = .returned (.bool (decide (l = r))) ∧ ∃ q, w' = w.drewN q := by
  by_cases h0 : n = 0
  · subst h0
    have hl : l = [] := List.eq_nil_of_length_eq_zero hn.symm
    subst hl
    refine (Tryz.slices_Equal_int_empty A B c m d w hm4).mono fun e w' ⟨h1, h2⟩ => ⟨?_, 0, h2⟩
    rw [h1]
    congr 2
    rw [hm]
    cases r <;> simp
  · by_cases hnm : n = m
    · obtain ⟨b, o, rfl, _, _⟩ := ha 0 (by simp [ivs]; omega)
      obtain ⟨b2, o2, rfl, _, _⟩ := hb 0 (by simp [ivs]; omega)
      refine (Tryz.slices_Equal_int b o n c b2 o2 m d l r w (by omega) (by omega) hn4 hm4 (fun j hj => ?_) (fun j hj => ?_)).mono fun e w' ⟨h1, h2⟩ => ⟨?_, h2⟩
      · obtain ⟨b', o', hA, hb', hc⟩ := ha j (by simpa [ivs] using hj)
        injection hA with hA
        injection hA with hA1 hA2
        subst hA1; subst hA2
        rw [hc]
        simp [ivs, iv, hj]
      · obtain ⟨b', o', hA, hb', hc⟩ := hb j (by simpa [ivs] using hj)
        injection hA with hA
        injection hA with hA1 hA2
        subst hA1; subst hA2
        rw [hc]
        simp [ivs, iv, hj]
      · rw [h1, List.take_of_length_le (by omega), List.take_of_length_le (by omega)]
        congr 2
        rw [Bool.eq_iff_iff]
        simp
    · refine (Tryz.slices_Equal_int_lens A B n c m d w hnm).mono fun e w' ⟨h1, h2⟩ => ⟨?_, 0, h2⟩
      rw [h1]
      congr 2
      symm
      rw [decide_eq_false_iff_not]
      rintro rfl
      omega
end Go.Proofs.YtgllednilkfpgaaGreat
/-
  The laws of times: the choice of the shortest coding.
-/
namespace Go.Proofs.YtgllednilkfpgaaGreat
open Go.RowKit Go.Proofs Wv Wv.Vi Wv.Rc Wv.Mo Wv.Ru Wv.Tm
set_option linter.unusedVariables false
theorem codT_inj {a b : Nat} (ha : a ≤ 2) (hb : b ≤ 2) {l : List Int} (h : codT a l = codT b l) : a = b := by
  obtain ⟨t, h1⟩ := codT_first ha l
  obtain ⟨u, h2⟩ := codT_first hb l
  rw [h1, h2] at h
  injection h with h _
  have := congrArg UInt8.toNat h
  simp at this
  omega
theorem bs_empty (L : List UInt8) : (bs L).toList.isEmpty = decide (L = []) := by
  have h : (bs L).toList.isEmpty = ((bs L).toList == (bs []).toList) := by
    have : (bs ([] : List UInt8)).toList = [] := by decide +kernel
    rw [this]
    cases (bs L).toList <;> rfl
  rw [h, Bool.eq_iff_iff, beq_iff_eq, decide_eq_true_iff, ByteArray.toList_eq, ByteArray.toList_eq]
  exact Iff.rfl
set_option maxRecDepth 100000 in
set_option maxHeartbeats 4000000 in
theorem ltchoice_any {w : World} {A : Option Addr} {l : List Int} (ha : At w A (ivs l)) (_ : ∀ n ∈ l, I64 n) (n cap : Nat) (hn : n = l.length) (hm : n ≤ 9223372036854775807) :
    Calls Tryz.prog 8 #[.slice A n cap] w fun x w' => LTrue w x w' := by
  have Haw := hide (tawake_any w)
  have Ha := hide ha
  by_cases hbig : (60 : Int) < (n : Int)
  · clear ha hn
    go_enter Tryz.func8, Tryz.ntmps8
    go_wp2_with fail
    refine (Haw.out).mono ?_
    rintro x w1 ⟨rfl, hb1⟩
    go_wp2
    go_returns
    exact ⟨rfl, hb1⟩
  · have Hnv := hide (fun W (h : At W A (ivs l)) => nvalid_any h n cap hn (by omega))
    cases hv : validT l with
    | false =>
      rw [hv] at Hnv
      clear ha hn hv
      go_enter Tryz.func8, Tryz.ntmps8
      go_wp2_with fail
      refine (Haw.out).mono ?_
      rintro x w1 ⟨rfl, hb1⟩
      have Hn1 := hide (Hnv.out _ (Ha.out.below hb1))
      go_wp2_with fail
      refine (Hn1.out).mono ?_
      rintro x w2 ⟨rfl, hq2⟩
      have hbn2 := drew_bel hb1 hq2
      clear hb1 hq2 Hn1
      go_wp2
      go_returns
      exact ⟨rfl, hbn2⟩
    | true =>
      rw [hv] at Hnv
      obtain ⟨c0, hc0, hc1, hec⟩ := encT_cases hv
      have hb3 := bstT_three hv
      have Hb3 : Hid (bs (bstT l 3) = bs (codT c0 l)) := hide (by rw [hb3, hec])
      have He := hide (fun W (h : At W A (ivs l)) => tencode_any h n cap hn (by omega))
      rw [hec] at He
      unfold ERes at He
      simp only at He
      have Has : Hid (∀ (i : Nat), i ≤ 2 → ¬ (i = 1 ∧ n < 2) → ∀ W, At W A (ivs l) → Calls Tryz.prog 26 #[.int .i64 (i : Int), .slice A n cap] W fun x w' => x = .returned (.tuple #[.string (bs (codT i l)), .int .i64 0]) ∧ Below W.heap.size W w') := hide (fun i hi hi1 W h => by
        have := tencas_any (i : Int) h n cap hn (by omega)
        have he : encAsT (i : Int) l = (codT i l, 0) := by
          unfold encAsT
          rw [if_neg (by omega), if_pos hv, Int.toNat_natCast]
        rw [he] at this
        exact this)
      have Has1 : Hid (n < 2 → ∀ W, At W A (ivs l) → Calls Tryz.prog 26 #[.int .i64 1, .slice A n cap] W fun x w' => x = .returned (.tuple #[.string (bs []), .int .i64 1]) ∧ Below W.heap.size W w') := hide (fun hn2 W h => by
        have := tencas_any 1 h n cap hn (by omega)
        have he : encAsT 1 l = ([], 1) := by
          unfold encAsT
          rw [if_pos (.inr (.inr ⟨rfl, by omega⟩))]
        rw [he] at this
        exact this)
      have Hdc : Hid (∀ (i : Nat), i ≤ 2 → ¬ (i = 1 ∧ n < 2) → i = c0 → ∀ W, Calls Tryz.prog 23 #[.string (bs (codT i l)), .int .i64 60] W fun x w' => ∃ B cap, x = .returned (.tuple #[.slice B n cap, .int .i64 0]) ∧ At w' B (ivs l) ∧ Below W.heap.size W w') := hide (fun i hi hi1 hic W => by
        have := tdecode_any (w := W) (bs (codT i l)) (by have := codT_len hv hi (by omega); rw [bs_size]; omega) 60
        rw [toL_bs, decT_cod hv i hi (by omega) 60, hec, hic, if_neg (by simp), if_neg (by omega)] at this
        rw [hic]
        refine this.mono fun x w' hx => ?_
        obtain ⟨B, c, h1, h2, h3⟩ := lres_open hx
        exact ⟨B, c, by rw [h1, hn]; rfl, h2, h3⟩)
      have Hdn : Hid (∀ (i : Nat), i ≤ 2 → ¬ (i = 1 ∧ n < 2) → i ≠ c0 → ∀ W, Calls Tryz.prog 23 #[.string (bs (codT i l)), .int .i64 60] W fun x w' => ∃ B cap, x = .returned (.tuple #[.slice B 0 cap, .int .i64 12]) ∧ Below W.heap.size W w') := hide (fun i hi hi1 hic W => by
        have := tdecode_any (w := W) (bs (codT i l)) (by have := codT_len hv hi (by omega); rw [bs_size]; omega) 60
        rw [toL_bs, decT_cod hv i hi (by omega) 60, hec, if_pos (fun h => hic (codT_inj hi hc0 h.symm))] at this
        refine this.mono fun x w' hx => ?_
        obtain ⟨B, c, h1, h2, h3⟩ := lres_open hx
        exact ⟨B, c, h1, h3⟩)
      have Hin := hide (fun W B c1 (h1 : At W B (ivs l)) (h2 : At W A (ivs l)) => ints_same h1 h2 n c1 n cap hn hn (by omega))
      have hbst0 : bs (bstT l 0) = ⟨#[]⟩ := rfl
      have Hb0 := hide hbst0
      have Hbs : Hid (∀ i, bstT l (i + 1) = if i = 1 ∧ n < 2 then bstT l i else if bstT l i = [] ∨ (codT i l).length < (bstT l i).length then codT i l else bstT l i) := hide (fun i => by rw [hn]; rfl)
      have Hne : Hid (∀ i, i ≤ 2 → (bs (codT i l)).toList.isEmpty = false) := hide (fun i hi => by rw [bs_empty, decide_eq_false_iff_not]; exact codT_ne hi l)
      have Hfi : Hid (∀ i, i ≤ 2 → ∃ t, codT i l = UInt8.ofNat i :: t) := hide (fun i hi => codT_first hi l)
      have Heq : Hid (∀ i, i ≤ 2 → ((bs (codT i l)).toList == (bs (codT c0 l)).toList) = decide (i = c0)) := hide (fun i hi => by
        rw [str_eq, Bool.eq_iff_iff, decide_eq_true_iff, decide_eq_true_iff, bs_inj]
        exact ⟨fun h => codT_inj hi hc0 h, fun h => by rw [h]⟩)
      obtain ⟨BT, hBT⟩ : ∃ B : Nat → List UInt8, bstT l = B := ⟨_, rfl⟩
      obtain ⟨CT, hCT⟩ : ∃ C : Nat → List UInt8, (fun i => codT i l) = C := ⟨_, rfl⟩
      have hCT2 : ∀ i, codT i l = CT i := fun i => congrFun hCT i
      rw [hBT] at Hb3 Hb0 Hbs
      simp only [hCT2] at Hb3 He Has Hdc Hdn Hbs Hne Hfi Heq
      clear ha hn hv hc1 hec hb3 hbst0 hBT hCT hCT2
      obtain ⟨SX, hSX⟩ : ∃ S, bs (CT c0) = S := ⟨_, rfl⟩
      rw [hSX] at He Hb3 Heq
      clear hSX
      go_enter Tryz.func8, Tryz.ntmps8
      go_wp2_with fail
      refine (Haw.out).mono ?_
      rintro x w1 ⟨rfl, hb1⟩
      have Hn1 := hide (Hnv.out _ (Ha.out.below hb1))
      go_wp2_with fail
      refine (Hn1.out).mono ?_
      rintro x w2 ⟨rfl, hq2⟩
      have hbn2 := drew_bel hb1 hq2
      have He2 := hide (He.out _ (Ha.out.below hbn2))
      clear hb1 hq2 Hn1 Hnv Haw He
      go_wp2_with fail
      refine (He2.out).mono ?_
      rintro x w3 ⟨rfl, hb3⟩
      have Hbn3 := hide (bel_step hbn2 hb3)
      clear hbn2 hb3 He2
      go_wp2
      go_loopw [5, 26] (fun s5 s26 wr => ∃ i : Nat, i ≤ 3 ∧ s5 = .string (bs (BT i)) ∧ s26 = .int .i64 (i : Int) ∧ Hid (Below w.heap.size w wr)) (fun _ s26 _ => (3 - intOf s26).toNat)
      case atStart => exact ⟨0, by omega, by rw [Hb0.out], rfl, Hbn3⟩
      case round =>
        clear Hbn3 Hb0
        obtain ⟨i, hi, rfl, rfl, hb⟩ := hrel
        by_cases hlt : i < 3
        · have hlti : (i : Int) < 3 := by omega
          by_cases hsk : i = 1 ∧ n < 2
          · obtain ⟨rfl, hn2⟩ := hsk
            have H1 := hide (Has1.out hn2 _ (Ha.out.below hb.out))
            have hbs := Hbs.out 1
            rw [if_pos ⟨rfl, hn2⟩] at hbs
            have Hbs2 := hide hbs
            have hn2i : (n : Int) < 2 := by omega
            clear Has Has1 Hdc Hdn Hin Hbs Hne Hfi Heq Hb3 hbs
            go_wp2_with fail
            refine (H1.out).mono ?_
            rintro x w4 ⟨rfl, hb4⟩
            have Hb4 := hide (bel_step hb.out hb4)
            clear hb4 H1
            go_wp2
            refine ⟨⟨2, by omega, by rw [Hbs2.out], rfl, Hb4⟩, ?_⟩
            simp [intOf] <;> omega
          · have H1 := hide (Has.out i (by omega) hsk _ (Ha.out.below hb.out))
            have hbs := Hbs.out i
            rw [if_neg hsk] at hbs
            have hne := Hne.out i (by omega)
            have hfi := Hfi.out i (by omega)
            have hbe := bs_empty (BT i)
            have z0 := bs_size (CT i)
            have z1 := bs_size (BT i)
            have heq := Heq.out i (by omega)
            obtain ⟨NB, hNB⟩ : ∃ N, bs (BT (i + 1)) = N := ⟨_, rfl⟩
            have hways : ((bs (BT i)).toList.isEmpty = true ∧ bs (CT i) = NB) ∨ ((bs (BT i)).toList.isEmpty = false ∧ ((bs (CT i)).size : Int) < ((bs (BT i)).size : Int) ∧ bs (CT i) = NB) ∨ ((bs (BT i)).toList.isEmpty = false ∧ ¬ ((bs (CT i)).size : Int) < ((bs (BT i)).size : Int) ∧ bs (BT i) = NB) := by
              by_cases h1 : BT i = []
              · rw [if_pos (.inl h1)] at hbs
                exact .inl ⟨by rw [hbe, decide_eq_true h1], by rw [← hNB, hbs]⟩
              · have h2 : (bs (BT i)).toList.isEmpty = false := by rw [hbe, decide_eq_false h1]
                by_cases h3 : (CT i).length < (BT i).length
                · rw [if_pos (.inr h3)] at hbs
                  exact .inr (.inl ⟨h2, by rw [z0, z1]; omega, by rw [← hNB, hbs]⟩)
                · rw [if_neg (by rintro (h | h); exact h1 h; exact h3 h)] at hbs
                  exact .inr (.inr ⟨h2, by rw [z0, z1]; omega, by rw [← hNB, hbs]⟩)
            have Hways := hide hways
            have HNB := hide hNB
            have Hdci := hide (Hdc.out i (by omega) hsk)
            have Hdni := hide (Hdn.out i (by omega) hsk)
            obtain ⟨tt, htt⟩ := hfi
            have hTs : 0 < (bs (CT i)).size := by rw [bs_size, htt]; simp
            have hTi : (0 : Int) < ((bs (CT i)).size : Int) := by omega
            have hget : ∀ h : 0 < (bs (CT i)).size, ((bs (CT i))[0]'h).toNat = i := fun h => by
              have h2 : (CT i)[0]'(by rw [htt]; simp) = (bs (CT i))[0]'h := by simp [bs]; rfl
              rw [← h2]
              simp only [htt]
              simp
              omega
            clear htt
            clear hways hNB hbs hbe z0 z1 Has Has1 Hdc Hdn Hbs Hne Hfi Heq Hb3
            generalize bs (BT i) = BB at *
            generalize hT : bs (CT i) = T at *
            go_wp2_with fail
            refine (H1.out).mono ?_
            rintro x w4 ⟨rfl, hb4⟩
            have Hb4 := hide (bel_step hb.out hb4)
            clear hb4 H1 hb
            go_upto_region 11 with fail
            go_cut [41] (fun s41 wx => s41 = .bool false ∧ wx = w4)
            case first =>
              clear Hways HNB Hdci Hdni Hin
              by_cases hi1 : i = 1
              · subst hi1
                have hn2i : ¬ (n : Int) < 2 := by omega
                go_wp2
                go_meet
                case rel => exact ⟨rfl, rfl⟩
              · have hi1i : ((i : Int) == 1) = false := by rw [beq_eq_false_iff_ne]; omega
                go_wp2
                go_meet
                case rel => exact ⟨rfl, rfl⟩
            case rest =>
              obtain ⟨rfl, rfl⟩ := hcut
              go_upto_region 14 with fail
              go_cut [56] (fun s56 wx => s56 = .bool false ∧ wx = wc)
              case first =>
                clear Hways HNB Hdci Hdni Hin
                go_wp2
                go_meet
                case rel => exact ⟨rfl, rfl⟩
              case rest =>
                obtain ⟨rfl, rfl⟩ := hcut
                clear hTs hTi hget hne
                go_upto_region 16 with fail
                go_cut [65] (fun s65 wx => ∃ tk : Bool, s65 = .bool tk ∧ Hid (NB = if tk = true then T else BB) ∧ wx = wc)
                case first =>
                  clear HNB Hdci Hdni Hin
                  rcases Hways.out with ⟨h1, h2⟩ | ⟨h1, h2, h3⟩ | ⟨h1, h2, h3⟩
                  · have H2 : Hid (NB = if true = true then T else BB) := hide h2.symm
                    clear h2 Hways
                    go_wp2
                    go_meet
                    case rel => exact ⟨true, rfl, H2, rfl⟩
                  · have H3 : Hid (NB = if true = true then T else BB) := hide h3.symm
                    have hd1 : decide ((T.size : Int) < (BB.size : Int)) = true := decide_eq_true h2
                    clear h3 Hways
                    go_wp2
                    go_meet
                    case rel => exact ⟨true, by first | (simp; done) | (simp; omega), H3, rfl⟩
                  · have H3 : Hid (NB = if false = true then T else BB) := hide h3.symm
                    have hd1 : decide ((T.size : Int) < (BB.size : Int)) = false := decide_eq_false (by omega)
                    clear h3 Hways
                    go_wp2
                    go_meet
                    case rel => exact ⟨false, by first | (simp; done) | (simp; omega), H3, rfl⟩
                case rest =>
                 obtain ⟨tk, rfl, HTK, rfl⟩ := hcut
                 clear Hways
                 go_upto_if 65 with fail
                 go_cut [5] (fun s5 wx => s5 = .string NB ∧ wx = wc)
                 case first =>
                  clear HNB Hdci Hdni Hin
                  cases tk with
                  | true =>
                    go_wp2
                    go_meet
                    case rel => exact ⟨by rw [HTK.out]; rfl, rfl⟩
                  | false =>
                    go_wp2
                    go_meet
                    case rel => exact ⟨by rw [HTK.out]; rfl, rfl⟩
                 case rest =>
                  obtain ⟨rfl, rfl⟩ := hcut
                  by_cases hic : i = c0
                  · have H3 := hide (Hdci.out hic wc)
                    have heq2 : (T.toList == SX.toList) = true := by rw [heq, decide_eq_true hic]
                    clear heq hic Hdci Hdni
                    go_wp2_with fail
                    refine (H3.out).mono ?_
                    rintro x w5 ⟨B5, c5, rfl, hat5, hb5⟩
                    have hbn5 := bel_step Hb4.out hb5
                    have Hb5 := hide hbn5
                    have Hi5 := hide (Hin.out _ _ c5 hat5 (Ha.out.below hbn5))
                    clear hb5 hat5 H3 hbn5
                    go_wp2_with fail
                    refine (Hi5.out).mono ?_
                    rintro x w6 ⟨rfl, hq6⟩
                    have Hb6 := hide (drew_bel Hb5.out hq6)
                    clear hq6 Hi5
                    go_wp2
                    refine ⟨⟨i + 1, by omega, by rw [HNB.out], by go_num, Hb6⟩, ?_⟩
                    simp [intOf] <;> omega
                  · have H3 := hide (Hdni.out hic wc)
                    have heq2 : (T.toList == SX.toList) = false := by rw [heq, decide_eq_false hic]
                    clear heq hic Hdci Hdni
                    go_wp2_with fail
                    refine (H3.out).mono ?_
                    rintro x w5 ⟨B5, c5, rfl, hb5⟩
                    have Hb5 := hide (bel_step Hb4.out hb5)
                    clear hb5 H3
                    go_wp2
                    refine ⟨⟨i + 1, by omega, by rw [HNB.out], by go_num, Hb5⟩, ?_⟩
                    simp [intOf] <;> omega
        · have hi3 : i = 3 := by omega
          subst hi3
          have hb3' := Hb3.out
          rw [hb3']
          have hself : (SX.toList == SX.toList) = true := beq_self_eq_true _
          clear Has Has1 Hdc Hdn Hin Hbs Hne Hfi Heq Hb3 hb3'
          go_wp2
          go_returns
          exact ⟨rfl, hb.out⟩
end Go.Proofs.YtgllednilkfpgaaGreat
