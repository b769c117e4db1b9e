/-
  The laws of times: the examples that each checks first; the contracts in the form that the laws ask.
-/
import Derived.Test.YtgllednilkfpgaaGreatJ31
import Derived.Test.YtgllednilkfpgaaGreatJ15
import Derived.Test.YtgllednilkfpgaaGreatJ40
set_option linter.unusedVariables false
set_option linter.unusedSimpArgs false
namespace Go.Proofs.YtgllednilkfpgaaGreat
open Go.RowKit Go.Proofs Wv Wv.Vi Wv.Rc Wv.Mo Wv.Ru Wv.Tm
set_option linter.unusedVariables false
def LTrue (w : World) (x : Ending) (w' : World) : Prop := x = .returned (.bool true) ∧ Below w.heap.size w w'
theorem codT_len {l : List Int} (h : validT l = true) {c : Nat} (hc : c ≤ 2) (h1 : c = 1 → 2 ≤ l.length) : (codT c l).length ≤ 3000000 := by
  have hk := fun n => kof_le n
  have hc3 : c = 0 ∨ c = 1 ∨ c = 2 := by omega
  rcases hc3 with rfl | rfl | rfl
  · show (num 0 ++ numsI (gapsT l)).length ≤ _
    rw [List.length_append, num_length]
    have := numsI_len h
    have := hk 0
    omega
  · show (cod1 l).length ≤ _
    have hv := detect_vclk h (h1 rfl)
    have hi := (vclk_iff.1 hv).1
    have h2 := numsI_len (missL_valid hi l)
    have h3 := numsI_len (furL_valid (c := detect l) h)
    rw [cod1_eq]
    unfold text
    simp only [List.length_append, num_length, toL_length, bs_size]
    have := hk 1
    have := hk (detect l).st.toNat
    have := hk (detect l).f.toNat
    have := hk (detect l).s.toNat
    have := hk (detect l).n.toNat
    have := hk (numsI (gapsT (missL (detect l) l))).length
    omega
  · show (num 2 ++ (enc (txts (gapsT l))).1).length ≤ _
    rw [List.length_append, num_length]
    have := (cod2_enc h).2
    have := hk 2
    omega
theorem encT_len (l : List Int) : (encT l).1.length ≤ 3000000 := by
  cases h : validT l with
  | false => rw [encT_bad h]; simp
  | true =>
    obtain ⟨c, hc, h1, he⟩ := encT_cases h
    rw [he]
    exact codT_len h hc h1
theorem decT_len (data : List UInt8) (most : Int) : (decT data most).1.length ≤ 8192 := by
  unfold decT
  match h : readT data with
  | none => simp
  | some l =>
    simp only
    have := readT_len h
    split
    · simp
    · split
      · simp
      · exact this
theorem ints_same {W : World} {B C : Option Addr} {X : List Int} (h1 : At W B (ivs X)) (h2 : At W C (ivs X)) (n c1 m c2 : Nat) (hn : n = X.length) (hm : m = X.length) (hX : X.length ≤ 9000) :
    Calls Tryz.prog 20 #[.slice B n c1, .slice C m c2] W fun x w' => x = .returned (.bool true) ∧ ∃ q, w' = W.drewN q := by
  have := ints_any (a := X) (b := X) h1 h2 n c1 m c2 hn hm (by omega) (by omega)
  simpa using this
def tA : List Int := [0, 3, 10, 14]
def tB : List Int := [5, 10, 15, 20]
theorem tA_det : detect tA = ⟨0, 3, 7, 4⟩ := by decide +kernel
theorem tB_det : detect tB = ⟨5, 5, 5, 4⟩ := by decide +kernel
theorem tA_exc : excT ⟨0, 3, 7, 4⟩ tA = some ([3], [14]) := by decide +kernel
theorem tB_val : validT tB = true := by decide +kernel
theorem t0_enc : encT [] = ([0, 0], 0) := by decide +kernel
theorem tB_dec : decT (encT tB).1 4 = (tB, 0) := by rw [decT_enc tB_val, if_neg (by decide)]
theorem tB_enc : (encT tB).2 = 0 := by obtain ⟨c, _, _, he⟩ := encT_cases tB_val; rw [he]
/-- What stands while the examples are compared. -/
def AwS (w : World) (C : Nat) (A2 A3 AD : Option Addr) (W : World) : Prop :=
  W.cell? ⟨C, 0, none⟩ = some (.int .i64 0) ∧ W.cell? ⟨C, 1, none⟩ = some (.int .i64 3) ∧ W.cell? ⟨C, 2, none⟩ = some (.int .i64 7) ∧ W.cell? ⟨C, 3, none⟩ = some (.int .i64 4) ∧ At W A2 (ivs [3]) ∧ At W A3 (ivs [14]) ∧ At W AD (ivs tB) ∧ Below w.heap.size w W
theorem AwS.below {w W W' : World} {C : Nat} {A2 A3 AD : Option Addr} (h : AwS w C A2 A3 AD W) (hb : Below W.heap.size W W') : AwS w C A2 A3 AD W' := by
  obtain ⟨h1, h2, h3, h4, h5, h6, h7, h8⟩ := h
  have k : ∀ {p : Addr} {v : Value}, W.cell? p = some v → W'.cell? p = some v := fun {p v} h => (hb.cell (World.block_lt_of_cell? W p h)).trans h
  exact ⟨k h1, k h2, k h3, k h4, h5.below hb, h6.below hb, h7.below hb, h8.trans (hb.mono h8.size)⟩
set_option maxRecDepth 100000 in
set_option maxHeartbeats 4000000 in
theorem tawake_any (w : World) :
    Calls Tryz.prog 11 #[] w fun x w' => LTrue w x w' := by
  have Hda : Hid (∀ W A, At W A (ivs tA) → Calls Tryz.prog 18 #[.slice A 4 4] W fun x w' => x = .returned (.agg #[.int .i64 0, .int .i64 3, .int .i64 7, .int .i64 4]) ∧ Below W.heap.size W w') := hide (fun W A h => by
    have := tdetect_any h 4 4 rfl (by omega)
    rw [tA_det] at this
    exact this)
  have Hdb : Hid (∀ W A, At W A (ivs tB) → Calls Tryz.prog 18 #[.slice A 4 4] W fun x w' => x = .returned (.agg #[.int .i64 5, .int .i64 5, .int .i64 5, .int .i64 4]) ∧ Below W.heap.size W w') := hide (fun W A h => by
    have := tdetect_any h 4 4 rfl (by omega)
    rw [tB_det] at this
    exact this)
  have Hex : Hid (∀ W A, At W A (ivs tA) → Calls Tryz.prog 14 #[.agg #[.int .i64 0, .int .i64 3, .int .i64 7, .int .i64 4], .slice A 4 4] W fun x w' => ∃ A2 c2 A3 c3, x = .returned (.tuple #[.slice A2 1 c2, .slice A3 1 c3, .int .i64 0]) ∧ At w' A2 (ivs [3]) ∧ At w' A3 (ivs [14]) ∧ Below W.heap.size W w') := hide (fun W A h => by
    have := texc_any ⟨0, 3, 7, 4⟩ h 4 4 rfl (by omega)
    rw [tA_exc] at this
    refine this.mono fun x w' hx => ?_
    obtain ⟨v1, v2, h1, ⟨A2, c2, h2, h3⟩, ⟨A3, c3, h4, h5⟩, h6⟩ := hx
    exact ⟨A2, c2, A3, c3, by rw [h1, h2, h4]; rfl, h3, h5, h6⟩)
  have He0 : Hid (∀ W, Calls Tryz.prog 25 #[.slice none 0 0] W fun x w' => x = .returned (.tuple #[.string ⟨#[0, 0]⟩, .int .i64 0]) ∧ Below W.heap.size W w') := hide (fun W => by
    have := tencode_any (w := W) (A := none) (l := []) (At.nil _ _) 0 0 rfl (by omega)
    rw [t0_enc] at this
    exact this.mono fun x w' ⟨h1, h2⟩ => ⟨by rw [h1]; rfl, h2⟩)
  obtain ⟨SX, hSX⟩ : ∃ S, bs (encT tB).1 = S := ⟨_, rfl⟩
  have He4 : Hid (∀ W A, At W A (ivs tB) → Calls Tryz.prog 25 #[.slice A 4 4] W fun x w' => x = .returned (.tuple #[.string SX, .int .i64 0]) ∧ Below W.heap.size W w') := hide (fun W A h => by
    have := tencode_any h 4 4 rfl (by omega)
    exact this.mono fun x w' ⟨h1, h2⟩ => ⟨by rw [h1, hSX, tB_enc]; rfl, h2⟩)
  have Hd : Hid (∀ W, Calls Tryz.prog 23 #[.string SX, .int .i64 4] W fun x w' => ∃ B cap, x = .returned (.tuple #[.slice B 4 cap, .int .i64 0]) ∧ At w' B (ivs tB) ∧ Below W.heap.size W w') := hide (fun W => by
    have := tdecode_any (w := W) (bs (encT tB).1) (by rw [bs_size]; have := encT_len tB; omega) 4
    rw [toL_bs, tB_dec] at this
    rw [← hSX]
    refine this.mono fun x w' hx => ?_
    obtain ⟨A, cap, h1, h2, h3⟩ := lres_open hx
    exact ⟨A, cap, h1, h2, h3⟩)
  have Hin : Hid (∀ (X : List Int) W A B n c1 c2, At W A (ivs X) → At W B (ivs X) → n = X.length → X.length ≤ 4 → Calls Tryz.prog 20 #[.slice A n c1, .slice B n c2] W fun x w' => x = .returned (.bool true) ∧ Below W.heap.size W w') := hide (fun X W A B n c1 c2 h1 h2 h3 h4 => by
    exact (ints_same h1 h2 n c1 n c2 h3 h3 (by omega)).mono fun x w' ⟨h1, q, h2⟩ => ⟨h1, h2 ▸ bdN (Below.refl _ _) q⟩)
  have hA4 : ∀ W : World, At (W.alloc (.cells #[.int .i64 0, .int .i64 3, .int .i64 10, .int .i64 14] 3)) (some ⟨W.heap.size, 0, none⟩) (ivs tA) := fun W => at_new (e := 3) (ivs tA)
  have hB4 : ∀ W : World, At (W.alloc (.cells #[.int .i64 5, .int .i64 10, .int .i64 15, .int .i64 20] 3)) (some ⟨W.heap.size, 0, none⟩) (ivs tB) := fun W => at_new (e := 3) (ivs tB)
  have h31 : ∀ W : World, At (W.alloc (.cells #[.int .i64 3] 3)) (some ⟨W.heap.size, 0, none⟩) (ivs [3]) := fun W => at_new (e := 3) (ivs [3])
  have h141 : ∀ W : World, At (W.alloc (.cells #[.int .i64 14] 3)) (some ⟨W.heap.size, 0, none⟩) (ivs [14]) := fun W => at_new (e := 3) (ivs [14])
  have HA4 := hide hA4
  have HB4 := hide hB4
  have H31 := hide h31
  have H141 := hide h141
  have hb0 := hide (bel_new w (.cells #[.int .i64 0, .int .i64 3, .int .i64 10, .int .i64 14] 3))
  have H1 := hide (Hda.out _ _ (HA4.out w))
  clear hSX hA4 hB4 h31 h141 Hda
  go_enter Tryz.func11, Tryz.ntmps11
  go_wp2_with fail
  refine (H1.out).mono ?_
  rintro x w1 ⟨rfl, hb1⟩
  have hb1' := hide (bel_step hb0.out hb1)
  have hk1 := hide (Bk.new w1 24 #[.int .i64 0, .int .i64 3, .int .i64 7, .int .i64 4])
  have hat1 : At ((w1.alloc (.cells #[.int .i64 0, .int .i64 3, .int .i64 7, .int .i64 4] 24)).alloc (.cells #[.int .i64 0, .int .i64 3, .int .i64 10, .int .i64 14] 3)) (some ⟨w1.heap.size + 1, 0, none⟩) (ivs tA) := by
    have := HA4.out (w1.alloc (.cells #[.int .i64 0, .int .i64 3, .int .i64 7, .int .i64 4] 24))
    rwa [World.size_alloc] at this
  have H2 := hide (Hex.out _ _ hat1)
  clear hb1 hb0 H1 Hex hat1 HA4
  go_wp2_with fail
  refine (H2.out).mono ?_
  rintro x w2 ⟨A2, c2, A3, c3, rfl, hat2, hat3, hb2⟩
  have hb2' := hide (((hb1'.out.alloc hb1'.out.size (.cells #[.int .i64 0, .int .i64 3, .int .i64 7, .int .i64 4] 24)).alloc (by have := hb1'.out.size; simp; omega) (.cells #[.int .i64 0, .int .i64 3, .int .i64 10, .int .i64 14] 3)).trans (hb2.mono (by have := hb1'.out.size; simp; omega)))
  have hk2 := hide (Bk.below (hk1.out.alloc (.cells #[.int .i64 0, .int .i64 3, .int .i64 10, .int .i64 14] 3)) hb2 (by simp; omega))
  have hat2' := hide hat2
  have hat3' := hide hat3
  obtain ⟨C, hC⟩ : ∃ C, w1.heap.size = C := ⟨_, rfl⟩
  rw [hC] at hk2 ⊢
  clear hb2 hb1' hk1 hat2 hat3 H2 hC
  go_wp2_with fail
  refine (He0.out _).mono ?_
  rintro x w3 ⟨rfl, hb3⟩
  have hb3' := hide ((bel_step hb2'.out hb3).alloc (by have := hb2'.out.size; have := hb3.size; omega) (.cells #[.int .i64 5, .int .i64 10, .int .i64 15, .int .i64 20] 3))
  have hk3 := hide ((Bk.below hk2.out hb3 hk2.out.lt).alloc (.cells #[.int .i64 5, .int .i64 10, .int .i64 15, .int .i64 20] 3))
  have hat23 := hide ((hat2'.out.below hb3).alloc (.cells #[.int .i64 5, .int .i64 10, .int .i64 15, .int .i64 20] 3))
  have hat33 := hide ((hat3'.out.below hb3).alloc (.cells #[.int .i64 5, .int .i64 10, .int .i64 15, .int .i64 20] 3))
  have H4 := hide (He4.out _ _ (HB4.out w3))
  clear hb3 hb2' hk2 hat2' hat3' He0 He4
  go_wp2_with fail
  refine (H4.out).mono ?_
  rintro x w4 ⟨rfl, hb4⟩
  have hb4' := hide (hb3'.out.trans (hb4.mono hb3'.out.size))
  have hk4 := hide (Bk.below hk3.out hb4 hk3.out.lt)
  have hat24 := hide (hat23.out.below hb4)
  have hat34 := hide (hat33.out.below hb4)
  clear hb4 hb3' hk3 hat23 hat33 H4
  go_wp2_with fail
  refine (Hd.out _).mono ?_
  rintro x w5 ⟨AD, cD, rfl, hatD, hb5⟩
  have hk5 := Bk.below hk4.out hb5 hk4.out.lt
  have h0 := hk5.cell 0
  have h1 := hk5.cell 1
  have h2 := hk5.cell 2
  have h3 := hk5.cell 3
  simp only [List.getElem?_toArray, List.getElem?_cons_zero, List.getElem?_cons_succ] at h0 h1 h2 h3
  have HS := hide (show AwS w C A2 A3 AD w5 from ⟨h0, h1, h2, h3, hat24.out.below hb5, hat34.out.below hb5, hatD, bel_step hb4'.out hb5⟩)
  clear hk4 hat24 hat34 hb5 hatD hb4' Hd
  obtain ⟨q0, q1, q2, q3, q4, q5, q6, q7⟩ := HS.out
  have H6 := hide (Hdb.out _ _ (HB4.out w5))
  have HS6 := hide (HS.out.below (bel_new w5 (.cells #[.int .i64 5, .int .i64 10, .int .i64 15, .int .i64 20] 3)))
  clear HS h0 h1 h2 h3 hk5
  clear q0 q1 q2 q3 q4 q5 q6 q7
  go_wp2_with fail
  refine (H6.out).mono ?_
  rintro x w6 ⟨rfl, hb6⟩
  have HS7 := hide (HS6.out.below hb6)
  have HS8 := hide (HS7.out.below (bel_new w6 (.cells #[.int .i64 3] 3)))
  have H7 := hide (Hin.out [3] _ _ _ 1 c2 1 HS8.out.2.2.2.2.1 (H31.out w6) rfl (by decide))
  obtain ⟨q0, q1, q2, q3, _, _, _, _⟩ := HS7.out
  clear HS6 hb6 H6 HS7 Hdb
  go_wp2_with fail
  refine (H7.out).mono ?_
  rintro x w7 ⟨rfl, hb7⟩
  have HS9 := hide ((HS8.out.below hb7).below (bel_new w7 (.cells #[.int .i64 14] 3)))
  have H8 := hide (Hin.out [14] _ _ _ 1 c3 1 HS9.out.2.2.2.2.2.1 (H141.out w7) rfl (by decide))
  clear HS8 hb7 H7 q0 q1 q2 q3
  go_wp2_with fail
  refine (H8.out).mono ?_
  rintro x w8 ⟨rfl, hb8⟩
  have HS10 := hide ((HS9.out.below hb8).below (bel_new w8 (.cells #[.int .i64 5, .int .i64 10, .int .i64 15, .int .i64 20] 3)))
  have H9 := hide (Hin.out tB _ _ _ 4 cD 4 HS10.out.2.2.2.2.2.2.1 (HB4.out w8) rfl (by decide))
  clear HS9 hb8 H8
  go_wp2_with fail
  refine (H9.out).mono ?_
  rintro x w9 ⟨rfl, hb9⟩
  have Hb9 := hide ((HS10.out.below hb9).2.2.2.2.2.2.2)
  clear HS10 hb9 H9 Hin HB4 H31 H141
  go_wp2
  go_returns
  exact ⟨rfl, Hb9.out⟩
end Go.Proofs.YtgllednilkfpgaaGreat
