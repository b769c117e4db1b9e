/-
  Joined texts: Ue, Ud.
-/
import Derived.Test.YtkicfajfmdcgaaaGreatJ11
import Derived.Test.YtkicfajfmdcgaaaGreatJ15
import Derived.Test.YtkicfajfmdcgaaaGreatJ22
set_option linter.unusedVariables false
set_option linter.unusedSimpArgs false
/-
  The laws of runs of texts: the examples that each checks first; whether texts are few and short.
-/
namespace Go.Proofs.YtkicfajfmdcgaaaGreat
open Go.RowKit Go.Proofs Wv Wv.Vi Wv.Rc Wv.Mo Wv.Ru
set_option linter.unusedVariables false
theorem at_new {w : World} {e : Nat} (vs : List Value) : At (w.alloc (.cells vs.toArray e)) (some ⟨w.heap.size, 0, none⟩) vs := by
  have := (Bk.new w e vs.toArray).at_
  simpa using this
theorem bel_new (w : World) (o : Obj) : Below w.heap.size w (w.alloc o) := (Below.refl w.heap.size w).alloc (Nat.le_refl _) o
theorem bel_step {w w1 w2 : World} (h : Below w.heap.size w w1) (k : Below w1.heap.size w1 w2) : Below w.heap.size w w2 := h.trans (k.mono h.size)
theorem drew_bel {w w1 w2 : World} (h : Below w.heap.size w w1) (k : ∃ q, w2 = w1.drewN q) : Below w.heap.size w w2 := by
  obtain ⟨q, rfl⟩ := k
  exact bdN h q
set_option maxRecDepth 100000 in
set_option maxHeartbeats 4000000 in
theorem awake_any (w : World) :
    Calls Tryz.prog 4 #[] w fun x w' => x = .returned (.bool true) ∧ Below w.heap.size w w' := by
  have hsz4 : ∀ s ∈ l4, s.size ≤ 9223372036854775807 := by decide
  have hdl : (enc l4).1.length ≤ 1000000000 := by
    obtain ⟨c, hc, he⟩ := enc_cases (l := l4) (by decide) (by decide)
    have h1 := frontB_len c (dict l4) (dict l4).length (by decide) (by decide)
    have h2 := encn_len (codeA c l4) (fun v hv => by have := codeA_lt c l4 (by decide) v hv; omega)
    have h3 := encn_len (cnts l4) (fun v hv => by have := cnts_lt l4 (by decide) v hv; omega)
    have h4 := kof9 (encA c l4).length
    rw [codeA_length] at h2
    rw [cnts_length] at h3
    have h5 : (runs (dict l4) l4).length = 3 := by decide +kernel
    have h6 : encB c l4 = frontB c (dict l4) (dict l4).length ++ (num (encA c l4).length ++ encn (codeA c l4)) ++ encn (cnts l4) := by
      unfold encB frontB
      rw [List.take_length]
      rfl
    rw [he]
    show (encB c l4).length ≤ _
    rw [h6, List.length_append, List.length_append, List.length_append]
    omega
  have Hr : Hid (∀ W A, At W A (svs l4) → Calls Tryz.prog 9 #[.slice A 4 4] W fun x w' => ∃ B cap, x = .returned (.slice B 3 cap) ∧ At w' B (pv [(0, 2), (1, 1), (0, 1)]) ∧ Below W.heap.size W w') := hide (fun W A h => by
    have := runs_any h 4 4 rfl (by omega)
    rw [l4_runs] at this
    exact this.mono fun x w' ⟨B, cap, h1, h2, h3⟩ => ⟨B, cap, h1, h2, h3⟩)
  have Hf : Hid (∀ W A, At W A (ivs [0, 1, 0]) → Calls Tryz.prog 10 #[.slice A 3 3] W fun x w' => ∃ B cap, x = .returned (.tuple #[.slice B 3 cap, .int .i64 0]) ∧ At w' B (ivs [0, 1, 1]) ∧ Below W.heap.size W w') := hide (fun W A h => by
    have := pfront_any h 3 3 rfl (by omega)
    rw [l4_front] at this
    exact this.mono fun x w' ⟨v, h1, ⟨B, cap, h2, h3⟩, h4⟩ => ⟨B, cap, by rw [h1, h2]; rfl, h3, h4⟩)
  have He0 : Hid (∀ W, Calls Tryz.prog 11 #[.slice none 0 0] W fun x w' => x = .returned (.tuple #[.string ⟨#[0, 0, 1, 0, 0]⟩, .int .i64 0]) ∧ Below W.heap.size W w') := hide (fun W => by
    have := encode_any (w := W) (A := none) (l := []) (At.nil _ _) (by simp) 0 0 rfl (by omega)
    rw [l0_enc] at this
    exact this.mono fun x w' ⟨h1, h2⟩ => ⟨by rw [h1]; rfl, h2⟩)
  obtain ⟨SX, hSX⟩ : ∃ S, bs (enc l4).1 = S := ⟨_, rfl⟩
  have He4 : Hid (∀ W A, At W A (svs l4) → Calls Tryz.prog 11 #[.slice A 4 4] W fun x w' => x = .returned (.tuple #[.string SX, .int .i64 0]) ∧ Below W.heap.size W w') := hide (fun W A h => by
    have := encode_any h hsz4 4 4 rfl (by omega)
    exact this.mono fun x w' ⟨h1, h2⟩ => ⟨by rw [h1, hSX, l4_enc]; rfl, h2⟩)
  have Hd : Hid (∀ W, Calls Tryz.prog 6 #[.string SX, .int .i64 4] W fun x w' => ∃ B cap, x = .returned (.tuple #[.slice B 4 cap, .int .i64 0]) ∧ At w' B (svs l4) ∧ Below W.heap.size W w') := hide (fun W => by
    have := decode_any (w := W) (bs (enc l4).1) (by rw [bs_size]; exact hdl) 4
    rw [toL_bs, l4_dec] at this
    rw [← hSX]
    exact this.mono fun x w' ⟨v, h1, ⟨B, cap, h2, h3⟩, h4⟩ => ⟨B, cap, by rw [h1, h2]; rfl, h3, h4⟩)
  have Hre : Hid (∀ W A B cap, At W A (pv [(0, 2), (1, 1), (0, 1)]) → At W B (pv [(0, 2), (1, 1), (0, 1)]) → Calls Tryz.prog 12 #[.slice A 3 cap, .slice B 3 3] W fun x w' => x = .returned (.bool true) ∧ ∃ q, w' = W.drewN q) := hide (fun W A B cap h1 h2 => by
    have := repeats_any h1 h2 3 cap 3 3 rfl rfl (by omega) (by omega)
    exact this.mono fun x w' ⟨h1, h2⟩ => ⟨by rw [h1]; rfl, h2⟩)
  have Hin : Hid (∀ W A B cap, At W A (ivs [0, 1, 1]) → At W B (ivs [0, 1, 1]) → Calls Tryz.prog 13 #[.slice A 3 cap, .slice B 3 3] W fun x w' => x = .returned (.bool true) ∧ ∃ q, w' = W.drewN q) := hide (fun W A B cap h1 h2 => by
    have := ints_any h1 h2 3 cap 3 3 rfl rfl (by omega) (by omega)
    exact this.mono fun x w' ⟨h1, h2⟩ => ⟨by rw [h1]; rfl, h2⟩)
  have Htx : Hid (∀ W A B cap, At W A (svs l4) → At W B (svs l4) → Calls Tryz.prog 8 #[.slice A 4 cap, .slice B 4 4] W fun x w' => x = .returned (.bool true) ∧ ∃ q, w' = W.drewN q) := hide (fun W A B cap h1 h2 => by
    have := texts_any h1 h2 4 cap 4 4 rfl rfl (by omega) (by omega)
    exact this.mono fun x w' ⟨h1, h2⟩ => ⟨by rw [h1]; rfl, h2⟩)
  have Hat4 : Hid (∀ W : World, At (W.alloc (.cells #[.string ⟨#[97]⟩, .string ⟨#[97]⟩, .string ⟨#[98]⟩, .string ⟨#[97]⟩] 9)) (some ⟨W.heap.size, 0, none⟩) (svs l4)) := hide (fun W => at_new (e := 9) (svs l4))
  have H1 := hide (Hr.out _ _ (Hat4.out w))
  have hb0 := hide (bel_new w (.cells #[.string ⟨#[97]⟩, .string ⟨#[97]⟩, .string ⟨#[98]⟩, .string ⟨#[97]⟩] 9))
  clear hsz4 hdl hSX Hr
  go_enter Tryz.func4, Tryz.ntmps4
  go_wp2_with fail
  refine (H1.out).mono ?_
  rintro x w1 ⟨AR, capR, rfl, hatR, hb1⟩
  have H2 := hide (Hf.out _ _ (at_new (w := w1) (e := 3) (ivs [0, 1, 0])))
  have hbn := hide (bel_step (bel_step hb0.out hb1) (bel_new w1 (.cells #[.int .i64 0, .int .i64 1, .int .i64 0] 3)))
  have hR := hide (hatR.alloc (.cells #[.int .i64 0, .int .i64 1, .int .i64 0] 3))
  clear hb0 hb1 hatR H1
  go_wp2_with fail
  refine (H2.out).mono ?_
  rintro x w2 ⟨AF, capF, rfl, hatF, hb2⟩
  have hbn2 := hide (bel_step hbn.out hb2)
  have hR2 := hide (hR.out.below hb2)
  have hF2 := hide hatF
  clear hb2 hbn hR hatF H2
  go_wp2_with fail
  refine (He0.out _).mono ?_
  rintro x w3 ⟨rfl, hb3⟩
  have H4 := hide (He4.out _ _ (Hat4.out w3))
  have hbn3 := hide (bel_step (bel_step hbn2.out hb3) (bel_new w3 (.cells #[.string ⟨#[97]⟩, .string ⟨#[97]⟩, .string ⟨#[98]⟩, .string ⟨#[97]⟩] 9)))
  have hR3 := hide ((hR2.out.below hb3).alloc (.cells #[.string ⟨#[97]⟩, .string ⟨#[97]⟩, .string ⟨#[98]⟩, .string ⟨#[97]⟩] 9))
  have hF3 := hide ((hF2.out.below hb3).alloc (.cells #[.string ⟨#[97]⟩, .string ⟨#[97]⟩, .string ⟨#[98]⟩, .string ⟨#[97]⟩] 9))
  clear hb3 hbn2 hR2 hF2 He0 He4
  go_wp2_with fail
  refine (H4.out).mono ?_
  rintro x w4 ⟨rfl, hb4⟩
  have hbn4 := hide (bel_step hbn3.out hb4)
  have hR4 := hide (hR3.out.below hb4)
  have hF4 := hide (hF3.out.below hb4)
  clear hb4 hbn3 hR3 hF3 H4
  go_wp2_with fail
  refine (Hd.out _).mono ?_
  rintro x w5 ⟨AD, capD, rfl, hatD, hb5⟩
  have hbn5 := hide (bel_step (bel_step hbn4.out hb5) (bel_new w5 (.cells (pv [(0, 2), (1, 1), (0, 1)]).toArray 40)))
  have H6 := hide (Hre.out _ _ _ capR ((hR4.out.below hb5).alloc (.cells (pv [(0, 2), (1, 1), (0, 1)]).toArray 40)) (at_new (w := w5) (e := 40) (pv [(0, 2), (1, 1), (0, 1)])))
  have hF5 := hide ((hF4.out.below hb5).alloc (.cells (pv [(0, 2), (1, 1), (0, 1)]).toArray 40))
  have hD5 := hide (hatD.alloc (.cells (pv [(0, 2), (1, 1), (0, 1)]).toArray 40))
  clear hb5 hbn4 hR4 hF4 hatD Hd
  go_wp2_with fail
  refine (H6.out).mono ?_
  rintro x w6 ⟨rfl, q6, hq6⟩
  have hb6 := hide (show Below w.heap.size w w6 from hq6 ▸ bdN hbn5.out q6)
  have hF6 := hide (show At w6 AF _ from hq6 ▸ hF5.out.drewN q6)
  have hD6 := hide (show At w6 AD _ from hq6 ▸ hD5.out.drewN q6)
  clear hq6 hbn5 hF5 hD5 H6 Hre
  have H7 := hide (Hin.out _ _ _ capF (hF6.out.alloc (.cells (ivs [0, 1, 1]).toArray 3)) (at_new (w := w6) (e := 3) (ivs [0, 1, 1])))
  go_wp2_with fail
  refine (H7.out).mono ?_
  rintro x w7 ⟨rfl, q7, hq7⟩
  have hb7 := hide (show Below w.heap.size w w7 from hq7 ▸ bdN (bel_step hb6.out (bel_new w6 (.cells (ivs [0, 1, 1]).toArray 3))) q7)
  have hD7 := hide (show At w7 AD _ from hq7 ▸ (hD6.out.alloc (.cells (ivs [0, 1, 1]).toArray 3)).drewN q7)
  clear hq7 hb6 hF6 hD6 H7 Hin
  have H8 := hide (Htx.out _ _ _ capD (hD7.out.alloc (.cells #[.string ⟨#[97]⟩, .string ⟨#[97]⟩, .string ⟨#[98]⟩, .string ⟨#[97]⟩] 9)) (Hat4.out w7))
  go_wp2_with fail
  refine (H8.out).mono ?_
  rintro x w8 ⟨rfl, q8, hq8⟩
  have hb8 := hide (show Below w.heap.size w w8 from hq8 ▸ bdN (bel_step hb7.out (bel_new w7 (.cells #[.string ⟨#[97]⟩, .string ⟨#[97]⟩, .string ⟨#[98]⟩, .string ⟨#[97]⟩] 9))) q8)
  clear hq8 hb7 hD7 H8 Htx Hat4
  go_wp2
  go_returns
  exact ⟨rfl, hb8.out⟩
end Go.Proofs.YtkicfajfmdcgaaaGreat
/-
  The laws of runs of texts: decoding.
-/
namespace Go.Proofs.YtkicfajfmdcgaaaGreat
open Go.RowKit Go.Proofs Wv Wv.Vi Wv.Rc Wv.Mo Wv.Ru
set_option linter.unusedVariables false
theorem tres_svD {w w' : World} {x : Ending} {X : List ByteArray} {e : Nat} (h : TRes w (X, e) x w') : ∃ B cap, x = .returned (.tuple #[.slice B X.length cap, .int .i64 (e : Int)]) ∧ At w' B (svs X) ∧ Below w.heap.size w w' := by
  obtain ⟨v, h1, ⟨B, cap, h2, h3⟩, h4⟩ := h
  exact ⟨B, cap, by rw [h1, h2], h3, h4⟩
theorem sv_textsD {W : World} {B C : Option Addr} {X : List ByteArray} (h1 : At W B (svs X)) (h2 : At W C (svs X)) (c1 c2 : Nat) (hX : X.length ≤ 4096) :
    Calls Tryz.prog 8 #[.slice B X.length c1, .slice C X.length c2] W fun x w' => x = .returned (.bool true) ∧ ∃ q, w' = W.drewN q := by
  have := texts_any (a := X) (b := X) h1 h2 X.length c1 X.length c2 rfl rfl (by omega) (by omega)
  simpa using this
theorem dec_len (s : List UInt8) (most : Int) : (dec s most).1.length ≤ 4096 := by
  unfold dec
  match h : readL s with
  | none => simp
  | some l =>
    simp only
    have := (readL_good h).2
    split
    · simp
    · split
      · simp
      · exact this
set_option maxRecDepth 100000 in
set_option maxHeartbeats 2000000 in
theorem ldecodes_any {w : World} (data : ByteArray) (hsz : data.size ≤ 9223372036854775807) (most : Int) (hi : I64 most) :
    Calls Tryz.prog 3 #[.string data, .int .i64 most] w fun x w' => x = .returned (.bool true) ∧ Below w.heap.size w w' := by
  have Haw := hide (awake_any w)
  by_cases hbig : (300 : Int) < (data.size : Int)
  · clear hsz hi
    go_enter Tryz.func3, Tryz.ntmps3
    go_wp2_with fail
    refine (Haw.out).mono ?_
    rintro x w1 ⟨rfl, hb1⟩
    go_wp2
    go_returns
    exact ⟨rfl, hb1⟩
  · have Hr := hide (fun W => rread12_any data (by omega) W)
    have Hp := hide (fun W => decode_any (w := W) data (by omega) most)
    have Hq := hide (fun W => rdecode12_any data (by omega) most W)
    have hdl := dec_len (toL data) most
    obtain ⟨⟨X, e⟩, hX⟩ : ∃ x, dec (toL data) most = x := ⟨_, rfl⟩
    rw [hX] at Hp Hq hdl
    simp only at hdl
    have Hp' := hide (fun W => (Hp.out W).mono fun x w' h => tres_svD h)
    have Hq' := hide (fun W => (Hq.out W).mono fun x w' h => tres_svD h)
    clear Hp Hq hX
    match hr : readL (toL data) with
    | none =>
      rw [hr] at Hr
      clear hr hsz hi
      go_enter Tryz.func3, Tryz.ntmps3
      go_wp2_with fail
      refine (Haw.out).mono ?_
      rintro x w1 ⟨rfl, hb1⟩
      go_wp2_with fail
      refine (Hr.out _).mono ?_
      rintro x w2 ⟨v2, rfl, _, hb2⟩
      simp only [Option.isSome_none]
      have hbn2 := bel_step hb1 hb2
      clear hb1 hb2
      go_wp2_with fail
      refine (Hp'.out _).mono ?_
      rintro x w3 ⟨B3, c3, rfl, hat3, hb3⟩
      have hbn3 := bel_step hbn2 hb3
      clear hbn2 hb3
      go_wp2_with fail
      refine (Hq'.out _).mono ?_
      rintro x w4 ⟨B4, c4, rfl, hat4, hb4⟩
      have hbn4 := bel_step hbn3 hb4
      have Ht := hide (sv_textsD (hat3.below hb4) hat4 c3 c4 hdl)
      clear hbn3 hb4 hat3 hat4
      go_wp2_with fail
      refine (Ht.out).mono ?_
      rintro x w5 ⟨rfl, hq5⟩
      have hbn5 := drew_bel hbn4 hq5
      clear hbn4 hq5
      go_wp2
      go_returns
      exact ⟨rfl, hbn5⟩
    | some l =>
      rw [hr] at Hr
      by_cases hl : (300 : Int) < (l.length : Int)
      · clear hr hsz hi
        go_enter Tryz.func3, Tryz.ntmps3
        go_wp2_with fail
        refine (Haw.out).mono ?_
        rintro x w1 ⟨rfl, hb1⟩
        go_wp2_with fail
        refine (Hr.out _).mono ?_
        rintro x w2 ⟨v2, rfl, hs2, hb2⟩
        obtain ⟨A2, c2, rfl, _⟩ := hs2 l rfl
        simp only [Option.isSome_some]
        have hbn2 := bel_step hb1 hb2
        clear hb1 hb2 hs2
        go_wp2
        go_returns
        exact ⟨rfl, hbn2⟩
      · clear hr hsz hi
        go_enter Tryz.func3, Tryz.ntmps3
        go_wp2_with fail
        refine (Haw.out).mono ?_
        rintro x w1 ⟨rfl, hb1⟩
        go_wp2_with fail
        refine (Hr.out _).mono ?_
        rintro x w2 ⟨v2, rfl, hs2, hb2⟩
        obtain ⟨A2, c2, rfl, _⟩ := hs2 l rfl
        simp only [Option.isSome_some]
        have hbn2 := bel_step hb1 hb2
        clear hb1 hb2 hs2
        go_wp2_with fail
        refine (Hp'.out _).mono ?_
        rintro x w3 ⟨B3, c3, rfl, hat3, hb3⟩
        have hbn3 := bel_step hbn2 hb3
        clear hbn2 hb3
        go_wp2_with fail
        refine (Hq'.out _).mono ?_
        rintro x w4 ⟨B4, c4, rfl, hat4, hb4⟩
        have hbn4 := bel_step hbn3 hb4
        have Ht := hide (sv_textsD (hat3.below hb4) hat4 c3 c4 hdl)
        clear hbn3 hb4 hat3 hat4
        go_wp2_with fail
        refine (Ht.out).mono ?_
        rintro x w5 ⟨rfl, hq5⟩
        have hbn5 := drew_bel hbn4 hq5
        clear hbn4 hq5
        go_wp2
        go_returns
        exact ⟨rfl, hbn5⟩
end Go.Proofs.YtkicfajfmdcgaaaGreat
