/-
  Joined texts: Td, Te, Tg.
-/
import Derived.Test.YthbgbnlnpepolaaJ15
set_option linter.unusedVariables false
set_option linter.unusedSimpArgs false
/-
  The laws of runs of texts: forms, inverses.
-/
namespace Go.Proofs.Ythbgbnlnpepolaa
open Go.RowKit Go.Proofs Wv Wv.Vi Wv.Rc Wv.Mo Wv.Ru
set_option linter.unusedVariables false
theorem tres_sv {w w' : World} {x : Ending} {X : List ByteArray} {e : Nat} (h : TRes w (X, e) x w') : ∃ B cap, x = .returned (.tuple #[.slice B X.length cap, .int .i64 (e : Int)]) ∧ At w' B (svs X) ∧ Below w.heap.size w w' := by
  obtain ⟨v, h1, ⟨B, cap, h2, h3⟩, h4⟩ := h
  exact ⟨B, cap, by rw [h1, h2], h3, h4⟩
theorem dres_sv {w w' : World} {x : Ending} {X : List ByteArray} (h : DRes w X x w') : ∃ B cap, x = .returned (.slice B X.length cap) ∧ At w' B (svs X) ∧ Below w.heap.size w w' := by
  obtain ⟨v, h1, ⟨B, cap, h2, h3⟩, h4⟩ := h
  exact ⟨B, cap, by rw [h1, h2], h3, h4⟩
theorem sv_texts {W : World} {B C : Option Addr} {X : List ByteArray} (h1 : At W B (svs X)) (h2 : At W C (svs X)) (c1 c2 : Nat) (hX : X.length ≤ 4096) :
    Calls Try.prog 14 #[.slice B X.length c1, .slice C X.length c2] W fun x w' => x = .returned (.bool true) ∧ ∃ q, w' = W.drewN q := by
  have := texts_any (a := X) (b := X) h1 h2 X.length c1 X.length c2 rfl rfl (by omega) (by omega)
  simpa using this
theorem pv_repeats {W : World} {B C : Option Addr} {X : List (Int × Int)} (h1 : At W B (pv X)) (h2 : At W C (pv X)) (c1 c2 : Nat) (hX : X.length ≤ 4096) :
    Calls Try.prog 17 #[.slice B X.length c1, .slice C X.length c2] W fun x w' => x = .returned (.bool true) ∧ ∃ q, w' = W.drewN q := by
  have := repeats_any (a := X) (b := X) h1 h2 X.length c1 X.length c2 rfl rfl (by omega) (by omega)
  simpa using this
set_option maxRecDepth 100000 in
set_option maxHeartbeats 2000000 in
theorem lforms_any {w : World} {A : Option Addr} {l : List ByteArray} (ha : At w A (svs l)) (hsz : ∀ s ∈ l, s.size ≤ 9223372036854775807) (n cap : Nat) (hn : n = l.length) (hm : n ≤ 9223372036854775807)
    {Ad : Option Addr} {d : List ByteArray} (hd : At w Ad (svs d)) (hdsz : ∀ s ∈ d, s.size ≤ 9223372036854775807) (nd capd : Nat) (hnd : nd = d.length) (hmd : nd ≤ 9223372036854775807)
    {Ar : Option Addr} {r : List (Int × Int)} (hr : At w Ar (pv r)) (_ : ∀ c ∈ r, I64 c.1 ∧ I64 c.2) (nr capr : Nat) (hnr : nr = r.length) (hmr : nr ≤ 9223372036854775807) :
    Calls Try.prog 3 #[.slice A n cap, .slice Ad nd capd, .slice Ar nr capr] w fun x w' => LRet w x w' := by
  have Haw := hide (awake_any w)
  have Ha := hide ha
  have HA := hide hd
  have HR := hide hr
  have Hs := hide (fun W (h : At W A (svs l)) => lshort_any h hsz n cap hn hm)
  have Hs2 := hide (fun W (h : At W Ad (svs d)) => lshort_any h hdsz nd capd hnd hmd)
  have hcs : shortB l 60 200 = true ∨ shortB l 60 200 = false := by cases shortB l 60 200 <;> simp
  rcases hcs with hc | hc
  case inr =>
    rw [hc] at Hs
    clear hsz hn hdsz hnd hnr ha hd hr hc Hs2
    go_enter Try.func3, Try.ntmps3
    go_wp2_with fail
    refine (Haw.out).mono ?_
    rintro x w1 ⟨rfl, hb1⟩
    have Hs1 := hide (Hs.out w1 (Ha.out.below hb1))
    go_wp2_with fail
    refine (Hs1.out).mono ?_
    rintro x w2 ⟨rfl, rfl⟩
    go_wp2
    go_returns
    exact ⟨rfl, hb1⟩
  case inl =>
  have hl60 := shortB_true hc
  rw [hc] at Hs
  have hcd : shortB d 60 200 = true ∨ shortB d 60 200 = false := by cases shortB d 60 200 <;> simp
  rcases hcd with hcd | hcd
  case inr =>
    rw [hcd] at Hs2
    clear hsz hn hdsz hnd hnr ha hd hr hc hcd hl60
    go_enter Try.func3, Try.ntmps3
    go_wp2_with fail
    refine (Haw.out).mono ?_
    rintro x w1 ⟨rfl, hb1⟩
    have Hs1 := hide (Hs.out w1 (Ha.out.below hb1))
    have Hs2' := hide (Hs2.out w1 (HA.out.below hb1))
    go_wp2_with fail
    refine (Hs1.out).mono ?_
    rintro x w2 ⟨rfl, rfl⟩
    go_wp2_with fail
    refine (Hs2'.out).mono ?_
    rintro x w2 ⟨rfl, rfl⟩
    go_wp2
    go_returns
    exact ⟨rfl, hb1⟩
  case inl =>
  have hd60 := shortB_true hcd
  rw [hcd] at Hs2
  by_cases hbig : (30 : Int) < (nr : Int)
  · clear hsz hn hdsz hnd hnr ha hd hr hc hcd hl60 hd60
    go_enter Try.func3, Try.ntmps3
    go_wp2_with fail
    refine (Haw.out).mono ?_
    rintro x w1 ⟨rfl, hb1⟩
    have Hs1 := hide (Hs.out w1 (Ha.out.below hb1))
    have Hs2' := hide (Hs2.out w1 (HA.out.below hb1))
    go_wp2_with fail
    refine (Hs1.out).mono ?_
    rintro x w2 ⟨rfl, rfl⟩
    go_wp2_with fail
    refine (Hs2'.out).mono ?_
    rintro x w2 ⟨rfl, rfl⟩
    go_wp2
    go_returns
    exact ⟨rfl, hb1⟩
  · have hxl : (expand d r []).1.length ≤ 4096 := by
      rcases Classical.em (∀ x ∈ d, x.size ≤ 200) with h | h
      · have key : ∀ (Z : List (Int × Int)) (acc : List ByteArray), acc.length ≤ 4096 → (expand d Z acc).1.length ≤ 4096 := by
          intro Z
          induction Z with
          | nil => intro acc h; exact h
          | cons z Z ih =>
            intro acc h
            rw [expand]
            split
            · simp
            · rename_i c1
              split
              · simp
              · refine ih _ ?_
                rw [List.length_append, List.length_replicate]; omega
        exact key r [] (by simp)
      · exact absurd (fun x hx => by have := hd60.1 x hx; omega) h
    obtain ⟨⟨X, e⟩, hX⟩ : ∃ z, expand d r [] = z := ⟨_, rfl⟩
    rw [hX] at hxl
    simp only at hxl
    have hDl := dict_length l
    have hRl := runs_length (dict l) l
    have H1 := hide (fun W (h : At W Ad (svs d)) (h2 : At W Ar (pv r)) => (expand_any h h2 nd capd nr capr hnd hnr hmd hmr).mono fun x w' h => tres_sv (X := X) (e := e) (hX ▸ h))
    have H2 := hide (fun W (h : At W Ad (svs d)) (h2 : At W Ar (pv r)) => (rexpand_any h h2 nd capd nr capr hnd hnr hmd hmr).mono fun x w' h => tres_sv (X := X) (e := e) (hX ▸ h))
    have H3 := hide (fun W (h : At W A (svs l)) => (dictionary_any h n cap hn (by omega)).mono fun x w' h => dres_sv h)
    have H4 := hide (fun W (h : At W A (svs l)) => (rdict_any h n cap hn (by omega)).mono fun x w' h => dres_sv h)
    have H5 := hide (fun W (h : At W A (svs l)) => runs_any h n cap hn (by omega))
    have H6 := hide (fun W (h : At W A (svs l)) => rruns_any h n cap hn (by omega))
    have hRl2 : (cast2 (runs (dict l) l)).length ≤ 4096 := by rw [cast2_len]; omega
    have hDl2 : (dict l).length ≤ 4096 := by omega
    generalize cast2 (runs (dict l) l) = RR at *
    generalize dict l = DD at *
    have Hx4 := hide hxl
    have HD4 := hide hDl2
    have HR4 := hide hRl2
    clear hsz hn hdsz hnd hnr ha hd hr hc hcd hl60 hd60 hX hxl hDl hRl hRl2 hDl2
    go_enter Try.func3, Try.ntmps3
    go_wp2_with fail
    refine (Haw.out).mono ?_
    rintro x w1 ⟨rfl, hb1⟩
    have Hs1 := hide (Hs.out w1 (Ha.out.below hb1))
    have Hs2' := hide (Hs2.out w1 (HA.out.below hb1))
    have hbn1 := hide hb1
    clear hb1 Haw Hs Hs2
    go_wp2_with fail
    refine (Hs1.out).mono ?_
    rintro x w2 ⟨rfl, rfl⟩
    go_wp2_with fail
    refine (Hs2'.out).mono ?_
    rintro x w2 ⟨rfl, rfl⟩
    clear Hs1 Hs2'
    go_wp2_with fail
    refine (H1.out _ (HA.out.below hbn1.out) (HR.out.below hbn1.out)).mono ?_
    rintro x w3 ⟨B3, c3, rfl, hx3, hb3⟩
    have hbn3 := hide (bel_step hbn1.out hb3)
    have P3 := hide hx3
    clear hb3 hbn1 hx3
    go_wp2_with fail
    refine (H2.out _ (HA.out.below hbn3.out) (HR.out.below hbn3.out)).mono ?_
    rintro x w4 ⟨B4, c4, rfl, hx4, hb4⟩
    have hbn4 := hide (bel_step hbn3.out hb4)
    have P4 := hide (P3.out.below hb4)
    have Q4 := hide hx4
    clear hb4 hbn3 hx4 P3
    go_wp2_with fail
    refine (H3.out _ (Ha.out.below hbn4.out)).mono ?_
    rintro x w5 ⟨B5, c5, rfl, hx5, hb5⟩
    have hbn5 := hide (bel_step hbn4.out hb5)
    have P5 := hide (P4.out.below hb5)
    have Q5 := hide (Q4.out.below hb5)
    have R5 := hide hx5
    clear hb5 hbn4 hx5 P4 Q4
    go_wp2_with fail
    refine (H4.out _ (Ha.out.below hbn5.out)).mono ?_
    rintro x w6 ⟨B6, c6, rfl, hx6, hb6⟩
    have hbn6 := hide (bel_step hbn5.out hb6)
    have P6 := hide (P5.out.below hb6)
    have Q6 := hide (Q5.out.below hb6)
    have I6 := hide (sv_texts (R5.out.below hb6) hx6 c5 c6 HD4.out)
    clear hb6 hbn5 hx6 P5 Q5 R5
    go_wp2_with fail
    refine (I6.out).mono ?_
    rintro x w7 ⟨rfl, q7, hq7⟩
    have hbn7 := hide (drew_bel hbn6.out ⟨q7, hq7⟩)
    have P7 := hide (show At w7 B3 _ from hq7 ▸ P6.out.drewN q7)
    have Q7 := hide (show At w7 B4 _ from hq7 ▸ Q6.out.drewN q7)
    clear hq7 hbn6 P6 Q6 I6
    go_wp2_with fail
    refine (H5.out _ (Ha.out.below hbn7.out)).mono ?_
    rintro x w8 ⟨B8, c8, rfl, hx8, hb8⟩
    have hbn8 := hide (bel_step hbn7.out hb8)
    have P8 := hide (P7.out.below hb8)
    have Q8 := hide (Q7.out.below hb8)
    have R8 := hide hx8
    clear hb8 hbn7 hx8 P7 Q7
    go_wp2_with fail
    refine (H6.out _ (Ha.out.below hbn8.out)).mono ?_
    rintro x w9 ⟨B9, c9, rfl, hx9, hb9⟩
    have hbn9 := hide (bel_step hbn8.out hb9)
    have P9 := hide (P8.out.below hb9)
    have Q9 := hide (Q8.out.below hb9)
    have I9 := hide (pv_repeats (R8.out.below hb9) hx9 c8 c9 HR4.out)
    clear hb9 hbn8 hx9 P8 Q8 R8
    go_wp2_with fail
    refine (I9.out).mono ?_
    rintro x w10 ⟨rfl, q10, hq10⟩
    have hbn10 := hide (drew_bel hbn9.out ⟨q10, hq10⟩)
    have I10 := hide (sv_texts (show At w10 B3 _ from hq10 ▸ P9.out.drewN q10) (show At w10 B4 _ from hq10 ▸ Q9.out.drewN q10) c3 c4 Hx4.out)
    clear hq10 hbn9 P9 Q9 I9
    go_wp2_with fail
    refine (I10.out).mono ?_
    rintro x w11 ⟨rfl, q11, hq11⟩
    have hbn11 := hide (drew_bel hbn10.out ⟨q11, hq11⟩)
    clear hq11 hbn10 I10
    go_wp2
    go_returns
    exact ⟨rfl, hbn11.out⟩
end Go.Proofs.Ythbgbnlnpepolaa
/-
  The laws of runs of texts: inverses, choice, strictness.
-/
namespace Go.Proofs.Ythbgbnlnpepolaa
open Go.RowKit Go.Proofs Wv Wv.Vi Wv.Rc Wv.Mo Wv.Ru
set_option linter.unusedVariables false
theorem encB_len (c : Nat) {l : List ByteArray} (hl : l.length ≤ 4096) (hs : ∀ s ∈ l, s.size ≤ 128) : (encB c l).length ≤ 2000000 := by
  have hDl := dict_length l
  have h1 := frontB_len c (dict l) (dict l).length (size_dict hs) (by omega)
  have h2 := encn_len (codeA c l) (fun v hv => by have := codeA_lt c l hl v hv; omega)
  have h3 := encn_len (cnts l) (fun v hv => by have := cnts_lt l hl v hv; omega)
  have h4 := kof9 (encA c l).length
  have h5 := runs_length (dict l) l
  rw [codeA_length] at h2
  rw [cnts_length] at h3
  have h6 : encB c l = frontB c (dict l) (dict l).length ++ (num (encA c l).length ++ encn (codeA c l)) ++ encn (cnts l) := by
    unfold encB frontB
    rw [List.take_length]
    rfl
  rw [h6, List.length_append, List.length_append, List.length_append]
  omega
theorem enc_len {l : List ByteArray} (hl : l.length ≤ 4096) (hs : ∀ s ∈ l, s.size ≤ 128) : (enc l).1.length ≤ 2000000 := by
  obtain ⟨c, hc, he⟩ := enc_cases hl hs
  rw [he]
  exact encB_len c hl hs
/-- The law's guard: few and short texts. -/
theorem short128 {l : List ByteArray} (h : shortB l 60 128 = true) : l.length ≤ 60 ∧ ∀ s ∈ l, s.size ≤ 128 := by
  obtain ⟨h1, h2⟩ := shortB_true h
  exact ⟨by omega, fun s hs => by have := h1 s hs; omega⟩
set_option maxRecDepth 100000 in
set_option maxHeartbeats 2000000 in
theorem linverts_any {w : World} {A : Option Addr} {l : List ByteArray} (ha : At w A (svs l)) (hsz : ∀ s ∈ l, s.size ≤ 9223372036854775807) (n cap : Nat) (hn : n = l.length) (hm : n ≤ 9223372036854775807) :
    Calls Try.prog 6 #[.slice A n cap] w fun x w' => LRet w x w' := by
  have Haw := hide (awake_any w)
  have Ha := hide ha
  have Hs := hide (fun W (h : At W A (svs l)) => short_any h hsz n cap hn hm 60 128)
  have hcs : shortB l 60 128 = true ∨ shortB l 60 128 = false := by cases shortB l 60 128 <;> simp
  rcases hcs with hc | hc
  case inr =>
    rw [hc] at Hs
    clear hsz hn ha hc
    go_enter Try.func6, Try.ntmps6
    go_wp2_with fail
    refine (Haw.out).mono ?_
    rintro x w1 ⟨rfl, hb1⟩
    have Hs1 := hide (Hs.out w1 (Ha.out.below hb1))
    go_wp2_with fail
    refine (Hs1.out).mono ?_
    rintro x w2 ⟨rfl, rfl⟩
    go_wp2
    go_returns
    exact ⟨rfl, hb1⟩
  case inl =>
  obtain ⟨hl60, hl128⟩ := short128 hc
  rw [hc] at Hs
  have hDl := dict_length l
  have hRl := runs_length (dict l) l
  have hex := expand_runs l (by omega)
  have hde1 := dec_enc (l := l) (by omega) hl128 (n : Int)
  rw [if_neg (by omega)] at hde1
  have hde2 := dec_enc (l := l) (by omega) hl128 ((n : Int) - 1)
  rw [if_pos (by omega)] at hde2
  have hel := enc_len (l := l) (by omega) hl128
  obtain ⟨X, hX⟩ : ∃ X, (enc l).1 = X := ⟨_, rfl⟩
  have hX2 : enc l = (X, 0) := Prod.ext hX (by rw [enc_ok (by omega) hl128])
  rw [hX] at hde1 hde2 hel
  have H1 := hide (fun W (h : At W A (svs l)) => (dictionary_any h n cap hn (by omega)).mono fun x w' h => dres_sv h)
  have H2 := hide (fun W (h : At W A (svs l)) => runs_any h n cap hn (by omega))
  have H3 := hide (fun W B C c1 c2 (h : At W B (svs (dict l))) (h2 : At W C (pv (cast2 (runs (dict l) l)))) => (expand_any h h2 (dict l).length c1 (cast2 (runs (dict l) l)).length c2 rfl rfl (by omega) (by rw [cast2_len]; omega)).mono fun x w' h => tres_sv (X := l) (e := 0) (hex ▸ h))
  have H4 : Hid (∀ W, At W A (svs l) → Calls Try.prog 27 #[.slice A n cap] W fun x w' => x = .returned (.tuple #[.string (bs X), .int .i64 0]) ∧ Below W.heap.size W w') := hide (fun W h => by
    have := encode_any h hsz n cap hn (by omega)
    rw [hX2] at this
    exact this)
  have H5 : Hid (∀ W, Calls Try.prog 30 #[.string (bs X), .int .i64 (n : Int)] W fun x w' => ∃ B cap, x = .returned (.tuple #[.slice B n cap, .int .i64 0]) ∧ At w' B (svs l) ∧ Below W.heap.size W w') := hide (fun W => by
    have := decode_any (w := W) (bs X) (by rw [bs_size]; omega) (n : Int)
    rw [toL_bs, hde1] at this
    rw [hn]
    rw [hn] at this
    exact this.mono fun x w' h => tres_sv h)
  have H6 : Hid (∀ W, Calls Try.prog 30 #[.string (bs X), .int .i64 ((n : Int) - 1)] W fun x w' => ∃ B cap, x = .returned (.tuple #[.slice B 0 cap, .int .i64 2]) ∧ Below W.heap.size W w') := hide (fun W => by
    have := decode_any (w := W) (bs X) (by rw [bs_size]; omega) ((n : Int) - 1)
    rw [toL_bs, hde2] at this
    refine this.mono fun x w' h => ?_
    obtain ⟨B, cap, h1, _, h3⟩ := tres_sv h
    exact ⟨B, cap, h1, h3⟩)
  have H7 : Hid (∀ W B cap2, At W B (svs l) → At W A (svs l) → Calls Try.prog 14 #[.slice B n cap2, .slice A n cap] W fun x w' => x = .returned (.bool true) ∧ ∃ q, w' = W.drewN q) := hide (fun W B cap2 h1 h2 => by
    rw [hn]
    exact sv_texts h1 h2 cap2 cap (by omega))
  have Hnl := hide hn
  rw [← hn] at H3
  generalize bs X = SX at *
  generalize cast2 (runs (dict l) l) = RR at *
  generalize dict l = DD at *
  have hn60 : (n : Int) ≤ 60 := by omega
  clear hsz hn ha hc hl60 hl128 hDl hRl hex hde1 hde2 hel hX hX2
  go_enter Try.func6, Try.ntmps6
  go_wp2_with fail
  refine (Haw.out).mono ?_
  rintro x w1 ⟨rfl, hb1⟩
  have Hs1 := hide (Hs.out w1 (Ha.out.below hb1))
  have hbn1 := hide hb1
  clear hb1 Haw Hs
  go_wp2_with fail
  refine (Hs1.out).mono ?_
  rintro x w2 ⟨rfl, rfl⟩
  clear Hs1
  go_wp2_with fail
  refine (H1.out _ (Ha.out.below hbn1.out)).mono ?_
  rintro x w3 ⟨B3, c3, rfl, hx3, hb3⟩
  have hbn3 := hide (bel_step hbn1.out hb3)
  have P3 := hide hx3
  clear hb3 hbn1 hx3
  go_wp2_with fail
  refine (H2.out _ (Ha.out.below hbn3.out)).mono ?_
  rintro x w4 ⟨B4, c4, rfl, hx4, hb4⟩
  have hbn4 := hide (bel_step hbn3.out hb4)
  have I4 := hide (H3.out _ _ _ c3 c4 (P3.out.below hb4) hx4)
  clear hb4 hbn3 hx4 P3
  go_wp2_with fail
  refine (I4.out).mono ?_
  rintro x w5 ⟨B5, c5, rfl, hx5, hb5⟩
  have hbn5 := hide (bel_step hbn4.out hb5)
  have P5 := hide hx5
  clear hb5 hbn4 hx5 I4
  go_wp2_with fail
  refine (H4.out _ (Ha.out.below hbn5.out)).mono ?_
  rintro x w6 ⟨rfl, hb6⟩
  have hbn6 := hide (bel_step hbn5.out hb6)
  have P6 := hide (P5.out.below hb6)
  clear hb6 hbn5 P5
  go_wp2_with fail
  refine (H5.out _).mono ?_
  rintro x w7 ⟨B7, c7, rfl, hx7, hb7⟩
  have hbn7 := hide (bel_step hbn6.out hb7)
  have P7 := hide (P6.out.below hb7)
  have Q7 := hide hx7
  clear hb7 hbn6 P6 hx7
  go_wp2_with fail
  refine (H6.out _).mono ?_
  rintro x w8 ⟨B8, c8, rfl, hb8⟩
  have hbn8 := hide (bel_step hbn7.out hb8)
  have Q8 := hide (Q7.out.below hb8)
  have I8 := hide (H7.out _ _ c5 (P7.out.below hb8) (Ha.out.below hbn8.out))
  clear hb8 hbn7 P7 Q7
  go_wp2_with fail
  refine (I8.out).mono ?_
  rintro x w9 ⟨rfl, q9, hq9⟩
  have hbn9 := hide (drew_bel hbn8.out ⟨q9, hq9⟩)
  have I9 := hide (H7.out _ _ c7 (show At w9 B7 _ from hq9 ▸ Q8.out.drewN q9) (Ha.out.below hbn9.out))
  clear hq9 hbn8 Q8 I8
  go_wp2_with fail
  refine (I9.out).mono ?_
  rintro x w10 ⟨rfl, q10, hq10⟩
  have hbn10 := hide (drew_bel hbn9.out ⟨q10, hq10⟩)
  clear hq10 hbn9 I9
  go_wp2
  go_returns
  exact ⟨rfl, hbn10.out⟩
end Go.Proofs.Ythbgbnlnpepolaa
/-
  The laws of runs of texts: choice, strictness.
-/
namespace Go.Proofs.Ythbgbnlnpepolaa
open Go.RowKit Go.Proofs Wv Wv.Vi Wv.Rc Wv.Mo Wv.Ru
set_option linter.unusedVariables false
/-- What decoding leaves: a list and an error. -/
def DcRes (w : World) (X : List ByteArray) (e : Int) (x : Ending) (w' : World) : Prop := ∃ B cap, x = .returned (.tuple #[.slice B X.length cap, .int .i64 e]) ∧ At w' B (svs X) ∧ Below w.heap.size w w'
theorem bs_ne {X Y : List UInt8} (h : X ≠ Y) : ((bs X).toList == (bs Y).toList) = false := by
  rw [str_eq, decide_eq_false_iff_not]
  exact fun e => h (bs_inj.1 e)
set_option maxRecDepth 100000 in
set_option maxHeartbeats 2000000 in
theorem lchoice_any {w : World} {A : Option Addr} {l : List ByteArray} (ha : At w A (svs l)) (hsz : ∀ s ∈ l, s.size ≤ 9223372036854775807) (n cap : Nat) (hn : n = l.length) (hm : n ≤ 9223372036854775807) :
    Calls Try.prog 7 #[.slice A n cap] w fun x w' => LRet w x w' := by
  have Haw := hide (awake_any w)
  have Ha := hide ha
  have Hs := hide (fun W (h : At W A (svs l)) => short_any h hsz n cap hn hm 60 128)
  have hcs : shortB l 60 128 = true ∨ shortB l 60 128 = false := by cases shortB l 60 128 <;> simp
  rcases hcs with hc | hc
  case inr =>
    rw [hc] at Hs
    clear hsz hn ha hc
    go_enter Try.func7, Try.ntmps7
    go_wp2_with fail
    refine (Haw.out).mono ?_
    rintro x w1 ⟨rfl, hb1⟩
    have Hs1 := hide (Hs.out w1 (Ha.out.below hb1))
    go_wp2_with fail
    refine (Hs1.out).mono ?_
    rintro x w2 ⟨rfl, rfl⟩
    go_wp2
    go_returns
    exact ⟨rfl, hb1⟩
  case inl =>
  obtain ⟨hl60, hl128⟩ := short128 hc
  rw [hc] at Hs
  have hb : ¬ (4096 < l.length ∨ ∃ s ∈ l, 128 < s.size) := by
    rintro (h | ⟨s, h1, h2⟩)
    · omega
    · have := hl128 s h1; omega
  have ha0 : encAs 0 l = (encB 0 l, 0) := by unfold encAs; rw [if_neg (by decide), if_neg hb]; rfl
  have ha1 : encAs 1 l = (encB 1 l, 0) := by unfold encAs; rw [if_neg (by decide), if_neg hb]; rfl
  have hee := enc_ok (l := l) (by omega) hl128
  have hd0 := dec_encB (c := 0) (l := l) (by omega) (by omega) hl128 60
  have hd1 := dec_encB (c := 1) (l := l) (by omega) (by omega) hl128 60
  rw [if_neg (show ¬ (60 : Int) < (l.length : Int) by omega)] at hd0 hd1
  have hne := encB_ne l
  have hl0 := encB_len 0 (l := l) (by omega) hl128
  have hl1 := encB_len 1 (l := l) (by omega) hl128
  rw [hee] at hd0 hd1
  simp only at hd0 hd1
  have H4 : Hid (∀ W, At W A (svs l) → Calls Try.prog 27 #[.slice A n cap] W fun x w' => x = .returned (.tuple #[.string (bs (if (encB 1 l).length < (encB 0 l).length then encB 1 l else encB 0 l)), .int .i64 0]) ∧ Below W.heap.size W w') := hide (fun W h => by
    have := encode_any h hsz n cap hn (by omega)
    rw [hee] at this
    exact this)
  have H0 : Hid (∀ W, At W A (svs l) → Calls Try.prog 25 #[.int .i64 0, .slice A n cap] W fun x w' => x = .returned (.tuple #[.string (bs (encB 0 l)), .int .i64 0]) ∧ Below W.heap.size W w') := hide (fun W h => by
    have := encas_any 0 h hsz n cap hn (by omega)
    rw [ha0] at this
    exact this)
  have H1 : Hid (∀ W, At W A (svs l) → Calls Try.prog 25 #[.int .i64 1, .slice A n cap] W fun x w' => x = .returned (.tuple #[.string (bs (encB 1 l)), .int .i64 0]) ∧ Below W.heap.size W w') := hide (fun W h => by
    have := encas_any 1 h hsz n cap hn (by omega)
    rw [ha1] at this
    exact this)
  have f1 := bs_ne hne
  have f2 := bs_ne (Ne.symm hne)
  have z0 := bs_size (encB 0 l)
  have z1 := bs_size (encB 1 l)
  have D0 := hide (fun W => decode_any (w := W) (bs (encB 0 l)) (by rw [bs_size]; omega) 60)
  have D1 := hide (fun W => decode_any (w := W) (bs (encB 1 l)) (by rw [bs_size]; omega) 60)
  rw [toL_bs, hd0] at D0
  rw [toL_bs, hd1] at D1
  have hnn : Hid (n = l.length) := hide hn
  by_cases hlt : (encB 1 l).length < (encB 0 l).length
  · rw [if_pos hlt] at H4 D0 D1
    rw [if_pos (Ne.symm hne)] at D0
    rw [if_neg (by simp)] at D1
    have hlt2 : ((bs (encB 1 l)).size : Int) < ((bs (encB 0 l)).size : Int) := by rw [z0, z1]; exact Int.ofNat_lt.2 hlt
    have D0' : Hid (∀ W, Calls Try.prog 30 #[.string (bs (encB 0 l)), .int .i64 60] W fun x w' => DcRes W [] 12 x w') := hide (fun W => (D0.out W).mono fun x w' h => tres_sv h)
    have D1' : Hid (∀ W, Calls Try.prog 30 #[.string (bs (encB 1 l)), .int .i64 60] W fun x w' => DcRes W l 0 x w') := hide (fun W => (D1.out W).mono fun x w' h => tres_sv h)
    clear D0 D1 hd0 hd1 hee ha0 ha1 hne hl0 hl1 z0 z1 hb hsz hn ha hc hl60 hl128 hlt
    generalize bs (encB 0 l) = S0 at *
    generalize bs (encB 1 l) = S1 at *
    go_enter Try.func7, Try.ntmps7
    go_wp2_with fail
    refine (Haw.out).mono ?_
    rintro x w1 ⟨rfl, hb1⟩
    have Hs1 := hide (Hs.out w1 (Ha.out.below hb1))
    have hbn1 := hide hb1
    clear hb1 Haw Hs
    go_wp2_with fail
    refine (Hs1.out).mono ?_
    rintro x w2 ⟨rfl, rfl⟩
    clear Hs1
    go_wp2_with fail
    refine (H4.out _ (Ha.out.below hbn1.out)).mono ?_
    rintro x w3 ⟨rfl, hb3⟩
    have hbn3 := hide (bel_step hbn1.out hb3)
    clear hb3 hbn1
    go_wp2_with fail
    refine (H0.out _ (Ha.out.below hbn3.out)).mono ?_
    rintro x w4 ⟨rfl, hb4⟩
    have hbn4 := hide (bel_step hbn3.out hb4)
    clear hb4 hbn3
    go_wp2_with fail
    refine (H1.out _ (Ha.out.below hbn4.out)).mono ?_
    rintro x w5 ⟨rfl, hb5⟩
    have hbn5 := hide (bel_step hbn4.out hb5)
    clear hb5 hbn4
    go_wp2_with fail
    refine (D0'.out _).mono ?_
    rintro x w6 ⟨B6, c6, rfl, _, hb6⟩
    have hbn6 := hide (bel_step hbn5.out hb6)
    clear hb6 hbn5
    simp only [List.length_nil]
    go_wp2_with fail
    refine (D1'.out _).mono ?_
    rintro x w7 ⟨B7, c7, rfl, _, hb7⟩
    have hbn7 := hide (bel_step hbn6.out hb7)
    clear hb7 hbn6
    go_wp2
    go_returns
    exact ⟨rfl, hbn7.out⟩
  · rw [if_neg hlt] at H4 D0 D1
    rw [if_neg (by simp)] at D0
    rw [if_pos hne] at D1
    have hlt2 : ¬ ((bs (encB 1 l)).size : Int) < ((bs (encB 0 l)).size : Int) := by rw [z0, z1]; omega
    have D0' : Hid (∀ W, Calls Try.prog 30 #[.string (bs (encB 0 l)), .int .i64 60] W fun x w' => DcRes W l 0 x w') := hide (fun W => (D0.out W).mono fun x w' h => tres_sv h)
    have D1' : Hid (∀ W, Calls Try.prog 30 #[.string (bs (encB 1 l)), .int .i64 60] W fun x w' => DcRes W [] 12 x w') := hide (fun W => (D1.out W).mono fun x w' h => tres_sv h)
    clear D0 D1 hd0 hd1 hee ha0 ha1 hne hl0 hl1 z0 z1 hb hsz hn ha hc hl60 hl128 hlt
    generalize bs (encB 0 l) = S0 at *
    generalize bs (encB 1 l) = S1 at *
    go_enter Try.func7, Try.ntmps7
    go_wp2_with fail
    refine (Haw.out).mono ?_
    rintro x w1 ⟨rfl, hb1⟩
    have Hs1 := hide (Hs.out w1 (Ha.out.below hb1))
    have hbn1 := hide hb1
    clear hb1 Haw Hs
    go_wp2_with fail
    refine (Hs1.out).mono ?_
    rintro x w2 ⟨rfl, rfl⟩
    clear Hs1
    go_wp2_with fail
    refine (H4.out _ (Ha.out.below hbn1.out)).mono ?_
    rintro x w3 ⟨rfl, hb3⟩
    have hbn3 := hide (bel_step hbn1.out hb3)
    clear hb3 hbn1
    go_wp2_with fail
    refine (H0.out _ (Ha.out.below hbn3.out)).mono ?_
    rintro x w4 ⟨rfl, hb4⟩
    have hbn4 := hide (bel_step hbn3.out hb4)
    clear hb4 hbn3
    go_wp2_with fail
    refine (H1.out _ (Ha.out.below hbn4.out)).mono ?_
    rintro x w5 ⟨rfl, hb5⟩
    have hbn5 := hide (bel_step hbn4.out hb5)
    clear hb5 hbn4
    go_wp2_with fail
    refine (D0'.out _).mono ?_
    rintro x w6 ⟨B6, c6, rfl, _, hb6⟩
    have hbn6 := hide (bel_step hbn5.out hb6)
    clear hb6 hbn5
    go_wp2_with fail
    refine (D1'.out _).mono ?_
    rintro x w7 ⟨B7, c7, rfl, _, hb7⟩
    have hbn7 := hide (bel_step hbn6.out hb7)
    clear hb7 hbn6
    simp only [List.length_nil]
    go_wp2
    go_returns
    exact ⟨rfl, hbn7.out⟩
set_option maxRecDepth 100000 in
set_option maxHeartbeats 2000000 in
theorem lstrict_any {w : World} (data : ByteArray) (hsz : data.size ≤ 9223372036854775807) (b : Int) (hb0 : 0 ≤ b) (hb1 : b < 256) :
    Calls Try.prog 8 #[.string data, .int .u8 b] w fun x w' => LRet w x w' := by
  have Haw := hide (awake_any w)
  by_cases hbig : (300 : Int) < (data.size : Int)
  · clear hsz
    go_enter Try.func8, Try.ntmps8
    go_wp2_with fail
    refine (Haw.out).mono ?_
    rintro x w1 ⟨rfl, hb1⟩
    go_wp2
    go_returns
    exact ⟨rfl, hb1⟩
  · have Hd := hide (fun W => decode_any (w := W) data (by omega) 200)
    rcases dec_strict (toL data) 200 with (h | h) | ⟨l, h, he, hr, hl128, hl4⟩
    · rw [h] at Hd
      have Hd' : Hid (∀ W, Calls Try.prog 30 #[.string data, .int .i64 200] W fun x w' => DcRes W [] 12 x w') := hide (fun W => (Hd.out W).mono fun x w' h => tres_sv h)
      clear hsz h Hd
      go_enter Try.func8, Try.ntmps8
      go_wp2_with fail
      refine (Haw.out).mono ?_
      rintro x w1 ⟨rfl, hb1⟩
      go_wp2_with fail
      refine (Hd'.out _).mono ?_
      rintro x w2 ⟨B2, c2, rfl, _, hb2⟩
      have hbn2 := bel_step hb1 hb2
      simp only [List.length_nil]
      go_wp2
      go_returns
      exact ⟨rfl, hbn2⟩
    · rw [h] at Hd
      have Hd' : Hid (∀ W, Calls Try.prog 30 #[.string data, .int .i64 200] W fun x w' => DcRes W [] 2 x w') := hide (fun W => (Hd.out W).mono fun x w' h => tres_sv h)
      clear hsz h Hd
      go_enter Try.func8, Try.ntmps8
      go_wp2_with fail
      refine (Haw.out).mono ?_
      rintro x w1 ⟨rfl, hb1⟩
      go_wp2_with fail
      refine (Hd'.out _).mono ?_
      rintro x w2 ⟨B2, c2, rfl, _, hb2⟩
      have hbn2 := bel_step hb1 hb2
      simp only [List.length_nil]
      go_wp2
      go_returns
      exact ⟨rfl, hbn2⟩
    · rw [h] at Hd
      have Hd' : Hid (∀ W, Calls Try.prog 30 #[.string data, .int .i64 200] W fun x w' => DcRes W l 0 x w') := hide (fun W => (Hd.out W).mono fun x w' h => tres_sv h)
      have He : Hid (∀ W B c, At W B (svs l) → Calls Try.prog 27 #[.slice B l.length c] W fun x w' => x = .returned (.tuple #[.string data, .int .i64 0]) ∧ Below W.heap.size W w') := hide (fun W B c h => by
        have := encode_any h (fun s hs => by have := hl128 s hs; omega) l.length c rfl (by omega)
        rw [he] at this
        exact this)
      have hmore := dec_more he hl4 hl128 (UInt8.ofNat b.toNat) 200
      have hcat : data ++ ⟨#[UInt8.ofNat b.toNat]⟩ = bs (toL data ++ [UInt8.ofNat b.toNat]) := by
        rw [← bs_append]
        rfl
      have Hm := hide (fun W => decode_any (w := W) (bs (toL data ++ [UInt8.ofNat b.toNat])) (by rw [bs_size, List.length_append, toL_length]; simp; omega) 200)
      rw [toL_bs, hmore, ← hcat] at Hm
      have Hm' : Hid (∀ W, Calls Try.prog 30 #[.string (data ++ ⟨#[UInt8.ofNat b.toNat]⟩), .int .i64 200] W fun x w' => DcRes W [] 12 x w') := hide (fun W => (Hm.out W).mono fun x w' h => tres_sv h)
      have hcv := conv_one (P := Try.prog) 51 9 5 Try.underlying51 Try.underlying5 Try.underlying9
      have hs1 : (⟨#[UInt8.ofNat b.toNat]⟩ : ByteArray).size = 1 := rfl
      have hds : data.size ≤ 300 := by omega
      clear hsz h Hd he hr hl128 hl4 hmore hcat Hm
      go_enter Try.func8, Try.ntmps8
      go_wp2_with fail
      refine (Haw.out).mono ?_
      rintro x w1 ⟨rfl, hb1⟩
      have hbn1 := hide hb1
      clear hb1
      go_wp2_with fail
      refine (Hd'.out _).mono ?_
      rintro x w2 ⟨B2, c2, rfl, hx2, hb2⟩
      have hbn2 := hide (bel_step hbn1.out hb2)
      have He2 := hide (He.out _ _ c2 hx2)
      clear hb2 hbn1 hx2
      go_wp2_with fail
      refine (He2.out).mono ?_
      rintro x w3 ⟨rfl, hb3⟩
      have hbn3 := hide (bel_step (bel_step hbn2.out hb3) (bel_new w3 (.cells #[.int .u8 b] 5)))
      clear hb3 hbn2 He2
      go_wp2_with fail
      refine (Hm'.out _).mono ?_
      rintro x w4 ⟨B4, c4, rfl, _, hb4⟩
      have hbn4 := hide (bel_step hbn3.out hb4)
      clear hb4 hbn3
      go_wp2
      go_returns
      exact ⟨rfl, hbn4.out⟩
end Go.Proofs.Ythbgbnlnpepolaa
