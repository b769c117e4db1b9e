/-
  Joined texts: Ua, Ub, Uc.
-/
import Derived.Test.YtgllednilkfpgaaGreatJ11
import Derived.Test.YtgllednilkfpgaaGreatJ18
import Derived.Test.YtgllednilkfpgaaGreatJ21
import Derived.Test.YtgllednilkfpgaaGreatJ14
import Derived.Test.YtgllednilkfpgaaGreatJ01
import Derived.Test.YtgllednilkfpgaaGreatJ15
set_option linter.unusedVariables false
set_option linter.unusedSimpArgs false
/-
  The reading of a list in plain words, as the reference does it: the texts one by one; counts that are cut at 4096.
-/
namespace Go.Proofs.YtgllednilkfpgaaGreat
open Go.RowKit Go.Proofs Wv Wv.Vi Wv.Rc Wv.Mo Wv.Ru
set_option linter.unusedVariables false

/-- What is made of the texts that are still to be read. -/
def contR (c len : Nat) (ws : List ByteArray) (r : Option (List ByteArray × List UInt8)) : Option (List ByteArray) :=
  match r with
  | none => none
  | some x => match rtext x.2 len with
    | none => none
    | some y => fin c (ws ++ x.1) (decn y.1 4096) (decn y.2 4096)
theorem contR_go {c len k : Nat} {ws : List ByteArray} {s a u : List UInt8} (h : rtext s 128 = some (a, u)) : contR c len ws (rtexts (k + 1) s) = contR c len (ws ++ [bs a]) (rtexts k u) := by
  rw [rtexts_go h]
  match rtexts k u with
  | none => rfl
  | some x => simp [contR, List.append_assoc]
theorem contR_no {c len k : Nat} {ws : List ByteArray} {s : List UInt8} (h : rtext s 128 = none) : contR c len ws (rtexts (k + 1) s) = none := by
  rw [rtexts_no h]
  rfl
theorem contR_0 {c len : Nat} {ws : List ByteArray} {s : List UInt8} : contR c len ws (rtexts 0 s) = match rtext s len with
    | none => none
    | some y => fin c ws (decn y.1 4096) (decn y.2 4096) := by
  rw [rtexts]
  simp only [contR, List.append_nil]
/-- What the first two numbers leave. -/
theorem start_cases (data : ByteArray) : ∃ c S1 e1 n S2 e2, numR data 0 1 = (c, S1, e1) ∧ numR S1 e1 4096 = (n, S2, e2) ∧ n ≤ 4096 ∧ S1.size ≤ data.size ∧ S2.size ≤ data.size ∧ c ≤ 1 ∧
    ((e2 = 0 ∧ ∃ s2, S2 = bs s2 ∧ readL (toL data) = contR c data.size [] (rtexts n s2)) ∨ (e2 ≠ 0 ∧ readL (toL data) = none)) := by
  match h1 : rnum (toL data) 1 with
  | none =>
    obtain ⟨e, he, hn⟩ := numR_nok h1
    have hr : readL (toL data) = none := by unfold readL; rw [h1]
    exact ⟨0, data, e, 0, data, e, hn, numR_err he 4096, by omega, Nat.le_refl _, Nat.le_refl _, by omega, .inr ⟨he, hr⟩⟩
  | some (c, s1) =>
    obtain ⟨n1, hc1, hl1⟩ := numR_some h1
    rw [toL_length] at hl1
    match h2 : rnum s1 4096 with
    | none =>
      obtain ⟨e, he, hn⟩ := numR_nok h2
      have hr : readL (toL data) = none := by unfold readL; rw [h1]; simp only; rw [h2]
      exact ⟨c, bs s1, 0, 0, bs s1, e, n1, hn, by omega, hl1, hl1, hc1, .inr ⟨he, hr⟩⟩
    | some (n, s2) =>
      obtain ⟨n2, hn4, hl2⟩ := numR_some h2
      have hl3 : (bs s2).size ≤ data.size := by rw [bs_size]; omega
      refine ⟨c, bs s1, 0, n, bs s2, 0, n1, n2, hn4, hl1, hl3, hc1, .inl ⟨rfl, s2, rfl, ?_⟩⟩
      unfold readL contR
      rw [h1]
      simp only
      rw [h2]
      simp only [List.nil_append]
      match rtexts n s2 with
      | none => rfl
      | some (ws, s3) =>
        simp only
        rw [toL_length]
        match rtext s3 data.size with
        | none => rfl
        | some (a, s4) => rfl
/-- A count, cut at 4096. -/
def cl (v : Int) : Int := min v 4096 + 1
theorem expand_much (d : List ByteArray) (Z : List (Int × Int)) : ∀ acc : List ByteArray, (∃ z ∈ Z, 4096 < z.2) → (expand d Z acc).2 ≠ 0 := by
  induction Z with
  | nil => rintro acc ⟨z, hz, _⟩; cases hz
  | cons x t ih =>
    rintro acc ⟨z, hz, hz2⟩
    rw [expand]
    split
    · simp
    · split
      · simp
      · rename_i c1 c2
        refine ih _ ?_
        rcases List.mem_cons.1 hz with h | h
        · subst h; omega
        · exact ⟨z, h, hz2⟩
theorem zip_mem : ∀ (I B : List Int), I.length = B.length → ∀ v ∈ B, ∃ i, (i, v) ∈ I.zip B
  | [], [], _, v, hv => by cases hv
  | [], _ :: _, h, _, _ => by simp at h
  | _ :: _, [], _, v, hv => by cases hv
  | i :: I, b :: B, h, v, hv => by
    rcases List.mem_cons.1 hv with e | e
    · subst e; exact ⟨i, by simp⟩
    · obtain ⟨j, hj⟩ := zip_mem I B (by simpa using h) v e
      exact ⟨j, by simp [hj]⟩
theorem fin_clamp (ws : List ByteArray) (I B : List Int) (hl : I.length = B.length) :
    (if ∃ v ∈ B, 4096 ≤ v then none else if (expand ws (I.zip (B.map (· + 1))) []).2 = 0 then some (expand ws (I.zip (B.map (· + 1))) []).1 else none) =
      if (expand ws (I.zip (B.map cl)) []).2 = 0 then some (expand ws (I.zip (B.map cl)) []).1 else none := by
  by_cases h : ∃ v ∈ B, 4096 ≤ v
  · rw [if_pos h]
    obtain ⟨v, hv, h4⟩ := h
    have hm : cl v ∈ B.map cl := List.mem_map.2 ⟨v, hv, rfl⟩
    obtain ⟨i, hi⟩ := zip_mem I (B.map cl) (by rw [List.length_map]; exact hl) (cl v) hm
    rw [if_neg (expand_much ws _ [] ⟨(i, cl v), hi, by show 4096 < cl v; unfold cl; omega⟩)]
  · rw [if_neg h]
    have e : B.map (· + 1) = B.map cl := List.map_congr_left (fun v hv => by
      have h1 : ¬ 4096 ≤ v := fun h4 => h ⟨v, hv, h4⟩
      show v + 1 = cl v
      unfold cl
      omega)
    rw [e]
end Go.Proofs.YtgllednilkfpgaaGreat
/-
  The walks over the references: the list with some bytes.
-/
namespace Go.Proofs.YtgllednilkfpgaaGreat
open Go.RowKit Go.Proofs Wv Wv.Vi Wv.Rc Wv.Mo Wv.Ru
set_option linter.unusedVariables false

theorem own_madeR (w : World) : (w.alloc (.cells #[] 134)).ownsRow w.heap.size 134 2 (.slice (some ⟨w.heap.size, 0, none⟩) 0 0) 0 [] :=
  World.ownsRow_made w #[] 0 (Nat.le_refl _) (by unfold maxLen; omega) rfl
theorem SB.two {w : World} {b : Nat} {s s2 : ByteArray} {e e2 : Int} (h : SB w b s e) : SB ((w.setCell ⟨b, 0, none⟩ (.string s2)).setCell ⟨b, 1, none⟩ (.int .i64 e2)) b s2 e2 := (h.put0 s2).put1 e2
theorem two_bel {w0 w : World} {b : Nat} (hb : Below w0.heap.size w0 w) (h : w0.heap.size ≤ b) (x y : Value) : Below w0.heap.size w0 ((w.setCell ⟨b, 0, none⟩ x).setCell ⟨b, 1, none⟩ y) := (hb.setCell (p := ⟨b, 0, none⟩) h x).setCell (p := ⟨b, 1, none⟩) h y
/-- What is still to be read. -/
def RState (data : ByteArray) (c n : Nat) (ws : List ByteArray) (S : ByteArray) (e : Nat) : Prop :=
  (e = 0 ∧ ∃ sk, S = bs sk ∧ readL (toL data) = contR c data.size ws (rtexts (n - ws.length) sk)) ∨ (e ≠ 0 ∧ readL (toL data) = none)
set_option maxRecDepth 100000 in
set_option maxHeartbeats 4000000 in
theorem rread12_any (data : ByteArray) (hd : data.size ≤ 1000000000) (w : World) :
    Calls Tryz.prog 69 #[.string data] w fun x w' => RdRes w (readL (toL data)) x w' := by
  obtain ⟨c, S1, e1, n, S2, e2, hn1, hn2, hn4, hs1, hs2, hc1, hcase⟩ := start_cases data
  have h1 := fun W => rdo0_any (s := data) (by omega) 0 1 W
  rw [dv0_of hn1] at h1
  have h2 := fun W => rdo0_any (s := S1) (by omega) e1 4096 W
  rw [dv0_of hn2] at h2
  have H1 := hide h1
  have H2 := hide h2
  have Hcase : Hid (RState data c n [] S2 e2) := hide (by
    rcases hcase with ⟨h, s2, hS, hr⟩ | h
    · exact .inl ⟨h, s2, hS, by rw [List.length_nil, Nat.sub_zero]; exact hr⟩
    · exact .inr h)
  have Hs2 := hide hs2
  have Hd := hide hd
  have hx0 : SB (w.alloc (.cells #[.string data, .int .i64 0] 93)) w.heap.size data 0 := Bk.new _ _ _
  have hb0 := (Below.refl w.heap.size w).alloc (Nat.le_refl _) (.cells #[.string data, .int .i64 0] 93)
  have Hx0 := hide hx0
  have Hb0 := hide hb0
  clear h1 h2 hn1 hn2 hcase hs1 hs2 hx0 hb0 hd
  go_enter Tryz.func69, Tryz.ntmps69
  go_wp2_with fail
  refine (H1.out _).mono ?_
  rintro x w1 ⟨rfl, hb1⟩
  have hx1 := Hx0.out.below hb1
  have hx1b := hx1.two (s2 := S1) (e2 := (e1 : Int))
  have hbw1 := two_bel (Hb0.out.trans (hb1.mono Hb0.out.size)) (Nat.le_refl _) (.string S1) (.int .i64 (e1 : Int))
  obtain ⟨⟨c0, c1⟩, f0, f1⟩ := hx1.cells
  have Hx1 := hide hx1b
  have Hbw1 := hide hbw1
  clear hx1 hx1b hbw1 hb1 H1 Hx0 Hb0
  go_wp2_with fail
  refine (H2.out _).mono ?_
  rintro x w2 ⟨rfl, hb2⟩
  have hx2 := Hx1.out.below hb2
  have hx2b := hx2.two (s2 := S2) (e2 := (e2 : Int))
  have hbw2 := two_bel (Hbw1.out.trans (hb2.mono Hbw1.out.size)) (Nat.le_refl _) (.string S2) (.int .i64 (e2 : Int))
  clear c0 c1 f0 f1
  obtain ⟨⟨c0, c1⟩, f0, f1⟩ := hx2.cells
  have Hx2 := hide hx2b
  have Hbw2 := hide hbw2
  clear hx2 hx2b hbw2 hb2 H2 Hx1 Hbw1
  go_upto_region 4 with fail
  generalize ((w2.setCell ⟨w.heap.size, 0, none⟩ (.string S2)).setCell ⟨w.heap.size, 1, none⟩ (.int .i64 (e2 : Int))) = W2 at *
  clear c0 c1 f0 f1
  have hx3 := Hx2.out.alloc (.cells #[] 9)
  have hb3 := Hbw2.out.alloc Hbw2.out.size (.cells #[] 9)
  have ho3 := own_base (own_made0 9 W2) Hbw2.out.size
  have Hx3 := hide hx3
  have Hb3 := hide hb3
  have Ho3 := hide ho3
  clear hx3 hb3 ho3 Hx2 Hbw2
  go_wp2
  go_loopw [9, 10] (fun dv iv wr => ∃ (ws : List ByteArray) (S : ByteArray) (e : Nat), ws.length ≤ n ∧ iv = .int .i64 (ws.length : Nat) ∧ wr.ownsRow w.heap.size 9 1 dv ws.length (svs ws) ∧ SB wr w.heap.size S (e : Int) ∧ S.size ≤ data.size ∧ Hid (RState data c n ws S e) ∧ Below w.heap.size w wr) (fun _ iv _ => (n - intOf iv).toNat)
  case atStart => exact ⟨[], S2, e2, by simp, rfl, Ho3.out, Hx3.out, Hs2.out, Hcase, Hb3.out⟩
  case round =>
    clear Ho3 Hx3 Hcase Hb3 Hs2
    obtain ⟨ws, S, e, hk, rfl, hown, hx, hsz, hrs, hf⟩ := hrel
    obtain ⟨⟨c0, c1⟩, f0, f1⟩ := hx.cells
    by_cases hlt : ws.length < n ∧ e = 0
    · obtain ⟨hlt, rfl⟩ := hlt
      obtain ⟨sk, rfl, hrd⟩ : ∃ sk, S = bs sk ∧ readL (toL data) = contR c data.size ws (rtexts (n - ws.length) sk) := by
        rcases hrs.out with h | h
        · exact h.2
        · exact absurd rfl h.1
      have hm1 : (bs sk).size ≤ 1099511627776 := by have := Hd.out; omega
      have h3 := fun W => rdo3_any (s := bs sk) hm1 0 128 W
      obtain ⟨t, S', e', htx, hcs⟩ := textR_cases sk 128
      have htx' : textR (bs sk) 0 128 = (t, S', e') := htx
      rw [dv3_of htx'] at h3
      have hnk : n - ws.length = (n - (ws.length + 1)) + 1 := by omega
      rw [hnk] at hrd
      have hS' : S'.size ≤ data.size ∧ RState data c n (ws ++ [t]) S' e' := by
        rcases hcs with ⟨he, a, u, hra, ht, hu, hul, _⟩ | ⟨he, hra⟩
        · subst ht; subst hu
          refine ⟨by rw [bs_size] at hsz ⊢; omega, .inl ⟨he, u, rfl, ?_⟩⟩
          rw [hrd, contR_go hra, List.length_append, List.length_singleton]
        · obtain ⟨e9, h9, h8⟩ := textR_nok hra
          have h8' : textR (bs sk) 0 ((128 : Nat) : Int) = (bs [], bs sk, e9) := h8
          rw [htx] at h8'
          injection h8' with g1 g2
          injection g2 with g2 g3
          subst g2
          exact ⟨hsz, .inr ⟨he, by rw [hrd, contR_no hra]⟩⟩
      obtain ⟨A5, M5, cap5, rfl⟩ := own_slice hown
      have H3 := hide h3
      have HS := hide hS'
      have Hown := hide hown
      have Hx := hide hx
      have Hf := hide hf
      clear h3 hS' hown hx hf htx htx' hcs hnk hrd hrs hsz hm1
      go_wp2_with fail
      refine (H3.out _).mono ?_
      rintro z w4 ⟨rfl, hb4⟩
      have hx4 := (Hx.out.below hb4).alloc (.cells #[.string S', .int .i64 (e' : Int)] 93)
      have hy4 : SB (w4.alloc (.cells #[.string S', .int .i64 (e' : Int)] 93)) w4.heap.size S' (e' : Int) := Bk.new _ _ _
      have hf4 := Hf.out.trans (hb4.mono Hf.out.size)
      have hf4a := hf4.alloc hf4.size (.cells #[.string S', .int .i64 (e' : Int)] 93)
      have hown4 := (own_fr Hown.out (Fr.of_below (S := nob) hb4) (fun _ _ f => f)).alloc (.cells #[.string S', .int .i64 (e' : Int)] 93)
      have Hx4 := hide hx4
      have Hy4 := hide hy4
      have Hf4 := hide hf4a
      have Hown4 := hide hown4
      clear hx4 hy4 hf4 hf4a hown4 hb4 H3 Hx Hf Hown c0 c1 f0 f1
      go_upto_region 9 with fail
      generalize w4.alloc (.cells #[.string S', .int .i64 (e' : Int)] 93) = W4 at *
      obtain ⟨⟨y0, y1⟩, _, _⟩ := Hy4.out.cells
      obtain ⟨⟨x0, x1⟩, f0, f1⟩ := Hx4.out.cells
      have hp1 : ws.length + 1 ≤ maxLen := by unfold maxLen; omega
      have hp2 : (ws.length + 1) * 16 ≤ 140737488355328 := by omega
      obtain ⟨va, wa, ra, oa, ba, na, sa, ta, ka⟩ := app_own3 (P := Tryz.prog) 64 9 _ _ Tryz.underlying64 strinf rfl Hown4.out.drew Hf4.out.drew Hf4.out.size (.string t) rfl hp1 hp2
      obtain ⟨A9, M9, cap9, rfl⟩ := own_slice oa
      have hya : SB wa w4.heap.size S' (e' : Int) := ka _ _ _ (Bk.drew Hy4.out) (by decide)
      have hxa : SB wa w.heap.size (bs sk) ((0 : Nat) : Int) := ka _ _ _ (Bk.drew Hx4.out) (by decide)
      have hoF := (own_fr oa (only_set (only_set (Fr.refl (only w.heap.size) wa) 0 (.string S')) 1 (.int .i64 (e' : Int))) (fun g hg h => own_apart oa hxa (by decide) (by rw [hg]; exact congrArg some h)))
      have hoF2 : ((wa.setCell ⟨w.heap.size, 0, none⟩ (.string S')).setCell ⟨w.heap.size, 1, none⟩ (.int .i64 (e' : Int))).ownsRow w.heap.size 9 1 (.slice A9 M9 cap9) (ws ++ [t]).length (svs (ws ++ [t])) := by rw [svs_snoc, List.length_append]; exact hoF
      have hxF := hxa.two (s2 := S') (e2 := (e' : Int))
      have hbF := two_bel ba (Nat.le_refl _) (.string S') (.int .i64 (e' : Int))
      have Hra := hide (show (Builtin.append_ #[64, 64] 64 #[.slice A5 M5 cap5, .slice (some ⟨W4.heap.size, 0, none⟩) 1 1]).run Tryz.prog (W4.alloc (.cells #[.string t] 9)).drew = .ok (.slice A9 M9 cap9) wa from ra)
      have ly := Bk.lt Hy4.out
      have lx := Bk.lt Hx4.out
      obtain ⟨⟨q0, q1⟩, _, _⟩ := hya.cells
      obtain ⟨⟨z0, z1⟩, g0, g1⟩ := hxa.cells
      have HoF := hide hoF2
      have HxF := hide hxF
      have HbF := hide hbF
      have hlen : (ws ++ [t]).length = ws.length + 1 := by simp
      have Hlen := hide hlen
      clear ra oa ba na sa ta ka hya hxa hoF hoF2 hxF hbF hp1 hp2 hlen
      go_region_law ((refine step_runW (by with_reducible rfl) (by rfl) _ _ _ (by rfl) _ _ (by rfl) (by rfl) Hra.out ?_))
      all_goals
        clear q0 q1 z0 z1 g0 g1 y0 y1 x0 x1 f0 f1 Hra
        generalize ((wa.setCell ⟨w.heap.size, 0, none⟩ (.string S')).setCell ⟨w.heap.size, 1, none⟩ (.int .i64 (e' : Int))) = W9 at *
        go_wp2
        go_roundw
        case rel => exact ⟨ws ++ [t], S', e', by rw [Hlen.out]; omega, by rw [Hlen.out]; go_num, HoF.out, HxF.out, HS.out.1, hide HS.out.2, HbF.out⟩
        case measure => simp [intOf] <;> omega
    · by_cases he : e = 0
      · subst he
        have hwn : ws.length = n := by omega
        obtain ⟨sk, rfl, hrd⟩ : ∃ sk, S = bs sk ∧ readL (toL data) = contR c data.size ws (rtexts (n - ws.length) sk) := by
          rcases hrs.out with h | h
          · exact h.2
          · exact absurd rfl h.1
        have hnk : n - ws.length = 0 := by omega
        rw [hnk, contR_0] at hrd
        have hd9 := Hd.out
        have h3 := fun W => rdo3_any (s := bs sk) (by omega) 0 (data.size : Int) W
        obtain ⟨t, S', e', htx, hcs⟩ := textR_cases sk data.size
        rw [dv3_of htx] at h3
        obtain ⟨A5, cap5, hv5, _⟩ := own_at hown
        subst hv5
        have Hown := hide hown
        have H3 := hide h3
        have Hcs := hide hcs
        have Hrd := hide hrd
        have Hx := hide hx
        have Hf := hide hf
        have Hsz := hide (show sk.length ≤ data.size by rw [bs_size] at hsz; exact hsz)
        have hlt2 : ¬ (ws.length : Int) < (n : Int) := by omega
        clear h3 hcs hrd hx hf hown hrs hlt hnk htx hsz hd9
        go_wp2_with fail
        refine (H3.out _).mono ?_
        rintro z w4 ⟨rfl, hb4⟩
        have hx4 := Hx.out.below hb4
        have hx4b := hx4.two (s2 := S') (e2 := (e' : Int))
        clear c0 c1 f0 f1
        obtain ⟨⟨c0, c1⟩, f0, f1⟩ := hx4.cells
        have hbF := two_bel (Hf.out.trans (hb4.mono Hf.out.size)) (Nat.le_refl _) (.string S') (.int .i64 (e' : Int))
        have hownF := own_fr (own_fr Hown.out (Fr.of_below (S := nob) hb4) (fun _ _ f => f)) (only_set (only_set (Fr.refl (only w.heap.size) w4) 0 (.string S')) 1 (.int .i64 (e' : Int))) (fun g hg h => own_apart Hown.out Hx.out (by decide) (by rw [hg]; exact congrArg some h))
        obtain ⟨AW, cW, hvW, hatF⟩ := own_at hownF
        injection hvW with hv1 hv2 hv3
        subst hv1; subst hv3
        have HbF := hide hbF
        have Hx4 := hide hx4b
        have HatF := hide hatF
        clear hbF hb4 hx4 hx4b hatF Hx Hf Hown hownF hv2 H3
        go_upto_region 11 with fail
        generalize ((w4.setCell ⟨w.heap.size, 0, none⟩ (.string S')).setCell ⟨w.heap.size, 1, none⟩ (.int .i64 (e' : Int))) = W5 at *
        clear c0 c1 f0 f1
        obtain ⟨⟨c0, c1⟩, f0, f1⟩ := Hx4.out.cells
        rcases Hcs.out with ⟨he, a, u, hra, rfl, rfl, hul, hal, ham⟩ | ⟨he, hra⟩
        · subst he
          have hrd := Hrd.out
          rw [hra] at hrd
          simp only at hrd
          have hsz2 := Hsz.out
          have hd2 := Hd.out
          have HD1 := hide (fun W => fdecn_any a (by omega) 4096 W)
          have HD2 := hide (fun W => fdecn_any u (by omega) 4096 W)
          obtain ⟨g1, k1⟩ := decn_good a 4096
          obtain ⟨g2, k2⟩ := decn_good u 4096
          generalize decn a 4096 = DA at *
          generalize decn u 4096 = DC at *
          obtain ⟨LA, ea⟩ := DA
          obtain ⟨LB, eb⟩ := DC
          simp only at g1 k1 g2 k2
          have Hrd2 := hide hrd
          have G2 := hide g2
          clear hrd hra Hcs Hrd hul g1 g2 hal ham hsz2 hd2
          generalize bs a = SA at *
          generalize bs u = SU at *
          go_wp2_with fail
          refine (HD1.out _).mono ?_
          rintro x w7 ⟨v7, rfl, ⟨A7, c7, rfl, hat7⟩, hb7⟩
          have hx7 := Hx4.out.below hb7
          have hbb7 := HbF.out.trans (hb7.mono HbF.out.size)
          have hatW7 := HatF.out.below hb7
          clear c0 c1 f0 f1
          obtain ⟨⟨c0, c1⟩, f0, f1⟩ := hx7.cells
          have Hat7 := hide hat7
          have HatW7 := hide hatW7
          have Hbb7 := hide hbb7
          clear hx7 hat7 hatW7 hbb7 hb7 HD1 Hx4 HbF HatF
          go_wp2_with fail
          refine (HD2.out _).mono ?_
          rintro x w9 ⟨v9, rfl, ⟨B9, c9, rfl, hat9⟩, hb9⟩
          simp only at hat9
          have hatA := Hat7.out.below hb9
          have hatW := HatW7.out.below hb9
          have hbb9 := Hbb7.out.trans (hb9.mono Hbb7.out.size)
          have HatA := hide hatA
          have HatB := hide hat9
          have HatW := hide hatW
          have Hbb9 := hide hbb9
          clear hatA hat9 hatW hbb9 hb9 Hat7 HatW7 Hbb7 HD2 c0 c1 f0 f1
          have hfin := Hrd2.out
          unfold fin at hfin
          simp only at hfin
          by_cases c1 : ea ≠ 0 ∨ eb ≠ 0 ∨ LA.length ≠ LB.length
          · rw [if_pos c1] at hfin
            have Hr := hide hfin
            have q1 : ((ea : Int) != 0) = true ∨ (((ea : Int) != 0) = false ∧ ((eb : Int) != 0) = true) ∨ (((ea : Int) != 0) = false ∧ ((eb : Int) != 0) = false ∧ ((LA.length : Int) != (LB.length : Int)) = true) := by
              by_cases d1 : ea = 0
              · by_cases d2 : eb = 0
                · right; right
                  refine ⟨by rw [d1]; rfl, by rw [d2]; rfl, by rw [bne_iff_ne]; omega⟩
                · right; left
                  refine ⟨by rw [d1]; rfl, by rw [bne_iff_ne]; omega⟩
              · left
                rw [bne_iff_ne]; omega
            clear c1 hfin
            rcases q1 with q1 | ⟨q1, q2⟩ | ⟨q1, q2, q3⟩
            all_goals
              go_wp2
              go_returns
              rw [Hr.out]
              exact rdres_no Hbb9.out
          · rw [if_neg c1] at hfin
            have d1 : ea = 0 := by omega
            have d2 : eb = 0 := by omega
            have d3 : LA.length = LB.length := by omega
            subst d1; subst d2
            have q3 : ((LA.length : Int) != (LB.length : Int)) = false := by rw [bne_eq_false_iff_eq]; omega
            have q1 : (((0 : Nat) : Int) != 0) = false := rfl
            have HU := hide (runfront_any HatA.out LA.length c7 rfl (by omega))
            have hU0 : (unfront LA).2 = 0 → (unfront LA).1.length = LA.length := by
              unfold unfront
              split
              · intro _
                simp [unfrontA_length]
              · rename_i h
                intro h2
                exact absurd h2 h
            have Hfin := hide hfin
            have D3 := hide d3
            clear c1 hfin d3 k2
            have hc01 : c = 1 ∨ c ≠ 1 := by omega
            go_upto_if 100 with fail
            go_cut [16] (fun s9 wx => ∃ (I : List Int) (A9 : Option Addr) (cap9 : Nat), s9 = .slice A9 LA.length cap9 ∧ I.length = LA.length ∧ At wx A9 (ivs I) ∧ Below w9.heap.size w9 wx ∧
              Hid (readL (toL data) = if ∃ v ∈ LB, 4096 ≤ v then none else if (expand ws (I.zip (LB.map (· + 1))) []).2 = 0 then some (expand ws (I.zip (LB.map (· + 1))) []).1 else none))
            case first =>
              rcases hc01 with h1 | h1
              · have g0 : ((c : Int) == 1) = true := by rw [beq_iff_eq]; omega
                have hf2 := Hfin.out
                simp only [h1, if_true, true_and] at hf2
                clear h1 Hfin hc1
                obtain ⟨U, hUe⟩ : ∃ U, unfront LA = U := ⟨_, rfl⟩
                rw [hUe] at HU hU0 hf2
                clear hUe
                obtain ⟨UL, ue⟩ := U
                simp only at hU0 hf2
                have Hf2 := hide hf2
                have HU0 := hide hU0
                clear hf2 hU0
                go_wp2_with fail
                refine (HU.out).mono ?_
                rintro x w10 ⟨v10, rfl, ⟨A10, c10, rfl, hat10⟩, hb10⟩
                simp only at hat10
                have Hat10 := hide hat10
                clear hat10 HU
                simp only [List.length_map]
                by_cases hue : ue = 0
                · subst hue
                  have hl := HU0.out rfl
                  have hf3 := Hf2.out
                  simp only [ne_eq, not_true, if_false] at hf3
                  have Hf3 := hide hf3
                  rw [hl]
                  clear hf3 Hf2 HU0
                  go_wp2
                  go_meet
                  case rel => exact ⟨UL.map Int.ofNat, A10, c10, rfl, by rw [List.length_map, hl], Hat10.out, hb10, Hf3⟩
                · have hf3 := Hf2.out
                  rw [if_pos hue] at hf3
                  have Hr := hide hf3
                  have hbb := Hbb9.out.trans (hb10.mono Hbb9.out.size)
                  have q5 : ((ue : Int) != 0) = true := by rw [bne_iff_ne]; omega
                  clear hf3 Hf2 HU0 hue
                  go_wp2
                  go_returns
                  rw [Hr.out]
                  exact rdres_no hbb
              · have g0 : ((c : Int) == 1) = false := by rw [beq_eq_false_iff_ne]; omega
                have hf2 := Hfin.out
                simp only [h1, if_false, false_and] at hf2
                have Hf2 := hide hf2
                clear h1 Hfin hc1 hU0 HU hf2
                go_wp2
                go_meet
                case rel => exact ⟨LA, A7, c7, rfl, rfl, HatA.out, Below.refl _ _, Hf2⟩
            case rest =>
              clear HU hU0 Hfin
              obtain ⟨I, A9, cap9, rfl, hIl, hatI, hbI, hfinI⟩ := hcut
              have hfin2 := hfinI.out
              rw [fin_clamp ws I LB (by rw [hIl]; exact D3.out)] at hfin2
              obtain ⟨Z, hZ⟩ : ∃ Z, I.zip (LB.map cl) = Z := ⟨_, rfl⟩
              have hZl : Z.length = LA.length := by rw [← hZ, List.length_zip, List.length_map, ← D3.out, hIl, Nat.min_self]
              rw [hZ] at hfin2
              have HF2 := hide hfin2
              have HZ := hide hZ
              have HatBx := hide (HatB.out.below hbI)
              have HatWx := hide (HatW.out.below hbI)
              have HatI := hide hatI
              have Hbbx := hide (Hbb9.out.trans (hbI.mono Hbb9.out.size))
              have HZl := hide hZl
              have HIl := hide hIl
              have ho0 := hide (own_madeR wc)
              have hb0 := hide ((Below.refl wc.heap.size wc).alloc (Nat.le_refl _) (.cells #[] 134))
              clear hfinI hfin2 hZ hatI hbI HatB HatW HatA Hbb9 hZl hIl
              go_wp2
              go_loopw [20, 21] (fun rv iv wr => ∃ k : Nat, k ≤ LA.length ∧ iv = .int .i64 k ∧ wr.ownsRow wc.heap.size 134 2 rv k (pv (Z.take k)) ∧ Below wc.heap.size wc wr) (fun _ iv _ => (LA.length - intOf iv).toNat)
              case atStart => exact ⟨0, by omega, rfl, ho0.out, hb0.out⟩
              case round =>
                clear ho0 hb0
                obtain ⟨k, hk, rfl, hown, hf⟩ := hrel
                obtain ⟨A4, M4, cap4, rfl⟩ := own_slice hown
                by_cases hlt : k < LA.length
                · have hkB : k < LB.length := by rw [← D3.out]; exact hlt
                  have hkI : k < I.length := by rw [HIl.out]; exact hlt
                  have hkZ : k < Z.length := by rw [HZl.out]; exact hlt
                  obtain ⟨v, hv⟩ : ∃ v, LB[k] = v := ⟨_, rfl⟩
                  obtain ⟨y, hy⟩ : ∃ y, I[k] = y := ⟨_, rfl⟩
                  have hzk : Z[k] = (y, cl v) := by
                    simp only [← HZ.out, List.getElem_zip, List.getElem_map, hy, hv]
                  have hv0 := G2.out v (hv ▸ List.getElem_mem _)
                  have hatB := HatBx.out.below hf
                  have hatI := HatI.out.below hf
                  obtain ⟨bB, oB, hB, hbB, hcB⟩ := hatB.get k (.int .i64 v) (by rw [← hv]; simp [ivs, iv, hkB])
                  obtain ⟨bI, oI, hI, hbI, hcI⟩ := hatI.get k (.int .i64 y) (by rw [← hy]; simp [ivs, iv, hkI])
                  subst hB; subst hI
                  have hcl : cl v = min v 4096 + 1 := rfl
                  have hc1 : 1 ≤ cl v := by rw [hcl]; omega
                  have hc2 : cl v ≤ 4097 := by rw [hcl]; omega
                  obtain ⟨m, hm⟩ : ∃ m, cl v = m := ⟨_, rfl⟩
                  rw [hm] at hcl hc1 hc2 hzk
                  have hp1 : k + 1 ≤ maxLen := by unfold maxLen; omega
                  have hp2 : (k + 1) * 16 ≤ 140737488355328 := by omega
                  obtain ⟨va, wa, ra, oa, ba, na, sa, ta⟩ := app_ownL (P := Tryz.prog) 132 134 _ 16 2 Tryz.underlying132 repinf rfl (by omega) hown.drew hf.drew hf.size [.int .i64 y, .int .i64 m] rfl (by simp [Value.oneCell']) hp1 hp2
                  obtain ⟨A9, M9, cap9, rfl⟩ := own_slice oa
                  have hrow : pv (Z.take k) ++ [.int .i64 y, .int .i64 m] = pv (Z.take (k + 1)) := by
                    rw [List.take_succ_eq_append_getElem hkZ, hzk, pv_snoc]
                    rfl
                  rw [hrow] at oa
                  have hw : IntKind.i64.wrap (min v 4096 + 1) = m := by rw [← hcl, IntWalk.i64_in _ (by omega)]
                  rw [← hw] at ra
                  have Hra := hide (show (Builtin.append_ #[132, 132] 132 #[.slice A4 M4 cap4, .slice (some ⟨wr.heap.size, 0, none⟩) 1 1]).run Tryz.prog (wr.alloc (.cells #[.int .i64 y, .int .i64 (IntKind.i64.wrap (min v 4096 + 1))] 134)).drew = .ok (.slice A9 M9 cap9) wa from ra)
                  have Hoa := hide oa
                  have Hba := hide ba
                  have Hcl := hide hcl
                  have hkn : (0 : Int) ≤ (k : Int) := by omega
                  have hkm : (k : Int) < (LA.length : Int) := by omega
                  have hkm2 : (k : Int) < (LB.length : Int) := by omega
                  clear ra oa ba na sa ta hrow hp1 hp2 hv hy hzk hatB hatI hown hf HF2 HZ HatBx HatWx HatI G2 hkB hkI hkZ hm hcl hc1 hc2 hw
                  go_upto_region 25 with fail
                  go_region_law ((refine step_runW (by with_reducible rfl) (by rfl) _ _ _ (by rfl) _ _ (by rfl) (by rfl) Hra.out ?_))
                  all_goals
                    go_wp2
                    go_roundw
                    case rel => exact ⟨k + 1, by omega, by go_num, Hoa.out, Hba.out⟩
                    case measure => simp [intOf] <;> omega
                · have hkn : k = LA.length := by omega
                  subst hkn
                  have htk : Z.take LA.length = Z := by rw [← HZl.out, List.take_length]
                  rw [htk] at hown
                  obtain ⟨AZ, cZ, hvZ, hatZ⟩ := own_at hown
                  injection hvZ with z1 z2 z3
                  subst z1; subst z2; subst z3
                  have hatW := HatWx.out.below hf
                  have hbb := Hbbx.out.trans (hf.mono Hbbx.out.size)
                  have HE := hide (rexpand_any hatW hatZ n cap5 LA.length cap4 hwn.symm HZl.out.symm (by omega) (by omega))
                  have hr := HF2.out
                  obtain ⟨⟨X, xe⟩, hX⟩ : ∃ x, expand ws Z [] = x := ⟨_, rfl⟩
                  rw [hX] at hr HE
                  simp only at hr
                  have Hr := hide hr
                  have Hbb := hide hbb
                  clear hX hr hbb hatZ hatW hown hf HF2 HZ HatBx HatWx HatI Hbbx htk
                  go_wp2_with fail
                  refine (HE.out).mono ?_
                  rintro x w11 ⟨v11, rfl, hs11, hb11⟩
                  simp only at hs11
                  have hbb := Hbb.out.trans (hb11.mono Hbb.out.size)
                  by_cases hxe : xe = 0
                  · subst hxe
                    have Hr2 : Hid (readL (toL data) = some X) := hide (by rw [Hr.out, if_pos rfl])
                    have Hs := hide hs11
                    clear Hr hs11 hb11
                    go_wp2
                    go_returns
                    rw [Hr2.out]
                    exact ⟨v11, rfl, (fun l h => by injection h with h; subst h; exact Hs.out), hbb⟩
                  · have Hr2 : Hid (readL (toL data) = none) := hide (by rw [Hr.out, if_neg hxe])
                    have q9 : ((xe : Int) == 0) = false := by rw [beq_eq_false_iff_ne]; omega
                    clear Hr hs11 hb11 hxe
                    go_wp2
                    go_returns
                    rw [Hr2.out]
                    exact rdres_no hbb
        · have hr : readL (toL data) = none := by
            rw [Hrd.out, hra]
          have Hr := hide hr
          have hne : ((e' : Int) != 0) = true := by rw [bne_iff_ne]; omega
          clear hr hra he Hcs Hrd
          go_wp2
          go_returns
          rw [Hr.out]
          exact rdres_no HbF.out
      · have hr : readL (toL data) = none := by
          rcases hrs.out with h | h
          · exact absurd h.1 he
          · exact h.2
        have h3 := fun W => rdo3_any (s := S) (by have := Hd.out; omega) e (data.size : Int) W
        rw [dv3_of (textR_er (numR_er (s := S) he (data.size : Int)) he)] at h3
        have H3 := hide h3
        have Hr := hide hr
        have Hx := hide hx
        have Hf := hide hf
        have hne : ((e : Int) != 0) = true := by rw [bne_iff_ne]; omega
        have hne2 : ((e : Int) == 0) = false := by rw [beq_eq_false_iff_ne]; omega
        clear h3 hr hx hf hown hrs he hlt
        by_cases hl : ws.length < n
        · have hl2 : (ws.length : Int) < (n : Int) := by omega
          clear hl
          go_wp2_with fail
          refine (H3.out _).mono ?_
          rintro z w4 ⟨rfl, hb4⟩
          have hx4 := Hx.out.below hb4
          clear c0 c1 f0 f1
          obtain ⟨⟨c0, c1⟩, f0, f1⟩ := hx4.cells
          have hbF := two_bel (Hf.out.trans (hb4.mono Hf.out.size)) (Nat.le_refl _) (.string S) (.int .i64 (e : Int))
          have HbF := hide hbF
          clear hbF hb4 hx4
          go_wp2
          go_returns
          rw [Hr.out]
          exact rdres_no HbF.out
        · have hl2 : ¬ (ws.length : Int) < (n : Int) := by omega
          clear hl
          go_wp2_with fail
          refine (H3.out _).mono ?_
          rintro z w4 ⟨rfl, hb4⟩
          have hx4 := Hx.out.below hb4
          clear c0 c1 f0 f1
          obtain ⟨⟨c0, c1⟩, f0, f1⟩ := hx4.cells
          have hbF := two_bel (Hf.out.trans (hb4.mono Hf.out.size)) (Nat.le_refl _) (.string S) (.int .i64 (e : Int))
          have HbF := hide hbF
          clear hbF hb4 hx4
          go_wp2
          go_returns
          rw [Hr.out]
          exact rdres_no HbF.out
end Go.Proofs.YtgllednilkfpgaaGreat
/-
  The walks over the references: the list with some bytes, if they are the bytes of a list.
-/
namespace Go.Proofs.YtgllednilkfpgaaGreat
open Go.RowKit Go.Proofs Wv Wv.Vi Wv.Rc Wv.Mo Wv.Ru
set_option linter.unusedVariables false

set_option maxRecDepth 100000 in
set_option maxHeartbeats 1000000 in
theorem rdecode12_any (data : ByteArray) (hd : data.size ≤ 1000000000) (most : Int) (w : World) :
    Calls Tryz.prog 46 #[.string data, .int .i64 most] w fun x w' => TRes w (dec (toL data) most) x w' := by
  have H1 := hide (rread12_any data hd w)
  unfold dec
  match hr : readL (toL data) with
  | none =>
    rw [hr] at H1
    simp only
    clear hr hd
    go_enter Tryz.func46, Tryz.ntmps46
    go_wp2_with fail
    refine (H1.out).mono ?_
    rintro x w1 ⟨v, rfl, hs, hb⟩
    simp only [Option.isSome_none]
    clear hs
    go_wp2
    go_returns
    exact tres_err 12 hb
  | some l =>
    rw [hr] at H1
    simp only
    obtain ⟨g1, g2⟩ := readL_good hr
    have H2 := hide (fun W A cap (h : At W A (svs l)) => rencode_any h (fun s hs => by have := g1 s hs; omega) l.length cap rfl (by omega))
    obtain ⟨⟨X, xe⟩, hX⟩ : ∃ x, enc l = x := ⟨_, rfl⟩
    rw [hX] at H2 ⊢
    simp only
    clear hr hd hX g1
    by_cases hbad : xe ≠ 0 ∨ X ≠ toL data
    · rw [if_pos hbad]
      have q : ((xe : Int) != 0) = true ∨ (((xe : Int) != 0) = false ∧ (((bs X).toList != data.toList) = true ∧ ((bs X).toList == data.toList) = false)) := by
        by_cases hx : xe = 0
        · right
          have hne : X ≠ toL data := hbad.resolve_left (fun h => h hx)
          have h3 : ((bs X).toList == data.toList) = false := by
            rw [str_eq, decide_eq_false_iff_not]
            intro h
            exact hne (by rw [← h, toL_bs])
          refine ⟨by rw [hx]; rfl, by rw [bne, h3]; rfl, h3⟩
        · left; rw [bne_iff_ne]; omega
      clear hbad
      rcases q with q | ⟨q, q2, q3⟩
      all_goals
        go_enter Tryz.func46, Tryz.ntmps46
        go_wp2_with fail
        refine (H1.out).mono ?_
        rintro x w1 ⟨v, rfl, hs, hb⟩
        simp only [Option.isSome_some]
        obtain ⟨A, cap, rfl, hat⟩ := hs l rfl
        have H3 := hide (H2.out _ _ cap hat)
        clear hs hat
        go_wp2_with fail
        refine (H3.out).mono ?_
        rintro x w2 ⟨rfl, hb2⟩
        have hbb := hb.trans (hb2.mono hb.size)
        go_wp2
        go_returns
        exact tres_err 12 hbb
    · rw [if_neg hbad]
      have hx : xe = 0 := by omega
      have hXd : X = toL data := by
        rcases Classical.em (X = toL data) with h | h
        · exact h
        · exact absurd (.inr h) hbad
      subst hx; subst hXd
      have q2 : ((bs (toL data)).toList != data.toList) = false := by rw [bs_toL, bne_self_eq_false]
      have q3 : ((bs (toL data)).toList == data.toList) = true := by rw [bs_toL, beq_self_eq_true]
      clear hbad
      by_cases hm : most < (l.length : Int)
      · rw [if_pos hm]
        go_enter Tryz.func46, Tryz.ntmps46
        go_wp2_with fail
        refine (H1.out).mono ?_
        rintro x w1 ⟨v, rfl, hs, hb⟩
        simp only [Option.isSome_some]
        obtain ⟨A, cap, rfl, hat⟩ := hs l rfl
        have H3 := hide (H2.out _ _ cap hat)
        clear hs hat
        go_wp2_with fail
        refine (H3.out).mono ?_
        rintro x w2 ⟨rfl, hb2⟩
        have hbb := hb.trans (hb2.mono hb.size)
        go_wp2
        go_returns
        exact tres_err 2 hbb
      · rw [if_neg hm]
        go_enter Tryz.func46, Tryz.ntmps46
        go_wp2_with fail
        refine (H1.out).mono ?_
        rintro x w1 ⟨v, rfl, hs, hb⟩
        simp only [Option.isSome_some]
        obtain ⟨A, cap, rfl, hat⟩ := hs l rfl
        have H3 := hide (H2.out _ _ cap hat)
        have Hat := hide hat
        clear hs hat
        go_wp2_with fail
        refine (H3.out).mono ?_
        rintro x w2 ⟨rfl, hb2⟩
        have hbb := hb.trans (hb2.mono hb.size)
        have hat2 := Hat.out.below hb2
        go_wp2
        go_returns
        exact ⟨_, rfl, ⟨A, cap, rfl, hat2⟩, hbb⟩
end Go.Proofs.YtgllednilkfpgaaGreat
