/-
  Joined texts: Ei, Ej, Ek, El.
-/
import Derived.Test.YtkgclfagimlneaaDoorJ04
import Derived.Test.YtkgclfagimlneaaDoorJ03
import Derived.Lib.AppendStr
import Derived.Lib.MinMax
set_option linter.unusedVariables false
set_option linter.unusedSimpArgs false
/-
  The walks over decimal numbers: the text of a number.
-/
namespace Go.Proofs.YtkgclfagimlneaaDoor
open Go.RowKit Go.Proofs Wv Wv.Dc
set_option linter.unusedVariables false

/-- The table of powers lies in the world, whatever is laid anew. -/
def Tab (w : World) : Prop := ∀ W, Below w.heap.size w W → Lib.TabIs Tryd.prog W "internal/strconv.uint64pow10" .u64 Lib.pow10Tab
theorem Tab.below {w w' : World} (h : Tab w) (hb : Below w.heap.size w w') : Tab w' := fun w2 h2 => h w2 (hb.trans (h2.mono hb.size))
theorem decDigits_decN (n : Nat) : Lib.decDigits n = decN n := by
  induction n using Nat.strongRecOn with
  | ind n ih =>
    rw [Lib.decDigits, decN]
    split
    · rfl
    · rw [ih (n / 10) (by omega)]
theorem itoa_decZ (n : Int) : Lib.itoa n = decZ n := by
  unfold Lib.itoa decZ
  split
  · rw [decDigits_decN, show n.natAbs = (-n).toNat by omega]
  · rw [decDigits_decN]
theorem pitoa_any {w : World} (ht : Tab w) (n : Int) (h0 : -9223372036854775808 ≤ n) (h1 : n ≤ 9223372036854775807) :
    Calls Tryd.prog 53 #[.int .i64 n] w fun x w' => x = .returned (.string (bs (decZ n))) ∧ Below w.heap.size w w' := by
  refine (Tryd.strconv_Itoa n h0 h1 w (ht w (Below.refl _ _))).mono ?_
  rintro x w' ⟨rfl, k, os, rfl⟩
  refine ⟨ret_str (by rw [itoa_decZ]; rfl), ?_⟩
  have h1 := bdN (Below.refl w.heap.size w) k
  refine ⟨h1.os, h1.tape, h1.output, ?_, fun j hj => ?_⟩
  · show w.heap.size ≤ (w.heap ++ os).size
    rw [Array.size_append]
    omega
  · show (w.heap ++ os)[j]? = w.heap[j]?
    rw [Array.getElem?_append_left hj]
end Go.Proofs.YtkgclfagimlneaaDoor
/-
  The walks over decimal numbers: the text of a number, second part.
-/
namespace Go.Proofs.YtkgclfagimlneaaDoor
open Go.RowKit Go.Proofs Wv Wv.Dc
set_option linter.unusedVariables false

theorem ret_te {s t : ByteArray} {a b : Int} (h : s = t) (h2 : a = b) : Ending.returned (.tuple #[.string s, .int .i64 a]) = .returned (.tuple #[.string t, .int .i64 b]) := by rw [h, h2]
set_option maxRecDepth 100000 in
set_option maxHeartbeats 2000000 in
theorem ptext_any {w : World} {v : Value} {n : Num} (h : NV w v n) (hs : Sz n) (ht : Tab w) :
    Calls Tryd.prog 34 #[v] w fun x w' => x = .returned (.tuple #[.string (bs (ctext n).1), .int .i64 ((ctext n).2 : Int)]) ∧ Below w.heap.size w w' := by
  obtain ⟨A, cap, rfl, hat, hc, hm⟩ := h
  obtain ⟨b, d, e⟩ := n
  obtain ⟨s1, s2, s3⟩ := hs
  simp only at *
  have hct : ctext ⟨b, d, e⟩ = if d = [] then ([48], 0) else if 17 < d.length ∨ e + d.length - 1 < -400 ∨ 400 < e + d.length - 1 then ([], 9)
    else ((if b then [45] else []) ++ d.take 1 ++ (if 1 < d.length then 46 :: d.drop 1 else []) ++ 101 :: decZ (e + d.length - 1), 0) := rfl
  have hb0 := (Below.refl w.heap.size w).alloc (Nat.le_refl _) (.cells #[.bool b, .slice A d.length cap, .int .i64 e] 41)
  have hx0 : Bk (w.alloc (.cells #[.bool b, .slice A d.length cap, .int .i64 e] 41)) w.heap.size 41 #[.bool b, .slice A d.length cap, .int .i64 e] := Bk.new _ _ _
  have Hb0 := hide hb0
  have Hx0 := hide hx0
  have Hat := hide hat
  have Ht := hide ht
  have Hf := hide (fun W => pfirst_raw b A d.length cap e s1 s2 s3 W)
  clear hb0 hx0 hat ht
  by_cases h0 : d = []
  · subst h0
    have Hct := hide (hct.trans (if_pos rfl))
    clear hct Hf
    go_enter Tryd.func34, Tryd.ntmps34
    go_wp2
    go_returns
    exact ⟨by rw [Hct.out] <;> rfl, Hb0.out⟩
  · rw [if_neg h0] at hct
    have hl0 : ((d.length : Int) == 0) = false := by
      rw [beq_eq_false_iff_ne]
      intro h
      exact h0 (List.eq_nil_of_length_eq_zero (by omega))
    have hlp : 0 < d.length := List.length_pos_iff.2 h0
    obtain ⟨L, hL⟩ : ∃ L, d.length = L := ⟨_, rfl⟩
    obtain ⟨F, hF⟩ : ∃ F, e + (L : Int) - 1 = F := ⟨_, rfl⟩
    rw [hL] at hct Hf Hx0 Hb0 hc hl0 hlp s3 ⊢
    rw [hF] at hct Hf
    by_cases h17 : 17 < L
    · rw [if_pos (.inl h17)] at hct
      have Hct := hide hct
      have h17i : (17 : Int) < (L : Int) := by omega
      clear hct Hf h17 hF
      go_enter Tryd.func34, Tryd.ntmps34
      go_wp2
      go_returns
      exact ⟨by rw [Hct.out] <;> rfl, Hb0.out⟩
    · have h17i : ¬ (17 : Int) < (L : Int) := by omega
      by_cases hlo : F < -400
      · rw [if_pos (.inr (.inl hlo))] at hct
        have Hct := hide hct
        clear hct h17 hF
        go_enter Tryd.func34, Tryd.ntmps34
        go_wp2_with fail
        refine (Hf.out _).mono ?_
        rintro r w1 ⟨rfl, hb1⟩
        have hbw := Hb0.out.trans (hb1.mono Hb0.out.size)
        go_wp2
        go_returns
        exact ⟨by rw [Hct.out] <;> rfl, hbw⟩
      · by_cases hhi : 400 < F
        · rw [if_pos (.inr (.inr hhi))] at hct
          have Hct := hide hct
          clear hct h17 hF
          go_enter Tryd.func34, Tryd.ntmps34
          go_wp2_with fail
          refine (Hf.out _).mono ?_
          rintro r w1 ⟨rfl, hb1⟩
          have hx1 := Bk.below Hx0.out hb1 (Bk.lt Hx0.out)
          have hbw1 := Hb0.out.trans (hb1.mono Hb0.out.size)
          have c0 := hx1.cell 0
          have c1 := hx1.cell 1
          have c2 := hx1.cell 2
          simp at c0 c1 c2
          have Hbw1 := hide hbw1
          clear hx1 hbw1 hb1
          go_wp2_with fail
          refine (Hf.out _).mono ?_
          rintro r w2 ⟨rfl, hb2⟩
          have hbw := Hbw1.out.trans (hb2.mono Hbw1.out.size)
          go_wp2
          go_returns
          exact ⟨by rw [Hct.out] <;> rfl, hbw⟩
        · rw [if_neg (by omega)] at hct
          have Hct := hide hct
          have HL := hide hL
          clear hct h17 hF
          go_enter Tryd.func34, Tryd.ntmps34
          go_wp2_with fail
          refine (Hf.out _).mono ?_
          rintro r w1 ⟨rfl, hb1⟩
          have hx1 := Bk.below Hx0.out hb1 (Bk.lt Hx0.out)
          have hbw1 := Hb0.out.trans (hb1.mono Hb0.out.size)
          have c0 := hx1.cell 0
          have c1 := hx1.cell 1
          have c2 := hx1.cell 2
          simp at c0 c1 c2
          have Hx1 := hide hx1
          have Hbw1 := hide hbw1
          clear hx1 hbw1 hb1
          go_wp2_with fail
          refine (Hf.out _).mono ?_
          rintro r w2 ⟨rfl, hb2⟩
          have hx2 := Bk.below Hx1.out hb2 (Bk.lt Hx1.out)
          have hbw2 := Hbw1.out.trans (hb2.mono Hbw1.out.size)
          clear c0 c1 c2
          have c0 := hx2.cell 0
          have c1 := hx2.cell 1
          have c2 := hx2.cell 2
          simp at c0 c1 c2
          have hat2 := Hat.out.below hbw2
          have l1 : (d.take 1).length = 1 := by rw [List.length_take, HL.out]; omega
          have hcv1 : (convert 39 9 (.slice A 1 cap)).run Tryd.prog w2 = .ok (.string (bs (d.take 1))) w2 := by
            have := conv_at (P := Tryd.prog) 39 9 5 Tryd.underlying39 Tryd.underlying5 Tryd.underlying9 (w := w2) (A := A) (l := d.take 1) (by rw [List.map_take]; exact at_front hat2 1) cap
            rw [l1] at this
            exact this
          have Hit := hide (fun W (h : Below w.heap.size w W) => pitoa_any (Ht.out.below h) F (by omega) (by omega))
          have hzl : (decZ F).length ≤ 4 := by
            unfold decZ
            split
            · have := decN_len (n := (-F).toNat) (k := 3) (by omega) (by omega)
              rw [List.length_cons]; omega
            · have := decN_len (n := F.toNat) (k := 3) (by omega) (by omega)
              omega
          have z1 : (bs (d.take 1)).size ≤ 1 := by rw [bs_size, l1]; exact Nat.le_refl _
          have z3 : (bs (decZ F)).size ≤ 4 := by rw [bs_size]; exact hzl
          have Hx2 := hide hx2
          have Hbw2 := hide hbw2
          by_cases hL1 : L = 1
          · have hct2 := Hct.out
            rw [if_neg (show ¬ 1 < L by omega), List.append_nil] at hct2
            have Hcat : Hid ((if b then (⟨#[45]⟩ : ByteArray) ++ bs (d.take 1) else bs (d.take 1)) ++ (⟨#[101]⟩ : ByteArray) ++ bs (decZ F) = bs (ctext ⟨b, d, e⟩).1) := hide (by
              rw [hct2]
              have e1 : (⟨#[101]⟩ : ByteArray) = bs [101] := rfl
              have e2 : (⟨#[45]⟩ : ByteArray) = bs [45] := rfl
              rw [e1, e2]
              cases b
              · simp [bs_append]
              · simp [bs_append])
            have H0 : Hid ((ctext ⟨b, d, e⟩).2 = 0) := hide (by rw [hct2])
            subst hL1
            generalize bs (d.take 1) = S1 at *
            generalize bs (decZ F) = S3 at *
            clear hct2 Hct hx2 hbw2 hat2 l1 hzl Hx1 Hbw1 Hx0 Hb0 Hat hb2
            cases b
            all_goals
              go_wp2_with fail
              refine (Hf.out _).mono ?_
              rintro r w3 ⟨rfl, hb3⟩
              have hbw3 := Hbw2.out.trans (hb3.mono Hbw2.out.size)
              go_wp2_with fail
              refine (Hit.out _ hbw3).mono ?_
              rintro r w4 ⟨rfl, hb4⟩
              have hbw4 := hbw3.trans (hb4.mono hbw3.size)
              clear hbw3 hb3 hb4 c0 c1 c2
              go_wp2
              go_returns
              exact ⟨ret_te (by have := Hcat.out; simpa using this) (by rw [H0.out]; rfl), hbw4⟩
          · have hL2 : 1 < L := by omega
            have hL2i : (1 : Int) < (L : Int) := by omega
            have hct2 := Hct.out
            rw [if_pos hL2] at hct2
            obtain ⟨bA, oA, hA, _, _⟩ := hat2 0 (by rw [List.length_map, HL.out]; omega)
            subst hA
            have l2 : (d.drop 1).length = L - 1 := by rw [List.length_drop, HL.out]
            have hcv2 : (convert 39 9 (.slice (some ⟨bA, oA + 1, none⟩) (L - 1) (cap - 1))).run Tryd.prog w2 = .ok (.string (bs (d.drop 1))) w2 := by
              have := conv_at (P := Tryd.prog) 39 9 5 Tryd.underlying39 Tryd.underlying5 Tryd.underlying9 (w := w2) (A := some ⟨bA, oA + 1, none⟩) (l := d.drop 1) (by rw [List.map_drop]; exact at_shift hat2 1) (cap - 1)
              rw [l2] at this
              exact this
            have hc1 : ¬ cap = 1 := by omega
            have z2 : (bs (d.drop 1)).size ≤ 17 := by rw [bs_size, l2]; omega
            have Hcat : Hid ((if b then (⟨#[45]⟩ : ByteArray) ++ (bs (d.take 1) ++ ((⟨#[46]⟩ : ByteArray) ++ bs (d.drop 1))) else bs (d.take 1) ++ ((⟨#[46]⟩ : ByteArray) ++ bs (d.drop 1))) ++ (⟨#[101]⟩ : ByteArray) ++ bs (decZ F) = bs (ctext ⟨b, d, e⟩).1) := hide (by
              rw [hct2]
              have e1 : (⟨#[101]⟩ : ByteArray) = bs [101] := rfl
              have e2 : (⟨#[45]⟩ : ByteArray) = bs [45] := rfl
              have e3 : (⟨#[46]⟩ : ByteArray) = bs [46] := rfl
              rw [e1, e2, e3]
              cases b
              · simp [bs_append]
              · simp [bs_append])
            have H0 : Hid ((ctext ⟨b, d, e⟩).2 = 0) := hide (by rw [hct2])
            generalize bs (d.take 1) = S1 at *
            generalize bs (d.drop 1) = S2 at *
            generalize bs (decZ F) = S3 at *
            clear hct2 Hct hx2 hbw2 hat2 l1 l2 hzl Hx1 Hbw1 Hx0 Hb0 Hat hb2 hL1
            cases b
            all_goals
              go_wp2_with fail
              refine (Hf.out _).mono ?_
              rintro r w3 ⟨rfl, hb3⟩
              have hbw3 := Hbw2.out.trans (hb3.mono Hbw2.out.size)
              go_wp2_with fail
              refine (Hit.out _ hbw3).mono ?_
              rintro r w4 ⟨rfl, hb4⟩
              have hbw4 := hbw3.trans (hb4.mono hbw3.size)
              clear hbw3 hb3 hb4 c0 c1 c2
              go_wp2
              go_returns
              exact ⟨ret_te (by have := Hcat.out; simpa using this) (by rw [H0.out]; rfl), hbw4⟩
end Go.Proofs.YtkgclfagimlneaaDoor
/-
  The walks over decimal numbers: a scan's places in its text, and what lies in memory on its way.
-/
namespace Go.Proofs.YtkgclfagimlneaaDoor
open Go.RowKit Go.Proofs Wv Wv.Dc
set_option linter.unusedVariables false

/-- The place behind a sign. -/
def sgK (L : List UInt8) (k : Nat) : Nat := if hitB [45] L k then k + 1 else hitK [43] L k
theorem drop_at {L : List UInt8} {k : Nat} {c : UInt8} (h : L[k]? = some c) : L.drop k = c :: L.drop (k + 1) := by
  obtain ⟨hk, hc⟩ := List.getElem?_eq_some_iff.1 h
  rw [← hc]
  exact List.drop_eq_getElem_cons hk
theorem hit_cases (S L : List UInt8) (k : Nat) : (L.length ≤ k ∧ hitB S L k = false ∧ L.drop k = []) ∨ (∃ c, L[k]? = some c ∧ k < L.length ∧ hitB S L k = S.contains c ∧ L.drop k = c :: L.drop (k + 1)) := by
  by_cases h : k < L.length
  · right
    refine ⟨L[k], List.getElem?_eq_getElem h, h, ?_, List.drop_eq_getElem_cons h⟩
    unfold hitB
    rw [List.getElem?_eq_getElem h]
  · left
    refine ⟨by omega, ?_, List.drop_eq_nil_of_le (by omega)⟩
    unfold hitB
    rw [List.getElem?_eq_none (by omega)]
theorem sgn_place (L : List UInt8) (k : Nat) : sgn (L.drop k) = (hitB [45] L k, L.drop (sgK L k)) := by
  unfold sgK hitK
  rcases hit_cases [45] L k with ⟨h1, h2, h3⟩ | ⟨c, h1, h2, h3, h4⟩
  · have h5 : hitB [43] L k = false := by unfold hitB; rw [List.getElem?_eq_none h1]
    rw [h2, h5, h3]
    simp [sgn, h3]
  · have h5 : hitB [43] L k = [43].contains c := by unfold hitB; rw [h1]
    rw [h3, h5, h4, sgn_cons]
    by_cases e1 : c = 45
    · subst e1; simp
    · by_cases e2 : c = 43
      · subst e2; simp
      · simp [e1, e2, h4]
theorem sgK_le {L : List UInt8} {k : Nat} (hk : k ≤ L.length) : k ≤ sgK L k ∧ sgK L k ≤ L.length := by
  unfold sgK hitK
  rcases hit_cases [45] L k with ⟨h1, h2, h3⟩ | ⟨c, h1, h2, h3, h4⟩
  · have h5 : hitB [43] L k = false := by unfold hitB; rw [List.getElem?_eq_none h1]
    rw [h2, h5]
    simp [hk]
  · split
    · omega
    · split <;> omega
theorem hitK_le {S L : List UInt8} {k : Nat} (hk : k ≤ L.length) : k ≤ hitK S L k ∧ hitK S L k ≤ L.length := by
  unfold hitK
  rcases hit_cases S L k with ⟨h1, h2, h3⟩ | ⟨c, h1, h2, h3, h4⟩
  · rw [h2]
    simp [hk]
  · split <;> omega
theorem hit_lt {S L : List UInt8} {k : Nat} (h : hitB S L k = true) : k < L.length := by
  rcases hit_cases S L k with ⟨h1, h2, h3⟩ | ⟨c, h1, h2, h3, h4⟩
  · rw [h2] at h; cases h
  · exact h2
theorem hitK_yes {S L : List UInt8} {k : Nat} (h : hitB S L k = true) : hitK S L k = k + 1 := by unfold hitK; rw [if_pos h]
theorem hitK_no {S L : List UInt8} {k : Nat} (h : hitB S L k = false) : hitK S L k = k := by unfold hitK; rw [h]; rfl
theorem aft_drop (L : List UInt8) (k : Nat) : aft (L.drop k) = L.drop (k + (dfr (L.drop k)).length) := by
  have h : L.drop k = dfr (L.drop k) ++ aft (L.drop k) := (List.takeWhile_append_dropWhile (p := isD) (l := L.drop k)).symm
  have h2 : (L.drop k).drop (dfr (L.drop k)).length = aft (L.drop k) := by
    have h3 : (dfr (L.drop k) ++ aft (L.drop k)).drop (dfr (L.drop k)).length = aft (L.drop k) := List.drop_left
    rw [← h] at h3
    exact h3
  rw [← h2, List.drop_drop]
theorem dfr_fit (L : List UInt8) {k : Nat} (hk : k ≤ L.length) : k + (dfr (L.drop k)).length ≤ L.length := by
  have := dfr_len (L.drop k)
  rw [List.length_drop] at this
  omega
theorem frac_place (L : List UInt8) (k : Nat) : frac (L.drop k) = if hitB [46] L k then (if dfr (L.drop (k + 1)) = [] then none else some (dfr (L.drop (k + 1)), L.drop (k + 1 + (dfr (L.drop (k + 1))).length))) else some ([], L.drop k) := by
  rcases hit_cases [46] L k with ⟨h1, h2, h3⟩ | ⟨c, h1, h2, h3, h4⟩
  · rw [h2, h3]
    rfl
  · rw [h3, h4, frac_cons]
    by_cases e : c = 46
    · subst e
      simp [aft_drop]
    · simp [e]
theorem expo_place (f : List UInt8 → Nat) (L : List UInt8) (k : Nat) : expo f (L.drop k) = if hitB [101, 69] L k then (if dfr (L.drop (sgK L (k + 1))) = [] then none else some (sg (hitB [45] L (k + 1)) * (f (dfr (L.drop (sgK L (k + 1)))) : Int), L.drop (sgK L (k + 1) + (dfr (L.drop (sgK L (k + 1)))).length))) else some (0, L.drop k) := by
  rcases hit_cases [101, 69] L k with ⟨h1, h2, h3⟩ | ⟨c, h1, h2, h3, h4⟩
  · rw [h2, h3]
    rfl
  · rw [h3, h4, expo_cons, sgn_place]
    by_cases e : c = 101 ∨ c = 69
    · have : [101, 69].contains c = true := by rw [List.contains_iff_mem]; simpa using e
      rw [this, if_pos e]
      simp [aft_drop]
    · have : [101, 69].contains c = false := by
        rw [Bool.eq_false_iff]
        intro h
        rw [List.contains_iff_mem] at h
        exact e (by simpa using h)
      rw [this, if_neg e]
      simp
/-- What lies in memory on a scan's way. -/
structure ScSt (w wx : World) (s : ByteArray) (k : Nat) (b : Bool) (v : Value) (D : List UInt8) (e : Int) : Prop where
  bs_ : Bk wx w.heap.size 9 #[.string s]
  br : Bk wx (w.heap.size + 1) 41 #[.bool false, .slice none 0 0, .int .i64 0]
  bn : Bk wx (w.heap.size + 1 + 1) 41 #[.bool b, v, .int .i64 e]
  ba : Bk wx (w.heap.size + 1 + 1 + 1) 3 #[.int .i64 (k : Int)]
  own : wx.ownsRow w.heap.size 5 1 v D.length (D.map bv)
  bel : Below w.heap.size w wx
theorem ScSt.step {w wx wy : World} {s : ByteArray} {k k' : Nat} {b : Bool} {v : Value} {D : List UInt8} {e : Int} (h : ScSt w wx s k b v D e) (hb : Bk wy (w.heap.size + 1 + 1 + 1) 3 #[.int .i64 (k' : Int)]) (hf : Fr (only (w.heap.size + 1 + 1 + 1)) wx wy) : ScSt w wy s k' b v D e where
  bs_ := h.bs_.fr hf (by show ¬ _ = _; omega)
  br := h.br.fr hf (by show ¬ _ = _; omega)
  bn := h.bn.fr hf (by show ¬ _ = _; omega)
  ba := hb
  own := own_fr h.own hf (fun g hg hn => own_apart h.own h.ba (by decide) (hn ▸ hg))
  bel := h.bel.trans (own_below hf h.bel.size (by omega))
theorem ScSt.num {w wx wy : World} {s : ByteArray} {k : Nat} {b b' : Bool} {v : Value} {D : List UInt8} {e e' : Int} (h : ScSt w wx s k b v D e) (hb : Bk wy (w.heap.size + 1 + 1) 41 #[.bool b', v, .int .i64 e']) (hf : Fr (only (w.heap.size + 1 + 1)) wx wy) : ScSt w wy s k b' v D e' where
  bs_ := h.bs_.fr hf (by show ¬ _ = _; omega)
  br := h.br.fr hf (by show ¬ _ = _; omega)
  bn := hb
  ba := h.ba.fr hf (by show ¬ _ = _; omega)
  own := own_fr h.own hf (fun g hg hn => own_apart h.own h.bn (by decide) (hn ▸ hg))
  bel := h.bel.trans (own_below hf h.bel.size (by omega))
theorem ScSt.neg {w wx : World} {s : ByteArray} {k : Nat} {b : Bool} {v : Value} {D : List UInt8} {e : Int} (h : ScSt w wx s k b v D e) (b' : Bool) : ScSt w (wx.setCell ⟨w.heap.size + 1 + 1, 0, none⟩ (.bool b')) s k b' v D e :=
  h.num (by simpa using h.bn.put 0 (.bool b')) (only_set (Fr.refl _ _) 0 _)
theorem ScSt.exp {w wx : World} {s : ByteArray} {k : Nat} {b : Bool} {v : Value} {D : List UInt8} {e : Int} (h : ScSt w wx s k b v D e) (e' : Int) : ScSt w (wx.setCell ⟨w.heap.size + 1 + 1, 2, none⟩ (.int .i64 e')) s k b v D e' :=
  h.num (by simpa using h.bn.put 2 (.int .i64 e')) (only_set (Fr.refl _ _) 2 _)
theorem ScSt.app {w wx wy : World} {s : ByteArray} {k : Nat} {b : Bool} {v v' : Value} {D E : List UInt8} {e : Int} (h : ScSt w wx s k b v D e) (ho : wy.ownsRow w.heap.size 5 1 v' (D ++ E).length ((D ++ E).map bv)) (hg : wx.grownBy wy v.ownBlock) :
    Bk wy (w.heap.size + 1 + 1) 41 #[.bool b, v, .int .i64 e] ∧ ScSt w (wy.setCell ⟨w.heap.size + 1 + 1, 1, none⟩ v') s k b v' (D ++ E) e := by
  have hn := h.bn.grown hg (fun x => own_apart h.own h.bn (by decide) x.symm)
  have hk := hn.put 1 v'
  refine ⟨hn, ?_⟩
  refine ⟨?_, ?_, by simpa using hk, ?_, ?_, ?_⟩
  · exact (h.bs_.grown hg (fun x => own_apart h.own h.bs_ (by decide) x.symm)).off (p := ⟨w.heap.size + 1 + 1, 1, none⟩) (by simp <;> omega) _
  · exact (h.br.grown hg (fun x => own_apart h.own h.br (by decide) x.symm)).off (p := ⟨w.heap.size + 1 + 1, 1, none⟩) (by simp <;> omega) _
  · exact (h.ba.grown hg (fun x => own_apart h.own h.ba (by decide) x.symm)).off (p := ⟨w.heap.size + 1 + 1, 1, none⟩) (by simp <;> omega) _
  · exact own_off ho (p := ⟨w.heap.size + 1 + 1, 1, none⟩) (own_apart ho hn (by decide)) _
  · exact (h.bel.grown hg h.bel.size (fun k hk => (h.own.lt k hk).1)).setCell (p := ⟨w.heap.size + 1 + 1, 1, none⟩) (by show _ ≤ _ + 1 + 1; omega) _
theorem ScSt.one {w wx : World} {s : ByteArray} {k : Nat} {b : Bool} {v : Value} {D : List UInt8} {e : Int} (h : ScSt w wx s k b v D e) (S : List UInt8) (hk : k ≤ s.size) (hs : s.size ≤ 64) (hS : S.length ≤ 2) :
    Calls Tryd.prog 50 #[.string (bs S), .pointer (some ⟨w.heap.size + 1 + 1 + 1, 0, none⟩), .pointer (some ⟨w.heap.size, 0, none⟩)] wx fun x w' => x = .returned (.bool (hitB S (toL s) k)) ∧ ScSt w w' s (hitK S (toL s) k) b v D e := by
  refine (one_any h.ba h.bs_ hk hs hS).mono ?_
  rintro x w' ⟨h1, h2, h3, h4⟩
  exact ⟨h1, h.step h2 h4⟩
theorem ScSt.dig {w wx : World} {s : ByteArray} {k : Nat} {b : Bool} {v : Value} {D : List UInt8} {e : Int} (h : ScSt w wx s k b v D e) (hk : k ≤ s.size) (hs : s.size ≤ 64) :
    Calls Tryd.prog 51 #[.pointer (some ⟨w.heap.size + 1 + 1 + 1, 0, none⟩), .pointer (some ⟨w.heap.size, 0, none⟩)] wx fun x w' => x = .returned (.string (bs (dfr ((toL s).drop k)))) ∧ ScSt w w' s (k + (dfr ((toL s).drop k)).length) b v D e := by
  refine (dig_any h.ba h.bs_ hk hs).mono ?_
  rintro x w' ⟨h1, h2, h3, h4⟩
  exact ⟨h1, h.step h2 h4⟩
theorem strCells_bv (L : List UInt8) : Lib.strCells (bs L) = L.map bv := by
  unfold Lib.strCells bs bv
  simp
/-- What a scan gives back. -/
def PRes (w w' : World) (o : Option Num) (x : Ending) : Prop := ∃ v b, x = .returned (.tuple #[v, .bool b]) ∧ Below w.heap.size w w' ∧ (∃ b0 A l c e, v = .agg #[.bool b0, .slice A l c, .int .i64 e]) ∧ (match o with
  | none => b = false
  | some n => b = true ∧ NV w' v n ∧ Sz n)
end Go.Proofs.YtkgclfagimlneaaDoor
/-
  The walks over decimal numbers: the scan of a text.
-/
namespace Go.Proofs.YtkgclfagimlneaaDoor
open Go.RowKit Go.Proofs Wv Wv.Dc
set_option linter.unusedVariables false

theorem sc_start (w : World) (s : ByteArray) :
    ScSt w ((((w.alloc (.cells #[.string s] 9)).alloc (.cells #[.bool false, .slice none 0 0, .int .i64 0] 41)).alloc (.cells #[.bool false, .slice none 0 0, .int .i64 0] 41)).alloc (.cells #[.int .i64 0] 3)) s 0 false (.slice none 0 0) [] 0 where
  bs_ := ((Bk.new w _ _).alloc _).alloc _ |>.alloc _
  br := by
    have := Bk.new (w.alloc (.cells #[.string s] 9)) 41 #[.bool false, .slice none 0 0, .int .i64 0]
    rw [World.size_alloc] at this
    exact (this.alloc _).alloc _
  bn := by
    have := Bk.new ((w.alloc (.cells #[.string s] 9)).alloc (.cells #[.bool false, .slice none 0 0, .int .i64 0] 41)) 41 #[.bool false, .slice none 0 0, .int .i64 0]
    rw [World.size_alloc, World.size_alloc] at this
    exact this.alloc _
  ba := by
    have := Bk.new (((w.alloc (.cells #[.string s] 9)).alloc (.cells #[.bool false, .slice none 0 0, .int .i64 0] 41)).alloc (.cells #[.bool false, .slice none 0 0, .int .i64 0] 41)) 3 #[.int .i64 0]
    rw [World.size_alloc, World.size_alloc, World.size_alloc] at this
    exact this
  own := own_nil
  bel := (((Below.refl w.heap.size w).alloc (Nat.le_refl _) _).alloc (by simp) _ |>.alloc (by simp <;> omega) _).alloc (by simp <;> omega) _
theorem scn_at (f : List UInt8 → Nat) {L : List UInt8} (h : L.length ≤ 64) : scn f L = if dfr (L.drop (sgK L 0)) = [] then none else
    match frac (L.drop (sgK L 0 + (dfr (L.drop (sgK L 0))).length)) with
    | none => none
    | some x => match expo f x.2 with
      | none => none
      | some y => if y.2 = [] then some ⟨hitB [45] L 0, dfr (L.drop (sgK L 0)) ++ x.1, y.1 - x.1.length⟩ else none := by
  have h0 := sgn_place L 0
  rw [List.drop_zero] at h0
  unfold scn
  rw [if_neg (by omega), h0]
  simp only [aft_drop]
  rfl
theorem sc_end {w w1 : World} {s : ByteArray} {k : Nat} {b : Bool} {v : Value} {D : List UInt8} {e : Int} (h : ScSt w w1 s k b v D e) :
    ∃ W, (((w1.setCell ⟨w.heap.size + 1, 0, none⟩ (.bool b)).setCell ⟨w.heap.size + 1, 1, none⟩ v).setCell ⟨w.heap.size + 1, 2, none⟩ (.int .i64 e)) = W ∧ W.cell? ⟨w.heap.size + 1, 0, none⟩ = some (.bool b) ∧ W.cell? ⟨w.heap.size + 1, 1, none⟩ = some v ∧ W.cell? ⟨w.heap.size + 1, 2, none⟩ = some (.int .i64 e) ∧ Below w.heap.size w W := by
  obtain ⟨W, h1, h2, h3, h4, _, h5⟩ := nres_end h.br h.bel (by omega) (L := []) (At.nil w1 none) b v e
  exact ⟨W, h1, h2, h3, h4, h5⟩
theorem sc_app {w w1 : World} {s : ByteArray} {k : Nat} {b : Bool} {v : Value} {D : List UInt8} {e : Int} (h : ScSt w w1 s k b v D e) (E : List UInt8) (hl : D.length + E.length ≤ 1000) :
    ∃ v' w', (Builtin.append_ #[39, 9] 39 #[v, .string (bs E)]).run Tryd.prog w1 = .ok v' w' ∧ Bk w' (w.heap.size + 1 + 1) 41 #[.bool b, v, .int .i64 e] ∧ ScSt w (w'.setCell ⟨w.heap.size + 1 + 1, 1, none⟩ v') s k b v' (D ++ E) e := by
  obtain ⟨i, hi, hz, hs, hby⟩ := info_parts u8inf
  obtain ⟨v', w', hr, ho, hg, _⟩ := Lib.run_append_own_string (P := Tryd.prog) (w := w1) w.heap.size 39 9 39 5 i Tryd.underlying39 Tryd.underlying9 hi hz hs hby v D.length (D.map bv) h.own (bs E) (by rw [bs_size]; unfold maxLen; omega) (by rw [bs_size]; omega) h.bel.size
  rw [strCells_bv, ← List.map_append, bs_size, ← List.length_append] at ho
  obtain ⟨h1, h2⟩ := h.app ho hg
  exact ⟨v', w', hr, h1, h2⟩
/-- An append whose run is known, in a plain region, the two types apart. -/
theorem wpList_runS {P : Program} {ops : Array Oper} {rest : List Oper} {o : Oper} {a : Act} {w w0 w' : World} {Q : Exit → Act → World → Prop} {v' : Value} (hw : w = w0) (hgd : o.guard = none) (s x : Operand) (t t2 : TypeId)
    (ho : o.op = .call { callee := .builtin .append, args := #[s, x], argTypes := #[t, t2] }) (v u : Value) (hs : a.eval s = v) (hx : a.eval x = u)
    (hr : (Builtin.append_ #[t, t2] o.type #[v, u]).run P w0 = .ok v' w') (h : wpList P ops Q rest (a.put o.dst v') w') : wpList P ops Q (o :: rest) a w := by
  subst hw
  refine wpList_plain hgd fun K hK => ?_
  unfold Oper.wp execOp
  simp only [ho, resolve, invoke, builtin, Sem.run_bind, Sem.run_pure, Result.andThen_ok, List.map_toArray, List.map_cons, List.map_nil, hs, hx, hr]
  exact hK _ _ h
theorem cl1_snoc (p : List UInt8) (i : Nat) (h : i < p.length) : cl1 (p.take (i + 1)) = min 1048576 (10 * cl1 (p.take i) + dv p[i]) := by
  unfold cl1
  rw [List.take_succ_eq_append_getElem h, List.foldl_append]
  rfl
theorem cl1_le (p : List UInt8) : cl1 p ≤ 1048576 := by rw [cl1_eq]; exact Nat.min_le_left _ _
theorem dig_dv {c : UInt8} (h : isD c = true) : 48 ≤ c.toNat ∧ c.toNat ≤ 57 ∧ dv c = c.toNat - 48 := by
  unfold isD at h
  simp at h
  exact ⟨h.1, h.2, rfl⟩
theorem sz_trim {n : Num} (h1 : -1500000 ≤ n.ex) (h2 : n.ex ≤ 1500000) (h3 : n.dg.length ≤ 1000) : Sz n ∧ Sz (trimN n) := by
  refine ⟨⟨by omega, by omega, by omega⟩, ?_⟩
  have a1 := trimL_len n.dg
  have a2 := trimR_len (trimL n.dg)
  unfold trimN
  split
  · exact ⟨by simp [zeroN], by simp [zeroN], by simp [zeroN]⟩
  · exact ⟨by simp only; omega, by simp only; omega, by simp only; omega⟩
theorem expo_in {L : List UInt8} {k : Nat} {E : Int} {r : List UInt8} (h : expo cl1 (L.drop k) = some (E, r)) : -1048576 ≤ E ∧ E ≤ 1048576 := by
  rw [expo_place] at h
  have := cl1_le (dfr (L.drop (sgK L (k + 1))))
  generalize cl1 (dfr (L.drop (sgK L (k + 1)))) = c at *
  split at h
  · split at h
    · cases h
    · injection h with h
      injection h with h _
      rw [← h]
      unfold sg
      split <;> omega
  · injection h with h
    injection h with h _
    rw [← h]
    omega
theorem ScSt.keep {w wx wy : World} {s : ByteArray} {k : Nat} {b : Bool} {v : Value} {D : List UInt8} {e : Int} (h : ScSt w wx s k b v D e) (hb : Below wx.heap.size wx wy) : ScSt w wy s k b v D e where
  bs_ := h.bs_.below hb h.bs_.lt
  br := h.br.below hb h.br.lt
  bn := h.bn.below hb h.bn.lt
  ba := h.ba.below hb h.ba.lt
  own := own_fr h.own (Fr.of_below (S := nob) hb) (fun _ _ f => f)
  bel := h.bel.trans (hb.mono h.bel.size)
/-- '[]byte(s)'. -/
theorem bytes_of (D : List UInt8) (w : World) : ∃ cap W, (convert 9 39 (.string (bs D))).run Tryd.prog w = .ok (.slice (some ⟨w.heap.size, 0, none⟩) (bs D).size cap) W ∧ At W (some ⟨w.heap.size, 0, none⟩) (D.map bv) ∧ Below w.heap.size w W := by
  have h := run_bytes_of_string (P := Tryd.prog) w 9 39 5 (bs D) Tryd.underlying9 Tryd.underlying39 Tryd.underlying5
  refine ⟨_, _, h, ?_, ((Below.refl w.heap.size w).drew).alloc (Nat.le_refl _) _⟩
  intro i hi
  rw [List.length_map] at hi
  refine ⟨w.heap.size, 0, rfl, by rw [World.size_alloc]; exact Nat.lt_succ_self _, ?_⟩
  rw [Nat.zero_add]
  show (w.drew.alloc _).cell? ⟨w.drew.heap.size, i, none⟩ = _
  rw [World.cell?_alloc_mark, bytesRow_at _ _ i hi]
  simp [bv, bs]
theorem own_caps {w : World} {base e n : Nat} {v : Value} {xs : List Value} (h : w.ownsRow base e 1 v n xs) : ∃ A cap, v = .slice A n cap ∧ At w A xs ∧ n ≤ cap ∧ cap ≤ maxLen := by
  have h2 := h
  obtain ⟨A, cap, hv, hat⟩ := own_at h
  refine ⟨A, cap, hv, hat, ?_⟩
  rcases h2.2 with ⟨h3, h4⟩ | ⟨g, cap', cur, h3, _, _, h5, h6, _⟩
  · rw [hv] at h3
    injection h3 with h3 h5 h6
    subst h6
    subst h4
    exact ⟨Nat.le_refl _, Nat.zero_le _⟩
  · rw [hv] at h3
    injection h3 with h3 h7 h8
    subst h8
    exact ⟨h5, h6⟩
/-- The cells that a scan reads at its end. -/
def ScC (w : World) (s : ByteArray) (k : Nat) (b : Bool) (v : Value) (F : Int) (W : World) : Prop :=
  W.cell? ⟨w.heap.size + 1 + 1, 0, none⟩ = some (.bool b) ∧ W.cell? ⟨w.heap.size + 1 + 1, 1, none⟩ = some v ∧ W.cell? ⟨w.heap.size + 1 + 1, 2, none⟩ = some (.int .i64 F) ∧ W.cell? ⟨w.heap.size + 1 + 1 + 1, 0, none⟩ = some (.int .i64 (k : Int)) ∧ W.cell? ⟨w.heap.size, 0, none⟩ = some (.string s)
theorem keep_cell {W W' : World} {p : Addr} {v : Value} (h : W.cell? p = some v) (hb : Below W.heap.size W W') : W'.cell? p = some v := (hb.cell (World.block_lt_of_cell? W p h)).trans h
theorem ScC.below {w : World} {s : ByteArray} {k : Nat} {b : Bool} {v : Value} {F : Int} {W W' : World} (h : ScC w s k b v F W) (hb : Below W.heap.size W W') : ScC w s k b v F W' :=
  ⟨keep_cell h.1 hb, keep_cell h.2.1 hb, keep_cell h.2.2.1 hb, keep_cell h.2.2.2.1 hb, keep_cell h.2.2.2.2 hb⟩
theorem put_cell {W : World} {g i : Nat} {p : Addr} {v u : Value} (h : W.cell? p = some v) (hn : g ≠ p.block) : (W.setCell ⟨g, i, none⟩ u).cell? p = some v := by
  have hf := ((Fr.refl (only g) W).setCell (p := ⟨g, i, none⟩) (.inl rfl) u).cell (p := p) (World.block_lt_of_cell? W p h) (fun e => hn e.symm)
  exact hf.trans h
theorem ScC.put3 {w : World} {s : ByteArray} {k : Nat} {b : Bool} {v : Value} {F : Int} {W : World} (h : ScC w s k b v F W) (x y z : Value) : ScC w s k b v F (((W.setCell ⟨w.heap.size + 1, 0, none⟩ x).setCell ⟨w.heap.size + 1, 1, none⟩ y).setCell ⟨w.heap.size + 1, 2, none⟩ z) := by
  have go : ∀ {W : World} (i : Nat) (u : Value), ScC w s k b v F W → ScC w s k b v F (W.setCell ⟨w.heap.size + 1, i, none⟩ u) := fun i u h =>
    ⟨put_cell h.1 (by simp), put_cell h.2.1 (by simp), put_cell h.2.2.1 (by simp), put_cell h.2.2.2.1 (by simp <;> omega), put_cell h.2.2.2.2 (by simp)⟩
  exact go 2 z (go 1 y (go 0 x h))
/-- What a scan's second half comes to. -/
def ScOut (b : Bool) (D : List UInt8) (o : Option (List UInt8 × List UInt8)) : Option Num := match o with
  | none => none
  | some x => match expo cl1 x.2 with
    | none => none
    | some y => if y.2 = [] then some ⟨b, D ++ x.1, y.1 - x.1.length⟩ else none
end Go.Proofs.YtkgclfagimlneaaDoor
