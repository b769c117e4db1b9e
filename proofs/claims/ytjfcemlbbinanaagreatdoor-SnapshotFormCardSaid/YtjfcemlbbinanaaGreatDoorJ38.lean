/-
  The walks over snapshots: Encode.
-/
import Derived.Test.YtjfcemlbbinanaaGreatDoorJ35
import Derived.Test.YtjfcemlbbinanaaGreatDoorJ37
set_option linter.unusedVariables false
set_option linter.unusedSimpArgs false
namespace Go.Proofs.YtjfcemlbbinanaaGreatDoor
open Go.RowKit Go.Proofs Wv Wv.Vi Wv.Bc Wv.Sn Wv.Dc Wv.Fm
set_option linter.unusedVariables false
theorem run_codec0 (F G : Value) (w : World) : (Instr.field 55 (.agg #[F, G]) 0).run Tryz.prog w = .ok F w := by
 kernel_rfl
theorem snE_no {st : List (Int × Int)} {vs : List ByteArray} (h : vasB validS st vs = false) : snE validS st vs = ([], 1) := by unfold snE; rw [if_pos h]
theorem snE_nil {st : List (Int × Int)} {vs : List ByteArray} (h : vasB validS st vs = true) (h2 : textS st vs = []) : snE validS st vs = ([], 0) := by unfold snE; rw [if_neg (by simp [h]), if_pos h2]
theorem snE_some {st : List (Int × Int)} {vs : List ByteArray} {d : List UInt8} (h : vasB validS st vs = true) (h2 : textS st vs ≠ []) (h3 : wrapS 4 (textS st vs) = some d) : snE validS st vs = (d, 0) := by unfold snE; rw [if_neg (by simp [h]), if_neg h2, h3]
theorem snE_none {st : List (Int × Int)} {vs : List ByteArray} (h : vasB validS st vs = true) (h2 : textS st vs ≠ []) (h3 : wrapS 4 (textS st vs) = none) : snE validS st vs = ([], 9) := by unfold snE; rw [if_neg (by simp [h]), if_neg h2, h3]
set_option maxRecDepth 100000 in
set_option maxHeartbeats 8000000 in
theorem sencode_any {w : World} {A B : Option Addr} {st : List (Int × Int)} {vs : List ByteArray} (ha : At w A (pv st)) (hv : At w B (tvs vs)) (ht : Tab w) (hsz : ∀ s ∈ vs, s.size ≤ 1099511627776) (n cap m cap2 : Nat) (hn : n = st.length) (hm : m = vs.length) (hn4 : n ≤ 9223372036854775807) (hm4 : m ≤ 9223372036854775807) :
  Calls Tryz.prog 11 #[.slice A n cap, .slice B m cap2] w fun x w' => x = .returned (.tuple #[.string (bs (snE validS st vs).1), .int .i64 ((snE validS st vs).2 : Int)]) ∧ Below w.heap.size w w' := by
 have Hva := hide (svalid_any ha hv ht hsz n cap m cap2 hn hm hn4 hm4)
 cases hvb : vasB validS st vs with
 | false =>
  rw [hvb] at Hva
  rw [snE_no hvb]
  clear ha hv ht hsz hn hm hvb
  go_enter Tryz.func11, Tryz.ntmps11
  go_wp2_with fail
  refine (Hva.out).mono ?_
  rintro x w1 ⟨rfl, hb1⟩
  go_wp2
  go_returns
  exact ⟨rfl, hb1⟩
 | true =>
  rw [hvb] at Hva
  have hvb2 : tysB st = true ∧ vasL validS st vs = true := by
   have : (tysB st && vasL validS st vs) = true := hvb
   rwa [Bool.and_eq_true] at this
  obtain ⟨hty, hvl⟩ := hvb2
  obtain ⟨hall, h64⟩ := tysB_iff.1 hty
  have hlen := vasL_len hvl
  have Hall := hide (fun k h h2 => vasL_all validS hvl k h h2)
  have Hlen := hide (fun k => textS_len hvl k)
  have Hn := hide hn
  have Hm := hide (show m = st.length by omega)
  have Ha := hide ha
  have Hv := hide hv
  have Hvs := hide hlen
  have hn64 : n ≤ 64 := by omega
  have Hcod := hide hall
  have Hvb := hide hvb
  have hmn : m = n := by omega
  subst hmn
  have HE : Hid (∀ x, snE validS st vs = x → snE validS st vs = x) := hide (fun _ h => h)
  generalize hX : snE validS st vs = X
  rw [hX] at HE
  have HXe := hide hX
  clear hX HE
  clear ha hv ht hsz hn hm hvb hty hvl hall h64 hlen
  go_enter Tryz.func11, Tryz.ntmps11
  go_wp2_with fail
  refine (Hva.out).mono ?_
  rintro x w1 ⟨rfl, hb1⟩
  have Hb1 := hide hb1
  have hrf : ∀ F G W, (Instr.field 55 (.agg #[F, G]) 0).run Tryz.prog W = .ok F W := fun F G W => run_codec0 F G W
  clear hb1
  go_wp2
  go_loopw [6, 17] (fun s6 s17 wr => ∃ k : Nat, k ≤ m ∧ s17 = .int .i64 (k : Int) ∧ s6 = .string (bs (textS (st.take k) (vs.take k))) ∧ Hid (Below w.heap.size w wr)) (fun _ s17 _ => (m - intOf s17).toNat)
  case atStart => exact ⟨0, Nat.zero_le _, rfl, by rw [List.take_zero, List.take_zero]; rfl, Hb1⟩
  case round =>
   clear Hb1 Hva
   obtain ⟨k, hk, rfl, rfl, hb⟩ := hrel
   by_cases hlt : k < m
   ·have hkl : k < st.length := by rw [← Hm.out]; exact hlt
    have hkv : k < vs.length := by rw [Hvs.out]; exact hkl
    obtain ⟨bA, oA, rfl, c0, c1⟩ := at_type (Ha.out.below hb.out) k hkl
    obtain ⟨bB, oB, rfl, hlB, d0⟩ := at_text (Hv.out.below hb.out) k hkv
    have hsn := textS_snoc st vs k hkl hkv
    have hva := Hall.out k hkl hkv
    have hl1 := (Hlen.out k).1
    obtain ⟨hl2, hl3⟩ := wrV_len hva
    obtain ⟨⟨a, c⟩, hs⟩ : ∃ x, st[k] = x := ⟨_, rfl⟩
    rw [hs] at c0 c1 hsn hva hl2
    simp only at c0 c1
    generalize vs[k] = v at *
    have htyk : tyB (a, c) = true := by unfold vaB at hva; rw [Bool.and_eq_true] at hva; exact hva.1
    have hkind : a = 0 ∨ a = 1 ∨ a = 2 ∨ a = 3 := by rcases tyB_kind htyk with h | ⟨h | h | h, _⟩ <;> simp at h <;> omega
    have HX := hide (fun (X : World) (h : Below (wr.alloc (.cells #[.int .i64 a, .int .i64 c] 44)).drew.heap.size (wr.alloc (.cells #[.int .i64 a, .int .i64 c] 44)).drew X) => two_cells (p := oB + k) (W := (wr.alloc (.cells #[.int .i64 a, .int .i64 c] 44)).drew) rfl hlB d0 h)
    have Hb := hide ((hb.out.alloc hb.out.size (.cells #[.int .i64 a, .int .i64 c] 44)).drew)
    have h0 := HX.out (wr.alloc (.cells #[.int .i64 a, .int .i64 c] 44)).drew (Below.refl _ _)
    have hk0 : (0 : Int) ≤ (k : Int) := by omega
    have hltI : (k : Int) < (m : Int) := by omega
    have hsn2 : bs (textS (st.take (k + 1)) (vs.take (k + 1))) = bs (textS (st.take k) (vs.take k)) ++ bs (wrV (a, c) (toL v)) := by rw [hsn, bs_append]
    have hTR : (bs (textS (st.take k) (vs.take k))).size + (bs (wrV (a, c) (toL v))).size ≤ 9223372036854775807 := by rw [bs_size, bs_size]; omega
    have Hsn := hide hsn2
    have Hva := hide hva
    have Htyk := hide htyk
    have hvl : (toL v).length ≤ 128 := hl3
    have Hvl := hide hvl
    clear hsn hva hl1 hl2 hl3 hs hsn2 htyk hkl hkv hb hvl
    obtain ⟨T, hT⟩ : ∃ T, bs (textS (st.take k) (vs.take k)) = T := ⟨_, rfl⟩
    rw [hT] at Hsn hTR ⊢
    clear hT
    rcases hkind with rfl | rfl | rfl | rfl
    ·obtain ⟨w1', w2'⟩ := tyB_bits Htyk.out rfl
     simp only at w1' w2'
     obtain ⟨N, rfl⟩ : ∃ N : Nat, c = (N : Int) := ⟨c.toNat, by omega⟩
     have hv := Hva.out
     have hiv : isV (toL v) = true := by
      unfold vaB kvB at hv
      rw [Bool.and_eq_true] at hv
      have h2 : vld (N : Int) (toL v) = true := hv.2
      unfold vld at h2
      rw [Bool.and_eq_true] at h2
      exact h2.1
     have HC := hide (fun W => codec0_any N (by omega) W)
     have HE := hide (fun W => cd1_any (toL v) hiv W)
     rw [bs_toL] at HE
     have hwr : wrV (0, (N : Int)) (toL v) = Bit.pack (lowB (toL v)) ++ Bit.pack (higB (toL v)) := by unfold wrV; rw [if_pos rfl]
     rw [hwr] at Hsn hTR
     clear hv hiv hwr w1' w2' Hva Htyk
     generalize bs (Bit.pack (lowB (toL v)) ++ Bit.pack (higB (toL v))) = R at *
     have hTR2 : ¬ 9223372036854775807 < T.size + R.size := by omega
     clear hTR
     go_wp2
     go_region_held3 (fun X => X.cell? ⟨wr.heap.size, 0, none⟩ = some (.int .i64 0) ∧ X.cell? ⟨wr.heap.size, 1, none⟩ = some (.int .i64 (N : Int)) ∧ X.cell? ⟨bB, oB + k, none⟩ = some (.string v)) (first | with_reducible assumption) (first
      | (go_at_call 28; with_reducible refine (HC.out _).mono ?_; rintro r w2 ⟨b1, b3, rfl, _, _, hb2⟩; have hx2 := HX.out _ hb2; have Hb2 := hide hb2; clear hb2)
      | (go_at_call 40; with_reducible refine (HE.out _).mono ?_; rintro r w3 ⟨rfl, hb3⟩; have hx3e := Hb2.out.trans (hb3.mono Hb2.out.size); have hx3 := HX.out _ hx3e; clear hb3; have Hb3 := hide (Hb.out.trans (hx3e.mono Hb.out.size)); clear hx3e))
     clear h0 hx2 hx3
     go_wp2
     refine ⟨⟨k + 1, hlt, by go_num, by rw [Hsn.out], Hb3⟩, ?_⟩
     simp [intOf] <;> omega
    ·have HC := hide (fun W => codec1_any c W)
     have HE := hide (fun W => text_any v (by have := Hvl.out; rw [toL_length] at this; omega) W)
     have hwr : wrV (1, c) (toL v) = Wv.Ru.text v := by unfold wrV Wv.Ru.text; rw [if_neg (by simp), if_neg (by simp)]; rfl
     rw [hwr] at Hsn hTR
     clear hwr Hva Htyk
     generalize bs (Wv.Ru.text v) = R at *
     have hTR2 : ¬ 9223372036854775807 < T.size + R.size := by omega
     clear hTR
     go_wp2
     go_region_held3 (fun X => X.cell? ⟨wr.heap.size, 0, none⟩ = some (.int .i64 1) ∧ X.cell? ⟨wr.heap.size, 1, none⟩ = some (.int .i64 c) ∧ X.cell? ⟨bB, oB + k, none⟩ = some (.string v)) (first | with_reducible assumption) (first
      | (go_at_call 28; with_reducible refine (HC.out _).mono ?_; rintro r w2 ⟨rfl, hb2⟩; have hx2 := HX.out _ hb2; have Hb2 := hide hb2; clear hb2)
      | (go_at_call 25; with_reducible refine (HE.out _).mono ?_; rintro r w3 ⟨rfl, hb3⟩; have hx3e := Hb2.out.trans (hb3.mono Hb2.out.size); have hx3 := HX.out _ hx3e; clear hb3; have Hb3 := hide (Hb.out.trans (hx3e.mono Hb.out.size)); clear hx3e))
     clear h0 hx2 hx3
     go_wp2
     refine ⟨⟨k + 1, hlt, by go_num, by rw [Hsn.out], Hb3⟩, ?_⟩
     simp [intOf] <;> omega
    ·have HC := hide (fun W => codec2_any c W)
     have HE := hide (fun W => text_any v (by have := Hvl.out; rw [toL_length] at this; omega) W)
     have hwr : wrV (2, c) (toL v) = Wv.Ru.text v := by unfold wrV Wv.Ru.text; rw [if_neg (by simp), if_neg (by simp)]; rfl
     rw [hwr] at Hsn hTR
     clear hwr Hva Htyk
     generalize bs (Wv.Ru.text v) = R at *
     have hTR2 : ¬ 9223372036854775807 < T.size + R.size := by omega
     clear hTR
     go_wp2
     go_region_held3 (fun X => X.cell? ⟨wr.heap.size, 0, none⟩ = some (.int .i64 2) ∧ X.cell? ⟨wr.heap.size, 1, none⟩ = some (.int .i64 c) ∧ X.cell? ⟨bB, oB + k, none⟩ = some (.string v)) (first | with_reducible assumption) (first
      | (go_at_call 28; with_reducible refine (HC.out _).mono ?_; rintro r w2 ⟨rfl, hb2⟩; have hx2 := HX.out _ hb2; have Hb2 := hide hb2; clear hb2)
      | (go_at_call 25; with_reducible refine (HE.out _).mono ?_; rintro r w3 ⟨rfl, hb3⟩; have hx3e := Hb2.out.trans (hb3.mono Hb2.out.size); have hx3 := HX.out _ hx3e; clear hb3; have Hb3 := hide (Hb.out.trans (hx3e.mono Hb.out.size)); clear hx3e))
     clear h0 hx2 hx3
     go_wp2
     refine ⟨⟨k + 1, hlt, by go_num, by rw [Hsn.out], Hb3⟩, ?_⟩
     simp [intOf] <;> omega
    ·have HC := hide (fun W => codec3_any c W)
     have HE := hide (fun W => cd3_any v W)
     have hwr : bs (wrV (3, c) (toL v)) = ⟨#[]⟩ := by unfold wrV; rw [if_neg (by simp), if_pos rfl]; rfl
     rw [hwr] at Hsn hTR
     clear hwr Hva Htyk
     generalize (⟨#[]⟩ : ByteArray) = R at HE Hsn hTR
     have hTR2 : ¬ 9223372036854775807 < T.size + R.size := by omega
     clear hTR
     go_wp2
     go_region_held3 (fun X => X.cell? ⟨wr.heap.size, 0, none⟩ = some (.int .i64 3) ∧ X.cell? ⟨wr.heap.size, 1, none⟩ = some (.int .i64 c) ∧ X.cell? ⟨bB, oB + k, none⟩ = some (.string v)) (first | with_reducible assumption) (first
      | (go_at_call 28; with_reducible refine (HC.out _).mono ?_; rintro r w2 ⟨rfl, hb2⟩; have hx2 := HX.out _ hb2; have Hb2 := hide hb2; clear hb2)
      | (go_at_call 47; with_reducible refine (HE.out _).mono ?_; rintro r w3 ⟨rfl, rfl⟩; have hx3e := Hb2.out; have hx3 := HX.out _ hx3e; have Hb3 := hide (Hb.out.trans (hx3e.mono Hb.out.size)); clear hx3e))
     clear h0 hx2 hx3
     go_wp2
     refine ⟨⟨k + 1, hlt, by go_num, by rw [Hsn.out], Hb3⟩, ?_⟩
     simp [intOf] <;> omega
   ·have hkn : k = m := by omega
    subst hkn
    have e1 : st.take k = st := List.take_of_length_le (by rw [← Hm.out]; exact Nat.le_refl _)
    have e2 : vs.take k = vs := List.take_of_length_le (by rw [Hvs.out, ← Hm.out]; exact Nat.le_refl _)
    have hl := (Hlen.out k).2
    rw [e1, e2]
    have hms := Hm.out
    by_cases ht0 : textS st vs = []
    ·have hXv := HXe.out
     rw [snE_nil Hvb.out ht0] at hXv
     have HXv := hide hXv.symm
     have hem := bs_emp ([] : List UInt8)
     rw [decide_eq_true rfl] at hem
     rw [ht0]
     clear hl hms hXv ht0 e1 e2
     generalize bs ([] : List UInt8) = S0 at hem ⊢
     go_wp2
     go_returns
     exact ⟨by rw [HXv.out]; rfl, hb.out⟩
    ·have hem := bs_emp (textS st vs)
     rw [decide_eq_false ht0] at hem
     have HW := hide (fun W => wrap_any 4 (by omega) (textS st vs) (by omega) W)
     have hfr : frV 4 (textS st vs) = .agg #[.int .i64 4, .string (bs (textS st vs))] := rfl
     rw [hfr] at HW
     cases hw : wrapS 4 (textS st vs) with
     | none =>
      have hXv := HXe.out
      rw [snE_none Hvb.out ht0 hw] at hXv
      have HXv := hide hXv.symm
      rw [hw] at HW
      unfold optV at HW
      simp only at HW
      clear hl hms hXv ht0 e1 e2 hw hfr
      generalize bs (textS st vs) = S at *
      go_wp2_with fail
      with_reducible refine (HW.out _).mono ?_
      rintro x w2 ⟨rfl, hb2⟩
      have Hb2 := hide (hb.out.trans (hb2.mono hb.out.size))
      clear hb2
      go_wp2
      go_returns
      exact ⟨by rw [HXv.out]; rfl, Hb2.out⟩
     | some d =>
      have hXv := HXe.out
      rw [snE_some Hvb.out ht0 hw] at hXv
      have HXv := hide hXv.symm
      rw [hw] at HW
      unfold optV at HW
      simp only at HW
      clear hl hms hXv ht0 e1 e2 hw hfr
      generalize bs (textS st vs) = S at *
      generalize hD : bs d = D at *
      have HD := hide hD
      clear hD
      go_wp2_with fail
      with_reducible refine (HW.out _).mono ?_
      rintro x w2 ⟨rfl, hb2⟩
      have Hb2 := hide (hb.out.trans (hb2.mono hb.out.size))
      clear hb2
      go_wp2
      go_returns
      exact ⟨by rw [HXv.out, ← HD.out]; rfl, Hb2.out⟩
end Go.Proofs.YtjfcemlbbinanaaGreatDoor
