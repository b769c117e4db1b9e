/-
  Joined texts: Ai, Aj, Ak, An.
-/
import Derived.Test.YtoeeblldgoccoaaGreatJ40
import Derived.Test.YtoeeblldgoccoaaGreatJ32
set_option linter.unusedVariables false
set_option linter.unusedSimpArgs false
/-
  The walks over the reference of lists of values: valid ones, shortened, extended, mixed.
-/
namespace Go.Proofs.YtoeeblldgoccoaaGreat
open Go.RowKit Go.Proofs Wv Wv.Vi Wv.Rc Wv.Mo Wv.Ru Wv.Tm Wv.Bc
set_option linter.unusedVariables false
set_option maxRecDepth 100000
theorem a02valid_two (s : ByteArray) (hs : s.size ≤ 1099511627776) (n : Int) (W : World) : Calls Tryz.prog 27 #[.int .i64 n, .string s] W fun x w' => x = .returned (.bool (vld n (toL s))) ∧ W = w' := by
 have := avalid_any n (toL s) (by rw [toL_length]; exact hs) W
 rw [bs_toL] at this
 exact this
theorem ashort_two (s : ByteArray) (hs : s.size ≤ 1099511627776) (W : World) : Calls Tryz.prog 75 #[.string s] W fun x w' => x = .returned (.string (bs (shr (toL s)))) ∧ Below W.heap.size W w' := by
 have := ashort_any (toL s) (by rw [toL_length]; exact hs) W
 rw [bs_toL] at this
 exact this
theorem amix_two (a b : ByteArray) (ha : a.size ≤ 1099511627776) (hb : b.size ≤ 1099511627776) (W : World) : Calls Tryz.prog 48 #[.string a, .string b] W fun x w' => x = .returned (.tuple #[.string (bs (mixV (toL b) (toL a)).1), .int .i64 ((mixV (toL b) (toL a)).2 : Int)]) ∧ Below W.heap.size W w' := by
 have := amix_any (toL a) (toL b) (by rw [toL_length]; exact ha) (by rw [toL_length]; exact hb) W
 rw [bs_toL, bs_toL, mix_comm] at this
 exact this
theorem aadd_two (a b : ByteArray) (ha : a.size ≤ 1099511627776) (hb : b.size ≤ 1099511627776) (W : World) : Calls Tryz.prog 82 #[.string a, .string b] W fun x w' => x = .returned (.tuple #[.string (bs (addV (toL a) (toL b)).1), .bool (addV (toL a) (toL b)).2]) ∧ Below W.heap.size W w' := by
 have := aadd_any (toL a) (toL b) (by rw [toL_length]; exact ha) (by rw [toL_length]; exact hb) W
 rw [bs_toL, bs_toL] at this
 exact this
theorem adif_two (a b : ByteArray) (ha : a.size ≤ 1099511627776) (hb : b.size ≤ 1099511627776) (W : World) : Calls Tryz.prog 60 #[.string a, .string b] W fun x w' => x = .returned (.tuple #[.string (bs (difV (toL a) (toL b)).1), .bool (difV (toL a) (toL b)).2]) ∧ Below W.heap.size W w' := by
 have := adif_any (toL a) (toL b) (by rw [toL_length]; exact ha) (by rw [toL_length]; exact hb) W
 rw [bs_toL, bs_toL] at this
 exact this
set_option maxHeartbeats 2000000 in
theorem a14valid_any {w : World} {A : Option Addr} {l : List ByteArray} (ha : At w A (svs l)) (hsz : ∀ s ∈ l, s.size ≤ 1099511627776) (n cap : Nat) (hn : n = l.length) (hm : n ≤ 9223372036854775807) (W : Int) :
  Calls Tryz.prog 14 #[.int .i64 W, .slice A n cap] w fun x w' => x = .returned (.bool (validB W l)) ∧ w = w' := by
 have Ha := hide ha
 have Hn := hide hn
 have Hv := hide (fun (v : ByteArray) (hv : v ∈ l) W2 => a02valid_two v (hsz v hv) W W2)
 obtain ⟨V, hV⟩ : ∃ V, validB W l = V := ⟨_, rfl⟩
 have HV := hide hV
 rw [hV]
 clear ha hn hsz hV
 go_enter Tryz.func14, Tryz.ntmps14
 go_wp2
 go_loopw [5] (fun s5 wr => ∃ i : Nat, i ≤ n ∧ s5 = .int .i64 (i : Int) ∧ Hid (∀ v ∈ l.take i, vld W (toL v) = true) ∧ wr = w) (fun s5 _ => (n - intOf s5).toNat)
 case atStart => exact ⟨0, Nat.zero_le _, rfl, hide (fun v hv => by simp at hv), rfl⟩
 case round =>
  obtain ⟨i, hi, rfl, hal, rfl⟩ := hrel
  by_cases hlt : i < n
  ·have hil : i < l.length := by rw [← Hn.out]; exact hlt
   obtain ⟨b, o, rfl, hbl, hc⟩ := sv_cell Ha.out i hil
   have htk : l.take (i + 1) = l.take i ++ [l[i]'hil] := List.take_succ_eq_append_getElem hil
   have hmem : l[i]'hil ∈ l := List.getElem_mem _
   obtain ⟨S, hS⟩ : ∃ S, l[i]'hil = S := ⟨_, rfl⟩
   rw [hS] at hc htk hmem
   have K := hide (Hv.out S hmem wr)
   have hi0 : (0 : Int) ≤ (i : Int) := by omega
   have hi1 : (i : Int) < (n : Int) := by omega
   cases hv : vld W (toL S) with
   | true =>
    have Hal := hide (show ∀ v ∈ l.take (i + 1), vld W (toL v) = true from fun v hx => by
     rw [htk] at hx
     rcases List.mem_append.1 hx with hx | hx
     ·exact hal.out v hx
     ·rw [List.mem_singleton.1 hx]; exact hv)
    rw [hv] at K
    clear hil htk hmem hS hal hv Hv
    go_wp2_with fail
    refine (K.out).mono ?_
    rintro x w1 ⟨rfl, rfl⟩
    go_wp2
    refine ⟨⟨i + 1, hlt, by go_num, Hal, by first | rfl | trivial⟩, ?_⟩
    simp [intOf] <;> omega
   | false =>
    have hno : Hid (V = false) := hide (by
     rw [← HV.out]
     cases h : validB W l with
     | false => rfl
     | true => have := (validB_iff.1 h).1 S hmem; rw [hv] at this; cases this)
    rw [hv] at K
    clear hil htk hmem hS hal hv Hv
    go_wp2_with fail
    refine (K.out).mono ?_
    rintro x w1 ⟨rfl, rfl⟩
    go_wp2
    go_returns
    exact ⟨ret_bool hno.out.symm, rfl⟩
  ·have hin : i = n := by omega
   have hal2 := hal.out
   rw [List.take_of_length_le (by rw [← Hn.out]; omega)] at hal2
   have hend : ¬ (i : Int) < (n : Int) := by omega
   have hfin : Hid (V = (decide (1 ≤ W) && decide (W ≤ 128) && decide (n ≤ 4096))) := hide (by
    rw [← HV.out, Bool.eq_iff_iff, validB_iff]
    simp only [Bool.and_eq_true, decide_eq_true_iff]
    rw [← Hn.out]
    constructor
    ·rintro ⟨_, h1, h2, h3⟩; exact ⟨⟨h1, h2⟩, h3⟩
    ·rintro ⟨⟨h1, h2⟩, h3⟩; exact ⟨hal2, h1, h2, h3⟩)
   clear hal hal2 Hv Ha hin
   by_cases h1 : 1 ≤ W
   ·by_cases h2 : W ≤ 128
    ·by_cases h3 : n ≤ 4096
     ·have h3i : (n : Int) ≤ 4096 := by omega
      have Hf := hide (show V = true by rw [hfin.out, decide_eq_true h1, decide_eq_true h2, decide_eq_true h3]; rfl)
      clear hfin
      go_wp2
      go_returns
      exact ⟨ret_bool Hf.out.symm, rfl⟩
     ·have h3i : ¬ (n : Int) ≤ 4096 := by omega
      have Hf := hide (show V = false by rw [hfin.out, decide_eq_false h3, Bool.and_false])
      clear hfin
      go_wp2
      go_returns
      exact ⟨ret_bool Hf.out.symm, rfl⟩
    ·have Hf := hide (show V = false by rw [hfin.out, decide_eq_false h2, Bool.and_false, Bool.false_and])
     clear hfin
     go_wp2
     go_returns
     exact ⟨ret_bool Hf.out.symm, rfl⟩
   ·have Hf := hide (show V = false by rw [hfin.out, decide_eq_false h1, Bool.false_and, Bool.false_and])
    clear hfin
    go_wp2
    go_returns
    exact ⟨ret_bool Hf.out.symm, rfl⟩
theorem shortL_snoc (l : List ByteArray) (v : ByteArray) : shortL (l ++ [v]) = shortL l ++ [bs (shr (toL v))] := by unfold shortL; rw [List.map_append]; rfl
set_option maxHeartbeats 2000000 in
theorem a14short_any {w : World} {A : Option Addr} {l : List ByteArray} (ha : At w A (svs l)) (hsz : ∀ s ∈ l, s.size ≤ 1099511627776) (n cap : Nat) (hn : n = l.length) (hm : n ≤ 1000000) :
  Calls Tryz.prog 40 #[.slice A n cap] w fun x w' => ∃ v, x = .returned v ∧ SRes w' v (shortL l) ∧ Below w.heap.size w w' := by
 have Ha := hide ha
 have Hn := hide hn
 have Hv := hide (fun (v : ByteArray) (hv : v ∈ l) W2 => ashort_two v (hsz v hv) W2)
 have ho0 := hide (own_made0 9 w)
 have hb0 := hide (bel_new1 w (.cells #[] 9))
 clear ha hn hsz
 go_enter Tryz.func40, Tryz.ntmps40
 go_wp2
 go_loopw [3, 4] (fun s3 s4 wr => ∃ i : Nat, i ≤ n ∧ s4 = .int .i64 (i : Int) ∧ Hid (wr.ownsRow w.heap.size 9 1 s3 i (svs (shortL (l.take i)))) ∧ Hid (Below w.heap.size w wr)) (fun _ s4 _ => (n - intOf s4).toNat)
 case atStart => exact ⟨0, Nat.zero_le _, rfl, ho0, hb0⟩
 case round =>
  clear ho0 hb0
  obtain ⟨i, hi, rfl, hown, hb⟩ := hrel
  obtain ⟨A5, M5, cap5, rfl⟩ := own_slice hown.out
  by_cases hlt : i < n
  ·have hil : i < l.length := by rw [← Hn.out]; exact hlt
   obtain ⟨b, o, rfl, hbl, hc⟩ := sv_cell (Ha.out.below hb.out) i hil
   have htk : l.take (i + 1) = l.take i ++ [l[i]'hil] := List.take_succ_eq_append_getElem hil
   have hmem : l[i]'hil ∈ l := List.getElem_mem _
   obtain ⟨S, hS⟩ : ∃ S, l[i]'hil = S := ⟨_, rfl⟩
   rw [hS] at hc htk hmem
   have K := hide (Hv.out S hmem wr)
   have hi0 : (0 : Int) ≤ (i : Int) := by omega
   have hi1 : (i : Int) < (n : Int) := by omega
   obtain ⟨X, hX⟩ : ∃ X, bs (shr (toL S)) = X := ⟨_, rfl⟩
   rw [hX] at K
   have Hsn := hide (show shortL (l.take (i + 1)) = shortL (l.take i) ++ [X] by rw [htk, shortL_snoc, hX])
   clear hil htk hmem hS Hv hX
   go_wp2_with fail
   refine (K.out).mono ?_
   rintro x w1 ⟨rfl, hb1⟩
   have hown1 := own_fr hown.out (Fr.of_below (S := nob) hb1) (fun _ _ f => f)
   have hbx := hb.out.trans (hb1.mono hb.out.size)
   obtain ⟨v', w4, hrun, hown4, hf4, _⟩ := app_own (P := Tryz.prog) 22 9 _ _ Tryz.underlying22 strinf rfl (w := w1) hown1 hbx hbx.size (.string X) rfl (by unfold maxLen; omega) (by omega)
   have Hrun := hide hrun
   have Hown4 := hide (show w4.ownsRow w.heap.size 9 1 v' (i + 1) (svs (shortL (l.take (i + 1)))) by rw [Hsn.out, svs_snocB]; exact hown4)
   have Hf4 := hide hf4
   clear hb1 K hown hb hc hrun hown4 hf4 hown1 hbx Hsn
   go_wp2_with (
    at_builtin
    refine wpList_run (by with_reducible rfl) rfl _ _ _ rfl _ _ (by rfl) (by rfl) Hrun.out ?_)
   refine ⟨⟨i + 1, hlt, by go_num, Hown4, Hf4⟩, ?_⟩
   simp [intOf] <;> omega
  ·have hin : i = n := by omega
   have hend : ¬ (i : Int) < (n : Int) := by omega
   have Hres : Hid (SRes wr (.slice A5 M5 cap5) (shortL l)) := hide (by
    have h1 := hown.out
    rw [List.take_of_length_le (by rw [← Hn.out]; omega)] at h1
    exact own_sres (by rw [show (shortL l).length = i by unfold shortL; rw [List.length_map, ← Hn.out, hin]]; exact h1))
   clear hown hin Hv
   go_wp2
   go_returns
   exact ⟨_, rfl, Hres.out, hb.out⟩
theorem a14zeros_any (n : Int) (w : World) : Calls Tryz.prog 47 #[.int .i64 n] w fun x w' => x = .returned (.string (bs (allV n 48))) ∧ Below w.heap.size w w' := by
 have K := hide (aall_any n 48 w)
 rw [u48] at K
 generalize bs (allV n 48) = X at *
 go_enter Tryz.func47, Tryz.ntmps47
 go_wp2_with fail
 refine (K.out).mono ?_
 rintro x w1 ⟨rfl, hb1⟩
 go_wp2
 go_returns
 exact ⟨rfl, hb1⟩
set_option maxHeartbeats 4000000 in
theorem a14mixed_any {w : World} {A : Option Addr} {l : List ByteArray} (ha : At w A (svs l)) (hsz : ∀ s ∈ l, s.size ≤ 1099511627776) (n cap : Nat) (hn : n = l.length) (hm : n ≤ 1000000) (W : Int) :
  Calls Tryz.prog 41 #[.int .i64 W, .slice A n cap] w fun x w' => ∃ v, x = .returned v ∧ SRes w' v (mixL (bs (allV W 48)) l) ∧ Below w.heap.size w w' := by
 have Ha := hide ha
 have Hn := hide hn
 have Hsz := hide hsz
 have ho0 := hide (own_made0 9 w)
 have hb0 := hide (bel_new1 w (.cells #[] 9))
 have Hz := hide (fun W2 => a14zeros_any W W2)
 have hz1 : (bs (allV W 48)).size ≤ 1099511627776 := by have := allV_len W 48; rw [bs_size]; omega
 obtain ⟨Z, hZ⟩ : ∃ Z, bs (allV W 48) = Z := ⟨_, rfl⟩
 rw [hZ] at Hz hz1 ⊢
 clear ha hn hsz hZ
 go_enter Tryz.func41, Tryz.ntmps41
 go_wp2_with fail
 refine (Hz.out _).mono ?_
 rintro x w1 ⟨rfl, hb1⟩
 have Ho1 := hide (own_fr ho0.out (Fr.of_below (S := nob) hb1) (fun _ _ f => f))
 have Hb1 := hide (hb0.out.trans (hb1.mono hb0.out.size))
 clear hb1 ho0 hb0 Hz
 go_wp2
 go_loopw [5, 6, 7] (fun s3 s6 s4 wr => ∃ (i : Nat) (last : ByteArray), i ≤ n ∧ s4 = .int .i64 (i : Int) ∧ s6 = .string last ∧ last.size ≤ 1099511627776 ∧ Hid (mixL Z l = mixL Z (l.take i) ++ mixL last (l.drop i)) ∧ Hid (wr.ownsRow w.heap.size 9 1 s3 i (svs (mixL Z (l.take i)))) ∧ Hid (Below w.heap.size w wr)) (fun _ _ s4 _ => (n - intOf s4).toNat)
 case atStart => exact ⟨0, Z, Nat.zero_le _, rfl, rfl, hz1, hide rfl, Ho1, Hb1⟩
 case round =>
  clear Ho1 Hb1
  obtain ⟨i, last, hi, rfl, rfl, hls, hmx, hown, hb⟩ := hrel
  obtain ⟨A5, M5, cap5, rfl⟩ := own_slice hown.out
  by_cases hlt : i < n
  ·have hil : i < l.length := by rw [← Hn.out]; exact hlt
   obtain ⟨b, o, rfl, hbl, hc0⟩ := sv_cell Ha.out i hil
   have htk : l.take (i + 1) = l.take i ++ [l[i]'hil] := List.take_succ_eq_append_getElem hil
   have hd : l.drop i = l[i]'hil :: l.drop (i + 1) := List.drop_eq_getElem_cons hil
   have hmem : l[i]'hil ∈ l := List.getElem_mem _
   have hcb : ∀ W2, Below w.heap.size w W2 → W2.cell? ⟨b, o + i, none⟩ = some (.string (l[i]'hil)) := fun W2 h => (h.cell (p := ⟨b, o + i, none⟩) hbl).trans hc0
   have hc := hcb wr hb.out
   obtain ⟨S, hS⟩ : ∃ S, l[i]'hil = S := ⟨_, rfl⟩
   rw [hS] at hc htk hmem hd
   simp only [hS] at hcb
   have hSs := Hsz.out S hmem
   have K := hide (amix_two last S hls hSs wr)
   have hi0 : (0 : Int) ≤ (i : Int) := by omega
   have hi1 : (i : Int) < (n : Int) := by omega
   obtain ⟨⟨E, e⟩, hE⟩ : ∃ X, mixV (toL S) (toL last) = X := ⟨_, rfl⟩
   rw [hE] at K
   simp only at K
   have hm1 := hmx.out
   rw [hd] at hm1
   have hm2 : mixL last (S :: l.drop (i + 1)) = bs E :: mixL S (l.drop (i + 1)) := by
    show bs (mixV (toL S) (toL last)).1 :: _ = _
    rw [hE]
   rw [hm2] at hm1
   have hm3 : mixL Z (l.take (i + 1)) = mixL Z (l.take i) ++ [bs E] := by
    have hlen : (mixL Z (l.take i)).length = i := by rw [mixL_len, List.length_take]; omega
    have hx : ∀ (L : List ByteArray) (z : ByteArray) (k : Nat), (mixL z L).take k = mixL z (L.take k) := by
     intro L
     induction L with
     | nil => intro z k; simp [mixL]
     | cons v r ih =>
      intro z k
      cases k with
      | zero => rfl
      | succ k => show _ :: (mixL v r).take k = _ :: mixL v (r.take k); rw [ih]
    rw [← hx l Z (i + 1), hm1, List.take_append, List.take_of_length_le (by omega), hlen, show i + 1 - i = 1 by omega]
    rfl
   obtain ⟨X, hX⟩ : ∃ X, bs E = X := ⟨_, rfl⟩
   rw [hX] at K hm3 hm1
   have Hm3 := hide hm3
   have Hm1 := hide (show mixL Z l = mixL Z (l.take (i + 1)) ++ mixL S (l.drop (i + 1)) by rw [hm3, hm1, List.append_assoc]; rfl)
   have Hcb := hide hcb
   clear hil htk hmem hS hd hE hX hm1 hm2 hm3 hmx hc0 hcb Hsz
   go_wp2_with fail
   refine (K.out).mono ?_
   rintro x w1 ⟨rfl, hb1⟩
   have hown1 := own_fr hown.out (Fr.of_below (S := nob) hb1) (fun _ _ f => f)
   have hbx := hb.out.trans (hb1.mono hb.out.size)
   have hc1 := Hcb.out w1 hbx
   have hc2 := Hcb.out (w1.alloc (.cells #[.string X] 9)) (hbx.alloc hbx.size _)
   obtain ⟨v', w4, hrun, hown4, hf4, _⟩ := app_own (P := Tryz.prog) 22 9 _ _ Tryz.underlying22 strinf rfl (w := w1.drew) hown1.drew hbx.drew hbx.size (.string X) rfl (by unfold maxLen; omega) (by omega)
   obtain ⟨A6, M6, cap6, rfl⟩ := own_slice hown4
   have Hrun := hide (show (Builtin.append_ #[22, 22] 22 #[.slice A5 M5 cap5, .slice (some ⟨w1.heap.size, 0, none⟩) 1 1]).run Tryz.prog (w1.alloc (.cells #[.string X] 9)).drew = .ok (.slice A6 M6 cap6) w4 from hrun)
   have Hown4 := hide (show w4.ownsRow w.heap.size 9 1 (.slice A6 M6 cap6) (i + 1) (svs (mixL Z (l.take (i + 1)))) by rw [Hm3.out, svs_snocB]; exact hown4)
   have Hf4 := hide hf4
   have hc4 := Hcb.out w4 hf4
   have hnew := World.new_ne _ _ hc1
   clear hb1 K hown hb hc hrun hown4 hf4 hown1 hbx Hm3 Hcb
   go_wp2
   go_region_law ((refine step_runW (by with_reducible rfl) (by rfl) _ _ _ (by rfl) _ _ (by rfl) (by rfl) Hrun.out ?_))
   all_goals
    go_wp2
    refine ⟨⟨i + 1, S, hlt, by go_num, rfl, hSs, Hm1, Hown4, Hf4⟩, ?_⟩
    simp [intOf] <;> omega
  ·have hin : i = n := by omega
   have hend : ¬ (i : Int) < (n : Int) := by omega
   have Hres : Hid (SRes wr (.slice A5 M5 cap5) (mixL Z l)) := hide (by
    have h1 := hown.out
    rw [List.take_of_length_le (by rw [← Hn.out]; omega)] at h1
    exact own_sres (by rw [mixL_len, ← Hn.out, ← hin]; exact h1))
   clear hown hin hmx Hsz
   go_wp2
   go_returns
   exact ⟨_, rfl, Hres.out, hb.out⟩
end Go.Proofs.YtoeeblldgoccoaaGreat
/-
  The walks over the reference of lists of values: differences, the step, exceptions.
-/
namespace Go.Proofs.YtoeeblldgoccoaaGreat
open Go.RowKit Go.Proofs Wv Wv.Vi Wv.Rc Wv.Mo Wv.Ru Wv.Tm Wv.Bc
set_option linter.unusedVariables false
set_option maxRecDepth 100000
theorem stepB_sizeA (l : List ByteArray) : (stepB l).size ≤ 128 := by
 have := stepB_cases l
 rw [← toL_length]
 rcases this with h | ⟨_, _, h, _⟩
 ·rw [h]; exact Nat.zero_le _
 ·exact (knV_iff.1 h).2.2
set_option maxHeartbeats 4000000 in
theorem a14dif_any {w : World} {A : Option Addr} {l : List ByteArray} (ha : At w A (svs l)) (hsz : ∀ s ∈ l, s.size ≤ 1099511627776) (n cap : Nat) (hn : n = l.length) (hm : n ≤ 4096) :
  Calls Tryz.prog 33 #[.slice A n cap] w fun x w' => ∃ v, x = .returned v ∧ SRes w' v (difs l) ∧ Below w.heap.size w w' := by
 have Ha := hide ha
 have Hn := hide hn
 have Hd := hide (fun (v u : ByteArray) (hv : v ∈ l) (hu : u ∈ l) W2 => adif_two v u (hsz v hv) (hsz u hu) W2)
 have Hds := hide (fun k => difP_len l k)
 have ho0 := hide (own_made0 9 w)
 have hb0 := hide (bel_new1 w (.cells #[] 9))
 clear ha hn hsz
 go_enter Tryz.func33, Tryz.ntmps33
 go_wp2
 go_loopw [3, 4] (fun s4 s5 wr => ∃ k : Nat, (k = 0 ∨ k + 1 ≤ n) ∧ s5 = .int .i64 ((k : Int) + 1) ∧ Hid (wr.ownsRow w.heap.size 9 1 s4 (difP l k).length (svs (difP l k))) ∧ Hid (Below w.heap.size w wr)) (fun _ s5 _ => (n - intOf s5).toNat)
 case atStart => exact ⟨0, .inl rfl, rfl, ho0, hb0⟩
 case round =>
  clear ho0 hb0
  obtain ⟨k, hk, rfl, hown, hb⟩ := hrel
  obtain ⟨A5, M5, cap5, rfl⟩ := own_slice hown.out
  by_cases hlt : k + 1 < n
  ·have hil : k + 1 < l.length := by rw [← Hn.out]; exact hlt
   have hil0 : k < l.length := by omega
   have hat1 := Ha.out.below hb.out
   obtain ⟨b, o, he1, hbl, hc⟩ := sv_cell hat1 k hil0
   obtain ⟨b2, o2, he2, _, hc2⟩ := sv_cell hat1 (k + 1) hil
   subst he1
   injection he2 with he2
   injection he2 with h1 h2
   subst h1; subst h2
   have Hv1 := hide (Hd.out l[k] l[k + 1] (List.getElem_mem _) (List.getElem_mem _))
   have hsu := difP_succ l k
   unfold dAt at hsu
   rw [getD_at hil0, getD_at hil] at hsu
   have hle1 := Hds.out k
   obtain ⟨S1, hS1⟩ : ∃ S, l[k] = S := ⟨_, rfl⟩
   obtain ⟨S2, hS2⟩ : ∃ S, l[k + 1] = S := ⟨_, rfl⟩
   rw [hS1] at hc Hv1 hsu
   rw [hS2] at hc2 Hv1 hsu
   obtain ⟨⟨r, q⟩, hr⟩ : ∃ r, difV (toL S1) (toL S2) = r := ⟨_, rfl⟩
   rw [hr] at Hv1 hsu
   simp only at Hv1 hsu
   obtain ⟨X, hX⟩ : ∃ X, bs r = X := ⟨_, rfl⟩
   rw [hX] at Hv1 hsu
   have Hlk := hide (show (difP l k).length + 1 ≤ 4096 by omega)
   have Hsu := hide hsu
   have i1 : IntKind.i64.wrap ((k : Int) + 1 - 1) = (k : Int) := by rw [IntWalk.i64_in _ (by omega)]; omega
   have ij : IntKind.i64.wrap (k : Int) = (k : Int) := by rw [IntWalk.i64_in _ (by omega)]
   have hk0 : (0 : Int) ≤ (k : Int) := by omega
   have hk1 : (k : Int) < (n : Int) := by omega
   have hk2 : (k : Int) + 1 < (n : Int) := by omega
   have hk3 : (0 : Int) ≤ (k : Int) + 1 := by omega
   have e2 : ((k : Int) + 1).toNat = k + 1 := by omega
   clear hil hil0 hat1 hS1 hS2 hr hX hsu hle1
   go_upto_region 5 with fail
   go_cut [5, 6] (fun s6 s7 wx => s6 = .string X ∧ s7 = .bool q ∧ Hid (Below wr.heap.size wr wx))
   case first =>
    clear hown hb
    go_region_with ((go_at_call 60; with_reducible refine (Hv1.out _).mono ?_; rintro r w9 ⟨rfl, hb9⟩))
    all_goals
     go_wp2
     go_meet
     case rel => exact ⟨rfl, rfl, hide (((Below.refl wr.heap.size wr).drew).trans hb9)⟩
   case rest =>
    obtain ⟨rfl, rfl, hb9⟩ := hcut
    have hownx := own_fr hown.out (Fr.of_below (S := nob) hb9.out) (fun _ _ f => f)
    have hbx := hb.out.trans (hb9.out.mono hb.out.size)
    cases q with
    | false =>
     have Hex := hide (show difP l (k + 1) = difP l k by have := Hsu.out; simpa using this)
     have Hownx := hide hownx
     have Hbx := hide hbx
     clear hownx hbx hown hb hb9 hc hc2 Hv1 i1 ij e2
     go_wp2
     refine ⟨⟨k + 1, .inr hlt, by go_num, by rw [Hex.out]; exact Hownx, Hbx⟩, ?_⟩
     simp [intOf] <;> omega
    | true =>
     have Hex := hide (show difP l (k + 1) = difP l k ++ [X] by have := Hsu.out; simpa using this)
     obtain ⟨v', w4, hrun, hown4, hf4, _⟩ := app_own (P := Tryz.prog) 22 9 _ _ Tryz.underlying22 strinf rfl hownx hbx hbx.size (.string X) rfl (by have := Hlk.out; unfold maxLen; omega) (by have := Hlk.out; omega)
     have Hrun := hide hrun
     have Hown5 := hide (show w4.ownsRow w.heap.size 9 1 v' (difP l (k + 1)).length (svs (difP l (k + 1))) by
      rw [Hex.out, svs_snocB, List.length_append]
      exact hown4)
     have Hf4 := hide hf4
     clear hownx hbx hown hb hb9 hc hc2 Hv1 i1 ij e2 hrun hown4 hf4 Hex
     go_wp2_with (
      at_builtin
      refine wpList_run (by with_reducible rfl) rfl _ _ _ rfl _ _ (by rfl) (by rfl) Hrun.out ?_)
     refine ⟨⟨k + 1, .inr hlt, by go_num, Hown5, Hf4⟩, ?_⟩
     simp [intOf] <;> omega
  ·have hkn : n - 1 = k := by omega
   have hlt2 : ¬ (k : Int) + 1 < (n : Int) := by omega
   have Hres : Hid (SRes wr (.slice A5 M5 cap5) (difs l)) := hide (by
    unfold difs
    rw [← Hn.out, hkn]
    exact own_sres hown.out)
   clear hown hkn Hd
   go_wp2
   go_returns
   exact ⟨_, rfl, Hres.out, hb.out⟩
theorem count_take (D : List ByteArray) (d : ByteArray) (k : Nat) (h : k < D.length) : (D.take (k + 1)).count d = (D.take k).count d + if D[k]'h = d then 1 else 0 := by
 rw [List.take_succ_eq_append_getElem h, List.count_append, List.count_singleton]
 congr 1
 by_cases hd : D[k]'h = d
 ·rw [if_pos hd, if_pos (by simpa using hd)]
 ·rw [if_neg hd, if_neg (by simpa using hd)]
set_option maxHeartbeats 8000000 in
theorem a14step_any {w : World} {A : Option Addr} {l : List ByteArray} (ha : At w A (svs l)) (hsz : ∀ s ∈ l, s.size ≤ 1099511627776) (n cap : Nat) (hn : n = l.length) (hm : n ≤ 4096) :
  Calls Tryz.prog 16 #[.slice A n cap] w fun x w' => x = .returned (.string (stepB l)) ∧ Below w.heap.size w w' := by
 rcases Nat.eq_zero_or_pos n with h0 | hpos
 ·subst h0
  have hl : l = [] := List.eq_nil_of_length_eq_zero hn.symm
  have hs : stepB l = ⟨#[]⟩ := by unfold stepB; rw [if_pos (.inl hl)]; rfl
  rw [hs]
  clear ha hsz hn hl hs
  go_enter Tryz.func16, Tryz.ntmps16
  go_wp2
  go_returns
  exact ⟨rfl, Below.refl _ _⟩
 ·have hl0 : 0 < l.length := by omega
  obtain ⟨b0, o0, hA, hb0, hc0⟩ := sv_cell ha 0 hl0
  have hg0 : l.getD 0 default = l[0]'hl0 := getD_at hl0
  have HV := hide (a14valid_any ha hsz n cap hn (by omega) ((l.getD 0 default).size : Int))
  rw [hg0] at HV
  subst hA
  have hc0' : w.cell? ⟨b0, o0, none⟩ = some (.string (l[0]'hl0)) := hc0
  have hnl : l ≠ [] := fun e => by rw [e] at hl0; exact absurd hl0 (Nat.lt_irrefl _)
  have hpi : (0 : Int) < (n : Int) := by omega
  have hne : ((n : Int) == 0) = false := by rw [beq_eq_false_iff_ne]; omega
  cases hv : validB ((l[0]'hl0).size : Int) l with
  | false =>
   have hs : stepB l = ⟨#[]⟩ := by unfold stepB; rw [hg0, if_pos (.inr hv)]; rfl
   rw [hs]
   rw [hv] at HV
   generalize l[0]'hl0 = S0 at *
   clear ha hsz hn hs hv hg0 hc0 hnl hl0
   go_enter Tryz.func16, Tryz.ntmps16
   go_wp2_with fail
   refine (HV.out).mono ?_
   rintro x w1 ⟨rfl, rfl⟩
   go_wp2
   go_returns
   exact ⟨rfl, Below.refl _ _⟩
  | true =>
   have hs : stepB l = stepOf (difs l) := by unfold stepB; rw [hg0, if_neg (by rintro (h | h); exact hnl h; rw [hv] at h; cases h)]
   rw [hs, stepOf_fold]
   rw [hv] at HV
   have HD := hide (a14dif_any ha hsz n cap hn hm)
   have hdl : (difs l).length ≤ 4096 := by have := difP_len l (l.length - 1); unfold difs; omega
   generalize l[0]'hl0 = S0 at *
   generalize difs l = D at *
   obtain ⟨R, hR⟩ : ∃ R, D.foldl (bstep (fun d => D.count d)) (bs [], 0) = R := ⟨_, rfl⟩
   have HR := hide hR
   rw [hR]
   clear ha hsz hn hs hv hg0 hc0 hnl hl0 hR
   go_enter Tryz.func16, Tryz.ntmps16
   go_wp2_with fail
   refine (HV.out).mono ?_
   rintro x w1 ⟨rfl, rfl⟩
   clear HV
   go_wp2_with fail
   refine (HD.out).mono ?_
   rintro x w2 ⟨v, rfl, ⟨A2, cap2, rfl, hat⟩, hb2⟩
   have Hat := hide hat
   have Hb2 := hide hb2
   obtain ⟨K, hK⟩ : ∃ K, D.length = K := ⟨_, rfl⟩
   have HK := hide hK
   rw [hK] at hdl ⊢
   clear HD hat hb2 hc0' hK
   go_wp2
   go_loopw [4, 5, 6] (fun s4 s5 s6 wr => ∃ (i : Nat) (p : ByteArray × Nat) (q : Nat), i ≤ K ∧ s6 = .int .i64 (i : Int) ∧ s4 = .string p.1 ∧ s5 = .int .i64 (p.2 : Int) ∧ Hid ((D.take i).foldl (bstep (fun d => D.count d)) (bs [], 0) = p) ∧ wr = w2.drewN q) (fun _ _ s6 _ => (K - intOf s6).toNat)
   case atStart => exact ⟨0, (bs [], 0), 0, Nat.zero_le _, rfl, rfl, rfl, hide rfl, rfl⟩
   case round =>
    obtain ⟨i, p, q, hi, rfl, rfl, rfl, hp, rfl⟩ := hrel
    by_cases hlt : i < K
    ·have hiD : i < D.length := by rw [HK.out]; exact hlt
     obtain ⟨b, o, rfl, hbl, hci⟩ := sv_cell Hat.out i hiD
     have hft := fold_take (bstep (fun d => D.count d)) (bs [], 0) D i hiD
     rw [hp.out] at hft
     obtain ⟨d, hd⟩ : ∃ d, D[i]'hiD = d := ⟨_, rfl⟩
     rw [hd] at hci hft
     have Hcell := hide (fun k (hk : k < D.length) => by
      obtain ⟨b', o', e', _, hc'⟩ := sv_cell Hat.out k hk
      injection e' with e'
      injection e' with e1 e2
      subst e1; subst e2
      exact hc' : ∀ k (hk : k < D.length), w2.cell? ⟨b, o + k, none⟩ = some (.string (D[k]'hk)))
     have Hct := hide (fun k (hk : k < D.length) => count_take D d k hk)
     have Hft := hide hft
     have hlti : (i : Int) < (K : Int) := by omega
     have hlti0 : (0 : Int) ≤ (i : Int) := by omega
     obtain ⟨best, most⟩ := p
     simp only
     clear hiD hft hd hp
     go_wp2
     go_loopw [7, 8] (fun s7 s8 wr => ∃ (k q2 : Nat), k ≤ K ∧ s8 = .int .i64 (k : Int) ∧ s7 = .int .i64 ((D.take k).count d : Int) ∧ (D.take k).count d ≤ k ∧ wr = w2.drewN q2) (fun _ s8 _ => (K - intOf s8).toNat)
     case atStart => exact ⟨0, q, Nat.zero_le _, rfl, rfl, Nat.le_refl _, rfl⟩
     case round =>
      obtain ⟨k, q2, hk, rfl, rfl, hcl, rfl⟩ := hrel
      by_cases hlk : k < K
      ·have hkD : k < D.length := by rw [HK.out]; exact hlk
       have hck := Hcell.out k hkD
       have hct := Hct.out k hkD
       obtain ⟨e, he⟩ : ∃ d, D[k]'hkD = d := ⟨_, rfl⟩
       rw [he] at hck hct
       have hcmp := str_eq (a := e) (b := d)
       have hlki : (k : Int) < (K : Int) := by omega
       have hlki0 : (0 : Int) ≤ (k : Int) := by omega
       by_cases hed : e = d
       ·rw [decide_eq_true hed] at hcmp
        rw [if_pos hed] at hct
        have Hct2 := hide hct
        have hcl2 : (D.take (k + 1)).count d ≤ k + 1 := by omega
        have Hcl2 := hide hcl2
        obtain ⟨C, hC⟩ : ∃ c, (D.take k).count d = c := ⟨_, rfl⟩
        rw [hC] at hcl Hct2 ⊢
        clear hkD he hct hed hC hcl2 Hcell Hct Hft
        go_wp2
        go_quiet (fail)
        go_wp2
        refine ⟨⟨k + 1, q2 + nq, hlk, by go_num, by rw [Hct2.out]; go_num, Hcl2.out, by first | rfl | rw [World.drewN_drewN]⟩, ?_⟩
        simp [intOf] <;> omega
       ·rw [decide_eq_false hed] at hcmp
        rw [if_neg hed] at hct
        have Hct2 := hide hct
        have Hcl2 := hide (show (D.take (k + 1)).count d ≤ k + 1 by omega)
        obtain ⟨C, hC⟩ : ∃ c, (D.take k).count d = c := ⟨_, rfl⟩
        rw [hC] at hcl Hct2 ⊢
        clear hkD he hct hed hC Hcell Hct Hft
        go_wp2
        go_quiet (fail)
        go_wp2
        refine ⟨⟨k + 1, q2 + nq, hlk, by go_num, by rw [Hct2.out]; rfl, Hcl2.out, by first | rfl | rw [World.drewN_drewN]⟩, ?_⟩
        simp [intOf] <;> omega
      ·have hkK : k = K := by omega
       have hDk : D.take k = D := List.take_of_length_le (by rw [HK.out]; omega)
       have hend : ¬ (k : Int) < (K : Int) := by omega
       have hft := Hft.out
       rw [hDk] at hcl ⊢
       have hci2 : (w2.drewN q2).cell? ⟨b, o + i, none⟩ = some (.string d) := hci
       unfold bstep at hft
       simp only at hft
       obtain ⟨C, hC⟩ : ∃ c, D.count d = c := ⟨_, rfl⟩
       rw [hC] at hft hcl ⊢
       by_cases hmo : most < C
       ·rw [if_pos hmo] at hft
        have Hf := hide hft
        have hmoi : (most : Int) < (C : Int) := by omega
        clear hft hkK hDk hC hmo Hcell Hct Hft
        go_wp2
        refine ⟨⟨i + 1, (d, C), q2, hlt, by go_num, rfl, rfl, Hf, rfl⟩, ?_⟩
        simp [intOf] <;> omega
       ·rw [if_neg hmo] at hft
        have Hf := hide hft
        have hmoi : ¬ (most : Int) < (C : Int) := by omega
        clear hft hkK hDk hC hmo Hcell Hct Hft
        go_wp2
        refine ⟨⟨i + 1, (best, most), q2, hlt, by go_num, rfl, rfl, Hf, rfl⟩, ?_⟩
        simp [intOf] <;> omega
    ·have hiK : i = K := by omega
     have hend : ¬ (i : Int) < (K : Int) := by omega
     have Hf := hide (show R.1 = p.1 by rw [← HR.out, ← hp.out, List.take_of_length_le (by rw [HK.out]; omega)])
     clear hiK hp
     go_wp2
     go_returns
     exact ⟨ret_str Hf.out.symm, bdN Hb2.out q⟩

set_option maxHeartbeats 4000000 in
theorem a14exc_any {w : World} {A : Option Addr} {l : List ByteArray} (ha : At w A (svs l)) (hsz : ∀ s ∈ l, s.size ≤ 1099511627776) (n cap : Nat) (hn : n = l.length) (hm : n ≤ 4096) :
  Calls Tryz.prog 71 #[.slice A n cap] w fun x w' => ∃ v, x = .returned v ∧ IRes w' v (exI l (stepB l)) ∧ Below w.heap.size w w' := by
 have HSt := hide (fun W2 (h : At W2 A (svs l)) => a14step_any h hsz n cap hn hm)
 have hst : (stepB l).size ≤ 1099511627776 := by have := stepB_sizeA l; omega
 obtain ⟨st, hste⟩ : ∃ s, stepB l = s := ⟨_, rfl⟩
 rw [hste] at HSt hst ⊢
 have Ha := hide ha
 have Hn := hide hn
 have Hv := hide (fun (v : ByteArray) (hv : v ∈ l) W2 => aadd_two v st (hsz v hv) hst W2)
 have hoA := own_made0 3 w
 have hbA := bel_new1 w (.cells #[] 3)
 have K0 := hide (HSt.out _ (ha.below hbA))
 have HoA := hide hoA
 have HbA := hide hbA
 clear ha hn hsz hst hste HSt hoA hbA
 go_enter Tryz.func71, Tryz.ntmps71
 go_wp2_with fail
 refine (K0.out).mono ?_
 rintro x w0 ⟨rfl, hb0'⟩
 have ho0 := hide (own_fr HoA.out (Fr.of_below (S := nob) hb0') (fun _ _ f => f))
 have hb0 := hide (HbA.out.trans (hb0'.mono HbA.out.size))
 clear hb0' HoA HbA K0
 go_wp2
 go_loopw [3, 5] (fun s5 s6 wr => ∃ k : Nat, (k = 0 ∨ k + 1 ≤ n) ∧ s6 = .int .i64 ((k : Int) + 1) ∧ Hid (wr.ownsRow w.heap.size 3 1 s5 (exP l st k).length (ivs (exP l st k))) ∧ Hid (Below w.heap.size w wr)) (fun _ s6 _ => (n - intOf s6).toNat)
 case atStart => exact ⟨0, .inl rfl, rfl, ho0, hb0⟩
 case round =>
  clear ho0 hb0
  obtain ⟨k, hk, rfl, hown, hb⟩ := hrel
  obtain ⟨A5, M5, cap5, rfl⟩ := own_slice hown.out
  by_cases hlt : k + 1 < n
  ·have hil : k + 1 < l.length := by rw [← Hn.out]; exact hlt
   have hil0 : k < l.length := by omega
   obtain ⟨b, o, rfl, hbl, hc⟩ := sv_cell (Ha.out.below hb.out) k hil0
   have hc1' : ∀ W2, Below wr.heap.size wr W2 → W2.cell? ⟨b, o + (k + 1), none⟩ = some (.string l[k + 1]) := fun W2 hW => by
    obtain ⟨b2, o2, he, _, hc2⟩ := sv_cell ((Ha.out.below hb.out).mono (Nat.le_refl _) hW) (k + 1) hil
    injection he with he
    injection he with h1 h2
    subst h1; subst h2
    exact hc2
   have Hc1 := hide hc1'
   have Hv1 := hide (Hv.out l[k] (List.getElem_mem _))
   have hok : okA l st k = decide (addV (toL l[k]) (toL st) = (toL l[k + 1], true)) := by
    unfold okA
    rw [getD_at hil0, getD_at hil]
   have hsu := exP_succ l st k
   have hle := exP_len l st k
   obtain ⟨S0, hS0⟩ : ∃ S, l[k] = S := ⟨_, rfl⟩
   obtain ⟨S1, hS1⟩ : ∃ S, l[k + 1] = S := ⟨_, rfl⟩
   rw [hS0] at hc Hv1 hok
   rw [hS1] at Hc1 hok
   obtain ⟨⟨r, q⟩, hr⟩ : ∃ r, addV (toL S0) (toL st) = r := ⟨_, rfl⟩
   rw [hr] at Hv1 hok
   simp only at Hv1
   have hok2 : okA l st k = (q && decide (bs r = S1)) := by
    rw [hok, Bool.eq_iff_iff, Bool.and_eq_true, decide_eq_true_iff, decide_eq_true_iff, Prod.mk.injEq]
    constructor
    ·rintro ⟨h1, h2⟩; exact ⟨h2, by rw [h1, bs_toL]⟩
    ·rintro ⟨h1, h2⟩; exact ⟨by rw [← h2, toL_bs], h1⟩
   have Hok := hide hok2
   have Hsu := hide hsu
   have hr1 : ∀ X : ByteArray, bs r = X → (if q = true ∧ X = S1 then exP l st (k + 1) = exP l st k else exP l st (k + 1) = exP l st k ++ [(k : Int) + 1]) := fun X hX => by
    subst hX
    rw [Hsu.out, Hok.out]
    by_cases hq : q = true
    ·by_cases hx : bs r = S1
     ·rw [if_pos ⟨hq, hx⟩, hq, decide_eq_true hx]; rfl
     ·rw [if_neg (fun h => hx h.2), decide_eq_false hx, Bool.and_false, if_neg (by simp)]
    ·rw [if_neg (fun h => hq h.1), if_neg (by simp [hq])]
   obtain ⟨X, hX⟩ : ∃ X, bs r = X := ⟨_, rfl⟩
   have Hr1 := hide (hr1 X hX)
   rw [hX] at Hv1
   have hlenk : (exP l st k).length + 1 ≤ 4096 := by omega
   have Hlk := hide hlenk
   have i1 : IntKind.i64.wrap ((k : Int) + 1 - 1) = (k : Int) := by rw [IntWalk.i64_in _ (by omega)]; omega
   have hk0 : (0 : Int) ≤ (k : Int) := by omega
   have hk1 : (k : Int) < (n : Int) := by omega
   have hk2 : (k : Int) + 1 < (n : Int) := by omega
   have e1 : (k : Int) + 1 - 1 = (k : Int) := by omega
   clear hil hil0 hS0 hS1 hr hok hok2 hr1 hX hsu hle Hok Hsu hlenk hc1'
   go_wp2_with fail
   refine (Hv1.out _).mono ?_
   rintro x w1 ⟨rfl, hb1⟩
   have hc1 := Hc1.out w1 hb1
   have hc1b : w1.cell? ⟨b, o + ((k : Int) + 1).toNat, none⟩ = some (.string S1) := by
    rw [show ((k : Int) + 1).toNat = k + 1 by omega]; exact hc1
   have e2 : ((k : Int) + 1).toNat = k + 1 := by omega
   have hown1 := own_fr hown.out (Fr.of_below (S := nob) hb1) (fun _ _ f => f)
   have Hb1 := hide (hb.out.trans (hb1.mono hb.out.size))
   obtain ⟨v', w4, hrun, hown4, hf4, _⟩ := app_own (P := Tryz.prog) 85 3 _ _ Tryz.underlying85 intinf rfl (w := w1) hown1 Hb1.out Hb1.out.size (.int .i64 ((k : Int) + 1)) rfl (by have := Hlk.out; unfold maxLen; omega) (by have := Hlk.out; omega)
   have Hrun := hide hrun
   have Hown4 := hide hown4
   have Hf4 := hide hf4
   have Hown1 := hide hown1
   clear hb1 Hv1 hown hb hc Hc1 hrun hown4 hf4 hown1
   cases q with
   | false =>
    have Hex := hide (show exP l st (k + 1) = exP l st k ++ [(k : Int) + 1] by
     have := Hr1.out
     rwa [if_neg (by simp)] at this)
    have Hown5 := hide (show w4.ownsRow w.heap.size 3 1 v' (exP l st (k + 1)).length (ivs (exP l st (k + 1))) by
     rw [Hex.out, ivs_snocB, List.length_append]
     exact Hown4.out)
    clear Hown1 Hown4 Hex hc1 hc1b Hr1
    go_wp2_with (
     at_builtin
     refine wpList_run (by with_reducible rfl) rfl _ _ _ rfl _ _ (by rfl) (by rfl) Hrun.out ?_)
    refine ⟨⟨k + 1, .inr hlt, by go_num, Hown5, Hf4⟩, ?_⟩
    simp [intOf] <;> omega
   | true =>
    by_cases hx : X = S1
    ·have Hex := hide (show exP l st (k + 1) = exP l st k by
      have := Hr1.out
      rwa [if_pos ⟨rfl, hx⟩] at this)
     have hne : (X.toList != S1.toList) = false := by rw [str_ne, hx]; simp
     have heq : (X.toList == S1.toList) = true := by rw [str_eq, hx]; simp
     have Hown5 := hide (show w1.ownsRow w.heap.size 3 1 (.slice A5 M5 cap5) (exP l st (k + 1)).length (ivs (exP l st (k + 1))) by
      rw [Hex.out]
      exact Hown1.out)
     clear Hown1 Hown4 Hex hc1b Hr1 Hrun Hf4 hx
     go_wp2
     refine ⟨⟨k + 1, .inr hlt, by go_num, Hown5, Hb1⟩, ?_⟩
     simp [intOf] <;> omega
    ·have Hex := hide (show exP l st (k + 1) = exP l st k ++ [(k : Int) + 1] by
      have := Hr1.out
      rwa [if_neg (fun h => hx h.2)] at this)
     have hne : (X.toList != S1.toList) = true := by rw [str_ne, decide_eq_false hx]; rfl
     have heq : (X.toList == S1.toList) = false := by rw [str_eq, decide_eq_false hx]
     have Hrun' := Hrun
     have Hown5 := hide (show w4.ownsRow w.heap.size 3 1 v' (exP l st (k + 1)).length (ivs (exP l st (k + 1))) by
      rw [Hex.out, ivs_snocB, List.length_append]
      exact Hown4.out)
     clear Hown1 Hown4 Hex hc1b Hr1 hx
     go_wp2_with (
      at_builtin
      refine wpList_run (by with_reducible rfl) rfl _ _ _ rfl _ _ (by rfl) (by rfl) Hrun.out ?_)
     refine ⟨⟨k + 1, .inr hlt, by go_num, Hown5, Hf4⟩, ?_⟩
     simp [intOf] <;> omega
  ·have hkn : n - 1 = k := by omega
   have hlt2 : ¬ (k : Int) + 1 < (n : Int) := by omega
   have Hres : Hid (IRes wr (.slice A5 M5 cap5) (exI l st)) := hide (by
    obtain ⟨A6, cap6, hv, hat⟩ := own_at hown.out
    unfold exI
    rw [← Hn.out, hkn]
    exact ⟨A6, cap6, hv, hat⟩)
   clear hown hkn Hv
   go_wp2
   go_returns
   exact ⟨_, rfl, Hres.out, hb.out⟩
end Go.Proofs.YtoeeblldgoccoaaGreat
/-
  The walks over the reference of lists of values: gaps, the first coding.
-/
namespace Go.Proofs.YtoeeblldgoccoaaGreat
open Go.RowKit Go.Proofs Wv Wv.Vi Wv.Rc Wv.Mo Wv.Ru Wv.Tm Wv.Bc
set_option linter.unusedVariables false
theorem ires_own {w : World} {base n : Nat} {v : Value} {l : List Int} (h : w.ownsRow base 3 1 v n (ivs l)) (hn : n = l.length) : IRes w v l := by
 obtain ⟨A, cap, hv, hat⟩ := own_at h
 exact ⟨A, cap, by rw [hv, hn], hat⟩
theorem ivs_snoc1 (a : List Int) (x : Int) : ivs (a ++ [x]) = ivs a ++ [.int .i64 x] := by simp [ivs, iv]
set_option maxRecDepth 100000 in
set_option maxHeartbeats 2000000 in
theorem ngaps_any {w : World} {A : Option Addr} {l : List Int} (ha : At w A (ivs l)) (n cap : Nat) (hn : n = l.length) (hv : validT l = true) :
  Calls Tryz.prog 73 #[.slice A n cap] w fun x w' => ∃ v, x = .returned v ∧ IRes w' v (gapsT l) ∧ Below w.heap.size w w' := by
 obtain ⟨v1, v2, v3⟩ := validT_iff.1 hv
 have hn4 : n ≤ 4096 := by omega
 have Ha := hide ha
 have Hn := hide hn
 have Hv2 := hide v2
 have Hlen : Hid ((gapsT l).length = n) := hide (by unfold gapsT; rw [gp_length, hn])
 have ho0 := hide (own_made0 3 w)
 have hb0 := hide ((Below.refl w.heap.size w).alloc (Nat.le_refl _) (.cells #[] 3))
 clear ha hn hv v1 v2 v3
 go_enter Tryz.func73, Tryz.ntmps73
 go_wp2
 go_loopw [3, 4] (fun s3 s4 wr => ∃ (i : Nat) (last : Int) (G : List Int), i ≤ n ∧ -1 ≤ last ∧ last ≤ 1099511627776 ∧ s4 = .int .i64 (i : Int) ∧ Hid (gapsT l = G ++ gp last (l.drop i)) ∧ Hid (G.length = i) ∧ Hid ((i = 0 → last = -1) ∧ ∀ j, i = j + 1 → (ivs l)[j]? = some (.int .i64 last)) ∧ Hid (wr.ownsRow w.heap.size 3 1 s3 i (ivs G)) ∧ Hid (Below w.heap.size w wr)) (fun _ s4 _ => (n - intOf s4).toNat)
 case atStart => exact ⟨0, -1, [], Nat.zero_le _, by omega, by omega, rfl, hide rfl, hide rfl, hide ⟨fun _ => rfl, fun j h => by omega⟩, ho0, hb0⟩
 case round =>
  clear ho0 hb0
  obtain ⟨i, last, G, hi, hl1, hl2, rfl, hG, hGl, hlast, hown, hb⟩ := hrel
  by_cases hlt : i < n
  ·have hil : i < l.length := by rw [← Hn.out]; exact hlt
   have hd : l.drop i = l[i] :: l.drop (i + 1) := List.drop_eq_getElem_cons hil
   have hget := ivs_atC l i hil
   have hx2 := Hv2.out l[i] (List.getElem_mem _)
   obtain ⟨x, hx⟩ : ∃ x, l[i] = x := ⟨_, rfl⟩
   rw [hx] at hd hget hx2
   obtain ⟨b, o, hA, hbA, hc0⟩ := Ha.out.get i _ hget
   subst hA
   have Hget := hide hget
   obtain ⟨hx3, hx4⟩ := hx2
   have hc : wr.cell? ⟨b, o + i, none⟩ = some (.int .i64 x) := (hb.out.cell (p := ⟨b, o + i, none⟩) hbA).trans hc0
   have Hn1 : Hid ((i + 1 = 0 → x = -1) ∧ ∀ j, i + 1 = j + 1 → (ivs l)[j]? = some (.int .i64 x)) := hide ⟨fun h => by omega, fun j h => by rw [← Nat.succ.inj h]; exact Hget.out⟩
   have HG : Hid (gapsT l = (G ++ [x - last - 1]) ++ gp x (l.drop (i + 1))) := hide (by rw [hG.out, hd, List.append_assoc]; rfl)
   have HGl : Hid ((G ++ [x - last - 1]).length = i + 1) := hide (by rw [List.length_append, hGl.out]; rfl)
   have hlti0 : (0 : Int) ≤ (i : Int) := by omega
   have hlti : (i : Int) < (n : Int) := by omega
   obtain ⟨g, hg⟩ : ∃ g, x - last - 1 = g := ⟨_, rfl⟩
   rw [hg] at HG HGl
   rcases Nat.eq_zero_or_pos i with h0 | h0
   ·have hd3 : ((i : Int) == 0) = true := by simp; omega
    have hla := hlast.out.1 h0
    have hgx : g = x := by omega
    subst hgx
    have hcz : wr.cell? ⟨b, o, none⟩ = some (.int .i64 g) := by rw [h0] at hc; exact hc
    obtain ⟨v', w4, hrun, hown1, hf1, _⟩ := app_own (P := Tryz.prog) 85 3 _ _ Tryz.underlying85 intinf rfl (w := wr) hown.out hb.out hb.out.size (.int .i64 g) rfl (by unfold maxLen; omega) (by omega)
    have Hrun := hide hrun
    have Hown1 : Hid (w4.ownsRow w.heap.size 3 1 v' (i + 1) (ivs (G ++ [g]))) := hide (by rw [ivs_snoc1]; exact hown1)
    have Hf1 := hide hf1
    have hn0 : (0 : Int) < (n : Int) := by omega
    clear hil hd hget hx hG hGl hlast hown hb hc0 hc hg hla hrun hown1 hf1 h0
    go_wp2_with (
     at_builtin
     refine wpList_run (by with_reducible rfl) rfl _ _ _ rfl _ _ (by rfl) (by rfl) Hrun.out ?_)
    refine ⟨⟨i + 1, g, _, hlt, by omega, hx4, by go_num, HG, HGl, Hn1, Hown1, Hf1⟩, ?_⟩
    simp [intOf] <;> omega
   ·have hd3 : ((i : Int) == 0) = false := by rw [beq_eq_false_iff_ne]; omega
    obtain ⟨j, hj⟩ : ∃ j, i - 1 = j := ⟨_, rfl⟩
    have hij : i = j + 1 := by omega
    obtain ⟨b', o', hA', hb', hc1⟩ := Ha.out.get j _ (hlast.out.2 j hij)
    injection hA' with hA'
    injection hA' with hA1 hA2
    subst hA1; subst hA2
    have hcj : wr.cell? ⟨b, o + j, none⟩ = some (.int .i64 last) := (hb.out.cell (p := ⟨b, o + j, none⟩) hb').trans hc1
    have hj0 : (0 : Int) ≤ (j : Int) := by omega
    have hj1 : (j : Int) < (n : Int) := by omega
    obtain ⟨d, hdd⟩ : ∃ d, x - last = d := ⟨_, rfl⟩
    have ik : IntKind.i64.wrap ((i : Int) - 1) = (j : Int) := by rw [IntWalk.i64_in _ (by omega)]; omega
    have ij : IntKind.i64.wrap (j : Int) = (j : Int) := by rw [IntWalk.i64_in _ (by omega)]
    have i1 : IntKind.i64.wrap (x - last) = d := by rw [IntWalk.i64_in _ (by omega)]; omega
    have i2 : IntKind.i64.wrap (d - 1) = g := by rw [IntWalk.i64_in _ (by omega)]; omega
    obtain ⟨A5, M5, cap5, rfl⟩ := own_slice hown.out
    obtain ⟨v', w4, hrun, hown1, hf1, _⟩ := app_own (P := Tryz.prog) 85 3 _ _ Tryz.underlying85 intinf rfl (w := wr.drew) hown.out (hb.out.drew) hb.out.size (.int .i64 g) rfl (by unfold maxLen; omega) (by omega)
    obtain ⟨A6, M6, cap6, rfl⟩ := own_slice hown1
    have Hrun := hide (show (Builtin.append_ #[85, 85] 85 #[.slice A5 M5 cap5, .slice (some ⟨wr.heap.size, 0, none⟩) 1 1]).run Tryz.prog (wr.alloc (.cells #[.int .i64 g] 3)).drew = .ok (.slice A6 M6 cap6) w4 from hrun)
    have Hown1 : Hid (w4.ownsRow w.heap.size 3 1 (.slice A6 M6 cap6) (i + 1) (ivs (G ++ [g]))) := hide (by rw [ivs_snoc1]; exact hown1)
    have Hf1 := hide hf1
    clear hil hd hget hx hG hGl hlast hown hb hc0 hg hrun hown1 hf1 h0 hdd hj hij hb' hc1
    have n0 := World.new_ne _ _ hc
    have n1 := World.new_ne _ _ hcj
    go_wp2
    go_region_law ((refine step_runW (by with_reducible rfl) (by rfl) _ _ _ (by rfl) _ _ (by rfl) (by rfl) Hrun.out ?_))
    all_goals
     go_wp2
     refine ⟨⟨i + 1, x, _, hlt, by omega, hx4, by go_num, HG, HGl, Hn1, Hown1, Hf1⟩, ?_⟩
     simp [intOf] <;> omega
  ·have hiN : i = n := by omega
   subst hiN
   have hG2 := hG.out
   rw [List.drop_eq_nil_of_le (by rw [← Hn.out]; exact Nat.le_refl _)] at hG2
   have hG3 : gapsT l = G := by rw [hG2]; exact List.append_nil _
   obtain ⟨A5, M5, cap5, rfl⟩ := own_slice hown.out
   have Hres : Hid (IRes wr (.slice A5 M5 cap5) (gapsT l)) := hide (ires_own (by rw [hG3]; exact hown.out) (by rw [Hlen.out]))
   clear hG2 hG3 hG hGl hown hlast
   go_wp2
   go_ret
   exact ⟨_, rfl, Hres.out, hb.out⟩
set_option maxRecDepth 100000
theorem ext_one (L : List UInt8) (k : Nat) (h : k < L.length) : (bs L).extract k (k + 1) = bs [L[k]'h] := by
 apply ByteArray.ext
 apply Array.toList_inj.1
 simp only [bs, ByteArray.data_extract, Array.toList_extract, List.extract_eq_take_drop, List.toList_toArray]
 rw [Nat.add_sub_cancel_left, List.drop_eq_getElem_cons h]
 rfl
theorem hi_dig {c : UInt8} (h : cd c < 4) : bs [hiC c] = Bit.txt [decide (2 ≤ cd c)] ∧ bs [loC c] = Bit.txt [decide (cd c % 2 = 1)] := by
 unfold hiC loC
 rcases (show cd c = 0 ∨ cd c = 1 ∨ cd c = 2 ∨ cd c = 3 by omega) with h0 | h0 | h0 | h0 <;> rw [h0] <;> exact ⟨rfl, rfl⟩
theorem num_szA (k : Nat) : (bs (num k)).size ≤ 9 := by rw [bs_size, num_length]; have := kof_le k; omega
def pkR (l : List ByteArray) : List UInt8 × Nat := match codP l with
 | none => ([], 9)
 | some s => (s, 0)
set_option maxHeartbeats 8000000 in
theorem a14packed_any {w : World} {A : Option Addr} {l : List ByteArray} (ha : At w A (svs l)) (hv : ∀ s ∈ l, isV (toL s) = true) (n cap : Nat) (hn : n = l.length) (hm : n ≤ 4096) :
  Calls Tryz.prog 37 #[.slice A n cap] w fun x w' => ERes w (pkR l) x w' := by
 have Ha := hide ha
 have Hn := hide hn
 have hsz : ∀ s ∈ l, s.size ≤ 128 := fun s hs => by rw [← toL_length]; exact (isV_iff.1 (hv s hs)).2.2
 have Hsz := hide hsz
 have Hpl := hide (fun (s : ByteArray) (hs : s ∈ l) W => (by
  have := aplanes_any (toL s) (by rw [toL_length]; have := hsz s hs; omega) (hv s hs) W
  rw [bs_toL] at this
  exact this : Calls Tryz.prog 69 #[.string s] W fun x w' => x = .returned (.tuple #[.string (bs ((toL s).map loC)), .string (bs ((toL s).map hiC))]) ∧ Below W.heap.size W w'))
 have Hcd := hide (fun (s : ByteArray) (hs : s ∈ l) => (isV_iff.1 (hv s hs)).1)
 have HN := hide (fun W => rnumber_any (n : Int) (by omega) (by omega) W)
 rw [Int.toNat_natCast] at HN
 have HB := hide (fun (h : (bitsL l).length ≤ 65536) W => Bio.refbytes_any (bitsL l) W h)
 have hbz := fun (h : (bitsL l).length ≤ 65536) => (show (Bit.bstr (bitsL l)).size ≤ 8193 by rw [Bit.bstr_size]; omega)
 have Hbz := hide hbz
 have hnz := num_szA n
 have hp1 : (bitsL l).length ≤ 65536 → bs (pkR l).1 = bs (num n) ++ Bit.bstr (bitsL l) ∧ (pkR l).2 = 0 := fun h => by
  unfold pkR codP
  rw [if_neg (by omega), ← hn]
  refine ⟨?_, rfl⟩
  show bs (num n ++ toL (Bit.bstr (bitsL l))) = _
  rw [← bs_append, bs_toL]
 have hp2 : 65536 < (bitsL l).length → pkR l = ([], 9) := fun h => by
  unfold pkR codP
  rw [if_pos h]
 have Hp1 := hide hp1
 have Hp2 := hide hp2
 obtain ⟨R, hR⟩ : ∃ R, pkR l = R := ⟨_, rfl⟩
 rw [hR] at Hp1 Hp2 ⊢
 have Htk := hide (fun j (h : j < l.length) => bitsL_take l j h)
 have Hge := hide (fun j (h : j < l.length) => bitsL_ge l j (toL l[j]).length h)
 have Hle := hide (fun j => bitsL_le l j)
 have Hlen := hide (fun v => bitsV_len v)
 have H0 : Hid (Bit.txt (bitsL (l.take 0)) = ⟨#[]⟩) := hide rfl
 have Htl := hide (List.take_of_length_le (l := l) (i := n) (by omega))
 have Hts := hide (fun L => Bit.txt_size L)
 have Hap := hide (fun a b => Bit.txt_append a b)
 obtain ⟨BL, hBL⟩ : ∃ B, bitsL l = B := ⟨_, rfl⟩
 rw [hBL] at HB Hbz Hp1 Hp2 Hge Hle
 have HBL := hide hBL
 generalize bs (num n) = S0 at *
 clear ha hn hsz hv hbz hp1 hp2 hR hBL
 go_enter Tryz.func37, Tryz.ntmps37
 go_wp2
 go_loopw [4, 5] (fun s4 s5 wr => ∃ i : Nat, i ≤ n ∧ s5 = .int .i64 (i : Int) ∧ s4 = .string (Bit.txt (bitsL (l.take i))) ∧ (bitsL (l.take i)).length ≤ 65536 ∧ Hid (Below w.heap.size w wr)) (fun _ s5 _ => (n - intOf s5).toNat)
 case atStart => exact ⟨0, Nat.zero_le _, rfl, by rw [H0.out], Nat.zero_le _, hide (Below.refl _ _)⟩
 case round =>
  obtain ⟨i, hi, rfl, rfl, hbl, hb⟩ := hrel
  by_cases hlt : i < n
  ·have hil : i < l.length := by rw [← Hn.out]; exact hlt
   obtain ⟨b, o, rfl, hbA, hc0⟩ := sv_cell Ha.out i hil
   have hc : wr.cell? ⟨b, o + i, none⟩ = some (.string (l[i]'hil)) := (hb.out.cell (p := ⟨b, o + i, none⟩) hbA).trans hc0
   have hmem : l[i]'hil ∈ l := List.getElem_mem _
   have htk := Htk.out i hil
   have hge := Hge.out i hil
   obtain ⟨S, hS⟩ : ∃ S, l[i]'hil = S := ⟨_, rfl⟩
   rw [hS] at hc hmem htk hge
   have hS8 := Hsz.out S hmem
   have hts := Hts.out (bitsL (l.take i))
   have hi0 : (0 : Int) ≤ (i : Int) := by omega
   have hi1 : (i : Int) < (n : Int) := by omega
   obtain ⟨L, hL⟩ : ∃ L, bitsL (l.take i) = L := ⟨_, rfl⟩
   rw [hL] at hbl hts htk ⊢
   have hge2 : L.length + 2 * S.size ≤ BL.length := by
    have h1 := Hle.out (i + 1)
    rw [htk, List.length_append, Hlen.out, toL_length] at h1
    exact h1
   by_cases hfar : 65536 < L.length + 2 * S.size
   ·have HRn := hide (Hp2.out (by omega))
    have hfi : (65536 : Int) < ((Bit.txt L).size : Int) + 2 * (S.size : Int) := by rw [hts]; omega
    generalize Bit.txt L = T at *
    clear hil hmem htk hge hS hc0 hfar Hpl Htk Hge Hle Hcd
    go_wp2
    go_returns
    rw [HRn.out]
    exact ⟨rfl, hb.out⟩
   ·have hfi : ¬ (65536 : Int) < ((Bit.txt L).size : Int) + 2 * (S.size : Int) := by rw [hts]; omega
    have K := hide (Hpl.out S hmem wr)
    have hcds := Hcd.out S hmem
    have Hcds := hide hcds
    have hm1 : (bs ((toL S).map loC)).size = S.size := by rw [bs_size, List.length_map, toL_length]
    have hm2 : (bs ((toL S).map hiC)).size = S.size := by rw [bs_size, List.length_map, toL_length]
    have Hx := hide (fun k (hk : k < (toL S).length) => And.intro (ext_one ((toL S).map loC) k (by rw [List.length_map]; exact hk)) (ext_one ((toL S).map hiC) k (by rw [List.length_map]; exact hk)))
    simp only [List.getElem_map] at Hx
    have Hbt := hide (fun k (hk : k < (toL S).length) => bitsV_take (toL S) k hk)
    have Hln := hide (toL_length S)
    have Htn := hide (show bitsL (l.take (i + 1)) = L ++ bitsV ((toL S).take S.size) by rw [htk, List.take_of_length_le (by rw [toL_length]; exact Nat.le_refl _)])
    have hts2 := hts
    have H00 : Hid (Bit.txt (L ++ bitsV ((toL S).take 0)) = Bit.txt L) := hide (by show Bit.txt (L ++ []) = _; rw [List.append_nil])
    obtain ⟨Z, hZ⟩ : ∃ z, S.size = z := ⟨_, rfl⟩
    rw [hZ] at hm1 hm2 hfi hfar hS8 Hln Htn
    obtain ⟨SL, hSL⟩ : ∃ s, bs ((toL S).map loC) = s := ⟨_, rfl⟩
    obtain ⟨SH, hSH⟩ : ∃ s, bs ((toL S).map hiC) = s := ⟨_, rfl⟩
    rw [hSL] at hm1 Hx K
    rw [hSH] at hm2 Hx K
    have HZ := hide hZ
    clear hil hmem htk hge hS hc0 Hpl Htk Hge hge2 hSL hSH hcds hZ
    have hZS : (S.size : Int) = (Z : Int) := by rw [HZ.out]
    go_wp2_with fail
    refine (K.out).mono ?_
    rintro x w1 ⟨rfl, hb1⟩
    have Hb1 := hide (hb.out.trans (hb1.mono hb.out.size))
    clear hb1 hb K hc
    go_wp2
    go_loopw [4, 8] (fun s4 s8 wq => ∃ k : Nat, k ≤ Z ∧ s8 = .int .i64 (k : Int) ∧ s4 = .string (Bit.txt (L ++ bitsV ((toL S).take k))) ∧ Hid (Below w.heap.size w wq)) (fun _ s8 _ => (Z - intOf s8).toNat)
    case atStart => exact ⟨0, Nat.zero_le _, rfl, by rw [H00.out], Hb1⟩
    case round =>
     clear Hb1
     obtain ⟨k, hk, rfl, rfl, hbq⟩ := hrel
     by_cases hlk : k < Z
     ·have hkl : k < (toL S).length := by rw [Hln.out]; exact hlk
      obtain ⟨x1, x2⟩ := Hx.out k hkl
      have hbt := Hbt.out k hkl
      have hcd := Hcds.out ((toL S)[k]'hkl) (List.getElem_mem _)
      obtain ⟨c, hcc⟩ : ∃ c, (toL S)[k]'hkl = c := ⟨_, rfl⟩
      rw [hcc] at x1 x2 hbt hcd
      obtain ⟨d1, d2⟩ := hi_dig hcd
      rw [d2] at x1
      rw [d1] at x2
      obtain ⟨m, hmk⟩ : ∃ m, k + 1 = m := ⟨_, rfl⟩
      rw [hmk] at x1 x2
      have ik : IntKind.i64.wrap ((k : Int) + 1) = (m : Int) := by rw [IntWalk.i64_in _ (by omega)]; omega
      have hkm : (k : Int) ≤ (m : Int) := by omega
      have hkmn : k ≤ m := by omega
      have hmZ : (m : Int) ≤ (Z : Int) := by omega
      have hmZn : m ≤ Z := by omega
      have hm0 : (0 : Int) ≤ (m : Int) := by omega
      have Hmk := hide hmk
      have hki0 : (0 : Int) ≤ (k : Int) := by omega
      have hki1 : (k : Int) < (Z : Int) := by omega
      have hsl : (SL.size : Int) = (Z : Int) := by rw [hm1]
      have hsh : (SH.size : Int) = (Z : Int) := by rw [hm2]
      have hql : ((L ++ bitsV ((toL S).take k)).length) ≤ 65536 := by
       rw [List.length_append, Hlen.out, List.length_take, Hln.out]
       omega
      have htx := Hts.out (L ++ bitsV ((toL S).take k))
      have Hnx : Hid (Bit.txt (L ++ bitsV ((toL S).take k)) ++ Bit.txt [decide (2 ≤ cd c)] ++ Bit.txt [decide (cd c % 2 = 1)] = Bit.txt (L ++ bitsV ((toL S).take m))) := hide (by
       rw [← hmk, hbt, ← Bit.txt_append, ← Bit.txt_append, List.append_assoc, List.append_assoc]
       rfl)
      have z1 : (Bit.txt [decide (2 ≤ cd c)]).size ≤ 1 := by rw [Bit.txt_size]; exact Nat.le_refl _
      have z2 : (Bit.txt [decide (cd c % 2 = 1)]).size ≤ 1 := by rw [Bit.txt_size]; exact Nat.le_refl _
      generalize Bit.txt [decide (2 ≤ cd c)] = X1 at *
      generalize Bit.txt [decide (cd c % 2 = 1)] = X2 at *
      obtain ⟨T, hT⟩ : ∃ t, Bit.txt (L ++ bitsV ((toL S).take k)) = t := ⟨_, rfl⟩
      rw [hT] at htx Hnx ⊢
      have e1 := nosumC (a := T.size) (b := X1.size) (by omega)
      have e2 := nosumC (a := T.size + X1.size) (b := X2.size) (by omega)
      clear hmk hkl hbt hcd hcc d1 d2 hT Hx Hbt Hcds Htn htx hql
      go_wp2
      go_quiet (fail)
      go_wp2
      refine ⟨⟨m, hmZn, by first | rfl | (have := Hmk.out; go_num), by rw [Hnx.out], hide (bdN hbq.out nq)⟩, ?_⟩
      have := Hmk.out
      simp [intOf] <;> omega
     ·have hkZ : k = Z := by omega
      have hsl : (SL.size : Int) = (Z : Int) := by rw [hm1]
      have hend : ¬ (k : Int) < (Z : Int) := by omega
      have hln : (bitsL (l.take (i + 1))).length ≤ 65536 := by
       rw [Htn.out, List.length_append, Hlen.out, List.length_take, Hln.out]
       omega
      have Hnx := hide (show Bit.txt (L ++ bitsV ((toL S).take k)) = Bit.txt (bitsL (l.take (i + 1))) by rw [Htn.out, hkZ])
      clear hkZ Hx Hbt Hcds Htn
      go_wp2
      refine ⟨⟨i + 1, hlt, by go_num, by rw [Hnx.out], hln, hbq⟩, ?_⟩
      simp [intOf] <;> omega
  ·have hin : i = n := by omega
   have hend : ¬ (i : Int) < (n : Int) := by omega
   have hall : bitsL (l.take i) = BL := by rw [hin, Htl.out, HBL.out]
   rw [hall] at hbl ⊢
   have K1 := hide (HB.out hbl)
   obtain ⟨r1, r2⟩ := Hp1.out hbl
   have hbz := Hbz.out hbl
   have hsum := nosumC (a := S0.size) (b := (Bit.bstr BL).size) (by omega)
   have Hr := hide (And.intro r1 r2)
   generalize Bit.bstr BL = SB at *
   generalize Bit.txt BL = T at *
   clear hin hall r1 r2 HB Hp1 Hp2 Hpl Htk Hge Hle Hcd Hbz
   go_wp2_with fail
   refine (HN.out _).mono ?_
   rintro x w2 ⟨rfl, hb2⟩
   have Hb2 := hide (hb.out.trans (hb2.mono hb.out.size))
   clear hb2 hb HN
   go_wp2_with fail
   refine (K1.out _).mono ?_
   rintro x w3 ⟨rfl, hb3⟩
   have Hb3 := hide (Hb2.out.trans (hb3.mono Hb2.out.size))
   clear hb3 Hb2 K1
   go_wp2
   go_returns
   exact ⟨by rw [Hr.out.1, Hr.out.2]; rfl, Hb3.out⟩
end Go.Proofs.YtoeeblldgoccoaaGreat
/-
  The walks over the reference of lists of values: the first coding is read.
-/
namespace Go.Proofs.YtoeeblldgoccoaaGreat
open Go.RowKit Go.Proofs Wv Wv.Vi Wv.Rc Wv.Mo Wv.Ru Wv.Tm Wv.Bc
set_option linter.unusedVariables false
set_option maxRecDepth 100000
end Go.Proofs.YtoeeblldgoccoaaGreat
