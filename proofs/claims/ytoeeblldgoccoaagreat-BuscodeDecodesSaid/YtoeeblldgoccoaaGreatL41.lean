/-
  Joined texts: Ai, Aj.
-/
import Derived.Test.YtoeeblldgoccoaaGreatL27
import Derived.Test.YtoeeblldgoccoaaGreatL39
set_option linter.unusedVariables false
set_option linter.unusedSimpArgs false
set_option maxRecDepth 100000
set_option maxHeartbeats 8000000
namespace Go.Proofs.YtoeeblldgoccoaaGreat
open Go.RowKit Go.Proofs Wv Wv.Vi Wv.Rc Wv.Mo Wv.Ru Wv.Tm Wv.Bc
theorem a02valid_two (s : ByteArray) (hs : s.size ≤ 1099511627776) (n : Int) (W : World) : Calls Tryz.prog 27 #[.int .i64 n, .string s] W fun x w' => x = .returned (.bool (vld n (toL s))) ∧ W = w' := by
 have := avalid_any n (toL s) (by rw [toL_length]; exact hs) W;rw [bs_toL] at this;exact this
theorem ashort_two (s : ByteArray) (hs : s.size ≤ 1099511627776) (W : World) : Calls Tryz.prog 75 #[.string s] W fun x w' => x = .returned (.string (bs (shr (toL s)))) ∧ Below W.heap.size W w' := by
 have := ashort_any (toL s) (by rw [toL_length]; exact hs) W;rw [bs_toL] at this;exact this
theorem aext_two (s : ByteArray) (hs : s.size ≤ 1099511627776) (n : Int) (W : World) : Calls Tryz.prog 81 #[.int .i64 n, .string s] W fun x w' => x = .returned (.tuple #[.string (bs (ext n (toL s)).1), .int .i64 ((ext n (toL s)).2 : Int)]) ∧ Below W.heap.size W w' := by
 have := aext_any n (toL s) (by rw [toL_length]; exact hs) W;rw [bs_toL] at this;exact this
theorem amix_two (a b : ByteArray) (ha : a.size ≤ 1099511627776) (hb : b.size ≤ 1099511627776) (W : World) : Calls Tryz.prog 48 #[.string a, .string b] W fun x w' => x = .returned (.tuple #[.string (bs (mixV (toL b) (toL a)).1), .int .i64 ((mixV (toL b) (toL a)).2 : Int)]) ∧ Below W.heap.size W w' := by
 have := amix_any (toL a) (toL b) (by rw [toL_length]; exact ha) (by rw [toL_length]; exact hb) W;rw [bs_toL, bs_toL, mix_comm] at this;exact this
theorem aadd_two (a b : ByteArray) (ha : a.size ≤ 1099511627776) (hb : b.size ≤ 1099511627776) (W : World) : Calls Tryz.prog 82 #[.string a, .string b] W fun x w' => x = .returned (.tuple #[.string (bs (addV (toL a) (toL b)).1), .bool (addV (toL a) (toL b)).2]) ∧ Below W.heap.size W w' := by
 have := aadd_any (toL a) (toL b) (by rw [toL_length]; exact ha) (by rw [toL_length]; exact hb) W;rw [bs_toL, bs_toL] at this;exact this
theorem adif_two (a b : ByteArray) (ha : a.size ≤ 1099511627776) (hb : b.size ≤ 1099511627776) (W : World) : Calls Tryz.prog 60 #[.string a, .string b] W fun x w' => x = .returned (.tuple #[.string (bs (difV (toL a) (toL b)).1), .bool (difV (toL a) (toL b)).2]) ∧ Below W.heap.size W w' := by
 have := adif_any (toL a) (toL b) (by rw [toL_length]; exact ha) (by rw [toL_length]; exact hb) W;rw [bs_toL, bs_toL] at this;exact this
theorem a14valid_any {w : World} {A : Option Addr} {l : List ByteArray} (ha : At w A (svs l)) (hsz : ∀ s ∈ l, s.size ≤ 1099511627776) (n cap : Nat) (hn : n = l.length) (hm : n ≤ 9223372036854775807) (W : Int) :
  Calls Tryz.prog 14 #[.int .i64 W, .slice A n cap] w fun x w' => x = .returned (.bool (validB W l)) ∧ w = w' := by
 have Ha := hide ha;have Hn := hide hn;have Hv := hide (fun (v : ByteArray) (hv : v ∈ l) W2 => a02valid_two v (hsz v hv) W W2);obtain ⟨V, hV⟩ : ∃ V, validB W l = V := ⟨_, rfl⟩;have HV := hide hV;rw [hV];clear ha hn hsz hV
 go_enter Tryz.func14, Tryz.ntmps14
 go_wp2
 go_loopw [5] (fun s5 wr => ∃ i : Nat, i ≤ n ∧ s5 = .int .i64 (i : Int) ∧ Hid (∀ v ∈ l.take i, vld W (toL v) = true) ∧ wr = w) (fun s5 _ => (n - intOf s5).toNat)
 case atStart => exact ⟨0, Nat.zero_le _, rfl, hide (fun v hv => by simp at hv), rfl⟩
 case round =>
  obtain ⟨i, hi, rfl, hal, rfl⟩ := hrel
  by_cases hlt : i < n
  ·have hil : i < l.length := by rw [← Hn.out]; exact hlt
   obtain ⟨b, o, rfl, hbl, hc⟩ := sv_cell Ha.out i hil;have htk : l.take (i + 1) = l.take i ++ [l[i]'hil] := List.take_succ_eq_append_getElem hil;have hmem : l[i]'hil ∈ l := List.getElem_mem _;obtain ⟨S, hS⟩ : ∃ S, l[i]'hil = S := ⟨_, rfl⟩;rw [hS] at hc htk hmem;have K := hide (Hv.out S hmem wr)
   have hi0 : (0 : Int) ≤ (i : Int) := by omega
   have hi1 : (i : Int) < (n : Int) := by omega
   cases hv : vld W (toL S) with
   | true =>
    have Hal := hide (show ∀ v ∈ l.take (i + 1), vld W (toL v) = true from fun v hx => by
     rw [htk] at hx
     rcases List.mem_append.1 hx with hx | hx
     ·exact hal.out v hx
     ·rw [List.mem_singleton.1 hx]; exact hv)
    rw [hv] at K;clear hil htk hmem hS hal hv Hv
    go_wp2_with fail
    refine (K.out).mono ?_;rintro x w1 ⟨rfl, rfl⟩
    go_wp2
    refine ⟨⟨i + 1, hlt, by go_num, Hal, by first | rfl | trivial⟩, ?_⟩
    simp [intOf] <;> omega
   | false =>
    have hno : Hid (V = false) := hide (by
     rw [← HV.out]
     cases h : validB W l with
     | false => rfl
     | true => have := (validB_iff.1 h).1 S hmem; rw [hv] at this; cases this)
    rw [hv] at K;clear hil htk hmem hS hal hv Hv
    go_wp2_with fail
    refine (K.out).mono ?_;rintro x w1 ⟨rfl, rfl⟩
    go_wp2
    go_returns
    exact ⟨ret_bool hno.out.symm, rfl⟩
  ·have hin : i = n := by omega
   have hal2 := hal.out;rw [List.take_of_length_le (by rw [← Hn.out]; omega)] at hal2
   have hend : ¬ (i : Int) < (n : Int) := by omega
   have hfin : Hid (V = (decide (1 ≤ W) && decide (W ≤ 128) && decide (n ≤ 4096))) := hide (by
    rw [← HV.out, Bool.eq_iff_iff, validB_iff];simp only [Bool.and_eq_true, decide_eq_true_iff];rw [← Hn.out]
    constructor
    ·rintro ⟨_, h1, h2, h3⟩; exact ⟨⟨h1, h2⟩, h3⟩
    ·rintro ⟨⟨h1, h2⟩, h3⟩; exact ⟨hal2, h1, h2, h3⟩)
   clear hal hal2 Hv Ha hin
   by_cases h1 : 1 ≤ W
   ·by_cases h2 : W ≤ 128
    ·by_cases h3 : n ≤ 4096
     ·have h3i : (n : Int) ≤ 4096 := by omega
      have Hf := hide (show V = true by rw [hfin.out, decide_eq_true h1, decide_eq_true h2, decide_eq_true h3]; rfl);clear hfin
      go_wp2
      go_returns
      exact ⟨ret_bool Hf.out.symm, rfl⟩
     ·have h3i : ¬ (n : Int) ≤ 4096 := by omega
      have Hf := hide (show V = false by rw [hfin.out, decide_eq_false h3, Bool.and_false]);clear hfin
      go_wp2
      go_returns
      exact ⟨ret_bool Hf.out.symm, rfl⟩
    ·have Hf := hide (show V = false by rw [hfin.out, decide_eq_false h2, Bool.and_false, Bool.false_and])
     clear hfin
     go_wp2
     go_returns
     exact ⟨ret_bool Hf.out.symm, rfl⟩
   ·have Hf := hide (show V = false by rw [hfin.out, decide_eq_false h1, Bool.false_and, Bool.false_and])
    clear hfin
    go_wp2
    go_returns
    exact ⟨ret_bool Hf.out.symm, rfl⟩
theorem shortL_snoc (l : List ByteArray) (v : ByteArray) : shortL (l ++ [v]) = shortL l ++ [bs (shr (toL v))] := by unfold shortL; rw [List.map_append]; rfl
theorem a14short_any {w : World} {A : Option Addr} {l : List ByteArray} (ha : At w A (svs l)) (hsz : ∀ s ∈ l, s.size ≤ 1099511627776) (n cap : Nat) (hn : n = l.length) (hm : n ≤ 1000000) :
  Calls Tryz.prog 40 #[.slice A n cap] w fun x w' => ∃ v, x = .returned v ∧ SRes w' v (shortL l) ∧ Below w.heap.size w w' := by
 have Ha := hide ha;have Hn := hide hn;have Hv := hide (fun (v : ByteArray) (hv : v ∈ l) W2 => ashort_two v (hsz v hv) W2);have ho0 := hide (own_made0 9 w);have hb0 := hide (bel_new1 w (.cells #[] 9));clear ha hn hsz
 go_enter Tryz.func40, Tryz.ntmps40
 go_wp2
 go_loopw [3, 4] (fun s3 s4 wr => ∃ i : Nat, i ≤ n ∧ s4 = .int .i64 (i : Int) ∧ Hid (wr.ownsRow w.heap.size 9 1 s3 i (svs (shortL (l.take i)))) ∧ Hid (Below w.heap.size w wr)) (fun _ s4 _ => (n - intOf s4).toNat)
 case atStart => exact ⟨0, Nat.zero_le _, rfl, ho0, hb0⟩
 case round =>
  clear ho0 hb0;obtain ⟨i, hi, rfl, hown, hb⟩ := hrel;obtain ⟨A5, M5, cap5, rfl⟩ := own_slice hown.out
  by_cases hlt : i < n
  ·have hil : i < l.length := by rw [← Hn.out]; exact hlt
   obtain ⟨b, o, rfl, hbl, hc⟩ := sv_cell (Ha.out.below hb.out) i hil;have htk : l.take (i + 1) = l.take i ++ [l[i]'hil] := List.take_succ_eq_append_getElem hil;have hmem : l[i]'hil ∈ l := List.getElem_mem _;obtain ⟨S, hS⟩ : ∃ S, l[i]'hil = S := ⟨_, rfl⟩;rw [hS] at hc htk hmem;have K := hide (Hv.out S hmem wr)
   have hi0 : (0 : Int) ≤ (i : Int) := by omega
   have hi1 : (i : Int) < (n : Int) := by omega
   obtain ⟨X, hX⟩ : ∃ X, bs (shr (toL S)) = X := ⟨_, rfl⟩;rw [hX] at K;have Hsn := hide (show shortL (l.take (i + 1)) = shortL (l.take i) ++ [X] by rw [htk, shortL_snoc, hX]);clear hil htk hmem hS Hv hX
   go_wp2_with fail
   refine (K.out).mono ?_;rintro x w1 ⟨rfl, hb1⟩;have hown1 := own_fr hown.out (Fr.of_below (S := nob) hb1) (fun _ _ f => f);have hbx := hb.out.trans (hb1.mono hb.out.size);obtain ⟨v', w4, hrun, hown4, hf4, _⟩ := app_own (P := Tryz.prog) 22 9 _ _ Tryz.underlying22 strinf rfl (w := w1) hown1 hbx hbx.size (.string X) rfl (by unfold maxLen; omega) (by omega);have Hrun := hide hrun;have Hown4 := hide (show w4.ownsRow w.heap.size 9 1 v' (i + 1) (svs (shortL (l.take (i + 1)))) by rw [Hsn.out, svs_snocB]; exact hown4);have Hf4 := hide hf4;clear hb1 K hown hb hc hrun hown4 hf4 hown1 hbx Hsn
   go_wp2_with (
    at_builtin
    refine wpList_run (by with_reducible rfl) rfl _ _ _ rfl _ _ (by rfl) (by rfl) Hrun.out ?_)
   refine ⟨⟨i + 1, hlt, by go_num, Hown4, Hf4⟩, ?_⟩
   simp [intOf] <;> omega
  ·have hin : i = n := by omega
   have hend : ¬ (i : Int) < (n : Int) := by omega
   have Hres : Hid (SRes wr (.slice A5 M5 cap5) (shortL l)) := hide (by
    have h1 := hown.out;rw [List.take_of_length_le (by rw [← Hn.out]; omega)] at h1
    exact own_sres (by rw [show (shortL l).length = i by unfold shortL; rw [List.length_map, ← Hn.out, hin]]; exact h1))
   clear hown hin Hv
   go_wp2
   go_returns
   exact ⟨_, rfl, Hres.out, hb.out⟩
def ExR (w : World) (o : Option (List ByteArray)) (x : Ending) (w' : World) : Prop := Below w.heap.size w w' ∧ match o with
 | none => ∃ A n c, x = .returned (.tuple #[.slice A n c, .bool false])
 | some r => ∃ A c, x = .returned (.tuple #[.slice A r.length c, .bool true]) ∧ At w' A (svs r)
theorem a14extend_any {w : World} {A : Option Addr} {l : List ByteArray} (ha : At w A (svs l)) (hsz : ∀ s ∈ l, s.size ≤ 1099511627776) (n cap : Nat) (hn : n = l.length) (hm : n ≤ 1000000) (W : Int) :
  Calls Tryz.prog 46 #[.int .i64 W, .slice A n cap] w fun x w' => ExR w (extL W l) x w' := by
 have Ha := hide ha;have Hn := hide hn;have Hv := hide (fun (v : ByteArray) (hv : v ∈ l) W2 => aext_two v (hsz v hv) W W2);have ho0 := hide (own_made0 9 w);have hb0 := hide (bel_new1 w (.cells #[] 9));have Hall := hide (fun (h : ∀ s ∈ l, (ext W (toL s)).2 = 0) => extL_all h);have Hbad := hide (fun (s : ByteArray) (hs : s ∈ l) (h : (ext W (toL s)).2 ≠ 0) => extL_bad hs h);obtain ⟨R, hR⟩ : ∃ R, extL W l = R := ⟨_, rfl⟩;rw [hR] at Hall Hbad ⊢;clear ha hn hsz hR
 go_enter Tryz.func46, Tryz.ntmps46
 go_wp2
 go_loopw [6, 7] (fun s3 s4 wr => ∃ i : Nat, i ≤ n ∧ s4 = .int .i64 (i : Int) ∧ Hid (∀ s ∈ l.take i, (ext W (toL s)).2 = 0) ∧ Hid (wr.ownsRow w.heap.size 9 1 s3 i (svs ((l.take i).map (fun s => bs (ext W (toL s)).1)))) ∧ Hid (Below w.heap.size w wr)) (fun _ s4 _ => (n - intOf s4).toNat)
 case atStart => exact ⟨0, Nat.zero_le _, rfl, hide (fun s hs => by simp at hs), ho0, hb0⟩
 case round =>
  clear ho0 hb0;obtain ⟨i, hi, rfl, hal, hown, hb⟩ := hrel;obtain ⟨A5, M5, cap5, rfl⟩ := own_slice hown.out
  by_cases hlt : i < n
  ·have hil : i < l.length := by rw [← Hn.out]; exact hlt
   obtain ⟨b, o, rfl, hbl, hc⟩ := sv_cell (Ha.out.below hb.out) i hil;have htk : l.take (i + 1) = l.take i ++ [l[i]'hil] := List.take_succ_eq_append_getElem hil;have hmem : l[i]'hil ∈ l := List.getElem_mem _;obtain ⟨S, hS⟩ : ∃ S, l[i]'hil = S := ⟨_, rfl⟩;rw [hS] at hc htk hmem;have K := hide (Hv.out S hmem wr)
   have hi0 : (0 : Int) ≤ (i : Int) := by omega
   have hi1 : (i : Int) < (n : Int) := by omega
   obtain ⟨⟨E, e⟩, hE⟩ : ∃ X, ext W (toL S) = X := ⟨_, rfl⟩;rw [hE] at K;simp only at K
   by_cases he : e = 0
   ·subst he
    have Hal := hide (show ∀ v ∈ l.take (i + 1), (ext W (toL v)).2 = 0 from fun v hx => by
     rw [htk] at hx
     rcases List.mem_append.1 hx with hx | hx
     ·exact hal.out v hx
     ·rw [List.mem_singleton.1 hx, hE])
    have Hsn := hide (show (l.take (i + 1)).map (fun s => bs (ext W (toL s)).1) = (l.take i).map (fun s => bs (ext W (toL s)).1) ++ [bs E] by rw [htk, List.map_append]; show _ ++ [bs (ext W (toL S)).1] = _; rw [hE]);obtain ⟨X, hX⟩ : ∃ X, bs E = X := ⟨_, rfl⟩;rw [hX] at K Hsn;clear hil htk hmem hS hal hE Hv hX Hbad
    go_wp2_with fail
    refine (K.out).mono ?_;rintro x w1 ⟨rfl, hb1⟩;have hown1 := own_fr hown.out (Fr.of_below (S := nob) hb1) (fun _ _ f => f);have hbx := hb.out.trans (hb1.mono hb.out.size);obtain ⟨v', w4, hrun, hown4, hf4, _⟩ := app_own (P := Tryz.prog) 22 9 _ _ Tryz.underlying22 strinf rfl (w := w1) hown1 hbx hbx.size (.string X) rfl (by unfold maxLen; omega) (by omega);have Hrun := hide hrun;have Hown4 := hide (show w4.ownsRow w.heap.size 9 1 v' (i + 1) (svs ((l.take (i + 1)).map (fun s => bs (ext W (toL s)).1))) by rw [Hsn.out, svs_snocB]; exact hown4);have Hf4 := hide hf4;clear hb1 K hown hb hc hrun hown4 hf4 hown1 hbx Hsn
    go_wp2_with (
     at_builtin
     refine wpList_run (by with_reducible rfl) rfl _ _ _ rfl _ _ (by rfl) (by rfl) Hrun.out ?_)
    refine ⟨⟨i + 1, hlt, by go_num, Hal, Hown4, Hf4⟩, ?_⟩
    simp [intOf] <;> omega
   ·have Hno := hide (Hbad.out S hmem (by rw [hE]; exact he))
    have hne : ((e : Int) != 0) = true := by rw [bne_iff_ne]; omega
    clear hil htk hmem hS hal hE Hv Hbad he Hall
    generalize bs E = X at *
    go_wp2_with fail
    refine (K.out).mono ?_;rintro x w1 ⟨rfl, hb1⟩;have hbx := hb.out.trans (hb1.mono hb.out.size);clear K hb1 hb hown hc
    go_wp2
    go_returns
    refine ⟨hbx, ?_⟩;rw [Hno.out];exact ⟨_, _, _, rfl⟩
  ·have hin : i = n := by omega
   have hend : ¬ (i : Int) < (n : Int) := by omega
   have hal2 := hal.out;rw [List.take_of_length_le (by rw [← Hn.out]; omega)] at hal2;have HR := hide (Hall.out hal2)
   have Hres : Hid (SRes wr (.slice A5 M5 cap5) (l.map (fun s => bs (ext W (toL s)).1))) := hide (by
    have h1 := hown.out;rw [List.take_of_length_le (by rw [← Hn.out]; omega)] at h1
    exact own_sres (by rw [List.length_map, ← Hn.out, ← hin]; exact h1))
   clear hown hin Hv hal hal2 Hall Hbad
   go_wp2
   go_returns
   obtain ⟨A6, c6, hv6, hat6⟩ := Hres.out;refine ⟨hb.out, ?_⟩;rw [HR.out];exact ⟨A6, c6, congrArg (fun z => Ending.returned (.tuple #[z, .bool true])) hv6, hat6⟩
theorem a14zeros_any (n : Int) (w : World) : Calls Tryz.prog 47 #[.int .i64 n] w fun x w' => x = .returned (.string (bs (allV n 48))) ∧ Below w.heap.size w w' := by
 have K := hide (aall_any n 48 w);rw [u48] at K
 generalize bs (allV n 48) = X at *
 go_enter Tryz.func47, Tryz.ntmps47
 go_wp2_with fail
 refine (K.out).mono ?_;rintro x w1 ⟨rfl, hb1⟩
 go_wp2
 go_returns
 exact ⟨rfl, hb1⟩
theorem a14mixed_any {w : World} {A : Option Addr} {l : List ByteArray} (ha : At w A (svs l)) (hsz : ∀ s ∈ l, s.size ≤ 1099511627776) (n cap : Nat) (hn : n = l.length) (hm : n ≤ 1000000) (W : Int) :
  Calls Tryz.prog 41 #[.int .i64 W, .slice A n cap] w fun x w' => ∃ v, x = .returned v ∧ SRes w' v (mixL (bs (allV W 48)) l) ∧ Below w.heap.size w w' := by
 have Ha := hide ha;have Hn := hide hn;have Hsz := hide hsz;have ho0 := hide (own_made0 9 w);have hb0 := hide (bel_new1 w (.cells #[] 9));have Hz := hide (fun W2 => a14zeros_any W W2)
 have hz1 : (bs (allV W 48)).size ≤ 1099511627776 := by have := allV_len W 48; rw [bs_size]; omega
 obtain ⟨Z, hZ⟩ : ∃ Z, bs (allV W 48) = Z := ⟨_, rfl⟩;rw [hZ] at Hz hz1 ⊢;clear ha hn hsz hZ
 go_enter Tryz.func41, Tryz.ntmps41
 go_wp2_with fail
 refine (Hz.out _).mono ?_;rintro x w1 ⟨rfl, hb1⟩;have Ho1 := hide (own_fr ho0.out (Fr.of_below (S := nob) hb1) (fun _ _ f => f));have Hb1 := hide (hb0.out.trans (hb1.mono hb0.out.size));clear hb1 ho0 hb0 Hz
 go_wp2
 go_loopw [5, 6, 7] (fun s3 s6 s4 wr => ∃ (i : Nat) (last : ByteArray), i ≤ n ∧ s4 = .int .i64 (i : Int) ∧ s6 = .string last ∧ last.size ≤ 1099511627776 ∧ Hid (mixL Z l = mixL Z (l.take i) ++ mixL last (l.drop i)) ∧ Hid (wr.ownsRow w.heap.size 9 1 s3 i (svs (mixL Z (l.take i)))) ∧ Hid (Below w.heap.size w wr)) (fun _ _ s4 _ => (n - intOf s4).toNat)
 case atStart => exact ⟨0, Z, Nat.zero_le _, rfl, rfl, hz1, hide rfl, Ho1, Hb1⟩
 case round =>
  clear Ho1 Hb1;obtain ⟨i, last, hi, rfl, rfl, hls, hmx, hown, hb⟩ := hrel;obtain ⟨A5, M5, cap5, rfl⟩ := own_slice hown.out
  by_cases hlt : i < n
  ·have hil : i < l.length := by rw [← Hn.out]; exact hlt
   obtain ⟨b, o, rfl, hbl, hc0⟩ := sv_cell Ha.out i hil;have htk : l.take (i + 1) = l.take i ++ [l[i]'hil] := List.take_succ_eq_append_getElem hil;have hd : l.drop i = l[i]'hil :: l.drop (i + 1) := List.drop_eq_getElem_cons hil;have hmem : l[i]'hil ∈ l := List.getElem_mem _
   have hcb : ∀ W2, Below w.heap.size w W2 → W2.cell? ⟨b, o + i, none⟩ = some (.string (l[i]'hil)) := fun W2 h => (h.cell (p := ⟨b, o + i, none⟩) hbl).trans hc0
   have hc := hcb wr hb.out;obtain ⟨S, hS⟩ : ∃ S, l[i]'hil = S := ⟨_, rfl⟩;rw [hS] at hc htk hmem hd;simp only [hS] at hcb;have hSs := Hsz.out S hmem;have K := hide (amix_two last S hls hSs wr)
   have hi0 : (0 : Int) ≤ (i : Int) := by omega
   have hi1 : (i : Int) < (n : Int) := by omega
   obtain ⟨⟨E, e⟩, hE⟩ : ∃ X, mixV (toL S) (toL last) = X := ⟨_, rfl⟩;rw [hE] at K;simp only at K;have hm1 := hmx.out;rw [hd] at hm1
   have hm2 : mixL last (S :: l.drop (i + 1)) = bs E :: mixL S (l.drop (i + 1)) := by
    show bs (mixV (toL S) (toL last)).1 :: _ = _
    rw [hE]
   rw [hm2] at hm1
   have hm3 : mixL Z (l.take (i + 1)) = mixL Z (l.take i) ++ [bs E] := by
    have hlen : (mixL Z (l.take i)).length = i := by rw [mixL_len, List.length_take]; omega
    have hx : ∀ (L : List ByteArray) (z : ByteArray) (k : Nat), (mixL z L).take k = mixL z (L.take k) := by
     intro L
     induction L with
     | nil => intro z k; simp [mixL]
     | cons v r ih =>
      intro z k
      cases k with
      | zero => rfl
      | succ k => show _ :: (mixL v r).take k = _ :: mixL v (r.take k); rw [ih]
    rw [← hx l Z (i + 1), hm1, List.take_append, List.take_of_length_le (by omega), hlen, show i + 1 - i = 1 by omega];rfl
   obtain ⟨X, hX⟩ : ∃ X, bs E = X := ⟨_, rfl⟩;rw [hX] at K hm3 hm1;have Hm3 := hide hm3;have Hm1 := hide (show mixL Z l = mixL Z (l.take (i + 1)) ++ mixL S (l.drop (i + 1)) by rw [hm3, hm1, List.append_assoc]; rfl);have Hcb := hide hcb;clear hil htk hmem hS hd hE hX hm1 hm2 hm3 hmx hc0 hcb Hsz
   go_wp2_with fail
   refine (K.out).mono ?_;rintro x w1 ⟨rfl, hb1⟩;have hown1 := own_fr hown.out (Fr.of_below (S := nob) hb1) (fun _ _ f => f);have hbx := hb.out.trans (hb1.mono hb.out.size);have hc1 := Hcb.out w1 hbx;have hc2 := Hcb.out (w1.alloc (.cells #[.string X] 9)) (hbx.alloc hbx.size _);obtain ⟨v', w4, hrun, hown4, hf4, _⟩ := app_own (P := Tryz.prog) 22 9 _ _ Tryz.underlying22 strinf rfl (w := w1.drew) hown1.drew hbx.drew hbx.size (.string X) rfl (by unfold maxLen; omega) (by omega);obtain ⟨A6, M6, cap6, rfl⟩ := own_slice hown4;have Hrun := hide (show (Builtin.append_ #[22, 22] 22 #[.slice A5 M5 cap5, .slice (some ⟨w1.heap.size, 0, none⟩) 1 1]).run Tryz.prog (w1.alloc (.cells #[.string X] 9)).drew = .ok (.slice A6 M6 cap6) w4 from hrun);have Hown4 := hide (show w4.ownsRow w.heap.size 9 1 (.slice A6 M6 cap6) (i + 1) (svs (mixL Z (l.take (i + 1)))) by rw [Hm3.out, svs_snocB]; exact hown4);have Hf4 := hide hf4;have hc4 := Hcb.out w4 hf4;have hnew := World.new_ne _ _ hc1;clear hb1 K hown hb hc hrun hown4 hf4 hown1 hbx Hm3 Hcb
   go_wp2
   go_region_law ((refine step_runW (by with_reducible rfl) (by rfl) _ _ _ (by rfl) _ _ (by rfl) (by rfl) Hrun.out ?_))
   all_goals
    go_wp2
    refine ⟨⟨i + 1, S, hlt, by go_num, rfl, hSs, Hm1, Hown4, Hf4⟩, ?_⟩
    simp [intOf] <;> omega
  ·have hin : i = n := by omega
   have hend : ¬ (i : Int) < (n : Int) := by omega
   have Hres : Hid (SRes wr (.slice A5 M5 cap5) (mixL Z l)) := hide (by
    have h1 := hown.out;rw [List.take_of_length_le (by rw [← Hn.out]; omega)] at h1
    exact own_sres (by rw [mixL_len, ← Hn.out, ← hin]; exact h1))
   clear hown hin hmx Hsz
   go_wp2
   go_returns
   exact ⟨_, rfl, Hres.out, hb.out⟩
theorem stepB_sizeA (l : List ByteArray) : (stepB l).size ≤ 128 := by
 have := stepB_cases l;rw [← toL_length]
 rcases this with h | ⟨_, _, h, _⟩
 ·rw [h]; exact Nat.zero_le _
 ·exact (knV_iff.1 h).2.2
theorem a14dif_any {w : World} {A : Option Addr} {l : List ByteArray} (ha : At w A (svs l)) (hsz : ∀ s ∈ l, s.size ≤ 1099511627776) (n cap : Nat) (hn : n = l.length) (hm : n ≤ 4096) :
  Calls Tryz.prog 33 #[.slice A n cap] w fun x w' => ∃ v, x = .returned v ∧ SRes w' v (difs l) ∧ Below w.heap.size w w' := by
 have Ha := hide ha;have Hn := hide hn;have Hd := hide (fun (v u : ByteArray) (hv : v ∈ l) (hu : u ∈ l) W2 => adif_two v u (hsz v hv) (hsz u hu) W2);have Hds := hide (fun k => difP_len l k);have ho0 := hide (own_made0 9 w);have hb0 := hide (bel_new1 w (.cells #[] 9));clear ha hn hsz
 go_enter Tryz.func33, Tryz.ntmps33
 go_wp2
 go_loopw [3, 4] (fun s4 s5 wr => ∃ k : Nat, (k = 0 ∨ k + 1 ≤ n) ∧ s5 = .int .i64 ((k : Int) + 1) ∧ Hid (wr.ownsRow w.heap.size 9 1 s4 (difP l k).length (svs (difP l k))) ∧ Hid (Below w.heap.size w wr)) (fun _ s5 _ => (n - intOf s5).toNat)
 case atStart => exact ⟨0, .inl rfl, rfl, ho0, hb0⟩
 case round =>
  clear ho0 hb0;obtain ⟨k, hk, rfl, hown, hb⟩ := hrel;obtain ⟨A5, M5, cap5, rfl⟩ := own_slice hown.out
  by_cases hlt : k + 1 < n
  ·have hil : k + 1 < l.length := by rw [← Hn.out]; exact hlt
   have hil0 : k < l.length := by omega
   have hat1 := Ha.out.below hb.out;obtain ⟨b, o, he1, hbl, hc⟩ := sv_cell hat1 k hil0;obtain ⟨b2, o2, he2, _, hc2⟩ := sv_cell hat1 (k + 1) hil;subst he1
   injection he2 with he2
   injection he2 with h1 h2
   subst h1; subst h2
   have Hv1 := hide (Hd.out l[k] l[k + 1] (List.getElem_mem _) (List.getElem_mem _));have hsu := difP_succ l k;unfold dAt at hsu;rw [getD_at hil0, getD_at hil] at hsu;have hle1 := Hds.out k;obtain ⟨S1, hS1⟩ : ∃ S, l[k] = S := ⟨_, rfl⟩;obtain ⟨S2, hS2⟩ : ∃ S, l[k + 1] = S := ⟨_, rfl⟩;rw [hS1] at hc Hv1 hsu;rw [hS2] at hc2 Hv1 hsu;obtain ⟨⟨r, q⟩, hr⟩ : ∃ r, difV (toL S1) (toL S2) = r := ⟨_, rfl⟩;rw [hr] at Hv1 hsu;simp only at Hv1 hsu;obtain ⟨X, hX⟩ : ∃ X, bs r = X := ⟨_, rfl⟩;rw [hX] at Hv1 hsu;have Hlk := hide (show (difP l k).length + 1 ≤ 4096 by omega);have Hsu := hide hsu
   have i1 : IntKind.i64.wrap ((k : Int) + 1 - 1) = (k : Int) := by rw [IntWalk.i64_in _ (by omega)]; omega
   have ij : IntKind.i64.wrap (k : Int) = (k : Int) := by rw [IntWalk.i64_in _ (by omega)]
   have hk0 : (0 : Int) ≤ (k : Int) := by omega
   have hk1 : (k : Int) < (n : Int) := by omega
   have hk2 : (k : Int) + 1 < (n : Int) := by omega
   have hk3 : (0 : Int) ≤ (k : Int) + 1 := by omega
   have e2 : ((k : Int) + 1).toNat = k + 1 := by omega
   clear hil hil0 hat1 hS1 hS2 hr hX hsu hle1
   go_upto_region 5 with fail
   go_cut [5, 6] (fun s6 s7 wx => s6 = .string X ∧ s7 = .bool q ∧ Hid (Below wr.heap.size wr wx))
   case first =>
    clear hown hb
    go_region_with ((go_at_call 60; with_reducible refine (Hv1.out _).mono ?_; rintro r w9 ⟨rfl, hb9⟩))
    all_goals
     go_wp2
     go_meet
     case rel => exact ⟨rfl, rfl, hide (((Below.refl wr.heap.size wr).drew).trans hb9)⟩
   case rest =>
    obtain ⟨rfl, rfl, hb9⟩ := hcut;have hownx := own_fr hown.out (Fr.of_below (S := nob) hb9.out) (fun _ _ f => f);have hbx := hb.out.trans (hb9.out.mono hb.out.size)
    cases q with
    | false =>
     have Hex := hide (show difP l (k + 1) = difP l k by have := Hsu.out; simpa using this);have Hownx := hide hownx;have Hbx := hide hbx;clear hownx hbx hown hb hb9 hc hc2 Hv1 i1 ij e2
     go_wp2
     refine ⟨⟨k + 1, .inr hlt, by go_num, by rw [Hex.out]; exact Hownx, Hbx⟩, ?_⟩
     simp [intOf] <;> omega
    | true =>
     have Hex := hide (show difP l (k + 1) = difP l k ++ [X] by have := Hsu.out; simpa using this);obtain ⟨v', w4, hrun, hown4, hf4, _⟩ := app_own (P := Tryz.prog) 22 9 _ _ Tryz.underlying22 strinf rfl hownx hbx hbx.size (.string X) rfl (by have := Hlk.out; unfold maxLen; omega) (by have := Hlk.out; omega);have Hrun := hide hrun
     have Hown5 := hide (show w4.ownsRow w.heap.size 9 1 v' (difP l (k + 1)).length (svs (difP l (k + 1))) by
      rw [Hex.out, svs_snocB, List.length_append]
      exact hown4)
     have Hf4 := hide hf4;clear hownx hbx hown hb hb9 hc hc2 Hv1 i1 ij e2 hrun hown4 hf4 Hex
     go_wp2_with (
      at_builtin
      refine wpList_run (by with_reducible rfl) rfl _ _ _ rfl _ _ (by rfl) (by rfl) Hrun.out ?_)
     refine ⟨⟨k + 1, .inr hlt, by go_num, Hown5, Hf4⟩, ?_⟩
     simp [intOf] <;> omega
  ·have hkn : n - 1 = k := by omega
   have hlt2 : ¬ (k : Int) + 1 < (n : Int) := by omega
   have Hres : Hid (SRes wr (.slice A5 M5 cap5) (difs l)) := hide (by
    unfold difs;rw [← Hn.out, hkn]
    exact own_sres hown.out)
   clear hown hkn Hd
   go_wp2
   go_returns
   exact ⟨_, rfl, Hres.out, hb.out⟩
theorem count_take (D : List ByteArray) (d : ByteArray) (k : Nat) (h : k < D.length) : (D.take (k + 1)).count d = (D.take k).count d + if D[k]'h = d then 1 else 0 := by
 rw [List.take_succ_eq_append_getElem h, List.count_append, List.count_singleton]
 congr 1
 by_cases hd : D[k]'h = d
 ·rw [if_pos hd, if_pos (by simpa using hd)]
 ·rw [if_neg hd, if_neg (by simpa using hd)]
theorem a14step_any {w : World} {A : Option Addr} {l : List ByteArray} (ha : At w A (svs l)) (hsz : ∀ s ∈ l, s.size ≤ 1099511627776) (n cap : Nat) (hn : n = l.length) (hm : n ≤ 4096) :
  Calls Tryz.prog 16 #[.slice A n cap] w fun x w' => x = .returned (.string (stepB l)) ∧ Below w.heap.size w w' := by
 rcases Nat.eq_zero_or_pos n with h0 | hpos
 ·subst h0
  have hl : l = [] := List.eq_nil_of_length_eq_zero hn.symm
  have hs : stepB l = ⟨#[]⟩ := by unfold stepB; rw [if_pos (.inl hl)]; rfl
  rw [hs];clear ha hsz hn hl hs
  go_enter Tryz.func16, Tryz.ntmps16
  go_wp2
  go_returns
  exact ⟨rfl, Below.refl _ _⟩
 ·have hl0 : 0 < l.length := by omega
  obtain ⟨b0, o0, hA, hb0, hc0⟩ := sv_cell ha 0 hl0;have hg0 : l.getD 0 default = l[0]'hl0 := getD_at hl0;have HV := hide (a14valid_any ha hsz n cap hn (by omega) ((l.getD 0 default).size : Int));rw [hg0] at HV;subst hA;have hc0' : w.cell? ⟨b0, o0, none⟩ = some (.string (l[0]'hl0)) := hc0
  have hnl : l ≠ [] := fun e => by rw [e] at hl0; exact absurd hl0 (Nat.lt_irrefl _)
  have hpi : (0 : Int) < (n : Int) := by omega
  have hne : ((n : Int) == 0) = false := by rw [beq_eq_false_iff_ne]; omega
  cases hv : validB ((l[0]'hl0).size : Int) l with
  | false =>
   have hs : stepB l = ⟨#[]⟩ := by unfold stepB; rw [hg0, if_pos (.inr hv)]; rfl
   rw [hs];rw [hv] at HV
   generalize l[0]'hl0 = S0 at *
   clear ha hsz hn hs hv hg0 hc0 hnl hl0
   go_enter Tryz.func16, Tryz.ntmps16
   go_wp2_with fail
   refine (HV.out).mono ?_;rintro x w1 ⟨rfl, rfl⟩
   go_wp2
   go_returns
   exact ⟨rfl, Below.refl _ _⟩
  | true =>
   have hs : stepB l = stepOf (difs l) := by unfold stepB; rw [hg0, if_neg (by rintro (h | h); exact hnl h; rw [hv] at h; cases h)]
   rw [hs, stepOf_fold];rw [hv] at HV;have HD := hide (a14dif_any ha hsz n cap hn hm)
   have hdl : (difs l).length ≤ 4096 := by have := difP_len l (l.length - 1); unfold difs; omega
   generalize l[0]'hl0 = S0 at *
   generalize difs l = D at *
   obtain ⟨R, hR⟩ : ∃ R, D.foldl (bstep (fun d => D.count d)) (bs [], 0) = R := ⟨_, rfl⟩;have HR := hide hR;rw [hR];clear ha hsz hn hs hv hg0 hc0 hnl hl0 hR
   go_enter Tryz.func16, Tryz.ntmps16
   go_wp2_with fail
   refine (HV.out).mono ?_;rintro x w1 ⟨rfl, rfl⟩;clear HV
   go_wp2_with fail
   refine (HD.out).mono ?_;rintro x w2 ⟨v, rfl, ⟨A2, cap2, rfl, hat⟩, hb2⟩;have Hat := hide hat;have Hb2 := hide hb2;obtain ⟨K, hK⟩ : ∃ K, D.length = K := ⟨_, rfl⟩;have HK := hide hK;rw [hK] at hdl ⊢;clear HD hat hb2 hc0' hK
   go_wp2
   go_loopw [4, 5, 6] (fun s4 s5 s6 wr => ∃ (i : Nat) (p : ByteArray × Nat) (q : Nat), i ≤ K ∧ s6 = .int .i64 (i : Int) ∧ s4 = .string p.1 ∧ s5 = .int .i64 (p.2 : Int) ∧ Hid ((D.take i).foldl (bstep (fun d => D.count d)) (bs [], 0) = p) ∧ wr = w2.drewN q) (fun _ _ s6 _ => (K - intOf s6).toNat)
   case atStart => exact ⟨0, (bs [], 0), 0, Nat.zero_le _, rfl, rfl, rfl, hide rfl, rfl⟩
   case round =>
    obtain ⟨i, p, q, hi, rfl, rfl, rfl, hp, rfl⟩ := hrel
    by_cases hlt : i < K
    ·have hiD : i < D.length := by rw [HK.out]; exact hlt
     obtain ⟨b, o, rfl, hbl, hci⟩ := sv_cell Hat.out i hiD;have hft := fold_take (bstep (fun d => D.count d)) (bs [], 0) D i hiD;rw [hp.out] at hft;obtain ⟨d, hd⟩ : ∃ d, D[i]'hiD = d := ⟨_, rfl⟩;rw [hd] at hci hft
     have Hcell := hide (fun k (hk : k < D.length) => by
      obtain ⟨b', o', e', _, hc'⟩ := sv_cell Hat.out k hk
      injection e' with e'
      injection e' with e1 e2
      subst e1; subst e2
      exact hc' : ∀ k (hk : k < D.length), w2.cell? ⟨b, o + k, none⟩ = some (.string (D[k]'hk)))
     have Hct := hide (fun k (hk : k < D.length) => count_take D d k hk);have Hft := hide hft
     have hlti : (i : Int) < (K : Int) := by omega
     have hlti0 : (0 : Int) ≤ (i : Int) := by omega
     obtain ⟨best, most⟩ := p;simp only;clear hiD hft hd hp
     go_wp2
     go_loopw [7, 8] (fun s7 s8 wr => ∃ (k q2 : Nat), k ≤ K ∧ s8 = .int .i64 (k : Int) ∧ s7 = .int .i64 ((D.take k).count d : Int) ∧ (D.take k).count d ≤ k ∧ wr = w2.drewN q2) (fun _ s8 _ => (K - intOf s8).toNat)
     case atStart => exact ⟨0, q, Nat.zero_le _, rfl, rfl, Nat.le_refl _, rfl⟩
     case round =>
      obtain ⟨k, q2, hk, rfl, rfl, hcl, rfl⟩ := hrel
      by_cases hlk : k < K
      ·have hkD : k < D.length := by rw [HK.out]; exact hlk
       have hck := Hcell.out k hkD;have hct := Hct.out k hkD;obtain ⟨e, he⟩ : ∃ d, D[k]'hkD = d := ⟨_, rfl⟩;rw [he] at hck hct;have hcmp := str_eq (a := e) (b := d)
       have hlki : (k : Int) < (K : Int) := by omega
       have hlki0 : (0 : Int) ≤ (k : Int) := by omega
       by_cases hed : e = d
       ·rw [decide_eq_true hed] at hcmp
        rw [if_pos hed] at hct;have Hct2 := hide hct
        have hcl2 : (D.take (k + 1)).count d ≤ k + 1 := by omega
        have Hcl2 := hide hcl2;obtain ⟨C, hC⟩ : ∃ c, (D.take k).count d = c := ⟨_, rfl⟩;rw [hC] at hcl Hct2 ⊢;clear hkD he hct hed hC hcl2 Hcell Hct Hft
        go_wp2
        go_quiet (fail)
        go_wp2
        refine ⟨⟨k + 1, q2 + nq, hlk, by go_num, by rw [Hct2.out]; go_num, Hcl2.out, by first | rfl | rw [World.drewN_drewN]⟩, ?_⟩
        simp [intOf] <;> omega
       ·rw [decide_eq_false hed] at hcmp
        rw [if_neg hed] at hct;have Hct2 := hide hct;have Hcl2 := hide (show (D.take (k + 1)).count d ≤ k + 1 by omega);obtain ⟨C, hC⟩ : ∃ c, (D.take k).count d = c := ⟨_, rfl⟩;rw [hC] at hcl Hct2 ⊢;clear hkD he hct hed hC Hcell Hct Hft
        go_wp2
        go_quiet (fail)
        go_wp2
        refine ⟨⟨k + 1, q2 + nq, hlk, by go_num, by rw [Hct2.out]; rfl, Hcl2.out, by first | rfl | rw [World.drewN_drewN]⟩, ?_⟩
        simp [intOf] <;> omega
      ·have hkK : k = K := by omega
       have hDk : D.take k = D := List.take_of_length_le (by rw [HK.out]; omega)
       have hend : ¬ (k : Int) < (K : Int) := by omega
       have hft := Hft.out;rw [hDk] at hcl ⊢;have hci2 : (w2.drewN q2).cell? ⟨b, o + i, none⟩ = some (.string d) := hci;unfold bstep at hft;simp only at hft;obtain ⟨C, hC⟩ : ∃ c, D.count d = c := ⟨_, rfl⟩;rw [hC] at hft hcl ⊢
       by_cases hmo : most < C
       ·rw [if_pos hmo] at hft
        have Hf := hide hft
        have hmoi : (most : Int) < (C : Int) := by omega
        clear hft hkK hDk hC hmo Hcell Hct Hft
        go_wp2
        refine ⟨⟨i + 1, (d, C), q2, hlt, by go_num, rfl, rfl, Hf, rfl⟩, ?_⟩
        simp [intOf] <;> omega
       ·rw [if_neg hmo] at hft
        have Hf := hide hft
        have hmoi : ¬ (most : Int) < (C : Int) := by omega
        clear hft hkK hDk hC hmo Hcell Hct Hft
        go_wp2
        refine ⟨⟨i + 1, (best, most), q2, hlt, by go_num, rfl, rfl, Hf, rfl⟩, ?_⟩
        simp [intOf] <;> omega
    ·have hiK : i = K := by omega
     have hend : ¬ (i : Int) < (K : Int) := by omega
     have Hf := hide (show R.1 = p.1 by rw [← HR.out, ← hp.out, List.take_of_length_le (by rw [HK.out]; omega)]);clear hiK hp
     go_wp2
     go_returns
     exact ⟨ret_str Hf.out.symm, bdN Hb2.out q⟩
theorem a14exc_any {w : World} {A : Option Addr} {l : List ByteArray} (ha : At w A (svs l)) (hsz : ∀ s ∈ l, s.size ≤ 1099511627776) (n cap : Nat) (hn : n = l.length) (hm : n ≤ 4096) :
  Calls Tryz.prog 71 #[.slice A n cap] w fun x w' => ∃ v, x = .returned v ∧ IRes w' v (exI l (stepB l)) ∧ Below w.heap.size w w' := by
 have HSt := hide (fun W2 (h : At W2 A (svs l)) => a14step_any h hsz n cap hn hm)
 have hst : (stepB l).size ≤ 1099511627776 := by have := stepB_sizeA l; omega
 obtain ⟨st, hste⟩ : ∃ s, stepB l = s := ⟨_, rfl⟩;rw [hste] at HSt hst ⊢;have Ha := hide ha;have Hn := hide hn;have Hv := hide (fun (v : ByteArray) (hv : v ∈ l) W2 => aadd_two v st (hsz v hv) hst W2);have hoA := own_made0 3 w;have hbA := bel_new1 w (.cells #[] 3);have K0 := hide (HSt.out _ (ha.below hbA));have HoA := hide hoA;have HbA := hide hbA;clear ha hn hsz hst hste HSt hoA hbA
 go_enter Tryz.func71, Tryz.ntmps71
 go_wp2_with fail
 refine (K0.out).mono ?_;rintro x w0 ⟨rfl, hb0'⟩;have ho0 := hide (own_fr HoA.out (Fr.of_below (S := nob) hb0') (fun _ _ f => f));have hb0 := hide (HbA.out.trans (hb0'.mono HbA.out.size));clear hb0' HoA HbA K0
 go_wp2
 go_loopw [3, 5] (fun s5 s6 wr => ∃ k : Nat, (k = 0 ∨ k + 1 ≤ n) ∧ s6 = .int .i64 ((k : Int) + 1) ∧ Hid (wr.ownsRow w.heap.size 3 1 s5 (exP l st k).length (ivs (exP l st k))) ∧ Hid (Below w.heap.size w wr)) (fun _ s6 _ => (n - intOf s6).toNat)
 case atStart => exact ⟨0, .inl rfl, rfl, ho0, hb0⟩
 case round =>
  clear ho0 hb0;obtain ⟨k, hk, rfl, hown, hb⟩ := hrel;obtain ⟨A5, M5, cap5, rfl⟩ := own_slice hown.out
  by_cases hlt : k + 1 < n
  ·have hil : k + 1 < l.length := by rw [← Hn.out]; exact hlt
   have hil0 : k < l.length := by omega
   obtain ⟨b, o, rfl, hbl, hc⟩ := sv_cell (Ha.out.below hb.out) k hil0
   have hc1' : ∀ W2, Below wr.heap.size wr W2 → W2.cell? ⟨b, o + (k + 1), none⟩ = some (.string l[k + 1]) := fun W2 hW => by
    obtain ⟨b2, o2, he, _, hc2⟩ := sv_cell ((Ha.out.below hb.out).mono (Nat.le_refl _) hW) (k + 1) hil
    injection he with he
    injection he with h1 h2
    subst h1; subst h2
    exact hc2
   have Hc1 := hide hc1';have Hv1 := hide (Hv.out l[k] (List.getElem_mem _))
   have hok : okA l st k = decide (addV (toL l[k]) (toL st) = (toL l[k + 1], true)) := by
    unfold okA;rw [getD_at hil0, getD_at hil]
   have hsu := exP_succ l st k;have hle := exP_len l st k;obtain ⟨S0, hS0⟩ : ∃ S, l[k] = S := ⟨_, rfl⟩;obtain ⟨S1, hS1⟩ : ∃ S, l[k + 1] = S := ⟨_, rfl⟩;rw [hS0] at hc Hv1 hok;rw [hS1] at Hc1 hok;obtain ⟨⟨r, q⟩, hr⟩ : ∃ r, addV (toL S0) (toL st) = r := ⟨_, rfl⟩;rw [hr] at Hv1 hok;simp only at Hv1
   have hok2 : okA l st k = (q && decide (bs r = S1)) := by
    rw [hok, Bool.eq_iff_iff, Bool.and_eq_true, decide_eq_true_iff, decide_eq_true_iff, Prod.mk.injEq]
    constructor
    ·rintro ⟨h1, h2⟩; exact ⟨h2, by rw [h1, bs_toL]⟩
    ·rintro ⟨h1, h2⟩; exact ⟨by rw [← h2, toL_bs], h1⟩
   have Hok := hide hok2;have Hsu := hide hsu
   have hr1 : ∀ X : ByteArray, bs r = X → (if q = true ∧ X = S1 then exP l st (k + 1) = exP l st k else exP l st (k + 1) = exP l st k ++ [(k : Int) + 1]) := fun X hX => by
    subst hX;rw [Hsu.out, Hok.out]
    by_cases hq : q = true
    ·by_cases hx : bs r = S1
     ·rw [if_pos ⟨hq, hx⟩, hq, decide_eq_true hx]; rfl
     ·rw [if_neg (fun h => hx h.2), decide_eq_false hx, Bool.and_false, if_neg (by simp)]
    ·rw [if_neg (fun h => hq h.1), if_neg (by simp [hq])]
   obtain ⟨X, hX⟩ : ∃ X, bs r = X := ⟨_, rfl⟩;have Hr1 := hide (hr1 X hX);rw [hX] at Hv1
   have hlenk : (exP l st k).length + 1 ≤ 4096 := by omega
   have Hlk := hide hlenk
   have i1 : IntKind.i64.wrap ((k : Int) + 1 - 1) = (k : Int) := by rw [IntWalk.i64_in _ (by omega)]; omega
   have hk0 : (0 : Int) ≤ (k : Int) := by omega
   have hk1 : (k : Int) < (n : Int) := by omega
   have hk2 : (k : Int) + 1 < (n : Int) := by omega
   have e1 : (k : Int) + 1 - 1 = (k : Int) := by omega
   clear hil hil0 hS0 hS1 hr hok hok2 hr1 hX hsu hle Hok Hsu hlenk hc1'
   go_wp2_with fail
   refine (Hv1.out _).mono ?_;rintro x w1 ⟨rfl, hb1⟩;have hc1 := Hc1.out w1 hb1
   have hc1b : w1.cell? ⟨b, o + ((k : Int) + 1).toNat, none⟩ = some (.string S1) := by
    rw [show ((k : Int) + 1).toNat = k + 1 by omega]; exact hc1
   have e2 : ((k : Int) + 1).toNat = k + 1 := by omega
   have hown1 := own_fr hown.out (Fr.of_below (S := nob) hb1) (fun _ _ f => f);have Hb1 := hide (hb.out.trans (hb1.mono hb.out.size));obtain ⟨v', w4, hrun, hown4, hf4, _⟩ := app_own (P := Tryz.prog) 85 3 _ _ Tryz.underlying85 intinf rfl (w := w1) hown1 Hb1.out Hb1.out.size (.int .i64 ((k : Int) + 1)) rfl (by have := Hlk.out; unfold maxLen; omega) (by have := Hlk.out; omega);have Hrun := hide hrun;have Hown4 := hide hown4;have Hf4 := hide hf4;have Hown1 := hide hown1;clear hb1 Hv1 hown hb hc Hc1 hrun hown4 hf4 hown1
   cases q with
   | false =>
    have Hex := hide (show exP l st (k + 1) = exP l st k ++ [(k : Int) + 1] by
     have := Hr1.out
     rwa [if_neg (by simp)] at this)
    have Hown5 := hide (show w4.ownsRow w.heap.size 3 1 v' (exP l st (k + 1)).length (ivs (exP l st (k + 1))) by
     rw [Hex.out, ivs_snocB, List.length_append]
     exact Hown4.out)
    clear Hown1 Hown4 Hex hc1 hc1b Hr1
    go_wp2_with (
     at_builtin
     refine wpList_run (by with_reducible rfl) rfl _ _ _ rfl _ _ (by rfl) (by rfl) Hrun.out ?_)
    refine ⟨⟨k + 1, .inr hlt, by go_num, Hown5, Hf4⟩, ?_⟩
    simp [intOf] <;> omega
   | true =>
    by_cases hx : X = S1
    ·have Hex := hide (show exP l st (k + 1) = exP l st k by
      have := Hr1.out
      rwa [if_pos ⟨rfl, hx⟩] at this)
     have hne : (X.toList != S1.toList) = false := by rw [str_ne, hx]; simp
     have heq : (X.toList == S1.toList) = true := by rw [str_eq, hx]; simp
     have Hown5 := hide (show w1.ownsRow w.heap.size 3 1 (.slice A5 M5 cap5) (exP l st (k + 1)).length (ivs (exP l st (k + 1))) by
      rw [Hex.out]
      exact Hown1.out)
     clear Hown1 Hown4 Hex hc1b Hr1 Hrun Hf4 hx
     go_wp2
     refine ⟨⟨k + 1, .inr hlt, by go_num, Hown5, Hb1⟩, ?_⟩
     simp [intOf] <;> omega
    ·have Hex := hide (show exP l st (k + 1) = exP l st k ++ [(k : Int) + 1] by
      have := Hr1.out
      rwa [if_neg (fun h => hx h.2)] at this)
     have hne : (X.toList != S1.toList) = true := by rw [str_ne, decide_eq_false hx]; rfl
     have heq : (X.toList == S1.toList) = false := by rw [str_eq, decide_eq_false hx]
     have Hrun' := Hrun
     have Hown5 := hide (show w4.ownsRow w.heap.size 3 1 v' (exP l st (k + 1)).length (ivs (exP l st (k + 1))) by
      rw [Hex.out, ivs_snocB, List.length_append]
      exact Hown4.out)
     clear Hown1 Hown4 Hex hc1b Hr1 hx
     go_wp2_with (
      at_builtin
      refine wpList_run (by with_reducible rfl) rfl _ _ _ rfl _ _ (by rfl) (by rfl) Hrun.out ?_)
     refine ⟨⟨k + 1, .inr hlt, by go_num, Hown5, Hf4⟩, ?_⟩
     simp [intOf] <;> omega
  ·have hkn : n - 1 = k := by omega
   have hlt2 : ¬ (k : Int) + 1 < (n : Int) := by omega
   have Hres : Hid (IRes wr (.slice A5 M5 cap5) (exI l st)) := hide (by
    obtain ⟨A6, cap6, hv, hat⟩ := own_at hown.out;unfold exI;rw [← Hn.out, hkn]
    exact ⟨A6, cap6, hv, hat⟩)
   clear hown hkn Hv
   go_wp2
   go_returns
   exact ⟨_, rfl, Hres.out, hb.out⟩
end Go.Proofs.YtoeeblldgoccoaaGreat
