/-
  Joined texts: Xo, Xi, Xk, Xl, Xj, Xn.
-/
import Derived.Test.YtjfcemlbbinanaaGreatDoorJ35
set_option linter.unusedVariables false
set_option linter.unusedSimpArgs false
/-
  The laws of snapshots: whether there are stored signals, and values of them (printed by gen_xo.py out of the walks of types and Valid).
-/
namespace Go.Proofs.YtjfcemlbbinanaaGreatDoor
open Go.RowKit Go.Proofs Wv Wv.Vi Wv.Bc Wv.Sn Wv.Dc
set_option linter.unusedVariables false
set_option maxRecDepth 100000 in
set_option maxHeartbeats 2000000 in
theorem nstored_any {w : World} {A : Option Addr} {st : List (Int × Int)} (ha : At w A (pv st)) (n cap : Nat) (hn : n = st.length) (hn4 : n ≤ 9223372036854775807) :
  Calls Tryz.prog 15 #[.slice A n cap] w fun x w' => x = .returned (.bool (tysB st)) ∧ Below w.heap.size w w' := by
 have Ha := hide ha
 have Hn := hide hn
 have Hv := hide (fun a b W => vtype_any a b W)
 have HT : Hid (tysB st = (st.all tyB && decide (st.length ≤ 64))) := hide rfl
 clear ha hn
 go_enter Tryz.func15, Tryz.ntmps15
 go_wp2
 go_loopw [7] (fun s7 wr => ∃ k : Nat, k ≤ n ∧ s7 = .int .i64 (k : Int) ∧ Hid ((st.take k).all tyB = true) ∧ Hid (Below w.heap.size w wr)) (fun s7 _ => (n - intOf s7).toNat)
 case atStart => exact ⟨0, Nat.zero_le _, rfl, hide rfl, hide (Below.refl _ _)⟩
 case round =>
  obtain ⟨k, hk, rfl, hall, hb⟩ := hrel
  by_cases hlt : k < n
  ·have hkl : k < st.length := by rw [← Hn.out]; exact hlt
   obtain ⟨bA, oA, rfl, c0, c1⟩ := at_type (Ha.out.below hb.out) k hkl
   have htk : st.take (k + 1) = st.take k ++ [st[k]] := List.take_succ_eq_append_getElem hkl
   have hmem : st[k] ∈ st := List.getElem_mem _
   obtain ⟨⟨a, c⟩, hs⟩ : ∃ x, st[k] = x := ⟨_, rfl⟩
   rw [hs] at c0 c1 htk hmem
   simp only at c0 c1
   have Hb := hide (hb.out.alloc hb.out.size (.cells #[.int .i64 a, .int .i64 c] 44))
   have Hva := hide (Hv.out a c)
   have hk0 : (0 : Int) ≤ (k : Int) := by omega
   have hltI : (k : Int) < (n : Int) := by omega
   cases hty : tyB (a, c) with
   | false =>
    have HR : Hid (tysB st = false) := hide (by
     rw [HT.out, Bool.and_eq_false_iff]
     left
     rw [List.all_eq_false]
     exact ⟨_, hmem, by rw [hty]; decide⟩)
    rw [hty] at Hva
    clear htk hmem hs hty hkl hb
    go_wp2_with fail
    refine (Hva.out _).mono ?_
    rintro x w1 ⟨rfl, hb1⟩
    have Hb1 := hide (Hb.out.trans (hb1.mono Hb.out.size))
    clear hb1
    go_wp2
    go_returns
    exact ⟨ret_bool HR.out.symm, Hb1.out⟩
   | true =>
    have Hall : Hid ((st.take (k + 1)).all tyB = true) := hide (by
     rw [htk, List.all_append, hall.out]
     simp [hty])
    rw [hty] at Hva
    clear htk hmem hs hty hkl hb hall
    go_wp2_with fail
    refine (Hva.out _).mono ?_
    rintro x w1 ⟨rfl, hb1⟩
    have Hb1 := hide (Hb.out.trans (hb1.mono Hb.out.size))
    clear hb1
    go_wp2
    refine ⟨⟨k + 1, hlt, by go_num, Hall, Hb1⟩, ?_⟩
    simp [intOf] <;> omega
  ·have hkn : k = n := by omega
   subst hkn
   have HR : Hid (tysB st = decide ((k : Int) ≤ 64)) := hide (by
    have h := hall.out
    rw [List.take_of_length_le (by rw [Hn.out]; exact Nat.le_refl _)] at h
    rw [HT.out, h, ← Hn.out, Bool.true_and]
    simp only [decide_eq_decide]
    omega)
   clear hall
   go_wp2
   go_returns
   exact ⟨ret_bool HR.out.symm, hb.out⟩
set_option maxRecDepth 100000 in
set_option maxHeartbeats 4000000 in
theorem nvalid_any {w : World} {A B : Option Addr} {st : List (Int × Int)} {vs : List ByteArray} (ha : At w A (pv st)) (hv : At w B (tvs vs)) (ht : Tab w) (hsz : ∀ s ∈ vs, s.size ≤ 1099511627776) (n cap m cap2 : Nat) (hn : n = st.length) (hm : m = vs.length) (hn4 : n ≤ 9223372036854775807) (hm4 : m ≤ 9223372036854775807) :
  Calls Tryz.prog 21 #[.slice A n cap, .slice B m cap2] w fun x w' => x = .returned (.bool (vasB validS st vs)) ∧ Below w.heap.size w w' := by
 have Hty := hide (nstored_any ha n cap hn hn4)
 have Ha := hide ha
 have Hv := hide hv
 have Ht := hide ht
 have Hn := hide hn
 have Hm := hide hm
 have HT : Hid (vasB validS st vs = (tysB st && vasL validS st vs)) := hide rfl
 have HV := hide (fun a b (s : ByteArray) (h : s ∈ vs) W (hW : Tab W) => vvalid_any a b (toL s) (by rw [toL_length]; exact hsz s h) hW)
 clear ha hv ht hsz hn hm
 cases hty : tysB st with
 | false =>
  rw [hty] at Hty
  have HR : Hid (vasB validS st vs = false) := hide (by rw [HT.out, hty]; rfl)
  clear hty
  go_enter Tryz.func21, Tryz.ntmps21
  go_wp2_with fail
  refine (Hty.out).mono ?_
  rintro x w1 ⟨rfl, hb1⟩
  go_wp2
  go_returns
  exact ⟨ret_bool HR.out.symm, hb1⟩
 | true =>
  rw [hty] at Hty
  have HR : Hid (vasB validS st vs = vasL validS st vs) := hide (by rw [HT.out, hty]; rfl)
  clear hty
  by_cases hnm : m = n
  ·subst hnm
   go_enter Tryz.func21, Tryz.ntmps21
   go_wp2_with fail
   refine (Hty.out).mono ?_
   rintro x w1 ⟨rfl, hb1⟩
   have Hb1 := hide hb1
   clear hb1
   go_wp2
   go_loopw [19] (fun s19 wr => ∃ k : Nat, k ≤ m ∧ s19 = .int .i64 (k : Int) ∧ Hid (vasL validS st vs = vasL validS (st.drop k) (vs.drop k)) ∧ Hid (Below w.heap.size w wr)) (fun s19 _ => (m - intOf s19).toNat)
   case atStart => exact ⟨0, Nat.zero_le _, rfl, hide rfl, Hb1⟩
   case round =>
    clear Hb1
    obtain ⟨k, hk, rfl, hall, hb⟩ := hrel
    by_cases hlt : k < m
    ·have hkl : k < st.length := by rw [← Hn.out]; exact hlt
     have hkv : k < vs.length := by rw [← Hm.out]; exact hlt
     obtain ⟨bA, oA, rfl, c0, c1⟩ := at_type (Ha.out.below hb.out) k hkl
     obtain ⟨bB, oB, rfl, hlB, d0⟩ := at_text (Hv.out.below hb.out) k hkv
     have hstep := vasL_drop validS st vs k hkl hkv
     have Hva := hide (HV.out st[k].1 st[k].2 vs[k] (List.getElem_mem _))
     obtain ⟨⟨a, c⟩, hs⟩ : ∃ x, st[k] = x := ⟨_, rfl⟩
     rw [hs] at c0 c1 hstep Hva
     simp only at c0 c1 Hva
     rw [bs_toL] at Hva
     generalize vs[k] = v at *
     have HX := hide (fun (W X : World) (hW : W.heap = (wr.alloc (.cells #[.int .i64 a, .int .i64 c] 44)).heap) (h : Below W.heap.size W X) => two_cells (p := oB + k) hW hlB d0 h)
     have Hb := hide (hb.out.alloc hb.out.size (.cells #[.int .i64 a, .int .i64 c] 44))
     have h0 := HX.out (wr.alloc (.cells #[.int .i64 a, .int .i64 c] 44)).drew (wr.alloc (.cells #[.int .i64 a, .int .i64 c] 44)).drew rfl (Below.refl _ _)
     have HXd := hide (fun (X : World) h => HX.out (wr.alloc (.cells #[.int .i64 a, .int .i64 c] 44)).drew X rfl h)
     have Htw := hide (Ht.out.below Hb.out.drew)
     have hk0 : (0 : Int) ≤ (k : Int) := by omega
     have hltI : (k : Int) < (m : Int) := by omega
     cases hvk : vaB validS (a, c) (toL v) with
     | false =>
      rw [hvk] at Hva
      have HR2 : Hid (vasB validS st vs = false) := hide (by rw [HR.out, hall.out, hstep, hvk]; rfl)
      clear hstep hs hvk hkl hkv hb hall
      go_wp2
      go_region_held3 (fun X => X.cell? ⟨wr.heap.size, 0, none⟩ = some (.int .i64 a) ∧ X.cell? ⟨wr.heap.size, 1, none⟩ = some (.int .i64 c) ∧ X.cell? ⟨bB, oB + k, none⟩ = some (.string v)) (first | with_reducible assumption) (first
       | (go_at_call 30; with_reducible refine (Hva.out _ Htw.out).mono ?_; rintro r w2 ⟨rfl, hb2⟩; have hx2 := HXd.out _ hb2; have Hb2 := hide (Hb.out.drew.trans (hb2.mono Hb.out.drew.size)); clear hb2))
      clear h0 hx2
      go_wp2
      go_returns
      exact ⟨ret_bool HR2.out.symm, Hb2.out⟩
     | true =>
      rw [hvk] at Hva
      have Hall : Hid (vasL validS st vs = vasL validS (st.drop (k + 1)) (vs.drop (k + 1))) := hide (by rw [hall.out, hstep, hvk]; rfl)
      clear hstep hs hvk hkl hkv hb hall
      go_wp2
      go_region_held3 (fun X => X.cell? ⟨wr.heap.size, 0, none⟩ = some (.int .i64 a) ∧ X.cell? ⟨wr.heap.size, 1, none⟩ = some (.int .i64 c) ∧ X.cell? ⟨bB, oB + k, none⟩ = some (.string v)) (first | with_reducible assumption) (first
       | (go_at_call 30; with_reducible refine (Hva.out _ Htw.out).mono ?_; rintro r w2 ⟨rfl, hb2⟩; have hx2 := HXd.out _ hb2; have Hb2 := hide (Hb.out.drew.trans (hb2.mono Hb.out.drew.size)); clear hb2))
      clear h0 hx2
      go_wp2
      refine ⟨⟨k + 1, hlt, by go_num, Hall, Hb2⟩, ?_⟩
      simp [intOf] <;> omega
    ·have hkn : k = m := by omega
     subst hkn
     have HR2 : Hid (vasB validS st vs = true) := hide (by
      rw [HR.out, hall.out, List.drop_eq_nil_of_le (by rw [Hn.out]; exact Nat.le_refl _), List.drop_eq_nil_of_le (by rw [← Hm.out]; exact Nat.le_refl _)]
      rfl)
     clear hall
     go_wp2
     go_returns
     exact ⟨ret_bool HR2.out.symm, hb.out⟩
  ·have hne : ((m : Int) != (n : Int)) = true := by rw [bne_iff_ne]; omega
   have HR2 : Hid (vasB validS st vs = false) := hide (by
    rw [HR.out]
    cases h : vasL validS st vs with
    | false => rfl
    | true => have := vasL_len h; have := Hn.out; have := Hm.out; omega)
   go_enter Tryz.func21, Tryz.ntmps21
   go_wp2_with fail
   refine (Hty.out).mono ?_
   rintro x w1 ⟨rfl, hb1⟩
   go_wp2
   go_returns
   exact ⟨ret_bool HR2.out.symm, hb1⟩
end Go.Proofs.YtjfcemlbbinanaaGreatDoor
/-
  The reference of snapshots: equal texts, short texts.
-/
namespace Go.Proofs.YtjfcemlbbinanaaGreatDoor
open Go.RowKit Go.Proofs Wv Wv.Vi Wv.Bc Wv.Sn Wv.Dc
set_option linter.unusedVariables false
set_option maxRecDepth 100000 in
set_option maxHeartbeats 2000000 in
theorem rsame_any {w : World} {A B : Option Addr} {l r : List ByteArray} (ha : At w A (tvs l)) (hb : At w B (tvs r)) (n cap m cap2 : Nat) (hn : n = l.length) (hm : m = r.length) (hn4 : n ≤ 9223372036854775807) (hm4 : m ≤ 9223372036854775807) :
  Calls Tryz.prog 18 #[.slice A n cap, .slice B m cap2] w fun x w' => x = .returned (.bool (decide (l = r))) ∧ Below w.heap.size w w' := by
 have Ha := hide ha
 have Hb := hide hb
 have Hn := hide hn
 have Hm := hide hm
 clear ha hb hn hm
 by_cases hnm : n = m
 ·subst hnm
  go_enter Tryz.func18, Tryz.ntmps18
  go_wp2
  go_loopw [5] (fun s5 wr => ∃ (k q : Nat), k ≤ n ∧ s5 = .int .i64 (k : Int) ∧ Hid (l.take k = r.take k) ∧ wr = w.drewN q) (fun s5 _ => (n - intOf s5).toNat)
  case atStart => exact ⟨0, 0, Nat.zero_le _, rfl, hide rfl, rfl⟩
  case round =>
   obtain ⟨k, q, hk, rfl, heq, rfl⟩ := hrel
   by_cases hlt : k < n
   ·have h1 : k < l.length := by rw [← Hn.out]; exact hlt
    have h2 : k < r.length := by rw [← Hm.out]; exact hlt
    obtain ⟨bA, oA, rfl, _, c0⟩ := at_text Ha.out k h1
    obtain ⟨bB, oB, rfl, _, d0⟩ := at_text Hb.out k h2
    have hk0 : (0 : Int) ≤ (k : Int) := by omega
    have hltI : (k : Int) < (n : Int) := by omega
    have hne := (bs_neS (toL l[k]) (toL r[k])).1
    rw [bs_toL, bs_toL] at hne
    by_cases he : toL l[k] = toL r[k]
    ·rw [decide_eq_true he] at hne
     have heq2 : Hid (l.take (k + 1) = r.take (k + 1)) := hide (by
      rw [List.take_succ_eq_append_getElem h1, List.take_succ_eq_append_getElem h2, heq.out, ← bs_toL l[k], ← bs_toL r[k], he])
     have hab : l[k] = r[k] := by rw [← bs_toL l[k], he, bs_toL]
     rw [hab] at c0
     generalize r[k] = b at *
     clear he heq h1 h2 hne hab
     have hne : (b.toList != b.toList) = false := bne_self_eq_false _
     go_wp2
     go_quiet (fail)
     go_wp2
     all_goals first
      | (refine ⟨⟨k + 1, _, hlt, by go_num, heq2, rfl⟩, ?_⟩; simp [intOf] <;> omega)
    ·rw [decide_eq_false he] at hne
     have hne2 := (bs_neS (toL l[k]) (toL r[k])).2
     rw [bs_toL, bs_toL, decide_eq_false he] at hne2
     clear hne
     have hlr : Hid (decide (l = r) = false) := hide (decide_eq_false (fun h => he (by subst h; rfl)))
     generalize l[k] = a at *
     generalize r[k] = b at *
     clear he heq h1 h2
     go_wp2
     go_quiet (fail)
     go_wp2
     go_returns
     exact ⟨ret_bool hlr.out.symm, ⟨rfl, rfl, rfl, Nat.le_refl _, fun _ _ => rfl⟩⟩
   ·have hkn : k = n := by omega
    subst hkn
    have hlr : Hid (decide (l = r) = true) := hide (decide_eq_true (by
     have := heq.out
     rw [List.take_of_length_le (by rw [Hn.out]; exact Nat.le_refl _), List.take_of_length_le (by rw [← Hm.out]; exact Nat.le_refl _)] at this
     exact this))
    clear heq
    go_wp2
    go_returns
    exact ⟨ret_bool hlr.out.symm, ⟨rfl, rfl, rfl, Nat.le_refl _, fun _ _ => rfl⟩⟩
 ·have hne : ((n : Int) != (m : Int)) = true := by rw [bne_iff_ne]; omega
  have hlr : Hid (decide (l = r) = false) := hide (decide_eq_false (fun h => hnm (by rw [Hn.out, Hm.out, h])))
  go_enter Tryz.func18, Tryz.ntmps18
  go_wp2
  go_returns
  exact ⟨ret_bool hlr.out.symm, Below.refl _ _⟩
end Go.Proofs.YtjfcemlbbinanaaGreatDoor
/-
  The walks over snapshots: After.
-/
namespace Wv.Sn
open Go Go.RowKit Wv Wv.Bc
theorem own_putT {w : World} {base g n cap : Nat} {e : TypeId} {xs : List Value} (h : w.ownsRow base e 1 (.slice (some ⟨g, 0, none⟩) n cap) n xs) (i : Nat) (u : Value) :
  (w.setCell ⟨g, i, none⟩ u).ownsRow base e 1 (.slice (some ⟨g, 0, none⟩) n cap) n (xs.set i u) := by
 refine ⟨by rw [List.length_set]; exact h.1, ?_⟩
 rcases h.2 with ⟨h2, _⟩ | ⟨g', cap', cur, hv, hb, hg, hnc, hcm, hcs, htk⟩
 ·cases h2
 ·injection hv with hv1 hv2 hv3
  injection hv1 with hv1
  injection hv1 with hv1
  subst hv1; subst hv3
  refine .inr ⟨g, cap, cur.setIfInBounds i u, rfl, hb, ?_, hnc, hcm, by rw [Array.size_setIfInBounds]; exact hcs, ?_⟩
  ·simp [World.setCell, Array.getElem?_modify, hg]
  ·rw [← htk, Array.toList_setIfInBounds, List.take_set]
theorem own_cellT {w : World} {base g n cap : Nat} {e : TypeId} {xs : List Value} (h : w.ownsRow base e 1 (.slice (some ⟨g, 0, none⟩) n cap) n xs) (i : Nat) (u : Value) (hu : xs[i]? = some u) :
  w.cell? ⟨g, i, none⟩ = some u ∧ w.frozen? ⟨g, i, none⟩ = false := by
 have h1 := h.cells (g := g) rfl i u hu
 have : (⟨g, 0, none⟩ : Addr).add i = ⟨g, i, none⟩ := by unfold Addr.add; split <;> simp_all
 rw [this] at h1
 refine ⟨h1, ?_⟩
 rcases h.2 with ⟨h2, _⟩ | ⟨g', cap', cur, hv, hb, hg, _⟩
 ·cases h2
 ·injection hv with hv1 hv2 hv3
  injection hv1 with hv1
  injection hv1 with hv1
  subst hv1
  simp [World.frozen?, hg]
theorem set_selfT {α} (l : List α) (k : Nat) (a : α) (h : l[k]? = some a) : l.set k a = l := by
 apply List.ext_getElem?
 intro i
 rw [List.getElem?_set]
 split
 ·rename_i hi
  subst hi
  have hl := (List.getElem?_eq_some_iff.1 h).1
  rw [if_pos hl, h]
 ·rfl
def aftK (vs : List ByteArray) (L : List (List (Int × ByteArray))) (k : Nat) : List ByteArray := (aftS vs L).take k ++ vs.drop k
theorem aftK_len (vs : List ByteArray) (L : List (List (Int × ByteArray))) (k : Nat) : (aftK vs L k).length = vs.length := by
 unfold aftK
 rw [List.length_append, List.length_take, List.length_drop, aftS_len]
 omega
theorem aftK_zero (vs : List ByteArray) (L : List (List (Int × ByteArray))) : aftK vs L 0 = vs := by unfold aftK; simp
theorem aftK_end (vs : List ByteArray) (L : List (List (Int × ByteArray))) : aftK vs L vs.length = aftS vs L := by
 unfold aftK
 rw [List.drop_length, List.append_nil, List.take_of_length_le (by rw [aftS_len]; exact Nat.le_refl _)]
theorem aftK_get (vs : List ByteArray) (L : List (List (Int × ByteArray))) (k : Nat) (h : k < vs.length) : (aftK vs L k)[k]? = some vs[k] := by
 unfold aftK
 rw [List.getElem?_append_right (by rw [List.length_take, aftS_len]; omega), List.length_take, aftS_len, Nat.min_eq_left (by omega), Nat.sub_self, List.getElem?_drop, Nat.add_zero, List.getElem?_eq_getElem h]
theorem aftK_succ (vs : List ByteArray) (L : List (List (Int × ByteArray))) (k : Nat) (h : k < vs.length) : aftK vs L (k + 1) = (aftK vs L k).set k ((aftS vs L).getD k default) := by
 have hk : k < (aftS vs L).length := by rw [aftS_len]; exact h
 unfold aftK
 rw [List.take_succ_eq_append_getElem hk, List.drop_eq_getElem_cons h, List.set_append_right _ _ (by rw [List.length_take, aftS_len]; omega), List.length_take, aftS_len, Nat.min_eq_left (by omega), Nat.sub_self, show (aftS vs L).getD k default = (aftS vs L)[k] from by simp [List.getD, hk], List.set_cons_zero, List.append_assoc]
 rfl
theorem aftK_same (vs : List ByteArray) (L : List (List (Int × ByteArray))) (k : Nat) (h : k < vs.length) (h2 : L.length ≤ k ∨ ∃ hl : k < L.length, L[k] = []) : aftK vs L (k + 1) = aftK vs L k := by
 rw [aftK_succ vs L k h, aftS_get vs L k h]
 have e : (if k < L.length then aftV (vs.getD k default) (L.getD k []) else vs.getD k default) = vs[k] := by
  rcases h2 with h2 | ⟨hl, h2⟩
  ·rw [if_neg (by omega)]; simp [List.getD, h]
  ·rw [if_pos hl, show L.getD k [] = [] from by simp [List.getD, hl, h2]]
   simp [aftV, List.getD, h]
 rw [e]
 have := aftK_get vs L k h
 exact set_selfT _ _ _ this
theorem aftK_put (vs : List ByteArray) (L : List (List (Int × ByteArray))) (k : Nat) (h : k < vs.length) (hl : k < L.length) (q : Nat) (hq : q + 1 = L[k].length) : aftK vs L (k + 1) = (aftK vs L k).set k (L[k][q]'(by omega)).2 := by
 rw [aftK_succ vs L k h, aftS_get vs L k h, if_pos hl, show L.getD k [] = L[k] from by simp [List.getD, hl]]
 congr 1
 unfold aftV
 rw [List.getLast?_eq_getElem?, show L[k].length - 1 = q by omega, List.getElem?_eq_getElem (by omega)]
end Wv.Sn
namespace Go.Proofs.YtjfcemlbbinanaaGreatDoor
open Go.RowKit Go.Proofs Wv Wv.Vi Wv.Bc Wv.Sn Wv.Dc
set_option linter.unusedVariables false
theorem at_nil {w : World} {A : Option Addr} {xs : List Value} (h : At w A xs) (hA : A = none) : xs = [] := by
 cases xs with
 | nil => rfl
 | cons x r =>
  obtain ⟨b, o, h1, _⟩ := h 0 (by simp)
  rw [hA] at h1
  cases h1
theorem tvs_len (l : List ByteArray) : (tvs l).length = l.length := by unfold tvs; rw [List.length_map]
theorem tvs_one (l : List ByteArray) : ∀ y ∈ tvs l, y.oneCell' = true := by
 intro y hy
 obtain ⟨s, _, rfl⟩ := List.mem_map.1 hy
 rfl
theorem tvs_set (l : List ByteArray) (k : Nat) (s : ByteArray) : tvs (l.set k s) = (tvs l).set k (.string s) := by unfold tvs; rw [List.map_set]
theorem at_change {w : World} {A : Option Addr} {l : List (Int × ByteArray)} (ha : At w A (cv l)) (k : Nat) (h : k < l.length) : ∃ b o, A = some ⟨b, o, none⟩ ∧ b < w.heap.size ∧ w.cell? ⟨b, o + k * 2, none⟩ = some (.int .i64 l[k].1) ∧ w.cell? ⟨b, o + k * 2 + 1, none⟩ = some (.string l[k].2) := by
 have hp := cv_get l k h
 obtain ⟨b, o, hA, hlt, c0⟩ := ha.get (k * 2) _ hp.1
 obtain ⟨b', o', hA', _, c1⟩ := ha.get (k * 2 + 1) _ hp.2
 rw [hA] at hA'
 injection hA' with hA'
 injection hA' with h1 h2
 subst h1; subst h2
 exact ⟨b, o, hA, hlt, c0, c1⟩
set_option maxRecDepth 100000 in
set_option maxHeartbeats 4000000 in
theorem safter_any {w : World} {A B : Option Addr} {vs : List ByteArray} {L : List (List (Int × ByteArray))} (ha : At w A (tvs vs)) (hc : ChA w B L) (hL : ∀ l ∈ L, l.length ≤ 4611686018427387903) (n cap m cap2 : Nat) (hn : n = vs.length) (hm : m = L.length) (hn4 : n ≤ 1000000) (hm4 : m ≤ 9223372036854775807) :
  Calls Tryz.prog 19 #[.slice A n cap, .slice B m cap2] w fun x w' => ∃ v, x = .returned v ∧ TvR w' v (aftS vs L) ∧ Below w.heap.size w w' := by
 obtain ⟨v', w1, hrun, hown, hg, _⟩ := run_appAt (P := Tryz.prog) 23 9 _ _ Tryz.underlying23 tstrinf rfl (w := w) (base := w.heap.size) own_nil ha cap n (by rw [tvs_len]; exact hn) (at_nil ha) (tvs_one vs) (by unfold maxLen; omega) (by omega) (Nat.le_refl _)
 rw [Nat.zero_add, List.nil_append] at hown
 have hb1 : Below w.heap.size w w1 := (Below.refl w.heap.size w).grown hg (Nat.le_refl _) (fun k hk => by simp [Value.ownBlock] at hk)
 have Hc := hide (fun (W : World) (hb : Below w.heap.size w W) => hc.below hb)
 have Hn := hide hn
 have Hm := hide hm
 have HL := hide hL
 have Hb1 := hide hb1
 have HE : Hid (aftK vs L n = aftS vs L) := hide (by rw [hn]; exact aftK_end vs L)
 have Hown : Hid (w1.ownsRow w.heap.size 9 1 v' n (tvs (aftK vs L 0))) := hide (by rw [aftK_zero]; exact hown)
 obtain ⟨A5, M5, cap5, hv5⟩ := own_slice hown
 have hM5 : M5 = n := by
  obtain ⟨A', cap', h1, _⟩ := own_at hown
  rw [hv5] at h1
  injection h1
 subst hM5
 subst hv5
 have Hrun := hide hrun
 clear ha hc hn hm hL hown hg hb1 hrun
 go_enter Tryz.func19, Tryz.ntmps19
 go_wp2_with (
  at_builtin
  refine wpList_run (by with_reducible rfl) rfl _ _ _ rfl _ _ (by rfl) (by rfl) Hrun.out ?_)
 go_loopw [11] (fun s11 wr => ∃ k : Nat, k ≤ M5 ∧ s11 = .int .i64 (k : Int) ∧ Hid (wr.ownsRow w.heap.size 9 1 (.slice A5 M5 cap5) M5 (tvs (aftK vs L k))) ∧ Hid (Below w.heap.size w wr)) (fun s11 _ => (M5 - intOf s11).toNat)
 case atStart => exact ⟨0, Nat.zero_le _, rfl, Hown, Hb1⟩
 case round =>
  clear Hown Hb1 Hrun
  obtain ⟨k, hk, rfl, hown, hb⟩ := hrel
  by_cases hlt : k < M5
  ·have hkv : k < vs.length := by rw [← Hn.out]; exact hlt
   have hk0 : (0 : Int) ≤ (k : Int) := by omega
   have hltI : (k : Int) < (M5 : Int) := by omega
   by_cases hkm : k < m
   ·have hkL : k < L.length := by rw [← Hm.out]; exact hkm
    have hkmI : (k : Int) < (m : Int) := by omega
    obtain ⟨bA, oA, B2, capB, rfl, hlA, c0, hB, hcX⟩ := (Hc.out _ hb.out) k hkL
    clear hcX
    have hl4 := HL.out L[k] (List.getElem_mem _)
    by_cases h0 : L[k].length = 0
    ·have hsame : Hid (wr.ownsRow w.heap.size 9 1 (.slice A5 M5 cap5) M5 (tvs (aftK vs L (k + 1)))) := hide (by
      rw [aftK_same vs L k hkv (.inr ⟨hkL, List.eq_nil_of_length_eq_zero h0⟩)]; exact hown.out)
     rw [h0] at c0
     clear hB h0 hl4 hkL hkv hown
     go_wp2
     refine ⟨⟨k + 1, hlt, by go_num, hsame, hb⟩, ?_⟩
     simp [intOf] <;> omega
    ·obtain ⟨q, hq⟩ : ∃ q, q + 1 = L[k].length := ⟨L[k].length - 1, by omega⟩
     obtain ⟨bB, oB, rfl, hlB, d0, d1⟩ := at_change hB q (by omega)
     have Hput := hide (aftK_put vs L k hkv hkL q hq)
     obtain ⟨g, rfl⟩ : ∃ g, A5 = some ⟨g, 0, none⟩ := by
      rcases hown.out.2 with ⟨h1, h2⟩ | ⟨g, cap, cur, h1, _⟩
      ·omega
      ·injection h1 with h1 _ _
       exact ⟨g, h1⟩
     have hg := hown.out.lt g rfl
     obtain ⟨oc, hfz⟩ := own_cellT hown.out k _ (tvs_get (aftK vs L k) k (by rw [aftK_len]; exact hkv))
     generalize (aftK vs L k)[k]'(by rw [aftK_len]; exact hkv) = old at *
     generalize (L[k][q]'(by omega)).2 = V at *
     generalize (L[k][q]'(by omega)).1 = Tm at *
     have Hrow := hide (show (wr.setCell ⟨g, k, none⟩ (.string V)).ownsRow w.heap.size 9 1 (.slice (some ⟨g, 0, none⟩) M5 cap5) M5 (tvs (aftK vs L (k + 1))) by
      rw [Hput.out, tvs_set]; exact own_putT hown.out k _)
     have Hb2 := hide (hb.out.setCell (p := ⟨g, k, none⟩) hg.1 (.string V))
     obtain ⟨N, hN⟩ : ∃ N, L[k].length = N := ⟨_, rfl⟩
     rw [hN] at c0 hq hl4
     have hq0 : (0 : Int) < (N : Int) := by omega
     have i1 : IntKind.i64.wrap ((N : Int) - 1) = (q : Int) := by rw [IntWalk.i64_in _ (by omega)]; omega
     have q0 : (0 : Int) ≤ (q : Int) := by omega
     have qN : (q : Int) < (N : Int) := by omega
     clear hB h0 hN hkL hkv hown hb Hput
     go_wp2
     go_region
     go_wp2
     go_roundw
     case rel => exact ⟨k + 1, hlt, by go_num, by first | exact hide Hrow.out.drew | exact Hrow, by first | exact hide Hb2.out.drew | exact Hb2⟩
     case measure => simp [intOf] <;> omega
   ·have hkmI : ¬ (k : Int) < (m : Int) := by omega
    have hsame : Hid (wr.ownsRow w.heap.size 9 1 (.slice A5 M5 cap5) M5 (tvs (aftK vs L (k + 1)))) := hide (by
     rw [aftK_same vs L k hkv (.inl (by rw [← Hm.out]; omega))]; exact hown.out)
    clear hkv hown
    go_wp2
    refine ⟨⟨k + 1, hlt, by go_num, hsame, hb⟩, ?_⟩
    simp [intOf] <;> omega
  ·have hkn : k = M5 := by omega
   subst hkn
   have HR2 : Hid (TvR wr (.slice A5 k cap5) (aftS vs L)) := hide (by
    have h := hown.out
    rw [HE.out] at h
    have hl : (aftS vs L).length = k := by rw [aftS_len, ← Hn.out]
    have h2 : wr.ownsRow w.heap.size 9 1 (.slice A5 k cap5) (aftS vs L).length (tvs (aftS vs L)) := by rw [hl]; exact h
    have := own_tvr h2
    exact this)
   clear hown
   go_wp2
   go_returns
   exact ⟨_, rfl, HR2.out, hb.out⟩
end Go.Proofs.YtjfcemlbbinanaaGreatDoor
/-
  The reference of snapshots: few changes; values after changes.
-/
namespace Go.Proofs.YtjfcemlbbinanaaGreatDoor
open Go.RowKit Go.Proofs Wv Wv.Vi Wv.Bc Wv.Sn Wv.Dc
set_option linter.unusedVariables false
def fewB (l : List (Int × ByteArray)) (m : Int) : Bool := l.all (fun x => decide ((x.2.size : Int) ≤ 150)) && decide ((l.length : Int) ≤ m)
set_option maxRecDepth 100000 in
set_option maxHeartbeats 2000000 in
theorem rfew_any {w : World} {A : Option Addr} {l : List (Int × ByteArray)} (ha : At w A (cv l)) (n cap : Nat) (hn : n = l.length) (hn4 : n ≤ 9223372036854775807) (m : Int) :
    Calls Tryz.prog 17 #[.slice A n cap, .int .i64 m] w fun x w' => x = .returned (.bool (fewB l m)) ∧ w = w' := by
  have Ha := hide ha
  have Hn := hide hn
  have HS : Hid (fewB l m = (l.all (fun x => decide ((x.2.size : Int) ≤ 150)) && decide ((n : Int) ≤ m))) := hide (by rw [hn]; rfl)
  clear ha hn
  go_enter Tryz.func17, Tryz.ntmps17
  go_wp2
  go_loopw [5] (fun s5 wr => ∃ k : Nat, k ≤ n ∧ s5 = .int .i64 (k : Int) ∧ Hid ((l.take k).all (fun x => decide ((x.2.size : Int) ≤ 150)) = true) ∧ wr = w) (fun s5 _ => (n - intOf s5).toNat)
  case atStart => exact ⟨0, Nat.zero_le _, rfl, hide rfl, rfl⟩
  case round =>
    obtain ⟨k, hk, rfl, hall, rfl⟩ := hrel
    by_cases hlt : k < n
    · have h1 : k < l.length := by rw [← Hn.out]; exact hlt
      obtain ⟨bA, oA, rfl, _, c0, c1⟩ := at_change Ha.out k h1
      have htk : l.take (k + 1) = l.take k ++ [l[k]] := List.take_succ_eq_append_getElem h1
      have hmem : l[k] ∈ l := List.getElem_mem _
      have hk0 : (0 : Int) ≤ (k : Int) := by omega
      have hltI : (k : Int) < (n : Int) := by omega
      obtain ⟨⟨t, a⟩, hs⟩ : ∃ x, l[k] = x := ⟨_, rfl⟩
      rw [hs] at c0 c1 htk hmem
      simp only at c0 c1
      by_cases hg : (150 : Int) < (a.size : Int)
      · have HR : Hid (fewB l m = false) := hide (by
          rw [HS.out, Bool.and_eq_false_iff]
          left
          rw [List.all_eq_false]
          exact ⟨_, hmem, by simp; omega⟩)
        clear htk hmem hall h1 hs
        go_wp2
        go_returns
        exact ⟨ret_bool HR.out.symm, rfl⟩
      · have Hall : Hid ((l.take (k + 1)).all (fun x => decide ((x.2.size : Int) ≤ 150)) = true) := hide (by
          rw [htk, List.all_append, hall.out]
          simp; omega)
        clear htk hmem hall h1 hs
        go_wp2
        refine ⟨⟨k + 1, hlt, by go_num, Hall, (by first | trivial | rfl)⟩, ?_⟩
        simp [intOf] <;> omega
    · have hkn : k = n := by omega
      subst hkn
      have HR : Hid (fewB l m = decide ((k : Int) ≤ m)) := hide (by
        have h := hall.out
        rw [List.take_of_length_le (by rw [Hn.out]; exact Nat.le_refl _)] at h
        rw [HS.out, h, Bool.true_and])
      clear hall
      go_wp2
      go_returns
      exact ⟨ret_bool HR.out.symm, rfl⟩
theorem str_app {W : World} {B : Nat} {v : Value} {k : Nat} {l : List ByteArray} {wb : World} (h : W.ownsRow B 9 1 v k (tvs l)) (hf : Below B wb W) (hB : B ≤ W.heap.size) (hk : k ≤ 1000000) (s : ByteArray) :
  ∃ v' W', (Builtin.append_ #[23, 23] 23 #[v, .slice (some ⟨W.heap.size, 0, none⟩) 1 1]).run Tryz.prog (W.alloc (.cells #[.string s] 9)) = .ok v' W' ∧ W'.ownsRow B 9 1 v' (k + 1) (tvs (l ++ [s])) ∧ Below B wb W' := by
 obtain ⟨v', w4, hrun, hown4, hf4, _⟩ := app_own (P := Tryz.prog) 23 9 _ _ Tryz.underlying23 tstrinf rfl (w := W) h hf hB (.string s) rfl (by unfold maxLen; omega) (by omega)
 rw [← tvs_snoc] at hown4
 exact ⟨v', w4, hrun, hown4, hf4⟩
set_option maxRecDepth 100000 in
set_option maxHeartbeats 4000000 in
theorem rafter_any {w : World} {A B : Option Addr} {vs : List ByteArray} {L : List (List (Int × ByteArray))} (ha : At w A (tvs vs)) (hc : ChA w B L) (hL : ∀ l ∈ L, l.length ≤ 4611686018427387903) (n cap m cap2 : Nat) (hn : n = vs.length) (hm : m = L.length) (hn4 : n ≤ 1000000) (hm4 : m ≤ 9223372036854775807) :
  Calls Tryz.prog 20 #[.slice A n cap, .slice B m cap2] w fun x w' => ∃ v, x = .returned v ∧ TvR w' v (aftS vs L) ∧ Below w.heap.size w w' := by
 have Ha := hide (fun (W : World) (hb : Below w.heap.size w W) => ha.below hb)
 have Hc := hide (fun (W : World) (hb : Below w.heap.size w W) => hc.below hb)
 have Hn := hide hn
 have Hm := hide hm
 have HL := hide hL
 have Hl : Hid ((aftS vs L).length = n) := hide (by rw [aftS_len, hn])
 have Hgt : Hid (∀ k (h : k < n) (h2 : k < (aftS vs L).length), (aftS vs L)[k] = if k < L.length then aftV (vs.getD k default) (L.getD k []) else vs.getD k default) := hide (fun k h h2 => by
  have := aftS_get vs L k (by omega)
  rw [← this]; simp [List.getD, h2])
 have H0 := hide (own_made0 9 w)
 have Hb0 := hide ((Below.refl w.heap.size w).alloc (Nat.le_refl _) (.cells #[] 9))
 clear ha hc hn hm hL
 go_enter Tryz.func20, Tryz.ntmps20
 go_wp2
 go_loopw [5, 6] (fun s5 s6 wr => ∃ k : Nat, k ≤ n ∧ s6 = .int .i64 (k : Int) ∧ Hid (wr.ownsRow w.heap.size 9 1 s5 k (tvs ((aftS vs L).take k))) ∧ Hid (Below w.heap.size w wr)) (fun _ s6 _ => (n - intOf s6).toNat)
 case atStart => exact ⟨0, Nat.zero_le _, rfl, H0, Hb0⟩
 case round =>
  clear H0 Hb0
  obtain ⟨k, hk, rfl, hown, hb⟩ := hrel
  obtain ⟨A5, M5, cap5, rfl⟩ := own_slice hown.out
  by_cases hlt : k < n
  ·have hkv : k < vs.length := by rw [← Hn.out]; exact hlt
   obtain ⟨bV, oV, rfl, hlV, cV⟩ := at_text (Ha.out _ hb.out) k hkv
   have hk0 : (0 : Int) ≤ (k : Int) := by omega
   have hltI : (k : Int) < (n : Int) := by omega
   have hkr : k < (aftS vs L).length := by rw [Hl.out]; exact hlt
   have hres := Hgt.out k hlt hkr
   have htk : (aftS vs L).take (k + 1) = (aftS vs L).take k ++ [(aftS vs L)[k]] := List.take_succ_eq_append_getElem hkr
   have hvk : vs.getD k default = vs[k] := by simp [List.getD, hkv]
   have HA := hide (fun (W : World) (s : ByteArray) (h1 : W.ownsRow w.heap.size 9 1 (.slice A5 M5 cap5) k (tvs ((aftS vs L).take k))) (h2 : Below w.heap.size w W) => str_app h1 h2 h2.size (by omega) s)
   by_cases hkm : k < m
   ·have hkL : k < L.length := by rw [← Hm.out]; exact hkm
    have hkmI : (k : Int) < (m : Int) := by omega
    obtain ⟨bA, oA, B2, capB, rfl, hlA, c0, hB, hcX⟩ := (Hc.out _ hb.out) k hkL
    clear hcX
    have hl4 := HL.out L[k] (List.getElem_mem _)
    have hLk : L.getD k [] = L[k] := by simp [List.getD, hkL]
    rw [if_pos hkL, hLk, hvk] at hres
    by_cases h0 : L[k].length = 0
    ·have hr2 : (aftS vs L)[k] = vs[k] := by rw [hres, List.eq_nil_of_length_eq_zero h0]; rfl
     rw [hr2] at htk
     obtain ⟨v', W', hrun, hown4, hf4⟩ := HA.out wr vs[k] hown.out hb.out
     have Hrun := hide hrun
     rw [← htk] at hown4
     have Hown4 := hide hown4
     have Hf4 := hide hf4
     rw [h0] at c0
     generalize vs[k] = V at *
     clear hB h0 hl4 hkL hkv hown hrun hown4 hf4 HA hres htk hvk hLk hr2 hkr
     go_wp2_with (
      at_builtin
      refine wpList_run (by with_reducible rfl) rfl _ _ _ rfl _ _ (by rfl) (by rfl) Hrun.out ?_)
     refine ⟨⟨k + 1, hlt, by go_num, Hown4, Hf4⟩, ?_⟩
     simp [intOf] <;> omega
    ·obtain ⟨q, hq⟩ : ∃ q, q + 1 = L[k].length := ⟨L[k].length - 1, by omega⟩
     obtain ⟨bB, oB, rfl, hlB, d0, d1⟩ := at_change hB q (by omega)
     have hr2 : (aftS vs L)[k] = (L[k][q]'(by omega)).2 := by
      rw [hres]
      unfold aftV
      rw [List.getLast?_eq_getElem?, show L[k].length - 1 = q by omega, List.getElem?_eq_getElem (by omega)]
     rw [hr2] at htk
     have Hown := hide hown.out
     have Hsn := hide htk
     generalize (L[k][q]'(by omega)).2 = V at *
     generalize (L[k][q]'(by omega)).1 = Tm at *
     obtain ⟨N, hN⟩ : ∃ N, L[k].length = N := ⟨_, rfl⟩
     rw [hN] at c0 hq hl4
     have hq0 : (0 : Int) < (N : Int) := by omega
     have i1 : IntKind.i64.wrap ((N : Int) - 1) = (q : Int) := by rw [IntWalk.i64_in _ (by omega)]; omega
     have q0 : (0 : Int) ≤ (q : Int) := by omega
     have qN : (q : Int) < (N : Int) := by omega
     generalize vs[k] = V0 at *
     clear hB h0 hN hkL hkv hown hres htk hvk hLk hr2 hkr
     go_wp2
     go_quiet (fail)
     obtain ⟨v', W', hrun, hown4, hf4⟩ := HA.out (wr.drewN nq) V (by exact Hown.out) (by first | exact hb.out | exact ⟨hb.out.1, hb.out.2, hb.out.3, hb.out.4, hb.out.5⟩)
     rw [← Hsn.out] at hown4
     have Hrun := hide hrun
     have Hown4 := hide hown4
     have Hf4 := hide hf4
     clear hrun hown4 hf4
     go_wp2_with (
      at_builtin
      refine wpList_run (by with_reducible rfl) rfl _ _ _ rfl _ _ (by rfl) (by rfl) Hrun.out ?_)
     refine ⟨⟨k + 1, hlt, by go_num, Hown4, Hf4⟩, ?_⟩
     simp [intOf] <;> omega
   ·have hkmI : ¬ (k : Int) < (m : Int) := by omega
    rw [if_neg (by rw [← Hm.out]; exact hkm), hvk] at hres
    rw [hres] at htk
    obtain ⟨v', W', hrun, hown4, hf4⟩ := HA.out wr vs[k] hown.out hb.out
    have Hrun := hide hrun
    rw [← htk] at hown4
    have Hown4 := hide hown4
    have Hf4 := hide hf4
    generalize vs[k] = V at *
    clear hkv hown hrun hown4 hf4 HA hres htk hvk hkr
    go_wp2_with (
     at_builtin
     refine wpList_run (by with_reducible rfl) rfl _ _ _ rfl _ _ (by rfl) (by rfl) Hrun.out ?_)
    refine ⟨⟨k + 1, hlt, by go_num, Hown4, Hf4⟩, ?_⟩
    simp [intOf] <;> omega
  ·have hkn : k = n := by omega
   subst hkn
   have HR2 : Hid (TvR wr (.slice A5 M5 cap5) (aftS vs L)) := hide (by
    have h := hown.out
    rw [List.take_of_length_le (by rw [Hl.out]; exact Nat.le_refl _)] at h
    exact own_tvr (by rw [Hl.out]; exact h))
   clear hown
   go_wp2
   go_returns
   exact ⟨_, rfl, HR2.out, hb.out⟩
end Go.Proofs.YtjfcemlbbinanaaGreatDoor
/-
  The reference of snapshots: short texts.
-/
namespace Go.Proofs.YtjfcemlbbinanaaGreatDoor
open Go.RowKit Go.Proofs Wv Wv.Vi Wv.Bc Wv.Sn Wv.Dc
set_option linter.unusedVariables false
def shB (l : List ByteArray) (m s : Int) : Bool := l.all (fun x => decide ((x.size : Int) ≤ s)) && decide ((l.length : Int) ≤ m)
set_option maxRecDepth 100000 in
set_option maxHeartbeats 2000000 in
theorem rshort_any {w : World} {A : Option Addr} {l : List ByteArray} (ha : At w A (tvs l)) (n cap : Nat) (hn : n = l.length) (hn4 : n ≤ 9223372036854775807) (m s : Int) :
    Calls Tryz.prog 16 #[.slice A n cap, .int .i64 m, .int .i64 s] w fun x w' => x = .returned (.bool (shB l m s)) ∧ w = w' := by
  have Ha := hide ha
  have Hn := hide hn
  have HS : Hid (shB l m s = (l.all (fun x => decide ((x.size : Int) ≤ s)) && decide ((n : Int) ≤ m))) := hide (by rw [hn]; rfl)
  clear ha hn
  go_enter Tryz.func16, Tryz.ntmps16
  go_wp2
  go_loopw [7] (fun s7 wr => ∃ k : Nat, k ≤ n ∧ s7 = .int .i64 (k : Int) ∧ Hid ((l.take k).all (fun x => decide ((x.size : Int) ≤ s)) = true) ∧ wr = w) (fun s7 _ => (n - intOf s7).toNat)
  case atStart => exact ⟨0, Nat.zero_le _, rfl, hide rfl, rfl⟩
  case round =>
    obtain ⟨k, hk, rfl, hall, rfl⟩ := hrel
    by_cases hlt : k < n
    · have h1 : k < l.length := by rw [← Hn.out]; exact hlt
      obtain ⟨bA, oA, rfl, _, c0⟩ := at_text Ha.out k h1
      have htk : l.take (k + 1) = l.take k ++ [l[k]] := List.take_succ_eq_append_getElem h1
      have hmem : l[k] ∈ l := List.getElem_mem _
      have hk0 : (0 : Int) ≤ (k : Int) := by omega
      have hltI : (k : Int) < (n : Int) := by omega
      generalize l[k] = a at *
      by_cases hg : s < (a.size : Int)
      · have HR : Hid (shB l m s = false) := hide (by
          rw [HS.out, Bool.and_eq_false_iff]
          left
          rw [List.all_eq_false]
          exact ⟨a, hmem, by simp; omega⟩)
        clear htk hmem hall h1
        go_wp2
        go_returns
        exact ⟨ret_bool HR.out.symm, rfl⟩
      · have Hall : Hid ((l.take (k + 1)).all (fun x => decide ((x.size : Int) ≤ s)) = true) := hide (by
          rw [htk, List.all_append, hall.out]
          simp; omega)
        clear htk hmem hall h1
        go_wp2
        refine ⟨⟨k + 1, hlt, by go_num, Hall, (by first | trivial | rfl)⟩, ?_⟩
        simp [intOf] <;> omega
    · have hkn : k = n := by omega
      subst hkn
      have HR : Hid (shB l m s = decide ((k : Int) ≤ m)) := hide (by
        have h := hall.out
        rw [List.take_of_length_le (by rw [Hn.out]; exact Nat.le_refl _)] at h
        rw [HS.out, h, Bool.true_and])
      clear hall
      go_wp2
      go_returns
      exact ⟨ret_bool HR.out.symm, rfl⟩
end Go.Proofs.YtjfcemlbbinanaaGreatDoor
/-
  The reference of snapshots: planes, the part of a value.
-/
namespace Wv.Sn
open Go Go.RowKit Wv Wv.Bc
def plB (a b : UInt8) (v : List UInt8) : List Bool := v.map (fun c => decide (c = a) || decide (c = b))
theorem plB_len (a b : UInt8) (v : List UInt8) : (plB a b v).length = v.length := by unfold plB; rw [List.length_map]
theorem room_pack (l : List Bool) : Bit.room l = Bit.pack (l ++ [false]) := by
 rw [Bit.pack_snoc]
 refine (set_selfT _ _ _ ?_).symm
 have hl := Bit.room_length l
 rw [List.getElem?_eq_getElem (by omega), Bit.room_getElem]
 simp
theorem room_put (l : List Bool) (x old : UInt8) (ho : (Bit.room l)[l.length / 8]? = some old) (hx : x.toNat = old.toNat ||| 2 ^ (7 - l.length % 8)) : (Bit.room l).set (l.length / 8) x = Bit.pack (l ++ [true]) := by
 have hp : pdA (l ++ [true]) l.length = l ++ [false] := by unfold pdA; simp
 have hq : pdA (l ++ [true]) (l.length + 1) = l ++ [true] := by
  have := pdA_end (l ++ [true])
  rwa [List.length_append] at this
 have h1 : l.length / 8 < (Bit.pack (pdA (l ++ [true]) l.length)).length := by rw [Bit.pack_length, hp]; simp; omega
 have := pk_set (l ++ [true]) l.length (by simp) h1 x (by
  rw [hx]
  obtain ⟨h2, h3⟩ := List.getElem?_eq_some_iff.1 ho
  have e : (Bit.pack (pdA (l ++ [true]) l.length))[l.length / 8] = old := by
   rw [← h3]
   congr 1
   rw [hp, room_pack]
  rw [e]
  simp)
 rw [hp, hq, ← room_pack] at this
 exact this
def plK (a b c : UInt8) (l : List Bool) (k : Nat) : List UInt8 := if (c = a ∧ 1 ≤ k) ∨ (c = b ∧ 2 ≤ k) then Bit.pack (l ++ [true]) else Bit.room l
theorem plK_zero (a b c : UInt8) (l : List Bool) : plK a b c l 0 = Bit.room l := by unfold plK; rw [if_neg (by omega)]
theorem plK_two (a b c : UInt8) (l : List Bool) : plK a b c l 2 = Bit.pack (l ++ [decide (c = a) || decide (c = b)]) := by
 unfold plK
 by_cases h1 : c = a
 ·rw [if_pos (.inl ⟨h1, by omega⟩), decide_eq_true h1, Bool.true_or]
 ·by_cases h2 : c = b
  ·rw [if_pos (.inr ⟨h2, by omega⟩), decide_eq_true h2, Bool.or_true]
  ·rw [if_neg (by rintro (⟨h, _⟩ | ⟨h, _⟩); exact h1 h; exact h2 h), decide_eq_false h1, decide_eq_false h2, room_pack]; rfl
theorem plK_no {a b c : UInt8} (l : List Bool) {k : Nat} (hk : k < 2) (h : ∀ h2 : k < [a, b].length, c ≠ [a, b][k]) : plK a b c l (k + 1) = plK a b c l k := by
 have hk2 : k = 0 ∨ k = 1 := by omega
 rcases hk2 with rfl | rfl
 ·have h1 : c ≠ a := h (by simp)
  unfold plK
  rw [if_neg (by rintro (⟨h, _⟩ | ⟨_, h⟩); exact h1 h; omega), if_neg (by omega)]
 ·have h1 : c ≠ b := h (by simp)
  unfold plK
  by_cases ha : c = a
  ·rw [if_pos (.inl ⟨ha, by omega⟩), if_pos (.inl ⟨ha, by omega⟩)]
  ·rw [if_neg (by rintro (⟨h, _⟩ | ⟨h, _⟩); exact ha h; exact h1 h), if_neg (by rintro (⟨h, _⟩ | ⟨h, _⟩); exact ha h; exact h1 h)]
theorem plK_yes {a b c : UInt8} (hab : a ≠ b) (l : List Bool) {k : Nat} (hk : k < 2) (h : ∀ h2 : k < [a, b].length, c = [a, b][k]) : plK a b c l k = Bit.room l ∧ plK a b c l (k + 1) = Bit.pack (l ++ [true]) := by
 have hk2 : k = 0 ∨ k = 1 := by omega
 rcases hk2 with rfl | rfl
 ·have h1 : c = a := h (by simp)
  exact ⟨plK_zero a b c l, by unfold plK; rw [if_pos (.inl ⟨h1, by omega⟩)]⟩
 ·have h1 : c = b := h (by simp)
  refine ⟨?_, by unfold plK; rw [if_pos (.inr ⟨h1, by omega⟩)]⟩
  unfold plK
  rw [if_neg (by rintro (⟨h, _⟩ | ⟨_, h⟩); exact hab (h.symm.trans h1); omega)]
theorem plB_low {v : List UInt8} (h : ∀ c ∈ v, cd c < 4) : plB 49 122 v = lowB v := by
 unfold plB lowB
 refine List.map_congr_left fun c hc => ?_
 have h4 := h c hc
 have e := ch_cd c h4
 rcases (show cd c = 0 ∨ cd c = 1 ∨ cd c = 2 ∨ cd c = 3 by omega) with k | k | k | k <;> rw [k] at e ⊢ <;> rw [← e] <;> decide
theorem plB_high {v : List UInt8} (h : ∀ c ∈ v, cd c < 4) : plB 120 122 v = higB v := by
 unfold plB higB
 refine List.map_congr_left fun c hc => ?_
 have h4 := h c hc
 have e := ch_cd c h4
 rcases (show cd c = 0 ∨ cd c = 1 ∨ cd c = 2 ∨ cd c = 3 by omega) with k | k | k | k <;> rw [k] at e ⊢ <;> rw [← e] <;> decide
theorem shr_val {r : Nat} (h : r < 8) : (128 : Int) / 2 ^ r = ((2 ^ (7 - r) : Nat) : Int) := by
 have hr : r = 0 ∨ r = 1 ∨ r = 2 ∨ r = 3 ∨ r = 4 ∨ r = 5 ∨ r = 6 ∨ r = 7 := by omega
 rcases hr with rfl | rfl | rfl | rfl | rfl | rfl | rfl | rfl <;> decide
theorem or_shift (old : UInt8) (r : Nat) (hr : r < 8) : ∃ x : UInt8, x.toNat = old.toNat ||| 2 ^ (7 - r) ∧ Go.bits .or .u8 (old.toNat : Int) ((2 ^ (7 - r) : Nat) : Int) = (x.toNat : Int) := by
 obtain ⟨x, h1, h2⟩ := or_new old true (7 - r) (by omega)
 rw [show true.toNat * 2 ^ (7 - r) = 2 ^ (7 - r) from by simp] at h1 h2
 exact ⟨x, h1, h2⟩
end Wv.Sn
namespace Go.Proofs.YtjfcemlbbinanaaGreatDoor
open Go.RowKit Go.Proofs Wv Wv.Vi Wv.Bc Wv.Sn Wv.Dc
set_option linter.unusedVariables false
theorem u8infP : (Tryz.prog.info? 5).map (fun i => (i.zero, i.size, i.bytes)) = some (some (.int .u8 0), 1, 1) := by kernel_rfl
theorem own_some {w : World} {base e n : Nat} {v : Value} {xs : List Value} (h : w.ownsRow base e 1 v n xs) (hn : 0 < n) : ∃ g cap, v = .slice (some ⟨g, 0, none⟩) n cap := by
 rcases h.2 with ⟨_, h2⟩ | ⟨g, cap, cur, h1, _⟩
 ·omega
 ·exact ⟨g, cap, h1⟩
set_option maxRecDepth 100000 in
set_option maxHeartbeats 4000000 in
theorem rplane_any (a b : UInt8) (hab : a ≠ b) (v : List UInt8) (hv : v.length ≤ 1000000) (w : World) :
  Calls Tryz.prog 35 #[.string (bs v), .string (bs [a, b])] w fun x w' => x = .returned (.string (bs (Bit.pack (plB a b v)))) ∧ Below w.heap.size w w' := by
 obtain ⟨n, hn⟩ : ∃ n, v.length = n := ⟨_, rfl⟩
 have hsa : (bs v).size = n := by rw [bs_size]; exact hn
 have Hga : Hid (∀ (i : Nat) (h : i < v.length) (h2 : i < (bs v).size), (bs v)[i]'h2 = v[i]'h) := hide (fun i h h2 => bs_get _ i h h2)
 have hsb : (bs [a, b]).size = 2 := by rw [bs_size]; rfl
 have Hgb : Hid (∀ (i : Nat) (h : i < [a, b].length) (h2 : i < (bs [a, b]).size), (bs [a, b])[i]'h2 = [a, b][i]'h) := hide (fun i h h2 => bs_get _ i h h2)
 have Hpl := hide (fun (i : Nat) (h : i < v.length) => (show (plB a b v).take (i + 1) = (plB a b v).take i ++ [decide (v[i] = a) || decide (v[i] = b)] by
  rw [List.take_succ_eq_append_getElem (by rw [plB_len]; exact h)]
  unfold plB
  simp))
 have Hpn : Hid ((plB a b v).length = n) := hide (by rw [plB_len]; exact hn)
 have H0 : Hid ((w.alloc (.cells #[] 5)).ownsRow w.heap.size 5 1 (.slice (some ⟨w.heap.size, 0, none⟩) 0 0) 0 ((Bit.pack ((plB a b v).take 0)).map bv)) := hide (by rw [List.take_zero]; exact own_made0 5 w)
 have Hb0 := hide ((Below.refl w.heap.size w).alloc (Nat.le_refl _) (.cells #[] 5))
 have Hn := hide hn
 have hn6 : n ≤ 1000000 := by omega
 generalize plB a b v = P at *
 generalize bs v = S at *
 generalize bs [a, b] = S2 at *
 clear hv hn
 go_enter Tryz.func35, Tryz.ntmps35
 go_wp2
 go_loopw [5, 6] (fun s5 s6 wr => ∃ i K g cap : Nat, i ≤ n ∧ s6 = .int .i64 (i : Int) ∧ s5 = .slice (some ⟨g, 0, none⟩) K cap ∧ K = (i + 7) / 8 ∧ Hid (wr.ownsRow w.heap.size 5 1 (.slice (some ⟨g, 0, none⟩) K cap) K ((Bit.pack (P.take i)).map bv)) ∧ Hid (Below w.heap.size w wr)) (fun _ s6 _ => (n - intOf s6).toNat)
 case atStart => exact ⟨0, 0, _, 0, Nat.zero_le _, rfl, rfl, rfl, H0, Hb0⟩
 case round =>
  clear H0 Hb0
  obtain ⟨i, K, g, cap, hi, rfl, rfl, hK, hown, hb⟩ := hrel
  by_cases hlt : i < n
  ·have hiv : i < v.length := by rw [Hn.out]; exact hlt
   have hiS : i < S.size := by omega
   have hga := Hga.out i hiv hiS
   have htk := Hpl.out i hiv
   have hil : (P.take i).length = i := by rw [List.length_take, Hpn.out]; omega
   obtain ⟨c, hc⟩ : ∃ c, v[i]'hiv = c := ⟨_, rfl⟩
   rw [hc] at hga htk
   have hgA : ((S[i]'hiS).toNat : Int) = (c.toNat : Int) := by rw [hga]
   have hi0 : (0 : Int) ≤ (i : Int) := by omega
   have hlti : (i : Int) < (n : Int) := by omega
   have hltS : (i : Int) < (S.size : Int) := by omega
   obtain ⟨z, hz⟩ : ∃ z, i / 8 = z := ⟨_, rfl⟩
   obtain ⟨r, hr⟩ : ∃ r, i % 8 = r := ⟨_, rfl⟩
   have hr8 : r < 8 := by omega
   have i3 : IntKind.i64.wrap ((i : Int) / 8) = (z : Int) := by rw [IntWalk.i64_in _ (by omega)]; omega
   have i4 : IntKind.i64.wrap ((i : Int) % 8) = (r : Int) := by rw [IntWalk.i64_in _ (by omega)]; omega
   -- the row behind the if
   have pre : ∃ (g1 cap1 : Nat) (W1 : World), (r = 0 → Hid ((Builtin.append_ #[74, 74] 74 #[.slice (some ⟨g, 0, none⟩) K cap, .slice (some ⟨wr.heap.size, 0, none⟩) 1 1]).run Tryz.prog (wr.alloc (.cells #[.int .u8 0] 5)) = .ok (.slice (some ⟨g1, 0, none⟩) (z + 1) cap1) W1)) ∧
     (r ≠ 0 → g1 = g ∧ cap1 = cap ∧ K = z + 1 ∧ W1 = wr) ∧ Hid (W1.ownsRow w.heap.size 5 1 (.slice (some ⟨g1, 0, none⟩) (z + 1) cap1) (z + 1) ((plK a b c (P.take i) 0).map bv)) ∧ Hid (Below w.heap.size w W1) := by
    by_cases hr0 : r = 0
    ·obtain ⟨v', w4, hrun, hown4, hf4, _⟩ := app_own (P := Tryz.prog) 74 5 _ _ Tryz.underlying74 u8infP rfl (w := wr) hown.out hb.out hb.out.size (.int .u8 0) rfl (by unfold maxLen; omega) (by omega)
     obtain ⟨g1, cap1, rfl⟩ := own_some hown4 (by omega)
     have hKz : K = z := by omega
     subst hKz
     refine ⟨g1, cap1, w4, fun _ => hide hrun, fun h => absurd hr0 h, hide ?_, hide hf4⟩
     rw [plK_zero]
     unfold Bit.room
     rw [if_pos (by rw [hil, hr]; exact hr0), List.map_append]
     exact hown4
    ·have hKz : K = z + 1 := by omega
     refine ⟨g, cap, wr, fun h => absurd h hr0, fun _ => ⟨rfl, rfl, hKz, rfl⟩, hide ?_, hb⟩
     rw [plK_zero]
     unfold Bit.room
     rw [if_neg (by rw [hil, hr]; exact hr0)]
     rw [← hKz]
     exact hown.out
   obtain ⟨g1, cap1, W1, p1, p2, Hown1, Hb1⟩ := pre
   have Hil := hide hil
   have Hz := hide hz
   have Hr := hide hr
   have Htk := hide htk
   clear hil hz hr htk hga hc hiv
   have i6 : (i : Int) % 8 = (r : Int) := by have := Hr.out; omega
   have i7 : (i : Int) / 8 = (z : Int) := by have := Hz.out; omega
   have z1 : (z : Int) < ((z + 1 : Nat) : Int) := by omega
   have z0 : (0 : Int) ≤ (z : Int) := by omega
   have r0 : (0 : Int) ≤ (r : Int) := by omega
   by_cases hr0 : r = 0
   ·have Hrun := p1 hr0
    have e0 : ((r : Int) == 0) = true := by rw [hr0]; rfl
    clear p1 p2 hown hb hr0 hK
    go_wp2_with (
     at_builtin
     refine wpList_run (by with_reducible rfl) rfl _ _ _ rfl _ _ (by rfl) (by rfl) Hrun.out ?_)
    clear Hrun
    go_loopw [7] (fun s7 wx => ∃ k : Nat, k ≤ 2 ∧ s7 = .int .i64 (k : Int) ∧ Hid (wx.ownsRow w.heap.size 5 1 (.slice (some ⟨g1, 0, none⟩) (z + 1) cap1) (z + 1) ((plK a b c (P.take i) k).map bv)) ∧ Hid (Below w.heap.size w wx)) (fun s7 _ => (2 - intOf s7).toNat)
    case atStart => exact ⟨0, by omega, rfl, Hown1, Hb1⟩
    case round =>
     clear Hown1 Hb1
     obtain ⟨k, hk, rfl, hown, hb⟩ := hrel
     by_cases hk2 : k < 2
     ·have hkS : k < S2.size := by omega
      have hgb := Hgb.out k (by simp; omega) hkS
      obtain ⟨y, hy⟩ : ∃ y, [a, b][k]'(by simp; omega) = y := ⟨_, rfl⟩
      rw [hy] at hgb
      have hgB : ((S2[k]'hkS).toNat : Int) = (y.toNat : Int) := by rw [hgb]
      have hk0 : (0 : Int) ≤ (k : Int) := by omega
      have hkI : (k : Int) < 2 := by omega
      have hkSI : (k : Int) < (S2.size : Int) := by omega
      by_cases hcy : c = y
      ·obtain ⟨q1, q2⟩ := plK_yes (c := c) hab (P.take i) hk2 (fun h2 => by rw [hcy, ← hy])
       obtain ⟨old, ho⟩ : ∃ o, (Bit.room (P.take i))[z]? = some o := ⟨_, List.getElem?_eq_getElem (by rw [Bit.room_length, Hil.out, Hz.out]; omega)⟩
       rw [q1] at hown
       obtain ⟨hcell, hfz⟩ := own_cellT hown.out z (bv old) (by rw [List.getElem?_map, ho]; rfl)
       obtain ⟨x, hx1, hx2⟩ := or_shift old r hr8
       have hput := own_putT hown.out z (bv x)
       rw [← List.map_set] at hput
       have hrp := room_put (P.take i) x old (by rw [Hil.out, Hz.out]; exact ho) (by rw [Hil.out, Hr.out]; exact hx1)
       rw [Hil.out, Hz.out] at hrp
       rw [hrp, ← q2] at hput
       have Hput := hide hput
       rw [← shr_val hr8] at hx2
       have Hx := hide hx2
       have hgl := hown.out.lt g1 rfl
       have Hb2 := hide (fun v => hb.out.setCell (p := ⟨g1, z, none⟩) hgl.1 v)
       have heq : ((y.toNat : Int) == (y.toNat : Int)) = true := beq_self_eq_true _
       have hcell2 : wr.cell? ⟨g1, z, none⟩ = some (.int .u8 (old.toNat : Int)) := hcell
       subst hcy
       clear hcell hput hrp q1 q2 ho hx1 hx2 hown hb hgb hy hgl
       go_wp2
       go_quiet (fail)
       go_wp2
       go_region
       go_wp2
       go_roundw
       case rel =>
        rw [Hx.out]
        exact ⟨k + 1, hk2, by go_num, hide (by have := Hput.out; exact this), hide (by have := Hb2.out (bv x); exact ⟨this.1, this.2, this.3, this.4, this.5⟩)⟩
       case measure => simp [intOf] <;> omega
      ·have q1 := plK_no (a := a) (b := b) (c := c) (P.take i) hk2 (fun h2 h => hcy (by rw [h, ← hy]))
       have hne : ((c.toNat : Int) == (y.toNat : Int)) = false := by
        rw [beq_eq_false_iff_ne]
        intro h
        exact hcy (UInt8.toNat_inj.1 (by omega))
       rw [← q1] at hown
       clear q1 hgb hy hcy
       go_wp2
       go_quiet (fail)
       go_wp2
       refine ⟨⟨k + 1, hk2, by go_num, by first | exact hown | exact hide hown.out, by first | exact hb | exact hide ⟨hb.out.1, hb.out.2, hb.out.3, hb.out.4, hb.out.5⟩⟩, ?_⟩
       simp [intOf] <;> omega
     ·have hkk : k = 2 := by omega
      subst hkk
      have hown2 := hown.out
      rw [plK_two, ← Htk.out] at hown2
      have Hown2 := hide hown2
      have hKn : z + 1 = (i + 1 + 7) / 8 := by have := Hz.out; omega
      clear hown hown2
      go_wp2
      refine ⟨⟨i + 1, z + 1, g1, cap1, hlt, by go_num, rfl, hKn, Hown2, hb⟩, ?_⟩
      simp [intOf] <;> omega
   ·have e0 : ((r : Int) == 0) = false := by rw [beq_eq_false_iff_ne]; omega
    obtain ⟨h1, h2, h3, h4⟩ := p2 hr0
    subst h1 h2 h4
    subst h3
    clear p1 p2 hown hb hr0 hK
    go_wp2
    go_loopw [7] (fun s7 wx => ∃ k : Nat, k ≤ 2 ∧ s7 = .int .i64 (k : Int) ∧ Hid (wx.ownsRow w.heap.size 5 1 (.slice (some ⟨g1, 0, none⟩) (z + 1) cap1) (z + 1) ((plK a b c (P.take i) k).map bv)) ∧ Hid (Below w.heap.size w wx)) (fun s7 _ => (2 - intOf s7).toNat)
    case atStart => exact ⟨0, by omega, rfl, Hown1, Hb1⟩
    case round =>
     clear Hown1 Hb1
     obtain ⟨k, hk, rfl, hown, hb⟩ := hrel
     by_cases hk2 : k < 2
     ·have hkS : k < S2.size := by omega
      have hgb := Hgb.out k (by simp; omega) hkS
      obtain ⟨y, hy⟩ : ∃ y, [a, b][k]'(by simp; omega) = y := ⟨_, rfl⟩
      rw [hy] at hgb
      have hgB : ((S2[k]'hkS).toNat : Int) = (y.toNat : Int) := by rw [hgb]
      have hk0 : (0 : Int) ≤ (k : Int) := by omega
      have hkI : (k : Int) < 2 := by omega
      have hkSI : (k : Int) < (S2.size : Int) := by omega
      by_cases hcy : c = y
      ·obtain ⟨q1, q2⟩ := plK_yes (c := c) hab (P.take i) hk2 (fun h2 => by rw [hcy, ← hy])
       obtain ⟨old, ho⟩ : ∃ o, (Bit.room (P.take i))[z]? = some o := ⟨_, List.getElem?_eq_getElem (by rw [Bit.room_length, Hil.out, Hz.out]; omega)⟩
       rw [q1] at hown
       obtain ⟨hcell, hfz⟩ := own_cellT hown.out z (bv old) (by rw [List.getElem?_map, ho]; rfl)
       obtain ⟨x, hx1, hx2⟩ := or_shift old r hr8
       have hput := own_putT hown.out z (bv x)
       rw [← List.map_set] at hput
       have hrp := room_put (P.take i) x old (by rw [Hil.out, Hz.out]; exact ho) (by rw [Hil.out, Hr.out]; exact hx1)
       rw [Hil.out, Hz.out] at hrp
       rw [hrp, ← q2] at hput
       have Hput := hide hput
       rw [← shr_val hr8] at hx2
       have Hx := hide hx2
       have hgl := hown.out.lt g1 rfl
       have Hb2 := hide (fun v => hb.out.setCell (p := ⟨g1, z, none⟩) hgl.1 v)
       have heq : ((y.toNat : Int) == (y.toNat : Int)) = true := beq_self_eq_true _
       have hcell2 : wr.cell? ⟨g1, z, none⟩ = some (.int .u8 (old.toNat : Int)) := hcell
       subst hcy
       clear hcell hput hrp q1 q2 ho hx1 hx2 hown hb hgb hy hgl
       go_wp2
       go_quiet (fail)
       go_wp2
       go_region
       go_wp2
       go_roundw
       case rel =>
        rw [Hx.out]
        exact ⟨k + 1, hk2, by go_num, hide (by have := Hput.out; exact this), hide (by have := Hb2.out (bv x); exact ⟨this.1, this.2, this.3, this.4, this.5⟩)⟩
       case measure => simp [intOf] <;> omega
      ·have q1 := plK_no (a := a) (b := b) (c := c) (P.take i) hk2 (fun h2 h => hcy (by rw [h, ← hy]))
       have hne : ((c.toNat : Int) == (y.toNat : Int)) = false := by
        rw [beq_eq_false_iff_ne]
        intro h
        exact hcy (UInt8.toNat_inj.1 (by omega))
       rw [← q1] at hown
       clear q1 hgb hy hcy
       go_wp2
       go_quiet (fail)
       go_wp2
       refine ⟨⟨k + 1, hk2, by go_num, by first | exact hown | exact hide hown.out, by first | exact hb | exact hide ⟨hb.out.1, hb.out.2, hb.out.3, hb.out.4, hb.out.5⟩⟩, ?_⟩
       simp [intOf] <;> omega
     ·have hkk : k = 2 := by omega
      subst hkk
      have hown2 := hown.out
      rw [plK_two, ← Htk.out] at hown2
      have Hown2 := hide hown2
      have hKn : z + 1 = (i + 1 + 7) / 8 := by have := Hz.out; omega
      clear hown hown2
      go_wp2
      refine ⟨⟨i + 1, z + 1, g1, cap1, hlt, by go_num, rfl, hKn, Hown2, hb⟩, ?_⟩
      simp [intOf] <;> omega
  ·have hin : i = n := by omega
   subst hin
   have h := hown.out
   rw [List.take_of_length_le (by rw [Hpn.out]; exact Nat.le_refl _)] at h
   have hcv := conv_own (P := Tryz.prog) 74 9 5 Tryz.underlying74 Tryz.underlying5 Tryz.underlying9 h
   have hbsv : (⟨(Bit.pack P).toArray⟩ : ByteArray) = bs (Bit.pack P) := rfl
   rw [hbsv] at hcv
   obtain ⟨R, hR⟩ : ∃ s, bs (Bit.pack P) = s := ⟨_, rfl⟩
   rw [hR] at hcv
   have HR := hide hR
   clear h hbsv hown Hga Hgb Hpl hK hR
   go_wp2
   go_returns
   exact ⟨by rw [HR.out]; rfl, hb.out⟩
set_option maxRecDepth 100000 in
theorem rbits_any (v : List UInt8) (hv : v.length ≤ 1000000) (h4 : ∀ c ∈ v, cd c < 4) (w : World) :
  Calls Tryz.prog 24 #[.string (bs v)] w fun x w' => x = .returned (.string (bs (Bit.pack (lowB v) ++ Bit.pack (higB v)))) ∧ Below w.heap.size w w' := by
 have H1 := hide (fun W => rplane_any 49 122 (by decide) v hv W)
 have H2 := hide (fun W => rplane_any 120 122 (by decide) v hv W)
 rw [plB_low h4, show bs [49, 122] = ⟨#[49, 122]⟩ from rfl] at H1
 rw [plB_high h4, show bs [120, 122] = ⟨#[120, 122]⟩ from rfl] at H2
 have l1 : (bs (Bit.pack (lowB v))).size ≤ 1000000 := by rw [bs_size, Bit.pack_length]; unfold lowB; rw [List.length_map]; omega
 have l2 : (bs (Bit.pack (higB v))).size ≤ 1000000 := by rw [bs_size, Bit.pack_length]; unfold higB; rw [List.length_map]; omega
 rw [← bs_append]
 generalize bs (Bit.pack (lowB v)) = S1 at *
 generalize bs (Bit.pack (higB v)) = S2 at *
 generalize bs v = S at *
 have l3 : S1.size + S2.size ≤ 9223372036854775807 := by omega
 clear h4 hv
 go_enter Tryz.func24, Tryz.ntmps24
 go_wp2_with fail
 refine (H1.out _).mono ?_
 rintro x w1 ⟨rfl, hb1⟩
 have Hb1 := hide hb1
 clear hb1
 go_wp2_with fail
 refine (H2.out _).mono ?_
 rintro x w2 ⟨rfl, hb2⟩
 have Hb2 := hide (Hb1.out.trans (hb2.mono Hb1.out.size))
 clear hb2
 go_wp2
 go_returns
 exact ⟨rfl, Hb2.out⟩
end Go.Proofs.YtjfcemlbbinanaaGreatDoor
