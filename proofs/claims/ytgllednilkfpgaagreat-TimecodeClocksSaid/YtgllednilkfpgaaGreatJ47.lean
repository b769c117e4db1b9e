/-
  Joined texts: Pc, Pd.
-/
import Derived.Test.YtgllednilkfpgaaGreatJ45
import Derived.Lib.SliceRun
import Derived.Test.YtgllednilkfpgaaGreatJ46
set_option linter.unusedVariables false
set_option linter.unusedSimpArgs false
/-
  The laws of times: taking times out of a row (the library's walk with the law's closure).
-/
namespace Wv
open Go Go.RowKit
set_option linter.unusedVariables false
/-- A row, cut at its end. -/
theorem own_cut {w : World} {base e n cap : Nat} {g : Nat} {xs : List Value} (h : w.ownsRow base e 1 (.slice (some ⟨g, 0, none⟩) n cap) n xs) (i : Nat) (hi : i ≤ n) : w.ownsRow base e 1 (.slice (some ⟨g, 0, none⟩) i cap) i (xs.take i) := by
  refine ⟨by rw [List.length_take, h.1]; omega, ?_⟩
  rcases h.2 with ⟨h2, _⟩ | ⟨g', cap', cur, hv, hb, hg, hnc, hcm, hcs, htk⟩
  · cases h2
  · injection hv with hv1 hv2 hv3
    injection hv1 with hv1
    injection hv1 with hv1
    subst hv1; subst hv3
    refine .inr ⟨g, cap, cur, rfl, hb, hg, by omega, hcm, hcs, ?_⟩
    rw [← htk, List.take_take, Nat.mul_one, Nat.mul_one, Nat.min_eq_left hi]
theorem fr_setCells {S : Nat → Prop} {a : World} {g : Nat} (hg : S g) : ∀ (vs : List Value) (o : Nat) {w : World}, Fr S a w → Fr S a (w.setCells g o vs)
  | [], _, _, h => h
  | v :: r, o, w, h => fr_setCells hg r (o + 1) (h.setCell (.inl hg) v)
theorem bel_setCells {B g : Nat} {a : World} (hg : B ≤ g) : ∀ (vs : List Value) (o : Nat) {w : World}, Below B a w → Below B a (w.setCells g o vs)
  | [], _, _, h => h
  | v :: r, o, w, h => bel_setCells hg r (o + 1) (h.setCell (p := ⟨g, o, none⟩) hg v)
theorem own_setCells {base e n cap : Nat} {g : Nat} : ∀ (vs : List Value) (o : Nat) {w : World} {xs : List Value}, w.ownsRow base e 1 (.slice (some ⟨g, 0, none⟩) n cap) n xs → o + vs.length ≤ n → ∃ ys, (w.setCells g o vs).ownsRow base e 1 (.slice (some ⟨g, 0, none⟩) n cap) n ys ∧ ys.take o = xs.take o
  | [], o, w, xs, h, _ => ⟨xs, h, rfl⟩
  | v :: r, o, w, xs, h, hl => by
    rw [List.length_cons] at hl
    obtain ⟨ys, h1, h2⟩ := own_setCells (base := base) (e := e) (n := n) (cap := cap) (g := g) r (o + 1) (own_put h o (by omega) v) (by omega)
    refine ⟨ys, h1, ?_⟩
    have h3 := congrArg (List.take o) h2
    rw [List.take_take, List.take_take, Nat.min_eq_left (by omega)] at h3
    rw [h3, List.take_set]
    apply List.ext_getElem?
    intro k
    rw [List.getElem?_set]
    rcases Nat.lt_or_ge k o with hk | hk
    · rw [if_neg (by omega)]
    · rw [List.getElem?_eq_none (by rw [List.length_take]; omega)]
      split
      · split
        · rename_i h5 h6
          rw [List.length_take] at h6
          omega
        · rfl
      · rfl
end Wv
namespace Go.Proofs.YtgllednilkfpgaaGreat
open Go.RowKit Go.Proofs Wv Wv.Vi Wv.Rc Wv.Mo Wv.Ru Wv.Tm
set_option linter.unusedVariables false
set_option maxRecDepth 10000 in
set_option maxHeartbeats 1000000 in
theorem lclockat_any {c : Clk} (hc : inD c) (i : Nat) (hi : i ≤ 5000) (w : World) :
    Calls Tryz.prog 37 #[CV c, .int .i64 (i : Int)] w fun x w' => x = .returned (.int .i64 (atC c i)) ∧ Below w.heap.size w w' := by
  obtain ⟨h1, h2, h3, h4, h5, h6⟩ := hc
  obtain ⟨st, f, s, n⟩ := c
  simp only at *
  have hat : atC ⟨st, f, s, n⟩ i = st + ((i + 1) / 2 : Nat) * f + (i / 2 : Nat) * s := rfl
  obtain ⟨k1, hk1⟩ : ∃ k, (i + 1) / 2 = k := ⟨_, rfl⟩
  obtain ⟨k2, hk2⟩ : ∃ k, i / 2 = k := ⟨_, rfl⟩
  rw [hk1, hk2] at hat
  obtain ⟨m1, m2⟩ := mul_in (k := k1) (by omega) h3 h4
  obtain ⟨m3, m4⟩ := mul_in (k := k2) (by omega) h5 h6
  have e1 : ((i : Int) + 1) / 2 = (k1 : Int) := by omega
  have e2 : (i : Int) / 2 = (k2 : Int) := by omega
  obtain ⟨P1, hP1⟩ : ∃ P, (k1 : Int) * f = P := ⟨_, rfl⟩
  obtain ⟨P2, hP2⟩ : ∃ P, (k2 : Int) * s = P := ⟨_, rfl⟩
  rw [hP1] at m1 m2 hat
  rw [hP2] at m3 m4 hat
  have Hat := hide hat
  clear hk1 hk2 hat
  unfold CV
  simp only
  go_enter Tryz.func37, Tryz.ntmps37
  go_wp2
  go_ret
  exact ⟨by rw [Hat.out]; rfl, (Below.refl w.heap.size w).alloc (Nat.le_refl _) _⟩
/-- What the closure looks at. -/
structure ClSt (W : World) (C I : Nat) (c : Clk) (i : Nat) : Prop where
  bc : Bk W C 24 #[.int .i64 c.st, .int .i64 c.f, .int .i64 c.s, .int .i64 c.n]
  bi : Bk W I 3 #[.int .i64 (i : Int)]
theorem ClSt.below {W W' : World} {C I : Nat} {c : Clk} {i : Nat} (h : ClSt W C I c i) (hb : Below W.heap.size W W') : ClSt W' C I c i := ⟨h.bc.below hb h.bc.lt, h.bi.below hb h.bi.lt⟩
def clF (C I : Nat) : Value := .func (.func 36) #[] #[.pointer (some ⟨C, 0, none⟩), .pointer (some ⟨I, 0, none⟩)]
set_option maxRecDepth 10000 in
set_option maxHeartbeats 1000000 in
theorem lclos_any {W : World} {C I : Nat} {c : Clk} (hc : inD c) {i : Nat} (hi : i ≤ 5000) (h : ClSt W C I c i) (t : Int) :
    Calls Tryz.prog 36 #[.int .i64 t, .pointer (some ⟨C, 0, none⟩), .pointer (some ⟨I, 0, none⟩)] W fun x w' => x = .returned (.bool (t == atC c i)) ∧ Below W.heap.size W w' := by
  have H := hide (lclockat_any hc i hi W)
  have k0 := h.bc.cell 0
  have k1 := h.bc.cell 1
  have k2 := h.bc.cell 2
  have k3 := h.bc.cell 3
  have k4 := h.bi.cell 0
  simp only [List.getElem?_toArray, List.getElem?_cons_zero, List.getElem?_cons_succ] at k0 k1 k2 k3 k4
  generalize atC c i = a at *
  obtain ⟨st, f, s, n⟩ := c
  unfold CV at H
  simp only at H k0 k1 k2 k3
  clear hc h
  go_enter Tryz.func36, Tryz.ntmps36
  go_wp2_with fail
  refine (H.out).mono ?_
  rintro x w1 ⟨rfl, hb1⟩
  go_wp2
  go_ret
  exact ⟨rfl, hb1⟩
/-- The place of the first time that is to go. -/
def IxRes (w : World) (l : List Int) (a : Int) (x : Ending) (w' : World) : Prop := Below w.heap.size w w' ∧ ((x = .returned (.int .i64 (-1)) ∧ ∀ t ∈ l, t ≠ a) ∨ (∃ m : Nat, x = .returned (.int .i64 (m : Int)) ∧ l[m]? = some a ∧ ∀ t ∈ l.take m, t ≠ a))
set_option maxRecDepth 10000 in
set_option maxHeartbeats 2000000 in
theorem lindex_any {w : World} {A : Option Addr} {l : List Int} (ha : At w A (ivs l)) (n cap : Nat) (hn : n = l.length) (hn4 : n ≤ 1000000) {C I : Nat} {c : Clk} (hc : inD c) {i : Nat} (hi : i ≤ 5000) (h : ClSt w C I c i) :
    Calls Tryz.prog 59 #[.slice A n cap, clF C I] w fun x w' => IxRes w l (atC c i) x w' := by
  have Ha := hide ha
  have Hn := hide hn
  have Hcl := hide (fun W (hb : Below w.heap.size w W) t => lclos_any hc hi (h.below hb) t)
  obtain ⟨a, haa⟩ : ∃ a, atC c i = a := ⟨_, rfl⟩
  rw [haa] at Hcl ⊢
  clear ha hn hc h hi haa
  unfold clF
  go_enter Tryz.func59, Tryz.ntmps59
  go_wp2
  go_loopw [8] (fun s8 wr => ∃ k : Nat, k ≤ n ∧ s8 = .int .i64 (k : Int) ∧ Hid (∀ t ∈ l.take k, t ≠ a) ∧ Hid (Below w.heap.size w wr)) (fun s8 _ => (n - intOf s8).toNat)
  case atStart => exact ⟨0, Nat.zero_le _, rfl, hide (by simp), hide (Below.refl _ _)⟩
  case round =>
    obtain ⟨k, hk, rfl, hall, hb⟩ := hrel
    by_cases hlt : k < n
    · have hkl : k < l.length := by rw [← Hn.out]; exact hlt
      have hg := ivs_at l k hkl
      have htk := List.take_succ_eq_append_getElem hkl
      obtain ⟨x, hx⟩ : ∃ x, l[k] = x := ⟨_, rfl⟩
      have hgx : l[k]? = some x := by rw [List.getElem?_eq_getElem hkl, hx]
      rw [hx] at hg htk
      obtain ⟨b, o, hA, hbA, hc0⟩ := (Ha.out.below hb.out).get k _ hg
      subst hA
      have hlti : (k : Int) < (n : Int) := by omega
      have hlti0 : (0 : Int) ≤ (k : Int) := by omega
      have H1 := hide (Hcl.out _ hb.out x)
      by_cases hxa : x = a
      · have Hfin : Hid (∀ w', Below w.heap.size w w' → IxRes w l a (.returned (.int .i64 (k : Int))) w') := hide (fun w' h => ⟨h, .inr ⟨k, rfl, by rw [hgx, hxa], hall.out⟩⟩)
        have he : (x == a) = true := by rw [beq_iff_eq]; exact hxa
        rw [he] at H1
        clear hkl hg htk hx hgx hbA hall hxa he
        go_wp2_with fail
        refine (H1.out).mono ?_
        rintro y w1 ⟨rfl, hb1⟩
        have hbn1 := bel_step hb.out hb1
        go_wp2
        go_returns
        exact Hfin.out _ hbn1
      · have he : (x == a) = false := by rw [beq_eq_false_iff_ne]; exact hxa
        rw [he] at H1
        have Hall : Hid (∀ t ∈ l.take (k + 1), t ≠ a) := hide (fun t ht => by
          rw [htk] at ht
          rcases List.mem_append.1 ht with h1 | h1
          · exact hall.out t h1
          · rw [List.mem_singleton] at h1; rw [h1]; exact hxa)
        clear hkl hg htk hx hgx hbA hall hxa he
        go_wp2_with fail
        refine (H1.out).mono ?_
        rintro y w1 ⟨rfl, hb1⟩
        have Hb1 := hide (bel_step hb.out hb1)
        clear hb1
        go_wp2
        refine ⟨⟨k + 1, hlt, by go_num, Hall, Hb1⟩, ?_⟩
        simp [intOf] <;> omega
    · have hkn : k = n := by omega
      subst hkn
      have htk : l.take k = l := List.take_of_length_le (by rw [← Hn.out]; exact Nat.le_refl _)
      have hall2 := hall.out
      rw [htk] at hall2
      have Hall := hide hall2
      clear htk hall hall2
      go_wp2
      go_returns
      exact ⟨hb.out, .inl ⟨rfl, Hall.out⟩⟩
end Go.Proofs.YtgllednilkfpgaaGreat
/-
  The laws of times: taking a time out of a row (slices.DeleteFunc).
-/
namespace Go.Proofs.YtgllednilkfpgaaGreat
open Go.RowKit Go.Proofs Wv Wv.Vi Wv.Rc Wv.Mo Wv.Ru Wv.Tm
set_option linter.unusedVariables false
def rmv (a : Int) (l : List Int) : List Int := l.filter (fun t => !(t == a))
theorem rmv_snoc (a : Int) (l : List Int) (x : Int) : rmv a (l ++ [x]) = if x = a then rmv a l else rmv a l ++ [x] := by
  unfold rmv
  rw [List.filter_append]
  by_cases h : x = a
  · rw [if_pos h]; simp [h]
  · rw [if_neg h]; simp [h]
theorem rmv_len (a : Int) (l : List Int) : (rmv a l).length ≤ l.length := List.length_filter_le _ _
theorem rmv_none {a : Int} {l : List Int} (h : ∀ t ∈ l, t ≠ a) : rmv a l = l := by
  unfold rmv
  rw [List.filter_eq_self]
  intro t ht
  have := h t ht
  simp [this]
/-- What taking out leaves. -/
def DlRes (w wb : World) (B : Nat) (v : Value) (l : List Int) (x : Ending) (w' : World) : Prop := ∃ v', x = .returned v' ∧ w'.ownsRow B 3 1 v' l.length (ivs l) ∧ v'.ownBlock = v.ownBlock ∧ Below B wb w' ∧ Fr (fun k => v.ownBlock = some k) w w'
/-- The row while it is gone through. -/
def DlSt (w wr : World) (B g n cap : Nat) (a : Int) (l : List Int) (j : Nat) : Prop :=
  ∃ S : List Int, (rmv a (l.take j)).length + S.length = j ∧ 0 < S.length ∧ wr.ownsRow B 3 1 (.slice (some ⟨g, 0, none⟩) n cap) n (ivs (rmv a (l.take j) ++ S ++ l.drop j))
theorem ivs_set (l : List Int) (i : Nat) (x : Int) : (ivs l).set i (.int .i64 x) = ivs (l.set i x) := by simp [ivs, iv, List.map_set]
set_option maxRecDepth 10000 in
set_option maxHeartbeats 4000000 in
theorem ldelete_any {w wb : World} {B n : Nat} {v : Value} {l : List Int} (hown : w.ownsRow B 3 1 v n (ivs l)) (hn : n = l.length) (hn4 : n ≤ 1000000) (hb : Below B wb w) (hB : B ≤ w.heap.size) {C I : Nat} {c : Clk} (hc : inD c) {i : Nat} (hi : i ≤ 5000) (h : ClSt w C I c i) (hC : v.ownBlock ≠ some C) (hI : v.ownBlock ≠ some I) :
    Calls Tryz.prog 35 #[v, clF C I] w fun x w' => DlRes w wb B v (outF c l i) x w' := by
  obtain ⟨A, cap, hv, hat⟩ := own_at hown
  obtain ⟨a, haa⟩ : ∃ a, atC c i = a := ⟨_, rfl⟩
  have hout : outF c l i = rmv a l := by unfold outF rmv; rw [haa]
  rw [hout]
  have Hix := hide (lindex_any hat n cap hn hn4 hc hi h)
  rw [haa] at Hix
  rw [hv] at hown hC hI ⊢
  have Hown := hide hown
  have Hb := hide hb
  have Hcl := hide (fun W (hh : ClSt W C I c i) t => lclos_any hc hi hh t)
  rw [haa] at Hcl
  have Hh := hide h
  have Hn := hide hn
  have hB' := hB
  clear hown hb hc hi h hat hout haa hn
  unfold clF at *
  go_enter Tryz.func35, Tryz.ntmps35
  go_wp2_with fail
  refine (Hix.out).mono ?_
  rintro x w1 ⟨hb1, hcase⟩
  rcases hcase with ⟨rfl, hall⟩ | ⟨m, rfl, hm, hall⟩
  · have hr := rmv_none hall
    have Hown1 := hide (own_fr Hown.out (Fr.of_below (S := nob) hb1) (fun _ _ f => f))
    have Hb1 := hide (Hb.out.trans (hb1.mono hB'))
    have Hf1 := hide (Fr.of_below (S := fun k => (Value.slice A n cap).ownBlock = some k) hb1)
    have Hfin : Hid (DlRes w wb B (.slice A n cap) (rmv a l) (.returned (.slice A n cap)) w1) := hide ⟨_, rfl, by rw [hr, ← Hn.out]; exact Hown1.out, rfl, Hb1.out, Hf1.out⟩
    clear hall hr Hown1 Hb1 Hf1 hb1
    go_wp2
    go_returns
    exact Hfin.out
  · have hml : m < l.length := (List.getElem?_eq_some_iff.1 hm).1
    obtain ⟨g, capg, hvg, hncap⟩ := own_form Hown.out (by rw [Hn.out]; omega)
    injection hvg with hv1 hv2 hv3
    subst hv1; subst hv3
    have hCg : C ≠ g := fun e => hC (by rw [e]; rfl)
    have hIg : I ≠ g := fun e => hI (by rw [e]; rfl)
    have hgB : B ≤ g := by
      rcases Hown.out.2 with ⟨h2, _⟩ | ⟨g', cap', cur, hv', hb', _⟩
      · cases h2
      · injection hv' with e1
        injection e1 with e1
        injection e1 with e1
        omega
    have Hown1 := own_fr Hown.out (Fr.of_below (S := nob) hb1) (fun _ _ f => f)
    have Hst : Hid (DlSt w w1 B g n cap a l (m + 1)) := hide (by
      have e1 : l.take (m + 1) = l.take m ++ [a] := by
        rw [List.take_succ_eq_append_getElem hml]
        congr 2
        exact (List.getElem?_eq_some_iff.1 hm).2
      have e2 : rmv a (l.take (m + 1)) = l.take m := by rw [e1, rmv_snoc, if_pos rfl, rmv_none hall]
      refine ⟨[a], ?_, by simp, ?_⟩
      · rw [e2, List.length_take, List.length_singleton]; omega
      · rw [e2, ← e1, List.take_append_drop]
        exact Hown1)
    have Hrl : Hid ((rmv a (l.take (m + 1))).length = m) := hide (by
      have e1 : l.take (m + 1) = l.take m ++ [a] := by
        rw [List.take_succ_eq_append_getElem hml]
        congr 2
        exact (List.getElem?_eq_some_iff.1 hm).2
      rw [e1, rmv_snoc, if_pos rfl, rmv_none hall, List.length_take]
      omega)
    have Hb1 := hide (Hb.out.trans (hb1.mono hB'))
    have Hf1 := hide (Fr.of_below (S := only g) hb1)
    have Hh1 := hide (Hh.out.below hb1)
    have hmn : m < n := by rw [Hn.out]; exact hml
    clear hm hall hml Hown1 hb1 Hix Hb Hown Hh
    have hm1 : ((m : Int) == -1) = false := by rw [beq_eq_false_iff_ne]; omega
    go_wp2
    go_loopw [5, 6] (fun s5 s6 wr => ∃ j : Nat, j ≤ n ∧ s5 = .int .i64 (((rmv a (l.take j)).length : Nat) : Int) ∧ s6 = .int .i64 (j : Int) ∧ Hid (DlSt w wr B g n cap a l j) ∧ Hid (Below B wb wr) ∧ Hid (Fr (only g) w wr) ∧ Hid (ClSt wr C I c i)) (fun _ s6 _ => (n - intOf s6).toNat)
    case atStart => exact ⟨m + 1, by omega, by rw [Hrl.out], by go_num, Hst, Hb1, Hf1, Hh1⟩
    case round =>
      clear Hst Hb1 Hf1 Hh1 Hrl hm1 hmn
      obtain ⟨j, hj, rfl, rfl, hst, hbr, hfr, hcl⟩ := hrel
      by_cases hlt : j < n
      · have hjl : j < l.length := by rw [← Hn.out]; exact hlt
        obtain ⟨S, hS1, hS2, hown⟩ := hst.out
        obtain ⟨k, hk⟩ : ∃ k, (rmv a (l.take j)).length = k := ⟨_, rfl⟩
        have htk := List.take_succ_eq_append_getElem hjl
        have hdr : l.drop j = l[j] :: l.drop (j + 1) := List.drop_eq_getElem_cons hjl
        obtain ⟨x, hx⟩ : ∃ x, l[j] = x := ⟨_, rfl⟩
        rw [hx] at htk hdr
        have hgj : (ivs (rmv a (l.take j) ++ S ++ l.drop j))[j]? = some (.int .i64 x) := by
          unfold ivs
          rw [List.getElem?_map, hdr, List.getElem?_append_right (by rw [List.length_append]; omega), List.length_append, hS1, Nat.sub_self]
          rfl
        obtain ⟨hcj, _⟩ := own_cell hown j _ hgj
        have H1 := hide (Hcl.out _ hcl.out x)
        have hlti : (j : Int) < (n : Int) := by omega
        have hlti0 : (0 : Int) ≤ (j : Int) := by omega
        by_cases hxa : x = a
        · have he : (x == a) = true := by rw [beq_iff_eq]; exact hxa
          rw [he] at H1
          have hr2 : rmv a (l.take (j + 1)) = rmv a (l.take j) := by rw [htk, rmv_snoc, if_pos hxa]
          have Hst2 : Hid (∀ W, W.ownsRow B 3 1 (.slice (some ⟨g, 0, none⟩) n cap) n (ivs (rmv a (l.take j) ++ S ++ l.drop j)) → DlSt w W B g n cap a l (j + 1)) := hide (fun W hW => by
            refine ⟨S ++ [x], ?_, by simp, ?_⟩
            · rw [hr2, List.length_append, List.length_singleton]; omega
            · rw [hr2]
              rw [hdr] at hW
              simpa using hW)
          have Hr2 := hide hr2
          have Hown := hide hown
          clear hjl hS1 hS2 hown hk htk hdr hx hgj hxa he hr2 hst
          go_wp2_with fail
          refine (H1.out).mono ?_
          rintro y w2 ⟨rfl, hb2⟩
          have Hown2 := hide (own_fr Hown.out (Fr.of_below (S := nob) hb2) (fun _ _ f => f))
          have Hb2 := hide (hbr.out.trans (hb2.mono (by have := hfr.out.size; omega)))
          have Hf2 := hide (hfr.out.below hb2)
          have Hc2 := hide (hcl.out.below hb2)
          clear hb2 Hown
          go_wp2
          refine ⟨⟨j + 1, hlt, by rw [Hr2.out], by go_num, hide (Hst2.out _ Hown2.out), Hb2, Hf2, Hc2⟩, ?_⟩
          simp [intOf] <;> omega
        · have he : (x == a) = false := by rw [beq_eq_false_iff_ne]; exact hxa
          rw [he] at H1
          have hr2 : rmv a (l.take (j + 1)) = rmv a (l.take j) ++ [x] := by rw [htk, rmv_snoc, if_neg hxa]
          have hkl : Hid ((rmv a (l.take (j + 1))).length = k + 1) := hide (by rw [hr2, List.length_append, hk]; rfl)
          cases S with
          | nil => exact absurd hS2 (by simp)
          | cons s0 S' =>
            have Hst2 : Hid (∀ W, W.ownsRow B 3 1 (.slice (some ⟨g, 0, none⟩) n cap) n ((ivs (rmv a (l.take j) ++ (s0 :: S') ++ l.drop j)).set k (.int .i64 x)) → DlSt w W B g n cap a l (j + 1)) := hide (fun W hW => by
              refine ⟨S' ++ [x], ?_, by simp, ?_⟩
              · rw [hr2, List.length_append, List.length_append, List.length_singleton]
                rw [List.length_cons] at hS1
                omega
              · rw [hr2]
                rw [ivs_set, hdr, List.append_assoc, List.set_append_right _ _ (by omega), hk, Nat.sub_self] at hW
                simpa using hW)
            have hgk : (ivs (rmv a (l.take j) ++ (s0 :: S') ++ l.drop j))[k]? = some (.int .i64 s0) := by
              unfold ivs
              rw [List.getElem?_map, List.append_assoc, List.getElem?_append_right (by omega), hk, Nat.sub_self]
              rfl
            have hkj : k < n := by rw [List.length_cons] at hS1; omega
            have Hgk := hide hgk
            have Hown := hide hown
            rw [hk]
            clear hjl hS1 hS2 hown hk htk hdr hx hgj hxa he hr2 hst hgk
            go_wp2_with fail
            refine (H1.out).mono ?_
            rintro y w2 ⟨rfl, hb2⟩
            have Hown2 := hide (own_fr Hown.out (Fr.of_below (S := nob) hb2) (fun _ _ f => f))
            obtain ⟨hck, hfk⟩ := own_cell Hown2.out k _ Hgk.out
            have Hown3 := hide (Hst2.out _ (own_put Hown2.out k hkj (.int .i64 x)))
            have Hb2 := hide ((hbr.out.trans (hb2.mono (by have := hfr.out.size; omega))).setCell (p := ⟨g, k, none⟩) hgB (.int .i64 x))
            have Hf2 := hide ((hfr.out.below hb2).setCell (p := ⟨g, k, none⟩) (.inl rfl) (.int .i64 x))
            have hc2 := hcl.out.below hb2
            have Hc2 : Hid (ClSt (w2.setCell ⟨g, k, none⟩ (.int .i64 x)) C I c i) := hide ⟨hc2.bc.off hCg _, hc2.bi.off hIg _⟩
            have hki0 : (0 : Int) ≤ (k : Int) := by omega
            have hki : (k : Int) < (n : Int) := by omega
            clear hb2 Hown Hown2 Hst2 hc2
            go_wp2
            refine ⟨⟨j + 1, hlt, by rw [hkl.out]; go_num, by go_num, Hown3, Hb2, Hf2, Hc2⟩, ?_⟩
            simp [intOf] <;> omega
      · have hjn : j = n := by omega
        subst hjn
        obtain ⟨S, hS1, hS2, hown⟩ := hst.out
        have htk : l.take j = l := List.take_of_length_le (by rw [← Hn.out]; exact Nat.le_refl _)
        have hdr : l.drop j = [] := List.drop_eq_nil_of_le (by rw [← Hn.out]; exact Nat.le_refl _)
        rw [htk] at hS1
        rw [htk, hdr, List.append_nil] at hown
        rw [htk]
        obtain ⟨k, hk⟩ : ∃ k, (rmv a l).length = k := ⟨_, rfl⟩
        rw [hk] at hS1 ⊢
        have hcells : ∀ q, q < j - k → (wr.cell? ⟨g, k + q, none⟩).isSome = true ∧ wr.frozen? ⟨g, k + q, none⟩ = false := fun q hq => by
          have hlen : k + q < (rmv a l ++ S).length := by rw [List.length_append]; omega
          obtain ⟨h1, h2⟩ := own_cell hown (k + q) (.int .i64 ((rmv a l ++ S)[k + q])) (ivs_at _ _ hlen)
          exact ⟨by rw [h1]; rfl, h2⟩
        have hrun := Go.Lib.run_clear_slice (P := Tryz.prog) wr 22 3 0 (.int .i64 0) Tryz.underlying22 (fun w => by kernel_rfl) rfl rfl g k (j - k) (cap - k) (by omega) (fun q hq => (hcells q hq).1) (fun q hq => (hcells q hq).2)
        obtain ⟨ys, hys, hyt⟩ := own_setCells (List.replicate (j - k) (.int .i64 0)) k hown (by rw [List.length_replicate]; omega)
        have hcut := own_cut hys k (by omega)
        have hxt : (ivs (rmv a l ++ S)).take k = ivs (rmv a l) := by
          have e : ivs (rmv a l ++ S) = ivs (rmv a l) ++ ivs S := by simp [ivs]
          rw [e]
          exact List.take_left' (by rw [ivs_len]; exact hk)
        rw [hyt, hxt] at hcut
        have Hcut := hide hcut
        have HbF := hide (bel_setCells hgB (List.replicate (j - k) (.int .i64 0)) k hbr.out)
        have HfF := hide ((fr_setCells (S := only g) rfl (List.replicate (j - k) (.int .i64 0)) k hfr.out).mono (T := fun q => (Value.slice (some ⟨g, 0, none⟩) j cap).ownBlock = some q) (fun q hq => by
          have : q = g := hq
          rw [this]; rfl))
        have hkn : k < j := by omega
        have hki : (k : Int) ≤ (j : Int) := by omega
        have hki0 : (0 : Int) ≤ (k : Int) := by omega
        have hjc : (j : Int) ≤ (cap : Int) := by omega
        have hkc : k ≤ cap := by omega
        have Hfin : Hid (DlRes w wb B (.slice (some ⟨g, 0, none⟩) j cap) (rmv a l) (.returned (.slice (some ⟨g, 0, none⟩) k cap)) (wr.setCells g k (List.replicate (j - k) (.int .i64 0)))) := hide ⟨_, rfl, by rw [hk]; exact Hcut.out, rfl, HbF.out, HfF.out⟩
        clear hst hS1 hS2 hown htk hdr hk hcells hys hyt hcut hxt Hcut HbF HfF hbr hfr hcl
        go_wp2
        go_returns
        exact Hfin.out
end Go.Proofs.YtgllednilkfpgaaGreat
