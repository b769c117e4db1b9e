/-
  The walks over the models: a tree's coding of a number, wherever the tree lies.
-/
import Derived.Test.YtjfcemlbbinanaaGreatDoorJ17
import Derived.Test.YtjfcemlbbinanaaGreatDoorJ16
import Derived.Test.YtjfcemlbbinanaaGreatDoorJ05
set_option linter.unusedVariables false
set_option linter.unusedSimpArgs false
namespace Go.Proofs.YtjfcemlbbinanaaGreatDoor
open Go.RowKit Go.Proofs Wv Wv.Vi Wv.Rc Wv.Mo
set_option linter.unusedVariables false
def tencF : Nat → Nat → Nat → Nat → List Nat → En → List Nat × En
 | 0, _, _, _, t, e => (t, e)
 | n + 1, q, v, m, t, e => tencF n q v (2 * m + v / 2 ^ n % 2) (t.set (q + m) (adapt (t.getD (q + m) 0) (v / 2 ^ n % 2))) (ebit (t.getD (q + m) 0) (v / 2 ^ n % 2) e)
def tdecF : Nat → Nat → Nat → List Nat → De → Nat × List Nat × De
 | 0, _, m, t, d => (m, t, d)
 | n + 1, q, m, t, d => tdecF n q (2 * m + dbt (t.getD (q + m) 0) d) (t.set (q + m) (adapt (t.getD (q + m) 0) (dbt (t.getD (q + m) 0) d))) (dbit (t.getD (q + m) 0) d)
theorem tencF_step (n q v m : Nat) (t : List Nat) (e : En) : tencF (n + 1) q v m t e = tencF n q v (2 * m + v / 2 ^ n % 2) (t.set (q + m) (adapt (t.getD (q + m) 0) (v / 2 ^ n % 2))) (ebit (t.getD (q + m) 0) (v / 2 ^ n % 2) e) := rfl
theorem tdecF_step (n q m : Nat) (t : List Nat) (d : De) : tdecF (n + 1) q m t d = tdecF n q (2 * m + dbt (t.getD (q + m) 0) d) (t.set (q + m) (adapt (t.getD (q + m) 0) (dbt (t.getD (q + m) 0) d))) (dbit (t.getD (q + m) 0) d) := rfl
def subL (q L : Nat) (t : List Nat) : List Nat := (t.drop q).take L
def putL (q : Nat) (t u : List Nat) : List Nat := t.take q ++ u ++ t.drop (q + u.length)
theorem subL_len {q L : Nat} {t : List Nat} (h : q + L ≤ t.length) : (subL q L t).length = L := by unfold subL; rw [List.length_take, List.length_drop]; omega
theorem putL_sub {q L : Nat} {t : List Nat} (h : q + L ≤ t.length) : putL q t (subL q L t) = t := by
 unfold putL
 rw [subL_len h]
 unfold subL
 rw [List.append_assoc, ← List.drop_drop, List.take_append_drop, List.take_append_drop]
theorem subL_getD {q L m : Nat} {t : List Nat} (hm : m < L) : (subL q L t).getD m 0 = t.getD (q + m) 0 := by
 unfold subL
 simp [List.getD, List.getElem?_take_of_lt hm]
theorem putL_set {q L m z : Nat} {t u : List Nat} (h : q + L ≤ t.length) (hm : m < L) (hu : u.length = L) : putL q (t.set (q + m) z) u = putL q t u := by
 unfold putL
 rw [hu, List.take_set, List.drop_set]
 rw [List.set_eq_of_length_le (by rw [List.length_take]; omega), if_pos (by omega)]
theorem subL_set {q L m z : Nat} {t : List Nat} (h : q + L ≤ t.length) (hm : m < L) : subL q L (t.set (q + m) z) = (subL q L t).set m z := by
 unfold subL
 rw [List.drop_set, if_neg (by omega), List.take_set, Nat.add_sub_cancel_left]
theorem tencF_eq (n : Nat) : ∀ (q v m L : Nat) {t : List Nat} {e : En}, q + L ≤ t.length → (m + 1) * 2 ^ n ≤ 2 * L → tencF n q v m t e = (putL q t (tenc n v m (subL q L t) e).1, (tenc n v m (subL q L t) e).2) ∧ (tenc n v m (subL q L t) e).1.length = L := by
 induction n with
 | zero => intro q v m L t e h _; exact ⟨by show (t, e) = _; rw [tenc, putL_sub h], subL_len h⟩
 | succ n ih =>
  intro q v m L t e h hm
  have hmL : m < L := node_lt (n := n) hm
  have hb : v / 2 ^ n % 2 < 2 := by omega
  rw [tencF_step, tenc_step]
  have hl : q + L ≤ (t.set (q + m) (adapt (t.getD (q + m) 0) (v / 2 ^ n % 2))).length := by rw [List.length_set]; exact h
  obtain ⟨i1, i2⟩ := ih q v (2 * m + v / 2 ^ n % 2) L (t := t.set (q + m) (adapt (t.getD (q + m) 0) (v / 2 ^ n % 2))) (e := ebit (t.getD (q + m) 0) (v / 2 ^ n % 2) e) hl (node_step hb hm)
  rw [subL_set h hmL] at i1 i2
  rw [subL_getD hmL]
  exact ⟨by rw [i1, putL_set h hmL i2], i2⟩
theorem tdecF_eq (n : Nat) : ∀ (q m L : Nat) {t : List Nat} {d : De}, q + L ≤ t.length → (m + 1) * 2 ^ n ≤ 2 * L → tdecF n q m t d = ((tdec n m (subL q L t) d).1, putL q t (tdec n m (subL q L t) d).2.1, (tdec n m (subL q L t) d).2.2) ∧ (tdec n m (subL q L t) d).2.1.length = L := by
 induction n with
 | zero => intro q m L t d h _; exact ⟨by show (m, t, d) = _; rw [tdec, putL_sub h], subL_len h⟩
 | succ n ih =>
  intro q m L t d h hm
  have hmL : m < L := node_lt (n := n) hm
  have hb := dbt_le (t.getD (q + m) 0) d
  rw [tdecF_step, tdec_step, subL_getD hmL]
  have hl : q + L ≤ (t.set (q + m) (adapt (t.getD (q + m) 0) (dbt (t.getD (q + m) 0) d))).length := by rw [List.length_set]; exact h
  obtain ⟨i1, i2⟩ := ih q (2 * m + dbt (t.getD (q + m) 0) d) L (t := t.set (q + m) (adapt (t.getD (q + m) 0) (dbt (t.getD (q + m) 0) d))) (d := dbit (t.getD (q + m) 0) d) hl (node_step (by omega) hm)
  rw [subL_set h hmL] at i1 i2
  exact ⟨by rw [i1, putL_set h hmL i2], i2⟩
structure TrA (w : World) (b o g q n : Nat) (t : List Nat) : Prop where
 c0 : w.cell? ⟨b, o, none⟩ = some (.int .i64 (n : Int))
 c1 : w.cell? ⟨b, o + 1, none⟩ = some (.slice (some ⟨g, q, none⟩) (2 ^ n) (2 ^ n))
 nd : Bk w g 3 (nc t)
 ne : b ≠ g
 lt : b < w.heap.size
theorem TrA.drew {w : World} {b o g q n : Nat} {t : List Nat} (h : TrA w b o g q n t) : TrA w.drew b o g q n t := ⟨h.c0, h.c1, h.nd, h.ne, h.lt⟩
theorem TrA.fr {S : Nat → Prop} {w w' : World} {b o g q n : Nat} {t : List Nat} (h : TrA w b o g q n t) (hf : Fr S w w') (h1 : ¬ S b) (h2 : ¬ S g) : TrA w' b o g q n t :=
 ⟨by rw [hf.cell (p := ⟨b, o, none⟩) h.lt h1]; exact h.c0, by rw [hf.cell (p := ⟨b, o + 1, none⟩) h.lt h1]; exact h.c1, h.nd.fr hf h2, h.ne, Nat.lt_of_lt_of_le h.lt hf.size⟩
theorem TrA.put {w : World} {b o g q n : Nat} {t : List Nat} (h : TrA w b o g q n t) (m z : Nat) : TrA (w.setCell ⟨g, m, none⟩ (.int .i64 (z : Int))) b o g q n (t.set m z) := by
 have hf : Fr (only g) w (w.setCell ⟨g, m, none⟩ (.int .i64 (z : Int))) := (Fr.refl (only g) w).setCell (p := ⟨g, m, none⟩) (.inl rfl) _
 have hne : ¬ only g b := h.ne
 refine ⟨by rw [hf.cell (p := ⟨b, o, none⟩) h.lt hne]; exact h.c0, by rw [hf.cell (p := ⟨b, o + 1, none⟩) h.lt hne]; exact h.c1, ?_, h.ne, Nat.lt_of_lt_of_le h.lt hf.size⟩
 have := h.nd.put m (.int .i64 (z : Int))
 rwa [nc_set] at this
theorem EnAt.offG {w : World} {g eb m : Nat} {dv x : Value} {e : En} (he : EnAt w eb dv e) (h : ¬ foot eb dv g) : EnAt (w.setCell ⟨g, m, none⟩ x) eb dv e :=
 he.fr (S := only g) ((Fr.refl (only g) w).setCell (p := ⟨g, m, none⟩) (.inl rfl) x) (fun e => h (.inl e.symm)) (fun k hk e => h (.inr (by rw [hk]; exact congrArg some e)))
theorem DAt.offG {w : World} {g eb m : Nat} {x : Value} {d : De} (he : DAt w eb d) (h : g ≠ eb) : DAt (w.setCell ⟨g, m, none⟩ x) eb d :=
 he.fr (S := only g) ((Fr.refl (only g) w).setCell (p := ⟨g, m, none⟩) (.inl rfl) x) (fun e => h e.symm)
theorem en_nodes {w : World} {eb g : Nat} {dv : Value} {e : En} {t : List Nat} (he : EnAt w eb dv e) (h : Bk w g 3 (nc t)) : ¬ foot eb dv g := fun hs => by
 rcases hs with hs | hs
 ·exact Bk.apart h he.1 (by decide) hs
 ·exact own_apart he.2 h (by decide) hs
theorem foot_later {w w1 : World} {eb b : Nat} {dv dr : Value} (h : ¬ foot eb dv b) (ho : OwnNew w dv dr) (hb : b < w.heap.size) : ¬ foot eb dr b := fun hs => by
 rcases hs with hs | hs
 ·exact h (.inl hs)
 ·rcases ho with ho | ho
  ·exact h (.inr (ho ▸ hs))
  ·have := ho b hs; omega
theorem two_pow8 {n : Nat} (h : n ≤ 8) : 2 ^ n ≤ 256 := Nat.le_trans (Nat.pow_le_pow_right (by omega) h) (by decide)
set_option maxRecDepth 100000 in
set_option maxHeartbeats 2000000 in
theorem gtenc_any {w : World} {b o g q n eb : Nat} {dv : Value} {t : List Nat} {e : En} (h : TrA w b o g q n t) (hn : n ≤ 8) (hql : q + 2 ^ n ≤ t.length) (htl : t.length ≤ 1000000) (ht : TOk t) (he : EnAt w eb dv e) (hfb : ¬ foot eb dv b) (hv : Val 0 e) (v : Nat) (hv63 : v ≤ 9223372036854775807) (hl : e.out.length ≤ 800000) :
  Calls Tryz.prog 59 #[.pointer (some ⟨b, o, none⟩), .pointer (some ⟨eb, 0, none⟩), .int .i64 (v : Int)] w fun x w' => x = .returned (.tuple #[]) ∧ TrA w' b o g q n (tencF n q v 1 t e).1 ∧ ∃ dv', EnAt w' eb dv' (tencF n q v 1 t e).2 ∧ Fr (efoot g eb dv) w w' ∧ OwnNew w dv dv' := by
 have ha := and1
 have c0 := h.c0
 have hbl := h.lt
 obtain ⟨N, hN⟩ : ∃ N, (2 : Nat) ^ n = N := ⟨_, rfl⟩
 have hN256 : N ≤ 256 := by rw [← hN]; exact two_pow8 hn
 have hst1 : (1 + 1) * 2 ^ n ≤ 2 * N := by rw [hN]; omega
 have HN := hide hN
 rw [hN] at hql
 clear hN
 go_enter Tryz.func59, Tryz.ntmps59
 go_wp2
 go_loopw [6, 7] (fun mv i wr => ∃ (j m : Nat) (dr : Value) (u : List Nat) (x : En), j ≤ n ∧ i = .int .i64 ((j : Int) - 1) ∧ mv = .int .i64 m ∧ Hid ((m + 1) * 2 ^ j ≤ 2 * N) ∧ TrA wr b o g q n u ∧ TOk u ∧ u.length = t.length ∧ EnAt wr eb dr x ∧ Val 0 x ∧ Hid (tencF j q v m u x = tencF n q v 1 t e) ∧ Fr (efoot g eb dv) w wr ∧ OwnNew w dv dr ∧ x.out.length + 2 * j ≤ 800000 + 2 * n) (fun _ i _ => (intOf i + 1).toNat)
 case atStart => exact ⟨n, 1, dv, t, e, Nat.le_refl _, rfl, rfl, hide hst1, h, ht, rfl, he, hv, hide rfl, Fr.refl _ _, .inl rfl, by omega⟩
 case round =>
  clear c0 h ht he hv hst1
  obtain ⟨j, m, dr, u, x, hj, rfl, rfl, hm, hu, htu, hul, hx, hvx, hte, hf, hon, hlx⟩ := hrel
  by_cases hlt : 0 < j
  ·obtain ⟨k, rfl⟩ : ∃ k, j = k + 1 := ⟨j - 1, by omega⟩
   have hmN : m < N := node_lt (n := k) hm.out
   have hmu : q + m < u.length := by omega
   have hst := tencF_step k q v m u x
   have i1 : ((k + 1 : Nat) : Int) - 1 = (k : Int) := by omega
   rw [i1]
   obtain ⟨y, hy⟩ : ∃ y, v / 2 ^ k % 2 = y := ⟨_, rfl⟩
   have hy2 : y < 2 := by omega
   have i2 : (v : Int) / 2 ^ k % 2 = (y : Int) := by rw [← hy, Int.natCast_emod, Int.natCast_ediv, Int.natCast_pow]; rfl
   have hp := tok_get htu hmu
   have Hmn := hide (show (2 * m + y + 1) * 2 ^ k ≤ 2 * N from node_step (L := N) hy2 hm.out)
   have q1 := hu.c1
   rw [HN.out] at q1
   have qm := hu.nd.cell (q + m)
   rw [nc_get u (q + m) hmu] at qm
   obtain ⟨z, hz⟩ : ∃ z, u.getD (q + m) 0 = z := ⟨_, rfl⟩
   rw [hy, hz] at hst
   rw [hz] at qm hp
   have hmNi : (m : Int) < (N : Int) := by omega
   have Hb := hide (rbit_any hx hvx z y hp.1 hp.2 hy2 (by omega))
   have Ha := hide (adapt_any z y hp.1 hp.2 hy2)
   have hel := ebit_len z y x
   have hval := ebit_val hvx (b := y) hp.1 hp.2
   have hfg := en_nodes hx hu.nd
   have hfb2 := foot_later (w1 := wr) hfb hon hbl
   have htn : TOk (u.set (q + m) (adapt z y)) := tok_set htu (q + m) (adapt_ok hp)
   have hul2 : (u.set (q + m) (adapt z y)).length = t.length := by rw [List.length_set]; exact hul
   have Hst := hide hst
   have Hu := hide hu
   have Hul := hide hul2
   have hk8 : k ≤ 7 := by omega
   clear hst hu hy hz hx hvx htu hm hmu hul hul2
   go_wp2_with fail
   refine (Hb.out).mono ?_
   rintro r w1 ⟨rfl, dr2, he2, hf2, ho2⟩
   have hu1 := Hu.out.fr hf2 hfb2 hfg
   have r1 := hu1.c1
   rw [HN.out] at r1
   have rm := hu1.nd.cell (q + m)
   have fm := hu1.nd.frozen (q + m)
   have qm' : (nc u)[q + m]? = some (.int .i64 (z : Int)) := (Hu.out.nd.cell (q + m)).symm.trans qm
   rw [qm'] at rm
   clear q1 qm qm'
   have hs := hf.size
   have hfg2 := en_nodes he2 hu1.nd
   go_wp2
   go_region_with ((go_at_call 100; refine (Ha.out _).mono ?_; rintro r w9 ⟨rfl, rfl⟩))
   all_goals
    go_wp2
    go_roundw
    case rel => exact ⟨k, 2 * m + y, dr2, u.set (q + m) (adapt z y), ebit z y x, by omega, rfl, by congr 1, Hmn, (hu1.put (q + m) _).drew, htn, Hul.out, (he2.offG hfg2).drew, hval, hide (by rw [← Hst.out]; exact hte.out), (efr_set (efr_foot hf hf2 hon)).drew, hon.trans ho2 hs, by omega⟩
    case measure => simp [intOf] <;> omega
  ·have hj0 : j = 0 := by omega
   subst hj0
   go_wp2
   go_end0
   have := hte.out
   rw [tencF] at this
   rw [← this]
   exact ⟨rfl, hu, dr, hx, hf, hon⟩
theorem tdecF_v (n : Nat) : ∀ (q m L : Nat) (t : List Nat) (d : De), TOk t → q + L ≤ t.length → (m + 1) * 2 ^ n ≤ 2 * L → DV 0 d → TOk (tdecF n q m t d).2.1 ∧ (tdecF n q m t d).2.1.length = t.length ∧ DV 0 (tdecF n q m t d).2.2 ∧ m * 2 ^ n ≤ (tdecF n q m t d).1 ∧ (tdecF n q m t d).1 < (m + 1) * 2 ^ n := by
 induction n with
 | zero => intro q m L t d h1 _ _ h3; exact ⟨h1, rfl, h3, by simp [tdecF], by simp [tdecF]⟩
 | succ n ih =>
  intro q m L t d h1 hq h2 h3
  have hmL : m < L := node_lt (n := n) h2
  have hp := tok_get h1 (show q + m < t.length by omega)
  have hb := dbt_le (t.getD (q + m) 0) d
  obtain ⟨a, b, c, p, r⟩ := ih q (2 * m + dbt (t.getD (q + m) 0) d) L _ (dbit (t.getD (q + m) 0) d) (tok_set h1 (q + m) (adapt_ok (b := dbt (t.getD (q + m) 0) d) hp)) (by rw [List.length_set]; exact hq) (node_step (by omega) h2) (dbit_v h3 hp.1 hp.2)
  rw [tdecF]
  refine ⟨a, by rw [b, List.length_set], c, Nat.le_trans ?_ p, Nat.lt_of_lt_of_le r ?_⟩
  ·rw [Nat.pow_succ, Nat.mul_comm _ 2, ← Nat.mul_assoc]
   exact Nat.mul_le_mul_right _ (by omega)
  ·rw [Nat.pow_succ, Nat.mul_comm _ 2, ← Nat.mul_assoc]
   exact Nat.mul_le_mul_right _ (by omega)
set_option maxRecDepth 100000 in
set_option maxHeartbeats 2000000 in
theorem gtdec_any {w : World} {b o g q n eb : Nat} {t : List Nat} {d : De} (h : TrA w b o g q n t) (hn : n ≤ 8) (hql : q + 2 ^ n ≤ t.length) (htl : t.length ≤ 1000000) (ht : TOk t) (he : DAt w eb d) (hbe : b ≠ eb) (hv : DV 0 d) :
  Calls Tryz.prog 131 #[.pointer (some ⟨b, o, none⟩), .pointer (some ⟨eb, 0, none⟩)] w fun x w' => x = .returned (.int .i64 (((tdecF n q 1 t d).1 - 2 ^ n : Nat) : Int)) ∧ TrA w' b o g q n (tdecF n q 1 t d).2.1 ∧ DAt w' eb (tdecF n q 1 t d).2.2 ∧ Fr (dfoot g eb) w w' := by
 have c0 := h.c0
 have hbl := h.lt
 obtain ⟨N, hN⟩ : ∃ N, (2 : Nat) ^ n = N := ⟨_, rfl⟩
 have hN256 : N ≤ 256 := by rw [← hN]; exact two_pow8 hn
 have hst1 : (1 + 1) * 2 ^ n ≤ 2 * N := by rw [hN]; omega
 have hge := (tdecF_v n q 1 N t d ht (by rw [← hN]; exact hql) hst1 hv).2.2.2
 rw [hN] at hge hql hst1
 rw [hN]
 have HN := hide hN
 have hNi : (2 : Int) ^ n = (N : Int) := by rw [← hN, Int.natCast_pow]; rfl
 have hst2 : Hid ((1 + 1) * 2 ^ (n - 0) ≤ 2 * N) := hide (by rw [Nat.sub_zero, HN.out]; omega)
 clear hN
 go_enter Tryz.func131, Tryz.ntmps131
 go_wp2
 go_loopw [5, 11] (fun mv i wr => ∃ (j m : Nat) (u : List Nat) (x : De), j ≤ n ∧ i = .int .i64 (j : Int) ∧ mv = .int .i64 m ∧ Hid ((m + 1) * 2 ^ (n - j) ≤ 2 * N) ∧ TrA wr b o g q n u ∧ TOk u ∧ u.length = t.length ∧ DAt wr eb x ∧ DV 0 x ∧ Hid (tdecF (n - j) q m u x = tdecF n q 1 t d) ∧ Fr (dfoot g eb) w wr) (fun _ i _ => (n - intOf i).toNat)
 case atStart => exact ⟨0, 1, t, d, Nat.zero_le _, rfl, rfl, hst2, h, ht, rfl, he, hv, hide rfl, Fr.refl _ _⟩
 case round =>
  clear c0 h ht he hv hst1 hst2
  obtain ⟨j, m, u, x, hj, rfl, rfl, hm, hu, htu, hul, hx, hvx, hte, hf⟩ := hrel
  by_cases hlt : j < n
  ·have hlti : (j : Int) < (n : Int) := by omega
   obtain ⟨k, hk⟩ : ∃ k, n - j = k + 1 := ⟨n - j - 1, by omega⟩
   have hkj : n - (j + 1) = k := by omega
   rw [hk] at hm hte
   have hmN : m < N := node_lt (n := k) hm.out
   have hmu : q + m < u.length := by omega
   have hst := tdecF_step k q m u x
   have hp := tok_get htu hmu
   have hy1 := dbt_le (u.getD (q + m) 0) x
   have q1 := hu.c1
   rw [HN.out] at q1
   have qm := hu.nd.cell (q + m)
   rw [nc_get u (q + m) hmu] at qm
   obtain ⟨z, hz⟩ : ∃ z, u.getD (q + m) 0 = z := ⟨_, rfl⟩
   rw [hz] at hst hy1 qm hp
   obtain ⟨y, hy⟩ : ∃ y, dbt z x = y := ⟨_, rfl⟩
   rw [hy] at hst hy1
   have hy2 : y < 2 := by omega
   have Hmn := hide (show (2 * m + y + 1) * 2 ^ k ≤ 2 * N from node_step (L := N) hy2 hm.out)
   have hmNi : (m : Int) < (N : Int) := by omega
   have Hb := dbit_any hx hvx z hp.1 hp.2
   rw [hy] at Hb
   have Hb := hide Hb
   have Ha := hide (adapt_any z y hp.1 hp.2 hy2)
   have hval := dbit_v hvx hp.1 hp.2
   have hge' : g ≠ eb := Bk.apart hu.nd hx (by decide)
   have htn : TOk (u.set (q + m) (adapt z y)) := tok_set htu (q + m) (adapt_ok hp)
   have hul2 : (u.set (q + m) (adapt z y)).length = t.length := by rw [List.length_set]; exact hul
   have Hul := hide hul2
   have Hst := hide hst
   have Hu := hide hu
   have Hkj := hide hkj
   clear hst hu hy hz hx hvx htu hm hmu hul hul2 hk hkj hge
   go_wp2_with fail
   refine (Hb.out).mono ?_
   rintro r w1 ⟨rfl, he2, hf2⟩
   have hu1 := Hu.out.fr hf2 hbe hge'
   have r1 := hu1.c1
   rw [HN.out] at r1
   have rm := hu1.nd.cell (q + m)
   have fm := hu1.nd.frozen (q + m)
   have qm' : (nc u)[q + m]? = some (.int .i64 (z : Int)) := (Hu.out.nd.cell (q + m)).symm.trans qm
   rw [qm'] at rm
   clear q1 qm qm'
   go_wp2
   go_region_with ((go_at_call 100; refine (Ha.out _).mono ?_; rintro r w9 ⟨rfl, rfl⟩))
   all_goals
    go_wp2
    go_roundw
    case rel => exact ⟨j + 1, 2 * m + y, u.set (q + m) (adapt z y), dbit z x, by omega, by go_num, by congr 1, by rw [Hkj.out]; exact Hmn, (hu1.put (q + m) _).drew, htn, Hul.out, (he2.offG hge').drew, hval, hide (by rw [Hkj.out, ← Hst.out]; exact hte.out), ((hf.trans' hf2 (fun i hi e => .inr e)).setCell (p := ⟨g, q + m, none⟩) (.inl (.inl rfl)) _).drew⟩
    case measure => simp [intOf] <;> omega
  ·have hjn : n = j := by omega
   subst hjn
   have hh := hte.out
   rw [Nat.sub_self, tdecF] at hh
   have q0 := hu.c0
   have hmm : (tdecF n q 1 t d).1 = m := by rw [← hh]
   rw [hmm] at hge
   have hge2 : N ≤ m := by omega
   have hmu : m < 2 * N := by omega
   have Hh := hide hh
   have hend : ¬ (n : Int) < (n : Int) := by omega
   clear hge hmm hh hm
   go_wp2
   go_ret
   rw [← Hh.out]
   exact ⟨ret_int (by simp only; omega), hu, hx, hf⟩
end Go.Proofs.YtjfcemlbbinanaaGreatDoor
