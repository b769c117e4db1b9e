/-
  The walks over the models, third part: a tree's reading of a number.
-/
import Derived.Test.YtjfcemlbbinanaaGreatDoorJ11
set_option linter.unusedVariables false
set_option linter.unusedSimpArgs false
namespace Go.Proofs.YtjfcemlbbinanaaGreatDoor
open Go.RowKit Go.Proofs Wv Wv.Vi Wv.Rc Wv.Mo
set_option linter.unusedVariables false

theorem tdec_step (n m : Nat) (t : List Nat) (d : De) : tdec (n + 1) m t d = tdec n (2 * m + dbt (t.getD m 0) d) (t.set m (adapt (t.getD m 0) (dbt (t.getD m 0) d))) (dbit (t.getD m 0) d) := rfl
theorem tdec_v (n : Nat) : ∀ (m : Nat) (t : List Nat) (d : De), TOk t → (m + 1) * 2 ^ n ≤ 2 * t.length → DV 0 d → TOk (tdec n m t d).2.1 ∧ (tdec n m t d).2.1.length = t.length ∧ DV 0 (tdec n m t d).2.2 ∧ m * 2 ^ n ≤ (tdec n m t d).1 ∧ (tdec n m t d).1 < (m + 1) * 2 ^ n := by
 induction n with
 | zero => intro m t d h1 _ h3; exact ⟨h1, rfl, h3, by simp [tdec], by simp [tdec]⟩
 | succ n ih =>
  intro m t d h1 h2 h3
  have hp := tok_get h1 (node_lt h2)
  have hb := dbt_le (t.getD m 0) d
  obtain ⟨a, b, c, p, q⟩ := ih (2 * m + dbt (t.getD m 0) d) _ (dbit (t.getD m 0) d) (tok_set h1 m (adapt_ok (b := dbt (t.getD m 0) d) hp)) (by rw [List.length_set]; exact node_step (by omega) h2) (dbit_v h3 hp.1 hp.2)
  rw [tdec]
  refine ⟨a, by rw [b, List.length_set], c, Nat.le_trans ?_ p, Nat.lt_of_lt_of_le q ?_⟩
  ·rw [Nat.pow_succ, Nat.mul_comm _ 2, ← Nat.mul_assoc]
   exact Nat.mul_le_mul_right _ (by omega)
  ·rw [Nat.pow_succ, Nat.mul_comm _ 2, ← Nat.mul_assoc]
   exact Nat.mul_le_mul_right _ (by omega)
set_option maxRecDepth 100000 in
set_option maxHeartbeats 2000000 in
theorem tdec_any {w : World} {b g eb : Nat} {t : List Nat} {d : De} (h : NAt w b g t) (ht : TNum t) (he : DAt w eb d) (hv : DV 0 d) :
  Calls Tryz.prog 131 #[.pointer (some ⟨b, 0, none⟩), .pointer (some ⟨eb, 0, none⟩)] w fun x w' => x = .returned (.int .i64 (((tdec 6 1 t d).1 - 64 : Nat) : Int)) ∧ NAt w' b g (tdec 6 1 t d).2.1 ∧ DAt w' eb (tdec 6 1 t d).2.2 ∧ Fr (dfoot g eb) w w' := by
 have c0 := h.1.cell 0
 simp at c0
 have hge := (tdec_v 6 1 t d ht.1 (by rw [ht.2]; decide) hv).2.2.2
 go_enter Tryz.func131, Tryz.ntmps131
 go_wp2
 go_loopw [5, 11] (fun mv i wr => ∃ (j m : Nat) (u : List Nat) (x : De), j ≤ 6 ∧ i = .int .i64 (j : Int) ∧ mv = .int .i64 m ∧ (m + 1) * 2 ^ (6 - j) ≤ 128 ∧ NAt wr b g u ∧ TNum u ∧ DAt wr eb x ∧ DV 0 x ∧ Hid (tdec (6 - j) m u x = tdec 6 1 t d) ∧ Fr (dfoot g eb) w wr) (fun _ i _ => (6 - intOf i).toNat)
 case atStart => exact ⟨0, 1, t, d, by omega, rfl, rfl, by decide, h, ht, he, hv, hide rfl, Fr.refl _ _⟩
 case round =>
  clear c0 h ht he hv
  obtain ⟨j, m, u, x, hj, rfl, rfl, hm, hu, htu, hx, hvx, hte, hf⟩ := hrel
  by_cases hlt : j < 6
  ·obtain ⟨k, hk⟩ : ∃ k, 6 - j = k + 1 := ⟨5 - j, by omega⟩
   have hkj : 6 - (j + 1) = k := by omega
   rw [hk] at hm hte
   have hm64 : m < u.length := node_lt (by rw [htu.2]; exact hm)
   have hst := tdec_step k m u x
   have hp := tok_get htu.1 hm64
   have hy1 := dbt_le (u.getD m 0) x
   have q1 := hu.1.cell 1
   have qm := hu.2.cell m
   rw [nc_get u m hm64] at qm
   simp at q1
   obtain ⟨z, hz⟩ : ∃ z, u.getD m 0 = z := ⟨_, rfl⟩
   rw [hz] at hst hy1 qm hp
   obtain ⟨y, hy⟩ : ∃ y, dbt z x = y := ⟨_, rfl⟩
   rw [hy] at hst hy1
   have hy2 : y < 2 := by omega
   have hmn : (2 * m + y + 1) * 2 ^ k ≤ 128 := node_step (L := 64) hy2 hm
   have hm642 : (m : Int) < 64 := by rw [htu.2] at hm64; omega
   have Hb := dbit_any hx hvx z hp.1 hp.2
   rw [hy] at Hb
   have Hb := hide Hb
   have Ha := hide (adapt_any z y hp.1 hp.2 hy2)
   have hval := dbit_v hvx hp.1 hp.2
   have hfo := hu.onl hx
   have htn : TNum (u.set m (adapt z y)) := ⟨tok_set htu.1 m (adapt_ok hp), by rw [List.length_set]; exact htu.2⟩
   have Hst := hide hst
   have Hu := hide hu
   have Hkj := hide hkj
   clear hst hu hy hz hx hvx htu hm hm64 hk hkj hge
   go_wp2_with fail
   refine (Hb.out).mono ?_
   rintro r w1 ⟨rfl, he2, hf2⟩
   have hu1 := Hu.out.fr hf2 hfo.1 hfo.2
   have r1 := hu1.1.cell 1
   have rm := hu1.2.cell m
   have fm := hu1.2.frozen m
   have qm' : (nc u)[m]? = some (.int .i64 (z : Int)) := (Hu.out.2.cell m).symm.trans qm
   rw [qm'] at rm
   simp at r1
   clear q1 qm qm'
   go_wp2
   go_region_with ((go_at_call 100; refine (Ha.out _).mono ?_; rintro r w9 ⟨rfl, rfl⟩))
   all_goals
    go_wp2
    go_roundw
    case rel => exact ⟨j + 1, 2 * m + y, u.set m (adapt z y), dbit z x, by omega, by go_num, by congr 1, by rw [Hkj.out]; exact hmn, (hu1.put m _).drew, htn, (he2.off hu1).drew, hval, hide (by rw [Hkj.out, ← Hst.out]; exact hte.out), ((hf.trans' hf2 (fun i hi e => .inr e)).setCell (p := ⟨g, m, none⟩) (.inl (.inl rfl)) _).drew⟩
    case measure => simp [intOf] <;> omega
  ·have hj6 : j = 6 := by omega
   subst hj6
   have hh := hte.out
   rw [Nat.sub_self, tdec] at hh
   have q0 := hu.1.cell 0
   simp at q0
   have hmm : (tdec 6 1 t d).1 = m := by rw [← hh]
   rw [hmm] at hge
   have hge2 : 64 ≤ m := hge.1
   have hmu : m < 128 := by
    have : m ≤ 127 := by simpa using hm
    omega
   have Hh := hide hh
   clear hge hmm hh hm
   go_wp2
   go_ret
   rw [← Hh.out]
   exact ⟨ret_int (by simp only; omega), hu, hx, hf⟩
end Go.Proofs.YtjfcemlbbinanaaGreatDoor
