/-
  The walks over the models, second part: a tree's coding of a number.
-/
import Derived.Test.YtjfcemlbbinanaaGreatDoorJ11
set_option linter.unusedVariables false
set_option linter.unusedSimpArgs false
namespace Go.Proofs.YtjfcemlbbinanaaGreatDoor
open Go.RowKit Go.Proofs Wv Wv.Vi Wv.Rc Wv.Mo
set_option linter.unusedVariables false

theorem tenc_step (n v m : Nat) (t : List Nat) (e : En) : tenc (n + 1) v m t e = tenc n v (2 * m + v / 2 ^ n % 2) (t.set m (adapt (t.getD m 0) (v / 2 ^ n % 2))) (ebit (t.getD m 0) (v / 2 ^ n % 2) e) := rfl
set_option maxRecDepth 100000 in
set_option maxHeartbeats 2000000 in
theorem tenc_any {w : World} {b g eb : Nat} {dv : Value} {t : List Nat} {e : En} (h : NAt w b g t) (ht : TNum t) (he : EnAt w eb dv e) (hv : Val 0 e) (v : Nat) (hv63 : v ≤ 9223372036854775807) (hl : e.out.length ≤ 800000) :
  Calls Tryz.prog 59 #[.pointer (some ⟨b, 0, none⟩), .pointer (some ⟨eb, 0, none⟩), .int .i64 (v : Int)] w fun x w' => x = .returned (.tuple #[]) ∧ NAt w' b g (tenc 6 v 1 t e).1 ∧ ∃ dv', EnAt w' eb dv' (tenc 6 v 1 t e).2 ∧ Fr (efoot g eb dv) w w' ∧ OwnNew w dv dv' := by
 have ha := and1
 have c0 := h.1.cell 0
 simp at c0
 go_enter Tryz.func59, Tryz.ntmps59
 go_wp2
 go_loopw [6, 7] (fun mv i wr => ∃ (j m : Nat) (dr : Value) (u : List Nat) (x : En), j ≤ 6 ∧ i = .int .i64 ((j : Int) - 1) ∧ mv = .int .i64 m ∧ (m + 1) * 2 ^ j ≤ 128 ∧ NAt wr b g u ∧ TNum u ∧ EnAt wr eb dr x ∧ Val 0 x ∧ Hid (tenc j v m u x = tenc 6 v 1 t e) ∧ Fr (efoot g eb dv) w wr ∧ OwnNew w dv dr ∧ x.out.length ≤ e.out.length + 2 * (6 - j)) (fun _ i _ => (intOf i + 1).toNat)
 case atStart => exact ⟨6, 1, dv, t, e, by omega, rfl, rfl, by decide, h, ht, he, hv, hide rfl, Fr.refl _ _, .inl rfl, by omega⟩
 case round =>
  clear c0 h ht he hv
  obtain ⟨j, m, dr, u, x, hj, rfl, rfl, hm, hu, htu, hx, hvx, hte, hf, hon, hlx⟩ := hrel
  by_cases hlt : 0 < j
  ·obtain ⟨k, rfl⟩ : ∃ k, j = k + 1 := ⟨j - 1, by omega⟩
   have hm64 : m < u.length := node_lt (by rw [htu.2]; exact hm)
   have hst := tenc_step k v m u x
   have i1 : ((k + 1 : Nat) : Int) - 1 = (k : Int) := by omega
   rw [i1]
   obtain ⟨y, hy⟩ : ∃ y, v / 2 ^ k % 2 = y := ⟨_, rfl⟩
   have hy2 : y < 2 := by omega
   have i2 : (v : Int) / 2 ^ k % 2 = (y : Int) := by rw [← hy, Int.natCast_emod, Int.natCast_ediv, Int.natCast_pow]; rfl
   have hp := tok_get htu.1 hm64
   have hmn : (2 * m + y + 1) * 2 ^ k ≤ 128 := node_step (L := 64) hy2 hm
   have q1 := hu.1.cell 1
   have qm := hu.2.cell m
   rw [nc_get u m hm64] at qm
   simp at q1
   obtain ⟨z, hz⟩ : ∃ z, u.getD m 0 = z := ⟨_, rfl⟩
   rw [hy, hz] at hst
   rw [hz] at qm hp
   have hm642 : (m : Int) < 64 := by rw [htu.2] at hm64; omega
   have Hb := hide (rbit_any hx hvx z y hp.1 hp.2 hy2 (by omega))
   have Ha := hide (adapt_any z y hp.1 hp.2 hy2)
   have hel := ebit_len z y x
   have hval := ebit_val hvx (b := y) hp.1 hp.2
   have hfo := hu.foot hx
   have htn : TNum (u.set m (adapt z y)) := ⟨tok_set htu.1 m (adapt_ok hp), by rw [List.length_set]; exact htu.2⟩
   have Hst := hide hst
   have Hu := hide hu
   clear hst hu hy hz hx hvx htu hm hm64
   go_wp2_with fail
   refine (Hb.out).mono ?_
   rintro r w1 ⟨rfl, dr2, he2, hf2, ho2⟩
   have hu1 := Hu.out.fr hf2 hfo.1 hfo.2
   have r1 := hu1.1.cell 1
   have rm := hu1.2.cell m
   have fm := hu1.2.frozen m
   have qm' : (nc u)[m]? = some (.int .i64 (z : Int)) := (Hu.out.2.cell m).symm.trans qm
   rw [qm'] at rm
   simp at r1
   clear q1 qm qm'
   have hs := hf.size
   go_wp2
   go_region_with ((go_at_call 100; refine (Ha.out _).mono ?_; rintro r w9 ⟨rfl, rfl⟩))
   all_goals
    go_wp2
    go_roundw
    case rel => exact ⟨k, 2 * m + y, dr2, u.set m (adapt z y), ebit z y x, by omega, rfl, by congr 1, hmn, (hu1.put m _).drew, htn, (he2.off hu1).drew, hval, hide (by rw [← Hst.out]; exact hte.out), (efr_set (efr_foot hf hf2 hon)).drew, hon.trans ho2 hs, by omega⟩
    case measure => simp [intOf] <;> omega
  ·have hj0 : j = 0 := by omega
   subst hj0
   go_wp2
   go_end0
   have := hte.out
   rw [tenc] at this
   rw [← this]
   exact ⟨rfl, hu, dr, hx, hf, hon⟩
end Go.Proofs.YtjfcemlbbinanaaGreatDoor
