/-
  Joined texts: Ma, Mb, Mc, Md.
-/
import Derived.Test.YtgllednilkfpgaaGreatJ05
import Derived.Test.YtgllednilkfpgaaGreatJ02
import Derived.Deep.RegionWith
set_option linter.unusedVariables false
set_option linter.unusedSimpArgs false
/-
  The walks over the models, first part: probabilities, a model of numbers in memory.
-/
namespace Go.Proofs.YtgllednilkfpgaaGreat
open Go.RowKit Go.Proofs Wv Wv.Vi Wv.Rc Wv.Mo
set_option linter.unusedVariables false

set_option maxHeartbeats 400000 in
theorem mclamp_any (p : Int) (h1 : 1 ≤ p) (h2 : p ≤ 2047) (w : World) :
    Calls Tryz.prog 192 #[.int .i64 p] w fun x w' => x = .returned (.int .i64 p) ∧ w = w' := by
  go_enter Tryz.func192, Tryz.ntmps192
  go_wp2
  go_ret
  exact ⟨rfl, rfl⟩
set_option maxHeartbeats 400000 in
theorem adapt_any (z b : Nat) (h1 : 1 ≤ z) (h2 : z ≤ 2047) (hb : b < 2) (w : World) :
    Calls Tryz.prog 189 #[.int .i64 (z : Int), .int .i64 (b : Int)] w fun x w' => x = .returned (.int .i64 (adapt z b : Nat)) ∧ w = w' := by
  have Hc := hide (mclamp_any (z : Int) (by omega) (by omega))
  have hz : b = 0 ∨ b = 1 := by omega
  rcases hz with rfl | rfl
  · have ha := hide (show adapt z 0 = z + (2048 - z) / 32 by unfold adapt; rw [if_pos rfl])
    go_enter Tryz.func189, Tryz.ntmps189
    go_wp2_with fail
    refine (Hc.out _).mono ?_
    rintro x w1 ⟨rfl, rfl⟩
    go_wp2
    go_ret
    exact ⟨ret_int (by rw [ha.out]; omega), rfl⟩
  · have ha := hide (show adapt z 1 = z - z / 32 by unfold adapt; rw [if_neg (by omega)])
    have hne : (((1 : Nat) : Int) == 0) = false := rfl
    go_enter Tryz.func189, Tryz.ntmps189
    go_wp2_with fail
    refine (Hc.out _).mono ?_
    rintro x w1 ⟨rfl, rfl⟩
    go_wp2
    go_ret
    exact ⟨ret_int (by rw [ha.out]; omega), rfl⟩
/-- Numbers as the cells of a block. -/
def nc (t : List Nat) : Array Value := (t.map fun n : Nat => (Value.int .i64 (n : Int))).toArray
theorem nc_get (t : List Nat) (i : Nat) (h : i < t.length) : (nc t)[i]? = some (.int .i64 (t.getD i 0 : Nat)) := by
  have : t.getD i 0 = t[i] := by simp [List.getD, h]
  rw [this]
  simp [nc, List.getElem?_eq_getElem h]
theorem nc_set (t : List Nat) (i z : Nat) : (nc t).setIfInBounds i (.int .i64 (z : Int)) = nc (t.set i z) := by
  apply Array.toList_inj.1
  simp [nc, List.map_set]
/-- A model of numbers in memory: its struct at block b, its nodes at block g. -/
def NAt (w : World) (b g : Nat) (t : List Nat) : Prop := Bk w b 172 #[.int .i64 6, .slice (some ⟨g, 0, none⟩) 64 64] ∧ Bk w g 3 (nc t)
theorem NAt.drewN {w : World} {b g : Nat} {t : List Nat} (h : NAt w b g t) (n : Nat) : NAt (w.drewN n) b g t := h
theorem NAt.drew {w : World} {b g : Nat} {t : List Nat} (h : NAt w b g t) : NAt w.drew b g t := h
theorem NAt.fr {S : Nat → Prop} {w w' : World} {b g : Nat} {t : List Nat} (h : NAt w b g t) (hf : Fr S w w') (h1 : ¬ S b) (h2 : ¬ S g) : NAt w' b g t := ⟨h.1.fr hf h1, h.2.fr hf h2⟩
theorem NAt.below {w w' : World} {b g : Nat} {t : List Nat} (h : NAt w b g t) (hb : Below w.heap.size w w') : NAt w' b g t := ⟨h.1.below hb h.1.lt, h.2.below hb h.2.lt⟩
theorem NAt.put {w : World} {b g : Nat} {t : List Nat} (h : NAt w b g t) (m z : Nat) : NAt (w.setCell ⟨g, m, none⟩ (.int .i64 (z : Int))) b g (t.set m z) := by
  have hne : b ≠ g := Bk.apart h.1 h.2 (by decide)
  refine ⟨h.1.off (p := ⟨g, m, none⟩) hne _, ?_⟩
  have := h.2.put m (.int .i64 (z : Int))
  rwa [nc_set] at this
/-- The encoder's memory stays away from the model's. -/
theorem NAt.foot {w : World} {b g eb : Nat} {dv : Value} {t : List Nat} {e : En} (h : NAt w b g t) (he : EnAt w eb dv e) : ¬ foot eb dv b ∧ ¬ foot eb dv g := by
  refine ⟨fun hs => ?_, fun hs => ?_⟩
  · rcases hs with hs | hs
    · exact Bk.apart h.1 he.1 (by decide) hs
    · exact own_apart he.2 h.1 (by decide) hs
  · rcases hs with hs | hs
    · exact Bk.apart h.2 he.1 (by decide) hs
    · exact own_apart he.2 h.2 (by decide) hs
theorem NAt.onl {w : World} {b g eb : Nat} {t : List Nat} {d : De} (h : NAt w b g t) (he : DAt w eb d) : ¬ only eb b ∧ ¬ only eb g :=
  ⟨fun hs => Bk.apart h.1 he (by decide) hs, fun hs => Bk.apart h.2 he (by decide) hs⟩
/-- What a model and an encoder may turn. -/
def efoot (g eb : Nat) (dv : Value) : Nat → Prop := fun k => k = g ∨ foot eb dv k
def dfoot (g eb : Nat) : Nat → Prop := fun k => k = g ∨ k = eb
theorem efr_foot {w w1 w2 : World} {g eb : Nat} {dv dr : Value} (h : Fr (efoot g eb dv) w w1) (k : Fr (foot eb dr) w1 w2) (ho : OwnNew w dv dr) : Fr (efoot g eb dv) w w2 :=
  h.trans' k (fun i hi hs => by
    rcases hs with hs | hs
    · exact .inr (.inl hs)
    · rcases ho with ho | ho
      · exact .inr (.inr (ho ▸ hs))
      · have := ho i hs; omega)
theorem efr_set {w w1 : World} {g eb m : Nat} {dv x : Value} (h : Fr (efoot g eb dv) w w1) : Fr (efoot g eb dv) w (w1.setCell ⟨g, m, none⟩ x) := h.setCell (p := ⟨g, m, none⟩) (.inl (.inl rfl)) x
theorem EnAt.off {w : World} {b g eb m : Nat} {dv x : Value} {t : List Nat} {e : En} (he : EnAt w eb dv e) (h : NAt w b g t) : EnAt (w.setCell ⟨g, m, none⟩ x) eb dv e :=
  he.fr (S := only g) ((Fr.refl (only g) w).setCell (p := ⟨g, m, none⟩) (.inl rfl) x) (fun e => (h.foot he).2 (.inl e.symm)) (fun k hk e => (h.foot he).2 (.inr (by rw [hk]; exact congrArg some e)))
theorem DAt.off {w : World} {b g eb m : Nat} {x : Value} {t : List Nat} {d : De} (he : DAt w eb d) (h : NAt w b g t) : DAt (w.setCell ⟨g, m, none⟩ x) eb d :=
  he.fr (S := only g) ((Fr.refl (only g) w).setCell (p := ⟨g, m, none⟩) (.inl rfl) x) (fun e => (h.onl he).2 e.symm)
end Go.Proofs.YtgllednilkfpgaaGreat
/-
  The walks over the models, second part: a tree's coding of a number.
-/
namespace Go.Proofs.YtgllednilkfpgaaGreat
open Go.RowKit Go.Proofs Wv Wv.Vi Wv.Rc Wv.Mo
set_option linter.unusedVariables false

/-- The front of a number's coding, and the rest. -/
theorem tenc_step (n v m : Nat) (t : List Nat) (e : En) : tenc (n + 1) v m t e = tenc n v (2 * m + v / 2 ^ n % 2) (t.set m (adapt (t.getD m 0) (v / 2 ^ n % 2))) (ebit (t.getD m 0) (v / 2 ^ n % 2) e) := rfl
set_option maxRecDepth 100000 in
set_option maxHeartbeats 2000000 in
theorem tenc_any {w : World} {b g eb : Nat} {dv : Value} {t : List Nat} {e : En} (h : NAt w b g t) (ht : TNum t) (he : EnAt w eb dv e) (hv : Val 0 e) (v : Nat) (hv63 : v ≤ 9223372036854775807) (hl : e.out.length ≤ 800000) :
    Calls Tryz.prog 186 #[.pointer (some ⟨b, 0, none⟩), .pointer (some ⟨eb, 0, none⟩), .int .i64 (v : Int)] w fun x w' => x = .returned (.tuple #[]) ∧ NAt w' b g (tenc 6 v 1 t e).1 ∧ ∃ dv', EnAt w' eb dv' (tenc 6 v 1 t e).2 ∧ Fr (efoot g eb dv) w w' ∧ OwnNew w dv dv' := by
  have ha := and1
  have c0 := h.1.cell 0
  simp at c0
  go_enter Tryz.func186, Tryz.ntmps186
  go_wp2
  go_loopw [6, 7] (fun mv i wr => ∃ (j m : Nat) (dr : Value) (u : List Nat) (x : En), j ≤ 6 ∧ i = .int .i64 ((j : Int) - 1) ∧ mv = .int .i64 m ∧ (m + 1) * 2 ^ j ≤ 128 ∧ NAt wr b g u ∧ TNum u ∧ EnAt wr eb dr x ∧ Val 0 x ∧ Hid (tenc j v m u x = tenc 6 v 1 t e) ∧ Fr (efoot g eb dv) w wr ∧ OwnNew w dv dr ∧ x.out.length ≤ e.out.length + 2 * (6 - j)) (fun _ i _ => (intOf i + 1).toNat)
  case atStart => exact ⟨6, 1, dv, t, e, by omega, rfl, rfl, by decide, h, ht, he, hv, hide rfl, Fr.refl _ _, .inl rfl, by omega⟩
  case round =>
    clear c0 h ht he hv
    obtain ⟨j, m, dr, u, x, hj, rfl, rfl, hm, hu, htu, hx, hvx, hte, hf, hon, hlx⟩ := hrel
    by_cases hlt : 0 < j
    · obtain ⟨k, rfl⟩ : ∃ k, j = k + 1 := ⟨j - 1, by omega⟩
      have hm64 : m < u.length := node_lt (by rw [htu.2]; exact hm)
      have hst := tenc_step k v m u x
      have i1 : ((k + 1 : Nat) : Int) - 1 = (k : Int) := by omega
      rw [i1]
      obtain ⟨y, hy⟩ : ∃ y, v / 2 ^ k % 2 = y := ⟨_, rfl⟩
      have hy2 : y < 2 := by omega
      have i2 : (v : Int) / 2 ^ k % 2 = (y : Int) := by rw [← hy, Int.natCast_emod, Int.natCast_ediv, Int.natCast_pow]; rfl
      have hp := tok_get htu.1 hm64
      have hmn : (2 * m + y + 1) * 2 ^ k ≤ 128 := node_step (L := 64) hy2 hm
      have q1 := hu.1.cell 1
      have qm := hu.2.cell m
      rw [nc_get u m hm64] at qm
      simp at q1
      obtain ⟨z, hz⟩ : ∃ z, u.getD m 0 = z := ⟨_, rfl⟩
      rw [hy, hz] at hst
      rw [hz] at qm hp
      have hm642 : (m : Int) < 64 := by rw [htu.2] at hm64; omega
      have Hb := hide (rbit_any hx hvx z y hp.1 hp.2 hy2 (by omega))
      have Ha := hide (adapt_any z y hp.1 hp.2 hy2)
      have hel := ebit_len z y x
      have hval := ebit_val hvx (b := y) hp.1 hp.2
      have hfo := hu.foot hx
      have htn : TNum (u.set m (adapt z y)) := ⟨tok_set htu.1 m (adapt_ok hp), by rw [List.length_set]; exact htu.2⟩
      have Hst := hide hst
      have Hu := hide hu
      clear hst hu hy hz hx hvx htu hm hm64
      go_wp2_with fail
      refine (Hb.out).mono ?_
      rintro r w1 ⟨rfl, dr2, he2, hf2, ho2⟩
      have hu1 := Hu.out.fr hf2 hfo.1 hfo.2
      have r1 := hu1.1.cell 1
      have rm := hu1.2.cell m
      have fm := hu1.2.frozen m
      have qm' : (nc u)[m]? = some (.int .i64 (z : Int)) := (Hu.out.2.cell m).symm.trans qm
      rw [qm'] at rm
      simp at r1
      clear q1 qm qm'
      have hs := hf.size
      go_wp2
      go_region_with ((go_at_call 189; refine (Ha.out _).mono ?_; rintro r w9 ⟨rfl, rfl⟩))
      all_goals
        go_wp2
        go_roundw
        case rel => exact ⟨k, 2 * m + y, dr2, u.set m (adapt z y), ebit z y x, by omega, rfl, by congr 1, hmn, (hu1.put m _).drew, htn, (he2.off hu1).drew, hval, hide (by rw [← Hst.out]; exact hte.out), (efr_set (efr_foot hf hf2 hon)).drew, hon.trans ho2 hs, by omega⟩
        case measure => simp [intOf] <;> omega
    · have hj0 : j = 0 := by omega
      subst hj0
      go_wp2
      go_end0
      have := hte.out
      rw [tenc] at this
      rw [← this]
      exact ⟨rfl, hu, dr, hx, hf, hon⟩
end Go.Proofs.YtgllednilkfpgaaGreat
/-
  The walks over the models, third part: a tree's reading of a number.
-/
namespace Go.Proofs.YtgllednilkfpgaaGreat
open Go.RowKit Go.Proofs Wv Wv.Vi Wv.Rc Wv.Mo
set_option linter.unusedVariables false

theorem tdec_step (n m : Nat) (t : List Nat) (d : De) : tdec (n + 1) m t d = tdec n (2 * m + dbt (t.getD m 0) d) (t.set m (adapt (t.getD m 0) (dbt (t.getD m 0) d))) (dbit (t.getD m 0) d) := rfl
theorem tdec_v (n : Nat) : ∀ (m : Nat) (t : List Nat) (d : De), TOk t → (m + 1) * 2 ^ n ≤ 2 * t.length → DV 0 d → TOk (tdec n m t d).2.1 ∧ (tdec n m t d).2.1.length = t.length ∧ DV 0 (tdec n m t d).2.2 ∧ m * 2 ^ n ≤ (tdec n m t d).1 ∧ (tdec n m t d).1 < (m + 1) * 2 ^ n := by
  induction n with
  | zero => intro m t d h1 _ h3; exact ⟨h1, rfl, h3, by simp [tdec], by simp [tdec]⟩
  | succ n ih =>
    intro m t d h1 h2 h3
    have hp := tok_get h1 (node_lt h2)
    have hb := dbt_le (t.getD m 0) d
    obtain ⟨a, b, c, p, q⟩ := ih (2 * m + dbt (t.getD m 0) d) _ (dbit (t.getD m 0) d) (tok_set h1 m (adapt_ok (b := dbt (t.getD m 0) d) hp)) (by rw [List.length_set]; exact node_step (by omega) h2) (dbit_v h3 hp.1 hp.2)
    rw [tdec]
    refine ⟨a, by rw [b, List.length_set], c, Nat.le_trans ?_ p, Nat.lt_of_lt_of_le q ?_⟩
    · rw [Nat.pow_succ, Nat.mul_comm _ 2, ← Nat.mul_assoc]
      exact Nat.mul_le_mul_right _ (by omega)
    · rw [Nat.pow_succ, Nat.mul_comm _ 2, ← Nat.mul_assoc]
      exact Nat.mul_le_mul_right _ (by omega)
set_option maxRecDepth 100000 in
set_option maxHeartbeats 2000000 in
theorem tdec_any {w : World} {b g eb : Nat} {t : List Nat} {d : De} (h : NAt w b g t) (ht : TNum t) (he : DAt w eb d) (hv : DV 0 d) :
    Calls Tryz.prog 184 #[.pointer (some ⟨b, 0, none⟩), .pointer (some ⟨eb, 0, none⟩)] w fun x w' => x = .returned (.int .i64 (((tdec 6 1 t d).1 - 64 : Nat) : Int)) ∧ NAt w' b g (tdec 6 1 t d).2.1 ∧ DAt w' eb (tdec 6 1 t d).2.2 ∧ Fr (dfoot g eb) w w' := by
  have c0 := h.1.cell 0
  simp at c0
  have hge := (tdec_v 6 1 t d ht.1 (by rw [ht.2]; decide) hv).2.2.2
  go_enter Tryz.func184, Tryz.ntmps184
  go_wp2
  go_loopw [5, 11] (fun mv i wr => ∃ (j m : Nat) (u : List Nat) (x : De), j ≤ 6 ∧ i = .int .i64 (j : Int) ∧ mv = .int .i64 m ∧ (m + 1) * 2 ^ (6 - j) ≤ 128 ∧ NAt wr b g u ∧ TNum u ∧ DAt wr eb x ∧ DV 0 x ∧ Hid (tdec (6 - j) m u x = tdec 6 1 t d) ∧ Fr (dfoot g eb) w wr) (fun _ i _ => (6 - intOf i).toNat)
  case atStart => exact ⟨0, 1, t, d, by omega, rfl, rfl, by decide, h, ht, he, hv, hide rfl, Fr.refl _ _⟩
  case round =>
    clear c0 h ht he hv
    obtain ⟨j, m, u, x, hj, rfl, rfl, hm, hu, htu, hx, hvx, hte, hf⟩ := hrel
    by_cases hlt : j < 6
    · obtain ⟨k, hk⟩ : ∃ k, 6 - j = k + 1 := ⟨5 - j, by omega⟩
      have hkj : 6 - (j + 1) = k := by omega
      rw [hk] at hm hte
      have hm64 : m < u.length := node_lt (by rw [htu.2]; exact hm)
      have hst := tdec_step k m u x
      have hp := tok_get htu.1 hm64
      have hy1 := dbt_le (u.getD m 0) x
      have q1 := hu.1.cell 1
      have qm := hu.2.cell m
      rw [nc_get u m hm64] at qm
      simp at q1
      obtain ⟨z, hz⟩ : ∃ z, u.getD m 0 = z := ⟨_, rfl⟩
      rw [hz] at hst hy1 qm hp
      obtain ⟨y, hy⟩ : ∃ y, dbt z x = y := ⟨_, rfl⟩
      rw [hy] at hst hy1
      have hy2 : y < 2 := by omega
      have hmn : (2 * m + y + 1) * 2 ^ k ≤ 128 := node_step (L := 64) hy2 hm
      have hm642 : (m : Int) < 64 := by rw [htu.2] at hm64; omega
      have Hb := dbit_any hx hvx z hp.1 hp.2
      rw [hy] at Hb
      have Hb := hide Hb
      have Ha := hide (adapt_any z y hp.1 hp.2 hy2)
      have hval := dbit_v hvx hp.1 hp.2
      have hfo := hu.onl hx
      have htn : TNum (u.set m (adapt z y)) := ⟨tok_set htu.1 m (adapt_ok hp), by rw [List.length_set]; exact htu.2⟩
      have Hst := hide hst
      have Hu := hide hu
      have Hkj := hide hkj
      clear hst hu hy hz hx hvx htu hm hm64 hk hkj hge
      go_wp2_with fail
      refine (Hb.out).mono ?_
      rintro r w1 ⟨rfl, he2, hf2⟩
      have hu1 := Hu.out.fr hf2 hfo.1 hfo.2
      have r1 := hu1.1.cell 1
      have rm := hu1.2.cell m
      have fm := hu1.2.frozen m
      have qm' : (nc u)[m]? = some (.int .i64 (z : Int)) := (Hu.out.2.cell m).symm.trans qm
      rw [qm'] at rm
      simp at r1
      clear q1 qm qm'
      go_wp2
      go_region_with ((go_at_call 189; refine (Ha.out _).mono ?_; rintro r w9 ⟨rfl, rfl⟩))
      all_goals
        go_wp2
        go_roundw
        case rel => exact ⟨j + 1, 2 * m + y, u.set m (adapt z y), dbit z x, by omega, by go_num, by congr 1, by rw [Hkj.out]; exact hmn, (hu1.put m _).drew, htn, (he2.off hu1).drew, hval, hide (by rw [Hkj.out, ← Hst.out]; exact hte.out), ((hf.trans' hf2 (fun i hi e => .inr e)).setCell (p := ⟨g, m, none⟩) (.inl (.inl rfl)) _).drew⟩
        case measure => simp [intOf] <;> omega
    · have hj6 : j = 6 := by omega
      subst hj6
      have hh := hte.out
      rw [Nat.sub_self, tdec] at hh
      have q0 := hu.1.cell 0
      simp at q0
      have hmm : (tdec 6 1 t d).1 = m := by rw [← hh]
      rw [hmm] at hge
      have hge2 : 64 ≤ m := hge.1
      have hmu : m < 128 := by
        have : m ≤ 127 := by simpa using hm
        omega
      have Hh := hide hh
      clear hge hmm hh hm
      go_wp2
      go_ret
      rw [← Hh.out]
      exact ⟨ret_int (by simp only; omega), hu, hx, hf⟩
end Go.Proofs.YtgllednilkfpgaaGreat
/-
  The walks over the models, fourth part: a new model of numbers.
-/
namespace Go.Proofs.YtgllednilkfpgaaGreat
open Go.RowKit Go.Proofs Wv Wv.Vi Wv.Rc Wv.Mo
set_option linter.unusedVariables false

theorem intinf : (Tryz.prog.info? 3).map (fun i => (i.zero, i.size, i.bytes)) = some (some (.int .i64 0), 1, 8) := by kernel_rfl
def half (j : Nat) : List Nat := List.replicate j 1024 ++ List.replicate (64 - j) 0
theorem half_set (j : Nat) (h : j < 64) : (half j).set j 1024 = half (j + 1) := by
  unfold half
  rw [List.set_append_right _ _ (by simp), List.length_replicate, Nat.sub_self, show 64 - j = (64 - (j + 1)) + 1 from by omega, List.replicate_succ, List.set_cons_zero, List.replicate_succ', List.append_assoc]
  rfl
theorem half_length (j : Nat) (h : j ≤ 64) : (half j).length = 64 := by simp [half]; omega
theorem half_all : half 64 = t0 := by decide
theorem half_none : nc (half 0) = Array.replicate 64 (.int .i64 0) := by
  apply Array.toList_inj.1
  simp [nc, half]

set_option maxHeartbeats 1000000 in
theorem plant_any (w : World) :
    Calls Tryz.prog 144 #[.int .i64 1, .int .i64 6] w fun x w' => x = .returned (.slice (some ⟨w.heap.size + 1, 0, none⟩) 1 1) ∧ Bk w' w.heap.size 3 (nc t0) ∧ Bk w' (w.heap.size + 1) 168 #[.int .i64 6, .slice (some ⟨w.heap.size, 0, none⟩) 64 64] ∧ Below w.heap.size w w' := by
  have hmk := mk_row (P := Tryz.prog) 22 3 _ _ Tryz.underlying22 intinf rfl 64 64 rfl (by omega) (by omega) w
  rw [← half_none] at hmk
  have hmk2 : ∀ w : World, (Instr.makeSlice 169 (.int .i64 1) (.int .i64 1)).run Tryz.prog w = .ok (.slice (some ⟨w.heap.size, 0, none⟩) 1 1) (w.alloc (.cells #[.int .i64 0, .slice none 0 0] 168)) := fun _ => by kernel_rfl
  go_enter Tryz.func144, Tryz.ntmps144
  go_wp2
  go_loopw [6, 17] (fun _ i wr => ∃ j : Nat, j ≤ 64 ∧ i = .int .i64 j ∧ Bk wr w.heap.size 3 (nc (half j)) ∧ Below w.heap.size w wr ∧ wr.heap.size = w.heap.size + 1) (fun _ i _ => (64 - intOf i).toNat)
  case atStart => exact ⟨0, by omega, rfl, Bk.new _ _ _, (Below.refl _ _).alloc (Nat.le_refl _) _, by simp⟩
  case round =>
    obtain ⟨j, hj, rfl, hbk, hf, hsz⟩ := hrel
    by_cases hlt : j < 64
    · have hc := hbk.cell j
      rw [nc_get _ _ (by rw [half_length j hj]; exact hlt)] at hc
      have fc := hbk.frozen j
      have hp := hbk.put j (.int .i64 ((1024 : Nat) : Int))
      rw [nc_set, half_set j hlt] at hp
      have Hp := hide hp
      have Hz := hide hsz
      clear hp hbk hsz hmk
      go_wp2
      go_roundw
      case rel => exact ⟨j + 1, by omega, by go_num, Hp.out, hf.setCell (p := ⟨w.heap.size, j, none⟩) (Nat.le_refl _) _, by simpa using Hz.out⟩
      case measure => simp [intOf] <;> omega
    · have hj64 : j = 64 := by omega
      subst hj64
      have Hz := hide hsz
      have Hbk := hide hbk
      clear hsz hbk hmk
      go_wp2
      rw [Hz.out]
      have hf2 := hf.alloc hf.size (.cells #[.int .i64 0, .slice none 0 0] 168)
      have hb2 := Hbk.out.alloc (.cells #[.int .i64 0, .slice none 0 0] 168)
      have hb3 : Bk (wr.alloc (.cells #[.int .i64 0, .slice none 0 0] 168)) (w.heap.size + 1) 168 #[.int .i64 0, .slice none 0 0] := Hz.out ▸ Bk.new wr _ _
      go_loopw [8, 9, 10, 28] (fun _ _ _ i wr2 => ∃ j : Nat, j ≤ 1 ∧ i = .int .i64 j ∧ (j = 0 → Bk wr2 (w.heap.size + 1) 168 #[.int .i64 0, .slice none 0 0]) ∧ (j = 1 → Bk wr2 (w.heap.size + 1) 168 #[.int .i64 6, .slice (some ⟨w.heap.size, 0, none⟩) 64 64]) ∧ Bk wr2 w.heap.size 3 (nc (half 64)) ∧ Below w.heap.size w wr2) (fun _ _ _ i _ => (1 - intOf i).toNat)
      case atStart => exact ⟨0, by omega, rfl, fun _ => hb3, fun h => by omega, hb2, hf2⟩
      case round =>
        clear hf2 hb2 hb3 hf
        obtain ⟨j, hj, rfl, h0, h1, hb, hf⟩ := hrel
        by_cases hlt : j < 1
        · have hj0 : j = 0 := by omega
          subst hj0
          have hb0 := h0 rfl
          have q0 := hb0.cell 0
          have q1 := hb0.cell 1
          have p0 := hb0.frozen 0
          have p1 := hb0.frozen 1
          simp at q0 q1
          have Hb0 := hide hb0
          clear h0 h1 hb0 hlt
          go_wp2
          go_region
          go_wp2
          go_roundw
          case rel =>
            refine ⟨1, by omega, rfl, fun h => by omega, fun _ => ?_, ?_, ?_⟩
            · have h9 := (Hb0.out.put 0 (.int .i64 6)).put 1 (.slice (some ⟨w.heap.size, 0, none⟩) 64 64)
              have h8 := h9.drew
              simpa using h8
            · exact ((hb.off (p := ⟨w.heap.size + 1, 0, none⟩) (by simp) _).off (p := ⟨w.heap.size + 1, 1, none⟩) (by simp) _).drew
            · exact ((hf.setCell (p := ⟨w.heap.size + 1, 0, none⟩) (by simp) _).setCell (p := ⟨w.heap.size + 1, 1, none⟩) (by simp) _).drew
          case measure => simp [intOf]
        · have hj1 : j = 1 := by omega
          subst hj1
          have hb1 := hide (h1 rfl)
          clear h0 h1
          go_wp2
          go_ret
          exact ⟨rfl, by rw [← half_all]; exact hb, hb1.out, hf⟩
set_option maxHeartbeats 1000000 in
theorem nnew_any (w : World) :
    Calls Tryz.prog 115 #[] w fun x w' => ∃ b, x = .returned (.pointer (some ⟨b, 0, none⟩)) ∧ w.heap.size ≤ b ∧ NAt w' b w.heap.size t0 ∧ Below w.heap.size w w' := by
  have Hp := hide (plant_any w)
  go_enter Tryz.func115, Tryz.ntmps115
  go_wp2_with fail
  refine (Hp.out).mono ?_
  rintro x w1 ⟨rfl, h0, h1, hb⟩
  have q0 := h1.cell 0
  have q1 := h1.cell 1
  simp at q0 q1
  have hs := hb.size
  have H0 := hide h0
  clear h0 h1
  go_wp2
  go_ret
  exact ⟨w1.heap.size, rfl, hs, ⟨Bk.new _ _ _, H0.out.alloc _⟩, hb.alloc hs _⟩
end Go.Proofs.YtgllednilkfpgaaGreat
