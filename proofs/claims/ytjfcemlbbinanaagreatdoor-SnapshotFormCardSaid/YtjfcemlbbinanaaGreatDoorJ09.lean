/-
  The walks over the range coder: the decoder's byte and bit.
-/
import Derived.Test.YtjfcemlbbinanaaGreatDoorJ04
import Derived.Test.YtjfcemlbbinanaaGreatDoorJ08
set_option linter.unusedVariables false
set_option linter.unusedSimpArgs false
namespace Go.Proofs.YtjfcemlbbinanaaGreatDoor
open Go.RowKit Go.Proofs Wv Wv.Vi Wv.Rc
set_option linter.unusedVariables false

def DAt (w : World) (b : Nat) (d : De) : Prop := Bk w b 194 #[.string (bs d.rest), .int .u32 (d.code : Int), .int .u32 (d.size : Int), .bool d.miss, .bool d.full]
theorem DAt.drewN {w : World} {b : Nat} {d : De} (h : DAt w b d) (n : Nat) : DAt (w.drewN n) b d := h
theorem DAt.drew {w : World} {b : Nat} {d : De} (h : DAt w b d) : DAt w.drew b d := h
theorem DAt.fr {S : Nat → Prop} {w w' : World} {b : Nat} {d : De} (h : DAt w b d) (hf : Fr S w w') (hS : ¬ S b) : DAt w' b d := Bk.fr h hf hS
theorem DAt.below {w w' : World} {b : Nat} {d : De} (h : DAt w b d) (hb : Below w.heap.size w w') : DAt w' b d := Bk.below h hb (Bk.lt h)
theorem DAt.put0 {w : World} {b : Nat} {d : De} (h : DAt w b d) (x : List UInt8) : DAt (w.setCell ⟨b, 0, none⟩ (.string (bs x))) b { d with rest := x } := by simpa [DAt] using Bk.put h 0 (.string (bs x))
theorem DAt.put1 {w : World} {b : Nat} {d : De} (h : DAt w b d) (x : Nat) : DAt (w.setCell ⟨b, 1, none⟩ (.int .u32 (x : Int))) b { d with code := x } := by simpa [DAt] using Bk.put h 1 (.int .u32 (x : Int))
theorem DAt.put2 {w : World} {b : Nat} {d : De} (h : DAt w b d) (x : Nat) : DAt (w.setCell ⟨b, 2, none⟩ (.int .u32 (x : Int))) b { d with size := x } := by simpa [DAt] using Bk.put h 2 (.int .u32 (x : Int))
theorem DAt.put3 {w : World} {b : Nat} {d : De} (h : DAt w b d) (x : Bool) : DAt (w.setCell ⟨b, 3, none⟩ (.bool x)) b { d with miss := x } := by simpa [DAt] using Bk.put h 3 (.bool x)
theorem DAt.put4 {w : World} {b : Nat} {d : De} (h : DAt w b d) (x : Bool) : DAt (w.setCell ⟨b, 4, none⟩ (.bool x)) b { d with full := x } := by simpa [DAt] using Bk.put h 4 (.bool x)
theorem only_set {w w' : World} {b : Nat} (h : Fr (only b) w w') (o : Nat) (x : Value) : Fr (only b) w (w'.setCell ⟨b, o, none⟩ x) := h.setCell (p := ⟨b, o, none⟩) (.inl rfl) x
theorem or32 (n c : Nat) (hc : c < 256) : bits .or .u32 (((n * 256 % 4294967296 : Nat) : Int)) (c : Int) = ((n * 256 % 4294967296 + c : Nat) : Int) := by
 rw [u32_or_nat _ _ (by omega) (by omega), nat_join 8 _ _ (by omega) (by omega)]
theorem or32z (n : Nat) : bits .or .u32 (((n * 256 % 4294967296 : Nat) : Int)) 0 = ((n * 256 % 4294967296 : Nat) : Int) := by
 have := or32 n 0 (by omega)
 simpa using this

set_option maxHeartbeats 1000000 in
theorem dnext_any {w : World} {b : Nat} {d : De} (h : DAt w b d) :
  Calls Tryz.prog 152 #[.pointer (some ⟨b, 0, none⟩)] w fun x w' => x = .returned (.tuple #[]) ∧ DAt w' b (dnext d) ∧ Fr (only b) w w' := by
 have c0 := Bk.cell h 0
 have c1 := Bk.cell h 1
 have c3 := Bk.cell h 3
 have f0 := Bk.frozen h 0
 have f1 := Bk.frozen h 1
 have f3 := Bk.frozen h 3
 simp at c0 c1 c3
 obtain ⟨X, hX⟩ : ∃ X, d.code * 256 % 4294967296 = X := ⟨_, rfl⟩
 have i1 : (d.code : Int) * 256 % 4294967296 = (X : Int) := by omega
 match hr : d.rest with
 | [] =>
  have hn : dnext d = { { d with miss := true } with code := X } := by unfold dnext; rw [hr]; simp only [hX]
  have hs : (bs d.rest).size = 0 := by rw [hr]; rfl
  have hem := emp1 hs
  have hor := or32z d.code
  rw [hX] at hor
  generalize bs d.rest = s at *
  have H := hide h
  have Hn := hide hn
  clear h hn hs hr hX
  go_enter Tryz.func152, Tryz.ntmps152
  go_wp2
  go_end0
  rw [Hn.out]
  exact ⟨rfl, (H.out.put3 true).put1 X, only_set (only_set (Fr.refl _ _) 3 _) 1 _⟩
 | c :: t =>
  have hn : dnext d = { { d with rest := t } with code := X + c.toNat } := by unfold dnext; rw [hr]; simp only [hX]
  have hs : 0 < (bs d.rest).size := by rw [hr, bs_size]; simp
  have hem := emp0 hs
  have hor := or32 d.code c.toNat (UInt8.toNat_lt c)
  rw [hX] at hor
  have hex := ext_drop (bs d.rest) 1
  rw [toL_bs, hr, List.drop_one, List.tail_cons, ← hr] at hex
  have hg : ∀ hh : 0 < (bs d.rest).size, ((bs d.rest)[0]'hh).toNat = c.toNat := by
   rw [hr]
   intro hh
   rfl
  generalize bs d.rest = s at *
  have hg0 := hg hs
  obtain ⟨y, hy⟩ : ∃ y, c.toNat = y := ⟨_, rfl⟩
  rw [hy] at hg0 hor hn
  have hy8 : y < 256 := by rw [← hy]; exact UInt8.toNat_lt c
  have H := hide h
  have Hn := hide hn
  clear h hn hr hX hg hy
  go_enter Tryz.func152, Tryz.ntmps152
  go_wp2
  go_region
  go_wp2
  go_end0
  rw [Hn.out]
  exact ⟨rfl, by have h9 := ((H.out.put0 t).put1 (X + y)).drew; rw [Int.natCast_add] at h9; exact h9, (only_set (only_set (Fr.refl _ _) 0 _) 1 _).drew⟩
def DV (k : Nat) (d : De) : Prop := Szk k d.size ∧ d.code < 4294967296
theorem dv_up {d : De} (h : DV 0 d) : 16777216 ≤ d.size ∧ d.size < 4294967296 := by have := h.1; unfold Szk at this; omega
theorem dpart_v {d : De} (h : DV 0 d) {p : Nat} (hp1 : 1 ≤ p) (hp2 : p ≤ 2047) : DV 2 (dpart p d) := by
 obtain ⟨h1, h2⟩ := dv_up h
 obtain ⟨b1, b2⟩ := bound_le d.size p h1 hp1 hp2
 have h3 := h.2
 unfold dpart
 generalize d.size / 2048 * p = B at *
 split
 ·exact ⟨⟨by show _ ≤ B * _; omega, by show B < _; omega⟩, h3⟩
 ·exact ⟨⟨by show _ ≤ (d.size - B) * _; omega, by show d.size - B < _; omega⟩, by show d.code - B < _; omega⟩
theorem dnext_v {d : De} : (dnext d).size = d.size ∧ (dnext d).code < 4294967296 := by
 unfold dnext
 split
 ·exact ⟨rfl, by show d.code * 256 % 4294967296 < _; omega⟩
 ·rename_i c t _
  refine ⟨rfl, ?_⟩
  have := UInt8.toNat_lt c
  show d.code * 256 % 4294967296 + c.toNat < _
  omega
theorem dshift_v {k : Nat} {d : De} (h : DV (k + 1) d) (hs : d.size < 16777216) : DV k (dshift d) := by
 refine ⟨⟨?_, ?_⟩, dnext_v.2⟩
 ·have := h.1.1
  rw [Nat.pow_succ, ← Nat.mul_assoc] at this
  show _ ≤ d.size * 256 * 256 ^ k
  rw [Nat.mul_right_comm]
  exact this
 ·show d.size * 256 < _; omega
theorem dnorm_v (k : Nat) : ∀ {d : De}, DV k d → DV 0 (dnorm k d) := by
 induction k with
 | zero => intro d h; exact h
 | succ k ih =>
  intro d h
  rw [dnorm]
  split
  ·exact ih (dshift_v h (by assumption))
  ·exact ⟨⟨by simp; omega, h.1.2⟩, h.2⟩
theorem dbit_v {d : De} (h : DV 0 d) {p : Nat} (hp1 : 1 ≤ p) (hp2 : p ≤ 2047) : DV 0 (dbit p d) := dnorm_v 2 (dpart_v h hp1 hp2)
def dsmu (b : Nat) (w : World) : Nat := match w.cell? ⟨b, 2, none⟩ with
 | some (.int _ n) => (16777216 - n).toNat
 | _ => 0
theorem dsmu_eq {w : World} {b : Nat} {d : De} (h : DAt w b d) : dsmu b w = (16777216 - (d.size : Int)).toNat := by
 have := Bk.cell h 2
 simp at this
 unfold dsmu
 rw [this]

set_option maxRecDepth 100000 in
set_option maxHeartbeats 2000000 in
theorem dbit_any {w : World} {b : Nat} {d : De} (h : DAt w b d) (hv : DV 0 d) (p : Nat) (hp1 : 1 ≤ p) (hp2 : p ≤ 2047) :
    Calls Tryz.prog 153 #[.pointer (some ⟨b, 0, none⟩), .int .i64 (p : Int)] w fun x w' => x = .returned (.int .i64 (dbt p d : Nat)) ∧ DAt w' b (dbit p d) ∧ Fr (only b) w w' := by
  obtain ⟨v1, v2⟩ := dv_up hv
  obtain ⟨b1, b2⟩ := bound_le d.size p v1 hp1 hp2
  have hcode := hv.2
  have hpv := dpart_v hv hp1 hp2
  obtain ⟨B, hB⟩ : ∃ B, d.size / 2048 * p = B := ⟨_, rfl⟩
  have c1 := Bk.cell h 1
  have c2 := Bk.cell h 2
  have f1 := Bk.frozen h 1
  have f2 := Bk.frozen h 2
  simp at c1 c2
  have Hcl := hide (rclamp_any (p : Int) (by omega) (by omega))
  rw [hB] at b1 b2
  have hdp : dpart p d = if d.code < B then { d with size := B } else { d with code := d.code - B, size := d.size - B } := by unfold dpart; rw [hB]
  have hdb : dbt p d = if d.code < B then 0 else 1 := by unfold dbt; rw [hB]
  have H := hide h
  have i0 : IntKind.u32.wrap ((d.size : Int) / 2048 * (p : Int)) = (B : Int) := by
    have : (d.size : Int) / 2048 * (p : Int) = (B : Int) := by rw [← hB, Int.natCast_mul, Int.natCast_ediv]; rfl
    rw [this, IntWalk.u32_in _ (by omega)]
  have Hpv := hide hpv
  have Hdp := hide hdp
  have Hdb := hide hdb
  clear h hB hpv hv hdp hdb
  go_enter Tryz.func153, Tryz.ntmps153
  go_wp2
  go_quiet ((go_at_call 124; exact q1 (Hcl.out _)))
  clear i0
  go_upto_if 20 with fail
  go_cut [6] (fun s6 wx => s6 = .int .i64 (dbt p d : Nat) ∧ DAt wx b (dpart p d) ∧ Fr (only b) w wx)
  case first =>
    by_cases hc : d.code < B
    · have Hz := Hdp.out
      have Hy := Hdb.out
      rw [if_pos hc] at Hz Hy
      have Hz := hide Hz
      have Hy := hide Hy
      have hc2 : (d.code : Int) < (B : Int) := by omega
      clear hc
      go_wp2
      go_meet
      case rel =>
        rw [Hz.out, Hy.out]
        exact ⟨rfl, ((H.out).drewN nq).put2 B, only_set ((Fr.refl _ _).drewN nq) 2 _⟩
    · have Hz := Hdp.out
      have Hy := Hdb.out
      rw [if_neg hc] at Hz Hy
      have hc2 : ¬ (d.code : Int) < (B : Int) := by omega
      obtain ⟨C, hC⟩ : ∃ C, d.code - B = C := ⟨_, rfl⟩
      obtain ⟨S, hS⟩ : ∃ S, d.size - B = S := ⟨_, rfl⟩
      rw [hC, hS] at Hz
      have i1 : IntKind.u32.wrap ((d.code : Int) - (B : Int)) = (C : Int) := by rw [IntKind.wrap_u32']; omega
      have i2 : IntKind.u32.wrap ((d.size : Int) - (B : Int)) = (S : Int) := by rw [IntKind.wrap_u32']; omega
      have Hz := hide Hz
      have Hy := hide Hy
      clear hc hC hS
      go_wp2
      go_region
      all_goals
        go_wp2
        go_meet
        case rel =>
          rw [Hz.out, Hy.out]
          exact ⟨rfl, ((((H.out).drewN nq).put1 C).put2 S).drew, (only_set (only_set ((Fr.refl _ _).drewN nq) 1 _) 2 _).drew⟩
  case rest =>
    obtain ⟨rfl, he, hf⟩ := hcut
    clear c1 c2 f1 f2
    go_wp2
    go_loopw [] (fun wr => ∃ (k : Nat) (x : De), DAt wr b x ∧ DV k x ∧ k ≤ 2 ∧ Hid (dnorm k x = dbit p d) ∧ Fr (only b) w wr) (fun wr => dsmu b wr)
    case atStart => exact ⟨2, _, he, Hpv.out, Nat.le_refl _, hide rfl, hf⟩
    case round =>
      clear he hf
      obtain ⟨k, x, hx, hvx, hk, hn, hf⟩ := hrel
      have q2 := Bk.cell hx 2
      simp at q2
      have hsz := hvx.1.2
      by_cases hlt : x.size < 16777216
      · obtain ⟨j, rfl⟩ : ∃ j, k = j + 1 := by
          rcases Nat.eq_zero_or_pos k with h9 | h9
          · subst h9
            have := dv_up hvx
            omega
          · exact ⟨k - 1, by omega⟩
        have hvs := dshift_v hvx hlt
        have hen : dnorm (j + 1) x = dnorm j (dshift x) := by rw [dnorm, if_pos hlt]
        have hlt2 : (x.size : Int) < 16777216 := by omega
        have hsz0 : 0 < x.size := by
          have := hvx.1.1
          rcases Nat.eq_zero_or_pos x.size with h9 | h9
          · rw [h9, Nat.zero_mul] at this; omega
          · exact h9
        obtain ⟨R, hR⟩ : ∃ R, x.size * 256 = R := ⟨_, rfl⟩
        have i4 : (x.size : Int) * 256 = (R : Int) := by omega
        have Hd := hide (dnext_any hx)
        have hds : dshift x = { dnext x with size := R } := by unfold dshift; rw [hR]
        have hdz : (dnext x).size = x.size := dnext_v.1
        have Hen := hide hen
        have Hvs := hide hvs
        have Hds := hide hds
        have HR := hide hR
        have Hx := hide hx
        clear hvs hen hvx hx hlt hR hds
        go_wp2_with fail
        refine (Hd.out).mono ?_
        rintro y w1 ⟨rfl, hd1, hf1⟩
        have r2 := Bk.cell hd1 2
        have t2 := Bk.frozen hd1 2
        simp at r2
        rw [hdz] at r2
        clear hdz q2
        go_wp2
        go_roundw
        case rel =>
          refine ⟨j, dshift x, ?_, Hvs.out, by omega, hide (by rw [← Hen.out, hn.out]), only_set (hf.trans hf1) 2 _⟩
          rw [Hds.out]
          exact hd1.put2 R
        case measure =>
          show dsmu b _ < dsmu b _
          rw [dsmu_eq (hd1.put2 R), dsmu_eq Hx.out]
          have := HR.out
          simp only
          omega
      · have hen : dnorm k x = x := by cases k with
          | zero => rfl
          | succ k => rw [dnorm, if_neg hlt]
        have Hen := hide hen
        have hlt2 : ¬ (x.size : Int) < 16777216 := by omega
        clear hlt hen
        go_wp2
        go_ret
        refine ⟨rfl, ?_, hf⟩
        rw [← hn.out, Hen.out]
        exact hx
end Go.Proofs.YtjfcemlbbinanaaGreatDoor
