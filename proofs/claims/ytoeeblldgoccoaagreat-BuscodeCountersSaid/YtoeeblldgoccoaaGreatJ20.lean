/-
  The walks over the models, fifth part: a number.
-/
import Derived.Test.YtoeeblldgoccoaaGreatJ11
import Derived.Test.YtoeeblldgoccoaaGreatJ19
import Derived.Test.YtoeeblldgoccoaaGreatShelf
set_option linter.unusedVariables false
set_option linter.unusedSimpArgs false
namespace Go.Proofs.YtoeeblldgoccoaaGreat
open Go.RowKit Go.Proofs Wv Wv.Vi Wv.Rc Wv.Mo
set_option linter.unusedVariables false

theorem blen_half (n : Nat) (h : 0 < n) : blen n = blen (n / 2) + 1 := by
 unfold blen
 rw [if_neg (by omega)]
 by_cases h1 : n / 2 = 0
 ·rw [if_pos h1, Nat.log2_def, if_neg (by omega)]
 ·rw [if_neg h1, Nat.log2_def, if_pos (by omega)]
theorem bitLen_eq (x : Nat) (h : x < 2 ^ 64) : Go.Lib.bitLen x = blen x := by
  have key : ∀ f y, y < 2 ^ f → Go.Lib.bitLenAux f y = blen y := by
    intro f
    induction f with
    | zero => intro y hy; have : y = 0 := by simpa using hy
              subst this; rfl
    | succ f ih =>
      intro y hy
      unfold Go.Lib.bitLenAux
      split
      · rename_i h0; subst h0; rfl
      · rename_i h0
        rw [ih (y / 2) (by rw [Nat.pow_succ] at hy; omega), blen_half y (by omega)]
        omega
  exact key _ x h
theorem blen_any (v : Nat) (h : v ≤ 9223372036854775807) (w : World) :
  Calls Tryz.prog 201 #[.int .u64 (v : Int)] w fun x w' => x = .returned (.int .i64 (blen v : Nat)) ∧ w = w' := by
 refine (Tryz.bits_Len (v : Int) w (by omega) (by omega)).mono ?_
 rintro x w' ⟨rfl, hw⟩
 exact ⟨ret_int (by rw [Int.toNat_natCast, bitLen_eq _ (by omega)]), hw.symm⟩
set_option maxHeartbeats 1000000 in
theorem nenc_any {w : World} {b g eb : Nat} {dv : Value} {t : List Nat} {e : En} (h : NAt w b g t) (ht : TNum t) (he : EnAt w eb dv e) (hv : Val 0 e) (v : Nat) (hv62 : v < 4611686018427387904) (hl : e.out.length ≤ 800000) :
  Calls Tryz.prog 244 #[.pointer (some ⟨b, 0, none⟩), .pointer (some ⟨eb, 0, none⟩), .int .i64 (v : Int)] w fun x w' => x = .returned (.tuple #[]) ∧ NAt w' b g (nenc v (t, e)).1 ∧ ∃ dv', EnAt w' eb dv' (nenc v (t, e)).2 ∧ Fr (efoot g eb dv) w w' ∧ OwnNew w dv dv' := by
 have hb := blen_le hv62
 have Hl := hide (blen_any v (by omega))
 obtain ⟨n, hn⟩ : ∃ n, blen v = n := ⟨_, rfl⟩
 have hne : nenc v (t, e) = ((tenc 6 n 1 t e).1, if 2 ≤ n then edir (n - 1) v (tenc 6 n 1 t e).2 else (tenc 6 n 1 t e).2) := by unfold nenc; rw [hn]
 rw [hn] at Hl hb
 obtain ⟨k1, k2, k3⟩ := tenc_val 6 n 1 ht.1 (by rw [ht.2]; decide) hv
 have Ht := hide (tenc_any h ht he hv n (by omega) hl)
 have hlen : (tenc 6 n 1 t e).2.out.length ≤ e.out.length + 12 := by
  have key : ∀ (j m : Nat) (t : List Nat) (e : En), (tenc j n m t e).2.out.length ≤ e.out.length + 2 * j := by
   intro j
   induction j with
   | zero => intro m t e; exact Nat.le_refl _
   | succ j ih =>
    intro m t e
    rw [tenc]
    have h1 := ih (2 * m + n / 2 ^ j % 2) (t.set m (adapt (t.getD m 0) (n / 2 ^ j % 2))) (ebit (t.getD m 0) (n / 2 ^ j % 2) e)
    have h2 := ebit_len (t.getD m 0) (n / 2 ^ j % 2) e
    omega
  have := key 6 1 t e
  omega
 have hapart := h.foot he
 generalize tenc 6 n 1 t e = D at *
 obtain ⟨t2, e2⟩ := D
 simp only at hne Ht k3 hlen
 have Hne := hide hne
 have h62 : ¬ (4611686018427387903 : Int) < (v : Int) := by omega
 have hc0 : ¬ (v : Int) < 0 := by omega
 clear hne hn k1 k2 h he ht hv hapart
 by_cases h2 : 2 ≤ n
 ·rw [if_pos h2] at Hne
  have hn2 : (2 : Int) ≤ (n : Int) := by omega
  have i1 : (n : Int) - 1 = ((n - 1 : Nat) : Int) := by omega
  obtain ⟨q, hq⟩ : ∃ q, n - 1 = q := ⟨_, rfl⟩
  rw [hq] at i1 Hne
  have hq62 : q ≤ 62 := by omega
  clear hq
  go_enter Tryz.func244, Tryz.ntmps244
  go_wp2_with fail
  refine (Hl.out _).mono ?_
  rintro x w1 ⟨rfl, rfl⟩
  go_wp2_with fail
  refine (Ht.out).mono ?_
  rintro x w1 ⟨rfl, hn1, dv1, he1, hf1, ho1⟩
  have Hd := hide (edirect_any he1 k3 q v hq62 (by omega) (by omega))
  have hs := hf1.size
  have hap := hn1.foot he1
  go_wp2_with fail
  refine (Hd.out).mono ?_
  rintro x w2 ⟨rfl, dv2, he2, hf2, ho2⟩
  go_wp2
  go_end0
  rw [Hne.out]
  exact ⟨rfl, hn1.fr hf2 hap.1 hap.2, dv2, he2, efr_foot hf1 hf2 ho1, ho1.trans ho2 hs⟩
 ·rw [if_neg h2] at Hne
  have hn2 : ¬ (2 : Int) ≤ (n : Int) := by omega
  clear h2
  go_enter Tryz.func244, Tryz.ntmps244
  go_wp2_with fail
  refine (Hl.out _).mono ?_
  rintro x w1 ⟨rfl, rfl⟩
  go_wp2_with fail
  refine (Ht.out).mono ?_
  rintro x w1 ⟨rfl, hn1, dv1, he1, hf1, ho1⟩
  go_wp2
  go_end0
  rw [Hne.out]
  exact ⟨rfl, hn1, dv1, he1, hf1, ho1⟩
theorem or_pow (n x : Nat) (hn : n ≤ 61) (hx : x < 2 ^ n) : bits .or .i64 (IntKind.i64.wrap (2 ^ n)) (x : Int) = ((2 ^ n + x : Nat) : Int) := by
 have h1 : (2 : Nat) ^ n ≤ 2 ^ 61 := Nat.pow_le_pow_right (by omega) hn
 have e : ((2 : Int) ^ n) = ((2 ^ n : Nat) : Int) := by rw [Int.natCast_pow]; rfl
 rw [e, IntWalk.i64_in _ (by omega), or_i64w _ _ (by omega) (by omega), nat_join n _ _ (by rw [Nat.mod_self]) hx]
theorem nval_small {n : Nat} (d : De) (h : n < 2) : nval n d = n := by unfold nval; rw [if_pos h]
theorem nval_none (d : De) : nval 63 d = -1 := rfl
theorem nval_big {n : Nat} (d : De) (h : ¬ n < 2) (h2 : n ≠ 63) : nval n d = ((2 ^ (n - 1) + (ddir (n - 1) 0 d).1 : Nat) : Int) := by unfold nval; rw [if_neg h, if_neg h2]
theorem ndec_eq (t : List Nat) (d : De) (n : Nat) (t2 : List Nat) (d2 : De) (h : tdec 6 1 t d = (n + 64, t2, d2)) :
  ndec t d = (nval n d2, t2, if n < 2 then d2 else if n = 63 then d2 else (ddir (n - 1) 0 d2).2) := by
 unfold ndec
 rw [h]
 simp only [Nat.add_sub_cancel]
set_option maxHeartbeats 1000000 in
theorem ndec_any {w : World} {b g eb : Nat} {t : List Nat} {d : De} (h : NAt w b g t) (ht : TNum t) (he : DAt w eb d) (hv : DV 0 d) :
  Calls Tryz.prog 243 #[.pointer (some ⟨b, 0, none⟩), .pointer (some ⟨eb, 0, none⟩)] w fun x w' => x = .returned (.int .i64 (ndec t d).1) ∧ NAt w' b g (ndec t d).2.1 ∧ DAt w' eb (ndec t d).2.2 ∧ Fr (dfoot g eb) w w' := by
 have Ht := tdec_any h ht he hv
 obtain ⟨k1, k2, k3, k4, k5⟩ := tdec_v 6 1 t d ht.1 (by rw [ht.2]; decide) hv
 have heq := ndec_eq t d
 generalize tdec 6 1 t d = D at *
 obtain ⟨m, t2, d2⟩ := D
 simp only at Ht k3 k4 k5
 obtain ⟨n, rfl⟩ : ∃ n, m = n + 64 := ⟨m - 64, by omega⟩
 have heq := heq n t2 d2 rfl
 rw [Nat.add_sub_cancel] at Ht
 have Ht := hide Ht
 have Heq := hide heq
 have hn64 : n < 64 := by omega
 clear k1 k2 k4 k5 heq h ht he hv
 by_cases h2 : n < 2
 ·have e1 := Heq.out
  rw [if_pos h2, nval_small d2 h2] at e1
  have E := hide e1
  have hz : n = 0 ∨ n = 1 := by omega
  clear e1 h2
  rcases hz with rfl | rfl
  all_goals
   go_enter Tryz.func243, Tryz.ntmps243
   go_wp2_with fail
   refine (Ht.out).mono ?_
   rintro x w1 ⟨rfl, hn1, hd1, hf1⟩
   go_wp2
   go_ret
   rw [E.out]
   exact ⟨rfl, hn1, hd1, hf1⟩
 ·have hb0 : ((n : Int) == 0) = false := by rw [beq_eq_false_iff_ne]; omega
  have hb1 : ((n : Int) == 1) = false := by rw [beq_eq_false_iff_ne]; omega
  by_cases h63 : n = 63
  ·have e1 := Heq.out
   rw [if_neg h2, if_pos h63] at e1
   subst h63
   rw [nval_none] at e1
   have E := hide e1
   clear e1 h2
   go_enter Tryz.func243, Tryz.ntmps243
   go_wp2_with fail
   refine (Ht.out).mono ?_
   rintro x w1 ⟨rfl, hn1, hd1, hf1⟩
   go_wp2
   go_ret
   rw [E.out]
   exact ⟨rfl, hn1, hd1, hf1⟩
  ·have hb63 : ((n : Int) == 63) = false := by rw [beq_eq_false_iff_ne]; omega
   have e1 := Heq.out
   rw [if_neg h2, if_neg h63, nval_big d2 h2 h63] at e1
   have E := hide e1
   obtain ⟨q, hq⟩ : ∃ q, n - 1 = q := ⟨_, rfl⟩
   rw [hq] at E
   have hq61 : q ≤ 61 := by omega
   have i1 : (n : Int) - 1 = (q : Int) := by omega
   have i2 : IntKind.i64.wrap (q : Int) = (q : Int) := by rw [IntWalk.i64_in _ (by omega)]
   have hq0 : 0 ≤ (q : Int) := by omega
   have hx := (ddir_v q 0 d2 k3).2
   rw [Nat.zero_add, Nat.one_mul] at hx
   have hor := or_pow q (ddir q 0 d2).1 hq61 hx
   have Hor := hide hor
   clear e1 h2 h63 hq hx hor
   go_enter Tryz.func243, Tryz.ntmps243
   go_wp2_with fail
   refine (Ht.out).mono ?_
   rintro x w1 ⟨rfl, hn1, hd1, hf1⟩
   have Hd := hide (fun W (hW : DAt W eb d2) => ddirect_any hW k3 q (by omega))
   have hap := hn1.onl hd1
   go_wp2
   go_region_with ((go_at_call 246; refine (Hd.out _ hd1.drew).mono ?_; rintro x w2 ⟨rfl, hd2, hf2⟩))
   all_goals
    go_wp2
    go_ret
    rw [E.out]
    exact ⟨ret_int Hor.out, hn1.drew.fr hf2 hap.1 hap.2, hd2, hf1.drew.trans' hf2 (fun i hi e => .inr e)⟩
end Go.Proofs.YtoeeblldgoccoaaGreat
