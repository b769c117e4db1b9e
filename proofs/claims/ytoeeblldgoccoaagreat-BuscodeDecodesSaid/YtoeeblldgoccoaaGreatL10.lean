/-
  Joined texts: Vf, Qa, Qb, Qc, BioPw1, Sb.
-/
import Derived.Test.YtoeeblldgoccoaaGreatL09
import Derived.Test.YtoeeblldgoccoaaGreatL03
set_option linter.unusedVariables false
set_option linter.unusedSimpArgs false
set_option maxRecDepth 100000
set_option maxHeartbeats 8000000
namespace Go.Proofs.YtoeeblldgoccoaaGreat
open Go.RowKit Go.Proofs Wv Wv.Vi Wv.Ru
def textR (s : ByteArray) (e : Nat) (most : Int) : ByteArray × ByteArray × Nat :=
 if (takeR (numR s e most).2.1 (numR s e most).2.2 ((numR s e most).1 : Nat)).2.2 = 0 then takeR (numR s e most).2.1 (numR s e most).2.2 ((numR s e most).1 : Nat)
 else (bs [], s, (takeR (numR s e most).2.1 (numR s e most).2.2 ((numR s e most).1 : Nat)).2.2)
theorem numR_size {s : ByteArray} {e : Nat} {most : Int} : (numR s e most).2.1.size ≤ s.size := by
 unfold numR
 split
 ·split
  ·exact Nat.le_refl _
  ·split
   ·exact Nat.le_refl _
   ·rw [bs_size, List.length_drop, toL_length]; omega
 ·exact Nat.le_refl _
theorem vtext_any {w : World} {b e : Nat} {s : ByteArray} (h : RV w b s e) (hm : s.size ≤ 1099511627776) (most : Int) :
  Calls Tryz.prog 135 #[.pointer (some ⟨b, 0, none⟩), .int .i64 most] w fun x w' => x = .returned (.string (textR s e most).1) ∧ RV w' b (textR s e most).2.1 (textR s e most).2.2 ∧ Fr (only b) w w' := by
 have h0 := h.c0;have hlt := Bk.lt h;have Hn := hide (vnum_any h hm most);have hsz := numR_size (s := s) (e := e) (most := most)
 have ht : textR s e most = if (takeR (numR s e most).2.1 (numR s e most).2.2 ((numR s e most).1 : Nat)).2.2 = 0 then takeR (numR s e most).2.1 (numR s e most).2.2 ((numR s e most).1 : Nat)
  else (bs [], s, (takeR (numR s e most).2.1 (numR s e most).2.2 ((numR s e most).1 : Nat)).2.2) := rfl
 generalize numR s e most = q at *
 obtain ⟨n, s1, e1⟩ := q
 generalize textR s e most = r at *
 obtain ⟨⟨t, s2, e2⟩, htk⟩ : ∃ x, takeR s1 e1 (n : Int) = x := ⟨_, rfl⟩;simp only at ht Hn hsz;rw [htk] at ht;simp only at ht;have Htk := hide htk;have Hr := hide ht;clear htk ht
 go_enter Tryz.func135, Tryz.ntmps135
 go_wp2_with fail
 refine (Hn.out).mono ?_;rintro x w1 ⟨rfl, hr1, hf1⟩;have Ht := hide (vtake_any hr1 (Nat.le_trans hsz hm) (n : Int));rw [Htk.out] at Ht
 go_wp2_with fail
 refine (Ht.out).mono ?_;rintro x w2 ⟨rfl, hr2, hf2⟩;have g1 := hr2.c1;have g0 := hr2.c0;have p0 := hr2.f0;have hf := hf1.trans hf2
 by_cases he : e2 = 0
 ·subst he
  go_wp2
  go_ret
  rw [Hr.out];exact ⟨rfl, hr2, hf⟩
 ·have hne : ((e2 : Int) != 0) = true := by rw [bne_iff_ne]; omega
  have Hr2 : Hid (r = (bs [], s, e2)) := hide (by rw [Hr.out, if_neg he]);clear he
  go_wp2
  go_ret
  rw [Hr2.out];exact ⟨rfl, by simpa [RV] using Bk.put hr2 0 (.string s), hf.setCell (p := ⟨b, 0, none⟩) (.inl rfl) _⟩
def endR (s : ByteArray) (e : Nat) : Nat := if e = 0 ∧ s.size ≠ 0 then 12 else e
theorem vend_any {w : World} {b e : Nat} {s : ByteArray} (h : RV w b s e) :
  Calls Tryz.prog 134 #[.pointer (some ⟨b, 0, none⟩)] w fun x w' => x = .returned (.int .i64 (endR s e : Nat)) ∧ Fr (only b) w w' := by
 have h0 := h.c0;have h1 := h.c1
 by_cases he : e = 0
 ·subst he
  by_cases hs : s.size = 0
  ·have hr : endR s 0 = 0 := by unfold endR; rw [if_neg (by omega)]
   have hem := emp1 hs;have Hr := hide hr;clear hs hr
   go_enter Tryz.func134, Tryz.ntmps134
   go_wp2
   go_ret
   exact ⟨ret_int (by rw [Hr.out]; rfl), Fr.refl _ _⟩
  ·have hr : endR s 0 = 12 := by unfold endR; rw [if_pos ⟨rfl, hs⟩]
   have hem := emp0 (s := s) (by omega);have Hr := hide hr;have Hf := hide (vfail_any h 12);clear hs hr
   go_enter Tryz.func134, Tryz.ntmps134
   go_wp2_with fail
   refine (Hf.out).mono ?_;rintro x w2 ⟨rfl, hr2, hf2⟩;have g1 := hr2.c1
   go_wp2
   go_ret
   exact ⟨ret_int (by rw [Hr.out]; rfl), hf2⟩
 ·have hr : endR s e = e := by unfold endR; rw [if_neg (by omega)]
  have hne : ((e : Int) == 0) = false := by rw [beq_eq_false_iff_ne]; omega
  have Hr := hide hr;clear hr he
  go_enter Tryz.func134, Tryz.ntmps134
  go_wp2
  go_ret
  exact ⟨ret_int (by rw [Hr.out]), Fr.refl _ _⟩
end Go.Proofs.YtoeeblldgoccoaaGreat
namespace Go.Proofs.YtoeeblldgoccoaaGreat
open Go.RowKit Go.Proofs Wv Wv.Vi Wv.Bc
def cdI (c : UInt8) : Int := if cd c < 4 then (cd c : Int) else -1
theorem chars_get : (∀ h : 0 < (⟨#[48, 49, 120, 122]⟩ : ByteArray).size, ((⟨#[48, 49, 120, 122]⟩ : ByteArray)[0]'h).toNat = 48) ∧ (∀ h : 1 < (⟨#[48, 49, 120, 122]⟩ : ByteArray).size, ((⟨#[48, 49, 120, 122]⟩ : ByteArray)[1]'h).toNat = 49) ∧
  (∀ h : 2 < (⟨#[48, 49, 120, 122]⟩ : ByteArray).size, ((⟨#[48, 49, 120, 122]⟩ : ByteArray)[2]'h).toNat = 120) ∧ (∀ h : 3 < (⟨#[48, 49, 120, 122]⟩ : ByteArray).size, ((⟨#[48, 49, 120, 122]⟩ : ByteArray)[3]'h).toNat = 122) := ⟨fun _ => rfl, fun _ => rfl, fun _ => rfl, fun _ => rfl⟩
theorem cdI_of {c : UInt8} : (c.toNat = 48 → cdI c = 0) ∧ (c.toNat = 49 → cdI c = 1) ∧ (c.toNat = 120 → cdI c = 2) ∧ (c.toNat = 122 → cdI c = 3) ∧ (c.toNat ≠ 48 → c.toNat ≠ 49 → c.toNat ≠ 120 → c.toNat ≠ 122 → cdI c = -1) := by
 have e : ∀ k : UInt8, c.toNat = k.toNat → c = k := fun k h => UInt8.toNat_inj.1 h
 refine ⟨fun h => by rw [e 48 h]; rfl, fun h => by rw [e 49 h]; rfl, fun h => by rw [e 120 h]; rfl, fun h => by rw [e 122 h]; rfl, fun h0 h1 h2 h3 => ?_⟩
 rcases cd_cases c with ⟨rfl, h⟩ | ⟨rfl, h⟩ | ⟨rfl, h⟩ | ⟨rfl, h⟩ | ⟨_, _, _, _, h⟩
 ·exact absurd rfl h0
 ·exact absurd rfl h1
 ·exact absurd rfl h2
 ·exact absurd rfl h3
 ·unfold cdI; rw [h]; rfl
theorem code_any (c : UInt8) (w : World) : Calls Tryz.prog 100 #[.int .u8 (c.toNat : Int)] w fun x w' => x = .returned (.int .i64 (cdI c)) ∧ w = w' := by
 obtain ⟨f0, f1, f2, f3, f4⟩ := cdI_of (c := c);obtain ⟨g0, g1, g2, g3⟩ := chars_get;obtain ⟨R, hR⟩ : ∃ R, cdI c = R := ⟨_, rfl⟩;rw [hR] at f0 f1 f2 f3 f4 ⊢;obtain ⟨C, hC⟩ : ∃ C, c.toNat = C := ⟨_, rfl⟩;rw [hC] at f0 f1 f2 f3 f4 ⊢;have F0 := hide f0;have F1 := hide f1;have F2 := hide f2;have F3 := hide f3;have F4 := hide f4;clear hR hC f0 f1 f2 f3 f4
 go_enter Tryz.func100, Tryz.ntmps100
 go_wp2
 go_loopw [4] (fun s4 wr => ∃ i : Nat, i ≤ 4 ∧ s4 = .int .i64 (i : Int) ∧ Hid ((0 < i → C ≠ 48) ∧ (1 < i → C ≠ 49) ∧ (2 < i → C ≠ 120) ∧ (3 < i → C ≠ 122)) ∧ wr = w) (fun s4 _ => (4 - intOf s4).toNat)
 case atStart => exact ⟨0, by omega, rfl, hide ⟨fun h => by omega, fun h => by omega, fun h => by omega, fun h => by omega⟩, rfl⟩
 case round =>
  obtain ⟨i, hi, rfl, hno, rfl⟩ := hrel
  rcases (show i = 0 ∨ i = 1 ∨ i = 2 ∨ i = 3 ∨ i = 4 by omega) with rfl | rfl | rfl | rfl | rfl
  ·by_cases hc : C = 48
   ·have hR := F0.out hc
    subst hc
    go_wp2
    go_returns
    exact ⟨by first | rfl | (rw [hR]; rfl), rfl⟩
   ·have hb : ((48 : Int) == (C : Int)) = false := by rw [beq_eq_false_iff_ne]; omega
    go_wp2
    refine ⟨⟨1, by omega, rfl, hide ⟨fun _ => hc, fun h => by omega, fun h => by omega, fun h => by omega⟩, by first | rfl | trivial⟩, ?_⟩
    simp [intOf]
  ·by_cases hc : C = 49
   ·have hR := F1.out hc
    subst hc
    go_wp2
    go_returns
    exact ⟨by first | rfl | (rw [hR]; rfl), rfl⟩
   ·have hb : ((49 : Int) == (C : Int)) = false := by rw [beq_eq_false_iff_ne]; omega
    have hn := hno.out
    go_wp2
    refine ⟨⟨2, by omega, rfl, hide ⟨fun _ => hn.1 (by omega), fun _ => hc, fun h => by omega, fun h => by omega⟩, by first | rfl | trivial⟩, ?_⟩
    simp [intOf]
  ·by_cases hc : C = 120
   ·have hR := F2.out hc
    subst hc
    go_wp2
    go_returns
    exact ⟨by first | rfl | (rw [hR]; rfl), rfl⟩
   ·have hb : ((120 : Int) == (C : Int)) = false := by rw [beq_eq_false_iff_ne]; omega
    have hn := hno.out
    go_wp2
    refine ⟨⟨3, by omega, rfl, hide ⟨fun _ => hn.1 (by omega), fun _ => hn.2.1 (by omega), fun _ => hc, fun h => by omega⟩, by first | rfl | trivial⟩, ?_⟩
    simp [intOf]
  ·by_cases hc : C = 122
   ·have hR := F3.out hc
    subst hc
    go_wp2
    go_returns
    exact ⟨by first | rfl | (rw [hR]; rfl), rfl⟩
   ·have hb : ((122 : Int) == (C : Int)) = false := by rw [beq_eq_false_iff_ne]; omega
    have hn := hno.out
    go_wp2
    refine ⟨⟨4, by omega, rfl, hide ⟨fun _ => hn.1 (by omega), fun _ => hn.2.1 (by omega), fun _ => hn.2.2.1 (by omega), fun _ => hc⟩, by first | rfl | trivial⟩, ?_⟩
    simp [intOf]
  ·have hn := hno.out
   have hR := F4.out (hn.1 (by omega)) (hn.2.1 (by omega)) (hn.2.2.1 (by omega)) (hn.2.2.2 (by omega))
   go_wp2
   go_returns
   exact ⟨by first | rfl | (rw [hR]; rfl), rfl⟩
theorem char_any (n : Nat) (hn : n < 4) (w : World) : Calls Tryz.prog 133 #[.int .i64 (n : Int)] w fun x w' => x = .returned (.tuple #[.int .u8 ((ch n).toNat : Int), .bool true]) ∧ w = w' := by
 rcases (show n = 0 ∨ n = 1 ∨ n = 2 ∨ n = 3 by omega) with rfl | rfl | rfl | rfl
 all_goals
  go_enter Tryz.func133, Tryz.ntmps133
  go_wp2
  go_returns
  exact ⟨rfl, rfl⟩
def cdK (c : UInt8) : Nat := if cd c < 4 then cd c else 2
theorem cdK_lt (c : UInt8) : cdK c < 4 := by unfold cdK; split <;> omega
theorem known_any (c : UInt8) (w : World) : Calls Tryz.prog 139 #[.int .u8 (c.toNat : Int)] w fun x w' => x = .returned (.int .i64 (cdK c : Int)) ∧ w = w' := by
 have H := hide (code_any c w);unfold cdI cdK at *
 by_cases h : cd c < 4
 ·rw [if_pos h] at H ⊢
  generalize (c.toNat : Int) = C at *
  generalize cd c = k at *
  have h0 : (0 : Int) ≤ (k : Int) := by omega
  go_enter Tryz.func139, Tryz.ntmps139
  go_wp2_with fail
  refine (H.out).mono ?_;rintro x w1 ⟨rfl, rfl⟩
  go_wp2
  go_returns
  exact ⟨rfl, rfl⟩
 ·rw [if_neg h] at H ⊢
  generalize (c.toNat : Int) = C at *
  clear h
  go_enter Tryz.func139, Tryz.ntmps139
  go_wp2_with fail
  refine (H.out).mono ?_;rintro x w1 ⟨rfl, rfl⟩
  go_wp2
  go_returns
  exact ⟨rfl, rfl⟩
theorem valid1_any (c : UInt8) (w : World) : Calls Tryz.prog 146 #[.int .u8 (c.toNat : Int)] w fun x w' => x = .returned (.bool (isC c)) ∧ w = w' := by
 have H := hide (code_any c w)
 have h : decide (0 ≤ cdI c) = isC c := by
  unfold cdI isC
  by_cases h : cd c < 4
  ·rw [if_pos h]; simp [h]
  ·rw [if_neg h]; simp [h]
 generalize (c.toNat : Int) = C at *
 generalize cdI c = k at *
 go_enter Tryz.func146, Tryz.ntmps146
 go_wp2_with fail
 refine (H.out).mono ?_;rintro x w1 ⟨rfl, rfl⟩
 go_wp2
 go_returns
 exact ⟨by first | rfl | (rw [h]), rfl⟩
def invC (c : UInt8) : UInt8 := ch (if cdK c < 2 then 1 - cdK c else cdK c)
theorem run_inv0 (w : World) : (Instr.index 158 (.agg #[.int .u8 49, .int .u8 48, .int .u8 120, .int .u8 122]) (.int .i64 0)).run Tryz.prog w = .ok (.int .u8 49) w := by kernel_rfl
theorem run_inv1 (w : World) : (Instr.index 158 (.agg #[.int .u8 49, .int .u8 48, .int .u8 120, .int .u8 122]) (.int .i64 1)).run Tryz.prog w = .ok (.int .u8 48) w := by kernel_rfl
theorem run_inv2 (w : World) : (Instr.index 158 (.agg #[.int .u8 49, .int .u8 48, .int .u8 120, .int .u8 122]) (.int .i64 2)).run Tryz.prog w = .ok (.int .u8 120) w := by kernel_rfl
theorem run_inv3 (w : World) : (Instr.index 158 (.agg #[.int .u8 49, .int .u8 48, .int .u8 120, .int .u8 122]) (.int .i64 3)).run Tryz.prog w = .ok (.int .u8 122) w := by kernel_rfl
theorem inverse_any (c : UInt8) (w : World) : Calls Tryz.prog 95 #[.int .u8 (c.toNat : Int)] w fun x w' => x = .returned (.int .u8 ((invC c).toNat : Int)) ∧ w = w' := by
 have H := hide (known_any c w);have hk := cdK_lt c;unfold invC
 generalize (c.toNat : Int) = C at *
 generalize cdK c = k at *
 have r0 := run_inv0 w;have r1 := run_inv1 w;have r2 := run_inv2 w;have r3 := run_inv3 w
 rcases (show k = 0 ∨ k = 1 ∨ k = 2 ∨ k = 3 by omega) with rfl | rfl | rfl | rfl
 all_goals
  go_enter Tryz.func95, Tryz.ntmps95
  go_wp2_with fail
  refine (H.out).mono ?_;rintro x w1 ⟨rfl, rfl⟩
  go_wp2
  go_returns
  exact ⟨rfl, rfl⟩
def cn (k : Nat) (v : List UInt8) : Nat := (v.filter (fun c => cd c == k)).length
theorem cn_snoc (k : Nat) (v : List UInt8) (c : UInt8) : cn k (v ++ [c]) = cn k v + if cd c = k then 1 else 0 := by
 unfold cn;rw [List.filter_append, List.length_append]
 congr 1
 by_cases h : cd c = k
 ·rw [if_pos h]; simp [h]
 ·rw [if_neg h]; simp [h]
theorem cn_le (k : Nat) (v : List UInt8) : cn k v ≤ v.length := List.length_filter_le _ _
theorem cn_sum (v : List UInt8) : cn 0 v + cn 1 v + cn 2 v + cn 3 v ≤ v.length ∧ (cn 0 v + cn 1 v + cn 2 v + cn 3 v = v.length ↔ ∀ c ∈ v, cd c < 4) ∧ (cn 0 v + cn 1 v = v.length ↔ ∀ c ∈ v, cd c < 2) ∧ ((∀ c ∈ v, cd c < 4) → (cn 2 v + cn 3 v = 0 ↔ ∀ c ∈ v, cd c < 2)) := by
 induction v with
 | nil => simp [cn]
 | cons a r ih =>
  have key : ∀ k, cn k (a :: r) = cn k r + if cd a = k then 1 else 0 := fun k => by
   unfold cn
   by_cases h : cd a = k
   ·rw [if_pos h, List.filter_cons_of_pos (by simp [h])]; rfl
   ·rw [if_neg h, List.filter_cons_of_neg (by simp [h])]; rfl
  obtain ⟨i1, i2, i3, i4⟩ := ih;have hle := cd_le a;simp only [key, List.length_cons, List.forall_mem_cons]
  rcases (show cd a = 0 ∨ cd a = 1 ∨ cd a = 2 ∨ cd a = 3 ∨ cd a = 4 by omega) with h | h | h | h | h
  all_goals
   simp only [h];refine ⟨by simp <;> omega, ⟨fun h1 => ?_, fun h1 => ?_⟩, ⟨fun h1 => ?_, fun h1 => ?_⟩, fun h0 => ⟨fun h1 => ?_, fun h1 => ?_⟩⟩
  all_goals simp at *
  all_goals first
   | omega
   | (refine i2.1 ?_; omega)
   | (have := i2.2 h1; omega)
   | (refine i3.1 ?_; omega)
   | (have := i3.2 h1; omega)
   | (exact (i4 h0).1 h1)
   | (exact (i4 h0).2 h1)
   | skip
theorem bs_get (v : List UInt8) (i : Nat) (h : i < v.length) (h2 : i < (bs v).size) : ((bs v)[i]'h2) = v[i]'h := by simp [bs]; rfl
def cnA (v : List UInt8) : Array Value := #[.int .i64 (cn 0 v : Int), .int .i64 (cn 1 v : Int), .int .i64 (cn 2 v : Int), .int .i64 (cn 3 v : Int)]
theorem cnA_step (v : List UInt8) (c : UInt8) (k : Nat) (hk : cd c = k) (h : k < 4) : (cnA v).setIfInBounds k (.int .i64 ((cn k v : Int) + 1)) = cnA (v ++ [c]) := by
 unfold cnA;simp only [cn_snoc, hk]
 rcases (show k = 0 ∨ k = 1 ∨ k = 2 ∨ k = 3 by omega) with rfl | rfl | rfl | rfl <;> simp
theorem cnA_same (v : List UInt8) (c : UInt8) (h : ¬ cd c < 4) : cnA (v ++ [c]) = cnA v := by
 unfold cnA;simp only [cn_snoc];rw [if_neg (by omega), if_neg (by omega), if_neg (by omega), if_neg (by omega)];rfl
theorem count_any (v : List UInt8) (hv : v.length ≤ 1099511627776) (w : World) :
  Calls Tryz.prog 93 #[.string (bs v)] w fun x w' => x = .returned (.agg (cnA v)) ∧ Below w.heap.size w w' := by
 have hsz : (bs v).size = v.length := bs_size v;have hb0 := hide (((Below.refl w.heap.size w).alloc (Nat.le_refl _) (.cells #[.int .i64 0, .int .i64 0, .int .i64 0, .int .i64 0] 76)).alloc (by simp) (.cells #[.int .i64 0, .int .i64 0, .int .i64 0, .int .i64 0] 76));have hk0 := hide ((Bk.new w 76 #[.int .i64 0, .int .i64 0, .int .i64 0, .int .i64 0]).alloc (.cells #[.int .i64 0, .int .i64 0, .int .i64 0, .int .i64 0] 76));have hk1 := Bk.new (w.alloc (.cells #[.int .i64 0, .int .i64 0, .int .i64 0, .int .i64 0] 76)) 76 #[.int .i64 0, .int .i64 0, .int .i64 0, .int .i64 0];rw [World.size_alloc] at hk1;have hk1' := hide hk1;have Hget : Hid (∀ (i : Nat) (h : i < v.length) (h2 : i < (bs v).size), (bs v)[i]'h2 = v[i]'h) := hide (fun i h h2 => bs_get v i h h2);obtain ⟨n, hn⟩ : ∃ n, v.length = n := ⟨_, rfl⟩;obtain ⟨S, hS⟩ : ∃ S, bs v = S := ⟨_, rfl⟩;rw [hS] at hsz Hget ⊢;rw [hn] at hsz hv;have Hn := hide hn;have Hsz := hide hsz;clear hn hS hk1 hsz
 go_enter Tryz.func93, Tryz.ntmps93
 go_wp2
 rw [Hsz.out]
 go_loopw [8] (fun s8 wr => ∃ i : Nat, i ≤ n ∧ s8 = .int .i64 (i : Int) ∧ Hid (Bk wr w.heap.size 76 #[.int .i64 0, .int .i64 0, .int .i64 0, .int .i64 0]) ∧ Hid (Bk wr (w.heap.size + 1) 76 (cnA (v.take i))) ∧ Hid (Below w.heap.size w wr)) (fun s8 _ => (n - intOf s8).toNat)
 case atStart => exact ⟨0, Nat.zero_le _, rfl, hk0, hk1', hb0⟩
 case round =>
  clear hk0 hk1' hb0;obtain ⟨i, hi, rfl, hka, hkb, hb⟩ := hrel
  by_cases hlt : i < n
  ·have hil : i < v.length := by rw [Hn.out]; exact hlt
   have hiS : i < S.size := by rw [Hsz.out]; exact hlt
   have hg0 := Hget.out i hil;have htk : v.take (i + 1) = v.take i ++ [v[i]] := List.take_succ_eq_append_getElem hil;obtain ⟨c, hc⟩ : ∃ c, v[i] = c := ⟨_, rfl⟩;rw [hc] at hg0 htk
   have hget : ∀ h : i < S.size, (S[i]'h).toNat = c.toNat := fun h => by rw [hg0 h]
   have hlti : (i : Int) < (n : Int) := by omega
   have hlti0 : (0 : Int) ≤ (i : Int) := by omega
   have hcl : cn 0 (v.take i) ≤ i ∧ cn 1 (v.take i) ≤ i ∧ cn 2 (v.take i) ≤ i ∧ cn 3 (v.take i) ≤ i := by
    have hl : (v.take i).length ≤ i := by rw [List.length_take]; omega
    exact ⟨Nat.le_trans (cn_le _ _) hl, Nat.le_trans (cn_le _ _) hl, Nat.le_trans (cn_le _ _) hl, Nat.le_trans (cn_le _ _) hl⟩
   obtain ⟨hc0, hc1, hc2, hc3⟩ := hcl;have Hco := hide (code_any c wr);unfold cdI at Hco;have hu0 := hkb.out.cell 0;have hu1 := hkb.out.cell 1;have hu2 := hkb.out.cell 2;have hu3 := hkb.out.cell 3;have f0 := hkb.out.frozen 0;have f1 := hkb.out.frozen 1;have f2 := hkb.out.frozen 2;have f3 := hkb.out.frozen 3;unfold cnA at hu0 hu1 hu2 hu3;simp only [List.getElem?_toArray, List.getElem?_cons_zero, List.getElem?_cons_succ] at hu0 hu1 hu2 hu3;have Hput := hide (fun k (h : cd c = k) (h4 : k < 4) => (by rw [htk, ← cnA_step _ c k h h4]; exact Bk.put hkb.out k (.int .i64 ((cn k (v.take i) : Int) + 1)) : Bk (wr.setCell ⟨w.heap.size + 1, k, none⟩ (.int .i64 ((cn k (v.take i) : Int) + 1))) (w.heap.size + 1) 76 (cnA (v.take (i + 1)))));have Hsame := hide (fun (h : ¬ cd c < 4) => (by rw [htk, cnA_same _ c h]; exact hkb.out : Bk wr (w.heap.size + 1) 76 (cnA (v.take (i + 1)))));have Hoff := hide (fun k (u : Value) => Bk.off hka.out (p := ⟨w.heap.size + 1, k, none⟩) (by simp) u);have Hbs := hide (fun k (u : Value) => hb.out.setCell (p := ⟨w.heap.size + 1, k, none⟩) (by simp) u);have hle := cd_le c;obtain ⟨CN, hCN⟩ : ∃ f : Nat → Nat, (fun k => cn k (v.take i)) = f := ⟨_, rfl⟩
   have hck : ∀ k, cn k (v.take i) = CN k := fun k => congrFun hCN k
   simp only [hck] at Hput hu0 hu1 hu2 hu3 hc0 hc1 hc2 hc3;clear hil hg0 htk hc hCN hck
   by_cases h4 : cd c < 4
   ·rw [if_pos h4] at Hco
    clear Hsame;obtain ⟨k, hk⟩ : ∃ k, cd c = k := ⟨_, rfl⟩;rw [hk] at Hco h4;have hks := hide (Hput.out k hk h4);have hka2 := hide (fun u => Hoff.out k u);have hb2 := hide (fun u => Hbs.out k u);clear Hput Hoff Hbs hle hk
    rcases (show k = 0 ∨ k = 1 ∨ k = 2 ∨ k = 3 by omega) with rfl | rfl | rfl | rfl
    all_goals
     clear h4
     go_wp2_with fail
     refine (Hco.out).mono ?_;rintro x w1 ⟨rfl, rfl⟩
     go_wp2
     refine ⟨⟨i + 1, hlt, by go_num, hide (hka2.out _), hks, hide (hb2.out _)⟩, ?_⟩
     simp [intOf] <;> omega
   ·rw [if_neg h4] at Hco
    have hks := hide (Hsame.out h4);clear Hput Hsame Hoff Hbs h4 hu0 hu1 hu2 hu3 f0 f1 f2 f3 hle
    go_wp2_with fail
    refine (Hco.out).mono ?_;rintro x w1 ⟨rfl, rfl⟩
    go_wp2
    refine ⟨⟨i + 1, hlt, by go_num, hka, hks, hb⟩, ?_⟩
    simp [intOf] <;> omega
  ·have hin : i = n := by omega
   subst hin;have htk : v.take i = v := List.take_of_length_le (by rw [Hn.out]; exact Nat.le_refl _);have hkb2 := hkb.out;rw [htk] at hkb2;have hu0 := hkb2.cell 0;have hu1 := hkb2.cell 1;have hu2 := hkb2.cell 2;have hu3 := hkb2.cell 3;have hr0 := hka.out.frozen 0;have hr1 := hka.out.frozen 1;have hr2 := hka.out.frozen 2;have hr3 := hka.out.frozen 3;have hv0 := hka.out.cell 0;have hv1 := hka.out.cell 1;have hv2 := hka.out.cell 2;have hv3 := hka.out.cell 3;unfold cnA at hu0 hu1 hu2 hu3;simp only [List.getElem?_toArray, List.getElem?_cons_zero, List.getElem?_cons_succ] at hu0 hu1 hu2 hu3 hv0 hv1 hv2 hv3;have hcn : cnA v = #[.int .i64 (cn 0 v : Int), .int .i64 (cn 1 v : Int), .int .i64 (cn 2 v : Int), .int .i64 (cn 3 v : Int)] := rfl;have hCN := hide hcn;clear hcn
   generalize cn 0 v = n0 at *
   generalize cn 1 v = n1 at *
   generalize cn 2 v = n2 at *
   generalize cn 3 v = n3 at *
   clear htk hkb2;have hF := hide ((((hka.out.put 0 (.int .i64 (n0 : Int))).put 1 (.int .i64 (n1 : Int))).put 2 (.int .i64 (n2 : Int))).put 3 (.int .i64 (n3 : Int)));have hbF := hide ((((hb.out.setCell (p := ⟨w.heap.size, 0, none⟩) (Nat.le_refl _) (.int .i64 (n0 : Int))).setCell (p := ⟨w.heap.size, 1, none⟩) (Nat.le_refl _) (.int .i64 (n1 : Int))).setCell (p := ⟨w.heap.size, 2, none⟩) (Nat.le_refl _) (.int .i64 (n2 : Int))).setCell (p := ⟨w.heap.size, 3, none⟩) (Nat.le_refl _) (.int .i64 (n3 : Int)))
   go_wp2
   have z0 := hF.out.cell 0;have z1 := hF.out.cell 1;have z2 := hF.out.cell 2;have z3 := hF.out.cell 3
   simp at z0 z1 z2 z3
   generalize ((((wr.setCell ⟨w.heap.size, 0, none⟩ (.int .i64 (n0 : Int))).setCell ⟨w.heap.size, 1, none⟩ (.int .i64 (n1 : Int))).setCell ⟨w.heap.size, 2, none⟩ (.int .i64 (n2 : Int))).setCell ⟨w.heap.size, 3, none⟩ (.int .i64 (n3 : Int))) = WF at *
   refine bodyPost_ret (v := .agg #[.int .i64 (n0 : Int), .int .i64 (n1 : Int), .int .i64 (n2 : Int), .int .i64 (n3 : Int)]) (by simp [results, Tryz.results93, go_sem, z0, z1, z2, z3]; try rfl) rfl ?_;exact ⟨by rw [hCN.out], hbF.out⟩
end Go.Proofs.YtoeeblldgoccoaaGreat
namespace Go.Proofs.YtoeeblldgoccoaaGreat.Bio
open Go.RowKit Go.Proofs Wv Wv.Bit
theorem u8inf : (Tryz.prog.info? 5).map (fun i => (i.zero, i.size, i.bytes)) = some (some (.int .u8 0), 1, 1) := by kernel_rfl
def WrAt (w : World) (b : Nat) (dv : Value) (l : List Bool) : Prop :=
 Bk w b 160 #[dv, .int .i64 (l.length : Int)] ∧ w.ownsRow 0 5 1 dv (pack l).length ((pack l).map bv)
def OwnNew (w : World) (dv dv' : Value) : Prop := dv'.ownBlock = dv.ownBlock ∨ ∀ g, dv'.ownBlock = some g → w.heap.size ≤ g
def WrRoom (W : World) (b g cap M : Nat) (l : List Bool) : Prop :=
 Bk W b 160 #[.slice (some ⟨g, 0, none⟩) M cap, .int .i64 (l.length : Int)] ∧ W.ownsRow 0 5 1 (.slice (some ⟨g, 0, none⟩) M cap) M ((room l).map bv)
theorem put_any {b : Nat} {dv : Value} {l : List Bool} {w : World} (h : WrAt w b dv l) (c v : Int) (h0 : 0 ≤ c) (hc : c ≤ 63) (hv : 0 ≤ v) (hv2 : v ≤ 9223372036854775807) (hl : l.length + c.toNat ≤ 1000000) :
  Calls Tryz.prog 142 #[.pointer (some ⟨b, 0, none⟩), .int .i64 c, .int .i64 v] w fun e w' => e = .returned (.tuple #[]) ∧
   ∃ dv', WrAt w' b dv' (l ++ num c.toNat v.toNat) ∧ Fr (foot b dv) w w' ∧ OwnNew w dv dv' := by
 obtain ⟨c, rfl⟩ := Int.eq_ofNat_of_zero_le h0;obtain ⟨v, rfl⟩ := Int.eq_ofNat_of_zero_le hv;rw [Int.toNat_natCast] at hl;rw [Int.toNat_natCast, Int.toNat_natCast];obtain ⟨i0, hi, hz0, hz1, hz2⟩ := info_parts u8inf;have ha := and1
 go_enter Tryz.func142, Tryz.ntmps142
 go_wp2
 go_loopw [6] (fun i wr => ∃ (j : Nat) (dr : Value), j ≤ c ∧ i = .int .i64 ((j : Int) - 1) ∧ WrAt wr b dr (l ++ num (c - j) (v / 2 ^ j)) ∧ Fr (foot b dv) w wr ∧ OwnNew w dv dr) (fun i _ => (intOf i + 1).toNat)
 case atStart => exact ⟨c, dv, by omega, rfl, by rw [Nat.sub_self]; simpa [num] using h, Fr.refl _ _, .inl rfl⟩
 case round =>
  obtain ⟨j, dr, hj, rfl, hw, hf, hon⟩ := hrel
  by_cases hlt : 0 < j
  ·have hlen : (l ++ num (c - j) (v / 2 ^ j)).length = l.length + (c - j) := by rw [List.length_append, num_length]
   have hnext : l ++ num (c - (j - 1)) (v / 2 ^ (j - 1)) = (l ++ num (c - j) (v / 2 ^ j)) ++ [v.testBit (j - 1)] := by rw [List.append_assoc, num_grow' c v j hlt hj]
   have Hnext := hide hnext
   generalize l ++ num (c - j) (v / 2 ^ j) = L at *
   obtain ⟨hbk, hown⟩ := hw;have g0 := hbk.cell 0;have g1 := hbk.cell 1;have f0 := hbk.frozen 0;have f1 := hbk.frozen 1
   simp at g0 g1
   have hN : L.length ≤ 1000000 := by omega
   have hpl := pack_length L;have Hown := hide hown;have Hbk := hide hbk;clear hnext hlen hown hbk hpl
   by_cases h8 : L.length % 8 = 0
   ·have e8 : (((L.length : Int) % 8) == 0) = true := by rw [beq_iff_eq]; omega
    have hpl := pack_length L
    have hp1 : (pack L).length + 1 ≤ maxLen := by unfold maxLen; omega
    have hp2 : ((pack L).length + 1) * 1 ≤ 140737488355328 := by omega
    clear hpl;have H8 := hide h8;clear h8
    go_wp2_with (
     at_builtin
     refine wpList_append_own_at _ rfl (.tmp 23) (.tmp 24) _ rfl 0 5 i0 (.int .u8 0) 1 1 Tryz.underlying42 hi hz0 hz1 hz2 rfl (by omega) dr (pack L).length ((pack L).map bv) (by rfl) (Hown.out.alloc _) ⟨wr.heap.size, 0, none⟩ 1 1 [.int .u8 0] (by rfl) rfl (news_one _ _ _) (by simp [Value.oneCell']) hp1 hp2 (Nat.zero_le _) ?_;intro v' w1 hown1 hg1 _ hat;obtain ⟨g, cap, rfl, hcap⟩ := own_form hown1 (by omega);have hbk1 := (Hbk.out.alloc _).grown hg1 (fun e => own_apart Hown.out Hbk.out (by decide) e.symm);have q0 := hbk1.cell 0;have q1 := hbk1.cell 1;have p0 := hbk1.frozen 0;have p1 := hbk1.frozen 1
     simp at q0 q1
     have Hown1 := hide hown1;have Hbk1 := hide hbk1
     clear hown1 hbk1)
    have hR : WrRoom (w1.setCell ⟨b, 0, none⟩ (.slice (some ⟨g, 0, none⟩) ((pack L).length + 1) cap)) b g cap ((pack L).length + 1) L := by
     refine ⟨?_, ?_⟩
     ·have := Hbk1.out.put 0 (.slice (some ⟨g, 0, none⟩) ((pack L).length + 1) cap)
      simpa using this
     ·have e1 : room L = pack L ++ [0] := by rw [room, if_pos H8.out]
      have e2 : ((pack L).map bv ++ [.int .u8 0]) = (room L).map bv := by rw [e1, List.map_append]; rfl
      have := Hown1.out;rw [e2] at this;refine own_off this (fun e => own_apart Hown1.out Hbk1.out (by decide) e) _
    have hM : (pack L).length + 1 = (room L).length := by rw [room, if_pos H8.out]; simp
    rw [hM] at hR hcap ⊢
    have hf2 : Fr (foot b dv) w (w1.setCell ⟨b, 0, none⟩ (.slice (some ⟨g, 0, none⟩) (room L).length cap)) := by
     refine ((hf.alloc _).grown hg1 (fun k hk => ?_)).setCell (p := ⟨b, 0, none⟩) (.inl (.inl rfl)) _
     rcases hon with h1 | h1
     ·exact .inl (.inr (h1 ▸ hk))
     ·exact .inr (h1 k hk)
    have hon2 : OwnNew w dv (.slice (some ⟨g, 0, none⟩) (room L).length cap) := by
     rcases hat with h1 | h1
     ·rcases hon with h2 | h2
      ·exact .inl (h1.trans h2)
      ·exact .inr (fun k hk => h2 k (h1 ▸ hk))
     ·refine .inr (fun k hk => ?_)
      have h3 : (w.heap.size) ≤ wr.heap.size := hf.size;have h4 : some k = some (wr.alloc (.cells #[.int .u8 0] 5)).heap.size := hk.symm.trans h1
      injection h4 with h4
      rw [h4]; simp; omega
    generalize w1.setCell ⟨b, 0, none⟩ (.slice (some ⟨g, 0, none⟩) (room L).length cap) = W at *
    clear Hbk1 Hown1 hM q0 q1 p0 p1 g0 g1 f0 f1 hat hg1 hp1 hp2 hon hf;have hw2 := hR;obtain ⟨hbk2, hown2⟩ := hR;have q0 := hbk2.cell 0;have q1 := hbk2.cell 1;have p1 := hbk2.frozen 1
    simp at q0 q1
    have hML := room_length L
    have hz3 : L.length / 8 < (room L).length := by omega
    have hold := own_cell hown2 (L.length / 8) (.int .u8 (byteAt L (L.length / 8) : Nat)) (by
     rw [List.getElem?_map, List.getElem?_eq_getElem hz3, room_getElem];simp only [Option.map_some, bv]
     congr 2
     have := byteAt_lt L (L.length / 8)
     simp [Nat.mod_eq_of_lt this])
    obtain ⟨o1, o2⟩ := hold;have hbl := byteAt_lt L (L.length / 8);have hlow := byteAt_low L;have Hsn := hide (pack_snoc L (v.testBit (j - 1)));obtain ⟨z, hz⟩ : ∃ z, L.length / 8 = z := ⟨_, rfl⟩;obtain ⟨m, hm⟩ : ∃ m, L.length % 8 = m := ⟨_, rfl⟩;obtain ⟨d, hd⟩ : ∃ d, 7 - m = d := ⟨_, rfl⟩
    have i3 : IntKind.i64.wrap ((L.length : Int) / 8) = (z : Int) := by rw [IntWalk.i64_in _ (by omega)]; omega
    have i4 : IntKind.i64.wrap ((L.length : Int) % 8) = (m : Int) := by rw [IntWalk.i64_in _ (by omega)]; omega
    have i5 : IntKind.i64.wrap (7 - (m : Int)) = (d : Int) := by rw [IntWalk.i64_in _ (by omega)]; omega
    rw [hz] at hz3 o1 o2 hbl hlow Hsn;rw [hm] at hlow Hsn;rw [show 8 - m = d + 1 from by omega] at hlow;rw [hd] at Hsn
    have hjc : j - 1 ≤ 64 := by omega
    obtain ⟨old, hold2⟩ : ∃ old, byteAt L z = old := ⟨_, rfl⟩;rw [hold2] at o1 hbl hlow Hsn
    have i6 : (z : Int) < ((room L).length : Int) := by omega
    have i7 : (0 : Int) ≤ (z : Int) := by omega
    have d8 : d < 8 := by omega
    have Hlow := hide hlow;have Hx := hide (put_arith old v (j - 1) L.length hbl (by rw [hm, hd]; exact hlow));have Hw2 := hide hw2;have Hf2 := hide hf2;have Hon2 := hide hon2
    have hgb := hide (show (b : Nat) ≠ g from fun e => by
     have := own_apart hown2 hbk2 (by decide)
     simp [Value.ownBlock, e] at this)
    have Hd := hide (show 7 - L.length % 8 = d from by omega)
    have Hlt := hide (show old + (v.testBit (j - 1)).toNat * 2 ^ (7 - L.length % 8) < 256 from by
     have h1 := byteAt_lt (L ++ [v.testBit (j - 1)]) (L.length / 8);rw [byteAt_snoc, hz, hold2] at h1
     exact h1)
    clear hold2 hz hm hd hlow hw2 hbk2 hown2 hf2 hon2 hML
    go_region
    clear i3 i4 i5;rw [Hx.out];have hx8 : old + (v.testBit (j - 1)).toNat * 2 ^ (7 - L.length % 8) < 256 := Hlt.out;have hbk3 := Hw2.out.1.off (p := ⟨g, z, none⟩) hgb (.int .u8 ((old + (v.testBit (j - 1)).toNat * 2 ^ (7 - L.length % 8) : Nat) : Int));have hown3 := own_put Hw2.out.2 z hz3 (.int .u8 ((old + (v.testBit (j - 1)).toNat * 2 ^ (7 - L.length % 8) : Nat) : Int))
    have hf3 : Fr (foot b dv) w (W.setCell ⟨g, z, none⟩ (.int .u8 ((old + (v.testBit (j - 1)).toNat * 2 ^ (7 - L.length % 8) : Nat) : Int))) := by
     refine Hf2.out.setCell (p := ⟨g, z, none⟩) ?_ _
     rcases Hon2.out with h1 | h1
     ·exact .inl (.inr (h1.symm.trans rfl))
     ·exact .inr (h1 g rfl)
    have hpk : ((room L).map bv).set z (.int .u8 ((old + (v.testBit (j - 1)).toNat * 2 ^ (7 - L.length % 8) : Nat) : Int)) = (pack (L ++ [v.testBit (j - 1)])).map bv := by
     rw [Hsn.out, List.map_set, ← Hd.out]
     congr 1
     simp only [bv]
     congr 2
     simp [Nat.mod_eq_of_lt hx8]
    have hpl : (room L).length = (pack (L ++ [v.testBit (j - 1)])).length := by rw [Hsn.out, List.length_set]
    rw [hpk] at hown3
    generalize W.setCell ⟨g, z, none⟩ (.int .u8 ((old + (v.testBit (j - 1)).toNat * 2 ^ (7 - L.length % 8) : Nat) : Int)) = W2 at *
    have r1 := hbk3.cell 1;have t1 := hbk3.frozen 1
    simp at r1
    have Hbk3 := hide hbk3;have Hown3 := hide hown3;have Hpl := hide hpl;clear hbk3 hown3 hpk hpl hx8 q0 q1 p1 o1 o2
    go_wp2
    go_roundw
    case rel =>
     refine ⟨j - 1, .slice (some ⟨g, 0, none⟩) (room L).length cap, by omega, by congr 1; omega, ?_, (hf3.setCell (p := ⟨b, 1, none⟩) (.inl (.inl rfl)) _).drew, Hon2.out⟩;rw [Hnext.out];refine ⟨?_, ?_⟩
     ·have := (Hbk3.out.put 1 (.int .i64 ((L.length : Int) + 1))).drew
      simpa using this
     ·have h1 : W2.ownsRow 0 5 1 (.slice (some ⟨g, 0, none⟩) (room L).length cap) (room L).length ((pack (L ++ [v.testBit (j - 1)])).map bv) := Hown3.out
      have := own_off h1 (p := ⟨b, 1, none⟩) (fun e => hgb (by simpa [Value.ownBlock] using e.symm)) (.int .i64 ((L.length : Int) + 1));rw [← Hpl.out];exact this
    case measure => simp [intOf]; omega
   ·have hpl := pack_length L
    have hrm : room L = pack L := by rw [room, if_neg h8]
    obtain ⟨g, cap, rfl, hcap⟩ := own_form Hown.out (by omega);have hR : WrRoom wr b g cap (room L).length L := ⟨by rw [hrm]; exact Hbk.out, by rw [hrm]; exact Hown.out⟩
    have e8 : (((L.length : Int) % 8) == 0) = false := by rw [beq_eq_false_iff_ne]; omega
    rw [← hrm] at hcap hon g0;have hf2 := hf;have hon2 := hon;obtain ⟨W, hW⟩ : ∃ W, W = wr := ⟨_, rfl⟩;subst hW;clear hpl hrm h8 Hbk Hown hf hon g0 g1 f0 f1;have hw2 := hR;obtain ⟨hbk2, hown2⟩ := hR;have q0 := hbk2.cell 0;have q1 := hbk2.cell 1;have p1 := hbk2.frozen 1
    simp at q0 q1
    have hML := room_length L
    have hz3 : L.length / 8 < (room L).length := by omega
    have hold := own_cell hown2 (L.length / 8) (.int .u8 (byteAt L (L.length / 8) : Nat)) (by
     rw [List.getElem?_map, List.getElem?_eq_getElem hz3, room_getElem];simp only [Option.map_some, bv]
     congr 2
     have := byteAt_lt L (L.length / 8)
     simp [Nat.mod_eq_of_lt this])
    obtain ⟨o1, o2⟩ := hold;have hbl := byteAt_lt L (L.length / 8);have hlow := byteAt_low L;have Hsn := hide (pack_snoc L (v.testBit (j - 1)));obtain ⟨z, hz⟩ : ∃ z, L.length / 8 = z := ⟨_, rfl⟩;obtain ⟨m, hm⟩ : ∃ m, L.length % 8 = m := ⟨_, rfl⟩;obtain ⟨d, hd⟩ : ∃ d, 7 - m = d := ⟨_, rfl⟩
    have i3 : IntKind.i64.wrap ((L.length : Int) / 8) = (z : Int) := by rw [IntWalk.i64_in _ (by omega)]; omega
    have i4 : IntKind.i64.wrap ((L.length : Int) % 8) = (m : Int) := by rw [IntWalk.i64_in _ (by omega)]; omega
    have i5 : IntKind.i64.wrap (7 - (m : Int)) = (d : Int) := by rw [IntWalk.i64_in _ (by omega)]; omega
    rw [hz] at hz3 o1 o2 hbl hlow Hsn;rw [hm] at hlow Hsn;rw [show 8 - m = d + 1 from by omega] at hlow;rw [hd] at Hsn
    have hjc : j - 1 ≤ 64 := by omega
    obtain ⟨old, hold2⟩ : ∃ old, byteAt L z = old := ⟨_, rfl⟩;rw [hold2] at o1 hbl hlow Hsn
    have i6 : (z : Int) < ((room L).length : Int) := by omega
    have i7 : (0 : Int) ≤ (z : Int) := by omega
    have d8 : d < 8 := by omega
    have Hlow := hide hlow;have Hx := hide (put_arith old v (j - 1) L.length hbl (by rw [hm, hd]; exact hlow));have Hw2 := hide hw2;have Hf2 := hide hf2;have Hon2 := hide hon2
    have hgb := hide (show (b : Nat) ≠ g from fun e => by
     have := own_apart hown2 hbk2 (by decide)
     simp [Value.ownBlock, e] at this)
    have Hd := hide (show 7 - L.length % 8 = d from by omega)
    have Hlt := hide (show old + (v.testBit (j - 1)).toNat * 2 ^ (7 - L.length % 8) < 256 from by
     have h1 := byteAt_lt (L ++ [v.testBit (j - 1)]) (L.length / 8);rw [byteAt_snoc, hz, hold2] at h1
     exact h1)
    clear hold2 hz hm hd hlow hw2 hbk2 hown2 hf2 hon2 hML
    go_wp2
    go_region
    clear i3 i4 i5;rw [Hx.out];have hx8 : old + (v.testBit (j - 1)).toNat * 2 ^ (7 - L.length % 8) < 256 := Hlt.out;have hbk3 := Hw2.out.1.off (p := ⟨g, z, none⟩) hgb (.int .u8 ((old + (v.testBit (j - 1)).toNat * 2 ^ (7 - L.length % 8) : Nat) : Int));have hown3 := own_put Hw2.out.2 z hz3 (.int .u8 ((old + (v.testBit (j - 1)).toNat * 2 ^ (7 - L.length % 8) : Nat) : Int))
    have hf3 : Fr (foot b dv) w (W.setCell ⟨g, z, none⟩ (.int .u8 ((old + (v.testBit (j - 1)).toNat * 2 ^ (7 - L.length % 8) : Nat) : Int))) := by
     refine Hf2.out.setCell (p := ⟨g, z, none⟩) ?_ _
     rcases Hon2.out with h1 | h1
     ·exact .inl (.inr (h1.symm.trans rfl))
     ·exact .inr (h1 g rfl)
    have hpk : ((room L).map bv).set z (.int .u8 ((old + (v.testBit (j - 1)).toNat * 2 ^ (7 - L.length % 8) : Nat) : Int)) = (pack (L ++ [v.testBit (j - 1)])).map bv := by
     rw [Hsn.out, List.map_set, ← Hd.out]
     congr 1
     simp only [bv]
     congr 2
     simp [Nat.mod_eq_of_lt hx8]
    have hpl : (room L).length = (pack (L ++ [v.testBit (j - 1)])).length := by rw [Hsn.out, List.length_set]
    rw [hpk] at hown3
    generalize W.setCell ⟨g, z, none⟩ (.int .u8 ((old + (v.testBit (j - 1)).toNat * 2 ^ (7 - L.length % 8) : Nat) : Int)) = W2 at *
    have r1 := hbk3.cell 1;have t1 := hbk3.frozen 1
    simp at r1
    have Hbk3 := hide hbk3;have Hown3 := hide hown3;have Hpl := hide hpl;clear hbk3 hown3 hpk hpl hx8 q0 q1 p1 o1 o2
    go_wp2
    go_roundw
    case rel =>
     refine ⟨j - 1, .slice (some ⟨g, 0, none⟩) (room L).length cap, by omega, by congr 1; omega, ?_, (hf3.setCell (p := ⟨b, 1, none⟩) (.inl (.inl rfl)) _).drew, Hon2.out⟩;rw [Hnext.out];refine ⟨?_, ?_⟩
     ·have := (Hbk3.out.put 1 (.int .i64 ((L.length : Int) + 1))).drew
      simpa using this
     ·have h1 : W2.ownsRow 0 5 1 (.slice (some ⟨g, 0, none⟩) (room L).length cap) (room L).length ((pack (L ++ [v.testBit (j - 1)])).map bv) := Hown3.out
      have := own_off h1 (p := ⟨b, 1, none⟩) (fun e => hgb (by simpa [Value.ownBlock] using e.symm)) (.int .i64 ((L.length : Int) + 1));rw [← Hpl.out];exact this
    case measure => simp [intOf]; omega
  ·have : j = 0 := by omega
   subst this
   go_wp2
   go_end0
   exact ⟨rfl, dr, by simpa using hw, hf, hon⟩
end Go.Proofs.YtoeeblldgoccoaaGreat.Bio
namespace Go.Proofs.YtoeeblldgoccoaaGreat
open Go.RowKit Go.Proofs Wv Wv.Vi Wv.Ru
theorem rfrom_any (k : Int) (h0 : 0 ≤ k) (h8 : k ≤ 8) (w : World) :
  Calls Tryz.prog 68 #[.int .i64 k] w fun e w' => e = .returned (.int .i64 (bnd k.toNat : Nat)) ∧ w = w' := by
 obtain ⟨k, rfl⟩ := Int.eq_ofNat_of_zero_le h0;rw [Int.toNat_natCast];have hv := hide bnd_vals
 go_enter Tryz.func68, Tryz.ntmps68
 go_wp2
 go_loop [3, 4] (fun b i => ∃ j : Nat, j ≤ k ∧ i = .int .i64 ((j : Int) + 1) ∧ b = .int .i64 (bnd j : Nat)) (fun _ i => k + 1 - (intOf i).toNat)
 case atStart => exact ⟨0, Nat.zero_le _, rfl, rfl⟩
 case round =>
  obtain ⟨j, hj, rfl, rfl⟩ := hrel
  by_cases hlt : j < k
  ·have hb := bnd_le j (by omega)
   have hz : j = 0 ∨ j = 1 ∨ j = 2 ∨ j = 3 ∨ j = 4 ∨ j = 5 ∨ j = 6 ∨ j = 7 := by omega
   rcases hz with rfl | rfl | rfl | rfl | rfl | rfl | rfl | rfl
   all_goals
    go_wp2
    go_round
    case rel => exact ⟨_, hlt, by rfl, by rfl⟩
    case measure => simp [intOf]; omega
  ·go_wp2
   go_ret
   exact ⟨ret_int (by rw [show k = j from by omega]), rfl⟩
theorem rsize_any (n : Int) (h0 : 0 ≤ n) (h63 : n ≤ 9223372036854775807) (w : World) :
  Calls Tryz.prog 67 #[.int .i64 n] w fun e w' => e = .returned (.int .i64 ((kof n.toNat : Int) + 1)) ∧ w = w' := by
 obtain ⟨n, rfl⟩ := Int.eq_ofNat_of_zero_le h0;rw [Int.toNat_natCast];have hk8 := kof_le n;have H := hide rfrom_any
 go_enter Tryz.func67, Tryz.ntmps67
 go_wp2
 go_loop [3] (fun k => ∃ j : Nat, j ≤ kof n ∧ k = .int .i64 j) (fun k => 9 - (intOf k).toNat)
 case atStart => exact ⟨0, Nat.zero_le _, rfl⟩
 case round =>
  obtain ⟨j, hj, rfl⟩ := hrel
  by_cases h8 : j < 8
  ·have hs := kof_step n j h8 hj
   have hb := H.out ((j : Int) + 1) (by omega) (by omega) w;rw [show (((j : Int) + 1).toNat) = j + 1 from by omega] at hb;have Hb := hide hb
   by_cases hlt : j < kof n
   ·have hle : bnd (j + 1) ≤ n := hs.2 hlt
    clear hs hb
    go_wp2_with (go_at_call 68; refine (Hb.out).mono ?_; rintro e w' ⟨rfl, rfl⟩)
    go_round
    case rel => exact ⟨j + 1, by omega, by go_num⟩
    case measure => simp [intOf]; omega
   ·have hle : ¬ bnd (j + 1) ≤ n := fun h => hlt (hs.1 h)
    clear hs hb
    go_wp2_with (go_at_call 68; refine (Hb.out).mono ?_; rintro e w' ⟨rfl, rfl⟩)
    go_ret
    exact ⟨ret_int (by omega), rfl⟩
  ·go_wp2
   go_ret
   exact ⟨ret_int (by omega), rfl⟩
theorem be_low (j r : Nat) : UInt8.ofNat (r / 256 ^ j % 256) :: be j r = be (j + 1) r := by
 have h2 : UInt8.ofNat (r / 256 ^ j % 256) = UInt8.ofNat (r / 256 ^ j) := by
  apply UInt8.toNat_inj.1
  simp
 rw [h2];rfl
theorem rnumber_any (n : Int) (h0 : 0 ≤ n) (h63 : n ≤ 9223372036854775807) (w : World) :
    Calls Tryz.prog 36 #[.int .i64 n] w fun e w' => e = .returned (.string (bs (num n.toNat))) ∧ Below w.heap.size w w' := by
  obtain ⟨n, rfl⟩ := Int.eq_ofNat_of_zero_le h0;rw [Int.toNat_natCast];obtain ⟨k, hk⟩ : ∃ k, kof n = k := ⟨_, rfl⟩;have hk8 := kof_le n;have hkb := bnd_kof n;have hrl := rest_lt n (by omega);have H1 := hide (rsize_any (n : Int) (by omega) h63);have H2 := hide (rfrom_any (k : Int) (by omega) (by omega));rw [Int.toNat_natCast, hk] at H1;rw [Int.toNat_natCast] at H2;rw [hk] at hk8 hkb hrl;obtain ⟨b, hb⟩ : ∃ b, bnd k = b := ⟨_, rfl⟩;rw [hb] at H2 hkb hrl;obtain ⟨r, hr⟩ : ∃ r, n - b = r := ⟨_, rfl⟩;rw [hr] at hrl;have Hnum : Hid (num n = UInt8.ofNat (256 - 2 ^ (8 - k) + r / 256 ^ k) :: be k r) := hide (by unfold num; rw [hk, hb, hr])
  have i1 : (n : Int) - (b : Int) = (r : Int) := by omega
  have Hrl := hide hrl
  have hr63 : r ≤ 9223372036854775807 := by omega
  have hcv := conv_one (P := Tryz.prog) 42 9 5 Tryz.underlying42 Tryz.underlying5 Tryz.underlying9;clear hk hb hr hrl hkb
  go_enter Tryz.func36, Tryz.ntmps36
  go_wp2_with fail
  refine (H1.out _).mono ?_;rintro e w1 ⟨rfl, rfl⟩
  go_wp2_with fail
  refine (H2.out _).mono ?_;rintro e w1 ⟨rfl, rfl⟩
  go_wp2
  go_loopw [0, 4, 5] (fun x out i wr => ∃ j : Nat, j ≤ k ∧ i = .int .i64 j ∧ x = .int .i64 ((r / 256 ^ j : Nat) : Int) ∧ out = .string (bs (be j r)) ∧ Below w.heap.size w wr) (fun _ _ i _ => (k - intOf i).toNat)
  case atStart => exact ⟨0, by omega, rfl, by simp, rfl, Below.refl _ _⟩
  case round =>
    obtain ⟨j, hj, rfl, rfl, rfl, hf⟩ := hrel;have hxl : r / 256 ^ j ≤ r := Nat.div_le_self _ _
    have hbl : (bs (be j r)).size ≤ 8 := by rw [bs_size, be_length]; omega
    by_cases hlt : j < k
    · have hlow := be_low j r
      have hds := div_step r j;obtain ⟨x, hx⟩ : ∃ x, r / 256 ^ j = x := ⟨_, rfl⟩;rw [hx] at hlow hds hxl ⊢;obtain ⟨S, hS⟩ : ∃ S, bs (be j r) = S := ⟨_, rfl⟩
      have hnx : (⟨#[UInt8.ofNat (x % 256)]⟩ : ByteArray) ++ S = bs (be (j + 1) r) := by
        rw [← hS, ← hlow];exact bs_append [_] _
      rw [hS] at hbl ⊢
      have i2 : ((x : Int) % 256).toNat = x % 256 := by omega
      have i3 : (x : Int) % 256 % 256 = (x : Int) % 256 := by omega
      have Hnx := hide hnx;have Hds := hide hds;have h1s : (⟨#[UInt8.ofNat (x % 256)]⟩ : ByteArray).size = 1 := rfl;clear hx hlow hnx hds hS
      go_wp2
      go_roundw
      case rel => exact ⟨j + 1, by omega, by go_num, by rw [← Hds.out]; congr 1, by rw [Hnx.out], hf.alloc hf.size _⟩
      case measure => simp [intOf] <;> omega
    · have hjk : j = k := by omega
      subst hjk;obtain ⟨x, hx⟩ : ∃ x, r / 256 ^ j = x := ⟨_, rfl⟩;have hrl := Hrl.out;rw [hx] at hrl Hnum hxl ⊢;have hfl := (lead_first j x (by omega) hrl.1 hrl.2).1;have hx128 : x < 128 := Nat.lt_of_lt_of_le hrl.1 (Nat.pow_le_pow_right (by omega) (show 7 - j ≤ 7 by omega));obtain ⟨S, hS⟩ : ∃ S, bs (be j r) = S := ⟨_, rfl⟩;obtain ⟨y, hy⟩ : ∃ y, 256 - 2 ^ (8 - j) + x = y := ⟨_, rfl⟩
      have Hfin : Hid ((⟨#[UInt8.ofNat y]⟩ : ByteArray) ++ S = bs (num n)) := hide (by
        rw [Hnum.out, ← hS, hy]
        exact bs_append [_] _)
      rw [hS] at hbl ⊢;have h1s : (⟨#[UInt8.ofNat y]⟩ : ByteArray).size = 1 := rfl;have hyk := hide (show ∀ K : Nat, j = K → 256 - 2 ^ (8 - K) + x = y from fun K e => e ▸ hy)
      have hyl : y < 256 := by omega
      have i4 : (y : Int) % 256 = (y : Int) := by omega
      have i5 : (y : Int).toNat = y := rfl;clear hS hy hfl hrl hx hxl
      rcases nine j (by omega) with rfl | rfl | rfl | rfl | rfl | rfl | rfl | rfl | rfl
      all_goals
        have hy0 := hyk.out _ rfl;simp only [Nat.reducePow, Nat.reduceSub] at hy0
        first
          | (have i3 : (128 : Int) + (x : Int) = (y : Int) := by omega
             go_wp2
             go_ret
             exact ⟨ret_str Hfin.out, hf.alloc hf.size _⟩)
          | (have i3 : (192 : Int) + (x : Int) = (y : Int) := by omega
             go_wp2
             go_ret
             exact ⟨ret_str Hfin.out, hf.alloc hf.size _⟩)
          | (have i3 : (224 : Int) + (x : Int) = (y : Int) := by omega
             go_wp2
             go_ret
             exact ⟨ret_str Hfin.out, hf.alloc hf.size _⟩)
          | (have i3 : (240 : Int) + (x : Int) = (y : Int) := by omega
             go_wp2
             go_ret
             exact ⟨ret_str Hfin.out, hf.alloc hf.size _⟩)
          | (have i3 : (248 : Int) + (x : Int) = (y : Int) := by omega
             go_wp2
             go_ret
             exact ⟨ret_str Hfin.out, hf.alloc hf.size _⟩)
          | (have i3 : (252 : Int) + (x : Int) = (y : Int) := by omega
             go_wp2
             go_ret
             exact ⟨ret_str Hfin.out, hf.alloc hf.size _⟩)
          | (have i3 : (254 : Int) + (x : Int) = (y : Int) := by omega
             go_wp2
             go_ret
             exact ⟨ret_str Hfin.out, hf.alloc hf.size _⟩)
          | (have i3 : (255 : Int) + (x : Int) = (y : Int) := by omega
             go_wp2
             go_ret
             exact ⟨ret_str Hfin.out, hf.alloc hf.size _⟩)
          | (have i3 : (x : Int) = (y : Int) := by omega
             have i6 : y = x := by omega
             subst i6
             go_wp2
             go_ret
             exact ⟨ret_str Hfin.out, hf.alloc hf.size _⟩)
theorem rtext_any (s : ByteArray) (hs : s.size ≤ 1099511627776) (w : World) :
  Calls Tryz.prog 74 #[.string s] w fun e w' => e = .returned (.string (bs (text s))) ∧ Below w.heap.size w w' := by
 have H := rnumber_any (s.size : Int) (by omega) (by omega) w;rw [Int.toNat_natCast] at H;have hl := kof9 s.size;have hr := hide (show bs (num s.size) ++ s = bs (text s) from by rw [← bs_toL s, bs_append]; rfl);rw [← bs_size] at hl
 generalize bs (num s.size) = t at *
 have H := hide H
 go_enter Tryz.func74, Tryz.ntmps74
 go_wp2_with fail
 refine (H.out).mono ?_;rintro e w1 ⟨rfl, hb⟩
 go_wp2
 go_ret
 exact ⟨ret_str hr.out, hb⟩
end Go.Proofs.YtoeeblldgoccoaaGreat
