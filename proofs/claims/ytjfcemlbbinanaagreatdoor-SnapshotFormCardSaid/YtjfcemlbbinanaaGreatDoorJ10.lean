/-
  The walks over the range coder: the bytes of an encoder; a new decoder, many bits, its end.
-/
import Derived.Test.YtjfcemlbbinanaaGreatDoorJ09
set_option linter.unusedVariables false
set_option linter.unusedSimpArgs false
namespace Go.Proofs.YtjfcemlbbinanaaGreatDoor
open Go.RowKit Go.Proofs Wv Wv.Vi Wv.Rc
set_option linter.unusedVariables false

theorem be4 (x : Nat) : be 4 x = [UInt8.ofNat (x / 16777216), UInt8.ofNat (x / 65536), UInt8.ofNat (x / 256), UInt8.ofNat x] := by simp [be]
set_option maxHeartbeats 1000000 in
theorem efinish_any {w : World} {b : Nat} {dv : Value} {e : En} (h : EnAt w b dv e) (hlow : e.low < 4294967296) (hl : e.out.length ≤ 1000000) :
  Calls Tryz.prog 62 #[.pointer (some ⟨b, 0, none⟩)] w fun x w' => x = .returned (.string (bs (efin e))) ∧ Below w.heap.size w w' := by
 have c0 := h.1.cell 0
 have c1 := h.1.cell 1
 simp at c0 c1
 have hbl := h.1.lt
 obtain ⟨a1, h1⟩ : ∃ a, e.low / 16777216 = a := ⟨_, rfl⟩
 obtain ⟨a2, h2⟩ : ∃ a, e.low / 65536 % 256 = a := ⟨_, rfl⟩
 obtain ⟨a3, h3⟩ : ∃ a, e.low / 256 % 256 = a := ⟨_, rfl⟩
 obtain ⟨a4, h4⟩ : ∃ a, e.low % 256 = a := ⟨_, rfl⟩
 have i1 : (e.low : Int) / 16777216 = (a1 : Int) := by omega
 have i2 : (e.low : Int) / 65536 % 256 = (a2 : Int) := by omega
 have i3 : (e.low : Int) / 256 % 256 = (a3 : Int) := by omega
 have i4 : (e.low : Int) % 256 = (a4 : Int) := by omega
 have l1 : a1 < 256 := by omega
 have l2 : a2 < 256 := by omega
 have l3 : a3 < 256 := by omega
 have l4 : a4 < 256 := by omega
 have H1 := hide h1
 have H2 := hide h2
 have H3 := hide h3
 have H4 := hide h4
 clear h1 h2 h3 h4
 have H := hide h
 clear h
 go_enter Tryz.func62, Tryz.ntmps62
 go_wp2
 go_region
 have hE : EnAt (w.alloc (.cells #[.int .u8 (a1 : Int), .int .u8 (a2 : Int), .int .u8 (a3 : Int), .int .u8 (a4 : Int)] 140)).drew b dv e := (H.out.below ((Below.refl _ _).alloc (Nat.le_refl _) _)).drew
 have hB : Below w.heap.size w (w.alloc (.cells #[.int .u8 (a1 : Int), .int .u8 (a2 : Int), .int .u8 (a3 : Int), .int .u8 (a4 : Int)] 140)).drew := ((Below.refl _ _).alloc (Nat.le_refl _) _).drew
 have hK : Bk (w.alloc (.cells #[.int .u8 (a1 : Int), .int .u8 (a2 : Int), .int .u8 (a3 : Int), .int .u8 (a4 : Int)] 140)).drew w.heap.size 140 #[.int .u8 (a1 : Int), .int .u8 (a2 : Int), .int .u8 (a3 : Int), .int .u8 (a4 : Int)] := Bk.new _ _ _
 generalize (w.alloc (.cells #[.int .u8 (a1 : Int), .int .u8 (a2 : Int), .int .u8 (a3 : Int), .int .u8 (a4 : Int)] 140)).drew = W at *
 have d0 := hE.1.cell 0
 simp at d0
 have hcv1 : ∀ n, (convert 74 9 dv).run Tryz.prog (W.drewN n) = .ok (.string (bs e.out)) (W.drewN n) := fun n => conv_row 74 9 5 Tryz.underlying74 Tryz.underlying5 Tryz.underlying9 (hE.drewN n).2
 have hcv2 : ∀ n, (convert 74 9 (.slice (some ⟨w.heap.size, 0, none⟩) 4 4)).run Tryz.prog (W.drewN n) = .ok (.string (bs [UInt8.ofNat a1, UInt8.ofNat a2, UInt8.ofNat a3, UInt8.ofNat a4])) (W.drewN n) := fun n => by
  refine run_convert_bytes_back (W.drewN n) 74 9 5 ⟨w.heap.size, 0, none⟩ 4 [UInt8.ofNat a1, UInt8.ofNat a2, UInt8.ofNat a3, UInt8.ofNat a4] Tryz.underlying74 Tryz.underlying5 Tryz.underlying9 (fun j hj => ?_)
  have hj4 : j < 4 := hj
  rw [Go.WideShapes.add_plain, Nat.zero_add, (hK.drewN n).cell]
  have : j = 0 ∨ j = 1 ∨ j = 2 ∨ j = 3 := by omega
  rcases this with rfl | rfl | rfl | rfl <;> simp [Nat.mod_eq_of_lt, *]
 have hsz : (bs e.out).size ≤ 1000000 := by rw [bs_size]; exact hl
 have hsz2 : (bs [UInt8.ofNat a1, UInt8.ofNat a2, UInt8.ofNat a3, UInt8.ofNat a4]).size = 4 := rfl
 have Hr := hide (show bs e.out ++ bs [UInt8.ofNat a1, UInt8.ofNat a2, UInt8.ofNat a3, UInt8.ofNat a4] = bs (efin e) from by
  rw [bs_append, efin, be4, ← H1.out, ← H2.out, ← H3.out, ← H4.out]
  have q : ∀ x : Nat, UInt8.ofNat (x % 256) = UInt8.ofNat x := fun x => by apply UInt8.toNat_inj.1; simp
  rw [q, q, q])
 generalize bs e.out = s1 at *
 generalize bs [UInt8.ofNat a1, UInt8.ofNat a2, UInt8.ofNat a3, UInt8.ofNat a4] = s2 at *
 clear hE hK c0 c1 i1 i2 i3 i4
 go_wp2
 go_quiet (fail)
 go_wp2
 go_ret
 exact ⟨ret_str Hr.out, bdN hB _⟩
def dpk : Nat → List UInt8 → De
 | 0, s => ⟨s, 0, 4294967295, false, false⟩
 | k + 1, s => dnext (dpk k s)
theorem dpk_succ (k : Nat) (s : List UInt8) : dpk (k + 1) s = dnext (dpk k s) := rfl
set_option maxHeartbeats 1000000 in
theorem dnew_any (s : List UInt8) (w : World) :
  Calls Tryz.prog 130 #[.string (bs s)] w fun x w' => x = .returned (.pointer (some ⟨w.heap.size, 0, none⟩)) ∧ DAt w' w.heap.size (d0 s) ∧ Below w.heap.size w w' := by
 go_enter Tryz.func130, Tryz.ntmps130
 go_wp2
 go_loopw [7] (fun i wr => ∃ k : Nat, k ≤ 4 ∧ i = .int .i64 k ∧ DAt wr w.heap.size (dpk k s) ∧ Below w.heap.size w wr) (fun i _ => (4 - intOf i).toNat)
 case atStart => exact ⟨0, by omega, rfl, Bk.new _ _ _, (Below.refl _ _).alloc (Nat.le_refl _) _⟩
 case round =>
  obtain ⟨k, hk, rfl, hd, hf⟩ := hrel
  by_cases hlt : k < 4
  ·have Hd := hide (dnext_any hd)
   have hz := hide (dpk_succ k s)
   clear hd
   go_wp2_with fail
   refine (Hd.out).mono ?_
   rintro y w1 ⟨rfl, hd1, hf1⟩
   go_wp2
   go_roundw
   case rel => exact ⟨k + 1, by omega, by go_num, by rw [hz.out]; exact hd1, hf.trans (hf1.toBelow' hf.size (fun j hj e => by have : j = w.heap.size := e; omega))⟩
   case measure => simp [intOf] <;> omega
  ·have hk4 : k = 4 := by omega
   subst hk4
   have hfl := hide (show d0 s = { dpk 4 s with full := decide ((dpk 4 s).code = (dpk 4 s).size) } from rfl)
   obtain ⟨D, hD⟩ : ∃ D, dpk 4 s = D := ⟨_, rfl⟩
   have Hd := hide hd
   rw [hD] at hfl Hd hd
   clear hD
   have q1 := Bk.cell hd 1
   have q2 := Bk.cell hd 2
   have q4 := Bk.cell hd 4
   have t4 := Bk.frozen hd 4
   simp at q1 q2 q4
   have hdec : ((D.code : Int) == (D.size : Int)) = decide (D.code = D.size) := by
    rw [Bool.eq_iff_iff, beq_iff_eq, decide_eq_true_iff]
    omega
   clear hd
   go_wp2
   go_region
   go_wp2
   go_ret
   rw [hfl.out]
   exact ⟨rfl, by have h9 := Hd.out.put4 (decide (D.code = D.size)); exact h9.drew, (hf.setCell (p := ⟨w.heap.size, 4, none⟩) (Nat.le_refl _) _).drew⟩
theorem or_i64w (a b : Nat) (ha : a < 9223372036854775808) (hb : b < 9223372036854775808) : bits .or .i64 (a : Int) (b : Int) = ((a ||| b : Nat) : Int) := by
 have h1 : (BitVec.ofInt 64 (a : Int)).toNat = a := ofInt_u64 a (by omega)
 have h2 : (BitVec.ofInt 64 (b : Int)).toNat = b := ofInt_u64 b (by omega)
 show IntKind.i64.wrap ((BitVec.ofInt 64 (a : Int) ||| BitVec.ofInt 64 (b : Int)).toNat : Nat) = _
 rw [BitVec.toNat_or, h1, h2]
 have := Nat.or_lt_two_pow (x := a) (y := b) (n := 63) (by omega) (by omega)
 rw [IntWalk.i64_in _ (by omega)]
theorem ddir_snoc (m : Nat) : ∀ (a : Nat) (d : De), (ddir (m + 1) a d) = (2 * (ddir m a d).1 + dbt 1024 (ddir m a d).2, dbit 1024 (ddir m a d).2) := by
 induction m with
 | zero => intro a d; rfl
 | succ m ih => intro a d; rw [ddir, ih]; rfl
theorem dbt_le (p : Nat) (d : De) : dbt p d ≤ 1 := by unfold dbt; split <;> omega
theorem ddir_v (m : Nat) : ∀ (a : Nat) (d : De), DV 0 d → DV 0 (ddir m a d).2 ∧ (ddir m a d).1 < (a + 1) * 2 ^ m := by
 induction m with
 | zero => intro a d h; exact ⟨h, by simp [ddir]⟩
 | succ m ih =>
  intro a d h
  obtain ⟨h1, h2⟩ := ih (2 * a + dbt 1024 d) (dbit 1024 d) (dbit_v h (by omega) (by omega))
  rw [ddir]
  refine ⟨h1, Nat.lt_of_lt_of_le h2 ?_⟩
  have := dbt_le 1024 d
  rw [Nat.pow_succ, Nat.mul_comm _ 2, ← Nat.mul_assoc]
  exact Nat.mul_le_mul_right _ (by omega)
theorem or1 (v y : Nat) (hv : v < 4611686018427387904) (hy : y < 2) : bits .or .i64 ((v : Int) * 2) (y : Int) = ((2 * v + y : Nat) : Int) := by
 rw [show (v : Int) * 2 = ((2 * v : Nat) : Int) from by omega]
 rw [or_i64w _ _ (by omega) (by omega), nat_join 1 _ _ (by omega) (by omega)]
set_option maxHeartbeats 1000000 in
theorem ddirect_any {w : World} {b : Nat} {d : De} (h : DAt w b d) (hv : DV 0 d) (n : Nat) (hn : n ≤ 62) :
  Calls Tryz.prog 154 #[.pointer (some ⟨b, 0, none⟩), .int .i64 (n : Int)] w fun x w' => x = .returned (.int .i64 ((ddir n 0 d).1 : Nat)) ∧ DAt w' b (ddir n 0 d).2 ∧ Fr (only b) w w' := by
 go_enter Tryz.func154, Tryz.ntmps154
 go_wp2
 go_loopw [5, 13] (fun v i wr => ∃ k : Nat, k ≤ n ∧ i = .int .i64 k ∧ v = .int .i64 ((ddir k 0 d).1 : Nat) ∧ DAt wr b (ddir k 0 d).2 ∧ Fr (only b) w wr) (fun _ i _ => (n - intOf i).toNat)
 case atStart => exact ⟨0, by omega, rfl, rfl, h, Fr.refl _ _⟩
 case round =>
  obtain ⟨k, hk, rfl, rfl, hd, hf⟩ := hrel
  by_cases hlt : k < n
  ·have hs := ddir_snoc k 0 d
   obtain ⟨hdv, hvl⟩ := ddir_v k 0 d hv
   have hp : (0 + 1) * 2 ^ k ≤ 2305843009213693952 := by
    rw [Nat.zero_add, Nat.one_mul]
    exact Nat.pow_le_pow_right (n := 2) (by omega) (show k ≤ 61 by omega)
   generalize ddir k 0 d = D at *
   obtain ⟨v, D⟩ := D
   simp only at hs hdv hvl hd ⊢
   have Hb := hide (dbit_any hd hdv 1024 (by omega) (by omega))
   have hy := dbt_le 1024 D
   obtain ⟨y, hyy⟩ : ∃ y, dbt 1024 D = y := ⟨_, rfl⟩
   rw [hyy] at Hb hs hy
   have hv61 : v < 2305843009213693952 := by omega
   have hor := hide (or1 v y (by omega) (by omega))
   have Hs := hide hs
   clear hs hdv hvl hp hd hyy
   go_wp2_with fail
   refine (Hb.out).mono ?_
   rintro z w1 ⟨rfl, hd1, hf1⟩
   go_wp2
   go_roundw
   case rel => exact ⟨k + 1, by omega, by go_num, by rw [hor.out, Hs.out], by rw [Hs.out]; exact hd1, hf.trans hf1⟩
   case measure => simp [intOf] <;> omega
  ·have : k = n := by omega
   subst this
   go_wp2
   go_ret
   exact ⟨rfl, hd, hf⟩
end Go.Proofs.YtjfcemlbbinanaaGreatDoor
