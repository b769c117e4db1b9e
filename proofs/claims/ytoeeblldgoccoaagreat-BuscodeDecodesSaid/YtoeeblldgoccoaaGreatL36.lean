/-
  Joined texts: BioPw2, BioPw3, BioPw4.
-/
import Derived.Test.YtoeeblldgoccoaaGreatL10
import Derived.Test.YtoeeblldgoccoaaGreatL19
set_option linter.unusedVariables false
set_option linter.unusedSimpArgs false
set_option maxRecDepth 100000
set_option maxHeartbeats 8000000
namespace Go.Proofs.YtoeeblldgoccoaaGreat.Bio
open Go.RowKit Go.Proofs Wv Wv.Bit
theorem wr_trans {b : Nat} {d0 d1 d2 : Value} {w w1 w2 : World} (f1 : Fr (foot b d0) w w1) (o1 : OwnNew w d0 d1) (f2 : Fr (foot b d1) w1 w2) (o2 : OwnNew w1 d1 d2) :
  Fr (foot b d0) w w2 ∧ OwnNew w d0 d2 := by
 refine ⟨f1.trans' f2 (fun i hi hf => ?_), ?_⟩
 ·rcases hf with h | h
  ·exact .inl h
  ·rcases o1 with h1 | h1
   ·exact .inr (h1 ▸ h)
   ·have := h1 i h; omega
 ·rcases o2 with h | h
  ·rcases o1 with h1 | h1
   ·exact .inl (h.trans h1)
   ·exact .inr (fun g hg => h1 g (h ▸ hg))
  ·exact .inr (fun g hg => Nat.le_trans f1.size (h g hg))
theorem ret_b {a b : Bool} (h : a = b) : Ending.returned (.bool a) = .returned (.bool b) := by rw [h]
theorem div_zero_iff {v : Int} (h : 0 ≤ v) (p : Nat) : (v / 2 ^ p == 0) = decide (v < 2 ^ p) := by
 obtain ⟨n, rfl⟩ := Int.eq_ofNat_of_zero_le h;rw [pow_cast, ← Int.natCast_ediv];have h1 := Nat.two_pow_pos p
 have h2 : n / 2 ^ p = 0 ↔ n < 2 ^ p := by rw [Nat.div_eq_zero_iff]; omega
 rw [Bool.eq_iff_iff, beq_iff_eq, decide_eq_true_eq];omega
theorem kvalid0 (p v : Int) (h0 : 0 ≤ p) (h1 : p ≤ 62) (hv1 : -9223372036854775808 ≤ v) (hv2 : v ≤ 9223372036854775807) (w : World) :
  Calls Tryz.prog 186 #[.int .i64 p, .int .i64 v] w fun e w' => e = .returned (.bool (vld 0 p v)) ∧ ∃ q, w' = w.drewN q := by
 have hp : par 0 p = true := by simp [par]; omega
 by_cases hv : 0 ≤ v
 ·have hr : vld 0 p v = decide (v < 2 ^ p.toNat) := by simp [vld, hp, hv]
  have Hr := hide hr;have Hz := hide (div_zero_iff hv p.toNat);clear hr hp
  skip
  go_enter Tryz.func186, Tryz.ntmps186
  go_wp2
  go_ret
  exact ⟨ret_b (Hz.out.trans Hr.out.symm), 0, rfl⟩
 ·have hr : vld 0 p v = false := by simp [vld, hp, hv]
  have Hr := hide hr;clear hr hp
  go_enter Tryz.func186, Tryz.ntmps186
  go_wp2
  go_ret
  exact ⟨ret_b Hr.out.symm, 0, rfl⟩
theorem ksize0 (p v : Int) (h : vld 0 p v = true) (w : World) :
  Calls Tryz.prog 187 #[.int .i64 p, .int .i64 v] w fun e w' => e = .returned (.int .i64 ((cbits 0 p.toNat v.toNat).length : Nat)) ∧ ∃ q, w' = w.drewN q := by
 have hc := vld_cases h;have hl := hide (show (cbits 0 p.toNat v.toNat).length = p.toNat from by simp [cbits, num_length])
 have h0 : 0 ≤ p := by omega
 clear hc h
 go_enter Tryz.func187, Tryz.ntmps187
 go_wp2
 go_ret
 exact ⟨ret_int1 (by rw [hl.out]; omega), 0, rfl⟩
theorem kwrite0 {b : Nat} {dv : Value} {l : List Bool} {w : World} (hw : WrAt w b dv l) (p v : Int) (h : vld 0 p v = true) (hl : l.length ≤ 65536) :
  Calls Tryz.prog 188 #[.pointer (some ⟨b, 0, none⟩), .int .i64 p, .int .i64 v] w fun e w' => e = .returned (.tuple #[]) ∧ ∃ dv', WrAt w' b dv' (l ++ cbits 0 p.toNat v.toNat) ∧ Fr (foot b dv) w w' ∧ OwnNew w dv dv' := by
 have hc := vld_cases h;obtain ⟨hv0, hc⟩ := hc
 obtain ⟨h0, h1, h2⟩ : 0 ≤ p ∧ p ≤ 62 ∧ v < 2 ^ p.toNat := by omega
 have h3 := pow62 p.toNat (by omega);have h4 := pow_cast p.toNat;have H := hide (put_any hw p v h0 (by omega) hv0 (by omega) (by omega));clear hc h h2 h3 h4
 go_enter Tryz.func188, Tryz.ntmps188
 go_wp2_with (go_at_call 142; refine (H.out).mono ?_; rintro e w1 ⟨rfl, d1, hw1, hf1, ho1⟩)
 go_end0
 exact ⟨rfl, d1, hw1, hf1, ho1⟩
theorem WrAt.fr {w w' : World} {b : Nat} {dv : Value} {l : List Bool} {S : Nat → Prop} (h : WrAt w b dv l) (hf : Fr S w w') (hS : ∀ k, k < w.heap.size → ¬ S k) : WrAt w' b dv l :=
 ⟨h.1.fr hf (hS b h.1.lt), own_fr h.2 hf (fun g hg => hS g (h.2.lt g hg).2)⟩
theorem WrAt.below {w w' : World} {b : Nat} {dv : Value} {l : List Bool} (h : WrAt w b dv l) (hb : Below w.heap.size w w') : WrAt w' b dv l :=
 h.fr (Fr.of_below (S := fun _ => False) hb) (fun _ _ f => f)
theorem WrAt.alloc {w : World} {b : Nat} {dv : Value} {l : List Bool} (h : WrAt w b dv l) (o : Obj) : WrAt (w.alloc o) b dv l :=
 ⟨h.1.alloc o, h.2.alloc o⟩
theorem wput0 {b : Nat} {dv : Value} {l : List Bool} {w : World} (hw : WrAt w b dv l) (hl : l.length ≤ 65536) (p : Int) (v : Int) (h0 : 0 ≤ p) (h1 : p ≤ 62) (hv1 : -9223372036854775808 ≤ v) (hv2 : v ≤ 9223372036854775807) :
  Calls Tryz.prog 99 #[.pointer (some ⟨b, 0, none⟩), .agg #[.int .i64 0, .int .i64 p, .int .i64 v]] w fun e w' => e = .returned (.int .i64 ((putm l ⟨0, p, v⟩).2 : Nat)) ∧ ∃ dv', WrAt w' b dv' (putm l ⟨0, p, v⟩).1 ∧ Fr (foot b dv) w w' ∧ OwnNew w dv dv' := by
 have hfd := find0 p h0 h1 (w.alloc (.cells #[.int .i64 0, .int .i64 p, .int .i64 v] 116));unfold kv0 at hfd;have Hf := hide hfd;have Hv := hide (kvalid0 p v h0 h1 hv1 hv2);clear hfd
 by_cases hvl : vld 0 p v = true
 ·have hcl := cbits_len hvl
  have Hs := hide (fun w => ksize0 p v hvl w);have Hw := hide (fun (W : World) (hW : WrAt W b dv l) => kwrite0 hW p v hvl hl);have Hp := hide (show putm l ⟨0, p, v⟩ = if 65536 < l.length + (cbits 0 (p : Int).toNat v.toNat).length then (l, 9) else (l ++ cbits 0 (p : Int).toNat v.toNat, 0) from by rw [putm, Cd.ok]; simp only; rw [hvl]; rfl);rw [hvl] at Hv
  change (cbits 0 (p : Int).toNat v.toNat).length ≤ 8192 at hcl
  obtain ⟨cb, hcb⟩ : ∃ cb, cbits 0 (p : Int).toNat v.toNat = cb := ⟨_, rfl⟩;rw [hcb] at hcl Hs Hp Hw;clear hvl hcb
  by_cases hbig : 65536 < l.length + cb.length
  ·have hbi : (65536 : Int) < (l.length : Int) + (cb.length : Int) := by omega
   obtain ⟨t, ht⟩ : ∃ t, l.length + cb.length = t := ⟨_, rfl⟩
   have i1 : IntKind.i64.wrap ((l.length : Int) + (cb.length : Int)) = (t : Int) := by rw [IntWalk.i64_in _ (by omega)]; omega
   have i2 : (65536 : Int) < (t : Int) := by omega
   clear ht
   go_enter Tryz.func99, Tryz.ntmps99
   go_wp2_with fail
   refine (Hf.out).mono ?_;rintro e w1 ⟨rfl, hb⟩;have hc1 := bcell hb;have hs := hb.size;have hz : w.heap.size < w1.heap.size := Nat.lt_of_lt_of_le (by simp) hs
   simp at hs
   have hw1 := (hw.alloc (.cells #[.int .i64 0, .int .i64 p, .int .i64 v] 116)).below hb;have hf1 := ((Fr.refl (foot b dv) w).alloc (.cells #[.int .i64 0, .int .i64 p, .int .i64 v] 116)).below hb;have hbl := hw1.1.lt;have g1 := hw1.1.cell 1
   simp at g1
   go_wp2_with fail
   refine (Hv.out _).mono ?_;rintro e w2 ⟨rfl, q, rfl⟩
   go_wp2_with fail
   go_quiet ((go_at_call 187; first | exact q3 (Hs.out _) | exact q4 (Hs.out _)))
   clear i1
   go_wp2
   go_ret
   exact ⟨ret_int1 (by rw [Hp.out, if_pos hbig]; rfl), dv, by rw [Hp.out, if_pos hbig]; exact hw1.alloc _, ((hf1.alloc _).drewN _).drewN _, .inl rfl⟩
  ·have hbi : ¬ (65536 : Int) < (l.length : Int) + (cb.length : Int) := by omega
   obtain ⟨t, ht⟩ : ∃ t, l.length + cb.length = t := ⟨_, rfl⟩
   have i1 : IntKind.i64.wrap ((l.length : Int) + (cb.length : Int)) = (t : Int) := by rw [IntWalk.i64_in _ (by omega)]; omega
   have i2 : ¬ (65536 : Int) < (t : Int) := by omega
   clear ht
   go_enter Tryz.func99, Tryz.ntmps99
   go_wp2_with fail
   refine (Hf.out).mono ?_;rintro e w1 ⟨rfl, hb⟩;have hc1 := bcell hb;have hs := hb.size;have hz : w.heap.size < w1.heap.size := Nat.lt_of_lt_of_le (by simp) hs
   simp at hs
   have hw1 := (hw.alloc (.cells #[.int .i64 0, .int .i64 p, .int .i64 v] 116)).below hb;have hf1 := ((Fr.refl (foot b dv) w).alloc (.cells #[.int .i64 0, .int .i64 p, .int .i64 v] 116)).below hb;have hbl := hw1.1.lt;have g1 := hw1.1.cell 1
   simp at g1
   go_wp2_with fail
   refine (Hv.out _).mono ?_;rintro e w2 ⟨rfl, q, rfl⟩
   go_wp2_with fail
   go_quiet ((go_at_call 187; first | exact q3 (Hs.out _) | exact q4 (Hs.out _)))
   clear i1
   go_wp2_with fail
   have hwB : ∀ k, WrAt ((w1.alloc (.cells #[.int .i64 0, .int .i64 62, .func (.func 186) #[] #[], .func (.func 187) #[] #[], .func (.func 188) #[] #[], .func (.func 189) #[] #[]] 166)).drewN k) b dv l := fun _ => hw1.alloc _
   refine (Hw.out _ (hwB _)).mono ?_;rintro e w3 ⟨rfl, d3, hw3, hf3, ho3⟩
   go_wp2
   go_ret
   have hf0 : Fr (foot b dv) w (w1.alloc (.cells kv0.cells 166)) := hf1.alloc _;simp only [kv0, Value.cells] at hf0;have h7 := wr_trans (w := w) (hf0.drewN _) (.inl rfl) hf3 ho3;exact ⟨ret_int1 (by rw [Hp.out, if_neg hbig]; rfl), d3, by rw [Hp.out, if_neg hbig]; exact hw3, h7.1, h7.2⟩
 ·have hvf : vld 0 p v = false := by simpa using hvl
  have Hp := hide (show putm l ⟨0, p, v⟩ = (l, 1) from by rw [putm, Cd.ok]; simp only; rw [hvf]; rfl);rw [hvf] at Hv;clear hvl hvf
  go_enter Tryz.func99, Tryz.ntmps99
  go_wp2_with fail
  refine (Hf.out).mono ?_;rintro e w1 ⟨rfl, hb⟩;have hc1 := bcell hb;have hs := hb.size;have hz : w.heap.size < w1.heap.size := Nat.lt_of_lt_of_le (by simp) hs
  simp at hs
  have hw1 := (hw.alloc (.cells #[.int .i64 0, .int .i64 p, .int .i64 v] 116)).below hb;have hf1 := ((Fr.refl (foot b dv) w).alloc (.cells #[.int .i64 0, .int .i64 p, .int .i64 v] 116)).below hb;have hbl := hw1.1.lt;have g1 := hw1.1.cell 1
  simp at g1
  go_wp2_with fail
  refine (Hv.out _).mono ?_;rintro e w2 ⟨rfl, q, rfl⟩
  go_wp2
  go_ret
  exact ⟨ret_int1 (by rw [Hp.out]; rfl), dv, by rw [Hp.out]; exact hw1.alloc _, (hf1.alloc _).drewN _, .inl rfl⟩
end Go.Proofs.YtoeeblldgoccoaaGreat.Bio
