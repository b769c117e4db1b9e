/-
  Joined texts: Vf, L0, L9, X1, LI, Db, Mg, Row2, Xd, LK, Ga, Row4.
-/
import Derived.Laws.EntriesVeiled
import Derived.Test.YtjfcemlbbinanaaGreatDoorJ18
import Derived.SliceStrings
import Derived.Test.YtjfcemlbbinanaaGreatDoorJ13
import Derived.Lib.EndianBits
import Derived.Test.YtjfcemlbbinanaaGreatDoorRows
import Derived.Lay
import Derived.LaidMore
import Derived.Lib.LaidTab
set_option linter.unusedVariables false
set_option linter.unusedSimpArgs false
/-
  The walks over numbers as bytes, sixth part: a reader's text, and its end.
-/
namespace Go.Proofs.YtjfcemlbbinanaaGreatDoor
open Go.RowKit Go.Proofs Wv Wv.Vi Wv.Ru
set_option linter.unusedVariables false

def textR (s : ByteArray) (e : Nat) (most : Int) : ByteArray × ByteArray × Nat :=
 if (takeR (numR s e most).2.1 (numR s e most).2.2 ((numR s e most).1 : Nat)).2.2 = 0 then takeR (numR s e most).2.1 (numR s e most).2.2 ((numR s e most).1 : Nat)
 else (bs [], s, (takeR (numR s e most).2.1 (numR s e most).2.2 ((numR s e most).1 : Nat)).2.2)
theorem numR_size {s : ByteArray} {e : Nat} {most : Int} : (numR s e most).2.1.size ≤ s.size := by
 unfold numR
 split
 ·split
  ·exact Nat.le_refl _
  ·split
   ·exact Nat.le_refl _
   ·rw [bs_size, List.length_drop, toL_length]; omega
 ·exact Nat.le_refl _
set_option maxHeartbeats 400000 in
theorem vtext_any {w : World} {b e : Nat} {s : ByteArray} (h : RV w b s e) (hm : s.size ≤ 1099511627776) (most : Int) :
  Calls Tryz.prog 50 #[.pointer (some ⟨b, 0, none⟩), .int .i64 most] w fun x w' => x = .returned (.string (textR s e most).1) ∧ RV w' b (textR s e most).2.1 (textR s e most).2.2 ∧ Fr (only b) w w' := by
 have h0 := h.c0
 have hlt := Bk.lt h
 have Hn := hide (vnum_any h hm most)
 have hsz := numR_size (s := s) (e := e) (most := most)
 have ht : textR s e most = if (takeR (numR s e most).2.1 (numR s e most).2.2 ((numR s e most).1 : Nat)).2.2 = 0 then takeR (numR s e most).2.1 (numR s e most).2.2 ((numR s e most).1 : Nat)
  else (bs [], s, (takeR (numR s e most).2.1 (numR s e most).2.2 ((numR s e most).1 : Nat)).2.2) := rfl
 generalize numR s e most = q at *
 obtain ⟨n, s1, e1⟩ := q
 generalize textR s e most = r at *
 obtain ⟨⟨t, s2, e2⟩, htk⟩ : ∃ x, takeR s1 e1 (n : Int) = x := ⟨_, rfl⟩
 simp only at ht Hn hsz
 rw [htk] at ht
 simp only at ht
 have Htk := hide htk
 have Hr := hide ht
 clear htk ht
 go_enter Tryz.func50, Tryz.ntmps50
 go_wp2_with fail
 refine (Hn.out).mono ?_
 rintro x w1 ⟨rfl, hr1, hf1⟩
 have Ht := hide (vtake_any hr1 (Nat.le_trans hsz hm) (n : Int))
 rw [Htk.out] at Ht
 go_wp2_with fail
 refine (Ht.out).mono ?_
 rintro x w2 ⟨rfl, hr2, hf2⟩
 have g1 := hr2.c1
 have g0 := hr2.c0
 have p0 := hr2.f0
 have hf := hf1.trans hf2
 by_cases he : e2 = 0
 ·subst he
  go_wp2
  go_ret
  rw [Hr.out]
  exact ⟨rfl, hr2, hf⟩
 ·have hne : ((e2 : Int) != 0) = true := by rw [bne_iff_ne]; omega
  have Hr2 : Hid (r = (bs [], s, e2)) := hide (by rw [Hr.out, if_neg he])
  clear he
  go_wp2
  go_ret
  rw [Hr2.out]
  exact ⟨rfl, by simpa [RV] using Bk.put hr2 0 (.string s), hf.setCell (p := ⟨b, 0, none⟩) (.inl rfl) _⟩
def endR (s : ByteArray) (e : Nat) : Nat := if e = 0 ∧ s.size ≠ 0 then 12 else e
set_option maxHeartbeats 400000 in
theorem vend_any {w : World} {b e : Nat} {s : ByteArray} (h : RV w b s e) :
  Calls Tryz.prog 32 #[.pointer (some ⟨b, 0, none⟩)] w fun x w' => x = .returned (.int .i64 (endR s e : Nat)) ∧ Fr (only b) w w' := by
 have h0 := h.c0
 have h1 := h.c1
 by_cases he : e = 0
 ·subst he
  by_cases hs : s.size = 0
  ·have hr : endR s 0 = 0 := by unfold endR; rw [if_neg (by omega)]
   have hem := emp1 hs
   have Hr := hide hr
   clear hs hr
   go_enter Tryz.func32, Tryz.ntmps32
   go_wp2
   go_ret
   exact ⟨ret_int (by rw [Hr.out]; rfl), Fr.refl _ _⟩
  ·have hr : endR s 0 = 12 := by unfold endR; rw [if_pos ⟨rfl, hs⟩]
   have hem := emp0 (s := s) (by omega)
   have Hr := hide hr
   have Hf := hide (vfail_any h 12)
   clear hs hr
   go_enter Tryz.func32, Tryz.ntmps32
   go_wp2_with fail
   refine (Hf.out).mono ?_
   rintro x w2 ⟨rfl, hr2, hf2⟩
   have g1 := hr2.c1
   go_wp2
   go_ret
   exact ⟨ret_int (by rw [Hr.out]; rfl), hf2⟩
 ·have hr : endR s e = e := by unfold endR; rw [if_neg (by omega)]
  have hne : ((e : Int) == 0) = false := by rw [beq_eq_false_iff_ne]; omega
  have Hr := hide hr
  clear hr he
  go_enter Tryz.func32, Tryz.ntmps32
  go_wp2
  go_ret
  exact ⟨ret_int (by rw [Hr.out]), Fr.refl _ _⟩
end Go.Proofs.YtjfcemlbbinanaaGreatDoor
/-
  What a reader answers, in the words of the plain definitions.
-/
namespace Go.Proofs.YtjfcemlbbinanaaGreatDoor
open Go.RowKit Go.Proofs Wv Wv.Vi Wv.Rc Wv.Mo Wv.Ru
set_option linter.unusedVariables false
theorem xnumR_ok {s : List UInt8} {n z : Nat} {most : Int} (h : rd s = some (n, z)) (hm : ¬ most < (n : Int)) : numR (bs s) 0 most = (n, bs (s.drop z), 0) := by
 unfold numR
 rw [if_pos rfl, toL_bs, h]
 simp only
 rw [if_neg hm]
theorem xnumR_far {s : List UInt8} {n z : Nat} {most : Int} (h : rd s = some (n, z)) (hm : most < (n : Int)) : numR (bs s) 0 most = (0, bs s, 2) := by
 unfold numR
 rw [if_pos rfl, toL_bs, h]
 simp only
 rw [if_pos hm]
theorem xnumR_none {s : List UInt8} {most : Int} (h : rd s = none) : numR (bs s) 0 most = (0, bs s, 12) := by
 unfold numR
 rw [if_pos rfl, toL_bs, h]
theorem xnumR_err {s : ByteArray} {e : Nat} (he : e ≠ 0) (most : Int) : numR s e most = (0, s, e) := by unfold numR; rw [if_neg he]
theorem xtakeR_err {s : ByteArray} {e : Nat} (he : e ≠ 0) (n : Int) : takeR s e n = (bs [], s, e) := by unfold takeR; rw [if_neg he]
theorem xnumR_some {s t : List UInt8} {n most : Nat} (h : rnum s most = some (n, t)) : numR (bs s) 0 (most : Int) = (n, bs t, 0) ∧ n ≤ most ∧ t.length ≤ s.length := by
 unfold rnum at h
 match hr : rd s with
 | none => rw [hr] at h; cases h
 | some (m, z) =>
  rw [hr] at h
  simp only at h
  by_cases hm : most < m
  ·rw [if_pos hm] at h; cases h
  ·rw [if_neg hm] at h
   injection h with h
   injection h with h1 h2
   subst h1; subst h2
   exact ⟨xnumR_ok hr (by omega), by omega, by rw [List.length_drop]; omega⟩
theorem xnumR_nok {s : List UInt8} {most : Nat} (h : rnum s most = none) : ∃ e, e ≠ 0 ∧ numR (bs s) 0 (most : Int) = (0, bs s, e) := by
 unfold rnum at h
 match hr : rd s with
 | none => exact ⟨12, by decide, xnumR_none hr⟩
 | some (m, z) =>
  rw [hr] at h
  simp only at h
  by_cases hm : most < m
  ·exact ⟨2, by decide, xnumR_far hr (by omega)⟩
  ·rw [if_neg hm] at h; cases h
theorem xtextR_err {s : ByteArray} {e : Nat} (he : e ≠ 0) (most : Int) : textR s e most = (bs [], s, e) := by
 unfold textR
 rw [xnumR_err he]
 simp only
 rw [xtakeR_err he]
 simp only
 rw [if_neg he]
theorem xtextR_some {s t a : List UInt8} {most : Nat} (h : rtext s most = some (a, t)) : textR (bs s) 0 (most : Int) = (bs a, bs t, 0) ∧ a.length ≤ s.length ∧ t.length ≤ s.length ∧ a.length ≤ most := by
 unfold rtext at h
 match hr : rnum s most with
 | none => rw [hr] at h; cases h
 | some (n, u) =>
  rw [hr] at h
  simp only at h
  obtain ⟨h1, h2, h3⟩ := xnumR_some hr
  by_cases hm : u.length < n
  ·rw [if_pos hm] at h; cases h
  ·rw [if_neg hm] at h
   injection h with h
   injection h with h4 h5
   subst h4; subst h5
   have ht : takeR (bs u) 0 (n : Int) = (bs (u.take n), bs (u.drop n), 0) := by
    unfold takeR
    rw [if_pos rfl, if_neg (by omega), if_neg (by rw [bs_size]; omega), Int.toNat_natCast, toL_bs]
   refine ⟨?_, by rw [List.length_take]; omega, by rw [List.length_drop]; omega, by rw [List.length_take]; omega⟩
   unfold textR
   rw [h1]
   simp only
   rw [ht]
   simp only [if_true]
theorem xtextR_nok {s : List UInt8} {most : Nat} (h : rtext s most = none) : ∃ e, e ≠ 0 ∧ textR (bs s) 0 (most : Int) = (bs [], bs s, e) := by
 unfold rtext at h
 match hr : rnum s most with
 | none =>
  obtain ⟨e, h1, h2⟩ := xnumR_nok hr
  refine ⟨e, h1, ?_⟩
  unfold textR
  rw [h2]
  simp only
  rw [xtakeR_err h1]
  simp only
  rw [if_neg h1]
 | some (n, u) =>
  rw [hr] at h
  simp only at h
  obtain ⟨h1, h2, h3⟩ := xnumR_some hr
  by_cases hm : u.length < n
  ·have ht : takeR (bs u) 0 (n : Int) = (bs [], bs u, 12) := by
    unfold takeR
    rw [if_pos rfl, if_neg (by omega), if_pos (by rw [bs_size]; omega)]
   refine ⟨12, by decide, ?_⟩
   unfold textR
   rw [h1]
   simp only
   rw [ht]
   simp only
   rw [if_neg (by decide)]
  ·rw [if_neg hm] at h; cases h
theorem xtakeR_some {s : List UInt8} {n : Nat} (h : n ≤ s.length) : takeR (bs s) 0 (n : Int) = (bs (s.take n), bs (s.drop n), 0) := by
 unfold takeR
 rw [if_pos rfl, if_neg (by omega), if_neg (by rw [bs_size]; omega), Int.toNat_natCast, toL_bs]
theorem xtakeR_no {s : List UInt8} {n : Nat} (h : s.length < n) : takeR (bs s) 0 (n : Int) = (bs [], bs s, 12) := by
 unfold takeR
 rw [if_pos rfl, if_neg (by omega), if_pos (by rw [bs_size]; omega)]
theorem xonly_below {w w1 w2 : World} {b : Nat} (h : Below w.heap.size w w1) (hb : w.heap.size ≤ b) (k : Fr (only b) w1 w2) : Below w.heap.size w w2 :=
 h.trans (k.toBelow' h.size (fun j hj e => by have : j = b := e; omega))
end Go.Proofs.YtjfcemlbbinanaaGreatDoor
/-
  The walks over the kinds of values: the table of the kinds.
-/
namespace Go.Proofs.YtjfcemlbbinanaaGreatDoor
open Go.RowKit Go.Proofs Wv Wv.Vi Wv.Bc Wv.Sn
set_option linter.unusedVariables false
def knC (b1 b2 b3 : Nat) : Array Value := #[.int .i64 1, .int .i64 128, .func (.func 77) #[] #[], .func (.func 78) #[] #[], .func (.func 80) #[] #[], .func (.func 81) #[] #[], .string ⟨#[98]⟩,
 .int .i64 0, .int .i64 0, .func (.func 82) #[] #[], .func (.func 114) #[] #[.pointer (some ⟨b1, 0, none⟩)], .func (.func 85) #[] #[], .func (.func 87) #[] #[], .string ⟨#[114]⟩,
 .int .i64 0, .int .i64 0, .func (.func 88) #[] #[], .func (.func 114) #[] #[.pointer (some ⟨b2, 0, none⟩)], .func (.func 89) #[] #[], .func (.func 91) #[] #[], .string ⟨#[115]⟩,
 .int .i64 0, .int .i64 0, .func (.func 92) #[] #[], .func (.func 114) #[] #[.pointer (some ⟨b3, 0, none⟩)], .func (.func 93) #[] #[], .func (.func 94) #[] #[], .string ⟨#[]⟩]
set_option maxRecDepth 100000 in
theorem same_any (s : ByteArray) (w : World) :
  Calls Tryz.prog 84 #[.string s] w fun x w' => x = .returned (.func (.func 114) #[] #[.pointer (some ⟨w.heap.size, 0, none⟩)]) ∧ Bk w' w.heap.size 9 #[.string s] ∧ Below w.heap.size w w' := by
 go_enter Tryz.func84, Tryz.ntmps84
 go_wp2
 go_returns
 exact ⟨rfl, Bk.new _ _ _, (Below.refl _ _).alloc (Nat.le_refl _) _⟩
set_option maxRecDepth 100000 in
set_option maxHeartbeats 2000000 in
theorem kinds_any (w : World) :
  Calls Tryz.prog 52 #[] w fun x w' => ∃ R b1 b2 b3, x = .returned (.slice (some ⟨R, 0, none⟩) 4 4) ∧ Bk w' R 69 (knC b1 b2 b3) ∧ Bk w' b1 9 #[.string ⟨#[48]⟩] ∧ Bk w' b2 9 #[.string ⟨#[]⟩] ∧ Bk w' b3 9 #[.string ⟨#[]⟩] ∧ Below w.heap.size w w' := by
 have Hs := hide (fun s W => same_any s W)
 go_enter Tryz.func52, Tryz.ntmps52
 go_wp2_with fail
 refine (Hs.out _ _).mono ?_
 rintro x w1 ⟨rfl, k1, hb1⟩
 have K1 := hide k1
 clear k1
 go_wp2_with fail
 refine (Hs.out _ _).mono ?_
 rintro x w2 ⟨rfl, k2, hb2⟩
 have K1b := hide (K1.out.below hb2 K1.out.lt)
 have hb12 := hb1.trans (hb2.mono hb1.size)
 have K2 := hide k2
 clear k2 hb2 K1 hb1
 go_wp2_with fail
 refine (Hs.out _ _).mono ?_
 rintro x w3 ⟨rfl, k3, hb3⟩
 have K1 := hide ((K1b.out.below hb3 K1b.out.lt).alloc (.cells (knC w.heap.size w1.heap.size w2.heap.size) 69))
 have K2b := hide ((K2.out.below hb3 K2.out.lt).alloc (.cells (knC w.heap.size w1.heap.size w2.heap.size) 69))
 have K3 := hide (k3.alloc (.cells (knC w.heap.size w1.heap.size w2.heap.size) 69))
 have hb := hb12.trans (hb3.mono hb12.size)
 have HB := hide (hb.alloc hb.size (.cells (knC w.heap.size w1.heap.size w2.heap.size) 69))
 clear hb hb12 hb3 k3 K2 K1b
 go_wp2
 go_returns
 exact ⟨_, _, _, _, rfl, Bk.new _ _ _, K1.out, K2b.out, K3.out, HB.out⟩
end Go.Proofs.YtjfcemlbbinanaaGreatDoor
/-
  The walks over the kinds of values: one kind.
-/
namespace Go.Proofs.YtjfcemlbbinanaaGreatDoor
open Go.RowKit Go.Proofs Wv Wv.Vi Wv.Bc Wv.Sn
set_option linter.unusedVariables false
def kcOf (n b : Nat) : Array Value := match n with
 | 0 => #[.int .i64 1, .int .i64 128, .func (.func 77) #[] #[], .func (.func 78) #[] #[], .func (.func 80) #[] #[], .func (.func 81) #[] #[], .string ⟨#[98]⟩]
 | 1 => #[.int .i64 0, .int .i64 0, .func (.func 82) #[] #[], .func (.func 114) #[] #[.pointer (some ⟨b, 0, none⟩)], .func (.func 85) #[] #[], .func (.func 87) #[] #[], .string ⟨#[114]⟩]
 | 2 => #[.int .i64 0, .int .i64 0, .func (.func 88) #[] #[], .func (.func 114) #[] #[.pointer (some ⟨b, 0, none⟩)], .func (.func 89) #[] #[], .func (.func 91) #[] #[], .string ⟨#[115]⟩]
 | _ => #[.int .i64 0, .int .i64 0, .func (.func 92) #[] #[], .func (.func 114) #[] #[.pointer (some ⟨b, 0, none⟩)], .func (.func 93) #[] #[], .func (.func 94) #[] #[], .string ⟨#[]⟩]
def iniB (n : Nat) : ByteArray := if n = 1 then ⟨#[48]⟩ else ⟨#[]⟩
def zkC : Array Value := #[.int .i64 0, .int .i64 0, .nilFunc, .nilFunc, .nilFunc, .nilFunc, .string ⟨#[]⟩]
def KdR (w' : World) (n : Int) (kc : Array Value) : Prop := ((n < 0 ∨ 4 ≤ n) ∧ kc = zkC) ∨ (0 ≤ n ∧ n < 4 ∧ ∃ b, kc = kcOf n.toNat b ∧ Bk w' b 9 #[.string (iniB n.toNat)])
theorem ty_out {n wd : Int} (h : n < 0 ∨ 4 ≤ n) : tyB (n, wd) = false := by
 unfold tyB
 simp only
 rw [decide_eq_false (show ¬ n = 0 by omega), decide_eq_false (show ¬ n = 1 by omega), decide_eq_false (show ¬ n = 2 by omega), decide_eq_false (show ¬ n = 3 by omega)]
 rfl
theorem res_kd {w W : World} (hb : Below (w.alloc (.cells zkC 69)).heap.size (w.alloc (.cells zkC 69)) W) :
  (W.cell? ⟨w.heap.size, 0, none⟩ = some (.int .i64 0) ∧ W.cell? ⟨w.heap.size, 1, none⟩ = some (.int .i64 0) ∧ W.cell? ⟨w.heap.size, 2, none⟩ = some .nilFunc ∧ W.cell? ⟨w.heap.size, 3, none⟩ = some .nilFunc ∧ W.cell? ⟨w.heap.size, 4, none⟩ = some .nilFunc ∧ W.cell? ⟨w.heap.size, 5, none⟩ = some .nilFunc ∧ W.cell? ⟨w.heap.size, 6, none⟩ = some (.string ⟨#[]⟩)) ∧
  (W.frozen? ⟨w.heap.size, 0, none⟩ = false ∧ W.frozen? ⟨w.heap.size, 1, none⟩ = false ∧ W.frozen? ⟨w.heap.size, 2, none⟩ = false ∧ W.frozen? ⟨w.heap.size, 3, none⟩ = false ∧ W.frozen? ⟨w.heap.size, 4, none⟩ = false ∧ W.frozen? ⟨w.heap.size, 5, none⟩ = false ∧ W.frozen? ⟨w.heap.size, 6, none⟩ = false) ∧ Bk W w.heap.size 69 zkC ∧ Below w.heap.size w W := by
 have h0 := (Bk.new w 69 zkC).below hb (by simp)
 have hB := ((Below.refl w.heap.size w).alloc (Nat.le_refl _) (.cells zkC 69)).trans (hb.mono (by simp))
 exact ⟨⟨h0.cell 0, h0.cell 1, h0.cell 2, h0.cell 3, h0.cell 4, h0.cell 5, h0.cell 6⟩, ⟨h0.frozen 0, h0.frozen 1, h0.frozen 2, h0.frozen 3, h0.frozen 4, h0.frozen 5, h0.frozen 6⟩, h0, hB⟩
theorem Bk.apart2 {w W : World} {R : Nat} {a b c : Nat} (h : Bk W R 69 (knC a b c)) (h2 : Bk W w.heap.size 69 zkC) : R ≠ w.heap.size := by
 rintro rfl
 unfold Bk at h h2
 rw [h] at h2
 injection h2 with h2
 injection h2 with h3 h4
 have := congrArg Array.size h3
 simp [knC, zkC] at this
theorem Bk.seven {w : World} {g N : Nat} {t : TypeId} {cs : Array Value} (h : Bk w g t cs) (hn : g ≠ N) (a0 a1 a2 a3 a4 a5 a6 : Value) : Bk (((((((w.setCell ⟨N, 0, none⟩ a0).setCell ⟨N, 1, none⟩ a1).setCell ⟨N, 2, none⟩ a2).setCell ⟨N, 3, none⟩ a3).setCell ⟨N, 4, none⟩ a4).setCell ⟨N, 5, none⟩ a5).setCell ⟨N, 6, none⟩ a6) g t cs :=
 ((((((h.off (p := ⟨N, 0, none⟩) hn _).off (p := ⟨N, 1, none⟩) hn _).off (p := ⟨N, 2, none⟩) hn _).off (p := ⟨N, 3, none⟩) hn _).off (p := ⟨N, 4, none⟩) hn _).off (p := ⟨N, 5, none⟩) hn _).off (p := ⟨N, 6, none⟩) hn _
set_option maxRecDepth 100000 in
set_option maxHeartbeats 4000000 in
theorem of_any (n wd : Int) (w : World) :
  Calls Tryz.prog 34 #[.int .i64 n, .int .i64 wd] w fun x w' => ∃ kc, x = .returned (.tuple #[.agg kc, .bool (tyB (n, wd))]) ∧ KdR w' n kc ∧ Below w.heap.size w w' := by
 have Hk := hide (fun W => kinds_any W)
 have Hr := hide (fun W hb => res_kd (w := w) (W := W) hb)
 unfold zkC at Hr
 by_cases hout : n < 0 ∨ 4 ≤ n
 ·have hty := ty_out (wd := wd) hout
  have hR : Hid (∀ w', Below w.heap.size w w' → KdR w' n zkC) := hide (fun w' _ => Or.inl ⟨hout, rfl⟩)
  rw [hty]
  unfold zkC at hR
  have hc : n < 0 ∨ (¬ n < 0 ∧ 4 ≤ n) := by omega
  rcases hc with hc | ⟨hc, hc2⟩
  all_goals
   clear hout hty
   go_enter Tryz.func34, Tryz.ntmps34
   go_wp2_with fail
   refine (Hk.out _).mono ?_
   rintro x w1 ⟨R, b1, b2, b3, rfl, hR1, hk1, hk2, hk3, hb1⟩
   obtain ⟨⟨c0, c1, c2, c3, c4, c5, c6⟩, ⟨f0, f1, f2, f3, f4, f5, f6⟩, hz, hB⟩ := Hr.out _ hb1
   have hF := ((((((hz.put 0 (.int .i64 0)).put 1 (.int .i64 0)).put 2 .nilFunc).put 3 .nilFunc).put 4 .nilFunc).put 5 .nilFunc).put 6 (.string ⟨#[]⟩)
   have z0 := hF.cell 0
   have z1 := hF.cell 1
   have z2 := hF.cell 2
   have z3 := hF.cell 3
   have z4 := hF.cell 4
   have z5 := hF.cell 5
   have z6 := hF.cell 6
   unfold zkC at z0 z1 z2 z3 z4 z5 z6
   simp at z0 z1 z2 z3 z4 z5 z6
   have HB := hide ((((((((hB.setCell (p := ⟨w.heap.size, 0, none⟩) (Nat.le_refl _) (.int .i64 0)).setCell (p := ⟨w.heap.size, 1, none⟩) (Nat.le_refl _) (.int .i64 0)).setCell (p := ⟨w.heap.size, 2, none⟩) (Nat.le_refl _) .nilFunc).setCell (p := ⟨w.heap.size, 3, none⟩) (Nat.le_refl _) .nilFunc).setCell (p := ⟨w.heap.size, 4, none⟩) (Nat.le_refl _) .nilFunc).setCell (p := ⟨w.heap.size, 5, none⟩) (Nat.le_refl _) .nilFunc).setCell (p := ⟨w.heap.size, 6, none⟩) (Nat.le_refl _) (.string ⟨#[]⟩)))
   clear hF hz hB hb1 hR1 hk1 hk2 hk3 Hr Hk
   go_wp2_with ((with_reducible show bodyPost _ _ _ _ _ _); refine bodyPost_ret (v := .tuple #[.agg #[.int .i64 0, .int .i64 0, .nilFunc, .nilFunc, .nilFunc, .nilFunc, .string ⟨#[]⟩], .bool false]) (by simp [results, Tryz.results34, go_sem, z0, z1, z2, z3, z4, z5, z6]; try rfl) rfl ?_; exact ⟨_, rfl, hR.out _ HB.out, HB.out⟩)
 ·have hn4 : n = 0 ∨ n = 1 ∨ n = 2 ∨ n = 3 := by omega
  rcases hn4 with rfl | rfl | rfl | rfl
  ·clear hout
   go_enter Tryz.func34, Tryz.ntmps34
   go_wp2_with fail
   refine (Hk.out _).mono ?_
   rintro x w1 ⟨R, b1, b2, b3, rfl, hR1, hk1, hk2, hk3, hb1⟩
   obtain ⟨⟨c0, c1, c2, c3, c4, c5, c6⟩, ⟨f0, f1, f2, f3, f4, f5, f6⟩, hz, hB⟩ := Hr.out _ hb1
   have hRN : R ≠ w.heap.size := Bk.apart2 hR1 hz
   have q0 : w1.cell? ⟨R, 0, none⟩ = some (.int .i64 1) := hR1.cell 0
   have q1 : w1.cell? ⟨R, 1, none⟩ = some (.int .i64 128) := hR1.cell 1
   have q2 : w1.cell? ⟨R, 2, none⟩ = some (.func (.func 77) #[] #[]) := hR1.cell 2
   have q3 : w1.cell? ⟨R, 3, none⟩ = some (.func (.func 78) #[] #[]) := hR1.cell 3
   have q4 : w1.cell? ⟨R, 4, none⟩ = some (.func (.func 80) #[] #[]) := hR1.cell 4
   have q5 : w1.cell? ⟨R, 5, none⟩ = some (.func (.func 81) #[] #[]) := hR1.cell 5
   have q6 : w1.cell? ⟨R, 6, none⟩ = some (.string ⟨#[98]⟩) := hR1.cell 6
   have hF := Bk.drew (((((((hz.put 0 (.int .i64 1)).put 1 (.int .i64 128)).put 2 (.func (.func 77) #[] #[])).put 3 (.func (.func 78) #[] #[])).put 4 (.func (.func 80) #[] #[])).put 5 (.func (.func 81) #[] #[])).put 6 (.string ⟨#[98]⟩))
   have z0 := hF.cell 0
   have z1 := hF.cell 1
   have z2 := hF.cell 2
   have z3 := hF.cell 3
   have z4 := hF.cell 4
   have z5 := hF.cell 5
   have z6 := hF.cell 6
   unfold zkC at z0 z1 z2 z3 z4 z5 z6
   simp at z0 z1 z2 z3 z4 z5 z6
   have HB := hide ((((((((hB.setCell (p := ⟨w.heap.size, 0, none⟩) (Nat.le_refl _) (.int .i64 1)).setCell (p := ⟨w.heap.size, 1, none⟩) (Nat.le_refl _) (.int .i64 128)).setCell (p := ⟨w.heap.size, 2, none⟩) (Nat.le_refl _) (.func (.func 77) #[] #[])).setCell (p := ⟨w.heap.size, 3, none⟩) (Nat.le_refl _) (.func (.func 78) #[] #[])).setCell (p := ⟨w.heap.size, 4, none⟩) (Nat.le_refl _) (.func (.func 80) #[] #[])).setCell (p := ⟨w.heap.size, 5, none⟩) (Nat.le_refl _) (.func (.func 81) #[] #[])).setCell (p := ⟨w.heap.size, 6, none⟩) (Nat.le_refl _) (.string ⟨#[98]⟩)).drew)
   have HK := hide (Bk.drew (Bk.seven hk2 (Bk.apart hk2 hz (by decide)) (.int .i64 1) (.int .i64 128) (.func (.func 77) #[] #[]) (.func (.func 78) #[] #[]) (.func (.func 80) #[] #[]) (.func (.func 81) #[] #[]) (.string ⟨#[98]⟩)))
   have HR : Hid (∀ (b : Bool), (tyB (0, wd) = b) → ∀ w', Below w.heap.size w w' → Bk w' b2 9 #[.string (iniB 0)] → Ending.returned (.tuple #[.agg #[(.int .i64 1), (.int .i64 128), (.func (.func 77) #[] #[]), (.func (.func 78) #[] #[]), (.func (.func 80) #[] #[]), (.func (.func 81) #[] #[]), (.string ⟨#[98]⟩)], .bool b]) = Ending.returned (.tuple #[.agg #[(.int .i64 1), (.int .i64 128), (.func (.func 77) #[] #[]), (.func (.func 78) #[] #[]), (.func (.func 80) #[] #[]), (.func (.func 81) #[] #[]), (.string ⟨#[98]⟩)], .bool (tyB (0, wd))]) ∧ KdR w' 0 #[(.int .i64 1), (.int .i64 128), (.func (.func 77) #[] #[]), (.func (.func 78) #[] #[]), (.func (.func 80) #[] #[]), (.func (.func 81) #[] #[]), (.string ⟨#[98]⟩)] ∧ Below w.heap.size w w') := hide (fun b hb w' h1 h2 => ⟨by rw [hb], Or.inr ⟨by decide, by decide, b2, rfl, h2⟩, h1⟩)
   clear hF hz hB hb1 hR1 hk1 hk2 hk3 Hr Hk
   by_cases hlo : (1 : Int) ≤ wd
   ·by_cases hhi : wd ≤ 128
    ·have d1 : decide ((1 : Int) ≤ wd) = true := decide_eq_true hlo
     have d2 : decide (wd ≤ 128) = true := decide_eq_true hhi
     have Hty : Hid (tyB (0, wd) = true) := hide (by unfold tyB; simp; omega)
     go_wp2
     go_region
     all_goals
      go_wp2_with ((with_reducible show bodyPost _ _ _ _ _ _); refine bodyPost_ret (v := .tuple #[.agg #[(.int .i64 1), (.int .i64 128), (.func (.func 77) #[] #[]), (.func (.func 78) #[] #[]), (.func (.func 80) #[] #[]), (.func (.func 81) #[] #[]), (.string ⟨#[98]⟩)], .bool true]) (by simp [results, Tryz.results34, go_sem, z0, z1, z2, z3, z4, z5, z6]; try rfl) rfl ?_; exact ⟨_, HR.out _ Hty.out _ HB.out HK.out⟩)
    ·have d1 : decide ((1 : Int) ≤ wd) = true := decide_eq_true hlo
     have d2 : decide (wd ≤ 128) = false := decide_eq_false hhi
     have Hty : Hid (tyB (0, wd) = false) := hide (by unfold tyB; simp; omega)
     go_wp2
     go_region
     all_goals
      go_wp2_with ((with_reducible show bodyPost _ _ _ _ _ _); refine bodyPost_ret (v := .tuple #[.agg #[(.int .i64 1), (.int .i64 128), (.func (.func 77) #[] #[]), (.func (.func 78) #[] #[]), (.func (.func 80) #[] #[]), (.func (.func 81) #[] #[]), (.string ⟨#[98]⟩)], .bool false]) (by simp [results, Tryz.results34, go_sem, z0, z1, z2, z3, z4, z5, z6]; try rfl) rfl ?_; exact ⟨_, HR.out _ Hty.out _ HB.out HK.out⟩)
   ·have d1 : decide ((1 : Int) ≤ wd) = false := decide_eq_false hlo
    have Hty : Hid (tyB (0, wd) = false) := hide (by unfold tyB; simp; omega)
    go_wp2
    go_region
    all_goals
     go_wp2_with ((with_reducible show bodyPost _ _ _ _ _ _); refine bodyPost_ret (v := .tuple #[.agg #[(.int .i64 1), (.int .i64 128), (.func (.func 77) #[] #[]), (.func (.func 78) #[] #[]), (.func (.func 80) #[] #[]), (.func (.func 81) #[] #[]), (.string ⟨#[98]⟩)], .bool false]) (by simp [results, Tryz.results34, go_sem, z0, z1, z2, z3, z4, z5, z6]; try rfl) rfl ?_; exact ⟨_, HR.out _ Hty.out _ HB.out HK.out⟩)
  ·clear hout
   go_enter Tryz.func34, Tryz.ntmps34
   go_wp2_with fail
   refine (Hk.out _).mono ?_
   rintro x w1 ⟨R, b1, b2, b3, rfl, hR1, hk1, hk2, hk3, hb1⟩
   obtain ⟨⟨c0, c1, c2, c3, c4, c5, c6⟩, ⟨f0, f1, f2, f3, f4, f5, f6⟩, hz, hB⟩ := Hr.out _ hb1
   have hRN : R ≠ w.heap.size := Bk.apart2 hR1 hz
   have q0 : w1.cell? ⟨R, 7, none⟩ = some (.int .i64 0) := hR1.cell 7
   have q1 : w1.cell? ⟨R, 8, none⟩ = some (.int .i64 0) := hR1.cell 8
   have q2 : w1.cell? ⟨R, 9, none⟩ = some (.func (.func 82) #[] #[]) := hR1.cell 9
   have q3 : w1.cell? ⟨R, 10, none⟩ = some (.func (.func 114) #[] #[.pointer (some ⟨b1, 0, none⟩)]) := hR1.cell 10
   have q4 : w1.cell? ⟨R, 11, none⟩ = some (.func (.func 85) #[] #[]) := hR1.cell 11
   have q5 : w1.cell? ⟨R, 12, none⟩ = some (.func (.func 87) #[] #[]) := hR1.cell 12
   have q6 : w1.cell? ⟨R, 13, none⟩ = some (.string ⟨#[114]⟩) := hR1.cell 13
   have hF := Bk.drew (((((((hz.put 0 (.int .i64 0)).put 1 (.int .i64 0)).put 2 (.func (.func 82) #[] #[])).put 3 (.func (.func 114) #[] #[.pointer (some ⟨b1, 0, none⟩)])).put 4 (.func (.func 85) #[] #[])).put 5 (.func (.func 87) #[] #[])).put 6 (.string ⟨#[114]⟩))
   have z0 := hF.cell 0
   have z1 := hF.cell 1
   have z2 := hF.cell 2
   have z3 := hF.cell 3
   have z4 := hF.cell 4
   have z5 := hF.cell 5
   have z6 := hF.cell 6
   unfold zkC at z0 z1 z2 z3 z4 z5 z6
   simp at z0 z1 z2 z3 z4 z5 z6
   have HB := hide ((((((((hB.setCell (p := ⟨w.heap.size, 0, none⟩) (Nat.le_refl _) (.int .i64 0)).setCell (p := ⟨w.heap.size, 1, none⟩) (Nat.le_refl _) (.int .i64 0)).setCell (p := ⟨w.heap.size, 2, none⟩) (Nat.le_refl _) (.func (.func 82) #[] #[])).setCell (p := ⟨w.heap.size, 3, none⟩) (Nat.le_refl _) (.func (.func 114) #[] #[.pointer (some ⟨b1, 0, none⟩)])).setCell (p := ⟨w.heap.size, 4, none⟩) (Nat.le_refl _) (.func (.func 85) #[] #[])).setCell (p := ⟨w.heap.size, 5, none⟩) (Nat.le_refl _) (.func (.func 87) #[] #[])).setCell (p := ⟨w.heap.size, 6, none⟩) (Nat.le_refl _) (.string ⟨#[114]⟩)).drew)
   have HK := hide (Bk.drew (Bk.seven hk1 (Bk.apart hk1 hz (by decide)) (.int .i64 0) (.int .i64 0) (.func (.func 82) #[] #[]) (.func (.func 114) #[] #[.pointer (some ⟨b1, 0, none⟩)]) (.func (.func 85) #[] #[]) (.func (.func 87) #[] #[]) (.string ⟨#[114]⟩)))
   have HR : Hid (∀ (b : Bool), (tyB (1, wd) = b) → ∀ w', Below w.heap.size w w' → Bk w' b1 9 #[.string (iniB 1)] → Ending.returned (.tuple #[.agg #[(.int .i64 0), (.int .i64 0), (.func (.func 82) #[] #[]), (.func (.func 114) #[] #[.pointer (some ⟨b1, 0, none⟩)]), (.func (.func 85) #[] #[]), (.func (.func 87) #[] #[]), (.string ⟨#[114]⟩)], .bool b]) = Ending.returned (.tuple #[.agg #[(.int .i64 0), (.int .i64 0), (.func (.func 82) #[] #[]), (.func (.func 114) #[] #[.pointer (some ⟨b1, 0, none⟩)]), (.func (.func 85) #[] #[]), (.func (.func 87) #[] #[]), (.string ⟨#[114]⟩)], .bool (tyB (1, wd))]) ∧ KdR w' 1 #[(.int .i64 0), (.int .i64 0), (.func (.func 82) #[] #[]), (.func (.func 114) #[] #[.pointer (some ⟨b1, 0, none⟩)]), (.func (.func 85) #[] #[]), (.func (.func 87) #[] #[]), (.string ⟨#[114]⟩)] ∧ Below w.heap.size w w') := hide (fun b hb w' h1 h2 => ⟨by rw [hb], Or.inr ⟨by decide, by decide, b1, rfl, h2⟩, h1⟩)
   clear hF hz hB hb1 hR1 hk1 hk2 hk3 Hr Hk
   by_cases hlo : (0 : Int) ≤ wd
   ·by_cases hhi : wd ≤ 0
    ·have d1 : decide ((0 : Int) ≤ wd) = true := decide_eq_true hlo
     have d2 : decide (wd ≤ 0) = true := decide_eq_true hhi
     have Hty : Hid (tyB (1, wd) = true) := hide (by unfold tyB; simp; omega)
     go_wp2
     go_region
     all_goals
      go_wp2_with ((with_reducible show bodyPost _ _ _ _ _ _); refine bodyPost_ret (v := .tuple #[.agg #[(.int .i64 0), (.int .i64 0), (.func (.func 82) #[] #[]), (.func (.func 114) #[] #[.pointer (some ⟨b1, 0, none⟩)]), (.func (.func 85) #[] #[]), (.func (.func 87) #[] #[]), (.string ⟨#[114]⟩)], .bool true]) (by simp [results, Tryz.results34, go_sem, z0, z1, z2, z3, z4, z5, z6]; try rfl) rfl ?_; exact ⟨_, HR.out _ Hty.out _ HB.out HK.out⟩)
    ·have d1 : decide ((0 : Int) ≤ wd) = true := decide_eq_true hlo
     have d2 : decide (wd ≤ 0) = false := decide_eq_false hhi
     have Hty : Hid (tyB (1, wd) = false) := hide (by unfold tyB; simp; omega)
     go_wp2
     go_region
     all_goals
      go_wp2_with ((with_reducible show bodyPost _ _ _ _ _ _); refine bodyPost_ret (v := .tuple #[.agg #[(.int .i64 0), (.int .i64 0), (.func (.func 82) #[] #[]), (.func (.func 114) #[] #[.pointer (some ⟨b1, 0, none⟩)]), (.func (.func 85) #[] #[]), (.func (.func 87) #[] #[]), (.string ⟨#[114]⟩)], .bool false]) (by simp [results, Tryz.results34, go_sem, z0, z1, z2, z3, z4, z5, z6]; try rfl) rfl ?_; exact ⟨_, HR.out _ Hty.out _ HB.out HK.out⟩)
   ·have d1 : decide ((0 : Int) ≤ wd) = false := decide_eq_false hlo
    have Hty : Hid (tyB (1, wd) = false) := hide (by unfold tyB; simp; omega)
    go_wp2
    go_region
    all_goals
     go_wp2_with ((with_reducible show bodyPost _ _ _ _ _ _); refine bodyPost_ret (v := .tuple #[.agg #[(.int .i64 0), (.int .i64 0), (.func (.func 82) #[] #[]), (.func (.func 114) #[] #[.pointer (some ⟨b1, 0, none⟩)]), (.func (.func 85) #[] #[]), (.func (.func 87) #[] #[]), (.string ⟨#[114]⟩)], .bool false]) (by simp [results, Tryz.results34, go_sem, z0, z1, z2, z3, z4, z5, z6]; try rfl) rfl ?_; exact ⟨_, HR.out _ Hty.out _ HB.out HK.out⟩)
  ·clear hout
   go_enter Tryz.func34, Tryz.ntmps34
   go_wp2_with fail
   refine (Hk.out _).mono ?_
   rintro x w1 ⟨R, b1, b2, b3, rfl, hR1, hk1, hk2, hk3, hb1⟩
   obtain ⟨⟨c0, c1, c2, c3, c4, c5, c6⟩, ⟨f0, f1, f2, f3, f4, f5, f6⟩, hz, hB⟩ := Hr.out _ hb1
   have hRN : R ≠ w.heap.size := Bk.apart2 hR1 hz
   have q0 : w1.cell? ⟨R, 14, none⟩ = some (.int .i64 0) := hR1.cell 14
   have q1 : w1.cell? ⟨R, 15, none⟩ = some (.int .i64 0) := hR1.cell 15
   have q2 : w1.cell? ⟨R, 16, none⟩ = some (.func (.func 88) #[] #[]) := hR1.cell 16
   have q3 : w1.cell? ⟨R, 17, none⟩ = some (.func (.func 114) #[] #[.pointer (some ⟨b2, 0, none⟩)]) := hR1.cell 17
   have q4 : w1.cell? ⟨R, 18, none⟩ = some (.func (.func 89) #[] #[]) := hR1.cell 18
   have q5 : w1.cell? ⟨R, 19, none⟩ = some (.func (.func 91) #[] #[]) := hR1.cell 19
   have q6 : w1.cell? ⟨R, 20, none⟩ = some (.string ⟨#[115]⟩) := hR1.cell 20
   have hF := Bk.drew (((((((hz.put 0 (.int .i64 0)).put 1 (.int .i64 0)).put 2 (.func (.func 88) #[] #[])).put 3 (.func (.func 114) #[] #[.pointer (some ⟨b2, 0, none⟩)])).put 4 (.func (.func 89) #[] #[])).put 5 (.func (.func 91) #[] #[])).put 6 (.string ⟨#[115]⟩))
   have z0 := hF.cell 0
   have z1 := hF.cell 1
   have z2 := hF.cell 2
   have z3 := hF.cell 3
   have z4 := hF.cell 4
   have z5 := hF.cell 5
   have z6 := hF.cell 6
   unfold zkC at z0 z1 z2 z3 z4 z5 z6
   simp at z0 z1 z2 z3 z4 z5 z6
   have HB := hide ((((((((hB.setCell (p := ⟨w.heap.size, 0, none⟩) (Nat.le_refl _) (.int .i64 0)).setCell (p := ⟨w.heap.size, 1, none⟩) (Nat.le_refl _) (.int .i64 0)).setCell (p := ⟨w.heap.size, 2, none⟩) (Nat.le_refl _) (.func (.func 88) #[] #[])).setCell (p := ⟨w.heap.size, 3, none⟩) (Nat.le_refl _) (.func (.func 114) #[] #[.pointer (some ⟨b2, 0, none⟩)])).setCell (p := ⟨w.heap.size, 4, none⟩) (Nat.le_refl _) (.func (.func 89) #[] #[])).setCell (p := ⟨w.heap.size, 5, none⟩) (Nat.le_refl _) (.func (.func 91) #[] #[])).setCell (p := ⟨w.heap.size, 6, none⟩) (Nat.le_refl _) (.string ⟨#[115]⟩)).drew)
   have HK := hide (Bk.drew (Bk.seven hk2 (Bk.apart hk2 hz (by decide)) (.int .i64 0) (.int .i64 0) (.func (.func 88) #[] #[]) (.func (.func 114) #[] #[.pointer (some ⟨b2, 0, none⟩)]) (.func (.func 89) #[] #[]) (.func (.func 91) #[] #[]) (.string ⟨#[115]⟩)))
   have HR : Hid (∀ (b : Bool), (tyB (2, wd) = b) → ∀ w', Below w.heap.size w w' → Bk w' b2 9 #[.string (iniB 2)] → Ending.returned (.tuple #[.agg #[(.int .i64 0), (.int .i64 0), (.func (.func 88) #[] #[]), (.func (.func 114) #[] #[.pointer (some ⟨b2, 0, none⟩)]), (.func (.func 89) #[] #[]), (.func (.func 91) #[] #[]), (.string ⟨#[115]⟩)], .bool b]) = Ending.returned (.tuple #[.agg #[(.int .i64 0), (.int .i64 0), (.func (.func 88) #[] #[]), (.func (.func 114) #[] #[.pointer (some ⟨b2, 0, none⟩)]), (.func (.func 89) #[] #[]), (.func (.func 91) #[] #[]), (.string ⟨#[115]⟩)], .bool (tyB (2, wd))]) ∧ KdR w' 2 #[(.int .i64 0), (.int .i64 0), (.func (.func 88) #[] #[]), (.func (.func 114) #[] #[.pointer (some ⟨b2, 0, none⟩)]), (.func (.func 89) #[] #[]), (.func (.func 91) #[] #[]), (.string ⟨#[115]⟩)] ∧ Below w.heap.size w w') := hide (fun b hb w' h1 h2 => ⟨by rw [hb], Or.inr ⟨by decide, by decide, b2, rfl, h2⟩, h1⟩)
   clear hF hz hB hb1 hR1 hk1 hk2 hk3 Hr Hk
   by_cases hlo : (0 : Int) ≤ wd
   ·by_cases hhi : wd ≤ 0
    ·have d1 : decide ((0 : Int) ≤ wd) = true := decide_eq_true hlo
     have d2 : decide (wd ≤ 0) = true := decide_eq_true hhi
     have Hty : Hid (tyB (2, wd) = true) := hide (by unfold tyB; simp; omega)
     go_wp2
     go_region
     all_goals
      go_wp2_with ((with_reducible show bodyPost _ _ _ _ _ _); refine bodyPost_ret (v := .tuple #[.agg #[(.int .i64 0), (.int .i64 0), (.func (.func 88) #[] #[]), (.func (.func 114) #[] #[.pointer (some ⟨b2, 0, none⟩)]), (.func (.func 89) #[] #[]), (.func (.func 91) #[] #[]), (.string ⟨#[115]⟩)], .bool true]) (by simp [results, Tryz.results34, go_sem, z0, z1, z2, z3, z4, z5, z6]; try rfl) rfl ?_; exact ⟨_, HR.out _ Hty.out _ HB.out HK.out⟩)
    ·have d1 : decide ((0 : Int) ≤ wd) = true := decide_eq_true hlo
     have d2 : decide (wd ≤ 0) = false := decide_eq_false hhi
     have Hty : Hid (tyB (2, wd) = false) := hide (by unfold tyB; simp; omega)
     go_wp2
     go_region
     all_goals
      go_wp2_with ((with_reducible show bodyPost _ _ _ _ _ _); refine bodyPost_ret (v := .tuple #[.agg #[(.int .i64 0), (.int .i64 0), (.func (.func 88) #[] #[]), (.func (.func 114) #[] #[.pointer (some ⟨b2, 0, none⟩)]), (.func (.func 89) #[] #[]), (.func (.func 91) #[] #[]), (.string ⟨#[115]⟩)], .bool false]) (by simp [results, Tryz.results34, go_sem, z0, z1, z2, z3, z4, z5, z6]; try rfl) rfl ?_; exact ⟨_, HR.out _ Hty.out _ HB.out HK.out⟩)
   ·have d1 : decide ((0 : Int) ≤ wd) = false := decide_eq_false hlo
    have Hty : Hid (tyB (2, wd) = false) := hide (by unfold tyB; simp; omega)
    go_wp2
    go_region
    all_goals
     go_wp2_with ((with_reducible show bodyPost _ _ _ _ _ _); refine bodyPost_ret (v := .tuple #[.agg #[(.int .i64 0), (.int .i64 0), (.func (.func 88) #[] #[]), (.func (.func 114) #[] #[.pointer (some ⟨b2, 0, none⟩)]), (.func (.func 89) #[] #[]), (.func (.func 91) #[] #[]), (.string ⟨#[115]⟩)], .bool false]) (by simp [results, Tryz.results34, go_sem, z0, z1, z2, z3, z4, z5, z6]; try rfl) rfl ?_; exact ⟨_, HR.out _ Hty.out _ HB.out HK.out⟩)
  ·clear hout
   go_enter Tryz.func34, Tryz.ntmps34
   go_wp2_with fail
   refine (Hk.out _).mono ?_
   rintro x w1 ⟨R, b1, b2, b3, rfl, hR1, hk1, hk2, hk3, hb1⟩
   obtain ⟨⟨c0, c1, c2, c3, c4, c5, c6⟩, ⟨f0, f1, f2, f3, f4, f5, f6⟩, hz, hB⟩ := Hr.out _ hb1
   have hRN : R ≠ w.heap.size := Bk.apart2 hR1 hz
   have q0 : w1.cell? ⟨R, 21, none⟩ = some (.int .i64 0) := hR1.cell 21
   have q1 : w1.cell? ⟨R, 22, none⟩ = some (.int .i64 0) := hR1.cell 22
   have q2 : w1.cell? ⟨R, 23, none⟩ = some (.func (.func 92) #[] #[]) := hR1.cell 23
   have q3 : w1.cell? ⟨R, 24, none⟩ = some (.func (.func 114) #[] #[.pointer (some ⟨b3, 0, none⟩)]) := hR1.cell 24
   have q4 : w1.cell? ⟨R, 25, none⟩ = some (.func (.func 93) #[] #[]) := hR1.cell 25
   have q5 : w1.cell? ⟨R, 26, none⟩ = some (.func (.func 94) #[] #[]) := hR1.cell 26
   have q6 : w1.cell? ⟨R, 27, none⟩ = some (.string ⟨#[]⟩) := hR1.cell 27
   have hF := Bk.drew (((((((hz.put 0 (.int .i64 0)).put 1 (.int .i64 0)).put 2 (.func (.func 92) #[] #[])).put 3 (.func (.func 114) #[] #[.pointer (some ⟨b3, 0, none⟩)])).put 4 (.func (.func 93) #[] #[])).put 5 (.func (.func 94) #[] #[])).put 6 (.string ⟨#[]⟩))
   have z0 := hF.cell 0
   have z1 := hF.cell 1
   have z2 := hF.cell 2
   have z3 := hF.cell 3
   have z4 := hF.cell 4
   have z5 := hF.cell 5
   have z6 := hF.cell 6
   unfold zkC at z0 z1 z2 z3 z4 z5 z6
   simp at z0 z1 z2 z3 z4 z5 z6
   have HB := hide ((((((((hB.setCell (p := ⟨w.heap.size, 0, none⟩) (Nat.le_refl _) (.int .i64 0)).setCell (p := ⟨w.heap.size, 1, none⟩) (Nat.le_refl _) (.int .i64 0)).setCell (p := ⟨w.heap.size, 2, none⟩) (Nat.le_refl _) (.func (.func 92) #[] #[])).setCell (p := ⟨w.heap.size, 3, none⟩) (Nat.le_refl _) (.func (.func 114) #[] #[.pointer (some ⟨b3, 0, none⟩)])).setCell (p := ⟨w.heap.size, 4, none⟩) (Nat.le_refl _) (.func (.func 93) #[] #[])).setCell (p := ⟨w.heap.size, 5, none⟩) (Nat.le_refl _) (.func (.func 94) #[] #[])).setCell (p := ⟨w.heap.size, 6, none⟩) (Nat.le_refl _) (.string ⟨#[]⟩)).drew)
   have HK := hide (Bk.drew (Bk.seven hk3 (Bk.apart hk3 hz (by decide)) (.int .i64 0) (.int .i64 0) (.func (.func 92) #[] #[]) (.func (.func 114) #[] #[.pointer (some ⟨b3, 0, none⟩)]) (.func (.func 93) #[] #[]) (.func (.func 94) #[] #[]) (.string ⟨#[]⟩)))
   have HR : Hid (∀ (b : Bool), (tyB (3, wd) = b) → ∀ w', Below w.heap.size w w' → Bk w' b3 9 #[.string (iniB 3)] → Ending.returned (.tuple #[.agg #[(.int .i64 0), (.int .i64 0), (.func (.func 92) #[] #[]), (.func (.func 114) #[] #[.pointer (some ⟨b3, 0, none⟩)]), (.func (.func 93) #[] #[]), (.func (.func 94) #[] #[]), (.string ⟨#[]⟩)], .bool b]) = Ending.returned (.tuple #[.agg #[(.int .i64 0), (.int .i64 0), (.func (.func 92) #[] #[]), (.func (.func 114) #[] #[.pointer (some ⟨b3, 0, none⟩)]), (.func (.func 93) #[] #[]), (.func (.func 94) #[] #[]), (.string ⟨#[]⟩)], .bool (tyB (3, wd))]) ∧ KdR w' 3 #[(.int .i64 0), (.int .i64 0), (.func (.func 92) #[] #[]), (.func (.func 114) #[] #[.pointer (some ⟨b3, 0, none⟩)]), (.func (.func 93) #[] #[]), (.func (.func 94) #[] #[]), (.string ⟨#[]⟩)] ∧ Below w.heap.size w w') := hide (fun b hb w' h1 h2 => ⟨by rw [hb], Or.inr ⟨by decide, by decide, b3, rfl, h2⟩, h1⟩)
   clear hF hz hB hb1 hR1 hk1 hk2 hk3 Hr Hk
   by_cases hlo : (0 : Int) ≤ wd
   ·by_cases hhi : wd ≤ 0
    ·have d1 : decide ((0 : Int) ≤ wd) = true := decide_eq_true hlo
     have d2 : decide (wd ≤ 0) = true := decide_eq_true hhi
     have Hty : Hid (tyB (3, wd) = true) := hide (by unfold tyB; simp; omega)
     go_wp2
     go_region
     all_goals
      go_wp2_with ((with_reducible show bodyPost _ _ _ _ _ _); refine bodyPost_ret (v := .tuple #[.agg #[(.int .i64 0), (.int .i64 0), (.func (.func 92) #[] #[]), (.func (.func 114) #[] #[.pointer (some ⟨b3, 0, none⟩)]), (.func (.func 93) #[] #[]), (.func (.func 94) #[] #[]), (.string ⟨#[]⟩)], .bool true]) (by simp [results, Tryz.results34, go_sem, z0, z1, z2, z3, z4, z5, z6]; try rfl) rfl ?_; exact ⟨_, HR.out _ Hty.out _ HB.out HK.out⟩)
    ·have d1 : decide ((0 : Int) ≤ wd) = true := decide_eq_true hlo
     have d2 : decide (wd ≤ 0) = false := decide_eq_false hhi
     have Hty : Hid (tyB (3, wd) = false) := hide (by unfold tyB; simp; omega)
     go_wp2
     go_region
     all_goals
      go_wp2_with ((with_reducible show bodyPost _ _ _ _ _ _); refine bodyPost_ret (v := .tuple #[.agg #[(.int .i64 0), (.int .i64 0), (.func (.func 92) #[] #[]), (.func (.func 114) #[] #[.pointer (some ⟨b3, 0, none⟩)]), (.func (.func 93) #[] #[]), (.func (.func 94) #[] #[]), (.string ⟨#[]⟩)], .bool false]) (by simp [results, Tryz.results34, go_sem, z0, z1, z2, z3, z4, z5, z6]; try rfl) rfl ?_; exact ⟨_, HR.out _ Hty.out _ HB.out HK.out⟩)
   ·have d1 : decide ((0 : Int) ≤ wd) = false := decide_eq_false hlo
    have Hty : Hid (tyB (3, wd) = false) := hide (by unfold tyB; simp; omega)
    go_wp2
    go_region
    all_goals
     go_wp2_with ((with_reducible show bodyPost _ _ _ _ _ _); refine bodyPost_ret (v := .tuple #[.agg #[(.int .i64 0), (.int .i64 0), (.func (.func 92) #[] #[]), (.func (.func 114) #[] #[.pointer (some ⟨b3, 0, none⟩)]), (.func (.func 93) #[] #[]), (.func (.func 94) #[] #[]), (.string ⟨#[]⟩)], .bool false]) (by simp [results, Tryz.results34, go_sem, z0, z1, z2, z3, z4, z5, z6]; try rfl) rfl ?_; exact ⟨_, HR.out _ Hty.out _ HB.out HK.out⟩)
end Go.Proofs.YtjfcemlbbinanaaGreatDoor
/-
  More of snapshots in plain Lean: the initial values, one value, values after changes. No program stands here.
-/
namespace Wv.Sn
open Wv.Vi Wv.Ru Wv.Bc Wv.Fm Wv.Lz
def initV (s : Int × Int) : List UInt8 := if s.1 = 0 then List.replicate s.2.toNat 120 else if s.1 = 1 then [48] else []
def initS (st : List (Int × Int)) : List ByteArray := if tysB st = false then [] else st.map (fun s => bs (initV s))
theorem init_va {dv : List UInt8 → Bool} (h48 : dv [48] = true) {s : Int × Int} (h : tyB s = true) : vaB dv s (initV s) = true := by
 unfold vaB
 rw [h, Bool.true_and]
 unfold kvB initV
 rcases tyB_kind h with h0 | ⟨h1, h2⟩
 ·obtain ⟨w1, w2⟩ := tyB_bits h h0
  rw [if_pos h0, if_pos h0]
  refine vld_iff.2 ⟨isV_iff.2 ⟨fun c hc => ?_, fun e => ?_, by rw [List.length_replicate]; omega⟩, by rw [List.length_replicate]; omega⟩
  ·rw [List.eq_of_mem_replicate hc]; decide
  ·have := congrArg List.length e
   rw [List.length_replicate] at this
   simp at this
   omega
 ·have h0 : ¬ s.1 = 0 := by omega
  rw [if_neg h0, if_neg h0]
  rcases h1 with h1 | h1 | h1
  ·rw [if_pos h1, if_pos h1, h48]
  ·simp [h1]
  ·simp [h1]
theorem init_len {s : Int × Int} (h : tyB s = true) : (wrV s (initV s)).length ≤ 32 := by
 rcases tyB_kind h with h0 | ⟨h1, h2⟩
 ·obtain ⟨w1, w2⟩ := tyB_bits h h0
  unfold wrV initV
  rw [if_pos h0, if_pos h0, List.length_append, Bit.pack_length, Bit.pack_length]
  unfold lowB higB
  rw [List.length_map, List.length_map, List.length_replicate]
  omega
 ·have h0 : ¬ s.1 = 0 := by omega
  unfold wrV initV
  rw [if_neg h0, if_neg h0]
  rcases h1 with h1 | h1 | h1
  ·rw [if_neg (by omega), if_pos h1]; decide
  ·rw [if_neg (by omega), if_neg (by omega)]; decide
  ·rw [if_pos h1]; decide
theorem init_vas {dv : List UInt8 → Bool} (h48 : dv [48] = true) : ∀ {st : List (Int × Int)}, (∀ s ∈ st, tyB s = true) → vasL dv st (st.map (fun s => bs (initV s))) = true ∧ (textS st (st.map (fun s => bs (initV s)))).length ≤ 32 * st.length
 | [], _ => ⟨rfl, Nat.le_refl _⟩
 | s :: st, h => by
  obtain ⟨i1, i2⟩ := init_vas (dv := dv) h48 (st := st) (fun x hx => h x (List.mem_cons_of_mem _ hx))
  have hs := h s List.mem_cons_self
  constructor
  ·show (vaB dv s (toL (bs (initV s))) && vasL dv st _) = true
   rw [toL_bs, init_va h48 hs, i1]; rfl
  ·show (wrV s (toL (bs (initV s))) ++ textS st _).length ≤ _
   rw [toL_bs, List.length_append, List.length_cons]
   have := init_len hs
   omega
theorem tysB_iff {st : List (Int × Int)} : tysB st = true ↔ (∀ s ∈ st, tyB s = true) ∧ st.length ≤ 64 := by
 unfold tysB
 rw [Bool.and_eq_true, List.all_eq_true, decide_eq_true_iff]
theorem init_law {dv : List UInt8 → Bool} (h48 : dv [48] = true) {st : List (Int × Int)} (h : tysB st = true) : vasB dv st (initS st) = true ∧ (snE dv st (initS st)).2 = 0 := by
 obtain ⟨h1, h2⟩ := tysB_iff.1 h
 have e : initS st = st.map (fun s => bs (initV s)) := by unfold initS; rw [if_neg (by simp [h])]
 obtain ⟨i1, i2⟩ := init_vas (dv := dv) h48 h1
 have hv : vasB dv st (initS st) = true := by unfold vasB; rw [h, e, i1]; rfl
 refine ⟨hv, ?_⟩
 unfold snE
 rw [if_neg (by simp [hv])]
 split
 ·rfl
 ·have := wrapS_some (k := 4) (c := textS st (initS st))
  rw [decide_eq_true (by rw [e]; omega)] at this
  cases hw : wrapS 4 (textS st (initS st)) with
  | none => rw [hw] at this; cases this
  | some w => rfl
theorem snE_err {dv : List UInt8 → Bool} {st : List (Int × Int)} {vs : List ByteArray} (h : (snE dv st vs).2 ≠ 0) : (vasB dv st vs = true ∧ snE dv st vs = ([], 9)) ∨ (vasB dv st vs = false ∧ snE dv st vs = ([], 1)) := by
 unfold snE at h ⊢
 cases hv : vasB dv st vs with
 | false => exact .inr ⟨rfl, if_pos rfl⟩
 | true =>
  rw [hv, if_neg (by decide)] at h
  rw [if_neg (by decide)]
  refine .inl ⟨rfl, ?_⟩
  split at h
  ·exact absurd rfl h
  ·rename_i ht
   rw [if_neg ht]
   cases hw : wrapS 4 (textS st vs) with
   | none => rfl
   | some w => rw [hw] at h; exact absurd rfl h
def snO (dv : List UInt8 → Bool) (st : List (Int × Int)) (data : List UInt8) (i : Int) : ByteArray × Nat := if tysB st = false then (bs [], 1) else if i < 0 ∨ (st.length : Int) ≤ i then (bs [], 2) else
 if (snD dv st data).2 ≠ 0 then (bs [], (snD dv st data).2) else ((snD dv st data).1.getD i.toNat default, 0)
/-! ## Changes -/
def aftV (v : ByteArray) (l : List (Int × ByteArray)) : ByteArray := match l.getLast? with
 | none => v
 | some c => c.2
def aftS : List ByteArray → List (List (Int × ByteArray)) → List ByteArray
 | [], _ => []
 | v :: vs, [] => v :: vs
 | v :: vs, l :: ls => aftV v l :: aftS vs ls
theorem aftS_len : ∀ (vs : List ByteArray) (ls : List (List (Int × ByteArray))), (aftS vs ls).length = vs.length
 | [], _ => rfl
 | _ :: _, [] => rfl
 | v :: vs, l :: ls => by simp [aftS, aftS_len vs ls]
theorem aftS_get : ∀ (vs : List ByteArray) (ls : List (List (Int × ByteArray))) (i : Nat), i < vs.length → (aftS vs ls).getD i default = if i < ls.length then aftV (vs.getD i default) (ls.getD i []) else vs.getD i default
 | [], _, i, h => by simp at h
 | v :: vs, [], i, h => by simp [aftS]
 | v :: vs, l :: ls, 0, h => by simp [aftS]
 | v :: vs, l :: ls, i + 1, h => by
  have := aftS_get vs ls i (by simpa using h)
  simp only [aftS, List.getD_cons_succ, List.length_cons, Nat.add_lt_add_iff_right]
  exact this
theorem aftV_parts (v : ByteArray) (l : List (Int × ByteArray)) (k : Nat) : aftV (aftV v (l.take k)) (l.drop k) = aftV v l := by
 unfold aftV
 by_cases h : l.drop k = []
 ·have e : l.take k = l := by
   have := List.take_append_drop k l
   rw [h, List.append_nil] at this
   exact this
  rw [h, e]
  rfl
 ·have e : (l.drop k).getLast? = l.getLast? := by
   have h2 := List.take_append_drop k l
   conv => rhs; rw [← h2]
   rw [List.getLast?_append]
   cases hq : (l.drop k).getLast? with
   | none => exact absurd (List.getLast?_eq_none_iff.1 hq) h
   | some c => rfl
  rw [e]
  cases hq : l.getLast? with
  | none =>
   rw [List.getLast?_eq_none_iff] at hq
   subst hq
   simp at h
  | some c => rfl
theorem aftS_parts (f : List (Int × ByteArray) → Nat) : ∀ (vs : List ByteArray) (ls : List (List (Int × ByteArray))), aftS (aftS vs (ls.map (fun l => l.take (f l)))) (ls.map (fun l => l.drop (f l))) = aftS vs ls
 | [], _ => rfl
 | _ :: _, [] => rfl
 | v :: vs, l :: ls => by
  show aftV (aftV v (l.take (f l))) (l.drop (f l)) :: aftS (aftS vs (ls.map (fun l => l.take (f l)))) (ls.map (fun l => l.drop (f l))) = aftV v l :: aftS vs ls
  rw [aftV_parts, aftS_parts f vs ls]
end Wv.Sn
namespace Wv.Dc
def validS (s : List UInt8) : Bool := (canN s).isSome
end Wv.Dc
/-
  The walks over the models, seventh part: the bytes of a list of numbers; the list with some bytes.
-/
namespace Go.Proofs.YtjfcemlbbinanaaGreatDoor
open Go.RowKit Go.Proofs Wv Wv.Vi Wv.Rc Wv.Mo
set_option linter.unusedVariables false

theorem ndec_v {t : List Nat} {d : De} (ht : TNum t) (hv : DV 0 d) : TNum (ndec t d).2.1 ∧ DV 0 (ndec t d).2.2 := by
 obtain ⟨k1, k2, k3, _, _⟩ := tdec_v 6 1 t d ht.1 (by rw [ht.2]; decide) hv
 refine ⟨⟨k1, k2.trans ht.2⟩, ?_⟩
 unfold ndec
 simp only
 split
 ·exact k3
 ·split
  ·exact k3
  ·exact (ddir_v _ 0 _ k3).1
theorem d0_v (s : List UInt8) : DV 0 (d0 s) := by
 have h1 : (dpre s).size = 4294967295 := by
  unfold dpre
  rw [dnext_v.1, dnext_v.1, dnext_v.1, dnext_v.1]
 exact ⟨by show Szk 0 (dpre s).size; rw [h1]; exact ⟨by decide, by decide⟩, (dnext_v (d := dnext (dnext (dnext ⟨s, 0, 4294967295, false, false⟩)))).2⟩
def IRes (w : World) (v : Value) (l : List Int) : Prop := ∃ A cap, v = .slice A l.length cap ∧ At w A (ivs l)
theorem IRes.nil (w : World) : IRes w (.slice none 0 0) [] := ⟨none, 0, rfl, At.nil _ _⟩
end Go.Proofs.YtjfcemlbbinanaaGreatDoor
/-
  Slices of integers, of strings and of structs of two integers, as the arguments of a law: what the walk is told of them.
-/
namespace Wv
open Go Go.RowKit Go.Deep Go.ChangeShapes Go.WideShapes
set_option linter.unusedVariables false
theorem cell_lt' {w : World} {p : Addr} {v : Value} (h : w.cell? p = some v) : p.block < w.heap.size := by
 rcases Nat.lt_or_ge p.block w.heap.size with h1 | h1
 ·exact h1
 ·have h2 : w.heap[p.block]? = none := Array.getElem?_eq_none h1
  simp [World.cell?, h2] at h
section
variable {H : Type} {enc : TypeId × Value → H} {P : Program} {w : World} {base : Nat} {spare : Nat → Bool} {held : Bool}
def I64 (n : Int) : Prop := -9223372036854775808 ≤ n ∧ n ≤ 9223372036854775807
theorem i64_wf {n : Int} (h : (Lit.int .i64 n).wf = true) : I64 n := bounds_i64 h
theorem strs_open {t e : TypeId} {fuel n cap : Nat} {A : Option Addr} {x : DataW H × List MemPlace} (ht : P.underlying t = some (.slice e)) (c0 : P.cellsOf e = 1) (u0 : P.underlying e = some .string)
  (h : DataW.trod enc P w base spare held fuel t [.slice A n cap] = some x) :
  ∃ l : List ByteArray, At w A (l.map sv) ∧ (∀ s ∈ l, s.size ≤ 9223372036854775807) ∧ n = l.length ∧ n ≤ 9223372036854775807 := by
 rcases open_slice1 ht c0 h with ⟨h0, _⟩ | ⟨a, len, c, m, k, V, D, Pl, hcs, hb, hl, hm, hmm, rfl, hx⟩
 ·simp at h0
  obtain ⟨rfl, rfl, rfl⟩ := h0
  exact ⟨[], At.nil _ _, by simp, rfl, by omega⟩
 ·simp at hcs
  obtain ⟨rfl, rfl, rfl⟩ := hcs
  have hlm : n ≤ m := by rw [hmm]; split <;> omega
  have each : ∀ i, i < n → ∃ q : ByteArray, q.size ≤ maxLen ∧ w.cell? (a.add i) = some (.string q) := by
   intro i hi
   obtain ⟨h1, h2⟩ := hx i (by omega)
   obtain ⟨q, r, _, wf⟩ := DataW.trod_string u0 h2
   simp at r
   exact ⟨q, wf, r ▸ h1⟩
  obtain ⟨q, hq⟩ := choose_lt each
  refine ⟨(List.range n).map q, ?_, ?_, by simp, by unfold maxLen at hm; omega⟩
  ·intro i hi
   have hi' : i < n := by simpa using hi
   have q0 := (hq i hi').2
   obtain ⟨b, off, spot⟩ := a
   have hspot : spot = none := by simpa [Addr.add] using World.cell?_spot (hq 0 (by omega)).2
   subst hspot
   rw [add_plain] at q0
   refine ⟨b, off, rfl, cell_lt' q0, ?_⟩
   simp only [List.getElem_map, List.getElem_range, sv]
   exact q0
  ·intro c hc
   obtain ⟨i, hi, rfl⟩ := List.mem_map.1 hc
   have := (hq i (List.mem_range.1 hi)).1
   unfold maxLen at this
   omega
def pv (l : List (Int × Int)) : List Value := l.flatMap fun x => [iv x.1, iv x.2]
theorem pv_length (l : List (Int × Int)) : (pv l).length = l.length * 2 := by
 induction l with
 | nil => rfl
 | cons c D ih => rw [show pv (c :: D) = [iv c.1, iv c.2] ++ pv D from rfl, List.length_append, ih, List.length_cons]; simp; omega
theorem pv_get (D : List (Int × Int)) : ∀ (i : Nat) (h : i < D.length), (pv D)[i * 2]? = some (iv D[i].1) ∧ (pv D)[i * 2 + 1]? = some (iv D[i].2) := by
 induction D with
 | nil => intro i h; simp at h
 | cons c D ih =>
  intro i h
  have e : pv (c :: D) = [iv c.1, iv c.2] ++ pv D := rfl
  match i, h with
  | 0, _ => exact ⟨rfl, rfl⟩
  | i + 1, h =>
   have h2 : i < D.length := by simpa using h
   rw [e, List.getElem?_append_right (by simp; omega), List.getElem?_append_right (by simp; omega)]
   have := ih i h2
   rw [show (i + 1) * 2 - [iv c.1, iv c.2].length = i * 2 from by simp; omega, show (i + 1) * 2 + 1 - [iv c.1, iv c.2].length = i * 2 + 1 from by simp; omega]
   exact this
theorem pairs_open {t e i0 : TypeId} {f0 f1 : Field} {fuel n cap : Nat} {A : Option Addr} {x : DataW H × List MemPlace} (ht : P.underlying t = some (.slice e)) (he : P.underlying e = some (.struct #[f0, f1]))
  (ce : P.cellsOf e = 2) (o : f0.offset = 0 ∧ f1.offset = 1) (tt : f0.type = i0 ∧ f1.type = i0) (c0 : P.cellsOf i0 = 1) (u0 : P.underlying i0 = some (.int .i64))
  (h : DataW.trod enc P w base spare held fuel t [.slice A n cap] = some x) :
  ∃ l : List (Int × Int), At w A (pv l) ∧ (∀ c ∈ l, I64 c.1 ∧ I64 c.2) ∧ n = l.length ∧ n ≤ 9223372036854775807 := by
 obtain ⟨o0, o1⟩ := o
 obtain ⟨t0, t1⟩ := tt
 rcases open_slice ht h with ⟨h0, _⟩ | ⟨a, len, c, m, k, D, Pl, hcs, hb, hl, hm, hmm, rfl, hx⟩
 ·simp at h0
  obtain ⟨rfl, rfl, rfl⟩ := h0
  exact ⟨[], At.nil _ _, by simp, rfl, by omega⟩
 ·simp at hcs
  obtain ⟨rfl, rfl, rfl⟩ := hcs
  have hlm : n ≤ m := by rw [hmm]; split <;> omega
  have each : ∀ i, i < n → ∃ q : Int × Int, (I64 q.1 ∧ I64 q.2) ∧ w.cell? (a.add (i * 2)) = some (.int .i64 q.1) ∧ w.cell? (a.add (i * 2 + 1)) = some (.int .i64 q.2) := by
   intro i hi
   obtain ⟨cs', h1, h2⟩ := hx i (by omega)
   rw [ce] at h1
   obtain ⟨_, hlen, hcell⟩ := World.cells?_some h1
   obtain ⟨xs, k', hk, hxy, _, hxl, hf⟩ := DataW.trod_struct he h2
   match xs, hxl, cs', hlen with
   | [y0, y1], _, [v0, v1], _ =>
    have g0 := hf 0 f0 rfl
    have g1 := hf 1 f1 rfl
    simp [o0, t0, c0] at g0
    simp [o1, t1, c0] at g1
    obtain ⟨a0, r0, _, w0⟩ := DataW.trod_int u0 g0
    obtain ⟨a1, r1, _, w1⟩ := DataW.trod_int u0 g1
    simp at r0 r1
    subst r0 r1
    have e0 := hcell 0 (by omega)
    have e1 := hcell 1 (by omega)
    rw [add_add] at e0 e1
    exact ⟨(a0, a1), ⟨i64_wf w0, i64_wf w1⟩, by simpa using e0, by simpa using e1⟩
  have inh : Inhabited (Int × Int) := ⟨(0, 0)⟩
  obtain ⟨q, hq⟩ := choose_lt each
  refine ⟨(List.range n).map q, ?_, ?_, by simp, by unfold maxLen at hm; omega⟩
  ·intro i hi
   rw [pv_length] at hi
   obtain ⟨j, hj⟩ : ∃ j, i / 2 = j := ⟨_, rfl⟩
   have hi' : j < n := by simp at hi; omega
   obtain ⟨_, q0, q1⟩ := hq j hi'
   obtain ⟨b, off, spot⟩ := a
   have hspot : spot = none := by
    obtain ⟨_, z0, _⟩ := hq 0 (by omega)
    simpa [Addr.add] using World.cell?_spot z0
   subst hspot
   rw [add_plain] at q0 q1
   refine ⟨b, off, rfl, cell_lt' q0, ?_⟩
   obtain ⟨p0, p1⟩ := pv_get ((List.range n).map q) j (by simpa using hi')
   have hz : i = j * 2 ∨ i = j * 2 + 1 := by omega
   have key : ∀ v, (pv ((List.range n).map q))[i]? = some v → w.cell? ⟨b, off + i, none⟩ = some v → w.cell? ⟨b, off + i, none⟩ = some ((pv ((List.range n).map q))[i]'(by rw [pv_length]; exact hi)) := by
    intro v h1 h2
    obtain ⟨_, h3⟩ := List.getElem?_eq_some_iff.1 h1
    rw [h3]; exact h2
   rcases hz with hz | hz
   ·refine key (iv (q j).1) ?_ (by rw [hz]; exact q0)
    rw [hz]
    simpa using p0
   ·refine key (iv (q j).2) ?_ (by rw [hz]; exact q1)
    rw [hz]
    simpa using p1
  ·intro c hc
   obtain ⟨i, hi, rfl⟩ := List.mem_map.1 hc
   exact (hq i (List.mem_range.1 hi)).1
end
end Wv
/-
  The sizes of values' parts. No program stands here.
-/
namespace Wv.Sn
open Go Go.RowKit Wv Wv.Bc Wv.Dc Wv.Vi
theorem decZ_len {z : Int} (h : -400 ≤ z) (h2 : z ≤ 400) : (decZ z).length ≤ 4 := by
 unfold decZ
 split
 ·have := decN_len (n := (-z).toNat) (k := 3) (by omega) (by omega)
  rw [List.length_cons]; omega
 ·have := decN_len (n := z.toNat) (k := 3) (by omega) (by omega)
  omega
theorem ctext_len (n : Num) : (ctext n).1.length ≤ 30 := by
 unfold ctext
 split
 ·decide
 ·split
  ·decide
  ·rename_i h1 h2
   have h3 : n.dg.length ≤ 17 ∧ -400 ≤ firstN n ∧ firstN n ≤ 400 := by omega
   have h4 := decZ_len h3.2.1 h3.2.2
   simp only [List.length_append, List.length_cons, List.length_take]
   split <;> split <;> simp <;> omega
theorem validS_len {s : List UInt8} (h : validS s = true) : s.length ≤ 30 := by
 unfold validS at h
 cases hc : canN s with
 | none => rw [hc] at h; cases h
 | some n => rw [(canN_iff.1 hc).2]; exact ctext_len n
theorem wrV_len {s : Int × Int} {v : List UInt8} (h : vaB validS s v = true) : (wrV s v).length ≤ 100 ∧ v.length ≤ 128 := by
 unfold vaB at h
 rw [Bool.and_eq_true] at h
 obtain ⟨ht, hk⟩ := h
 unfold kvB at hk
 unfold wrV
 have h9 : ∀ n, (num n).length ≤ 9 := fun n => by rw [num_length]; have := kof_le n; omega
 rcases tyB_kind ht with h0 | ⟨h1, h2⟩
 ·rw [if_pos h0] at hk ⊢
  have hv : isV v = true := by unfold vld at hk; rw [Bool.and_eq_true] at hk; exact hk.1
  have hl := (isV_iff.1 hv).2.2
  rw [List.length_append, Bit.pack_length, Bit.pack_length]
  unfold lowB higB
  rw [List.length_map, List.length_map]
  omega
 ·have h0 : ¬ s.1 = 0 := by omega
  rw [if_neg h0] at hk ⊢
  have := h9 v.length
  by_cases k1 : s.1 = 1
  ·rw [if_pos k1] at hk
   rw [if_neg (by omega), List.length_append]
   have := validS_len hk
   omega
  ·rw [if_neg k1] at hk
   by_cases k2 : s.1 = 2
   ·rw [if_pos k2] at hk
    rw [if_neg (by omega), List.length_append]
    have := of_decide_eq_true hk
    omega
   ·rw [if_neg k2] at hk
    have := of_decide_eq_true hk
    rw [if_pos (by omega), this]
    simp
theorem textS_snoc : ∀ (st : List (Int × Int)) (vs : List ByteArray) (k : Nat) (h : k < st.length) (h2 : k < vs.length), textS (st.take (k + 1)) (vs.take (k + 1)) = textS (st.take k) (vs.take k) ++ wrV st[k] (toL vs[k])
 | s :: st, v :: vs, 0, _, _ => by
  show wrV s (toL v) ++ textS (st.take 0) (vs.take 0) = textS [] [] ++ wrV s (toL v)
  rw [List.take_zero, List.take_zero]
  show _ ++ [] = [] ++ _
  simp
 | s :: st, v :: vs, k + 1, h, h2 => by
  have hk : k < st.length := by simpa using h
  have hk2 : k < vs.length := by simpa using h2
  show wrV s (toL v) ++ textS (st.take (k + 1)) (vs.take (k + 1)) = (wrV s (toL v) ++ textS (st.take k) (vs.take k)) ++ wrV (st[k]'hk) (toL (vs[k]'hk2))
  rw [textS_snoc st vs k hk hk2, List.append_assoc]
theorem vasL_all (dv : List UInt8 → Bool) : ∀ {st : List (Int × Int)} {vs : List ByteArray}, vasL dv st vs = true → ∀ k (h : k < st.length) (h2 : k < vs.length), vaB dv st[k] (toL vs[k]) = true
 | [], _, _, k, h, _ => absurd h (Nat.not_lt_zero _)
 | _ :: _, [], _, k, _, h => absurd h (Nat.not_lt_zero _)
 | s :: st, v :: vs, h, k, hk, hk2 => by
  have h3 : vaB dv s (toL v) = true ∧ vasL dv st vs = true := by
   have : (vaB dv s (toL v) && vasL dv st vs) = true := h
   rwa [Bool.and_eq_true] at this
  cases k with
  | zero => exact h3.1
  | succ k => exact vasL_all dv h3.2 k (by simpa using hk) (by simpa using hk2)
theorem textS_len : ∀ {st : List (Int × Int)} {vs : List ByteArray}, vasL validS st vs = true → ∀ k, (textS (st.take k) (vs.take k)).length ≤ 100 * k ∧ (textS st vs).length ≤ 100 * st.length := by
 intro st vs h k
 have hl := vasL_len h
 have main : ∀ k, k ≤ st.length → (textS (st.take k) (vs.take k)).length ≤ 100 * k := by
  intro k
  induction k with
  | zero => intro _; rw [List.take_zero, List.take_zero]; exact Nat.zero_le _
  | succ k ih =>
   intro hk
   rw [textS_snoc st vs k (by omega) (by omega), List.length_append]
   have := ih (by omega)
   have := (wrV_len (vasL_all validS h k (by omega) (by omega))).1
   omega
 have hend := main st.length (Nat.le_refl _)
 rw [List.take_length, ← hl, List.take_length] at hend
 refine ⟨?_, by omega⟩
 rcases Nat.lt_or_ge st.length k with h1 | h1
 ·rw [List.take_of_length_le (by omega), List.take_of_length_le (by omega)]; omega
 ·exact main k h1
end Wv.Sn
/-
  The walks over the sums of bytes, second part: sealed texts.
-/
namespace Go.Proofs.YtjfcemlbbinanaaGreatDoor
open Go.RowKit Go.Proofs Wv Wv.Vi Wv.Fm
set_option linter.unusedVariables false
set_option maxHeartbeats 1000000 in
theorem crcseal_any (s : List UInt8) (hs : s.length ≤ 1000000000) (w : World) :
  Calls Tryz.prog 38 #[.string (bs s)] w fun x w' => x = .returned (.string (bs (sealB s))) ∧ Below w.heap.size w w' := by
 have Hs := hide (crcsum_any s (by omega) w)
 have hlt := crcN_lt s
 obtain ⟨n, hn⟩ : ∃ n, crcN s = n := ⟨_, rfl⟩
 rw [hn] at Hs hlt
 obtain ⟨a1, h1⟩ : ∃ a, n % 256 = a := ⟨_, rfl⟩
 obtain ⟨a2, h2⟩ : ∃ a, n / 256 % 256 = a := ⟨_, rfl⟩
 obtain ⟨a3, h3⟩ : ∃ a, n / 65536 % 256 = a := ⟨_, rfl⟩
 obtain ⟨a4, h4⟩ : ∃ a, n / 16777216 = a := ⟨_, rfl⟩
 have i1 : (n : Int) % 256 = (a1 : Int) := by omega
 have i2 : (n : Int) / 256 % 256 = (a2 : Int) := by omega
 have i3 : (n : Int) / 65536 % 256 = (a3 : Int) := by omega
 have i4 : (n : Int) / 16777216 = (a4 : Int) := by omega
 have l1 : a1 < 256 := by omega
 have l2 : a2 < 256 := by omega
 have l3 : a3 < 256 := by omega
 have l4 : a4 < 256 := by omega
 have i5 : (a4 : Int) % 256 = (a4 : Int) := by omega
 have hcv : (convert 74 9 (.slice (some ⟨w.heap.size, 0, none⟩) 4 4)).run Tryz.prog (w.alloc (.cells #[.int .u8 (a1 : Int), .int .u8 (a2 : Int), .int .u8 (a3 : Int), .int .u8 (a4 : Int)] 5)) = .ok (.string (bs [UInt8.ofNat a1, UInt8.ofNat a2, UInt8.ofNat a3, UInt8.ofNat a4])) (w.alloc (.cells #[.int .u8 (a1 : Int), .int .u8 (a2 : Int), .int .u8 (a3 : Int), .int .u8 (a4 : Int)] 5)) := by
  refine run_convert_bytes_back _ 74 9 5 ⟨w.heap.size, 0, none⟩ 4 [UInt8.ofNat a1, UInt8.ofNat a2, UInt8.ofNat a3, UInt8.ofNat a4] Tryz.underlying74 Tryz.underlying5 Tryz.underlying9 (fun j hj => ?_)
  have hj4 : j < 4 := hj
  rw [Go.WideShapes.add_plain, Nat.zero_add, (Bk.new w _ _).cell]
  have : j = 0 ∨ j = 1 ∨ j = 2 ∨ j = 3 := by omega
  rcases this with rfl | rfl | rfl | rfl <;> simp [Nat.mod_eq_of_lt, *]
 have hsz : (bs s).size ≤ 1000000000 := by rw [bs_size]; exact hs
 have hsz2 : (bs [UInt8.ofNat a1, UInt8.ofNat a2, UInt8.ofNat a3, UInt8.ofNat a4]).size = 4 := rfl
 have Hr := hide (show bs s ++ bs [UInt8.ofNat a1, UInt8.ofNat a2, UInt8.ofNat a3, UInt8.ofNat a4] = bs (sealB s) from by
  rw [bs_append]
  unfold sealB le4
  rw [hn, ← h1, ← h2, ← h3, ← h4]
  have q : ∀ x : Nat, UInt8.ofNat (x % 256) = UInt8.ofNat x := fun x => by apply UInt8.toNat_inj.1; simp
  rw [q, q, q])
 have hb := hide ((Below.refl w.heap.size w).alloc (Nat.le_refl _) (.cells #[.int .u8 (a1 : Int), .int .u8 (a2 : Int), .int .u8 (a3 : Int), .int .u8 (a4 : Int)] 5))
 clear hn h1 h2 h3 h4
 generalize bs s = s1 at *
 generalize bs [UInt8.ofNat a1, UInt8.ofNat a2, UInt8.ofNat a3, UInt8.ofNat a4] = s2 at *
 go_enter Tryz.func38, Tryz.ntmps38
 go_wp2_with fail
 refine (Hs.out).mono ?_
 rintro x w1 ⟨rfl, rfl⟩
 go_wp2
 go_ret
 exact ⟨ret_str Hr.out, hb.out⟩
def lst4 (b0 b1 b2 : Nat) : Nat → Nat
 | 0 => 0
 | 1 => b0
 | 2 => b0 + 256 * b1
 | _ => b0 + 256 * b1 + 65536 * b2
def synN (s : List UInt8) : Nat := crcN (s.take (s.length - 4)) ^^^ last4 s
theorem last4_lt (s : List UInt8) : last4 s < 4294967296 := by
 unfold last4
 have h0 := (s.getD (s.length - 4) 0).toNat_lt
 have h1 := (s.getD (s.length - 3) 0).toNat_lt
 have h2 := (s.getD (s.length - 2) 0).toNat_lt
 have h3 := (s.getD (s.length - 1) 0).toNat_lt
 omega
theorem xor_zero_iff (a b : Nat) : a ^^^ b = 0 ↔ a = b := by
 constructor
 ·intro h
  apply Nat.eq_of_testBit_eq
  intro i
  have := congrArg (fun n => n.testBit i) h
  simp only [Nat.testBit_xor, Nat.zero_testBit] at this
  revert this
  cases a.testBit i <;> cases b.testBit i <;> simp
 ·intro h; rw [h, Nat.xor_self]
theorem openB_syn {s : List UInt8} (h : 4 ≤ s.length) : openB s = decide (synN s = 0) := by
 unfold openB synN
 rw [decide_eq_true h, Bool.true_and, Bool.eq_iff_iff, decide_eq_true_iff, decide_eq_true_iff, xor_zero_iff]
set_option maxRecDepth 100000 in
set_option maxHeartbeats 2000000 in
theorem crcsyn_any (s : List UInt8) (h4 : 4 ≤ s.length) (hs : s.length ≤ 1000000000) (w : World) :
  Calls Tryz.prog 104 #[.string (bs s)] w fun x w' => x = .returned (.int .u32 (synN s : Nat)) ∧ w = w' := by
 obtain ⟨k, hk⟩ : ∃ k, s.length = k + 4 := ⟨s.length - 4, by omega⟩
 have hsz : (bs s).size = k + 4 := by rw [bs_size, hk]
 have hg : ∀ j (h : k + j < s.length) (h2 : k + j < (bs s).size), ((bs s)[k + j]'h2).toNat = (s.getD (k + j) 0).toNat := fun j h h2 => by
  rw [bs_getC s (k + j) h h2]
  simp [List.getD, h]
 have hl4 : last4 s = (s.getD (k + 0) 0).toNat + 256 * (s.getD (k + 1) 0).toNat + 65536 * (s.getD (k + 2) 0).toNat + 16777216 * (s.getD (k + 3) 0).toNat := by
  unfold last4
  rw [hk, show k + 4 - 4 = k + 0 by omega, show k + 4 - 3 = k + 1 by omega, show k + 4 - 2 = k + 2 by omega, show k + 4 - 1 = k + 3 by omega]
 obtain ⟨b0, hb0⟩ : ∃ b, (s.getD (k + 0) 0).toNat = b := ⟨_, rfl⟩
 obtain ⟨b1, hb1⟩ : ∃ b, (s.getD (k + 1) 0).toNat = b := ⟨_, rfl⟩
 obtain ⟨b2, hb2⟩ : ∃ b, (s.getD (k + 2) 0).toNat = b := ⟨_, rfl⟩
 obtain ⟨b3, hb3⟩ : ∃ b, (s.getD (k + 3) 0).toNat = b := ⟨_, rfl⟩
 have l0 : b0 < 256 := by rw [← hb0]; exact UInt8.toNat_lt _
 have l1 : b1 < 256 := by rw [← hb1]; exact UInt8.toNat_lt _
 have l2 : b2 < 256 := by rw [← hb2]; exact UInt8.toNat_lt _
 have l3 : b3 < 256 := by rw [← hb3]; exact UInt8.toNat_lt _
 rw [hb0, hb1, hb2, hb3] at hl4
 have Hg0 := hide (fun (h2 : k < (bs s).size) => (hg 0 (by omega) h2).trans hb0)
 have Hg1 := hide (fun (h2 : k + 1 < (bs s).size) => (hg 1 (by omega) h2).trans hb1)
 have Hg2 := hide (fun (h2 : k + 2 < (bs s).size) => (hg 2 (by omega) h2).trans hb2)
 have Hg3 := hide (fun (h2 : k + 3 < (bs s).size) => (hg 3 (by omega) h2).trans hb3)
 have hex : (bs s).extract 0 k = bs (s.take k) := ext_take (bs s) k
 have Hsum := hide (fun W => crcsum_any (s.take k) (by rw [List.length_take]; omega) W)
 have hsy : synN s = crcN (s.take k) ^^^ last4 s := by unfold synN; rw [hk, Nat.add_sub_cancel]
 have hcl := crcN_lt (s.take k)
 have hll := last4_lt s
 obtain ⟨c, hc⟩ : ∃ c, crcN (s.take k) = c := ⟨_, rfl⟩
 obtain ⟨l, hl⟩ : ∃ l, last4 s = l := ⟨_, rfl⟩
 obtain ⟨z, hz⟩ : ∃ z, synN s = z := ⟨_, rfl⟩
 rw [hc] at Hsum hsy hcl
 rw [hl] at hsy hll hl4
 rw [hz] at hsy ⊢
 have hx : bits .xor .u32 (c : Int) (l : Int) = (z : Int) := by rw [u32_xor_nat c l hcl hll, hsy]
 have Hl4 := hide hl4
 obtain ⟨LS, L0, L1, L2, L3, L4⟩ : ∃ f : Nat → Nat, f 0 = 0 ∧ f 1 = b0 ∧ f 2 = b0 + 256 * b1 ∧ f 3 = b0 + 256 * b1 + 65536 * b2 ∧ f 4 = l := ⟨fun i => if i = 4 then l else lst4 b0 b1 b2 i, rfl, rfl, rfl, rfl, rfl⟩
 have L0 := hide L0
 have L1 := hide L1
 have L2 := hide L2
 have L3 := hide L3
 have L4 := hide L4
 generalize bs (s.take k) = T at *
 generalize bs s = S at *
 have Hsz := hide hsz
 have hk8 : k ≤ 1000000000 := by omega
 have hszi : (S.size : Int) = (k : Int) + 4 := by rw [hsz]; omega
 clear hg hb0 hb1 hb2 hb3 hsy hc hl hz hk hl4 hsz h4 hs
 go_enter Tryz.func104, Tryz.ntmps104
 go_wp2
 clear hszi
 go_loopw [4, 9] (fun s4 s9 wr => ∃ i : Nat, i ≤ 4 ∧ s9 = .int .i64 (i : Int) ∧ s4 = .int .u32 (LS i : Int) ∧ wr = w) (fun _ s9 _ => (4 - intOf s9).toNat)
 case atStart => exact ⟨0, by omega, rfl, by rw [L0.out]; rfl, rfl⟩
 case round =>
  obtain ⟨i, hi, rfl, rfl, rfl⟩ := hrel
  have hS0 : k < S.size := by rw [Hsz.out]; omega
  have hS1 : k + 1 < S.size := by rw [Hsz.out]; omega
  have hS2 : k + 2 < S.size := by rw [Hsz.out]; omega
  have hS3 : k + 3 < S.size := by rw [Hsz.out]; omega
  have hk0 : (0 : Int) ≤ (k : Int) := by omega
  have hi0 : (k : Int) < (S.size : Int) := by omega
  have hi1 : (k : Int) + 1 < (S.size : Int) := by omega
  have hi2 : (k : Int) + 2 < (S.size : Int) := by omega
  have hi3 : (k : Int) + 3 < (S.size : Int) := by omega
  rcases (show i = 0 ∨ i = 1 ∨ i = 2 ∨ i = 3 ∨ i = 4 by omega) with rfl | rfl | rfl | rfl | rfl
  ·have hg : ∀ h : k < S.size, (S[k]'h).toNat = b0 := Hg0.out
   have e1 : bits .or .u32 0 (b0 : Int) = (b0 : Int) := by
    have := u32_or_nat 0 b0 (by omega) (by omega)
    rw [Nat.zero_or] at this
    exact this
   clear Hg0 Hg1 Hg2 Hg3 Hl4 Hsum hx hex
   rw [L0.out]
   go_wp2
   go_roundw
   case rel => exact ⟨1, by omega, rfl, by rw [L1.out]; all_goals first | (congr 1; done) | (congr 1; omega), by first | rfl | trivial⟩
   case measure => simp [intOf]
  ·have hg : ∀ h : k + 1 < S.size, (S[k + 1]'h).toNat = b1 := Hg1.out
   have e1 : bits .or .u32 (b0 : Int) ((b1 : Int) * 256) = ((b0 + 256 * b1 : Nat) : Int) := by
    rw [u32_or8 _ _ (by omega) (by omega) (by omega) (by omega) (by omega)]; all_goals omega
   clear Hg0 Hg1 Hg2 Hg3 Hl4 Hsum hx hex
   rw [L1.out]
   go_wp2
   go_roundw
   case rel => exact ⟨2, by omega, rfl, by rw [L2.out]; all_goals first | (congr 1; done) | (congr 1; omega), by first | rfl | trivial⟩
   case measure => simp [intOf]
  ·have hg : ∀ h : k + 2 < S.size, (S[k + 2]'h).toNat = b2 := Hg2.out
   obtain ⟨y, hy⟩ : ∃ y, b0 + 256 * b1 = y := ⟨_, rfl⟩
   have e1 : bits .or .u32 (y : Int) ((b2 : Int) * 65536) = ((y + 65536 * b2 : Nat) : Int) := by
    rw [u32_or16 _ _ (by omega) (by omega) (by omega) (by omega) (by omega)]; all_goals omega
   clear Hg0 Hg1 Hg2 Hg3 Hl4 Hsum hx hex
   rw [L2.out]
   rw [hy]
   go_wp2
   go_roundw
   case rel => exact ⟨3, by omega, rfl, by rw [L3.out]; all_goals first | (congr 1; done) | (congr 1; omega), by first | rfl | trivial⟩
   case measure => simp [intOf]
  ·have hg : ∀ h : k + 3 < S.size, (S[k + 3]'h).toNat = b3 := Hg3.out
   obtain ⟨y, hy⟩ : ∃ y, b0 + 256 * b1 + 65536 * b2 = y := ⟨_, rfl⟩
   have e1 : bits .or .u32 (y : Int) ((b3 : Int) * 16777216) = (l : Int) := by
    rw [u32_or24 _ _ (by omega) (by omega) (by omega) (by omega) (by omega), Hl4.out]; all_goals omega
   clear Hg0 Hg1 Hg2 Hg3 Hl4 Hsum hx hex
   rw [L3.out]
   rw [hy]
   go_wp2
   go_roundw
   case rel => exact ⟨4, by omega, rfl, by rw [L4.out]; all_goals first | (congr 1; done) | (congr 1; omega), by first | rfl | trivial⟩
   case measure => simp [intOf]
  ·rw [L4.out]
   clear Hg0 Hg1 Hg2 Hg3 Hl4
   go_wp2_with fail
   refine (Hsum.out _).mono ?_
   rintro x w1 ⟨rfl, rfl⟩
   go_wp2
   go_ret
   exact ⟨rfl, rfl⟩
set_option maxHeartbeats 1000000 in
theorem crcopen_any (s : List UInt8) (hs : s.length ≤ 1000000000) (w : World) :
  Calls Tryz.prog 67 #[.string (bs s)] w fun x w' => (∃ y, x = .returned (.tuple #[.string y, .int .i64 (if openB s = true then 0 else 12)])) ∧ w = w' := by
 have hsz : (bs s).size = s.length := bs_size s
 by_cases h4 : 4 ≤ s.length
 ·have Hs := hide (crcsyn_any s h4 hs w)
  have ho := openB_syn h4
  have h4i : ¬ ((bs s).size : Int) < 4 := by rw [hsz]; omega
  have h4n : 4 ≤ (bs s).size := by rw [hsz]; exact h4
  have hbig : (bs s).size ≤ 1000000000 := by rw [hsz]; exact hs
  rw [ho]
  obtain ⟨z, hz⟩ : ∃ z, synN s = z := ⟨_, rfl⟩
  rw [hz] at Hs ⊢
  clear ho hsz hz h4 hs
  generalize bs s = S at *
  by_cases hz0 : z = 0
  ·subst hz0
   go_enter Tryz.func67, Tryz.ntmps67
   go_wp2_with fail
   refine (Hs.out).mono ?_
   rintro x w1 ⟨rfl, rfl⟩
   go_wp2
   go_returns
   exact ⟨⟨_, rfl⟩, rfl⟩
  ·have hzi : ((z : Int) != 0) = true := bne_iff_ne.2 (by omega)
   rw [if_neg (by simpa using hz0)]
   go_enter Tryz.func67, Tryz.ntmps67
   go_wp2_with fail
   refine (Hs.out).mono ?_
   rintro x w1 ⟨rfl, rfl⟩
   go_wp2
   go_returns
   exact ⟨⟨_, rfl⟩, rfl⟩
 ·have h4i : ((bs s).size : Int) < 4 := by rw [hsz]; omega
  have ho : openB s = false := by unfold openB; rw [decide_eq_false h4, Bool.false_and]
  rw [ho]
  clear hsz ho h4 hs
  generalize bs s = S at *
  go_enter Tryz.func67, Tryz.ntmps67
  go_wp2
  go_returns
  exact ⟨⟨_, rfl⟩, rfl⟩
end Go.Proofs.YtjfcemlbbinanaaGreatDoor
/-
  The variables that the rows list: what they give to the walks.
-/
namespace Go.Proofs.YtjfcemlbbinanaaGreatDoor
open Go.RowKit Go.Proofs Wv Wv.Dc
set_option linter.unusedVariables false

def laidL : List (String × DataW Unit) := [("math/bits.deBruijn32tab", Rows.laid_math_bits_deBruijn32tab), ("math/bits.deBruijn64tab", Rows.laid_math_bits_deBruijn64tab), ("internal/strconv.uint64pow10", Rows.laid_internal_strconv_uint64pow10), ("unicode/utf8.acceptRanges", Rows.laid_unicode_utf8_acceptRanges), ("unicode/utf8.first", Rows.laid_unicode_utf8_first)]
theorem laid_tail {P : Program} {x : String × DataW Unit} {l : List (String × DataW Unit)} {W : World} (h : laidMet P (x :: l) W) : laidMet P l W := by
 obtain ⟨n, d⟩ := x
 obtain ⟨ps, ⟨g, t, cs, fuel, p, q, h1, h2, h3, h4, h5, rfl⟩, hn, hr⟩ := h
 refine ⟨q, h5, (List.nodup_append.1 hn).2.1, fun b off hp => hr b off (List.mem_append_right _ hp)⟩
theorem tab_laid {W : World} (h : laidMetH Tryz.prog laidL W) : Lib.TabIs Tryz.prog W "internal/strconv.uint64pow10" .u64 Lib.pow10Tab := by
 rw [MakeChecks.laidMetH_plain _ _ _ (by kernel_rfl)] at h
 have h2 := laid_tail (laid_tail h)
 exact Lib.tabIs_of_head (g := 1) (by kernel_rfl) (t := 223) (e := 169) (n := 20) (by kernel_rfl) (by kernel_rfl) (by kernel_rfl) (by kernel_rfl) (by kernel_rfl) h2
theorem var_below {W W' : World} (hb : Below W.heap.size W W') {cs : Array Value} (h : W.var? Tryz.prog "internal/strconv.uint64pow10" = some cs) : W'.var? Tryz.prog "internal/strconv.uint64pow10" = W.var? Tryz.prog "internal/strconv.uint64pow10" := by
 have hg : Tryz.prog.globalNamed "internal/strconv.uint64pow10" = some 1 := by kernel_rfl
 unfold World.var? at h ⊢
 rw [hg] at h ⊢
 simp only [Option.bind_some] at h ⊢
 have hlt : 1 < W.heap.size := by
  rcases Nat.lt_or_ge 1 W.heap.size with h1 | h1
  ·exact h1
  ·rw [Array.getElem?_eq_none h1] at h
   cases h
 rw [hb.block _ hlt]
theorem tab_world {W : World} (h : laidMetH Tryz.prog laidL W) : Tab W := fun W' hb => by
 have h1 := tab_laid h
 unfold Lib.TabIs at h1 ⊢
 rw [← h1]
 exact var_below hb h1
end Go.Proofs.YtjfcemlbbinanaaGreatDoor
/-
  Slices of slices of structs of an integer and a text, as the arguments of a law: what the walk is told of them.
-/
namespace Wv
open Go Go.RowKit Go.Deep Go.ChangeShapes Go.WideShapes
set_option linter.unusedVariables false
def cv (l : List (Int × ByteArray)) : List Value := l.flatMap fun x => [iv x.1, sv x.2]
theorem cv_length (l : List (Int × ByteArray)) : (cv l).length = l.length * 2 := by
 induction l with
 | nil => rfl
 | cons c D ih => rw [show cv (c :: D) = [iv c.1, sv c.2] ++ cv D from rfl, List.length_append, ih, List.length_cons]; simp; omega
theorem cv_get (D : List (Int × ByteArray)) : ∀ (i : Nat) (h : i < D.length), (cv D)[i * 2]? = some (iv D[i].1) ∧ (cv D)[i * 2 + 1]? = some (sv D[i].2) := by
 induction D with
 | nil => intro i h; simp at h
 | cons c D ih =>
  intro i h
  have e : cv (c :: D) = [iv c.1, sv c.2] ++ cv D := rfl
  match i, h with
  | 0, _ => exact ⟨rfl, rfl⟩
  | i + 1, h =>
   have h2 : i < D.length := by simpa using h
   rw [e, List.getElem?_append_right (by simp; omega), List.getElem?_append_right (by simp; omega)]
   have := ih i h2
   rw [show (i + 1) * 2 - [iv c.1, sv c.2].length = i * 2 from by simp; omega, show (i + 1) * 2 + 1 - [iv c.1, sv c.2].length = i * 2 + 1 from by simp; omega]
   exact this
theorem cv_take : ∀ (l : List (Int × ByteArray)) (k : Nat), cv (l.take k) = (cv l).take (2 * k)
 | [], k => by simp [cv]
 | c :: l, 0 => by simp [cv]
 | c :: l, k + 1 => by
  show [iv c.1, sv c.2] ++ cv (l.take k) = ([iv c.1, sv c.2] ++ cv l).take (2 * (k + 1))
  rw [cv_take l k, show 2 * (k + 1) = 2 * k + 2 by omega]
  rfl
theorem cv_drop : ∀ (l : List (Int × ByteArray)) (k : Nat), cv (l.drop k) = (cv l).drop (2 * k)
 | [], k => by simp [cv]
 | c :: l, 0 => by simp [cv]
 | c :: l, k + 1 => by
  show cv (l.drop k) = ([iv c.1, sv c.2] ++ cv l).drop (2 * (k + 1))
  rw [cv_drop l k, show 2 * (k + 1) = 2 * k + 2 by omega]
  rfl
def ChA (w : World) (A : Option Addr) (L : List (List (Int × ByteArray))) : Prop :=
 ∀ i (h : i < L.length), ∃ b o B cap, A = some ⟨b, o, none⟩ ∧ b < w.heap.size ∧ w.cell? ⟨b, o + i, none⟩ = some (.slice B L[i].length cap) ∧ At w B (cv L[i]) ∧ L[i].length ≤ cap
theorem ChA.below {w w' : World} {A : Option Addr} {L : List (List (Int × ByteArray))} (h : ChA w A L) (hb : Below w.heap.size w w') : ChA w' A L := by
 intro i hi
 obtain ⟨b, o, B, cap, hA, hlt, h1, h2, h3⟩ := h i hi
 exact ⟨b, o, B, cap, hA, Nat.lt_of_lt_of_le hlt hb.size, (hb.cell (p := ⟨b, _, none⟩) hlt).trans h1, h2.below hb, h3⟩
section
variable {H : Type} {enc : TypeId × Value → H} {P : Program} {w : World} {base : Nat} {spare : Nat → Bool} {held : Bool}
theorem chs_open {t e i0 i1 : TypeId} {f0 f1 : Field} {fuel n cap : Nat} {A : Option Addr} {x : DataW H × List MemPlace} (ht : P.underlying t = some (.slice e)) (he : P.underlying e = some (.struct #[f0, f1]))
  (ce : P.cellsOf e = 2) (o : f0.offset = 0 ∧ f1.offset = 1) (tt : f0.type = i0 ∧ f1.type = i1) (c0 : P.cellsOf i0 = 1) (u0 : P.underlying i0 = some (.int .i64)) (c1 : P.cellsOf i1 = 1) (u1 : P.underlying i1 = some .string)
  (h : DataW.trod enc P w base spare held fuel t [.slice A n cap] = some x) :
  ∃ l : List (Int × ByteArray), At w A (cv l) ∧ (∀ c ∈ l, I64 c.1 ∧ c.2.size ≤ 9223372036854775807) ∧ n = l.length ∧ n ≤ 9223372036854775807 := by
 obtain ⟨o0, o1⟩ := o
 obtain ⟨t0, t1⟩ := tt
 rcases open_slice ht h with ⟨h0, _⟩ | ⟨a, len, c, m, k, D, Pl, hcs, hb, hl, hm, hmm, rfl, hx⟩
 ·simp at h0
  obtain ⟨rfl, rfl, rfl⟩ := h0
  exact ⟨[], At.nil _ _, by simp, rfl, by omega⟩
 ·simp at hcs
  obtain ⟨rfl, rfl, rfl⟩ := hcs
  have hlm : n ≤ m := by rw [hmm]; split <;> omega
  have each : ∀ i, i < n → ∃ q : Int × ByteArray, (I64 q.1 ∧ q.2.size ≤ 9223372036854775807) ∧ w.cell? (a.add (i * 2)) = some (.int .i64 q.1) ∧ w.cell? (a.add (i * 2 + 1)) = some (.string q.2) := by
   intro i hi
   obtain ⟨cs', h1, h2⟩ := hx i (by omega)
   rw [ce] at h1
   obtain ⟨_, hlen, hcell⟩ := World.cells?_some h1
   obtain ⟨xs, k', hk, hxy, _, hxl, hf⟩ := DataW.trod_struct he h2
   match xs, hxl, cs', hlen with
   | [y0, y1], _, [v0, v1], _ =>
    have g0 := hf 0 f0 rfl
    have g1 := hf 1 f1 rfl
    simp [o0, t0, c0] at g0
    simp [o1, t1, c1] at g1
    obtain ⟨a0, r0, _, w0⟩ := DataW.trod_int u0 g0
    obtain ⟨a1, r1, _, w1⟩ := DataW.trod_string u1 g1
    simp at r0 r1
    subst r0 r1
    have e0 := hcell 0 (by omega)
    have e1 := hcell 1 (by omega)
    rw [add_add] at e0 e1
    exact ⟨(a0, a1), ⟨i64_wf w0, by unfold maxLen at w1; omega⟩, by simpa using e0, by simpa using e1⟩
  have inh : Inhabited (Int × ByteArray) := ⟨(0, ⟨#[]⟩)⟩
  obtain ⟨q, hq⟩ := choose_lt each
  refine ⟨(List.range n).map q, ?_, ?_, by simp, by unfold maxLen at hm; omega⟩
  ·intro i hi
   rw [cv_length] at hi
   obtain ⟨j, hj⟩ : ∃ j, i / 2 = j := ⟨_, rfl⟩
   have hi' : j < n := by simp at hi; omega
   obtain ⟨_, q0, q1⟩ := hq j hi'
   obtain ⟨b, off, spot⟩ := a
   have hspot : spot = none := by
    obtain ⟨_, z0, _⟩ := hq 0 (by omega)
    simpa [Addr.add] using World.cell?_spot z0
   subst hspot
   rw [add_plain] at q0 q1
   refine ⟨b, off, rfl, cell_lt' q0, ?_⟩
   obtain ⟨p0, p1⟩ := cv_get ((List.range n).map q) j (by simpa using hi')
   have hz : i = j * 2 ∨ i = j * 2 + 1 := by omega
   have key : ∀ v, (cv ((List.range n).map q))[i]? = some v → w.cell? ⟨b, off + i, none⟩ = some v → w.cell? ⟨b, off + i, none⟩ = some ((cv ((List.range n).map q))[i]'(by rw [cv_length]; exact hi)) := by
    intro v h1 h2
    obtain ⟨_, h3⟩ := List.getElem?_eq_some_iff.1 h1
    rw [h3]; exact h2
   rcases hz with hz | hz
   ·refine key (iv (q j).1) ?_ (by rw [hz]; exact q0)
    rw [hz]
    simpa using p0
   ·refine key (sv (q j).2) ?_ (by rw [hz]; exact q1)
    rw [hz]
    simpa using p1
  ·intro c hc
   obtain ⟨i, hi, rfl⟩ := List.mem_map.1 hc
   exact (hq i (List.mem_range.1 hi)).1
theorem chss_open {T t e i0 i1 : TypeId} {f0 f1 : Field} {fuel n cap : Nat} {A : Option Addr} {x : DataW H × List MemPlace} (hT : P.underlying T = some (.slice t)) (cT : P.cellsOf t = 1) (ht : P.underlying t = some (.slice e)) (he : P.underlying e = some (.struct #[f0, f1]))
  (ce : P.cellsOf e = 2) (o : f0.offset = 0 ∧ f1.offset = 1) (tt : f0.type = i0 ∧ f1.type = i1) (c0 : P.cellsOf i0 = 1) (u0 : P.underlying i0 = some (.int .i64)) (c1 : P.cellsOf i1 = 1) (u1 : P.underlying i1 = some .string)
  (h : DataW.trod enc P w base spare held fuel T [.slice A n cap] = some x) :
  ∃ L : List (List (Int × ByteArray)), ChA w A L ∧ (∀ l ∈ L, l.length ≤ 9223372036854775807 ∧ ∀ c ∈ l, I64 c.1 ∧ c.2.size ≤ 9223372036854775807) ∧ n = L.length ∧ n ≤ 9223372036854775807 := by
 rcases open_slice1 hT cT h with ⟨h0, _⟩ | ⟨a, len, c, m, k, V, D, Pl, hcs, hb, hl, hm, hmm, rfl, hx⟩
 ·simp at h0
  obtain ⟨rfl, rfl, rfl⟩ := h0
  exact ⟨[], fun i hi => absurd hi (Nat.not_lt_zero _), by simp, rfl, by omega⟩
 ·simp at hcs
  obtain ⟨rfl, rfl, rfl⟩ := hcs
  have hlm : n ≤ m := by rw [hmm]; split <;> omega
  have each : ∀ i, i < n → ∃ q : List (Int × ByteArray), (q.length ≤ 9223372036854775807 ∧ ∀ c ∈ q, I64 c.1 ∧ c.2.size ≤ 9223372036854775807) ∧ ∃ B cap, w.cell? (a.add i) = some (.slice B q.length cap) ∧ At w B (cv q) ∧ q.length ≤ cap := by
   intro i hi
   obtain ⟨h1, h2⟩ := hx i (by omega)
   obtain ⟨B, n', cap', hV, hcap⟩ : ∃ B n' cap', V i = .slice B n' cap' ∧ n' ≤ cap' := by
    rcases open_slice ht h2 with ⟨h0, _⟩ | ⟨a, len, c, _, _, _, _, hcs, _, hlc, _⟩
    ·exact ⟨none, 0, 0, by simpa using h0, Nat.le_refl _⟩
    ·exact ⟨some a, len, c, by simpa using hcs, hlc⟩
   rw [hV] at h1 h2
   obtain ⟨l, hl, hall, hn, hn9⟩ := chs_open ht he ce o tt c0 u0 c1 u1 h2
   exact ⟨l, ⟨by omega, hall⟩, B, cap', by rw [← hn]; exact h1, hl, by omega⟩
  obtain ⟨q, hq⟩ := choose_lt each
  refine ⟨(List.range n).map q, ?_, ?_, by simp, by unfold maxLen at hm; omega⟩
  ·intro i hi
   have hi' : i < n := by simpa using hi
   obtain ⟨B, cap2, q0, q1, q2⟩ := (hq i hi').2
   obtain ⟨b, off, spot⟩ := a
   have hspot : spot = none := by
    obtain ⟨_, _, z0, _⟩ := (hq 0 (by omega)).2
    simpa [Addr.add] using World.cell?_spot z0
   subst hspot
   rw [add_plain] at q0
   refine ⟨b, off, B, cap2, rfl, cell_lt' q0, ?_, ?_, by simpa using q2⟩
   ·simp only [List.getElem_map, List.getElem_range]
    exact q0
   ·simp only [List.getElem_map, List.getElem_range]
    exact q1
  ·intro c hc
   obtain ⟨i, hi, rfl⟩ := List.mem_map.1 hc
   exact (hq i (List.mem_range.1 hi)).1
end
end Wv
