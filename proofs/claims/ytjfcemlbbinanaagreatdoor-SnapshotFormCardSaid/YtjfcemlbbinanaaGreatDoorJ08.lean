/-
  The walks over numbers as bytes, fifth part: the calls of a reader.
-/
import Derived.Test.YtjfcemlbbinanaaGreatDoorJ07
set_option linter.unusedVariables false
set_option linter.unusedSimpArgs false
namespace Go.Proofs.YtjfcemlbbinanaaGreatDoor
open Go.RowKit Go.Proofs Wv Wv.Vi Wv.Ru
set_option linter.unusedVariables false

theorem peek_any {w : World} {b e : Nat} {s : ByteArray} (h : RV w b s e) (hm : s.size ≤ 1099511627776) :
  Calls Tryz.prog 134 #[.pointer (some ⟨b, 0, none⟩)] w fun x w' => x = .returned (pk s) ∧ w = w' := by
 by_cases hp : 0 < s.size
 ·exact peek_main h hp hm
 ·have hs : s.size = 0 := by omega
  refine (peek_nil h hs).mono ?_
  rintro x w' ⟨rfl, rfl⟩
  have : toL s = [] := List.eq_nil_of_length_eq_zero hs
  exact ⟨ret_of (pk_none (by rw [this]; rfl)).symm, rfl⟩
def numR (s : ByteArray) (e : Nat) (most : Int) : Nat × ByteArray × Nat :=
 if e = 0 then match rd (toL s) with
  | none => (0, s, 12)
  | some x => if most < (x.1 : Int) then (0, s, 2) else (x.1, bs ((toL s).drop x.2), 0)
 else (0, s, e)
theorem ext_drop (s : ByteArray) (z : Nat) : s.extract z s.size = bs ((toL s).drop z) := by
 apply ByteArray.ext
 apply Array.toList_inj.1
 simp only [bs, toL, ByteArray.data_extract, Array.toList_extract, List.extract_eq_take_drop, List.toList_toArray]
 rw [List.take_of_length_le (by rw [List.length_drop]; exact Nat.le_refl _)]
theorem ext_take (s : ByteArray) (z : Nat) : s.extract 0 z = bs ((toL s).take z) := by
 apply ByteArray.ext
 apply Array.toList_inj.1
 simp [bs, toL]

theorem num1_any (n : Int) (w : World) : Calls Tryz.prog 108 #[.int .i64 n] w fun x w' => x = .returned (.int .i64 n) ∧ w = w' := by
 go_enter Tryz.func108, Tryz.ntmps108
 go_wp2
 go_ret
 exact ⟨rfl, rfl⟩
set_option maxHeartbeats 400000 in
theorem vread_any {w : World} {b e : Nat} {s : ByteArray} (h : RV w b s e) (hm : s.size ≤ 1099511627776) (most : Int) :
  Calls Tryz.prog 107 #[.pointer (some ⟨b, 0, none⟩), .func (.func 108) #[] #[], .int .i64 0, .int .i64 most] w fun x w' => x = .returned (.int .i64 ((numR s e most).1 : Nat)) ∧ RV w' b (numR s e most).2.1 (numR s e most).2.2 ∧ Fr (only b) w w' := by
 have h0 := h.c0
 have h1 := h.c1
 have f0 := h.f0
 have f1 := h.f1
 by_cases he : e = 0
 ·subst he
  have hpk := peek_any h hm
  have hr : numR s 0 most = match rd (toL s) with
   | none => (0, s, 12)
   | some x => if most < (x.1 : Int) then (0, s, 2) else (x.1, bs ((toL s).drop x.2), 0) := rfl
  match hrd : rd (toL s) with
  | none =>
   rw [pk_none hrd] at hpk
   rw [hrd] at hr
   have Hpk := hide hpk
   have Hr := hide hr
   have Hf := hide (vfail_any h 12)
   clear hpk hr hrd
   go_enter Tryz.func107, Tryz.ntmps107
   go_wp2_with (first | (go_at_call 108; refine (num1_any _ _).mono ?_; rintro x w' ⟨rfl, rfl⟩) | (go_at_call 134; refine (Hpk.out).mono ?_; rintro x w' ⟨rfl, rfl⟩) | (go_at_call 51; refine (Hf.out).mono ?_; rintro x w' ⟨rfl, hr9, hf9⟩))
   go_ret
   rw [Hr.out]
   exact ⟨rfl, hr9, hf9⟩
  | some (n, z) =>
   have hle := rd_le hrd
   rw [pk_some hrd] at hpk
   rw [hrd] at hr
   have hzs : z ≤ s.size := hle.2.2.1
   have hn63 := hle.1
   have hz1 := hle.2.1
   have Hpk := hide hpk
   clear hpk hrd hle
   by_cases hmn : most < (n : Int)
   ·simp only [if_pos hmn] at hr
    have Hr := hide hr
    have Hf := hide (vfail_any h 2)
    have hmn0 : ¬ (n : Int) < 0 := by omega
    clear hr
    go_enter Tryz.func107, Tryz.ntmps107
    go_wp2_with (first | (go_at_call 108; refine (num1_any _ _).mono ?_; rintro x w' ⟨rfl, rfl⟩) | (go_at_call 134; refine (Hpk.out).mono ?_; rintro x w' ⟨rfl, rfl⟩) | (go_at_call 51; refine (Hf.out).mono ?_; rintro x w' ⟨rfl, hr9, hf9⟩))
    go_ret
    rw [Hr.out]
    exact ⟨rfl, hr9, hf9⟩
   ·simp only [if_neg hmn] at hr
    have Hr := hide hr
    have hmn0 : ¬ (n : Int) < 0 := by omega
    have hput := hide (Bk.put h 0 (.string (bs ((toL s).drop z))))
    have hex := ext_drop s z
    clear hr
    go_enter Tryz.func107, Tryz.ntmps107
    go_wp2_with (first | (go_at_call 108; refine (num1_any _ _).mono ?_; rintro x w' ⟨rfl, rfl⟩) | (go_at_call 134; refine (Hpk.out).mono ?_; rintro x w' ⟨rfl, rfl⟩))
    go_ret
    rw [Hr.out]
    exact ⟨rfl, by simpa [RV] using hput.out, (Fr.refl (only b) _).setCell (p := ⟨b, 0, none⟩) (.inl rfl) _⟩
 ·have hr : numR s e most = (0, s, e) := by unfold numR; rw [if_neg he]
  have hne : ((e : Int) != 0) = true := by rw [bne_iff_ne]; omega
  have Hr := hide hr
  clear hr
  go_enter Tryz.func107, Tryz.ntmps107
  go_wp2
  go_ret
  rw [Hr.out]
  exact ⟨rfl, h, Fr.refl _ _⟩
theorem vnum_any {w : World} {b e : Nat} {s : ByteArray} (h : RV w b s e) (hm : s.size ≤ 1099511627776) (most : Int) :
  Calls Tryz.prog 76 #[.pointer (some ⟨b, 0, none⟩), .int .i64 most] w fun x w' => x = .returned (.int .i64 ((numR s e most).1 : Nat)) ∧ RV w' b (numR s e most).2.1 (numR s e most).2.2 ∧ Fr (only b) w w' := by
 have H := hide (vread_any h hm most)
 generalize numR s e most = r at *
 go_enter Tryz.func76, Tryz.ntmps76
 go_wp2_with fail
 refine (H.out).mono ?_
 rintro x w1 ⟨rfl, hr, hf⟩
 go_wp2
 go_ret
 exact ⟨rfl, hr, hf⟩
def takeR (s : ByteArray) (e : Nat) (n : Int) : ByteArray × ByteArray × Nat :=
 if e = 0 then if n < 0 then (bs [], s, 2) else if (s.size : Int) < n then (bs [], s, 12) else (bs ((toL s).take n.toNat), bs ((toL s).drop n.toNat), 0)
 else (bs [], s, e)
set_option maxHeartbeats 400000 in
theorem vtake_any {w : World} {b e : Nat} {s : ByteArray} (h : RV w b s e) (hm : s.size ≤ 1099511627776) (n : Int) :
  Calls Tryz.prog 45 #[.pointer (some ⟨b, 0, none⟩), .int .i64 n] w fun x w' => x = .returned (.string (takeR s e n).1) ∧ RV w' b (takeR s e n).2.1 (takeR s e n).2.2 ∧ Fr (only b) w w' := by
 have h0 := h.c0
 have h1 := h.c1
 have f0 := h.f0
 have f1 := h.f1
 by_cases he : e = 0
 ·subst he
  have hr : takeR s 0 n = if n < 0 then (bs [], s, 2) else if (s.size : Int) < n then (bs [], s, 12) else (bs ((toL s).take n.toNat), bs ((toL s).drop n.toNat), 0) := rfl
  by_cases hn : n < 0
  ·rw [if_pos hn] at hr
   have Hr := hide hr
   have Hf := hide (vfail_any h 2)
   clear hr
   go_enter Tryz.func45, Tryz.ntmps45
   go_wp2_with (first | (go_at_call 51; refine (Hf.out).mono ?_; rintro x w' ⟨rfl, hr9, hf9⟩))
   go_ret
   rw [Hr.out]
   exact ⟨rfl, hr9, hf9⟩
  ·obtain ⟨n, rfl⟩ := Int.eq_ofNat_of_zero_le (show 0 ≤ n by omega)
   rw [if_neg hn] at hr
   by_cases hs : (s.size : Int) < (n : Int)
   ·rw [if_pos hs] at hr
    have Hr := hide hr
    have Hf := hide (vfail_any h 12)
    have hs2 : s.size < n := by omega
    clear hr hn
    go_enter Tryz.func45, Tryz.ntmps45
    go_wp2_with (first | (go_at_call 51; refine (Hf.out).mono ?_; rintro x w' ⟨rfl, hr9, hf9⟩))
    go_ret
    rw [Hr.out]
    exact ⟨rfl, hr9, hf9⟩
   ·rw [if_neg hs, Int.toNat_natCast] at hr
    have Hr := hide hr
    have hput := hide (Bk.put h 0 (.string (bs ((toL s).drop n))))
    have hex := ext_drop s n
    have hex2 := ext_take s n
    have hs2 : n ≤ s.size := by omega
    clear hr hn hs
    go_enter Tryz.func45, Tryz.ntmps45
    go_wp2
    go_ret
    rw [Hr.out]
    exact ⟨rfl, by simpa [RV] using hput.out, (Fr.refl (only b) _).setCell (p := ⟨b, 0, none⟩) (.inl rfl) _⟩
 ·have hr : takeR s e n = (bs [], s, e) := by unfold takeR; rw [if_neg he]
  have hne : ((e : Int) != 0) = true := by rw [bne_iff_ne]; omega
  have Hr := hide hr
  clear hr
  go_enter Tryz.func45, Tryz.ntmps45
  go_wp2
  go_ret
  rw [Hr.out]
  exact ⟨rfl, h, Fr.refl _ _⟩
end Go.Proofs.YtjfcemlbbinanaaGreatDoor
