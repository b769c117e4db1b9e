/-
  Joined texts: Vc, Vd.
-/
import Derived.Test.YtoeeblldgoccoaaGreatJ05
import Derived.Test.YtoeeblldgoccoaaGreatJ03
set_option linter.unusedVariables false
set_option linter.unusedSimpArgs false
/-
  The walks over numbers as bytes, third part: a text, a reader, the number at the front.
-/
namespace Go.Proofs.YtoeeblldgoccoaaGreat
open Go.RowKit Go.Proofs Wv Wv.Vi Wv.Ru
set_option linter.unusedVariables false

theorem kof9 (n : Nat) : (num n).length ≤ 9 := by rw [num_length]; have := kof_le n; omega
theorem text_any (s : ByteArray) (hs : s.size ≤ 1099511627776) (w : World) :
  Calls Tryz.prog 106 #[.string s] w fun e w' => e = .returned (.string (bs (text s))) ∧ Below w.heap.size w w' := by
 have H := number_any (s.size : Int) (by omega) (by omega) w
 rw [Int.toNat_natCast] at H
 have hl := kof9 s.size
 have hr := hide (show bs (num s.size) ++ s = bs (text s) from by rw [← bs_toL s, bs_append]; rfl)
 rw [← bs_size] at hl
 generalize bs (num s.size) = t at *
 have H := hide H
 go_enter Tryz.func106, Tryz.ntmps106
 go_wp2_with fail
 refine (H.out).mono ?_
 rintro e w1 ⟨rfl, hb⟩
 go_wp2
 go_ret
 exact ⟨ret_str hr.out, hb⟩
def RV (w : World) (b : Nat) (s : ByteArray) (e : Nat) : Prop := Bk w b 105 #[.string s, .int .i64 (e : Int)]
theorem RV.c0 {w : World} {b e : Nat} {s : ByteArray} (h : RV w b s e) : w.cell? ⟨b, 0, none⟩ = some (.string s) := Bk.cell h 0
theorem RV.c1 {w : World} {b e : Nat} {s : ByteArray} (h : RV w b s e) : w.cell? ⟨b, 1, none⟩ = some (.int .i64 (e : Int)) := Bk.cell h 1
theorem RV.f0 {w : World} {b e : Nat} {s : ByteArray} (h : RV w b s e) : w.frozen? ⟨b, 0, none⟩ = false := Bk.frozen h 0
theorem RV.f1 {w : World} {b e : Nat} {s : ByteArray} (h : RV w b s e) : w.frozen? ⟨b, 1, none⟩ = false := Bk.frozen h 1
set_option maxHeartbeats 400000 in
theorem vnew_any (s : ByteArray) (w : World) :
  Calls Tryz.prog 49 #[.string s] w fun e w' => e = .returned (.pointer (some ⟨w.heap.size, 0, none⟩)) ∧ RV w' w.heap.size s 0 ∧ Below w.heap.size w w' := by
 go_enter Tryz.func49, Tryz.ntmps49
 go_wp2
 go_ret
 exact ⟨rfl, Bk.new _ _ _, (Below.refl _ _).alloc (Nat.le_refl _) _⟩
set_option maxHeartbeats 400000 in
theorem vfail_any {w : World} {b e : Nat} {s : ByteArray} (h : RV w b s e) (n : Nat) :
  Calls Tryz.prog 127 #[.pointer (some ⟨b, 0, none⟩), .int .i64 (n : Int)] w fun e w' => e = .returned (.tuple #[]) ∧ RV w' b s n ∧ Fr (only b) w w' := by
 have h1 := h.c1
 have f1 := h.f1
 go_enter Tryz.func127, Tryz.ntmps127
 go_wp2
 go_end0
 exact ⟨rfl, by simpa [RV] using Bk.put h 1 (.int .i64 (n : Int)), (Fr.refl (only b) _).setCell (p := ⟨b, 1, none⟩) (.inl rfl) _⟩
set_option maxHeartbeats 400000 in
theorem verr_any {w : World} {b e : Nat} {s : ByteArray} (h : RV w b s e) :
  Calls Tryz.prog 51 #[.pointer (some ⟨b, 0, none⟩)] w fun x w' => x = .returned (.int .i64 (e : Int)) ∧ w = w' := by
 have h1 := h.c1
 go_enter Tryz.func51, Tryz.ntmps51
 go_wp2
 go_ret
 exact ⟨rfl, rfl⟩
set_option maxHeartbeats 400000 in
theorem vleft_any {w : World} {b e : Nat} {s : ByteArray} (h : RV w b s e) (hs : s.size ≤ 9223372036854775807) :
  Calls Tryz.prog 130 #[.pointer (some ⟨b, 0, none⟩)] w fun x w' => x = .returned (.int .i64 (s.size : Int)) ∧ w = w' := by
 have h1 := h.c0
 go_enter Tryz.func130, Tryz.ntmps130
 go_wp2
 go_ret
 exact ⟨rfl, rfl⟩
theorem lead_bit : ∀ c : Nat, c < 256 → ∀ j : Nat, j < 8 → j ≤ lead c → (bits .and .u8 (c : Int) (((128 / 2 ^ j : Nat) : Int)) != 0) = decide (j < lead c) := by decide +kernel
theorem lead_rest : ∀ c : Nat, c < 256 → bits .and .u8 (c : Int) (((127 / 2 ^ lead c : Nat) : Int)) = ((c - (256 - 2 ^ (8 - lead c)) : Nat) : Int) := by decide +kernel
theorem sh128 (k : Nat) : (128 : Int) / 2 ^ k = ((128 / 2 ^ k : Nat) : Int) := by
 rw [Int.natCast_ediv, Int.natCast_pow]
 rfl
theorem sh127 (k : Nat) : (127 : Int) / 2 ^ k = ((127 / 2 ^ k : Nat) : Int) := by
 rw [Int.natCast_ediv, Int.natCast_pow]
 rfl
theorem or_byte (n b : Nat) (hn : n < 72057594037927936) (hb : b < 256) : bits .or .u64 ((n : Int) * 256) (b : Int) = ((256 * n + b : Nat) : Int) := by
 rw [show (n : Int) * 256 = ((256 * n : Nat) : Int) from by rw [Int.natCast_mul, Int.mul_comm]; rfl, u64_or_nat _ _ (by omega) (by omega), nat_join 8 _ _ (by omega) (by omega)]
theorem vl_lt (l : List UInt8) : ∀ a, vl a l < (a + 1) * 256 ^ l.length := by
 induction l with
 | nil => intro a; simp [vl]
 | cons b t ih =>
  intro a
  have h := ih (256 * a + b.toNat)
  have hb := UInt8.toNat_lt b
  rw [List.length_cons, Nat.pow_succ]
  refine Nat.lt_of_lt_of_le h ?_
  have h1 : 256 * a + b.toNat + 1 ≤ (a + 1) * 256 := by omega
  have := Nat.mul_le_mul_right (256 ^ t.length) h1
  rw [Nat.mul_comm (256 ^ t.length) 256, ← Nat.mul_assoc]
  exact this
theorem first_lt (c : Nat) (hc : c < 256) : (c - (256 - 2 ^ (8 - lead c)) + 1) * 256 ^ lead c ≤ 18446744073709551616 ∧ (c - (256 - 2 ^ (8 - lead c)) + 1) * 256 ^ (lead c - 1) ≤ 72057594037927936 := by
 have h := lead_spec c
 have h8 := lead_le c
 rcases nine (lead c) h8 with e | e | e | e | e | e | e | e | e <;> rw [e] at h ⊢ <;> simp only [Nat.reducePow, Nat.reduceSub] <;> omega
end Go.Proofs.YtoeeblldgoccoaaGreat
/-
  The walks over numbers as bytes, fourth part: the number at the front of bytes.
-/
namespace Go.Proofs.YtoeeblldgoccoaaGreat
open Go.RowKit Go.Proofs Wv Wv.Vi Wv.Ru
set_option linter.unusedVariables false

theorem emp1 {s : ByteArray} (h : s.size = 0) : s.toList.isEmpty = true := by
 rw [ByteArray.toList_eq]
 have : s.data.toList.length = 0 := h
 rw [List.eq_nil_of_length_eq_zero this]
 rfl
theorem emp0 {s : ByteArray} (h : 0 < s.size) : s.toList.isEmpty = false := by
 rw [ByteArray.toList_eq]
 have : s.data.toList.length = s.size := rfl
 match hl : s.data.toList with
 | [] => rw [hl] at this; simp at this; omega
 | _ :: _ => rfl
theorem peek_nil {w : World} {b e : Nat} {s : ByteArray} (h : RV w b s e) (hs : s.size = 0) :
  Calls Tryz.prog 126 #[.pointer (some ⟨b, 0, none⟩)] w fun x w' => x = .returned (.tuple #[.int .i64 0, .int .i64 0, .bool false]) ∧ w = w' := by
 have h1 := h.c0
 have he2 := emp1 hs
 go_enter Tryz.func126, Tryz.ntmps126
 go_wp2
 go_ret3
 exact ⟨rfl, rfl⟩
structure Fst (s : ByteArray) (c k : Nat) : Prop where
 pos : 0 < s.size
 get : ∀ h : 0 < s.size, (s[0]'h).toNat = c
 lt : c < 256
 lead : lead c = k
theorem fst_of {s : ByteArray} (h : 0 < s.size) : ∃ c, Fst s c (lead c) ∧ c = (s[0]).toNat ∧ toL s = UInt8.ofNat c :: (toL s).drop 1 := by
 refine ⟨(s[0]).toNat, ⟨h, fun _ => rfl, UInt8.toNat_lt _, rfl⟩, rfl, ?_⟩
 have h1 : 0 < (toL s).length := h
 have h2 : toL s = (toL s)[0] :: (toL s).drop 1 := by rw [← List.drop_eq_getElem_cons h1, List.drop_zero]
 have h3 : (toL s)[0] = s[0] := by simp [toL]; rfl
 rw [h3] at h2
 rw [UInt8.ofNat_toNat]
 exact h2
theorem vl_take_byte (a m : Nat) (s : ByteArray) (h1 : 1 ≤ m) (h : m < s.size) : vl a (((toL s).drop 1).take m) = 256 * vl a (((toL s).drop 1).take (m - 1)) + (s[m]).toNat := by
 have hl : m < (toL s).length := h
 obtain ⟨j, rfl⟩ : ∃ j, m = j + 1 := ⟨m - 1, by omega⟩
 have h2 : j < ((toL s).drop 1).length := by rw [List.length_drop]; omega
 rw [List.take_succ_eq_append_getElem h2, Nat.add_sub_cancel]
 have h3 : ((toL s).drop 1)[j] = s[j + 1] := by
  rw [List.getElem_drop]
  simp only [toL, Nat.add_comm 1 j]
  rw [Array.getElem_toList]
  rfl
 rw [h3]
 simp only [vl, List.foldl_append, List.foldl_cons, List.foldl_nil]
 rfl
def pk (s : ByteArray) : Value := match rd (toL s) with
 | none => .tuple #[.int .i64 0, .int .i64 0, .bool false]
 | some x => .tuple #[.int .i64 (x.1 : Int), .int .i64 (x.2 : Int), .bool true]
theorem pk_none {s : ByteArray} (h : rd (toL s) = none) : pk s = .tuple #[.int .i64 0, .int .i64 0, .bool false] := by unfold pk; rw [h]
theorem pk_some {s : ByteArray} {n z : Nat} (h : rd (toL s) = some (n, z)) : pk s = .tuple #[.int .i64 (n : Int), .int .i64 (z : Int), .bool true] := by unfold pk; rw [h]
theorem ret_of {a b : Value} (h : a = b) : Ending.returned a = .returned b := by rw [h]

set_option maxHeartbeats 1000000 in
theorem peek_main {w : World} {b e : Nat} {s : ByteArray} (h : RV w b s e) (hp : 0 < s.size) (hm : s.size ≤ 1099511627776) :
  Calls Tryz.prog 126 #[.pointer (some ⟨b, 0, none⟩)] w fun x w' => x = .returned (pk s) ∧ w = w' := by
 obtain ⟨c, hf, hc0, hs⟩ := fst_of hp
 have h1 := h.c0
 have he3 := emp0 hp
 have hg := hf.get hp
 have hc := hf.lt
 have hk8 := lead_le c
 have hrest := lead_rest c hc
 have hlim := first_lt c hc
 have hrd := rd_cons (UInt8.ofNat c) ((toL s).drop 1)
 rw [← hs, show (UInt8.ofNat c).toNat = c from by simp; omega, show ((toL s).drop 1).length = s.size - 1 from by rw [List.length_drop]; rfl] at hrd
 have Hlb := hide (lead_bit c hc)
 have Hbnd := hide (bound_any (lead c : Int) (by omega) (by omega))
 rw [Int.toNat_natCast] at Hbnd
 have hb8 := bnd_le (lead c) hk8
 obtain ⟨k, hk⟩ : ∃ k, lead c = k := ⟨_, rfl⟩
 rw [hk] at Hlb hrest hlim hrd Hbnd hk8 hb8
 obtain ⟨a, ha⟩ : ∃ a, c - (256 - 2 ^ (8 - k)) = a := ⟨_, rfl⟩
 rw [ha] at hrest hlim hrd
 obtain ⟨B, hB⟩ : ∃ B, bnd k = B := ⟨_, rfl⟩
 rw [hB] at Hbnd hrd hb8
 rw [← sh127] at hrest
 have Hrd := hide hrd
 have Hlim := hide hlim
 have ha256 : a < 256 := by omega
 clear hs hc0 hf hk ha hB hrd hlim
 go_enter Tryz.func126, Tryz.ntmps126
 go_wp2
 go_loop [6] (fun i => ∃ j : Nat, j ≤ k ∧ i = .int .i64 j) (fun i => (9 - intOf i).toNat)
 case atStart => exact ⟨0, by omega, rfl⟩
 case round =>
  obtain ⟨j, hj, rfl⟩ := hrel
  by_cases hjk : j < k
  ·have hb := Hlb.out j (by omega) hj
   rw [← sh128, decide_eq_true hjk] at hb
   go_wp2
   go_round
   case rel => exact ⟨j + 1, by omega, by go_num⟩
   case measure => simp [intOf]; omega
  ·have hjk2 : j = k := by omega
   subst hjk2
   have hcase : (j < 8 ∧ (bits .and .u8 (c : Int) (128 / 2 ^ j) != 0) = false) ∨ 8 ≤ j := by
    by_cases h8 : j < 8
    ·have := Hlb.out j h8 (Nat.le_refl _)
     rw [← sh128, decide_eq_false hjk] at this
     exact .inl ⟨h8, this⟩
    ·exact .inr (by omega)
   rcases hcase with ⟨h8, hb⟩ | h8
   all_goals
    by_cases hsz : s.size < j + 1
    ·have hpk := hide (pk_none (by rw [Hrd.out, if_pos (by omega)]))
     go_wp2
     go_ret3
     exact ⟨ret_of hpk.out.symm, rfl⟩
    ·go_wp2
     go_loop [7, 8] (fun n i => ∃ m : Nat, 1 ≤ m ∧ m ≤ j + 1 ∧ i = .int .i64 m ∧ n = .int .u64 ((vl a (((toL s).drop 1).take (m - 1)) : Nat) : Int)) (fun _ i => (j + 2 - intOf i).toNat)
     case atStart => exact ⟨1, by omega, by omega, rfl, by simp [vl]⟩
     case round =>
      obtain ⟨m, hm1, hmj, rfl, rfl⟩ := hrel
      have hvl := vl_lt (((toL s).drop 1).take (m - 1)) a
      by_cases hmk : m ≤ j
      ·have hms : m < s.size := by omega
       have Hst := hide (vl_take_byte a m s hm1 hms)
       have hlen : (((toL s).drop 1).take (m - 1)).length = m - 1 := by
        rw [List.length_take, List.length_drop, toL_length]; omega
       rw [hlen] at hvl
       have hv56 : vl a (((toL s).drop 1).take (m - 1)) < 72057594037927936 := by
        refine Nat.lt_of_lt_of_le hvl (Nat.le_trans ?_ Hlim.out.2)
        exact Nat.mul_le_mul_left _ (Nat.pow_le_pow_right (by omega) (by omega))
       obtain ⟨y, hy⟩ : ∃ y, (s[m]).toNat = y := ⟨_, rfl⟩
       have hy8 : y < 256 := by rw [← hy]; exact UInt8.toNat_lt _
       rw [hy] at Hst
       obtain ⟨v, hv⟩ : ∃ v, vl a (((toL s).drop 1).take (m - 1)) = v := ⟨_, rfl⟩
       rw [hv] at Hst hv56 ⊢
       have Hor := hide (or_byte v y hv56 hy8)
       clear hvl hlen hv
       go_wp2
       go_round
       case rel => exact ⟨m + 1, by omega, by omega, by go_num, by rw [Hor.out, Nat.add_sub_cancel, Hst.out]⟩
       case measure => simp [intOf]; omega
      ·have hmj2 : m = j + 1 := by omega
       subst hmj2
       rw [Nat.add_sub_cancel] at hvl ⊢
       have hlen : (((toL s).drop 1).take j).length = j := by
        rw [List.length_take, List.length_drop, toL_length]; omega
       rw [hlen] at hvl
       have hv64 := Nat.lt_of_lt_of_le hvl Hlim.out.1
       obtain ⟨v, hv⟩ : ∃ v, vl a (((toL s).drop 1).take j) = v := ⟨_, rfl⟩
       rw [hv] at hv64 ⊢
       have Hrd2 := Hrd.out
       rw [hv, if_neg (by omega)] at Hrd2
       clear hvl hlen hv
       by_cases hov : 9223372036854775807 < v + B
       ·rw [if_pos hov] at Hrd2
        have hpk := hide (pk_none Hrd2)
        have i2 : (9223372036854775807 : Int) - (B : Int) < (v : Int) := by omega
        clear Hrd2 hov
        go_wp2_with (go_at_call 66; refine (Hbnd.out _).mono ?_; rintro e w' ⟨rfl, rfl⟩)
        go_ret3
        exact ⟨ret_of hpk.out.symm, rfl⟩
       ·rw [if_neg hov] at Hrd2
        have hpk := hide (pk_some Hrd2)
        have i2 : ¬ (9223372036854775807 : Int) - (B : Int) < (v : Int) := by omega
        clear Hrd2 hov
        go_wp2_with (go_at_call 66; refine (Hbnd.out _).mono ?_; rintro e w' ⟨rfl, rfl⟩)
        go_ret3
        exact ⟨ret_of (by rw [hpk.out]; push_cast; rfl), rfl⟩
end Go.Proofs.YtoeeblldgoccoaaGreat
