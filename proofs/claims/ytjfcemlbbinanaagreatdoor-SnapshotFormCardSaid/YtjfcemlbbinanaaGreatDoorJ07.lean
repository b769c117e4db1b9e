/-
  The walks over numbers as bytes, fourth part: the number at the front of bytes.
-/
import Derived.Test.YtjfcemlbbinanaaGreatDoorJ06
set_option linter.unusedVariables false
set_option linter.unusedSimpArgs false
namespace Go.Proofs.YtjfcemlbbinanaaGreatDoor
open Go.RowKit Go.Proofs Wv Wv.Vi Wv.Ru
set_option linter.unusedVariables false

theorem emp1 {s : ByteArray} (h : s.size = 0) : s.toList.isEmpty = true := by
 rw [ByteArray.toList_eq]
 have : s.data.toList.length = 0 := h
 rw [List.eq_nil_of_length_eq_zero this]
 rfl
theorem emp0 {s : ByteArray} (h : 0 < s.size) : s.toList.isEmpty = false := by
 rw [ByteArray.toList_eq]
 have : s.data.toList.length = s.size := rfl
 match hl : s.data.toList with
 | [] => rw [hl] at this; simp at this; omega
 | _ :: _ => rfl
theorem peek_nil {w : World} {b e : Nat} {s : ByteArray} (h : RV w b s e) (hs : s.size = 0) :
  Calls Tryz.prog 134 #[.pointer (some ⟨b, 0, none⟩)] w fun x w' => x = .returned (.tuple #[.int .i64 0, .int .i64 0, .bool false]) ∧ w = w' := by
 have h1 := h.c0
 have he2 := emp1 hs
 go_enter Tryz.func134, Tryz.ntmps134
 go_wp2
 go_ret3
 exact ⟨rfl, rfl⟩
structure Fst (s : ByteArray) (c k : Nat) : Prop where
 pos : 0 < s.size
 get : ∀ h : 0 < s.size, (s[0]'h).toNat = c
 lt : c < 256
 lead : lead c = k
theorem fst_of {s : ByteArray} (h : 0 < s.size) : ∃ c, Fst s c (lead c) ∧ c = (s[0]).toNat ∧ toL s = UInt8.ofNat c :: (toL s).drop 1 := by
 refine ⟨(s[0]).toNat, ⟨h, fun _ => rfl, UInt8.toNat_lt _, rfl⟩, rfl, ?_⟩
 have h1 : 0 < (toL s).length := h
 have h2 : toL s = (toL s)[0] :: (toL s).drop 1 := by rw [← List.drop_eq_getElem_cons h1, List.drop_zero]
 have h3 : (toL s)[0] = s[0] := by simp [toL]; rfl
 rw [h3] at h2
 rw [UInt8.ofNat_toNat]
 exact h2
theorem vl_take_byte (a m : Nat) (s : ByteArray) (h1 : 1 ≤ m) (h : m < s.size) : vl a (((toL s).drop 1).take m) = 256 * vl a (((toL s).drop 1).take (m - 1)) + (s[m]).toNat := by
 have hl : m < (toL s).length := h
 obtain ⟨j, rfl⟩ : ∃ j, m = j + 1 := ⟨m - 1, by omega⟩
 have h2 : j < ((toL s).drop 1).length := by rw [List.length_drop]; omega
 rw [List.take_succ_eq_append_getElem h2, Nat.add_sub_cancel]
 have h3 : ((toL s).drop 1)[j] = s[j + 1] := by
  rw [List.getElem_drop]
  simp only [toL, Nat.add_comm 1 j]
  rw [Array.getElem_toList]
  rfl
 rw [h3]
 simp only [vl, List.foldl_append, List.foldl_cons, List.foldl_nil]
 rfl
def pk (s : ByteArray) : Value := match rd (toL s) with
 | none => .tuple #[.int .i64 0, .int .i64 0, .bool false]
 | some x => .tuple #[.int .i64 (x.1 : Int), .int .i64 (x.2 : Int), .bool true]
theorem pk_none {s : ByteArray} (h : rd (toL s) = none) : pk s = .tuple #[.int .i64 0, .int .i64 0, .bool false] := by unfold pk; rw [h]
theorem pk_some {s : ByteArray} {n z : Nat} (h : rd (toL s) = some (n, z)) : pk s = .tuple #[.int .i64 (n : Int), .int .i64 (z : Int), .bool true] := by unfold pk; rw [h]
theorem ret_of {a b : Value} (h : a = b) : Ending.returned a = .returned b := by rw [h]

set_option maxHeartbeats 1000000 in
theorem peek_main {w : World} {b e : Nat} {s : ByteArray} (h : RV w b s e) (hp : 0 < s.size) (hm : s.size ≤ 1099511627776) :
  Calls Tryz.prog 134 #[.pointer (some ⟨b, 0, none⟩)] w fun x w' => x = .returned (pk s) ∧ w = w' := by
 obtain ⟨c, hf, hc0, hs⟩ := fst_of hp
 have h1 := h.c0
 have he3 := emp0 hp
 have hg := hf.get hp
 have hc := hf.lt
 have hk8 := lead_le c
 have hrest := lead_rest c hc
 have hlim := first_lt c hc
 have hrd := rd_cons (UInt8.ofNat c) ((toL s).drop 1)
 rw [← hs, show (UInt8.ofNat c).toNat = c from by simp; omega, show ((toL s).drop 1).length = s.size - 1 from by rw [List.length_drop]; rfl] at hrd
 have Hlb := hide (lead_bit c hc)
 have Hbnd := hide (bound_any (lead c : Int) (by omega) (by omega))
 rw [Int.toNat_natCast] at Hbnd
 have hb8 := bnd_le (lead c) hk8
 obtain ⟨k, hk⟩ : ∃ k, lead c = k := ⟨_, rfl⟩
 rw [hk] at Hlb hrest hlim hrd Hbnd hk8 hb8
 obtain ⟨a, ha⟩ : ∃ a, c - (256 - 2 ^ (8 - k)) = a := ⟨_, rfl⟩
 rw [ha] at hrest hlim hrd
 obtain ⟨B, hB⟩ : ∃ B, bnd k = B := ⟨_, rfl⟩
 rw [hB] at Hbnd hrd hb8
 rw [← sh127] at hrest
 have Hrd := hide hrd
 have Hlim := hide hlim
 have ha256 : a < 256 := by omega
 clear hs hc0 hf hk ha hB hrd hlim
 go_enter Tryz.func134, Tryz.ntmps134
 go_wp2
 go_loop [6] (fun i => ∃ j : Nat, j ≤ k ∧ i = .int .i64 j) (fun i => (9 - intOf i).toNat)
 case atStart => exact ⟨0, by omega, rfl⟩
 case round =>
  obtain ⟨j, hj, rfl⟩ := hrel
  by_cases hjk : j < k
  ·have hb := Hlb.out j (by omega) hj
   rw [← sh128, decide_eq_true hjk] at hb
   go_wp2
   go_round
   case rel => exact ⟨j + 1, by omega, by go_num⟩
   case measure => simp [intOf]; omega
  ·have hjk2 : j = k := by omega
   subst hjk2
   have hcase : (j < 8 ∧ (bits .and .u8 (c : Int) (128 / 2 ^ j) != 0) = false) ∨ 8 ≤ j := by
    by_cases h8 : j < 8
    ·have := Hlb.out j h8 (Nat.le_refl _)
     rw [← sh128, decide_eq_false hjk] at this
     exact .inl ⟨h8, this⟩
    ·exact .inr (by omega)
   rcases hcase with ⟨h8, hb⟩ | h8
   all_goals
    by_cases hsz : s.size < j + 1
    ·have hpk := hide (pk_none (by rw [Hrd.out, if_pos (by omega)]))
     go_wp2
     go_ret3
     exact ⟨ret_of hpk.out.symm, rfl⟩
    ·go_wp2
     go_loop [7, 8] (fun n i => ∃ m : Nat, 1 ≤ m ∧ m ≤ j + 1 ∧ i = .int .i64 m ∧ n = .int .u64 ((vl a (((toL s).drop 1).take (m - 1)) : Nat) : Int)) (fun _ i => (j + 2 - intOf i).toNat)
     case atStart => exact ⟨1, by omega, by omega, rfl, by simp [vl]⟩
     case round =>
      obtain ⟨m, hm1, hmj, rfl, rfl⟩ := hrel
      have hvl := vl_lt (((toL s).drop 1).take (m - 1)) a
      by_cases hmk : m ≤ j
      ·have hms : m < s.size := by omega
       have Hst := hide (vl_take_byte a m s hm1 hms)
       have hlen : (((toL s).drop 1).take (m - 1)).length = m - 1 := by
        rw [List.length_take, List.length_drop, toL_length]; omega
       rw [hlen] at hvl
       have hv56 : vl a (((toL s).drop 1).take (m - 1)) < 72057594037927936 := by
        refine Nat.lt_of_lt_of_le hvl (Nat.le_trans ?_ Hlim.out.2)
        exact Nat.mul_le_mul_left _ (Nat.pow_le_pow_right (by omega) (by omega))
       obtain ⟨y, hy⟩ : ∃ y, (s[m]).toNat = y := ⟨_, rfl⟩
       have hy8 : y < 256 := by rw [← hy]; exact UInt8.toNat_lt _
       rw [hy] at Hst
       obtain ⟨v, hv⟩ : ∃ v, vl a (((toL s).drop 1).take (m - 1)) = v := ⟨_, rfl⟩
       rw [hv] at Hst hv56 ⊢
       have Hor := hide (or_byte v y hv56 hy8)
       clear hvl hlen hv
       go_wp2
       go_round
       case rel => exact ⟨m + 1, by omega, by omega, by go_num, by rw [Hor.out, Nat.add_sub_cancel, Hst.out]⟩
       case measure => simp [intOf]; omega
      ·have hmj2 : m = j + 1 := by omega
       subst hmj2
       rw [Nat.add_sub_cancel] at hvl ⊢
       have hlen : (((toL s).drop 1).take j).length = j := by
        rw [List.length_take, List.length_drop, toL_length]; omega
       rw [hlen] at hvl
       have hv64 := Nat.lt_of_lt_of_le hvl Hlim.out.1
       obtain ⟨v, hv⟩ : ∃ v, vl a (((toL s).drop 1).take j) = v := ⟨_, rfl⟩
       rw [hv] at hv64 ⊢
       have Hrd2 := Hrd.out
       rw [hv, if_neg (by omega)] at Hrd2
       clear hvl hlen hv
       by_cases hov : 9223372036854775807 < v + B
       ·rw [if_pos hov] at Hrd2
        have hpk := hide (pk_none Hrd2)
        have i2 : (9223372036854775807 : Int) - (B : Int) < (v : Int) := by omega
        clear Hrd2 hov
        go_wp2_with (go_at_call 54; refine (Hbnd.out _).mono ?_; rintro e w' ⟨rfl, rfl⟩)
        go_ret3
        exact ⟨ret_of hpk.out.symm, rfl⟩
       ·rw [if_neg hov] at Hrd2
        have hpk := hide (pk_some Hrd2)
        have i2 : ¬ (9223372036854775807 : Int) - (B : Int) < (v : Int) := by omega
        clear Hrd2 hov
        go_wp2_with (go_at_call 54; refine (Hbnd.out _).mono ?_; rintro e w' ⟨rfl, rfl⟩)
        go_ret3
        exact ⟨ret_of (by rw [hpk.out]; push_cast; rfl), rfl⟩
end Go.Proofs.YtjfcemlbbinanaaGreatDoor
