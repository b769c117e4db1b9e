/-
  Joined texts: BioPw6, BioPw7, BioPw8, Bits5, BioRef5.
-/
import Derived.Test.YtoeeblldgoccoaaGreatL37
import Derived.Test.YtoeeblldgoccoaaGreatL33
set_option linter.unusedVariables false
set_option linter.unusedSimpArgs false
set_option maxRecDepth 100000
set_option maxHeartbeats 8000000
namespace Go.Proofs.YtoeeblldgoccoaaGreat.Bio
open Go.RowKit Go.Proofs Wv Wv.Bit
theorem newwriter_any (w : World) :
  Calls Tryz.prog 98 #[] w fun e w' => e = .returned (.pointer (some ⟨w.heap.size, 0, none⟩)) ∧ WrAt w' w.heap.size (.slice none 0 0) [] ∧ Below w.heap.size w w' := by
 go_enter Tryz.func98, Tryz.ntmps98
 go_wp2
 go_ret
 exact ⟨rfl, ⟨Bk.new _ _ _, World.ownsRow_nil _ _ _ _⟩, (Below.refl _ _).alloc (Nat.le_refl _) _⟩
theorem bytes_of (l : List UInt8) : ∀ y ∈ l.map bv, y.oneCell' = true := by
 intro y hy;obtain ⟨b, _, rfl⟩ := List.mem_map.1 hy;rfl
theorem wbytes_any {b : Nat} {dv : Value} {l : List Bool} {w : World} (hw : WrAt w b dv l) (hl : l.length ≤ 65536) :
  Calls Tryz.prog 101 #[.pointer (some ⟨b, 0, none⟩)] w fun e w' => e = .returned (.string ⟨(pack (l ++ [true])).toArray⟩) ∧ Below w.heap.size w w' := by
 have hpl := pack_length l;have hm0 : (w.alloc (.cells #[] 5)).ownsRow w.heap.size 5 1 (.slice (some ⟨w.heap.size, 0, none⟩) 0 0) 0 [] := World.ownsRow_made w #[] 0 (Nat.le_refl _) (by unfold maxLen; omega) rfl;have hsrc : (w.alloc (.cells #[] 5)).drew.ownsRow 0 5 1 dv (pack l).length ((pack l).map bv) := hw.2.alloc _;have hm1 : (w.alloc (.cells #[] 5)).drew.ownsRow w.heap.size 5 1 (.slice (some ⟨w.heap.size, 0, none⟩) 0 0) 0 [] := hm0;obtain ⟨v', w1, hrun, hown1, hg1, hat⟩ := run_app (P := Tryz.prog) 42 42 5 _ _ Tryz.underlying42 u8inf rfl hm1 hsrc (bytes_of _) (by unfold maxLen; omega) (by omega) (by simp);have hf1 : Below w.heap.size w w1 := (((Below.refl _ _).alloc (Nat.le_refl _) (.cells #[] 5)).drew).grown hg1 (by simp) (fun k hk => by simp [Value.ownBlock] at hk; omega);have hw1 : WrAt w1 b dv l := hw.below hf1;have q0 := hw.1.cell 0;have q1 := hw.1.cell 1;have hbl := hw.1.lt;have p1 := hw1.1.cell 1
 simp at q0 q1 p1
 simp only [Nat.zero_add, List.nil_append] at hown1;obtain ⟨A, M, cap, rfl⟩ := own_slice hown1;have Hown1 := hide hown1;have Hf1 := hide hf1;clear hsrc hm0 hm1 hown1 hat hg1 hf1
 go_enter Tryz.func101, Tryz.ntmps101
 go_wp2
 have Hrun := hide hrun;clear hrun
 go_region_law (refine step_run (by rfl) _ _ _ (by rfl) _ _ (by rfl) (by rfl) Hrun.out ?_)
 all_goals
  have hb0 : WrAt (w1.alloc (.cells #[.slice A M cap, .int .i64 (l.length : Int)] 160)) w1.heap.size (.slice A M cap) l := ⟨Bk.new _ _ _, (own_base Hown1.out (Nat.zero_le _)).alloc _⟩;have Hp := hide (put_any hb0 1 1 (by omega) (by omega) (by omega) (by omega) (by simp; omega))
  go_wp2_with fail
  refine (Hp.out).mono ?_;rintro e w2 ⟨rfl, d2, hw2, hf2, ho2⟩;rw [show num (Int.toNat 1) (Int.toNat 1) = [true] from rfl] at hw2;obtain ⟨g, cap2, rfl, hcap2⟩ := own_form hw2.2 (by rw [pack_length, List.length_append, List.length_singleton]; omega);have hcv := conv_own (P := Tryz.prog) 42 9 5 Tryz.underlying42 Tryz.underlying5 Tryz.underlying9 hw2.2;have r0 := hw2.1.cell 0
  simp at r0
  have hbb : Below w.heap.size w w2 := by
   have h1 : Below w.heap.size w (w1.alloc (.cells #[.slice A M cap, .int .i64 (l.length : Int)] 160)) := Hf1.out.alloc Hf1.out.size _
   have h2 := hf2.toBelow' (B := w.heap.size) (Nat.le_trans Hf1.out.size (by simp)) (fun k hk hs => by
    rcases hs with hs | hs
    ·have := Hf1.out.size; omega
    ·have := (Hown1.out.lt k hs).1; omega)
   exact h1.trans h2
  clear hw2 hf2 ho2
  go_wp2
  go_ret
  exact ⟨rfl, hbb⟩
theorem byte_last (s : ByteArray) (h : s.size - 1 < s.size) : s.data.toList.getD (s.size - 1) 0 = s[s.size - 1] := by
 simp only [List.getD, Array.getElem?_toList];rw [Array.getElem?_eq_getElem (show s.size - 1 < s.data.size from h)];rfl
theorem toList_len (s : ByteArray) : s.toList.length = s.size := by
 rw [Lib.toList_data, ← Lib.size_eq]
theorem toList_ne (s : ByteArray) (h : 0 < s.size) : ¬ s.toList = [] := fun e => by
 have := toList_len s
 rw [e] at this; simp at this; omega
theorem isEmpty_false (s : ByteArray) (h : 0 < s.size) : s.toList.isEmpty = false := by
 have := toList_ne s h
 simpa using this
theorem newreader_none (s : ByteArray) (w : World) (hs : s.size ≤ 9223372036854775807) (h8 : s.size ≤ 1000000000000000) (h : nrd s = none) :
  Calls Tryz.prog 128 #[.string s] w fun e w' => e = .returned (.tuple #[.pointer none, .int .i64 12]) ∧ Below w.heap.size w w' := by
 by_cases h0 : s.size = 0
 ·have he : s = ⟨#[]⟩ := by
   apply ByteArray.ext
   exact Array.eq_empty_of_size_eq_zero h0
  subst he;clear h h0 hs h8
  go_enter Tryz.func128, Tryz.ntmps128
  go_wp2
  go_ret2
  exact ⟨rfl, Below.refl _ _⟩
 ·have hpos : 0 < s.size := by omega
  have hlt : s.size - 1 < s.size := by omega
  obtain ⟨x, hx⟩ : ∃ x, s[s.size - 1] = x := ⟨_, rfl⟩
  have hx2 : s.data.toList.getD (s.size - 1) 0 = x := by rw [byte_last s hlt, hx]
  have hE := isEmpty_false s hpos;have hE2 := toList_ne s hpos
  by_cases hz : x = 0
  ·have hb : ((x.toNat : Int) == 0) = true := by subst hz; rfl
   clear h hx2 h0 hz
   go_enter Tryz.func128, Tryz.ntmps128
   go_wp2
   go_ret2
   exact ⟨rfl, Below.refl _ _⟩
  ·have hb : ((x.toNat : Int) == 0) = false := by
    rw [beq_eq_false_iff_ne];intro e
    exact hz (by
     have e2 : x.toNat = 0 := by omega
     have := congrArg UInt8.ofNat e2
     simpa using this)
   have hn : 65536 < 8 * s.size - 1 - Lib.trailingZeros8 x.toNat := by
    unfold nrd at h;rw [if_neg h0, hx2, if_neg hz] at h
    split at h
    ·assumption
    ·cases h
   have ht : Lib.trailingZeros8 x.toNat ≤ 8 := Lib.trailingZeros8_le8 ⟨_, UInt8.toNat_lt _⟩;have Ht := hide (fun w => Go.Proofs.Tryz.bits_TrailingZeros8 (x.toNat : Int) w (by omega) (by have := UInt8.toNat_lt x; omega));rw [Int.toNat_natCast] at Ht
   generalize Lib.trailingZeros8 x.toNat = t at *
   clear h hx2 h0 hz
   go_enter Tryz.func128, Tryz.ntmps128
   go_wp2_with (go_at_call 158; refine (Ht.out _).mono ?_; rintro e w1 ⟨rfl, rfl⟩)
   go_ret2
   exact ⟨rfl, Below.refl _ _⟩
theorem newreader_some (s : ByteArray) (w : World) (n : Nat) (h : nrd s = some n) :
  Calls Tryz.prog 128 #[.string s] w fun e w' => e = .returned (.tuple #[.pointer (some ⟨w.heap.size, 0, none⟩), .int .i64 0]) ∧ RdAt w' w.heap.size s 0 n ∧ Below w.heap.size w w' := by
 obtain ⟨a1, a2, a3⟩ := nrd_le h
 by_cases h0 : s.size = 0
 ·rw [nrd_none0 h0] at h; cases h
 ·have hpos : 0 < s.size := by omega
  have hlt : s.size - 1 < s.size := by omega
  obtain ⟨x, hx⟩ : ∃ x, s[s.size - 1] = x := ⟨_, rfl⟩
  have hx2 : s.data.toList.getD (s.size - 1) 0 = x := by rw [byte_last s hlt, hx]
  have hE := isEmpty_false s hpos;have hE2 := toList_ne s hpos
  have hz : x ≠ 0 := fun e => by
   rw [nrd_none1 (hx2.trans e)] at h; cases h
  have hb : ((x.toNat : Int) == 0) = false := by
   rw [beq_eq_false_iff_ne];intro e
   exact hz (by
    have e2 : x.toNat = 0 := by omega
    have := congrArg UInt8.ofNat e2
    simpa using this)
  have hn : n = 8 * s.size - 1 - Lib.trailingZeros8 x.toNat := by
   unfold nrd at h;rw [if_neg h0, hx2, if_neg hz] at h
   split at h
   ·cases h
   ·injection h with h; exact h.symm
  have ht : Lib.trailingZeros8 x.toNat < 8 := (tz8_spec ⟨x.toNat, UInt8.toNat_lt x⟩ (fun e => hz (by
   have := congrArg UInt8.ofNat e
   simpa using this))).1
  have Ht := hide (fun w => Go.Proofs.Tryz.bits_TrailingZeros8 (x.toNat : Int) w (by omega) (by have := UInt8.toNat_lt x; omega));rw [Int.toNat_natCast] at Ht
  generalize Lib.trailingZeros8 x.toNat = t at *
  have hc : 8 * (s.size : Int) - 1 - (t : Int) = (n : Int) := by
   have := a2.1
   by_cases h8 : 8 * s.size - 1 < t
   ·omega
   ·omega
  have hq := a2.1
  have hs9 : s.size ≤ 9223372036854775807 := by omega
  clear h hx2 h0 hz hn a2
  go_enter Tryz.func128, Tryz.ntmps128
  go_wp2_with (go_at_call 158; refine (Ht.out _).mono ?_; rintro e w1 ⟨rfl, rfl⟩)
  go_ret2
  exact ⟨rfl, ⟨Bk.new _ _ _, by omega, a1, by omega⟩, (Below.refl _ _).alloc (Nat.le_refl _) _⟩
end Go.Proofs.YtoeeblldgoccoaaGreat.Bio
namespace Wv.Bit
def part (T : List Bool) (i : Nat) : List UInt8 := (List.range (T.length / 8)).map fun j => UInt8.ofNat (val ((T.drop (8 * j)).take (min 8 (i - 8 * j))))
theorem part_length (T : List Bool) (i : Nat) : (part T i).length = T.length / 8 := by simp [part]
theorem part_zero (T : List Bool) : part T 0 = List.replicate (T.length / 8) 0 := by
 apply List.ext_getElem
 ·simp [part]
 ·intro j h1 h2
  simp [part, val]
def partAt (T : List Bool) (i : Nat) : Nat := val ((T.drop (8 * (i / 8))).take (i % 8))
theorem partAt_lt (T : List Bool) (i : Nat) : partAt T i < 128 := by
 have h := val_take_lt (T.drop (8 * (i / 8))) (i % 8);have : (2 : Nat) ^ (i % 8) ≤ 2 ^ 7 := Nat.pow_le_pow_right (by omega) (by omega)
 unfold partAt; omega
theorem part_get (T : List Bool) (i : Nat) (h : i / 8 < (part T i).length) : (part T i)[i / 8] = UInt8.ofNat (partAt T i) := by
 simp only [part, List.getElem_map, List.getElem_range, partAt];rw [show min 8 (i - 8 * (i / 8)) = i % 8 from by omega]
theorem part_succ (T : List Bool) (i : Nat) (h : i < T.length) (h8 : T.length % 8 = 0) : part T (i + 1) = (part T i).set (i / 8) (UInt8.ofNat (2 * partAt T i + bt T i)) := by
 apply List.ext_getElem
 ·rw [List.length_set, part_length, part_length]
 ·intro j h1 h2
  rw [List.getElem_set];simp only [part, List.getElem_map, List.getElem_range];rw [part_length] at h1
  split
  ·rename_i hj
   subst hj
   congr 1
   rw [show min 8 (i + 1 - 8 * (i / 8)) = i % 8 + 1 from by omega, val_take_succ _ _ (by rw [List.length_drop]; omega), bt_drop, partAt]
   congr 2
   omega
  ·rename_i hj
   congr 3
   omega
theorem byteAt_val (T : List Bool) (j : Nat) (h : 8 * j + 8 ≤ T.length) : byteAt T j = val ((T.drop (8 * j)).take 8) := by
 unfold byteAt
 congr 1
 apply List.ext_getElem
 ·simp; omega
 ·intro i h1 h2
  simp at h1
  simp [List.getD, show 8 * j + i < T.length by omega]
theorem part_all (T : List Bool) (h8 : T.length % 8 = 0) : part T T.length = pack T := by
 apply List.ext_getElem
 ·rw [part_length, pack_length]; omega
 ·intro j h1 h2
  rw [pack_getElem, byteAt_val T j (by rw [part_length] at h1; omega)];simp only [part, List.getElem_map, List.getElem_range];rw [part_length] at h1;rw [show min 8 (T.length - 8 * j) = 8 from by omega]
theorem pack_fill (l : List Bool) (r : Nat) (h : (l.length + r) % 8 = 0) (hr : r < 8) : pack (l ++ List.replicate r false) = pack l := by
 apply List.ext_getElem
 ·rw [pack_length, pack_length, List.length_append, List.length_replicate]; omega
 ·intro j h1 h2
  rw [pack_getElem, pack_getElem]
  have e : ∀ k, bt (l ++ List.replicate r false) k = bt l k := by
   intro k;rw [bt_append]
   split
   ·rfl
   ·rename_i hk
    rw [bt_out l k (by omega)]
    by_cases c : k - l.length < r
    ·simp [bt, List.getD, c]
    ·exact bt_out _ _ (by simp; omega)
  rw [byteAt_sum, byteAt_sum];simp only [e]
end Wv.Bit
namespace Go.Proofs.YtoeeblldgoccoaaGreat.Bio
open Go.RowKit Go.Proofs Wv Wv.Bit
theorem txt_one (b : List Bool) : txt b ++ ⟨#[49]⟩ = txt (b ++ [true]) := by rw [txt_append]; rfl
theorem txt_zero (b : List Bool) : txt b ++ ⟨#[48]⟩ = txt (b ++ [false]) := by rw [txt_append]; rfl
theorem refbytes_any (l : List Bool) (w : World) (hl : l.length ≤ 65536) :
  Calls Tryz.prog 70 #[.string (txt l)] w fun e w' => e = .returned (.string (bstr l)) ∧ Below w.heap.size w w' := by
 have h1 := txt_one l
 have hs : (txt l).size ≤ 65536 := by rw [txt_size]; exact hl
 go_enter Tryz.func70, Tryz.ntmps70
 go_wp2
 go_loop [0] (fun s => ∃ r : Nat, r < 8 ∧ r ≤ (7 - l.length % 8) ∧ s = .string (txt (l ++ [true] ++ List.replicate r false))) (fun s => (match s with | .string t => 80000 - t.size | _ => 0))
 case atStart => exact ⟨0, by omega, by omega, by simp⟩
 case round =>
  obtain ⟨r, hr, hr7, rfl⟩ := hrel;obtain ⟨T, hT⟩ : ∃ T, l ++ [true] ++ List.replicate r false = T := ⟨_, rfl⟩
  have hTl : T.length = l.length + 1 + r := by rw [← hT]; simp; omega
  have hts := txt_size T;rw [hT]
  by_cases h8 : T.length % 8 = 0
  ·have hfin : pack T = pack (l ++ [true]) := by rw [← hT]; exact pack_fill _ _ (by simp; omega) hr
   have Hfin := hide hfin
   have e8 : ¬ (0 : Int) < ((txt T).size : Int) % 8 := by rw [hts]; omega
   have e9 : ((txt T).size : Int) / 8 = ((T.length / 8 : Nat) : Int) := by rw [hts]; omega
   obtain ⟨M, hM⟩ : ∃ M, T.length / 8 = M := ⟨_, rfl⟩;rw [hM] at e9;have hmk := mk_row (P := Tryz.prog) 42 5 _ _ Tryz.underlying42 u8info rfl ((M : Nat) : Int) M rfl (by omega) (by omega);rw [bc_replicate] at hmk
   have hsz1 : (txt T).size ≤ T.length := by omega
   have hsz2 : T.length ≤ (txt T).size := by omega
   have hb0 : List.replicate M 0 = Bit.part T 0 := by rw [Bit.part_zero, hM]
   rw [hb0] at hmk;have Hget := hide (txt_get T);have Hh8 := hide h8;clear hb0 hT hts h8 h1 hs hfin
   go_wp2
   go_loopw [4] (fun i wr => ∃ k : Nat, k ≤ T.length ∧ i = .int .i64 k ∧ Bk wr w.heap.size 5 (bc (Bit.part T k)) ∧ Below w.heap.size w wr) (fun i _ => (T.length - intOf i).toNat)
   case atStart => exact ⟨0, by omega, rfl, Bk.new _ _ _, (Below.refl _ _).alloc (Nat.le_refl _) _⟩
   case round =>
    obtain ⟨k, hk, rfl, hb, hf⟩ := hrel
    by_cases hlt : k < T.length
    ·have hz : k / 8 < (Bit.part T k).length := by have := Hh8.out; rw [Bit.part_length]; omega
     have hcl := hb.cell (k / 8);rw [bc_get _ _ hz, Bit.part_get] at hcl;have hfk := hb.frozen (k / 8);have hx := partAt_lt T k
     have hx2 : (UInt8.ofNat (Bit.partAt T k)).toNat = Bit.partAt T k := by simp [Nat.mod_eq_of_lt (show Bit.partAt T k < 256 by omega)]
     rw [hx2] at hcl
     have i6 : k < (txt T).size := by omega
     have hg := Hget.out k i6;have hb1 := bt_le T k;have Hsucc := hide (part_succ T k hlt Hh8.out)
     have hzM : k / 8 < M := by have := Bit.part_length T k; omega
     obtain ⟨z, hz2⟩ : ∃ z, k / 8 = z := ⟨_, rfl⟩;rw [hz2] at hcl hfk hzM hz Hsucc;obtain ⟨x, hx3⟩ : ∃ x, Bit.partAt T k = x := ⟨_, rfl⟩;rw [hx3] at hcl hx Hsucc
     have i3 : IntKind.i64.wrap ((k : Int) / 8) = (z : Int) := by rw [IntWalk.i64_in _ (by omega)]; omega
     have i4 : (z : Int) < (M : Int) := by omega
     have i5 : (k : Int) < ((txt T).size : Int) := by omega
     have Hb := hide hb;have HM := hide hM;clear hz2 hx3 hx2 hb hM
     go_wp2
     go_region
     rw [show ((2 * (x : Int) + (48 + (bt T k : Int)) - 48) % 256) = ((2 * x + bt T k : Nat) : Int) from by omega];have hb2 := Hb.out.put z (.int .u8 ((2 * x + bt T k : Nat) : Int));rw [bc_set _ _ _ (by omega) (by omega), Int.toNat_natCast, ← Hsucc.out] at hb2
     go_wp2
     go_roundw
     case rel => exact ⟨k + 1, by omega, by go_num, hb2.drew, (hf.setCell (p := ⟨w.heap.size, z, none⟩) (Nat.le_refl _) _).drew⟩
     case measure => simp [intOf]; omega
    ·have hkT : k = T.length := by omega
     have hp := part_all T Hh8.out;rw [hkT, hp, Hfin.out] at hb
     have hln : M = (pack (l ++ [true])).length := by rw [← Hfin.out, ← hp, Bit.part_length, hM]
     have hcv := conv_all (P := Tryz.prog) 42 9 5 Tryz.underlying42 Tryz.underlying5 Tryz.underlying9 wr w.heap.size M M (pack (l ++ [true])) [] (by rw [List.append_nil]; exact hb) hln;clear hkT hp hb hln hM
     go_wp2
     go_ret
     exact ⟨rfl, hf⟩
  ·have e8 : (0 : Int) < ((txt T).size : Int) % 8 := by rw [hts]; omega
   have h0 := hide (txt_zero T);have hT2 := hide (show T ++ [false] = l ++ [true] ++ List.replicate (r + 1) false from by rw [← hT, List.append_assoc, ← List.replicate_succ'])
   have hs9 : (txt T).size ≤ 65545 := by rw [hts]; omega
   have hr2 : r + 1 ≤ 7 - l.length % 8 := by omega
   have hr3 : r + 1 < 8 := by omega
   have hmm := hide (show 80000 - (txt (T ++ [false])).size < 80000 - (txt T).size from by rw [txt_size, txt_size, List.length_append, List.length_singleton]; omega);clear hT hts h8 hTl h1
   go_wp2
   go_round
   case rel => exact ⟨r + 1, hr3, hr2, by rw [h0.out, hT2.out]⟩
   case measure => rw [h0.out]; exact hmm.out
end Go.Proofs.YtoeeblldgoccoaaGreat.Bio
