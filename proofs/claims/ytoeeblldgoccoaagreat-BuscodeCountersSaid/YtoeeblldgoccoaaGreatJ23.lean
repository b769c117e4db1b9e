/-
  Joined texts: Sa, BioPr7, BioPr8, BioPr9, Bits5, BioRef5.
-/
import Derived.Test.YtoeeblldgoccoaaGreatJ22
set_option linter.unusedVariables false
set_option linter.unusedSimpArgs false
/-
  The walks over the references: lists that are held against each other.
-/
namespace Go.Proofs.YtoeeblldgoccoaaGreat
open Go.RowKit Go.Proofs Wv Wv.Vi Wv.Rc Wv.Mo Wv.Ru
set_option linter.unusedVariables false

theorem str_ne {a b : ByteArray} : (a.toList != b.toList) = !decide (a = b) := by
 rw [← str_eq]
 rfl
set_option maxHeartbeats 1000000 in
theorem texts_any {w : World} {A B : Option Addr} {a b : List ByteArray} (ha : At w A (svs a)) (hb : At w B (svs b)) (n cap m cap2 : Nat) (hn : n = a.length) (hm : m = b.length) (hn4 : n ≤ 9223372036854775807) (hm4 : m ≤ 9223372036854775807) :
  Calls Tryz.prog 24 #[.slice A n cap, .slice B m cap2] w fun x w' => x = .returned (.bool (decide (a = b))) ∧ ∃ q, w' = w.drewN q := by
 have Ha := hide ha
 have Hb := hide hb
 have Hn := hide hn
 have Hm := hide hm
 clear ha hb hn hm
 by_cases hl : n = m
 ·subst hl
  have hbn : ((n : Int) != (n : Int)) = false := by simp
  go_enter Tryz.func24, Tryz.ntmps24
  go_wp2
  go_loopw [5] (fun i wr => ∃ k : Nat, k ≤ n ∧ i = .int .i64 k ∧ (∃ q, wr = w.drewN q) ∧ Hid (a.take k = b.take k)) (fun i _ => (n - intOf i).toNat)
  case atStart => exact ⟨0, by omega, rfl, ⟨0, rfl⟩, hide (by simp)⟩
  case round =>
   obtain ⟨k, hk, rfl, ⟨q, rfl⟩, hall⟩ := hrel
   by_cases hlt : k < n
   ·have hka : k < a.length := by rw [← Hn.out]; exact hlt
    have hkb : k < b.length := by rw [← Hm.out]; exact hlt
    obtain ⟨x, hx⟩ : ∃ x, a[k] = x := ⟨_, rfl⟩
    obtain ⟨y, hy⟩ : ∃ y, b[k] = y := ⟨_, rfl⟩
    obtain ⟨bA, oA, hA, hbA, hcA⟩ := Ha.out.get k (.string x) (by rw [svs_get a k hka, hx])
    subst hA
    obtain ⟨bB, oB, hB, hbB, hcB⟩ := Hb.out.get k (.string y) (by rw [svs_get b k hkb, hy])
    subst hB
    have hlt0 : (0 : Int) ≤ (k : Int) := by omega
    have hlt1 : (k : Int) < (n : Int) := by omega
    by_cases he : x = y
    ·have hne : (x.toList != y.toList) = false := by rw [str_ne, he]; simp
     have heq : (x.toList == y.toList) = true := by rw [he]; simp
     have Hall : Hid (a.take (k + 1) = b.take (k + 1)) := hide (by
      rw [List.take_succ_eq_append_getElem hka, List.take_succ_eq_append_getElem hkb, hall.out, hx, hy, he])
     clear he hx hy
     go_wp2
     go_quiet (fail)
     go_wp2
     refine ⟨⟨k + 1, by omega, by go_num, ⟨q + nq, by first | rfl | rw [World.drewN_drewN]⟩, Hall⟩, ?_⟩
     simp [intOf] <;> omega
    ·have hne : (x.toList != y.toList) = true := by rw [str_ne, decide_eq_false he]; rfl
     have heq : (x.toList == y.toList) = false := by rw [str_eq, decide_eq_false he]
     have Hr : Hid (decide (a = b) = false) := hide (decide_eq_false (fun e => he (by subst e; exact hx.symm.trans hy)))
     clear he hx hy
     go_wp2
     go_quiet (fail)
     go_wp2
     go_ret
     exact ⟨ret_bool Hr.out.symm, q + nq, by first | rfl | rw [World.drewN_drewN]⟩
   ·have Hr : Hid (decide (a = b) = true) := hide (decide_eq_true (by
     have := hall.out
     rwa [List.take_of_length_le (by rw [← Hn.out]; omega), List.take_of_length_le (by rw [← Hm.out]; omega)] at this))
    go_wp2
    go_ret
    exact ⟨ret_bool Hr.out.symm, q, rfl⟩
 ·have hbn : ((n : Int) != (m : Int)) = true := by rw [bne_iff_ne]; omega
  have Hr : Hid (decide (a = b) = false) := hide (decide_eq_false (fun e => hl (by rw [Hn.out, Hm.out, e])))
  clear hl
  go_enter Tryz.func24, Tryz.ntmps24
  go_wp2
  go_ret
  exact ⟨ret_bool Hr.out.symm, 0, rfl⟩
def shortB (l : List ByteArray) (most bytes : Int) : Bool := decide ((∀ s ∈ l, (s.size : Int) ≤ bytes) ∧ (l.length : Int) ≤ most)
set_option maxHeartbeats 400000 in
theorem short_any {w : World} {A : Option Addr} {l : List ByteArray} (ha : At w A (svs l)) (hsz : ∀ s ∈ l, s.size ≤ 9223372036854775807) (n cap : Nat) (hn : n = l.length) (hn4 : n ≤ 9223372036854775807) (most bytes : Int) :
  Calls Tryz.prog 30 #[.slice A n cap, .int .i64 most, .int .i64 bytes] w fun x w' => x = .returned (.bool (shortB l most bytes)) ∧ w = w' := by
 have Ha := hide ha
 have Hn := hide hn
 have Hs := hide hsz
 clear ha hn hsz
 go_enter Tryz.func30, Tryz.ntmps30
 go_wp2
 go_loop [7] (fun i => ∃ k : Nat, k ≤ n ∧ i = .int .i64 k ∧ Hid (∀ s ∈ l.take k, (s.size : Int) ≤ bytes)) (fun i => (n - intOf i).toNat)
 case atStart => exact ⟨0, by omega, rfl, hide (by simp)⟩
 case round =>
  obtain ⟨k, hk, rfl, hall⟩ := hrel
  by_cases hlt : k < n
  ·have hkl : k < l.length := by rw [← Hn.out]; exact hlt
   obtain ⟨s, hs⟩ : ∃ s, l[k] = s := ⟨_, rfl⟩
   have hmem : s ∈ l := hs ▸ List.getElem_mem _
   have hss := Hs.out s hmem
   obtain ⟨bA, oA, hA, hbA, hcA⟩ := Ha.out.get k (.string s) (by rw [svs_get l k hkl, hs])
   subst hA
   by_cases hl : (s.size : Int) ≤ bytes
   ·have Hall : Hid (∀ u ∈ l.take (k + 1), (u.size : Int) ≤ bytes) := hide (by
     intro u hu
     rw [List.take_succ_eq_append_getElem hkl, hs] at hu
     rcases List.mem_append.1 hu with h | h
     ·exact hall.out u h
     ·rw [List.mem_singleton] at h; rw [h]; exact hl)
    have hl2 : ¬ bytes < (s.size : Int) := by omega
    clear hs hl hmem
    go_wp2
    go_round
    case rel => exact ⟨k + 1, by omega, by go_num, Hall⟩
    case measure => simp [intOf] <;> omega
   ·have Hr : Hid (shortB l most bytes = false) := hide (decide_eq_false (fun h => hl (h.1 s hmem)))
    have hl2 : bytes < (s.size : Int) := by omega
    clear hs hl hmem
    go_wp2
    go_ret
    exact ⟨ret_bool Hr.out.symm, rfl⟩
  ·have hall2 : ∀ s ∈ l, (s.size : Int) ≤ bytes := by
    have := hall.out
    rwa [List.take_of_length_le (by rw [← Hn.out]; omega)] at this
   by_cases hmo : (n : Int) ≤ most
   ·have Hr : Hid (shortB l most bytes = true) := hide (decide_eq_true ⟨hall2, by rw [← Hn.out]; exact hmo⟩)
    have hd := hide (show decide ((n : Int) ≤ most) = true from decide_eq_true hmo)
    clear hall2
    go_wp2
    go_ret
    exact ⟨ret_bool Hr.out.symm, rfl⟩
   ·have Hr : Hid (shortB l most bytes = false) := hide (decide_eq_false (fun h => hmo (by rw [Hn.out]; exact h.2)))
    have hd := hide (show decide ((n : Int) ≤ most) = false from decide_eq_false hmo)
    clear hall2
    go_wp2
    go_ret
    exact ⟨ret_bool Hr.out.symm, rfl⟩
end Go.Proofs.YtoeeblldgoccoaaGreat
namespace Go.Proofs.YtoeeblldgoccoaaGreat.Bio
set_option maxRecDepth 100000
open Go.RowKit Go.Proofs Wv Wv.Bit

end Go.Proofs.YtoeeblldgoccoaaGreat.Bio
namespace Go.Proofs.YtoeeblldgoccoaaGreat.Bio
set_option maxRecDepth 100000
open Go.RowKit Go.Proofs Wv Wv.Bit

end Go.Proofs.YtoeeblldgoccoaaGreat.Bio
/-
  The walks over the bit strings of the program, ninth part: Get.
-/
namespace Go.Proofs.YtoeeblldgoccoaaGreat.Bio
set_option maxRecDepth 100000
open Go.RowKit Go.Proofs Wv Wv.Bit

theorem RdAt.below {w w' : World} {b x n : Nat} {s : ByteArray} (h : RdAt w b s x n) (hb : Below w.heap.size w w') : RdAt w' b s x n := ⟨h.1.below hb h.1.lt, h.2⟩
theorem RdAt.alloc {w : World} {b x n : Nat} {s : ByteArray} (h : RdAt w b s x n) (o : Obj) : RdAt (w.alloc o) b s x n := ⟨h.1.alloc o, h.2⟩
theorem RdAt.back {w : World} {b x y n : Nat} {s : ByteArray} (h : RdAt w b s y n) (hx : x ≤ n) : RdAt (w.setCell ⟨b, 1, none⟩ (.int .i64 (x : Int))) b s x n := ⟨h.1.put 1 _, hx, h.2.2⟩

set_option maxHeartbeats 400000 in
theorem get0 {b x n : Nat} {s : ByteArray} {w : World} (h : RdAt w b s x n) (p m : Int) (h0 : 0 ≤ p) (h1 : p ≤ 62) :
  Calls Tryz.prog 132 #[.pointer (some ⟨b, 0, none⟩), .int .i64 0, .int .i64 p, .int .i64 m] w fun e w' => ∃ y, e = .returned (.tuple #[.int .i64 ((getm 0 p m ((rbits s n).drop x)).2.1 : Nat), .int .i64 ((getm 0 p m ((rbits s n).drop x)).2.2 : Nat)]) ∧ RdAt w' b s y n ∧ Fr (only b) w w' ∧ (getm 0 p m ((rbits s n).drop x)).1 = (rbits s n).drop y := by
 have hfd := find0 p h0 h1 w
 have hp : par 0 p = true := by simp [par]; omega
 unfold kv0 at hfd
 have Hf := hide hfd
 clear hfd
 have Hh := hide h
 go_enter Tryz.func132, Tryz.ntmps132
 go_wp2_with fail
 refine (Hf.out).mono ?_
 rintro e w1 ⟨rfl, hb⟩
 have hr1 := Hh.out.below hb
 have hc1 := hr1.c1
 have hs := hb.size
 have hlt := hr1.1.lt
 go_wp2_with fail
 have hr2 := (hr1.alloc (.cells kv0.cells 166))
 have Hr := hide (kread0 hr2 p h0 h1)
 simp only [kv0, Value.cells] at Hr
 have hf0 := ((Fr.of_below (S := only b) hb).alloc (.cells kv0.cells 166))
 simp only [kv0, Value.cells] at hf0
 refine (Hr.out).mono ?_
 rintro e w2 ⟨v, er, y, rfl, hr3, hf3, hres⟩
 have hxn := h.2.1
 have g1 := hr3.c1
 have g2 : w2.frozen? ⟨b, 1, none⟩ = false := hr3.1.frozen 1
 by_cases he : er = 0
 ·subst he
  obtain ⟨h5, h6, h7⟩ := getm_ok (m := m) hp hres
  by_cases hm : m < v
  ·rw [if_pos hm] at h6
   have H6 := hide h6
   clear h6
   go_wp2
   go_ret2
   exact ⟨x, ret_int2 (by rw [H6.out]; rfl) (by rw [H6.out]; rfl), hr3.back hxn, (hf0.trans hf3).setCell (p := ⟨b, 1, none⟩) (.inl rfl) _, by rw [H6.out]⟩
  ·rw [if_neg hm] at h6
   have H6 := hide h6
   clear h6
   go_wp2
   go_ret2
   exact ⟨y, ret_int2 (by rw [H6.out]; simp only; omega) (by rw [H6.out]; rfl), hr3, hf0.trans hf3, by rw [H6.out]; simp only; rw [List.drop_drop, show x + (y - x) = y from by omega]⟩
 ·have H6 := hide (getm_err (m := m) hp hres he)
  have he1 : ((er : Int) == 0) = false := by rw [beq_eq_false_iff_ne]; omega
  have he2 : ((er : Int) != 0) = true := by rw [bne_iff_ne]; omega
  clear he
  go_wp2
  go_ret2
  exact ⟨x, ret_int2 (by rw [H6.out]; rfl) (by rw [H6.out]), hr3.back hxn, (hf0.trans hf3).setCell (p := ⟨b, 1, none⟩) (.inl rfl) _, by rw [H6.out]⟩

end Go.Proofs.YtoeeblldgoccoaaGreat.Bio
/-
  Bit strings in plain Lean, fifth part: bytes made bit by bit out of a text that is filled up.
-/
namespace Wv.Bit
def part (T : List Bool) (i : Nat) : List UInt8 := (List.range (T.length / 8)).map fun j => UInt8.ofNat (val ((T.drop (8 * j)).take (min 8 (i - 8 * j))))
theorem part_length (T : List Bool) (i : Nat) : (part T i).length = T.length / 8 := by simp [part]
theorem part_zero (T : List Bool) : part T 0 = List.replicate (T.length / 8) 0 := by
 apply List.ext_getElem
 ·simp [part]
 ·intro j h1 h2
  simp [part, val]
def partAt (T : List Bool) (i : Nat) : Nat := val ((T.drop (8 * (i / 8))).take (i % 8))
theorem partAt_lt (T : List Bool) (i : Nat) : partAt T i < 128 := by
 have h := val_take_lt (T.drop (8 * (i / 8))) (i % 8)
 have : (2 : Nat) ^ (i % 8) ≤ 2 ^ 7 := Nat.pow_le_pow_right (by omega) (by omega)
 unfold partAt; omega
theorem part_get (T : List Bool) (i : Nat) (h : i / 8 < (part T i).length) : (part T i)[i / 8] = UInt8.ofNat (partAt T i) := by
 simp only [part, List.getElem_map, List.getElem_range, partAt]
 rw [show min 8 (i - 8 * (i / 8)) = i % 8 from by omega]
theorem part_succ (T : List Bool) (i : Nat) (h : i < T.length) (h8 : T.length % 8 = 0) : part T (i + 1) = (part T i).set (i / 8) (UInt8.ofNat (2 * partAt T i + bt T i)) := by
 apply List.ext_getElem
 ·rw [List.length_set, part_length, part_length]
 ·intro j h1 h2
  rw [List.getElem_set]
  simp only [part, List.getElem_map, List.getElem_range]
  rw [part_length] at h1
  split
  ·rename_i hj
   subst hj
   congr 1
   rw [show min 8 (i + 1 - 8 * (i / 8)) = i % 8 + 1 from by omega, val_take_succ _ _ (by rw [List.length_drop]; omega), bt_drop, partAt]
   congr 2
   omega
  ·rename_i hj
   congr 3
   omega
theorem byteAt_val (T : List Bool) (j : Nat) (h : 8 * j + 8 ≤ T.length) : byteAt T j = val ((T.drop (8 * j)).take 8) := by
 unfold byteAt
 congr 1
 apply List.ext_getElem
 ·simp; omega
 ·intro i h1 h2
  simp at h1
  simp [List.getD, show 8 * j + i < T.length by omega]
theorem part_all (T : List Bool) (h8 : T.length % 8 = 0) : part T T.length = pack T := by
 apply List.ext_getElem
 ·rw [part_length, pack_length]; omega
 ·intro j h1 h2
  rw [pack_getElem, byteAt_val T j (by rw [part_length] at h1; omega)]
  simp only [part, List.getElem_map, List.getElem_range]
  rw [part_length] at h1
  rw [show min 8 (T.length - 8 * j) = 8 from by omega]
theorem pack_fill (l : List Bool) (r : Nat) (h : (l.length + r) % 8 = 0) (hr : r < 8) : pack (l ++ List.replicate r false) = pack l := by
 apply List.ext_getElem
 ·rw [pack_length, pack_length, List.length_append, List.length_replicate]; omega
 ·intro j h1 h2
  rw [pack_getElem, pack_getElem]
  have e : ∀ k, bt (l ++ List.replicate r false) k = bt l k := by
   intro k
   rw [bt_append]
   split
   ·rfl
   ·rename_i hk
    rw [bt_out l k (by omega)]
    by_cases c : k - l.length < r
    ·simp [bt, List.getD, c]
    ·exact bt_out _ _ (by simp; omega)
  rw [byteAt_sum, byteAt_sum]
  simp only [e]
end Wv.Bit
/-
  The walks over the reference of the bit strings, fifth part: bytes of bits.
-/
namespace Go.Proofs.YtoeeblldgoccoaaGreat.Bio
set_option maxRecDepth 100000
open Go.RowKit Go.Proofs Wv Wv.Bit

theorem txt_one (b : List Bool) : txt b ++ ⟨#[49]⟩ = txt (b ++ [true]) := by rw [txt_append]; rfl
theorem txt_zero (b : List Bool) : txt b ++ ⟨#[48]⟩ = txt (b ++ [false]) := by rw [txt_append]; rfl

set_option maxHeartbeats 1000000 in
theorem refbytes_any (l : List Bool) (w : World) (hl : l.length ≤ 65536) :
  Calls Tryz.prog 70 #[.string (txt l)] w fun e w' => e = .returned (.string (bstr l)) ∧ Below w.heap.size w w' := by
 have h1 := txt_one l
 have hs : (txt l).size ≤ 65536 := by rw [txt_size]; exact hl
 go_enter Tryz.func70, Tryz.ntmps70
 go_wp2
 go_loop [0] (fun s => ∃ r : Nat, r < 8 ∧ r ≤ (7 - l.length % 8) ∧ s = .string (txt (l ++ [true] ++ List.replicate r false))) (fun s => (match s with | .string t => 80000 - t.size | _ => 0))
 case atStart => exact ⟨0, by omega, by omega, by simp⟩
 case round =>
  obtain ⟨r, hr, hr7, rfl⟩ := hrel
  obtain ⟨T, hT⟩ : ∃ T, l ++ [true] ++ List.replicate r false = T := ⟨_, rfl⟩
  have hTl : T.length = l.length + 1 + r := by rw [← hT]; simp; omega
  have hts := txt_size T
  rw [hT]
  by_cases h8 : T.length % 8 = 0
  ·have hfin : pack T = pack (l ++ [true]) := by rw [← hT]; exact pack_fill _ _ (by simp; omega) hr
   have Hfin := hide hfin
   have e8 : ¬ (0 : Int) < ((txt T).size : Int) % 8 := by rw [hts]; omega
   have e9 : ((txt T).size : Int) / 8 = ((T.length / 8 : Nat) : Int) := by rw [hts]; omega
   obtain ⟨M, hM⟩ : ∃ M, T.length / 8 = M := ⟨_, rfl⟩
   rw [hM] at e9
   have hmk := mk_row (P := Tryz.prog) 42 5 _ _ Tryz.underlying42 u8info rfl ((M : Nat) : Int) M rfl (by omega) (by omega)
   rw [bc_replicate] at hmk
   have hsz1 : (txt T).size ≤ T.length := by omega
   have hsz2 : T.length ≤ (txt T).size := by omega
   have hb0 : List.replicate M 0 = Bit.part T 0 := by rw [Bit.part_zero, hM]
   rw [hb0] at hmk
   have Hget := hide (txt_get T)
   have Hh8 := hide h8
   clear hb0 hT hts h8 h1 hs hfin
   go_wp2
   go_loopw [4] (fun i wr => ∃ k : Nat, k ≤ T.length ∧ i = .int .i64 k ∧ Bk wr w.heap.size 5 (bc (Bit.part T k)) ∧ Below w.heap.size w wr) (fun i _ => (T.length - intOf i).toNat)
   case atStart => exact ⟨0, by omega, rfl, Bk.new _ _ _, (Below.refl _ _).alloc (Nat.le_refl _) _⟩
   case round =>
    obtain ⟨k, hk, rfl, hb, hf⟩ := hrel
    by_cases hlt : k < T.length
    ·have hz : k / 8 < (Bit.part T k).length := by have := Hh8.out; rw [Bit.part_length]; omega
     have hcl := hb.cell (k / 8)
     rw [bc_get _ _ hz, Bit.part_get] at hcl
     have hfk := hb.frozen (k / 8)
     have hx := partAt_lt T k
     have hx2 : (UInt8.ofNat (Bit.partAt T k)).toNat = Bit.partAt T k := by simp [Nat.mod_eq_of_lt (show Bit.partAt T k < 256 by omega)]
     rw [hx2] at hcl
     have i6 : k < (txt T).size := by omega
     have hg := Hget.out k i6
     have hb1 := bt_le T k
     have Hsucc := hide (part_succ T k hlt Hh8.out)
     have hzM : k / 8 < M := by have := Bit.part_length T k; omega
     obtain ⟨z, hz2⟩ : ∃ z, k / 8 = z := ⟨_, rfl⟩
     rw [hz2] at hcl hfk hzM hz Hsucc
     obtain ⟨x, hx3⟩ : ∃ x, Bit.partAt T k = x := ⟨_, rfl⟩
     rw [hx3] at hcl hx Hsucc
     have i3 : IntKind.i64.wrap ((k : Int) / 8) = (z : Int) := by rw [IntWalk.i64_in _ (by omega)]; omega
     have i4 : (z : Int) < (M : Int) := by omega
     have i5 : (k : Int) < ((txt T).size : Int) := by omega
     have Hb := hide hb
     have HM := hide hM
     clear hz2 hx3 hx2 hb hM
     go_wp2
     go_region
     rw [show ((2 * (x : Int) + (48 + (bt T k : Int)) - 48) % 256) = ((2 * x + bt T k : Nat) : Int) from by omega]
     have hb2 := Hb.out.put z (.int .u8 ((2 * x + bt T k : Nat) : Int))
     rw [bc_set _ _ _ (by omega) (by omega), Int.toNat_natCast, ← Hsucc.out] at hb2
     go_wp2
     go_roundw
     case rel => exact ⟨k + 1, by omega, by go_num, hb2.drew, (hf.setCell (p := ⟨w.heap.size, z, none⟩) (Nat.le_refl _) _).drew⟩
     case measure => simp [intOf]; omega
    ·have hkT : k = T.length := by omega
     have hp := part_all T Hh8.out
     rw [hkT, hp, Hfin.out] at hb
     have hln : M = (pack (l ++ [true])).length := by rw [← Hfin.out, ← hp, Bit.part_length, hM]
     have hcv := conv_all (P := Tryz.prog) 42 9 5 Tryz.underlying42 Tryz.underlying5 Tryz.underlying9 wr w.heap.size M M (pack (l ++ [true])) [] (by rw [List.append_nil]; exact hb) hln
     clear hkT hp hb hln hM
     go_wp2
     go_ret
     exact ⟨rfl, hf⟩
  ·have e8 : (0 : Int) < ((txt T).size : Int) % 8 := by rw [hts]; omega
   have h0 := hide (txt_zero T)
   have hT2 := hide (show T ++ [false] = l ++ [true] ++ List.replicate (r + 1) false from by rw [← hT, List.append_assoc, ← List.replicate_succ'])
   have hs9 : (txt T).size ≤ 65545 := by rw [hts]; omega
   have hr2 : r + 1 ≤ 7 - l.length % 8 := by omega
   have hr3 : r + 1 < 8 := by omega
   have hmm := hide (show 80000 - (txt (T ++ [false])).size < 80000 - (txt T).size from by rw [txt_size, txt_size, List.length_append, List.length_singleton]; omega)
   clear hT hts h8 hTl h1
   go_wp2
   go_round
   case rel => exact ⟨r + 1, hr3, hr2, by rw [h0.out, hT2.out]⟩
   case measure => rw [h0.out]; exact hmm.out

end Go.Proofs.YtoeeblldgoccoaaGreat.Bio
