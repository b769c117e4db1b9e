/-
  Joined texts: BioPw1, BioPr3, BioPr4, BioPr5.
-/
import Derived.Test.YtoeeblldgoccoaaGreatChecked
import Derived.Test.YtoeeblldgoccoaaGreatJ01
import Derived.Test.YtoeeblldgoccoaaGreatJ03
import Derived.WalkKit
import Derived.WalkSpells
import Derived.WalkLawsBesides
import Derived.Deep.QuietTactic
import Derived.BigQuiet
import Derived.BigRegion
import Derived.StillTailTactics
import Derived.Laws.EntriesVeiled
set_option linter.unusedVariables false
set_option linter.unusedSimpArgs false
/-
  The walks over the bit strings of the program: the writer.
-/
namespace Go.Proofs.YtoeeblldgoccoaaGreat.Bio
set_option maxRecDepth 100000
open Go.RowKit Go.Proofs Wv Wv.Bit

theorem u8inf : (Tryz.prog.info? 5).map (fun i => (i.zero, i.size, i.bytes)) = some (some (.int .u8 0), 1, 1) := by kernel_rfl
def WrAt (w : World) (b : Nat) (dv : Value) (l : List Bool) : Prop :=
 Bk w b 160 #[dv, .int .i64 (l.length : Int)] ∧ w.ownsRow 0 5 1 dv (pack l).length ((pack l).map bv)
def OwnNew (w : World) (dv dv' : Value) : Prop := dv'.ownBlock = dv.ownBlock ∨ ∀ g, dv'.ownBlock = some g → w.heap.size ≤ g

def WrRoom (W : World) (b g cap M : Nat) (l : List Bool) : Prop :=
 Bk W b 160 #[.slice (some ⟨g, 0, none⟩) M cap, .int .i64 (l.length : Int)] ∧ W.ownsRow 0 5 1 (.slice (some ⟨g, 0, none⟩) M cap) M ((room l).map bv)

set_option maxHeartbeats 1000000 in
theorem put_any {b : Nat} {dv : Value} {l : List Bool} {w : World} (h : WrAt w b dv l) (c v : Int) (h0 : 0 ≤ c) (hc : c ≤ 63) (hv : 0 ≤ v) (hv2 : v ≤ 9223372036854775807) (hl : l.length + c.toNat ≤ 1000000) :
  Calls Tryz.prog 142 #[.pointer (some ⟨b, 0, none⟩), .int .i64 c, .int .i64 v] w fun e w' => e = .returned (.tuple #[]) ∧
   ∃ dv', WrAt w' b dv' (l ++ num c.toNat v.toNat) ∧ Fr (foot b dv) w w' ∧ OwnNew w dv dv' := by
 obtain ⟨c, rfl⟩ := Int.eq_ofNat_of_zero_le h0
 obtain ⟨v, rfl⟩ := Int.eq_ofNat_of_zero_le hv
 rw [Int.toNat_natCast] at hl
 rw [Int.toNat_natCast, Int.toNat_natCast]
 obtain ⟨i0, hi, hz0, hz1, hz2⟩ := info_parts u8inf
 have ha := and1
 go_enter Tryz.func142, Tryz.ntmps142
 go_wp2
 go_loopw [6] (fun i wr => ∃ (j : Nat) (dr : Value), j ≤ c ∧ i = .int .i64 ((j : Int) - 1) ∧ WrAt wr b dr (l ++ num (c - j) (v / 2 ^ j)) ∧ Fr (foot b dv) w wr ∧ OwnNew w dv dr) (fun i _ => (intOf i + 1).toNat)
 case atStart => exact ⟨c, dv, by omega, rfl, by rw [Nat.sub_self]; simpa [num] using h, Fr.refl _ _, .inl rfl⟩
 case round =>
  obtain ⟨j, dr, hj, rfl, hw, hf, hon⟩ := hrel
  by_cases hlt : 0 < j
  ·have hlen : (l ++ num (c - j) (v / 2 ^ j)).length = l.length + (c - j) := by rw [List.length_append, num_length]
   have hnext : l ++ num (c - (j - 1)) (v / 2 ^ (j - 1)) = (l ++ num (c - j) (v / 2 ^ j)) ++ [v.testBit (j - 1)] := by rw [List.append_assoc, num_grow' c v j hlt hj]
   have Hnext := hide hnext
   generalize l ++ num (c - j) (v / 2 ^ j) = L at *
   obtain ⟨hbk, hown⟩ := hw
   have g0 := hbk.cell 0
   have g1 := hbk.cell 1
   have f0 := hbk.frozen 0
   have f1 := hbk.frozen 1
   simp at g0 g1
   have hN : L.length ≤ 1000000 := by omega
   have hpl := pack_length L
   have Hown := hide hown
   have Hbk := hide hbk
   clear hnext hlen hown hbk hpl
   by_cases h8 : L.length % 8 = 0
   ·have e8 : (((L.length : Int) % 8) == 0) = true := by rw [beq_iff_eq]; omega
    have hpl := pack_length L
    have hp1 : (pack L).length + 1 ≤ maxLen := by unfold maxLen; omega
    have hp2 : ((pack L).length + 1) * 1 ≤ 140737488355328 := by omega
    clear hpl
    have H8 := hide h8
    clear h8
    go_wp2_with (
     at_builtin
     refine wpList_append_own_at _ rfl (.tmp 23) (.tmp 24) _ rfl 0 5 i0 (.int .u8 0) 1 1 Tryz.underlying42 hi hz0 hz1 hz2 rfl (by omega) dr (pack L).length ((pack L).map bv) (by rfl) (Hown.out.alloc _) ⟨wr.heap.size, 0, none⟩ 1 1 [.int .u8 0] (by rfl) rfl (news_one _ _ _) (by simp [Value.oneCell']) hp1 hp2 (Nat.zero_le _) ?_
     intro v' w1 hown1 hg1 _ hat
     obtain ⟨g, cap, rfl, hcap⟩ := own_form hown1 (by omega)
     have hbk1 := (Hbk.out.alloc _).grown hg1 (fun e => own_apart Hown.out Hbk.out (by decide) e.symm)
     have q0 := hbk1.cell 0
     have q1 := hbk1.cell 1
     have p0 := hbk1.frozen 0
     have p1 := hbk1.frozen 1
     simp at q0 q1
     have Hown1 := hide hown1
     have Hbk1 := hide hbk1
     clear hown1 hbk1)
    have hR : WrRoom (w1.setCell ⟨b, 0, none⟩ (.slice (some ⟨g, 0, none⟩) ((pack L).length + 1) cap)) b g cap ((pack L).length + 1) L := by
     refine ⟨?_, ?_⟩
     ·have := Hbk1.out.put 0 (.slice (some ⟨g, 0, none⟩) ((pack L).length + 1) cap)
      simpa using this
     ·have e1 : room L = pack L ++ [0] := by rw [room, if_pos H8.out]
      have e2 : ((pack L).map bv ++ [.int .u8 0]) = (room L).map bv := by rw [e1, List.map_append]; rfl
      have := Hown1.out
      rw [e2] at this
      refine own_off this (fun e => own_apart Hown1.out Hbk1.out (by decide) e) _
    have hM : (pack L).length + 1 = (room L).length := by rw [room, if_pos H8.out]; simp
    rw [hM] at hR hcap ⊢
    have hf2 : Fr (foot b dv) w (w1.setCell ⟨b, 0, none⟩ (.slice (some ⟨g, 0, none⟩) (room L).length cap)) := by
     refine ((hf.alloc _).grown hg1 (fun k hk => ?_)).setCell (p := ⟨b, 0, none⟩) (.inl (.inl rfl)) _
     rcases hon with h1 | h1
     ·exact .inl (.inr (h1 ▸ hk))
     ·exact .inr (h1 k hk)
    have hon2 : OwnNew w dv (.slice (some ⟨g, 0, none⟩) (room L).length cap) := by
     rcases hat with h1 | h1
     ·rcases hon with h2 | h2
      ·exact .inl (h1.trans h2)
      ·exact .inr (fun k hk => h2 k (h1 ▸ hk))
     ·refine .inr (fun k hk => ?_)
      have h3 : (w.heap.size) ≤ wr.heap.size := hf.size
      have h4 : some k = some (wr.alloc (.cells #[.int .u8 0] 5)).heap.size := hk.symm.trans h1
      injection h4 with h4
      rw [h4]; simp; omega
    generalize w1.setCell ⟨b, 0, none⟩ (.slice (some ⟨g, 0, none⟩) (room L).length cap) = W at *
    clear Hbk1 Hown1 hM q0 q1 p0 p1 g0 g1 f0 f1 hat hg1 hp1 hp2 hon hf
    have hw2 := hR
    obtain ⟨hbk2, hown2⟩ := hR
    have q0 := hbk2.cell 0
    have q1 := hbk2.cell 1
    have p1 := hbk2.frozen 1
    simp at q0 q1
    have hML := room_length L
    have hz3 : L.length / 8 < (room L).length := by omega
    have hold := own_cell hown2 (L.length / 8) (.int .u8 (byteAt L (L.length / 8) : Nat)) (by
     rw [List.getElem?_map, List.getElem?_eq_getElem hz3, room_getElem]
     simp only [Option.map_some, bv]
     congr 2
     have := byteAt_lt L (L.length / 8)
     simp [Nat.mod_eq_of_lt this])
    obtain ⟨o1, o2⟩ := hold
    have hbl := byteAt_lt L (L.length / 8)
    have hlow := byteAt_low L
    have Hsn := hide (pack_snoc L (v.testBit (j - 1)))
    obtain ⟨z, hz⟩ : ∃ z, L.length / 8 = z := ⟨_, rfl⟩
    obtain ⟨m, hm⟩ : ∃ m, L.length % 8 = m := ⟨_, rfl⟩
    obtain ⟨d, hd⟩ : ∃ d, 7 - m = d := ⟨_, rfl⟩
    have i3 : IntKind.i64.wrap ((L.length : Int) / 8) = (z : Int) := by rw [IntWalk.i64_in _ (by omega)]; omega
    have i4 : IntKind.i64.wrap ((L.length : Int) % 8) = (m : Int) := by rw [IntWalk.i64_in _ (by omega)]; omega
    have i5 : IntKind.i64.wrap (7 - (m : Int)) = (d : Int) := by rw [IntWalk.i64_in _ (by omega)]; omega
    rw [hz] at hz3 o1 o2 hbl hlow Hsn
    rw [hm] at hlow Hsn
    rw [show 8 - m = d + 1 from by omega] at hlow
    rw [hd] at Hsn
    have hjc : j - 1 ≤ 64 := by omega
    obtain ⟨old, hold2⟩ : ∃ old, byteAt L z = old := ⟨_, rfl⟩
    rw [hold2] at o1 hbl hlow Hsn
    have i6 : (z : Int) < ((room L).length : Int) := by omega
    have i7 : (0 : Int) ≤ (z : Int) := by omega
    have d8 : d < 8 := by omega
    have Hlow := hide hlow
    have Hx := hide (put_arith old v (j - 1) L.length hbl (by rw [hm, hd]; exact hlow))
    have Hw2 := hide hw2
    have Hf2 := hide hf2
    have Hon2 := hide hon2
    have hgb := hide (show (b : Nat) ≠ g from fun e => by
     have := own_apart hown2 hbk2 (by decide)
     simp [Value.ownBlock, e] at this)
    have Hd := hide (show 7 - L.length % 8 = d from by omega)
    have Hlt := hide (show old + (v.testBit (j - 1)).toNat * 2 ^ (7 - L.length % 8) < 256 from by
     have h1 := byteAt_lt (L ++ [v.testBit (j - 1)]) (L.length / 8)
     rw [byteAt_snoc, hz, hold2] at h1
     exact h1)
    clear hold2 hz hm hd hlow hw2 hbk2 hown2 hf2 hon2 hML
    go_region
    clear i3 i4 i5
    rw [Hx.out]
    have hx8 : old + (v.testBit (j - 1)).toNat * 2 ^ (7 - L.length % 8) < 256 := Hlt.out
    have hbk3 := Hw2.out.1.off (p := ⟨g, z, none⟩) hgb (.int .u8 ((old + (v.testBit (j - 1)).toNat * 2 ^ (7 - L.length % 8) : Nat) : Int))
    have hown3 := own_put Hw2.out.2 z hz3 (.int .u8 ((old + (v.testBit (j - 1)).toNat * 2 ^ (7 - L.length % 8) : Nat) : Int))
    have hf3 : Fr (foot b dv) w (W.setCell ⟨g, z, none⟩ (.int .u8 ((old + (v.testBit (j - 1)).toNat * 2 ^ (7 - L.length % 8) : Nat) : Int))) := by
     refine Hf2.out.setCell (p := ⟨g, z, none⟩) ?_ _
     rcases Hon2.out with h1 | h1
     ·exact .inl (.inr (h1.symm.trans rfl))
     ·exact .inr (h1 g rfl)
    have hpk : ((room L).map bv).set z (.int .u8 ((old + (v.testBit (j - 1)).toNat * 2 ^ (7 - L.length % 8) : Nat) : Int)) = (pack (L ++ [v.testBit (j - 1)])).map bv := by
     rw [Hsn.out, List.map_set, ← Hd.out]
     congr 1
     simp only [bv]
     congr 2
     simp [Nat.mod_eq_of_lt hx8]
    have hpl : (room L).length = (pack (L ++ [v.testBit (j - 1)])).length := by rw [Hsn.out, List.length_set]
    rw [hpk] at hown3
    generalize W.setCell ⟨g, z, none⟩ (.int .u8 ((old + (v.testBit (j - 1)).toNat * 2 ^ (7 - L.length % 8) : Nat) : Int)) = W2 at *
    have r1 := hbk3.cell 1
    have t1 := hbk3.frozen 1
    simp at r1
    have Hbk3 := hide hbk3
    have Hown3 := hide hown3
    have Hpl := hide hpl
    clear hbk3 hown3 hpk hpl hx8 q0 q1 p1 o1 o2
    go_wp2
    go_roundw
    case rel =>
     refine ⟨j - 1, .slice (some ⟨g, 0, none⟩) (room L).length cap, by omega, by congr 1; omega, ?_, (hf3.setCell (p := ⟨b, 1, none⟩) (.inl (.inl rfl)) _).drew, Hon2.out⟩
     rw [Hnext.out]
     refine ⟨?_, ?_⟩
     ·have := (Hbk3.out.put 1 (.int .i64 ((L.length : Int) + 1))).drew
      simpa using this
     ·have h1 : W2.ownsRow 0 5 1 (.slice (some ⟨g, 0, none⟩) (room L).length cap) (room L).length ((pack (L ++ [v.testBit (j - 1)])).map bv) := Hown3.out
      have := own_off h1 (p := ⟨b, 1, none⟩) (fun e => hgb (by simpa [Value.ownBlock] using e.symm)) (.int .i64 ((L.length : Int) + 1))
      rw [← Hpl.out]
      exact this
    case measure => simp [intOf]; omega
   ·have hpl := pack_length L
    have hrm : room L = pack L := by rw [room, if_neg h8]
    obtain ⟨g, cap, rfl, hcap⟩ := own_form Hown.out (by omega)
    have hR : WrRoom wr b g cap (room L).length L := ⟨by rw [hrm]; exact Hbk.out, by rw [hrm]; exact Hown.out⟩
    have e8 : (((L.length : Int) % 8) == 0) = false := by rw [beq_eq_false_iff_ne]; omega
    rw [← hrm] at hcap hon g0
    have hf2 := hf
    have hon2 := hon
    obtain ⟨W, hW⟩ : ∃ W, W = wr := ⟨_, rfl⟩
    subst hW
    clear hpl hrm h8 Hbk Hown hf hon g0 g1 f0 f1
    have hw2 := hR
    obtain ⟨hbk2, hown2⟩ := hR
    have q0 := hbk2.cell 0
    have q1 := hbk2.cell 1
    have p1 := hbk2.frozen 1
    simp at q0 q1
    have hML := room_length L
    have hz3 : L.length / 8 < (room L).length := by omega
    have hold := own_cell hown2 (L.length / 8) (.int .u8 (byteAt L (L.length / 8) : Nat)) (by
     rw [List.getElem?_map, List.getElem?_eq_getElem hz3, room_getElem]
     simp only [Option.map_some, bv]
     congr 2
     have := byteAt_lt L (L.length / 8)
     simp [Nat.mod_eq_of_lt this])
    obtain ⟨o1, o2⟩ := hold
    have hbl := byteAt_lt L (L.length / 8)
    have hlow := byteAt_low L
    have Hsn := hide (pack_snoc L (v.testBit (j - 1)))
    obtain ⟨z, hz⟩ : ∃ z, L.length / 8 = z := ⟨_, rfl⟩
    obtain ⟨m, hm⟩ : ∃ m, L.length % 8 = m := ⟨_, rfl⟩
    obtain ⟨d, hd⟩ : ∃ d, 7 - m = d := ⟨_, rfl⟩
    have i3 : IntKind.i64.wrap ((L.length : Int) / 8) = (z : Int) := by rw [IntWalk.i64_in _ (by omega)]; omega
    have i4 : IntKind.i64.wrap ((L.length : Int) % 8) = (m : Int) := by rw [IntWalk.i64_in _ (by omega)]; omega
    have i5 : IntKind.i64.wrap (7 - (m : Int)) = (d : Int) := by rw [IntWalk.i64_in _ (by omega)]; omega
    rw [hz] at hz3 o1 o2 hbl hlow Hsn
    rw [hm] at hlow Hsn
    rw [show 8 - m = d + 1 from by omega] at hlow
    rw [hd] at Hsn
    have hjc : j - 1 ≤ 64 := by omega
    obtain ⟨old, hold2⟩ : ∃ old, byteAt L z = old := ⟨_, rfl⟩
    rw [hold2] at o1 hbl hlow Hsn
    have i6 : (z : Int) < ((room L).length : Int) := by omega
    have i7 : (0 : Int) ≤ (z : Int) := by omega
    have d8 : d < 8 := by omega
    have Hlow := hide hlow
    have Hx := hide (put_arith old v (j - 1) L.length hbl (by rw [hm, hd]; exact hlow))
    have Hw2 := hide hw2
    have Hf2 := hide hf2
    have Hon2 := hide hon2
    have hgb := hide (show (b : Nat) ≠ g from fun e => by
     have := own_apart hown2 hbk2 (by decide)
     simp [Value.ownBlock, e] at this)
    have Hd := hide (show 7 - L.length % 8 = d from by omega)
    have Hlt := hide (show old + (v.testBit (j - 1)).toNat * 2 ^ (7 - L.length % 8) < 256 from by
     have h1 := byteAt_lt (L ++ [v.testBit (j - 1)]) (L.length / 8)
     rw [byteAt_snoc, hz, hold2] at h1
     exact h1)
    clear hold2 hz hm hd hlow hw2 hbk2 hown2 hf2 hon2 hML
    go_wp2
    go_region
    clear i3 i4 i5
    rw [Hx.out]
    have hx8 : old + (v.testBit (j - 1)).toNat * 2 ^ (7 - L.length % 8) < 256 := Hlt.out
    have hbk3 := Hw2.out.1.off (p := ⟨g, z, none⟩) hgb (.int .u8 ((old + (v.testBit (j - 1)).toNat * 2 ^ (7 - L.length % 8) : Nat) : Int))
    have hown3 := own_put Hw2.out.2 z hz3 (.int .u8 ((old + (v.testBit (j - 1)).toNat * 2 ^ (7 - L.length % 8) : Nat) : Int))
    have hf3 : Fr (foot b dv) w (W.setCell ⟨g, z, none⟩ (.int .u8 ((old + (v.testBit (j - 1)).toNat * 2 ^ (7 - L.length % 8) : Nat) : Int))) := by
     refine Hf2.out.setCell (p := ⟨g, z, none⟩) ?_ _
     rcases Hon2.out with h1 | h1
     ·exact .inl (.inr (h1.symm.trans rfl))
     ·exact .inr (h1 g rfl)
    have hpk : ((room L).map bv).set z (.int .u8 ((old + (v.testBit (j - 1)).toNat * 2 ^ (7 - L.length % 8) : Nat) : Int)) = (pack (L ++ [v.testBit (j - 1)])).map bv := by
     rw [Hsn.out, List.map_set, ← Hd.out]
     congr 1
     simp only [bv]
     congr 2
     simp [Nat.mod_eq_of_lt hx8]
    have hpl : (room L).length = (pack (L ++ [v.testBit (j - 1)])).length := by rw [Hsn.out, List.length_set]
    rw [hpk] at hown3
    generalize W.setCell ⟨g, z, none⟩ (.int .u8 ((old + (v.testBit (j - 1)).toNat * 2 ^ (7 - L.length % 8) : Nat) : Int)) = W2 at *
    have r1 := hbk3.cell 1
    have t1 := hbk3.frozen 1
    simp at r1
    have Hbk3 := hide hbk3
    have Hown3 := hide hown3
    have Hpl := hide hpl
    clear hbk3 hown3 hpk hpl hx8 q0 q1 p1 o1 o2
    go_wp2
    go_roundw
    case rel =>
     refine ⟨j - 1, .slice (some ⟨g, 0, none⟩) (room L).length cap, by omega, by congr 1; omega, ?_, (hf3.setCell (p := ⟨b, 1, none⟩) (.inl (.inl rfl)) _).drew, Hon2.out⟩
     rw [Hnext.out]
     refine ⟨?_, ?_⟩
     ·have := (Hbk3.out.put 1 (.int .i64 ((L.length : Int) + 1))).drew
      simpa using this
     ·have h1 : W2.ownsRow 0 5 1 (.slice (some ⟨g, 0, none⟩) (room L).length cap) (room L).length ((pack (L ++ [v.testBit (j - 1)])).map bv) := Hown3.out
      have := own_off h1 (p := ⟨b, 1, none⟩) (fun e => hgb (by simpa [Value.ownBlock] using e.symm)) (.int .i64 ((L.length : Int) + 1))
      rw [← Hpl.out]
      exact this
    case measure => simp [intOf]; omega
  ·have : j = 0 := by omega
   subst this
   go_wp2
   go_end0
   exact ⟨rfl, dr, by simpa using hw, hf, hon⟩
end Go.Proofs.YtoeeblldgoccoaaGreat.Bio
/-
  The walks over the bit strings of the program, third part: the table of the kinds, and 'find'.
-/
namespace Go.Proofs.YtoeeblldgoccoaaGreat.Bio
set_option maxRecDepth 100000
open Go.RowKit Go.Proofs Wv

def kv0 : Value := .agg #[.int .i64 0, .int .i64 62, .func (.func 186) #[] #[], .func (.func 187) #[] #[], .func (.func 188) #[] #[], .func (.func 189) #[] #[]]
def kv1 : Value := .agg #[.int .i64 0, .int .i64 0, .func (.func 185) #[] #[], .func (.func 191) #[] #[], .func (.func 192) #[] #[], .func (.func 194) #[] #[]]
def kv2 : Value := .agg #[.int .i64 0, .int .i64 30, .func (.func 185) #[] #[], .func (.func 196) #[] #[], .func (.func 197) #[] #[], .func (.func 198) #[] #[]]
def kv3 : Value := .agg #[.int .i64 0, .int .i64 30, .func (.func 199) #[] #[], .func (.func 200) #[] #[], .func (.func 202) #[] #[], .func (.func 203) #[] #[]]
def kv4 : Value := .agg #[.int .i64 1, .int .i64 4294967296, .func (.func 204) #[] #[], .func (.func 205) #[] #[], .func (.func 207) #[] #[], .func (.func 208) #[] #[]]
def kmap : Array MapEntry := #[⟨.int .i64 0, kv0, 0⟩, ⟨.int .i64 1, kv1, 1⟩, ⟨.int .i64 2, kv2, 2⟩, ⟨.int .i64 3, kv3, 3⟩, ⟨.int .i64 4, kv4, 4⟩]

set_option maxHeartbeats 400000 in
theorem kinds_any (w : World) :
  Calls Tryz.prog 163 #[] w fun e w' => e = .returned (.map (some w.heap.size)) ∧ w.alloc (.map kmap 5) = w' := by
 have hmm := @run_makeMap Tryz.prog
 have p0 := map_put_new (P := Tryz.prog) Tryz.underlying186 Tryz.underlying3 w #[] 0 0 (.agg #[.int .i64 0, .int .i64 62, .func (.func 186) #[] #[], .func (.func 187) #[] #[], .func (.func 188) #[] #[], .func (.func 189) #[] #[]]) rfl
 have p1 := map_put_new (P := Tryz.prog) Tryz.underlying186 Tryz.underlying3 w #[⟨.int .i64 0, .agg #[.int .i64 0, .int .i64 62, .func (.func 186) #[] #[], .func (.func 187) #[] #[], .func (.func 188) #[] #[], .func (.func 189) #[] #[]], 0⟩] 1 1 (.agg #[.int .i64 0, .int .i64 0, .func (.func 185) #[] #[], .func (.func 191) #[] #[], .func (.func 192) #[] #[], .func (.func 194) #[] #[]]) rfl
 have p2 := map_put_new (P := Tryz.prog) Tryz.underlying186 Tryz.underlying3 w #[⟨.int .i64 0, .agg #[.int .i64 0, .int .i64 62, .func (.func 186) #[] #[], .func (.func 187) #[] #[], .func (.func 188) #[] #[], .func (.func 189) #[] #[]], 0⟩, ⟨.int .i64 1, .agg #[.int .i64 0, .int .i64 0, .func (.func 185) #[] #[], .func (.func 191) #[] #[], .func (.func 192) #[] #[], .func (.func 194) #[] #[]], 1⟩] 2 2 (.agg #[.int .i64 0, .int .i64 30, .func (.func 185) #[] #[], .func (.func 196) #[] #[], .func (.func 197) #[] #[], .func (.func 198) #[] #[]]) rfl
 have p3 := map_put_new (P := Tryz.prog) Tryz.underlying186 Tryz.underlying3 w #[⟨.int .i64 0, .agg #[.int .i64 0, .int .i64 62, .func (.func 186) #[] #[], .func (.func 187) #[] #[], .func (.func 188) #[] #[], .func (.func 189) #[] #[]], 0⟩, ⟨.int .i64 1, .agg #[.int .i64 0, .int .i64 0, .func (.func 185) #[] #[], .func (.func 191) #[] #[], .func (.func 192) #[] #[], .func (.func 194) #[] #[]], 1⟩, ⟨.int .i64 2, .agg #[.int .i64 0, .int .i64 30, .func (.func 185) #[] #[], .func (.func 196) #[] #[], .func (.func 197) #[] #[], .func (.func 198) #[] #[]], 2⟩] 3 3 (.agg #[.int .i64 0, .int .i64 30, .func (.func 199) #[] #[], .func (.func 200) #[] #[], .func (.func 202) #[] #[], .func (.func 203) #[] #[]]) rfl
 have p4 := map_put_new (P := Tryz.prog) Tryz.underlying186 Tryz.underlying3 w #[⟨.int .i64 0, .agg #[.int .i64 0, .int .i64 62, .func (.func 186) #[] #[], .func (.func 187) #[] #[], .func (.func 188) #[] #[], .func (.func 189) #[] #[]], 0⟩, ⟨.int .i64 1, .agg #[.int .i64 0, .int .i64 0, .func (.func 185) #[] #[], .func (.func 191) #[] #[], .func (.func 192) #[] #[], .func (.func 194) #[] #[]], 1⟩, ⟨.int .i64 2, .agg #[.int .i64 0, .int .i64 30, .func (.func 185) #[] #[], .func (.func 196) #[] #[], .func (.func 197) #[] #[], .func (.func 198) #[] #[]], 2⟩, ⟨.int .i64 3, .agg #[.int .i64 0, .int .i64 30, .func (.func 199) #[] #[], .func (.func 200) #[] #[], .func (.func 202) #[] #[], .func (.func 203) #[] #[]], 3⟩] 4 4 (.agg #[.int .i64 1, .int .i64 4294967296, .func (.func 204) #[] #[], .func (.func 205) #[] #[], .func (.func 207) #[] #[], .func (.func 208) #[] #[]]) rfl
 go_enter Tryz.func163, Tryz.ntmps163
 go_wp2
 go_ret
 exact ⟨rfl, rfl⟩
end Go.Proofs.YtoeeblldgoccoaaGreat.Bio
/-
  The walks over the bit strings of the program, fourth part: 'find'.
-/
namespace Go.Proofs.YtoeeblldgoccoaaGreat.Bio
set_option maxRecDepth 100000
open Go.RowKit Go.Proofs Wv

theorem six {W : World} {g : Nat} {t : TypeId} {c0 c1 c2 c3 c4 c5 : Value} (h : Bk W g t #[c0, c1, c2, c3, c4, c5]) :
  (W.cell? ⟨g, 0, none⟩ = some c0 ∧ W.cell? ⟨g, 1, none⟩ = some c1 ∧ W.cell? ⟨g, 2, none⟩ = some c2 ∧ W.cell? ⟨g, 3, none⟩ = some c3 ∧ W.cell? ⟨g, 4, none⟩ = some c4 ∧ W.cell? ⟨g, 5, none⟩ = some c5) ∧
  (W.frozen? ⟨g, 0, none⟩ = false ∧ W.frozen? ⟨g, 1, none⟩ = false ∧ W.frozen? ⟨g, 2, none⟩ = false ∧ W.frozen? ⟨g, 3, none⟩ = false ∧ W.frozen? ⟨g, 4, none⟩ = false ∧ W.frozen? ⟨g, 5, none⟩ = false) :=
 ⟨⟨h.cell 0, h.cell 1, h.cell 2, h.cell 3, h.cell 4, h.cell 5⟩, h.frozen 0, h.frozen 1, h.frozen 2, h.frozen 3, h.frozen 4, h.frozen 5⟩
theorem kinds_map (w : World) :
  Calls Tryz.prog 163 #[] w fun e w' => e = .returned (.map (some w.heap.size)) ∧ w'.heap[w.heap.size]? = some (.map kmap 5) ∧ Below w.heap.size w w' := by
 refine (kinds_any w).mono ?_
 rintro e w' ⟨rfl, rfl⟩
 exact ⟨rfl, heap_alloc_new w _, (Below.refl _ _).alloc (Nat.le_refl _) _⟩

set_option maxHeartbeats 400000 in
theorem find0 (p : Int) (h0 : 0 ≤ p) (h1 : p ≤ 62) (w : World) :
  Calls Tryz.prog 141 #[.int .i64 0, .int .i64 p] w fun e w' => e = .returned (.tuple #[kv0, .bool true]) ∧ Below w.heap.size w w' := by
 have hk := hide kinds_map
 go_enter Tryz.func141, Tryz.ntmps141
 go_wp2_with fail
 refine (hk.out _).mono ?_
 rintro e w1 ⟨rfl, hm, hb⟩
 have hl := map_get_ok (P := Tryz.prog) Tryz.underlying186 Tryz.underlying3 w1 _ kmap 5 0 0 kv0 hm rfl
 unfold kv0 at hl
 rw [World.size_alloc] at hl
 clear hm
 have hs1 := hb.size
 simp at hs1
 have hbb := ((Below.refl w.heap.size w).alloc (Nat.le_refl _) _).trans (hb.mono (by simp))
 have hz := (((Bk.new w 166 #[.int .i64 0, .int .i64 0, .nilFunc, .nilFunc, .nilFunc, .nilFunc]).below hb (by simp)).alloc (.cells kv0.cells 166))
 obtain ⟨hz1, hz2⟩ := six hz
 simp only [kv0, Value.cells] at hz1 hz2
 clear hz hb
 go_wp2
 go_region
 go_wp2
 refine bodyPost_ret (v := .tuple #[kv0, .bool true]) (by simp [results, Tryz.results141, go_sem, kv0, *]) rfl ⟨rfl, ?_⟩
 go_grown

end Go.Proofs.YtoeeblldgoccoaaGreat.Bio
namespace Go.Proofs.YtoeeblldgoccoaaGreat.Bio
set_option maxRecDepth 100000
open Go.RowKit Go.Proofs Wv

end Go.Proofs.YtoeeblldgoccoaaGreat.Bio
