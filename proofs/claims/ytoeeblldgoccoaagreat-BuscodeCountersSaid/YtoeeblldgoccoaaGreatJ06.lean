/-
  Joined texts: Wa, Base5, BioPr1.
-/
import Derived.Test.YtoeeblldgoccoaaGreatJ03
import Derived.Test.YtoeeblldgoccoaaGreatJ05
import Derived.BigRegion
set_option linter.unusedVariables false
set_option linter.unusedSimpArgs false
/-
  The walks over the range coder, first part: the encoder's clamp, carry.
-/
namespace Go.Proofs.YtoeeblldgoccoaaGreat
open Go.RowKit Go.Proofs Wv Wv.Vi Wv.Rc
set_option linter.unusedVariables false

theorem u8inf : (Tryz.prog.info? 5).map (fun i => (i.zero, i.size, i.bytes)) = some (some (.int .u8 0), 1, 1) := by kernel_rfl
def OwnNew (w : World) (dv dv' : Value) : Prop := dv'.ownBlock = dv.ownBlock ∨ ∀ g, dv'.ownBlock = some g → w.heap.size ≤ g
theorem OwnNew.refl (w : World) (dv : Value) : OwnNew w dv dv := .inl rfl
theorem OwnNew.trans {w w' : World} {a b c : Value} (h : OwnNew w a b) (k : OwnNew w' b c) (hs : w.heap.size ≤ w'.heap.size) : OwnNew w a c := by
 rcases k with k | k
 ·rcases h with h | h
  ·exact .inl (k.trans h)
  ·exact .inr (fun g hg => h g (k ▸ hg))
 ·exact .inr (fun g hg => Nat.le_trans hs (k g hg))
theorem fr_foot {w w1 w2 : World} {b : Nat} {a d : Value} (h : Fr (foot b a) w w1) (k : Fr (foot b d) w1 w2) (ho : OwnNew w a d) : Fr (foot b a) w w2 :=
 h.trans' k (fun i hi hs => by
  rcases hs with hs | hs
  ·exact .inl hs
  ·rcases ho with ho | ho
   ·exact .inr (ho ▸ hs)
   ·have := ho i hs; omega)
def EnAt (w : World) (b : Nat) (dv : Value) (e : En) : Prop :=
 Bk w b 223 #[dv, .int .u32 (e.low : Int), .int .u32 (e.size : Int)] ∧ w.ownsRow 0 5 1 dv e.out.length (e.out.map bv)
theorem EnAt.drewN {w : World} {b : Nat} {dv : Value} {e : En} (h : EnAt w b dv e) (n : Nat) : EnAt (w.drewN n) b dv e := h
theorem EnAt.drew {w : World} {b : Nat} {dv : Value} {e : En} (h : EnAt w b dv e) : EnAt w.drew b dv e := h
theorem EnAt.apart {w : World} {b : Nat} {dv : Value} {e : En} (h : EnAt w b dv e) : dv.ownBlock ≠ some b := own_apart h.2 h.1 (by decide)
theorem EnAt.below {w w' : World} {b : Nat} {dv : Value} {e : En} (h : EnAt w b dv e) (hb : Below w.heap.size w w') : EnAt w' b dv e :=
 ⟨h.1.below hb h.1.lt, own_fr h.2 (Fr.of_below (S := nob) hb) (fun _ _ f => f)⟩
theorem EnAt.fr {S : Nat → Prop} {w w' : World} {b : Nat} {dv : Value} {e : En} (h : EnAt w b dv e) (hf : Fr S w w') (h1 : ¬ S b) (h2 : ∀ g, dv.ownBlock = some g → ¬ S g) : EnAt w' b dv e :=
 ⟨h.1.fr hf h1, own_fr h.2 hf h2⟩

set_option maxHeartbeats 400000 in
theorem rclamp_any (p : Int) (h1 : 1 ≤ p) (h2 : p ≤ 2047) (w : World) :
  Calls Tryz.prog 252 #[.int .i64 p] w fun x w' => x = .returned (.int .u32 p) ∧ w = w' := by
 go_enter Tryz.func252, Tryz.ntmps252
 go_wp2
 go_ret
 exact ⟨rfl, rfl⟩
theorem carry_at (l : List UInt8) (j : Nat) (hj : j < l.length) (h : carry l = carry (l.take (j + 1)) ++ List.replicate (l.length - (j + 1)) 0) :
  (l[j] = 255 → carry l = carry (l.take j) ++ List.replicate (l.length - j) 0) ∧ (l[j] ≠ 255 → carry l = l.take j ++ (l[j] + 1) :: List.replicate (l.length - (j + 1)) 0) := by
 rw [List.take_succ_eq_append_getElem hj] at h
 refine ⟨fun e => ?_, fun e => ?_⟩
 ·rw [e, carry_full] at h
  rw [h, List.append_assoc, show l.length - j = l.length - (j + 1) + 1 from by omega, List.replicate_succ]
  rfl
 ·rw [carry_room _ _ e] at h
  rw [h, List.append_assoc]
  rfl
theorem bump_byte (x : UInt8) : ((x.toNat : Int) + 1) % 256 = ((x + 1).toNat : Int) := by
 rw [UInt8.toNat_add]
 have : (1 : UInt8).toNat = 1 := rfl
 have := UInt8.toNat_lt x
 omega
theorem zero_byte (x : UInt8) (h : x = 255) : (((x + 1).toNat : Int) != 0) = false := by rw [h]; rfl
theorem some_byte (x : UInt8) (h : x ≠ 255) : (((x + 1).toNat : Int) != 0) = true := by
 rw [bne_iff_ne]
 have h1 : x.toNat ≠ 255 := fun e => h (UInt8.toNat_inj.1 e)
 rw [← bump_byte]
 have := UInt8.toNat_lt x
 omega
def Part (l : List UInt8) (j : Nat) : List UInt8 := l.take j ++ List.replicate (l.length - j) 0
theorem part_length (l : List UInt8) (j : Nat) (h : j ≤ l.length) : (Part l j).length = l.length := by simp [Part]; omega
theorem part_get (l : List UInt8) (j : Nat) (h : j < l.length) : (Part l (j + 1))[j]? = some l[j] := by
 unfold Part
 rw [List.getElem?_append_left (by rw [List.length_take]; omega), List.getElem?_take_of_lt (by omega), List.getElem?_eq_getElem h]
theorem part_set (l : List UInt8) (j : Nat) (h : j < l.length) (x : UInt8) : (Part l (j + 1)).set j x = l.take j ++ x :: List.replicate (l.length - (j + 1)) 0 := by
 unfold Part
 have hl : (l.take j).length = j := by rw [List.length_take]; omega
 rw [List.take_succ_eq_append_getElem h, List.append_assoc, List.set_append_right _ _ (by omega), hl, Nat.sub_self]
 rfl
theorem part_zero (l : List UInt8) (j : Nat) (h : j < l.length) : l.take j ++ 0 :: List.replicate (l.length - (j + 1)) 0 = Part l j := by
 unfold Part
 rw [show l.length - j = l.length - (j + 1) + 1 from by omega, List.replicate_succ]

set_option maxHeartbeats 1000000 in
theorem rcarry_any {w : World} {b : Nat} {dv : Value} {e : En} (h : EnAt w b dv e) (hpos : 0 < e.out.length) (hm : e.out.length ≤ 9223372036854775807) :
  Calls Tryz.prog 254 #[.pointer (some ⟨b, 0, none⟩)] w fun x w' => x = .returned (.tuple #[]) ∧ EnAt w' b dv { e with out := carry e.out } ∧ Fr (foot b dv) w w' := by
 have h0 := h.1.cell 0
 simp at h0
 obtain ⟨g, cap, rfl, hcap⟩ := own_form h.2 hpos
 obtain ⟨o, ho⟩ : ∃ o, e.out = o := ⟨_, rfl⟩
 have hown := h.2
 rw [ho] at hown hm h0 hcap hpos
 have hbk := h.1
 rw [ho] at hbk
 have hgb : b ≠ g := fun e => by
  have := h.apart
  simp [Value.ownBlock, e] at this
 have Hgb := hide hgb
 have Ho := hide ho
 clear hgb h ho
 rw [Ho.out]
 go_enter Tryz.func254, Tryz.ntmps254
 go_wp2
 go_loopw [2] (fun i wr => ∃ j : Nat, j ≤ o.length ∧ i = .int .i64 ((j : Int) - 1) ∧ Bk wr b 223 #[.slice (some ⟨g, 0, none⟩) o.length cap, .int .u32 (e.low : Int), .int .u32 (e.size : Int)] ∧ wr.ownsRow 0 5 1 (.slice (some ⟨g, 0, none⟩) o.length cap) o.length ((Part o j).map bv) ∧ Fr (foot b (.slice (some ⟨g, 0, none⟩) o.length cap)) w wr ∧ Hid (carry o = carry (o.take j) ++ List.replicate (o.length - j) 0)) (fun i _ => (intOf i + 1).toNat)
 case atStart => exact ⟨o.length, Nat.le_refl _, rfl, hbk, by simpa [Part] using hown, Fr.refl _ _, hide (by simp)⟩
 case round =>
  obtain ⟨j, hj, rfl, hbk, hown, hf, hcar⟩ := hrel
  clear h0
  have g0 := hbk.cell 0
  simp at g0
  by_cases hlt : 0 < j
  ·obtain ⟨k, rfl⟩ : ∃ k, j = k + 1 := ⟨j - 1, by omega⟩
   have hk : k < o.length := by omega
   obtain ⟨x, hx⟩ : ∃ x, o[k] = x := ⟨_, rfl⟩
   have hca := carry_at o k hk hcar.out
   rw [hx] at hca
   have Hca := hide hca
   obtain ⟨c1, c2⟩ := own_cell hown k (.int .u8 (x.toNat : Int)) (by rw [List.getElem?_map, part_get o k hk, hx]; rfl)
   have i1 : ((k + 1 : Nat) : Int) - 1 = (k : Int) := by omega
   have hk2 : (k : Int) < (o.length : Int) := by omega
   have hb := bump_byte x
   have hz0 := hide (fun h => zero_byte x h)
   have hz1 := hide (fun h => some_byte x h)
   have hyv : bv (x + 1) = .int .u8 ((x + 1).toNat : Int) := rfl
   obtain ⟨y, hy⟩ : ∃ y : Nat, (x + 1).toNat = y := ⟨_, rfl⟩
   rw [hy] at hb hz0 hz1 hyv
   have hps := part_set o k hk (x + 1)
   have hput := own_put hown k hk (.int .u8 (y : Int))
   have hcell := (own_cell hput k (.int .u8 (y : Int)) (by rw [List.getElem?_set_self (by rw [List.length_map, part_length o _ (by omega)]; exact hk)])).1
   rw [show ((Part o (k + 1)).map bv).set k (.int .u8 (y : Int)) = ((Part o (k + 1)).set k (x + 1)).map bv from by rw [List.map_set, hyv], hps] at hput
   have hoff := hbk.off (p := ⟨g, k, none⟩) Hgb.out (.int .u8 (y : Int))
   have q0 := hoff.cell 0
   simp at q0
   have hf2 := hf.setCell (p := ⟨g, k, none⟩) (.inl (.inr rfl)) (.int .u8 (y : Int))
   have Hput := hide hput
   have Hoff := hide hoff
   have Hf2 := hide hf2
   have hpz := hide (part_zero o k hk)
   rw [i1]
   by_cases hx255 : x = 255
   ·have hz := hz0.out hx255
    have Hx := hide hx255
    clear hx hcar hca hps hput hoff hf2 hown hbk hf hx255 hyv hy hz0 hz1
    go_wp2
    go_roundw
    case rel =>
     refine ⟨k, by omega, rfl, Hoff.out, ?_, Hf2.out, hide (Hca.out.1 Hx.out)⟩
     have := Hput.out
     rw [Hx.out] at this
     rw [← hpz.out]
     exact this
    case measure => simp [intOf] <;> omega
   ·have hz := hz1.out hx255
    have Hx := hide (Hca.out.2 hx255)
    clear hx hcar hca hps hput hoff hf2 hown hbk hf hx255 hyv hy hz0 hz1
    go_wp2
    go_returns
    refine ⟨rfl, ⟨?_, ?_⟩, Hf2.out⟩
    ·have := Hoff.out
     simp only [carry_length]
     exact this
    ·have := Hput.out
     simp only [carry_length]
     rw [Hx.out]
     exact this
  ·have hj0 : j = 0 := by omega
   subst hj0
   go_wp2
   go_end0
   refine ⟨rfl, ⟨?_, ?_⟩, hf⟩
   ·simp only [carry_length]
    exact hbk
   ·simp only [carry_length]
    rw [hcar.out]
    have := hown
    simpa [Part, carry, inc] using this
end Go.Proofs.YtoeeblldgoccoaaGreat
/-
  The built-in append of one element that was just laid; and of none.
-/
namespace Wv
open Go Go.RowKit
set_option linter.unusedVariables false
theorem run_app1 {P : Program} {w : World} (t ty e : TypeId) (z : Value) (bytes size : Nat) (ht : P.underlying t = some (.slice e)) (hinfo : (P.info? e).map (fun i => (i.zero, i.size, i.bytes)) = some (some z, size, bytes)) (hz1 : z.cells.size = size) (hs0 : 0 < size)
    {base : Nat} {v : Value} {n : Nat} {xs : List Value} (hv : w.ownsRow base e size v n xs) (ys : List Value) (hys : ys.length = size) (h1 : ∀ y ∈ ys, y.oneCell' = true)
    (h63 : n + 1 ≤ maxLen) (hbytes : (n + 1) * bytes ≤ 140737488355328) (hbase : base ≤ w.heap.size) :
    ∃ v' w', (Builtin.append_ #[t, t] ty #[v, .slice (some ⟨w.heap.size, 0, none⟩) 1 1]).run P (w.alloc (.cells ys.toArray e)).drew = .ok v' w' ∧ w'.ownsRow base e size v' (n + 1) (xs ++ ys) ∧
      (w.alloc (.cells ys.toArray e)).drew.grownBy w' v.ownBlock ∧ (v'.ownBlock = v.ownBlock ∨ v'.ownBlock = some (w.heap.size + 1)) := by
  obtain ⟨i, hi, hz, hs, hby⟩ := info_parts hinfo
  have hv2 : (w.alloc (.cells ys.toArray e)).drew.ownsRow base e size v n xs := hv.alloc _
  obtain ⟨v', w', hr, h2, h3, _, h5⟩ := run_append_own_at (P := P) (w.alloc (.cells ys.toArray e)).drew base t ty e i z size bytes ht hi hz hs hby hz1 hs0 v n xs hv2 ⟨w.heap.size, 0, none⟩ 1 1 ys (by omega) (fun j u hu => by
      have hb := (Bk.new w e ys.toArray).cell j
      rw [Go.WideShapes.add_plain, Nat.zero_add]
      show (w.alloc (.cells ys.toArray e)).cell? _ = _
      rw [hb]
      simpa using hu) h1 h63 hbytes (Nat.le_trans hbase (by simp))
  refine ⟨v', w', hr, h2, h3, ?_⟩
  rcases h5 with h5 | h5
  · exact .inl h5
  · refine .inr (h5.trans ?_)
    simp
end Wv
/-
  The walks over the bit strings of the program, first part: the reader.
-/
namespace Go.Proofs.YtoeeblldgoccoaaGreat.Bio
set_option maxRecDepth 100000
open Go.RowKit Go.Proofs Wv Wv.Bit

def RdAt (w : World) (b : Nat) (s : ByteArray) (x n : Nat) : Prop := Bk w b 184 #[.string s, .int .i64 (x : Int), .int .i64 (n : Int)] ∧ x ≤ n ∧ n ≤ 65536 ∧ n ≤ 8 * s.size
theorem RdAt.c0 {w : World} {b x n : Nat} {s : ByteArray} (h : RdAt w b s x n) : w.cell? ⟨b, 0, none⟩ = some (.string s) := h.1.cell 0
theorem RdAt.c1 {w : World} {b x n : Nat} {s : ByteArray} (h : RdAt w b s x n) : w.cell? ⟨b, 1, none⟩ = some (.int .i64 (x : Int)) := h.1.cell 1
theorem RdAt.c2 {w : World} {b x n : Nat} {s : ByteArray} (h : RdAt w b s x n) : w.cell? ⟨b, 2, none⟩ = some (.int .i64 (n : Int)) := h.1.cell 2

set_option maxHeartbeats 400000 in
theorem left_any {b x n : Nat} {s : ByteArray} {w : World} (h : RdAt w b s x n) :
  Calls Tryz.prog 131 #[.pointer (some ⟨b, 0, none⟩)] w fun e w' => e = .returned (.int .i64 ((n : Int) - (x : Int))) ∧ ∃ q, w' = w.drewN q := by
 have h1 := h.c1
 have h2 := h.c2
 obtain ⟨_, h3, h4, h5⟩ := h
 go_enter Tryz.func131, Tryz.ntmps131
 go_wp2
 go_quiet (fail)
 go_wp2
 go_ret
 exact ⟨rfl, _, rfl⟩

set_option maxHeartbeats 400000 in
theorem take_no {b x n : Nat} {s : ByteArray} {w : World} (h : RdAt w b s x n) (c : Int) (hc : (n : Int) - (x : Int) < c) :
  Calls Tryz.prog 190 #[.pointer (some ⟨b, 0, none⟩), .int .i64 c] w fun e w' => e = .returned (.tuple #[.int .i64 0, .int .i64 12]) ∧ ∃ q, w' = w.drewN q := by
 have H := hide (left_any h)
 go_enter Tryz.func190, Tryz.ntmps190
 go_wp2_with (go_at_call 131; refine (H.out).mono ?_; rintro e w' ⟨rfl, q, rfl⟩)
 go_ret2
 exact ⟨rfl, _, rfl⟩

set_option maxHeartbeats 400000 in
theorem take_yes {b x n : Nat} {s : ByteArray} {w : World} (h : RdAt w b s x n) (c : Nat) (hc : x + c ≤ n) (h62 : c ≤ 62) :
  Calls Tryz.prog 190 #[.pointer (some ⟨b, 0, none⟩), .int .i64 (c : Int)] w fun e w' => e = .returned (.tuple #[.int .i64 (val (((rbits s n).drop x).take c) : Nat), .int .i64 0]) ∧ RdAt w' b s (x + c) n ∧ Fr (only b) w w' := by
 have H := hide (left_any h)
 have hc2 : ¬ (n : Int) - (x : Int) < (c : Int) := by omega
 have Hr := hide h
 clear h
 go_enter Tryz.func190, Tryz.ntmps190
 go_wp2_with (go_at_call 131; refine (H.out).mono ?_; rintro e w' ⟨rfl, q, rfl⟩)
 go_loopw [6, 12] (fun v i wr => ∃ k : Nat, k ≤ c ∧ i = .int .i64 k ∧ v = .int .i64 (val (((rbits s n).drop x).take k) : Nat) ∧ RdAt wr b s (x + k) n ∧ Fr (only b) w wr) (fun _ i _ => (c - intOf i).toNat)
 case atStart => exact ⟨0, by omega, rfl, rfl, Hr.out, (Fr.refl _ _).drewN _⟩
 case round =>
  obtain ⟨k, hk, rfl, rfl, hr, hf⟩ := hrel
  by_cases hlt : k < c
  ·obtain ⟨y, hy⟩ : ∃ y, y = x + k := ⟨_, rfl⟩
   have hr2 := hr
   rw [← hy] at hr2
   have g0 := hr2.c0
   have g1 := hr2.c1
   have g2 : wr.frozen? ⟨b, 1, none⟩ = false := hr.1.frozen 1
   obtain ⟨hb1, hb2, hb3, hb4⟩ := hr2
   have Hy := hide hy
   have j1 : y < n := by omega
   clear hy
   have Hv := hide (val_take_succ ((rbits s n).drop x) k (by rw [List.length_drop, rbits_length]; have := Hy.out; omega))
   have hbt := fun h6 => show bt ((rbits s n).drop x) k = (s[y / 8]'h6).toNat / 2 ^ (7 - y % 8) % 2 from by rw [bt_drop, ← Hy.out, bt_rbits s n y j1 h6]
   obtain ⟨z, hz⟩ : ∃ z, y / 8 = z := ⟨_, rfl⟩
   obtain ⟨d, hd⟩ : ∃ d, 7 - y % 8 = d := ⟨_, rfl⟩
   obtain ⟨m, hm⟩ : ∃ m, y % 8 = m := ⟨_, rfl⟩
   have i3 : IntKind.i64.wrap ((y : Int) / 8) = (z : Int) := by rw [IntWalk.i64_in _ (by omega)]; omega
   have i4 : IntKind.i64.wrap ((y : Int) % 8) = (m : Int) := by rw [IntWalk.i64_in _ (by omega)]; omega
   have i5 : IntKind.i64.wrap (7 - (m : Int)) = (d : Int) := by rw [IntWalk.i64_in _ (by omega)]; omega
   have i6 : z < s.size := by omega
   have i2 : (z : Int) < (s.size : Int) := by omega
   have i7 : d < 8 := by omega
   have i8 : (d : Int) < 8 := by omega
   rw [hz] at hbt
   have Hbt := hide (hbt i6)
   clear hz hd hm hbt
   go_wp2
   go_quiet (fail)
   go_wp2
   go_roundw
   case rel =>
    refine ⟨k + 1, by omega, by go_num, ?_, ?_, (hf.drewN _).setCell (p := ⟨b, 1, none⟩) (.inl rfl) _⟩
    ·rw [Hv.out, Hbt.out]
     exact congrArg _ (take_arith _ _ _ (val_take_lt62 _ _ (by omega)) (UInt8.toNat_lt _))
    ·have := (hb1.drewN nq).put 1 (.int .i64 ((y : Int) + 1))
     have h9 := Hy.out
     refine ⟨?_, by omega, hb3, hb4⟩
     rw [show x + (k + 1) = y + 1 from by omega]
     exact this
   case measure => simp [intOf]; omega
  ·have : k = c := by omega
   subst this
   go_wp2
   go_ret2
   exact ⟨rfl, hr, hf⟩
end Go.Proofs.YtoeeblldgoccoaaGreat.Bio
