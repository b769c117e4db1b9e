/-
  Joined texts: Base5, Wa, Wb, Wc.
-/
import Derived.Test.YtjfcemlbbinanaaGreatDoorJ03
import Derived.BigRegion
import Derived.Handy
import Derived.Deep.DeepCutAuto
import Derived.Deep.RegionHeld3
set_option linter.unusedVariables false
set_option linter.unusedSimpArgs false
/-
  The built-in append of one element that was just laid; and of none.
-/
namespace Wv
open Go Go.RowKit
set_option linter.unusedVariables false
theorem run_app1 {P : Program} {w : World} (t ty e : TypeId) (z : Value) (bytes size : Nat) (ht : P.underlying t = some (.slice e)) (hinfo : (P.info? e).map (fun i => (i.zero, i.size, i.bytes)) = some (some z, size, bytes)) (hz1 : z.cells.size = size) (hs0 : 0 < size)
    {base : Nat} {v : Value} {n : Nat} {xs : List Value} (hv : w.ownsRow base e size v n xs) (ys : List Value) (hys : ys.length = size) (h1 : ∀ y ∈ ys, y.oneCell' = true)
    (h63 : n + 1 ≤ maxLen) (hbytes : (n + 1) * bytes ≤ 140737488355328) (hbase : base ≤ w.heap.size) :
    ∃ v' w', (Builtin.append_ #[t, t] ty #[v, .slice (some ⟨w.heap.size, 0, none⟩) 1 1]).run P (w.alloc (.cells ys.toArray e)).drew = .ok v' w' ∧ w'.ownsRow base e size v' (n + 1) (xs ++ ys) ∧
      (w.alloc (.cells ys.toArray e)).drew.grownBy w' v.ownBlock ∧ (v'.ownBlock = v.ownBlock ∨ v'.ownBlock = some (w.heap.size + 1)) := by
  obtain ⟨i, hi, hz, hs, hby⟩ := info_parts hinfo
  have hv2 : (w.alloc (.cells ys.toArray e)).drew.ownsRow base e size v n xs := hv.alloc _
  obtain ⟨v', w', hr, h2, h3, _, h5⟩ := run_append_own_at (P := P) (w.alloc (.cells ys.toArray e)).drew base t ty e i z size bytes ht hi hz hs hby hz1 hs0 v n xs hv2 ⟨w.heap.size, 0, none⟩ 1 1 ys (by omega) (fun j u hu => by
      have hb := (Bk.new w e ys.toArray).cell j
      rw [Go.WideShapes.add_plain, Nat.zero_add]
      show (w.alloc (.cells ys.toArray e)).cell? _ = _
      rw [hb]
      simpa using hu) h1 h63 hbytes (Nat.le_trans hbase (by simp))
  refine ⟨v', w', hr, h2, h3, ?_⟩
  rcases h5 with h5 | h5
  · exact .inl h5
  · refine .inr (h5.trans ?_)
    simp
end Wv
/-
  The walks over the range coder, first part: the encoder's clamp, carry.
-/
namespace Go.Proofs.YtjfcemlbbinanaaGreatDoor
open Go.RowKit Go.Proofs Wv Wv.Vi Wv.Rc
set_option linter.unusedVariables false

theorem u8inf : (Tryz.prog.info? 5).map (fun i => (i.zero, i.size, i.bytes)) = some (some (.int .u8 0), 1, 1) := by kernel_rfl
def OwnNew (w : World) (dv dv' : Value) : Prop := dv'.ownBlock = dv.ownBlock ∨ ∀ g, dv'.ownBlock = some g → w.heap.size ≤ g
theorem OwnNew.refl (w : World) (dv : Value) : OwnNew w dv dv := .inl rfl
theorem OwnNew.trans {w w' : World} {a b c : Value} (h : OwnNew w a b) (k : OwnNew w' b c) (hs : w.heap.size ≤ w'.heap.size) : OwnNew w a c := by
 rcases k with k | k
 ·rcases h with h | h
  ·exact .inl (k.trans h)
  ·exact .inr (fun g hg => h g (k ▸ hg))
 ·exact .inr (fun g hg => Nat.le_trans hs (k g hg))
theorem fr_foot {w w1 w2 : World} {b : Nat} {a d : Value} (h : Fr (foot b a) w w1) (k : Fr (foot b d) w1 w2) (ho : OwnNew w a d) : Fr (foot b a) w w2 :=
 h.trans' k (fun i hi hs => by
  rcases hs with hs | hs
  ·exact .inl hs
  ·rcases ho with ho | ho
   ·exact .inr (ho ▸ hs)
   ·have := ho i hs; omega)
def EnAt (w : World) (b : Nat) (dv : Value) (e : En) : Prop :=
 Bk w b 128 #[dv, .int .u32 (e.low : Int), .int .u32 (e.size : Int)] ∧ w.ownsRow 0 5 1 dv e.out.length (e.out.map bv)
theorem EnAt.drewN {w : World} {b : Nat} {dv : Value} {e : En} (h : EnAt w b dv e) (n : Nat) : EnAt (w.drewN n) b dv e := h
theorem EnAt.drew {w : World} {b : Nat} {dv : Value} {e : En} (h : EnAt w b dv e) : EnAt w.drew b dv e := h
theorem EnAt.apart {w : World} {b : Nat} {dv : Value} {e : En} (h : EnAt w b dv e) : dv.ownBlock ≠ some b := own_apart h.2 h.1 (by decide)
theorem EnAt.below {w w' : World} {b : Nat} {dv : Value} {e : En} (h : EnAt w b dv e) (hb : Below w.heap.size w w') : EnAt w' b dv e :=
 ⟨h.1.below hb h.1.lt, own_fr h.2 (Fr.of_below (S := nob) hb) (fun _ _ f => f)⟩
theorem EnAt.fr {S : Nat → Prop} {w w' : World} {b : Nat} {dv : Value} {e : En} (h : EnAt w b dv e) (hf : Fr S w w') (h1 : ¬ S b) (h2 : ∀ g, dv.ownBlock = some g → ¬ S g) : EnAt w' b dv e :=
 ⟨h.1.fr hf h1, own_fr h.2 hf h2⟩

set_option maxHeartbeats 400000 in
theorem rclamp_any (p : Int) (h1 : 1 ≤ p) (h2 : p ≤ 2047) (w : World) :
  Calls Tryz.prog 124 #[.int .i64 p] w fun x w' => x = .returned (.int .u32 p) ∧ w = w' := by
 go_enter Tryz.func124, Tryz.ntmps124
 go_wp2
 go_ret
 exact ⟨rfl, rfl⟩
theorem carry_at (l : List UInt8) (j : Nat) (hj : j < l.length) (h : carry l = carry (l.take (j + 1)) ++ List.replicate (l.length - (j + 1)) 0) :
  (l[j] = 255 → carry l = carry (l.take j) ++ List.replicate (l.length - j) 0) ∧ (l[j] ≠ 255 → carry l = l.take j ++ (l[j] + 1) :: List.replicate (l.length - (j + 1)) 0) := by
 rw [List.take_succ_eq_append_getElem hj] at h
 refine ⟨fun e => ?_, fun e => ?_⟩
 ·rw [e, carry_full] at h
  rw [h, List.append_assoc, show l.length - j = l.length - (j + 1) + 1 from by omega, List.replicate_succ]
  rfl
 ·rw [carry_room _ _ e] at h
  rw [h, List.append_assoc]
  rfl
theorem bump_byte (x : UInt8) : ((x.toNat : Int) + 1) % 256 = ((x + 1).toNat : Int) := by
 rw [UInt8.toNat_add]
 have : (1 : UInt8).toNat = 1 := rfl
 have := UInt8.toNat_lt x
 omega
theorem zero_byte (x : UInt8) (h : x = 255) : (((x + 1).toNat : Int) != 0) = false := by rw [h]; rfl
theorem some_byte (x : UInt8) (h : x ≠ 255) : (((x + 1).toNat : Int) != 0) = true := by
 rw [bne_iff_ne]
 have h1 : x.toNat ≠ 255 := fun e => h (UInt8.toNat_inj.1 e)
 rw [← bump_byte]
 have := UInt8.toNat_lt x
 omega
def Part (l : List UInt8) (j : Nat) : List UInt8 := l.take j ++ List.replicate (l.length - j) 0
theorem part_length (l : List UInt8) (j : Nat) (h : j ≤ l.length) : (Part l j).length = l.length := by simp [Part]; omega
theorem part_get (l : List UInt8) (j : Nat) (h : j < l.length) : (Part l (j + 1))[j]? = some l[j] := by
 unfold Part
 rw [List.getElem?_append_left (by rw [List.length_take]; omega), List.getElem?_take_of_lt (by omega), List.getElem?_eq_getElem h]
theorem part_set (l : List UInt8) (j : Nat) (h : j < l.length) (x : UInt8) : (Part l (j + 1)).set j x = l.take j ++ x :: List.replicate (l.length - (j + 1)) 0 := by
 unfold Part
 have hl : (l.take j).length = j := by rw [List.length_take]; omega
 rw [List.take_succ_eq_append_getElem h, List.append_assoc, List.set_append_right _ _ (by omega), hl, Nat.sub_self]
 rfl
theorem part_zero (l : List UInt8) (j : Nat) (h : j < l.length) : l.take j ++ 0 :: List.replicate (l.length - (j + 1)) 0 = Part l j := by
 unfold Part
 rw [show l.length - j = l.length - (j + 1) + 1 from by omega, List.replicate_succ]

set_option maxHeartbeats 1000000 in
theorem rcarry_any {w : World} {b : Nat} {dv : Value} {e : En} (h : EnAt w b dv e) (hpos : 0 < e.out.length) (hm : e.out.length ≤ 9223372036854775807) :
  Calls Tryz.prog 125 #[.pointer (some ⟨b, 0, none⟩)] w fun x w' => x = .returned (.tuple #[]) ∧ EnAt w' b dv { e with out := carry e.out } ∧ Fr (foot b dv) w w' := by
 have h0 := h.1.cell 0
 simp at h0
 obtain ⟨g, cap, rfl, hcap⟩ := own_form h.2 hpos
 obtain ⟨o, ho⟩ : ∃ o, e.out = o := ⟨_, rfl⟩
 have hown := h.2
 rw [ho] at hown hm h0 hcap hpos
 have hbk := h.1
 rw [ho] at hbk
 have hgb : b ≠ g := fun e => by
  have := h.apart
  simp [Value.ownBlock, e] at this
 have Hgb := hide hgb
 have Ho := hide ho
 clear hgb h ho
 rw [Ho.out]
 go_enter Tryz.func125, Tryz.ntmps125
 go_wp2
 go_loopw [2] (fun i wr => ∃ j : Nat, j ≤ o.length ∧ i = .int .i64 ((j : Int) - 1) ∧ Bk wr b 128 #[.slice (some ⟨g, 0, none⟩) o.length cap, .int .u32 (e.low : Int), .int .u32 (e.size : Int)] ∧ wr.ownsRow 0 5 1 (.slice (some ⟨g, 0, none⟩) o.length cap) o.length ((Part o j).map bv) ∧ Fr (foot b (.slice (some ⟨g, 0, none⟩) o.length cap)) w wr ∧ Hid (carry o = carry (o.take j) ++ List.replicate (o.length - j) 0)) (fun i _ => (intOf i + 1).toNat)
 case atStart => exact ⟨o.length, Nat.le_refl _, rfl, hbk, by simpa [Part] using hown, Fr.refl _ _, hide (by simp)⟩
 case round =>
  obtain ⟨j, hj, rfl, hbk, hown, hf, hcar⟩ := hrel
  clear h0
  have g0 := hbk.cell 0
  simp at g0
  by_cases hlt : 0 < j
  ·obtain ⟨k, rfl⟩ : ∃ k, j = k + 1 := ⟨j - 1, by omega⟩
   have hk : k < o.length := by omega
   obtain ⟨x, hx⟩ : ∃ x, o[k] = x := ⟨_, rfl⟩
   have hca := carry_at o k hk hcar.out
   rw [hx] at hca
   have Hca := hide hca
   obtain ⟨c1, c2⟩ := own_cell hown k (.int .u8 (x.toNat : Int)) (by rw [List.getElem?_map, part_get o k hk, hx]; rfl)
   have i1 : ((k + 1 : Nat) : Int) - 1 = (k : Int) := by omega
   have hk2 : (k : Int) < (o.length : Int) := by omega
   have hb := bump_byte x
   have hz0 := hide (fun h => zero_byte x h)
   have hz1 := hide (fun h => some_byte x h)
   have hyv : bv (x + 1) = .int .u8 ((x + 1).toNat : Int) := rfl
   obtain ⟨y, hy⟩ : ∃ y : Nat, (x + 1).toNat = y := ⟨_, rfl⟩
   rw [hy] at hb hz0 hz1 hyv
   have hps := part_set o k hk (x + 1)
   have hput := own_put hown k hk (.int .u8 (y : Int))
   have hcell := (own_cell hput k (.int .u8 (y : Int)) (by rw [List.getElem?_set_self (by rw [List.length_map, part_length o _ (by omega)]; exact hk)])).1
   rw [show ((Part o (k + 1)).map bv).set k (.int .u8 (y : Int)) = ((Part o (k + 1)).set k (x + 1)).map bv from by rw [List.map_set, hyv], hps] at hput
   have hoff := hbk.off (p := ⟨g, k, none⟩) Hgb.out (.int .u8 (y : Int))
   have q0 := hoff.cell 0
   simp at q0
   have hf2 := hf.setCell (p := ⟨g, k, none⟩) (.inl (.inr rfl)) (.int .u8 (y : Int))
   have Hput := hide hput
   have Hoff := hide hoff
   have Hf2 := hide hf2
   have hpz := hide (part_zero o k hk)
   rw [i1]
   by_cases hx255 : x = 255
   ·have hz := hz0.out hx255
    have Hx := hide hx255
    clear hx hcar hca hps hput hoff hf2 hown hbk hf hx255 hyv hy hz0 hz1
    go_wp2
    go_roundw
    case rel =>
     refine ⟨k, by omega, rfl, Hoff.out, ?_, Hf2.out, hide (Hca.out.1 Hx.out)⟩
     have := Hput.out
     rw [Hx.out] at this
     rw [← hpz.out]
     exact this
    case measure => simp [intOf] <;> omega
   ·have hz := hz1.out hx255
    have Hx := hide (Hca.out.2 hx255)
    clear hx hcar hca hps hput hoff hf2 hown hbk hf hx255 hyv hy hz0 hz1
    go_wp2
    go_returns
    refine ⟨rfl, ⟨?_, ?_⟩, Hf2.out⟩
    ·have := Hoff.out
     simp only [carry_length]
     exact this
    ·have := Hput.out
     simp only [carry_length]
     rw [Hx.out]
     exact this
  ·have hj0 : j = 0 := by omega
   subst hj0
   go_wp2
   go_end0
   refine ⟨rfl, ⟨?_, ?_⟩, hf⟩
   ·simp only [carry_length]
    exact hbk
   ·simp only [carry_length]
    rw [hcar.out]
    have := hown
    simpa [Part, carry, inc] using this
end Go.Proofs.YtjfcemlbbinanaaGreatDoor
/-
  The walks over the range coder, second part: the encoder's bit.
-/
namespace Go.Proofs.YtjfcemlbbinanaaGreatDoor
open Go.RowKit Go.Proofs Wv Wv.Vi Wv.Rc
set_option linter.unusedVariables false

theorem epart_zero (p : Nat) (e : En) : epart p 0 e = ⟨e.out, e.low, e.size / 2048 * p⟩ := by unfold epart; rw [if_pos rfl]
theorem epart_over (p : Nat) (e : En) (B : Nat) (hB : e.size / 2048 * p = B) (h : 4294967296 ≤ e.low + B) : epart p 1 e = ⟨carry e.out, e.low + B - 4294967296, e.size - B⟩ := by
 unfold epart; rw [hB, if_neg (by omega), if_pos h]
theorem epart_under (p : Nat) (e : En) (B : Nat) (hB : e.size / 2048 * p = B) (h : ¬ 4294967296 ≤ e.low + B) : epart p 1 e = ⟨e.out, e.low + B, e.size - B⟩ := by
 unfold epart; rw [hB, if_neg (by omega), if_neg h]

def szmu (b : Nat) (w : World) : Nat := match w.cell? ⟨b, 2, none⟩ with
 | some (.int _ n) => (16777216 - n).toNat
 | _ => 0
theorem szmu_eq {w : World} {b : Nat} {dv : Value} {e : En} (h : EnAt w b dv e) : szmu b w = (16777216 - (e.size : Int)).toNat := by
 have := h.1.cell 2
 simp at this
 unfold szmu
 rw [this]
theorem EnAt.put1 {w : World} {b : Nat} {dv : Value} {e : En} (h : EnAt w b dv e) (x : Nat) : EnAt (w.setCell ⟨b, 1, none⟩ (.int .u32 (x : Int))) b dv ⟨e.out, x, e.size⟩ :=
 ⟨by simpa using h.1.put 1 (.int .u32 (x : Int)), own_off h.2 (p := ⟨b, 1, none⟩) h.apart _⟩
theorem EnAt.put2 {w : World} {b : Nat} {dv : Value} {e : En} (h : EnAt w b dv e) (x : Nat) : EnAt (w.setCell ⟨b, 2, none⟩ (.int .u32 (x : Int))) b dv ⟨e.out, e.low, x⟩ :=
 ⟨by simpa using h.1.put 2 (.int .u32 (x : Int)), own_off h.2 (p := ⟨b, 2, none⟩) h.apart _⟩
theorem foot_set {w w' : World} {b : Nat} {dv : Value} (h : Fr (foot b dv) w w') (o : Nat) (x : Value) : Fr (foot b dv) w (w'.setCell ⟨b, o, none⟩ x) := h.setCell (p := ⟨b, o, none⟩) (.inl (.inl rfl)) x

set_option maxRecDepth 100000 in
set_option maxHeartbeats 2000000 in
theorem rbit_any {w : World} {b : Nat} {dv : Value} {e : En} (h : EnAt w b dv e) (hv : Val 0 e) (p bit : Nat) (hp1 : 1 ≤ p) (hp2 : p ≤ 2047) (hb2 : bit < 2) (hl : e.out.length ≤ 1000000) :
    Calls Tryz.prog 99 #[.pointer (some ⟨b, 0, none⟩), .int .i64 (p : Int), .int .i64 (bit : Int)] w fun x w' => x = .returned (.tuple #[]) ∧ ∃ dv', EnAt w' b dv' (ebit p bit e) ∧ Fr (foot b dv) w w' ∧ OwnNew w dv dv' := by
  obtain ⟨v1, v2⟩ := val_up hv
  obtain ⟨b1, b2⟩ := bound_le e.size p v1 hp1 hp2
  have hlow := hv.low
  have hpv := (epart_val hv (b := bit) hp1 hp2).1
  have hpl := (epart_val hv (b := bit) hp1 hp2).2.2.2
  obtain ⟨B, hB⟩ : ∃ B, e.size / 2048 * p = B := ⟨_, rfl⟩
  have htop := hv.top
  have c0 := h.1.cell 0
  have c1 := h.1.cell 1
  have c2 := h.1.cell 2
  have f1 := h.1.frozen 1
  have f2 := h.1.frozen 2
  simp at c0 c1 c2
  have Hcl := hide (rclamp_any (p : Int) (by omega) (by omega))
  rw [hB] at b1 b2
  have HB := hide hB
  have H := hide h
  have i0 : IntKind.u32.wrap ((e.size : Int) / 2048 * (p : Int)) = (B : Int) := by
    have : (e.size : Int) / 2048 * (p : Int) = (B : Int) := by rw [← HB.out, Int.natCast_mul, Int.natCast_ediv]; rfl
    rw [this, IntWalk.u32_in _ (by omega)]
  have Hpv := hide hpv
  have Hpl := hide hpl
  have Htop := hide htop
  have Hv := hide hv
  clear h hB hpv hpl htop hv
  go_enter Tryz.func99, Tryz.ntmps99
  go_wp2
  go_quiet ((go_at_call 124; exact q1 (Hcl.out _)))
  clear i0
  go_upto_if 17 with fail
  go_cut [] (fun wx => EnAt wx b dv (epart p bit e) ∧ Fr (foot b dv) w wx)
  case first =>
    have hz : bit = 0 ∨ bit = 1 := by omega
    rcases hz with rfl | rfl
    · have Hz := hide (epart_zero p e)
      rw [HB.out] at Hz
      go_wp2
      go_meet
      case rel =>
        rw [Hz.out]
        exact ⟨((H.out).drewN nq).put2 B, foot_set ((Fr.refl _ _).drewN nq) 2 _⟩
    · have i2 : (e.size : Int) - (B : Int) = ((e.size - B : Nat) : Int) := by omega
      obtain ⟨R, hR⟩ : ∃ R, e.size - B = R := ⟨_, rfl⟩
      rw [hR] at i2
      by_cases hov : 4294967296 ≤ e.low + B
      · have Hz := hide (epart_over p e B HB.out hov)
        obtain ⟨L, hL⟩ : ∃ L, e.low + B - 4294967296 = L := ⟨_, rfl⟩
        have i1 : ((e.low : Int) + (B : Int)) % 4294967296 = (L : Int) := by omega
        have hLl : (L : Int) < (e.low : Int) := by omega
        rw [hL, hR] at Hz
        have hpos : 0 < e.out.length := by
          rcases Nat.eq_zero_or_pos e.out.length with h9 | h9
          · have h8 := Htop.out
            have h7 : N e = vl 0 e.out * 4294967296 + e.low := rfl
            rw [h7, h9] at h8
            simp only [Nat.pow_zero, Nat.mul_one] at h8
            omega
          · exact h9
        have Hc := hide (rcarry_any ((H.out).drewN nq) hpos (by omega))
        clear hL hR hov hpos
        go_wp2_with fail
        refine (Hc.out).mono ?_
        rintro x w2 ⟨rfl, he2, hf2⟩
        have q1 := he2.1.cell 1
        have q2 := he2.1.cell 2
        have p1 := he2.1.frozen 1
        have p2 := he2.1.frozen 2
        simp at q1 q2
        have He2 := hide he2
        have Hf2 := hide hf2
        clear he2 hf2
        go_wp2
        go_meet
        case rel =>
          rw [Hz.out]
          exact ⟨(He2.out.put1 L).put2 R, foot_set (foot_set (((Fr.refl _ _).drewN nq).trans Hf2.out) 1 _) 2 _⟩
      · have Hz := hide (epart_under p e B HB.out hov)
        obtain ⟨L, hL⟩ : ∃ L, e.low + B = L := ⟨_, rfl⟩
        have hst := hide (show (e.low : Int) + (B : Int) = (L : Int) by omega)
        rw [hL, hR] at Hz
        have i1 : ((e.low : Int) + (B : Int)) % 4294967296 = (L : Int) := by omega
        have hLl : ¬ (L : Int) < (e.low : Int) := by omega
        clear hL hR hov
        go_wp2
        go_meet
        case rel =>
          rw [Hz.out, hst.out]
          exact ⟨(((H.out).drewN nq).put1 L).put2 R, foot_set (foot_set ((Fr.refl _ _).drewN nq) 1 _) 2 _⟩
  case rest =>
    obtain ⟨he, hf⟩ := hcut
    obtain ⟨i0', hi, hz0, hz1, hz2⟩ := info_parts u8inf
    have hlen := Hpl.out
    clear c0 c1 c2 f1 f2
    go_wp2
    go_loopw [] (fun wr => ∃ (k : Nat) (dr : Value) (x : En), EnAt wr b dr x ∧ Val k x ∧ k ≤ 2 ∧ Hid (enorm k x = ebit p bit e) ∧ Fr (foot b dv) w wr ∧ OwnNew w dv dr ∧ x.out.length ≤ e.out.length + 2 - k) (fun wr => szmu b wr)
    case atStart => exact ⟨2, dv, _, he, Hpv.out, Nat.le_refl _, hide rfl, hf, .inl rfl, by omega⟩
    case round =>
      clear he hf hlen
      obtain ⟨k, dr, x, hx, hvx, hk, hn, hf, hon, hlx⟩ := hrel
      have q0 := hx.1.cell 0
      have q1 := hx.1.cell 1
      have q2 := hx.1.cell 2
      simp at q0 q1 q2
      have hlow := hvx.low
      have hsz := hvx.sz.2
      by_cases hlt : x.size < 16777216
      · obtain ⟨j, rfl⟩ : ∃ j, k = j + 1 := by
          rcases Nat.eq_zero_or_pos k with h9 | h9
          · subst h9
            have := val_up hvx
            omega
          · exact ⟨k - 1, by omega⟩
        have hvs := eshift_val hvx hlt
        have hen : enorm (j + 1) x = enorm j (eshift x) := by rw [enorm, if_pos hlt]
        have Hen := hide hen
        have Hvs := hide hvs
        have hlt2 : (x.size : Int) < 16777216 := by omega
        have hsz0 : 0 < x.size := by
          have := hvx.sz.1
          rcases Nat.eq_zero_or_pos x.size with h9 | h9
          · rw [h9, Nat.zero_mul] at this; omega
          · exact h9
        obtain ⟨y, hy⟩ : ∃ y, x.low / 16777216 = y := ⟨_, rfl⟩
        have hy8 : y < 256 := by omega
        have i1 : (x.low : Int) / 16777216 = (y : Int) := by omega
        have i2 : IntKind.u8.wrap (y : Int) = (y : Int) := by rw [IntWalk.u8_in _ (by omega)]
        obtain ⟨L, hL⟩ : ∃ L, x.low * 256 % 4294967296 = L := ⟨_, rfl⟩
        have i3 : IntKind.u32.wrap ((x.low : Int) * 256) = (L : Int) := by rw [IntKind.wrap_u32']; omega
        obtain ⟨R, hR⟩ : ∃ R, x.size * 256 = R := ⟨_, rfl⟩
        have i4 : IntKind.u32.wrap ((x.size : Int) * 256) = (R : Int) := by rw [IntKind.wrap_u32']; omega
        have Hsh : Hid (eshift x = ⟨x.out ++ [UInt8.ofNat y], L, R⟩) := hide (by unfold eshift; rw [hy, hL, hR])
        obtain ⟨dr', w1, hrun, hown1, hg1, hat⟩ := run_app1 (P := Tryz.prog) (w := wr) 74 74 5 _ _ 1 Tryz.underlying74 u8inf rfl (by omega) hx.2 [.int .u8 (y : Int)] rfl (by simp [Value.oneCell']) (by unfold maxLen; omega) (by omega) (Nat.zero_le _)
        obtain ⟨A', M', cap', rfl⟩ := own_slice hown1
        have hbk1 := (hx.1.alloc (.cells #[.int .u8 (y : Int)] 5)).drew.grown hg1 (fun e => hx.apart e.symm)
        have r0 := hbk1.cell 0
        have r1 := hbk1.cell 1
        have r2 := hbk1.cell 2
        have t0 := hbk1.frozen 0
        have t1 := hbk1.frozen 1
        have t2 := hbk1.frozen 2
        simp at r0 r1 r2
        have Hrun := hide hrun
        have hbl := hx.1.lt
        have hbl1 := hbk1.lt
        have hap : (Value.slice A' M' cap').ownBlock ≠ some b := own_apart hown1 hbk1 (by decide)
        have hx1 : EnAt (w1.setCell ⟨b, 0, none⟩ (Value.slice A' M' cap')) b (Value.slice A' M' cap') ⟨x.out ++ [UInt8.ofNat y], x.low, x.size⟩ := by
          refine ⟨by simpa using hbk1.put 0 (Value.slice A' M' cap'), ?_⟩
          have h7 := own_off hown1 (p := ⟨b, 0, none⟩) hap (Value.slice A' M' cap')
          have h8 : x.out.map bv ++ [.int .u8 (y : Int)] = (x.out ++ [UInt8.ofNat y]).map bv := by
            rw [List.map_append]
            simp [bv, Nat.mod_eq_of_lt hy8]
          rw [h8] at h7
          rw [List.length_append]
          exact h7
        have hx2 := (hx1.drewN 1).put1 L |>.put2 R
        have hf1 : Fr (foot b dv) w (w1.setCell ⟨b, 0, none⟩ (Value.slice A' M' cap')) := foot_set (((hf.alloc (.cells #[.int .u8 (y : Int)] 5)).drew).grown hg1 (fun g hg => by
          rcases hon with h9 | h9
          · exact .inl (.inr (h9 ▸ hg))
          · exact .inr (h9 g hg))) 0 _
        have hon1 : OwnNew w dv (Value.slice A' M' cap') := by
          rcases hat with h9 | h9
          · rcases hon with h10 | h10
            · exact .inl (h9.trans h10)
            · exact .inr (fun g hg => h10 g (h9 ▸ hg))
          · refine .inr (fun g hg => ?_)
            have h10 : some g = some (wr.heap.size + 1) := hg.symm.trans h9
            injection h10 with h10
            have := hf.size
            omega
        have Hx2 := hide hx2
        have Hx1 := hide hx1
        have Hx := hide hx
        have HR := hide hR
        have Hf1 := hide hf1
        have Hon1 := hide hon1
        clear hx1 hx2 hf1 hon1 hrun hown1 hg1 hat hbk1 hvs hen hvx hx hlt hf hon hy hL hR hap
        go_wp2
        go_region_law ((refine step_run (by rfl) _ _ _ (by rfl) _ _ (by rfl) (by rfl) Hrun.out ?_))
        all_goals
          clear r0 r1 r2 t0 t1 t2 q0 q1
          generalize w1.setCell ⟨b, 0, none⟩ (.slice A' M' cap') = W at *
          have r1 := Hx1.out.1.cell 1
          have r2 := Hx1.out.1.cell 2
          have t1 := Hx1.out.1.frozen 1
          have t2 := Hx1.out.1.frozen 2
          simp at r1 r2
        all_goals
          go_wp2
          go_region
        all_goals
          go_wp2
          go_roundw
          case rel =>
            refine ⟨j, .slice A' M' cap', eshift x, ?_, Hvs.out, by omega, hide (by rw [← Hen.out, hn.out]), (foot_set (foot_set Hf1.out 1 _) 2 _).drew, Hon1.out, by rw [eshift_len]; omega⟩
            rw [Hsh.out]
            exact ((Hx1.out.put1 L).put2 R).drew
          case measure =>
            show szmu b _ < szmu b _
            rw [szmu_eq (((Hx1.out.put1 L).put2 R).drew), szmu_eq Hx.out]
            have := HR.out
            simp only
            omega
      · have hen : enorm k x = x := by cases k with
          | zero => rfl
          | succ k => rw [enorm, if_neg hlt]
        have Hen := hide hen
        have hlt2 : ¬ (x.size : Int) < 16777216 := by omega
        clear hlt hen
        go_wp2
        go_end0
        refine ⟨rfl, dr, ?_, hf, hon⟩
        rw [← hn.out, Hen.out]
        exact hx
end Go.Proofs.YtjfcemlbbinanaaGreatDoor
/-
  The walks over the range coder: a new encoder, many bits, the end.
-/
namespace Go.Proofs.YtjfcemlbbinanaaGreatDoor
open Go.RowKit Go.Proofs Wv Wv.Vi Wv.Rc
set_option linter.unusedVariables false

set_option maxHeartbeats 400000 in
theorem enew_any (w : World) :
  Calls Tryz.prog 57 #[] w fun x w' => x = .returned (.pointer (some ⟨w.heap.size, 0, none⟩)) ∧ EnAt w' w.heap.size (.slice none 0 0) e0 ∧ Below w.heap.size w w' := by
 go_enter Tryz.func57, Tryz.ntmps57
 go_wp2
 go_ret
 exact ⟨rfl, ⟨Bk.new _ _ _, own_nil⟩, (Below.refl _ _).alloc (Nat.le_refl _) _⟩
theorem edir_last (m : Nat) : ∀ (u : Nat) (e : En), edir (m + 1) u e = ebit 1024 (u % 2) (edir m (u / 2) e) := by
 induction m with
 | zero => intro u e; simp [edir]
 | succ m ih =>
  intro u e
  rw [edir, ih, edir, Nat.div_div_eq_div_mul, Nat.pow_succ, Nat.mul_comm 2]
theorem edir_grow (n j v : Nat) (e : En) (h : j < n) : edir (n - j) (v / 2 ^ j) e = ebit 1024 (v / 2 ^ j % 2) (edir (n - (j + 1)) (v / 2 ^ (j + 1)) e) := by
 rw [show n - j = (n - (j + 1)) + 1 from by omega, edir_last, Nat.div_div_eq_div_mul, ← Nat.pow_succ]
theorem enorm_len (k : Nat) : ∀ e : En, (enorm k e).out.length ≤ e.out.length + k := by
 induction k with
 | zero => intro e; exact Nat.le_refl _
 | succ k ih =>
  intro e
  rw [enorm]
  split
  ·have := ih (eshift e)
   rw [eshift_len] at this
   omega
  ·omega
theorem ebit_len (p b : Nat) (e : En) : (ebit p b e).out.length ≤ e.out.length + 2 := by
 have h := enorm_len 2 (epart p b e)
 have : (epart p b e).out.length = e.out.length := by
  unfold epart
  split
  ·rfl
  ·split
   ·exact carry_length _
   ·rfl
 unfold ebit
 omega
theorem edir_len (n v : Nat) : ∀ e : En, (edir n v e).out.length ≤ e.out.length + 2 * n := by
 induction n with
 | zero => intro e; exact Nat.le_refl _
 | succ n ih =>
  intro e
  rw [edir]
  have h1 := ih (ebit 1024 (v / 2 ^ n % 2) e)
  have h2 := ebit_len 1024 (v / 2 ^ n % 2) e
  omega

set_option maxHeartbeats 1000000 in
theorem edirect_any {w : World} {b : Nat} {dv : Value} {e : En} (h : EnAt w b dv e) (hv : Val 0 e) (n v : Nat) (hn : n ≤ 62) (hv63 : v ≤ 9223372036854775807) (hl : e.out.length ≤ 900000) :
  Calls Tryz.prog 102 #[.pointer (some ⟨b, 0, none⟩), .int .i64 (n : Int), .int .i64 (v : Int)] w fun x w' => x = .returned (.tuple #[]) ∧ ∃ dv', EnAt w' b dv' (edir n v e) ∧ Fr (foot b dv) w w' ∧ OwnNew w dv dv' := by
 have ha := and1
 go_enter Tryz.func102, Tryz.ntmps102
 go_wp2
 go_loopw [6] (fun i wr => ∃ (j : Nat) (dr : Value), j ≤ n ∧ i = .int .i64 ((j : Int) - 1) ∧ EnAt wr b dr (edir (n - j) (v / 2 ^ j) e) ∧ Fr (foot b dv) w wr ∧ OwnNew w dv dr) (fun i _ => (intOf i + 1).toNat)
 case atStart => exact ⟨n, dv, by omega, rfl, by rw [Nat.sub_self]; exact h, Fr.refl _ _, .inl rfl⟩
 case round =>
  obtain ⟨j, dr, hj, rfl, hx, hf, hon⟩ := hrel
  by_cases hlt : 0 < j
  ·obtain ⟨k, rfl⟩ : ∃ k, j = k + 1 := ⟨j - 1, by omega⟩
   have hg := edir_grow n k v e (by omega)
   have hlen := edir_len (n - (k + 1)) (v / 2 ^ (k + 1)) e
   have hval := edir_val (n - (k + 1)) (v / 2 ^ (k + 1)) hv
   have i1 : ((k + 1 : Nat) : Int) - 1 = (k : Int) := by omega
   rw [i1]
   obtain ⟨E, hE⟩ : ∃ E, edir (n - (k + 1)) (v / 2 ^ (k + 1)) e = E := ⟨_, rfl⟩
   obtain ⟨y, hy⟩ : ∃ y, v / 2 ^ k % 2 = y := ⟨_, rfl⟩
   have hy2 : y < 2 := by omega
   have i2 : (v : Int) / 2 ^ k % 2 = (y : Int) := by rw [← hy, Int.natCast_emod, Int.natCast_ediv, Int.natCast_pow]; rfl
   rw [hE] at hg hlen hval hx
   rw [hy] at hg
   have Hb := hide (rbit_any hx hval 1024 y (by omega) (by omega) hy2 (by omega))
   have Hg := hide hg
   clear hg hE hy hx hlen hval
   go_wp2_with fail
   refine (Hb.out).mono ?_
   rintro x w1 ⟨rfl, dr2, he2, hf2, ho2⟩
   have hs := hf.size
   go_wp2
   go_roundw
   case rel => exact ⟨k, dr2, by omega, rfl, by rw [Hg.out]; exact he2, fr_foot hf hf2 hon, hon.trans ho2 hs⟩
   case measure => simp [intOf] <;> omega
  ·have hj0 : j = 0 := by omega
   subst hj0
   go_wp2
   go_end0
   exact ⟨rfl, dr, by simpa using hx, hf, hon⟩
theorem conv_row {P : Program} (src dst e : TypeId) (hs : P.underlying src = some (.slice e)) (he : P.underlying e = some (.int .u8)) (hd : P.underlying dst = some .string) {w : World} {base n : Nat} {v : Value} {l : List UInt8}
  (h : w.ownsRow base e 1 v n (l.map bv)) : (convert src dst v).run P w = .ok (.string (bs l)) w := by
 rcases h.2 with ⟨rfl, hn⟩ | ⟨g, cap, cur, rfl, hb, hg, rest⟩
 ·have hl : l = [] := by
   have := h.1
   rw [hn, List.length_map] at this
   exact List.eq_nil_of_length_eq_zero (by omega)
  subst hl
  exact run_convert_bytes_nil w src e hs he 0 0 dst hd
 ·exact conv_own src dst e hs he hd h
end Go.Proofs.YtjfcemlbbinanaaGreatDoor
