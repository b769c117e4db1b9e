/-
  The walks over the range coder, first part: the encoder's clamp, carry.
-/
import Derived.Test.YtgllednilkfpgaaGreatChecked
import Derived.Test.YtgllednilkfpgaaGreatJ01
import Derived.Test.YtgllednilkfpgaaGreatJ02
import Derived.Test.YtgllednilkfpgaaGreatJ03
import Derived.BigRegion
import Derived.Handy
set_option linter.unusedVariables false
set_option linter.unusedSimpArgs false
namespace Go.Proofs.YtgllednilkfpgaaGreat
open Go.RowKit Go.Proofs Wv Wv.Vi Wv.Rc
set_option linter.unusedVariables false

theorem u8inf : (Tryz.prog.info? 5).map (fun i => (i.zero, i.size, i.bytes)) = some (some (.int .u8 0), 1, 1) := by kernel_rfl
/-- The row is the old one or a new one. -/
def OwnNew (w : World) (dv dv' : Value) : Prop := dv'.ownBlock = dv.ownBlock ∨ ∀ g, dv'.ownBlock = some g → w.heap.size ≤ g
theorem OwnNew.refl (w : World) (dv : Value) : OwnNew w dv dv := .inl rfl
theorem OwnNew.trans {w w' : World} {a b c : Value} (h : OwnNew w a b) (k : OwnNew w' b c) (hs : w.heap.size ≤ w'.heap.size) : OwnNew w a c := by
  rcases k with k | k
  · rcases h with h | h
    · exact .inl (k.trans h)
    · exact .inr (fun g hg => h g (k ▸ hg))
  · exact .inr (fun g hg => Nat.le_trans hs (k g hg))
theorem fr_foot {w w1 w2 : World} {b : Nat} {a d : Value} (h : Fr (foot b a) w w1) (k : Fr (foot b d) w1 w2) (ho : OwnNew w a d) : Fr (foot b a) w w2 :=
  h.trans' k (fun i hi hs => by
    rcases hs with hs | hs
    · exact .inl hs
    · rcases ho with ho | ho
      · exact .inr (ho ▸ hs)
      · have := ho i hs; omega)
/-- An encoder in memory: its struct at block b, its bytes the row that dv owns. -/
def EnAt (w : World) (b : Nat) (dv : Value) (e : En) : Prop :=
  Bk w b 190 #[dv, .int .u32 (e.low : Int), .int .u32 (e.size : Int)] ∧ w.ownsRow 0 5 1 dv e.out.length (e.out.map bv)
theorem EnAt.drewN {w : World} {b : Nat} {dv : Value} {e : En} (h : EnAt w b dv e) (n : Nat) : EnAt (w.drewN n) b dv e := h
theorem EnAt.drew {w : World} {b : Nat} {dv : Value} {e : En} (h : EnAt w b dv e) : EnAt w.drew b dv e := h
theorem EnAt.apart {w : World} {b : Nat} {dv : Value} {e : En} (h : EnAt w b dv e) : dv.ownBlock ≠ some b := own_apart h.2 h.1 (by decide)
theorem EnAt.below {w w' : World} {b : Nat} {dv : Value} {e : En} (h : EnAt w b dv e) (hb : Below w.heap.size w w') : EnAt w' b dv e :=
  ⟨h.1.below hb h.1.lt, own_fr h.2 (Fr.of_below (S := nob) hb) (fun _ _ f => f)⟩
theorem EnAt.fr {S : Nat → Prop} {w w' : World} {b : Nat} {dv : Value} {e : En} (h : EnAt w b dv e) (hf : Fr S w w') (h1 : ¬ S b) (h2 : ∀ g, dv.ownBlock = some g → ¬ S g) : EnAt w' b dv e :=
  ⟨h.1.fr hf h1, own_fr h.2 hf h2⟩

set_option maxHeartbeats 400000 in
theorem rclamp_any (p : Int) (h1 : 1 ≤ p) (h2 : p ≤ 2047) (w : World) :
    Calls Tryz.prog 191 #[.int .i64 p] w fun x w' => x = .returned (.int .u32 p) ∧ w = w' := by
  go_enter Tryz.func191, Tryz.ntmps191
  go_wp2
  go_ret
  exact ⟨rfl, rfl⟩
/-- The bytes while 1 is added: those behind place j were 255. -/
theorem carry_at (l : List UInt8) (j : Nat) (hj : j < l.length) (h : carry l = carry (l.take (j + 1)) ++ List.replicate (l.length - (j + 1)) 0) :
    (l[j] = 255 → carry l = carry (l.take j) ++ List.replicate (l.length - j) 0) ∧ (l[j] ≠ 255 → carry l = l.take j ++ (l[j] + 1) :: List.replicate (l.length - (j + 1)) 0) := by
  rw [List.take_succ_eq_append_getElem hj] at h
  refine ⟨fun e => ?_, fun e => ?_⟩
  · rw [e, carry_full] at h
    rw [h, List.append_assoc, show l.length - j = l.length - (j + 1) + 1 from by omega, List.replicate_succ]
    rfl
  · rw [carry_room _ _ e] at h
    rw [h, List.append_assoc]
    rfl
theorem bump_byte (x : UInt8) : ((x.toNat : Int) + 1) % 256 = ((x + 1).toNat : Int) := by
  rw [UInt8.toNat_add]
  have : (1 : UInt8).toNat = 1 := rfl
  have := UInt8.toNat_lt x
  omega
theorem zero_byte (x : UInt8) (h : x = 255) : (((x + 1).toNat : Int) != 0) = false := by rw [h]; rfl
theorem some_byte (x : UInt8) (h : x ≠ 255) : (((x + 1).toNat : Int) != 0) = true := by
  rw [bne_iff_ne]
  have h1 : x.toNat ≠ 255 := fun e => h (UInt8.toNat_inj.1 e)
  rw [← bump_byte]
  have := UInt8.toNat_lt x
  omega
/-- The bytes behind the round at place j: the front as it was, the places from j on zero. -/
def Part (l : List UInt8) (j : Nat) : List UInt8 := l.take j ++ List.replicate (l.length - j) 0
theorem part_length (l : List UInt8) (j : Nat) (h : j ≤ l.length) : (Part l j).length = l.length := by simp [Part]; omega
theorem part_get (l : List UInt8) (j : Nat) (h : j < l.length) : (Part l (j + 1))[j]? = some l[j] := by
  unfold Part
  rw [List.getElem?_append_left (by rw [List.length_take]; omega), List.getElem?_take_of_lt (by omega), List.getElem?_eq_getElem h]
theorem part_set (l : List UInt8) (j : Nat) (h : j < l.length) (x : UInt8) : (Part l (j + 1)).set j x = l.take j ++ x :: List.replicate (l.length - (j + 1)) 0 := by
  unfold Part
  have hl : (l.take j).length = j := by rw [List.length_take]; omega
  rw [List.take_succ_eq_append_getElem h, List.append_assoc, List.set_append_right _ _ (by omega), hl, Nat.sub_self]
  rfl
theorem part_zero (l : List UInt8) (j : Nat) (h : j < l.length) : l.take j ++ 0 :: List.replicate (l.length - (j + 1)) 0 = Part l j := by
  unfold Part
  rw [show l.length - j = l.length - (j + 1) + 1 from by omega, List.replicate_succ]

set_option maxHeartbeats 1000000 in
theorem rcarry_any {w : World} {b : Nat} {dv : Value} {e : En} (h : EnAt w b dv e) (hpos : 0 < e.out.length) (hm : e.out.length ≤ 9223372036854775807) :
    Calls Tryz.prog 193 #[.pointer (some ⟨b, 0, none⟩)] w fun x w' => x = .returned (.tuple #[]) ∧ EnAt w' b dv { e with out := carry e.out } ∧ Fr (foot b dv) w w' := by
  have h0 := h.1.cell 0
  simp at h0
  obtain ⟨g, cap, rfl, hcap⟩ := own_form h.2 hpos
  obtain ⟨o, ho⟩ : ∃ o, e.out = o := ⟨_, rfl⟩
  have hown := h.2
  rw [ho] at hown hm h0 hcap hpos
  have hbk := h.1
  rw [ho] at hbk
  have hgb : b ≠ g := fun e => by
    have := h.apart
    simp [Value.ownBlock, e] at this
  have Hgb := hide hgb
  have Ho := hide ho
  clear hgb h ho
  rw [Ho.out]
  go_enter Tryz.func193, Tryz.ntmps193
  go_wp2
  go_loopw [2] (fun i wr => ∃ j : Nat, j ≤ o.length ∧ i = .int .i64 ((j : Int) - 1) ∧ Bk wr b 190 #[.slice (some ⟨g, 0, none⟩) o.length cap, .int .u32 (e.low : Int), .int .u32 (e.size : Int)] ∧ wr.ownsRow 0 5 1 (.slice (some ⟨g, 0, none⟩) o.length cap) o.length ((Part o j).map bv) ∧ Fr (foot b (.slice (some ⟨g, 0, none⟩) o.length cap)) w wr ∧ Hid (carry o = carry (o.take j) ++ List.replicate (o.length - j) 0)) (fun i _ => (intOf i + 1).toNat)
  case atStart => exact ⟨o.length, Nat.le_refl _, rfl, hbk, by simpa [Part] using hown, Fr.refl _ _, hide (by simp)⟩
  case round =>
    obtain ⟨j, hj, rfl, hbk, hown, hf, hcar⟩ := hrel
    clear h0
    have g0 := hbk.cell 0
    simp at g0
    by_cases hlt : 0 < j
    · obtain ⟨k, rfl⟩ : ∃ k, j = k + 1 := ⟨j - 1, by omega⟩
      have hk : k < o.length := by omega
      obtain ⟨x, hx⟩ : ∃ x, o[k] = x := ⟨_, rfl⟩
      have hca := carry_at o k hk hcar.out
      rw [hx] at hca
      have Hca := hide hca
      obtain ⟨c1, c2⟩ := own_cell hown k (.int .u8 (x.toNat : Int)) (by rw [List.getElem?_map, part_get o k hk, hx]; rfl)
      have i1 : ((k + 1 : Nat) : Int) - 1 = (k : Int) := by omega
      have hk2 : (k : Int) < (o.length : Int) := by omega
      have hb := bump_byte x
      have hz0 := hide (fun h => zero_byte x h)
      have hz1 := hide (fun h => some_byte x h)
      have hyv : bv (x + 1) = .int .u8 ((x + 1).toNat : Int) := rfl
      obtain ⟨y, hy⟩ : ∃ y : Nat, (x + 1).toNat = y := ⟨_, rfl⟩
      rw [hy] at hb hz0 hz1 hyv
      have hps := part_set o k hk (x + 1)
      have hput := own_put hown k hk (.int .u8 (y : Int))
      have hcell := (own_cell hput k (.int .u8 (y : Int)) (by rw [List.getElem?_set_self (by rw [List.length_map, part_length o _ (by omega)]; exact hk)])).1
      rw [show ((Part o (k + 1)).map bv).set k (.int .u8 (y : Int)) = ((Part o (k + 1)).set k (x + 1)).map bv from by rw [List.map_set, hyv], hps] at hput
      have hoff := hbk.off (p := ⟨g, k, none⟩) Hgb.out (.int .u8 (y : Int))
      have q0 := hoff.cell 0
      simp at q0
      have hf2 := hf.setCell (p := ⟨g, k, none⟩) (.inl (.inr rfl)) (.int .u8 (y : Int))
      have Hput := hide hput
      have Hoff := hide hoff
      have Hf2 := hide hf2
      have hpz := hide (part_zero o k hk)
      rw [i1]
      by_cases hx255 : x = 255
      · have hz := hz0.out hx255
        have Hx := hide hx255
        clear hx hcar hca hps hput hoff hf2 hown hbk hf hx255 hyv hy hz0 hz1
        go_wp2
        go_roundw
        case rel =>
          refine ⟨k, by omega, rfl, Hoff.out, ?_, Hf2.out, hide (Hca.out.1 Hx.out)⟩
          have := Hput.out
          rw [Hx.out] at this
          rw [← hpz.out]
          exact this
        case measure => simp [intOf] <;> omega
      · have hz := hz1.out hx255
        have Hx := hide (Hca.out.2 hx255)
        clear hx hcar hca hps hput hoff hf2 hown hbk hf hx255 hyv hy hz0 hz1
        go_wp2
        go_returns
        refine ⟨rfl, ⟨?_, ?_⟩, Hf2.out⟩
        · have := Hoff.out
          simp only [carry_length]
          exact this
        · have := Hput.out
          simp only [carry_length]
          rw [Hx.out]
          exact this
    · have hj0 : j = 0 := by omega
      subst hj0
      go_wp2
      go_end0
      refine ⟨rfl, ⟨?_, ?_⟩, hf⟩
      · simp only [carry_length]
        exact hbk
      · simp only [carry_length]
        rw [hcar.out]
        have := hown
        simpa [Part, carry, inc] using this
end Go.Proofs.YtgllednilkfpgaaGreat
