/-
  The laws of the bit strings: each string of bits has its own bytes.
-/
import Derived.Test.YtfahcmiignnnkaaLaw3
import Derived.Test.YtfahcmiignnnkaaPlain3
import Derived.Test.YtfahcmiignnnkaaRow
import Derived.BigQuiet
import Derived.Deep.QuietTactic
namespace Go.Proofs.Ytfahcmiignnnkaa
open Go.RowKit Go.Proofs Wv Wv.Bit
set_option linter.unusedVariables false

theorem putm_bit (l : List Bool) (k : Nat) (h : k < l.length) (hl : l.length ≤ 200) (b : Bool) (hb : l[k] = b) : putm (l.take k) ⟨0, 1, (b.toNat : Int)⟩ = (l.take (k + 1), 0) := by
  have h1 : Cd.bits ⟨0, 1, (b.toNat : Int)⟩ = [b] := by cases b <;> rfl
  have h2 : Cd.ok ⟨0, 1, (b.toNat : Int)⟩ = true := by cases b <;> decide
  rw [putm_ok _ _ h2 (by rw [h1, List.length_take]; simp; omega), h1, ← hb, List.take_succ_eq_append_getElem h]

set_option maxHeartbeats 1000000 in
theorem write_any {A : Option Addr} {l : List Bool} {w : World} (h : BoolsAt w A l) (n cap : Nat) (hn : n = l.length) (hm : n ≤ 200) :
    Calls Try.prog 20 #[.slice A n cap] w fun e w' => e = .returned (.string (bstr l)) ∧ Below w.heap.size w w' := by
  have Hn := hide (newwriter_any w)
  have hnl : n ≤ l.length := by omega
  have Hl := hide hn
  have hl2 : l.length ≤ 200 := by omega
  clear hn
  go_enter Try.func20, Try.ntmps20
  go_wp2_with fail
  refine (Hn.out).mono ?_
  rintro e w1 ⟨rfl, hw1, hb1⟩
  have hws : WSt w.heap.size w1 w.heap.size (.slice none 0 0) [] := ⟨hw1, by simp [Value.ownBlock], Nat.le_refl _⟩
  have hb0 := h.below hb1
  go_wp2
  go_loopw [12] (fun i wr => ∃ (k : Nat) (dv : Value), k ≤ n ∧ i = .int .i64 k ∧ WSt w.heap.size wr w.heap.size dv (l.take k) ∧ Below w.heap.size w wr ∧ BoolsAt wr A l) (fun i _ => (n - intOf i).toNat)
  case atStart => exact ⟨0, _, by omega, rfl, hws, hb1, hb0⟩
  case round =>
    clear hws hb1 hb0 hw1
    obtain ⟨k, dv, hkn, rfl, hwx, hf, hc⟩ := hrel
    by_cases hlt : k < n
    · obtain ⟨b, o, rfl, hbw, c0⟩ := hc k (by omega)
      obtain ⟨x, hx⟩ : ∃ x, l[k] = x := ⟨_, rfl⟩
      rw [hx] at c0
      have Hput := hide (putm_bit l k (by omega) hl2 x hx)
      clear hx
      have hfa := hf.alloc hf.size (.cells #[.int .i64 0, .int .i64 1, .int .i64 0] 42)
      have hwa := hwx.alloc (.cells #[.int .i64 0, .int .i64 1, .int .i64 0] 42)
      cases x
      · have Hw := wput_any hwa.at_ (by rw [List.length_take]; omega) 0 1 0 (by omega) (by omega)
        have Hp := Hput.out
        simp only [Bool.toNat_false] at Hp
        rw [show (⟨0, 1, ((0 : Nat) : Int)⟩ : Cd) = ⟨0, 1, 0⟩ from rfl] at Hp
        rw [Hp] at Hw
        have Hw2 := hide Hw
        clear Hw Hp
        go_wp2_with fail
        refine (Hw2.out).mono ?_
        rintro e w6 ⟨rfl, dv', hw6, hf7, ho6⟩
        have hws6 := hwa.put hfa.size hw6 ho6
        have hf8 := hfa.trans (hwa.frame hfa.size hf7)
        have hc8 := h.below hf8
        clear c0
        go_wp2
        go_roundw
        case rel => exact ⟨k + 1, dv', by omega, by go_num, hws6, hf8, hc8⟩
        case measure => simp [intOf]; omega
      · have hwb := hwx.alloc (.cells #[.int .i64 0, .int .i64 1, .int .i64 1] 42)
        have hfb := hf.alloc hf.size (.cells #[.int .i64 0, .int .i64 1, .int .i64 1] 42)
        have Hw := wput_any hwb.at_ (by rw [List.length_take]; omega) 0 1 1 (by omega) (by omega)
        have Hp := Hput.out
        simp only [Bool.toNat_true] at Hp
        rw [show (⟨0, 1, ((1 : Nat) : Int)⟩ : Cd) = ⟨0, 1, 1⟩ from rfl] at Hp
        rw [Hp] at Hw
        have Hw2 := hide Hw
        clear Hw Hp
        go_wp2_with fail
        refine (Hw2.out).mono ?_
        rintro e w6 ⟨rfl, dv', hw6, hf7, ho6⟩
        have hws6 := hwb.put hfb.size hw6 ho6
        have hf8 := hfb.trans (hwb.frame hfb.size hf7)
        have hc8 := h.below hf8
        clear c0
        go_wp2
        go_roundw
        case rel => exact ⟨k + 1, dv', by omega, by go_num, hws6, hf8, hc8⟩
        case measure => simp [intOf]; omega
    · have hkl : k = n := by omega
      have hall : l.take k = l := by rw [hkl, Hl.out, List.take_length]
      rw [hall] at hwx
      have Hb := hide (wbytes_any hwx.at_ (by have := Hl.out; omega))
      clear hall
      go_wp2_with fail
      refine (Hb.out).mono ?_
      rintro e w6 ⟨rfl, hb6⟩
      have hf8 := hf.trans (hb6.mono hf.size)
      go_wp2
      go_ret
      exact ⟨rfl, hf8⟩
theorem ends_nrd (s : ByteArray) : nrd (s ++ ⟨#[0]⟩) = none := by
  apply nrd_none1
  have h2 : (s ++ (⟨#[0]⟩ : ByteArray)).data.toList = s.data.toList ++ [0] := by rw [ByteArray.data_append, Array.toList_append]
  have h3 : s.data.toList.length = s.size := Array.length_toList
  have h1 : (s ++ (⟨#[0]⟩ : ByteArray)).size = s.size + 1 := by
    have h4 : (s ++ (⟨#[0]⟩ : ByteArray)).data.toList.length = (s ++ (⟨#[0]⟩ : ByteArray)).size := Array.length_toList
    rw [← h4, h2, List.length_append, h3]; rfl
  rw [h1, Nat.add_sub_cancel, h2, List.getD_eq_getElem?_getD, List.getElem?_append_right (by omega), h3, Nat.sub_self]
  rfl
theorem same_step (a b : List Bool) (i : Nat) (h : a.take i = b.take i) (ha : i < a.length) (hb : i < b.length) : (a.take (i + 1) = b.take (i + 1)) ↔ a[i] = b[i] := by
  rw [List.take_succ_eq_append_getElem ha, List.take_succ_eq_append_getElem hb, h]
  simp only [List.append_cancel_left_eq, List.cons.injEq, and_true]

set_option maxHeartbeats 2000000 in
theorem ends_any {A B : Option Addr} {a b : List Bool} {w : World} (ha : BoolsAt w A a) (n cap : Nat) (hn : n = a.length) (hm : n ≤ 9223372036854775807) (hb : BoolsAt w B b) (m cap' : Nat) (hn' : m = b.length) (hm' : m ≤ 9223372036854775807) :
    Calls Try.prog 5 #[.slice A n cap, .slice B m cap'] w fun e w' => e = .returned (.bool true) ∧ Below w.heap.size w w' := by
  have Ha := hide awake_any
  by_cases hbig : 200 < n ∨ 200 < m
  · clear hn hn'
    go_enter Try.func5, Try.ntmps5
    go_wp2_with fail
    refine (Ha.out _).mono ?_
    rintro e w1 ⟨rfl, hb1⟩
    by_cases hc : 200 < n
    · go_wp2
      go_ret
      exact ⟨rfl, hb1⟩
    · go_wp2
      go_ret
      exact ⟨rfl, hb1⟩
  · have c1 : n ≤ 200 := by omega
    have c2 : m ≤ 200 := by omega
    have Hn := hide hn
    have Hn' := hide hn'
    clear hbig hn hn'
    go_enter Try.func5, Try.ntmps5
    go_wp2_with fail
    refine (Ha.out _).mono ?_
    rintro e w1 ⟨rfl, hb1⟩
    have ha1 := ha.below hb1
    have hb1' := hb.below hb1
    obtain ⟨same, hs⟩ : ∃ s : Bool, ((n : Int) == (m : Int)) = s := ⟨_, rfl⟩
    have hsame : Hid (same = decide (n = m)) := hide (by rw [← hs, Bool.eq_iff_iff]; simp; omega)
    go_wp2
    go_loopw [6, 7] (fun t i wr => ∃ (k q : Nat) (z : Bool), k ≤ n ∧ i = .int .i64 k ∧ t = .bool z ∧ Hid (z = decide (n = m ∧ a.take k = b.take k)) ∧ wr = w1.drewN q) (fun _ i _ => (n - intOf i).toNat)
    case atStart => exact ⟨0, 0, same, by omega, rfl, rfl, hide (by rw [hsame.out]; simp), rfl⟩
    case round =>
      obtain ⟨k, q, z, hk, rfl, rfl, hz, rfl⟩ := hrel
      clear hs hsame
      by_cases hgo : z = true ∧ k < n
      · obtain ⟨rfl, hlt⟩ := hgo
        have hz2 : n = m ∧ a.take k = b.take k := by simpa using hz.out.symm
        have hk1 : k < a.length := by rw [← Hn.out]; exact hlt
        have hk2 : k < b.length := by rw [← Hn'.out, ← hz2.1]; exact hlt
        obtain ⟨ga, oa, rfl, hga, ca⟩ := ha1 k hk1
        obtain ⟨gb, ob, rfl, hgb, cb⟩ := hb1' k hk2
        have hst := same_step a b k hz2.2 hk1 hk2
        obtain ⟨x, hx⟩ : ∃ x, a[k] = x := ⟨_, rfl⟩
        obtain ⟨y, hy⟩ : ∃ x, b[k] = x := ⟨_, rfl⟩
        rw [hx] at ca hst
        rw [hy] at cb hst
        have hm2 : (k : Int) < (m : Int) := by omega
        have hn2 : (k : Int) < (n : Int) := by omega
        have Hz2 := hide hz2.1
        have Hst := hide hst
        clear hx hy hz2 hst hk1 hk2
        go_wp2
        go_quiet (fail)
        go_wp2
        refine ⟨⟨k + 1, q + nq, (x == y), by omega, by go_num, rfl, hide ?_, rfl⟩, by simp [intOf]; omega⟩
        rw [Bool.eq_iff_iff, decide_eq_true_eq]
        simp only [beq_iff_eq]
        exact ⟨fun e => ⟨Hz2.out, Hst.out.2 e⟩, fun e => Hst.out.1 e.2⟩
      · have hfin : Hid (z = decide (a = b)) := hide (by
          rw [hz.out]
          rw [Bool.eq_iff_iff, decide_eq_true_eq, decide_eq_true_eq]
          by_cases hzt : z = true
          · have hkn : k = n := by
              have : ¬ k < n := fun h => hgo ⟨hzt, h⟩
              omega
            have hz2 : n = m ∧ a.take k = b.take k := by
              have := hz.out
              rw [hzt] at this
              simpa using this.symm
            have h1 : a.take k = a := by rw [hkn, Hn.out, List.take_length]
            have h2 : b.take k = b := by rw [hkn, hz2.1, Hn'.out, List.take_length]
            rw [h1, h2] at hz2 ⊢
            exact ⟨fun _ => hz2.2, fun _ => hz2⟩
          · refine ⟨fun e => ?_, fun e => ?_⟩
            · exact absurd (by rw [hz.out]; simpa using e) hzt
            · exact absurd (by rw [hz.out, Hn.out, Hn'.out, e]; simp) hzt)
        have hf1 := bdN hb1 q
        have hws1 := hide (write_any (w := w1.drewN q) ha1 n cap Hn.out c1)
        have hlenx : ((bstr a).size : Int) = (n : Int) / 8 + 1 := by rw [bstr_size, ← Hn.out]; omega
        have hleny : ((bstr b).size : Int) = (m : Int) / 8 + 1 := by rw [bstr_size, ← Hn'.out]; omega
        have hxy : Hid ((bstr a = bstr b) ↔ (a = b)) := hide ⟨fun e => bstr_inj a b (by rw [← Hn.out]; omega) (by rw [← Hn'.out]; omega) e, fun e => by rw [e]⟩
        obtain ⟨X, hX⟩ : ∃ X, bstr a = X := ⟨_, rfl⟩
        obtain ⟨Y, hY⟩ : ∃ Y, bstr b = Y := ⟨_, rfl⟩
        rw [hX] at hlenx hws1
        rw [hX, hY] at hxy
        rw [hY] at hleny
        have HY := hide hY
        have hend : ∀ W : World, Calls Try.prog 11 #[.string (X ++ ⟨#[0]⟩)] W fun e w' => e = .returned (.tuple #[.pointer none, .int .i64 12]) ∧ Below W.heap.size W w' := fun W => by
          have h1 : (X ++ (⟨#[0]⟩ : ByteArray)).size = X.size + 1 := by
            rw [ByteArray.size_append]; rfl
          exact newreader_none _ W (by omega) (by omega) (ends_nrd X)
        have hemp : ∀ W : World, Calls Try.prog 11 #[.string ⟨#[]⟩] W fun e w' => e = .returned (.tuple #[.pointer none, .int .i64 12]) ∧ Below W.heap.size W w' := fun W => newreader_none _ W (by decide) (by decide) (nrd_none0 rfl)
        have Hend := hide hend
        have Hemp := hide hemp
        clear hend hemp hX hY
        have hzz : Hid ((X.toList == Y.toList) = z) := hide (by
          have h2 := hxy.out
          rw [hfin.out, ByteArray.toList_eq, ByteArray.toList_eq, Bool.eq_iff_iff, beq_iff_eq, decide_eq_true_eq]
          exact ⟨fun e => h2.1 (Go.WideShapes.bytes_inj e), fun e => by rw [h2.2 e]⟩)
        have hkn : z = true → ¬ (k : Int) < (n : Int) := fun h => by
          have : ¬ k < n := fun h' => hgo ⟨h, h'⟩
          omega
        have hbW : BoolsAt (w1.drewN q) B b := hb1'
        clear hgo hz hfin ha1 hb1' hb1
        cases z
        all_goals (
          first
            | have hkn2 := hkn rfl
            | skip
          clear hkn
          go_wp2_with fail
          refine (hws1.out).mono ?_
          rintro e w2 ⟨rfl, hb2⟩
          have hf2 := hf1.trans (hb2.mono hf1.size)
          have hws2 := write_any (hbW.below hb2) m cap' Hn'.out c2
          rw [HY.out] at hws2
          have hws3 := hide hws2
          clear hws2
          go_wp2_with fail
          refine (hws3.out).mono ?_
          rintro e w3 ⟨rfl, hb3⟩
          have hf3 := hf2.trans (hb3.mono hf2.size)
          go_wp2_with fail
          refine (Hend.out _).mono ?_
          rintro e w4 ⟨rfl, hb4⟩
          have hf4 := hf3.trans (hb4.mono hf3.size)
          go_wp2_with fail
          refine (Hemp.out _).mono ?_
          rintro e w5 ⟨rfl, hb5⟩
          have hf5 := hf4.trans (hb5.mono hf4.size)
          have hzc := hzz.out
          clear hb2 hb3 hb4 hb5 hf1 hf2 hf3 hf4 hbW
          go_wp2
          go_ret
          exact ⟨rfl, hf5⟩)
end Go.Proofs.Ytfahcmiignnnkaa
