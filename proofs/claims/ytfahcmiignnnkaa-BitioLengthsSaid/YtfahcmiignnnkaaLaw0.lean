/-
  The laws of the bit strings: the examples that every law checks first.
-/
import Derived.Test.YtfahcmiignnnkaaPwa
import Derived.Test.YtfahcmiignnnkaaRef6
import Derived.Test.YtfahcmiignnnkaaPr9
import Derived.Test.YtfahcmiignnnkaaPw9
namespace Go.Proofs.Ytfahcmiignnnkaa
open Go.RowKit Go.Proofs Wv Wv.Bit

def sCe : ByteArray := ⟨#[206, 52]⟩
theorem aw_bytes0 {b : Nat} {dv : Value} {w : World} (h : WrAt w b dv []) :
    Calls Try.prog 19 #[.pointer (some ⟨b, 0, none⟩)] w fun e w' => e = .returned (.string ⟨#[128]⟩) ∧ Below w.heap.size w w' := by
  have := wbytes_any h (by simp)
  rw [show (⟨(pack ([] ++ [true])).toArray⟩ : ByteArray) = ⟨#[128]⟩ from by decide +kernel] at this
  exact this
theorem aw_bytes1 {b : Nat} {dv : Value} {w : World} (h : WrAt w b dv [true, false, true]) :
    Calls Try.prog 19 #[.pointer (some ⟨b, 0, none⟩)] w fun e w' => e = .returned (.string ⟨#[176]⟩) ∧ Below w.heap.size w w' := by
  have := wbytes_any h (by simp)
  rw [show (⟨(pack ([true, false, true] ++ [true])).toArray⟩ : ByteArray) = ⟨#[176]⟩ from by decide +kernel] at this
  exact this
theorem aw_put {b : Nat} {dv : Value} {w : World} (h : WrAt w b dv []) :
    Calls Try.prog 17 #[.pointer (some ⟨b, 0, none⟩), .agg #[.int .i64 0, .int .i64 3, .int .i64 5]] w fun e w' => e = .returned (.int .i64 0) ∧ ∃ dv', WrAt w' b dv' [true, false, true] ∧ Fr (foot b dv) w w' := by
  have := wput_any h (by simp) 0 3 5 (by omega) (by omega)
  rw [show putm [] ⟨0, 3, 5⟩ = ([true, false, true], 0) from by decide +kernel] at this
  exact this.mono fun e w' ⟨a, d, b, c, _⟩ => ⟨a, d, b, c⟩
theorem aw_encode {A : Option Addr} {w : World} (h : CodesAt w A [⟨2, 2, 9⟩, ⟨3, 0, 3⟩, ⟨4, 5, 3⟩]) :
    Calls Try.prog 24 #[.slice A 3 3] w fun e w' => e = .returned (.tuple #[.string ⟨#[206, 52]⟩, .int .i64 0]) ∧ Below w.heap.size w w' := by
  have := encode_any h (by simp [CdOk]) 3 3 rfl (by omega)
  rw [show encR [⟨2, 2, 9⟩, ⟨3, 0, 3⟩, ⟨4, 5, 3⟩] = (⟨#[206, 52]⟩, 0) from by decide +kernel] at this
  exact this
theorem aw_reader (w : World) :
    Calls Try.prog 11 #[.string ⟨#[206, 52]⟩] w fun e w' => e = .returned (.tuple #[.pointer (some ⟨w.heap.size, 0, none⟩), .int .i64 0]) ∧ RdAt w' w.heap.size sCe 0 13 ∧ Below w.heap.size w w' :=
  newreader_some sCe w 13 (by decide +kernel)
theorem aw_get {b : Nat} {w : World} (h : RdAt w b sCe 0 13) :
    Calls Try.prog 13 #[.pointer (some ⟨b, 0, none⟩), .int .i64 2, .int .i64 2, .int .i64 100] w fun e w' => e = .returned (.tuple #[.int .i64 9, .int .i64 0]) ∧ RdAt w' b sCe 5 13 ∧ Fr (only b) w w' := by
  have := get_any h 2 2 100
  rw [show getm 2 2 100 ((rbits sCe 13).drop 0) = ((rbits sCe 13).drop 5, 9, 0) from by decide +kernel] at this
  refine this.mono fun e w' ⟨y, a, b, c, d⟩ => ⟨a, ?_, c⟩
  have h1 := congrArg List.length d
  simp only [List.length_drop, rbits_length] at h1
  have h2 := b.2.1
  rw [show y = 5 from by omega] at b
  exact b

set_option maxHeartbeats 1000000 in
theorem awake_any (w : World) : Calls Try.prog 10 #[] w fun e w' => e = .returned (.bool true) ∧ Below w.heap.size w w' := by
  have Hn := hide newwriter_any
  have Hr := hide aw_reader
  go_enter Try.func10, Try.ntmps10
  go_wp2_with fail
  refine (Hn.out _).mono ?_
  rintro e w1 ⟨rfl, hw1, hb1⟩
  have H1 := hide (aw_bytes0 hw1)
  go_wp2_with fail
  refine (H1.out).mono ?_
  rintro e w2 ⟨rfl, hb2⟩
  have hw2 := hw1.below hb2
  have H2 := hide (aw_put hw2)
  go_wp2_with fail
  refine (H2.out).mono ?_
  rintro e w3 ⟨rfl, d3, hw3, hf3⟩
  have hb3 : Below w.heap.size w w3 := by
    have h1 := hf3.toBelow' (B := w.heap.size) (Nat.le_trans hb1.size hb2.size) (fun j hj hs => by
      rcases hs with hs | hs
      · omega
      · simp [Value.ownBlock] at hs)
    exact (hb1.trans (hb2.mono hb1.size)).trans h1
  have H3 := hide (aw_bytes1 hw3)
  clear hb1 hb2 hf3
  go_wp2_with fail
  refine (H3.out).mono ?_
  rintro e w4 ⟨rfl, hb4⟩
  have hw4 := hw3.below hb4
  have H4 := hide (wlen_any hw4)
  have hf4 := hb3.trans (hb4.mono hb3.size)
  clear hb4 hb3
  go_wp2_with fail
  refine (H4.out).mono ?_
  rintro e w5 ⟨rfl, rfl⟩
  obtain ⟨Wc, hWc⟩ : ∃ Wc, w4.alloc (.cells #[.int .i64 2, .int .i64 2, .int .i64 9, .int .i64 3, .int .i64 0, .int .i64 3, .int .i64 4, .int .i64 5, .int .i64 3] 42) = Wc := ⟨_, rfl⟩
  have hbk : Bk Wc w4.heap.size 42 _ := hWc ▸ Bk.new w4 _ _
  have hc : CodesAt Wc (some ⟨w4.heap.size, 0, none⟩) [⟨2, 2, 9⟩, ⟨3, 0, 3⟩, ⟨4, 5, 3⟩] := by
    intro i hi
    refine ⟨_, _, rfl, hbk.lt, ?_⟩
    simp only [hbk.cell]
    match i, hi with
    | 0, _ => exact ⟨rfl, rfl, rfl⟩
    | 1, _ => exact ⟨rfl, rfl, rfl⟩
    | 2, _ => exact ⟨rfl, rfl, rfl⟩
  have hfc : Below w.heap.size w Wc := hWc ▸ hf4.alloc hf4.size _
  have H5 := hide (aw_encode hc)
  clear hc hbk
  go_wp2_with fail
  clear hWc
  refine (H5.out).mono ?_
  rintro e w6 ⟨rfl, hb6⟩
  go_wp2_with fail
  refine (Hr.out _).mono ?_
  rintro e w7 ⟨rfl, hr7, hb7⟩
  have H7 := hide (aw_get hr7)
  go_wp2_with fail
  refine (H7.out).mono ?_
  rintro e w8 ⟨rfl, hr8, hf8⟩
  have H8 := hide (left_any hr8)
  have hf7 := hfc.trans (hb6.mono hfc.size)
  have hf9 : Below w.heap.size w w8 := by
    have h1 := hf8.toBelow' (B := w.heap.size) (Nat.le_trans hf7.size hb7.size) (fun j hj hs => by
      have : j = w6.heap.size := hs
      have := hf7.size
      omega)
    exact (hf7.trans (hb7.mono hf7.size)).trans h1
  go_wp2_with fail
  refine (H8.out).mono ?_
  rintro e w9 ⟨rfl, q, rfl⟩
  go_wp2
  go_ret
  exact ⟨rfl, bdN hf9 q⟩
end Go.Proofs.Ytfahcmiignnnkaa
