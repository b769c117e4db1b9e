/-
  Joined texts: Aq, Ar, Ja.
-/
import Derived.Test.YtoeeblldgoccoaaGreatJ45
import Derived.Test.YtoeeblldgoccoaaGreatJ36
import Derived.Test.YtoeeblldgoccoaaGreatJ42
set_option linter.unusedVariables false
set_option linter.unusedSimpArgs false
/-
  The walks over the reference of lists of values: Read.
-/
namespace Go.Proofs.YtoeeblldgoccoaaGreat
open Go.RowKit Go.Proofs Wv Wv.Vi Wv.Rc Wv.Mo Wv.Ru Wv.Tm Wv.Bc
set_option linter.unusedVariables false
set_option maxRecDepth 100000
end Go.Proofs.YtoeeblldgoccoaaGreat
/-
  The walks over the reference of lists of values: Decode.
-/
namespace Go.Proofs.YtoeeblldgoccoaaGreat
open Go.RowKit Go.Proofs Wv Wv.Vi Wv.Rc Wv.Mo Wv.Ru Wv.Tm Wv.Bc
set_option linter.unusedVariables false
set_option maxRecDepth 100000
end Go.Proofs.YtoeeblldgoccoaaGreat
/-
  The laws of lists of values: the examples that each checks first; whether values are few and short.
-/
namespace Go.Proofs.YtoeeblldgoccoaaGreat
open Go.RowKit Go.Proofs Wv Wv.Vi Wv.Rc Wv.Mo Wv.Ru Wv.Tm Wv.Bc
set_option linter.unusedVariables false
theorem at_new {w : World} {e : Nat} (vs : List Value) : At (w.alloc (.cells vs.toArray e)) (some ⟨w.heap.size, 0, none⟩) vs := by
 have := (Bk.new w e vs.toArray).at_
 simpa using this
theorem bel_new (w : World) (o : Obj) : Below w.heap.size w (w.alloc o) := (Below.refl w.heap.size w).alloc (Nat.le_refl _) o
theorem bel_step {w w1 w2 : World} (h : Below w.heap.size w w1) (k : Below w1.heap.size w1 w2) : Below w.heap.size w w2 := h.trans (k.mono h.size)
theorem drew_bel {w w1 w2 : World} (h : Below w.heap.size w w1) (k : ∃ q, w2 = w1.drewN q) : Below w.heap.size w w2 := by
 obtain ⟨q, rfl⟩ := k
 exact bdN h q
theorem tres_sv {w w' : World} {x : Ending} {X : List ByteArray} {e : Nat} (h : TRes w (X, e) x w') : ∃ B cap, x = .returned (.tuple #[.slice B X.length cap, .int .i64 (e : Int)]) ∧ At w' B (svs X) ∧ Below w.heap.size w w' := by
 obtain ⟨v, h1, ⟨B, cap, h2, h3⟩, h4⟩ := h
 exact ⟨B, cap, by rw [h1, h2], h3, h4⟩
theorem sv_texts {W : World} {B C : Option Addr} {X : List ByteArray} (h1 : At W B (svs X)) (h2 : At W C (svs X)) (n c1 m c2 : Nat) (hn : n = X.length) (hm : m = X.length) (hX : X.length ≤ 8192) :
  Calls Tryz.prog 24 #[.slice B n c1, .slice C m c2] W fun x w' => x = .returned (.bool true) ∧ ∃ q, w' = W.drewN q := by
 have := texts_any (a := X) (b := X) h1 h2 n c1 m c2 hn hm (by omega) (by omega)
 simpa using this
theorem shortB_true {l : List ByteArray} {most bytes : Int} (h : shortB l most bytes = true) : (∀ s ∈ l, (s.size : Int) ≤ bytes) ∧ (l.length : Int) ≤ most := of_decide_eq_true h
def BTrue (w : World) (x : Ending) (w' : World) : Prop := x = .returned (.bool true) ∧ Below w.heap.size w w'
theorem encB_len (w : Int) (l : List ByteArray) : (encB' w l).1.length ≤ 4000100 := by
 cases h : validB w l with
 | false => rw [encB_bad h]; simp
 | true =>
  obtain ⟨c, s, hc, hs, he⟩ := encB_cases h
  have := codB_len (c := c) h
  rw [hs] at this
  rw [he]
  have h9 := kof9 c
  simp only [List.length_append, Option.getD_some] at this ⊢
  omega
def l4B : List ByteArray := [⟨#[48, 48, 48, 49]⟩, ⟨#[48, 48, 49, 48]⟩, ⟨#[48, 48, 49, 49]⟩, ⟨#[48, 49, 49, 49]⟩]
theorem l4B_val : validB 4 l4B = true := by decide +kernel
theorem l4B_step : stepB l4B = ⟨#[48, 48, 48, 49]⟩ := by decide +kernel
theorem l0B_enc : encB' 4 [] = ([1, 0], 0) := by decide +kernel
theorem l4B_sz : ∀ s ∈ l4B, s.size ≤ 1099511627776 := by decide
theorem l4B_dec : decB 4 (encB' 4 l4B).1 4 = (l4B, 0) := by rw [decB_enc l4B_val, if_neg (by decide)]
theorem l4B_enc : (encB' 4 l4B).2 = 0 := by obtain ⟨c, s, _, _, he⟩ := encB_cases l4B_val; rw [he]
set_option maxRecDepth 100000 in
set_option maxHeartbeats 4000000 in
theorem bawake_any (w : World) :
  Calls Tryz.prog 11 #[] w fun x w' => BTrue w x w' := by
 have He0 : Hid (∀ W, Calls Tryz.prog 19 #[.int .i64 4, .slice none 0 0] W fun x w' => x = .returned (.tuple #[.string ⟨#[1, 0]⟩, .int .i64 0]) ∧ Below W.heap.size W w') := hide (fun W => by
  have := bencode_any (w := W) (A := none) (l := []) (At.nil _ _) (by simp) 0 0 rfl (by omega) 4
  rw [l0B_enc] at this
  exact this.mono fun x w' ⟨h1, h2⟩ => ⟨by rw [h1]; rfl, h2⟩)
 obtain ⟨SX, hSX⟩ : ∃ S, bs (encB' 4 l4B).1 = S := ⟨_, rfl⟩
 have He4 : Hid (∀ W A, At W A (svs l4B) → Calls Tryz.prog 19 #[.int .i64 4, .slice A 4 4] W fun x w' => x = .returned (.tuple #[.string SX, .int .i64 0]) ∧ Below W.heap.size W w') := hide (fun W A h => by
  have := bencode_any h l4B_sz 4 4 rfl (by omega) 4
  exact this.mono fun x w' ⟨h1, h2⟩ => ⟨by rw [h1, hSX, l4B_enc]; rfl, h2⟩)
 have Hd : Hid (∀ W, Calls Tryz.prog 22 #[.int .i64 4, .string SX, .int .i64 4] W fun x w' => ∃ B cap, x = .returned (.tuple #[.slice B 4 cap, .int .i64 0]) ∧ At w' B (svs l4B) ∧ Below W.heap.size W w') := hide (fun W => by
  have := bdecode_any (w := W) 4 (bs (encB' 4 l4B).1) (by rw [bs_size]; have := encB_len 4 l4B; omega) 4
  rw [toL_bs, l4B_dec] at this
  rw [← hSX]
  refine this.mono fun x w' hx => ?_
  obtain ⟨A, cap, h1, h2, h3⟩ := tres_sv hx
  exact ⟨A, cap, h1, h2, h3⟩)
 have Hst : Hid (∀ W A, At W A (svs l4B) → Calls Tryz.prog 15 #[.slice A 4 4] W fun x w' => x = .returned (.string ⟨#[48, 48, 48, 49]⟩) ∧ Below W.heap.size W w') := hide (fun W A h => by
  have := step_any h l4B_sz 4 4 rfl (by omega)
  rw [l4B_step] at this
  exact this)
 have Hva : Hid (∀ W A, At W A (svs l4B) → Calls Tryz.prog 13 #[.int .i64 4, .slice A 4 4] W fun x w' => x = .returned (.bool true) ∧ Below W.heap.size W w') := hide (fun W A h => by
  have := validB_any h l4B_sz 4 4 rfl (by omega) 4
  rw [l4B_val] at this
  exact this)
 have Htx : Hid (∀ W A B cap, At W A (svs l4B) → At W B (svs l4B) → Calls Tryz.prog 24 #[.slice A 4 cap, .slice B 4 4] W fun x w' => x = .returned (.bool true) ∧ ∃ q, w' = W.drewN q) := hide (fun W A B cap h1 h2 => sv_texts h1 h2 4 cap 4 4 rfl rfl (by decide))
 have hat0 : At (w.alloc (.cells #[.string ⟨#[48, 48, 48, 49]⟩, .string ⟨#[48, 48, 49, 48]⟩, .string ⟨#[48, 48, 49, 49]⟩, .string ⟨#[48, 49, 49, 49]⟩] 9)) (some ⟨w.heap.size, 0, none⟩) (svs l4B) := at_new (e := 9) (svs l4B)
 have Hat := hide hat0
 have Hb := hide (bel_new w (.cells #[.string ⟨#[48, 48, 48, 49]⟩, .string ⟨#[48, 48, 49, 48]⟩, .string ⟨#[48, 48, 49, 49]⟩, .string ⟨#[48, 49, 49, 49]⟩] 9))
 have H1 := hide (He0.out (w.alloc (.cells #[.string ⟨#[48, 48, 48, 49]⟩, .string ⟨#[48, 48, 49, 48]⟩, .string ⟨#[48, 48, 49, 49]⟩, .string ⟨#[48, 49, 49, 49]⟩] 9)))
 clear hSX hat0 He0
 go_enter Tryz.func11, Tryz.ntmps11
 go_wp2_with fail
 refine (H1.out).mono ?_
 rintro x w1 ⟨rfl, hb1⟩
 have Hb1 := hide (bel_step Hb.out hb1)
 have Hat1 := hide (Hat.out.below hb1)
 have H2 := hide (He4.out _ _ Hat1.out)
 clear hb1 Hb Hat H1
 go_wp2_with fail
 refine (H2.out).mono ?_
 rintro x w2 ⟨rfl, hb2⟩
 have Hb2 := hide (bel_step Hb1.out hb2)
 have Hat2 := hide (Hat1.out.below hb2)
 have H3 := hide (Hd.out w2)
 clear hb2 Hb1 Hat1 H2
 go_wp2_with fail
 refine (H3.out).mono ?_
 rintro x w3 ⟨AD, cD, rfl, hatD, hb3⟩
 have Hb3 := hide (bel_step Hb2.out hb3)
 have Hat3 := hide (Hat2.out.below hb3)
 have HatD := hide hatD
 have H4 := hide (Hst.out _ _ Hat3.out)
 clear hb3 Hb2 Hat2 H3 hatD
 go_wp2_with fail
 refine (H4.out).mono ?_
 rintro x w4 ⟨rfl, hb4⟩
 have Hb4 := hide (bel_step Hb3.out hb4)
 have Hat4 := hide (Hat3.out.below hb4)
 have H5 := hide (Htx.out _ _ _ cD (HatD.out.below hb4) Hat4.out)
 clear hb4 Hb3 Hat3 H4 HatD
 go_wp2_with fail
 refine (H5.out).mono ?_
 rintro x w5 ⟨rfl, q5, hq5⟩
 have Hb5 := hide (drew_bel Hb4.out ⟨q5, hq5⟩)
 have H6 := hide (Hva.out w5 _ (show At w5 _ _ from hq5 ▸ Hat4.out.drewN q5))
 clear hq5 Hb4 Hat4 H5
 go_wp2_with fail
 refine (H6.out).mono ?_
 rintro x w6 ⟨rfl, hb6⟩
 have Hb6 := hide (bel_step Hb5.out hb6)
 clear hb6 Hb5 H6
 go_wp2
 go_returns
 exact ⟨rfl, Hb6.out⟩
theorem lbshort_any {w : World} {A : Option Addr} {l : List ByteArray} (ha : At w A (svs l)) (hsz : ∀ s ∈ l, s.size ≤ 9223372036854775807) (n cap : Nat) (hn : n = l.length) (hn4 : n ≤ 9223372036854775807) (most : Int) :
  Calls Tryz.prog 12 #[.slice A n cap, .int .i64 most] w fun x w' => x = .returned (.bool (shortB l most 200)) ∧ w = w' := by
 have H := hide (short_any ha hsz n cap hn hn4 most 200)
 clear ha hsz hn
 go_enter Tryz.func12, Tryz.ntmps12
 go_wp2_with fail
 refine (H.out).mono ?_
 rintro x w1 ⟨rfl, rfl⟩
 go_wp2
 go_ret
 exact ⟨rfl, rfl⟩
theorem lbshort_of {l : List ByteArray} {m : Nat} (h : shortB l (m : Int) 200 = true) : l.length ≤ m ∧ (∀ s ∈ l, s.size ≤ 1099511627776) := by
 obtain ⟨h1, h2⟩ := shortB_true h
 exact ⟨by omega, fun s hs => by have := h1 s hs; omega⟩
end Go.Proofs.YtoeeblldgoccoaaGreat
