/-
  The law DecimalValues: its walk.
-/
import Derived.Test.YtkgclfagimlneaaDoorJ12
import Derived.Test.YtkgclfagimlneaaDoorJ22
import Derived.Test.YtkgclfagimlneaaDoorJ09
import Derived.Test.YtkgclfagimlneaaDoorJ10
set_option linter.unusedVariables false
set_option linter.unusedSimpArgs false
namespace Go.Proofs.YtkgclfagimlneaaDoor
open Go.RowKit Go.Proofs Wv Wv.Dc
set_option linter.unusedVariables false

set_option maxRecDepth 100000 in
set_option maxHeartbeats 2000000 in
theorem lvalues_any (a : ByteArray) (ha : a.size ≤ 9223372036854775807) (b : ByteArray) (hb : b.size ≤ 9223372036854775807) (t : ByteArray) (ht0 : t.size ≤ 9223372036854775807) {w : World} (ht : Tab w) :
    Calls Tryd.prog 8 #[.string a, .string b, .string t] w fun x w' => x = .returned (.bool true) ∧ Below w.heap.size w w' := by
  have Haw := hide (awake_any ht)
  have hai : (a.size : Int) ≤ 9223372036854775807 := by omega
  have hbi : (b.size : Int) ≤ 9223372036854775807 := by omega
  have hti : (t.size : Int) ≤ 9223372036854775807 := by omega
  have C1 := hide (fun W (h : Below w.heap.size w W) => pcmpS_any a b (ht.below h))
  have C2 := hide (fun W => rcmpS_any a b hai hbi W)
  have S1 := hide (fun W (h : Below w.heap.size w W) => psumS_any a b (ht.below h))
  have S2 := hide (fun W => rsumS_any a b hai hbi W)
  have P1 := hide (fun W (h : Below w.heap.size w W) => pplainS_any a (ht.below h))
  have P2 := hide (fun W => rplainS_any a hai W)
  have G1 := hide (fun W (h : Below w.heap.size w W) => psignS_any a (ht.below h))
  have G2 := hide (fun W => rsignS_any a hai W)
  have N1 := hide (fun W (h : Below w.heap.size w W) => pnegS_any a (ht.below h))
  have N2 := hide (fun W => rnegS_any a hai W)
  have W1 := hide (fun W (h : Below w.heap.size w W) => pwithS_any a b t (ht.below h))
  have W2 := hide (fun W => rwithS_any a b t hai hbi hti W)
  clear ht ha hb ht0 hai hbi hti
  generalize cmpS (toL a) (toL b) = vc at *
  generalize sumS (toL a) (toL b) = vs at *
  generalize plainS (toL a) = vp at *
  generalize signS (toL a) = vg at *
  generalize negS (toL a) = vn at *
  generalize withS (toL a) (toL b) (toL t) = vw at *
  obtain ⟨c1, c2⟩ := vc
  obtain ⟨s1, s2⟩ := vs
  obtain ⟨p1, p2⟩ := vp
  simp only at C1 C2 S1 S2 P1 P2
  generalize bs s1 = SS at *
  generalize bs p1 = SP at *
  generalize bs vn = SN at *
  have q1 : (SS.toList == SS.toList) = true := by simp
  have q2 : (SP.toList == SP.toList) = true := by simp
  have q3 : (SN.toList == SN.toList) = true := by simp
  go_enter Tryd.func8, Tryd.ntmps8
  go_wp2_with fail
  refine (Haw.out).mono ?_
  rintro x w1 ⟨rfl, hb1⟩
  have Hb1 := hide hb1
  clear hb1
  go_wp2_with fail
  refine (short_any (l := [a, b, t]) (at_new (e := 9) (svs [a, b, t])) 3 3 rfl (by omega)).mono ?_
  rintro x w2 ⟨rfl, rfl⟩
  have Hb2 := hide (bel_step Hb1.out (bel_new w1 (.cells #[.string a, .string b, .string t] 9)))
  cases hsh : ([a, b, t].all fun s => decide (s.size ≤ 100)) with
  | false =>
    go_wp2
    go_returns
    exact ⟨rfl, Hb2.out⟩
  | true =>
    clear hsh
    go_wp2_with fail
    refine (C1.out _ Hb2.out).mono ?_
    rintro x w3 ⟨rfl, hbw⟩
    have Hb3 := hide (bel_step Hb2.out hbw)
    clear hbw
    go_wp2_with fail
    refine (C2.out _).mono ?_
    rintro x w4 ⟨rfl, hbw⟩
    have Hb4 := hide (bel_step Hb3.out hbw)
    clear hbw
    go_wp2_with fail
    refine (S1.out _ Hb4.out).mono ?_
    rintro x w5 ⟨rfl, hbw⟩
    have Hb5 := hide (bel_step Hb4.out hbw)
    clear hbw
    go_wp2_with fail
    refine (S2.out _).mono ?_
    rintro x w6 ⟨rfl, hbw⟩
    have Hb6 := hide (bel_step Hb5.out hbw)
    clear hbw
    go_wp2_with fail
    refine (P1.out _ Hb6.out).mono ?_
    rintro x w7 ⟨rfl, hbw⟩
    have Hb7 := hide (bel_step Hb6.out hbw)
    clear hbw
    go_wp2_with fail
    refine (P2.out _).mono ?_
    rintro x w8 ⟨rfl, hbw⟩
    have Hb8 := hide (bel_step Hb7.out hbw)
    clear hbw C1 C2 S1 S2 P1 P2
    go_wp2_with fail
    refine (G1.out _ Hb8.out).mono ?_
    rintro x w9 ⟨rfl, hbw⟩
    have Hb9 := hide (bel_step Hb8.out hbw)
    clear hbw
    go_wp2_with fail
    refine (G2.out _).mono ?_
    rintro x w10 ⟨rfl, hbw⟩
    have Hb10 := hide (bel_step Hb9.out hbw)
    clear hbw
    go_wp2_with fail
    refine (N1.out _ Hb10.out).mono ?_
    rintro x w11 ⟨rfl, hbw⟩
    have Hb11 := hide (bel_step Hb10.out hbw)
    clear hbw
    go_wp2_with fail
    refine (N2.out _).mono ?_
    rintro x w12 ⟨rfl, hbw⟩
    have Hb12 := hide (bel_step Hb11.out hbw)
    clear hbw
    go_wp2_with fail
    refine (W1.out _ Hb12.out).mono ?_
    rintro x w13 ⟨rfl, hbw⟩
    have Hb13 := hide (bel_step Hb12.out hbw)
    clear hbw
    go_wp2_with fail
    refine (W2.out _).mono ?_
    rintro x w14 ⟨rfl, hbw⟩
    have Hb14 := hide (bel_step Hb13.out hbw)
    clear hbw
    go_wp2
    go_returns
    exact ⟨by first | rfl | simp, Hb14.out⟩
end Go.Proofs.YtkgclfagimlneaaDoor
