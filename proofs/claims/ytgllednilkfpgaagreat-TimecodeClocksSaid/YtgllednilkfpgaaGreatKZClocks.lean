/-
  The given statement of the law TimecodeClocks, out of its walk.
-/
import Derived.Test.YtgllednilkfpgaaGreatRows
import Derived.Test.YtgllednilkfpgaaGreatJ48
import Derived.Test.YtgllednilkfpgaaGreatJ46
import Derived.WalkKit
import Derived.ProofKit
import Derived.OpenShut
import Derived.ShutString
import Derived.ChangeOld
import Derived.Below
import Derived.Lib.SmallJoins
set_option linter.unusedVariables false
set_option linter.unusedSimpArgs false
namespace Go.Proofs.YtgllednilkfpgaaGreat.timecodeClocks
open Go.ChangeShapes Go.WideShapes Go.ChangeAt Go.RowKit
open Go.ChangeMaps (open_string shut_string)
open Go.Proofs.YtgllednilkfpgaaGreat Wv Wv.Ru Wv.Tm
set_option linter.unusedVariables false
theorem own : ownKnob Tryz.prog.godebug = none := by kernel_rfl
theorem laidOut : laidOutB Tryz.prog = true := by kernel_rfl
set_option maxRecDepth 100000 in
theorem lifted (os : Os) (started : os.Started) (H : Type) (enc : TypeId × Value → H) :
    ReturnsInHanded {} Tryz.checked os 10 .any (Rows.timecodeClocksSpec.pre6 enc Tryz.prog Tryz.f10 Rows.timecodeClocksRow.domain false) (Rows.timecodeClocksSpec.post enc Tryz.prog Tryz.f10 false true false false) := by
  refine returnsInHanded_of_change (C := Tryz.checked) own started (by kernel_rfl) Tryz.func10
    (ChangeSpec.witness6 (enc := enc) (C := Tryz.checked) false ⟨#[], #[.agg #[.int .i64 0, .int .i64 0, .int .i64 0, .int .i64 0], .slice none 0 0, .slice none 0 0], []⟩ 8 (by kernel_rfl) (by kernel_rfl) (by kernel_rfl) (by kernel_rfl)) ?_
  intro W base args ds gs before hval0 hW hcnd _
  have hval : ∀ (j : Nat) t v, Tryz.f10.params[j]? = some t → args[j]? = some v → Value.okWide Tryz.prog W .any base t v := hval0
  have hW' := hW
  obtain ⟨p, q, hA0, hV, rfl, hfz, hnd⟩ := hW
  have hA : DataW.TrodAll enc Tryz.prog W 0 (fun _ => true) true Tryz.f10.params.toList args.toList ds p := hA0
  rw [Tryz.params10] at hA hval
  obtain ⟨v0, vs0, d0, ds0, p0, q0, hargs, rfl, rfl, h0, r0⟩ := trodAll_cons hA
  obtain ⟨v1, vs1, d1, ds1, p1, q1, rfl, rfl, rfl, h1, r1⟩ := trodAll_cons r0
  obtain ⟨v2, vs2, d2, ds2, p2, q2, rfl, rfl, rfl, h2, r2⟩ := trodAll_cons r1
  obtain ⟨rfl, rfl, rfl⟩ := trodAll_nil r2
  obtain rfl : args = #[v0, v1, v2] := by cases args; simp_all
  obtain ⟨rfl, rfl⟩ := trodVars_none hV
  obtain ⟨x00, x01, x02, x03, y00, y01, y02, y03, e0, rfl, rfl, rfl, z00, z01, z02, z03⟩ := Go.Joins.open_agg4 Tryz.underlying24 (by kernel_rfl) (by kernel_rfl) (hval 0 24 v0 rfl rfl) h0
  obtain ⟨a00, g00, rfl, w00⟩ := DataW.trod_int Tryz.underlying3 z00
  simp at g00
  subst g00
  obtain ⟨a01, g01, rfl, w01⟩ := DataW.trod_int Tryz.underlying3 z01
  simp at g01
  subst g01
  obtain ⟨a02, g02, rfl, w02⟩ := DataW.trod_int Tryz.underlying3 z02
  simp at g02
  subst g02
  obtain ⟨a03, g03, rfl, w03⟩ := DataW.trod_int Tryz.underlying3 z03
  simp at g03
  subst g03
  obtain ⟨a1, n1, c1, rfl⟩ := okWide_slice Tryz.underlying52 (hval 1 52 v1 rfl rfl)
  have k1 := h1
  have lt1 : ∀ x ∈ p1, x.block < W.heap.size := by obtain ⟨m, hm⟩ := k1; exact DataW.trod_lt m _ _ _ hm
  obtain ⟨l1, g1, o1, e1, m1⟩ : ∃ l : List Int, At W a1 (hvs l) ∧ (∀ n ∈ l, 0 ≤ n ∧ n < 65536) ∧ n1 = l.length ∧ n1 ≤ 9223372036854775807 := by
    obtain ⟨fuel, hf⟩ := h1
    exact u16s_open Tryz.underlying52 (by kernel_rfl) Tryz.underlying55 (by simpa [Value.cells] using hf)
  obtain ⟨a2, n2, c2, rfl⟩ := okWide_slice Tryz.underlying22 (hval 2 22 v2 rfl rfl)
  have k2 := h2
  have lt2 : ∀ x ∈ p2, x.block < W.heap.size := by obtain ⟨m, hm⟩ := k2; exact DataW.trod_lt m _ _ _ hm
  obtain ⟨l2, g2, o2, e2, m2⟩ : ∃ l : List Int, At W a2 (ivs l) ∧ (∀ n ∈ l, I64 n) ∧ n2 = l.length ∧ n2 ≤ 9223372036854775807 := by
    obtain ⟨fuel, hf⟩ := h2
    exact ints_open Tryz.underlying22 (by kernel_rfl) Tryz.underlying3 (by simpa [Value.cells] using hf)
  clear hA0 hval0
  refine (ltclocks_any a00 a01 a02 a03 g1 o1 n1 c1 e1 m1 g2 o2 n2 c2 e2 m2 (w := W)).mono fun e W' ⟨he, bel⟩ => ?_
  subst he
  exact ⟨_, rfl, _, _, _, [], _, [], hW', trodAll_mk1 (shut_bool Tryz.underlying4 _), (trodAll_cons_mk (Go.Joins.shut_agg4 (y0 := (.lit (.int .i64 a00), [])) (y1 := (.lit (.int .i64 a01), [])) (y2 := (.lit (.int .i64 a02), [])) (y3 := (.lit (.int .i64 a03), [])) Tryz.underlying24 (by kernel_rfl) (by kernel_rfl) (by exact (shut_int (base := 0) (spare := fun b => decide (b < W.heap.size)) (held := true) (enc := enc) (w := W') Tryz.underlying3 w00)) (by exact (shut_int (base := 0) (spare := fun b => decide (b < W.heap.size)) (held := true) (enc := enc) (w := W') Tryz.underlying3 w01)) (by exact (shut_int (base := 0) (spare := fun b => decide (b < W.heap.size)) (held := true) (enc := enc) (w := W') Tryz.underlying3 w02)) (by exact (shut_int (base := 0) (spare := fun b => decide (b < W.heap.size)) (held := true) (enc := enc) (w := W') Tryz.underlying3 w03))) (trodAll_cons_mk (Below.trod laidOut (by kernel_rfl) (of_decide_eq_true (by kernel_rfl)) k1 bel lt1) (trodAll_cons_mk (Below.trod laidOut (by kernel_rfl) (of_decide_eq_true (by kernel_rfl)) k2 bel lt2) trodAll_mk0))), rfl, bel.frame _, fun h => by cases h⟩
/-- The given statement. -/
theorem proved : Rows.TimecodeClocksSaid :=
  OpenClaim.holds_of_wide 10 Tryz.f10 rfl rfl rfl rfl rfl rfl rfl ⟨rfl, rfl, rfl, rfl, rfl⟩ rfl rfl rfl rfl rfl (by kernel_rfl) Tryz.func10 (by kernel_rfl)
    (of_decide_eq_true (by kernel_rfl)) (by unfold Func.isWrapper; first | (rw [if_pos (by decide +kernel)]; kernel_rfl) | (rw [if_neg (by decide +kernel)]; exact ⟨rfl, rfl⟩))
    (fun os started H enc _ => lifted os started H enc)
end Go.Proofs.YtgllednilkfpgaaGreat.timecodeClocks
