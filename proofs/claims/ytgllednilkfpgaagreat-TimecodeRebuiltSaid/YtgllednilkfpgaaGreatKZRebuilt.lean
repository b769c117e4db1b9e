/-
  The given statement of the law TimecodeRebuilt, out of its walk.
-/
import Derived.Test.YtgllednilkfpgaaGreatRows
import Derived.Test.YtgllednilkfpgaaGreatJ45
import Derived.Test.YtgllednilkfpgaaGreatJ09
import Derived.WalkKit
import Derived.ProofKit
import Derived.OpenShut
import Derived.ShutString
import Derived.ChangeOld
import Derived.Below
import Derived.Lib.SmallJoins
set_option linter.unusedVariables false
set_option linter.unusedSimpArgs false
namespace Go.Proofs.YtgllednilkfpgaaGreat.timecodeRebuilt
open Go.ChangeShapes Go.WideShapes Go.ChangeAt Go.RowKit
open Go.ChangeMaps (open_string shut_string)
open Go.Proofs.YtgllednilkfpgaaGreat Wv Wv.Ru Wv.Tm
set_option linter.unusedVariables false
theorem own : ownKnob Tryz.prog.godebug = none := by kernel_rfl
theorem laidOut : laidOutB Tryz.prog = true := by kernel_rfl
set_option maxRecDepth 100000 in
theorem lifted (os : Os) (started : os.Started) (H : Type) (enc : TypeId × Value → H) :
    ReturnsInHanded {} Tryz.checked os 9 .any (Rows.timecodeRebuiltSpec.pre6 enc Tryz.prog Tryz.f9 Rows.timecodeRebuiltRow.domain false) (Rows.timecodeRebuiltSpec.post enc Tryz.prog Tryz.f9 false true false false) := by
  refine returnsInHanded_of_change (C := Tryz.checked) own started (by kernel_rfl) Tryz.func9
    (ChangeSpec.witness6 (enc := enc) (C := Tryz.checked) false ⟨#[], #[.slice none 0 0, .agg #[.int .i64 0, .int .i64 0, .int .i64 0, .int .i64 0]], []⟩ 8 (by kernel_rfl) (by kernel_rfl) (by kernel_rfl) (by kernel_rfl)) ?_
  intro W base args ds gs before hval0 hW hcnd _
  have hval : ∀ (j : Nat) t v, Tryz.f9.params[j]? = some t → args[j]? = some v → Value.okWide Tryz.prog W .any base t v := hval0
  have hW' := hW
  obtain ⟨p, q, hA0, hV, rfl, hfz, hnd⟩ := hW
  have hA : DataW.TrodAll enc Tryz.prog W 0 (fun _ => true) true Tryz.f9.params.toList args.toList ds p := hA0
  rw [Tryz.params9] at hA hval
  obtain ⟨v0, vs0, d0, ds0, p0, q0, hargs, rfl, rfl, h0, r0⟩ := trodAll_cons hA
  obtain ⟨v1, vs1, d1, ds1, p1, q1, rfl, rfl, rfl, h1, r1⟩ := trodAll_cons r0
  obtain ⟨rfl, rfl, rfl⟩ := trodAll_nil r1
  obtain rfl : args = #[v0, v1] := by cases args; simp_all
  obtain ⟨rfl, rfl⟩ := trodVars_none hV
  obtain ⟨a0, n0, c0, rfl⟩ := okWide_slice Tryz.underlying22 (hval 0 22 v0 rfl rfl)
  have k0 := h0
  have lt0 : ∀ x ∈ p0, x.block < W.heap.size := by obtain ⟨m, hm⟩ := k0; exact DataW.trod_lt m _ _ _ hm
  obtain ⟨l0, g0, o0, e0, m0⟩ : ∃ l : List Int, At W a0 (ivs l) ∧ (∀ n ∈ l, I64 n) ∧ n0 = l.length ∧ n0 ≤ 9223372036854775807 := by
    obtain ⟨fuel, hf⟩ := h0
    exact ints_open Tryz.underlying22 (by kernel_rfl) Tryz.underlying3 (by simpa [Value.cells] using hf)
  obtain ⟨x10, x11, x12, x13, y10, y11, y12, y13, e1, rfl, rfl, rfl, z10, z11, z12, z13⟩ := Go.Joins.open_agg4 Tryz.underlying24 (by kernel_rfl) (by kernel_rfl) (hval 1 24 v1 rfl rfl) h1
  obtain ⟨a10, g10, rfl, w10⟩ := DataW.trod_int Tryz.underlying3 z10
  simp at g10
  subst g10
  obtain ⟨a11, g11, rfl, w11⟩ := DataW.trod_int Tryz.underlying3 z11
  simp at g11
  subst g11
  obtain ⟨a12, g12, rfl, w12⟩ := DataW.trod_int Tryz.underlying3 z12
  simp at g12
  subst g12
  obtain ⟨a13, g13, rfl, w13⟩ := DataW.trod_int Tryz.underlying3 z13
  simp at g13
  subst g13
  clear hA0 hval0
  refine (ltrebuilt_any g0 o0 n0 c0 e0 m0 a10 a11 a12 a13 (w := W)).mono fun e W' ⟨he, bel⟩ => ?_
  subst he
  exact ⟨_, rfl, _, _, _, [], _, [], hW', trodAll_mk1 (shut_bool Tryz.underlying4 _), (trodAll_cons_mk (Below.trod laidOut (by kernel_rfl) (of_decide_eq_true (by kernel_rfl)) k0 bel lt0) (trodAll_cons_mk (Go.Joins.shut_agg4 (y0 := (.lit (.int .i64 a10), [])) (y1 := (.lit (.int .i64 a11), [])) (y2 := (.lit (.int .i64 a12), [])) (y3 := (.lit (.int .i64 a13), [])) Tryz.underlying24 (by kernel_rfl) (by kernel_rfl) (by exact (shut_int (base := 0) (spare := fun b => decide (b < W.heap.size)) (held := true) (enc := enc) (w := W') Tryz.underlying3 w10)) (by exact (shut_int (base := 0) (spare := fun b => decide (b < W.heap.size)) (held := true) (enc := enc) (w := W') Tryz.underlying3 w11)) (by exact (shut_int (base := 0) (spare := fun b => decide (b < W.heap.size)) (held := true) (enc := enc) (w := W') Tryz.underlying3 w12)) (by exact (shut_int (base := 0) (spare := fun b => decide (b < W.heap.size)) (held := true) (enc := enc) (w := W') Tryz.underlying3 w13))) trodAll_mk0)), rfl, bel.frame _, fun h => by cases h⟩
/-- The given statement. -/
theorem proved : Rows.TimecodeRebuiltSaid :=
  OpenClaim.holds_of_wide 9 Tryz.f9 rfl rfl rfl rfl rfl rfl rfl ⟨rfl, rfl, rfl, rfl, rfl⟩ rfl rfl rfl rfl rfl (by kernel_rfl) Tryz.func9 (by kernel_rfl)
    (of_decide_eq_true (by kernel_rfl)) (by unfold Func.isWrapper; first | (rw [if_pos (by decide +kernel)]; kernel_rfl) | (rw [if_neg (by decide +kernel)]; exact ⟨rfl, rfl⟩))
    (fun os started H enc _ => lifted os started H enc)
end Go.Proofs.YtgllednilkfpgaaGreat.timecodeRebuilt
