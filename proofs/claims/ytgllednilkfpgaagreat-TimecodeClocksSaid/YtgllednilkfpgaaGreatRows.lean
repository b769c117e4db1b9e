/-
  No cell of these rows narrows 'for every input' (looked for: loops, veiled, ifaces, maps, wideKeys, modest, calm, conditions, laid).
  DERIVED. THE GIVEN ROWS OF THIS SEAT. 8 by the template 'for every input the law returns true; each argument reads behind the call as it read before'; 0 by the template 'total and deterministic' (their statements: YtgllednilkfpgaaGreatTotals.lean).
  GIVEN WITH THE SEED: the statements are not yours to turn. If you find one false, say at which input.
  Laid BY PROGRAM, IN A SANDBOX (cutbox-rows.mjs): the forced cells as the released guide's own fill.sh prints them over the translation 2e6e215aac7453f1… (all of the seat's roots in one cut). By AI agents, Wed Nov 11 2026. No macro, syntax, notation, axiom, sorry.
-/
import Derived.Test.YtgllednilkfpgaaGreatChecked
import GoSem.Claim
import GoSem.ClaimJoined
import GoSem.ClaimMapViews
import Derived.JoinedTies
import Derived.KernelRfl
namespace Go.Proofs.YtgllednilkfpgaaGreat
/- THE CELL 'sum', in the pinned program and in every row, IS THE sha256 OF THE DUMP (.gsa) THAT YtgllednilkfpgaaGreatProg.lean LOADS. Nothing in Lean hashes anything: it is a label: what it is worth is what the hold of that sum in a sandbox is worth. -/
noncomputable def Tryz.pinned : Pinned := { name := "ytgllednilkfpgaagreat", sum := "2e6e215aac7453f12cedfabcfb836e1f47d6527b62ee10f65f3f83680adabccf", checked := Tryz.checked }
namespace Rows
def none {H : Type} : Left H := { results := [], args := [] }

/-- 'wavestorelaw13.TimecodeForms': WHATEVER THE INPUT: true; the input reads as it did. -/
def timecodeFormsSpec : ChangeSpec := { name := "timecodeForms", fn := fun _ => fun
  | [d1, d2] => { results := [.lit (.bool true)], args := [d1, d2] }
  | _ => none }
def timecodeFormsRow : OpenClaim := { program := "ytgllednilkfpgaagreat", sum := "2e6e215aac7453f12cedfabcfb836e1f47d6527b62ee10f65f3f83680adabccf", func := "wavestore/wavestorelaw13.TimecodeForms", spec := "timecodeForms", unfollowed := true, recurses := true, apart := false }
def TimecodeFormsSaid : Prop := timecodeFormsRow.holds Tryz.pinned (OpenSpec.ofChange timecodeFormsSpec)

/-- ITS FALSE NEIGHBOUR: 'it returns false'. Refute it at one input. -/
def timecodeFormsWrong : ChangeSpec := { name := "timecodeForms", fn := fun _ => fun
  | [d1, d2] => { results := [.lit (.bool false)], args := [d1, d2] }
  | _ => none }
def TimecodeFormsWrongFalsely : Prop := timecodeFormsRow.holds Tryz.pinned (OpenSpec.ofChange timecodeFormsWrong)

/-- 'wavestorelaw13.TimecodeDecodes': WHATEVER THE INPUT: true; the input reads as it did. -/
def timecodeDecodesSpec : ChangeSpec := { name := "timecodeDecodes", fn := fun _ => fun
  | [d1, d2] => { results := [.lit (.bool true)], args := [d1, d2] }
  | _ => none }
def timecodeDecodesRow : OpenClaim := { program := "ytgllednilkfpgaagreat", sum := "2e6e215aac7453f12cedfabcfb836e1f47d6527b62ee10f65f3f83680adabccf", func := "wavestore/wavestorelaw13.TimecodeDecodes", spec := "timecodeDecodes", unfollowed := true, recurses := true, apart := false }
def TimecodeDecodesSaid : Prop := timecodeDecodesRow.holds Tryz.pinned (OpenSpec.ofChange timecodeDecodesSpec)

/-- ITS FALSE NEIGHBOUR: 'it returns false'. Refute it at one input. -/
def timecodeDecodesWrong : ChangeSpec := { name := "timecodeDecodes", fn := fun _ => fun
  | [d1, d2] => { results := [.lit (.bool false)], args := [d1, d2] }
  | _ => none }
def TimecodeDecodesWrongFalsely : Prop := timecodeDecodesRow.holds Tryz.pinned (OpenSpec.ofChange timecodeDecodesWrong)

/-- 'wavestorelaw13.TimecodeInverts': WHATEVER THE INPUT: true; the input reads as it did. -/
def timecodeInvertsSpec : ChangeSpec := { name := "timecodeInverts", fn := fun _ => fun
  | [d] => { results := [.lit (.bool true)], args := [d] }
  | _ => none }
def timecodeInvertsRow : OpenClaim := { program := "ytgllednilkfpgaagreat", sum := "2e6e215aac7453f12cedfabcfb836e1f47d6527b62ee10f65f3f83680adabccf", func := "wavestore/wavestorelaw13.TimecodeInverts", spec := "timecodeInverts", unfollowed := true, recurses := true, apart := false }
def TimecodeInvertsSaid : Prop := timecodeInvertsRow.holds Tryz.pinned (OpenSpec.ofChange timecodeInvertsSpec)

/-- ITS FALSE NEIGHBOUR: 'it returns false'. Refute it at one input. -/
def timecodeInvertsWrong : ChangeSpec := { name := "timecodeInverts", fn := fun _ => fun
  | [d] => { results := [.lit (.bool false)], args := [d] }
  | _ => none }
def TimecodeInvertsWrongFalsely : Prop := timecodeInvertsRow.holds Tryz.pinned (OpenSpec.ofChange timecodeInvertsWrong)

/-- 'wavestorelaw13.TimecodeStrict': WHATEVER THE INPUT: true; the input reads as it did. -/
def timecodeStrictSpec : ChangeSpec := { name := "timecodeStrict", fn := fun _ => fun
  | [d1, d2] => { results := [.lit (.bool true)], args := [d1, d2] }
  | _ => none }
def timecodeStrictRow : OpenClaim := { program := "ytgllednilkfpgaagreat", sum := "2e6e215aac7453f12cedfabcfb836e1f47d6527b62ee10f65f3f83680adabccf", func := "wavestore/wavestorelaw13.TimecodeStrict", spec := "timecodeStrict", unfollowed := true, recurses := true, apart := false }
def TimecodeStrictSaid : Prop := timecodeStrictRow.holds Tryz.pinned (OpenSpec.ofChange timecodeStrictSpec)

/-- ITS FALSE NEIGHBOUR: 'it returns false'. Refute it at one input. -/
def timecodeStrictWrong : ChangeSpec := { name := "timecodeStrict", fn := fun _ => fun
  | [d1, d2] => { results := [.lit (.bool false)], args := [d1, d2] }
  | _ => none }
def TimecodeStrictWrongFalsely : Prop := timecodeStrictRow.holds Tryz.pinned (OpenSpec.ofChange timecodeStrictWrong)

/-- 'wavestorelaw13.TimecodeBytes': WHATEVER THE INPUT: true; the input reads as it did. -/
def timecodeBytesSpec : ChangeSpec := { name := "timecodeBytes", fn := fun _ => fun
  | [d1, d2] => { results := [.lit (.bool true)], args := [d1, d2] }
  | _ => none }
def timecodeBytesRow : OpenClaim := { program := "ytgllednilkfpgaagreat", sum := "2e6e215aac7453f12cedfabcfb836e1f47d6527b62ee10f65f3f83680adabccf", func := "wavestore/wavestorelaw13.TimecodeBytes", spec := "timecodeBytes", unfollowed := true, recurses := true, apart := false }
def TimecodeBytesSaid : Prop := timecodeBytesRow.holds Tryz.pinned (OpenSpec.ofChange timecodeBytesSpec)

/-- ITS FALSE NEIGHBOUR: 'it returns false'. Refute it at one input. -/
def timecodeBytesWrong : ChangeSpec := { name := "timecodeBytes", fn := fun _ => fun
  | [d1, d2] => { results := [.lit (.bool false)], args := [d1, d2] }
  | _ => none }
def TimecodeBytesWrongFalsely : Prop := timecodeBytesRow.holds Tryz.pinned (OpenSpec.ofChange timecodeBytesWrong)

/-- 'wavestorelaw13.TimecodeChoice': WHATEVER THE INPUT: true; the input reads as it did. -/
def timecodeChoiceSpec : ChangeSpec := { name := "timecodeChoice", fn := fun _ => fun
  | [d] => { results := [.lit (.bool true)], args := [d] }
  | _ => none }
def timecodeChoiceRow : OpenClaim := { program := "ytgllednilkfpgaagreat", sum := "2e6e215aac7453f12cedfabcfb836e1f47d6527b62ee10f65f3f83680adabccf", func := "wavestore/wavestorelaw13.TimecodeChoice", spec := "timecodeChoice", unfollowed := true, recurses := true, apart := false }
def TimecodeChoiceSaid : Prop := timecodeChoiceRow.holds Tryz.pinned (OpenSpec.ofChange timecodeChoiceSpec)

/-- ITS FALSE NEIGHBOUR: 'it returns false'. Refute it at one input. -/
def timecodeChoiceWrong : ChangeSpec := { name := "timecodeChoice", fn := fun _ => fun
  | [d] => { results := [.lit (.bool false)], args := [d] }
  | _ => none }
def TimecodeChoiceWrongFalsely : Prop := timecodeChoiceRow.holds Tryz.pinned (OpenSpec.ofChange timecodeChoiceWrong)

/-- 'wavestorelaw13.TimecodeRebuilt': WHATEVER THE INPUT: true; the input reads as it did. -/
def timecodeRebuiltSpec : ChangeSpec := { name := "timecodeRebuilt", fn := fun _ => fun
  | [d1, d2] => { results := [.lit (.bool true)], args := [d1, d2] }
  | _ => none }
def timecodeRebuiltRow : OpenClaim := { program := "ytgllednilkfpgaagreat", sum := "2e6e215aac7453f12cedfabcfb836e1f47d6527b62ee10f65f3f83680adabccf", func := "wavestore/wavestorelaw13.TimecodeRebuilt", spec := "timecodeRebuilt", unfollowed := true, recurses := true, apart := false }
def TimecodeRebuiltSaid : Prop := timecodeRebuiltRow.holds Tryz.pinned (OpenSpec.ofChange timecodeRebuiltSpec)

/-- ITS FALSE NEIGHBOUR: 'it returns false'. Refute it at one input. -/
def timecodeRebuiltWrong : ChangeSpec := { name := "timecodeRebuilt", fn := fun _ => fun
  | [d1, d2] => { results := [.lit (.bool false)], args := [d1, d2] }
  | _ => none }
def TimecodeRebuiltWrongFalsely : Prop := timecodeRebuiltRow.holds Tryz.pinned (OpenSpec.ofChange timecodeRebuiltWrong)

/-- 'wavestorelaw13.TimecodeClocks': WHATEVER THE INPUT: true; the input reads as it did. -/
def timecodeClocksSpec : ChangeSpec := { name := "timecodeClocks", fn := fun _ => fun
  | [d1, d2, d3] => { results := [.lit (.bool true)], args := [d1, d2, d3] }
  | _ => none }
def timecodeClocksRow : OpenClaim := { program := "ytgllednilkfpgaagreat", sum := "2e6e215aac7453f12cedfabcfb836e1f47d6527b62ee10f65f3f83680adabccf", func := "wavestore/wavestorelaw13.TimecodeClocks", spec := "timecodeClocks", unfollowed := true, recurses := true, apart := false }
def TimecodeClocksSaid : Prop := timecodeClocksRow.holds Tryz.pinned (OpenSpec.ofChange timecodeClocksSpec)

/-- ITS FALSE NEIGHBOUR: 'it returns false'. Refute it at one input. -/
def timecodeClocksWrong : ChangeSpec := { name := "timecodeClocks", fn := fun _ => fun
  | [d1, d2, d3] => { results := [.lit (.bool false)], args := [d1, d2, d3] }
  | _ => none }
def TimecodeClocksWrongFalsely : Prop := timecodeClocksRow.holds Tryz.pinned (OpenSpec.ofChange timecodeClocksWrong)

/- THE SECOND FORM. 'bulk': how many values and letters a reading holds, each counted each time it is reached (what is shared counts as often as it is met; a slice's spare places count too). A statement '..UptoSaid' is the law's where the arguments, and the package variables that the reading takes, are together of bulk at most 1048576: NARROWER than '..Said'. Prove '..Said' where nothing that the law and all that it calls make is longer than what came in: it says more and counts as full. Else prove '..UptoSaid'. A law counts once. -/
mutual
def uptoBulk {H : Type} : DataW H → Nat
  | .lit (.string bytes) => bytes.length + 1
  | .lit _ => 1
  | .nil => 1
  | .ptr d => uptoBulk d + 1
  | .slice elems spare => uptoBulkAll elems + uptoBulkAll spare + 1
  | .agg parts => uptoBulkAll parts + 1
  | .iface _ d => uptoBulk d + 1
  | .map entries => uptoBulkEntries entries + 1
  | .held _ => 1
def uptoBulkAll {H : Type} : List (DataW H) → Nat
  | [] => 0
  | d :: r => uptoBulk d + uptoBulkAll r
def uptoBulkEntries {H : Type} : List (Lit × DataW H) → Nat
  | [] => 0
  | x :: r => uptoBulkEntry x + uptoBulkEntries r
def uptoBulkEntry {H : Type} : Lit × DataW H → Nat
  | (.string bytes, d) => bytes.length + uptoBulk d + 1
  | (_, d) => uptoBulk d + 1
 end
def uptoSmall : (H : Type) → List (DataW H) → Bool := fun _ ds => decide (uptoBulkAll ds ≤ 1048576)
def OpenSpec.upto (s : _root_.Go.ChangeSpec) : _root_.Go.OpenSpec := { _root_.Go.OpenSpec.ofChange s with cond := some uptoSmall }

/-- 'wavestorelaw13.TimecodeForms', WHERE WHAT IT READS IS OF BULK AT MOST 1048576: true; the input reads as it did. -/
def timecodeFormsUptoRow : OpenClaim := { program := "ytgllednilkfpgaagreat", sum := "2e6e215aac7453f12cedfabcfb836e1f47d6527b62ee10f65f3f83680adabccf", func := "wavestore/wavestorelaw13.TimecodeForms", spec := "timecodeForms", unfollowed := true, recurses := true, apart := false, narrowed := true }
def TimecodeFormsUptoSaid : Prop := timecodeFormsUptoRow.holds Tryz.pinned (OpenSpec.upto timecodeFormsSpec)

/-- 'wavestorelaw13.TimecodeDecodes', WHERE WHAT IT READS IS OF BULK AT MOST 1048576: true; the input reads as it did. -/
def timecodeDecodesUptoRow : OpenClaim := { program := "ytgllednilkfpgaagreat", sum := "2e6e215aac7453f12cedfabcfb836e1f47d6527b62ee10f65f3f83680adabccf", func := "wavestore/wavestorelaw13.TimecodeDecodes", spec := "timecodeDecodes", unfollowed := true, recurses := true, apart := false, narrowed := true }
def TimecodeDecodesUptoSaid : Prop := timecodeDecodesUptoRow.holds Tryz.pinned (OpenSpec.upto timecodeDecodesSpec)

/-- 'wavestorelaw13.TimecodeInverts', WHERE WHAT IT READS IS OF BULK AT MOST 1048576: true; the input reads as it did. -/
def timecodeInvertsUptoRow : OpenClaim := { program := "ytgllednilkfpgaagreat", sum := "2e6e215aac7453f12cedfabcfb836e1f47d6527b62ee10f65f3f83680adabccf", func := "wavestore/wavestorelaw13.TimecodeInverts", spec := "timecodeInverts", unfollowed := true, recurses := true, apart := false, narrowed := true }
def TimecodeInvertsUptoSaid : Prop := timecodeInvertsUptoRow.holds Tryz.pinned (OpenSpec.upto timecodeInvertsSpec)

/-- 'wavestorelaw13.TimecodeStrict', WHERE WHAT IT READS IS OF BULK AT MOST 1048576: true; the input reads as it did. -/
def timecodeStrictUptoRow : OpenClaim := { program := "ytgllednilkfpgaagreat", sum := "2e6e215aac7453f12cedfabcfb836e1f47d6527b62ee10f65f3f83680adabccf", func := "wavestore/wavestorelaw13.TimecodeStrict", spec := "timecodeStrict", unfollowed := true, recurses := true, apart := false, narrowed := true }
def TimecodeStrictUptoSaid : Prop := timecodeStrictUptoRow.holds Tryz.pinned (OpenSpec.upto timecodeStrictSpec)

/-- 'wavestorelaw13.TimecodeBytes', WHERE WHAT IT READS IS OF BULK AT MOST 1048576: true; the input reads as it did. -/
def timecodeBytesUptoRow : OpenClaim := { program := "ytgllednilkfpgaagreat", sum := "2e6e215aac7453f12cedfabcfb836e1f47d6527b62ee10f65f3f83680adabccf", func := "wavestore/wavestorelaw13.TimecodeBytes", spec := "timecodeBytes", unfollowed := true, recurses := true, apart := false, narrowed := true }
def TimecodeBytesUptoSaid : Prop := timecodeBytesUptoRow.holds Tryz.pinned (OpenSpec.upto timecodeBytesSpec)

/-- 'wavestorelaw13.TimecodeChoice', WHERE WHAT IT READS IS OF BULK AT MOST 1048576: true; the input reads as it did. -/
def timecodeChoiceUptoRow : OpenClaim := { program := "ytgllednilkfpgaagreat", sum := "2e6e215aac7453f12cedfabcfb836e1f47d6527b62ee10f65f3f83680adabccf", func := "wavestore/wavestorelaw13.TimecodeChoice", spec := "timecodeChoice", unfollowed := true, recurses := true, apart := false, narrowed := true }
def TimecodeChoiceUptoSaid : Prop := timecodeChoiceUptoRow.holds Tryz.pinned (OpenSpec.upto timecodeChoiceSpec)

/-- 'wavestorelaw13.TimecodeRebuilt', WHERE WHAT IT READS IS OF BULK AT MOST 1048576: true; the input reads as it did. -/
def timecodeRebuiltUptoRow : OpenClaim := { program := "ytgllednilkfpgaagreat", sum := "2e6e215aac7453f12cedfabcfb836e1f47d6527b62ee10f65f3f83680adabccf", func := "wavestore/wavestorelaw13.TimecodeRebuilt", spec := "timecodeRebuilt", unfollowed := true, recurses := true, apart := false, narrowed := true }
def TimecodeRebuiltUptoSaid : Prop := timecodeRebuiltUptoRow.holds Tryz.pinned (OpenSpec.upto timecodeRebuiltSpec)

/-- 'wavestorelaw13.TimecodeClocks', WHERE WHAT IT READS IS OF BULK AT MOST 1048576: true; the input reads as it did. -/
def timecodeClocksUptoRow : OpenClaim := { program := "ytgllednilkfpgaagreat", sum := "2e6e215aac7453f12cedfabcfb836e1f47d6527b62ee10f65f3f83680adabccf", func := "wavestore/wavestorelaw13.TimecodeClocks", spec := "timecodeClocks", unfollowed := true, recurses := true, apart := false, narrowed := true }
def TimecodeClocksUptoSaid : Prop := timecodeClocksUptoRow.holds Tryz.pinned (OpenSpec.upto timecodeClocksSpec)

end Rows
end Go.Proofs.YtgllednilkfpgaaGreat
