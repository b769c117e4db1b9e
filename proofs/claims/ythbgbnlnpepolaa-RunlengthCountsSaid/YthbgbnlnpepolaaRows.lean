/-
  No cell of these rows narrows 'for every input' (looked for: loops, veiled, ifaces, maps, wideKeys, modest, calm, conditions, laid).
  DERIVED. THE GIVEN ROWS OF THIS SEAT. 7 by the template 'for every input the law returns true; each argument reads behind the call as it read before'; 0 by the template 'total and deterministic' (their statements: YthbgbnlnpepolaaTotals.lean).
  GIVEN WITH THE SEED: the statements are not yours to turn. If you find one false, say at which input.
  Laid BY PROGRAM, IN A SANDBOX (cutbox-rows.mjs): the forced cells as the released guide's own fill.sh prints them over the translation 220e9c95adfe59ca… (all of the seat's roots in one cut). By AI agents, Wed Nov 11 2026. No macro, syntax, notation, axiom, sorry.
-/
import Derived.Test.YthbgbnlnpepolaaChecked
import GoSem.Claim
import GoSem.ClaimJoined
import GoSem.ClaimMapViews
import Derived.JoinedTies
import Derived.KernelRfl
namespace Go.Proofs.Ythbgbnlnpepolaa
/- THE CELL 'sum', in the pinned program and in every row, IS THE sha256 OF THE DUMP (.gsa) THAT YthbgbnlnpepolaaProg.lean LOADS. Nothing in Lean hashes anything: it is a label: what it is worth is what the hold of that sum in a sandbox is worth. -/
noncomputable def Try.pinned : Pinned := { name := "ythbgbnlnpepolaa", sum := "220e9c95adfe59ca49eaf5f5b398c69bc6260c9cbbc2e7fe9d728aececdc4260", checked := Try.checked }
namespace Rows
def none {H : Type} : Left H := { results := [], args := [] }

/-- 'wavestorelaw12.RunlengthForms': WHATEVER THE INPUT: true; the input reads as it did. -/
def runlengthFormsSpec : ChangeSpec := { name := "runlengthForms", fn := fun _ => fun
  | [d1, d2, d3] => { results := [.lit (.bool true)], args := [d1, d2, d3] }
  | _ => none }
def runlengthFormsRow : OpenClaim := { program := "ythbgbnlnpepolaa", sum := "220e9c95adfe59ca49eaf5f5b398c69bc6260c9cbbc2e7fe9d728aececdc4260", func := "wavestore/wavestorelaw12.RunlengthForms", spec := "runlengthForms", unfollowed := true, recurses := true, apart := false }
def RunlengthFormsSaid : Prop := runlengthFormsRow.holds Try.pinned (OpenSpec.ofChange runlengthFormsSpec)

/-- ITS FALSE NEIGHBOUR: 'it returns false'. Refute it at one input. -/
def runlengthFormsWrong : ChangeSpec := { name := "runlengthForms", fn := fun _ => fun
  | [d1, d2, d3] => { results := [.lit (.bool false)], args := [d1, d2, d3] }
  | _ => none }
def RunlengthFormsWrongFalsely : Prop := runlengthFormsRow.holds Try.pinned (OpenSpec.ofChange runlengthFormsWrong)

/-- 'wavestorelaw12.RunlengthPlaces': WHATEVER THE INPUT: true; the input reads as it did. -/
def runlengthPlacesSpec : ChangeSpec := { name := "runlengthPlaces", fn := fun _ => fun
  | [d] => { results := [.lit (.bool true)], args := [d] }
  | _ => none }
def runlengthPlacesRow : OpenClaim := { program := "ythbgbnlnpepolaa", sum := "220e9c95adfe59ca49eaf5f5b398c69bc6260c9cbbc2e7fe9d728aececdc4260", func := "wavestore/wavestorelaw12.RunlengthPlaces", spec := "runlengthPlaces", unfollowed := true, recurses := true, apart := false }
def RunlengthPlacesSaid : Prop := runlengthPlacesRow.holds Try.pinned (OpenSpec.ofChange runlengthPlacesSpec)

/-- ITS FALSE NEIGHBOUR: 'it returns false'. Refute it at one input. -/
def runlengthPlacesWrong : ChangeSpec := { name := "runlengthPlaces", fn := fun _ => fun
  | [d] => { results := [.lit (.bool false)], args := [d] }
  | _ => none }
def RunlengthPlacesWrongFalsely : Prop := runlengthPlacesRow.holds Try.pinned (OpenSpec.ofChange runlengthPlacesWrong)

/-- 'wavestorelaw12.RunlengthBytes': WHATEVER THE INPUT: true; the input reads as it did. -/
def runlengthBytesSpec : ChangeSpec := { name := "runlengthBytes", fn := fun _ => fun
  | [d1, d2] => { results := [.lit (.bool true)], args := [d1, d2] }
  | _ => none }
def runlengthBytesRow : OpenClaim := { program := "ythbgbnlnpepolaa", sum := "220e9c95adfe59ca49eaf5f5b398c69bc6260c9cbbc2e7fe9d728aececdc4260", func := "wavestore/wavestorelaw12.RunlengthBytes", spec := "runlengthBytes", unfollowed := true, recurses := true, apart := false }
def RunlengthBytesSaid : Prop := runlengthBytesRow.holds Try.pinned (OpenSpec.ofChange runlengthBytesSpec)

/-- ITS FALSE NEIGHBOUR: 'it returns false'. Refute it at one input. -/
def runlengthBytesWrong : ChangeSpec := { name := "runlengthBytes", fn := fun _ => fun
  | [d1, d2] => { results := [.lit (.bool false)], args := [d1, d2] }
  | _ => none }
def RunlengthBytesWrongFalsely : Prop := runlengthBytesRow.holds Try.pinned (OpenSpec.ofChange runlengthBytesWrong)

/-- 'wavestorelaw12.RunlengthInverts': WHATEVER THE INPUT: true; the input reads as it did. -/
def runlengthInvertsSpec : ChangeSpec := { name := "runlengthInverts", fn := fun _ => fun
  | [d] => { results := [.lit (.bool true)], args := [d] }
  | _ => none }
def runlengthInvertsRow : OpenClaim := { program := "ythbgbnlnpepolaa", sum := "220e9c95adfe59ca49eaf5f5b398c69bc6260c9cbbc2e7fe9d728aececdc4260", func := "wavestore/wavestorelaw12.RunlengthInverts", spec := "runlengthInverts", unfollowed := true, recurses := true, apart := false }
def RunlengthInvertsSaid : Prop := runlengthInvertsRow.holds Try.pinned (OpenSpec.ofChange runlengthInvertsSpec)

/-- ITS FALSE NEIGHBOUR: 'it returns false'. Refute it at one input. -/
def runlengthInvertsWrong : ChangeSpec := { name := "runlengthInverts", fn := fun _ => fun
  | [d] => { results := [.lit (.bool false)], args := [d] }
  | _ => none }
def RunlengthInvertsWrongFalsely : Prop := runlengthInvertsRow.holds Try.pinned (OpenSpec.ofChange runlengthInvertsWrong)

/-- 'wavestorelaw12.RunlengthChoice': WHATEVER THE INPUT: true; the input reads as it did. -/
def runlengthChoiceSpec : ChangeSpec := { name := "runlengthChoice", fn := fun _ => fun
  | [d] => { results := [.lit (.bool true)], args := [d] }
  | _ => none }
def runlengthChoiceRow : OpenClaim := { program := "ythbgbnlnpepolaa", sum := "220e9c95adfe59ca49eaf5f5b398c69bc6260c9cbbc2e7fe9d728aececdc4260", func := "wavestore/wavestorelaw12.RunlengthChoice", spec := "runlengthChoice", unfollowed := true, recurses := true, apart := false }
def RunlengthChoiceSaid : Prop := runlengthChoiceRow.holds Try.pinned (OpenSpec.ofChange runlengthChoiceSpec)

/-- ITS FALSE NEIGHBOUR: 'it returns false'. Refute it at one input. -/
def runlengthChoiceWrong : ChangeSpec := { name := "runlengthChoice", fn := fun _ => fun
  | [d] => { results := [.lit (.bool false)], args := [d] }
  | _ => none }
def RunlengthChoiceWrongFalsely : Prop := runlengthChoiceRow.holds Try.pinned (OpenSpec.ofChange runlengthChoiceWrong)

/-- 'wavestorelaw12.RunlengthStrict': WHATEVER THE INPUT: true; the input reads as it did. -/
def runlengthStrictSpec : ChangeSpec := { name := "runlengthStrict", fn := fun _ => fun
  | [d1, d2] => { results := [.lit (.bool true)], args := [d1, d2] }
  | _ => none }
def runlengthStrictRow : OpenClaim := { program := "ythbgbnlnpepolaa", sum := "220e9c95adfe59ca49eaf5f5b398c69bc6260c9cbbc2e7fe9d728aececdc4260", func := "wavestore/wavestorelaw12.RunlengthStrict", spec := "runlengthStrict", unfollowed := true, recurses := true, apart := false }
def RunlengthStrictSaid : Prop := runlengthStrictRow.holds Try.pinned (OpenSpec.ofChange runlengthStrictSpec)

/-- ITS FALSE NEIGHBOUR: 'it returns false'. Refute it at one input. -/
def runlengthStrictWrong : ChangeSpec := { name := "runlengthStrict", fn := fun _ => fun
  | [d1, d2] => { results := [.lit (.bool false)], args := [d1, d2] }
  | _ => none }
def RunlengthStrictWrongFalsely : Prop := runlengthStrictRow.holds Try.pinned (OpenSpec.ofChange runlengthStrictWrong)

/-- 'wavestorelaw12.RunlengthCounts': WHATEVER THE INPUT: true; the input reads as it did. -/
def runlengthCountsSpec : ChangeSpec := { name := "runlengthCounts", fn := fun _ => fun
  | [d1, d2] => { results := [.lit (.bool true)], args := [d1, d2] }
  | _ => none }
def runlengthCountsRow : OpenClaim := { program := "ythbgbnlnpepolaa", sum := "220e9c95adfe59ca49eaf5f5b398c69bc6260c9cbbc2e7fe9d728aececdc4260", func := "wavestore/wavestorelaw12.RunlengthCounts", spec := "runlengthCounts", unfollowed := true, recurses := true, apart := false }
def RunlengthCountsSaid : Prop := runlengthCountsRow.holds Try.pinned (OpenSpec.ofChange runlengthCountsSpec)

/-- ITS FALSE NEIGHBOUR: 'it returns false'. Refute it at one input. -/
def runlengthCountsWrong : ChangeSpec := { name := "runlengthCounts", fn := fun _ => fun
  | [d1, d2] => { results := [.lit (.bool false)], args := [d1, d2] }
  | _ => none }
def RunlengthCountsWrongFalsely : Prop := runlengthCountsRow.holds Try.pinned (OpenSpec.ofChange runlengthCountsWrong)

/- THE SECOND FORM. 'bulk': how many values and letters a reading holds, each counted each time it is reached (what is shared counts as often as it is met; a slice's spare places count too). A statement '..UptoSaid' is the law's where the arguments, and the package variables that the reading takes, are together of bulk at most 1048576: NARROWER than '..Said'. Prove '..Said' where nothing that the law and all that it calls make is longer than what came in: it says more and counts as full. Else prove '..UptoSaid'. A law counts once. -/
mutual
def uptoBulk {H : Type} : DataW H → Nat
  | .lit (.string bytes) => bytes.length + 1
  | .lit _ => 1
  | .nil => 1
  | .ptr d => uptoBulk d + 1
  | .slice elems spare => uptoBulkAll elems + uptoBulkAll spare + 1
  | .agg parts => uptoBulkAll parts + 1
  | .iface _ d => uptoBulk d + 1
  | .map entries => uptoBulkEntries entries + 1
  | .held _ => 1
def uptoBulkAll {H : Type} : List (DataW H) → Nat
  | [] => 0
  | d :: r => uptoBulk d + uptoBulkAll r
def uptoBulkEntries {H : Type} : List (Lit × DataW H) → Nat
  | [] => 0
  | x :: r => uptoBulkEntry x + uptoBulkEntries r
def uptoBulkEntry {H : Type} : Lit × DataW H → Nat
  | (.string bytes, d) => bytes.length + uptoBulk d + 1
  | (_, d) => uptoBulk d + 1
 end
def uptoSmall : (H : Type) → List (DataW H) → Bool := fun _ ds => decide (uptoBulkAll ds ≤ 1048576)
def OpenSpec.upto (s : _root_.Go.ChangeSpec) : _root_.Go.OpenSpec := { _root_.Go.OpenSpec.ofChange s with cond := some uptoSmall }

/-- 'wavestorelaw12.RunlengthForms', WHERE WHAT IT READS IS OF BULK AT MOST 1048576: true; the input reads as it did. -/
def runlengthFormsUptoRow : OpenClaim := { program := "ythbgbnlnpepolaa", sum := "220e9c95adfe59ca49eaf5f5b398c69bc6260c9cbbc2e7fe9d728aececdc4260", func := "wavestore/wavestorelaw12.RunlengthForms", spec := "runlengthForms", unfollowed := true, recurses := true, apart := false, narrowed := true }
def RunlengthFormsUptoSaid : Prop := runlengthFormsUptoRow.holds Try.pinned (OpenSpec.upto runlengthFormsSpec)

/-- 'wavestorelaw12.RunlengthPlaces', WHERE WHAT IT READS IS OF BULK AT MOST 1048576: true; the input reads as it did. -/
def runlengthPlacesUptoRow : OpenClaim := { program := "ythbgbnlnpepolaa", sum := "220e9c95adfe59ca49eaf5f5b398c69bc6260c9cbbc2e7fe9d728aececdc4260", func := "wavestore/wavestorelaw12.RunlengthPlaces", spec := "runlengthPlaces", unfollowed := true, recurses := true, apart := false, narrowed := true }
def RunlengthPlacesUptoSaid : Prop := runlengthPlacesUptoRow.holds Try.pinned (OpenSpec.upto runlengthPlacesSpec)

/-- 'wavestorelaw12.RunlengthBytes', WHERE WHAT IT READS IS OF BULK AT MOST 1048576: true; the input reads as it did. -/
def runlengthBytesUptoRow : OpenClaim := { program := "ythbgbnlnpepolaa", sum := "220e9c95adfe59ca49eaf5f5b398c69bc6260c9cbbc2e7fe9d728aececdc4260", func := "wavestore/wavestorelaw12.RunlengthBytes", spec := "runlengthBytes", unfollowed := true, recurses := true, apart := false, narrowed := true }
def RunlengthBytesUptoSaid : Prop := runlengthBytesUptoRow.holds Try.pinned (OpenSpec.upto runlengthBytesSpec)

/-- 'wavestorelaw12.RunlengthInverts', WHERE WHAT IT READS IS OF BULK AT MOST 1048576: true; the input reads as it did. -/
def runlengthInvertsUptoRow : OpenClaim := { program := "ythbgbnlnpepolaa", sum := "220e9c95adfe59ca49eaf5f5b398c69bc6260c9cbbc2e7fe9d728aececdc4260", func := "wavestore/wavestorelaw12.RunlengthInverts", spec := "runlengthInverts", unfollowed := true, recurses := true, apart := false, narrowed := true }
def RunlengthInvertsUptoSaid : Prop := runlengthInvertsUptoRow.holds Try.pinned (OpenSpec.upto runlengthInvertsSpec)

/-- 'wavestorelaw12.RunlengthChoice', WHERE WHAT IT READS IS OF BULK AT MOST 1048576: true; the input reads as it did. -/
def runlengthChoiceUptoRow : OpenClaim := { program := "ythbgbnlnpepolaa", sum := "220e9c95adfe59ca49eaf5f5b398c69bc6260c9cbbc2e7fe9d728aececdc4260", func := "wavestore/wavestorelaw12.RunlengthChoice", spec := "runlengthChoice", unfollowed := true, recurses := true, apart := false, narrowed := true }
def RunlengthChoiceUptoSaid : Prop := runlengthChoiceUptoRow.holds Try.pinned (OpenSpec.upto runlengthChoiceSpec)

/-- 'wavestorelaw12.RunlengthStrict', WHERE WHAT IT READS IS OF BULK AT MOST 1048576: true; the input reads as it did. -/
def runlengthStrictUptoRow : OpenClaim := { program := "ythbgbnlnpepolaa", sum := "220e9c95adfe59ca49eaf5f5b398c69bc6260c9cbbc2e7fe9d728aececdc4260", func := "wavestore/wavestorelaw12.RunlengthStrict", spec := "runlengthStrict", unfollowed := true, recurses := true, apart := false, narrowed := true }
def RunlengthStrictUptoSaid : Prop := runlengthStrictUptoRow.holds Try.pinned (OpenSpec.upto runlengthStrictSpec)

/-- 'wavestorelaw12.RunlengthCounts', WHERE WHAT IT READS IS OF BULK AT MOST 1048576: true; the input reads as it did. -/
def runlengthCountsUptoRow : OpenClaim := { program := "ythbgbnlnpepolaa", sum := "220e9c95adfe59ca49eaf5f5b398c69bc6260c9cbbc2e7fe9d728aececdc4260", func := "wavestore/wavestorelaw12.RunlengthCounts", spec := "runlengthCounts", unfollowed := true, recurses := true, apart := false, narrowed := true }
def RunlengthCountsUptoSaid : Prop := runlengthCountsUptoRow.holds Try.pinned (OpenSpec.upto runlengthCountsSpec)

end Rows
end Go.Proofs.Ythbgbnlnpepolaa
