/-
  No cell of these rows narrows 'for every input' (looked for: loops, veiled, ifaces, maps, wideKeys, modest, calm, conditions, laid).
  DERIVED. THE GIVEN ROWS OF THIS SEAT. 7 by the template 'for every input the law returns true; each argument reads behind the call as it read before'; 0 by the template 'total and deterministic' (their statements: YtfahcmiignnnkaaTotals.lean).
  GIVEN WITH THE SEED: the statements are not yours to turn. If you find one false, say at which input.
  Laid BY PROGRAM, IN A SANDBOX (cutbox-rows.mjs): the forced cells as the released guide's own fill.sh prints them over the translation b11bff72a1d7f168… (all of the seat's roots in one cut). By AI agents, Wed Nov 11 2026. No macro, syntax, notation, axiom, sorry.
-/
import Derived.Test.YtfahcmiignnnkaaChecked
import GoSem.Claim
import GoSem.ClaimJoined
import GoSem.ClaimMapViews
import Derived.JoinedTies
import Derived.KernelRfl
namespace Go.Proofs.Ytfahcmiignnnkaa
/- THE CELL 'sum', in the pinned program and in every row, IS THE sha256 OF THE DUMP (.gsa) THAT YtfahcmiignnnkaaProg.lean LOADS. Nothing in Lean hashes anything: it is a label: what it is worth is what the hold of that sum in a sandbox is worth. -/
noncomputable def Try.pinned : Pinned := { name := "ytfahcmiignnnkaa", sum := "b11bff72a1d7f1686ab3c2f45f98907e055c8e274551a8b54d229b69b7c2261c", checked := Try.checked }
namespace Rows
def none {H : Type} : Left H := { results := [], args := [] }

/-- 'wavestorelaw05.BitioReads': WHATEVER THE INPUT: true; the input reads as it did. -/
def bitioReadsSpec : ChangeSpec := { name := "bitioReads", fn := fun _ => fun
  | [d1, d2] => { results := [.lit (.bool true)], args := [d1, d2] }
  | _ => none }
def bitioReadsRow : OpenClaim := { program := "ytfahcmiignnnkaa", sum := "b11bff72a1d7f1686ab3c2f45f98907e055c8e274551a8b54d229b69b7c2261c", func := "wavestore/wavestorelaw05.BitioReads", spec := "bitioReads", unfollowed := true, recurses := true, apart := false }
def BitioReadsSaid : Prop := bitioReadsRow.holds Try.pinned (OpenSpec.ofChange bitioReadsSpec)

/-- ITS FALSE NEIGHBOUR: 'it returns false'. Refute it at one input. -/
def bitioReadsWrong : ChangeSpec := { name := "bitioReads", fn := fun _ => fun
  | [d1, d2] => { results := [.lit (.bool false)], args := [d1, d2] }
  | _ => none }
def BitioReadsWrongFalsely : Prop := bitioReadsRow.holds Try.pinned (OpenSpec.ofChange bitioReadsWrong)

/-- 'wavestorelaw05.BitioUnique': WHATEVER THE INPUT: true; the input reads as it did. -/
def bitioUniqueSpec : ChangeSpec := { name := "bitioUnique", fn := fun _ => fun
  | [d1, d2] => { results := [.lit (.bool true)], args := [d1, d2] }
  | _ => none }
def bitioUniqueRow : OpenClaim := { program := "ytfahcmiignnnkaa", sum := "b11bff72a1d7f1686ab3c2f45f98907e055c8e274551a8b54d229b69b7c2261c", func := "wavestore/wavestorelaw05.BitioUnique", spec := "bitioUnique", unfollowed := true, recurses := true, apart := false }
def BitioUniqueSaid : Prop := bitioUniqueRow.holds Try.pinned (OpenSpec.ofChange bitioUniqueSpec)

/-- ITS FALSE NEIGHBOUR: 'it returns false'. Refute it at one input. -/
def bitioUniqueWrong : ChangeSpec := { name := "bitioUnique", fn := fun _ => fun
  | [d1, d2] => { results := [.lit (.bool false)], args := [d1, d2] }
  | _ => none }
def BitioUniqueWrongFalsely : Prop := bitioUniqueRow.holds Try.pinned (OpenSpec.ofChange bitioUniqueWrong)

/-- 'wavestorelaw05.BitioEnds': WHATEVER THE INPUT: true; the input reads as it did. -/
def bitioEndsSpec : ChangeSpec := { name := "bitioEnds", fn := fun _ => fun
  | [d1, d2] => { results := [.lit (.bool true)], args := [d1, d2] }
  | _ => none }
def bitioEndsRow : OpenClaim := { program := "ytfahcmiignnnkaa", sum := "b11bff72a1d7f1686ab3c2f45f98907e055c8e274551a8b54d229b69b7c2261c", func := "wavestore/wavestorelaw05.BitioEnds", spec := "bitioEnds", unfollowed := true, recurses := true, apart := false }
def BitioEndsSaid : Prop := bitioEndsRow.holds Try.pinned (OpenSpec.ofChange bitioEndsSpec)

/-- ITS FALSE NEIGHBOUR: 'it returns false'. Refute it at one input. -/
def bitioEndsWrong : ChangeSpec := { name := "bitioEnds", fn := fun _ => fun
  | [d1, d2] => { results := [.lit (.bool false)], args := [d1, d2] }
  | _ => none }
def BitioEndsWrongFalsely : Prop := bitioEndsRow.holds Try.pinned (OpenSpec.ofChange bitioEndsWrong)

/-- 'wavestorelaw05.BitioSizes': WHATEVER THE INPUT: true; the input reads as it did. -/
def bitioSizesSpec : ChangeSpec := { name := "bitioSizes", fn := fun _ => fun
  | [d] => { results := [.lit (.bool true)], args := [d] }
  | _ => none }
def bitioSizesRow : OpenClaim := { program := "ytfahcmiignnnkaa", sum := "b11bff72a1d7f1686ab3c2f45f98907e055c8e274551a8b54d229b69b7c2261c", func := "wavestore/wavestorelaw05.BitioSizes", spec := "bitioSizes", unfollowed := true, recurses := true, apart := false }
def BitioSizesSaid : Prop := bitioSizesRow.holds Try.pinned (OpenSpec.ofChange bitioSizesSpec)

/-- ITS FALSE NEIGHBOUR: 'it returns false'. Refute it at one input. -/
def bitioSizesWrong : ChangeSpec := { name := "bitioSizes", fn := fun _ => fun
  | [d] => { results := [.lit (.bool false)], args := [d] }
  | _ => none }
def BitioSizesWrongFalsely : Prop := bitioSizesRow.holds Try.pinned (OpenSpec.ofChange bitioSizesWrong)

/-- 'wavestorelaw05.BitioInverts': WHATEVER THE INPUT: true; the input reads as it did. -/
def bitioInvertsSpec : ChangeSpec := { name := "bitioInverts", fn := fun _ => fun
  | [d] => { results := [.lit (.bool true)], args := [d] }
  | _ => none }
def bitioInvertsRow : OpenClaim := { program := "ytfahcmiignnnkaa", sum := "b11bff72a1d7f1686ab3c2f45f98907e055c8e274551a8b54d229b69b7c2261c", func := "wavestore/wavestorelaw05.BitioInverts", spec := "bitioInverts", unfollowed := true, recurses := true, apart := false }
def BitioInvertsSaid : Prop := bitioInvertsRow.holds Try.pinned (OpenSpec.ofChange bitioInvertsSpec)

/-- ITS FALSE NEIGHBOUR: 'it returns false'. Refute it at one input. -/
def bitioInvertsWrong : ChangeSpec := { name := "bitioInverts", fn := fun _ => fun
  | [d] => { results := [.lit (.bool false)], args := [d] }
  | _ => none }
def BitioInvertsWrongFalsely : Prop := bitioInvertsRow.holds Try.pinned (OpenSpec.ofChange bitioInvertsWrong)

/-- 'wavestorelaw05.BitioPrefix': WHATEVER THE INPUT: true; the input reads as it did. -/
def bitioPrefixSpec : ChangeSpec := { name := "bitioPrefix", fn := fun _ => fun
  | [d1, d2, d3, d4] => { results := [.lit (.bool true)], args := [d1, d2, d3, d4] }
  | _ => none }
def bitioPrefixRow : OpenClaim := { program := "ytfahcmiignnnkaa", sum := "b11bff72a1d7f1686ab3c2f45f98907e055c8e274551a8b54d229b69b7c2261c", func := "wavestore/wavestorelaw05.BitioPrefix", spec := "bitioPrefix", unfollowed := true, recurses := true, apart := false }
def BitioPrefixSaid : Prop := bitioPrefixRow.holds Try.pinned (OpenSpec.ofChange bitioPrefixSpec)

/-- ITS FALSE NEIGHBOUR: 'it returns false'. Refute it at one input. -/
def bitioPrefixWrong : ChangeSpec := { name := "bitioPrefix", fn := fun _ => fun
  | [d1, d2, d3, d4] => { results := [.lit (.bool false)], args := [d1, d2, d3, d4] }
  | _ => none }
def BitioPrefixWrongFalsely : Prop := bitioPrefixRow.holds Try.pinned (OpenSpec.ofChange bitioPrefixWrong)

/-- 'wavestorelaw05.BitioLengths': WHATEVER THE INPUT: true; the input reads as it did. -/
def bitioLengthsSpec : ChangeSpec := { name := "bitioLengths", fn := fun _ => fun
  | [d1, d2] => { results := [.lit (.bool true)], args := [d1, d2] }
  | _ => none }
def bitioLengthsRow : OpenClaim := { program := "ytfahcmiignnnkaa", sum := "b11bff72a1d7f1686ab3c2f45f98907e055c8e274551a8b54d229b69b7c2261c", func := "wavestore/wavestorelaw05.BitioLengths", spec := "bitioLengths", unfollowed := true, recurses := true, apart := false }
def BitioLengthsSaid : Prop := bitioLengthsRow.holds Try.pinned (OpenSpec.ofChange bitioLengthsSpec)

/-- ITS FALSE NEIGHBOUR: 'it returns false'. Refute it at one input. -/
def bitioLengthsWrong : ChangeSpec := { name := "bitioLengths", fn := fun _ => fun
  | [d1, d2] => { results := [.lit (.bool false)], args := [d1, d2] }
  | _ => none }
def BitioLengthsWrongFalsely : Prop := bitioLengthsRow.holds Try.pinned (OpenSpec.ofChange bitioLengthsWrong)

/- THE SECOND FORM. 'bulk': how many values and letters a reading holds, each counted each time it is reached (what is shared counts as often as it is met; a slice's spare places count too). A statement '..UptoSaid' is the law's where the arguments, and the package variables that the reading takes, are together of bulk at most 1048576: NARROWER than '..Said'. Prove '..Said' where nothing that the law and all that it calls make is longer than what came in: it says more and counts as full. Else prove '..UptoSaid'. A law counts once. -/
mutual
def uptoBulk {H : Type} : DataW H → Nat
  | .lit (.string bytes) => bytes.length + 1
  | .lit _ => 1
  | .nil => 1
  | .ptr d => uptoBulk d + 1
  | .slice elems spare => uptoBulkAll elems + uptoBulkAll spare + 1
  | .agg parts => uptoBulkAll parts + 1
  | .iface _ d => uptoBulk d + 1
  | .map entries => uptoBulkEntries entries + 1
  | .held _ => 1
def uptoBulkAll {H : Type} : List (DataW H) → Nat
  | [] => 0
  | d :: r => uptoBulk d + uptoBulkAll r
def uptoBulkEntries {H : Type} : List (Lit × DataW H) → Nat
  | [] => 0
  | x :: r => uptoBulkEntry x + uptoBulkEntries r
def uptoBulkEntry {H : Type} : Lit × DataW H → Nat
  | (.string bytes, d) => bytes.length + uptoBulk d + 1
  | (_, d) => uptoBulk d + 1
 end
def uptoSmall : (H : Type) → List (DataW H) → Bool := fun _ ds => decide (uptoBulkAll ds ≤ 1048576)
def OpenSpec.upto (s : _root_.Go.ChangeSpec) : _root_.Go.OpenSpec := { _root_.Go.OpenSpec.ofChange s with cond := some uptoSmall }

/-- 'wavestorelaw05.BitioReads', WHERE WHAT IT READS IS OF BULK AT MOST 1048576: true; the input reads as it did. -/
def bitioReadsUptoRow : OpenClaim := { program := "ytfahcmiignnnkaa", sum := "b11bff72a1d7f1686ab3c2f45f98907e055c8e274551a8b54d229b69b7c2261c", func := "wavestore/wavestorelaw05.BitioReads", spec := "bitioReads", unfollowed := true, recurses := true, apart := false, narrowed := true }
def BitioReadsUptoSaid : Prop := bitioReadsUptoRow.holds Try.pinned (OpenSpec.upto bitioReadsSpec)

/-- 'wavestorelaw05.BitioUnique', WHERE WHAT IT READS IS OF BULK AT MOST 1048576: true; the input reads as it did. -/
def bitioUniqueUptoRow : OpenClaim := { program := "ytfahcmiignnnkaa", sum := "b11bff72a1d7f1686ab3c2f45f98907e055c8e274551a8b54d229b69b7c2261c", func := "wavestore/wavestorelaw05.BitioUnique", spec := "bitioUnique", unfollowed := true, recurses := true, apart := false, narrowed := true }
def BitioUniqueUptoSaid : Prop := bitioUniqueUptoRow.holds Try.pinned (OpenSpec.upto bitioUniqueSpec)

/-- 'wavestorelaw05.BitioEnds', WHERE WHAT IT READS IS OF BULK AT MOST 1048576: true; the input reads as it did. -/
def bitioEndsUptoRow : OpenClaim := { program := "ytfahcmiignnnkaa", sum := "b11bff72a1d7f1686ab3c2f45f98907e055c8e274551a8b54d229b69b7c2261c", func := "wavestore/wavestorelaw05.BitioEnds", spec := "bitioEnds", unfollowed := true, recurses := true, apart := false, narrowed := true }
def BitioEndsUptoSaid : Prop := bitioEndsUptoRow.holds Try.pinned (OpenSpec.upto bitioEndsSpec)

/-- 'wavestorelaw05.BitioSizes', WHERE WHAT IT READS IS OF BULK AT MOST 1048576: true; the input reads as it did. -/
def bitioSizesUptoRow : OpenClaim := { program := "ytfahcmiignnnkaa", sum := "b11bff72a1d7f1686ab3c2f45f98907e055c8e274551a8b54d229b69b7c2261c", func := "wavestore/wavestorelaw05.BitioSizes", spec := "bitioSizes", unfollowed := true, recurses := true, apart := false, narrowed := true }
def BitioSizesUptoSaid : Prop := bitioSizesUptoRow.holds Try.pinned (OpenSpec.upto bitioSizesSpec)

/-- 'wavestorelaw05.BitioInverts', WHERE WHAT IT READS IS OF BULK AT MOST 1048576: true; the input reads as it did. -/
def bitioInvertsUptoRow : OpenClaim := { program := "ytfahcmiignnnkaa", sum := "b11bff72a1d7f1686ab3c2f45f98907e055c8e274551a8b54d229b69b7c2261c", func := "wavestore/wavestorelaw05.BitioInverts", spec := "bitioInverts", unfollowed := true, recurses := true, apart := false, narrowed := true }
def BitioInvertsUptoSaid : Prop := bitioInvertsUptoRow.holds Try.pinned (OpenSpec.upto bitioInvertsSpec)

/-- 'wavestorelaw05.BitioPrefix', WHERE WHAT IT READS IS OF BULK AT MOST 1048576: true; the input reads as it did. -/
def bitioPrefixUptoRow : OpenClaim := { program := "ytfahcmiignnnkaa", sum := "b11bff72a1d7f1686ab3c2f45f98907e055c8e274551a8b54d229b69b7c2261c", func := "wavestore/wavestorelaw05.BitioPrefix", spec := "bitioPrefix", unfollowed := true, recurses := true, apart := false, narrowed := true }
def BitioPrefixUptoSaid : Prop := bitioPrefixUptoRow.holds Try.pinned (OpenSpec.upto bitioPrefixSpec)

/-- 'wavestorelaw05.BitioLengths', WHERE WHAT IT READS IS OF BULK AT MOST 1048576: true; the input reads as it did. -/
def bitioLengthsUptoRow : OpenClaim := { program := "ytfahcmiignnnkaa", sum := "b11bff72a1d7f1686ab3c2f45f98907e055c8e274551a8b54d229b69b7c2261c", func := "wavestore/wavestorelaw05.BitioLengths", spec := "bitioLengths", unfollowed := true, recurses := true, apart := false, narrowed := true }
def BitioLengthsUptoSaid : Prop := bitioLengthsUptoRow.holds Try.pinned (OpenSpec.upto bitioLengthsSpec)

end Rows
end Go.Proofs.Ytfahcmiignnnkaa
