/-
  DERIVED. GIVEN WITH THE SEED: THE CARDS: each row of YtchokmkfobandaaGreatDoorRows.lean that lists a variable, with what it lists TIED to the program's text (the seventh form; the later family's looks); each row that meets fmt, with fmt's text TOLD by the authors' own Lean function (tested against real Go, not proved from fmt's source: count such statements apart). THE CARD IS WHAT COUNTS. Prove the row's statement (the work); the ties are given (YtchokmkfobandaaGreatDoorTie.lean); close each card by the builder's one call (the guide's Derived/Test/ToyasCard.lean, 'card_holds'). Laid BY PROGRAM, IN A SANDBOX (cutbox-door.mjs). By AI agents, Wed Nov 11 2026. No macro, syntax, notation, axiom, sorry.
-/
import Derived.Test.YtchokmkfobandaaGreatDoorRows
import GoSem.ClaimSeven
namespace Go.Proofs.YtchokmkfobandaaGreatDoor
namespace Rows

/-- THE TIED CARD OF 'wavestorelaw33.SegmentForm'. -/
def segmentFormCard : Claim7 := { stood := { row := segmentFormRow, standIns := [], harness := (true, "0d15f366afec33a07c85c105c3bd89622624dcd61228536d388e15b72dd64844"), looks := false }, kinds := [], alts := [], laidByText := true, laidKinds := [.data, .data, .data, .data, .pinned], laidTests := true, laidLooks := .later }
def SegmentFormCardSaid : Prop := Claim7.holds Tryz.pinned (.plain (OpenSpec.ofChange segmentFormSpec)) segmentFormCard

/-- THE TIED CARD OF 'wavestorelaw33.SegmentReturns'. -/
def segmentReturnsCard : Claim7 := { stood := { row := segmentReturnsRow, standIns := [], harness := (true, "0d15f366afec33a07c85c105c3bd89622624dcd61228536d388e15b72dd64844"), looks := false }, kinds := [], alts := [], laidByText := true, laidKinds := [.data, .data, .data, .data, .pinned], laidTests := true, laidLooks := .later }
def SegmentReturnsCardSaid : Prop := Claim7.holds Tryz.pinned (.plain (OpenSpec.ofChange segmentReturnsSpec)) segmentReturnsCard

/-- THE TIED CARD OF 'wavestorelaw33.SegmentStrict'. -/
def segmentStrictCard : Claim7 := { stood := { row := segmentStrictRow, standIns := [], harness := (true, "0d15f366afec33a07c85c105c3bd89622624dcd61228536d388e15b72dd64844"), looks := false }, kinds := [], alts := [], laidByText := true, laidKinds := [.data, .data, .data, .data, .pinned], laidTests := true, laidLooks := .later }
def SegmentStrictCardSaid : Prop := Claim7.holds Tryz.pinned (.plain (OpenSpec.ofChange segmentStrictSpec)) segmentStrictCard

/-- THE TIED CARD OF 'wavestorelaw33.SegmentSamples'. -/
def segmentSamplesCard : Claim7 := { stood := { row := segmentSamplesRow, standIns := [], harness := (true, "0d15f366afec33a07c85c105c3bd89622624dcd61228536d388e15b72dd64844"), looks := false }, kinds := [], alts := [], laidByText := true, laidKinds := [.data, .data, .data, .data, .pinned], laidTests := true, laidLooks := .later }
def SegmentSamplesCardSaid : Prop := Claim7.holds Tryz.pinned (.plain (OpenSpec.ofChange segmentSamplesSpec)) segmentSamplesCard

/-- THE TIED CARD OF 'wavestorelaw33.SegmentPointwise'. -/
def segmentPointwiseCard : Claim7 := { stood := { row := segmentPointwiseRow, standIns := [], harness := (true, "0d15f366afec33a07c85c105c3bd89622624dcd61228536d388e15b72dd64844"), looks := false }, kinds := [], alts := [], laidByText := true, laidKinds := [.data, .data, .data, .data, .pinned], laidTests := true, laidLooks := .later }
def SegmentPointwiseCardSaid : Prop := Claim7.holds Tryz.pinned (.plain (OpenSpec.ofChange segmentPointwiseSpec)) segmentPointwiseCard

/-- THE TIED CARD OF 'wavestorelaw33.SegmentSampled'. -/
def segmentSampledCard : Claim7 := { stood := { row := segmentSampledRow, standIns := [], harness := (true, "0d15f366afec33a07c85c105c3bd89622624dcd61228536d388e15b72dd64844"), looks := false }, kinds := [], alts := [], laidByText := true, laidKinds := [.data, .data, .data, .data, .pinned], laidTests := true, laidLooks := .later }
def SegmentSampledCardSaid : Prop := Claim7.holds Tryz.pinned (.plain (OpenSpec.ofChange segmentSampledSpec)) segmentSampledCard

/-- THE TIED CARD OF 'wavestorelaw33.SegmentSampledStrict'. -/
def segmentSampledStrictCard : Claim7 := { stood := { row := segmentSampledStrictRow, standIns := [], harness := (true, "0d15f366afec33a07c85c105c3bd89622624dcd61228536d388e15b72dd64844"), looks := false }, kinds := [], alts := [], laidByText := true, laidKinds := [.data, .data, .data, .data, .pinned], laidTests := true, laidLooks := .later }
def SegmentSampledStrictCardSaid : Prop := Claim7.holds Tryz.pinned (.plain (OpenSpec.ofChange segmentSampledStrictSpec)) segmentSampledStrictCard

/-- THE SECOND FORM's CARD OF 'wavestorelaw33.SegmentForm'. -/
def segmentFormUptoCard : Claim7 := { stood := { row := segmentFormUptoRow, standIns := [], harness := (true, "0d15f366afec33a07c85c105c3bd89622624dcd61228536d388e15b72dd64844"), looks := false }, kinds := [], alts := [], laidByText := true, laidKinds := [.data, .data, .data, .data, .pinned], laidTests := true, laidLooks := .later }
def SegmentFormUptoCardSaid : Prop := Claim7.holds Tryz.pinned (.plain (OpenSpec.upto segmentFormSpec)) segmentFormUptoCard

/-- THE SECOND FORM's CARD OF 'wavestorelaw33.SegmentReturns'. -/
def segmentReturnsUptoCard : Claim7 := { stood := { row := segmentReturnsUptoRow, standIns := [], harness := (true, "0d15f366afec33a07c85c105c3bd89622624dcd61228536d388e15b72dd64844"), looks := false }, kinds := [], alts := [], laidByText := true, laidKinds := [.data, .data, .data, .data, .pinned], laidTests := true, laidLooks := .later }
def SegmentReturnsUptoCardSaid : Prop := Claim7.holds Tryz.pinned (.plain (OpenSpec.upto segmentReturnsSpec)) segmentReturnsUptoCard

/-- THE SECOND FORM's CARD OF 'wavestorelaw33.SegmentStrict'. -/
def segmentStrictUptoCard : Claim7 := { stood := { row := segmentStrictUptoRow, standIns := [], harness := (true, "0d15f366afec33a07c85c105c3bd89622624dcd61228536d388e15b72dd64844"), looks := false }, kinds := [], alts := [], laidByText := true, laidKinds := [.data, .data, .data, .data, .pinned], laidTests := true, laidLooks := .later }
def SegmentStrictUptoCardSaid : Prop := Claim7.holds Tryz.pinned (.plain (OpenSpec.upto segmentStrictSpec)) segmentStrictUptoCard

/-- THE SECOND FORM's CARD OF 'wavestorelaw33.SegmentSamples'. -/
def segmentSamplesUptoCard : Claim7 := { stood := { row := segmentSamplesUptoRow, standIns := [], harness := (true, "0d15f366afec33a07c85c105c3bd89622624dcd61228536d388e15b72dd64844"), looks := false }, kinds := [], alts := [], laidByText := true, laidKinds := [.data, .data, .data, .data, .pinned], laidTests := true, laidLooks := .later }
def SegmentSamplesUptoCardSaid : Prop := Claim7.holds Tryz.pinned (.plain (OpenSpec.upto segmentSamplesSpec)) segmentSamplesUptoCard

/-- THE SECOND FORM's CARD OF 'wavestorelaw33.SegmentPointwise'. -/
def segmentPointwiseUptoCard : Claim7 := { stood := { row := segmentPointwiseUptoRow, standIns := [], harness := (true, "0d15f366afec33a07c85c105c3bd89622624dcd61228536d388e15b72dd64844"), looks := false }, kinds := [], alts := [], laidByText := true, laidKinds := [.data, .data, .data, .data, .pinned], laidTests := true, laidLooks := .later }
def SegmentPointwiseUptoCardSaid : Prop := Claim7.holds Tryz.pinned (.plain (OpenSpec.upto segmentPointwiseSpec)) segmentPointwiseUptoCard

/-- THE SECOND FORM's CARD OF 'wavestorelaw33.SegmentSampled'. -/
def segmentSampledUptoCard : Claim7 := { stood := { row := segmentSampledUptoRow, standIns := [], harness := (true, "0d15f366afec33a07c85c105c3bd89622624dcd61228536d388e15b72dd64844"), looks := false }, kinds := [], alts := [], laidByText := true, laidKinds := [.data, .data, .data, .data, .pinned], laidTests := true, laidLooks := .later }
def SegmentSampledUptoCardSaid : Prop := Claim7.holds Tryz.pinned (.plain (OpenSpec.upto segmentSampledSpec)) segmentSampledUptoCard

/-- THE SECOND FORM's CARD OF 'wavestorelaw33.SegmentSampledStrict'. -/
def segmentSampledStrictUptoCard : Claim7 := { stood := { row := segmentSampledStrictUptoRow, standIns := [], harness := (true, "0d15f366afec33a07c85c105c3bd89622624dcd61228536d388e15b72dd64844"), looks := false }, kinds := [], alts := [], laidByText := true, laidKinds := [.data, .data, .data, .data, .pinned], laidTests := true, laidLooks := .later }
def SegmentSampledStrictUptoCardSaid : Prop := Claim7.holds Tryz.pinned (.plain (OpenSpec.upto segmentSampledStrictSpec)) segmentSampledStrictUptoCard
end Rows
end Go.Proofs.YtchokmkfobandaaGreatDoor
