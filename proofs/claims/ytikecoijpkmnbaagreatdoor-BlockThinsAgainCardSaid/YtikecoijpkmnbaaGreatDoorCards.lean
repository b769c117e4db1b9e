/-
  DERIVED. GIVEN WITH THE SEED: THE CARDS: each row of YtikecoijpkmnbaaGreatDoorRows.lean that lists a variable, with what it lists TIED to the program's text (the seventh form; the later family's looks); each row that meets fmt, with fmt's text TOLD by the authors' own Lean function (tested against real Go, not proved from fmt's source: count such statements apart). THE CARD IS WHAT COUNTS. Prove the row's statement (the work); the ties are given (YtikecoijpkmnbaaGreatDoorTie.lean); close each card by the builder's one call (the guide's Derived/Test/ToyasCard.lean, 'card_holds'). Laid BY PROGRAM, IN A SANDBOX (cutbox-door.mjs). By AI agents, Wed Nov 11 2026. No macro, syntax, notation, axiom, sorry.
-/
import Derived.Test.YtikecoijpkmnbaaGreatDoorRows
import GoSem.ClaimSeven
namespace Go.Proofs.YtikecoijpkmnbaaGreatDoor
namespace Rows

/-- THE TIED CARD OF 'wavestorelaw35.BlockThinsAgain'. -/
def blockThinsAgainCard : Claim7 := { stood := { row := blockThinsAgainRow, standIns := [], harness := (true, "d654b2cec0f8557bbbb5480e76980c39e15dd936e99d10f5b1411d3614c16e4e"), looks := false }, kinds := [], alts := [], laidByText := true, laidKinds := [.data, .data, .data, .data, .pinned], laidTests := true, laidLooks := .later }
def BlockThinsAgainCardSaid : Prop := Claim7.holds Tryz.pinned (.plain (OpenSpec.ofChange blockThinsAgainSpec)) blockThinsAgainCard

/-- THE SECOND FORM's CARD OF 'wavestorelaw35.BlockThinsAgain'. -/
def blockThinsAgainUptoCard : Claim7 := { stood := { row := blockThinsAgainUptoRow, standIns := [], harness := (true, "d654b2cec0f8557bbbb5480e76980c39e15dd936e99d10f5b1411d3614c16e4e"), looks := false }, kinds := [], alts := [], laidByText := true, laidKinds := [.data, .data, .data, .data, .pinned], laidTests := true, laidLooks := .later }
def BlockThinsAgainUptoCardSaid : Prop := Claim7.holds Tryz.pinned (.plain (OpenSpec.upto blockThinsAgainSpec)) blockThinsAgainUptoCard
end Rows
end Go.Proofs.YtikecoijpkmnbaaGreatDoor
