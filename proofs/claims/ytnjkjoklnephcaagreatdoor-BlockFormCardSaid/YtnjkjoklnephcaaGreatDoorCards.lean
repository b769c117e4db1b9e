/-
  DERIVED. GIVEN WITH THE SEED: THE CARDS: each row of YtnjkjoklnephcaaGreatDoorRows.lean that lists a variable, with what it lists TIED to the program's text (the seventh form; the later family's looks); each row that meets fmt, with fmt's text TOLD by the authors' own Lean function (tested against real Go, not proved from fmt's source: count such statements apart). THE CARD IS WHAT COUNTS. Prove the row's statement (the work); the ties are given (YtnjkjoklnephcaaGreatDoorTie.lean); close each card by the builder's one call (the guide's Derived/Test/ToyasCard.lean, 'card_holds'). Laid BY PROGRAM, IN A SANDBOX (cutbox-door.mjs). By AI agents, Wed Nov 11 2026. No macro, syntax, notation, axiom, sorry.
-/
import Derived.Test.YtnjkjoklnephcaaGreatDoorRows
import GoSem.ClaimSeven
namespace Go.Proofs.YtnjkjoklnephcaaGreatDoor
namespace Rows

/-- THE TIED CARD OF 'wavestorelaw35.BlockForm'. -/
def blockFormCard : Claim7 := { stood := { row := blockFormRow, standIns := [], harness := (true, "7297d092dac4716aa0eb06b965c98d645a6109be7ad6ad80e3d639ddf27d431c"), looks := false }, kinds := [], alts := [], laidByText := true, laidKinds := [.data, .data, .data, .data, .pinned], laidTests := true, laidLooks := .later }
def BlockFormCardSaid : Prop := Claim7.holds Tryz.pinned (.plain (OpenSpec.ofChange blockFormSpec)) blockFormCard

/-- THE TIED CARD OF 'wavestorelaw35.BlockParts'. -/
def blockPartsCard : Claim7 := { stood := { row := blockPartsRow, standIns := [], harness := (true, "7297d092dac4716aa0eb06b965c98d645a6109be7ad6ad80e3d639ddf27d431c"), looks := false }, kinds := [], alts := [], laidByText := true, laidKinds := [.data, .data, .data, .data, .pinned], laidTests := true, laidLooks := .later }
def BlockPartsCardSaid : Prop := Claim7.holds Tryz.pinned (.plain (OpenSpec.ofChange blockPartsSpec)) blockPartsCard

/-- THE TIED CARD OF 'wavestorelaw35.BlockErrors'. -/
def blockErrorsCard : Claim7 := { stood := { row := blockErrorsRow, standIns := [], harness := (true, "7297d092dac4716aa0eb06b965c98d645a6109be7ad6ad80e3d639ddf27d431c"), looks := false }, kinds := [], alts := [], laidByText := true, laidKinds := [.data, .data, .data, .data, .pinned], laidTests := true, laidLooks := .later }
def BlockErrorsCardSaid : Prop := Claim7.holds Tryz.pinned (.plain (OpenSpec.ofChange blockErrorsSpec)) blockErrorsCard

/-- THE TIED CARD OF 'wavestorelaw35.BlockReturns'. -/
def blockReturnsCard : Claim7 := { stood := { row := blockReturnsRow, standIns := [], harness := (true, "7297d092dac4716aa0eb06b965c98d645a6109be7ad6ad80e3d639ddf27d431c"), looks := false }, kinds := [], alts := [], laidByText := true, laidKinds := [.data, .data, .data, .data, .pinned], laidTests := true, laidLooks := .later }
def BlockReturnsCardSaid : Prop := Claim7.holds Tryz.pinned (.plain (OpenSpec.ofChange blockReturnsSpec)) blockReturnsCard

/-- THE TIED CARD OF 'wavestorelaw35.BlockStrict'. -/
def blockStrictCard : Claim7 := { stood := { row := blockStrictRow, standIns := [], harness := (true, "7297d092dac4716aa0eb06b965c98d645a6109be7ad6ad80e3d639ddf27d431c"), looks := false }, kinds := [], alts := [], laidByText := true, laidKinds := [.data, .data, .data, .data, .pinned], laidTests := true, laidLooks := .later }
def BlockStrictCardSaid : Prop := Claim7.holds Tryz.pinned (.plain (OpenSpec.ofChange blockStrictSpec)) blockStrictCard

/-- THE TIED CARD OF 'wavestorelaw35.BlockThinsAgain'. -/
def blockThinsAgainCard : Claim7 := { stood := { row := blockThinsAgainRow, standIns := [], harness := (true, "7297d092dac4716aa0eb06b965c98d645a6109be7ad6ad80e3d639ddf27d431c"), looks := false }, kinds := [], alts := [], laidByText := true, laidKinds := [.data, .data, .data, .data, .pinned], laidTests := true, laidLooks := .later }
def BlockThinsAgainCardSaid : Prop := Claim7.holds Tryz.pinned (.plain (OpenSpec.ofChange blockThinsAgainSpec)) blockThinsAgainCard

/-- THE SECOND FORM's CARD OF 'wavestorelaw35.BlockForm'. -/
def blockFormUptoCard : Claim7 := { stood := { row := blockFormUptoRow, standIns := [], harness := (true, "7297d092dac4716aa0eb06b965c98d645a6109be7ad6ad80e3d639ddf27d431c"), looks := false }, kinds := [], alts := [], laidByText := true, laidKinds := [.data, .data, .data, .data, .pinned], laidTests := true, laidLooks := .later }
def BlockFormUptoCardSaid : Prop := Claim7.holds Tryz.pinned (.plain (OpenSpec.upto blockFormSpec)) blockFormUptoCard

/-- THE SECOND FORM's CARD OF 'wavestorelaw35.BlockParts'. -/
def blockPartsUptoCard : Claim7 := { stood := { row := blockPartsUptoRow, standIns := [], harness := (true, "7297d092dac4716aa0eb06b965c98d645a6109be7ad6ad80e3d639ddf27d431c"), looks := false }, kinds := [], alts := [], laidByText := true, laidKinds := [.data, .data, .data, .data, .pinned], laidTests := true, laidLooks := .later }
def BlockPartsUptoCardSaid : Prop := Claim7.holds Tryz.pinned (.plain (OpenSpec.upto blockPartsSpec)) blockPartsUptoCard

/-- THE SECOND FORM's CARD OF 'wavestorelaw35.BlockErrors'. -/
def blockErrorsUptoCard : Claim7 := { stood := { row := blockErrorsUptoRow, standIns := [], harness := (true, "7297d092dac4716aa0eb06b965c98d645a6109be7ad6ad80e3d639ddf27d431c"), looks := false }, kinds := [], alts := [], laidByText := true, laidKinds := [.data, .data, .data, .data, .pinned], laidTests := true, laidLooks := .later }
def BlockErrorsUptoCardSaid : Prop := Claim7.holds Tryz.pinned (.plain (OpenSpec.upto blockErrorsSpec)) blockErrorsUptoCard

/-- THE SECOND FORM's CARD OF 'wavestorelaw35.BlockReturns'. -/
def blockReturnsUptoCard : Claim7 := { stood := { row := blockReturnsUptoRow, standIns := [], harness := (true, "7297d092dac4716aa0eb06b965c98d645a6109be7ad6ad80e3d639ddf27d431c"), looks := false }, kinds := [], alts := [], laidByText := true, laidKinds := [.data, .data, .data, .data, .pinned], laidTests := true, laidLooks := .later }
def BlockReturnsUptoCardSaid : Prop := Claim7.holds Tryz.pinned (.plain (OpenSpec.upto blockReturnsSpec)) blockReturnsUptoCard

/-- THE SECOND FORM's CARD OF 'wavestorelaw35.BlockStrict'. -/
def blockStrictUptoCard : Claim7 := { stood := { row := blockStrictUptoRow, standIns := [], harness := (true, "7297d092dac4716aa0eb06b965c98d645a6109be7ad6ad80e3d639ddf27d431c"), looks := false }, kinds := [], alts := [], laidByText := true, laidKinds := [.data, .data, .data, .data, .pinned], laidTests := true, laidLooks := .later }
def BlockStrictUptoCardSaid : Prop := Claim7.holds Tryz.pinned (.plain (OpenSpec.upto blockStrictSpec)) blockStrictUptoCard

/-- THE SECOND FORM's CARD OF 'wavestorelaw35.BlockThinsAgain'. -/
def blockThinsAgainUptoCard : Claim7 := { stood := { row := blockThinsAgainUptoRow, standIns := [], harness := (true, "7297d092dac4716aa0eb06b965c98d645a6109be7ad6ad80e3d639ddf27d431c"), looks := false }, kinds := [], alts := [], laidByText := true, laidKinds := [.data, .data, .data, .data, .pinned], laidTests := true, laidLooks := .later }
def BlockThinsAgainUptoCardSaid : Prop := Claim7.holds Tryz.pinned (.plain (OpenSpec.upto blockThinsAgainSpec)) blockThinsAgainUptoCard
end Rows
end Go.Proofs.YtnjkjoklnephcaaGreatDoor
