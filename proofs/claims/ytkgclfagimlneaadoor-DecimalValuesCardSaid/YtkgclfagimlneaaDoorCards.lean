/-
  DERIVED. GIVEN WITH THE SEED: THE CARDS: each row of YtkgclfagimlneaaDoorRows.lean that lists a variable, with what it lists TIED to the program's text (the seventh form; the later family's looks); each row that meets fmt, with fmt's text TOLD by the authors' own Lean function (tested against real Go, not proved from fmt's source: count such statements apart). THE CARD IS WHAT COUNTS. Prove the row's statement (the work); the ties are given (YtkgclfagimlneaaDoorTie.lean); close each card by the builder's one call (the guide's Derived/Test/ToyasCard.lean, 'card_holds'). Laid BY PROGRAM, IN A SANDBOX (cutbox-door.mjs). By AI agents, Wed Nov 11 2026. No macro, syntax, notation, axiom, sorry.
-/
import Derived.Test.YtkgclfagimlneaaDoorRows
import GoSem.ClaimSeven
namespace Go.Proofs.YtkgclfagimlneaaDoor
namespace Rows

/-- THE TIED CARD OF 'wavestorelaw03.DecimalPlain'. -/
def decimalPlainCard : Claim7 := { stood := { row := decimalPlainRow, standIns := [], harness := (true, "8265ed439a7c88f9750250b3768070e480e419ba10a152a2936bc86bd4fc7c42"), looks := false }, kinds := [], alts := [], laidByText := true, laidKinds := [.data, .data, .data, .data, .pinned], laidTests := true, laidLooks := .later }
def DecimalPlainCardSaid : Prop := Claim7.holds Tryd.pinned (.plain (OpenSpec.ofChange decimalPlainSpec)) decimalPlainCard

/-- THE TIED CARD OF 'wavestorelaw03.DecimalForms'. -/
def decimalFormsCard : Claim7 := { stood := { row := decimalFormsRow, standIns := [], harness := (true, "8265ed439a7c88f9750250b3768070e480e419ba10a152a2936bc86bd4fc7c42"), looks := false }, kinds := [], alts := [], laidByText := true, laidKinds := [.data, .data, .data, .data, .pinned], laidTests := true, laidLooks := .later }
def DecimalFormsCardSaid : Prop := Claim7.holds Tryd.pinned (.plain (OpenSpec.ofChange decimalFormsSpec)) decimalFormsCard

/-- THE TIED CARD OF 'wavestorelaw03.DecimalIntegers'. -/
def decimalIntegersCard : Claim7 := { stood := { row := decimalIntegersRow, standIns := [], harness := (true, "8265ed439a7c88f9750250b3768070e480e419ba10a152a2936bc86bd4fc7c42"), looks := false }, kinds := [], alts := [], laidByText := true, laidKinds := [.data, .data, .data, .data, .pinned], laidTests := true, laidLooks := .later }
def DecimalIntegersCardSaid : Prop := Claim7.holds Tryd.pinned (.plain (OpenSpec.ofChange decimalIntegersSpec)) decimalIntegersCard

/-- THE TIED CARD OF 'wavestorelaw03.DecimalCanonical'. -/
def decimalCanonicalCard : Claim7 := { stood := { row := decimalCanonicalRow, standIns := [], harness := (true, "8265ed439a7c88f9750250b3768070e480e419ba10a152a2936bc86bd4fc7c42"), looks := false }, kinds := [], alts := [], laidByText := true, laidKinds := [.data, .data, .data, .data, .pinned], laidTests := true, laidLooks := .later }
def DecimalCanonicalCardSaid : Prop := Claim7.holds Tryd.pinned (.plain (OpenSpec.ofChange decimalCanonicalSpec)) decimalCanonicalCard

/-- THE TIED CARD OF 'wavestorelaw03.DecimalTolerance'. -/
def decimalToleranceCard : Claim7 := { stood := { row := decimalToleranceRow, standIns := [], harness := (true, "8265ed439a7c88f9750250b3768070e480e419ba10a152a2936bc86bd4fc7c42"), looks := false }, kinds := [], alts := [], laidByText := true, laidKinds := [.data, .data, .data, .data, .pinned], laidTests := true, laidLooks := .later }
def DecimalToleranceCardSaid : Prop := Claim7.holds Tryd.pinned (.plain (OpenSpec.ofChange decimalToleranceSpec)) decimalToleranceCard

/-- THE TIED CARD OF 'wavestorelaw03.DecimalValues'. -/
def decimalValuesCard : Claim7 := { stood := { row := decimalValuesRow, standIns := [], harness := (true, "8265ed439a7c88f9750250b3768070e480e419ba10a152a2936bc86bd4fc7c42"), looks := false }, kinds := [], alts := [], laidByText := true, laidKinds := [.data, .data, .data, .data, .pinned], laidTests := true, laidLooks := .later }
def DecimalValuesCardSaid : Prop := Claim7.holds Tryd.pinned (.plain (OpenSpec.ofChange decimalValuesSpec)) decimalValuesCard

/-- THE TIED CARD OF 'wavestorelaw03.DecimalSums'. -/
def decimalSumsCard : Claim7 := { stood := { row := decimalSumsRow, standIns := [], harness := (true, "8265ed439a7c88f9750250b3768070e480e419ba10a152a2936bc86bd4fc7c42"), looks := false }, kinds := [], alts := [], laidByText := true, laidKinds := [.data, .data, .data, .data, .pinned], laidTests := true, laidLooks := .later }
def DecimalSumsCardSaid : Prop := Claim7.holds Tryd.pinned (.plain (OpenSpec.ofChange decimalSumsSpec)) decimalSumsCard

/-- THE SECOND FORM's CARD OF 'wavestorelaw03.DecimalPlain'. -/
def decimalPlainUptoCard : Claim7 := { stood := { row := decimalPlainUptoRow, standIns := [], harness := (true, "8265ed439a7c88f9750250b3768070e480e419ba10a152a2936bc86bd4fc7c42"), looks := false }, kinds := [], alts := [], laidByText := true, laidKinds := [.data, .data, .data, .data, .pinned], laidTests := true, laidLooks := .later }
def DecimalPlainUptoCardSaid : Prop := Claim7.holds Tryd.pinned (.plain (OpenSpec.upto decimalPlainSpec)) decimalPlainUptoCard

/-- THE SECOND FORM's CARD OF 'wavestorelaw03.DecimalForms'. -/
def decimalFormsUptoCard : Claim7 := { stood := { row := decimalFormsUptoRow, standIns := [], harness := (true, "8265ed439a7c88f9750250b3768070e480e419ba10a152a2936bc86bd4fc7c42"), looks := false }, kinds := [], alts := [], laidByText := true, laidKinds := [.data, .data, .data, .data, .pinned], laidTests := true, laidLooks := .later }
def DecimalFormsUptoCardSaid : Prop := Claim7.holds Tryd.pinned (.plain (OpenSpec.upto decimalFormsSpec)) decimalFormsUptoCard

/-- THE SECOND FORM's CARD OF 'wavestorelaw03.DecimalIntegers'. -/
def decimalIntegersUptoCard : Claim7 := { stood := { row := decimalIntegersUptoRow, standIns := [], harness := (true, "8265ed439a7c88f9750250b3768070e480e419ba10a152a2936bc86bd4fc7c42"), looks := false }, kinds := [], alts := [], laidByText := true, laidKinds := [.data, .data, .data, .data, .pinned], laidTests := true, laidLooks := .later }
def DecimalIntegersUptoCardSaid : Prop := Claim7.holds Tryd.pinned (.plain (OpenSpec.upto decimalIntegersSpec)) decimalIntegersUptoCard

/-- THE SECOND FORM's CARD OF 'wavestorelaw03.DecimalCanonical'. -/
def decimalCanonicalUptoCard : Claim7 := { stood := { row := decimalCanonicalUptoRow, standIns := [], harness := (true, "8265ed439a7c88f9750250b3768070e480e419ba10a152a2936bc86bd4fc7c42"), looks := false }, kinds := [], alts := [], laidByText := true, laidKinds := [.data, .data, .data, .data, .pinned], laidTests := true, laidLooks := .later }
def DecimalCanonicalUptoCardSaid : Prop := Claim7.holds Tryd.pinned (.plain (OpenSpec.upto decimalCanonicalSpec)) decimalCanonicalUptoCard

/-- THE SECOND FORM's CARD OF 'wavestorelaw03.DecimalTolerance'. -/
def decimalToleranceUptoCard : Claim7 := { stood := { row := decimalToleranceUptoRow, standIns := [], harness := (true, "8265ed439a7c88f9750250b3768070e480e419ba10a152a2936bc86bd4fc7c42"), looks := false }, kinds := [], alts := [], laidByText := true, laidKinds := [.data, .data, .data, .data, .pinned], laidTests := true, laidLooks := .later }
def DecimalToleranceUptoCardSaid : Prop := Claim7.holds Tryd.pinned (.plain (OpenSpec.upto decimalToleranceSpec)) decimalToleranceUptoCard

/-- THE SECOND FORM's CARD OF 'wavestorelaw03.DecimalValues'. -/
def decimalValuesUptoCard : Claim7 := { stood := { row := decimalValuesUptoRow, standIns := [], harness := (true, "8265ed439a7c88f9750250b3768070e480e419ba10a152a2936bc86bd4fc7c42"), looks := false }, kinds := [], alts := [], laidByText := true, laidKinds := [.data, .data, .data, .data, .pinned], laidTests := true, laidLooks := .later }
def DecimalValuesUptoCardSaid : Prop := Claim7.holds Tryd.pinned (.plain (OpenSpec.upto decimalValuesSpec)) decimalValuesUptoCard

/-- THE SECOND FORM's CARD OF 'wavestorelaw03.DecimalSums'. -/
def decimalSumsUptoCard : Claim7 := { stood := { row := decimalSumsUptoRow, standIns := [], harness := (true, "8265ed439a7c88f9750250b3768070e480e419ba10a152a2936bc86bd4fc7c42"), looks := false }, kinds := [], alts := [], laidByText := true, laidKinds := [.data, .data, .data, .data, .pinned], laidTests := true, laidLooks := .later }
def DecimalSumsUptoCardSaid : Prop := Claim7.holds Tryd.pinned (.plain (OpenSpec.upto decimalSumsSpec)) decimalSumsUptoCard
end Rows
end Go.Proofs.YtkgclfagimlneaaDoor
