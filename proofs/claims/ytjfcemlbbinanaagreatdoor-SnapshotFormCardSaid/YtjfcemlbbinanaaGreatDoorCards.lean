/-
  DERIVED. GIVEN WITH THE SEED: THE CARDS: each row of YtjfcemlbbinanaaGreatDoorRows.lean that lists a variable, with what it lists TIED to the program's text (the seventh form; the later family's looks); each row that meets fmt, with fmt's text TOLD by the authors' own Lean function (tested against real Go, not proved from fmt's source: count such statements apart). THE CARD IS WHAT COUNTS. Prove the row's statement (the work); the ties are given (YtjfcemlbbinanaaGreatDoorTie.lean); close each card by the builder's one call (the guide's Derived/Test/ToyasCard.lean, 'card_holds'). Laid BY PROGRAM, IN A SANDBOX (cutbox-door.mjs). By AI agents, Wed Nov 11 2026. No macro, syntax, notation, axiom, sorry.
-/
import Derived.Test.YtjfcemlbbinanaaGreatDoorRows
import GoSem.ClaimSeven
namespace Go.Proofs.YtjfcemlbbinanaaGreatDoor
namespace Rows

/-- THE TIED CARD OF 'wavestorelaw34.SnapshotReturns'. -/
def snapshotReturnsCard : Claim7 := { stood := { row := snapshotReturnsRow, standIns := [], harness := (true, "f18ea29ea554785d4d26fac2942584a3713067150c44c40ed80fa302dbbf6c04"), looks := false }, kinds := [], alts := [], laidByText := true, laidKinds := [.data, .data, .data, .data, .pinned], laidTests := true, laidLooks := .later }
def SnapshotReturnsCardSaid : Prop := Claim7.holds Tryz.pinned (.plain (OpenSpec.ofChange snapshotReturnsSpec)) snapshotReturnsCard

/-- THE TIED CARD OF 'wavestorelaw34.SnapshotStrict'. -/
def snapshotStrictCard : Claim7 := { stood := { row := snapshotStrictRow, standIns := [], harness := (true, "f18ea29ea554785d4d26fac2942584a3713067150c44c40ed80fa302dbbf6c04"), looks := false }, kinds := [], alts := [], laidByText := true, laidKinds := [.data, .data, .data, .data, .pinned], laidTests := true, laidLooks := .later }
def SnapshotStrictCardSaid : Prop := Claim7.holds Tryz.pinned (.plain (OpenSpec.ofChange snapshotStrictSpec)) snapshotStrictCard

/-- THE TIED CARD OF 'wavestorelaw34.SnapshotOnes'. -/
def snapshotOnesCard : Claim7 := { stood := { row := snapshotOnesRow, standIns := [], harness := (true, "f18ea29ea554785d4d26fac2942584a3713067150c44c40ed80fa302dbbf6c04"), looks := false }, kinds := [], alts := [], laidByText := true, laidKinds := [.data, .data, .data, .data, .pinned], laidTests := true, laidLooks := .later }
def SnapshotOnesCardSaid : Prop := Claim7.holds Tryz.pinned (.plain (OpenSpec.ofChange snapshotOnesSpec)) snapshotOnesCard

/-- THE TIED CARD OF 'wavestorelaw34.SnapshotAfter'. -/
def snapshotAfterCard : Claim7 := { stood := { row := snapshotAfterRow, standIns := [], harness := (true, "f18ea29ea554785d4d26fac2942584a3713067150c44c40ed80fa302dbbf6c04"), looks := false }, kinds := [], alts := [], laidByText := true, laidKinds := [.data, .data, .data, .data, .pinned], laidTests := true, laidLooks := .later }
def SnapshotAfterCardSaid : Prop := Claim7.holds Tryz.pinned (.plain (OpenSpec.ofChange snapshotAfterSpec)) snapshotAfterCard

/-- THE TIED CARD OF 'wavestorelaw34.SnapshotSteps'. -/
def snapshotStepsCard : Claim7 := { stood := { row := snapshotStepsRow, standIns := [], harness := (true, "f18ea29ea554785d4d26fac2942584a3713067150c44c40ed80fa302dbbf6c04"), looks := false }, kinds := [], alts := [], laidByText := true, laidKinds := [.data, .data, .data, .data, .pinned], laidTests := true, laidLooks := .later }
def SnapshotStepsCardSaid : Prop := Claim7.holds Tryz.pinned (.plain (OpenSpec.ofChange snapshotStepsSpec)) snapshotStepsCard

/-- THE TIED CARD OF 'wavestorelaw34.SnapshotForm'. -/
def snapshotFormCard : Claim7 := { stood := { row := snapshotFormRow, standIns := [], harness := (true, "f18ea29ea554785d4d26fac2942584a3713067150c44c40ed80fa302dbbf6c04"), looks := false }, kinds := [], alts := [], laidByText := true, laidKinds := [.data, .data, .data, .data, .pinned], laidTests := true, laidLooks := .later }
def SnapshotFormCardSaid : Prop := Claim7.holds Tryz.pinned (.plain (OpenSpec.ofChange snapshotFormSpec)) snapshotFormCard

/-- THE TIED CARD OF 'wavestorelaw34.SnapshotInitial'. -/
def snapshotInitialCard : Claim7 := { stood := { row := snapshotInitialRow, standIns := [], harness := (true, "f18ea29ea554785d4d26fac2942584a3713067150c44c40ed80fa302dbbf6c04"), looks := false }, kinds := [], alts := [], laidByText := true, laidKinds := [.data, .data, .data, .data, .pinned], laidTests := true, laidLooks := .later }
def SnapshotInitialCardSaid : Prop := Claim7.holds Tryz.pinned (.plain (OpenSpec.ofChange snapshotInitialSpec)) snapshotInitialCard

/-- THE SECOND FORM's CARD OF 'wavestorelaw34.SnapshotReturns'. -/
def snapshotReturnsUptoCard : Claim7 := { stood := { row := snapshotReturnsUptoRow, standIns := [], harness := (true, "f18ea29ea554785d4d26fac2942584a3713067150c44c40ed80fa302dbbf6c04"), looks := false }, kinds := [], alts := [], laidByText := true, laidKinds := [.data, .data, .data, .data, .pinned], laidTests := true, laidLooks := .later }
def SnapshotReturnsUptoCardSaid : Prop := Claim7.holds Tryz.pinned (.plain (OpenSpec.upto snapshotReturnsSpec)) snapshotReturnsUptoCard

/-- THE SECOND FORM's CARD OF 'wavestorelaw34.SnapshotStrict'. -/
def snapshotStrictUptoCard : Claim7 := { stood := { row := snapshotStrictUptoRow, standIns := [], harness := (true, "f18ea29ea554785d4d26fac2942584a3713067150c44c40ed80fa302dbbf6c04"), looks := false }, kinds := [], alts := [], laidByText := true, laidKinds := [.data, .data, .data, .data, .pinned], laidTests := true, laidLooks := .later }
def SnapshotStrictUptoCardSaid : Prop := Claim7.holds Tryz.pinned (.plain (OpenSpec.upto snapshotStrictSpec)) snapshotStrictUptoCard

/-- THE SECOND FORM's CARD OF 'wavestorelaw34.SnapshotOnes'. -/
def snapshotOnesUptoCard : Claim7 := { stood := { row := snapshotOnesUptoRow, standIns := [], harness := (true, "f18ea29ea554785d4d26fac2942584a3713067150c44c40ed80fa302dbbf6c04"), looks := false }, kinds := [], alts := [], laidByText := true, laidKinds := [.data, .data, .data, .data, .pinned], laidTests := true, laidLooks := .later }
def SnapshotOnesUptoCardSaid : Prop := Claim7.holds Tryz.pinned (.plain (OpenSpec.upto snapshotOnesSpec)) snapshotOnesUptoCard

/-- THE SECOND FORM's CARD OF 'wavestorelaw34.SnapshotAfter'. -/
def snapshotAfterUptoCard : Claim7 := { stood := { row := snapshotAfterUptoRow, standIns := [], harness := (true, "f18ea29ea554785d4d26fac2942584a3713067150c44c40ed80fa302dbbf6c04"), looks := false }, kinds := [], alts := [], laidByText := true, laidKinds := [.data, .data, .data, .data, .pinned], laidTests := true, laidLooks := .later }
def SnapshotAfterUptoCardSaid : Prop := Claim7.holds Tryz.pinned (.plain (OpenSpec.upto snapshotAfterSpec)) snapshotAfterUptoCard

/-- THE SECOND FORM's CARD OF 'wavestorelaw34.SnapshotSteps'. -/
def snapshotStepsUptoCard : Claim7 := { stood := { row := snapshotStepsUptoRow, standIns := [], harness := (true, "f18ea29ea554785d4d26fac2942584a3713067150c44c40ed80fa302dbbf6c04"), looks := false }, kinds := [], alts := [], laidByText := true, laidKinds := [.data, .data, .data, .data, .pinned], laidTests := true, laidLooks := .later }
def SnapshotStepsUptoCardSaid : Prop := Claim7.holds Tryz.pinned (.plain (OpenSpec.upto snapshotStepsSpec)) snapshotStepsUptoCard

/-- THE SECOND FORM's CARD OF 'wavestorelaw34.SnapshotForm'. -/
def snapshotFormUptoCard : Claim7 := { stood := { row := snapshotFormUptoRow, standIns := [], harness := (true, "f18ea29ea554785d4d26fac2942584a3713067150c44c40ed80fa302dbbf6c04"), looks := false }, kinds := [], alts := [], laidByText := true, laidKinds := [.data, .data, .data, .data, .pinned], laidTests := true, laidLooks := .later }
def SnapshotFormUptoCardSaid : Prop := Claim7.holds Tryz.pinned (.plain (OpenSpec.upto snapshotFormSpec)) snapshotFormUptoCard

/-- THE SECOND FORM's CARD OF 'wavestorelaw34.SnapshotInitial'. -/
def snapshotInitialUptoCard : Claim7 := { stood := { row := snapshotInitialUptoRow, standIns := [], harness := (true, "f18ea29ea554785d4d26fac2942584a3713067150c44c40ed80fa302dbbf6c04"), looks := false }, kinds := [], alts := [], laidByText := true, laidKinds := [.data, .data, .data, .data, .pinned], laidTests := true, laidLooks := .later }
def SnapshotInitialUptoCardSaid : Prop := Claim7.holds Tryz.pinned (.plain (OpenSpec.upto snapshotInitialSpec)) snapshotInitialUptoCard
end Rows
end Go.Proofs.YtjfcemlbbinanaaGreatDoor
