/-
  DERIVED. GIVEN WITH THE SEED: THE CARDS: each row of YtehmojdjpmliaaaGreatDoorRows.lean that lists a variable, with what it lists TIED to the program's text (the seventh form; the later family's looks); each row that meets fmt, with fmt's text TOLD by the authors' own Lean function (tested against real Go, not proved from fmt's source: count such statements apart). THE CARD IS WHAT COUNTS. Prove the row's statement (the work); the ties are given (YtehmojdjpmliaaaGreatDoorTie.lean); close each card by the builder's one call (the guide's Derived/Test/ToyasCard.lean, 'card_holds'). Laid BY PROGRAM, IN A SANDBOX (cutbox-door.mjs). By AI agents, Wed Nov 11 2026. No macro, syntax, notation, axiom, sorry.
-/
import Derived.Test.YtehmojdjpmliaaaGreatDoorRows
import GoSem.ClaimSeven
namespace Go.Proofs.YtehmojdjpmliaaaGreatDoor
namespace Rows

/-- THE TIED CARD OF 'scarflaw08.PrintWrites'. -/
def printWritesCard : Claim7 := { stood := { row := printWritesRow, standIns := [], harness := (true, "406869160254475b7e63380e512646b81a63b233f1e606eca4ccc33e1e3afc40"), looks := true }, kinds := [], alts := [], laidByText := true, laidKinds := [.data, .data, .data, .data, .sentinel, .sentinel, .pinned], laidTests := true, laidLooks := .later }
def PrintWritesCardSaid : Prop := Claim7.holds Tryz.pinned (.plain (OpenSpec.ofChange printWritesSpec)) printWritesCard

/-- THE TIED CARD OF 'scarflaw08.PrintLines'. -/
def printLinesCard : Claim7 := { stood := { row := printLinesRow, standIns := [], harness := (true, "406869160254475b7e63380e512646b81a63b233f1e606eca4ccc33e1e3afc40"), looks := true }, kinds := [], alts := [], laidByText := true, laidKinds := [.data, .data, .data, .data, .sentinel, .sentinel, .pinned], laidTests := true, laidLooks := .later }
def PrintLinesCardSaid : Prop := Claim7.holds Tryz.pinned (.plain (OpenSpec.ofChange printLinesSpec)) printLinesCard

/-- THE TIED CARD OF 'scarflaw08.PrintParts'. -/
def printPartsCard : Claim7 := { stood := { row := printPartsRow, standIns := [], harness := (true, "406869160254475b7e63380e512646b81a63b233f1e606eca4ccc33e1e3afc40"), looks := true }, kinds := [], alts := [], laidByText := true, laidKinds := [.data, .data, .data, .data, .sentinel, .sentinel, .pinned], laidTests := true, laidLooks := .later }
def PrintPartsCardSaid : Prop := Claim7.holds Tryz.pinned (.plain (OpenSpec.ofChange printPartsSpec)) printPartsCard

/-- THE TIED CARD OF 'scarflaw08.PrintCanons'. -/
def printCanonsCard : Claim7 := { stood := { row := printCanonsRow, standIns := [], harness := (true, "406869160254475b7e63380e512646b81a63b233f1e606eca4ccc33e1e3afc40"), looks := true }, kinds := [], alts := [], laidByText := true, laidKinds := [.data, .data, .data, .data, .sentinel, .sentinel, .pinned], laidTests := true, laidLooks := .later }
def PrintCanonsCardSaid : Prop := Claim7.holds Tryz.pinned (.plain (OpenSpec.ofChange printCanonsSpec)) printCanonsCard

/-- THE TIED CARD OF 'scarflaw06.ValueTells'. -/
def valueTellsCard : Claim7 := { stood := { row := valueTellsRow, standIns := [], harness := (true, "406869160254475b7e63380e512646b81a63b233f1e606eca4ccc33e1e3afc40"), looks := true }, kinds := [], alts := [], laidByText := true, laidKinds := [.data, .data, .data, .data, .sentinel, .sentinel, .pinned], laidTests := true, laidLooks := .later }
def ValueTellsCardSaid : Prop := Claim7.holds Tryz.pinned (.plain (OpenSpec.ofChange valueTellsSpec)) valueTellsCard

/-- THE TIED CARD OF 'scarflaw06.ValueOrders'. -/
def valueOrdersCard : Claim7 := { stood := { row := valueOrdersRow, standIns := [], harness := (true, "406869160254475b7e63380e512646b81a63b233f1e606eca4ccc33e1e3afc40"), looks := true }, kinds := [], alts := [], laidByText := true, laidKinds := [.data, .data, .data, .data, .sentinel, .sentinel, .pinned], laidTests := true, laidLooks := .later }
def ValueOrdersCardSaid : Prop := Claim7.holds Tryz.pinned (.plain (OpenSpec.ofChange valueOrdersSpec)) valueOrdersCard

/-- THE TIED CARD OF 'scarflaw06.ValueHolds'. -/
def valueHoldsCard : Claim7 := { stood := { row := valueHoldsRow, standIns := [], harness := (true, "406869160254475b7e63380e512646b81a63b233f1e606eca4ccc33e1e3afc40"), looks := true }, kinds := [], alts := [], laidByText := true, laidKinds := [.data, .data, .data, .data, .sentinel, .sentinel, .pinned], laidTests := true, laidLooks := .later }
def ValueHoldsCardSaid : Prop := Claim7.holds Tryz.pinned (.plain (OpenSpec.ofChange valueHoldsSpec)) valueHoldsCard

/-- THE TIED CARD OF 'scarflaw06.ValueStands'. -/
def valueStandsCard : Claim7 := { stood := { row := valueStandsRow, standIns := [], harness := (true, "406869160254475b7e63380e512646b81a63b233f1e606eca4ccc33e1e3afc40"), looks := true }, kinds := [], alts := [], laidByText := true, laidKinds := [.data, .data, .data, .data, .sentinel, .sentinel, .pinned], laidTests := true, laidLooks := .later }
def ValueStandsCardSaid : Prop := Claim7.holds Tryz.pinned (.plain (OpenSpec.ofChange valueStandsSpec)) valueStandsCard

/-- THE TIED CARD OF 'scarflaw06.ValueSorts'. -/
def valueSortsCard : Claim7 := { stood := { row := valueSortsRow, standIns := [], harness := (true, "406869160254475b7e63380e512646b81a63b233f1e606eca4ccc33e1e3afc40"), looks := true }, kinds := [], alts := [], laidByText := true, laidKinds := [.data, .data, .data, .data, .sentinel, .sentinel, .pinned], laidTests := true, laidLooks := .later }
def ValueSortsCardSaid : Prop := Claim7.holds Tryz.pinned (.plain (OpenSpec.ofChange valueSortsSpec)) valueSortsCard

/-- THE TIED CARD OF 'scarflaw08.PrintApart'. -/
def printApartCard : Claim7 := { stood := { row := printApartRow, standIns := [], harness := (true, "406869160254475b7e63380e512646b81a63b233f1e606eca4ccc33e1e3afc40"), looks := true }, kinds := [], alts := [], laidByText := true, laidKinds := [.data, .data, .data, .data, .sentinel, .sentinel, .pinned], laidTests := true, laidLooks := .later }
def PrintApartCardSaid : Prop := Claim7.holds Tryz.pinned (.plain (OpenSpec.ofChange printApartSpec)) printApartCard

/-- THE SECOND FORM's CARD OF 'scarflaw08.PrintWrites'. -/
def printWritesUptoCard : Claim7 := { stood := { row := printWritesUptoRow, standIns := [], harness := (true, "406869160254475b7e63380e512646b81a63b233f1e606eca4ccc33e1e3afc40"), looks := true }, kinds := [], alts := [], laidByText := true, laidKinds := [.data, .data, .data, .data, .sentinel, .sentinel, .pinned], laidTests := true, laidLooks := .later }
def PrintWritesUptoCardSaid : Prop := Claim7.holds Tryz.pinned (.plain (OpenSpec.upto printWritesSpec)) printWritesUptoCard

/-- THE SECOND FORM's CARD OF 'scarflaw08.PrintLines'. -/
def printLinesUptoCard : Claim7 := { stood := { row := printLinesUptoRow, standIns := [], harness := (true, "406869160254475b7e63380e512646b81a63b233f1e606eca4ccc33e1e3afc40"), looks := true }, kinds := [], alts := [], laidByText := true, laidKinds := [.data, .data, .data, .data, .sentinel, .sentinel, .pinned], laidTests := true, laidLooks := .later }
def PrintLinesUptoCardSaid : Prop := Claim7.holds Tryz.pinned (.plain (OpenSpec.upto printLinesSpec)) printLinesUptoCard

/-- THE SECOND FORM's CARD OF 'scarflaw08.PrintParts'. -/
def printPartsUptoCard : Claim7 := { stood := { row := printPartsUptoRow, standIns := [], harness := (true, "406869160254475b7e63380e512646b81a63b233f1e606eca4ccc33e1e3afc40"), looks := true }, kinds := [], alts := [], laidByText := true, laidKinds := [.data, .data, .data, .data, .sentinel, .sentinel, .pinned], laidTests := true, laidLooks := .later }
def PrintPartsUptoCardSaid : Prop := Claim7.holds Tryz.pinned (.plain (OpenSpec.upto printPartsSpec)) printPartsUptoCard

/-- THE SECOND FORM's CARD OF 'scarflaw08.PrintCanons'. -/
def printCanonsUptoCard : Claim7 := { stood := { row := printCanonsUptoRow, standIns := [], harness := (true, "406869160254475b7e63380e512646b81a63b233f1e606eca4ccc33e1e3afc40"), looks := true }, kinds := [], alts := [], laidByText := true, laidKinds := [.data, .data, .data, .data, .sentinel, .sentinel, .pinned], laidTests := true, laidLooks := .later }
def PrintCanonsUptoCardSaid : Prop := Claim7.holds Tryz.pinned (.plain (OpenSpec.upto printCanonsSpec)) printCanonsUptoCard

/-- THE SECOND FORM's CARD OF 'scarflaw06.ValueTells'. -/
def valueTellsUptoCard : Claim7 := { stood := { row := valueTellsUptoRow, standIns := [], harness := (true, "406869160254475b7e63380e512646b81a63b233f1e606eca4ccc33e1e3afc40"), looks := true }, kinds := [], alts := [], laidByText := true, laidKinds := [.data, .data, .data, .data, .sentinel, .sentinel, .pinned], laidTests := true, laidLooks := .later }
def ValueTellsUptoCardSaid : Prop := Claim7.holds Tryz.pinned (.plain (OpenSpec.upto valueTellsSpec)) valueTellsUptoCard

/-- THE SECOND FORM's CARD OF 'scarflaw06.ValueOrders'. -/
def valueOrdersUptoCard : Claim7 := { stood := { row := valueOrdersUptoRow, standIns := [], harness := (true, "406869160254475b7e63380e512646b81a63b233f1e606eca4ccc33e1e3afc40"), looks := true }, kinds := [], alts := [], laidByText := true, laidKinds := [.data, .data, .data, .data, .sentinel, .sentinel, .pinned], laidTests := true, laidLooks := .later }
def ValueOrdersUptoCardSaid : Prop := Claim7.holds Tryz.pinned (.plain (OpenSpec.upto valueOrdersSpec)) valueOrdersUptoCard

/-- THE SECOND FORM's CARD OF 'scarflaw06.ValueHolds'. -/
def valueHoldsUptoCard : Claim7 := { stood := { row := valueHoldsUptoRow, standIns := [], harness := (true, "406869160254475b7e63380e512646b81a63b233f1e606eca4ccc33e1e3afc40"), looks := true }, kinds := [], alts := [], laidByText := true, laidKinds := [.data, .data, .data, .data, .sentinel, .sentinel, .pinned], laidTests := true, laidLooks := .later }
def ValueHoldsUptoCardSaid : Prop := Claim7.holds Tryz.pinned (.plain (OpenSpec.upto valueHoldsSpec)) valueHoldsUptoCard

/-- THE SECOND FORM's CARD OF 'scarflaw06.ValueStands'. -/
def valueStandsUptoCard : Claim7 := { stood := { row := valueStandsUptoRow, standIns := [], harness := (true, "406869160254475b7e63380e512646b81a63b233f1e606eca4ccc33e1e3afc40"), looks := true }, kinds := [], alts := [], laidByText := true, laidKinds := [.data, .data, .data, .data, .sentinel, .sentinel, .pinned], laidTests := true, laidLooks := .later }
def ValueStandsUptoCardSaid : Prop := Claim7.holds Tryz.pinned (.plain (OpenSpec.upto valueStandsSpec)) valueStandsUptoCard

/-- THE SECOND FORM's CARD OF 'scarflaw06.ValueSorts'. -/
def valueSortsUptoCard : Claim7 := { stood := { row := valueSortsUptoRow, standIns := [], harness := (true, "406869160254475b7e63380e512646b81a63b233f1e606eca4ccc33e1e3afc40"), looks := true }, kinds := [], alts := [], laidByText := true, laidKinds := [.data, .data, .data, .data, .sentinel, .sentinel, .pinned], laidTests := true, laidLooks := .later }
def ValueSortsUptoCardSaid : Prop := Claim7.holds Tryz.pinned (.plain (OpenSpec.upto valueSortsSpec)) valueSortsUptoCard

/-- THE SECOND FORM's CARD OF 'scarflaw08.PrintApart'. -/
def printApartUptoCard : Claim7 := { stood := { row := printApartUptoRow, standIns := [], harness := (true, "406869160254475b7e63380e512646b81a63b233f1e606eca4ccc33e1e3afc40"), looks := true }, kinds := [], alts := [], laidByText := true, laidKinds := [.data, .data, .data, .data, .sentinel, .sentinel, .pinned], laidTests := true, laidLooks := .later }
def PrintApartUptoCardSaid : Prop := Claim7.holds Tryz.pinned (.plain (OpenSpec.upto printApartSpec)) printApartUptoCard
end Rows
end Go.Proofs.YtehmojdjpmliaaaGreatDoor
