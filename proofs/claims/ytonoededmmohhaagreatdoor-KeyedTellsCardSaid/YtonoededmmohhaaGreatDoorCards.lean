/-
  DERIVED. GIVEN WITH THE SEED: THE CARDS: each row of YtonoededmmohhaaGreatDoorRows.lean that lists a variable, with what it lists TIED to the program's text (the seventh form; the later family's looks); each row that meets fmt, with fmt's text TOLD by the authors' own Lean function (tested against real Go, not proved from fmt's source: count such statements apart). THE CARD IS WHAT COUNTS. Prove the row's statement (the work); the ties are given (YtonoededmmohhaaGreatDoorTie.lean); close each card by the builder's one call (the guide's Derived/Test/ToyasCard.lean, 'card_holds'). Laid BY PROGRAM, IN A SANDBOX (cutbox-door.mjs). By AI agents, Wed Nov 11 2026. No macro, syntax, notation, axiom, sorry.
-/
import Derived.Test.YtonoededmmohhaaGreatDoorRows
import GoSem.ClaimSeven
namespace Go.Proofs.YtonoededmmohhaaGreatDoor
namespace Rows

/-- THE TIED CARD OF 'scarflaw19.KeyedUnions'. -/
def keyedUnionsCard : Claim7 := { stood := { row := keyedUnionsRow, standIns := [], harness := (true, "c6690d40d71c0c25b6bf1af25e2ae7a2b3582b34f0b01d2eb5dc3eae261e5615"), looks := true }, kinds := [], alts := [], laidByText := true, laidKinds := [.data, .data, .data, .data, .sentinel, .sentinel, .pinned], laidTests := true, laidLooks := .later }
def KeyedUnionsCardSaid : Prop := Claim7.holds Tryz.pinned (.plain (OpenSpec.ofChange keyedUnionsSpec)) keyedUnionsCard

/-- THE TIED CARD OF 'scarflaw19.KeyedOnce'. -/
def keyedOnceCard : Claim7 := { stood := { row := keyedOnceRow, standIns := [], harness := (true, "c6690d40d71c0c25b6bf1af25e2ae7a2b3582b34f0b01d2eb5dc3eae261e5615"), looks := true }, kinds := [], alts := [], laidByText := true, laidKinds := [.data, .data, .data, .data, .sentinel, .sentinel, .pinned], laidTests := true, laidLooks := .later }
def KeyedOnceCardSaid : Prop := Claim7.holds Tryz.pinned (.plain (OpenSpec.ofChange keyedOnceSpec)) keyedOnceCard

/-- THE TIED CARD OF 'scarflaw19.KeyedTells'. -/
def keyedTellsCard : Claim7 := { stood := { row := keyedTellsRow, standIns := [], harness := (true, "c6690d40d71c0c25b6bf1af25e2ae7a2b3582b34f0b01d2eb5dc3eae261e5615"), looks := true }, kinds := [], alts := [], laidByText := true, laidKinds := [.data, .data, .data, .data, .sentinel, .sentinel, .pinned], laidTests := true, laidLooks := .later }
def KeyedTellsCardSaid : Prop := Claim7.holds Tryz.pinned (.plain (OpenSpec.ofChange keyedTellsSpec)) keyedTellsCard

/-- THE SECOND FORM's CARD OF 'scarflaw19.KeyedUnions'. -/
def keyedUnionsUptoCard : Claim7 := { stood := { row := keyedUnionsUptoRow, standIns := [], harness := (true, "c6690d40d71c0c25b6bf1af25e2ae7a2b3582b34f0b01d2eb5dc3eae261e5615"), looks := true }, kinds := [], alts := [], laidByText := true, laidKinds := [.data, .data, .data, .data, .sentinel, .sentinel, .pinned], laidTests := true, laidLooks := .later }
def KeyedUnionsUptoCardSaid : Prop := Claim7.holds Tryz.pinned (.plain (OpenSpec.upto keyedUnionsSpec)) keyedUnionsUptoCard

/-- THE SECOND FORM's CARD OF 'scarflaw19.KeyedOnce'. -/
def keyedOnceUptoCard : Claim7 := { stood := { row := keyedOnceUptoRow, standIns := [], harness := (true, "c6690d40d71c0c25b6bf1af25e2ae7a2b3582b34f0b01d2eb5dc3eae261e5615"), looks := true }, kinds := [], alts := [], laidByText := true, laidKinds := [.data, .data, .data, .data, .sentinel, .sentinel, .pinned], laidTests := true, laidLooks := .later }
def KeyedOnceUptoCardSaid : Prop := Claim7.holds Tryz.pinned (.plain (OpenSpec.upto keyedOnceSpec)) keyedOnceUptoCard

/-- THE SECOND FORM's CARD OF 'scarflaw19.KeyedTells'. -/
def keyedTellsUptoCard : Claim7 := { stood := { row := keyedTellsUptoRow, standIns := [], harness := (true, "c6690d40d71c0c25b6bf1af25e2ae7a2b3582b34f0b01d2eb5dc3eae261e5615"), looks := true }, kinds := [], alts := [], laidByText := true, laidKinds := [.data, .data, .data, .data, .sentinel, .sentinel, .pinned], laidTests := true, laidLooks := .later }
def KeyedTellsUptoCardSaid : Prop := Claim7.holds Tryz.pinned (.plain (OpenSpec.upto keyedTellsSpec)) keyedTellsUptoCard
end Rows
end Go.Proofs.YtonoededmmohhaaGreatDoor
