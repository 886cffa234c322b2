/-
  DERIVED. GIVEN WITH THE SEED: THE CARDS: each row of YtndkhbfnfagbgaaGreatDoorRows.lean that lists a variable, with what it lists TIED to the program's text (the seventh form; the later family's looks); each row that meets fmt, with fmt's text TOLD by the authors' own Lean function (tested against real Go, not proved from fmt's source: count such statements apart). THE CARD IS WHAT COUNTS. Prove the row's statement (the work); the ties are given (YtndkhbfnfagbgaaGreatDoorTie.lean); close each card by the builder's one call (the guide's Derived/Test/ToyasCard.lean, 'card_holds'). Laid BY PROGRAM, IN A SANDBOX (cutbox-door.mjs). By AI agents, Wed Nov 11 2026. No macro, syntax, notation, axiom, sorry.
-/
import Derived.Test.YtndkhbfnfagbgaaGreatDoorRows
import GoSem.ClaimSeven
namespace Go.Proofs.YtndkhbfnfagbgaaGreatDoor
namespace Rows

/-- THE TIED CARD OF 'scarflaw31.HistoryMore'. -/
def historyMoreCard : Claim7 := { stood := { row := historyMoreRow, standIns := [], harness := (true, "6860eb11a211d16b51a7b0e8f38cc9cf189b490b4082a2ca85ce9fccd647974e"), looks := true }, kinds := [], alts := [], laidByText := true, laidKinds := [.data, .data, .data, .data, .sentinel, .sentinel, .pinned], laidTests := true, laidLooks := .later }
def HistoryMoreCardSaid : Prop := Claim7.holds Tryz.pinned (.plain (OpenSpec.ofChange historyMoreSpec)) historyMoreCard

/-- THE SECOND FORM's CARD OF 'scarflaw31.HistoryMore'. -/
def historyMoreUptoCard : Claim7 := { stood := { row := historyMoreUptoRow, standIns := [], harness := (true, "6860eb11a211d16b51a7b0e8f38cc9cf189b490b4082a2ca85ce9fccd647974e"), looks := true }, kinds := [], alts := [], laidByText := true, laidKinds := [.data, .data, .data, .data, .sentinel, .sentinel, .pinned], laidTests := true, laidLooks := .later }
def HistoryMoreUptoCardSaid : Prop := Claim7.holds Tryz.pinned (.plain (OpenSpec.upto historyMoreSpec)) historyMoreUptoCard
end Rows
end Go.Proofs.YtndkhbfnfagbgaaGreatDoor
