/-
  DERIVED. GIVEN WITH THE SEED: THE CARDS: each row of YteedfdfinodcaaaGreatDoorRows.lean that lists a variable, with what it lists TIED to the program's text (the seventh form; the later family's looks); each row that meets fmt, with fmt's text TOLD by the authors' own Lean function (tested against real Go, not proved from fmt's source: count such statements apart). THE CARD IS WHAT COUNTS. Prove the row's statement (the work); the ties are given (YteedfdfinodcaaaGreatDoorTie.lean); close each card by the builder's one call (the guide's Derived/Test/ToyasCard.lean, 'card_holds'). Laid BY PROGRAM, IN A SANDBOX (cutbox-door.mjs). By AI agents, Wed Nov 11 2026. No macro, syntax, notation, axiom, sorry.
-/
import Derived.Test.YteedfdfinodcaaaGreatDoorRows
import GoSem.ClaimSeven
namespace Go.Proofs.YteedfdfinodcaaaGreatDoor
namespace Rows

/-- THE TIED CARD OF 'scarflaw24.MergeTurns'. -/
def mergeTurnsCard : Claim7 := { stood := { row := mergeTurnsRow, standIns := [], harness := (true, "e8b6678160471f6baf51a4945c75a656614ac6ff0c675eda058d605687ddb169"), looks := true }, kinds := [], alts := [], laidByText := true, laidKinds := [.data, .data, .data, .data, .sentinel, .sentinel, .pinned], laidTests := true, laidLooks := .later }
def MergeTurnsCardSaid : Prop := Claim7.holds Tryz.pinned (.plain (OpenSpec.ofChange mergeTurnsSpec)) mergeTurnsCard

/-- THE TIED CARD OF 'scarflaw24.MergeChosen'. -/
def mergeChosenCard : Claim7 := { stood := { row := mergeChosenRow, standIns := [], harness := (true, "e8b6678160471f6baf51a4945c75a656614ac6ff0c675eda058d605687ddb169"), looks := true }, kinds := [], alts := [], laidByText := true, laidKinds := [.data, .data, .data, .data, .sentinel, .sentinel, .pinned], laidTests := true, laidLooks := .later }
def MergeChosenCardSaid : Prop := Claim7.holds Tryz.pinned (.plain (OpenSpec.ofChange mergeChosenSpec)) mergeChosenCard

/-- THE SECOND FORM's CARD OF 'scarflaw24.MergeTurns'. -/
def mergeTurnsUptoCard : Claim7 := { stood := { row := mergeTurnsUptoRow, standIns := [], harness := (true, "e8b6678160471f6baf51a4945c75a656614ac6ff0c675eda058d605687ddb169"), looks := true }, kinds := [], alts := [], laidByText := true, laidKinds := [.data, .data, .data, .data, .sentinel, .sentinel, .pinned], laidTests := true, laidLooks := .later }
def MergeTurnsUptoCardSaid : Prop := Claim7.holds Tryz.pinned (.plain (OpenSpec.upto mergeTurnsSpec)) mergeTurnsUptoCard

/-- THE SECOND FORM's CARD OF 'scarflaw24.MergeChosen'. -/
def mergeChosenUptoCard : Claim7 := { stood := { row := mergeChosenUptoRow, standIns := [], harness := (true, "e8b6678160471f6baf51a4945c75a656614ac6ff0c675eda058d605687ddb169"), looks := true }, kinds := [], alts := [], laidByText := true, laidKinds := [.data, .data, .data, .data, .sentinel, .sentinel, .pinned], laidTests := true, laidLooks := .later }
def MergeChosenUptoCardSaid : Prop := Claim7.holds Tryz.pinned (.plain (OpenSpec.upto mergeChosenSpec)) mergeChosenUptoCard
end Rows
end Go.Proofs.YteedfdfinodcaaaGreatDoor
