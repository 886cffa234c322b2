/-
  DERIVED. GIVEN WITH THE SEED: THE CARDS: each row of YtbhneplafiapdaaGreatDoorRows.lean that lists a variable, with what it lists TIED to the program's text (the seventh form; the later family's looks); each row that meets fmt, with fmt's text TOLD by the authors' own Lean function (tested against real Go, not proved from fmt's source: count such statements apart). THE CARD IS WHAT COUNTS. Prove the row's statement (the work); the ties are given (YtbhneplafiapdaaGreatDoorTie.lean); close each card by the builder's one call (the guide's Derived/Test/ToyasCard.lean, 'card_holds'). Laid BY PROGRAM, IN A SANDBOX (cutbox-door.mjs). By AI agents, Wed Nov 11 2026. No macro, syntax, notation, axiom, sorry.
-/
import Derived.Test.YtbhneplafiapdaaGreatDoorRows
import GoSem.ClaimSeven
namespace Go.Proofs.YtbhneplafiapdaaGreatDoor
namespace Rows

/-- THE TIED CARD OF 'scarflaw31.HistoryTells'. -/
def historyTellsCard : Claim7 := { stood := { row := historyTellsRow, standIns := [], harness := (true, "84ee376001f9a8ef6d57458e6b99f05206d848582b020519285d777a0ed352fb"), looks := true }, kinds := [], alts := [], laidByText := true, laidKinds := [.data, .data, .data, .data, .sentinel, .sentinel, .pinned], laidTests := true, laidLooks := .later }
def HistoryTellsCardSaid : Prop := Claim7.holds Tryz.pinned (.plain (OpenSpec.ofChange historyTellsSpec)) historyTellsCard

/-- THE TIED CARD OF 'scarflaw31.HistoryBases'. -/
def historyBasesCard : Claim7 := { stood := { row := historyBasesRow, standIns := [], harness := (true, "84ee376001f9a8ef6d57458e6b99f05206d848582b020519285d777a0ed352fb"), looks := true }, kinds := [], alts := [], laidByText := true, laidKinds := [.data, .data, .data, .data, .sentinel, .sentinel, .pinned], laidTests := true, laidLooks := .later }
def HistoryBasesCardSaid : Prop := Claim7.holds Tryz.pinned (.plain (OpenSpec.ofChange historyBasesSpec)) historyBasesCard

/-- THE TIED CARD OF 'scarflaw31.HistoryAbove'. -/
def historyAboveCard : Claim7 := { stood := { row := historyAboveRow, standIns := [], harness := (true, "84ee376001f9a8ef6d57458e6b99f05206d848582b020519285d777a0ed352fb"), looks := true }, kinds := [], alts := [], laidByText := true, laidKinds := [.data, .data, .data, .data, .sentinel, .sentinel, .pinned], laidTests := true, laidLooks := .later }
def HistoryAboveCardSaid : Prop := Claim7.holds Tryz.pinned (.plain (OpenSpec.ofChange historyAboveSpec)) historyAboveCard

/-- THE SECOND FORM's CARD OF 'scarflaw31.HistoryTells'. -/
def historyTellsUptoCard : Claim7 := { stood := { row := historyTellsUptoRow, standIns := [], harness := (true, "84ee376001f9a8ef6d57458e6b99f05206d848582b020519285d777a0ed352fb"), looks := true }, kinds := [], alts := [], laidByText := true, laidKinds := [.data, .data, .data, .data, .sentinel, .sentinel, .pinned], laidTests := true, laidLooks := .later }
def HistoryTellsUptoCardSaid : Prop := Claim7.holds Tryz.pinned (.plain (OpenSpec.upto historyTellsSpec)) historyTellsUptoCard

/-- THE SECOND FORM's CARD OF 'scarflaw31.HistoryBases'. -/
def historyBasesUptoCard : Claim7 := { stood := { row := historyBasesUptoRow, standIns := [], harness := (true, "84ee376001f9a8ef6d57458e6b99f05206d848582b020519285d777a0ed352fb"), looks := true }, kinds := [], alts := [], laidByText := true, laidKinds := [.data, .data, .data, .data, .sentinel, .sentinel, .pinned], laidTests := true, laidLooks := .later }
def HistoryBasesUptoCardSaid : Prop := Claim7.holds Tryz.pinned (.plain (OpenSpec.upto historyBasesSpec)) historyBasesUptoCard

/-- THE SECOND FORM's CARD OF 'scarflaw31.HistoryAbove'. -/
def historyAboveUptoCard : Claim7 := { stood := { row := historyAboveUptoRow, standIns := [], harness := (true, "84ee376001f9a8ef6d57458e6b99f05206d848582b020519285d777a0ed352fb"), looks := true }, kinds := [], alts := [], laidByText := true, laidKinds := [.data, .data, .data, .data, .sentinel, .sentinel, .pinned], laidTests := true, laidLooks := .later }
def HistoryAboveUptoCardSaid : Prop := Claim7.holds Tryz.pinned (.plain (OpenSpec.upto historyAboveSpec)) historyAboveUptoCard
end Rows
end Go.Proofs.YtbhneplafiapdaaGreatDoor
