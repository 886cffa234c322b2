/-
  DERIVED. GIVEN WITH THE SEED: THE CARDS: each row of YthnkjgpjdbdchaaGreatDoorRows.lean that lists a variable, with what it lists TIED to the program's text (the seventh form; the later family's looks); each row that meets fmt, with fmt's text TOLD by the authors' own Lean function (tested against real Go, not proved from fmt's source: count such statements apart). THE CARD IS WHAT COUNTS. Prove the row's statement (the work); the ties are given (YthnkjgpjdbdchaaGreatDoorTie.lean); close each card by the builder's one call (the guide's Derived/Test/ToyasCard.lean, 'card_holds'). Laid BY PROGRAM, IN A SANDBOX (cutbox-door.mjs). By AI agents, Wed Nov 11 2026. No macro, syntax, notation, axiom, sorry.
-/
import Derived.Test.YthnkjgpjdbdchaaGreatDoorRows
import GoSem.ClaimSeven
namespace Go.Proofs.YthnkjgpjdbdchaaGreatDoor
namespace Rows

/-- THE TIED CARD OF 'scarflaw24.MergeSides'. -/
def mergeSidesCard : Claim7 := { stood := { row := mergeSidesRow, standIns := [], harness := (true, "1dc1f219227f537ca32fa7943b1bbc2afb8946ab6d086be8f9ec8e9912ce03d1"), looks := true }, kinds := [], alts := [], laidByText := true, laidKinds := [.data, .data, .data, .data, .sentinel, .sentinel, .pinned], laidTests := true, laidLooks := .later }
def MergeSidesCardSaid : Prop := Claim7.holds Tryz.pinned (.plain (OpenSpec.ofChange mergeSidesSpec)) mergeSidesCard

/-- THE TIED CARD OF 'scarflaw24.MergeTurns'. -/
def mergeTurnsCard : Claim7 := { stood := { row := mergeTurnsRow, standIns := [], harness := (true, "1dc1f219227f537ca32fa7943b1bbc2afb8946ab6d086be8f9ec8e9912ce03d1"), looks := true }, kinds := [], alts := [], laidByText := true, laidKinds := [.data, .data, .data, .data, .sentinel, .sentinel, .pinned], laidTests := true, laidLooks := .later }
def MergeTurnsCardSaid : Prop := Claim7.holds Tryz.pinned (.plain (OpenSpec.ofChange mergeTurnsSpec)) mergeTurnsCard

/-- THE TIED CARD OF 'scarflaw24.MergeMembers'. -/
def mergeMembersCard : Claim7 := { stood := { row := mergeMembersRow, standIns := [], harness := (true, "1dc1f219227f537ca32fa7943b1bbc2afb8946ab6d086be8f9ec8e9912ce03d1"), looks := true }, kinds := [], alts := [], laidByText := true, laidKinds := [.data, .data, .data, .data, .sentinel, .sentinel, .pinned], laidTests := true, laidLooks := .later }
def MergeMembersCardSaid : Prop := Claim7.holds Tryz.pinned (.plain (OpenSpec.ofChange mergeMembersSpec)) mergeMembersCard

/-- THE TIED CARD OF 'scarflaw24.MergeChosen'. -/
def mergeChosenCard : Claim7 := { stood := { row := mergeChosenRow, standIns := [], harness := (true, "1dc1f219227f537ca32fa7943b1bbc2afb8946ab6d086be8f9ec8e9912ce03d1"), looks := true }, kinds := [], alts := [], laidByText := true, laidKinds := [.data, .data, .data, .data, .sentinel, .sentinel, .pinned], laidTests := true, laidLooks := .later }
def MergeChosenCardSaid : Prop := Claim7.holds Tryz.pinned (.plain (OpenSpec.ofChange mergeChosenSpec)) mergeChosenCard

/-- THE SECOND FORM's CARD OF 'scarflaw24.MergeSides'. -/
def mergeSidesUptoCard : Claim7 := { stood := { row := mergeSidesUptoRow, standIns := [], harness := (true, "1dc1f219227f537ca32fa7943b1bbc2afb8946ab6d086be8f9ec8e9912ce03d1"), looks := true }, kinds := [], alts := [], laidByText := true, laidKinds := [.data, .data, .data, .data, .sentinel, .sentinel, .pinned], laidTests := true, laidLooks := .later }
def MergeSidesUptoCardSaid : Prop := Claim7.holds Tryz.pinned (.plain (OpenSpec.upto mergeSidesSpec)) mergeSidesUptoCard

/-- THE SECOND FORM's CARD OF 'scarflaw24.MergeTurns'. -/
def mergeTurnsUptoCard : Claim7 := { stood := { row := mergeTurnsUptoRow, standIns := [], harness := (true, "1dc1f219227f537ca32fa7943b1bbc2afb8946ab6d086be8f9ec8e9912ce03d1"), looks := true }, kinds := [], alts := [], laidByText := true, laidKinds := [.data, .data, .data, .data, .sentinel, .sentinel, .pinned], laidTests := true, laidLooks := .later }
def MergeTurnsUptoCardSaid : Prop := Claim7.holds Tryz.pinned (.plain (OpenSpec.upto mergeTurnsSpec)) mergeTurnsUptoCard

/-- THE SECOND FORM's CARD OF 'scarflaw24.MergeMembers'. -/
def mergeMembersUptoCard : Claim7 := { stood := { row := mergeMembersUptoRow, standIns := [], harness := (true, "1dc1f219227f537ca32fa7943b1bbc2afb8946ab6d086be8f9ec8e9912ce03d1"), looks := true }, kinds := [], alts := [], laidByText := true, laidKinds := [.data, .data, .data, .data, .sentinel, .sentinel, .pinned], laidTests := true, laidLooks := .later }
def MergeMembersUptoCardSaid : Prop := Claim7.holds Tryz.pinned (.plain (OpenSpec.upto mergeMembersSpec)) mergeMembersUptoCard

/-- THE SECOND FORM's CARD OF 'scarflaw24.MergeChosen'. -/
def mergeChosenUptoCard : Claim7 := { stood := { row := mergeChosenUptoRow, standIns := [], harness := (true, "1dc1f219227f537ca32fa7943b1bbc2afb8946ab6d086be8f9ec8e9912ce03d1"), looks := true }, kinds := [], alts := [], laidByText := true, laidKinds := [.data, .data, .data, .data, .sentinel, .sentinel, .pinned], laidTests := true, laidLooks := .later }
def MergeChosenUptoCardSaid : Prop := Claim7.holds Tryz.pinned (.plain (OpenSpec.upto mergeChosenSpec)) mergeChosenUptoCard
end Rows
end Go.Proofs.YthnkjgpjdbdchaaGreatDoor
