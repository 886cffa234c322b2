/-
  DERIVED. GIVEN WITH THE SEED: THE CARDS: each row of YtidlkjpohhbbcaaGreatDoorRows.lean that lists a variable, with what it lists TIED to the program's text (the seventh form; the later family's looks); each row that meets fmt, with fmt's text TOLD by the authors' own Lean function (tested against real Go, not proved from fmt's source: count such statements apart). THE CARD IS WHAT COUNTS. Prove the row's statement (the work); the ties are given (YtidlkjpohhbbcaaGreatDoorTie.lean); close each card by the builder's one call (the guide's Derived/Test/ToyasCard.lean, 'card_holds'). Laid BY PROGRAM, IN A SANDBOX (cutbox-door.mjs). By AI agents, Wed Nov 11 2026. No macro, syntax, notation, axiom, sorry.
-/
import Derived.Test.YtidlkjpohhbbcaaGreatDoorRows
import GoSem.ClaimSeven
namespace Go.Proofs.YtidlkjpohhbbcaaGreatDoor
namespace Rows

/-- THE TIED CARD OF 'scarflaw27.ResolveTexts'. -/
def resolveTextsCard : Claim7 := { stood := { row := resolveTextsRow, standIns := [], harness := (true, "2791d3bf0dee19e540bd6783546170b88f603c560af990d356c3e2a5832c474e"), looks := true }, kinds := [], alts := [], laidByText := true, laidKinds := [.data, .data, .data, .data, .sentinel, .sentinel, .pinned], laidTests := true, laidLooks := .later }
def ResolveTextsCardSaid : Prop := Claim7.holds Tryz.pinned (.plain (OpenSpec.ofChange resolveTextsSpec)) resolveTextsCard

/-- THE TIED CARD OF 'scarflaw27.ResolveBack'. -/
def resolveBackCard : Claim7 := { stood := { row := resolveBackRow, standIns := [], harness := (true, "2791d3bf0dee19e540bd6783546170b88f603c560af990d356c3e2a5832c474e"), looks := true }, kinds := [], alts := [], laidByText := true, laidKinds := [.data, .data, .data, .data, .sentinel, .sentinel, .pinned], laidTests := true, laidLooks := .later }
def ResolveBackCardSaid : Prop := Claim7.holds Tryz.pinned (.plain (OpenSpec.ofChange resolveBackSpec)) resolveBackCard

/-- THE TIED CARD OF 'scarflaw27.ResolveTurns'. -/
def resolveTurnsCard : Claim7 := { stood := { row := resolveTurnsRow, standIns := [], harness := (true, "2791d3bf0dee19e540bd6783546170b88f603c560af990d356c3e2a5832c474e"), looks := true }, kinds := [], alts := [], laidByText := true, laidKinds := [.data, .data, .data, .data, .sentinel, .sentinel, .pinned], laidTests := true, laidLooks := .later }
def ResolveTurnsCardSaid : Prop := Claim7.holds Tryz.pinned (.plain (OpenSpec.ofChange resolveTurnsSpec)) resolveTurnsCard

/-- THE SECOND FORM's CARD OF 'scarflaw27.ResolveTexts'. -/
def resolveTextsUptoCard : Claim7 := { stood := { row := resolveTextsUptoRow, standIns := [], harness := (true, "2791d3bf0dee19e540bd6783546170b88f603c560af990d356c3e2a5832c474e"), looks := true }, kinds := [], alts := [], laidByText := true, laidKinds := [.data, .data, .data, .data, .sentinel, .sentinel, .pinned], laidTests := true, laidLooks := .later }
def ResolveTextsUptoCardSaid : Prop := Claim7.holds Tryz.pinned (.plain (OpenSpec.upto resolveTextsSpec)) resolveTextsUptoCard

/-- THE SECOND FORM's CARD OF 'scarflaw27.ResolveBack'. -/
def resolveBackUptoCard : Claim7 := { stood := { row := resolveBackUptoRow, standIns := [], harness := (true, "2791d3bf0dee19e540bd6783546170b88f603c560af990d356c3e2a5832c474e"), looks := true }, kinds := [], alts := [], laidByText := true, laidKinds := [.data, .data, .data, .data, .sentinel, .sentinel, .pinned], laidTests := true, laidLooks := .later }
def ResolveBackUptoCardSaid : Prop := Claim7.holds Tryz.pinned (.plain (OpenSpec.upto resolveBackSpec)) resolveBackUptoCard

/-- THE SECOND FORM's CARD OF 'scarflaw27.ResolveTurns'. -/
def resolveTurnsUptoCard : Claim7 := { stood := { row := resolveTurnsUptoRow, standIns := [], harness := (true, "2791d3bf0dee19e540bd6783546170b88f603c560af990d356c3e2a5832c474e"), looks := true }, kinds := [], alts := [], laidByText := true, laidKinds := [.data, .data, .data, .data, .sentinel, .sentinel, .pinned], laidTests := true, laidLooks := .later }
def ResolveTurnsUptoCardSaid : Prop := Claim7.holds Tryz.pinned (.plain (OpenSpec.upto resolveTurnsSpec)) resolveTurnsUptoCard
end Rows
end Go.Proofs.YtidlkjpohhbbcaaGreatDoor
