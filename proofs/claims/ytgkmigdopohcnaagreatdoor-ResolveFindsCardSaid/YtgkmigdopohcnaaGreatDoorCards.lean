/-
  DERIVED. GIVEN WITH THE SEED: THE CARDS: each row of YtgkmigdopohcnaaGreatDoorRows.lean that lists a variable, with what it lists TIED to the program's text (the seventh form; the later family's looks); each row that meets fmt, with fmt's text TOLD by the authors' own Lean function (tested against real Go, not proved from fmt's source: count such statements apart). THE CARD IS WHAT COUNTS. Prove the row's statement (the work); the ties are given (YtgkmigdopohcnaaGreatDoorTie.lean); close each card by the builder's one call (the guide's Derived/Test/ToyasCard.lean, 'card_holds'). Laid BY PROGRAM, IN A SANDBOX (cutbox-door.mjs). By AI agents, Wed Nov 11 2026. No macro, syntax, notation, axiom, sorry.
-/
import Derived.Test.YtgkmigdopohcnaaGreatDoorRows
import GoSem.ClaimSeven
namespace Go.Proofs.YtgkmigdopohcnaaGreatDoor
namespace Rows

/-- THE TIED CARD OF 'scarflaw27.ResolvePrints'. -/
def resolvePrintsCard : Claim7 := { stood := { row := resolvePrintsRow, standIns := [], harness := (true, "1b02deca58ff1f5e47494329bfa5fbd551ea2ee108d7d13c3bab97fddb5ecb77"), looks := true }, kinds := [], alts := [], laidByText := true, laidKinds := [.data, .data, .data, .data, .sentinel, .sentinel, .pinned], laidTests := true, laidLooks := .later }
def ResolvePrintsCardSaid : Prop := Claim7.holds Tryz.pinned (.plain (OpenSpec.ofChange resolvePrintsSpec)) resolvePrintsCard

/-- THE TIED CARD OF 'scarflaw27.ResolveBack'. -/
def resolveBackCard : Claim7 := { stood := { row := resolveBackRow, standIns := [], harness := (true, "1b02deca58ff1f5e47494329bfa5fbd551ea2ee108d7d13c3bab97fddb5ecb77"), looks := true }, kinds := [], alts := [], laidByText := true, laidKinds := [.data, .data, .data, .data, .sentinel, .sentinel, .pinned], laidTests := true, laidLooks := .later }
def ResolveBackCardSaid : Prop := Claim7.holds Tryz.pinned (.plain (OpenSpec.ofChange resolveBackSpec)) resolveBackCard

/-- THE TIED CARD OF 'scarflaw27.ResolveFinds'. -/
def resolveFindsCard : Claim7 := { stood := { row := resolveFindsRow, standIns := [], harness := (true, "1b02deca58ff1f5e47494329bfa5fbd551ea2ee108d7d13c3bab97fddb5ecb77"), looks := true }, kinds := [], alts := [], laidByText := true, laidKinds := [.data, .data, .data, .data, .sentinel, .sentinel, .pinned], laidTests := true, laidLooks := .later }
def ResolveFindsCardSaid : Prop := Claim7.holds Tryz.pinned (.plain (OpenSpec.ofChange resolveFindsSpec)) resolveFindsCard

/-- THE SECOND FORM's CARD OF 'scarflaw27.ResolvePrints'. -/
def resolvePrintsUptoCard : Claim7 := { stood := { row := resolvePrintsUptoRow, standIns := [], harness := (true, "1b02deca58ff1f5e47494329bfa5fbd551ea2ee108d7d13c3bab97fddb5ecb77"), looks := true }, kinds := [], alts := [], laidByText := true, laidKinds := [.data, .data, .data, .data, .sentinel, .sentinel, .pinned], laidTests := true, laidLooks := .later }
def ResolvePrintsUptoCardSaid : Prop := Claim7.holds Tryz.pinned (.plain (OpenSpec.upto resolvePrintsSpec)) resolvePrintsUptoCard

/-- THE SECOND FORM's CARD OF 'scarflaw27.ResolveBack'. -/
def resolveBackUptoCard : Claim7 := { stood := { row := resolveBackUptoRow, standIns := [], harness := (true, "1b02deca58ff1f5e47494329bfa5fbd551ea2ee108d7d13c3bab97fddb5ecb77"), looks := true }, kinds := [], alts := [], laidByText := true, laidKinds := [.data, .data, .data, .data, .sentinel, .sentinel, .pinned], laidTests := true, laidLooks := .later }
def ResolveBackUptoCardSaid : Prop := Claim7.holds Tryz.pinned (.plain (OpenSpec.upto resolveBackSpec)) resolveBackUptoCard

/-- THE SECOND FORM's CARD OF 'scarflaw27.ResolveFinds'. -/
def resolveFindsUptoCard : Claim7 := { stood := { row := resolveFindsUptoRow, standIns := [], harness := (true, "1b02deca58ff1f5e47494329bfa5fbd551ea2ee108d7d13c3bab97fddb5ecb77"), looks := true }, kinds := [], alts := [], laidByText := true, laidKinds := [.data, .data, .data, .data, .sentinel, .sentinel, .pinned], laidTests := true, laidLooks := .later }
def ResolveFindsUptoCardSaid : Prop := Claim7.holds Tryz.pinned (.plain (OpenSpec.upto resolveFindsSpec)) resolveFindsUptoCard
end Rows
end Go.Proofs.YtgkmigdopohcnaaGreatDoor
