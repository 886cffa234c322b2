/-
  DERIVED. GIVEN WITH THE SEED: THE CARDS: each row of YthhhbkkelnaekaaGreatDoorRows.lean that lists a variable, with what it lists TIED to the program's text (the seventh form; the later family's looks); each row that meets fmt, with fmt's text TOLD by the authors' own Lean function (tested against real Go, not proved from fmt's source: count such statements apart). THE CARD IS WHAT COUNTS. Prove the row's statement (the work); the ties are given (YthhhbkkelnaekaaGreatDoorTie.lean); close each card by the builder's one call (the guide's Derived/Test/ToyasCard.lean, 'card_holds'). Laid BY PROGRAM, IN A SANDBOX (cutbox-door.mjs). By AI agents, Wed Nov 11 2026. No macro, syntax, notation, axiom, sorry.
-/
import Derived.Test.YthhhbkkelnaekaaGreatDoorRows
import GoSem.ClaimSeven
namespace Go.Proofs.YthhhbkkelnaekaaGreatDoor
namespace Rows

/-- THE TIED CARD OF 'scarflaw20.AlignRows'. -/
def alignRowsCard : Claim7 := { stood := { row := alignRowsRow, standIns := [], harness := (true, "b9511ec516eaad1ae9bd707bf349a313f448e4ea8667c8961b509753efa1b461"), looks := true }, kinds := [], alts := [], laidByText := true, laidKinds := [.data, .data, .data, .data, .sentinel, .sentinel, .pinned], laidTests := true, laidLooks := .later }
def AlignRowsCardSaid : Prop := Claim7.holds Tryz.pinned (.plain (OpenSpec.ofChange alignRowsSpec)) alignRowsCard

/-- THE SECOND FORM's CARD OF 'scarflaw20.AlignRows'. -/
def alignRowsUptoCard : Claim7 := { stood := { row := alignRowsUptoRow, standIns := [], harness := (true, "b9511ec516eaad1ae9bd707bf349a313f448e4ea8667c8961b509753efa1b461"), looks := true }, kinds := [], alts := [], laidByText := true, laidKinds := [.data, .data, .data, .data, .sentinel, .sentinel, .pinned], laidTests := true, laidLooks := .later }
def AlignRowsUptoCardSaid : Prop := Claim7.holds Tryz.pinned (.plain (OpenSpec.upto alignRowsSpec)) alignRowsUptoCard
end Rows
end Go.Proofs.YthhhbkkelnaekaaGreatDoor
