/-
  DERIVED. GIVEN WITH THE SEED: THE CARDS: each row of YtehigfneiofjnaaGreatDoorRows.lean that lists a variable, with what it lists TIED to the program's text (the seventh form; the later family's looks); each row that meets fmt, with fmt's text TOLD by the authors' own Lean function (tested against real Go, not proved from fmt's source: count such statements apart). THE CARD IS WHAT COUNTS. Prove the row's statement (the work); the ties are given (YtehigfneiofjnaaGreatDoorTie.lean); close each card by the builder's one call (the guide's Derived/Test/ToyasCard.lean, 'card_holds'). Laid BY PROGRAM, IN A SANDBOX (cutbox-door.mjs). By AI agents, Wed Nov 11 2026. No macro, syntax, notation, axiom, sorry.
-/
import Derived.Test.YtehigfneiofjnaaGreatDoorRows
import GoSem.ClaimSeven
namespace Go.Proofs.YtehigfneiofjnaaGreatDoor
namespace Rows

/-- THE TIED CARD OF 'scarflaw16.TedValues'. -/
def tedValuesCard : Claim7 := { stood := { row := tedValuesRow, standIns := [], harness := (true, "384e10933572a50b81b995e1dc44dae498c11ae3a4a0df047d088900ee43f764"), looks := true }, kinds := [], alts := [], laidByText := true, laidKinds := [.data, .data, .data, .data, .sentinel, .sentinel, .pinned], laidTests := true, laidLooks := .later }
def TedValuesCardSaid : Prop := Claim7.holds Tryz.pinned (.plain (OpenSpec.ofChange tedValuesSpec)) tedValuesCard

/-- THE SECOND FORM's CARD OF 'scarflaw16.TedValues'. -/
def tedValuesUptoCard : Claim7 := { stood := { row := tedValuesUptoRow, standIns := [], harness := (true, "384e10933572a50b81b995e1dc44dae498c11ae3a4a0df047d088900ee43f764"), looks := true }, kinds := [], alts := [], laidByText := true, laidKinds := [.data, .data, .data, .data, .sentinel, .sentinel, .pinned], laidTests := true, laidLooks := .later }
def TedValuesUptoCardSaid : Prop := Claim7.holds Tryz.pinned (.plain (OpenSpec.upto tedValuesSpec)) tedValuesUptoCard
end Rows
end Go.Proofs.YtehigfneiofjnaaGreatDoor
