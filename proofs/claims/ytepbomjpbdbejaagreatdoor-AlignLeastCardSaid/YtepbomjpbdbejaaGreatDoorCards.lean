/-
  DERIVED. GIVEN WITH THE SEED: THE CARDS: each row of YtepbomjpbdbejaaGreatDoorRows.lean that lists a variable, with what it lists TIED to the program's text (the seventh form; the later family's looks); each row that meets fmt, with fmt's text TOLD by the authors' own Lean function (tested against real Go, not proved from fmt's source: count such statements apart). THE CARD IS WHAT COUNTS. Prove the row's statement (the work); the ties are given (YtepbomjpbdbejaaGreatDoorTie.lean); close each card by the builder's one call (the guide's Derived/Test/ToyasCard.lean, 'card_holds'). Laid BY PROGRAM, IN A SANDBOX (cutbox-door.mjs). By AI agents, Wed Nov 11 2026. No macro, syntax, notation, axiom, sorry.
-/
import Derived.Test.YtepbomjpbdbejaaGreatDoorRows
import GoSem.ClaimSeven
namespace Go.Proofs.YtepbomjpbdbejaaGreatDoor
namespace Rows

/-- THE TIED CARD OF 'scarflaw20.AlignRows'. -/
def alignRowsCard : Claim7 := { stood := { row := alignRowsRow, standIns := [], harness := (true, "3b047a04734fc5366f4b80cf99c9af8128f6d2e2f0178afbfbe16ed10a164602"), looks := true }, kinds := [], alts := [], laidByText := true, laidKinds := [.data, .data, .data, .data, .sentinel, .sentinel, .pinned], laidTests := true, laidLooks := .later }
def AlignRowsCardSaid : Prop := Claim7.holds Tryz.pinned (.plain (OpenSpec.ofChange alignRowsSpec)) alignRowsCard

/-- THE TIED CARD OF 'scarflaw20.AlignGaps'. -/
def alignGapsCard : Claim7 := { stood := { row := alignGapsRow, standIns := [], harness := (true, "3b047a04734fc5366f4b80cf99c9af8128f6d2e2f0178afbfbe16ed10a164602"), looks := true }, kinds := [], alts := [], laidByText := true, laidKinds := [.data, .data, .data, .data, .sentinel, .sentinel, .pinned], laidTests := true, laidLooks := .later }
def AlignGapsCardSaid : Prop := Claim7.holds Tryz.pinned (.plain (OpenSpec.ofChange alignGapsSpec)) alignGapsCard

/-- THE TIED CARD OF 'scarflaw20.AlignOnce'. -/
def alignOnceCard : Claim7 := { stood := { row := alignOnceRow, standIns := [], harness := (true, "3b047a04734fc5366f4b80cf99c9af8128f6d2e2f0178afbfbe16ed10a164602"), looks := true }, kinds := [], alts := [], laidByText := true, laidKinds := [.data, .data, .data, .data, .sentinel, .sentinel, .pinned], laidTests := true, laidLooks := .later }
def AlignOnceCardSaid : Prop := Claim7.holds Tryz.pinned (.plain (OpenSpec.ofChange alignOnceSpec)) alignOnceCard

/-- THE TIED CARD OF 'scarflaw20.AlignMore'. -/
def alignMoreCard : Claim7 := { stood := { row := alignMoreRow, standIns := [], harness := (true, "3b047a04734fc5366f4b80cf99c9af8128f6d2e2f0178afbfbe16ed10a164602"), looks := true }, kinds := [], alts := [], laidByText := true, laidKinds := [.data, .data, .data, .data, .sentinel, .sentinel, .pinned], laidTests := true, laidLooks := .later }
def AlignMoreCardSaid : Prop := Claim7.holds Tryz.pinned (.plain (OpenSpec.ofChange alignMoreSpec)) alignMoreCard

/-- THE TIED CARD OF 'scarflaw20.AlignLeast'. -/
def alignLeastCard : Claim7 := { stood := { row := alignLeastRow, standIns := [], harness := (true, "3b047a04734fc5366f4b80cf99c9af8128f6d2e2f0178afbfbe16ed10a164602"), looks := true }, kinds := [], alts := [], laidByText := true, laidKinds := [.data, .data, .data, .data, .sentinel, .sentinel, .pinned], laidTests := true, laidLooks := .later }
def AlignLeastCardSaid : Prop := Claim7.holds Tryz.pinned (.plain (OpenSpec.ofChange alignLeastSpec)) alignLeastCard

/-- THE SECOND FORM's CARD OF 'scarflaw20.AlignRows'. -/
def alignRowsUptoCard : Claim7 := { stood := { row := alignRowsUptoRow, standIns := [], harness := (true, "3b047a04734fc5366f4b80cf99c9af8128f6d2e2f0178afbfbe16ed10a164602"), looks := true }, kinds := [], alts := [], laidByText := true, laidKinds := [.data, .data, .data, .data, .sentinel, .sentinel, .pinned], laidTests := true, laidLooks := .later }
def AlignRowsUptoCardSaid : Prop := Claim7.holds Tryz.pinned (.plain (OpenSpec.upto alignRowsSpec)) alignRowsUptoCard

/-- THE SECOND FORM's CARD OF 'scarflaw20.AlignGaps'. -/
def alignGapsUptoCard : Claim7 := { stood := { row := alignGapsUptoRow, standIns := [], harness := (true, "3b047a04734fc5366f4b80cf99c9af8128f6d2e2f0178afbfbe16ed10a164602"), looks := true }, kinds := [], alts := [], laidByText := true, laidKinds := [.data, .data, .data, .data, .sentinel, .sentinel, .pinned], laidTests := true, laidLooks := .later }
def AlignGapsUptoCardSaid : Prop := Claim7.holds Tryz.pinned (.plain (OpenSpec.upto alignGapsSpec)) alignGapsUptoCard

/-- THE SECOND FORM's CARD OF 'scarflaw20.AlignOnce'. -/
def alignOnceUptoCard : Claim7 := { stood := { row := alignOnceUptoRow, standIns := [], harness := (true, "3b047a04734fc5366f4b80cf99c9af8128f6d2e2f0178afbfbe16ed10a164602"), looks := true }, kinds := [], alts := [], laidByText := true, laidKinds := [.data, .data, .data, .data, .sentinel, .sentinel, .pinned], laidTests := true, laidLooks := .later }
def AlignOnceUptoCardSaid : Prop := Claim7.holds Tryz.pinned (.plain (OpenSpec.upto alignOnceSpec)) alignOnceUptoCard

/-- THE SECOND FORM's CARD OF 'scarflaw20.AlignMore'. -/
def alignMoreUptoCard : Claim7 := { stood := { row := alignMoreUptoRow, standIns := [], harness := (true, "3b047a04734fc5366f4b80cf99c9af8128f6d2e2f0178afbfbe16ed10a164602"), looks := true }, kinds := [], alts := [], laidByText := true, laidKinds := [.data, .data, .data, .data, .sentinel, .sentinel, .pinned], laidTests := true, laidLooks := .later }
def AlignMoreUptoCardSaid : Prop := Claim7.holds Tryz.pinned (.plain (OpenSpec.upto alignMoreSpec)) alignMoreUptoCard

/-- THE SECOND FORM's CARD OF 'scarflaw20.AlignLeast'. -/
def alignLeastUptoCard : Claim7 := { stood := { row := alignLeastUptoRow, standIns := [], harness := (true, "3b047a04734fc5366f4b80cf99c9af8128f6d2e2f0178afbfbe16ed10a164602"), looks := true }, kinds := [], alts := [], laidByText := true, laidKinds := [.data, .data, .data, .data, .sentinel, .sentinel, .pinned], laidTests := true, laidLooks := .later }
def AlignLeastUptoCardSaid : Prop := Claim7.holds Tryz.pinned (.plain (OpenSpec.upto alignLeastSpec)) alignLeastUptoCard
end Rows
end Go.Proofs.YtepbomjpbdbejaaGreatDoor
