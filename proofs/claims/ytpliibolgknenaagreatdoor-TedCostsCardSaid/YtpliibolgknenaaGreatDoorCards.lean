/-
  DERIVED. GIVEN WITH THE SEED: THE CARDS: each row of YtpliibolgknenaaGreatDoorRows.lean that lists a variable, with what it lists TIED to the program's text (the seventh form; the later family's looks); each row that meets fmt, with fmt's text TOLD by the authors' own Lean function (tested against real Go, not proved from fmt's source: count such statements apart). THE CARD IS WHAT COUNTS. Prove the row's statement (the work); the ties are given (YtpliibolgknenaaGreatDoorTie.lean); close each card by the builder's one call (the guide's Derived/Test/ToyasCard.lean, 'card_holds'). Laid BY PROGRAM, IN A SANDBOX (cutbox-door.mjs). By AI agents, Wed Nov 11 2026. No macro, syntax, notation, axiom, sorry.
-/
import Derived.Test.YtpliibolgknenaaGreatDoorRows
import GoSem.ClaimSeven
namespace Go.Proofs.YtpliibolgknenaaGreatDoor
namespace Rows

/-- THE TIED CARD OF 'scarflaw16.TedValues'. -/
def tedValuesCard : Claim7 := { stood := { row := tedValuesRow, standIns := [], harness := (true, "4d16cb2bbea105d4ad904949ae4d032a5eae47a69e6a2bad605ae6bd9cbad3be"), looks := true }, kinds := [], alts := [], laidByText := true, laidKinds := [.data, .data, .data, .data, .sentinel, .sentinel, .pinned], laidTests := true, laidLooks := .later }
def TedValuesCardSaid : Prop := Claim7.holds Tryz.pinned (.plain (OpenSpec.ofChange tedValuesSpec)) tedValuesCard

/-- THE TIED CARD OF 'scarflaw16.TedFar'. -/
def tedFarCard : Claim7 := { stood := { row := tedFarRow, standIns := [], harness := (true, "4d16cb2bbea105d4ad904949ae4d032a5eae47a69e6a2bad605ae6bd9cbad3be"), looks := true }, kinds := [], alts := [], laidByText := true, laidKinds := [.data, .data, .data, .data, .sentinel, .sentinel, .pinned], laidTests := true, laidLooks := .later }
def TedFarCardSaid : Prop := Claim7.holds Tryz.pinned (.plain (OpenSpec.ofChange tedFarSpec)) tedFarCard

/-- THE TIED CARD OF 'scarflaw16.TedTurns'. -/
def tedTurnsCard : Claim7 := { stood := { row := tedTurnsRow, standIns := [], harness := (true, "4d16cb2bbea105d4ad904949ae4d032a5eae47a69e6a2bad605ae6bd9cbad3be"), looks := true }, kinds := [], alts := [], laidByText := true, laidKinds := [.data, .data, .data, .data, .sentinel, .sentinel, .pinned], laidTests := true, laidLooks := .later }
def TedTurnsCardSaid : Prop := Claim7.holds Tryz.pinned (.plain (OpenSpec.ofChange tedTurnsSpec)) tedTurnsCard

/-- THE TIED CARD OF 'scarflaw16.TedCosts'. -/
def tedCostsCard : Claim7 := { stood := { row := tedCostsRow, standIns := [], harness := (true, "4d16cb2bbea105d4ad904949ae4d032a5eae47a69e6a2bad605ae6bd9cbad3be"), looks := true }, kinds := [], alts := [], laidByText := true, laidKinds := [.data, .data, .data, .data, .sentinel, .sentinel, .pinned], laidTests := true, laidLooks := .later }
def TedCostsCardSaid : Prop := Claim7.holds Tryz.pinned (.plain (OpenSpec.ofChange tedCostsSpec)) tedCostsCard

/-- THE TIED CARD OF 'scarflaw16.TedNone'. -/
def tedNoneCard : Claim7 := { stood := { row := tedNoneRow, standIns := [], harness := (true, "4d16cb2bbea105d4ad904949ae4d032a5eae47a69e6a2bad605ae6bd9cbad3be"), looks := true }, kinds := [], alts := [], laidByText := true, laidKinds := [.data, .data, .data, .data, .sentinel, .sentinel, .pinned], laidTests := true, laidLooks := .later }
def TedNoneCardSaid : Prop := Claim7.holds Tryz.pinned (.plain (OpenSpec.ofChange tedNoneSpec)) tedNoneCard

/-- THE SECOND FORM's CARD OF 'scarflaw16.TedValues'. -/
def tedValuesUptoCard : Claim7 := { stood := { row := tedValuesUptoRow, standIns := [], harness := (true, "4d16cb2bbea105d4ad904949ae4d032a5eae47a69e6a2bad605ae6bd9cbad3be"), looks := true }, kinds := [], alts := [], laidByText := true, laidKinds := [.data, .data, .data, .data, .sentinel, .sentinel, .pinned], laidTests := true, laidLooks := .later }
def TedValuesUptoCardSaid : Prop := Claim7.holds Tryz.pinned (.plain (OpenSpec.upto tedValuesSpec)) tedValuesUptoCard

/-- THE SECOND FORM's CARD OF 'scarflaw16.TedFar'. -/
def tedFarUptoCard : Claim7 := { stood := { row := tedFarUptoRow, standIns := [], harness := (true, "4d16cb2bbea105d4ad904949ae4d032a5eae47a69e6a2bad605ae6bd9cbad3be"), looks := true }, kinds := [], alts := [], laidByText := true, laidKinds := [.data, .data, .data, .data, .sentinel, .sentinel, .pinned], laidTests := true, laidLooks := .later }
def TedFarUptoCardSaid : Prop := Claim7.holds Tryz.pinned (.plain (OpenSpec.upto tedFarSpec)) tedFarUptoCard

/-- THE SECOND FORM's CARD OF 'scarflaw16.TedTurns'. -/
def tedTurnsUptoCard : Claim7 := { stood := { row := tedTurnsUptoRow, standIns := [], harness := (true, "4d16cb2bbea105d4ad904949ae4d032a5eae47a69e6a2bad605ae6bd9cbad3be"), looks := true }, kinds := [], alts := [], laidByText := true, laidKinds := [.data, .data, .data, .data, .sentinel, .sentinel, .pinned], laidTests := true, laidLooks := .later }
def TedTurnsUptoCardSaid : Prop := Claim7.holds Tryz.pinned (.plain (OpenSpec.upto tedTurnsSpec)) tedTurnsUptoCard

/-- THE SECOND FORM's CARD OF 'scarflaw16.TedCosts'. -/
def tedCostsUptoCard : Claim7 := { stood := { row := tedCostsUptoRow, standIns := [], harness := (true, "4d16cb2bbea105d4ad904949ae4d032a5eae47a69e6a2bad605ae6bd9cbad3be"), looks := true }, kinds := [], alts := [], laidByText := true, laidKinds := [.data, .data, .data, .data, .sentinel, .sentinel, .pinned], laidTests := true, laidLooks := .later }
def TedCostsUptoCardSaid : Prop := Claim7.holds Tryz.pinned (.plain (OpenSpec.upto tedCostsSpec)) tedCostsUptoCard

/-- THE SECOND FORM's CARD OF 'scarflaw16.TedNone'. -/
def tedNoneUptoCard : Claim7 := { stood := { row := tedNoneUptoRow, standIns := [], harness := (true, "4d16cb2bbea105d4ad904949ae4d032a5eae47a69e6a2bad605ae6bd9cbad3be"), looks := true }, kinds := [], alts := [], laidByText := true, laidKinds := [.data, .data, .data, .data, .sentinel, .sentinel, .pinned], laidTests := true, laidLooks := .later }
def TedNoneUptoCardSaid : Prop := Claim7.holds Tryz.pinned (.plain (OpenSpec.upto tedNoneSpec)) tedNoneUptoCard
end Rows
end Go.Proofs.YtpliibolgknenaaGreatDoor
