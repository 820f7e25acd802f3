/-
  DERIVED. GIVEN WITH THE SEED: THE CARDS: each row of YtgcfhkceejcliaaGreatDoorRows.lean that lists a variable, with what it lists TIED to the program's text (the seventh form; the later family's looks); each row that meets fmt, with fmt's text TOLD by the authors' own Lean function (tested against real Go, not proved from fmt's source: count such statements apart). THE CARD IS WHAT COUNTS. Prove the row's statement (the work); the ties are given (YtgcfhkceejcliaaGreatDoorTie.lean); close each card by the builder's one call (the guide's Derived/Test/ToyasCard.lean, 'card_holds'). Laid BY PROGRAM, IN A SANDBOX (cutbox-door.mjs). By AI agents, Wed Nov 11 2026. No macro, syntax, notation, axiom, sorry.
-/
import Derived.Test.YtgcfhkceejcliaaGreatDoorRows
import GoSem.ClaimSeven
namespace Go.Proofs.YtgcfhkceejcliaaGreatDoor
namespace Rows

/-- THE TIED CARD OF 'conciliatorlaw10.CodeEncodes'. -/
def codeEncodesCard : Claim7 := { stood := { row := codeEncodesRow, standIns := [], harness := (true, "0f35a2e6962e3e306a9957f15fed0806a5e5a24b0bd0f4b49b19613cd51a0444"), looks := true }, kinds := [], alts := [], laidByText := true, laidKinds := [.data, .pinned], laidTests := true, laidLooks := .later }
def CodeEncodesCardSaid : Prop := Claim7.holds Tryz.pinned (.plain (OpenSpec.ofChange codeEncodesSpec)) codeEncodesCard

/-- THE TIED CARD OF 'conciliatorlaw10.CodeApart'. -/
def codeApartCard : Claim7 := { stood := { row := codeApartRow, standIns := [], harness := (true, "0f35a2e6962e3e306a9957f15fed0806a5e5a24b0bd0f4b49b19613cd51a0444"), looks := true }, kinds := [], alts := [], laidByText := true, laidKinds := [.data, .pinned], laidTests := true, laidLooks := .later }
def CodeApartCardSaid : Prop := Claim7.holds Tryz.pinned (.plain (OpenSpec.ofChange codeApartSpec)) codeApartCard

/-- THE SECOND FORM's CARD OF 'conciliatorlaw10.CodeEncodes'. -/
def codeEncodesUptoCard : Claim7 := { stood := { row := codeEncodesUptoRow, standIns := [], harness := (true, "0f35a2e6962e3e306a9957f15fed0806a5e5a24b0bd0f4b49b19613cd51a0444"), looks := true }, kinds := [], alts := [], laidByText := true, laidKinds := [.data, .pinned], laidTests := true, laidLooks := .later }
def CodeEncodesUptoCardSaid : Prop := Claim7.holds Tryz.pinned (.plain (OpenSpec.upto codeEncodesSpec)) codeEncodesUptoCard

/-- THE SECOND FORM's CARD OF 'conciliatorlaw10.CodeApart'. -/
def codeApartUptoCard : Claim7 := { stood := { row := codeApartUptoRow, standIns := [], harness := (true, "0f35a2e6962e3e306a9957f15fed0806a5e5a24b0bd0f4b49b19613cd51a0444"), looks := true }, kinds := [], alts := [], laidByText := true, laidKinds := [.data, .pinned], laidTests := true, laidLooks := .later }
def CodeApartUptoCardSaid : Prop := Claim7.holds Tryz.pinned (.plain (OpenSpec.upto codeApartSpec)) codeApartUptoCard
end Rows
end Go.Proofs.YtgcfhkceejcliaaGreatDoor
