/-
  DERIVED. GIVEN WITH THE SEED: THE CARDS: each row of YthceefjafklcmaaGreatDoorRows.lean that lists a variable, with what it lists TIED to the program's text (the seventh form; the later family's looks); each row that meets fmt, with fmt's text TOLD by the authors' own Lean function (tested against real Go, not proved from fmt's source: count such statements apart). THE CARD IS WHAT COUNTS. Prove the row's statement (the work); the ties are given (YthceefjafklcmaaGreatDoorTie.lean); close each card by the builder's one call (the guide's Derived/Test/ToyasCard.lean, 'card_holds'). Laid BY PROGRAM, IN A SANDBOX (cutbox-door.mjs). By AI agents, Wed Nov 11 2026. No macro, syntax, notation, axiom, sorry.
-/
import Derived.Test.YthceefjafklcmaaGreatDoorRows
import GoSem.ClaimSeven
namespace Go.Proofs.YthceefjafklcmaaGreatDoor
namespace Rows

/-- THE TIED CARD OF 'conciliatorlaw19.MsgDecodes'. -/
def msgDecodesCard : Claim7 := { stood := { row := msgDecodesRow, standIns := [], harness := (true, "bd11624872e7f59cab000387342624bcd57ce4f0f43272ada2cc676c07f9dfb7"), looks := true }, kinds := [], alts := [], laidByText := true, laidKinds := [.data, .pinned], laidTests := true, laidLooks := .later }
def MsgDecodesCardSaid : Prop := Claim7.holds Tryz.pinned (.plain (OpenSpec.ofChange msgDecodesSpec)) msgDecodesCard

/-- THE SECOND FORM's CARD OF 'conciliatorlaw19.MsgDecodes'. -/
def msgDecodesUptoCard : Claim7 := { stood := { row := msgDecodesUptoRow, standIns := [], harness := (true, "bd11624872e7f59cab000387342624bcd57ce4f0f43272ada2cc676c07f9dfb7"), looks := true }, kinds := [], alts := [], laidByText := true, laidKinds := [.data, .pinned], laidTests := true, laidLooks := .later }
def MsgDecodesUptoCardSaid : Prop := Claim7.holds Tryz.pinned (.plain (OpenSpec.upto msgDecodesSpec)) msgDecodesUptoCard
end Rows
end Go.Proofs.YthceefjafklcmaaGreatDoor
