/-
  DERIVED. GIVEN WITH THE SEED: THE CARDS: each row of YthceefjafklcmaaDoorRows.lean that lists a variable, with what it lists TIED to the program's text (the seventh form; the later family's looks); each row that meets fmt, with fmt's text TOLD by the authors' own Lean function (tested against real Go, not proved from fmt's source: count such statements apart). THE CARD IS WHAT COUNTS. Prove the row's statement (the work); the ties are given (YthceefjafklcmaaDoorTie.lean); close each card by the builder's one call (the guide's Derived/Test/ToyasCard.lean, 'card_holds'). Laid BY PROGRAM, IN A SANDBOX (cutbox-door.mjs). By AI agents, Wed Nov 11 2026. No macro, syntax, notation, axiom, sorry.
-/
import Derived.Test.YthceefjafklcmaaDoorRows
import GoSem.ClaimSeven
namespace Go.Proofs.YthceefjafklcmaaDoor
namespace Rows

/-- THE TIED CARD OF 'conciliatorlaw19.MsgOnly'. -/
def msgOnlyCard : Claim7 := { stood := { row := msgOnlyRow, standIns := [], harness := (true, "eeb33b3ce7fdfd27a7d74974d55edc2eb9a42a4a2364f8493f97494bb062b6e1"), looks := true }, kinds := [], alts := [], laidByText := true, laidKinds := [.data, .pinned], laidTests := true, laidLooks := .later }
def MsgOnlyCardSaid : Prop := Claim7.holds Tryd.pinned (.plain (OpenSpec.ofChange msgOnlySpec)) msgOnlyCard

/-- THE SECOND FORM's CARD OF 'conciliatorlaw19.MsgOnly'. -/
def msgOnlyUptoCard : Claim7 := { stood := { row := msgOnlyUptoRow, standIns := [], harness := (true, "eeb33b3ce7fdfd27a7d74974d55edc2eb9a42a4a2364f8493f97494bb062b6e1"), looks := true }, kinds := [], alts := [], laidByText := true, laidKinds := [.data, .pinned], laidTests := true, laidLooks := .later }
def MsgOnlyUptoCardSaid : Prop := Claim7.holds Tryd.pinned (.plain (OpenSpec.upto msgOnlySpec)) msgOnlyUptoCard
end Rows
end Go.Proofs.YthceefjafklcmaaDoor
