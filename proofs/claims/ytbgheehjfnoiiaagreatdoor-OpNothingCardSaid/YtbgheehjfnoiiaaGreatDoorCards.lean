/-
  DERIVED. GIVEN WITH THE SEED: THE CARDS: each row of YtbgheehjfnoiiaaGreatDoorRows.lean that lists a variable, with what it lists TIED to the program's text (the seventh form; the later family's looks); each row that meets fmt, with fmt's text TOLD by the authors' own Lean function (tested against real Go, not proved from fmt's source: count such statements apart). THE CARD IS WHAT COUNTS. Prove the row's statement (the work); the ties are given (YtbgheehjfnoiiaaGreatDoorTie.lean); close each card by the builder's one call (the guide's Derived/Test/ToyasCard.lean, 'card_holds'). Laid BY PROGRAM, IN A SANDBOX (cutbox-door.mjs). By AI agents, Wed Nov 11 2026. No macro, syntax, notation, axiom, sorry.
-/
import Derived.Test.YtbgheehjfnoiiaaGreatDoorRows
import GoSem.ClaimSeven
namespace Go.Proofs.YtbgheehjfnoiiaaGreatDoor
namespace Rows

/-- THE TIED CARD OF 'conciliatorlaw09.InvUndone'. -/
def invUndoneCard : Claim7 := { stood := { row := invUndoneRow, standIns := [], harness := (true, "3c99e66d85120d6b8640d37ed226710f18f025e1c73d39a8e9db2747c2e38673"), looks := false }, kinds := [], alts := [], laidByText := true, laidKinds := [.data, .pinned], laidTests := true, laidLooks := .later }
def InvUndoneCardSaid : Prop := Claim7.holds Tryz.pinned (.plain (OpenSpec.ofChange invUndoneSpec)) invUndoneCard

/-- THE TIED CARD OF 'conciliatorlaw08.OpCrosses'. -/
def opCrossesCard : Claim7 := { stood := { row := opCrossesRow, standIns := [], harness := (true, "3c99e66d85120d6b8640d37ed226710f18f025e1c73d39a8e9db2747c2e38673"), looks := false }, kinds := [], alts := [], laidByText := true, laidKinds := [.data, .pinned], laidTests := true, laidLooks := .later }
def OpCrossesCardSaid : Prop := Claim7.holds Tryz.pinned (.plain (OpenSpec.ofChange opCrossesSpec)) opCrossesCard

/-- THE TIED CARD OF 'conciliatorlaw08.OpMeets'. -/
def opMeetsCard : Claim7 := { stood := { row := opMeetsRow, standIns := [], harness := (true, "3c99e66d85120d6b8640d37ed226710f18f025e1c73d39a8e9db2747c2e38673"), looks := false }, kinds := [], alts := [], laidByText := true, laidKinds := [.data, .pinned], laidTests := true, laidLooks := .later }
def OpMeetsCardSaid : Prop := Claim7.holds Tryz.pinned (.plain (OpenSpec.ofChange opMeetsSpec)) opMeetsCard

/-- THE TIED CARD OF 'conciliatorlaw08.OpParts'. -/
def opPartsCard : Claim7 := { stood := { row := opPartsRow, standIns := [], harness := (true, "3c99e66d85120d6b8640d37ed226710f18f025e1c73d39a8e9db2747c2e38673"), looks := false }, kinds := [], alts := [], laidByText := true, laidKinds := [.data, .pinned], laidTests := true, laidLooks := .later }
def OpPartsCardSaid : Prop := Claim7.holds Tryz.pinned (.plain (OpenSpec.ofChange opPartsSpec)) opPartsCard

/-- THE TIED CARD OF 'conciliatorlaw08.OpNothing'. -/
def opNothingCard : Claim7 := { stood := { row := opNothingRow, standIns := [], harness := (true, "3c99e66d85120d6b8640d37ed226710f18f025e1c73d39a8e9db2747c2e38673"), looks := false }, kinds := [], alts := [], laidByText := true, laidKinds := [.data, .pinned], laidTests := true, laidLooks := .later }
def OpNothingCardSaid : Prop := Claim7.holds Tryz.pinned (.plain (OpenSpec.ofChange opNothingSpec)) opNothingCard

/-- THE TIED CARD OF 'conciliatorlaw08.OpJoins'. -/
def opJoinsCard : Claim7 := { stood := { row := opJoinsRow, standIns := [], harness := (true, "3c99e66d85120d6b8640d37ed226710f18f025e1c73d39a8e9db2747c2e38673"), looks := false }, kinds := [], alts := [], laidByText := true, laidKinds := [.data, .pinned], laidTests := true, laidLooks := .later }
def OpJoinsCardSaid : Prop := Claim7.holds Tryz.pinned (.plain (OpenSpec.ofChange opJoinsSpec)) opJoinsCard

/-- THE TIED CARD OF 'conciliatorlaw08.OpDoes'. -/
def opDoesCard : Claim7 := { stood := { row := opDoesRow, standIns := [], harness := (true, "3c99e66d85120d6b8640d37ed226710f18f025e1c73d39a8e9db2747c2e38673"), looks := false }, kinds := [], alts := [], laidByText := true, laidKinds := [.data, .pinned], laidTests := true, laidLooks := .later }
def OpDoesCardSaid : Prop := Claim7.holds Tryz.pinned (.plain (OpenSpec.ofChange opDoesSpec)) opDoesCard

/-- THE SECOND FORM's CARD OF 'conciliatorlaw09.InvUndone'. -/
def invUndoneUptoCard : Claim7 := { stood := { row := invUndoneUptoRow, standIns := [], harness := (true, "3c99e66d85120d6b8640d37ed226710f18f025e1c73d39a8e9db2747c2e38673"), looks := false }, kinds := [], alts := [], laidByText := true, laidKinds := [.data, .pinned], laidTests := true, laidLooks := .later }
def InvUndoneUptoCardSaid : Prop := Claim7.holds Tryz.pinned (.plain (OpenSpec.upto invUndoneSpec)) invUndoneUptoCard

/-- THE SECOND FORM's CARD OF 'conciliatorlaw08.OpCrosses'. -/
def opCrossesUptoCard : Claim7 := { stood := { row := opCrossesUptoRow, standIns := [], harness := (true, "3c99e66d85120d6b8640d37ed226710f18f025e1c73d39a8e9db2747c2e38673"), looks := false }, kinds := [], alts := [], laidByText := true, laidKinds := [.data, .pinned], laidTests := true, laidLooks := .later }
def OpCrossesUptoCardSaid : Prop := Claim7.holds Tryz.pinned (.plain (OpenSpec.upto opCrossesSpec)) opCrossesUptoCard

/-- THE SECOND FORM's CARD OF 'conciliatorlaw08.OpMeets'. -/
def opMeetsUptoCard : Claim7 := { stood := { row := opMeetsUptoRow, standIns := [], harness := (true, "3c99e66d85120d6b8640d37ed226710f18f025e1c73d39a8e9db2747c2e38673"), looks := false }, kinds := [], alts := [], laidByText := true, laidKinds := [.data, .pinned], laidTests := true, laidLooks := .later }
def OpMeetsUptoCardSaid : Prop := Claim7.holds Tryz.pinned (.plain (OpenSpec.upto opMeetsSpec)) opMeetsUptoCard

/-- THE SECOND FORM's CARD OF 'conciliatorlaw08.OpParts'. -/
def opPartsUptoCard : Claim7 := { stood := { row := opPartsUptoRow, standIns := [], harness := (true, "3c99e66d85120d6b8640d37ed226710f18f025e1c73d39a8e9db2747c2e38673"), looks := false }, kinds := [], alts := [], laidByText := true, laidKinds := [.data, .pinned], laidTests := true, laidLooks := .later }
def OpPartsUptoCardSaid : Prop := Claim7.holds Tryz.pinned (.plain (OpenSpec.upto opPartsSpec)) opPartsUptoCard

/-- THE SECOND FORM's CARD OF 'conciliatorlaw08.OpNothing'. -/
def opNothingUptoCard : Claim7 := { stood := { row := opNothingUptoRow, standIns := [], harness := (true, "3c99e66d85120d6b8640d37ed226710f18f025e1c73d39a8e9db2747c2e38673"), looks := false }, kinds := [], alts := [], laidByText := true, laidKinds := [.data, .pinned], laidTests := true, laidLooks := .later }
def OpNothingUptoCardSaid : Prop := Claim7.holds Tryz.pinned (.plain (OpenSpec.upto opNothingSpec)) opNothingUptoCard

/-- THE SECOND FORM's CARD OF 'conciliatorlaw08.OpJoins'. -/
def opJoinsUptoCard : Claim7 := { stood := { row := opJoinsUptoRow, standIns := [], harness := (true, "3c99e66d85120d6b8640d37ed226710f18f025e1c73d39a8e9db2747c2e38673"), looks := false }, kinds := [], alts := [], laidByText := true, laidKinds := [.data, .pinned], laidTests := true, laidLooks := .later }
def OpJoinsUptoCardSaid : Prop := Claim7.holds Tryz.pinned (.plain (OpenSpec.upto opJoinsSpec)) opJoinsUptoCard

/-- THE SECOND FORM's CARD OF 'conciliatorlaw08.OpDoes'. -/
def opDoesUptoCard : Claim7 := { stood := { row := opDoesUptoRow, standIns := [], harness := (true, "3c99e66d85120d6b8640d37ed226710f18f025e1c73d39a8e9db2747c2e38673"), looks := false }, kinds := [], alts := [], laidByText := true, laidKinds := [.data, .pinned], laidTests := true, laidLooks := .later }
def OpDoesUptoCardSaid : Prop := Claim7.holds Tryz.pinned (.plain (OpenSpec.upto opDoesSpec)) opDoesUptoCard
end Rows
end Go.Proofs.YtbgheehjfnoiiaaGreatDoor
