/-
  DERIVED. GIVEN WITH THE SEED: THE CARDS: each row of YtcfbnmobfcabiaaDoorRows.lean that lists a variable, with what it lists TIED to the program's text (the seventh form; the later family's looks); each row that meets fmt, with fmt's text TOLD by the authors' own Lean function (tested against real Go, not proved from fmt's source: count such statements apart). THE CARD IS WHAT COUNTS. Prove the row's statement (the work); the ties are given (YtcfbnmobfcabiaaDoorTie.lean); close each card by the builder's one call (the guide's Derived/Test/ToyasCard.lean, 'card_holds'). Laid BY PROGRAM, IN A SANDBOX (cutbox-door.mjs). By AI agents, Wed Nov 11 2026. No macro, syntax, notation, axiom, sorry.
-/
import Derived.Test.YtcfbnmobfcabiaaDoorRows
import GoSem.ClaimSeven
namespace Go.Proofs.YtcfbnmobfcabiaaDoor
namespace Rows

/-- THE TIED CARD OF 'conciliatorlaw10.CodeDecodes'. -/
def codeDecodesCard : Claim7 := { stood := { row := codeDecodesRow, standIns := [], harness := (true, "3a2e64eabfc4bb3fe1b38f82acc03abe651b126a0ef4afb722249fb501933ad0"), looks := true }, kinds := [], alts := [], laidByText := true, laidKinds := [.data, .pinned], laidTests := true, laidLooks := .later }
def CodeDecodesCardSaid : Prop := Claim7.holds Tryd.pinned (.plain (OpenSpec.ofChange codeDecodesSpec)) codeDecodesCard

/-- THE TIED CARD OF 'conciliatorlaw10.CodeOnly'. -/
def codeOnlyCard : Claim7 := { stood := { row := codeOnlyRow, standIns := [], harness := (true, "3a2e64eabfc4bb3fe1b38f82acc03abe651b126a0ef4afb722249fb501933ad0"), looks := true }, kinds := [], alts := [], laidByText := true, laidKinds := [.data, .pinned], laidTests := true, laidLooks := .later }
def CodeOnlyCardSaid : Prop := Claim7.holds Tryd.pinned (.plain (OpenSpec.ofChange codeOnlySpec)) codeOnlyCard

/-- THE TIED CARD OF 'conciliatorlaw10.CodeValues'. -/
def codeValuesCard : Claim7 := { stood := { row := codeValuesRow, standIns := [], harness := (true, "3a2e64eabfc4bb3fe1b38f82acc03abe651b126a0ef4afb722249fb501933ad0"), looks := true }, kinds := [], alts := [], laidByText := true, laidKinds := [.data, .pinned], laidTests := true, laidLooks := .later }
def CodeValuesCardSaid : Prop := Claim7.holds Tryd.pinned (.plain (OpenSpec.ofChange codeValuesSpec)) codeValuesCard

/-- THE SECOND FORM's CARD OF 'conciliatorlaw10.CodeDecodes'. -/
def codeDecodesUptoCard : Claim7 := { stood := { row := codeDecodesUptoRow, standIns := [], harness := (true, "3a2e64eabfc4bb3fe1b38f82acc03abe651b126a0ef4afb722249fb501933ad0"), looks := true }, kinds := [], alts := [], laidByText := true, laidKinds := [.data, .pinned], laidTests := true, laidLooks := .later }
def CodeDecodesUptoCardSaid : Prop := Claim7.holds Tryd.pinned (.plain (OpenSpec.upto codeDecodesSpec)) codeDecodesUptoCard

/-- THE SECOND FORM's CARD OF 'conciliatorlaw10.CodeOnly'. -/
def codeOnlyUptoCard : Claim7 := { stood := { row := codeOnlyUptoRow, standIns := [], harness := (true, "3a2e64eabfc4bb3fe1b38f82acc03abe651b126a0ef4afb722249fb501933ad0"), looks := true }, kinds := [], alts := [], laidByText := true, laidKinds := [.data, .pinned], laidTests := true, laidLooks := .later }
def CodeOnlyUptoCardSaid : Prop := Claim7.holds Tryd.pinned (.plain (OpenSpec.upto codeOnlySpec)) codeOnlyUptoCard

/-- THE SECOND FORM's CARD OF 'conciliatorlaw10.CodeValues'. -/
def codeValuesUptoCard : Claim7 := { stood := { row := codeValuesUptoRow, standIns := [], harness := (true, "3a2e64eabfc4bb3fe1b38f82acc03abe651b126a0ef4afb722249fb501933ad0"), looks := true }, kinds := [], alts := [], laidByText := true, laidKinds := [.data, .pinned], laidTests := true, laidLooks := .later }
def CodeValuesUptoCardSaid : Prop := Claim7.holds Tryd.pinned (.plain (OpenSpec.upto codeValuesSpec)) codeValuesUptoCard
end Rows
end Go.Proofs.YtcfbnmobfcabiaaDoor
