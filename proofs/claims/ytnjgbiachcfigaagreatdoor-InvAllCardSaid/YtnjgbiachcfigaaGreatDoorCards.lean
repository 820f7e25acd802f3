/-
  DERIVED. GIVEN WITH THE SEED: THE CARDS: each row of YtnjgbiachcfigaaGreatDoorRows.lean that lists a variable, with what it lists TIED to the program's text (the seventh form; the later family's looks); each row that meets fmt, with fmt's text TOLD by the authors' own Lean function (tested against real Go, not proved from fmt's source: count such statements apart). THE CARD IS WHAT COUNTS. Prove the row's statement (the work); the ties are given (YtnjgbiachcfigaaGreatDoorTie.lean); close each card by the builder's one call (the guide's Derived/Test/ToyasCard.lean, 'card_holds'). Laid BY PROGRAM, IN A SANDBOX (cutbox-door.mjs). By AI agents, Wed Nov 11 2026. No macro, syntax, notation, axiom, sorry.
-/
import Derived.Test.YtnjgbiachcfigaaGreatDoorRows
import GoSem.ClaimSeven
namespace Go.Proofs.YtnjgbiachcfigaaGreatDoor
namespace Rows

/-- THE TIED CARD OF 'conciliatorlaw06.CompActs'. -/
def compActsCard : Claim7 := { stood := { row := compActsRow, standIns := [], harness := (true, "9b67501549c42368574f3868b78a070074ef468d6e3c7cfc7534c9d5629ea2d6"), looks := false }, kinds := [], alts := [], laidByText := true, laidKinds := [.data, .pinned], laidTests := true, laidLooks := .later }
def CompActsCardSaid : Prop := Claim7.holds Tryz.pinned (.plain (OpenSpec.ofChange compActsSpec)) compActsCard

/-- THE TIED CARD OF 'conciliatorlaw09.InvUndone'. -/
def invUndoneCard : Claim7 := { stood := { row := invUndoneRow, standIns := [], harness := (true, "9b67501549c42368574f3868b78a070074ef468d6e3c7cfc7534c9d5629ea2d6"), looks := false }, kinds := [], alts := [], laidByText := true, laidKinds := [.data, .pinned], laidTests := true, laidLooks := .later }
def InvUndoneCardSaid : Prop := Claim7.holds Tryz.pinned (.plain (OpenSpec.ofChange invUndoneSpec)) invUndoneCard

/-- THE TIED CARD OF 'conciliatorlaw09.InvTurns'. -/
def invTurnsCard : Claim7 := { stood := { row := invTurnsRow, standIns := [], harness := (true, "9b67501549c42368574f3868b78a070074ef468d6e3c7cfc7534c9d5629ea2d6"), looks := false }, kinds := [], alts := [], laidByText := true, laidKinds := [.data, .pinned], laidTests := true, laidLooks := .later }
def InvTurnsCardSaid : Prop := Claim7.holds Tryz.pinned (.plain (OpenSpec.ofChange invTurnsSpec)) invTurnsCard

/-- THE TIED CARD OF 'conciliatorlaw09.InvAll'. -/
def invAllCard : Claim7 := { stood := { row := invAllRow, standIns := [], harness := (true, "9b67501549c42368574f3868b78a070074ef468d6e3c7cfc7534c9d5629ea2d6"), looks := false }, kinds := [], alts := [], laidByText := true, laidKinds := [.data, .pinned], laidTests := true, laidLooks := .later }
def InvAllCardSaid : Prop := Claim7.holds Tryz.pinned (.plain (OpenSpec.ofChange invAllSpec)) invAllCard

/-- THE TIED CARD OF 'conciliatorlaw09.InvBack'. -/
def invBackCard : Claim7 := { stood := { row := invBackRow, standIns := [], harness := (true, "9b67501549c42368574f3868b78a070074ef468d6e3c7cfc7534c9d5629ea2d6"), looks := false }, kinds := [], alts := [], laidByText := true, laidKinds := [.data, .pinned], laidTests := true, laidLooks := .later }
def InvBackCardSaid : Prop := Claim7.holds Tryz.pinned (.plain (OpenSpec.ofChange invBackSpec)) invBackCard

/-- THE TIED CARD OF 'conciliatorlaw09.InvTwice'. -/
def invTwiceCard : Claim7 := { stood := { row := invTwiceRow, standIns := [], harness := (true, "9b67501549c42368574f3868b78a070074ef468d6e3c7cfc7534c9d5629ea2d6"), looks := false }, kinds := [], alts := [], laidByText := true, laidKinds := [.data, .pinned], laidTests := true, laidLooks := .later }
def InvTwiceCardSaid : Prop := Claim7.holds Tryz.pinned (.plain (OpenSpec.ofChange invTwiceSpec)) invTwiceCard

/-- THE TIED CARD OF 'conciliatorlaw09.InvRefuses'. -/
def invRefusesCard : Claim7 := { stood := { row := invRefusesRow, standIns := [], harness := (true, "9b67501549c42368574f3868b78a070074ef468d6e3c7cfc7534c9d5629ea2d6"), looks := false }, kinds := [], alts := [], laidByText := true, laidKinds := [.data, .pinned], laidTests := true, laidLooks := .later }
def InvRefusesCardSaid : Prop := Claim7.holds Tryz.pinned (.plain (OpenSpec.ofChange invRefusesSpec)) invRefusesCard

/-- THE SECOND FORM's CARD OF 'conciliatorlaw06.CompActs'. -/
def compActsUptoCard : Claim7 := { stood := { row := compActsUptoRow, standIns := [], harness := (true, "9b67501549c42368574f3868b78a070074ef468d6e3c7cfc7534c9d5629ea2d6"), looks := false }, kinds := [], alts := [], laidByText := true, laidKinds := [.data, .pinned], laidTests := true, laidLooks := .later }
def CompActsUptoCardSaid : Prop := Claim7.holds Tryz.pinned (.plain (OpenSpec.upto compActsSpec)) compActsUptoCard

/-- THE SECOND FORM's CARD OF 'conciliatorlaw09.InvUndone'. -/
def invUndoneUptoCard : Claim7 := { stood := { row := invUndoneUptoRow, standIns := [], harness := (true, "9b67501549c42368574f3868b78a070074ef468d6e3c7cfc7534c9d5629ea2d6"), looks := false }, kinds := [], alts := [], laidByText := true, laidKinds := [.data, .pinned], laidTests := true, laidLooks := .later }
def InvUndoneUptoCardSaid : Prop := Claim7.holds Tryz.pinned (.plain (OpenSpec.upto invUndoneSpec)) invUndoneUptoCard

/-- THE SECOND FORM's CARD OF 'conciliatorlaw09.InvTurns'. -/
def invTurnsUptoCard : Claim7 := { stood := { row := invTurnsUptoRow, standIns := [], harness := (true, "9b67501549c42368574f3868b78a070074ef468d6e3c7cfc7534c9d5629ea2d6"), looks := false }, kinds := [], alts := [], laidByText := true, laidKinds := [.data, .pinned], laidTests := true, laidLooks := .later }
def InvTurnsUptoCardSaid : Prop := Claim7.holds Tryz.pinned (.plain (OpenSpec.upto invTurnsSpec)) invTurnsUptoCard

/-- THE SECOND FORM's CARD OF 'conciliatorlaw09.InvAll'. -/
def invAllUptoCard : Claim7 := { stood := { row := invAllUptoRow, standIns := [], harness := (true, "9b67501549c42368574f3868b78a070074ef468d6e3c7cfc7534c9d5629ea2d6"), looks := false }, kinds := [], alts := [], laidByText := true, laidKinds := [.data, .pinned], laidTests := true, laidLooks := .later }
def InvAllUptoCardSaid : Prop := Claim7.holds Tryz.pinned (.plain (OpenSpec.upto invAllSpec)) invAllUptoCard

/-- THE SECOND FORM's CARD OF 'conciliatorlaw09.InvBack'. -/
def invBackUptoCard : Claim7 := { stood := { row := invBackUptoRow, standIns := [], harness := (true, "9b67501549c42368574f3868b78a070074ef468d6e3c7cfc7534c9d5629ea2d6"), looks := false }, kinds := [], alts := [], laidByText := true, laidKinds := [.data, .pinned], laidTests := true, laidLooks := .later }
def InvBackUptoCardSaid : Prop := Claim7.holds Tryz.pinned (.plain (OpenSpec.upto invBackSpec)) invBackUptoCard

/-- THE SECOND FORM's CARD OF 'conciliatorlaw09.InvTwice'. -/
def invTwiceUptoCard : Claim7 := { stood := { row := invTwiceUptoRow, standIns := [], harness := (true, "9b67501549c42368574f3868b78a070074ef468d6e3c7cfc7534c9d5629ea2d6"), looks := false }, kinds := [], alts := [], laidByText := true, laidKinds := [.data, .pinned], laidTests := true, laidLooks := .later }
def InvTwiceUptoCardSaid : Prop := Claim7.holds Tryz.pinned (.plain (OpenSpec.upto invTwiceSpec)) invTwiceUptoCard

/-- THE SECOND FORM's CARD OF 'conciliatorlaw09.InvRefuses'. -/
def invRefusesUptoCard : Claim7 := { stood := { row := invRefusesUptoRow, standIns := [], harness := (true, "9b67501549c42368574f3868b78a070074ef468d6e3c7cfc7534c9d5629ea2d6"), looks := false }, kinds := [], alts := [], laidByText := true, laidKinds := [.data, .pinned], laidTests := true, laidLooks := .later }
def InvRefusesUptoCardSaid : Prop := Claim7.holds Tryz.pinned (.plain (OpenSpec.upto invRefusesSpec)) invRefusesUptoCard
end Rows
end Go.Proofs.YtnjgbiachcfigaaGreatDoor
