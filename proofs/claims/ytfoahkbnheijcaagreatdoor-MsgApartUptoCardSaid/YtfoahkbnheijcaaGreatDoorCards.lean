/-
  DERIVED. GIVEN WITH THE SEED: THE CARDS: each row of YtfoahkbnheijcaaGreatDoorRows.lean that lists a variable, with what it lists TIED to the program's text (the seventh form; the later family's looks); each row that meets fmt, with fmt's text TOLD by the authors' own Lean function (tested against real Go, not proved from fmt's source: count such statements apart). THE CARD IS WHAT COUNTS. Prove the row's statement (the work); the ties are given (YtfoahkbnheijcaaGreatDoorTie.lean); close each card by the builder's one call (the guide's Derived/Test/ToyasCard.lean, 'card_holds'). Laid BY PROGRAM, IN A SANDBOX (cutbox-door.mjs). By AI agents, Wed Nov 11 2026. No macro, syntax, notation, axiom, sorry.
-/
import Derived.Test.YtfoahkbnheijcaaGreatDoorRows
import GoSem.ClaimSeven
namespace Go.Proofs.YtfoahkbnheijcaaGreatDoor
namespace Rows

/-- THE TIED CARD OF 'conciliatorlaw19.MsgApart'. -/
def msgApartCard : Claim7 := { stood := { row := msgApartRow, standIns := [], harness := (true, "d4266a6fda81487110f7a7ec1994b5aab333927df205826dd4c3a59cc797958c"), looks := true }, kinds := [], alts := [], laidByText := true, laidKinds := [.data, .pinned], laidTests := true, laidLooks := .later }
def MsgApartCardSaid : Prop := Claim7.holds Tryz.pinned (.plain (OpenSpec.ofChange msgApartSpec)) msgApartCard

/-- THE TIED CARD OF 'conciliatorlaw06.CompActs'. -/
def compActsCard : Claim7 := { stood := { row := compActsRow, standIns := [], harness := (true, "d4266a6fda81487110f7a7ec1994b5aab333927df205826dd4c3a59cc797958c"), looks := true }, kinds := [], alts := [], laidByText := true, laidKinds := [.data, .pinned], laidTests := true, laidLooks := .later }
def CompActsCardSaid : Prop := Claim7.holds Tryz.pinned (.plain (OpenSpec.ofChange compActsSpec)) compActsCard

/-- THE TIED CARD OF 'conciliatorlaw09.InvUndone'. -/
def invUndoneCard : Claim7 := { stood := { row := invUndoneRow, standIns := [], harness := (true, "d4266a6fda81487110f7a7ec1994b5aab333927df205826dd4c3a59cc797958c"), looks := true }, kinds := [], alts := [], laidByText := true, laidKinds := [.data, .pinned], laidTests := true, laidLooks := .later }
def InvUndoneCardSaid : Prop := Claim7.holds Tryz.pinned (.plain (OpenSpec.ofChange invUndoneSpec)) invUndoneCard

/-- THE TIED CARD OF 'conciliatorlaw09.InvTurns'. -/
def invTurnsCard : Claim7 := { stood := { row := invTurnsRow, standIns := [], harness := (true, "d4266a6fda81487110f7a7ec1994b5aab333927df205826dd4c3a59cc797958c"), looks := true }, kinds := [], alts := [], laidByText := true, laidKinds := [.data, .pinned], laidTests := true, laidLooks := .later }
def InvTurnsCardSaid : Prop := Claim7.holds Tryz.pinned (.plain (OpenSpec.ofChange invTurnsSpec)) invTurnsCard

/-- THE TIED CARD OF 'conciliatorlaw09.InvAll'. -/
def invAllCard : Claim7 := { stood := { row := invAllRow, standIns := [], harness := (true, "d4266a6fda81487110f7a7ec1994b5aab333927df205826dd4c3a59cc797958c"), looks := true }, kinds := [], alts := [], laidByText := true, laidKinds := [.data, .pinned], laidTests := true, laidLooks := .later }
def InvAllCardSaid : Prop := Claim7.holds Tryz.pinned (.plain (OpenSpec.ofChange invAllSpec)) invAllCard

/-- THE TIED CARD OF 'conciliatorlaw09.InvBack'. -/
def invBackCard : Claim7 := { stood := { row := invBackRow, standIns := [], harness := (true, "d4266a6fda81487110f7a7ec1994b5aab333927df205826dd4c3a59cc797958c"), looks := true }, kinds := [], alts := [], laidByText := true, laidKinds := [.data, .pinned], laidTests := true, laidLooks := .later }
def InvBackCardSaid : Prop := Claim7.holds Tryz.pinned (.plain (OpenSpec.ofChange invBackSpec)) invBackCard

/-- THE TIED CARD OF 'conciliatorlaw09.InvTwice'. -/
def invTwiceCard : Claim7 := { stood := { row := invTwiceRow, standIns := [], harness := (true, "d4266a6fda81487110f7a7ec1994b5aab333927df205826dd4c3a59cc797958c"), looks := true }, kinds := [], alts := [], laidByText := true, laidKinds := [.data, .pinned], laidTests := true, laidLooks := .later }
def InvTwiceCardSaid : Prop := Claim7.holds Tryz.pinned (.plain (OpenSpec.ofChange invTwiceSpec)) invTwiceCard

/-- THE SECOND FORM's CARD OF 'conciliatorlaw19.MsgApart'. -/
def msgApartUptoCard : Claim7 := { stood := { row := msgApartUptoRow, standIns := [], harness := (true, "d4266a6fda81487110f7a7ec1994b5aab333927df205826dd4c3a59cc797958c"), looks := true }, kinds := [], alts := [], laidByText := true, laidKinds := [.data, .pinned], laidTests := true, laidLooks := .later }
def MsgApartUptoCardSaid : Prop := Claim7.holds Tryz.pinned (.plain (OpenSpec.upto msgApartSpec)) msgApartUptoCard

/-- THE SECOND FORM's CARD OF 'conciliatorlaw06.CompActs'. -/
def compActsUptoCard : Claim7 := { stood := { row := compActsUptoRow, standIns := [], harness := (true, "d4266a6fda81487110f7a7ec1994b5aab333927df205826dd4c3a59cc797958c"), looks := true }, kinds := [], alts := [], laidByText := true, laidKinds := [.data, .pinned], laidTests := true, laidLooks := .later }
def CompActsUptoCardSaid : Prop := Claim7.holds Tryz.pinned (.plain (OpenSpec.upto compActsSpec)) compActsUptoCard

/-- THE SECOND FORM's CARD OF 'conciliatorlaw09.InvUndone'. -/
def invUndoneUptoCard : Claim7 := { stood := { row := invUndoneUptoRow, standIns := [], harness := (true, "d4266a6fda81487110f7a7ec1994b5aab333927df205826dd4c3a59cc797958c"), looks := true }, kinds := [], alts := [], laidByText := true, laidKinds := [.data, .pinned], laidTests := true, laidLooks := .later }
def InvUndoneUptoCardSaid : Prop := Claim7.holds Tryz.pinned (.plain (OpenSpec.upto invUndoneSpec)) invUndoneUptoCard

/-- THE SECOND FORM's CARD OF 'conciliatorlaw09.InvTurns'. -/
def invTurnsUptoCard : Claim7 := { stood := { row := invTurnsUptoRow, standIns := [], harness := (true, "d4266a6fda81487110f7a7ec1994b5aab333927df205826dd4c3a59cc797958c"), looks := true }, kinds := [], alts := [], laidByText := true, laidKinds := [.data, .pinned], laidTests := true, laidLooks := .later }
def InvTurnsUptoCardSaid : Prop := Claim7.holds Tryz.pinned (.plain (OpenSpec.upto invTurnsSpec)) invTurnsUptoCard

/-- THE SECOND FORM's CARD OF 'conciliatorlaw09.InvAll'. -/
def invAllUptoCard : Claim7 := { stood := { row := invAllUptoRow, standIns := [], harness := (true, "d4266a6fda81487110f7a7ec1994b5aab333927df205826dd4c3a59cc797958c"), looks := true }, kinds := [], alts := [], laidByText := true, laidKinds := [.data, .pinned], laidTests := true, laidLooks := .later }
def InvAllUptoCardSaid : Prop := Claim7.holds Tryz.pinned (.plain (OpenSpec.upto invAllSpec)) invAllUptoCard

/-- THE SECOND FORM's CARD OF 'conciliatorlaw09.InvBack'. -/
def invBackUptoCard : Claim7 := { stood := { row := invBackUptoRow, standIns := [], harness := (true, "d4266a6fda81487110f7a7ec1994b5aab333927df205826dd4c3a59cc797958c"), looks := true }, kinds := [], alts := [], laidByText := true, laidKinds := [.data, .pinned], laidTests := true, laidLooks := .later }
def InvBackUptoCardSaid : Prop := Claim7.holds Tryz.pinned (.plain (OpenSpec.upto invBackSpec)) invBackUptoCard

/-- THE SECOND FORM's CARD OF 'conciliatorlaw09.InvTwice'. -/
def invTwiceUptoCard : Claim7 := { stood := { row := invTwiceUptoRow, standIns := [], harness := (true, "d4266a6fda81487110f7a7ec1994b5aab333927df205826dd4c3a59cc797958c"), looks := true }, kinds := [], alts := [], laidByText := true, laidKinds := [.data, .pinned], laidTests := true, laidLooks := .later }
def InvTwiceUptoCardSaid : Prop := Claim7.holds Tryz.pinned (.plain (OpenSpec.upto invTwiceSpec)) invTwiceUptoCard
end Rows
end Go.Proofs.YtfoahkbnheijcaaGreatDoor
