/-
  NARROWER THAN 'FOR EVERY INPUT', by the rows' own cells (each row's printed sentence says how): CompActs: laid · InvUndone: laid · InvTurns: laid · InvAll: laid · InvBack: laid · InvTwice: laid · InvRefuses: laid.
  DERIVED. THE GIVEN ROWS OF THIS SEAT. 7 by the template 'for every input the law returns true; each argument reads behind the call as it read before'; 0 by the template 'total and deterministic' (their statements: YtnjgbiachcfigaaGreatDoorTotals.lean).
  GIVEN WITH THE SEED: the statements are not yours to turn. If you find one false, say at which input.
  Laid BY PROGRAM, IN A SANDBOX (cutbox-rows.mjs): the forced cells as the released guide's own fill.sh prints them over the translation 146272b3699e2086… (all of the seat's roots in one cut). By AI agents, Wed Nov 11 2026. No macro, syntax, notation, axiom, sorry.
-/
import Derived.Test.YtnjgbiachcfigaaGreatDoorChecked
import GoSem.PinnedTables
import GoSem.Claim
import GoSem.ClaimJoined
import GoSem.ClaimMapViews
import Derived.JoinedTies
import Derived.KernelRfl
namespace Go.Proofs.YtnjgbiachcfigaaGreatDoor
/- THE CELL 'sum', in the pinned program and in every row, IS THE sha256 OF THE DUMP (.gsa) THAT YtnjgbiachcfigaaGreatDoorProg.lean LOADS. Nothing in Lean hashes anything: it is a label: what it is worth is what the hold of that sum in a sandbox is worth. -/
noncomputable def Tryz.pinned : Pinned := { name := "ytnjgbiachcfigaagreatdoor", sum := "146272b3699e20869c229f510fa0ca30db23679074af6e87ab00797abc161e75", checked := Tryz.checked }
namespace Rows
def none {H : Type} : Left H := { results := [], args := [] }

/- WHAT THE LISTED PACKAGE-LEVEL VARIABLES READ AS WHEN THE CALL BEGINS. Each datum BY PROGRAM (the guide's laid-datum.mjs) off the statement by which the dump's own 'gosem.cut.vars' lays the variable. In a bare row this is a premise. The card (YtnjgbiachcfigaaGreatDoorCards.lean) ties it to the program's text. -/
def laid_unicode_utf8_acceptRanges {H : Type} : DataW H := .agg [.agg [.lit (.int .u8 128), .lit (.int .u8 191)], .agg [.lit (.int .u8 160), .lit (.int .u8 191)], .agg [.lit (.int .u8 128), .lit (.int .u8 159)], .agg [.lit (.int .u8 144), .lit (.int .u8 191)], .agg [.lit (.int .u8 128), .lit (.int .u8 143)], .agg [.lit (.int .u8 0), .lit (.int .u8 0)], .agg [.lit (.int .u8 0), .lit (.int .u8 0)], .agg [.lit (.int .u8 0), .lit (.int .u8 0)], .agg [.lit (.int .u8 0), .lit (.int .u8 0)], .agg [.lit (.int .u8 0), .lit (.int .u8 0)], .agg [.lit (.int .u8 0), .lit (.int .u8 0)], .agg [.lit (.int .u8 0), .lit (.int .u8 0)], .agg [.lit (.int .u8 0), .lit (.int .u8 0)], .agg [.lit (.int .u8 0), .lit (.int .u8 0)], .agg [.lit (.int .u8 0), .lit (.int .u8 0)], .agg [.lit (.int .u8 0), .lit (.int .u8 0)]]
/-- One of Go's own tables, pinned by name: the form's constant. -/
def laid_unicode_utf8_first : DataW Unit := Go.Pinned.utf8First

/-- 'conciliatorlaw06.CompActs': WHATEVER THE INPUT: true; the input reads as it did. -/
def compActsSpec : ChangeSpec := { name := "compActs", fn := fun _ => fun
  | [d1, d2] => { results := [.lit (.bool true)], args := [d1, d2] }
  | _ => none }
def compActsRow : OpenClaim := { program := "ytnjgbiachcfigaagreatdoor", sum := "146272b3699e20869c229f510fa0ca30db23679074af6e87ab00797abc161e75", func := "conciliator/conciliatorlaw06.CompActs", spec := "compActs", inPlace := ["slices.overlaps[conciliator/api.Field]", "slices.overlaps[conciliator/api.Val]"], unfollowed := true, recurses := true, named := ["unicode/utf8.first", "unicode/utf8.acceptRanges"], apart := false, laid := [("unicode/utf8.acceptRanges", laid_unicode_utf8_acceptRanges), ("unicode/utf8.first", laid_unicode_utf8_first)] }
def CompActsSaid : Prop := compActsRow.holds Tryz.pinned (OpenSpec.ofChange compActsSpec)

/-- ITS FALSE NEIGHBOUR: 'it returns false'. Refute it at one input. -/
def compActsWrong : ChangeSpec := { name := "compActs", fn := fun _ => fun
  | [d1, d2] => { results := [.lit (.bool false)], args := [d1, d2] }
  | _ => none }
def CompActsWrongFalsely : Prop := compActsRow.holds Tryz.pinned (OpenSpec.ofChange compActsWrong)

/-- 'conciliatorlaw09.InvUndone': WHATEVER THE INPUT: true; the input reads as it did. -/
def invUndoneSpec : ChangeSpec := { name := "invUndone", fn := fun _ => fun
  | [d1, d2] => { results := [.lit (.bool true)], args := [d1, d2] }
  | _ => none }
def invUndoneRow : OpenClaim := { program := "ytnjgbiachcfigaagreatdoor", sum := "146272b3699e20869c229f510fa0ca30db23679074af6e87ab00797abc161e75", func := "conciliator/conciliatorlaw09.InvUndone", spec := "invUndone", inPlace := ["slices.overlaps[conciliator/api.Field]", "slices.overlaps[conciliator/api.Val]"], unfollowed := true, recurses := true, named := ["unicode/utf8.first", "unicode/utf8.acceptRanges"], apart := false, laid := [("unicode/utf8.acceptRanges", laid_unicode_utf8_acceptRanges), ("unicode/utf8.first", laid_unicode_utf8_first)] }
def InvUndoneSaid : Prop := invUndoneRow.holds Tryz.pinned (OpenSpec.ofChange invUndoneSpec)

/-- ITS FALSE NEIGHBOUR: 'it returns false'. Refute it at one input. -/
def invUndoneWrong : ChangeSpec := { name := "invUndone", fn := fun _ => fun
  | [d1, d2] => { results := [.lit (.bool false)], args := [d1, d2] }
  | _ => none }
def InvUndoneWrongFalsely : Prop := invUndoneRow.holds Tryz.pinned (OpenSpec.ofChange invUndoneWrong)

/-- 'conciliatorlaw09.InvTurns': WHATEVER THE INPUT: true; the input reads as it did. -/
def invTurnsSpec : ChangeSpec := { name := "invTurns", fn := fun _ => fun
  | [d1, d2, d3] => { results := [.lit (.bool true)], args := [d1, d2, d3] }
  | _ => none }
def invTurnsRow : OpenClaim := { program := "ytnjgbiachcfigaagreatdoor", sum := "146272b3699e20869c229f510fa0ca30db23679074af6e87ab00797abc161e75", func := "conciliator/conciliatorlaw09.InvTurns", spec := "invTurns", inPlace := ["slices.overlaps[conciliator/api.Field]", "slices.overlaps[conciliator/api.Val]"], unfollowed := true, recurses := true, named := ["unicode/utf8.first", "unicode/utf8.acceptRanges"], apart := false, laid := [("unicode/utf8.acceptRanges", laid_unicode_utf8_acceptRanges), ("unicode/utf8.first", laid_unicode_utf8_first)] }
def InvTurnsSaid : Prop := invTurnsRow.holds Tryz.pinned (OpenSpec.ofChange invTurnsSpec)

/-- ITS FALSE NEIGHBOUR: 'it returns false'. Refute it at one input. -/
def invTurnsWrong : ChangeSpec := { name := "invTurns", fn := fun _ => fun
  | [d1, d2, d3] => { results := [.lit (.bool false)], args := [d1, d2, d3] }
  | _ => none }
def InvTurnsWrongFalsely : Prop := invTurnsRow.holds Tryz.pinned (OpenSpec.ofChange invTurnsWrong)

/-- 'conciliatorlaw09.InvAll': WHATEVER THE INPUT: true; the input reads as it did. -/
def invAllSpec : ChangeSpec := { name := "invAll", fn := fun _ => fun
  | [d1, d2] => { results := [.lit (.bool true)], args := [d1, d2] }
  | _ => none }
def invAllRow : OpenClaim := { program := "ytnjgbiachcfigaagreatdoor", sum := "146272b3699e20869c229f510fa0ca30db23679074af6e87ab00797abc161e75", func := "conciliator/conciliatorlaw09.InvAll", spec := "invAll", inPlace := ["slices.overlaps[conciliator/api.Field]", "slices.overlaps[conciliator/api.Val]"], unfollowed := true, recurses := true, named := ["unicode/utf8.first", "unicode/utf8.acceptRanges"], apart := false, laid := [("unicode/utf8.acceptRanges", laid_unicode_utf8_acceptRanges), ("unicode/utf8.first", laid_unicode_utf8_first)] }
def InvAllSaid : Prop := invAllRow.holds Tryz.pinned (OpenSpec.ofChange invAllSpec)

/-- ITS FALSE NEIGHBOUR: 'it returns false'. Refute it at one input. -/
def invAllWrong : ChangeSpec := { name := "invAll", fn := fun _ => fun
  | [d1, d2] => { results := [.lit (.bool false)], args := [d1, d2] }
  | _ => none }
def InvAllWrongFalsely : Prop := invAllRow.holds Tryz.pinned (OpenSpec.ofChange invAllWrong)

/-- 'conciliatorlaw09.InvBack': WHATEVER THE INPUT: true; the input reads as it did. -/
def invBackSpec : ChangeSpec := { name := "invBack", fn := fun _ => fun
  | [d1, d2] => { results := [.lit (.bool true)], args := [d1, d2] }
  | _ => none }
def invBackRow : OpenClaim := { program := "ytnjgbiachcfigaagreatdoor", sum := "146272b3699e20869c229f510fa0ca30db23679074af6e87ab00797abc161e75", func := "conciliator/conciliatorlaw09.InvBack", spec := "invBack", inPlace := ["slices.overlaps[conciliator/api.Field]", "slices.overlaps[conciliator/api.Val]"], unfollowed := true, recurses := true, named := ["unicode/utf8.first", "unicode/utf8.acceptRanges"], apart := false, laid := [("unicode/utf8.acceptRanges", laid_unicode_utf8_acceptRanges), ("unicode/utf8.first", laid_unicode_utf8_first)] }
def InvBackSaid : Prop := invBackRow.holds Tryz.pinned (OpenSpec.ofChange invBackSpec)

/-- ITS FALSE NEIGHBOUR: 'it returns false'. Refute it at one input. -/
def invBackWrong : ChangeSpec := { name := "invBack", fn := fun _ => fun
  | [d1, d2] => { results := [.lit (.bool false)], args := [d1, d2] }
  | _ => none }
def InvBackWrongFalsely : Prop := invBackRow.holds Tryz.pinned (OpenSpec.ofChange invBackWrong)

/-- 'conciliatorlaw09.InvTwice': WHATEVER THE INPUT: true; the input reads as it did. -/
def invTwiceSpec : ChangeSpec := { name := "invTwice", fn := fun _ => fun
  | [d1, d2] => { results := [.lit (.bool true)], args := [d1, d2] }
  | _ => none }
def invTwiceRow : OpenClaim := { program := "ytnjgbiachcfigaagreatdoor", sum := "146272b3699e20869c229f510fa0ca30db23679074af6e87ab00797abc161e75", func := "conciliator/conciliatorlaw09.InvTwice", spec := "invTwice", inPlace := ["slices.overlaps[conciliator/api.Field]", "slices.overlaps[conciliator/api.Val]"], unfollowed := true, recurses := true, named := ["unicode/utf8.first", "unicode/utf8.acceptRanges"], apart := false, laid := [("unicode/utf8.acceptRanges", laid_unicode_utf8_acceptRanges), ("unicode/utf8.first", laid_unicode_utf8_first)] }
def InvTwiceSaid : Prop := invTwiceRow.holds Tryz.pinned (OpenSpec.ofChange invTwiceSpec)

/-- ITS FALSE NEIGHBOUR: 'it returns false'. Refute it at one input. -/
def invTwiceWrong : ChangeSpec := { name := "invTwice", fn := fun _ => fun
  | [d1, d2] => { results := [.lit (.bool false)], args := [d1, d2] }
  | _ => none }
def InvTwiceWrongFalsely : Prop := invTwiceRow.holds Tryz.pinned (OpenSpec.ofChange invTwiceWrong)

/-- 'conciliatorlaw09.InvRefuses': WHATEVER THE INPUT: true; the input reads as it did. -/
def invRefusesSpec : ChangeSpec := { name := "invRefuses", fn := fun _ => fun
  | [d1, d2, d3] => { results := [.lit (.bool true)], args := [d1, d2, d3] }
  | _ => none }
def invRefusesRow : OpenClaim := { program := "ytnjgbiachcfigaagreatdoor", sum := "146272b3699e20869c229f510fa0ca30db23679074af6e87ab00797abc161e75", func := "conciliator/conciliatorlaw09.InvRefuses", spec := "invRefuses", inPlace := ["slices.overlaps[conciliator/api.Field]", "slices.overlaps[conciliator/api.Val]"], unfollowed := true, recurses := true, named := ["unicode/utf8.first", "unicode/utf8.acceptRanges"], apart := false, laid := [("unicode/utf8.acceptRanges", laid_unicode_utf8_acceptRanges), ("unicode/utf8.first", laid_unicode_utf8_first)] }
def InvRefusesSaid : Prop := invRefusesRow.holds Tryz.pinned (OpenSpec.ofChange invRefusesSpec)

/-- ITS FALSE NEIGHBOUR: 'it returns false'. Refute it at one input. -/
def invRefusesWrong : ChangeSpec := { name := "invRefuses", fn := fun _ => fun
  | [d1, d2, d3] => { results := [.lit (.bool false)], args := [d1, d2, d3] }
  | _ => none }
def InvRefusesWrongFalsely : Prop := invRefusesRow.holds Tryz.pinned (OpenSpec.ofChange invRefusesWrong)

/- THE SECOND FORM. 'bulk': how many values and letters a reading holds, each counted each time it is reached (what is shared counts as often as it is met; a slice's spare places count too). A statement '..UptoSaid' is the law's where the arguments, and the package variables that the reading takes, are together of bulk at most 1048576: NARROWER than '..Said'. Prove '..Said' where nothing that the law and all that it calls make is longer than what came in: it says more and counts as full. Else prove '..UptoSaid'. A law counts once. -/
mutual
def uptoBulk {H : Type} : DataW H → Nat
  | .lit (.string bytes) => bytes.length + 1
  | .lit _ => 1
  | .nil => 1
  | .ptr d => uptoBulk d + 1
  | .slice elems spare => uptoBulkAll elems + uptoBulkAll spare + 1
  | .agg parts => uptoBulkAll parts + 1
  | .iface _ d => uptoBulk d + 1
  | .map entries => uptoBulkEntries entries + 1
  | .held _ => 1
def uptoBulkAll {H : Type} : List (DataW H) → Nat
  | [] => 0
  | d :: r => uptoBulk d + uptoBulkAll r
def uptoBulkEntries {H : Type} : List (Lit × DataW H) → Nat
  | [] => 0
  | x :: r => uptoBulkEntry x + uptoBulkEntries r
def uptoBulkEntry {H : Type} : Lit × DataW H → Nat
  | (.string bytes, d) => bytes.length + uptoBulk d + 1
  | (_, d) => uptoBulk d + 1
 end
def uptoSmall : (H : Type) → List (DataW H) → Bool := fun _ ds => decide (uptoBulkAll ds ≤ 1048576)
def OpenSpec.upto (s : _root_.Go.ChangeSpec) : _root_.Go.OpenSpec := { _root_.Go.OpenSpec.ofChange s with cond := some uptoSmall }

/-- 'conciliatorlaw06.CompActs', WHERE WHAT IT READS IS OF BULK AT MOST 1048576: true; the input reads as it did. -/
def compActsUptoRow : OpenClaim := { program := "ytnjgbiachcfigaagreatdoor", sum := "146272b3699e20869c229f510fa0ca30db23679074af6e87ab00797abc161e75", func := "conciliator/conciliatorlaw06.CompActs", spec := "compActs", inPlace := ["slices.overlaps[conciliator/api.Field]", "slices.overlaps[conciliator/api.Val]"], unfollowed := true, recurses := true, named := ["unicode/utf8.first", "unicode/utf8.acceptRanges"], apart := false, laid := [("unicode/utf8.acceptRanges", laid_unicode_utf8_acceptRanges), ("unicode/utf8.first", laid_unicode_utf8_first)], narrowed := true }
def CompActsUptoSaid : Prop := compActsUptoRow.holds Tryz.pinned (OpenSpec.upto compActsSpec)

/-- 'conciliatorlaw09.InvUndone', WHERE WHAT IT READS IS OF BULK AT MOST 1048576: true; the input reads as it did. -/
def invUndoneUptoRow : OpenClaim := { program := "ytnjgbiachcfigaagreatdoor", sum := "146272b3699e20869c229f510fa0ca30db23679074af6e87ab00797abc161e75", func := "conciliator/conciliatorlaw09.InvUndone", spec := "invUndone", inPlace := ["slices.overlaps[conciliator/api.Field]", "slices.overlaps[conciliator/api.Val]"], unfollowed := true, recurses := true, named := ["unicode/utf8.first", "unicode/utf8.acceptRanges"], apart := false, laid := [("unicode/utf8.acceptRanges", laid_unicode_utf8_acceptRanges), ("unicode/utf8.first", laid_unicode_utf8_first)], narrowed := true }
def InvUndoneUptoSaid : Prop := invUndoneUptoRow.holds Tryz.pinned (OpenSpec.upto invUndoneSpec)

/-- 'conciliatorlaw09.InvTurns', WHERE WHAT IT READS IS OF BULK AT MOST 1048576: true; the input reads as it did. -/
def invTurnsUptoRow : OpenClaim := { program := "ytnjgbiachcfigaagreatdoor", sum := "146272b3699e20869c229f510fa0ca30db23679074af6e87ab00797abc161e75", func := "conciliator/conciliatorlaw09.InvTurns", spec := "invTurns", inPlace := ["slices.overlaps[conciliator/api.Field]", "slices.overlaps[conciliator/api.Val]"], unfollowed := true, recurses := true, named := ["unicode/utf8.first", "unicode/utf8.acceptRanges"], apart := false, laid := [("unicode/utf8.acceptRanges", laid_unicode_utf8_acceptRanges), ("unicode/utf8.first", laid_unicode_utf8_first)], narrowed := true }
def InvTurnsUptoSaid : Prop := invTurnsUptoRow.holds Tryz.pinned (OpenSpec.upto invTurnsSpec)

/-- 'conciliatorlaw09.InvAll', WHERE WHAT IT READS IS OF BULK AT MOST 1048576: true; the input reads as it did. -/
def invAllUptoRow : OpenClaim := { program := "ytnjgbiachcfigaagreatdoor", sum := "146272b3699e20869c229f510fa0ca30db23679074af6e87ab00797abc161e75", func := "conciliator/conciliatorlaw09.InvAll", spec := "invAll", inPlace := ["slices.overlaps[conciliator/api.Field]", "slices.overlaps[conciliator/api.Val]"], unfollowed := true, recurses := true, named := ["unicode/utf8.first", "unicode/utf8.acceptRanges"], apart := false, laid := [("unicode/utf8.acceptRanges", laid_unicode_utf8_acceptRanges), ("unicode/utf8.first", laid_unicode_utf8_first)], narrowed := true }
def InvAllUptoSaid : Prop := invAllUptoRow.holds Tryz.pinned (OpenSpec.upto invAllSpec)

/-- 'conciliatorlaw09.InvBack', WHERE WHAT IT READS IS OF BULK AT MOST 1048576: true; the input reads as it did. -/
def invBackUptoRow : OpenClaim := { program := "ytnjgbiachcfigaagreatdoor", sum := "146272b3699e20869c229f510fa0ca30db23679074af6e87ab00797abc161e75", func := "conciliator/conciliatorlaw09.InvBack", spec := "invBack", inPlace := ["slices.overlaps[conciliator/api.Field]", "slices.overlaps[conciliator/api.Val]"], unfollowed := true, recurses := true, named := ["unicode/utf8.first", "unicode/utf8.acceptRanges"], apart := false, laid := [("unicode/utf8.acceptRanges", laid_unicode_utf8_acceptRanges), ("unicode/utf8.first", laid_unicode_utf8_first)], narrowed := true }
def InvBackUptoSaid : Prop := invBackUptoRow.holds Tryz.pinned (OpenSpec.upto invBackSpec)

/-- 'conciliatorlaw09.InvTwice', WHERE WHAT IT READS IS OF BULK AT MOST 1048576: true; the input reads as it did. -/
def invTwiceUptoRow : OpenClaim := { program := "ytnjgbiachcfigaagreatdoor", sum := "146272b3699e20869c229f510fa0ca30db23679074af6e87ab00797abc161e75", func := "conciliator/conciliatorlaw09.InvTwice", spec := "invTwice", inPlace := ["slices.overlaps[conciliator/api.Field]", "slices.overlaps[conciliator/api.Val]"], unfollowed := true, recurses := true, named := ["unicode/utf8.first", "unicode/utf8.acceptRanges"], apart := false, laid := [("unicode/utf8.acceptRanges", laid_unicode_utf8_acceptRanges), ("unicode/utf8.first", laid_unicode_utf8_first)], narrowed := true }
def InvTwiceUptoSaid : Prop := invTwiceUptoRow.holds Tryz.pinned (OpenSpec.upto invTwiceSpec)

/-- 'conciliatorlaw09.InvRefuses', WHERE WHAT IT READS IS OF BULK AT MOST 1048576: true; the input reads as it did. -/
def invRefusesUptoRow : OpenClaim := { program := "ytnjgbiachcfigaagreatdoor", sum := "146272b3699e20869c229f510fa0ca30db23679074af6e87ab00797abc161e75", func := "conciliator/conciliatorlaw09.InvRefuses", spec := "invRefuses", inPlace := ["slices.overlaps[conciliator/api.Field]", "slices.overlaps[conciliator/api.Val]"], unfollowed := true, recurses := true, named := ["unicode/utf8.first", "unicode/utf8.acceptRanges"], apart := false, laid := [("unicode/utf8.acceptRanges", laid_unicode_utf8_acceptRanges), ("unicode/utf8.first", laid_unicode_utf8_first)], narrowed := true }
def InvRefusesUptoSaid : Prop := invRefusesUptoRow.holds Tryz.pinned (OpenSpec.upto invRefusesSpec)

end Rows
end Go.Proofs.YtnjgbiachcfigaaGreatDoor
