/-
  NARROWER THAN 'FOR EVERY INPUT', by the rows' own cells (each row's printed sentence says how): InvUndone: laid · OpCrosses: laid · OpMeets: laid · OpParts: laid · OpNothing: laid · OpJoins: laid · OpDoes: laid.
  DERIVED. THE GIVEN ROWS OF THIS SEAT. 7 by the template 'for every input the law returns true; each argument reads behind the call as it read before'; 0 by the template 'total and deterministic' (their statements: YtbgheehjfnoiiaaGreatDoorTotals.lean).
  GIVEN WITH THE SEED: the statements are not yours to turn. If you find one false, say at which input.
  Laid BY PROGRAM, IN A SANDBOX (cutbox-rows.mjs): the forced cells as the released guide's own fill.sh prints them over the translation 9a0542a0fc1bf03b… (all of the seat's roots in one cut). By AI agents, Wed Nov 11 2026. No macro, syntax, notation, axiom, sorry.
-/
import Derived.Test.YtbgheehjfnoiiaaGreatDoorChecked
import GoSem.PinnedTables
import GoSem.Claim
import GoSem.ClaimJoined
import GoSem.ClaimMapViews
import Derived.JoinedTies
import Derived.KernelRfl
namespace Go.Proofs.YtbgheehjfnoiiaaGreatDoor
/- THE CELL 'sum', in the pinned program and in every row, IS THE sha256 OF THE DUMP (.gsa) THAT YtbgheehjfnoiiaaGreatDoorProg.lean LOADS. Nothing in Lean hashes anything: it is a label: what it is worth is what the hold of that sum in a sandbox is worth. -/
noncomputable def Tryz.pinned : Pinned := { name := "ytbgheehjfnoiiaagreatdoor", sum := "9a0542a0fc1bf03b4e59631d3e5c4e39802ec83ce81fea33c62f1a2b1989a6ea", checked := Tryz.checked }
namespace Rows
def none {H : Type} : Left H := { results := [], args := [] }

/- WHAT THE LISTED PACKAGE-LEVEL VARIABLES READ AS WHEN THE CALL BEGINS. Each datum BY PROGRAM (the guide's laid-datum.mjs) off the statement by which the dump's own 'gosem.cut.vars' lays the variable. In a bare row this is a premise. The card (YtbgheehjfnoiiaaGreatDoorCards.lean) ties it to the program's text. -/
def laid_unicode_utf8_acceptRanges {H : Type} : DataW H := .agg [.agg [.lit (.int .u8 128), .lit (.int .u8 191)], .agg [.lit (.int .u8 160), .lit (.int .u8 191)], .agg [.lit (.int .u8 128), .lit (.int .u8 159)], .agg [.lit (.int .u8 144), .lit (.int .u8 191)], .agg [.lit (.int .u8 128), .lit (.int .u8 143)], .agg [.lit (.int .u8 0), .lit (.int .u8 0)], .agg [.lit (.int .u8 0), .lit (.int .u8 0)], .agg [.lit (.int .u8 0), .lit (.int .u8 0)], .agg [.lit (.int .u8 0), .lit (.int .u8 0)], .agg [.lit (.int .u8 0), .lit (.int .u8 0)], .agg [.lit (.int .u8 0), .lit (.int .u8 0)], .agg [.lit (.int .u8 0), .lit (.int .u8 0)], .agg [.lit (.int .u8 0), .lit (.int .u8 0)], .agg [.lit (.int .u8 0), .lit (.int .u8 0)], .agg [.lit (.int .u8 0), .lit (.int .u8 0)], .agg [.lit (.int .u8 0), .lit (.int .u8 0)]]
/-- One of Go's own tables, pinned by name: the form's constant. -/
def laid_unicode_utf8_first : DataW Unit := Go.Pinned.utf8First

/-- 'conciliatorlaw09.InvUndone': WHATEVER THE INPUT: true; the input reads as it did. -/
def invUndoneSpec : ChangeSpec := { name := "invUndone", fn := fun _ => fun
  | [d1, d2] => { results := [.lit (.bool true)], args := [d1, d2] }
  | _ => none }
def invUndoneRow : OpenClaim := { program := "ytbgheehjfnoiiaagreatdoor", sum := "9a0542a0fc1bf03b4e59631d3e5c4e39802ec83ce81fea33c62f1a2b1989a6ea", func := "conciliator/conciliatorlaw09.InvUndone", spec := "invUndone", inPlace := ["slices.overlaps[conciliator/api.Field]", "slices.overlaps[conciliator/api.Val]"], unfollowed := true, recurses := true, named := ["unicode/utf8.first", "unicode/utf8.acceptRanges"], apart := false, laid := [("unicode/utf8.acceptRanges", laid_unicode_utf8_acceptRanges), ("unicode/utf8.first", laid_unicode_utf8_first)] }
def InvUndoneSaid : Prop := invUndoneRow.holds Tryz.pinned (OpenSpec.ofChange invUndoneSpec)

/-- ITS FALSE NEIGHBOUR: 'it returns false'. Refute it at one input. -/
def invUndoneWrong : ChangeSpec := { name := "invUndone", fn := fun _ => fun
  | [d1, d2] => { results := [.lit (.bool false)], args := [d1, d2] }
  | _ => none }
def InvUndoneWrongFalsely : Prop := invUndoneRow.holds Tryz.pinned (OpenSpec.ofChange invUndoneWrong)

/-- 'conciliatorlaw08.OpCrosses': WHATEVER THE INPUT: true; the input reads as it did. -/
def opCrossesSpec : ChangeSpec := { name := "opCrosses", fn := fun _ => fun
  | [d1, d2, d3] => { results := [.lit (.bool true)], args := [d1, d2, d3] }
  | _ => none }
def opCrossesRow : OpenClaim := { program := "ytbgheehjfnoiiaagreatdoor", sum := "9a0542a0fc1bf03b4e59631d3e5c4e39802ec83ce81fea33c62f1a2b1989a6ea", func := "conciliator/conciliatorlaw08.OpCrosses", spec := "opCrosses", inPlace := ["slices.overlaps[conciliator/api.Field]", "slices.overlaps[conciliator/api.Val]"], unfollowed := true, recurses := true, named := ["unicode/utf8.first", "unicode/utf8.acceptRanges"], apart := false, laid := [("unicode/utf8.acceptRanges", laid_unicode_utf8_acceptRanges), ("unicode/utf8.first", laid_unicode_utf8_first)] }
def OpCrossesSaid : Prop := opCrossesRow.holds Tryz.pinned (OpenSpec.ofChange opCrossesSpec)

/-- ITS FALSE NEIGHBOUR: 'it returns false'. Refute it at one input. -/
def opCrossesWrong : ChangeSpec := { name := "opCrosses", fn := fun _ => fun
  | [d1, d2, d3] => { results := [.lit (.bool false)], args := [d1, d2, d3] }
  | _ => none }
def OpCrossesWrongFalsely : Prop := opCrossesRow.holds Tryz.pinned (OpenSpec.ofChange opCrossesWrong)

/-- 'conciliatorlaw08.OpMeets': WHATEVER THE INPUT: true; the input reads as it did. -/
def opMeetsSpec : ChangeSpec := { name := "opMeets", fn := fun _ => fun
  | [d1, d2, d3] => { results := [.lit (.bool true)], args := [d1, d2, d3] }
  | _ => none }
def opMeetsRow : OpenClaim := { program := "ytbgheehjfnoiiaagreatdoor", sum := "9a0542a0fc1bf03b4e59631d3e5c4e39802ec83ce81fea33c62f1a2b1989a6ea", func := "conciliator/conciliatorlaw08.OpMeets", spec := "opMeets", inPlace := ["slices.overlaps[conciliator/api.Field]", "slices.overlaps[conciliator/api.Val]"], unfollowed := true, recurses := true, named := ["unicode/utf8.first", "unicode/utf8.acceptRanges"], apart := false, laid := [("unicode/utf8.acceptRanges", laid_unicode_utf8_acceptRanges), ("unicode/utf8.first", laid_unicode_utf8_first)] }
def OpMeetsSaid : Prop := opMeetsRow.holds Tryz.pinned (OpenSpec.ofChange opMeetsSpec)

/-- ITS FALSE NEIGHBOUR: 'it returns false'. Refute it at one input. -/
def opMeetsWrong : ChangeSpec := { name := "opMeets", fn := fun _ => fun
  | [d1, d2, d3] => { results := [.lit (.bool false)], args := [d1, d2, d3] }
  | _ => none }
def OpMeetsWrongFalsely : Prop := opMeetsRow.holds Tryz.pinned (OpenSpec.ofChange opMeetsWrong)

/-- 'conciliatorlaw08.OpParts': WHATEVER THE INPUT: true; the input reads as it did. -/
def opPartsSpec : ChangeSpec := { name := "opParts", fn := fun _ => fun
  | [d1, d2, d3, d4] => { results := [.lit (.bool true)], args := [d1, d2, d3, d4] }
  | _ => none }
def opPartsRow : OpenClaim := { program := "ytbgheehjfnoiiaagreatdoor", sum := "9a0542a0fc1bf03b4e59631d3e5c4e39802ec83ce81fea33c62f1a2b1989a6ea", func := "conciliator/conciliatorlaw08.OpParts", spec := "opParts", inPlace := ["slices.overlaps[conciliator/api.Field]", "slices.overlaps[conciliator/api.Val]"], unfollowed := true, recurses := true, named := ["unicode/utf8.first", "unicode/utf8.acceptRanges"], apart := false, laid := [("unicode/utf8.acceptRanges", laid_unicode_utf8_acceptRanges), ("unicode/utf8.first", laid_unicode_utf8_first)] }
def OpPartsSaid : Prop := opPartsRow.holds Tryz.pinned (OpenSpec.ofChange opPartsSpec)

/-- ITS FALSE NEIGHBOUR: 'it returns false'. Refute it at one input. -/
def opPartsWrong : ChangeSpec := { name := "opParts", fn := fun _ => fun
  | [d1, d2, d3, d4] => { results := [.lit (.bool false)], args := [d1, d2, d3, d4] }
  | _ => none }
def OpPartsWrongFalsely : Prop := opPartsRow.holds Tryz.pinned (OpenSpec.ofChange opPartsWrong)

/-- 'conciliatorlaw08.OpNothing': WHATEVER THE INPUT: true; the input reads as it did. -/
def opNothingSpec : ChangeSpec := { name := "opNothing", fn := fun _ => fun
  | [d1, d2] => { results := [.lit (.bool true)], args := [d1, d2] }
  | _ => none }
def opNothingRow : OpenClaim := { program := "ytbgheehjfnoiiaagreatdoor", sum := "9a0542a0fc1bf03b4e59631d3e5c4e39802ec83ce81fea33c62f1a2b1989a6ea", func := "conciliator/conciliatorlaw08.OpNothing", spec := "opNothing", inPlace := ["slices.overlaps[conciliator/api.Field]", "slices.overlaps[conciliator/api.Val]"], unfollowed := true, recurses := true, named := ["unicode/utf8.first", "unicode/utf8.acceptRanges"], apart := false, laid := [("unicode/utf8.acceptRanges", laid_unicode_utf8_acceptRanges), ("unicode/utf8.first", laid_unicode_utf8_first)] }
def OpNothingSaid : Prop := opNothingRow.holds Tryz.pinned (OpenSpec.ofChange opNothingSpec)

/-- ITS FALSE NEIGHBOUR: 'it returns false'. Refute it at one input. -/
def opNothingWrong : ChangeSpec := { name := "opNothing", fn := fun _ => fun
  | [d1, d2] => { results := [.lit (.bool false)], args := [d1, d2] }
  | _ => none }
def OpNothingWrongFalsely : Prop := opNothingRow.holds Tryz.pinned (OpenSpec.ofChange opNothingWrong)

/-- 'conciliatorlaw08.OpJoins': WHATEVER THE INPUT: true; the input reads as it did. -/
def opJoinsSpec : ChangeSpec := { name := "opJoins", fn := fun _ => fun
  | [d1, d2, d3] => { results := [.lit (.bool true)], args := [d1, d2, d3] }
  | _ => none }
def opJoinsRow : OpenClaim := { program := "ytbgheehjfnoiiaagreatdoor", sum := "9a0542a0fc1bf03b4e59631d3e5c4e39802ec83ce81fea33c62f1a2b1989a6ea", func := "conciliator/conciliatorlaw08.OpJoins", spec := "opJoins", inPlace := ["slices.overlaps[conciliator/api.Field]", "slices.overlaps[conciliator/api.Val]"], unfollowed := true, recurses := true, named := ["unicode/utf8.first", "unicode/utf8.acceptRanges"], apart := false, laid := [("unicode/utf8.acceptRanges", laid_unicode_utf8_acceptRanges), ("unicode/utf8.first", laid_unicode_utf8_first)] }
def OpJoinsSaid : Prop := opJoinsRow.holds Tryz.pinned (OpenSpec.ofChange opJoinsSpec)

/-- ITS FALSE NEIGHBOUR: 'it returns false'. Refute it at one input. -/
def opJoinsWrong : ChangeSpec := { name := "opJoins", fn := fun _ => fun
  | [d1, d2, d3] => { results := [.lit (.bool false)], args := [d1, d2, d3] }
  | _ => none }
def OpJoinsWrongFalsely : Prop := opJoinsRow.holds Tryz.pinned (OpenSpec.ofChange opJoinsWrong)

/-- 'conciliatorlaw08.OpDoes': WHATEVER THE INPUT: true; the input reads as it did. -/
def opDoesSpec : ChangeSpec := { name := "opDoes", fn := fun _ => fun
  | [d1, d2, d3] => { results := [.lit (.bool true)], args := [d1, d2, d3] }
  | _ => none }
def opDoesRow : OpenClaim := { program := "ytbgheehjfnoiiaagreatdoor", sum := "9a0542a0fc1bf03b4e59631d3e5c4e39802ec83ce81fea33c62f1a2b1989a6ea", func := "conciliator/conciliatorlaw08.OpDoes", spec := "opDoes", inPlace := ["slices.overlaps[conciliator/api.Field]", "slices.overlaps[conciliator/api.Val]"], unfollowed := true, recurses := true, named := ["unicode/utf8.first", "unicode/utf8.acceptRanges"], apart := false, laid := [("unicode/utf8.acceptRanges", laid_unicode_utf8_acceptRanges), ("unicode/utf8.first", laid_unicode_utf8_first)] }
def OpDoesSaid : Prop := opDoesRow.holds Tryz.pinned (OpenSpec.ofChange opDoesSpec)

/-- ITS FALSE NEIGHBOUR: 'it returns false'. Refute it at one input. -/
def opDoesWrong : ChangeSpec := { name := "opDoes", fn := fun _ => fun
  | [d1, d2, d3] => { results := [.lit (.bool false)], args := [d1, d2, d3] }
  | _ => none }
def OpDoesWrongFalsely : Prop := opDoesRow.holds Tryz.pinned (OpenSpec.ofChange opDoesWrong)

/- THE SECOND FORM. 'bulk': how many values and letters a reading holds, each counted each time it is reached (what is shared counts as often as it is met; a slice's spare places count too). A statement '..UptoSaid' is the law's where the arguments, and the package variables that the reading takes, are together of bulk at most 1048576: NARROWER than '..Said'. Prove '..Said' where nothing that the law and all that it calls make is longer than what came in: it says more and counts as full. Else prove '..UptoSaid'. A law counts once. -/
mutual
def uptoBulk {H : Type} : DataW H → Nat
  | .lit (.string bytes) => bytes.length + 1
  | .lit _ => 1
  | .nil => 1
  | .ptr d => uptoBulk d + 1
  | .slice elems spare => uptoBulkAll elems + uptoBulkAll spare + 1
  | .agg parts => uptoBulkAll parts + 1
  | .iface _ d => uptoBulk d + 1
  | .map entries => uptoBulkEntries entries + 1
  | .held _ => 1
def uptoBulkAll {H : Type} : List (DataW H) → Nat
  | [] => 0
  | d :: r => uptoBulk d + uptoBulkAll r
def uptoBulkEntries {H : Type} : List (Lit × DataW H) → Nat
  | [] => 0
  | x :: r => uptoBulkEntry x + uptoBulkEntries r
def uptoBulkEntry {H : Type} : Lit × DataW H → Nat
  | (.string bytes, d) => bytes.length + uptoBulk d + 1
  | (_, d) => uptoBulk d + 1
 end
def uptoSmall : (H : Type) → List (DataW H) → Bool := fun _ ds => decide (uptoBulkAll ds ≤ 1048576)
def OpenSpec.upto (s : _root_.Go.ChangeSpec) : _root_.Go.OpenSpec := { _root_.Go.OpenSpec.ofChange s with cond := some uptoSmall }

/-- 'conciliatorlaw09.InvUndone', WHERE WHAT IT READS IS OF BULK AT MOST 1048576: true; the input reads as it did. -/
def invUndoneUptoRow : OpenClaim := { program := "ytbgheehjfnoiiaagreatdoor", sum := "9a0542a0fc1bf03b4e59631d3e5c4e39802ec83ce81fea33c62f1a2b1989a6ea", func := "conciliator/conciliatorlaw09.InvUndone", spec := "invUndone", inPlace := ["slices.overlaps[conciliator/api.Field]", "slices.overlaps[conciliator/api.Val]"], unfollowed := true, recurses := true, named := ["unicode/utf8.first", "unicode/utf8.acceptRanges"], apart := false, laid := [("unicode/utf8.acceptRanges", laid_unicode_utf8_acceptRanges), ("unicode/utf8.first", laid_unicode_utf8_first)], narrowed := true }
def InvUndoneUptoSaid : Prop := invUndoneUptoRow.holds Tryz.pinned (OpenSpec.upto invUndoneSpec)

/-- 'conciliatorlaw08.OpCrosses', WHERE WHAT IT READS IS OF BULK AT MOST 1048576: true; the input reads as it did. -/
def opCrossesUptoRow : OpenClaim := { program := "ytbgheehjfnoiiaagreatdoor", sum := "9a0542a0fc1bf03b4e59631d3e5c4e39802ec83ce81fea33c62f1a2b1989a6ea", func := "conciliator/conciliatorlaw08.OpCrosses", spec := "opCrosses", inPlace := ["slices.overlaps[conciliator/api.Field]", "slices.overlaps[conciliator/api.Val]"], unfollowed := true, recurses := true, named := ["unicode/utf8.first", "unicode/utf8.acceptRanges"], apart := false, laid := [("unicode/utf8.acceptRanges", laid_unicode_utf8_acceptRanges), ("unicode/utf8.first", laid_unicode_utf8_first)], narrowed := true }
def OpCrossesUptoSaid : Prop := opCrossesUptoRow.holds Tryz.pinned (OpenSpec.upto opCrossesSpec)

/-- 'conciliatorlaw08.OpMeets', WHERE WHAT IT READS IS OF BULK AT MOST 1048576: true; the input reads as it did. -/
def opMeetsUptoRow : OpenClaim := { program := "ytbgheehjfnoiiaagreatdoor", sum := "9a0542a0fc1bf03b4e59631d3e5c4e39802ec83ce81fea33c62f1a2b1989a6ea", func := "conciliator/conciliatorlaw08.OpMeets", spec := "opMeets", inPlace := ["slices.overlaps[conciliator/api.Field]", "slices.overlaps[conciliator/api.Val]"], unfollowed := true, recurses := true, named := ["unicode/utf8.first", "unicode/utf8.acceptRanges"], apart := false, laid := [("unicode/utf8.acceptRanges", laid_unicode_utf8_acceptRanges), ("unicode/utf8.first", laid_unicode_utf8_first)], narrowed := true }
def OpMeetsUptoSaid : Prop := opMeetsUptoRow.holds Tryz.pinned (OpenSpec.upto opMeetsSpec)

/-- 'conciliatorlaw08.OpParts', WHERE WHAT IT READS IS OF BULK AT MOST 1048576: true; the input reads as it did. -/
def opPartsUptoRow : OpenClaim := { program := "ytbgheehjfnoiiaagreatdoor", sum := "9a0542a0fc1bf03b4e59631d3e5c4e39802ec83ce81fea33c62f1a2b1989a6ea", func := "conciliator/conciliatorlaw08.OpParts", spec := "opParts", inPlace := ["slices.overlaps[conciliator/api.Field]", "slices.overlaps[conciliator/api.Val]"], unfollowed := true, recurses := true, named := ["unicode/utf8.first", "unicode/utf8.acceptRanges"], apart := false, laid := [("unicode/utf8.acceptRanges", laid_unicode_utf8_acceptRanges), ("unicode/utf8.first", laid_unicode_utf8_first)], narrowed := true }
def OpPartsUptoSaid : Prop := opPartsUptoRow.holds Tryz.pinned (OpenSpec.upto opPartsSpec)

/-- 'conciliatorlaw08.OpNothing', WHERE WHAT IT READS IS OF BULK AT MOST 1048576: true; the input reads as it did. -/
def opNothingUptoRow : OpenClaim := { program := "ytbgheehjfnoiiaagreatdoor", sum := "9a0542a0fc1bf03b4e59631d3e5c4e39802ec83ce81fea33c62f1a2b1989a6ea", func := "conciliator/conciliatorlaw08.OpNothing", spec := "opNothing", inPlace := ["slices.overlaps[conciliator/api.Field]", "slices.overlaps[conciliator/api.Val]"], unfollowed := true, recurses := true, named := ["unicode/utf8.first", "unicode/utf8.acceptRanges"], apart := false, laid := [("unicode/utf8.acceptRanges", laid_unicode_utf8_acceptRanges), ("unicode/utf8.first", laid_unicode_utf8_first)], narrowed := true }
def OpNothingUptoSaid : Prop := opNothingUptoRow.holds Tryz.pinned (OpenSpec.upto opNothingSpec)

/-- 'conciliatorlaw08.OpJoins', WHERE WHAT IT READS IS OF BULK AT MOST 1048576: true; the input reads as it did. -/
def opJoinsUptoRow : OpenClaim := { program := "ytbgheehjfnoiiaagreatdoor", sum := "9a0542a0fc1bf03b4e59631d3e5c4e39802ec83ce81fea33c62f1a2b1989a6ea", func := "conciliator/conciliatorlaw08.OpJoins", spec := "opJoins", inPlace := ["slices.overlaps[conciliator/api.Field]", "slices.overlaps[conciliator/api.Val]"], unfollowed := true, recurses := true, named := ["unicode/utf8.first", "unicode/utf8.acceptRanges"], apart := false, laid := [("unicode/utf8.acceptRanges", laid_unicode_utf8_acceptRanges), ("unicode/utf8.first", laid_unicode_utf8_first)], narrowed := true }
def OpJoinsUptoSaid : Prop := opJoinsUptoRow.holds Tryz.pinned (OpenSpec.upto opJoinsSpec)

/-- 'conciliatorlaw08.OpDoes', WHERE WHAT IT READS IS OF BULK AT MOST 1048576: true; the input reads as it did. -/
def opDoesUptoRow : OpenClaim := { program := "ytbgheehjfnoiiaagreatdoor", sum := "9a0542a0fc1bf03b4e59631d3e5c4e39802ec83ce81fea33c62f1a2b1989a6ea", func := "conciliator/conciliatorlaw08.OpDoes", spec := "opDoes", inPlace := ["slices.overlaps[conciliator/api.Field]", "slices.overlaps[conciliator/api.Val]"], unfollowed := true, recurses := true, named := ["unicode/utf8.first", "unicode/utf8.acceptRanges"], apart := false, laid := [("unicode/utf8.acceptRanges", laid_unicode_utf8_acceptRanges), ("unicode/utf8.first", laid_unicode_utf8_first)], narrowed := true }
def OpDoesUptoSaid : Prop := opDoesUptoRow.holds Tryz.pinned (OpenSpec.upto opDoesSpec)

end Rows
end Go.Proofs.YtbgheehjfnoiiaaGreatDoor
