/-
  NARROWER THAN 'FOR EVERY INPUT', by the rows' own cells (each row's printed sentence says how): CompRefuses: laid · CompApart: laid · CompAdds: laid · CompSounds: laid · CompDoes: laid.
  DERIVED. THE GIVEN ROWS OF THIS SEAT. 5 by the template 'for every input the law returns true; each argument reads behind the call as it read before'; 0 by the template 'total and deterministic' (their statements: YtfoahkbnheijcaaDoorTotals.lean).
  GIVEN WITH THE SEED: the statements are not yours to turn. If you find one false, say at which input.
  Laid BY PROGRAM, IN A SANDBOX (cutbox-rows.mjs): the forced cells as the released guide's own fill.sh prints them over the translation 2c5682575924dd5f… (all of the seat's roots in one cut). By AI agents, Wed Nov 11 2026. No macro, syntax, notation, axiom, sorry.
-/
import Derived.Test.YtfoahkbnheijcaaDoorChecked
import GoSem.PinnedTables
import GoSem.Claim
import GoSem.ClaimJoined
import GoSem.ClaimMapViews
import Derived.JoinedTies
import Derived.KernelRfl
namespace Go.Proofs.YtfoahkbnheijcaaDoor
/- THE CELL 'sum', in the pinned program and in every row, IS THE sha256 OF THE DUMP (.gsa) THAT YtfoahkbnheijcaaDoorProg.lean LOADS. Nothing in Lean hashes anything: it is a label: what it is worth is what the hold of that sum in a sandbox is worth. -/
noncomputable def Tryd.pinned : Pinned := { name := "ytfoahkbnheijcaadoor", sum := "2c5682575924dd5f496f0bf05cb864471dc1937ba6789071452f3990af9da625", checked := Tryd.checked }
namespace Rows
def none {H : Type} : Left H := { results := [], args := [] }

/- WHAT THE LISTED PACKAGE-LEVEL VARIABLES READ AS WHEN THE CALL BEGINS. Each datum BY PROGRAM (the guide's laid-datum.mjs) off the statement by which the dump's own 'gosem.cut.vars' lays the variable. In a bare row this is a premise. The card (YtfoahkbnheijcaaDoorCards.lean) ties it to the program's text. -/
def laid_unicode_utf8_acceptRanges {H : Type} : DataW H := .agg [.agg [.lit (.int .u8 128), .lit (.int .u8 191)], .agg [.lit (.int .u8 160), .lit (.int .u8 191)], .agg [.lit (.int .u8 128), .lit (.int .u8 159)], .agg [.lit (.int .u8 144), .lit (.int .u8 191)], .agg [.lit (.int .u8 128), .lit (.int .u8 143)], .agg [.lit (.int .u8 0), .lit (.int .u8 0)], .agg [.lit (.int .u8 0), .lit (.int .u8 0)], .agg [.lit (.int .u8 0), .lit (.int .u8 0)], .agg [.lit (.int .u8 0), .lit (.int .u8 0)], .agg [.lit (.int .u8 0), .lit (.int .u8 0)], .agg [.lit (.int .u8 0), .lit (.int .u8 0)], .agg [.lit (.int .u8 0), .lit (.int .u8 0)], .agg [.lit (.int .u8 0), .lit (.int .u8 0)], .agg [.lit (.int .u8 0), .lit (.int .u8 0)], .agg [.lit (.int .u8 0), .lit (.int .u8 0)], .agg [.lit (.int .u8 0), .lit (.int .u8 0)]]
/-- One of Go's own tables, pinned by name: the form's constant. -/
def laid_unicode_utf8_first : DataW Unit := Go.Pinned.utf8First

/-- 'conciliatorlaw06.CompRefuses': WHATEVER THE INPUT: true; the input reads as it did. -/
def compRefusesSpec : ChangeSpec := { name := "compRefuses", fn := fun _ => fun
  | [d1, d2] => { results := [.lit (.bool true)], args := [d1, d2] }
  | _ => none }
def compRefusesRow : OpenClaim := { program := "ytfoahkbnheijcaadoor", sum := "2c5682575924dd5f496f0bf05cb864471dc1937ba6789071452f3990af9da625", func := "conciliator/conciliatorlaw06.CompRefuses", spec := "compRefuses", inPlace := ["slices.overlaps[conciliator/api.Field]", "slices.overlaps[conciliator/api.Val]"], unfollowed := true, recurses := true, named := ["unicode/utf8.first", "unicode/utf8.acceptRanges"], apart := false, laid := [("unicode/utf8.acceptRanges", laid_unicode_utf8_acceptRanges), ("unicode/utf8.first", laid_unicode_utf8_first)] }
def CompRefusesSaid : Prop := compRefusesRow.holds Tryd.pinned (OpenSpec.ofChange compRefusesSpec)

/-- ITS FALSE NEIGHBOUR: 'it returns false'. Refute it at one input. -/
def compRefusesWrong : ChangeSpec := { name := "compRefuses", fn := fun _ => fun
  | [d1, d2] => { results := [.lit (.bool false)], args := [d1, d2] }
  | _ => none }
def CompRefusesWrongFalsely : Prop := compRefusesRow.holds Tryd.pinned (OpenSpec.ofChange compRefusesWrong)

/-- 'conciliatorlaw06.CompApart': WHATEVER THE INPUT: true; the input reads as it did. -/
def compApartSpec : ChangeSpec := { name := "compApart", fn := fun _ => fun
  | [d1, d2, d3] => { results := [.lit (.bool true)], args := [d1, d2, d3] }
  | _ => none }
def compApartRow : OpenClaim := { program := "ytfoahkbnheijcaadoor", sum := "2c5682575924dd5f496f0bf05cb864471dc1937ba6789071452f3990af9da625", func := "conciliator/conciliatorlaw06.CompApart", spec := "compApart", inPlace := ["slices.overlaps[conciliator/api.Field]", "slices.overlaps[conciliator/api.Val]"], unfollowed := true, recurses := true, named := ["unicode/utf8.first", "unicode/utf8.acceptRanges"], apart := false, laid := [("unicode/utf8.acceptRanges", laid_unicode_utf8_acceptRanges), ("unicode/utf8.first", laid_unicode_utf8_first)] }
def CompApartSaid : Prop := compApartRow.holds Tryd.pinned (OpenSpec.ofChange compApartSpec)

/-- ITS FALSE NEIGHBOUR: 'it returns false'. Refute it at one input. -/
def compApartWrong : ChangeSpec := { name := "compApart", fn := fun _ => fun
  | [d1, d2, d3] => { results := [.lit (.bool false)], args := [d1, d2, d3] }
  | _ => none }
def CompApartWrongFalsely : Prop := compApartRow.holds Tryd.pinned (OpenSpec.ofChange compApartWrong)

/-- 'conciliatorlaw06.CompAdds': WHATEVER THE INPUT: true; the input reads as it did. -/
def compAddsSpec : ChangeSpec := { name := "compAdds", fn := fun _ => fun
  | [d1, d2] => { results := [.lit (.bool true)], args := [d1, d2] }
  | _ => none }
def compAddsRow : OpenClaim := { program := "ytfoahkbnheijcaadoor", sum := "2c5682575924dd5f496f0bf05cb864471dc1937ba6789071452f3990af9da625", func := "conciliator/conciliatorlaw06.CompAdds", spec := "compAdds", inPlace := ["slices.overlaps[conciliator/api.Field]", "slices.overlaps[conciliator/api.Val]"], unfollowed := true, recurses := true, named := ["unicode/utf8.first", "unicode/utf8.acceptRanges"], apart := false, laid := [("unicode/utf8.acceptRanges", laid_unicode_utf8_acceptRanges), ("unicode/utf8.first", laid_unicode_utf8_first)] }
def CompAddsSaid : Prop := compAddsRow.holds Tryd.pinned (OpenSpec.ofChange compAddsSpec)

/-- ITS FALSE NEIGHBOUR: 'it returns false'. Refute it at one input. -/
def compAddsWrong : ChangeSpec := { name := "compAdds", fn := fun _ => fun
  | [d1, d2] => { results := [.lit (.bool false)], args := [d1, d2] }
  | _ => none }
def CompAddsWrongFalsely : Prop := compAddsRow.holds Tryd.pinned (OpenSpec.ofChange compAddsWrong)

/-- 'conciliatorlaw06.CompSounds': WHATEVER THE INPUT: true; the input reads as it did. -/
def compSoundsSpec : ChangeSpec := { name := "compSounds", fn := fun _ => fun
  | [d1, d2] => { results := [.lit (.bool true)], args := [d1, d2] }
  | _ => none }
def compSoundsRow : OpenClaim := { program := "ytfoahkbnheijcaadoor", sum := "2c5682575924dd5f496f0bf05cb864471dc1937ba6789071452f3990af9da625", func := "conciliator/conciliatorlaw06.CompSounds", spec := "compSounds", inPlace := ["slices.overlaps[conciliator/api.Field]", "slices.overlaps[conciliator/api.Val]"], unfollowed := true, recurses := true, named := ["unicode/utf8.first", "unicode/utf8.acceptRanges"], apart := false, laid := [("unicode/utf8.acceptRanges", laid_unicode_utf8_acceptRanges), ("unicode/utf8.first", laid_unicode_utf8_first)] }
def CompSoundsSaid : Prop := compSoundsRow.holds Tryd.pinned (OpenSpec.ofChange compSoundsSpec)

/-- ITS FALSE NEIGHBOUR: 'it returns false'. Refute it at one input. -/
def compSoundsWrong : ChangeSpec := { name := "compSounds", fn := fun _ => fun
  | [d1, d2] => { results := [.lit (.bool false)], args := [d1, d2] }
  | _ => none }
def CompSoundsWrongFalsely : Prop := compSoundsRow.holds Tryd.pinned (OpenSpec.ofChange compSoundsWrong)

/-- 'conciliatorlaw06.CompDoes': WHATEVER THE INPUT: true; the input reads as it did. -/
def compDoesSpec : ChangeSpec := { name := "compDoes", fn := fun _ => fun
  | [d1, d2] => { results := [.lit (.bool true)], args := [d1, d2] }
  | _ => none }
def compDoesRow : OpenClaim := { program := "ytfoahkbnheijcaadoor", sum := "2c5682575924dd5f496f0bf05cb864471dc1937ba6789071452f3990af9da625", func := "conciliator/conciliatorlaw06.CompDoes", spec := "compDoes", inPlace := ["slices.overlaps[conciliator/api.Field]", "slices.overlaps[conciliator/api.Val]"], unfollowed := true, recurses := true, named := ["unicode/utf8.first", "unicode/utf8.acceptRanges"], apart := false, laid := [("unicode/utf8.acceptRanges", laid_unicode_utf8_acceptRanges), ("unicode/utf8.first", laid_unicode_utf8_first)] }
def CompDoesSaid : Prop := compDoesRow.holds Tryd.pinned (OpenSpec.ofChange compDoesSpec)

/-- ITS FALSE NEIGHBOUR: 'it returns false'. Refute it at one input. -/
def compDoesWrong : ChangeSpec := { name := "compDoes", fn := fun _ => fun
  | [d1, d2] => { results := [.lit (.bool false)], args := [d1, d2] }
  | _ => none }
def CompDoesWrongFalsely : Prop := compDoesRow.holds Tryd.pinned (OpenSpec.ofChange compDoesWrong)

/- THE SECOND FORM. 'bulk': how many values and letters a reading holds, each counted each time it is reached (what is shared counts as often as it is met; a slice's spare places count too). A statement '..UptoSaid' is the law's where the arguments, and the package variables that the reading takes, are together of bulk at most 1048576: NARROWER than '..Said'. Prove '..Said' where nothing that the law and all that it calls make is longer than what came in: it says more and counts as full. Else prove '..UptoSaid'. A law counts once. -/
mutual
def uptoBulk {H : Type} : DataW H → Nat
  | .lit (.string bytes) => bytes.length + 1
  | .lit _ => 1
  | .nil => 1
  | .ptr d => uptoBulk d + 1
  | .slice elems spare => uptoBulkAll elems + uptoBulkAll spare + 1
  | .agg parts => uptoBulkAll parts + 1
  | .iface _ d => uptoBulk d + 1
  | .map entries => uptoBulkEntries entries + 1
  | .held _ => 1
def uptoBulkAll {H : Type} : List (DataW H) → Nat
  | [] => 0
  | d :: r => uptoBulk d + uptoBulkAll r
def uptoBulkEntries {H : Type} : List (Lit × DataW H) → Nat
  | [] => 0
  | x :: r => uptoBulkEntry x + uptoBulkEntries r
def uptoBulkEntry {H : Type} : Lit × DataW H → Nat
  | (.string bytes, d) => bytes.length + uptoBulk d + 1
  | (_, d) => uptoBulk d + 1
 end
def uptoSmall : (H : Type) → List (DataW H) → Bool := fun _ ds => decide (uptoBulkAll ds ≤ 1048576)
def OpenSpec.upto (s : _root_.Go.ChangeSpec) : _root_.Go.OpenSpec := { _root_.Go.OpenSpec.ofChange s with cond := some uptoSmall }

/-- 'conciliatorlaw06.CompRefuses', WHERE WHAT IT READS IS OF BULK AT MOST 1048576: true; the input reads as it did. -/
def compRefusesUptoRow : OpenClaim := { program := "ytfoahkbnheijcaadoor", sum := "2c5682575924dd5f496f0bf05cb864471dc1937ba6789071452f3990af9da625", func := "conciliator/conciliatorlaw06.CompRefuses", spec := "compRefuses", inPlace := ["slices.overlaps[conciliator/api.Field]", "slices.overlaps[conciliator/api.Val]"], unfollowed := true, recurses := true, named := ["unicode/utf8.first", "unicode/utf8.acceptRanges"], apart := false, laid := [("unicode/utf8.acceptRanges", laid_unicode_utf8_acceptRanges), ("unicode/utf8.first", laid_unicode_utf8_first)], narrowed := true }
def CompRefusesUptoSaid : Prop := compRefusesUptoRow.holds Tryd.pinned (OpenSpec.upto compRefusesSpec)

/-- 'conciliatorlaw06.CompApart', WHERE WHAT IT READS IS OF BULK AT MOST 1048576: true; the input reads as it did. -/
def compApartUptoRow : OpenClaim := { program := "ytfoahkbnheijcaadoor", sum := "2c5682575924dd5f496f0bf05cb864471dc1937ba6789071452f3990af9da625", func := "conciliator/conciliatorlaw06.CompApart", spec := "compApart", inPlace := ["slices.overlaps[conciliator/api.Field]", "slices.overlaps[conciliator/api.Val]"], unfollowed := true, recurses := true, named := ["unicode/utf8.first", "unicode/utf8.acceptRanges"], apart := false, laid := [("unicode/utf8.acceptRanges", laid_unicode_utf8_acceptRanges), ("unicode/utf8.first", laid_unicode_utf8_first)], narrowed := true }
def CompApartUptoSaid : Prop := compApartUptoRow.holds Tryd.pinned (OpenSpec.upto compApartSpec)

/-- 'conciliatorlaw06.CompAdds', WHERE WHAT IT READS IS OF BULK AT MOST 1048576: true; the input reads as it did. -/
def compAddsUptoRow : OpenClaim := { program := "ytfoahkbnheijcaadoor", sum := "2c5682575924dd5f496f0bf05cb864471dc1937ba6789071452f3990af9da625", func := "conciliator/conciliatorlaw06.CompAdds", spec := "compAdds", inPlace := ["slices.overlaps[conciliator/api.Field]", "slices.overlaps[conciliator/api.Val]"], unfollowed := true, recurses := true, named := ["unicode/utf8.first", "unicode/utf8.acceptRanges"], apart := false, laid := [("unicode/utf8.acceptRanges", laid_unicode_utf8_acceptRanges), ("unicode/utf8.first", laid_unicode_utf8_first)], narrowed := true }
def CompAddsUptoSaid : Prop := compAddsUptoRow.holds Tryd.pinned (OpenSpec.upto compAddsSpec)

/-- 'conciliatorlaw06.CompSounds', WHERE WHAT IT READS IS OF BULK AT MOST 1048576: true; the input reads as it did. -/
def compSoundsUptoRow : OpenClaim := { program := "ytfoahkbnheijcaadoor", sum := "2c5682575924dd5f496f0bf05cb864471dc1937ba6789071452f3990af9da625", func := "conciliator/conciliatorlaw06.CompSounds", spec := "compSounds", inPlace := ["slices.overlaps[conciliator/api.Field]", "slices.overlaps[conciliator/api.Val]"], unfollowed := true, recurses := true, named := ["unicode/utf8.first", "unicode/utf8.acceptRanges"], apart := false, laid := [("unicode/utf8.acceptRanges", laid_unicode_utf8_acceptRanges), ("unicode/utf8.first", laid_unicode_utf8_first)], narrowed := true }
def CompSoundsUptoSaid : Prop := compSoundsUptoRow.holds Tryd.pinned (OpenSpec.upto compSoundsSpec)

/-- 'conciliatorlaw06.CompDoes', WHERE WHAT IT READS IS OF BULK AT MOST 1048576: true; the input reads as it did. -/
def compDoesUptoRow : OpenClaim := { program := "ytfoahkbnheijcaadoor", sum := "2c5682575924dd5f496f0bf05cb864471dc1937ba6789071452f3990af9da625", func := "conciliator/conciliatorlaw06.CompDoes", spec := "compDoes", inPlace := ["slices.overlaps[conciliator/api.Field]", "slices.overlaps[conciliator/api.Val]"], unfollowed := true, recurses := true, named := ["unicode/utf8.first", "unicode/utf8.acceptRanges"], apart := false, laid := [("unicode/utf8.acceptRanges", laid_unicode_utf8_acceptRanges), ("unicode/utf8.first", laid_unicode_utf8_first)], narrowed := true }
def CompDoesUptoSaid : Prop := compDoesUptoRow.holds Tryd.pinned (OpenSpec.upto compDoesSpec)

end Rows
end Go.Proofs.YtfoahkbnheijcaaDoor
