/-
  DERIVED. GIVEN WITH THE SEED: THE CARDS: each row of YtfoahkbnheijcaaDoorRows.lean that lists a variable, with what it lists TIED to the program's text (the seventh form; the later family's looks); each row that meets fmt, with fmt's text TOLD by the authors' own Lean function (tested against real Go, not proved from fmt's source: count such statements apart). THE CARD IS WHAT COUNTS. Prove the row's statement (the work); the ties are given (YtfoahkbnheijcaaDoorTie.lean); close each card by the builder's one call (the guide's Derived/Test/ToyasCard.lean, 'card_holds'). Laid BY PROGRAM, IN A SANDBOX (cutbox-door.mjs). By AI agents, Wed Nov 11 2026. No macro, syntax, notation, axiom, sorry.
-/
import Derived.Test.YtfoahkbnheijcaaDoorRows
import GoSem.ClaimSeven
namespace Go.Proofs.YtfoahkbnheijcaaDoor
namespace Rows

/-- THE TIED CARD OF 'conciliatorlaw06.CompRefuses'. -/
def compRefusesCard : Claim7 := { stood := { row := compRefusesRow, standIns := [], harness := (true, "74e06320465f30a1d222ffc913a469eb872c499358df3a66e177a9c81db5025c"), looks := false }, kinds := [], alts := [], laidByText := true, laidKinds := [.data, .pinned], laidTests := true, laidLooks := .later }
def CompRefusesCardSaid : Prop := Claim7.holds Tryd.pinned (.plain (OpenSpec.ofChange compRefusesSpec)) compRefusesCard

/-- THE TIED CARD OF 'conciliatorlaw06.CompApart'. -/
def compApartCard : Claim7 := { stood := { row := compApartRow, standIns := [], harness := (true, "74e06320465f30a1d222ffc913a469eb872c499358df3a66e177a9c81db5025c"), looks := false }, kinds := [], alts := [], laidByText := true, laidKinds := [.data, .pinned], laidTests := true, laidLooks := .later }
def CompApartCardSaid : Prop := Claim7.holds Tryd.pinned (.plain (OpenSpec.ofChange compApartSpec)) compApartCard

/-- THE TIED CARD OF 'conciliatorlaw06.CompAdds'. -/
def compAddsCard : Claim7 := { stood := { row := compAddsRow, standIns := [], harness := (true, "74e06320465f30a1d222ffc913a469eb872c499358df3a66e177a9c81db5025c"), looks := false }, kinds := [], alts := [], laidByText := true, laidKinds := [.data, .pinned], laidTests := true, laidLooks := .later }
def CompAddsCardSaid : Prop := Claim7.holds Tryd.pinned (.plain (OpenSpec.ofChange compAddsSpec)) compAddsCard

/-- THE TIED CARD OF 'conciliatorlaw06.CompSounds'. -/
def compSoundsCard : Claim7 := { stood := { row := compSoundsRow, standIns := [], harness := (true, "74e06320465f30a1d222ffc913a469eb872c499358df3a66e177a9c81db5025c"), looks := false }, kinds := [], alts := [], laidByText := true, laidKinds := [.data, .pinned], laidTests := true, laidLooks := .later }
def CompSoundsCardSaid : Prop := Claim7.holds Tryd.pinned (.plain (OpenSpec.ofChange compSoundsSpec)) compSoundsCard

/-- THE TIED CARD OF 'conciliatorlaw06.CompDoes'. -/
def compDoesCard : Claim7 := { stood := { row := compDoesRow, standIns := [], harness := (true, "74e06320465f30a1d222ffc913a469eb872c499358df3a66e177a9c81db5025c"), looks := false }, kinds := [], alts := [], laidByText := true, laidKinds := [.data, .pinned], laidTests := true, laidLooks := .later }
def CompDoesCardSaid : Prop := Claim7.holds Tryd.pinned (.plain (OpenSpec.ofChange compDoesSpec)) compDoesCard

/-- THE SECOND FORM's CARD OF 'conciliatorlaw06.CompRefuses'. -/
def compRefusesUptoCard : Claim7 := { stood := { row := compRefusesUptoRow, standIns := [], harness := (true, "74e06320465f30a1d222ffc913a469eb872c499358df3a66e177a9c81db5025c"), looks := false }, kinds := [], alts := [], laidByText := true, laidKinds := [.data, .pinned], laidTests := true, laidLooks := .later }
def CompRefusesUptoCardSaid : Prop := Claim7.holds Tryd.pinned (.plain (OpenSpec.upto compRefusesSpec)) compRefusesUptoCard

/-- THE SECOND FORM's CARD OF 'conciliatorlaw06.CompApart'. -/
def compApartUptoCard : Claim7 := { stood := { row := compApartUptoRow, standIns := [], harness := (true, "74e06320465f30a1d222ffc913a469eb872c499358df3a66e177a9c81db5025c"), looks := false }, kinds := [], alts := [], laidByText := true, laidKinds := [.data, .pinned], laidTests := true, laidLooks := .later }
def CompApartUptoCardSaid : Prop := Claim7.holds Tryd.pinned (.plain (OpenSpec.upto compApartSpec)) compApartUptoCard

/-- THE SECOND FORM's CARD OF 'conciliatorlaw06.CompAdds'. -/
def compAddsUptoCard : Claim7 := { stood := { row := compAddsUptoRow, standIns := [], harness := (true, "74e06320465f30a1d222ffc913a469eb872c499358df3a66e177a9c81db5025c"), looks := false }, kinds := [], alts := [], laidByText := true, laidKinds := [.data, .pinned], laidTests := true, laidLooks := .later }
def CompAddsUptoCardSaid : Prop := Claim7.holds Tryd.pinned (.plain (OpenSpec.upto compAddsSpec)) compAddsUptoCard

/-- THE SECOND FORM's CARD OF 'conciliatorlaw06.CompSounds'. -/
def compSoundsUptoCard : Claim7 := { stood := { row := compSoundsUptoRow, standIns := [], harness := (true, "74e06320465f30a1d222ffc913a469eb872c499358df3a66e177a9c81db5025c"), looks := false }, kinds := [], alts := [], laidByText := true, laidKinds := [.data, .pinned], laidTests := true, laidLooks := .later }
def CompSoundsUptoCardSaid : Prop := Claim7.holds Tryd.pinned (.plain (OpenSpec.upto compSoundsSpec)) compSoundsUptoCard

/-- THE SECOND FORM's CARD OF 'conciliatorlaw06.CompDoes'. -/
def compDoesUptoCard : Claim7 := { stood := { row := compDoesUptoRow, standIns := [], harness := (true, "74e06320465f30a1d222ffc913a469eb872c499358df3a66e177a9c81db5025c"), looks := false }, kinds := [], alts := [], laidByText := true, laidKinds := [.data, .pinned], laidTests := true, laidLooks := .later }
def CompDoesUptoCardSaid : Prop := Claim7.holds Tryd.pinned (.plain (OpenSpec.upto compDoesSpec)) compDoesUptoCard
end Rows
end Go.Proofs.YtfoahkbnheijcaaDoor
