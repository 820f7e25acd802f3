/-
  Contracts of the functions that the law reaches: MsgDecodes: for every slice of bytes the law returns true and the slice reads as it did. Conditions: Go's two UTF-8 tables are what the program's text lays (the card ties them).
-/
import Derived.Test.YthceefjafklcmaaGreatDoorMd11
import Derived.Test.YthceefjafklcmaaGreatDoorMd28
import Derived.Test.YthceefjafklcmaaGreatDoorRows
import Derived.Test.YthceefjafklcmaaGreatDoorCards
import Derived.Test.YthceefjafklcmaaGreatDoorTie
import Derived.PinnedBridge
import Derived.Lib.LaidIn
import Derived.Lib.LaidU8T
import Derived.Deep.DeepHandedRow
import Derived.Deep.DeepWitnessRowRef
import Derived.ProofKit
import Derived.SizedLaws
import Derived.SevenTiedAt
namespace Go.Proofs.YthceefjafklcmaaGreatDoor
open Go.Shelf
open Go.ChangeShapes Go.WideShapes Go.ChangeAt Go.RowKit Go.Lib
theorem msgDecodesOwn:ownKnob Tryz.prog.godebug=none:=by kernel_rfl
theorem msgDecodesLaidOut:laidOutB Tryz.prog=true:=by kernel_rfl
noncomputable def msgDecodesWorld (os:Os):World:=
  let w0:=World.holding Tryz.prog os ⟨#[], #[], []⟩
  let put (h:Array Obj) (g:Nat) (cs:Array Value):Array Obj:=h.modify g fun
    | .cells _ t frozen=> .cells cs t frozen
    |o=>o
  let h1:=put w0.heap 0 (Lib.firstTab.map fun z=>Value.int .u8 z).toArray
  let h2:=put h1 1 ((List.range 16).flatMap fun i=> [Value.int .u8 (Lib.accLo i),Value.int .u8 (Lib.accHi i)]).toArray
  { w0 with heap:=h2 }
theorem msgDecodesAccept:Rows.laid_unicode_utf8_acceptRanges (H:=Unit)=Lib.acceptData:=by kernel_rfl
theorem msgDecodesLaid : Rows.msgDecodesRow.laid = [("unicode/utf8.acceptRanges", Lib.acceptData), ("unicode/utf8.first", Lib.firstData)] := by
  show [("unicode/utf8.acceptRanges", Rows.laid_unicode_utf8_acceptRanges), ("unicode/utf8.first", Go.Pinned.utf8First)] = _
  rw [Pinned.utf8First_eq,msgDecodesAccept]
theorem msgDecodesLaidMet (os:Os) (args:Array Value):laidMet Tryz.prog Rows.msgDecodesRow.laid ((msgDecodesWorld os).forCall (fun _ _=>0) ⟨#[],args, []⟩).memory:=by
  rw [msgDecodesLaid]
  exact (LaidIn.of_run (l := [("unicode/utf8.acceptRanges", Lib.acceptData), ("unicode/utf8.first", Lib.firstData)]) [0, 1] 8 (by kernel_rfl) (by kernel_rfl) (by kernel_rfl) (by kernel_rfl)).met
theorem msgDecodesWitness (os:Os) {H:Type} (enc:TypeId×Value→H):
    (OpenSpec.ofChange Rows.msgDecodesSpec).preRow enc Tryz.prog Tryz.f3 Rows.msgDecodesRow.domain false Rows.msgDecodesRow.laid ((msgDecodesWorld os).forCall (fun _ _=>0) ⟨#[], #[.slice none 0 0], []⟩).memory #[.slice none 0 0] :=by
  have hw:(DataW.whole enc Tryz.prog ((msgDecodesWorld os).forCall (fun _ _=>0) ⟨#[], #[.slice none 0 0], []⟩).memory Tryz.f3.params.toList (OpenSpec.ofChange Rows.msgDecodesSpec).vars false #[Value.slice none 0 0].toList 8).map (fun x=>(x.1,x.2.1))=
      some ([.nil], []):=by kernel_rfl
  obtain ⟨⟨x1,x2,x3⟩,hx,hx1⟩:=Option.map_eq_some_iff.1 hw
  simp only [Prod.mk.injEq] at hx1
  obtain ⟨rfl,rfl⟩:=hx1
  exact OpenSpec.preRow_of_cond 8 hx (by kernel_rfl) (fun k hk=>by cases hk) (by kernel_rfl) (msgDecodesLaidMet os _)
set_option maxRecDepth 100000 in
theorem msgDecodesBytes {H:Type} {enc:TypeId×Value→H} {W:World} {base:Nat} {v1:Value} {d1:DataW H} {p1:List MemPlace} (hval:Value.okWide Tryz.prog W .any base 22 v1) (h1:DataW.Trod enc Tryz.prog W 0 (fun _=>true) true 22 v1 d1 p1):
    ∃(a:Option Addr) (n c:Nat) (bs:List UInt8),v1= .slice a n c∧IsB W W.heap.size a n c bs:=by
  obtain ⟨a1,len,cap,rfl⟩:=okWide_slice Tryz.underlying22 hval
  obtain ⟨fuel,hf⟩:=h1
  rcases open_ints Tryz.underlying22 Tryz.underlying5 (by kernel_rfl) hf with ⟨hcs,hx⟩|⟨a,len',cap',zs,hcs,_,hl,hm,hz,hx,hcell,hwz⟩
  · simp [Value.cells] at hcs
    obtain ⟨rfl,rfl,rfl⟩:=hcs
    exact ⟨_,_,_, [],rfl,rfl,Nat.le_refl _,by decide,0,0,(fun h=>absurd h (by decide)),(fun i hi=>absurd hi (by simp))⟩
  · simp [Value.cells] at hcs
    obtain ⟨rfl,rfl,rfl⟩:=hcs
    simp only [if_true] at hz
    obtain ⟨bs,hbs⟩:∃bs,(zs.take len).map (fun n=>UInt8.ofNat n.toNat)=bs:=⟨_,rfl⟩
    have hlen:bs.length=len:=by rw [←hbs];simp;omega
    obtain ⟨ab,ao,spot⟩:=a
    refine ⟨_,_,_,bs,rfl,hlen.symm,hl,by unfold maxLen at hm;omega,ab,ao,fun hn=> ?_,fun i hi=> ?_⟩
    · have h0:=hcell 0 (by omega)
      have hspot:spot=none:=by simpa [Addr.add] using World.cell?_spot h0
      subst hspot
      refine ⟨rfl, ?_⟩
      simpa [Addr.add] using World.block_lt_of_cell? W _ h0
    · have h0:=hcell i (by omega)
      have h00:=hcell 0 (by omega)
      have hspot:spot=none:=by simpa [Addr.add] using World.cell?_spot h00
      subst hspot
      rw [Addr.add_lit] at h0
      have hb:=range_u8 hwz i
      have e:zs.getD i 0=zs[i]'(by omega):=by simp [List.getD,List.getElem?_eq_getElem (show i<zs.length by omega)]
      rw [List.getD_eq_getElem?_getD] at e
      rw [e] at hb
      rw [h0,List.getD_eq_getElem?_getD,e]
      subst hbs
      simp only [List.getElem_map,List.getElem_take]
      congr 2
      simp only [UInt8.toNat_ofNat']
      omega
end Go.Proofs.YthceefjafklcmaaGreatDoor
