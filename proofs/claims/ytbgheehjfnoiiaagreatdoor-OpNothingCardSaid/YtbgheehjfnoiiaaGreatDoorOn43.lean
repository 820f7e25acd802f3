/-
  Contracts of the functions that the law reaches: A slice of acts as it is given.
-/
import Derived.Test.YtbgheehjfnoiiaaGreatDoorOn37
namespace Go.Proofs.YtbgheehjfnoiiaaGreatDoor
open Go.RowKit
instance inhAct:Inhabited (AC×Ac):=⟨(⟨none,0,0,0,0,0,0, .empty,none,0,0⟩,⟨[],0,0,0,0, .empty, []⟩)⟩
set_option maxRecDepth 100000 in
theorem zgh {H:Type} {enc:TypeId×Value->H} {W:World} {fuel:Nat} {cs:List Value} {x:DataW H×List MemPlace} (hf:DataW.trod enc Tryz.prog W 0 (fun _=>true) true fuel 70 cs=some x) (hz:∀n ∈ x.1.weights Tryz.prog 70,n<=reachBytes):
 ∃p:AC×Ac,cs=acells p.1/\IsAct W W.heap.size p.2 p.1:=by
 obtain ⟨c,a,h1,h2⟩:=zd9 hf hz
 exact ⟨(c,a),h1,h2⟩
set_option maxRecDepth 100000 in
theorem zg8 {H:Type} {enc:TypeId×Value->H} {W:World} {fuel:Nat} {cs:List Value} {x:DataW H×List MemPlace} (hf:DataW.trod enc Tryz.prog W 0 (fun _=>true) true fuel 23 cs=some x) (hz:∀n ∈ x.1.weights Tryz.prog 23,n<=reachBytes):
 ∃(a:Option Addr) (n c:Nat) (l:List Ac),cs= [.slice a n c] /\IsActs W W.heap.size l a n c:=by
 obtain ⟨a,n,c,l,e,⟨h1,h2,h3,b,o,h5,h6⟩⟩:=zde (sz:=7) Tryz.underlying23 (by kernel_rfl) (by decide) (fun p:AC×Ac=>acells p.1) (fun _=>rfl) (fun p=>IsAct W W.heap.size p.2 p.1) zgh hf hz
 refine ⟨a,n,c,l.map Prod.snd,e,by rw [List.length_map];exact h1,h2,h3,b,o,fun i=>(l.getD i default).1,h5,fun i hi=> ?_⟩
 rw [List.length_map] at hi
 obtain ⟨g1,g2⟩:=h6 i hi
 have he:l.getD i default=l[i] :=by simp [List.getD_eq_getElem?_getD,hi]
 simp only [he,List.getElem_map]
 exact ⟨⟨g1 0 _ rfl,g1 1 _ rfl,g1 2 _ rfl,g1 3 _ rfl,g1 4 _ rfl,g1 5 _ rfl,g1 6 _ rfl⟩,g2⟩
end Go.Proofs.YtbgheehjfnoiiaaGreatDoor
