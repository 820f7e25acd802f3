/-
  Contracts of the functions that the law reaches: An act, and a component as it is given.
-/
import Derived.Test.YtnjgbiachcfigaaGreatDoorIw19
import Derived.Test.YtnjgbiachcfigaaGreatDoorIw33
namespace Go.Proofs.YtnjgbiachcfigaaGreatDoor
open Go.RowKit
open Go.ChangeShapes Go.WideShapes Go.ChangeAt Go.RowKit Go.Lib Go.Deep
theorem zh2 {α:Type} {l:List α} (h:l.length=3):∃v0 v1 v2,l= [v0,v1,v2] :=by
 match l,h with
 | [v0,v1,v2],_=>exact ⟨v0,v1,v2,rfl⟩
theorem zm3 {H:Type} {enc:TypeId×Value->H} {P:Program} {w:World} {base:Nat} {spare:Nat->Bool} {held:Bool} {t:TypeId} {f0 f1 f2:Field} {fuel:Nat} {cs:List Value} {x:DataW H×List MemPlace} (ht:P.underlying t=some (.struct #[f0,f1,f2])) (h:DataW.trod enc P w base spare held fuel t cs=some x):
 ∃(y0 y1 y2:DataW H×List MemPlace) (n:Nat),x.1= .agg [y0.1,y1.1,y2.1] /\cs.length=P.cellsOf t/\DataW.trod enc P w base spare held n f0.type ((cs.drop f0.offset).take (P.cellsOf f0.type))=some y0/\DataW.trod enc P w base spare held n f1.type ((cs.drop f1.offset).take (P.cellsOf f1.type))=some y1/\DataW.trod enc P w base spare held n f2.type ((cs.drop f2.offset).take (P.cellsOf f2.type))=some y2:=by
 obtain ⟨xs,n,_,rfl,hl,hlen,hf⟩:=DataW.trod_struct ht h
 match xs,hlen with
 | [y0,y1,y2],_=>exact ⟨y0,y1,y2,n,by simp,hl,by simpa using hf 0 f0 rfl,by simpa using hf 1 f1 rfl,by simpa using hf 2 f2 rfl⟩
theorem zqm {α:Type} {l:List α} (h:l.length=8):∃v0 v1 v2 v3 v4 v5 v6 v7,l= [v0,v1,v2,v3,v4,v5,v6,v7] :=by
 match l,h with
 | [v0,v1,v2,v3,v4,v5,v6,v7],_=>exact ⟨v0,v1,v2,v3,v4,v5,v6,v7,rfl⟩
theorem zlj {H:Type} {enc:TypeId×Value->H} {P:Program} {w:World} {base:Nat} {spare:Nat->Bool} {held:Bool} {t:TypeId} {f0 f1 f2 f3 f4 f5 f6 f7:Field} {fuel:Nat} {cs:List Value} {x:DataW H×List MemPlace} (ht:P.underlying t=some (.struct #[f0,f1,f2,f3,f4,f5,f6,f7])) (h:DataW.trod enc P w base spare held fuel t cs=some x):
 ∃(y0 y1 y2 y3 y4 y5 y6 y7:DataW H×List MemPlace) (n:Nat),x.1= .agg [y0.1,y1.1,y2.1,y3.1,y4.1,y5.1,y6.1,y7.1] /\cs.length=P.cellsOf t/\DataW.trod enc P w base spare held n f0.type ((cs.drop f0.offset).take (P.cellsOf f0.type))=some y0/\DataW.trod enc P w base spare held n f1.type ((cs.drop f1.offset).take (P.cellsOf f1.type))=some y1/\DataW.trod enc P w base spare held n f2.type ((cs.drop f2.offset).take (P.cellsOf f2.type))=some y2/\DataW.trod enc P w base spare held n f3.type ((cs.drop f3.offset).take (P.cellsOf f3.type))=some y3/\DataW.trod enc P w base spare held n f4.type ((cs.drop f4.offset).take (P.cellsOf f4.type))=some y4/\DataW.trod enc P w base spare held n f5.type ((cs.drop f5.offset).take (P.cellsOf f5.type))=some y5/\DataW.trod enc P w base spare held n f6.type ((cs.drop f6.offset).take (P.cellsOf f6.type))=some y6/\DataW.trod enc P w base spare held n f7.type ((cs.drop f7.offset).take (P.cellsOf f7.type))=some y7:=by
 obtain ⟨xs,n,_,rfl,hl,hlen,hf⟩:=DataW.trod_struct ht h
 match xs,hlen with
 | [y0,y1,y2,y3,y4,y5,y6,y7],_=>exact ⟨y0,y1,y2,y3,y4,y5,y6,y7,n,by simp,hl,by simpa using hf 0 f0 rfl,by simpa using hf 1 f1 rfl,by simpa using hf 2 f2 rfl,by simpa using hf 3 f3 rfl,by simpa using hf 4 f4 rfl,by simpa using hf 5 f5 rfl,by simpa using hf 6 f6 rfl,by simpa using hf 7 f7 rfl⟩
def bacellsZ (b:BA):List Value:= [.int .u8 b.k, .slice b.pa b.pl b.pc, .string b.key, .int .i64 b.i, .int .i64 b.j, .int .i64 b.n, .string b.s, .slice b.va b.vl b.vc]
set_option maxRecDepth 100000 in
theorem zlp {H:Type} {enc:TypeId×Value->H} {W:World} {fuel:Nat} {cs:List Value} {x:DataW H×List MemPlace} (hf:DataW.trod enc Tryz.prog W 0 (fun _=>true) true fuel 77 cs=some x) (hz:∀n ∈ x.1.weights Tryz.prog 77,n<=reachBytes):
 ∃t:St,cs=scells t/\t.Bnd:=by
 obtain ⟨y0,y1,y2,n,hx,hlen,h0,h1,h2⟩:=zm3 Tryz.underlying77 hf
 rw [hx] at hz
 simp only [DataW.weights,Tryz.underlying77,DataW.weightsEach,List.map_cons,List.map_nil,List.append_nil] at hz
 have hl:cs.length=3:=by rw [hlen];kernel_rfl
 obtain ⟨v0,v1,v2,rfl⟩:=zh2 hl
 have c_bool:Tryz.prog.cellsOf 4=1:=by kernel_rfl
 have c_int:Tryz.prog.cellsOf 3=1:=by kernel_rfl
 have c_str:Tryz.prog.cellsOf 9=1:=by kernel_rfl
 simp only [c_bool,c_int,c_str] at h0 h1 h2
 simp only [List.drop_zero,List.drop_succ_cons,List.take_succ_cons,List.take_zero] at h0 h1 h2
 obtain ⟨l,e0,rfl⟩:=DataW.trod_bool Tryz.underlying4 h0
 injection e0 with e0 _
 subst e0
 obtain ⟨i,e1,rfl,w1⟩:=DataW.trod_int Tryz.underlying3 h1
 injection e1 with e1 _
 subst e1
 have b1:=bounds_i64 w1
 obtain ⟨s,e2,rfl,_⟩:=DataW.trod_string Tryz.underlying9 h2
 injection e2 with e2 _
 subst e2
 have z2:s.data.toList.length=s.size:=Array.length_toList
 have z3:s.data.toList.length<=reachBytes:=hz _ (by simp [DataW.weights])
 have z4:reachBytes=0x7ffffffff000:=rfl
 exact ⟨⟨l,i,s⟩,rfl,⟨b1.1,b1.2,by dsimp only;omega⟩⟩
theorem zpy {H:Type} {enc:TypeId×Value->H} {W:World} {fuel:Nat} {cs:List Value} {x:DataW H×List MemPlace} (hf:DataW.trod enc Tryz.prog W 0 (fun _=>true) true fuel 27 cs=some x) (hz:∀n ∈ x.1.weights Tryz.prog 27,n<=reachBytes):
 ∃(a:Option Addr) (n c:Nat) (l:List St),cs= [.slice a n c] /\(n<=40->IsSteps W W.heap.size l a n c):=by
 obtain ⟨a,n,c,l,e,⟨h1,h2,h3,b,o,h5,h6⟩⟩:=za6 (sz:=3) Tryz.underlying27 (by kernel_rfl) (by decide) scells (fun _=>rfl) St.Bnd zlp hf hz
 exact ⟨a,n,c,l,e,fun h40=>⟨h1,h2,h3,by omega,b,o,h5,fun i hi=>by
  obtain ⟨g1,g2⟩:=h6 i hi
  exact ⟨⟨g1 0 _ rfl,g1 1 _ rfl,g1 2 _ rfl⟩,g2⟩⟩⟩
set_option maxRecDepth 100000 in
theorem zfi {H:Type} {enc:TypeId×Value->H} {W:World} {fuel:Nat} {cs:List Value} {x:DataW H×List MemPlace} (hf:DataW.trod enc Tryz.prog W 0 (fun _=>true) true fuel 29 cs=some x) (hz:∀n ∈ x.1.weights Tryz.prog 29,n<=reachBytes):
 ∃(c:BA) (b:Ba),cs=bacellsZ c/\IsToks W W.heap.size b.v c.va c.vl c.vc/\(c.pl<=40->IsBare W W.heap.size b c)/\c.s.size<=140737488351232/\b.s=c.s:=by
 obtain ⟨y0,y1,y2,y3,y4,y5,y6,y7,n,hx,hlen,h0,h1,h2,h3,h4,h5,h6,h7⟩:=zlj Tryz.underlying29 hf
 rw [hx] at hz
 simp only [DataW.weights,Tryz.underlying29,DataW.weightsEach,List.map_cons,List.map_nil,List.append_nil] at hz
 have z1:∀q ∈ y1.1.weights Tryz.prog 27,q<=reachBytes:=fun q hq=>hz q (by simp only [List.mem_append];simp [hq])
 have z2:∀q ∈ y2.1.weights Tryz.prog 9,q<=reachBytes:=fun q hq=>hz q (by simp only [List.mem_append];simp [hq])
 have z6:∀q ∈ y6.1.weights Tryz.prog 9,q<=reachBytes:=fun q hq=>hz q (by simp only [List.mem_append];simp [hq])
 have z7:∀q ∈ y7.1.weights Tryz.prog 22,q<=reachBytes:=fun q hq=>hz q (by simp only [List.mem_append];simp [hq])
 have hl:cs.length=8:=by rw [hlen];kernel_rfl
 obtain ⟨v0,v1,v2,v3,v4,v5,v6,v7,rfl⟩:=zqm hl
 have c_i64:Tryz.prog.cellsOf 2=1:=by kernel_rfl
 have c_int:Tryz.prog.cellsOf 3=1:=by kernel_rfl
 have c_sl:Tryz.prog.cellsOf 27=1:=by kernel_rfl
 have c_tk:Tryz.prog.cellsOf 22=1:=by kernel_rfl
 have c_str:Tryz.prog.cellsOf 9=1:=by kernel_rfl
 have c_u8:Tryz.prog.cellsOf 5=1:=by kernel_rfl
 have zr:reachBytes=0x7ffffffff000:=rfl
 simp only [c_i64,c_int,c_sl,c_tk,c_str,c_u8] at h0 h1 h2 h3 h4 h5 h6 h7
 simp only [List.drop_zero,List.drop_succ_cons,List.take_succ_cons,List.take_zero] at h0 h1 h2 h3 h4 h5 h6 h7
 obtain ⟨k,e0,rfl,w0⟩:=DataW.trod_int Tryz.underlying5 h0
 injection e0 with e0 _
 subst e0
 have b0:=bounds_u8 w0
 obtain ⟨a1,n1,c1,p1,e1,I1⟩:=zpy h1 z1
 injection e1 with e1 _
 subst e1
 obtain ⟨key,e2,u2,_⟩:=DataW.trod_string Tryz.underlying9 h2
 injection e2 with e2 _
 subst e2
 have l2:key.data.toList.length=key.size:=Array.length_toList
 have r2:key.data.toList.length<=reachBytes:=z2 _ (by rw [u2];simp [DataW.weights])
 obtain ⟨i,e3,rfl,w3⟩:=DataW.trod_int Tryz.underlying3 h3
 injection e3 with e3 _
 subst e3
 have b3:=bounds_i64 w3
 obtain ⟨j,e4,rfl,w4⟩:=DataW.trod_int Tryz.underlying3 h4
 injection e4 with e4 _
 subst e4
 have b4:=bounds_i64 w4
 obtain ⟨m,e5,rfl,w5⟩:=DataW.trod_int Tryz.underlying2 h5
 injection e5 with e5 _
 subst e5
 have b5:=bounds_i64 w5
 obtain ⟨s,e6,u6,_⟩:=DataW.trod_string Tryz.underlying9 h6
 injection e6 with e6 _
 subst e6
 have l6:s.data.toList.length=s.size:=Array.length_toList
 have r6:s.data.toList.length<=reachBytes:=z6 _ (by rw [u6];simp [DataW.weights])
 obtain ⟨a7,n7,c7,p7,e7,I7⟩:=Qx h7 z7
 injection e7 with e7 _
 subst e7
 exact ⟨⟨k,a1,n1,c1,key,i,j,m,s,a7,n7,c7⟩,⟨k,p1,key,i,j,m,s,p7⟩,rfl,I7,fun h40=> .mk ⟨k,a1,n1,c1,key,i,j,m,s,a7,n7,c7⟩ p1 p7 ⟨b0.1,by have:=b0.2;dsimp only;omega,b3.1,b3.2,b4.1,b4.2,b5.1,b5.2,by dsimp only;omega,by dsimp only;omega⟩ (I1 h40) I7,by dsimp only;omega,rfl⟩
end Go.Proofs.YtnjgbiachcfigaaGreatDoor
