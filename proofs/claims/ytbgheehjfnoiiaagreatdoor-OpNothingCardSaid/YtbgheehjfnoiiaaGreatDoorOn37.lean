/-
  Contracts of the functions that the law reaches: An act, and a component as it is given.
-/
import Derived.Test.YtbgheehjfnoiiaaGreatDoorOn16
import Derived.Test.YtbgheehjfnoiiaaGreatDoorOn36
namespace Go.Proofs.YtbgheehjfnoiiaaGreatDoor
open Go.RowKit
open Go.ChangeShapes Go.WideShapes Go.ChangeAt Go.RowKit Go.Lib Go.Deep
instance:Inhabited St:=⟨⟨false,0, .empty⟩⟩
theorem zdt {α:Type} {l:List α} (h:l.length=7):∃v0 v1 v2 v3 v4 v5 v6,l= [v0,v1,v2,v3,v4,v5,v6] :=by
 match l,h with
 | [v0,v1,v2,v3,v4,v5,v6],_=>exact ⟨v0,v1,v2,v3,v4,v5,v6,rfl⟩
theorem zk9 {H:Type} {enc:TypeId×Value->H} {P:Program} {w:World} {base:Nat} {spare:Nat->Bool} {held:Bool} {t:TypeId} {f0 f1 f2 f3 f4 f5 f6:Field} {fuel:Nat} {cs:List Value} {x:DataW H×List MemPlace} (ht:P.underlying t=some (.struct #[f0,f1,f2,f3,f4,f5,f6])) (h:DataW.trod enc P w base spare held fuel t cs=some x):
 ∃(y0 y1 y2 y3 y4 y5 y6:DataW H×List MemPlace) (n:Nat),x.1= .agg [y0.1,y1.1,y2.1,y3.1,y4.1,y5.1,y6.1] /\cs.length=P.cellsOf t/\DataW.trod enc P w base spare held n f0.type ((cs.drop f0.offset).take (P.cellsOf f0.type))=some y0/\DataW.trod enc P w base spare held n f1.type ((cs.drop f1.offset).take (P.cellsOf f1.type))=some y1/\DataW.trod enc P w base spare held n f2.type ((cs.drop f2.offset).take (P.cellsOf f2.type))=some y2/\DataW.trod enc P w base spare held n f3.type ((cs.drop f3.offset).take (P.cellsOf f3.type))=some y3/\DataW.trod enc P w base spare held n f4.type ((cs.drop f4.offset).take (P.cellsOf f4.type))=some y4/\DataW.trod enc P w base spare held n f5.type ((cs.drop f5.offset).take (P.cellsOf f5.type))=some y5/\DataW.trod enc P w base spare held n f6.type ((cs.drop f6.offset).take (P.cellsOf f6.type))=some y6:=by
 obtain ⟨xs,n,_,rfl,hl,hlen,hf⟩:=DataW.trod_struct ht h
 match xs,hlen with
 | [y0,y1,y2,y3,y4,y5,y6],_=>exact ⟨y0,y1,y2,y3,y4,y5,y6,n,by simp,hl,by simpa using hf 0 f0 rfl,by simpa using hf 1 f1 rfl,by simpa using hf 2 f2 rfl,by simpa using hf 3 f3 rfl,by simpa using hf 4 f4 rfl,by simpa using hf 5 f5 rfl,by simpa using hf 6 f6 rfl⟩
structure InRowZ {T:Type} (W:World) (sz:Nat) (cells:T->List Value) (Q:T->Prop) (l:List T) (a:Option Addr) (n c:Nat):Prop where
 len:n=l.length
 cap:n<=c
 max:c<=9223372036854775807
 at_:∃b o,(0<n->a=some ⟨b,o,none⟩/\b<W.heap.size)/\∀i (h:i<l.length),(∀j u,(cells l[i])[j]? =some u->W.cell? ⟨b,o+i*sz+j,none⟩=some u)/\Q l[i]
theorem zde {T:Type} [Inhabited T] {H:Type} {enc:TypeId×Value->H} {W:World} {t e:TypeId} {sz:Nat} (hu:Tryz.prog.underlying t=some (.slice e)) (hc:Tryz.prog.cellsOf e=sz) (hsz:0<sz) (cells:T->List Value) (hcl:∀x,(cells x).length=sz) (Q:T->Prop)
 (hel:∀ {fuel:Nat} {cs:List Value} {x:DataW H×List MemPlace},DataW.trod enc Tryz.prog W 0 (fun _=>true) true fuel e cs=some x->(∀n ∈ x.1.weights Tryz.prog e,n<=reachBytes)->∃y:T,cs=cells y/\Q y)
 {fuel:Nat} {cs:List Value} {x:DataW H×List MemPlace} (hf:DataW.trod enc Tryz.prog W 0 (fun _=>true) true fuel t cs=some x) (hz:∀n ∈ x.1.weights Tryz.prog t,n<=reachBytes):
 ∃(a:Option Addr) (n c:Nat) (l:List T),cs= [.slice a n c] /\InRowZ W sz cells Q l a n c:=by
 rcases open_slice hu hf with ⟨rfl,_⟩|⟨a,len,cap,m,n,D,Pl,rfl,_,hl,hm,hmm,rfl,hel2⟩
 .exact ⟨none,0,0, [],rfl,rfl,Nat.le_refl _,by decide,0,0,fun h=>absurd h (by decide),fun i hi=>absurd hi (by simp)⟩
 .simp only [if_true] at hmm
  rw [hc] at hel2
  obtain ⟨T',hT⟩:=choose_lt (n:=len) (p:=fun i (y:T)=>(∀j u,(cells y)[j]? =some u->W.cell? (a.add (i*sz+j))=some u)/\Q y) (fun i hi=>by
   obtain ⟨cs',h1,h2⟩:=hel2 i (by omega)
   obtain ⟨y,rfl,hy⟩:=hel h2 (fun q hq=>hz q (zb4 hu (List.mem_map.2 ⟨i,List.mem_range.2 hi,rfl⟩) q hq))
   obtain ⟨_,_,h3⟩:=World.cells?_some h1
   refine ⟨y,fun j u hj=> ?_,hy⟩
   have hj4:j<sz:=by rw [<-hcl y];exact (List.getElem?_eq_some_iff.1 hj).1
   rw [<-add_add,h3 j hj4,hj])
  have hspot:0<len->a.spot=none/\a.block<W.heap.size:=fun hn=>by
   have hlt:0<(cells (T' 0)).length:=by rw [hcl];exact hsz
   have h0:=(hT 0 hn).1 0 (cells (T' 0))[0] (List.getElem?_eq_getElem hlt)
   have h1:=World.cell?_spot h0
   have h2:=World.block_lt_of_cell? W _ h0
   exact ⟨by simpa [Addr.add] using h1,by simpa [Addr.add] using h2⟩
  refine ⟨some a,len,cap,(List.range len).map T',rfl,by simp,hl,by unfold maxLen at hm;omega,a.block,a.off,fun hn=> ?_,fun i hi=> ?_⟩
  .obtain ⟨h1,h2⟩:=hspot hn
   obtain ⟨ab,ao,spot⟩:=a
   dsimp only at h1 h2
   subst h1
   exact ⟨rfl,h2⟩
  .have hi':i<len:=by simpa using hi
   obtain ⟨h1,h2⟩:=hspot (by omega)
   obtain ⟨g1,g2⟩:=hT i hi'
   obtain ⟨ab,ao,spot⟩:=a
   dsimp only at h1
   subst h1
   simp only [List.getElem_map,List.getElem_range]
   refine ⟨fun j u hj=> ?_,g2⟩
   have:=g1 j u hj
   rw [Addr.add_lit] at this
   rw [Nat.add_assoc];exact this
theorem zl8 {H:Type} {enc:TypeId×Value->H} {W:World} {fuel:Nat} {cs:List Value} {x:DataW H×List MemPlace} (hf:DataW.trod enc Tryz.prog W 0 (fun _=>true) true fuel 5 cs=some x):
 ∃y:UInt8,cs= [Value.int .u8 (y.toNat:Int)] /\True:=by
 obtain ⟨k,rfl,_,w0⟩:=DataW.trod_int Tryz.underlying5 hf
 have b0:=bounds_u8 w0
 refine ⟨UInt8.ofNat k.toNat, ?_,trivial⟩
 have:(UInt8.ofNat k.toNat).toNat=k.toNat:=by rw [UInt8.toNat_ofNat'];omega
 rw [this,Int.toNat_of_nonneg b0.1]
theorem zgb {H:Type} {enc:TypeId×Value->H} {W:World} {fuel:Nat} {cs:List Value} {x:DataW H×List MemPlace} (hf:DataW.trod enc Tryz.prog W 0 (fun _=>true) true fuel 68 cs=some x) (hz:∀n ∈ x.1.weights Tryz.prog 68,n<=reachBytes):
 ∃(a:Option Addr) (n c:Nat) (l:List UInt8),cs= [.slice a n c] /\IsB W W.heap.size a n c l:=by
 obtain ⟨a,n,c,l,e,⟨h1,h2,h3,b,o,h5,h6⟩⟩:=zde (sz:=1) Tryz.underlying68 (by kernel_rfl) (by decide) (fun y:UInt8=> [Value.int .u8 (y.toNat:Int)]) (fun _=>rfl) (fun _=>True) (fun h _=>zl8 h) hf hz
 exact ⟨a,n,c,l,e,⟨h1,h2,h3,b,o,h5,fun i hi=>by have:=(h6 i hi).1 0 _ rfl;simpa using this⟩⟩
set_option maxRecDepth 100000 in
theorem zd9 {H:Type} {enc:TypeId×Value->H} {W:World} {fuel:Nat} {cs:List Value} {x:DataW H×List MemPlace} (hf:DataW.trod enc Tryz.prog W 0 (fun _=>true) true fuel 70 cs=some x) (hz:∀n ∈ x.1.weights Tryz.prog 70,n<=reachBytes):
 ∃(c:AC) (a:Ac),cs=acells c/\IsAct W W.heap.size a c:=by
 obtain ⟨y0,y1,y2,y3,y4,y5,y6,n,hx,hlen,h0,h1,h2,h3,h4,h5,h6⟩:=zk9 Tryz.underlying70 hf
 rw [hx] at hz
 simp only [DataW.weights,Tryz.underlying70,DataW.weightsEach,List.map_cons,List.map_nil,List.append_nil] at hz
 have z0:∀q ∈ y0.1.weights Tryz.prog 68,q<=reachBytes:=fun q hq=>hz q (by simp only [List.mem_append];simp [hq])
 have z5:∀q ∈ y5.1.weights Tryz.prog 9,q<=reachBytes:=fun q hq=>hz q (by simp only [List.mem_append];simp [hq])
 have z6:∀q ∈ y6.1.weights Tryz.prog 22,q<=reachBytes:=fun q hq=>hz q (by simp only [List.mem_append];simp [hq])
 have hl:cs.length=7:=by rw [hlen];kernel_rfl
 obtain ⟨v0,v1,v2,v3,v4,v5,v6,rfl⟩:=zdt hl
 have c_i64:Tryz.prog.cellsOf 2=1:=by kernel_rfl
 have c_int:Tryz.prog.cellsOf 3=1:=by kernel_rfl
 have c_sl:Tryz.prog.cellsOf 68=1:=by kernel_rfl
 have c_tk:Tryz.prog.cellsOf 22=1:=by kernel_rfl
 have c_str:Tryz.prog.cellsOf 9=1:=by kernel_rfl
 have c_u8:Tryz.prog.cellsOf 5=1:=by kernel_rfl
 have zr:reachBytes=0x7ffffffff000:=rfl
 simp only [c_i64,c_int,c_sl,c_tk,c_str,c_u8] at h0 h1 h2 h3 h4 h5 h6
 simp only [List.drop_zero,List.drop_succ_cons,List.take_succ_cons,List.take_zero] at h0 h1 h2 h3 h4 h5 h6
 obtain ⟨a0,n0,c0,p0,e0,I0⟩:=zgb h0 z0
 injection e0 with e0 _
 subst e0
 obtain ⟨k,e1,rfl,w1⟩:=DataW.trod_int Tryz.underlying5 h1
 injection e1 with e1 _
 subst e1
 have b1:=bounds_u8 w1
 obtain ⟨i,e2,rfl,w2⟩:=DataW.trod_int Tryz.underlying3 h2
 injection e2 with e2 _
 subst e2
 have b2:=bounds_i64 w2
 obtain ⟨j,e3,rfl,w3⟩:=DataW.trod_int Tryz.underlying3 h3
 injection e3 with e3 _
 subst e3
 have b3:=bounds_i64 w3
 obtain ⟨m,e4,rfl,w4⟩:=DataW.trod_int Tryz.underlying2 h4
 injection e4 with e4 _
 subst e4
 have b4:=bounds_i64 w4
 obtain ⟨s,e5,u5,_⟩:=DataW.trod_string Tryz.underlying9 h5
 injection e5 with e5 _
 subst e5
 have l5:s.data.toList.length=s.size:=Array.length_toList
 have r5:s.data.toList.length<=reachBytes:=z5 _ (by rw [u5];simp [DataW.weights])
 obtain ⟨a6,n6,c6,p6,e6,I6⟩:=zag h6 z6
 injection e6 with e6 _
 subst e6
 exact ⟨⟨a0,n0,c0,k,i,j,m,s,a6,n6,c6⟩,⟨p0,k,i,j,m,s,p6⟩,rfl, .mk ⟨a0,n0,c0,k,i,j,m,s,a6,n6,c6⟩ p0 p6 ⟨b1.1,by have:=b1.2;dsimp only;omega,b2.1,b2.2,b3.1,b3.2,b4.1,b4.2,by dsimp only;omega⟩ I0 I6⟩
end Go.Proofs.YtbgheehjfnoiiaaGreatDoor
