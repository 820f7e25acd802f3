/-
  Contracts of the functions that the law reaches: An act, and a component as it is given.
-/
import Derived.Test.YtfoahkbnheijcaaDoorCq44
import Derived.Test.YtfoahkbnheijcaaDoorCq39
namespace Go.Proofs.YtfoahkbnheijcaaDoor
open Go.RowKit
open Go.ChangeShapes Go.WideShapes Go.ChangeAt Go.RowKit Go.Lib Go.Deep
instance:Inhabited St:=⟨⟨false,0, .empty⟩⟩
theorem zjn {α:Type} {l:List α} (h:l.length=3):∃v0 v1 v2,l= [v0,v1,v2] :=by
 match l,h with
 | [v0,v1,v2],_=>exact ⟨v0,v1,v2,rfl⟩
theorem ziv {H:Type} {enc:TypeId×Value->H} {P:Program} {w:World} {base:Nat} {spare:Nat->Bool} {held:Bool} {t:TypeId} {f0 f1 f2:Field} {fuel:Nat} {cs:List Value} {x:DataW H×List MemPlace} (ht:P.underlying t=some (.struct #[f0,f1,f2])) (h:DataW.trod enc P w base spare held fuel t cs=some x):
 ∃(y0 y1 y2:DataW H×List MemPlace) (n:Nat),x.1= .agg [y0.1,y1.1,y2.1] /\cs.length=P.cellsOf t/\DataW.trod enc P w base spare held n f0.type ((cs.drop f0.offset).take (P.cellsOf f0.type))=some y0/\DataW.trod enc P w base spare held n f1.type ((cs.drop f1.offset).take (P.cellsOf f1.type))=some y1/\DataW.trod enc P w base spare held n f2.type ((cs.drop f2.offset).take (P.cellsOf f2.type))=some y2:=by
 obtain ⟨xs,n,_,rfl,hl,hlen,hf⟩:=DataW.trod_struct ht h
 match xs,hlen with
 | [y0,y1,y2],_=>exact ⟨y0,y1,y2,n,by simp,hl,by simpa using hf 0 f0 rfl,by simpa using hf 1 f1 rfl,by simpa using hf 2 f2 rfl⟩
theorem zkt {α:Type} {l:List α} (h:l.length=7):∃v0 v1 v2 v3 v4 v5 v6,l= [v0,v1,v2,v3,v4,v5,v6] :=by
 match l,h with
 | [v0,v1,v2,v3,v4,v5,v6],_=>exact ⟨v0,v1,v2,v3,v4,v5,v6,rfl⟩
theorem zf7 {H:Type} {enc:TypeId×Value->H} {P:Program} {w:World} {base:Nat} {spare:Nat->Bool} {held:Bool} {t:TypeId} {f0 f1 f2 f3 f4 f5 f6:Field} {fuel:Nat} {cs:List Value} {x:DataW H×List MemPlace} (ht:P.underlying t=some (.struct #[f0,f1,f2,f3,f4,f5,f6])) (h:DataW.trod enc P w base spare held fuel t cs=some x):
 ∃(y0 y1 y2 y3 y4 y5 y6:DataW H×List MemPlace) (n:Nat),x.1= .agg [y0.1,y1.1,y2.1,y3.1,y4.1,y5.1,y6.1] /\cs.length=P.cellsOf t/\DataW.trod enc P w base spare held n f0.type ((cs.drop f0.offset).take (P.cellsOf f0.type))=some y0/\DataW.trod enc P w base spare held n f1.type ((cs.drop f1.offset).take (P.cellsOf f1.type))=some y1/\DataW.trod enc P w base spare held n f2.type ((cs.drop f2.offset).take (P.cellsOf f2.type))=some y2/\DataW.trod enc P w base spare held n f3.type ((cs.drop f3.offset).take (P.cellsOf f3.type))=some y3/\DataW.trod enc P w base spare held n f4.type ((cs.drop f4.offset).take (P.cellsOf f4.type))=some y4/\DataW.trod enc P w base spare held n f5.type ((cs.drop f5.offset).take (P.cellsOf f5.type))=some y5/\DataW.trod enc P w base spare held n f6.type ((cs.drop f6.offset).take (P.cellsOf f6.type))=some y6:=by
 obtain ⟨xs,n,_,rfl,hl,hlen,hf⟩:=DataW.trod_struct ht h
 match xs,hlen with
 | [y0,y1,y2,y3,y4,y5,y6],_=>exact ⟨y0,y1,y2,y3,y4,y5,y6,n,by simp,hl,by simpa using hf 0 f0 rfl,by simpa using hf 1 f1 rfl,by simpa using hf 2 f2 rfl,by simpa using hf 3 f3 rfl,by simpa using hf 4 f4 rfl,by simpa using hf 5 f5 rfl,by simpa using hf 6 f6 rfl⟩
theorem zd5 {α:Type} {l:List α} (h:l.length=8):∃v0 v1 v2 v3 v4 v5 v6 v7,l= [v0,v1,v2,v3,v4,v5,v6,v7] :=by
 match l,h with
 | [v0,v1,v2,v3,v4,v5,v6,v7],_=>exact ⟨v0,v1,v2,v3,v4,v5,v6,v7,rfl⟩
theorem zm6 {H:Type} {enc:TypeId×Value->H} {P:Program} {w:World} {base:Nat} {spare:Nat->Bool} {held:Bool} {t:TypeId} {f0 f1 f2 f3 f4 f5 f6 f7:Field} {fuel:Nat} {cs:List Value} {x:DataW H×List MemPlace} (ht:P.underlying t=some (.struct #[f0,f1,f2,f3,f4,f5,f6,f7])) (h:DataW.trod enc P w base spare held fuel t cs=some x):
 ∃(y0 y1 y2 y3 y4 y5 y6 y7:DataW H×List MemPlace) (n:Nat),x.1= .agg [y0.1,y1.1,y2.1,y3.1,y4.1,y5.1,y6.1,y7.1] /\cs.length=P.cellsOf t/\DataW.trod enc P w base spare held n f0.type ((cs.drop f0.offset).take (P.cellsOf f0.type))=some y0/\DataW.trod enc P w base spare held n f1.type ((cs.drop f1.offset).take (P.cellsOf f1.type))=some y1/\DataW.trod enc P w base spare held n f2.type ((cs.drop f2.offset).take (P.cellsOf f2.type))=some y2/\DataW.trod enc P w base spare held n f3.type ((cs.drop f3.offset).take (P.cellsOf f3.type))=some y3/\DataW.trod enc P w base spare held n f4.type ((cs.drop f4.offset).take (P.cellsOf f4.type))=some y4/\DataW.trod enc P w base spare held n f5.type ((cs.drop f5.offset).take (P.cellsOf f5.type))=some y5/\DataW.trod enc P w base spare held n f6.type ((cs.drop f6.offset).take (P.cellsOf f6.type))=some y6/\DataW.trod enc P w base spare held n f7.type ((cs.drop f7.offset).take (P.cellsOf f7.type))=some y7:=by
 obtain ⟨xs,n,_,rfl,hl,hlen,hf⟩:=DataW.trod_struct ht h
 match xs,hlen with
 | [y0,y1,y2,y3,y4,y5,y6,y7],_=>exact ⟨y0,y1,y2,y3,y4,y5,y6,y7,n,by simp,hl,by simpa using hf 0 f0 rfl,by simpa using hf 1 f1 rfl,by simpa using hf 2 f2 rfl,by simpa using hf 3 f3 rfl,by simpa using hf 4 f4 rfl,by simpa using hf 5 f5 rfl,by simpa using hf 6 f6 rfl,by simpa using hf 7 f7 rfl⟩
def bacellsZ (b:BA):List Value:= [.int .u8 b.k, .slice b.pa b.pl b.pc, .string b.key, .int .i64 b.i, .int .i64 b.j, .int .i64 b.n, .string b.s, .slice b.va b.vl b.vc]
structure InRowZ {T:Type} (W:World) (sz:Nat) (cells:T->List Value) (Q:T->Prop) (l:List T) (a:Option Addr) (n c:Nat):Prop where
 len:n=l.length
 cap:n<=c
 max:c<=9223372036854775807
 at_:∃b o,(0<n->a=some ⟨b,o,none⟩/\b<W.heap.size)/\∀i (h:i<l.length),(∀j u,(cells l[i])[j]? =some u->W.cell? ⟨b,o+i*sz+j,none⟩=some u)/\Q l[i]
theorem zb9 {T:Type} [Inhabited T] {H:Type} {enc:TypeId×Value->H} {W:World} {t e:TypeId} {sz:Nat} (hu:Tryd.prog.underlying t=some (.slice e)) (hc:Tryd.prog.cellsOf e=sz) (hsz:0<sz) (cells:T->List Value) (hcl:∀x,(cells x).length=sz) (Q:T->Prop)
 (hel:∀ {fuel:Nat} {cs:List Value} {x:DataW H×List MemPlace},DataW.trod enc Tryd.prog W 0 (fun _=>true) true fuel e cs=some x->(∀n ∈ x.1.weights Tryd.prog e,n<=reachBytes)->∃y:T,cs=cells y/\Q y)
 {fuel:Nat} {cs:List Value} {x:DataW H×List MemPlace} (hf:DataW.trod enc Tryd.prog W 0 (fun _=>true) true fuel t cs=some x) (hz:∀n ∈ x.1.weights Tryd.prog t,n<=reachBytes):
 ∃(a:Option Addr) (n c:Nat) (l:List T),cs= [.slice a n c] /\InRowZ W sz cells Q l a n c:=by
 rcases open_slice hu hf with ⟨rfl,_⟩|⟨a,len,cap,m,n,D,Pl,rfl,_,hl,hm,hmm,rfl,hel2⟩
 .exact ⟨none,0,0, [],rfl,rfl,Nat.le_refl _,by decide,0,0,fun h=>absurd h (by decide),fun i hi=>absurd hi (by simp)⟩
 .simp only [if_true] at hmm
  rw [hc] at hel2
  obtain ⟨T',hT⟩:=choose_lt (n:=len) (p:=fun i (y:T)=>(∀j u,(cells y)[j]? =some u->W.cell? (a.add (i*sz+j))=some u)/\Q y) (fun i hi=>by
   obtain ⟨cs',h1,h2⟩:=hel2 i (by omega)
   obtain ⟨y,rfl,hy⟩:=hel h2 (fun q hq=>hz q (zdo hu (List.mem_map.2 ⟨i,List.mem_range.2 hi,rfl⟩) q hq))
   obtain ⟨_,_,h3⟩:=World.cells?_some h1
   refine ⟨y,fun j u hj=> ?_,hy⟩
   have hj4:j<sz:=by rw [<-hcl y];exact (List.getElem?_eq_some_iff.1 hj).1
   rw [<-add_add,h3 j hj4,hj])
  have hspot:0<len->a.spot=none/\a.block<W.heap.size:=fun hn=>by
   have hlt:0<(cells (T' 0)).length:=by rw [hcl];exact hsz
   have h0:=(hT 0 hn).1 0 (cells (T' 0))[0] (List.getElem?_eq_getElem hlt)
   have h1:=World.cell?_spot h0
   have h2:=World.block_lt_of_cell? W _ h0
   exact ⟨by simpa [Addr.add] using h1,by simpa [Addr.add] using h2⟩
  refine ⟨some a,len,cap,(List.range len).map T',rfl,by simp,hl,by unfold maxLen at hm;omega,a.block,a.off,fun hn=> ?_,fun i hi=> ?_⟩
  .obtain ⟨h1,h2⟩:=hspot hn
   obtain ⟨ab,ao,spot⟩:=a
   dsimp only at h1 h2
   subst h1
   exact ⟨rfl,h2⟩
  .have hi':i<len:=by simpa using hi
   obtain ⟨h1,h2⟩:=hspot (by omega)
   obtain ⟨g1,g2⟩:=hT i hi'
   obtain ⟨ab,ao,spot⟩:=a
   dsimp only at h1
   subst h1
   simp only [List.getElem_map,List.getElem_range]
   refine ⟨fun j u hj=> ?_,g2⟩
   have:=g1 j u hj
   rw [Addr.add_lit] at this
   rw [Nat.add_assoc];exact this
theorem zg9 {H:Type} {enc:TypeId×Value->H} {W:World} {fuel:Nat} {cs:List Value} {x:DataW H×List MemPlace} (hf:DataW.trod enc Tryd.prog W 0 (fun _=>true) true fuel 5 cs=some x):
 ∃y:UInt8,cs= [Value.int .u8 (y.toNat:Int)] /\True:=by
 obtain ⟨k,rfl,_,w0⟩:=DataW.trod_int Tryd.underlying5 hf
 have b0:=bounds_u8 w0
 refine ⟨UInt8.ofNat k.toNat, ?_,trivial⟩
 have:(UInt8.ofNat k.toNat).toNat=k.toNat:=by rw [UInt8.toNat_ofNat'];omega
 rw [this,Int.toNat_of_nonneg b0.1]
theorem zba {H:Type} {enc:TypeId×Value->H} {W:World} {fuel:Nat} {cs:List Value} {x:DataW H×List MemPlace} (hf:DataW.trod enc Tryd.prog W 0 (fun _=>true) true fuel 44 cs=some x) (hz:∀n ∈ x.1.weights Tryd.prog 44,n<=reachBytes):
 ∃(a:Option Addr) (n c:Nat) (l:List UInt8),cs= [.slice a n c] /\IsB W W.heap.size a n c l:=by
 obtain ⟨a,n,c,l,e,⟨h1,h2,h3,b,o,h5,h6⟩⟩:=zb9 (sz:=1) Tryd.underlying44 (by kernel_rfl) (by decide) (fun y:UInt8=> [Value.int .u8 (y.toNat:Int)]) (fun _=>rfl) (fun _=>True) (fun h _=>zg9 h) hf hz
 exact ⟨a,n,c,l,e,⟨h1,h2,h3,b,o,h5,fun i hi=>by have:=(h6 i hi).1 0 _ rfl;simpa using this⟩⟩
set_option maxRecDepth 100000 in
theorem zm7 {H:Type} {enc:TypeId×Value->H} {W:World} {fuel:Nat} {cs:List Value} {x:DataW H×List MemPlace} (hf:DataW.trod enc Tryd.prog W 0 (fun _=>true) true fuel 57 cs=some x) (hz:∀n ∈ x.1.weights Tryd.prog 57,n<=reachBytes):
 ∃t:St,cs=scells t/\t.Bnd:=by
 obtain ⟨y0,y1,y2,n,hx,hlen,h0,h1,h2⟩:=ziv Tryd.underlying57 hf
 rw [hx] at hz
 simp only [DataW.weights,Tryd.underlying57,DataW.weightsEach,List.map_cons,List.map_nil,List.append_nil] at hz
 have hl:cs.length=3:=by rw [hlen];kernel_rfl
 obtain ⟨v0,v1,v2,rfl⟩:=zjn hl
 have c_bool:Tryd.prog.cellsOf 4=1:=by kernel_rfl
 have c_int:Tryd.prog.cellsOf 3=1:=by kernel_rfl
 have c_str:Tryd.prog.cellsOf 9=1:=by kernel_rfl
 simp only [c_bool,c_int,c_str] at h0 h1 h2
 simp only [List.drop_zero,List.drop_succ_cons,List.take_succ_cons,List.take_zero] at h0 h1 h2
 obtain ⟨l,e0,rfl⟩:=DataW.trod_bool Tryd.underlying4 h0
 injection e0 with e0 _
 subst e0
 obtain ⟨i,e1,rfl,w1⟩:=DataW.trod_int Tryd.underlying3 h1
 injection e1 with e1 _
 subst e1
 have b1:=bounds_i64 w1
 obtain ⟨s,e2,rfl,_⟩:=DataW.trod_string Tryd.underlying9 h2
 injection e2 with e2 _
 subst e2
 have z2:s.data.toList.length=s.size:=Array.length_toList
 have z3:s.data.toList.length<=reachBytes:=hz _ (by simp [DataW.weights])
 have z4:reachBytes=0x7ffffffff000:=rfl
 exact ⟨⟨l,i,s⟩,rfl,⟨b1.1,b1.2,by dsimp only;omega⟩⟩
theorem zeg {H:Type} {enc:TypeId×Value->H} {W:World} {fuel:Nat} {cs:List Value} {x:DataW H×List MemPlace} (hf:DataW.trod enc Tryd.prog W 0 (fun _=>true) true fuel 23 cs=some x) (hz:∀n ∈ x.1.weights Tryd.prog 23,n<=reachBytes):
 ∃(a:Option Addr) (n c:Nat) (l:List St),cs= [.slice a n c] /\(n<=40->IsSteps W W.heap.size l a n c):=by
 obtain ⟨a,n,c,l,e,⟨h1,h2,h3,b,o,h5,h6⟩⟩:=zb9 (sz:=3) Tryd.underlying23 (by kernel_rfl) (by decide) scells (fun _=>rfl) St.Bnd zm7 hf hz
 exact ⟨a,n,c,l,e,fun h40=>⟨h1,h2,h3,by omega,b,o,h5,fun i hi=>by
  obtain ⟨g1,g2⟩:=h6 i hi
  exact ⟨⟨g1 0 _ rfl,g1 1 _ rfl,g1 2 _ rfl⟩,g2⟩⟩⟩
set_option maxRecDepth 100000 in
theorem zjt {H:Type} {enc:TypeId×Value->H} {W:World} {fuel:Nat} {cs:List Value} {x:DataW H×List MemPlace} (hf:DataW.trod enc Tryd.prog W 0 (fun _=>true) true fuel 46 cs=some x) (hz:∀n ∈ x.1.weights Tryd.prog 46,n<=reachBytes):
 ∃(c:AC) (a:Ac),cs=acells c/\IsAct W W.heap.size a c:=by
 obtain ⟨y0,y1,y2,y3,y4,y5,y6,n,hx,hlen,h0,h1,h2,h3,h4,h5,h6⟩:=zf7 Tryd.underlying46 hf
 rw [hx] at hz
 simp only [DataW.weights,Tryd.underlying46,DataW.weightsEach,List.map_cons,List.map_nil,List.append_nil] at hz
 have z0:∀q ∈ y0.1.weights Tryd.prog 44,q<=reachBytes:=fun q hq=>hz q (by simp only [List.mem_append];simp [hq])
 have z5:∀q ∈ y5.1.weights Tryd.prog 9,q<=reachBytes:=fun q hq=>hz q (by simp only [List.mem_append];simp [hq])
 have z6:∀q ∈ y6.1.weights Tryd.prog 22,q<=reachBytes:=fun q hq=>hz q (by simp only [List.mem_append];simp [hq])
 have hl:cs.length=7:=by rw [hlen];kernel_rfl
 obtain ⟨v0,v1,v2,v3,v4,v5,v6,rfl⟩:=zkt hl
 have c_i64:Tryd.prog.cellsOf 2=1:=by kernel_rfl
 have c_int:Tryd.prog.cellsOf 3=1:=by kernel_rfl
 have c_sl:Tryd.prog.cellsOf 44=1:=by kernel_rfl
 have c_tk:Tryd.prog.cellsOf 22=1:=by kernel_rfl
 have c_str:Tryd.prog.cellsOf 9=1:=by kernel_rfl
 have c_u8:Tryd.prog.cellsOf 5=1:=by kernel_rfl
 have zr:reachBytes=0x7ffffffff000:=rfl
 simp only [c_i64,c_int,c_sl,c_tk,c_str,c_u8] at h0 h1 h2 h3 h4 h5 h6
 simp only [List.drop_zero,List.drop_succ_cons,List.take_succ_cons,List.take_zero] at h0 h1 h2 h3 h4 h5 h6
 obtain ⟨a0,n0,c0,p0,e0,I0⟩:=zba h0 z0
 injection e0 with e0 _
 subst e0
 obtain ⟨k,e1,rfl,w1⟩:=DataW.trod_int Tryd.underlying5 h1
 injection e1 with e1 _
 subst e1
 have b1:=bounds_u8 w1
 obtain ⟨i,e2,rfl,w2⟩:=DataW.trod_int Tryd.underlying3 h2
 injection e2 with e2 _
 subst e2
 have b2:=bounds_i64 w2
 obtain ⟨j,e3,rfl,w3⟩:=DataW.trod_int Tryd.underlying3 h3
 injection e3 with e3 _
 subst e3
 have b3:=bounds_i64 w3
 obtain ⟨m,e4,rfl,w4⟩:=DataW.trod_int Tryd.underlying2 h4
 injection e4 with e4 _
 subst e4
 have b4:=bounds_i64 w4
 obtain ⟨s,e5,u5,_⟩:=DataW.trod_string Tryd.underlying9 h5
 injection e5 with e5 _
 subst e5
 have l5:s.data.toList.length=s.size:=Array.length_toList
 have r5:s.data.toList.length<=reachBytes:=z5 _ (by rw [u5];simp [DataW.weights])
 obtain ⟨a6,n6,c6,p6,e6,I6⟩:=Qk h6 z6
 injection e6 with e6 _
 subst e6
 exact ⟨⟨a0,n0,c0,k,i,j,m,s,a6,n6,c6⟩,⟨p0,k,i,j,m,s,p6⟩,rfl, .mk ⟨a0,n0,c0,k,i,j,m,s,a6,n6,c6⟩ p0 p6 ⟨b1.1,by have:=b1.2;dsimp only;omega,b2.1,b2.2,b3.1,b3.2,b4.1,b4.2,by dsimp only;omega⟩ I0 I6⟩
set_option maxRecDepth 100000 in
theorem zc0 {H:Type} {enc:TypeId×Value->H} {W:World} {fuel:Nat} {cs:List Value} {x:DataW H×List MemPlace} (hf:DataW.trod enc Tryd.prog W 0 (fun _=>true) true fuel 25 cs=some x) (hz:∀n ∈ x.1.weights Tryd.prog 25,n<=reachBytes):
 ∃(c:BA) (b:Ba),cs=bacellsZ c/\IsToks W W.heap.size b.v c.va c.vl c.vc/\(c.pl<=40->IsBare W W.heap.size b c)/\c.s.size<=140737488351232/\b.s=c.s:=by
 obtain ⟨y0,y1,y2,y3,y4,y5,y6,y7,n,hx,hlen,h0,h1,h2,h3,h4,h5,h6,h7⟩:=zm6 Tryd.underlying25 hf
 rw [hx] at hz
 simp only [DataW.weights,Tryd.underlying25,DataW.weightsEach,List.map_cons,List.map_nil,List.append_nil] at hz
 have z1:∀q ∈ y1.1.weights Tryd.prog 23,q<=reachBytes:=fun q hq=>hz q (by simp only [List.mem_append];simp [hq])
 have z2:∀q ∈ y2.1.weights Tryd.prog 9,q<=reachBytes:=fun q hq=>hz q (by simp only [List.mem_append];simp [hq])
 have z6:∀q ∈ y6.1.weights Tryd.prog 9,q<=reachBytes:=fun q hq=>hz q (by simp only [List.mem_append];simp [hq])
 have z7:∀q ∈ y7.1.weights Tryd.prog 22,q<=reachBytes:=fun q hq=>hz q (by simp only [List.mem_append];simp [hq])
 have hl:cs.length=8:=by rw [hlen];kernel_rfl
 obtain ⟨v0,v1,v2,v3,v4,v5,v6,v7,rfl⟩:=zd5 hl
 have c_i64:Tryd.prog.cellsOf 2=1:=by kernel_rfl
 have c_int:Tryd.prog.cellsOf 3=1:=by kernel_rfl
 have c_sl:Tryd.prog.cellsOf 23=1:=by kernel_rfl
 have c_tk:Tryd.prog.cellsOf 22=1:=by kernel_rfl
 have c_str:Tryd.prog.cellsOf 9=1:=by kernel_rfl
 have c_u8:Tryd.prog.cellsOf 5=1:=by kernel_rfl
 have zr:reachBytes=0x7ffffffff000:=rfl
 simp only [c_i64,c_int,c_sl,c_tk,c_str,c_u8] at h0 h1 h2 h3 h4 h5 h6 h7
 simp only [List.drop_zero,List.drop_succ_cons,List.take_succ_cons,List.take_zero] at h0 h1 h2 h3 h4 h5 h6 h7
 obtain ⟨k,e0,rfl,w0⟩:=DataW.trod_int Tryd.underlying5 h0
 injection e0 with e0 _
 subst e0
 have b0:=bounds_u8 w0
 obtain ⟨a1,n1,c1,p1,e1,I1⟩:=zeg h1 z1
 injection e1 with e1 _
 subst e1
 obtain ⟨key,e2,u2,_⟩:=DataW.trod_string Tryd.underlying9 h2
 injection e2 with e2 _
 subst e2
 have l2:key.data.toList.length=key.size:=Array.length_toList
 have r2:key.data.toList.length<=reachBytes:=z2 _ (by rw [u2];simp [DataW.weights])
 obtain ⟨i,e3,rfl,w3⟩:=DataW.trod_int Tryd.underlying3 h3
 injection e3 with e3 _
 subst e3
 have b3:=bounds_i64 w3
 obtain ⟨j,e4,rfl,w4⟩:=DataW.trod_int Tryd.underlying3 h4
 injection e4 with e4 _
 subst e4
 have b4:=bounds_i64 w4
 obtain ⟨m,e5,rfl,w5⟩:=DataW.trod_int Tryd.underlying2 h5
 injection e5 with e5 _
 subst e5
 have b5:=bounds_i64 w5
 obtain ⟨s,e6,u6,_⟩:=DataW.trod_string Tryd.underlying9 h6
 injection e6 with e6 _
 subst e6
 have l6:s.data.toList.length=s.size:=Array.length_toList
 have r6:s.data.toList.length<=reachBytes:=z6 _ (by rw [u6];simp [DataW.weights])
 obtain ⟨a7,n7,c7,p7,e7,I7⟩:=Qk h7 z7
 injection e7 with e7 _
 subst e7
 exact ⟨⟨k,a1,n1,c1,key,i,j,m,s,a7,n7,c7⟩,⟨k,p1,key,i,j,m,s,p7⟩,rfl,I7,fun h40=> .mk ⟨k,a1,n1,c1,key,i,j,m,s,a7,n7,c7⟩ p1 p7 ⟨b0.1,by have:=b0.2;dsimp only;omega,b3.1,b3.2,b4.1,b4.2,b5.1,b5.2,by dsimp only;omega,by dsimp only;omega⟩ (I1 h40) I7,by dsimp only;omega,rfl⟩
end Go.Proofs.YtfoahkbnheijcaaDoor
namespace Go.Proofs.YtfoahkbnheijcaaDoor
open Go.RowKit
set_option maxHeartbeats 8000000
structure RawW (v:V) (u:Nat):Prop where
 str:v.str.size<=140737488355328
 wt:u≠0->v.weight+140737488355328<=281474976710657*u
 low:u=0->v=V.none
theorem zmk {f:List Tk->V×Nat} (hf:∀l,(∀t ∈ l,t.s.size<=140737488355328)->RawW (f l).1 (f l).2) (l:List Tk) (hl:∀t ∈ l,t.s.size<=140737488355328):∀j,1<=(fR f l j).2.1/\weightL (fR f l j).1+281474976710657<=281474976710657*(fR f l j).2.1/\weightO ((fR f l j).1.map fun x=>(x.str,x))+281474976710657<=281474976710657*(fR f l j).2.1:=by
 intro j
 induction j with
 |zero=>simp [fR,weightL,weightO]
 | succ j ih=>
   rw [fR]
   split
   .exact ih
   .split
    .exact ih
    .rename_i h1 h2
     have hb:=hf (l.drop (fR f l j).2.1) (fun t ht=>hl t (List.mem_of_mem_drop ht))
     have hs:=hb.str
     have hw:=hb.wt h2
     obtain ⟨a,b,c⟩:=ih
     dsimp only
     rw [Jr,List.map_append,Qh]
     simp only [weightL,List.map_cons,List.map_nil,weightO,Xn]
     refine ⟨by omega, ?_, ?_⟩<;>(rw [Nat.mul_add];omega)
theorem zey (d:Nat):∀l,(∀t ∈ l,t.s.size<=140737488355328)->RawW (rawP d l).1 (rawP d l).2:=by
 induction d with
 | zero=>
   intro l hl
   cases l with
   |nil=>exact ⟨by simp [rawP,V.none,V.str],by simp [rawP],fun _=>rfl⟩
   | cons t r=>
     have:=hl t (by simp)
     exact ⟨by simp [rawP,V.str];omega,by simp [rawP,V.weight,weightL,weightO];omega,by simp [rawP]⟩
 | succ d ih=>
   intro l hl
   cases l with
   |nil=>exact ⟨by simp [rawP,V.none,V.str],by simp [rawP],fun _=>rfl⟩
   | cons t r=>
     have ht:=hl t (by simp)
     obtain ⟨K,hk⟩:∃K,(t.m % 4).toNat=K:=⟨_,rfl⟩
     rw [rawP,hk]
     obtain ⟨h1,h2,h3⟩:=zmk ih (t::r) hl K
     obtain ⟨p,hp⟩:∃p,fR (rawP d) (t::r) K=p:=⟨_,rfl⟩
     rw [hp] at h1 h2 h3 ⊢
     dsimp only
     rw [rawV]
     split
     .exact ⟨ht,fun _=>by simp only [V.weight,weightO];omega,fun h=>by omega⟩
     .exact ⟨ht,fun _=>by simp only [V.weight,weightL];omega,fun h=>by omega⟩
theorem zg7 (l:List Tk) (hl:∀t ∈ l,t.s.size<=140737488355328):(rawP 20 (l.take 60)).1.weight<=4611686018427387904:=by
 have h:=zey 20 (l.take 60) (fun t ht=>hl t (List.mem_of_mem_take ht))
 have hu:=Qi 20 (l.take 60)
 rw [List.length_take] at hu
 by_cases h0:(rawP 20 (l.take 60)).2=0
 .rw [h.low h0];simp [V.none,V.weight,weightL,weightO]
 .have:=h.wt h0
  omega
theorem IsToks.sizes {w:World} {B:Nat} {l:List Tk} {a:Option Addr} {n c:Nat} (h:IsToks w B l a n c):∀t ∈ l,t.s.size<=140737488355328:=by
 obtain ⟨_,_,_,b,o,_,h6⟩:=h
 intro t ht
 obtain ⟨i,hi,rfl⟩:=List.mem_iff_getElem.1 ht
 exact (h6 i hi).2.s1
theorem Ky (v:V) (c:Cm):(doP v c).2=checkP v c:=by
 unfold doP
 split
 .rename_i he
  obtain ⟨hs,x,hg,hk⟩:=Z5 he
  simp only [hg]
  obtain ⟨z,hz⟩:=Yi c.path hg (doneP x c)
  rw [hz,he];rfl
 .rfl
theorem zi2 {v:V} {c:Cm} (h:checkP v c≠0):(doP v c).1=V.none:=by rw [doP,if_neg h]
theorem za1 {w:World} {B:Nat} {x:Ba} {b:BA} (h:IsBare w B x b):x.s=b.s/\(compP x).v.weight<=4611686018427387904:=by
 cases h with
 |mk c p v hb hp hv=>exact ⟨rfl,zg7 v hv.sizes⟩
theorem Zi (w:World) (o:Obj):Below w.heap.size w (w.alloc o):=(Below.refl _ _).alloc (Nat.le_refl _) o
set_option maxRecDepth 100000 in
theorem zhq (w:World) (hT:Tabs w) (l:List Tk) (a:Option Addr) (n c:Nat) (hl:IsToks w w.heap.size l a n c) (b:BA) (x:Ba) (hbv:IsToks w w.heap.size x.v b.va b.vl b.vc) (hb:b.pl<=40->IsBare w w.heap.size x b) (hs:b.s.size<=140737488351232):
 Calls Tryd.prog 3 #[.slice a n c, .agg #[.int .u8 b.k, .slice b.pa b.pl b.pc, .string b.key, .int .i64 b.i, .int .i64 b.j, .int .i64 b.n, .string b.s, .slice b.va b.vl b.vc]] w fun e w'=>e= .returned (.bool true)/\Below w.heap.size w w':=by
 have hbd:=hl
 have HL:=qh hl
 have HBR:=qh hb
 have HTT:=qh hT
 have HSZ:=qh hs
 have HKN:Hid (∀W,Below w.heap.size w W->Calls Tryd.prog 9 #[] W fun e w'=>e= .returned (.bool true)/\Below W.heap.size W w'):=qh fun W hW=>Jq W (hT.below hW)
 have HB0:=qh (BC.start w #[.int .u8 b.k, .slice b.pa b.pl b.pc, .string b.key, .int .i64 b.i, .int .i64 b.j, .int .i64 b.n, .string b.s, .slice b.va b.vl b.vc] 25)
 have HA0:=qh (Zi w (.cells #[.int .u8 b.k, .slice b.pa b.pl b.pc, .string b.key, .int .i64 b.i, .int .i64 b.j, .int .i64 b.n, .string b.s, .slice b.va b.vl b.vc] 25))
 have HHV:Hid (Calls Tryd.prog 8 #[.slice a n c, .agg #[.int .u8 b.k, .slice b.pa b.pl b.pc, .string b.key, .int .i64 b.i, .int .i64 b.j, .int .i64 b.n, .string b.s, .slice b.va b.vl b.vc]] (w.alloc (.cells #[.int .u8 b.k, .slice b.pa b.pl b.pc, .string b.key, .int .i64 b.i, .int .i64 b.j, .int .i64 b.n, .string b.s, .slice b.va b.vl b.vc] 25)) (SomeB (w.alloc (.cells #[.int .u8 b.k, .slice b.pa b.pl b.pc, .string b.key, .int .i64 b.i, .int .i64 b.j, .int .i64 b.n, .string b.s, .slice b.va b.vl b.vc] 25)) b.pl)):=qh (Kr _ l a n c (hl.later_ HA0.out) b x.v (hbv.later_ HA0.out))
 clear hl hb hT hs hbv hbd
 go_enter Tryd.func3,Tryd.ntmps3
 go_wp2_with fail
 refine HHV.out.mono ?_
 rintro e w1 ⟨⟨h,rfl,hh⟩,hb1⟩
 have hB1:=HB0.out.keep hb1 (by simp)
 have hA1:=HA0.out.trans (hb1.mono HA0.out.size)
 have b0:=hB1.at_ 0 _ rfl;have b1:=hB1.at_ 1 _ rfl;have b2:=hB1.at_ 2 _ rfl;have b3:=hB1.at_ 3 _ rfl;have b4:=hB1.at_ 4 _ rfl;have b5:=hB1.at_ 5 _ rfl;have b6:=hB1.at_ 6 _ rfl;have b7:=hB1.at_ 7 _ rfl;have zb:=hB1.lt
 have HB1:=qh hB1;have HA1:=qh hA1;have HH:=qh hh
 clear hB1 hA1 hb1 hh HHV HB0 HA0
 cases h with
 | true=>
   go_wp2_with fail
   refine (HKN.out _ HA1.out).mono ?_
   rintro e w2 ⟨rfl,hb2⟩
   have HA2:=qh (HA1.out.trans (hb2.mono HA1.out.size))
   clear hb2
   go_wp2_with fail
   go_returns
   exact ⟨rfl,HA2.out⟩
 |false=>
 have hpl:=HH.out rfl
 have HX:=qh (HBR.out hpl)
 clear hpl HH HBR
 go_wp2_with fail
 refine (HKN.out _ HA1.out).mono ?_
 rintro e w2 ⟨rfl,hb2⟩
 have hB2:=HB1.out.keep hb2 HB1.out.lt
 have HA2:=qh (HA1.out.trans (hb2.mono HA1.out.size))
 clear b0 b1 b2 b3 b4 b5 b6 b7 zb
 have b0:=hB2.at_ 0 _ rfl;have b1:=hB2.at_ 1 _ rfl;have b2:=hB2.at_ 2 _ rfl;have b3:=hB2.at_ 3 _ rfl;have b4:=hB2.at_ 4 _ rfl;have b5:=hB2.at_ 5 _ rfl;have b6:=hB2.at_ 6 _ rfl;have b7:=hB2.at_ 7 _ rfl;have zb:=hB2.lt
 have HB2:=qh hB2
 clear hb2 hB2 HB1
 go_wp2_with fail
 refine (Yf w2 l a n c (HL.out.later_ HA2.out)).mono ?_
 rintro e w3 ⟨⟨cv,rfl,hv3⟩,hb3⟩
 obtain ⟨V0,hV0⟩:∃V0,(oneP 6 (l.take 60)).1=V0:=⟨_,rfl⟩
 have HLT:Hid (V0.weight<=20000/\V0.sound=true):=qh (by rw [<-hV0];exact ⟨(Xg l).2.1,(Xg l).2.2.2.1⟩)
 have HLW:Hid (V.Low V0):=qh (by rw [<-hV0];exact J9 6 _)
 rw [hV0] at hv3
 have hB3:=HB2.out.keep hb3 HB2.out.lt
 have HA3:=qh (HA2.out.trans (hb3.mono HA2.out.size))
 have HV3:Hid (IsVal w3 w3.heap.size V0 cv):=qh (hv3.sub (Zn _ _ _))
 clear b0 b1 b2 b3 b4 b5 b6 b7 zb
 have b0:=hB3.at_ 0 _ rfl;have b1:=hB3.at_ 1 _ rfl;have b2:=hB3.at_ 2 _ rfl;have b3:=hB3.at_ 3 _ rfl;have b4:=hB3.at_ 4 _ rfl;have b5:=hB3.at_ 5 _ rfl;have b6:=hB3.at_ 6 _ rfl;have b7:=hB3.at_ 7 _ rfl;have zb:=hB3.lt
 have HB3:=qh hB3
 clear hb3 hB3 HB2 hv3 hV0 HL
 go_wp2_with fail
 refine (zcq _ w.heap.size (Nat.le_trans HA3.out.size (Zi w3 _).size) b x (HX.out.keep (HA3.out.trans ((Zi w3 _).mono HA3.out.size)))).mono ?_
 rintro e w4 ⟨⟨cc,rfl,hc⟩,hb4⟩
 obtain ⟨hxs,hxw⟩:=za1 HX.out
 have hcs:(compP x).s.size<=140737488351232:=by rw [show (compP x).s=x.s from rfl,hxs];exact HSZ.out
 obtain ⟨cm,hcm⟩:∃cm,compP x=cm:=⟨_,rfl⟩
 rw [hcm] at hc hxw hcs
 have hc4:IsComp w4 w4.heap.size cm cc:=IsComp.sub (Zn _ _ _) hc
 have hb34:Below w3.heap.size w3 w4:=(Zi w3 _).trans (hb4.mono (by simp))
 have hbv4:BC w4 w3.heap.size (vcells cv):=(BC.start w3 #[.int .u8 cv.k, .int .i64 cv.n, .string cv.s, .slice cv.la cv.ll cv.lc, .slice cv.oa cv.ol cv.oc] 31).keep hb4 (by simp)
 have HA4:=qh (HA3.out.trans (hb34.mono HA3.out.size))
 have hv4:=HV3.out.later_ hb34
 have HCM:=qh hc4
 cases hc4 with
 |mk cc p xv hcb hp hxv=>
 dsimp only at hxw hcs
 obtain ⟨R,hR⟩:∃R,doP V0 ⟨cc.k,p,cc.key,cc.i,cc.j,cc.n,xv,cc.s⟩=R:=⟨_,rfl⟩
 obtain ⟨E,hE⟩:∃E,checkP V0 ⟨cc.k,p,cc.key,cc.i,cc.j,cc.n,xv,cc.s⟩=E:=⟨_,rfl⟩
 have hRE:R.2=E:=by rw [<-hR, <-hE];exact Ky _ _
 have HDO:Hid (∀W,Below w4.heap.size w4 W->Calls Tryd.prog 12 #[.agg #[.int .u8 cv.k, .int .i64 cv.n, .string cv.s, .slice cv.la cv.ll cv.lc, .slice cv.oa cv.ol cv.oc], .agg #[.int .u8 cc.k, .slice cc.pa cc.pl cc.pc, .string cc.key, .int .i64 cc.i, .int .i64 cc.j, .int .i64 cc.n, .int .u8 cc.v.k, .int .i64 cc.v.n, .string cc.v.s, .slice cc.v.la cc.v.ll cc.v.lc, .slice cc.v.oa cc.v.ol cc.v.oc, .string cc.s]] W fun e w'=>(∃d:VC,e= .returned (.tuple #[.agg #[.int .u8 d.k, .int .i64 d.n, .string d.s, .slice d.la d.ll d.lc, .slice d.oa d.ol d.oc], .int .u16 E])/\IsVal (only (fun k=>W.heap.size<=k) w') w'.heap.size R.1 d)/\Below W.heap.size W w'):=qh fun W hW=>by
  have:=X2 W cv.k cv.n cv.s cv.la cv.ll cv.lc cv.oa cv.ol cv.oc V0 (hv4.later_ hW) (by have:=HLT.out.1;omega) p xv cc hcb (hp.later_ hW) (hxv.later_ hW) hxw (fun y hy=>by have:=(Qr p HLW.out hy).few;omega) HLT.out.2 (HTT.out.below (HA4.out.trans (hW.mono HA4.out.size)))
  rw [hR] at this
  unfold CDoPost at this
  rw [hRE] at this;exact this
 have HCK:Hid (∀W,Below w4.heap.size w4 W->Calls Tryd.prog 13 #[.agg #[.int .u8 cv.k, .int .i64 cv.n, .string cv.s, .slice cv.la cv.ll cv.lc, .slice cv.oa cv.ol cv.oc], .agg #[.int .u8 cc.k, .slice cc.pa cc.pl cc.pc, .string cc.key, .int .i64 cc.i, .int .i64 cc.j, .int .i64 cc.n, .int .u8 cc.v.k, .int .i64 cc.v.n, .string cc.v.s, .slice cc.v.la cc.v.ll cc.v.lc, .slice cc.v.oa cc.v.ol cc.v.oc, .string cc.s]] W fun e w'=>e= .returned (.int .u16 E)/\Below W.heap.size W w'):=qh fun W hW=>by
  have:=Xc W cv.k cv.n cv.s cv.la cv.ll cv.lc cv.oa cv.ol cv.oc V0 (hv4.later_ hW) (by have:=HLT.out.1;omega) p xv cc hcb (hp.later_ hW) (hxv.later_ hW) hxw (HTT.out.below (HA4.out.trans (hW.mono HA4.out.size)))
  rw [hE] at this;exact this
 have HSD:Hid (∀W,Below w4.heap.size w4 W->Calls Tryd.prog 14 #[.agg #[.int .u8 cc.k, .slice cc.pa cc.pl cc.pc, .string cc.key, .int .i64 cc.i, .int .i64 cc.j, .int .i64 cc.n, .int .u8 cc.v.k, .int .i64 cc.v.n, .string cc.v.s, .slice cc.v.la cc.v.ll cc.v.lc, .slice cc.v.oa cc.v.ol cc.v.oc, .string cc.s]] W fun e w'=>e= .returned (.bool (cmSound ⟨cc.k,p,cc.key,cc.i,cc.j,cc.n,xv,cc.s⟩))/\Below W.heap.size W w'):=qh fun W hW=>zc8 _ W (HTT.out.below (HA4.out.trans (hW.mono HA4.out.size))) cc (HCM.out.later_ hW) hxw
 have HRS:Hid ((E=0->cmSound ⟨cc.k,p,cc.key,cc.i,cc.j,cc.n,xv,cc.s⟩=true/\R.1.sound=true)/\(E≠0->R.1=V.none)):=qh ⟨fun h=>by
  rw [<-hE] at h
  exact ⟨(Z5 h).1,by rw [<-hR];exact zgn HLT.out.2⟩,fun h=>by
  rw [<-hE] at h
  rw [<-hR];exact zi2 h⟩
 have HBV4:=qh hbv4
 clear b0 b1 b2 b3 b4 b5 b6 b7 zb
 have v0:=hbv4.at_ 0 _ rfl;have v1:=hbv4.at_ 1 _ rfl;have v2:=hbv4.at_ 2 _ rfl;have v3:=hbv4.at_ 3 _ rfl;have v4:=hbv4.at_ 4 _ rfl;have zv:=hbv4.lt
 clear hb4 hb34 hbv4 hv4 hc hxs hxw hcs hcm hcb hp hxv hR hE hRE HV3 HX HSZ HB3 HCM
 go_wp2_with fail
 refine (HDO.out _ (Zi w4 _)).mono ?_
 rintro e w5 ⟨⟨d,rfl,hd⟩,hb5⟩
 have hb45:Below w4.heap.size w4 w5:=(Zi w4 _).trans (hb5.mono (by simp))
 have hbv5:=HBV4.out.keep hb45 HBV4.out.lt
 have hbc5:BC w5 w4.heap.size (ccells cc):=(BC.start w4 #[.int .u8 cc.k, .slice cc.pa cc.pl cc.pc, .string cc.key, .int .i64 cc.i, .int .i64 cc.j, .int .i64 cc.n, .int .u8 cc.v.k, .int .i64 cc.v.n, .string cc.v.s, .slice cc.v.la cc.v.ll cc.v.lc, .slice cc.v.oa cc.v.ol cc.v.oc, .string cc.s] 34).keep hb5 (by simp)
 have HA5:=qh (HA4.out.trans (hb45.mono HA4.out.size))
 have HB45:=qh hb45
 have HD5:Hid (IsVal w5 w5.heap.size R.1 d):=qh (hd.sub (Zn _ _ _))
 clear v0 v1 v2 v3 v4 zv
 have v0:=hbv5.at_ 0 _ rfl;have v1:=hbv5.at_ 1 _ rfl;have v2:=hbv5.at_ 2 _ rfl;have v3:=hbv5.at_ 3 _ rfl;have v4:=hbv5.at_ 4 _ rfl;have zv:=hbv5.lt
 have c0:=hbc5.at_ 0 _ rfl;have c1:=hbc5.at_ 1 _ rfl;have c2:=hbc5.at_ 2 _ rfl;have c3:=hbc5.at_ 3 _ rfl;have c4:=hbc5.at_ 4 _ rfl;have c5:=hbc5.at_ 5 _ rfl;have c6:=hbc5.at_ 6 _ rfl;have c7:=hbc5.at_ 7 _ rfl;have c8:=hbc5.at_ 8 _ rfl;have c9:=hbc5.at_ 9 _ rfl;have c10:=hbc5.at_ 10 _ rfl;have c11:=hbc5.at_ 11 _ rfl;have zc:=hbc5.lt
 have HBC5:=qh hbc5
 clear hb5 hb45 hbv5 hbc5 hd HDO
 by_cases he:E=0
 .obtain ⟨hs1,hs2⟩:=HRS.out.1 he
  have HS2:=qh hs2
  rw [hs1] at HSD
  subst he
  clear hs1 hs2
  go_wp2_with fail
  refine (HCK.out _ (HB45.out.trans ((Zi w5 _).mono HB45.out.size))).mono ?_
  rintro e w6 ⟨rfl,hb6⟩
  have hb56:Below w5.heap.size w5 w6:=(Zi w5 _).trans (hb6.mono (by simp))
  have hbc6:=HBC5.out.keep hb56 HBC5.out.lt
  have hbr6:BC w6 w5.heap.size (vcells d):=(BC.start w5 #[.int .u8 d.k, .int .i64 d.n, .string d.s, .slice d.la d.ll d.lc, .slice d.oa d.ol d.oc] 31).keep hb6 (by simp)
  have HA6:=qh (HA5.out.trans (hb56.mono HA5.out.size))
  have HB46:=qh (HB45.out.trans (hb56.mono HB45.out.size))
  have HD6:=qh (HD5.out.later_ hb56)
  clear v0 v1 v2 v3 v4 zv c0 c1 c2 c3 c4 c5 c6 c7 c8 c9 c10 c11 zc
  have c0:=hbc6.at_ 0 _ rfl;have c1:=hbc6.at_ 1 _ rfl;have c2:=hbc6.at_ 2 _ rfl;have c3:=hbc6.at_ 3 _ rfl;have c4:=hbc6.at_ 4 _ rfl;have c5:=hbc6.at_ 5 _ rfl;have c6:=hbc6.at_ 6 _ rfl;have c7:=hbc6.at_ 7 _ rfl;have c8:=hbc6.at_ 8 _ rfl;have c9:=hbc6.at_ 9 _ rfl;have c10:=hbc6.at_ 10 _ rfl;have c11:=hbc6.at_ 11 _ rfl;have zc:=hbc6.lt
  have r0:=hbr6.at_ 0 _ rfl;have r1:=hbr6.at_ 1 _ rfl;have r2:=hbr6.at_ 2 _ rfl;have r3:=hbr6.at_ 3 _ rfl;have r4:=hbr6.at_ 4 _ rfl;have zr:=hbr6.lt
  have HBR6:=qh hbr6
  clear hb6 hb56 hbc6 hbr6
  go_wp2_with fail
  refine (HSD.out _ HB46.out).mono ?_
  rintro e w7 ⟨rfl,hb7⟩
  have hbr7:=HBR6.out.keep hb7 HBR6.out.lt
  have HA7:=qh (HA6.out.trans (hb7.mono HA6.out.size))
  have HD7:=qh (HD6.out.later_ hb7)
  clear r0 r1 r2 r3 r4 zr c0 c1 c2 c3 c4 c5 c6 c7 c8 c9 c10 c11 zc
  have r0:=hbr7.at_ 0 _ rfl;have r1:=hbr7.at_ 1 _ rfl;have r2:=hbr7.at_ 2 _ rfl;have r3:=hbr7.at_ 3 _ rfl;have r4:=hbr7.at_ 4 _ rfl;have zr:=hbr7.lt
  clear hb7 hbr7
  have HSR:Hid (Calls Tryd.prog 15 #[.agg #[.int .u8 d.k, .int .i64 d.n, .string d.s, .slice d.la d.ll d.lc, .slice d.oa d.ol d.oc]] w7 fun e w'=>e= .returned (.bool true)/\Below w7.heap.size w7 w'):=qh (by
   have:=zch R.1 w7 d HD7.out (HTT.out.below HA7.out)
   rw [HS2.out] at this;exact this)
  go_wp2_with fail
  refine HSR.out.mono ?_
  rintro e w8 ⟨rfl,hb8⟩
  have HA8:=qh (HA7.out.trans (hb8.mono HA7.out.size))
  clear hb8
  go_wp2_with fail
  go_returns
  exact ⟨rfl,HA8.out⟩
 .have fe:(E==0)=false:=by simp [he]
  have hn:=HRS.out.2 he
  rw [hn] at HD5
  clear hn he
  go_wp2_with fail
  refine (HCK.out _ (HB45.out.trans ((Zi w5 _).mono HB45.out.size))).mono ?_
  rintro e w6 ⟨rfl,hb6⟩
  have hb56:Below w5.heap.size w5 w6:=(Zi w5 _).trans (hb6.mono (by simp))
  have hbr6:BC w6 w5.heap.size (vcells d):=(BC.start w5 #[.int .u8 d.k, .int .i64 d.n, .string d.s, .slice d.la d.ll d.lc, .slice d.oa d.ol d.oc] 31).keep hb6 (by simp)
  have HA6:=qh (HA5.out.trans (hb56.mono HA5.out.size))
  have HD6:=qh (HD5.out.later_ hb56)
  clear v0 v1 v2 v3 v4 zv c0 c1 c2 c3 c4 c5 c6 c7 c8 c9 c10 c11 zc
  have r0:=hbr6.at_ 0 _ rfl;have r1:=hbr6.at_ 1 _ rfl;have r2:=hbr6.at_ 2 _ rfl;have r3:=hbr6.at_ 3 _ rfl;have r4:=hbr6.at_ 4 _ rfl;have zr:=hbr6.lt
  clear hb6 hb56 hbr6
  have HSM:Hid (Calls Tryd.prog 16 #[.agg #[.int .u8 d.k, .int .i64 d.n, .string d.s, .slice d.la d.ll d.lc, .slice d.oa d.ol d.oc], .agg #[.int .u8 0, .int .i64 0, .string { data:= #[] }, .slice none 0 0, .slice none 0 0]] w6 fun e w'=>e= .returned (.bool true)/\Below w6.heap.size w6 w'):=qh (by
   have:=Xq V.none V.none w6 d _ HD6.out (Zr _ _)
   rw [Xb rfl] at this;exact this)
  go_wp2_with fail
  refine HSM.out.mono ?_
  rintro e w8 ⟨rfl,hb8⟩
  have HA8:=qh (HA6.out.trans (hb8.mono HA6.out.size))
  clear hb8
  go_wp2_with fail
  go_returns
  exact ⟨rfl,HA8.out⟩
end Go.Proofs.YtfoahkbnheijcaaDoor
