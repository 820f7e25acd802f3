/-
  MsgApart: for all two records of bulk at most 1048576 the law returns true and the records read as they did. Conditions: that bulk (the second form); Go's two UTF-8 tables are what the program's text lays (the card ties them).
-/
import Derived.Test.YtfoahkbnheijcaaGreatDoorMa49
import Derived.Test.YtfoahkbnheijcaaGreatDoorCards
import Derived.Test.YtfoahkbnheijcaaGreatDoorTie
import Derived.PinnedBridge
import Derived.Lib.LaidIn
import Derived.Lib.LaidU8T
import Derived.Deep.DeepHandedRow
import Derived.Deep.DeepWitnessRowRef
import Derived.SevenTiedAt
namespace Go.Proofs.YtfoahkbnheijcaaGreatDoor
open Go.ChangeShapes Go.WideShapes Go.ChangeAt Go.RowKit Go.Lib Go.Deep
theorem ones {α:Type} (l:List α):(l.map fun _=>1).sum=l.length:=by
 induction l with
 |nil=>rfl
 |cons a r ih=>simp only [List.map_cons,List.sum_cons,ih,List.length_cons];omega
theorem zgy (l:List St):(l.map fun s=>s.key.size+1).sum=l.length+hvP l:=by
 induction l with
 |nil=>rfl
 |cons a r ih=>unfold hvP at*;simp only [List.map_cons,List.sum_cons,ih,List.length_cons];omega
theorem zfm {H:Type} (l m:List (DataW H)):Rows.uptoBulkAll (l++m)=Rows.uptoBulkAll l+Rows.uptoBulkAll m:=by
 induction l with
 |nil=>simp [Rows.uptoBulkAll]
 |cons x r ih=>simp only [List.cons_append,Rows.uptoBulkAll,ih];omega
theorem zhb {H:Type} (D:Nat->DataW H) (g:Nat->Nat) (n:Nat) (h:∀i,i<n->g i<=2*Rows.uptoBulk (D i)):((List.range n).map g).sum<=2*Rows.uptoBulkAll ((List.range n).map D):=by
 induction n with
 |zero=>simp
 | succ n ih=>
   have h1:=ih (fun i hi=>h i (by omega))
   have h2:=h n (by omega)
   rw [List.range_succ,List.map_append,List.map_append,List.sum_append,zfm]
   simp only [List.map_cons,List.map_nil,List.sum_cons,List.sum_nil,Rows.uptoBulkAll];omega
theorem X9 {T:Type} [Inhabited T] {H:Type} {enc:TypeId×Value->H} {W:World} {t e:TypeId} {sz:Nat} (hu:Tryz.prog.underlying t=some (.slice e)) (hc:Tryz.prog.cellsOf e=sz) (hsz:0<sz) (cells:T->List Value) (hcl:∀x,(cells x).length=sz) (Q:T->Prop) (wt:T->Nat)
 (hel:∀ {fuel:Nat} {cs:List Value} {x:DataW H×List MemPlace},DataW.trod enc Tryz.prog W 0 (fun _=>true) true fuel e cs=some x->Rows.uptoBulk x.1<=1048576->∃y:T,cs=cells y/\Q y/\wt y<=2*Rows.uptoBulk x.1)
 {fuel:Nat} {cs:List Value} {x:DataW H×List MemPlace} (hf:DataW.trod enc Tryz.prog W 0 (fun _=>true) true fuel t cs=some x) (hB:Rows.uptoBulk x.1<=1048576):
 ∃(a:Option Addr) (n c:Nat) (l:List T),cs= [.slice a n c] /\InRow W sz cells Q l a n c/\(l.map wt).sum+2<=2*Rows.uptoBulk x.1:=by
 rcases open_slice hu hf with ⟨rfl,_⟩|⟨a,len,cap,m,n,D,Pl,rfl,_,hl,hm,hmm,rfl,hel2⟩
 .exact ⟨none,0,0, [],rfl,⟨rfl,Nat.le_refl _,by decide,by decide,0,0,fun h=>absurd h (by decide),fun i hi=>absurd hi (by simp)⟩,by have:=zap x.1;simp;omega⟩
 .simp only [if_true] at hmm
  rw [hc] at hel2
  simp only [Rows.uptoBulk] at hB
  have hln:=zpe ((List.range len).map D)
  rw [List.length_map,List.length_range] at hln
  obtain ⟨T',hT⟩:=choose_lt (n:=len) (p:=fun i (y:T)=>(∀j u,(cells y)[j]? =some u->W.cell? (a.add (i*sz+j))=some u)/\Q y/\wt y<=2*Rows.uptoBulk (D i)) (fun i hi=>by
   obtain ⟨cs',h1,h2⟩:=hel2 i (by omega)
   obtain ⟨y,rfl,hy,hwy⟩:=hel h2 (by
    have:=zmv (List.mem_map.2 ⟨i,List.mem_range.2 hi,rfl⟩:D i ∈ (List.range len).map D)
    dsimp only;omega)
   obtain ⟨_,_,h3⟩:=World.cells?_some h1
   refine ⟨y,fun j u hj=> ?_,hy,hwy⟩
   have hj4:j<sz:=by rw [<-hcl y];exact (List.getElem?_eq_some_iff.1 hj).1
   rw [<-add_add,h3 j hj4,hj])
  have hspot:0<len->a.spot=none/\a.block<W.heap.size:=fun hn=>by
   have hlt:0<(cells (T' 0)).length:=by rw [hcl];exact hsz
   have h0:=(hT 0 hn).1 0 (cells (T' 0))[0] (List.getElem?_eq_getElem hlt)
   have h1:=World.cell?_spot h0
   have h2:=World.block_lt_of_cell? W _ h0
   exact ⟨by simpa [Addr.add] using h1,by simpa [Addr.add] using h2⟩
  refine ⟨some a,len,cap,(List.range len).map T',rfl,⟨by simp,hl,by unfold maxLen at hm;omega,by omega,a.block,a.off,fun hn=> ?_,fun i hi=> ?_⟩, ?_⟩
  .obtain ⟨h1,h2⟩:=hspot hn
   obtain ⟨ab,ao,spot⟩:=a
   dsimp only at h1 h2
   subst h1
   exact ⟨rfl,h2⟩
  .have hi':i<len:=by simpa using hi
   obtain ⟨h1,h2⟩:=hspot (by omega)
   obtain ⟨g1,g2,_⟩:=hT i hi'
   obtain ⟨ab,ao,spot⟩:=a
   dsimp only at h1
   subst h1
   simp only [List.getElem_map,List.getElem_range]
   refine ⟨fun j u hj=> ?_,g2⟩
   have:=g1 j u hj
   rw [Addr.add_lit] at this
   rw [Nat.add_assoc];exact this
  .have hs:=zhb D (fun i=>wt (T' i)) len (fun i hi=>(hT i hi).2.2)
   simp only [Rows.uptoBulk,List.map_map]
   have e:((List.range len).map (wt ∘ T'))=(List.range len).map (fun i=>wt (T' i)):=rfl
   rw [e];omega
set_option maxRecDepth 100000 in
theorem ziz {H:Type} {enc:TypeId×Value->H} {W:World} {fuel:Nat} {cs:List Value} {x:DataW H×List MemPlace} (hf:DataW.trod enc Tryz.prog W 0 (fun _=>true) true fuel 90 cs=some x) (hB:Rows.uptoBulk x.1<=1048576):
 ∃t:Tk,cs= [.int .u8 t.k, .int .i64 t.n, .string t.s, .int .u8 t.m] /\t.Bnd/\t.s.size+1<=2*Rows.uptoBulk x.1:=by
 obtain ⟨y0,y1,y2,y3,nf,hx,hlen,h0,h1,h2,h3⟩:=zkh Tryz.underlying90 hf
 have hBB:Rows.uptoBulk x.1=Rows.uptoBulk x.1:=rfl
 conv at hBB=>rhs;rw [hx]
 simp only [Rows.uptoBulk,Rows.uptoBulkAll] at hBB
 have hz:cs.length=4:=by rw [hlen];kernel_rfl
 obtain ⟨v0,v1,v2,v3,rfl⟩:=zrf hz
 have c_i64:Tryz.prog.cellsOf 2=1:=by kernel_rfl
 have c_str:Tryz.prog.cellsOf 9=1:=by kernel_rfl
 have c_u8:Tryz.prog.cellsOf 5=1:=by kernel_rfl
 simp only [c_i64,c_str,c_u8] at h0 h1 h2 h3
 simp only [List.drop_zero,List.drop_succ_cons,List.take_succ_cons,List.take_zero] at h0 h1 h2 h3
 obtain ⟨k,e0,rfl,w0⟩:=DataW.trod_int Tryz.underlying5 h0
 injection e0 with e0 _
 subst e0
 have b0:=bounds_u8 w0
 obtain ⟨n,e1,rfl,w1⟩:=DataW.trod_int Tryz.underlying2 h1
 injection e1 with e1 _
 subst e1
 have b1:=bounds_i64 w1
 obtain ⟨s,e2,rfl,_⟩:=DataW.trod_string Tryz.underlying9 h2
 injection e2 with e2 _
 subst e2
 have z2:s.data.toList.length=s.size:=Array.length_toList
 obtain ⟨m,e3,rfl,w3⟩:=DataW.trod_int Tryz.underlying5 h3
 injection e3 with e3 _
 subst e3
 have b3:=bounds_u8 w3
 simp only [Rows.uptoBulk] at hBB
 exact ⟨⟨k,n,s,m⟩,rfl,⟨b0.1,by have:=b0.2;dsimp only;omega,b1.1,b1.2,by dsimp only;omega,b3.1,by have:=b3.2;dsimp only;omega⟩,by dsimp only;omega⟩
theorem zac {H:Type} {enc:TypeId×Value->H} {W:World} {fuel:Nat} {cs:List Value} {x:DataW H×List MemPlace} (hf:DataW.trod enc Tryz.prog W 0 (fun _=>true) true fuel 23 cs=some x) (hB:Rows.uptoBulk x.1<=1048576):
 ∃(a:Option Addr) (n c:Nat) (l:List Tk),cs= [.slice a n c] /\IsToks W W.heap.size l a n c/\hvT l+2<=2*Rows.uptoBulk x.1:=by
 obtain ⟨a,n,c,l,e,⟨h1,h2,h3,_,b,o,h5,h6⟩,hM⟩:=X9 (sz:=4) Tryz.underlying23 (by kernel_rfl) (by decide) (fun t:Tk=> [.int .u8 t.k, .int .i64 t.n, .string t.s, .int .u8 t.m]) (fun _=>rfl) Tk.Bnd (fun t=>t.s.size+1) ziz hf hB
 exact ⟨a,n,c,l,e,⟨h1,h2,h3,b,o,h5,fun i hi=>⟨⟨(h6 i hi).1 0 _ rfl,(h6 i hi).1 1 _ rfl,(h6 i hi).1 2 _ rfl,(h6 i hi).1 3 _ rfl⟩,(h6 i hi).2⟩⟩,hM⟩
set_option maxRecDepth 100000 in
theorem zmq {H:Type} {enc:TypeId×Value->H} {W:World} {fuel:Nat} {cs:List Value} {x:DataW H×List MemPlace} (hf:DataW.trod enc Tryz.prog W 0 (fun _=>true) true fuel 5 cs=some x) (_:Rows.uptoBulk x.1<=1048576):
 ∃y:UInt8,cs= [Value.int .u8 (y.toNat:Int)] /\True/\1<=2*Rows.uptoBulk x.1:=by
 obtain ⟨k,rfl,_,w0⟩:=DataW.trod_int Tryz.underlying5 hf
 have b0:=bounds_u8 w0
 refine ⟨UInt8.ofNat k.toNat, ?_,trivial,by have:=zap x.1;omega⟩
 have:(UInt8.ofNat k.toNat).toNat=k.toNat:=by rw [UInt8.toNat_ofNat'];omega
 rw [this,Int.toNat_of_nonneg b0.1]
theorem zqe {H:Type} {enc:TypeId×Value->H} {W:World} {fuel:Nat} {cs:List Value} {x:DataW H×List MemPlace} (hf:DataW.trod enc Tryz.prog W 0 (fun _=>true) true fuel 34 cs=some x) (hB:Rows.uptoBulk x.1<=1048576):
 ∃(a:Option Addr) (n c:Nat) (l:List UInt8),cs= [.slice a n c] /\IsB W W.heap.size a n c l/\l.length+2<=2*Rows.uptoBulk x.1:=by
 obtain ⟨a,n,c,l,e,⟨h1,h2,h3,_,b,o,h5,h6⟩,hM⟩:=X9 (sz:=1) Tryz.underlying34 (by kernel_rfl) (by decide) (fun y:UInt8=> [Value.int .u8 (y.toNat:Int)]) (fun _=>rfl) (fun _=>True) (fun _=>1) zmq hf hB
 exact ⟨a,n,c,l,e,⟨h1,h2,h3,b,o,h5,fun i hi=>by have:=(h6 i hi).1 0 _ rfl;simpa using this⟩,by rw [ones l] at hM;exact hM⟩
set_option maxRecDepth 100000 in
theorem zhq {H:Type} {enc:TypeId×Value->H} {W:World} {fuel:Nat} {cs:List Value} {x:DataW H×List MemPlace} (hf:DataW.trod enc Tryz.prog W 0 (fun _=>true) true fuel 100 cs=some x) (hB:Rows.uptoBulk x.1<=1048576):
 ∃t:St,cs=scells t/\(t.Bnd/\t.key.size<=1048576)/\t.key.size+1<=2*Rows.uptoBulk x.1:=by
 obtain ⟨y0,y1,y2,n,hx,hlen,h0,h1,h2⟩:=zoy Tryz.underlying100 hf
 have hBB:Rows.uptoBulk x.1=Rows.uptoBulk x.1:=rfl
 conv at hBB=>rhs;rw [hx]
 simp only [Rows.uptoBulk,Rows.uptoBulkAll] at hBB
 have hz:cs.length=3:=by rw [hlen];kernel_rfl
 obtain ⟨v0,v1,v2,rfl⟩:=zns hz
 have c_bool:Tryz.prog.cellsOf 4=1:=by kernel_rfl
 have c_int:Tryz.prog.cellsOf 3=1:=by kernel_rfl
 have c_str:Tryz.prog.cellsOf 9=1:=by kernel_rfl
 simp only [c_bool,c_int,c_str] at h0 h1 h2
 simp only [List.drop_zero,List.drop_succ_cons,List.take_succ_cons,List.take_zero] at h0 h1 h2
 obtain ⟨l,e0,rfl⟩:=DataW.trod_bool Tryz.underlying4 h0
 injection e0 with e0 _
 subst e0
 obtain ⟨i,e1,rfl,w1⟩:=DataW.trod_int Tryz.underlying3 h1
 injection e1 with e1 _
 subst e1
 have b1:=bounds_i64 w1
 obtain ⟨s,e2,rfl,_⟩:=DataW.trod_string Tryz.underlying9 h2
 injection e2 with e2 _
 subst e2
 have z2:s.data.toList.length=s.size:=Array.length_toList
 simp only [Rows.uptoBulk] at hBB
 exact ⟨⟨l,i,s⟩,rfl,⟨⟨b1.1,b1.2,by dsimp only;omega⟩,by dsimp only;omega⟩,by dsimp only;omega⟩
theorem zn4 {H:Type} {enc:TypeId×Value->H} {W:World} {fuel:Nat} {cs:List Value} {x:DataW H×List MemPlace} (hf:DataW.trod enc Tryz.prog W 0 (fun _=>true) true fuel 54 cs=some x) (hB:Rows.uptoBulk x.1<=1048576):
 ∃(a:Option Addr) (n c:Nat) (l:List St),cs= [.slice a n c] /\IsSteps W W.heap.size l a n c/\l.length+hvP l+2<=2*Rows.uptoBulk x.1:=by
 obtain ⟨a,n,c,l,e,⟨h1,h2,h3,h4,b,o,h5,h6⟩,hM⟩:=X9 (sz:=3) Tryz.underlying54 (by kernel_rfl) (by decide) scells (fun _=>rfl) (fun t=>t.Bnd/\t.key.size<=1048576) (fun s=>s.key.size+1) zhq hf hB
 exact ⟨a,n,c,l,e,⟨h1,h2,h3,by omega,b,o,h5,fun i hi=>⟨⟨(h6 i hi).1 0 _ rfl,(h6 i hi).1 1 _ rfl,(h6 i hi).1 2 _ rfl⟩,(h6 i hi).2.1⟩⟩,by rw [zgy l] at hM;omega⟩
set_option maxRecDepth 100000 in
theorem zpk {H:Type} {enc:TypeId×Value->H} {W:World} {fuel:Nat} {cs:List Value} {x:DataW H×List MemPlace} (hf:DataW.trod enc Tryz.prog W 0 (fun _=>true) true fuel 52 cs=some x) (hB:Rows.uptoBulk x.1<=1048576):
 ∃p:AC×Ac,cs=acells p.1/\IsAct W W.heap.size p.2 p.1/\hvA p.2<=2*Rows.uptoBulk x.1:=by
 obtain ⟨y0,y1,y2,y3,y4,y5,y6,n,hx,hlen,h0,h1,h2,h3,h4,h5,h6⟩:=zdc Tryz.underlying52 hf
 have hBB:Rows.uptoBulk x.1=Rows.uptoBulk x.1:=rfl
 conv at hBB=>rhs;rw [hx]
 simp only [Rows.uptoBulk,Rows.uptoBulkAll] at hBB
 have hz:cs.length=7:=by rw [hlen];kernel_rfl
 obtain ⟨v0,v1,v2,v3,v4,v5,v6,rfl⟩:=zej hz
 have c_i64:Tryz.prog.cellsOf 2=1:=by kernel_rfl
 have c_int:Tryz.prog.cellsOf 3=1:=by kernel_rfl
 have c_openW_bytes6:Tryz.prog.cellsOf 34=1:=by kernel_rfl
 have c_openW_toks6:Tryz.prog.cellsOf 23=1:=by kernel_rfl
 have c_str:Tryz.prog.cellsOf 9=1:=by kernel_rfl
 have c_u8:Tryz.prog.cellsOf 5=1:=by kernel_rfl
 simp only [c_i64,c_int,c_openW_bytes6,c_openW_toks6,c_str,c_u8] at h0 h1 h2 h3 h4 h5 h6
 simp only [List.drop_zero,List.drop_succ_cons,List.take_succ_cons,List.take_zero] at h0 h1 h2 h3 h4 h5 h6
 obtain ⟨a0,n0,c0,l0,e0,I0,M0⟩:=zqe h0 (by omega)
 injection e0 with e0 _
 subst e0
 obtain ⟨k,e1,rfl,w1⟩:=DataW.trod_int Tryz.underlying5 h1
 injection e1 with e1 _
 subst e1
 have b1:=bounds_u8 w1
 obtain ⟨i,e2,rfl,w2⟩:=DataW.trod_int Tryz.underlying3 h2
 injection e2 with e2 _
 subst e2
 have b2:=bounds_i64 w2
 obtain ⟨j,e3,rfl,w3⟩:=DataW.trod_int Tryz.underlying3 h3
 injection e3 with e3 _
 subst e3
 have b3:=bounds_i64 w3
 obtain ⟨m,e4,rfl,w4⟩:=DataW.trod_int Tryz.underlying2 h4
 injection e4 with e4 _
 subst e4
 have b4:=bounds_i64 w4
 obtain ⟨s,e5,rfl,_⟩:=DataW.trod_string Tryz.underlying9 h5
 injection e5 with e5 _
 subst e5
 have z5:s.data.toList.length=s.size:=Array.length_toList
 obtain ⟨a6,n6,c6,l6,e6,I6,M6⟩:=zac h6 (by omega)
 injection e6 with e6 _
 subst e6
 simp only [Rows.uptoBulk] at hBB
 exact ⟨(⟨a0,n0,c0,k,i,j,m,s,a6,n6,c6⟩,⟨l0,k,i,j,m,s,l6⟩),rfl, .mk ⟨a0,n0,c0,k,i,j,m,s,a6,n6,c6⟩ l0 l6 ⟨b1.1,by have:=b1.2;dsimp only;omega,b2.1,b2.2,b3.1,b3.2,b4.1,b4.2,by dsimp only;omega⟩ I0 I6,by show 10+l0.length+s.size+hvT l6<=_;omega⟩
theorem zlt {H:Type} {enc:TypeId×Value->H} {W:World} {fuel:Nat} {cs:List Value} {x:DataW H×List MemPlace} (hf:DataW.trod enc Tryz.prog W 0 (fun _=>true) true fuel 25 cs=some x) (hB:Rows.uptoBulk x.1<=1048576):
 ∃(a:Option Addr) (n c:Nat) (l:List Ac),cs= [.slice a n c] /\IsActs W W.heap.size l a n c/\hv6 l+2<=2*Rows.uptoBulk x.1:=by
 obtain ⟨a,n,c,l,e,⟨h1,h2,h3,_,b,o,h5,h6⟩,hM⟩:=X9 (sz:=7) Tryz.underlying25 (by kernel_rfl) (by decide) (fun p:AC×Ac=>acells p.1) (fun _=>rfl) (fun p=>IsAct W W.heap.size p.2 p.1) (fun p=>hvA p.2) zpk hf hB
 refine ⟨a,n,c,l.map Prod.snd,e,⟨by rw [List.length_map];exact h1,h2,h3,b,o,fun i=>(l.getD i default).1,h5,fun i hi=> ?_⟩,by rw [hv6,List.map_map];exact hM⟩
 rw [List.length_map] at hi
 obtain ⟨g1,g2⟩:=h6 i hi
 have he:l.getD i default=l[i] :=by simp [List.getD_eq_getElem?_getD,hi]
 simp only [he,List.getElem_map]
 exact ⟨⟨g1 0 _ rfl,g1 1 _ rfl,g1 2 _ rfl,g1 3 _ rfl,g1 4 _ rfl,g1 5 _ rfl,g1 6 _ rfl⟩,g2⟩
set_option maxRecDepth 100000 in
theorem zn1 {H:Type} {enc:TypeId×Value->H} {W:World} {fuel:Nat} {cs:List Value} {x:DataW H×List MemPlace} (hf:DataW.trod enc Tryz.prog W 0 (fun _=>true) true fuel 56 cs=some x) (hB:Rows.uptoBulk x.1<=1048576):
 ∃p:BA×Ba,cs=bacells p.1/\IsBare W W.heap.size p.2 p.1/\hvB p.2<=2*Rows.uptoBulk x.1:=by
 obtain ⟨y0,y1,y2,y3,y4,y5,y6,y7,n,hx,hlen,h0,h1,h2,h3,h4,h5,h6,h7⟩:=zgk Tryz.underlying56 hf
 have hBB:Rows.uptoBulk x.1=Rows.uptoBulk x.1:=rfl
 conv at hBB=>rhs;rw [hx]
 simp only [Rows.uptoBulk,Rows.uptoBulkAll] at hBB
 have hz:cs.length=8:=by rw [hlen];kernel_rfl
 obtain ⟨v0,v1,v2,v3,v4,v5,v6,v7,rfl⟩:=zm4 hz
 have c_i64:Tryz.prog.cellsOf 2=1:=by kernel_rfl
 have c_int:Tryz.prog.cellsOf 3=1:=by kernel_rfl
 have c_openW_steps6:Tryz.prog.cellsOf 54=1:=by kernel_rfl
 have c_openW_toks6:Tryz.prog.cellsOf 23=1:=by kernel_rfl
 have c_str:Tryz.prog.cellsOf 9=1:=by kernel_rfl
 have c_u8:Tryz.prog.cellsOf 5=1:=by kernel_rfl
 simp only [c_i64,c_int,c_openW_steps6,c_openW_toks6,c_str,c_u8] at h0 h1 h2 h3 h4 h5 h6 h7
 simp only [List.drop_zero,List.drop_succ_cons,List.take_succ_cons,List.take_zero] at h0 h1 h2 h3 h4 h5 h6 h7
 obtain ⟨k,e0,rfl,w0⟩:=DataW.trod_int Tryz.underlying5 h0
 injection e0 with e0 _
 subst e0
 have b0:=bounds_u8 w0
 obtain ⟨a1,n1,c1,l1,e1,I1,M1⟩:=zn4 h1 (by omega)
 injection e1 with e1 _
 subst e1
 obtain ⟨key,e2,rfl,_⟩:=DataW.trod_string Tryz.underlying9 h2
 injection e2 with e2 _
 subst e2
 have z2:key.data.toList.length=key.size:=Array.length_toList
 obtain ⟨i,e3,rfl,w3⟩:=DataW.trod_int Tryz.underlying3 h3
 injection e3 with e3 _
 subst e3
 have b3:=bounds_i64 w3
 obtain ⟨j,e4,rfl,w4⟩:=DataW.trod_int Tryz.underlying3 h4
 injection e4 with e4 _
 subst e4
 have b4:=bounds_i64 w4
 obtain ⟨m,e5,rfl,w5⟩:=DataW.trod_int Tryz.underlying2 h5
 injection e5 with e5 _
 subst e5
 have b5:=bounds_i64 w5
 obtain ⟨s,e6,rfl,_⟩:=DataW.trod_string Tryz.underlying9 h6
 injection e6 with e6 _
 subst e6
 have z6:s.data.toList.length=s.size:=Array.length_toList
 obtain ⟨a7,n7,c7,l7,e7,I7,M7⟩:=zac h7 (by omega)
 injection e7 with e7 _
 subst e7
 simp only [Rows.uptoBulk] at hBB
 exact ⟨(⟨k,a1,n1,c1,key,i,j,m,s,a7,n7,c7⟩,⟨k,l1,key,i,j,m,s,l7⟩),rfl, .mk ⟨k,a1,n1,c1,key,i,j,m,s,a7,n7,c7⟩ l1 l7 ⟨b0.1,by have:=b0.2;dsimp only;omega,b3.1,b3.2,b4.1,b4.2,b5.1,b5.2,by dsimp only;omega,by dsimp only;omega⟩ I1 I7,by show 10+s.size+key.size+l1.length+hvP l1+hvT l7<=_;omega⟩
theorem zjk {H:Type} {enc:TypeId×Value->H} {W:World} {fuel:Nat} {cs:List Value} {x:DataW H×List MemPlace} (hf:DataW.trod enc Tryz.prog W 0 (fun _=>true) true fuel 24 cs=some x) (hB:Rows.uptoBulk x.1<=1048576):
 ∃(a:Option Addr) (n c:Nat) (l:List Ba),cs= [.slice a n c] /\IsBares W W.heap.size l a n c/\hvO l+2<=2*Rows.uptoBulk x.1:=by
 obtain ⟨a,n,c,l,e,⟨h1,h2,h3,_,b,o,h5,h6⟩,hM⟩:=X9 (sz:=8) Tryz.underlying24 (by kernel_rfl) (by decide) (fun p:BA×Ba=>bacells p.1) (fun _=>rfl) (fun p=>IsBare W W.heap.size p.2 p.1) (fun p=>hvB p.2) zn1 hf hB
 refine ⟨a,n,c,l.map Prod.snd,e,⟨by rw [List.length_map];exact h1,h2,h3,b,o,fun i=>(l.getD i default).1,h5,fun i hi=> ?_⟩,by rw [hvO,List.map_map];exact hM⟩
 rw [List.length_map] at hi
 obtain ⟨g1,g2⟩:=h6 i hi
 have he:l.getD i default=l[i] :=by simp [List.getD_eq_getElem?_getD,hi]
 simp only [he,List.getElem_map]
 exact ⟨⟨g1 0 _ rfl,g1 1 _ rfl,g1 2 _ rfl,g1 3 _ rfl,g1 4 _ rfl,g1 5 _ rfl,g1 6 _ rfl,g1 7 _ rfl⟩,g2⟩
set_option maxRecDepth 100000 in
theorem zmg {H:Type} {enc:TypeId×Value->H} {W:World} {fuel:Nat} {cs:List Value} {x:DataW H×List MemPlace} (hf:DataW.trod enc Tryz.prog W 0 (fun _=>true) true fuel 27 cs=some x) (hB:Rows.uptoBulk x.1<=1048576):
 ∃(c:RC) (r:Rc),cs=rcells c/\IsRec W W.heap.size r c/\hv10 r<=2*Rows.uptoBulk x.1:=by
 obtain ⟨y0,y1,y2,y3,y4,y5,y6,n,hx,hlen,h0,h1,h2,h3,h4,h5,h6⟩:=zdc Tryz.underlying27 hf
 have hBB:Rows.uptoBulk x.1=Rows.uptoBulk x.1:=rfl
 conv at hBB=>rhs;rw [hx]
 simp only [Rows.uptoBulk,Rows.uptoBulkAll] at hBB
 have hz:cs.length=7:=by rw [hlen];kernel_rfl
 obtain ⟨v0,v1,v2,v3,v4,v5,v6,rfl⟩:=zej hz
 have c_bool:Tryz.prog.cellsOf 4=1:=by kernel_rfl
 have c_openW_acts6:Tryz.prog.cellsOf 25=1:=by kernel_rfl
 have c_openW_bares6:Tryz.prog.cellsOf 24=1:=by kernel_rfl
 have c_openW_toks6:Tryz.prog.cellsOf 23=1:=by kernel_rfl
 have c_u32:Tryz.prog.cellsOf 22=1:=by kernel_rfl
 have c_u8:Tryz.prog.cellsOf 5=1:=by kernel_rfl
 simp only [c_bool,c_openW_acts6,c_openW_bares6,c_openW_toks6,c_u32,c_u8] at h0 h1 h2 h3 h4 h5 h6
 simp only [List.drop_zero,List.drop_succ_cons,List.take_succ_cons,List.take_zero] at h0 h1 h2 h3 h4 h5 h6
 obtain ⟨k,e0,rfl,w0⟩:=DataW.trod_int Tryz.underlying5 h0
 injection e0 with e0 _
 subst e0
 have b0:=bounds_u8 w0
 obtain ⟨sr,e1,rfl,w1⟩:=DataW.trod_int Tryz.underlying22 h1
 injection e1 with e1 _
 subst e1
 have b1:=bounds_u32 w1
 obtain ⟨sq,e2,rfl,w2⟩:=DataW.trod_int Tryz.underlying22 h2
 injection e2 with e2 _
 subst e2
 have b2:=bounds_u32 w2
 obtain ⟨a3,n3,c3,l3,e3,I3,M3⟩:=zac h3 (by omega)
 injection e3 with e3 _
 subst e3
 obtain ⟨a4,n4,c4,l4,e4,I4,M4⟩:=zjk h4 (by omega)
 injection e4 with e4 _
 subst e4
 obtain ⟨a5,n5,c5,l5,e5,I5,M5⟩:=zlt h5 (by omega)
 injection e5 with e5 _
 subst e5
 obtain ⟨sn,e6,rfl⟩:=DataW.trod_bool Tryz.underlying4 h6
 injection e6 with e6 _
 subst e6
 simp only [Rows.uptoBulk] at hBB
 exact ⟨⟨k,sr,sq,a3,n3,c3,a4,n4,c4,a5,n5,c5,sn⟩,⟨k,sr,sq,l3,l4,l5,sn⟩,rfl, .mk ⟨k,sr,sq,a3,n3,c3,a4,n4,c4,a5,n5,c5,sn⟩ l3 l4 l5 ⟨b0.1,by have:=b0.2;dsimp only;omega,b1.1,by have:=b1.2;dsimp only;omega,b2.1,by have:=b2.2;dsimp only;omega⟩ I3 I4 I5,by show hv6 l5+hvT l3+hvO l4<=_;omega⟩
end Go.Proofs.YtfoahkbnheijcaaGreatDoor
namespace Go.Proofs.YtfoahkbnheijcaaGreatDoor
open Go.RowKit
theorem zkf {α:Type} {l:List α} (h:l.length=17):∃v0 v1 v2 v3 v4 v5 v6 v7 v8 v9 v10 v11 v12 v13 v14 v15 v16,l= [v0,v1,v2,v3,v4,v5,v6,v7,v8,v9,v10,v11,v12,v13,v14,v15,v16] :=by
 match l,h with
 | [v0,v1,v2,v3,v4,v5,v6,v7,v8,v9,v10,v11,v12,v13,v14,v15,v16],_=>exact ⟨v0,v1,v2,v3,v4,v5,v6,v7,v8,v9,v10,v11,v12,v13,v14,v15,v16,rfl⟩
theorem zhc {H:Type} {enc:TypeId×Value->H} {P:Program} {w:World} {base:Nat} {spare:Nat->Bool} {held:Bool} {t:TypeId} {f0 f1 f2 f3 f4 f5 f6 f7 f8 f9 f10:Field} {fuel:Nat} {cs:List Value} {x:DataW H×List MemPlace} (ht:P.underlying t=some (.struct #[f0,f1,f2,f3,f4,f5,f6,f7,f8,f9,f10])) (h:DataW.trod enc P w base spare held fuel t cs=some x):
 ∃(y0 y1 y2 y3 y4 y5 y6 y7 y8 y9 y10:DataW H×List MemPlace) (n:Nat),x.1= .agg [y0.1,y1.1,y2.1,y3.1,y4.1,y5.1,y6.1,y7.1,y8.1,y9.1,y10.1] /\cs.length=P.cellsOf t/\DataW.trod enc P w base spare held n f0.type ((cs.drop f0.offset).take (P.cellsOf f0.type))=some y0/\DataW.trod enc P w base spare held n f1.type ((cs.drop f1.offset).take (P.cellsOf f1.type))=some y1/\DataW.trod enc P w base spare held n f2.type ((cs.drop f2.offset).take (P.cellsOf f2.type))=some y2/\DataW.trod enc P w base spare held n f3.type ((cs.drop f3.offset).take (P.cellsOf f3.type))=some y3/\DataW.trod enc P w base spare held n f4.type ((cs.drop f4.offset).take (P.cellsOf f4.type))=some y4/\DataW.trod enc P w base spare held n f5.type ((cs.drop f5.offset).take (P.cellsOf f5.type))=some y5/\DataW.trod enc P w base spare held n f6.type ((cs.drop f6.offset).take (P.cellsOf f6.type))=some y6/\DataW.trod enc P w base spare held n f7.type ((cs.drop f7.offset).take (P.cellsOf f7.type))=some y7/\DataW.trod enc P w base spare held n f8.type ((cs.drop f8.offset).take (P.cellsOf f8.type))=some y8/\DataW.trod enc P w base spare held n f9.type ((cs.drop f9.offset).take (P.cellsOf f9.type))=some y9/\DataW.trod enc P w base spare held n f10.type ((cs.drop f10.offset).take (P.cellsOf f10.type))=some y10:=by
 obtain ⟨xs,n,_,rfl,hl,hlen,hf⟩:=DataW.trod_struct ht h
 match xs,hlen with
 | [y0,y1,y2,y3,y4,y5,y6,y7,y8,y9,y10],_=>exact ⟨y0,y1,y2,y3,y4,y5,y6,y7,y8,y9,y10,n,by simp,hl,by simpa using hf 0 f0 rfl,by simpa using hf 1 f1 rfl,by simpa using hf 2 f2 rfl,by simpa using hf 3 f3 rfl,by simpa using hf 4 f4 rfl,by simpa using hf 5 f5 rfl,by simpa using hf 6 f6 rfl,by simpa using hf 7 f7 rfl,by simpa using hf 8 f8 rfl,by simpa using hf 9 f9 rfl,by simpa using hf 10 f10 rfl⟩
theorem zdo {H:Type} {enc:TypeId×Value->H} {W:World} {fuel:Nat} {cs:List Value} {x:DataW H×List MemPlace} (hf:DataW.trod enc Tryz.prog W 0 (fun _=>true) true fuel 9 cs=some x) (hB:Rows.uptoBulk x.1<=1048576):
 ∃y:ByteArray,cs= [.string y] /\y.size<=140737488355328/\y.size+1<=2*Rows.uptoBulk x.1:=by
 obtain ⟨s,rfl,hx,_⟩:=DataW.trod_string Tryz.underlying9 hf
 have hBB:Rows.uptoBulk x.1=Rows.uptoBulk x.1:=rfl
 conv at hBB=>rhs;rw [hx]
 have z2:s.data.toList.length=s.size:=Array.length_toList
 simp only [Rows.uptoBulk] at hBB
 exact ⟨s,rfl,by omega,by omega⟩
theorem zjl {H:Type} {enc:TypeId×Value->H} {W:World} {fuel:Nat} {cs:List Value} {x:DataW H×List MemPlace} (hf:DataW.trod enc Tryz.prog W 0 (fun _=>true) true fuel 29 cs=some x) (hB:Rows.uptoBulk x.1<=1048576):
 ∃(a:Option Addr) (n c:Nat) (l:List ByteArray),cs= [.slice a n c] /\IsStrs W W.heap.size l a n c/\hvF l+2<=2*Rows.uptoBulk x.1:=by
 obtain ⟨a,n,c,l,e,⟨h1,h2,h3,_,b,o,h5,h6⟩,hM⟩:=X9 (sz:=1) Tryz.underlying29 (by kernel_rfl) (by decide) (fun y:ByteArray=> [Value.string y]) (fun _=>rfl) (fun y=>y.size<=140737488355328) (fun y=>y.size+1) zdo hf hB
 have hn:l.length<=(l.map fun y=>y.size+1).sum:=by
  clear h1 h2 h3 h5 h6 hM
  induction l with
  |nil=>simp
  |cons y r ih=>simp only [List.map_cons,List.sum_cons,List.length_cons];omega
 exact ⟨a,n,c,l,e,⟨h1,h2,h3,by omega,b,o,h5,fun i hi=>⟨by have:=(h6 i hi).1 0 _ rfl;simpa using this,(h6 i hi).2⟩⟩,hM⟩
set_option maxRecDepth 100000 in
theorem zj2 {H:Type} {enc:TypeId×Value->H} {W:World} {fuel:Nat} {cs:List Value} {x:DataW H×List MemPlace} (hf:DataW.trod enc Tryz.prog W 0 (fun _=>true) true fuel 31 cs=some x) (hB:Rows.uptoBulk x.1<=1048576):
 ∃(c:MR) (r:Mr),cs=mrcells c/\IsMr W W.heap.size r c/\hv19 r<=4*Rows.uptoBulk x.1:=by
 obtain ⟨y0,y1,y2,y3,y4,y5,y6,y7,y8,y9,y10,nf,hx,hlen,h0,h1,h2,h3,h4,h5,h6,h7,h8,h9,h10⟩:=zhc Tryz.underlying31 hf
 have hBB:Rows.uptoBulk x.1=Rows.uptoBulk x.1:=rfl
 conv at hBB=>rhs;rw [hx]
 simp only [Rows.uptoBulk,Rows.uptoBulkAll] at hBB
 have hz:cs.length=17:=by rw [hlen];kernel_rfl
 obtain ⟨v0,v1,v2,v3,v4,v5,v6,v7,v8,v9,v10,v11,v12,v13,v14,v15,v16,rfl⟩:=zkf hz
 have c_bool:Tryz.prog.cellsOf 4=1:=by kernel_rfl
 have c_str:Tryz.prog.cellsOf 9=1:=by kernel_rfl
 have c_int:Tryz.prog.cellsOf 3=1:=by kernel_rfl
 have c_rec:Tryz.prog.cellsOf 27=7:=by kernel_rfl
 have c_toks:Tryz.prog.cellsOf 23=1:=by kernel_rfl
 have c_strs:Tryz.prog.cellsOf 29=1:=by kernel_rfl
 have c_u32:Tryz.prog.cellsOf 22=1:=by kernel_rfl
 have c_u16:Tryz.prog.cellsOf 28=1:=by kernel_rfl
 have c_u8:Tryz.prog.cellsOf 5=1:=by kernel_rfl
 simp only [c_bool,c_str,c_int,c_rec,c_toks,c_strs,c_u32,c_u16,c_u8] at h0 h1 h2 h3 h4 h5 h6 h7 h8 h9 h10
 simp only [List.drop_zero,List.drop_succ_cons,List.take_succ_cons,List.take_zero] at h0 h1 h2 h3 h4 h5 h6 h7 h8 h9 h10
 obtain ⟨k,e0,rfl,w0⟩:=DataW.trod_int Tryz.underlying5 h0
 injection e0 with e0 _
 subst e0
 have b0:=bounds_u8 w0
 obtain ⟨s,e1,M1a,M1⟩:=zdo h1 (by omega)
 injection e1 with e1 _
 subst e1
 obtain ⟨m,e2,rfl,w2⟩:=DataW.trod_int Tryz.underlying3 h2
 injection e2 with e2 _
 subst e2
 have b2:=bounds_i64 w2
 obtain ⟨c3,r3,e3,I3,M3⟩:=zmg h3 (by omega)
 obtain ⟨sr,e4,rfl,w4⟩:=DataW.trod_int Tryz.underlying22 h4
 injection e4 with e4 _
 subst e4
 have b4:=bounds_u32 w4
 obtain ⟨sq,e5,rfl,w5⟩:=DataW.trod_int Tryz.underlying22 h5
 injection e5 with e5 _
 subst e5
 have b5:=bounds_u32 w5
 obtain ⟨er,e6,rfl,w6⟩:=DataW.trod_int Tryz.underlying28 h6
 injection e6 with e6 _
 subst e6
 have b6:=bounds_u16 w6
 obtain ⟨th,e7,rfl⟩:=DataW.trod_bool Tryz.underlying4 h7
 injection e7 with e7 _
 subst e7
 obtain ⟨a8,n8,q8,l8,e8,I8,M8⟩:=zac h8 (by omega)
 injection e8 with e8 _
 subst e8
 obtain ⟨a9,n9,q9,l9,e9,I9,M9⟩:=zjl h9 (by omega)
 injection e9 with e9 _
 subst e9
 obtain ⟨sn,e10,rfl⟩:=DataW.trod_bool Tryz.underlying4 h10
 injection e10 with e10 _
 subst e10
 simp only [Rows.uptoBulk] at hBB
 unfold rcells at e3
 injection e3 with g0 e3
 injection e3 with g1 e3
 injection e3 with g2 e3
 injection e3 with g3 e3
 injection e3 with g4 e3
 injection e3 with g5 e3
 injection e3 with g6 _
 subst g0 g1 g2 g3 g4 g5 g6
 exact ⟨⟨k,s,m,c3,sr,sq,er,th,a8,n8,q8,a9,n9,q9,sn⟩,⟨k,s,m,r3,sr,sq,er,th,l8,l9⟩,rfl, .mk ⟨k,s,m,c3,sr,sq,er,th,a8,n8,q8,a9,n9,q9,sn⟩ r3 l8 l9 ⟨b0.1,by have:=b0.2;dsimp only;omega,M1a,b2.1,b2.2,b4.1,by have:=b4.2;dsimp only;omega,b5.1,by have:=b5.2;dsimp only;omega,b6.1,by have:=b6.2;dsimp only;omega⟩ I3 I8 I9,by show hv10 r3+s.size+hvT l8+hvF l9<=_;omega⟩
end Go.Proofs.YtfoahkbnheijcaaGreatDoor
namespace Go.Proofs.YtfoahkbnheijcaaGreatDoor
open Go.Shelf
open Go.ChangeShapes Go.WideShapes Go.ChangeAt Go.RowKit Go.Lib
set_option maxHeartbeats 2000000
theorem rowMsgApartOwn:ownKnob Tryz.prog.godebug=none:=by kernel_rfl
theorem rowMsgApartLaidOut:laidOutB Tryz.prog=true:=by kernel_rfl
noncomputable def rowMsgApartWorld (os:Os):World:=
 let w0:=World.holding Tryz.prog os ⟨#[], #[], []⟩
 let put (h:Array Obj) (g:Nat) (cs:Array Value):Array Obj:=h.modify g fun
  | .cells _ t frozen=> .cells cs t frozen
  |o=>o
 let h1:=put w0.heap 0 (Lib.firstTab.map fun z=>Value.int .u8 z).toArray
 let h2:=put h1 1 ((List.range 16).flatMap fun i=> [Value.int .u8 (Lib.accLo i),Value.int .u8 (Lib.accHi i)]).toArray
 { w0 with heap:=h2 }
theorem rowMsgApartAccept:Rows.laid_unicode_utf8_acceptRanges (H:=Unit)=Lib.acceptData:=by kernel_rfl
theorem rowMsgApartLaid : Rows.msgApartUptoRow.laid = [("unicode/utf8.acceptRanges", Lib.acceptData), ("unicode/utf8.first", Lib.firstData)] := by
 show [("unicode/utf8.acceptRanges", Rows.laid_unicode_utf8_acceptRanges), ("unicode/utf8.first", Go.Pinned.utf8First)] = _
 rw [Pinned.utf8First_eq,rowMsgApartAccept]
theorem rowMsgApartLaidMet (os:Os) (args:Array Value):laidMet Tryz.prog Rows.msgApartUptoRow.laid ((rowMsgApartWorld os).forCall (fun _ _=>0) ⟨#[],args, []⟩).memory:=by
 rw [rowMsgApartLaid]
 exact (LaidIn.of_run (l := [("unicode/utf8.acceptRanges", Lib.acceptData), ("unicode/utf8.first", Lib.firstData)]) [0, 1] 8 (by kernel_rfl) (by kernel_rfl) (by kernel_rfl) (by kernel_rfl)).met
theorem rowMsgApartWitness (os:Os) {H:Type} (enc:TypeId×Value->H):
 (Rows.OpenSpec.upto Rows.msgApartSpec).preRow enc Tryz.prog Tryz.f3 Rows.msgApartUptoRow.domain false Rows.msgApartUptoRow.laid ((rowMsgApartWorld os).forCall (fun _ _=>0) ⟨#[], #[.agg #[.int .u8 0, .string { data:= #[] }, .int .i64 0, .int .u8 0, .int .u32 0, .int .u32 0, .slice none 0 0, .slice none 0 0, .slice none 0 0, .bool false, .int .u32 0, .int .u32 0, .int .u16 0, .bool false, .slice none 0 0, .slice none 0 0, .bool false], .agg #[.int .u8 0, .string { data:= #[] }, .int .i64 0, .int .u8 0, .int .u32 0, .int .u32 0, .slice none 0 0, .slice none 0 0, .slice none 0 0, .bool false, .int .u32 0, .int .u32 0, .int .u16 0, .bool false, .slice none 0 0, .slice none 0 0, .bool false]], []⟩).memory #[.agg #[.int .u8 0, .string { data:= #[] }, .int .i64 0, .int .u8 0, .int .u32 0, .int .u32 0, .slice none 0 0, .slice none 0 0, .slice none 0 0, .bool false, .int .u32 0, .int .u32 0, .int .u16 0, .bool false, .slice none 0 0, .slice none 0 0, .bool false], .agg #[.int .u8 0, .string { data:= #[] }, .int .i64 0, .int .u8 0, .int .u32 0, .int .u32 0, .slice none 0 0, .slice none 0 0, .slice none 0 0, .bool false, .int .u32 0, .int .u32 0, .int .u16 0, .bool false, .slice none 0 0, .slice none 0 0, .bool false]] :=by
 have hw:(DataW.whole enc Tryz.prog ((rowMsgApartWorld os).forCall (fun _ _=>0) ⟨#[], #[.agg #[.int .u8 0, .string { data:= #[] }, .int .i64 0, .int .u8 0, .int .u32 0, .int .u32 0, .slice none 0 0, .slice none 0 0, .slice none 0 0, .bool false, .int .u32 0, .int .u32 0, .int .u16 0, .bool false, .slice none 0 0, .slice none 0 0, .bool false], .agg #[.int .u8 0, .string { data:= #[] }, .int .i64 0, .int .u8 0, .int .u32 0, .int .u32 0, .slice none 0 0, .slice none 0 0, .slice none 0 0, .bool false, .int .u32 0, .int .u32 0, .int .u16 0, .bool false, .slice none 0 0, .slice none 0 0, .bool false]], []⟩).memory Tryz.f3.params.toList (Rows.OpenSpec.upto Rows.msgApartSpec).vars false #[Value.agg #[.int .u8 0, .string { data:= #[] }, .int .i64 0, .int .u8 0, .int .u32 0, .int .u32 0, .slice none 0 0, .slice none 0 0, .slice none 0 0, .bool false, .int .u32 0, .int .u32 0, .int .u16 0, .bool false, .slice none 0 0, .slice none 0 0, .bool false], .agg #[.int .u8 0, .string { data:= #[] }, .int .i64 0, .int .u8 0, .int .u32 0, .int .u32 0, .slice none 0 0, .slice none 0 0, .slice none 0 0, .bool false, .int .u32 0, .int .u32 0, .int .u16 0, .bool false, .slice none 0 0, .slice none 0 0, .bool false]].toList 8).map (fun x=>(x.1,x.2.1))=
  some ([.agg [.lit (.int .u8 0), .lit (.string []), .lit (.int .i64 0), .agg [.lit (.int .u8 0), .lit (.int .u32 0), .lit (.int .u32 0), .nil, .nil, .nil, .lit (.bool false)], .lit (.int .u32 0), .lit (.int .u32 0), .lit (.int .u16 0), .lit (.bool false), .nil, .nil, .lit (.bool false)], .agg [.lit (.int .u8 0), .lit (.string []), .lit (.int .i64 0), .agg [.lit (.int .u8 0), .lit (.int .u32 0), .lit (.int .u32 0), .nil, .nil, .nil, .lit (.bool false)], .lit (.int .u32 0), .lit (.int .u32 0), .lit (.int .u16 0), .lit (.bool false), .nil, .nil, .lit (.bool false)]], []):=by kernel_rfl
 obtain ⟨⟨x1,x2,x3⟩,hx,hx1⟩:=Option.map_eq_some_iff.1 hw
 simp only [Prod.mk.injEq] at hx1
 obtain ⟨rfl,rfl⟩:=hx1
 exact OpenSpec.preRow_of_cond 8 hx (by kernel_rfl) (fun k hk=>by cases hk;kernel_rfl) (by kernel_rfl) (rowMsgApartLaidMet os _)
theorem zb4 {W:World} {B:Nat} {r:Rc} {c:RC} (h:IsRec W B r c):(∀t ∈ r.v,t.s.size<=140737488355328)/\∀b ∈ r.op,∀t ∈ b.v,t.s.size<=140737488355328:=by
 cases h with
 | mk _ v o a hbd hv ho ha=>
   refine ⟨hv.sizes,fun b hb=> ?_⟩
   obtain ⟨h1,h2,h3,b',q,f,h5,h6⟩:=ho
   obtain ⟨i,hi,rfl⟩:=List.getElem_of_mem hb
   exact ((h6 i hi).2.toks).sizes
set_option maxRecDepth 100000 in
theorem mrIn {H:Type} {enc:TypeId×Value->H} {W:World} {base:Nat} {v1:Value} {d1:DataW H} {p1:List MemPlace} (hval:Value.okWide Tryz.prog W .any base 31 v1) (h1:DataW.Trod enc Tryz.prog W 0 (fun _=>true) true 31 v1 d1 p1) (hB:Rows.uptoBulk d1<=1048576):
 ∃(c:MR) (r:Mr),v1= .agg (mrcells c).toArray/\IsMr W W.heap.size r c/\hv19 r<=1099511627776/\(entryP { r.e with snd:=true }).small/\0<=r.err:=by
 obtain ⟨cs,rfl,_⟩:=okWide_struct Tryz.underlying31 hval
 obtain ⟨fuel,hf⟩:=h1
 obtain ⟨c,r,hcs,hI,hl⟩:=zj2 hf hB
 have hE:IsRec W W.heap.size r.e c.e/\0<=r.err:=by
  cases hI with
  |mk c e v f g1 g2 g3 g4=>exact ⟨g2,g1.e0⟩
 refine ⟨c,r, ?_,hI,by dsimp only at hl;omega,zlz _ (zb4 hE.1).1 (zb4 hE.1).2,hE.2⟩
 have h2:cs.toList=mrcells c:=by simpa [Value.cells] using hcs
 rw [<-h2]
set_option maxRecDepth 100000 in
theorem rowMsgApartLifted (os:Os) (started:os.Started) (H:Type) (enc:TypeId×Value->H) (F:Stop.Interp):
 ReturnsInHanded {} Tryz.checked os 3 .any ((Rows.OpenSpec.upto Rows.msgApartSpec).preRow enc Tryz.prog Tryz.f3 Rows.msgApartUptoRow.domain false Rows.msgApartUptoRow.laid) (((Rows.OpenSpec.upto Rows.msgApartSpec).at F).post enc Tryz.prog Tryz.f3 false true false false):=by
 refine returnsInHanded_of_row (C:=Tryz.checked) (s:=Rows.OpenSpec.upto Rows.msgApartSpec) rowMsgApartOwn started (by kernel_rfl) Tryz.func3
  (witness_row_atRef (enc:=enc) (C:=Tryz.checked) false (rowMsgApartWorld os) #[.agg #[.int .u8 0, .string { data:= #[] }, .int .i64 0, .int .u8 0, .int .u32 0, .int .u32 0, .slice none 0 0, .slice none 0 0, .slice none 0 0, .bool false, .int .u32 0, .int .u32 0, .int .u16 0, .bool false, .slice none 0 0, .slice none 0 0, .bool false], .agg #[.int .u8 0, .string { data:= #[] }, .int .i64 0, .int .u8 0, .int .u32 0, .int .u32 0, .slice none 0 0, .slice none 0 0, .slice none 0 0, .bool false, .int .u32 0, .int .u32 0, .int .u16 0, .bool false, .slice none 0 0, .slice none 0 0, .bool false]] rfl (by kernel_rfl) (by kernel_rfl) (by kernel_rfl) (rowMsgApartWitness os enc)) ?_
 intro W base args ds gs before hval0 hW _ hcond _ hL _ _
 have hval:∀(j:Nat) t v,Tryz.f3.params[j]? =some t->args[j]? =some v->Value.okWide Tryz.prog W .any base t v:=hval0
 have hW':=hW
 obtain ⟨p,q,hA0,hV0,rfl,_,_⟩:=hW
 have hA:DataW.TrodAll enc Tryz.prog W 0 (fun _=>true) true Tryz.f3.params.toList args.toList ds p:=hA0
 rw [Tryz.params3] at hA hval
 obtain ⟨v0,v1,d0,d1,p0,p1,rfl,rfl,rfl,h0,h1⟩:=trodAll_two hA
 obtain ⟨rfl,rfl⟩:=trodVars_none hV0
 have k0:=h0
 have lt0:∀x ∈ p0,x.block<W.heap.size:=by obtain ⟨m,hm⟩:=k0;exact DataW.trod_lt m _ _ _ hm
 have k1:=h1
 have lt1:∀x ∈ p1,x.block<W.heap.size:=by obtain ⟨m,hm⟩:=k1;exact DataW.trod_lt m _ _ _ hm
 have hBA:Rows.uptoBulk d0+Rows.uptoBulk d1<=1048576:=by
  have h1:=of_decide_eq_true (hcond _ rfl)
  simp only [List.append_nil,Rows.uptoBulkAll,Nat.add_zero] at h1
  omega
 have hB0:Rows.uptoBulk d0<=1048576:=by omega
 have hB1:Rows.uptoBulk d1<=1048576:=by omega
 obtain ⟨c,r,rfl,hI,hz,hs,hr⟩:=mrIn (hval 0 31 v0 rfl rfl) h0 hB0
 obtain ⟨c',r',rfl,hI',hz',hs',hr'⟩:=mrIn (hval 1 31 v1 rfl rfl) h1 hB1
 clear hA0 hV0 hval0
 have htab:Tabs W:=
  utf8Tabs_of_readsT (U8Types.of196 Tryz.lays196) ⟨by kernel_rfl,by kernel_rfl,by kernel_rfl,by kernel_rfl,by kernel_rfl,by kernel_rfl,by kernel_rfl⟩ (by rw [<-Pinned.utf8First_eq];exact Lib.laidMet.reads hL (.tail _ (.head _))) (Lib.laidMet.reads hL (.head _))
 refine (zkg W htab c c' r r' hI hI' hz hz' hs hs' hr hr').mono fun e W' ⟨he,bel⟩=> ?_
 subst he
 exact ⟨_,rfl,_,_,_, [],_, [],hW',trodAll_mk1 (shut_bool Tryz.underlying4 _),trodAll_cons_mk (Below.trod rowMsgApartLaidOut (by kernel_rfl) (of_decide_eq_true (by kernel_rfl)) k0 bel lt0) (trodAll_cons_mk (Below.trod rowMsgApartLaidOut (by kernel_rfl) (of_decide_eq_true (by kernel_rfl)) k1 bel lt1) trodAll_mk0),rfl,bel.frame _,fun h=>by cases h⟩
theorem rowMsgApartRowHolds:Rows.MsgApartUptoSaid:=
 OpenClaim.holds_of_cond 3 Tryz.f3 rfl rfl rfl rfl rfl rfl rfl ⟨rfl,rfl,rfl,rfl,rfl⟩ rfl rfl rfl rfl rfl (by kernel_rfl) Tryz.func3 (by kernel_rfl)
  (of_decide_eq_true (by kernel_rfl)) (by unfold Func.isWrapper;rw [if_neg (of_decide_eq_false (by kernel_rfl))];exact ⟨rfl,rfl⟩)
  (fun os started H enc _ F0=>by rw [OpenClaim.pre_eq_preRow];exact rowMsgApartLifted os started H enc F0)
theorem msgApart_holds:Rows.MsgApartUptoCardSaid:=
 Claim7.holds_tied_plain_at .later [] [.data, .pinned] true _ true
  rowMsgApartRowHolds (fun _ h=>by cases h) (by kernel_rfl) (fun _ h=>by cases h) msgApartUpto_row_tie rfl ⟨rfl,rfl⟩ (by kernel_rfl) rfl
  (fun f fn hf hfn=>by
   obtain rfl : f = 3 := Option.some.inj ((show Tryz.prog.funcNamed "conciliator/conciliatorlaw19.MsgApart" = some 3 by kernel_rfl).symm.trans hf) |>.symm
   obtain rfl:fn=Tryz.f3:=(Option.some.inj (Tryz.func3.symm.trans hfn)).symm
   exact ⟨by kernel_rfl,fun j t ht=>by
    rw [Tryz.params3] at ht
    rcases j with _|_|j
    .obtain rfl:t=31:=by simpa using ht.symm
     exact (show Tryz.prog.wantsStandIn 31=false by kernel_rfl)
    .obtain rfl:t=31:=by simpa using ht.symm
     exact (show Tryz.prog.wantsStandIn 31=false by kernel_rfl)
    .simp at ht⟩)
  (by kernel_rfl)
#print axioms msgApart_holds
end Go.Proofs.YtfoahkbnheijcaaGreatDoor
