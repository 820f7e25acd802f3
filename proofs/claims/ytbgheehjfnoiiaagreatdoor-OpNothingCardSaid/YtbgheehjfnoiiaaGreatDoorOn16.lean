/-
  Contracts of the functions that the law reaches: A slice of pieces that came in.
-/
import Derived.Test.YtbgheehjfnoiiaaGreatDoorOn4
import Derived.Deep.Slices
import Derived.Lib.SmallJoins
import Derived.SizedLaws
import Derived.ProofKit
import Derived.OpenShut
namespace Go.Proofs.YtbgheehjfnoiiaaGreatDoor
open Go.ChangeShapes Go.WideShapes Go.ChangeAt Go.RowKit Go.Lib Go.Deep
instance:Inhabited Tk:=⟨⟨0,0, .empty,0⟩⟩
theorem zcn {H:Type} {P:Program} {e:TypeId} :∀ {ds:List (DataW H)} {d:DataW H},d ∈ ds->∀n ∈ d.weights P e,n ∈ DataW.weightsAll P e ds
 | x::r,d,hd,n,hn=>by
   rw [DataW.weightsAll,List.mem_append]
   rcases List.mem_cons.1 hd with rfl|h
   .exact .inl hn
   .exact .inr (zcn h n hn)
theorem zb4 {H:Type} {P:Program} {t e:TypeId} {elems spare:List (DataW H)} (hu:P.underlying t=some (.slice e)) {d:DataW H} (hd:d ∈ elems):∀n ∈ d.weights P e,n ∈ (DataW.slice elems spare).weights P t:=by
 intro n hn
 rw [DataW.weights,hu]
 exact List.mem_cons_of_mem _ (List.mem_append.2 (.inl (zcn hd n hn)))
set_option maxRecDepth 100000 in
theorem zgu {H:Type} {enc:TypeId×Value->H} {W:World} {base fuel:Nat} {sp:Nat->Bool} {cs:List Value} {x:DataW H×List MemPlace} (hf:DataW.trod enc Tryz.prog W base sp true fuel 59 cs=some x) (hz:∀n ∈ x.1.weights Tryz.prog 59,n<=reachBytes):
 ∃t:Tk,cs= [.int .u8 t.k, .int .i64 t.n, .string t.s, .int .u8 t.m] /\t.Bnd:=by
 obtain ⟨y0,y1,y2,y3,n,rfl,hlen,h0,h1,h2,h3⟩:=Go.Joins.trod_struct4 Tryz.underlying59 hf
 have h4:cs.length=4:=by rw [hlen];kernel_rfl
 match cs,h4 with
 | [v0,v1,v2,v3],_=>
   have c5:Tryz.prog.cellsOf 5=1:=by kernel_rfl
   have c2:Tryz.prog.cellsOf 2=1:=by kernel_rfl
   have c9:Tryz.prog.cellsOf 9=1:=by kernel_rfl
   simp only [c5,c2,c9] at h0 h1 h2 h3
   simp only [List.drop_zero,List.drop_succ_cons,List.take_succ_cons,List.take_zero] at h0 h1 h2 h3
   obtain ⟨k,e0,rfl,w0⟩:=DataW.trod_int Tryz.underlying5 h0
   obtain ⟨i,e1,rfl,w1⟩:=DataW.trod_int Tryz.underlying2 h1
   obtain ⟨s,e2,rfl,w2⟩:=DataW.trod_string Tryz.underlying9 h2
   obtain ⟨m,e3,rfl,w3⟩:=DataW.trod_int Tryz.underlying5 h3
   injection e0 with e0 _;injection e1 with e1 _;injection e2 with e2 _;injection e3 with e3 _
   subst e0 e1 e2 e3
   have b0:=bounds_u8 w0;have b1:=bounds_i64 w1;have b3:=bounds_u8 w3
   have hs:s.data.toList.length<=reachBytes:=by
    refine hz _ ?_
    simp only [DataW.weights,Tryz.underlying59,DataW.weightsEach,List.map_cons,List.map_nil,List.append_nil,List.nil_append,List.mem_cons,List.not_mem_nil,or_false]
   have hs2:s.data.toList.length=s.size:=Array.length_toList
   exact ⟨⟨k,i,s,m⟩,rfl,⟨b0.1,by have:=b0.2;dsimp only;omega,b1.1,b1.2,by have:reachBytes=0x7ffffffff000:=rfl;dsimp only;omega,b3.1,by have:=b3.2;dsimp only;omega⟩⟩
set_option maxRecDepth 100000 in
theorem zag {H:Type} {enc:TypeId×Value->H} {W:World} {fuel:Nat} {cs:List Value} {x:DataW H×List MemPlace} (hf:DataW.trod enc Tryz.prog W 0 (fun _=>true) true fuel 22 cs=some x) (hz:∀n ∈ x.1.weights Tryz.prog 22,n<=reachBytes):
 ∃(a:Option Addr) (n c:Nat) (l:List Tk),cs= [.slice a n c] /\IsToks W W.heap.size l a n c:=by
 rcases open_slice Tryz.underlying22 hf with ⟨rfl,_⟩|⟨a,len,cap,m,n,D,Pl,rfl,_,hl,hm,hmm,rfl,hel⟩
 .exact ⟨none,0,0, [],rfl,rfl,Nat.le_refl _,by decide,0,0,fun h=>absurd h (by decide),fun i hi=>absurd hi (by simp)⟩
 .simp only [if_true] at hmm
  have c4:Tryz.prog.cellsOf 59=4:=by kernel_rfl
  rw [c4] at hel
  obtain ⟨T,hT⟩:=choose_lt (n:=len) (p:=fun i (t:Tk)=>(∀j u, [Value.int .u8 t.k, .int .i64 t.n, .string t.s, .int .u8 t.m][j]? =some u->W.cell? (a.add (i*4+j))=some u)/\t.Bnd) (fun i hi=>by
   obtain ⟨cs',h1,h2⟩:=hel i (by omega)
   obtain ⟨t,rfl,ht⟩:=zgu h2 (fun q hq=>hz q (zb4 Tryz.underlying22 (List.mem_map.2 ⟨i,List.mem_range.2 hi,rfl⟩) q hq))
   obtain ⟨_,_,h3⟩:=World.cells?_some h1
   refine ⟨t,fun j u hj=> ?_,ht⟩
   have hj4:j<4:=(List.getElem?_eq_some_iff.1 hj).1
   rw [<-add_add,h3 j hj4,hj])
  refine ⟨some a,len,cap,(List.range len).map T,rfl,by simp,hl,by unfold maxLen at hm;omega,a.block,a.off,fun hn=> ?_,fun i hi=> ?_⟩
  .have h0:=(hT 0 hn).1 0 _ rfl
   have hspot:a.spot=none:=by
    have:=World.cell?_spot h0
    simpa [Addr.add] using this
   obtain ⟨ab,ao,spot⟩:=a
   dsimp only at hspot
   subst hspot
   exact ⟨rfl,by simpa [Addr.add] using World.block_lt_of_cell? W _ h0⟩
  .have hi':i<len:=by simpa using hi
   have h00:=(hT 0 (by omega)).1 0 _ rfl
   have hspot:a.spot=none:=by
    have:=World.cell?_spot h00
    simpa [Addr.add] using this
   obtain ⟨ab,ao,spot⟩:=a
   dsimp only at hspot
   subst hspot
   obtain ⟨g1,g2⟩:=hT i hi'
   simp only [List.getElem_map,List.getElem_range]
   have q0:=g1 0 _ rfl;have q1:=g1 1 _ rfl;have q2:=g1 2 _ rfl;have q3:=g1 3 _ rfl
   rw [Addr.add_lit] at q0 q1 q2 q3
   exact ⟨⟨q0,q1,q2,q3⟩,g2⟩
end Go.Proofs.YtbgheehjfnoiiaaGreatDoor
