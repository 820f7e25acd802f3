/-
  OpNothing: for all pieces and all acts the law returns true and they read as they did. Conditions: Go's two UTF-8 tables are what the program's text lays (the card ties them).
-/
import Derived.Test.YtbgheehjfnoiiaaGreatDoorOn42
import Derived.Test.YtbgheehjfnoiiaaGreatDoorOn43
import Derived.Test.YtbgheehjfnoiiaaGreatDoorRows
import Derived.Test.YtbgheehjfnoiiaaGreatDoorCards
import Derived.Test.YtbgheehjfnoiiaaGreatDoorTie
import Derived.PinnedBridge
import Derived.Lib.LaidIn
import Derived.Lib.LaidU8T
import Derived.Deep.DeepHandedRow
import Derived.Deep.DeepWitnessRowRef
import Derived.SevenTiedAt
namespace Go.Proofs.YtbgheehjfnoiiaaGreatDoor
open Go.Shelf
open Go.ChangeShapes Go.WideShapes Go.ChangeAt Go.RowKit Go.Lib
set_option maxHeartbeats 2000000
theorem rowOpNothingOwn:ownKnob Tryz.prog.godebug=none:=by kernel_rfl
theorem rowOpNothingLaidOut:laidOutB Tryz.prog=true:=by kernel_rfl
noncomputable def rowOpNothingWorld (os:Os):World:=
 let w0:=World.holding Tryz.prog os ⟨#[], #[], []⟩
 let put (h:Array Obj) (g:Nat) (cs:Array Value):Array Obj:=h.modify g fun
  | .cells _ t frozen=> .cells cs t frozen
  |o=>o
 let h1:=put w0.heap 0 (Lib.firstTab.map fun z=>Value.int .u8 z).toArray
 let h2:=put h1 1 ((List.range 16).flatMap fun i=> [Value.int .u8 (Lib.accLo i),Value.int .u8 (Lib.accHi i)]).toArray
 { w0 with heap:=h2 }
theorem rowOpNothingAccept:Rows.laid_unicode_utf8_acceptRanges (H:=Unit)=Lib.acceptData:=by kernel_rfl
theorem rowOpNothingLaid : Rows.opNothingRow.laid = [("unicode/utf8.acceptRanges", Lib.acceptData), ("unicode/utf8.first", Lib.firstData)] := by
 show [("unicode/utf8.acceptRanges", Rows.laid_unicode_utf8_acceptRanges), ("unicode/utf8.first", Go.Pinned.utf8First)] = _
 rw [Pinned.utf8First_eq,rowOpNothingAccept]
theorem rowOpNothingLaidMet (os:Os) (args:Array Value):laidMet Tryz.prog Rows.opNothingRow.laid ((rowOpNothingWorld os).forCall (fun _ _=>0) ⟨#[],args, []⟩).memory:=by
 rw [rowOpNothingLaid]
 exact (LaidIn.of_run (l := [("unicode/utf8.acceptRanges", Lib.acceptData), ("unicode/utf8.first", Lib.firstData)]) [0, 1] 8 (by kernel_rfl) (by kernel_rfl) (by kernel_rfl) (by kernel_rfl)).met
theorem rowOpNothingWitness (os:Os) {H:Type} (enc:TypeId×Value->H):
 (OpenSpec.ofChange Rows.opNothingSpec).preRow enc Tryz.prog Tryz.f7 Rows.opNothingRow.domain false Rows.opNothingRow.laid ((rowOpNothingWorld os).forCall (fun _ _=>0) ⟨#[], #[.slice none 0 0, .slice none 0 0], []⟩).memory #[.slice none 0 0, .slice none 0 0] :=by
 have hw:(DataW.whole enc Tryz.prog ((rowOpNothingWorld os).forCall (fun _ _=>0) ⟨#[], #[.slice none 0 0, .slice none 0 0], []⟩).memory Tryz.f7.params.toList (OpenSpec.ofChange Rows.opNothingSpec).vars false #[Value.slice none 0 0, .slice none 0 0].toList 8).map (fun x=>(x.1,x.2.1))=
  some ([.nil, .nil], []):=by kernel_rfl
 obtain ⟨⟨x1,x2,x3⟩,hx,hx1⟩:=Option.map_eq_some_iff.1 hw
 simp only [Prod.mk.injEq] at hx1
 obtain ⟨rfl,rfl⟩:=hx1
 exact OpenSpec.preRow_of_cond 8 hx (by kernel_rfl) (fun k hk=>by cases hk) (by kernel_rfl) (rowOpNothingLaidMet os _)
set_option maxRecDepth 100000 in
theorem rowNoToks {H:Type} {enc:TypeId×Value->H} {W:World} {base:Nat} {v1:Value} {d1:DataW H} {p1:List MemPlace} (hval:Value.okWide Tryz.prog W .any base 22 v1) (h1:DataW.Trod enc Tryz.prog W 0 (fun _=>true) true 22 v1 d1 p1) (hz:∀n ∈ d1.weights Tryz.prog 22,n<=reachBytes):
 ∃(a:Option Addr) (n c:Nat) (l:List Tk),v1= .slice a n c/\IsToks W W.heap.size l a n c:=by
 obtain ⟨a1,len,cap,rfl⟩:=okWide_slice Tryz.underlying22 hval
 obtain ⟨fuel,hf⟩:=h1
 obtain ⟨a,n,c,l,hcs,hI⟩:=zag hf hz
 simp [Value.cells] at hcs
 obtain ⟨rfl,rfl,rfl⟩:=hcs
 exact ⟨_,_,_,l,rfl,hI⟩
set_option maxRecDepth 100000 in
theorem rowNoActs {H:Type} {enc:TypeId×Value->H} {W:World} {base:Nat} {v1:Value} {d1:DataW H} {p1:List MemPlace} (hval:Value.okWide Tryz.prog W .any base 23 v1) (h1:DataW.Trod enc Tryz.prog W 0 (fun _=>true) true 23 v1 d1 p1) (hz:∀n ∈ d1.weights Tryz.prog 23,n<=reachBytes):
 ∃(a:Option Addr) (n c:Nat) (l:List Ac),v1= .slice a n c/\IsActs W W.heap.size l a n c:=by
 obtain ⟨a1,len,cap,rfl⟩:=okWide_slice Tryz.underlying23 hval
 obtain ⟨fuel,hf⟩:=h1
 obtain ⟨a,n,c,l,hcs,hI⟩:=zg8 hf hz
 simp [Value.cells] at hcs
 obtain ⟨rfl,rfl,rfl⟩:=hcs
 exact ⟨_,_,_,l,rfl,hI⟩
set_option maxRecDepth 100000 in
theorem rowOpNothingLifted (os:Os) (started:os.Started) (H:Type) (enc:TypeId×Value->H) (F:Stop.Interp):
 ReturnsInHanded {} Tryz.checked os 7 .any ((OpenSpec.ofChange Rows.opNothingSpec).preRow enc Tryz.prog Tryz.f7 Rows.opNothingRow.domain false Rows.opNothingRow.laid) (((OpenSpec.ofChange Rows.opNothingSpec).at F).post enc Tryz.prog Tryz.f7 false true false false):=by
 refine returnsInHanded_of_row (C:=Tryz.checked) (s:=OpenSpec.ofChange Rows.opNothingSpec) rowOpNothingOwn started (by kernel_rfl) Tryz.func7
  (witness_row_atRef (enc:=enc) (C:=Tryz.checked) false (rowOpNothingWorld os) #[.slice none 0 0, .slice none 0 0] rfl (by kernel_rfl) (by kernel_rfl) (by kernel_rfl) (rowOpNothingWitness os enc)) ?_
 intro W base args ds gs before hval0 hW _ _ hsz hL _ _
 have hval:∀(j:Nat) t v,Tryz.f7.params[j]? =some t->args[j]? =some v->Value.okWide Tryz.prog W .any base t v:=hval0
 have hW':=hW
 obtain ⟨p,q,hA0,hV0,rfl,_,_⟩:=hW
 have hA:DataW.TrodAll enc Tryz.prog W 0 (fun _=>true) true Tryz.f7.params.toList args.toList ds p:=hA0
 rw [Tryz.params7] at hA hval
 obtain ⟨v0,v1,d0,d1,p0,p1,rfl,rfl,rfl,h0,h1⟩:=trodAll_two hA
 obtain ⟨rfl,rfl⟩:=trodVars_none hV0
 have k0:=h0
 have lt0:∀x ∈ p0,x.block<W.heap.size:=by obtain ⟨m,hm⟩:=k0;exact DataW.trod_lt m _ _ _ hm
 have k1:=h1
 have lt1:∀x ∈ p1,x.block<W.heap.size:=by obtain ⟨m,hm⟩:=k1;exact DataW.trod_lt m _ _ _ hm
 have hz0:∀n ∈ d0.weights Tryz.prog 22,n<=reachBytes:=fun n hn=>by
  have:=List.all_eq_true.1 hsz _ (DataW.weights_mem_each (j:=0) (t:=22) (d:=d0) rfl rfl n hn)
  simpa using this
 obtain ⟨a0,n0,c0,l0,rfl,hI0⟩:=rowNoToks (hval 0 22 v0 rfl rfl) h0 hz0
 have hz1:∀n ∈ d1.weights Tryz.prog 23,n<=reachBytes:=fun n hn=>by
  have:=List.all_eq_true.1 hsz _ (DataW.weights_mem_each (j:=1) (t:=23) (d:=d1) rfl rfl n hn)
  simpa using this
 obtain ⟨a1,n1,c1,l1,rfl,hI1⟩:=rowNoActs (hval 1 23 v1 rfl rfl) h1 hz1
 clear hA0 hV0 hval0
 have htab:Tabs W:=
  utf8Tabs_of_readsT (U8Types.of196 Tryz.lays196) ⟨by kernel_rfl,by kernel_rfl,by kernel_rfl,by kernel_rfl,by kernel_rfl,by kernel_rfl,by kernel_rfl⟩ (by rw [<-Pinned.utf8First_eq];exact Lib.laidMet.reads hL (.tail _ (.head _))) (Lib.laidMet.reads hL (.head _))
 refine (zhs W htab l0 a0 n0 c0 hI0 l1 a1 n1 c1 hI1).mono fun e W' ⟨he,bel⟩=> ?_
 subst he
 exact ⟨_,rfl,_,_,_, [],_, [],hW',trodAll_mk1 (shut_bool Tryz.underlying4 _),trodAll_cons_mk (Below.trod rowOpNothingLaidOut (by kernel_rfl) (of_decide_eq_true (by kernel_rfl)) k0 bel lt0) (trodAll_cons_mk (Below.trod rowOpNothingLaidOut (by kernel_rfl) (of_decide_eq_true (by kernel_rfl)) k1 bel lt1) trodAll_mk0),rfl,bel.frame _,fun h=>by cases h⟩
theorem rowOpNothingRowHolds:Rows.OpNothingSaid:=
 OpenClaim.holds_of_cond 7 Tryz.f7 rfl rfl rfl rfl rfl rfl rfl ⟨rfl,rfl,rfl,rfl,rfl⟩ rfl rfl rfl rfl rfl (by kernel_rfl) Tryz.func7 (by kernel_rfl)
  (of_decide_eq_true (by kernel_rfl)) (by unfold Func.isWrapper;rw [if_neg (of_decide_eq_false (by kernel_rfl))];exact ⟨rfl,rfl⟩)
  (fun os started H enc _ F0=>by rw [OpenClaim.pre_eq_preRow];exact rowOpNothingLifted os started H enc F0)
theorem opNothing_holds:Rows.OpNothingCardSaid:=
 Claim7.holds_tied_plain_at .later [] [.data, .pinned] true _ _
  rowOpNothingRowHolds (fun _ h=>by cases h) (by kernel_rfl) (fun _ h=>by cases h) opNothing_row_tie rfl ⟨rfl,rfl⟩ (by kernel_rfl) rfl
  (fun f fn hf hfn=>by
   obtain rfl : f = 7 := Option.some.inj ((show Tryz.prog.funcNamed "conciliator/conciliatorlaw08.OpNothing" = some 7 by kernel_rfl).symm.trans hf) |>.symm
   obtain rfl:fn=Tryz.f7:=(Option.some.inj (Tryz.func7.symm.trans hfn)).symm
   exact ⟨by kernel_rfl,fun j t ht=>by
    rw [Tryz.params7] at ht
    rcases j with _|_|j
    .obtain rfl:t=22:=by simpa using ht.symm
     exact (show Tryz.prog.wantsStandIn 22=false by kernel_rfl)
    .obtain rfl:t=23:=by simpa using ht.symm
     exact (show Tryz.prog.wantsStandIn 23=false by kernel_rfl)
    .simp at ht⟩)
  (by kernel_rfl)
end Go.Proofs.YtbgheehjfnoiiaaGreatDoor
