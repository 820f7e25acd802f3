/-
  MsgOnly: for every slice of bytes the law returns true and the slice reads as it did. Conditions: Go's two UTF-8 tables are what the program's text lays (the card ties them).
-/
import Derived.Test.YthceefjafklcmaaDoorMo8
import Derived.Test.YthceefjafklcmaaDoorRows
import Derived.Test.YthceefjafklcmaaDoorCards
import Derived.Test.YthceefjafklcmaaDoorTie
import Derived.PinnedBridge
import Derived.Lib.LaidIn
import Derived.Lib.LaidU8T
import Derived.Deep.DeepHandedRow
import Derived.Deep.DeepWitnessRowRef
import Derived.ProofKit
import Derived.SizedLaws
import Derived.SevenTiedAt
namespace Go.Proofs.YthceefjafklcmaaDoor
open Go.Shelf
open Go.ChangeShapes Go.WideShapes Go.ChangeAt Go.RowKit Go.Lib
theorem msgOnlyOwn:ownKnob Tryd.prog.godebug=none:=by kernel_rfl
theorem msgOnlyLaidOut:laidOutB Tryd.prog=true:=by kernel_rfl
noncomputable def msgOnlyWorld (os:Os):World:=
  let w0:=World.holding Tryd.prog os ⟨#[], #[], []⟩
  let put (h:Array Obj) (g:Nat) (cs:Array Value):Array Obj:=h.modify g fun
    | .cells _ t frozen=> .cells cs t frozen
    |o=>o
  let h1:=put w0.heap 0 (Lib.firstTab.map fun z=>Value.int .u8 z).toArray
  let h2:=put h1 1 ((List.range 16).flatMap fun i=> [Value.int .u8 (Lib.accLo i),Value.int .u8 (Lib.accHi i)]).toArray
  { w0 with heap:=h2 }
theorem msgOnlyAccept:Rows.laid_unicode_utf8_acceptRanges (H:=Unit)=Lib.acceptData:=by kernel_rfl
theorem msgOnlyLaid : Rows.msgOnlyRow.laid = [("unicode/utf8.acceptRanges", Lib.acceptData), ("unicode/utf8.first", Lib.firstData)] := by
  show [("unicode/utf8.acceptRanges", Rows.laid_unicode_utf8_acceptRanges), ("unicode/utf8.first", Go.Pinned.utf8First)] = _
  rw [Pinned.utf8First_eq,msgOnlyAccept]
theorem msgOnlyLaidMet (os:Os) (args:Array Value):laidMet Tryd.prog Rows.msgOnlyRow.laid ((msgOnlyWorld os).forCall (fun _ _=>0) ⟨#[],args, []⟩).memory:=by
  rw [msgOnlyLaid]
  exact (LaidIn.of_run (l := [("unicode/utf8.acceptRanges", Lib.acceptData), ("unicode/utf8.first", Lib.firstData)]) [0, 1] 8 (by kernel_rfl) (by kernel_rfl) (by kernel_rfl) (by kernel_rfl)).met
theorem msgOnlyWitness (os:Os) {H:Type} (enc:TypeId×Value→H):
    (OpenSpec.ofChange Rows.msgOnlySpec).preRow enc Tryd.prog Tryd.f3 Rows.msgOnlyRow.domain false Rows.msgOnlyRow.laid ((msgOnlyWorld os).forCall (fun _ _=>0) ⟨#[], #[.slice none 0 0], []⟩).memory #[.slice none 0 0] :=by
  have hw:(DataW.whole enc Tryd.prog ((msgOnlyWorld os).forCall (fun _ _=>0) ⟨#[], #[.slice none 0 0], []⟩).memory Tryd.f3.params.toList (OpenSpec.ofChange Rows.msgOnlySpec).vars false #[Value.slice none 0 0].toList 8).map (fun x=>(x.1,x.2.1))=
      some ([.nil], []):=by kernel_rfl
  obtain ⟨⟨x1,x2,x3⟩,hx,hx1⟩:=Option.map_eq_some_iff.1 hw
  simp only [Prod.mk.injEq] at hx1
  obtain ⟨rfl,rfl⟩:=hx1
  exact OpenSpec.preRow_of_cond 8 hx (by kernel_rfl) (fun k hk=>by cases hk) (by kernel_rfl) (msgOnlyLaidMet os _)
set_option maxRecDepth 100000 in
theorem msgOnlyBytes {H:Type} {enc:TypeId×Value→H} {W:World} {base:Nat} {v1:Value} {d1:DataW H} {p1:List MemPlace} (hval:Value.okWide Tryd.prog W .any base 22 v1) (h1:DataW.Trod enc Tryd.prog W 0 (fun _=>true) true 22 v1 d1 p1):
    ∃(a:Option Addr) (n c:Nat) (bs:List UInt8),v1= .slice a n c∧IsB W W.heap.size a n c bs:=by
  obtain ⟨a1,len,cap,rfl⟩:=okWide_slice Tryd.underlying22 hval
  obtain ⟨fuel,hf⟩:=h1
  rcases open_ints Tryd.underlying22 Tryd.underlying5 (by kernel_rfl) hf with ⟨hcs,hx⟩|⟨a,len',cap',zs,hcs,_,hl,hm,hz,hx,hcell,hwz⟩
  · simp [Value.cells] at hcs
    obtain ⟨rfl,rfl,rfl⟩:=hcs
    exact ⟨_,_,_, [],rfl,rfl,Nat.le_refl _,by decide,0,0,(fun h=>absurd h (by decide)),(fun i hi=>absurd hi (by simp))⟩
  · simp [Value.cells] at hcs
    obtain ⟨rfl,rfl,rfl⟩:=hcs
    simp only [if_true] at hz
    obtain ⟨bs,hbs⟩:∃bs,(zs.take len).map (fun n=>UInt8.ofNat n.toNat)=bs:=⟨_,rfl⟩
    have hlen:bs.length=len:=by rw [←hbs];simp;omega
    obtain ⟨ab,ao,spot⟩:=a
    refine ⟨_,_,_,bs,rfl,hlen.symm,hl,by unfold maxLen at hm;omega,ab,ao,fun hn=> ?_,fun i hi=> ?_⟩
    · have h0:=hcell 0 (by omega)
      have hspot:spot=none:=by simpa [Addr.add] using World.cell?_spot h0
      subst hspot
      refine ⟨rfl, ?_⟩
      simpa [Addr.add] using World.block_lt_of_cell? W _ h0
    · have h0:=hcell i (by omega)
      have h00:=hcell 0 (by omega)
      have hspot:spot=none:=by simpa [Addr.add] using World.cell?_spot h00
      subst hspot
      rw [Addr.add_lit] at h0
      have hb:=range_u8 hwz i
      have e:zs.getD i 0=zs[i]'(by omega):=by simp [List.getD,List.getElem?_eq_getElem (show i<zs.length by omega)]
      rw [List.getD_eq_getElem?_getD] at e
      rw [e] at hb
      rw [h0,List.getD_eq_getElem?_getD,e]
      subst hbs
      simp only [List.getElem_map,List.getElem_take]
      congr 2
      simp only [UInt8.toNat_ofNat']
      omega
set_option maxRecDepth 100000 in
set_option maxHeartbeats 2000000 in
theorem msgOnlyLifted (os:Os) (started:os.Started) (H:Type) (enc:TypeId×Value→H) (F:Stop.Interp):
    ReturnsInHanded {} Tryd.checked os 3 .any ((OpenSpec.ofChange Rows.msgOnlySpec).preRow enc Tryd.prog Tryd.f3 Rows.msgOnlyRow.domain false Rows.msgOnlyRow.laid) (((OpenSpec.ofChange Rows.msgOnlySpec).at F).post enc Tryd.prog Tryd.f3 false true false false):=by
  refine returnsInHanded_of_row (C:=Tryd.checked) (s:=OpenSpec.ofChange Rows.msgOnlySpec) msgOnlyOwn started (by kernel_rfl) Tryd.func3
    (witness_row_atRef (enc:=enc) (C:=Tryd.checked) false (msgOnlyWorld os) #[.slice none 0 0] rfl (by kernel_rfl) (by kernel_rfl) (by kernel_rfl) (msgOnlyWitness os enc)) ?_
  intro W base args ds gs before hval0 hW _ _ _ hL _ _
  have hval:∀(j:Nat) t v,Tryd.f3.params[j]? =some t→args[j]? =some v→Value.okWide Tryd.prog W .any base t v:=hval0
  have hW':=hW
  obtain ⟨p,q,hA0,hV0,rfl,_,_⟩:=hW
  have hA:DataW.TrodAll enc Tryd.prog W 0 (fun _=>true) true Tryd.f3.params.toList args.toList ds p:=hA0
  rw [Tryd.params3] at hA hval
  obtain ⟨v0,d0,rfl,rfl,h0⟩:=trodAll_one hA
  obtain ⟨rfl,rfl⟩:=trodVars_none hV0
  have k0:=h0
  have lt0:∀x ∈ p,x.block<W.heap.size:=by obtain ⟨m,hm⟩:=k0;exact DataW.trod_lt m _ _ _ hm
  obtain ⟨a,n,c,bs,rfl,hI⟩:=msgOnlyBytes (hval 0 22 v0 rfl rfl) h0
  clear hA0 hV0 hval0
  have htab:Tabs W:=
    utf8Tabs_of_readsT (U8Types.of196 Tryd.lays196) ⟨by kernel_rfl,by kernel_rfl,by kernel_rfl,by kernel_rfl,by kernel_rfl,by kernel_rfl,by kernel_rfl⟩ (by rw [←Pinned.utf8First_eq];exact Lib.laidMet.reads hL (.tail _ (.head _))) (Lib.laidMet.reads hL (.head _))
  refine (msgOnly_any W htab a n c bs hI).mono fun e W' ⟨he,bel⟩=> ?_
  subst he
  exact ⟨_,rfl,_,_,_, [],_, [],hW',trodAll_mk1 (shut_bool Tryd.underlying4 _),trodAll_cons_mk (Below.trod msgOnlyLaidOut (by kernel_rfl) (of_decide_eq_true (by kernel_rfl)) k0 bel lt0) trodAll_mk0,rfl,bel.frame _,fun h=>by cases h⟩
theorem msgOnlyRowHolds:Rows.MsgOnlySaid:=
  OpenClaim.holds_of_cond 3 Tryd.f3 rfl rfl rfl rfl rfl rfl rfl ⟨rfl,rfl,rfl,rfl,rfl⟩ rfl rfl rfl rfl rfl (by kernel_rfl) Tryd.func3 (by kernel_rfl)
    (of_decide_eq_true (by kernel_rfl)) (by unfold Func.isWrapper;rw [if_neg (of_decide_eq_false (by kernel_rfl))];exact ⟨rfl,rfl⟩)
    (fun os started H enc _ F0=>by rw [OpenClaim.pre_eq_preRow];exact msgOnlyLifted os started H enc F0)
theorem msgOnly_holds:Rows.MsgOnlyCardSaid:=
  Claim7.holds_tied_plain_at .later [] [.data, .pinned] true _ true
    msgOnlyRowHolds (fun _ h=>by cases h) (by kernel_rfl) (fun _ h=>by cases h) msgOnly_row_tie rfl ⟨rfl,rfl⟩ (by kernel_rfl) rfl
    (fun f fn hf hfn=>by
      obtain rfl : f = 3 := Option.some.inj ((show Tryd.prog.funcNamed "conciliator/conciliatorlaw19.MsgOnly" = some 3 by kernel_rfl).symm.trans hf) |>.symm
      obtain rfl:fn=Tryd.f3:=(Option.some.inj (Tryd.func3.symm.trans hfn)).symm
      exact ⟨by kernel_rfl,fun j t ht=>by
        rw [Tryd.params3] at ht
        have h3:t=22:=by
          rcases j with _|j
          · simpa using ht.symm
          · simp at ht
        subst h3
        exact (show Tryd.prog.wantsStandIn 22=false by kernel_rfl)⟩)
    (by kernel_rfl)
#print axioms msgOnly_holds
end Go.Proofs.YthceefjafklcmaaDoor
