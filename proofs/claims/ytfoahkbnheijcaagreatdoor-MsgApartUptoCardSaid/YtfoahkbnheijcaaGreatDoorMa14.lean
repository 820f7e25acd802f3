/-
  Contracts of the functions that the law reaches: val.Deep: of a value in memory it is the.
-/
import Derived.Test.YtfoahkbnheijcaaGreatDoorMa13
namespace Go.Proofs.YtfoahkbnheijcaaGreatDoor
open Go.RowKit Go.Shelf
set_option maxHeartbeats 4000000
attribute [local go_sem] Oper.semAt_some
def VDeep (v:V):Prop:=v.weight<=4611686018427387904->∀(w:World) (c:VC),IsVal w w.heap.size v c->
    Calls Tryz.prog 71 #[.agg #[.int .u8 c.k, .int .i64 c.n, .string c.s, .slice c.la c.ll c.lc, .slice c.oa c.ol c.oc]] w fun e w'=>e= .returned (.int .i64 v.deep)/\Below w.heap.size w w'
theorem zeb {w:World} {P:V->Prop} (pre:List (Kid w P)) (x:Kid w P):((deepO ((pre++ [x]).map Kid.pair):Nat):Int)=max ((deepO (pre.map Kid.pair):Nat):Int) ((x.v.deep:Int)+1):=by
 rw [List.map_append,za3];simp only [List.map_cons,List.map_nil,deepO,Qm,Kid.pair];omega
theorem ziy (l:List V) (o:List (ByteArray×V)):deepO (pairs l o)=max (deepL l) (deepO o):=by
 unfold pairs
 rw [za3]
 congr 1
 induction l with
 |nil=>rfl
 |cons v r ih=>simp only [List.map_cons,deepO,Qm,deepL,ih]
set_option maxRecDepth 100000 in
theorem zez (a:V):VDeep a:=by
 induction a using V.ind with
 |h k n s l o ihl iho=>
 intro hw w c ha
 obtain ⟨rfl,rfl,rfl,cbd,hl,ho⟩:=ha.lists
 have hw0:1+c.s.size+weightL l+weightO o<=4611686018427387904:=by simpa only [V.weight] using hw
 obtain ⟨ks,hks,hpr⟩:=zbm w (fun v=>VDeep v/\v.weight<=4611686018427387904) l o c hl ho
  (fun v hv=>⟨ihl v hv,by obtain ⟨i,hi,rfl⟩:=List.getElem_of_mem hv;have:=Qk l i hi;omega⟩)
  (fun f hf=>⟨iho f hf,by obtain ⟨i,hi,rfl⟩:=List.getElem_of_mem hf;have:=X3 o i hi;omega⟩)
 clear ihl iho ha hl ho
 have c5:=cbd.s1
 refine callsIn_wide (n:=3)|>.1 ?_
 refine callsIn_of_wp_marks Tryz.func71 rfl trivial ?_ rfl
 simp only [Tryz.ntmps71,List.size_toArray,List.length_cons,List.length_nil,Nat.reduceAdd,Nat.reduceSub,Array.replicate_succ,Array.replicate_zero,List.push_toArray,List.append_toArray,List.nil_append,List.cons_append]
 gi_wp2_with (refine ⟨trivial, ?_⟩;gi_at_call 122;refine (zbn _ _ trivial rfl c _).mono ?_;rintro e w' ⟨rfl,rfl⟩)
 obtain ⟨W0,hW0⟩:∃W0,(((w.alloc (.cells #[.int .u8 c.k, .int .i64 c.n, .string c.s, .slice c.la c.ll c.lc, .slice c.oa c.ol c.oc] 41)).alloc (.cells #[.int .i64 0] 3)).alloc (.cells #[.int .u8 c.k, .int .i64 c.n, .string c.s, .slice c.la c.ll c.lc, .slice c.oa c.ol c.oc] 41))=W0:=⟨_,rfl⟩
 have hB0:Below w.heap.size w W0:=by rw [<-hW0];exact (((Below.refl _ _).alloc (Nat.le_refl _) _).alloc (by simp) _).alloc (by simp;omega) _
 have hsz:W0.heap.size=w.heap.size+3:=by rw [<-hW0];simp
 have hbx:ValAt W0 (w.heap.size+1+1) 0 c:=by
  rw [<-hW0]
  have h:=Yi ((w.alloc (.cells #[.int .u8 c.k, .int .i64 c.n, .string c.s, .slice c.la c.ll c.lc, .slice c.oa c.ol c.oc] 41)).alloc (.cells #[.int .i64 0] 3)) c 41
  simp only [World.size_alloc] at h
  exact h
 have hn:Boxed W0 (w.heap.size+1) 3 (.int .i64 0):=by
  rw [<-hW0]
  have h:=Boxed.new (w.alloc (.cells #[.int .u8 c.k, .int .i64 c.n, .string c.s, .slice c.la c.ll c.lc, .slice c.oa c.ol c.oc] 41)) 3 (.int .i64 0)
  rw [World.size_alloc] at h
  exact h.alloc _
 rw [hW0]
 clear hW0
 refine wpIn_rangeFunc_ownH (α:=Kid w (fun v=>VDeep v/\v.weight<=4611686018427387904)) rfl (by omega) (gf:=169) (lb:= #[.pointer (some ⟨w.heap.size+1+1,0,none⟩)]) rfl trivial (enters_of Tryz.func169 (by kernel_rfl) rfl)
  (zam Fence.wide 2 trivial rfl (by omega) w (fun v=>VDeep v/\v.weight<=4611686018427387904) (w.heap.size+1+1) c cbd ks W0 w.heap.size (by omega) (by omega) hbx (hks.keep (.of_below_any hB0))) za2 (za5 (by omega) (by omega)) (Below.refl _ _) (fun _=>rfl)
  (fun pre W=>(Boxed W (w.heap.size+1) 3 (.int .i64 ((deepO (pre.map Kid.pair):Nat):Int)))/\Below w.heap.size w W/\W0.heap.size<=W.heap.size)
  (fun _ _ _=>False)
  (OwnFrom.and (Own.from (boxed_own _ _ _) _) (OwnFrom.and (ownFrom_below (Nat.le_refl _) (by omega)) (fun _ _ _ _ hs hg _=>Nat.le_trans hs hg.size)))
  (fun _ _ _ _ _ hs _ _=>hs)
  ⟨by simp only [List.map_nil,deepO];exact hn,hB0,Nat.le_refl _⟩
  (fun x a' W=>∃Bx,W0.heap.size<=Bx/\ValAt W Bx 0 x.kv/\a'= { tmps:= #[.agg #[.int .u8 c.k, .int .i64 c.n, .string c.s, .slice c.la c.ll c.lc, .slice c.oa c.ol c.oc], .pointer (some ⟨w.heap.size,0,none⟩), .int .i64 0, .pointer (some ⟨w.heap.size+1,0,none⟩),undef, .pointer (some ⟨Bx,0,none⟩), .agg #[.int .u8 c.k, .int .i64 c.n, .string c.s, .slice c.la c.ll c.lc, .slice c.oa c.ol c.oc], .func (.func 169) #[] #[.pointer (some ⟨w.heap.size+1+1,0,none⟩)], .string x.kk, .agg #[.int .u8 x.kv.k, .int .i64 x.kv.n, .string x.kv.s, .slice x.kv.la x.kv.ll x.kv.lc, .slice x.kv.oa x.kv.ol x.kv.oc],undef,undef,undef,undef,undef,undef],defers:= [] })
  (fun x a' _ X Y row hs hg hr=>by
   obtain ⟨Bx,h1,h2,h3⟩:=hs
   exact ⟨Bx,h1,ValAt.own (β:=Unit) Bx 0 (fun _=>x.kv) () X Y row h2 hg (fun r e=>(hr r e).2),h3⟩)
  ?assign ?body ?done ?stop
 case assign=>
  rintro l pre x W K ⟨bS1,hB1,hz1⟩ hK
  dsimp only [Kid.encs]
  gi_wp2
  exact hK _ _ ((KeepsOthers.alloc _ _).from _) (KeepAt.alloc W _ (by omega) (by omega)) ⟨bS1.alloc _,hB1.alloc hB1.size _,by simp;omega⟩ ⟨W.heap.size,hz1,Yi W x.kv _,rfl⟩
 case body=>
  rintro l pre x a' W hl _ ⟨bS1,hB1,hz1⟩ ⟨Bx,hBx,vX,rfl⟩ hlt
  have cS:=bS1.cell
  have fS:=bS1.frozen
  have r0:W.cell? ⟨Bx,0,none⟩=some (.int .u8 x.kv.k):=vX.c0
  have r1:W.cell? ⟨Bx,1,none⟩=some (.int .i64 x.kv.n):=vX.c1
  have r2:W.cell? ⟨Bx,2,none⟩=some (.string x.kv.s):=vX.c2
  have r3:W.cell? ⟨Bx,3,none⟩=some (.slice x.kv.la x.kv.ll x.kv.lc):=vX.c3
  have r4:W.cell? ⟨Bx,4,none⟩=some (.slice x.kv.oa x.kv.ol x.kv.oc):=vX.c4
  have hmx:Tryz.prog.follows .mixedOrders=true:=by kernel_rfl
  have hcal:=fun (W':World) (h:Below w.heap.size w W')=>x.p.1 x.p.2 W' x.kv (x.is.later_ h)
  have HC:=qh hcal
  clear hcal vX
  have hd1:=V.deep_lt x.v
  have hd2:=x.p.2
  have e1:IntKind.i64.wrap ((x.v.deep:Int)+1)=(x.v.deep:Int)+1:=IntWalk.i64_in _ (by omega)
  gi_wp2
  gi_region_with_o (refine ⟨trivial, ?_⟩;gi_at_call 71;refine (CallsIn.inRound l (callsIn_wide.2 (HC.out _ hB1.drew))).mono ?_;rintro e w' ⟨rfl,hb⟩;have cS':=(hb.cell (p:=⟨w.heap.size+1,0,none⟩) (by exact bS1.lt)).trans cS;have fS':=(hb.frozen (p:=⟨w.heap.size+1,0,none⟩) (by exact bS1.lt)).trans fS)
  all_goals gi_wp2
  all_goals
   have hb':=(Below.refl W.heap.size W).drew.trans hb
   have hbx':Boxed w' (w.heap.size+1) 3 _:=(hb'.block _ bS1.lt).trans bS1
   exact ⟨((Qz hb').trans (KeepsOthers.setCell _ _ _)).from _,(KeepAt.of_below hb' (by omega) (by omega)).trans (KeepAt.setCell _ _ (by simp) (by simp)),by first|(rw [Je (show ((deepO ((pre++ [x]).map Kid.pair):Nat):Int)=((deepO (pre.map Kid.pair):Nat):Int) from by rw [zeb];omega)];exact hbx'.set _)|(rw [Je (show ((deepO ((pre++ [x]).map Kid.pair):Nat):Int)=(x.v.deep:Int)+1 from by rw [zeb];omega)];exact hbx'.set _),(hB1.on hb' hB1.size).setCell (by simp) _,by have:=hb'.size;simp [World.setCell];omega⟩
 case done=>
  rintro D ys W hD rfl ⟨bS,hB,hz1⟩ hK
  have cS:=bS.cell
  gi_wp2
  refine ⟨by simp, .inl ⟨_,_,rfl,run_takeDeferred hK, ?_⟩⟩
  refine ⟨_,results_tmp (t:=2) rfl _ _ _, ?_,hB.trans ((Below.refl _ _).grown (grownBy_putObj' _ D _) hB.size (fun k e=>by cases e;omega))⟩
  show Ending.returned (.int .i64 ((deepO (pairs l o):Nat):Int))=_
  exact K6 (by simp only [ziy,V.deep])
 case stop=>
  rintro D c' pre W _ _ h _
  exact h.elim
end Go.Proofs.YtfoahkbnheijcaaGreatDoor
