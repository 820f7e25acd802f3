/-
  Contracts of the functions that the law reaches: reader.comp: what stands in memory while.
-/
import Derived.Test.YtnjgbiachcfigaaGreatDoorCt9
namespace Go.Proofs.YtnjgbiachcfigaaGreatDoor
open Go.RowKit
def scells (s:St):List Value:= [.bool s.list, .int .i64 s.i, .string s.key]
def czero:CC:=⟨0,none,0,0, .empty,0,0,0,vzero, .empty⟩
def ccells (c:CC):List Value:= [.int .u8 c.k, .slice c.pa c.pl c.pc, .string c.key, .int .i64 c.i, .int .i64 c.j, .int .i64 c.n, .int .u8 c.v.k, .int .i64 c.v.n, .string c.v.s, .slice c.v.la c.v.ll c.v.lc, .slice c.v.oa c.v.ol c.v.oc, .string c.s]
def ezero:EC:=⟨0,0,0,vzero,none,0,0⟩
def ecells (c:EC):List Value:= [.int .u8 c.k, .int .u32 c.src, .int .u32 c.seq, .int .u8 c.v.k, .int .i64 c.v.n, .string c.v.s, .slice c.v.la c.v.ll c.v.lc, .slice c.v.oa c.v.ol c.v.oc, .slice c.oa c.ol c.oc]
structure EB (w W:World) (rb eb:Nat) (r:List UInt8) (v:V) (l:List Cm) (c:EC):Prop where
 rdr:Rdr W rb r 0
 st:RStep w W rb
 res:BC W w.heap.size (ecells ezero)
 box:BC W eb (ecells c)
 val:IsVal (only (fun b=>eb+1<=b) W) W.heap.size v c.v
 ops:IsComps (only (fun b=>eb+1<=b) W) W.heap.size l c.oa c.ol c.oc
 lo:w.heap.size+1<=eb
 lt:rb<w.heap.size
end Go.Proofs.YtnjgbiachcfigaaGreatDoor
namespace Go.Proofs.YtnjgbiachcfigaaGreatDoor
open Go.RowKit Go.Shelf
set_option maxHeartbeats 4000000
attribute [local go_sem] Oper.semAt_some
def VWeight (v:V):Prop:=v.weight<=4611686018427387904->∀(w:World) (c:VC),IsVal w w.heap.size v c->
    Calls Tryz.prog 58 #[.agg #[.int .u8 c.k, .int .i64 c.n, .string c.s, .slice c.la c.ll c.lc, .slice c.oa c.ol c.oc]] w fun e w'=>e= .returned (.int .i64 v.weight)/\Below w.heap.size w w'
theorem ValAt.own {β:Type} (b o:Nat) (c:β->VC):Own (fun (x:β) W=>ValAt W b o (c x)):=
 fun _ _ _ _ hs hg hr=>⟨cell_kept hs.c0 hg hr,cell_kept hs.c1 hg hr,cell_kept hs.c2 hg hr,cell_kept hs.c3 hg hr,cell_kept hs.c4 hg hr⟩
theorem Xz {W W':World} (h:Below W.heap.size W W'):KeepsOthers W W':=
 ⟨h.size,fun k _ hk _=>(h.block k (Array.getElem?_eq_some_iff.1 hk).1).trans hk⟩
theorem zem {w:World} {P:V->Prop} (pre:List (Kid w P)) (x:Kid w P):weightO ((pre++ [x]).map Kid.pair)=weightO (pre.map Kid.pair)+(x.kk.size+x.v.weight):=by
 rw [List.map_append,Q4];simp [weightO,Xn,Kid.pair]
theorem wsum (d a b c:Int) (hd:d=a+(b+c)):wrap64 d=IntKind.i64.wrap (wrap64 a+IntKind.i64.wrap (b+c)):=by
 subst hd
 simp only [IntKind.wrap_i64,wrap64]
 omega
theorem zcl {x:Int} (h0: -9223372036854775808<=x) (h1:x<=9223372036854775807):wrap64 x=x:=by unfold wrap64;omega
theorem zhm (l:List V) (o:List (ByteArray×V)):weightO (pairs l o)=weightL l+weightO o:=by
 unfold pairs
 rw [Q4]
 congr 1
 induction l with
 |nil=>rfl
 |cons v r ih=>simp only [List.map_cons,weightO,Xn,weightL,ih];simp [ByteArray.size]
set_option maxRecDepth 100000 in
theorem zkj (a:V):VWeight a:=by
 induction a using V.ind with
 |h k n s l o ihl iho=>
 intro hw w c ha
 obtain ⟨rfl,rfl,rfl,cbd,hl,ho⟩:=ha.lists
 have hw0:1+c.s.size+weightL l+weightO o<=4611686018427387904:=by simpa only [V.weight] using hw
 obtain ⟨ks,hks,hpr⟩:=Kb w (fun v=>VWeight v/\v.weight<=4611686018427387904) l o c hl ho
  (fun v hv=>⟨ihl v hv,by obtain ⟨i,hi,rfl⟩:=List.getElem_of_mem hv;have:=Qh l i hi;omega⟩)
  (fun f hf=>⟨iho f hf,by obtain ⟨i,hi,rfl⟩:=List.getElem_of_mem hf;have:=Qi o i hi;omega⟩)
 clear ihl iho ha hl ho
 have c5:=cbd.s1
 refine callsIn_wide (n:=3)|>.1 ?_
 refine callsIn_of_wp_marks Tryz.func58 rfl trivial ?_ rfl
 simp only [Tryz.ntmps58,List.size_toArray,List.length_cons,List.length_nil,Nat.reduceAdd,Nat.reduceSub,Array.replicate_succ,Array.replicate_zero,List.push_toArray,List.append_toArray,List.nil_append,List.cons_append]
 gi_wp2_with (refine ⟨trivial, ?_⟩;gi_at_call 97;refine (Ju _ _ trivial rfl c _).mono ?_;rintro e w' ⟨rfl,rfl⟩)
 obtain ⟨W0,hW0⟩:∃W0,(((w.alloc (.cells #[.int .u8 c.k, .int .i64 c.n, .string c.s, .slice c.la c.ll c.lc, .slice c.oa c.ol c.oc] 36)).alloc (.cells #[.int .i64 (1+(c.s.size:Int))] 3)).alloc (.cells #[.int .u8 c.k, .int .i64 c.n, .string c.s, .slice c.la c.ll c.lc, .slice c.oa c.ol c.oc] 36))=W0:=⟨_,rfl⟩
 have hB0:Below w.heap.size w W0:=by rw [<-hW0];exact (((Below.refl _ _).alloc (Nat.le_refl _) _).alloc (by simp) _).alloc (by simp;omega) _
 have hsz:W0.heap.size=w.heap.size+3:=by rw [<-hW0];simp
 have hbx:ValAt W0 (w.heap.size+1+1) 0 c:=by
  rw [<-hW0]
  have h:=Ym ((w.alloc (.cells #[.int .u8 c.k, .int .i64 c.n, .string c.s, .slice c.la c.ll c.lc, .slice c.oa c.ol c.oc] 36)).alloc (.cells #[.int .i64 (1+(c.s.size:Int))] 3)) c 36
  simp only [World.size_alloc] at h
  exact h
 have hn:Boxed W0 (w.heap.size+1) 3 (.int .i64 (1+(c.s.size:Int))):=by
  rw [<-hW0]
  have h:=Boxed.new (w.alloc (.cells #[.int .u8 c.k, .int .i64 c.n, .string c.s, .slice c.la c.ll c.lc, .slice c.oa c.ol c.oc] 36)) 3 (.int .i64 (1+(c.s.size:Int)))
  rw [World.size_alloc] at h
  exact h.alloc _
 rw [hW0]
 clear hW0
 refine wpIn_rangeFunc_ownH (α:=Kid w (fun v=>VWeight v/\v.weight<=4611686018427387904)) rfl (by omega) (gf:=131) (lb:= #[.pointer (some ⟨w.heap.size+1+1,0,none⟩)]) rfl trivial (enters_of Tryz.func131 (by kernel_rfl) rfl)
  (Kc Fence.wide 2 trivial rfl (by omega) w (fun v=>VWeight v/\v.weight<=4611686018427387904) (w.heap.size+1+1) c cbd ks W0 w.heap.size (by omega) (by omega) hbx (hks.keep (.of_below_any hB0))) Ka (J7 (by omega) (by omega)) (Below.refl _ _) (fun _=>rfl)
  (fun pre W=>(Boxed W (w.heap.size+1) 3 (.int .i64 (wrap64 ((1+c.s.size+weightO (pre.map Kid.pair):Nat):Int))))/\Below w.heap.size w W/\W0.heap.size<=W.heap.size)
  (fun _ _ _=>False)
  (OwnFrom.and (Own.from (boxed_own _ _ _) _) (OwnFrom.and (ownFrom_below (Nat.le_refl _) (by omega)) (fun _ _ _ _ hs hg _=>Nat.le_trans hs hg.size)))
  (fun _ _ _ _ _ hs _ _=>hs)
  ⟨by simp only [List.map_nil,weightO,Nat.add_zero];rw [zcl (by omega) (by omega)];simp only [Int.natCast_add,Int.natCast_one];exact hn,hB0,Nat.le_refl _⟩
  (fun x a' W=>∃Bx,W0.heap.size<=Bx/\ValAt W Bx 0 x.kv/\a'= { tmps:= #[.agg #[.int .u8 c.k, .int .i64 c.n, .string c.s, .slice c.la c.ll c.lc, .slice c.oa c.ol c.oc], .pointer (some ⟨w.heap.size,0,none⟩), .int .i64 0, .pointer (some ⟨w.heap.size+1,0,none⟩), .string x.kk, .pointer (some ⟨Bx,0,none⟩), .pointer (some ⟨w.heap.size,2,none⟩), .string c.s, .int .i64 (c.s.size:Int), .int .i64 (1+(c.s.size:Int)), .agg #[.int .u8 c.k, .int .i64 c.n, .string c.s, .slice c.la c.ll c.lc, .slice c.oa c.ol c.oc], .func (.func 131) #[] #[.pointer (some ⟨w.heap.size+1+1,0,none⟩)], .string x.kk, .agg #[.int .u8 x.kv.k, .int .i64 x.kv.n, .string x.kv.s, .slice x.kv.la x.kv.ll x.kv.lc, .slice x.kv.oa x.kv.ol x.kv.oc],undef,undef,undef,undef,undef,undef,undef,undef],defers:= [] })
  (fun x a' _ X Y row hs hg hr=>by
   obtain ⟨Bx,h1,h2,h3⟩:=hs
   exact ⟨Bx,h1,ValAt.own (β:=Unit) Bx 0 (fun _=>x.kv) () X Y row h2 hg (fun r e=>(hr r e).2),h3⟩)
  ?assign ?body ?done ?stop
 case assign=>
  rintro l pre x W K ⟨bS1,hB1,hz1⟩ hK
  dsimp only [Kid.encs]
  gi_wp2
  exact hK _ _ ((KeepsOthers.alloc _ _).from _) (KeepAt.alloc W _ (by omega) (by omega)) ⟨bS1.alloc _,hB1.alloc hB1.size _,by simp;omega⟩ ⟨W.heap.size,hz1,Ym W x.kv _,rfl⟩
 case body=>
  rintro l pre x a' W hl _ ⟨bS1,hB1,hz1⟩ ⟨Bx,hBx,vX,rfl⟩ hlt
  have cS:=bS1.cell
  have fS:=bS1.frozen
  have r0:W.cell? ⟨Bx,0,none⟩=some (.int .u8 x.kv.k):=vX.c0
  have r1:W.cell? ⟨Bx,1,none⟩=some (.int .i64 x.kv.n):=vX.c1
  have r2:W.cell? ⟨Bx,2,none⟩=some (.string x.kv.s):=vX.c2
  have r3:W.cell? ⟨Bx,3,none⟩=some (.slice x.kv.la x.kv.ll x.kv.lc):=vX.c3
  have r4:W.cell? ⟨Bx,4,none⟩=some (.slice x.kv.oa x.kv.ol x.kv.oc):=vX.c4
  have hmx:Tryz.prog.follows .mixedOrders=true:=by kernel_rfl
  have hcal:=fun (W':World) (h:Below w.heap.size w W')=>x.p.1 x.p.2 W' x.kv (x.is.later_ h)
  have HC:=qh hcal
  clear hcal vX
  gi_wp2
  gi_region_with_o (refine ⟨trivial, ?_⟩;gi_at_call 58;refine (CallsIn.inRound l (callsIn_wide.2 (HC.out _ hB1.drew))).mono ?_;rintro e w' ⟨rfl,hb⟩;have cS':=(hb.cell (p:=⟨w.heap.size+1,0,none⟩) (by exact bS1.lt)).trans cS;have fS':=(hb.frozen (p:=⟨w.heap.size+1,0,none⟩) (by exact bS1.lt)).trans fS)
  all_goals gi_wp2
  all_goals
   have hb':=(Below.refl W.heap.size W).drew.trans hb
   have hbx':Boxed w' (w.heap.size+1) 3 _:=(hb'.block _ bS1.lt).trans bS1
   exact ⟨((Xz hb').trans (KeepsOthers.setCell _ _ _)).from _,(KeepAt.of_below hb' (by omega) (by omega)).trans (KeepAt.setCell _ _ (by simp) (by simp)),by rw [X2 (wsum ((1+c.s.size+weightO (List.map Kid.pair (pre++ [x])):Nat):Int) (1+(c.s.size:Int)+(weightO (List.map Kid.pair pre):Int)) x.kk.size x.v.weight (by rw [zem];omega))];exact hbx'.set _,(hB1.on hb' hB1.size).setCell (by simp) _,by have:=hb'.size;simp [World.setCell];omega⟩
 case done=>
  rintro D ys W hD rfl ⟨bS,hB,hz1⟩ hK
  have cS:=bS.cell
  gi_wp2
  refine ⟨by simp, .inl ⟨_,_,rfl,run_takeDeferred hK, ?_⟩⟩
  refine ⟨_,results_tmp (t:=2) rfl _ _ _, ?_,hB.trans ((Below.refl _ _).grown (grownBy_putObj' _ D _) hB.size (fun k e=>by cases e;omega))⟩
  show Ending.returned (.int .i64 (wrap64 (1+(c.s.size:Int)+(weightO (pairs l o):Nat))))=_
  exact Qz (by simp only [zhm,V.weight];rw [zcl (by omega) (by omega)];omega)
 case stop=>
  rintro D c' pre W _ _ h _
  exact h.elim
attribute [local go_sem] Oper.semAt_some
def VDeep (v:V):Prop:=v.weight<=4611686018427387904->∀(w:World) (c:VC),IsVal w w.heap.size v c->
    Calls Tryz.prog 57 #[.agg #[.int .u8 c.k, .int .i64 c.n, .string c.s, .slice c.la c.ll c.lc, .slice c.oa c.ol c.oc]] w fun e w'=>e= .returned (.int .i64 v.deep)/\Below w.heap.size w w'
theorem zao {w:World} {P:V->Prop} (pre:List (Kid w P)) (x:Kid w P):((deepO ((pre++ [x]).map Kid.pair):Nat):Int)=max ((deepO (pre.map Kid.pair):Nat):Int) ((x.v.deep:Int)+1):=by
 rw [List.map_append,Jz];simp only [List.map_cons,List.map_nil,deepO,Qp,Kid.pair];omega
theorem zc5 (l:List V) (o:List (ByteArray×V)):deepO (pairs l o)=max (deepL l) (deepO o):=by
 unfold pairs
 rw [Jz]
 congr 1
 induction l with
 |nil=>rfl
 |cons v r ih=>simp only [List.map_cons,deepO,Qp,deepL,ih]
set_option maxRecDepth 100000 in
theorem zc4 (a:V):VDeep a:=by
 induction a using V.ind with
 |h k n s l o ihl iho=>
 intro hw w c ha
 obtain ⟨rfl,rfl,rfl,cbd,hl,ho⟩:=ha.lists
 have hw0:1+c.s.size+weightL l+weightO o<=4611686018427387904:=by simpa only [V.weight] using hw
 obtain ⟨ks,hks,hpr⟩:=Kb w (fun v=>VDeep v/\v.weight<=4611686018427387904) l o c hl ho
  (fun v hv=>⟨ihl v hv,by obtain ⟨i,hi,rfl⟩:=List.getElem_of_mem hv;have:=Qh l i hi;omega⟩)
  (fun f hf=>⟨iho f hf,by obtain ⟨i,hi,rfl⟩:=List.getElem_of_mem hf;have:=Qi o i hi;omega⟩)
 clear ihl iho ha hl ho
 have c5:=cbd.s1
 refine callsIn_wide (n:=3)|>.1 ?_
 refine callsIn_of_wp_marks Tryz.func57 rfl trivial ?_ rfl
 simp only [Tryz.ntmps57,List.size_toArray,List.length_cons,List.length_nil,Nat.reduceAdd,Nat.reduceSub,Array.replicate_succ,Array.replicate_zero,List.push_toArray,List.append_toArray,List.nil_append,List.cons_append]
 gi_wp2_with (refine ⟨trivial, ?_⟩;gi_at_call 97;refine (Ju _ _ trivial rfl c _).mono ?_;rintro e w' ⟨rfl,rfl⟩)
 obtain ⟨W0,hW0⟩:∃W0,(((w.alloc (.cells #[.int .u8 c.k, .int .i64 c.n, .string c.s, .slice c.la c.ll c.lc, .slice c.oa c.ol c.oc] 36)).alloc (.cells #[.int .i64 0] 3)).alloc (.cells #[.int .u8 c.k, .int .i64 c.n, .string c.s, .slice c.la c.ll c.lc, .slice c.oa c.ol c.oc] 36))=W0:=⟨_,rfl⟩
 have hB0:Below w.heap.size w W0:=by rw [<-hW0];exact (((Below.refl _ _).alloc (Nat.le_refl _) _).alloc (by simp) _).alloc (by simp;omega) _
 have hsz:W0.heap.size=w.heap.size+3:=by rw [<-hW0];simp
 have hbx:ValAt W0 (w.heap.size+1+1) 0 c:=by
  rw [<-hW0]
  have h:=Ym ((w.alloc (.cells #[.int .u8 c.k, .int .i64 c.n, .string c.s, .slice c.la c.ll c.lc, .slice c.oa c.ol c.oc] 36)).alloc (.cells #[.int .i64 0] 3)) c 36
  simp only [World.size_alloc] at h
  exact h
 have hn:Boxed W0 (w.heap.size+1) 3 (.int .i64 0):=by
  rw [<-hW0]
  have h:=Boxed.new (w.alloc (.cells #[.int .u8 c.k, .int .i64 c.n, .string c.s, .slice c.la c.ll c.lc, .slice c.oa c.ol c.oc] 36)) 3 (.int .i64 0)
  rw [World.size_alloc] at h
  exact h.alloc _
 rw [hW0]
 clear hW0
 refine wpIn_rangeFunc_ownH (α:=Kid w (fun v=>VDeep v/\v.weight<=4611686018427387904)) rfl (by omega) (gf:=131) (lb:= #[.pointer (some ⟨w.heap.size+1+1,0,none⟩)]) rfl trivial (enters_of Tryz.func131 (by kernel_rfl) rfl)
  (Kc Fence.wide 2 trivial rfl (by omega) w (fun v=>VDeep v/\v.weight<=4611686018427387904) (w.heap.size+1+1) c cbd ks W0 w.heap.size (by omega) (by omega) hbx (hks.keep (.of_below_any hB0))) Ka (J7 (by omega) (by omega)) (Below.refl _ _) (fun _=>rfl)
  (fun pre W=>(Boxed W (w.heap.size+1) 3 (.int .i64 ((deepO (pre.map Kid.pair):Nat):Int)))/\Below w.heap.size w W/\W0.heap.size<=W.heap.size)
  (fun _ _ _=>False)
  (OwnFrom.and (Own.from (boxed_own _ _ _) _) (OwnFrom.and (ownFrom_below (Nat.le_refl _) (by omega)) (fun _ _ _ _ hs hg _=>Nat.le_trans hs hg.size)))
  (fun _ _ _ _ _ hs _ _=>hs)
  ⟨by simp only [List.map_nil,deepO];exact hn,hB0,Nat.le_refl _⟩
  (fun x a' W=>∃Bx,W0.heap.size<=Bx/\ValAt W Bx 0 x.kv/\a'= { tmps:= #[.agg #[.int .u8 c.k, .int .i64 c.n, .string c.s, .slice c.la c.ll c.lc, .slice c.oa c.ol c.oc], .pointer (some ⟨w.heap.size,0,none⟩), .int .i64 0, .pointer (some ⟨w.heap.size+1,0,none⟩),undef, .pointer (some ⟨Bx,0,none⟩), .agg #[.int .u8 c.k, .int .i64 c.n, .string c.s, .slice c.la c.ll c.lc, .slice c.oa c.ol c.oc], .func (.func 131) #[] #[.pointer (some ⟨w.heap.size+1+1,0,none⟩)], .string x.kk, .agg #[.int .u8 x.kv.k, .int .i64 x.kv.n, .string x.kv.s, .slice x.kv.la x.kv.ll x.kv.lc, .slice x.kv.oa x.kv.ol x.kv.oc],undef,undef,undef,undef,undef,undef],defers:= [] })
  (fun x a' _ X Y row hs hg hr=>by
   obtain ⟨Bx,h1,h2,h3⟩:=hs
   exact ⟨Bx,h1,ValAt.own (β:=Unit) Bx 0 (fun _=>x.kv) () X Y row h2 hg (fun r e=>(hr r e).2),h3⟩)
  ?assign ?body ?done ?stop
 case assign=>
  rintro l pre x W K ⟨bS1,hB1,hz1⟩ hK
  dsimp only [Kid.encs]
  gi_wp2
  exact hK _ _ ((KeepsOthers.alloc _ _).from _) (KeepAt.alloc W _ (by omega) (by omega)) ⟨bS1.alloc _,hB1.alloc hB1.size _,by simp;omega⟩ ⟨W.heap.size,hz1,Ym W x.kv _,rfl⟩
 case body=>
  rintro l pre x a' W hl _ ⟨bS1,hB1,hz1⟩ ⟨Bx,hBx,vX,rfl⟩ hlt
  have cS:=bS1.cell
  have fS:=bS1.frozen
  have r0:W.cell? ⟨Bx,0,none⟩=some (.int .u8 x.kv.k):=vX.c0
  have r1:W.cell? ⟨Bx,1,none⟩=some (.int .i64 x.kv.n):=vX.c1
  have r2:W.cell? ⟨Bx,2,none⟩=some (.string x.kv.s):=vX.c2
  have r3:W.cell? ⟨Bx,3,none⟩=some (.slice x.kv.la x.kv.ll x.kv.lc):=vX.c3
  have r4:W.cell? ⟨Bx,4,none⟩=some (.slice x.kv.oa x.kv.ol x.kv.oc):=vX.c4
  have hmx:Tryz.prog.follows .mixedOrders=true:=by kernel_rfl
  have hcal:=fun (W':World) (h:Below w.heap.size w W')=>x.p.1 x.p.2 W' x.kv (x.is.later_ h)
  have HC:=qh hcal
  clear hcal vX
  have hd1:=V.deep_lt x.v
  have hd2:=x.p.2
  have e1:IntKind.i64.wrap ((x.v.deep:Int)+1)=(x.v.deep:Int)+1:=IntWalk.i64_in _ (by omega)
  gi_wp2
  gi_region_with_o (refine ⟨trivial, ?_⟩;gi_at_call 57;refine (CallsIn.inRound l (callsIn_wide.2 (HC.out _ hB1.drew))).mono ?_;rintro e w' ⟨rfl,hb⟩;have cS':=(hb.cell (p:=⟨w.heap.size+1,0,none⟩) (by exact bS1.lt)).trans cS;have fS':=(hb.frozen (p:=⟨w.heap.size+1,0,none⟩) (by exact bS1.lt)).trans fS)
  all_goals gi_wp2
  all_goals
   have hb':=(Below.refl W.heap.size W).drew.trans hb
   have hbx':Boxed w' (w.heap.size+1) 3 _:=(hb'.block _ bS1.lt).trans bS1
   exact ⟨((Xz hb').trans (KeepsOthers.setCell _ _ _)).from _,(KeepAt.of_below hb' (by omega) (by omega)).trans (KeepAt.setCell _ _ (by simp) (by simp)),by first|(rw [X2 (show ((deepO ((pre++ [x]).map Kid.pair):Nat):Int)=((deepO (pre.map Kid.pair):Nat):Int) from by rw [zao];omega)];exact hbx'.set _)|(rw [X2 (show ((deepO ((pre++ [x]).map Kid.pair):Nat):Int)=(x.v.deep:Int)+1 from by rw [zao];omega)];exact hbx'.set _)|(rw [X2 (zao pre x)];exact hbx'.set _),(hB1.on hb' hB1.size).setCell (by simp) _,by have:=hb'.size;simp [World.setCell];omega⟩
 case done=>
  rintro D ys W hD rfl ⟨bS,hB,hz1⟩ hK
  have cS:=bS.cell
  gi_wp2
  refine ⟨by simp, .inl ⟨_,_,rfl,run_takeDeferred hK, ?_⟩⟩
  refine ⟨_,results_tmp (t:=2) rfl _ _ _, ?_,hB.trans ((Below.refl _ _).grown (grownBy_putObj' _ D _) hB.size (fun k e=>by cases e;omega))⟩
  show Ending.returned (.int .i64 ((deepO (pairs l o):Nat):Int))=_
  exact Qz (by simp only [zc5,V.deep])
 case stop=>
  rintro D c' pre W _ _ h _
  exact h.elim
end Go.Proofs.YtnjgbiachcfigaaGreatDoor
namespace Go.Proofs.YtnjgbiachcfigaaGreatDoor
open Go.RowKit
set_option maxHeartbeats 4000000
set_option maxRecDepth 100000 in
theorem zka (w:World) (B0:Nat) (hB0:B0<=w.heap.size) (key:ByteArray) (hks:key.size<=140737488355328) (x:V) (cx:VC) (hx:IsVal (only (fun k=>B0<=k) w) w.heap.size x cx):
 Calls Tryz.prog 72 #[.slice none 0 0, .string key, .agg #[.int .u8 cx.k, .int .i64 cx.n, .string cx.s, .slice cx.la cx.ll cx.lc, .slice cx.oa cx.ol cx.oc]] w (WithPost w B0 (withF [] key x)):=by
 obtain ⟨i0,hi0,hz0,hz1,hz2⟩:=info_parts Ya
 have HF:Hid (∀W,Below w.heap.size w W->Calls Tryz.prog 75 #[.agg #[.int .u8 0, .int .i64 0, .string { data:= #[] }, .slice none 0 0, .slice none 0 0], .string key] W fun e w'=>e= .returned (.tuple #[.int .i64 0, .bool false])/\Below W.heap.size W w'):=by
  intro W hW
  exact Yg W [] key 0 0 { data:= #[] } none 0 0 none 0 0 ⟨rfl,by omega,by omega,by omega,0,0,fun _=>vzero,fun h=>absurd h (by omega),fun i h=>absurd h (by simp)⟩
 have HBX:=qh (BC.start w #[.int .u8 cx.k, .int .i64 cx.n, .string cx.s, .slice cx.la cx.ll cx.lc, .slice cx.oa cx.ol cx.oc] 36)
 have HAL:=qh ((Below.refl _ _).alloc (Nat.le_refl _) (.cells #[.int .u8 cx.k, .int .i64 cx.n, .string cx.s, .slice cx.la cx.ll cx.lc, .slice cx.oa cx.ol cx.oc] 36):Below w.heap.size w _)
 have HX:=qh hx
 obtain ⟨R,hR⟩:∃R,WithPost w B0 (withF [] key x)=R:=⟨_,rfl⟩
 rw [hR]
 have HR:=qh hR
 clear hx hR
 go_enter Tryz.func72,Tryz.ntmps72
 go_wp2_with fail
 refine (HF.out _ HAL.out).mono ?_
 rintro e w1 ⟨rfl,hb1⟩
 have BX2:=HBX.out.keep hb1 (by simp)
 obtain ⟨x0,x1,x2,x3,x4⟩:=row5 BX2.at_
 have zs2:w.heap.size<w1.heap.size:=BX2.lt
 have HBL1:=qh (HAL.out.trans (hb1.mono (by simp)))
 have ho2:(w1.alloc (.cells #[.string key, .int .u8 cx.k, .int .i64 cx.n, .string cx.s, .slice cx.la cx.ll cx.lc, .slice cx.oa cx.ol cx.oc] 75)).ownsRow (w.heap.size+1) 75 6 (.slice none 0 0) 0 [] :=⟨rfl, .inl ⟨rfl,rfl⟩⟩
 have hnw:∀j u,(fcells (key,cx))[j]? =some u->(w1.alloc (.cells #[.string key, .int .u8 cx.k, .int .i64 cx.n, .string cx.s, .slice cx.la cx.ll cx.lc, .slice cx.oa cx.ol cx.oc] 75)).cell? ((⟨w1.heap.size,0,none⟩:Addr).add j)=some u:=World.news_of_block (t:=75) (fr:=(0,0)) (heap_alloc_new w1 (.cells #[.string key, .int .u8 cx.k, .int .i64 cx.n, .string cx.s, .slice cx.la cx.ll cx.lc, .slice cx.oa cx.ol cx.oc] 75))
 have HNW:=qh hnw
 clear hb1 BX2 hnw
 have ho1:w1.ownsRow (w.heap.size+1) 75 6 (.slice none 0 0) 0 [] :=⟨rfl, .inl ⟨rfl,rfl⟩⟩
 go_wp2_with (first
  |(at_builtin;refine J2 _ rfl (.tmp 17) (.tmp 20) 34 (by rfl) (w.heap.size+1) 75 i0 6 Tryz.underlying34 hi0 (.slice none 0 0) 0 [] (by rfl) ho1 (by rfl) ?_)
  |(at_builtin;refine wpList_append_own _ rfl (.tmp 22) (.tmp 26) 34 (by rfl) (w.heap.size+1) 75 i0 _ 6 96 Tryz.underlying34 hi0 hz0 hz1 hz2 rfl (by omega) (.slice none 0 0) 0 [] (by rfl) ho2 ⟨w1.heap.size,0,none⟩ 1 1 (fcells (key,cx)) (by rfl) (by rfl) HNW.out (Xg key cx) (by unfold maxLen;omega) (by omega) (by simp;omega) ?_;intro v2 w4 hown2 hgrow2 _;have b24:Below (w.heap.size+1) w1 w4:=(((Below.refl w1.heap.size w1).alloc (Nat.le_refl _) (.cells #[.string key, .int .u8 cx.k, .int .i64 cx.n, .string cx.s, .slice cx.la cx.ll cx.lc, .slice cx.oa cx.ol cx.oc] 75)).mono (by omega)).trans (Zj hgrow2 (fun k hk=>by simp [Value.ownBlock] at hk) (by simp;omega));have HBL4:=qh (HBL1.out.trans (b24.mono (by omega)));have zs4:w.heap.size<w4.heap.size:=Nat.lt_of_lt_of_le zs2 b24.size;have HO2:=qh hown2;clear hgrow2 b24 hown2)
  |(at_builtin;refine J2 _ rfl (.tmp 31) (.tmp 34) 34 (by rfl) (w.heap.size+1) 75 i0 6 Tryz.underlying34 hi0 v2 (0+1) ([] ++fcells (key,cx)) (by rfl) HO2.out (by rfl) ?_))
 rw [<-HR.out]
 have hown:=HO2.out
 have hcat: [] ++fcells (key,cx)= [(key,cx)].flatMap fcells:=by simp
 rw [hcat] at hown
 have hlt3:=hown.lt
 have hsh:Shows (only (fun k=>B0<=k) w) (only (Free B0 v2) w4) w.heap.size:=Ze fun q hq hl=>⟨⟨hq,fun e=>by have:=(hlt3 q e.symm).1;omega⟩,HBL4.out.block q hl⟩
 obtain ⟨a,n,c,hv,hf,hz⟩:=Qf (l:= [(key,x)]) (B0:=B0) (B1:=w.heap.size+1) hown (by omega) rfl
  (fun i _ hi=>by
   obtain rfl:i=0:=by simpa using hi
   exact ⟨rfl,hks,(HX.out.sub hsh).more HBL4.out.size⟩) (by simp)
 exact ⟨⟨a,n,c,by rw [hv],hf,hz⟩,HBL4.out⟩
end Go.Proofs.YtnjgbiachcfigaaGreatDoor
