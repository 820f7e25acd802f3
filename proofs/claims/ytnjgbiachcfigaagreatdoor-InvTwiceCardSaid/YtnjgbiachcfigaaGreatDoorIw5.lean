/-
  Contracts of the functions that the law reaches: val.Weight: of a value in memory it is.
-/
import Derived.Test.YtnjgbiachcfigaaGreatDoorIw4
namespace Go.Proofs.YtnjgbiachcfigaaGreatDoor
open Go.RowKit Go.Shelf
set_option maxHeartbeats 4000000
attribute [local go_sem] Oper.semAt_some
set_option maxRecDepth 100000 in
theorem zid (a:V):VWeight a:=by
 induction a using V.ind with
 |h k n s l o ihl iho=>
 intro hw w c ha
 obtain ⟨rfl,rfl,rfl,cbd,hl,ho⟩:=ha.lists
 have hw0:1+c.s.size+weightL l+weightO o<=4611686018427387904:=by simpa only [V.weight] using hw
 obtain ⟨ks,hks,hpr⟩:=zao w (fun v=>VWeight v/\v.weight<=4611686018427387904) l o c hl ho
  (fun v hv=>⟨ihl v hv,by obtain ⟨i,hi,rfl⟩:=List.getElem_of_mem hv;have:=Qf l i hi;omega⟩)
  (fun f hf=>⟨iho f hf,by obtain ⟨i,hi,rfl⟩:=List.getElem_of_mem hf;have:=Qv o i hi;omega⟩)
 clear ihl iho ha hl ho
 have c5:=cbd.s1
 refine callsIn_wide (n:=3)|>.1 ?_
 refine callsIn_of_wp_marks Tryz.func58 rfl trivial ?_ rfl
 simp only [Tryz.ntmps58,List.size_toArray,List.length_cons,List.length_nil,Nat.reduceAdd,Nat.reduceSub,Array.replicate_succ,Array.replicate_zero,List.push_toArray,List.append_toArray,List.nil_append,List.cons_append]
 gi_wp2_with (refine ⟨trivial, ?_⟩;gi_at_call 97;refine (zad _ _ trivial rfl c _).mono ?_;rintro e w' ⟨rfl,rfl⟩)
 obtain ⟨W0,hW0⟩:∃W0,(((w.alloc (.cells (uV c) 36)).alloc (.cells #[.int .i64 (1+(c.s.size:Int))] 3)).alloc (.cells (uV c) 36))=W0:=⟨_,rfl⟩
 have hB0:uB w W0:=by rw [<-hW0];exact (((Below.refl _ _).alloc (Nat.le_refl _) _).alloc (by simp) _).alloc (by simp;omega) _
 have hsz:W0.heap.size=w.heap.size+3:=by rw [<-hW0];simp
 have hbx:ValAt W0 (w.heap.size+1+1) 0 c:=by
  rw [<-hW0]
  have h:=Y9 ((w.alloc (.cells (uV c) 36)).alloc (.cells #[.int .i64 (1+(c.s.size:Int))] 3)) c 36
  simp only [World.size_alloc] at h
  exact h
 have hn:Boxed W0 (w.heap.size+1) 3 (.int .i64 (1+(c.s.size:Int))):=by
  rw [<-hW0]
  have h:=Boxed.new (w.alloc (.cells (uV c) 36)) 3 (.int .i64 (1+(c.s.size:Int)))
  rw [World.size_alloc] at h
  exact h.alloc _
 rw [hW0]
 clear hW0
 refine wpIn_rangeFunc_ownH (α:=Kid w (fun v=>VWeight v/\v.weight<=4611686018427387904)) rfl (by omega) (gf:=131) (lb:= #[.pointer (some ⟨w.heap.size+1+1,0,none⟩)]) rfl trivial (enters_of Tryz.func131 (by kernel_rfl) rfl)
  (zau Fence.wide 2 trivial rfl (by omega) w (fun v=>VWeight v/\v.weight<=4611686018427387904) (w.heap.size+1+1) c cbd ks W0 w.heap.size (by omega) (by omega) hbx (hks.keep (.of_below_any hB0))) zbl (zat (by omega) (by omega)) (Below.refl _ _) (fun _=>rfl)
  (fun pre W=>(Boxed W (w.heap.size+1) 3 (.int .i64 (wrap64 ((1+c.s.size+weightO (pre.map Kid.pair):Nat):Int))))/\uB w W/\W0.heap.size<=W.heap.size)
  (fun _ _ _=>False)
  (OwnFrom.and (Own.from (boxed_own _ _ _) _) (OwnFrom.and (ownFrom_below (Nat.le_refl _) (by omega)) (fun _ _ _ _ hs hg _=>Nat.le_trans hs hg.size)))
  (fun _ _ _ _ _ hs _ _=>hs)
  ⟨by simp only [List.map_nil,weightO,Nat.add_zero];rw [zbo (by omega) (by omega)];simp only [Int.natCast_add,Int.natCast_one];exact hn,hB0,Nat.le_refl _⟩
  (fun x a' W=>∃Bx,W0.heap.size<=Bx/\ValAt W Bx 0 x.kv/\a'= { tmps:= #[.agg #[.int .u8 c.k, .int .i64 c.n, .string c.s, .slice c.la c.ll c.lc, .slice c.oa c.ol c.oc], .pointer (some ⟨w.heap.size,0,none⟩), .int .i64 0, .pointer (some ⟨w.heap.size+1,0,none⟩), .string x.kk, .pointer (some ⟨Bx,0,none⟩), .pointer (some ⟨w.heap.size,2,none⟩), .string c.s, .int .i64 (c.s.size:Int), .int .i64 (1+(c.s.size:Int)), .agg #[.int .u8 c.k, .int .i64 c.n, .string c.s, .slice c.la c.ll c.lc, .slice c.oa c.ol c.oc], .func (.func 131) #[] #[.pointer (some ⟨w.heap.size+1+1,0,none⟩)], .string x.kk, .agg #[.int .u8 x.kv.k, .int .i64 x.kv.n, .string x.kv.s, .slice x.kv.la x.kv.ll x.kv.lc, .slice x.kv.oa x.kv.ol x.kv.oc],undef,undef,undef,undef,undef,undef,undef,undef],defers:= [] })
  (fun x a' _ X Y row hs hg hr=>by
   obtain ⟨Bx,h1,h2,h3⟩:=hs
   exact ⟨Bx,h1,ValAt.own (β:=Unit) Bx 0 (fun _=>x.kv) () X Y row h2 hg (fun r e=>(hr r e).2),h3⟩)
  ?assign ?body ?done ?stop
 case assign=>
  rintro l pre x W K ⟨bS1,hB1,hz1⟩ hK
  dsimp only [Kid.encs]
  gi_wp2
  exact hK _ _ ((KeepsOthers.alloc _ _).from _) (KeepAt.alloc W _ (by omega) (by omega)) ⟨bS1.alloc _,hB1.alloc hB1.size _,by simp;omega⟩ ⟨W.heap.size,hz1,Y9 W x.kv _,rfl⟩
 case body=>
  rintro l pre x a' W hl _ ⟨bS1,hB1,hz1⟩ ⟨Bx,hBx,vX,rfl⟩ hlt
  have cS:=bS1.cell
  have fS:=bS1.frozen
  have r0:W.cell? ⟨Bx,0,none⟩=some (.int .u8 x.kv.k):=vX.c0
  have r1:W.cell? ⟨Bx,1,none⟩=some (.int .i64 x.kv.n):=vX.c1
  have r2:W.cell? ⟨Bx,2,none⟩=some (.string x.kv.s):=vX.c2
  have r3:W.cell? ⟨Bx,3,none⟩=some (.slice x.kv.la x.kv.ll x.kv.lc):=vX.c3
  have r4:W.cell? ⟨Bx,4,none⟩=some (.slice x.kv.oa x.kv.ol x.kv.oc):=vX.c4
  have hmx:Tryz.prog.follows .mixedOrders=true:=by kernel_rfl
  have hcal:=fun (W':World) (h:uB w W')=>x.p.1 x.p.2 W' x.kv (x.is.later_ h)
  have HC:=qh hcal
  clear hcal vX
  gi_wp2
  gi_region_with_o (refine ⟨trivial, ?_⟩;gi_at_call 58;refine (CallsIn.inRound l (callsIn_wide.2 (HC.out _ hB1.drew))).mono ?_;rintro e w' ⟨rfl,hb⟩;have cS':=(hb.cell (p:=⟨w.heap.size+1,0,none⟩) (by exact bS1.lt)).trans cS;have fS':=(hb.frozen (p:=⟨w.heap.size+1,0,none⟩) (by exact bS1.lt)).trans fS)
  all_goals gi_wp2
  all_goals
   have hb':=(Below.refl W.heap.size W).drew.trans hb
   have hbx':Boxed w' (w.heap.size+1) 3 _:=(hb'.block _ bS1.lt).trans bS1
   exact ⟨((Jb hb').trans (KeepsOthers.setCell _ _ _)).from _,(KeepAt.of_below hb' (by omega) (by omega)).trans (KeepAt.setCell _ _ (by simp) (by simp)),by rw [Qs (wsum ((1+c.s.size+weightO (List.map Kid.pair (pre++ [x])):Nat):Int) (1+(c.s.size:Int)+(weightO (List.map Kid.pair pre):Int)) x.kk.size x.v.weight (by rw [zjj];omega))];exact hbx'.set _,(hB1.on hb' hB1.size).setCell (by simp) _,by have:=hb'.size;simp [World.setCell];omega⟩
 case done=>
  rintro D ys W hD rfl ⟨bS,hB,hz1⟩ hK
  have cS:=bS.cell
  gi_wp2
  refine ⟨by simp, .inl ⟨_,_,rfl,run_takeDeferred hK, ?_⟩⟩
  refine ⟨_,results_tmp (t:=2) rfl _ _ _, ?_,hB.trans ((Below.refl _ _).grown (grownBy_putObj' _ D _) hB.size (fun k e=>by cases e;omega))⟩
  show Ending.returned (.int .i64 (wrap64 (1+(c.s.size:Int)+(weightO (pairs l o):Nat))))=_
  exact Ju (by simp only [zjd,V.weight];rw [zbo (by omega) (by omega)];omega)
 case stop=>
  rintro D c' pre W _ _ h _
  exact h.elim
def VDeep (v:V):Prop:=v.weight<=4611686018427387904->∀(w:World) (c:VC),IsVal w w.heap.size v c->
    Calls Tryz.prog 57 #[.agg #[.int .u8 c.k, .int .i64 c.n, .string c.s, .slice c.la c.ll c.lc, .slice c.oa c.ol c.oc]] w fun e w'=>e= .returned (.int .i64 v.deep)/\Below w.heap.size w w'
theorem zaq {w:World} {P:V->Prop} (pre:List (Kid w P)) (x:Kid w P):((deepO ((pre++ [x]).map Kid.pair):Nat):Int)=max ((deepO (pre.map Kid.pair):Nat):Int) ((x.v.deep:Int)+1):=by
 rw [List.map_append,za5];simp only [List.map_cons,List.map_nil,deepO,Jp,Kid.pair];omega
theorem zqy (l:List V) (o:List (ByteArray×V)):deepO (pairs l o)=max (deepL l) (deepO o):=by
 unfold pairs
 rw [za5]
 congr 1
 induction l with
 |nil=>rfl
 |cons v r ih=>simp only [List.map_cons,deepO,Jp,deepL,ih]
set_option maxRecDepth 100000 in
theorem zne (a:V):VDeep a:=by
 induction a using V.ind with
 |h k n s l o ihl iho=>
 intro hw w c ha
 obtain ⟨rfl,rfl,rfl,cbd,hl,ho⟩:=ha.lists
 have hw0:1+c.s.size+weightL l+weightO o<=4611686018427387904:=by simpa only [V.weight] using hw
 obtain ⟨ks,hks,hpr⟩:=zao w (fun v=>VDeep v/\v.weight<=4611686018427387904) l o c hl ho
  (fun v hv=>⟨ihl v hv,by obtain ⟨i,hi,rfl⟩:=List.getElem_of_mem hv;have:=Qf l i hi;omega⟩)
  (fun f hf=>⟨iho f hf,by obtain ⟨i,hi,rfl⟩:=List.getElem_of_mem hf;have:=Qv o i hi;omega⟩)
 clear ihl iho ha hl ho
 have c5:=cbd.s1
 refine callsIn_wide (n:=3)|>.1 ?_
 refine callsIn_of_wp_marks Tryz.func57 rfl trivial ?_ rfl
 simp only [Tryz.ntmps57,List.size_toArray,List.length_cons,List.length_nil,Nat.reduceAdd,Nat.reduceSub,Array.replicate_succ,Array.replicate_zero,List.push_toArray,List.append_toArray,List.nil_append,List.cons_append]
 gi_wp2_with (refine ⟨trivial, ?_⟩;gi_at_call 97;refine (zad _ _ trivial rfl c _).mono ?_;rintro e w' ⟨rfl,rfl⟩)
 obtain ⟨W0,hW0⟩:∃W0,(((w.alloc (.cells (uV c) 36)).alloc (.cells #[.int .i64 0] 3)).alloc (.cells (uV c) 36))=W0:=⟨_,rfl⟩
 have hB0:uB w W0:=by rw [<-hW0];exact (((Below.refl _ _).alloc (Nat.le_refl _) _).alloc (by simp) _).alloc (by simp;omega) _
 have hsz:W0.heap.size=w.heap.size+3:=by rw [<-hW0];simp
 have hbx:ValAt W0 (w.heap.size+1+1) 0 c:=by
  rw [<-hW0]
  have h:=Y9 ((w.alloc (.cells (uV c) 36)).alloc (.cells #[.int .i64 0] 3)) c 36
  simp only [World.size_alloc] at h
  exact h
 have hn:Boxed W0 (w.heap.size+1) 3 (.int .i64 0):=by
  rw [<-hW0]
  have h:=Boxed.new (w.alloc (.cells (uV c) 36)) 3 (.int .i64 0)
  rw [World.size_alloc] at h
  exact h.alloc _
 rw [hW0]
 clear hW0
 refine wpIn_rangeFunc_ownH (α:=Kid w (fun v=>VDeep v/\v.weight<=4611686018427387904)) rfl (by omega) (gf:=131) (lb:= #[.pointer (some ⟨w.heap.size+1+1,0,none⟩)]) rfl trivial (enters_of Tryz.func131 (by kernel_rfl) rfl)
  (zau Fence.wide 2 trivial rfl (by omega) w (fun v=>VDeep v/\v.weight<=4611686018427387904) (w.heap.size+1+1) c cbd ks W0 w.heap.size (by omega) (by omega) hbx (hks.keep (.of_below_any hB0))) zbl (zat (by omega) (by omega)) (Below.refl _ _) (fun _=>rfl)
  (fun pre W=>(Boxed W (w.heap.size+1) 3 (.int .i64 ((deepO (pre.map Kid.pair):Nat):Int)))/\uB w W/\W0.heap.size<=W.heap.size)
  (fun _ _ _=>False)
  (OwnFrom.and (Own.from (boxed_own _ _ _) _) (OwnFrom.and (ownFrom_below (Nat.le_refl _) (by omega)) (fun _ _ _ _ hs hg _=>Nat.le_trans hs hg.size)))
  (fun _ _ _ _ _ hs _ _=>hs)
  ⟨by simp only [List.map_nil,deepO];exact hn,hB0,Nat.le_refl _⟩
  (fun x a' W=>∃Bx,W0.heap.size<=Bx/\ValAt W Bx 0 x.kv/\a'= { tmps:= #[.agg #[.int .u8 c.k, .int .i64 c.n, .string c.s, .slice c.la c.ll c.lc, .slice c.oa c.ol c.oc], .pointer (some ⟨w.heap.size,0,none⟩), .int .i64 0, .pointer (some ⟨w.heap.size+1,0,none⟩),undef, .pointer (some ⟨Bx,0,none⟩), .agg #[.int .u8 c.k, .int .i64 c.n, .string c.s, .slice c.la c.ll c.lc, .slice c.oa c.ol c.oc], .func (.func 131) #[] #[.pointer (some ⟨w.heap.size+1+1,0,none⟩)], .string x.kk, .agg #[.int .u8 x.kv.k, .int .i64 x.kv.n, .string x.kv.s, .slice x.kv.la x.kv.ll x.kv.lc, .slice x.kv.oa x.kv.ol x.kv.oc],undef,undef,undef,undef,undef,undef],defers:= [] })
  (fun x a' _ X Y row hs hg hr=>by
   obtain ⟨Bx,h1,h2,h3⟩:=hs
   exact ⟨Bx,h1,ValAt.own (β:=Unit) Bx 0 (fun _=>x.kv) () X Y row h2 hg (fun r e=>(hr r e).2),h3⟩)
  ?assign ?body ?done ?stop
 case assign=>
  rintro l pre x W K ⟨bS1,hB1,hz1⟩ hK
  dsimp only [Kid.encs]
  gi_wp2
  exact hK _ _ ((KeepsOthers.alloc _ _).from _) (KeepAt.alloc W _ (by omega) (by omega)) ⟨bS1.alloc _,hB1.alloc hB1.size _,by simp;omega⟩ ⟨W.heap.size,hz1,Y9 W x.kv _,rfl⟩
 case body=>
  rintro l pre x a' W hl _ ⟨bS1,hB1,hz1⟩ ⟨Bx,hBx,vX,rfl⟩ hlt
  have cS:=bS1.cell
  have fS:=bS1.frozen
  have r0:W.cell? ⟨Bx,0,none⟩=some (.int .u8 x.kv.k):=vX.c0
  have r1:W.cell? ⟨Bx,1,none⟩=some (.int .i64 x.kv.n):=vX.c1
  have r2:W.cell? ⟨Bx,2,none⟩=some (.string x.kv.s):=vX.c2
  have r3:W.cell? ⟨Bx,3,none⟩=some (.slice x.kv.la x.kv.ll x.kv.lc):=vX.c3
  have r4:W.cell? ⟨Bx,4,none⟩=some (.slice x.kv.oa x.kv.ol x.kv.oc):=vX.c4
  have hmx:Tryz.prog.follows .mixedOrders=true:=by kernel_rfl
  have hcal:=fun (W':World) (h:uB w W')=>x.p.1 x.p.2 W' x.kv (x.is.later_ h)
  have HC:=qh hcal
  clear hcal vX
  have hd1:=V.deep_lt x.v
  have hd2:=x.p.2
  have e1:IntKind.i64.wrap ((x.v.deep:Int)+1)=(x.v.deep:Int)+1:=IntWalk.i64_in _ (by omega)
  gi_wp2
  gi_region_with_o (refine ⟨trivial, ?_⟩;gi_at_call 57;refine (CallsIn.inRound l (callsIn_wide.2 (HC.out _ hB1.drew))).mono ?_;rintro e w' ⟨rfl,hb⟩;have cS':=(hb.cell (p:=⟨w.heap.size+1,0,none⟩) (by exact bS1.lt)).trans cS;have fS':=(hb.frozen (p:=⟨w.heap.size+1,0,none⟩) (by exact bS1.lt)).trans fS)
  all_goals gi_wp2
  all_goals
   have hb':=(Below.refl W.heap.size W).drew.trans hb
   have hbx':Boxed w' (w.heap.size+1) 3 _:=(hb'.block _ bS1.lt).trans bS1
   exact ⟨((Jb hb').trans (KeepsOthers.setCell _ _ _)).from _,(KeepAt.of_below hb' (by omega) (by omega)).trans (KeepAt.setCell _ _ (by simp) (by simp)),by first|(rw [Qs (show ((deepO ((pre++ [x]).map Kid.pair):Nat):Int)=((deepO (pre.map Kid.pair):Nat):Int) from by rw [zaq];omega)];exact hbx'.set _)|(rw [Qs (show ((deepO ((pre++ [x]).map Kid.pair):Nat):Int)=(x.v.deep:Int)+1 from by rw [zaq];omega)];exact hbx'.set _)|(rw [Qs (zaq pre x)];exact hbx'.set _),(hB1.on hb' hB1.size).setCell (by simp) _,by have:=hb'.size;simp [World.setCell];omega⟩
 case done=>
  rintro D ys W hD rfl ⟨bS,hB,hz1⟩ hK
  have cS:=bS.cell
  gi_wp2
  refine ⟨by simp, .inl ⟨_,_,rfl,run_takeDeferred hK, ?_⟩⟩
  refine ⟨_,results_tmp (t:=2) rfl _ _ _, ?_,hB.trans ((Below.refl _ _).grown (grownBy_putObj' _ D _) hB.size (fun k e=>by cases e;omega))⟩
  show Ending.returned (.int .i64 ((deepO (pairs l o):Nat):Int))=_
  exact Ju (by simp only [zqy,V.deep])
 case stop=>
  rintro D c' pre W _ _ h _
  exact h.elim
end Go.Proofs.YtnjgbiachcfigaaGreatDoor
namespace Go.Proofs.YtnjgbiachcfigaaGreatDoor
open Go.RowKit
set_option maxHeartbeats 8000000
set_option maxRecDepth 100000 in
theorem zi8 (w:World) (B0:Nat) (hB0:B0<=w.heap.size) (key:ByteArray) (hks:key.size<=140737488355328) (x:V) (cx:VC) (hx:IsVal (only (fun k=>B0<=k) w) w.heap.size x cx):
 uP 72 #[.slice none 0 0, .string key, .agg (uV cx)] w (WithPost w B0 (withF [] key x)):=by
 delta uV uP
 obtain ⟨i0,hi0,hz0,hz1,hz2⟩:=info_parts Yj
 have HF:Hid (∀W,uB w W->uP 75 #[.agg (uU 0 0 { data:= #[] } none 0 0 none 0 0), .string key] W fun e w'=>e= .returned (.tuple #[.int .i64 0, .bool false])/\uB W w'):=by
  intro W hW
  exact Yi W [] key 0 0 { data:= #[] } none 0 0 none 0 0 ⟨rfl,by omega,by omega,by omega,0,0,fun _=>vzero,fun h=>absurd h (by omega),fun i h=>absurd h (by simp)⟩
 have HBX:=qh (BC.start w (uV cx) 36)
 have HAL:=qh ((Below.refl _ _).alloc (Nat.le_refl _) (.cells (uV cx) 36):uB w _)
 have HX:=qh hx
 obtain ⟨R,hR⟩:∃R,WithPost w B0 (withF [] key x)=R:=⟨_,rfl⟩
 rw [hR]
 have HR:=qh hR
 clear hx hR
 go_enter Tryz.func72,Tryz.ntmps72
 go_wp2_with fail
 refine (HF.out _ HAL.out).mono ?_
 rintro e w1 ⟨rfl,hb1⟩
 have BX2:=HBX.out.keep hb1 (by simp)
 obtain ⟨x0,x1,x2,x3,x4⟩:=row5 BX2.at_
 have zs2:w.heap.size<w1.heap.size:=BX2.lt
 have HBL1:=qh (HAL.out.trans (hb1.mono (by simp)))
 have ho2:(w1.alloc (.cells #[.string key, .int .u8 cx.k, .int .i64 cx.n, .string cx.s, .slice cx.la cx.ll cx.lc, .slice cx.oa cx.ol cx.oc] 75)).ownsRow (w.heap.size+1) 75 6 (.slice none 0 0) 0 [] :=⟨rfl, .inl ⟨rfl,rfl⟩⟩
 have hnw:∀j u,(fcells (key,cx))[j]? =some u->(w1.alloc (.cells #[.string key, .int .u8 cx.k, .int .i64 cx.n, .string cx.s, .slice cx.la cx.ll cx.lc, .slice cx.oa cx.ol cx.oc] 75)).cell? ((⟨w1.heap.size,0,none⟩:Addr).add j)=some u:=World.news_of_block (t:=75) (fr:=(0,0)) (heap_alloc_new w1 (.cells #[.string key, .int .u8 cx.k, .int .i64 cx.n, .string cx.s, .slice cx.la cx.ll cx.lc, .slice cx.oa cx.ol cx.oc] 75))
 have HNW:=qh hnw
 clear hb1 BX2 hnw
 have ho1:w1.ownsRow (w.heap.size+1) 75 6 (.slice none 0 0) 0 [] :=⟨rfl, .inl ⟨rfl,rfl⟩⟩
 go_wp2_with (first
  |(at_builtin;refine zbi _ rfl (.tmp 17) (.tmp 20) 34 (by rfl) (w.heap.size+1) 75 i0 6 Tryz.underlying34 hi0 (.slice none 0 0) 0 [] (by rfl) ho1 (by rfl) ?_)
  |(at_builtin;refine wpList_append_own _ rfl (.tmp 22) (.tmp 26) 34 (by rfl) (w.heap.size+1) 75 i0 _ 6 96 Tryz.underlying34 hi0 hz0 hz1 hz2 rfl (by omega) (.slice none 0 0) 0 [] (by rfl) ho2 ⟨w1.heap.size,0,none⟩ 1 1 (fcells (key,cx)) (by rfl) (by rfl) HNW.out (X9 key cx) (by unfold maxLen;omega) (by omega) (by simp;omega) ?_;intro v2 w4 hown2 hgrow2 _;have b24:Below (w.heap.size+1) w1 w4:=(((Below.refl w1.heap.size w1).alloc (Nat.le_refl _) (.cells #[.string key, .int .u8 cx.k, .int .i64 cx.n, .string cx.s, .slice cx.la cx.ll cx.lc, .slice cx.oa cx.ol cx.oc] 75)).mono (by omega)).trans (Zj hgrow2 (fun k hk=>by simp [Value.ownBlock] at hk) (by simp;omega));have HBL4:=qh (HBL1.out.trans (b24.mono (by omega)));have zs4:w.heap.size<w4.heap.size:=Nat.lt_of_lt_of_le zs2 b24.size;have HO2:=qh hown2;clear hgrow2 b24 hown2)
  |(at_builtin;refine zbi _ rfl (.tmp 31) (.tmp 34) 34 (by rfl) (w.heap.size+1) 75 i0 6 Tryz.underlying34 hi0 v2 (0+1) ([] ++fcells (key,cx)) (by rfl) HO2.out (by rfl) ?_))
 rw [<-HR.out]
 have hown:=HO2.out
 have hcat: [] ++fcells (key,cx)= [(key,cx)].flatMap fcells:=by simp
 rw [hcat] at hown
 have hlt3:=hown.lt
 have hsh:Shows (only (fun k=>B0<=k) w) (only (Free B0 v2) w4) w.heap.size:=Zd fun q hq hl=>⟨⟨hq,fun e=>by have:=(hlt3 q e.symm).1;omega⟩,HBL4.out.block q hl⟩
 obtain ⟨a,n,c,hv,hf,hz⟩:=Jm (l:= [(key,x)]) (B0:=B0) (B1:=w.heap.size+1) hown (by omega) rfl
  (fun i _ hi=>by
   obtain rfl:i=0:=by simpa using hi
   exact ⟨rfl,hks,(HX.out.sub hsh).more HBL4.out.size⟩) (by simp)
 exact ⟨⟨a,n,c,by rw [hv],hf,hz⟩,HBL4.out⟩
set_option maxRecDepth 100000 in
theorem zj7 (w:World) (B0:Nat) (hB0:B0<=w.heap.size) (o:List (ByteArray×V)) (b off ol oc:Nat) (ho:IsFields (only (fun k=>B0<=k) w) w.heap.size o (some ⟨b,off,none⟩) ol oc) (key:ByteArray) (hks:key.size<=140737488355328) (x:V) (cx:VC) (hx:IsVal (only (fun k=>B0<=k) w) w.heap.size x cx) (hpos:0<ol) (hfew:ol<=1000000) (his:fieldIs o key=false) (hke:fieldK o key=oc):
 uP 72 #[.slice (some ⟨b,off,none⟩) ol oc, .string key, .agg (uV cx)] w (WithPost w B0 (withF o key x)):=by
 delta uV uP
 obtain ⟨i0,hi0,hz0,hz1,hz2⟩:=info_parts Yj
 have hlen:=ho.len
 have hcap:=ho.cap
 have hmax:=ho.max
 obtain ⟨cs,b2,off2,hcl,hab,hcell,hpf⟩:=ho.cells
 have HCELL:Hid (∀W,uB w W->∀j u,(cs.flatMap fcells)[j]? =some u->W.cell? ⟨b,off+j,none⟩=some u):=by
  intro W hW j u hj
  have hjl:=(List.getElem?_eq_some_iff.1 hj).1
  rw [Zn fcells 6 (fun _=>rfl),hcl, <-hlen] at hjl
  obtain ⟨e,hb2⟩:=hab (by omega)
  injection e with e;injection e with e1 e2
  subst e1 e2
  exact Za hW (Z9 (hcell j u hj)).2 hb2
 obtain ⟨k,hk⟩:∃k,fieldK o key=k:=⟨_,rfl⟩
 rw [hk] at hke
 have hkl:k<=ol:=by rw [<-hk,hlen];exact Z7 o key
 have hkl2:=hkl
 have hkc:k<=cs.length:=by rw [hcl, <-hlen];exact hkl
 have hkc2:k<=cs.length:=by rw [hcl, <-hlen];omega
 have HF:Hid (∀W,uB w W->uP 75 #[.agg (uU 0 0 { data:= #[] } none 0 0 (some ⟨b,off,none⟩) ol oc), .string key] W fun e w'=>e= .returned (.tuple #[.int .i64 (k:Int), .bool false])/\uB W w'):=by
  intro W hW
  have hof:IsFields W W.heap.size o (some ⟨b,off,none⟩) ol oc:=(IsFields.keep (IsFields.sub (Zk (fun k=>B0<=k) w _) ho) hW).more hW.size
  have:=Yi W o key 0 0 { data:= #[] } none 0 0 (some ⟨b,off,none⟩) ol oc hof
  rw [hk,his] at this;exact this
 have hwf:withF o key x=o.take k++(key,x)::o.drop (k):=by rw [withF,his,hk];rfl
 rw [hwf]
 have HBX:=qh (BC.start w (uV cx) 36)
 have HAL:=qh ((Below.refl _ _).alloc (Nat.le_refl _) (.cells (uV cx) 36):uB w _)
 have HX:=qh hx
 have HPF:=qh hpf
 have HCL:=qh hcl
 have HLEN:=qh hlen
 obtain ⟨R,hR⟩:∃R,WithPost w B0 (o.take k++(key,x)::o.drop (k))=R:=⟨_,rfl⟩
 rw [hR]
 have HR:=qh hR
 obtain ⟨XA,hXA⟩:∃XA,(cs.take k).flatMap fcells=XA:=⟨_,rfl⟩
 obtain ⟨XB,hXB⟩:∃XB,(cs.drop (k)).flatMap fcells=XB:=⟨_,rfl⟩
 have hla:XA.length=k*6:=by rw [<-hXA,Zn fcells 6 (fun _=>rfl),List.length_take,Nat.min_eq_left hkc]
 have hlb:XB.length=(ol - (k))*6:=by rw [<-hXB,Zn fcells 6 (fun _=>rfl),List.length_drop,hcl, <-hlen]
 have HA1:Hid (∀u ∈ XA,u.oneCell'=true):=by unfold Hid;rw [<-hXA];exact Y6 _
 have HB1:Hid (∀u ∈ XB,u.oneCell'=true):=by unfold Hid;rw [<-hXB];exact Y6 _
 have HCA:Hid (∀W,uB w W->∀j u,XA[j]? =some u->W.cell? ((⟨b,off,none⟩:Addr).add j)=some u):=by
  intro W hW j u hj
  rw [<-hXA] at hj
  rw [Zw];exact HCELL.out W hW j u (Kg hj)
 have HCB:Hid (∀W,uB w W->∀j u,XB[j]? =some u->W.cell? ((⟨b,off+(k)*6,none⟩:Addr).add j)=some u):=by
  intro W hW j u hj
  rw [<-hXB] at hj
  rw [Zw,Nat.add_assoc];exact HCELL.out W hW _ u (Kl hkc2 hj)
 have HXA:=qh hXA
 have HXB:=qh hXB
 clear ho hab hcell hk his hx hpf hcl hlen hwf hR hXA hXB hkc hkc2
 have hol:ol=k:=by omega
 have hoc:oc=k:=by omega
 cases hol;cases hoc
 go_enter Tryz.func72,Tryz.ntmps72
 go_wp2_with fail
 refine (HF.out _ HAL.out).mono ?_
 rintro e w1 ⟨rfl,hb1⟩
 have bl1:=HAL.out.trans (hb1.mono (by simp))
 have HBX1:=qh (HBX.out.keep hb1 (by simp))
 have zs1:w.heap.size<w1.heap.size:=HBX1.out.lt
 have HBL1:=qh bl1
 have ho1:w1.ownsRow (w.heap.size+1) 75 6 (.slice none 0 0) 0 [] :=⟨rfl, .inl ⟨rfl,rfl⟩⟩
 clear hb1 bl1
 go_wp2_with (first
  |(at_builtin;refine wpList_append_own _ rfl (.tmp 17) (.tmp 20) 34 (by rfl) (w.heap.size+1) 75 i0 _ 6 96 Tryz.underlying34 hi0 hz0 hz1 hz2 rfl (by omega) (.slice none 0 0) 0 [] (by rfl) ho1 ⟨b,off,none⟩ ol (ol) XA (by rfl) hla (HCA.out _ HBL1.out) HA1.out (by unfold maxLen;omega) (by omega) (by omega) ?_;intro v1 w2 hown1 hgrow1 _;have b12:Below (w.heap.size+1) w1 w2:=Zj hgrow1 (fun ol hk=>by simp [Value.ownBlock] at hk) (by omega);have BX2:=HBX1.out.keep b12 (by omega);obtain ⟨x0,x1,x2,x3,x4⟩:=row5 BX2.at_;have zs2:=BX2.lt;have HBL2:=qh (HBL1.out.trans (b12.mono (by omega)));have HO1:=qh hown1;have hrl:∀g,v1.ownBlock=some g->w.heap.size+1<=g/\g<w2.heap.size:=hown1.lt;have ho2:=hown1.alloc (.cells #[.string key, .int .u8 cx.k, .int .i64 cx.n, .string cx.s, .slice cx.la cx.ll cx.lc, .slice cx.oa cx.ol cx.oc] 75);have hnw:∀j u,(fcells (key,cx))[j]? =some u->(w2.alloc (.cells #[.string key, .int .u8 cx.k, .int .i64 cx.n, .string cx.s, .slice cx.la cx.ll cx.lc, .slice cx.oa cx.ol cx.oc] 75)).cell? ((⟨w2.heap.size,0,none⟩:Addr).add j)=some u:=World.news_of_block (t:=75) (fr:=(0,0)) (heap_alloc_new w2 (.cells #[.string key, .int .u8 cx.k, .int .i64 cx.n, .string cx.s, .slice cx.la cx.ll cx.lc, .slice cx.oa cx.ol cx.oc] 75));have HNW:=qh hnw;clear hnw hown1 hgrow1 BX2 b12)
  |(at_builtin;refine wpList_append_own _ rfl (.tmp 22) (.tmp 26) 34 (by rfl) (w.heap.size+1) 75 i0 _ 6 96 Tryz.underlying34 hi0 hz0 hz1 hz2 rfl (by omega) v1 (0+ol) ([] ++XA) (by rfl) ho2 ⟨w2.heap.size,0,none⟩ 1 1 (fcells (key,cx)) (by rfl) (by rfl) HNW.out (X9 key cx) (by unfold maxLen;omega) (by omega) (by simp;omega) ?_;intro v2 w4 hown2 hgrow2 _;have b24:Below (w.heap.size+1) w2 w4:=(((Below.refl w2.heap.size w2).alloc (Nat.le_refl _) (.cells #[.string key, .int .u8 cx.k, .int .i64 cx.n, .string cx.s, .slice cx.la cx.ll cx.lc, .slice cx.oa cx.ol cx.oc] 75)).mono (by omega)).trans (Zj hgrow2 (fun ol hk=>(hrl ol hk).1) (by simp;omega));have HBL4:=qh (HBL2.out.trans (b24.mono (by omega)));have zs4:w.heap.size<w4.heap.size:=Nat.lt_of_lt_of_le zs2 b24.size;have hrl2:∀g,v2.ownBlock=some g->w.heap.size+1<=g/\g<w4.heap.size:=hown2.lt;have HO2:=qh hown2;clear hgrow2 b24 hown2)
  |(at_builtin;refine wpList_append_own _ rfl (.tmp 31) (.tmp 34) 34 (by rfl) (w.heap.size+1) 75 i0 _ 6 96 Tryz.underlying34 hi0 hz0 hz1 hz2 rfl (by omega) v2 (0+ol+1) ([] ++XA++fcells (key,cx)) (by rfl) HO2.out ⟨b,off,none⟩ 0 0 XB (by rfl) (by omega) (fun j u hj=>by rw [List.getElem?_eq_none (by omega)] at hj;cases hj) HB1.out (by unfold maxLen;omega) (by omega) (by omega) ?_;intro v3 w5 hown3 hgrow3 _;have b45:Below (w.heap.size+1) w4 w5:=Zj hgrow3 (fun ol hk=>(hrl2 ol hk).1) (by omega);have HBL5:=qh (HBL4.out.trans (b45.mono (by omega)));have HO3:=qh hown3;clear hgrow3 b45 hown3))
 rw [<-HR.out]
 have hcat: [] ++XA++fcells (key,cx)++XB=(cs.take ol++(key,cx)::cs.drop (ol)).flatMap fcells:=by rw [<-HXA.out, <-HXB.out];simp
 have hll:(o.take ol++(key,x)::o.drop (ol)).length=0+ol+1+0:=by
  rw [List.length_append,List.length_cons,List.length_drop,List.length_take, <-HLEN.out,Nat.min_eq_left hkl];omega
 have hown:=HO3.out
 rw [hcat, <-hll] at hown
 have hlt3:=hown.lt
 have hsh:Shows (only (fun ol=>B0<=ol) w) (only (Free B0 v3) w5) w.heap.size:=Zd fun q hq hl=>⟨⟨hq,fun e=>by have:=(hlt3 q e.symm).1;omega⟩,HBL5.out.block q hl⟩
 obtain ⟨a,n,c,hv,hf,hz⟩:=Jm (B0:=B0) (B1:=w.heap.size+1) hown (by omega) (by rw [List.length_append,List.length_append,List.length_cons,List.length_cons,List.length_drop,List.length_drop,List.length_take,List.length_take,HCL.out])
  (PF.with_ HCL.out (fun i hi=>PF.closed o cs _ _ _ _ i hsh HBL5.out.size (HPF.out i hi)) ((HX.out.sub hsh).more HBL5.out.size) hks (by rw [<-HLEN.out];exact hkl) (by rw [<-HLEN.out];omega)) (by rw [hll];omega)
 exact ⟨⟨a,n,c,by rw [hv],hf,hz⟩,HBL5.out⟩
set_option maxRecDepth 100000 in
theorem zlz (w:World) (B0:Nat) (hB0:B0<=w.heap.size) (o:List (ByteArray×V)) (b off ol oc:Nat) (ho:IsFields (only (fun k=>B0<=k) w) w.heap.size o (some ⟨b,off,none⟩) ol oc) (key:ByteArray) (hks:key.size<=140737488355328) (x:V) (cx:VC) (hx:IsVal (only (fun k=>B0<=k) w) w.heap.size x cx) (hpos:0<ol) (hfew:ol<=1000000) (his:fieldIs o key=true) (hke:fieldK o key+1<oc):
 uP 72 #[.slice (some ⟨b,off,none⟩) ol oc, .string key, .agg (uV cx)] w (WithPost w B0 (withF o key x)):=by
 delta uV uP
 obtain ⟨i0,hi0,hz0,hz1,hz2⟩:=info_parts Yj
 have hlen:=ho.len
 have hcap:=ho.cap
 have hmax:=ho.max
 obtain ⟨cs,b2,off2,hcl,hab,hcell,hpf⟩:=ho.cells
 have HCELL:Hid (∀W,uB w W->∀j u,(cs.flatMap fcells)[j]? =some u->W.cell? ⟨b,off+j,none⟩=some u):=by
  intro W hW j u hj
  have hjl:=(List.getElem?_eq_some_iff.1 hj).1
  rw [Zn fcells 6 (fun _=>rfl),hcl, <-hlen] at hjl
  obtain ⟨e,hb2⟩:=hab (by omega)
  injection e with e;injection e with e1 e2
  subst e1 e2
  exact Za hW (Z9 (hcell j u hj)).2 hb2
 obtain ⟨k,hk⟩:∃k,fieldK o key=k:=⟨_,rfl⟩
 rw [hk] at hke
 have hkl:k<=ol:=by rw [<-hk,hlen];exact Z7 o key
 have hkl2:k<ol:=by rw [<-hk,hlen];exact Z8 his
 have hkc:k<=cs.length:=by rw [hcl, <-hlen];exact hkl
 have hkc2:k+1<=cs.length:=by rw [hcl, <-hlen];omega
 have HF:Hid (∀W,uB w W->uP 75 #[.agg (uU 0 0 { data:= #[] } none 0 0 (some ⟨b,off,none⟩) ol oc), .string key] W fun e w'=>e= .returned (.tuple #[.int .i64 (k:Int), .bool true])/\uB W w'):=by
  intro W hW
  have hof:IsFields W W.heap.size o (some ⟨b,off,none⟩) ol oc:=(IsFields.keep (IsFields.sub (Zk (fun k=>B0<=k) w _) ho) hW).more hW.size
  have:=Yi W o key 0 0 { data:= #[] } none 0 0 (some ⟨b,off,none⟩) ol oc hof
  rw [hk,his] at this;exact this
 have hwf:withF o key x=o.take k++(key,x)::o.drop (k+1):=by rw [withF,his,hk];rfl
 rw [hwf]
 have HBX:=qh (BC.start w (uV cx) 36)
 have HAL:=qh ((Below.refl _ _).alloc (Nat.le_refl _) (.cells (uV cx) 36):uB w _)
 have HX:=qh hx
 have HPF:=qh hpf
 have HCL:=qh hcl
 have HLEN:=qh hlen
 obtain ⟨R,hR⟩:∃R,WithPost w B0 (o.take k++(key,x)::o.drop (k+1))=R:=⟨_,rfl⟩
 rw [hR]
 have HR:=qh hR
 obtain ⟨XA,hXA⟩:∃XA,(cs.take k).flatMap fcells=XA:=⟨_,rfl⟩
 obtain ⟨XB,hXB⟩:∃XB,(cs.drop (k+1)).flatMap fcells=XB:=⟨_,rfl⟩
 have hla:XA.length=k*6:=by rw [<-hXA,Zn fcells 6 (fun _=>rfl),List.length_take,Nat.min_eq_left hkc]
 have hlb:XB.length=(ol - (k+1))*6:=by rw [<-hXB,Zn fcells 6 (fun _=>rfl),List.length_drop,hcl, <-hlen]
 have HA1:Hid (∀u ∈ XA,u.oneCell'=true):=by unfold Hid;rw [<-hXA];exact Y6 _
 have HB1:Hid (∀u ∈ XB,u.oneCell'=true):=by unfold Hid;rw [<-hXB];exact Y6 _
 have HCA:Hid (∀W,uB w W->∀j u,XA[j]? =some u->W.cell? ((⟨b,off,none⟩:Addr).add j)=some u):=by
  intro W hW j u hj
  rw [<-hXA] at hj
  rw [Zw];exact HCELL.out W hW j u (Kg hj)
 have HCB:Hid (∀W,uB w W->∀j u,XB[j]? =some u->W.cell? ((⟨b,off+(k+1)*6,none⟩:Addr).add j)=some u):=by
  intro W hW j u hj
  rw [<-hXB] at hj
  rw [Zw,Nat.add_assoc];exact HCELL.out W hW _ u (Kl hkc2 hj)
 have HXA:=qh hXA
 have HXB:=qh hXB
 clear ho hab hcell hk his hx hpf hcl hlen hwf hR hXA hXB hkc hkc2
 go_enter Tryz.func72,Tryz.ntmps72
 go_wp2_with fail
 refine (HF.out _ HAL.out).mono ?_
 rintro e w1 ⟨rfl,hb1⟩
 have bl1:=HAL.out.trans (hb1.mono (by simp))
 have HBX1:=qh (HBX.out.keep hb1 (by simp))
 have zs1:w.heap.size<w1.heap.size:=HBX1.out.lt
 have HBL1:=qh bl1
 have ho1:w1.ownsRow (w.heap.size+1) 75 6 (.slice none 0 0) 0 [] :=⟨rfl, .inl ⟨rfl,rfl⟩⟩
 clear hb1 bl1
 go_wp2_with (first
  |(at_builtin;refine wpList_append_own _ rfl (.tmp 17) (.tmp 20) 34 (by rfl) (w.heap.size+1) 75 i0 _ 6 96 Tryz.underlying34 hi0 hz0 hz1 hz2 rfl (by omega) (.slice none 0 0) 0 [] (by rfl) ho1 ⟨b,off,none⟩ k oc XA (by rfl) hla (HCA.out _ HBL1.out) HA1.out (by unfold maxLen;omega) (by omega) (by omega) ?_;intro v1 w2 hown1 hgrow1 _;have b12:Below (w.heap.size+1) w1 w2:=Zj hgrow1 (fun k hk=>by simp [Value.ownBlock] at hk) (by omega);have BX2:=HBX1.out.keep b12 (by omega);obtain ⟨x0,x1,x2,x3,x4⟩:=row5 BX2.at_;have zs2:=BX2.lt;have HBL2:=qh (HBL1.out.trans (b12.mono (by omega)));have HO1:=qh hown1;have hrl:∀g,v1.ownBlock=some g->w.heap.size+1<=g/\g<w2.heap.size:=hown1.lt;have ho2:=hown1.alloc (.cells #[.string key, .int .u8 cx.k, .int .i64 cx.n, .string cx.s, .slice cx.la cx.ll cx.lc, .slice cx.oa cx.ol cx.oc] 75);have hnw:∀j u,(fcells (key,cx))[j]? =some u->(w2.alloc (.cells #[.string key, .int .u8 cx.k, .int .i64 cx.n, .string cx.s, .slice cx.la cx.ll cx.lc, .slice cx.oa cx.ol cx.oc] 75)).cell? ((⟨w2.heap.size,0,none⟩:Addr).add j)=some u:=World.news_of_block (t:=75) (fr:=(0,0)) (heap_alloc_new w2 (.cells #[.string key, .int .u8 cx.k, .int .i64 cx.n, .string cx.s, .slice cx.la cx.ll cx.lc, .slice cx.oa cx.ol cx.oc] 75));have HNW:=qh hnw;clear hnw hown1 hgrow1 BX2 b12)
  |(at_builtin;refine wpList_append_own _ rfl (.tmp 22) (.tmp 26) 34 (by rfl) (w.heap.size+1) 75 i0 _ 6 96 Tryz.underlying34 hi0 hz0 hz1 hz2 rfl (by omega) v1 (0+k) ([] ++XA) (by rfl) ho2 ⟨w2.heap.size,0,none⟩ 1 1 (fcells (key,cx)) (by rfl) (by rfl) HNW.out (X9 key cx) (by unfold maxLen;omega) (by omega) (by simp;omega) ?_;intro v2 w4 hown2 hgrow2 _;have b24:Below (w.heap.size+1) w2 w4:=(((Below.refl w2.heap.size w2).alloc (Nat.le_refl _) (.cells #[.string key, .int .u8 cx.k, .int .i64 cx.n, .string cx.s, .slice cx.la cx.ll cx.lc, .slice cx.oa cx.ol cx.oc] 75)).mono (by omega)).trans (Zj hgrow2 (fun k hk=>(hrl k hk).1) (by simp;omega));have HBL4:=qh (HBL2.out.trans (b24.mono (by omega)));have zs4:w.heap.size<w4.heap.size:=Nat.lt_of_lt_of_le zs2 b24.size;have hrl2:∀g,v2.ownBlock=some g->w.heap.size+1<=g/\g<w4.heap.size:=hown2.lt;have HO2:=qh hown2;clear hgrow2 b24 hown2)
  |(at_builtin;refine wpList_append_own _ rfl (.tmp 31) (.tmp 34) 34 (by rfl) (w.heap.size+1) 75 i0 _ 6 96 Tryz.underlying34 hi0 hz0 hz1 hz2 rfl (by omega) v2 (0+k+1) ([] ++XA++fcells (key,cx)) (by rfl) HO2.out ⟨b,off+(k+1)*6,none⟩ (ol - (k+1)) (oc - (k+1)) XB (by rfl) (by omega) (HCB.out _ HBL4.out) HB1.out (by unfold maxLen;omega) (by omega) (by omega) ?_;intro v3 w5 hown3 hgrow3 _;have b45:Below (w.heap.size+1) w4 w5:=Zj hgrow3 (fun k hk=>(hrl2 k hk).1) (by omega);have HBL5:=qh (HBL4.out.trans (b45.mono (by omega)));have HO3:=qh hown3;clear hgrow3 b45 hown3))
 rw [<-HR.out]
 have hcat: [] ++XA++fcells (key,cx)++XB=(cs.take k++(key,cx)::cs.drop (k+1)).flatMap fcells:=by rw [<-HXA.out, <-HXB.out];simp
 have hll:(o.take k++(key,x)::o.drop (k+1)).length=0+k+1+(ol - (k+1)):=by
  rw [List.length_append,List.length_cons,List.length_drop,List.length_take, <-HLEN.out,Nat.min_eq_left hkl];omega
 have hown:=HO3.out
 rw [hcat, <-hll] at hown
 have hlt3:=hown.lt
 have hsh:Shows (only (fun k=>B0<=k) w) (only (Free B0 v3) w5) w.heap.size:=Zd fun q hq hl=>⟨⟨hq,fun e=>by have:=(hlt3 q e.symm).1;omega⟩,HBL5.out.block q hl⟩
 obtain ⟨a,n,c,hv,hf,hz⟩:=Jm (B0:=B0) (B1:=w.heap.size+1) hown (by omega) (by rw [List.length_append,List.length_append,List.length_cons,List.length_cons,List.length_drop,List.length_drop,List.length_take,List.length_take,HCL.out])
  (PF.with_ HCL.out (fun i hi=>PF.closed o cs _ _ _ _ i hsh HBL5.out.size (HPF.out i hi)) ((HX.out.sub hsh).more HBL5.out.size) hks (by rw [<-HLEN.out];exact hkl) (by rw [<-HLEN.out];omega)) (by rw [hll];omega)
 exact ⟨⟨a,n,c,by rw [hv],hf,hz⟩,HBL5.out⟩
set_option maxRecDepth 100000 in
theorem zie (w:World) (B0:Nat) (hB0:B0<=w.heap.size) (o:List (ByteArray×V)) (b off ol oc:Nat) (ho:IsFields (only (fun k=>B0<=k) w) w.heap.size o (some ⟨b,off,none⟩) ol oc) (key:ByteArray) (hks:key.size<=140737488355328) (x:V) (cx:VC) (hx:IsVal (only (fun k=>B0<=k) w) w.heap.size x cx) (hpos:0<ol) (hfew:ol<=1000000) (his:fieldIs o key=true) (hke:fieldK o key+1=oc):
 uP 72 #[.slice (some ⟨b,off,none⟩) ol oc, .string key, .agg (uV cx)] w (WithPost w B0 (withF o key x)):=by
 delta uV uP
 obtain ⟨i0,hi0,hz0,hz1,hz2⟩:=info_parts Yj
 have hlen:=ho.len
 have hcap:=ho.cap
 have hmax:=ho.max
 obtain ⟨cs,b2,off2,hcl,hab,hcell,hpf⟩:=ho.cells
 have HCELL:Hid (∀W,uB w W->∀j u,(cs.flatMap fcells)[j]? =some u->W.cell? ⟨b,off+j,none⟩=some u):=by
  intro W hW j u hj
  have hjl:=(List.getElem?_eq_some_iff.1 hj).1
  rw [Zn fcells 6 (fun _=>rfl),hcl, <-hlen] at hjl
  obtain ⟨e,hb2⟩:=hab (by omega)
  injection e with e;injection e with e1 e2
  subst e1 e2
  exact Za hW (Z9 (hcell j u hj)).2 hb2
 obtain ⟨k,hk⟩:∃k,fieldK o key=k:=⟨_,rfl⟩
 rw [hk] at hke
 have hkl:k<=ol:=by rw [<-hk,hlen];exact Z7 o key
 have hkl2:k<ol:=by rw [<-hk,hlen];exact Z8 his
 have hkc:k<=cs.length:=by rw [hcl, <-hlen];exact hkl
 have hkc2:k+1<=cs.length:=by rw [hcl, <-hlen];omega
 have HF:Hid (∀W,uB w W->uP 75 #[.agg (uU 0 0 { data:= #[] } none 0 0 (some ⟨b,off,none⟩) ol oc), .string key] W fun e w'=>e= .returned (.tuple #[.int .i64 (k:Int), .bool true])/\uB W w'):=by
  intro W hW
  have hof:IsFields W W.heap.size o (some ⟨b,off,none⟩) ol oc:=(IsFields.keep (IsFields.sub (Zk (fun k=>B0<=k) w _) ho) hW).more hW.size
  have:=Yi W o key 0 0 { data:= #[] } none 0 0 (some ⟨b,off,none⟩) ol oc hof
  rw [hk,his] at this;exact this
 have hwf:withF o key x=o.take k++(key,x)::o.drop (k+1):=by rw [withF,his,hk];rfl
 rw [hwf]
 have HBX:=qh (BC.start w (uV cx) 36)
 have HAL:=qh ((Below.refl _ _).alloc (Nat.le_refl _) (.cells (uV cx) 36):uB w _)
 have HX:=qh hx
 have HPF:=qh hpf
 have HCL:=qh hcl
 have HLEN:=qh hlen
 obtain ⟨R,hR⟩:∃R,WithPost w B0 (o.take k++(key,x)::o.drop (k+1))=R:=⟨_,rfl⟩
 rw [hR]
 have HR:=qh hR
 obtain ⟨XA,hXA⟩:∃XA,(cs.take k).flatMap fcells=XA:=⟨_,rfl⟩
 obtain ⟨XB,hXB⟩:∃XB,(cs.drop (k+1)).flatMap fcells=XB:=⟨_,rfl⟩
 have hla:XA.length=k*6:=by rw [<-hXA,Zn fcells 6 (fun _=>rfl),List.length_take,Nat.min_eq_left hkc]
 have hlb:XB.length=(ol - (k+1))*6:=by rw [<-hXB,Zn fcells 6 (fun _=>rfl),List.length_drop,hcl, <-hlen]
 have HA1:Hid (∀u ∈ XA,u.oneCell'=true):=by unfold Hid;rw [<-hXA];exact Y6 _
 have HB1:Hid (∀u ∈ XB,u.oneCell'=true):=by unfold Hid;rw [<-hXB];exact Y6 _
 have HCA:Hid (∀W,uB w W->∀j u,XA[j]? =some u->W.cell? ((⟨b,off,none⟩:Addr).add j)=some u):=by
  intro W hW j u hj
  rw [<-hXA] at hj
  rw [Zw];exact HCELL.out W hW j u (Kg hj)
 have HCB:Hid (∀W,uB w W->∀j u,XB[j]? =some u->W.cell? ((⟨b,off+(k+1)*6,none⟩:Addr).add j)=some u):=by
  intro W hW j u hj
  rw [<-hXB] at hj
  rw [Zw,Nat.add_assoc];exact HCELL.out W hW _ u (Kl hkc2 hj)
 have HXA:=qh hXA
 have HXB:=qh hXB
 clear ho hab hcell hk his hx hpf hcl hlen hwf hR hXA hXB hkc hkc2
 have hol:ol=k+1:=by omega
 have hoc:oc=k+1:=by omega
 cases hol;cases hoc
 go_enter Tryz.func72,Tryz.ntmps72
 go_wp2_with fail
 refine (HF.out _ HAL.out).mono ?_
 rintro e w1 ⟨rfl,hb1⟩
 have bl1:=HAL.out.trans (hb1.mono (by simp))
 have HBX1:=qh (HBX.out.keep hb1 (by simp))
 have zs1:w.heap.size<w1.heap.size:=HBX1.out.lt
 have HBL1:=qh bl1
 have ho1:w1.ownsRow (w.heap.size+1) 75 6 (.slice none 0 0) 0 [] :=⟨rfl, .inl ⟨rfl,rfl⟩⟩
 clear hb1 bl1
 go_wp2_with (first
  |(at_builtin;refine wpList_append_own _ rfl (.tmp 17) (.tmp 20) 34 (by rfl) (w.heap.size+1) 75 i0 _ 6 96 Tryz.underlying34 hi0 hz0 hz1 hz2 rfl (by omega) (.slice none 0 0) 0 [] (by rfl) ho1 ⟨b,off,none⟩ k (k+1) XA (by rfl) hla (HCA.out _ HBL1.out) HA1.out (by unfold maxLen;omega) (by omega) (by omega) ?_;intro v1 w2 hown1 hgrow1 _;have b12:Below (w.heap.size+1) w1 w2:=Zj hgrow1 (fun k hk=>by simp [Value.ownBlock] at hk) (by omega);have BX2:=HBX1.out.keep b12 (by omega);obtain ⟨x0,x1,x2,x3,x4⟩:=row5 BX2.at_;have zs2:=BX2.lt;have HBL2:=qh (HBL1.out.trans (b12.mono (by omega)));have HO1:=qh hown1;have hrl:∀g,v1.ownBlock=some g->w.heap.size+1<=g/\g<w2.heap.size:=hown1.lt;have ho2:=hown1.alloc (.cells #[.string key, .int .u8 cx.k, .int .i64 cx.n, .string cx.s, .slice cx.la cx.ll cx.lc, .slice cx.oa cx.ol cx.oc] 75);have hnw:∀j u,(fcells (key,cx))[j]? =some u->(w2.alloc (.cells #[.string key, .int .u8 cx.k, .int .i64 cx.n, .string cx.s, .slice cx.la cx.ll cx.lc, .slice cx.oa cx.ol cx.oc] 75)).cell? ((⟨w2.heap.size,0,none⟩:Addr).add j)=some u:=World.news_of_block (t:=75) (fr:=(0,0)) (heap_alloc_new w2 (.cells #[.string key, .int .u8 cx.k, .int .i64 cx.n, .string cx.s, .slice cx.la cx.ll cx.lc, .slice cx.oa cx.ol cx.oc] 75));have HNW:=qh hnw;clear hnw hown1 hgrow1 BX2 b12)
  |(at_builtin;refine wpList_append_own _ rfl (.tmp 22) (.tmp 26) 34 (by rfl) (w.heap.size+1) 75 i0 _ 6 96 Tryz.underlying34 hi0 hz0 hz1 hz2 rfl (by omega) v1 (0+k) ([] ++XA) (by rfl) ho2 ⟨w2.heap.size,0,none⟩ 1 1 (fcells (key,cx)) (by rfl) (by rfl) HNW.out (X9 key cx) (by unfold maxLen;omega) (by omega) (by simp;omega) ?_;intro v2 w4 hown2 hgrow2 _;have b24:Below (w.heap.size+1) w2 w4:=(((Below.refl w2.heap.size w2).alloc (Nat.le_refl _) (.cells #[.string key, .int .u8 cx.k, .int .i64 cx.n, .string cx.s, .slice cx.la cx.ll cx.lc, .slice cx.oa cx.ol cx.oc] 75)).mono (by omega)).trans (Zj hgrow2 (fun k hk=>(hrl k hk).1) (by simp;omega));have HBL4:=qh (HBL2.out.trans (b24.mono (by omega)));have zs4:w.heap.size<w4.heap.size:=Nat.lt_of_lt_of_le zs2 b24.size;have hrl2:∀g,v2.ownBlock=some g->w.heap.size+1<=g/\g<w4.heap.size:=hown2.lt;have HO2:=qh hown2;clear hgrow2 b24 hown2)
  |(at_builtin;refine wpList_append_own _ rfl (.tmp 31) (.tmp 34) 34 (by rfl) (w.heap.size+1) 75 i0 _ 6 96 Tryz.underlying34 hi0 hz0 hz1 hz2 rfl (by omega) v2 (0+k+1) ([] ++XA++fcells (key,cx)) (by rfl) HO2.out ⟨b,off,none⟩ 0 0 XB (by rfl) (by omega) (fun j u hj=>by rw [List.getElem?_eq_none (by omega)] at hj;cases hj) HB1.out (by unfold maxLen;omega) (by omega) (by omega) ?_;intro v3 w5 hown3 hgrow3 _;have b45:Below (w.heap.size+1) w4 w5:=Zj hgrow3 (fun k hk=>(hrl2 k hk).1) (by omega);have HBL5:=qh (HBL4.out.trans (b45.mono (by omega)));have HO3:=qh hown3;clear hgrow3 b45 hown3))
 rw [<-HR.out]
 have hcat: [] ++XA++fcells (key,cx)++XB=(cs.take k++(key,cx)::cs.drop (k+1)).flatMap fcells:=by rw [<-HXA.out, <-HXB.out];simp
 have hll:(o.take k++(key,x)::o.drop (k+1)).length=0+k+1+0:=by
  rw [List.length_append,List.length_cons,List.length_drop,List.length_take, <-HLEN.out,Nat.min_eq_left hkl];omega
 have hown:=HO3.out
 rw [hcat, <-hll] at hown
 have hlt3:=hown.lt
 have hsh:Shows (only (fun k=>B0<=k) w) (only (Free B0 v3) w5) w.heap.size:=Zd fun q hq hl=>⟨⟨hq,fun e=>by have:=(hlt3 q e.symm).1;omega⟩,HBL5.out.block q hl⟩
 obtain ⟨a,n,c,hv,hf,hz⟩:=Jm (B0:=B0) (B1:=w.heap.size+1) hown (by omega) (by rw [List.length_append,List.length_append,List.length_cons,List.length_cons,List.length_drop,List.length_drop,List.length_take,List.length_take,HCL.out])
  (PF.with_ HCL.out (fun i hi=>PF.closed o cs _ _ _ _ i hsh HBL5.out.size (HPF.out i hi)) ((HX.out.sub hsh).more HBL5.out.size) hks (by rw [<-HLEN.out];exact hkl) (by rw [<-HLEN.out];omega)) (by rw [hll];omega)
 exact ⟨⟨a,n,c,by rw [hv],hf,hz⟩,HBL5.out⟩
def Neat (oa:Option Addr) (ol oc:Nat):Prop:=(oa=none/\ol=0/\oc=0)∨0<ol
theorem zch (o:List (ByteArray×V)) (key:ByteArray) (x:V):0<(withF o key x).length/\(withF o key x).length<=o.length+1:=by
 have:=Z7 o key
 unfold withF
 rw [List.length_append,List.length_cons,List.length_drop,List.length_take,Nat.min_eq_left this]
 refine ⟨by omega, ?_⟩
 split
 .rename_i h;have:=Z8 h;omega
 .omega
def WithPost2 (w:World) (B0:Nat) (l:List (ByteArray×V)) (e:Ending) (w':World):Prop:=
 (∃a n c,e= .returned (.slice a n c)/\IsFields (only (fun b=>B0<=b) w') w'.heap.size l a n c/\Neat a n c)/\Below w.heap.size w w'
set_option maxRecDepth 100000 in
theorem K6 (w:World) (B0:Nat) (hB0:B0<=w.heap.size) (o:List (ByteArray×V)) (oa:Option Addr) (ol oc:Nat) (ho:IsFields (only (fun k=>B0<=k) w) w.heap.size o oa ol oc) (hne:Neat oa ol oc) (key:ByteArray) (hks:key.size<=140737488355328) (x:V) (xk xn:Int) (xs:ByteArray) (xa:Option Addr) (xl xc:Nat) (ya:Option Addr) (yl yc:Nat) (hx:IsVal (only (fun k=>B0<=k) w) w.heap.size x ⟨xk,xn,xs,xa,xl,xc,ya,yl,yc⟩) (hfew:ol<=1000000):
 uP 72 #[.slice oa ol oc, .string key, .agg (uU xk xn xs xa xl xc ya yl yc)] w (WithPost2 w B0 (withF o key x)):=by
 delta uU uP
 have go:uP 72 #[.slice oa ol oc, .string key, .agg (uU xk xn xs xa xl xc ya yl yc)] w (WithPost w B0 (withF o key x)):=by
  rcases hne with ⟨rfl,rfl,rfl⟩|hp
  .have:o= [] :=List.eq_nil_of_length_eq_zero ho.len.symm
   subst this
   exact zi8 w B0 hB0 key hks x ⟨xk,xn,xs,xa,xl,xc,ya,yl,yc⟩ hx
  .obtain ⟨cs,b,off,_,hab,_,_⟩:=ho.cells
   obtain ⟨rfl,hb⟩:=hab hp
   have hlen:=ho.len
   have hcap:=ho.cap
   have hkl:=Z7 o key
   cases his:fieldIs o key with
   | false=>
     by_cases hk:fieldK o key=oc
     .exact zj7 w B0 hB0 o b off ol oc ho key hks x ⟨xk,xn,xs,xa,xl,xc,ya,yl,yc⟩ hx hp hfew his hk
     .exact zf5 w B0 hB0 o b off ol oc ho key hks x ⟨xk,xn,xs,xa,xl,xc,ya,yl,yc⟩ hx hp hfew his (by omega)
   | true=>
     have hlt:=Z8 his
     by_cases hk:fieldK o key+1=oc
     .exact zie w B0 hB0 o b off ol oc ho key hks x ⟨xk,xn,xs,xa,xl,xc,ya,yl,yc⟩ hx hp hfew his hk
     .exact zlz w B0 hB0 o b off ol oc ho key hks x ⟨xk,xn,xs,xa,xl,xc,ya,yl,yc⟩ hx hp hfew his (by omega)
 refine go.mono ?_
 rintro e w' ⟨⟨a,n,c,rfl,h1,h2⟩,h3⟩
 exact ⟨⟨a,n,c,rfl,h1, .inr (by rw [h1.len];exact (zch o key x).1)⟩,h3⟩
def keyP (l:List Tk) (u:Nat):ByteArray:=match l[u]? with
 |some t=>plainS t.s
 |none=> .empty
def bL (f:List Tk->V×Nat) (l:List Tk):Nat->List V×Nat
 |0=>([],1)
 |i+1=>((bL f l i).1++ [(f (l.drop (bL f l i).2)).1],(bL f l i).2+(f (l.drop (bL f l i).2)).2)
def bO (f:List Tk->V×Nat) (l:List Tk):Nat->List (ByteArray×V)×Nat
 |0=>([],1)
 |i+1=>(withF (bO f l i).1 (keyP l (bO f l i).2) (f (l.drop (bO f l i).2)).1,(bO f l i).2+(f (l.drop (bO f l i).2)).2)
def leafP (t:Tk):V:=if t.k % 6=1 then .mk 1 (t.n % 2) .empty [] [] else if t.k % 6=2 then .mk 2 t.n .empty [] [] else if t.k % 6=3 then .mk 3 0 (plainS t.s) [] []
 else if t.k % 6=4 then .mk 4 0 .empty [] [] else if t.k % 6=5 then .mk 5 0 .empty [] [] else V.none
def oneP:Nat->List Tk->V×Nat
 |_, [] =>(V.none,0)
 |0,t::_=>(leafP t,1)
 | d+1,t::r=>if t.k % 6=4 then (.mk 4 0 .empty (bL (oneP d) (t::r) (t.m % 4).toNat).1 [],(bL (oneP d) (t::r) (t.m % 4).toNat).2)
   else if t.k % 6=5 then (.mk 5 0 .empty [] (bO (oneP d) (t::r) (t.m % 4).toNat).1,(bO (oneP d) (t::r) (t.m % 4).toNat).2)
   else (leafP t,1)
theorem zb7 {f:List Tk->V×Nat} (hf:∀l,(f l).2<=l.length) {l:List Tk} (hl:1<=l.length) (j:Nat):1<=(bL f l j).2/\(bL f l j).2<=l.length/\(bL f l j).1.length=j:=by
 induction j with
 |zero=>exact ⟨Nat.le_refl _,hl,rfl⟩
 | succ j ih=>
   have:=hf (l.drop (bL f l j).2)
   rw [List.length_drop] at this
   rw [bL]
   refine ⟨by dsimp only;omega,by dsimp only;omega,by dsimp only;rw [List.length_append,List.length_singleton];omega⟩
theorem zdz {f:List Tk->V×Nat} (hf:∀l,(f l).2<=l.length) {l:List Tk} (hl:1<=l.length) (j:Nat):1<=(bO f l j).2/\(bO f l j).2<=l.length/\(bO f l j).1.length<=j:=by
 induction j with
 |zero=>exact ⟨Nat.le_refl _,hl,Nat.le_refl _⟩
 | succ j ih=>
   have:=hf (l.drop (bO f l j).2)
   rw [List.length_drop] at this
   rw [bO]
   refine ⟨by dsimp only;omega,by dsimp only;omega, ?_⟩
   have:=(zch (bO f l j).1 (keyP l (bO f l j).2) (f (l.drop (bO f l j).2)).1).2
   dsimp only;omega
theorem Jn (d:Nat):∀l,(oneP d l).2<=l.length:=by
 induction d with
 | zero=>
   intro l
   cases l with
   |nil=>simp [oneP]
   |cons t r=>simp [oneP]
 | succ d ih=>
   intro l
   cases l with
   |nil=>simp [oneP]
   | cons t r=>
     rw [oneP]
     split
     .exact (zb7 ih (by simp) _).2.1
     .split
      .exact (zdz ih (by simp) _).2.1
      .simp
theorem Xb (s:ByteArray):(plainS s).size<=40:=by
 show (plainL s.data.toList).toArray.size<=40
 simp [plainL];omega
theorem zcd (l:List Tk) (u:Nat):(keyP l u).size<=40:=by
 unfold keyP
 split
 .exact Xb _
 .decide
theorem zen (cl:List VC):∀i,(cl.flatMap vcells).take (i*5)=(cl.take i).flatMap vcells:=by
 induction cl with
 |nil=>intro i;simp
 | cons c r ih=>
   intro i
   cases i with
   |zero=>simp
   | succ i=>
     rw [List.flatMap_cons,List.take_succ_cons,List.flatMap_cons, <-ih i,List.take_append,List.take_of_length_le (by simp [vcells];omega),show (i+1)*5 - (vcells c).length=i*5 by simp [vcells];omega]
theorem za7 (cl:List VC):∀i,(cl.flatMap vcells).drop (i*5)=(cl.drop i).flatMap vcells:=by
 induction cl with
 |nil=>intro i;simp
 | cons c r ih=>
   intro i
   cases i with
   |zero=>simp
   | succ i=>
     rw [List.flatMap_cons,List.drop_succ_cons, <-ih i,List.drop_append,List.drop_eq_nil_of_le (by simp [vcells];omega),List.nil_append,show (i+1)*5 - (vcells c).length=i*5 by simp [vcells];omega]
structure VRow (w:World) (base:Nat) (u:Value) (l:List V) (cl:List VC):Prop where
 len:cl.length=l.length
 own:w.ownsRow base 36 5 u l.length (cl.flatMap vcells)
 els:∀i (h:i<l.length) (h':i<cl.length),IsVal (only (fun k=>base<=k/\u.ownBlock≠some k) w) w.heap.size l[i] cl[i]
theorem VRow.of {w:World} {base:Nat} {l:List V} {d:VC} {x:V} (h:Whole w base x d) (hx:x.ls=l):∃cl,VRow w base (.slice d.la d.ll d.lc) l cl:=by
 obtain ⟨h1,h2,cl,co,S,W0,h3⟩:=h
 subst hx
 refine ⟨cl,h3.lenL,h3.rowL,fun i hi hi'=> ?_⟩
 obtain ⟨T,t1,_,t3⟩:=h3.elsL i hi hi' (by omega)
 refine t3.isVal fun k hk=> ?_
 have h0:=h3.mono 0 i (Nat.zero_le _) (by omega)
 have:=t1 k hk
 exact ⟨by have:=h3.s0;omega,fun e=>by have:=h3.loL k e;omega⟩
theorem IsVal.rowed {w w':World} {base:Nat} {u u':Value} {x:V} {c:VC} (h:IsVal (only (fun k=>base<=k/\u.ownBlock≠some k) w) w.heap.size x c) (hg:w.grownBy w' u.ownBlock) (hu:u'.ownBlock=u.ownBlock∨u'.ownBlock=some w.heap.size):
 IsVal (only (fun k=>base<=k/\u'.ownBlock≠some k) w') w'.heap.size x c:=
 (h.sub (Zd fun k hk hl=>⟨⟨hk.1,fun e=>by
  rcases hu with hu|hu
  .exact hk.2 (hu ▸ e)
  .rw [hu] at e;injection e with e;omega⟩,hg.block k hl (fun e=>hk.2 e.symm)⟩)).more hg.size
theorem VRow.ins {w w':World} {base i:Nat} {u u':Value} {l:List V} {cl:List VC} {x:V} {cx:VC} (h:VRow w base u l cl) (hi:i<=l.length) (hx:IsVal (only (fun k=>base<=k/\u.ownBlock≠some k) w) w.heap.size x cx)
 (ho:w'.ownsRow base 36 5 u' (l.length+1) ((cl.flatMap vcells).take (i*5)++vcells cx++(cl.flatMap vcells).drop (i*5))) (hg:w.grownBy w' u.ownBlock) (hu:u'.ownBlock=u.ownBlock∨u'.ownBlock=some w.heap.size):
 VRow w' base u' (insL l i x) (cl.take i++cx::cl.drop i):=by
 have hl:=h.len
 refine ⟨by simp [insL,hl], ?_,fun k hk hk'=> ?_⟩
 .rw [zen,za7] at ho
  have e:(insL l i x).length=l.length+1:=by simp [insL];omega
  rw [e,List.flatMap_append,List.flatMap_cons, <-List.append_assoc]
  exact ho
 .simp only [insL] at hk ⊢
  by_cases h1:k<i
  .rw [List.getElem_append_left (by rw [List.length_take];omega),List.getElem_append_left (by rw [List.length_take];omega),List.getElem_take,List.getElem_take]
   exact (h.els k (by omega) (by omega)).rowed hg hu
  .rw [List.getElem_append_right (by rw [List.length_take];omega),List.getElem_append_right (by rw [List.length_take];omega)]
   have e1:k - (l.take i).length=k - i:=by rw [List.length_take];omega
   have e2:k - (cl.take i).length=k - i:=by rw [List.length_take];omega
   simp only [e1,e2]
   rw [List.length_append,List.length_cons,List.length_take,List.length_drop] at hk
   by_cases h2:k - i=0
   .rw [List.getElem_cons,List.getElem_cons,dif_pos h2,dif_pos h2]
    exact hx.rowed hg hu
   .rw [List.getElem_cons,List.getElem_cons,dif_neg h2,dif_neg h2,List.getElem_drop,List.getElem_drop]
    exact (h.els (i+(k - i - 1)) (by omega) (by omega)).rowed hg hu
theorem VRow.rem {w w':World} {base i:Nat} {u u':Value} {l:List V} {cl:List VC} (h:VRow w base u l cl) (hi:i<l.length)
 (ho:w'.ownsRow base 36 5 u' (l.length - 1) ((cl.flatMap vcells).take (i*5)++(cl.flatMap vcells).drop ((i+1)*5))) (hg:w.grownBy w' u.ownBlock) (hu:u'.ownBlock=u.ownBlock∨u'.ownBlock=some w.heap.size):
 VRow w' base u' (remL l i) (cl.take i++cl.drop (i+1)):=by
 have hl:=h.len
 refine ⟨by simp [remL,hl], ?_,fun k hk hk'=> ?_⟩
 .rw [zen,za7] at ho
  have e:(remL l i).length=l.length - 1:=by simp [remL];omega
  rw [e,List.flatMap_append]
  exact ho
 .simp only [remL] at hk ⊢
  rw [List.length_append,List.length_take,List.length_drop] at hk
  by_cases h1:k<i
  .rw [List.getElem_append_left (by rw [List.length_take];omega),List.getElem_append_left (by rw [List.length_take];omega),List.getElem_take,List.getElem_take]
   exact (h.els k (by omega) (by omega)).rowed hg hu
  .rw [List.getElem_append_right (by rw [List.length_take];omega),List.getElem_append_right (by rw [List.length_take];omega)]
   have e1:k - (l.take i).length=k - i:=by rw [List.length_take];omega
   have e2:k - (cl.take i).length=k - i:=by rw [List.length_take];omega
   simp only [e1,e2,List.getElem_drop]
   exact (h.els (i+1+(k - i)) (by omega) (by omega)).rowed hg hu
set_option maxRecDepth 100000 in
theorem zgt (w:World) (s key:ByteArray) (c:VC) (kb:Nat) (hk:w.cell? ⟨kb,0,none⟩=some (.string key)):
 uP 119 #[.agg #[.string s, .int .u8 c.k, .int .i64 c.n, .string c.s, .slice c.la c.ll c.lc, .slice c.oa c.ol c.oc], .pointer (some ⟨kb,0,none⟩)] w fun e w'=>e= .returned (.bool (!Op.bytesLess s.toList key.toList))/\uB w w':=by
 delta uB uP
 have hkb:kb<w.heap.size:=World.block_lt_of_cell? w _ hk
 go_enter Tryz.func119,Tryz.ntmps119
 go_wp2_with fail
 go_returns
 exact ⟨rfl,(Below.refl _ _).alloc (Nat.le_refl _) _⟩
def fieldAt (o:List (ByteArray×V)) (key:ByteArray):Int:=if fieldK o key<o.length then (fieldK o key:Int) else -1
set_option maxRecDepth 100000 in
theorem zpw (w:World) (o:List (ByteArray×V)) (key:ByteArray) (a:Option Addr) (n c:Nat) (h:IsFields w w.heap.size o a n c) (kb:Nat) (hk:w.cell? ⟨kb,0,none⟩=some (.string key)):
 uP 118 #[.slice a n c, .func (.func 119) #[] #[.pointer (some ⟨kb,0,none⟩)]] w fun e w'=>e= .returned (.int .i64 (fieldAt o key))/\uB w w':=by
 delta uB uP
 have hkb:kb<w.heap.size:=World.block_lt_of_cell? w _ hk
 have k1:=h.max;have k2:=h.few
 have HLn:=qh h.len
 have HI:=qh h
 have HK:=qh hk
 have eg:=enters_of Tryz.func119 (by kernel_rfl) rfl
 clear h hk
 obtain ⟨R,hR⟩:∃R,fieldAt o key=R:=⟨_,rfl⟩
 rw [hR]
 have HR:=qh hR
 clear hR
 go_enter Tryz.func118,Tryz.ntmps118
 go_wp2_with fail
 go_loopw [5,8] (fun _ i wr=>∃j:Nat,j<=n/\i= .int .i64 j/\Hid (∀i (hi:i<o.length),i<j->Op.bytesLess (o[i]'hi).1.toList key.toList=true)/\uB w wr) (fun _ i _=>n - (intOf i).toNat)
 case atStart=>exact ⟨0,Nat.zero_le _,rfl,qh (fun i hi hj=>by omega),Below.refl _ _⟩
 case round=>
  obtain ⟨j,hj,rfl,hall,hbl⟩:=hrel
  have HBL:=qh hbl
  by_cases hlt:j<n
  .obtain ⟨b,o',f,hp,rfl,hbB,hkey,hks,hv,_⟩:=(HI.out.keep hbl).get hlt
   have c0:=hv.c0;have c1:=hv.c1;have c2:=hv.c2;have c3:=hv.c3;have c4:=hv.c4
   have hbw:b<wr.heap.size:=World.block_lt_of_cell? wr _ hkey
   obtain ⟨nb,hnb⟩:∃nb,(!Op.bytesLess (o[j]'hp).1.toList key.toList)=nb:=⟨_,rfl⟩
   have HC:Hid (uP 119 #[.agg #[.string (o[j]'hp).1, .int .u8 f.k, .int .i64 f.n, .string f.s, .slice f.la f.ll f.lc, .slice f.oa f.ol f.oc], .pointer (some ⟨kb,0,none⟩)] wr fun e w'=>e= .returned (.bool nb)/\uB wr w'):=by
    rw [<-hnb];exact zgt wr _ key f kb (Za hbl HK.out hkb)
   cases nb with
   | false=>
     have hlb:Op.bytesLess (o[j]'hp).1.toList key.toList=true:=by simpa using hnb
     have HLB:=qh hlb
     clear hbl hlb hv hnb
     go_wp2_with fail
     refine HC.out.mono ?_
     rintro e w' ⟨rfl,hb'⟩
     go_wp2_with fail
     go_roundw
     case rel=>exact ⟨j+1,by omega,by go_num,qh (fun i hi hij=>by
      by_cases e:i=j
      .subst e;exact HLB.out
      .exact hall.out i hi (by omega)),HBL.out.on hb' HBL.out.size⟩
     case measure=>simp [intOf];omega
   | true=>
     have hlb:Op.bytesLess (o[j]'hp).1.toList key.toList=false:=by simpa using hnb
     have hf:fieldK o key=j:=Qd o key j hall.out (by omega) (.inr ⟨hp,hlb⟩)
     have HF:=qh hf
     clear hbl hlb hv hf hnb
     go_wp2_with fail
     refine HC.out.mono ?_
     rintro e w' ⟨rfl,hb'⟩
     go_wp2_with fail
     go_ret
     exact ⟨by rw [<-HR.out,fieldAt,HF.out,if_pos hp];rfl,HBL.out.on hb' HBL.out.size⟩
  .have hj2:j=n:=by omega
   have hf:fieldK o key=n:=Qd o key n (fun i hi hin=>hall.out i hi (by omega)) (by rw [HLn.out];exact Nat.le_refl _) (.inl HLn.out)
   have HF:=qh hf
   clear hbl hf hj2
   go_wp2_with fail
   go_ret
   exact ⟨by rw [<-HR.out,fieldAt,HF.out,if_neg (by have:=HLn.out;omega)];rfl,HBL.out⟩
theorem zji (o:List (ByteArray×V)) (key:ByteArray):fieldK o key<=o.length:=by
 unfold fieldK
 exact (List.takeWhile_sublist _).length_le
set_option maxRecDepth 100000 in
theorem Qj (w:World) (o:List (ByteArray×V)) (key:ByteArray) (c:VC) (h:IsFields w w.heap.size o c.oa c.ol c.oc):
 uP 79 #[.agg (uV c), .string key] w fun e w'=>e= .returned (.tuple #[.int .i64 (fieldK o key:Int), .bool (fieldIs o key)])/\uB w w':=by
 delta uV uB uP
 have k1:=h.max;have k2:=h.few
 have HL:=qh h.len
 have HI:=qh h
 have hal:uB w ((w.alloc (.cells (uV c) 36)).alloc (.cells #[.string key] 9)):=((Below.refl _ _).alloc (Nat.le_refl _) _).alloc (by simp) _
 have hbc:=(BC.start w (uV c) 36).keep ((Below.refl _ _).alloc (Nat.le_refl _) (.cells #[.string key] 9)) (by simp)
 have hbk:=BC.start (w.alloc (.cells (uV c) 36)) #[.string key] 9
 rw [World.size_alloc] at hbk
 obtain ⟨w1,hw1⟩:∃w1,(w.alloc (.cells (uV c) 36)).alloc (.cells #[.string key] 9)=w1:=⟨_,rfl⟩
 rw [hw1] at hal hbc hbk
 have HW1:=qh hw1
 obtain ⟨k,hk⟩:∃k,fieldK o key=k:=⟨_,rfl⟩
 obtain ⟨is,his⟩:∃is,fieldIs o key=is:=⟨_,rfl⟩
 have hC:=zpw w1 o key c.oa c.ol c.oc ((HI.out.keep hal).more hal.size) (w.heap.size+1) (hbk.at_ 0 _ rfl)
 rw [fieldAt,hk] at hC
 rw [hk,his]
 have HC:=qh hC
 have HK:=qh hk
 have HIS:=qh his
 have hkl:=zji o key
 rw [hk, <-HL.out] at hkl
 have b0:=hbc.at_ 4 _ rfl
 have b1:=hbk.at_ 0 _ rfl
 have HAL:=qh hal
 have HBC:=qh hbc
 have HBK:=qh hbk
 clear hw1 hC hk his hal hbc hbk h
 go_enter Tryz.func79,Tryz.ntmps79
 go_wp2_with fail
 rw [HW1.out]
 refine HC.out.mono ?_
 rintro e w' ⟨rfl,hb'⟩
 have D:=HBC.out.keep hb' HBC.out.lt
 have D2:=HBK.out.keep hb' HBK.out.lt
 have q4:=D.at_ 4 _ rfl
 have q0:=D2.at_ 0 _ rfl
 have z1:=D.lt;have z2:=D2.lt
 have HB':=qh (HAL.out.trans (hb'.mono HAL.out.size))
 clear D D2 b0 b1
 by_cases hlt:k<o.length
 .rw [if_pos hlt]
  obtain ⟨b,o',f,hp,hoa,hbB,hkey,hks,hv,_⟩:=(HI.out.keep HB'.out).get (k:=k) (by have:=HL.out;omega)
  rw [hoa] at q4
  have hbw:b<w'.heap.size:=World.block_lt_of_cell? w' _ hkey
  obtain ⟨eb,heb⟩:∃eb,((o[k]'hp).1.toList==key.toList)=eb:=⟨_,rfl⟩
  have hi:is=eb:=by
   rw [<-HIS.out,fieldIs,HK.out,List.getElem?_eq_getElem hp];exact heb
  have HII:=qh hi
  have hlt2:k<c.ol:=by have:=HL.out;omega
  clear hi hv
  go_wp2_with fail
  go_quiet (fail)
  go_wp2_with fail
  go_returns
  exact ⟨by rw [HII.out];rfl,Ye HB'.out _⟩
 .rw [if_neg hlt]
  have hkn:k=c.ol:=by have:=HL.out;omega
  have hi:is=false:=by
   rw [<-HIS.out,fieldIs,HK.out,List.getElem?_eq_none (by omega)]
  have HKN:=qh hkn
  have HII:=qh hi
  clear hkn hi
  go_wp2_with fail
  go_returns
  exact ⟨by rw [HKN.out,HII.out];rfl,HB'.out⟩
end Go.Proofs.YtnjgbiachcfigaaGreatDoor
