/-
  Contracts of the functions that the law reaches: val.Sound: of a value in memory it is.
-/
import Derived.Test.YtnjgbiachcfigaaGreatDoorIw12
namespace Go.Proofs.YtnjgbiachcfigaaGreatDoor
open Go.RowKit Go.Shelf
set_option maxHeartbeats 8000000
attribute [local go_sem] Oper.semAt_some
set_option maxRecDepth 100000 in
theorem zh5 (a:V):VSound a:=by
 induction a using V.ind with
 |h k n s l o ihl iho=>
 intro w c ha hT
 obtain ⟨rfl,rfl,rfl,cbd,hl,ho⟩:=ha.lists
 obtain ⟨ks,hks,hpr⟩:=zao w VSound l o c hl ho ihl iho
 clear ihl iho ha
 refine callsIn_wide (n:=3)|>.1 ?_
 refine callsIn_of_wp_marks Tryz.func56 rfl trivial ?_ rfl
 simp only [Tryz.ntmps56,List.size_toArray,List.length_cons,List.length_nil,Nat.reduceAdd,Nat.reduceSub,Array.replicate_succ,Array.replicate_zero,List.push_toArray,List.append_toArray,List.nil_append,List.cons_append]
 obtain ⟨W0,hW0⟩:∃W0,((w.alloc (.cells (uV c) 36)).alloc (.cells #[.bool false] 4))=W0:=⟨_,rfl⟩
 have hst0:ValAt W0 w.heap.size 0 c:=by
  rw [<-hW0];exact (Y9 w c _).keep (B:=w.heap.size+1) ((Below.refl _ _).alloc (by simp) _) (by omega)
 have hres0:Boxed W0 (w.heap.size+1) 4 (.bool false):=by
  rw [<-hW0]
  have h:=Boxed.new (w.alloc (.cells (uV c) 36)) 4 (.bool false)
  rw [World.size_alloc] at h
  exact h
 have hB0:uB w W0:=by rw [<-hW0];exact ((Below.refl _ _).alloc (Nat.le_refl _) _).alloc (by simp) _
 have hz0:W0.heap.size=w.heap.size+2:=by rw [<-hW0];simp
 have hp1:=zhg W0 c (hT.below hB0) cbd
 have HL1:=qh hl.len;have HL2:=qh ho.len
 have hW:=hW0
 cases hp:plainB c.k c.n c.s c.ll c.ol with
 | false=>
   rw [hp, <-hW0] at hp1
   have H1:=qh hp1
   have HPP:Hid ((V.mk c.k c.n c.s l o).sound=false):=zdk (by rw [<-HL1.out, <-HL2.out];exact hp)
   obtain ⟨R,hR⟩:∃R,(V.mk c.k c.n c.s l o).sound=R:=⟨_,rfl⟩
   rw [hR]
   have HR:=qh hR
   have HW:=qh hW0
   clear hR hp1 hp hW0 hW
   gi_wp2_with (refine ⟨trivial, ?_⟩;gi_at_call 95;refine (callsIn_wide.2 H1.out).mono ?_;rintro e w1 ⟨rfl,hb1⟩;rw [HW.out] at hb1;have cR:=(hb1.cell (p:=⟨w.heap.size+1,0,none⟩) (by simp [hz0])).trans hres0.cell;have fR:=(hb1.frozen (p:=⟨w.heap.size+1,0,none⟩) (by simp [hz0])).trans hres0.frozen)
   refine ⟨trivial, ?_⟩
   gi_wp2
   have hres1:Boxed w1 (w.heap.size+1) 4 (.bool false):=(hb1.block _ (by omega)).trans hres0
   have hc2:=(hres1.set (.bool false)).cell
   refine ⟨.bool false,by simp [results,Tryz.results56,go_sem,hc2],Zc (by rw [<-HR.out,HPP.out]),(hB0.on hb1 hB0.size).setCell (by simp) _⟩
 | true =>
   rw [hp, <-hW0] at hp1
   have H1:=qh hp1
   have HPP:Hid ((V.mk c.k c.n c.s l o).sound=(rising o && soundL l && soundO o)):=by simp [Hid,V.sound, <-HL1.out, <-HL2.out,hp]
   obtain ⟨R,hR⟩:∃R,(V.mk c.k c.n c.s l o).sound=R:=⟨_,rfl⟩
   rw [hR]
   have HR:=qh hR
   have HW:=qh hW0
   clear hR hp1 hp hW0 hW
   gi_wp2_with (refine ⟨trivial, ?_⟩;gi_at_call 95;refine (callsIn_wide.2 H1.out).mono ?_;rintro e w1 ⟨rfl,hb1⟩;rw [HW.out] at hb1;have hv1:=hst0.keep hb1 (by omega);have q4:w1.cell? ⟨w.heap.size,4,none⟩=some (.slice c.oa c.ol c.oc):=hv1.c4)
   have hB1:=hB0.on hb1 hB0.size
   have hri:=zja o w1 _ _ _ (ho.later_ hB1)
   have hres1:Boxed w1 (w.heap.size+1) 4 (.bool false):=(hb1.block _ (by omega)).trans hres0
   have cR:=hres1.cell
   have fR:=hres1.frozen
   cases hr:rising o with
   | false=>
     rw [hr] at hri
     have H2:=qh hri
     have Hr:=qh hr
     clear hri hr
     gi_wp2_with (refine ⟨trivial, ?_⟩;gi_at_call 96;refine (callsIn_wide.2 H2.out).mono ?_;rintro e w2 ⟨rfl,hb2⟩;have cR2:=(hb2.cell (p:=⟨w.heap.size+1,0,none⟩) (by exact hres1.lt)).trans cR;have fR2:=(hb2.frozen (p:=⟨w.heap.size+1,0,none⟩) (by exact hres1.lt)).trans fR)
     have hr2:Boxed w2 (w.heap.size+1) 4 (.bool false):=(hb2.block _ hres1.lt).trans hres1
     have hc2:=(hr2.set (.bool false)).cell
     refine ⟨.bool false,by simp [results,Tryz.results56,go_sem,hc2],Zc (by rw [<-HR.out,HPP.out,Hr.out];simp),(hB1.on hb2 hB1.size).setCell (by simp) _⟩
   | true =>
     rw [hr] at hri
     have H2:=qh hri
     have Hr:=qh hr
     clear hri hr
     gi_wp2_with (first|(refine ⟨trivial, ?_⟩;gi_at_call 96;refine (callsIn_wide.2 H2.out).mono ?_;rintro e w2 ⟨rfl,hb2⟩;have hv2:=hv1.keep hb2 (by have:=hb1.size;omega);have z0:w2.cell? ⟨w.heap.size,0,none⟩=_:=hv2.c0;have z1:w2.cell? ⟨w.heap.size,1,none⟩=_:=hv2.c1;have z2:w2.cell? ⟨w.heap.size,2,none⟩=_:=hv2.c2;have z3:w2.cell? ⟨w.heap.size,3,none⟩=_:=hv2.c3;have z4:w2.cell? ⟨w.heap.size,4,none⟩=_:=hv2.c4)|(refine ⟨trivial, ?_⟩;gi_at_call 97;refine (zad _ _ trivial rfl c _).mono ?_;rintro e w' ⟨rfl,rfl⟩))
     have hB2:=hB1.on hb2 hB1.size
     have hres2:Boxed w2 (w.heap.size+1) 4 (.bool false):=(hb2.block _ hres1.lt).trans hres1
     have hz2:w.heap.size+2<=w2.heap.size:=by have:=hb1.size;have:=hb2.size;omega
     clear z0 z1 z2 z3 z4 hb2 hb1 cR fR hres1 hB1 hres0 hst0 q4 hv1
     obtain ⟨W3,hW3⟩:∃W3,(w2.alloc (.cells (uV c) 36))=W3:=⟨_,rfl⟩
     have hbx:ValAt W3 w2.heap.size 0 c:=by rw [<-hW3];exact Y9 w2 c _
     have hB3:uB w W3:=by rw [<-hW3];exact hB2.alloc hB2.size _
     have hres3:Boxed W3 (w.heap.size+1) 4 (.bool false):=by rw [<-hW3];exact hres2.alloc _
     have hz3:W3.heap.size=w2.heap.size+1:=by rw [<-hW3];simp
     rw [hW3]
     clear hW3
     refine wpIn_rangeFunc_ownH (α:=Kid w VSound) rfl (by omega) (gf:=131) (lb:= #[.pointer (some ⟨w2.heap.size,0,none⟩)]) rfl trivial (enters_of Tryz.func131 (by kernel_rfl) rfl)
      (zau Fence.wide 2 trivial rfl (by omega) w VSound w2.heap.size c cbd ks W3 w.heap.size (by omega) (by omega) hbx (hks.keep (.of_below_any hB3))) zbl (zat (by omega) (by omega)) (Below.refl _ _) (fun _=>rfl)
      (fun pre W=>(Boxed W (w.heap.size+1) 4 (.bool false))/\uB w W/\W3.heap.size<=W.heap.size/\Hid (soundO (pre.map Kid.pair)=true))
      (fun j pre W=>(Boxed W (w.heap.size+1) 4 (.bool false))/\uB w W/\(j= .ret/\Hid (soundO (pre.map Kid.pair)=false)))
      (OwnFrom.and (Own.from (boxed_own _ _ _) _) (OwnFrom.and (ownFrom_below (Nat.le_refl _) (by omega)) (OwnFrom.and (fun _ _ _ _ hs hg _=>Nat.le_trans hs hg.size) (fun _ _ _ _ hs _ _=>hs))))
      (fun _=>OwnFrom.and (Own.from (boxed_own _ _ _) _) (OwnFrom.and (ownFrom_below (Nat.le_refl _) (by omega)) (fun _ _ _ _ hs _ _=>hs)))
      ⟨hres3,hB3,Nat.le_refl _,rfl⟩
      (fun x a' W=>∃Bx,W3.heap.size<=Bx/\ValAt W Bx 0 x.kv/\a'= { tmps:= #[.agg #[.int .u8 c.k, .int .i64 c.n, .string c.s, .slice c.la c.ll c.lc, .slice c.oa c.ol c.oc], .pointer (some ⟨w.heap.size,0,none⟩), .pointer (some ⟨w.heap.size+1,0,none⟩), .string x.kk, .pointer (some ⟨Bx,0,none⟩), .agg #[.int .u8 c.k, .int .i64 c.n, .string c.s, .slice c.la c.ll c.lc, .slice c.oa c.ol c.oc], .bool true, .bool false, .bool false, .pointer (some ⟨w.heap.size,4,none⟩), .slice c.oa c.ol c.oc, .bool true, .bool false, .bool false, .agg #[.int .u8 c.k, .int .i64 c.n, .string c.s, .slice c.la c.ll c.lc, .slice c.oa c.ol c.oc], .func (.func 131) #[] #[.pointer (some ⟨w2.heap.size,0,none⟩)], .string x.kk, .agg #[.int .u8 x.kv.k, .int .i64 x.kv.n, .string x.kv.s, .slice x.kv.la x.kv.ll x.kv.lc, .slice x.kv.oa x.kv.ol x.kv.oc],undef,undef,undef,undef,undef,undef,undef,undef],defers:= [] })
      (fun x a' _ X Y row hs hg hr=>by
       obtain ⟨Bx,h1,h2,h3⟩:=hs
       exact ⟨Bx,h1,ValAt.own (β:=Unit) Bx 0 (fun _=>x.kv) () X Y row h2 hg (fun r e=>(hr r e).2),h3⟩)
      ?assign ?body ?done ?stop
     case assign=>
      rintro l pre x W K ⟨bS1,hB1,hz1,hJ⟩ hK
      dsimp only [Kid.encs]
      gi_wp2
      exact hK _ _ ((KeepsOthers.alloc _ _).from _) (KeepAt.alloc W _ (by omega) (by omega)) ⟨bS1.alloc _,hB1.alloc hB1.size _,by simp;omega,hJ⟩ ⟨W.heap.size,hz1,Y9 W x.kv _,rfl⟩
     case body=>
      rintro l pre x a' W hl _ ⟨bS1,hB1,hz1,hJ⟩ ⟨Bx,hBx,vX,rfl⟩ hlt
      have cS:=bS1.cell
      have fS:=bS1.frozen
      have hBlt:Bx<W.heap.size:=World.block_lt_of_cell? W ⟨Bx,0,none⟩ vX.c0
      have hTW:=hT.below hB1
      have hv0:=Ym x.kk W x.sz hTW
      cases hv:Lib.validD x.kk.data.toList with
      | false=>
        rw [hv] at hv0
        have H:=qh hv0
        have HV:=qh hv
        clear hv hv0
        gi_wp2_with (refine ⟨trivial, ?_⟩;gi_at_call 52;refine (CallsIn.inRound l (callsIn_wide.2 H.out)).mono ?_;rintro e w' ⟨rfl,hb⟩;have cS':=(hb.cell (p:=⟨w.heap.size+1,0,none⟩) (by exact bS1.lt)).trans cS;have fS':=(hb.frozen (p:=⟨w.heap.size+1,0,none⟩) (by exact bS1.lt)).trans fS)
        refine ⟨trivial, ?_⟩
        gi_wp2
        have hbx':Boxed w' (w.heap.size+1) 4 (.bool false):=(hb.block _ bS1.lt).trans bS1
        exact ⟨((Jb hb).trans (KeepsOthers.setCell _ _ _)).from _,hbx'.set _,(hB1.on hb hB1.size).setCell (by simp) _,rfl,zer pre x (.inl HV.out)⟩
      | true=>
        rw [hv] at hv0
        have H:=qh hv0
        have HV:=qh hv
        clear hv hv0
        have hsx:=fun (W':World) (h:uB w W')=>x.p W' x.kv (x.is.later_ h) (hT.below h)
        cases hx:x.v.sound with
        | false=>
          rw [hx] at hsx
          have H2:=qh hsx
          have HX:=qh hx
          clear hsx hx
          gi_wp2_with (first|(refine ⟨trivial, ?_⟩;gi_at_call 52;refine (CallsIn.inRound l (callsIn_wide.2 H.out)).mono ?_;rintro e w' ⟨rfl,hb⟩;have vX':=vX.keep hb hBlt;have y0:w'.cell? ⟨Bx,0,none⟩=_:=vX'.c0;have y1:w'.cell? ⟨Bx,1,none⟩=_:=vX'.c1;have y2:w'.cell? ⟨Bx,2,none⟩=_:=vX'.c2;have y3:w'.cell? ⟨Bx,3,none⟩=_:=vX'.c3;have y4:w'.cell? ⟨Bx,4,none⟩=_:=vX'.c4;clear vX vX')|(refine ⟨trivial, ?_⟩;gi_at_call 56;refine (CallsIn.inRound l (callsIn_wide.2 (H2.out _ (hB1.on hb hB1.size)))).mono ?_;rintro e w3 ⟨rfl,hb3⟩;have hb4:=hb.on hb3 hb.size;have cS':=(hb4.cell (p:=⟨w.heap.size+1,0,none⟩) (by exact bS1.lt)).trans cS;have fS':=(hb4.frozen (p:=⟨w.heap.size+1,0,none⟩) (by exact bS1.lt)).trans fS))
          have hbx':Boxed w3 (w.heap.size+1) 4 (.bool false):=(hb4.block _ bS1.lt).trans bS1
          exact ⟨((Jb hb4).trans (KeepsOthers.setCell _ _ _)).from _,hbx'.set _,(hB1.on hb4 hB1.size).setCell (by simp) _,rfl,zer pre x (.inr HX.out)⟩
        | true=>
          rw [hx] at hsx
          have H2:=qh hsx
          have HX:=qh hx
          clear hsx hx
          gi_wp2_with (first|(refine ⟨trivial, ?_⟩;gi_at_call 52;refine (CallsIn.inRound l (callsIn_wide.2 H.out)).mono ?_;rintro e w' ⟨rfl,hb⟩;have vX':=vX.keep hb hBlt;have y0:w'.cell? ⟨Bx,0,none⟩=_:=vX'.c0;have y1:w'.cell? ⟨Bx,1,none⟩=_:=vX'.c1;have y2:w'.cell? ⟨Bx,2,none⟩=_:=vX'.c2;have y3:w'.cell? ⟨Bx,3,none⟩=_:=vX'.c3;have y4:w'.cell? ⟨Bx,4,none⟩=_:=vX'.c4;clear vX vX')|(refine ⟨trivial, ?_⟩;gi_at_call 56;refine (CallsIn.inRound l (callsIn_wide.2 (H2.out _ (hB1.on hb hB1.size)))).mono ?_;rintro e w3 ⟨rfl,hb3⟩;have hb4:=hb.on hb3 hb.size))
          have hbx':Boxed w3 (w.heap.size+1) 4 (.bool false):=(hb4.block _ bS1.lt).trans bS1
          exact ⟨(Jb hb4).from _, .of_below hb4 (by omega) (by omega),hbx',hB1.on hb4 hB1.size,by have:=hb4.size;omega,ziz pre x hJ.out HV.out HX.out⟩
     case done=>
      rintro D ys W hD rfl ⟨bS,hB,hz1,hJ⟩ hK
      have cS:=bS.cell
      have fS:=bS.frozen
      gi_wp2
      have hK2:(W.setCell ⟨w.heap.size+1,0,none⟩ (.bool true)).heap[D]? =some (.deferred (some [])):=(KeepsOthers.setCell _ _ _).same D _ hK rfl
      refine ⟨by simp, .inl ⟨_,_,rfl,run_takeDeferred hK2, ?_⟩⟩
      have hr3:=(bS.set (.bool true)).kept (grownBy_putObj' _ D (.deferred none)) (by intro e;cases e;omega)
      have hc3:=hr3.cell
      refine ⟨.bool true,by simp [results,Tryz.results56,go_sem,hc3],Zc ?_,(hB.setCell (by simp) _).grown (grownBy_putObj' _ D _) (by simp [World.setCell];exact hB.size) (fun k e=>by cases e;omega)⟩
      have hj:=hJ.out
      rw [hpr,zdf] at hj
      rw [<-HR.out,HPP.out,Hr.out,Bool.true_and]
      exact hj.symm
     case stop=>
      rintro D c' pre W hD hp ⟨bS,hB,rfl,hJ⟩ hK
      gi_wp2
      refine ⟨by simp, .inl ⟨_,_,rfl,run_takeDeferred hK, ?_⟩⟩
      have hr3:=bS.kept (grownBy_putObj' _ D (.deferred none)) (by intro e;cases e;omega)
      have hc3:=hr3.cell
      refine ⟨.bool false,by simp [results,Tryz.results56,go_sem,hc3],Zc ?_,hB.grown (grownBy_putObj' _ D _) hB.size (fun k e=>by cases e;omega)⟩
      rw [<-HR.out,HPP.out,Hr.out,Bool.true_and, <-zdf, <-hpr]
      exact (zon hp hJ.out).symm
end Go.Proofs.YtnjgbiachcfigaaGreatDoor
namespace Go.Proofs.YtnjgbiachcfigaaGreatDoor
open Go.RowKit
set_option maxHeartbeats 8000000
noncomputable def cmSound (x:Cm):Bool:=
 kIs x.k && eqB x.bare ⟨x.k,x.path, .empty,0,0,0,V.none, .empty⟩ && pathSound x.path && Lib.validD x.key.data.toList && Lib.validD x.s.data.toList &&
 decide (0<=x.i) && decide (0<=x.j) && !(x.k==8 && x.s.toList.isEmpty) && !(x.k==9 && decide (x.n<1)) &&
 x.v.sound && decide (x.path.length+1+x.v.deep<=16) && decide (x.v.weight<=20000)
structure Boxed1C (w W:World) (c:CC):Prop where
 at_:CompAt W w.heap.size 0 c
 below:Below w.heap.size w W
 size:w.heap.size+1<=W.heap.size
theorem Boxed1C.step {w W W':World} {c:CC} (h:Boxed1C w W c) (hb:uB W W'):Boxed1C w W' c:=
 ⟨h.at_.keep hb (by have:=h.size;omega),h.below.trans (hb.mono (by have:=h.size;omega)),by have:=h.size;have:=hb.size;omega⟩
theorem Yu (w:World) (c:CC) (t:TypeId):Boxed1C w (w.alloc (.cells (uC c) t)) c:=
 ⟨⟨Zv _ _ _ _ _ rfl,Zv _ _ _ _ _ rfl,Zv _ _ _ _ _ rfl,Zv _ _ _ _ _ rfl,Zv _ _ _ _ _ rfl,Zv _ _ _ _ _ rfl,⟨Zv _ _ _ _ _ rfl,Zv _ _ _ _ _ rfl,Zv _ _ _ _ _ rfl,Zv _ _ _ _ _ rfl,Zv _ _ _ _ _ rfl⟩,Zv _ _ _ _ _ rfl⟩,(Below.refl _ _).alloc (Nat.le_refl _) _,by simp⟩
def Behind (w:World) (f:FuncId) (args:Array Value) (v:Value):Prop:=∀W,Below w.heap.size w W->Calls Tryz.prog f args W fun e w'=>e= .returned v/\Below W.heap.size W w'
theorem Behind.at_ {w W:World} {f:FuncId} {args:Array Value} {v:Value} (h:Behind w f args v) (hW:uB w W):uP f args W fun e w'=>e= .returned v/\uB W w':=h W hW
set_option maxRecDepth 100000 in
theorem zb0 (x:Cm) (w:World) (hT:Tabs w) (c:CC) (hx:IsComp w w.heap.size x c) (hw:x.v.weight<=4611686018427387904):
 uP 19 #[.agg (uC c)] w fun e w'=>e= .returned (.bool (cmSound x))/\uB w w':=by
 delta uC uB uP
 have hbare:=hx.bare
 cases hx with
 |mk c p v hb hp hv=>
 dsimp only [Cm.bare] at hbare
 dsimp only at hw
 have HBARE:Hid (∀W,uB w W->uP 53 #[.agg (uC c)] W fun e w'=>(∃d:CC,e= .returned (.tuple #[.agg #[.int .u8 d.k, .slice d.pa d.pl d.pc, .string d.key, .int .i64 d.i, .int .i64 d.j, .int .i64 d.n, .int .u8 d.v.k, .int .i64 d.v.n, .string d.v.s, .slice d.v.la d.v.ll d.v.lc, .slice d.v.oa d.v.ol d.v.oc, .string d.s], .bool (kIs c.k)])/\Hid (d=c.bare))/\uB W w'):=fun W _=>zhh c W hb
 obtain ⟨sm,hsm⟩:∃sm,eqB (Cm.bare ⟨c.k,p,c.key,c.i,c.j,c.n,v,c.s⟩) ⟨c.k,p, .empty,0,0,0,V.none, .empty⟩=sm:=⟨_,rfl⟩
 have HSAME:Hid (∀d:CC,Hid (d=c.bare)->Behind w 54 #[.agg #[.int .u8 d.k, .slice d.pa d.pl d.pc, .string d.key, .int .i64 d.i, .int .i64 d.j, .int .i64 d.n, .int .u8 d.v.k, .int .i64 d.v.n, .string d.v.s, .slice d.v.la d.v.ll d.v.lc, .slice d.v.oa d.v.ol d.v.oc, .string d.s], .agg #[.int .u8 c.k, .slice c.pa c.pl c.pc, .string { data:= #[] }, .int .i64 0, .int .i64 0, .int .i64 0, .int .u8 0, .int .i64 0, .string { data:= #[] }, .slice none 0 0, .slice none 0 0, .string { data:= #[] }]] (.bool sm)):=by
  intro d hd W hW
  obtain rfl:=hd.out
  rw [<-hsm]
  exact zlo _ _ W c.bare ⟨c.k,c.pa,c.pl,c.pc, .empty,0,0,0,VC.none, .empty⟩ (hbare.later_ hW) (IsComp.later_ hW (.mk ⟨c.k,c.pa,c.pl,c.pc, .empty,0,0,0,VC.none, .empty⟩ p V.none ⟨hb.k0,hb.k1,by show (-9223372036854775808:Int)<=0;decide,by show (0:Int)<=9223372036854775807;decide,by show (-9223372036854775808:Int)<=0;decide,by show (0:Int)<=9223372036854775807;decide,by show (-9223372036854775808:Int)<=0;decide,by show (0:Int)<=9223372036854775807;decide,by show 0<=140737488355328;decide,by show 0<=140737488355328;decide⟩ hp (Zq _ _)))
 obtain ⟨kn,hkn⟩:∃kn,kIs c.k=kn:=⟨_,rfl⟩
 obtain ⟨ps,hps⟩:∃ps,pathSound p=ps:=⟨_,rfl⟩
 obtain ⟨vk,hvk⟩:∃vk,Lib.validD c.key.data.toList=vk:=⟨_,rfl⟩
 obtain ⟨vs,hvs⟩:∃vs,Lib.validD c.s.data.toList=vs:=⟨_,rfl⟩
 obtain ⟨be,hbe⟩:∃be,c.s.toList.isEmpty=be:=⟨_,rfl⟩
 obtain ⟨sd,hsd⟩:∃sd,v.sound=sd:=⟨_,rfl⟩
 obtain ⟨dp,hdp⟩:∃dp,v.deep=dp:=⟨_,rfl⟩
 obtain ⟨wt,hwt⟩:∃wt,v.weight=wt:=⟨_,rfl⟩
 have HPS:Hid (Behind w 55 #[.slice c.pa c.pl c.pc] (.bool ps)):=fun W hW=>by rw [<-hps];exact zk0 p W (hT.below hW) _ _ _ (hp.later_ hW)
 have HVK:Hid (Behind w 52 #[.string c.key] (.bool vk)):=fun W hW=>by rw [<-hvk];exact Ym c.key W hb.key1 (hT.below hW)
 have HVS:Hid (Behind w 52 #[.string c.s] (.bool vs)):=fun W hW=>by rw [<-hvs];exact Ym c.s W hb.s1 (hT.below hW)
 have HSD:Hid (Behind w 56 #[.agg #[.int .u8 c.v.k, .int .i64 c.v.n, .string c.v.s, .slice c.v.la c.v.ll c.v.lc, .slice c.v.oa c.v.ol c.v.oc]] (.bool sd)):=fun W hW=>by rw [<-hsd];exact zh5 v W c.v (hv.later_ hW) (hT.below hW)
 have HDP:Hid (Behind w 57 #[.agg #[.int .u8 c.v.k, .int .i64 c.v.n, .string c.v.s, .slice c.v.la c.v.ll c.v.lc, .slice c.v.oa c.v.ol c.v.oc]] (.int .i64 dp)):=fun W hW=>by rw [<-hdp];exact zne v hw W c.v (hv.later_ hW)
 have HWT:Hid (Behind w 58 #[.agg #[.int .u8 c.v.k, .int .i64 c.v.n, .string c.v.s, .slice c.v.la c.v.ll c.v.lc, .slice c.v.oa c.v.ol c.v.oc]] (.int .i64 wt)):=fun W hW=>by rw [<-hwt];exact zid v hw W c.v (hv.later_ hW)
 have f0:(c.s.toList== [])=be:=by rw [<-hbe];cases c.s.toList<;>rfl
 have k1:=hp.few;have k2:=hp.max;have k3:=hp.cap
 have k4:wt<=4611686018427387904:=by omega
 have k5:dp<=4611686018427387904:=by have:=v.deep_lt;omega
 obtain ⟨R,hR⟩:∃R,cmSound ⟨c.k,p,c.key,c.i,c.j,c.n,v,c.s⟩=R:=⟨_,rfl⟩
 have hR2:R=(kn && sm && ps && vk && vs && decide (0<=c.i) && decide (0<=c.j) && !(c.k==8 && be) && !(c.k==9 && decide (c.n<1)) && sd && decide (c.pl+1+dp<=16) && decide (wt<=20000)):=by
  rw [<-hR];simp only [cmSound];rw [hsm,hkn,hps,hvk,hvs,hbe,hsd,hdp,hwt,hp.len]
 rw [hR]
 rw [hkn] at HBARE
 have HR:=qh hR2
 have bx:=Yu w c 39
 clear hbare hsm hkn hps hvk hvs hbe hsd hdp hwt hR hR2 hb hp hv hw hT
 go_enter Tryz.func19,Tryz.ntmps19
 cases kn with
 |false=>go_wp2_with (go_at_call 53;refine (HBARE.out _ (by have:=bx.below;have:=bx.size;go_grown)).mono ?_;rintro e w1 ⟨⟨d,rfl,hd⟩,hb1⟩;replace bx:=(bx.step (by go_grown)).step hb1;have zs:w.heap.size<w1.heap.size:=bx.size;have z0:=bx.at_.c0;have z1:=bx.at_.c1);go_ret;exact ⟨Zc (by rw [HR.out];first|(simp [*];done)|(simp [*];intros;omega)),by have:=bx.below;have:=bx.size;go_grown⟩
 |true=>
 go_wp2_with (go_at_call 53;refine (HBARE.out _ (by have:=bx.below;have:=bx.size;go_grown)).mono ?_;rintro e w1 ⟨⟨d,rfl,hd⟩,hb1⟩;replace bx:=(bx.step (by go_grown)).step hb1;have zs:w.heap.size<w1.heap.size:=bx.size;have z0:=bx.at_.c0;have z1:=bx.at_.c1)
 cases sm with
 |false=>go_wp2_with (go_at_call 54;(with_reducible refine (Behind.at_ (HSAME.out d hd) ?_).mono ?_);(focus (have:=bx.below;have:=bx.size;go_grown));rintro e w1 ⟨rfl,hb1⟩;replace bx:=(bx.step (by go_grown)).step hb1;have zs:w.heap.size<w1.heap.size:=bx.size;have z0:=bx.at_.c0;have z1:=bx.at_.c1;have z2:=bx.at_.c2;have z3:=bx.at_.c3;have z4:=bx.at_.c4;have z5:=bx.at_.c5;have z6:=bx.at_.c11);go_ret;exact ⟨Zc (by rw [HR.out];first|(simp [*];done)|(simp [*];intros;omega)),by have:=bx.below;have:=bx.size;go_grown⟩
 |true=>
 go_wp2_with (go_at_call 54;(with_reducible refine (Behind.at_ (HSAME.out d hd) ?_).mono ?_);(focus (have:=bx.below;have:=bx.size;go_grown));rintro e w1 ⟨rfl,hb1⟩;replace bx:=(bx.step (by go_grown)).step hb1;have zs:w.heap.size<w1.heap.size:=bx.size;have z0:=bx.at_.c0;have z1:=bx.at_.c1;have z2:=bx.at_.c2;have z3:=bx.at_.c3;have z4:=bx.at_.c4;have z5:=bx.at_.c5;have z6:=bx.at_.c11)
 cases ps with
 |false=>go_wp2_with (go_at_call 55;(with_reducible refine (Behind.at_ (HPS.out) ?_).mono ?_);(focus (have:=bx.below;have:=bx.size;go_grown));rintro e w1 ⟨rfl,hb1⟩;replace bx:=(bx.step (by go_grown)).step hb1;have zs:w.heap.size<w1.heap.size:=bx.size;have z0:=bx.at_.c0;have z1:=bx.at_.c1;have z2:=bx.at_.c2;have z3:=bx.at_.c3;have z4:=bx.at_.c4;have z5:=bx.at_.c5;have z6:=bx.at_.c11);go_ret;exact ⟨Zc (by rw [HR.out];first|(simp [*];done)|(simp [*];intros;omega)),by have:=bx.below;have:=bx.size;go_grown⟩
 |true=>
 go_wp2_with (go_at_call 55;(with_reducible refine (Behind.at_ (HPS.out) ?_).mono ?_);(focus (have:=bx.below;have:=bx.size;go_grown));rintro e w1 ⟨rfl,hb1⟩;replace bx:=(bx.step (by go_grown)).step hb1;have zs:w.heap.size<w1.heap.size:=bx.size;have z0:=bx.at_.c0;have z1:=bx.at_.c1;have z2:=bx.at_.c2;have z3:=bx.at_.c3;have z4:=bx.at_.c4;have z5:=bx.at_.c5;have z6:=bx.at_.c11)
 cases vk with
 |false=>go_wp2_with (go_at_call 52;(with_reducible refine (Behind.at_ (HVK.out) ?_).mono ?_);(focus (have:=bx.below;have:=bx.size;go_grown));rintro e w1 ⟨rfl,hb1⟩;replace bx:=(bx.step (by go_grown)).step hb1;have zs:w.heap.size<w1.heap.size:=bx.size;have z0:=bx.at_.c0;have z1:=bx.at_.c1;have z2:=bx.at_.c2;have z3:=bx.at_.c3;have z4:=bx.at_.c4;have z5:=bx.at_.c5;have z6:=bx.at_.c11);go_ret;exact ⟨Zc (by rw [HR.out];first|(simp [*];done)|(simp [*];intros;omega)),by have:=bx.below;have:=bx.size;go_grown⟩
 |true=>
 go_wp2_with (go_at_call 52;(with_reducible refine (Behind.at_ (HVK.out) ?_).mono ?_);(focus (have:=bx.below;have:=bx.size;go_grown));rintro e w1 ⟨rfl,hb1⟩;replace bx:=(bx.step (by go_grown)).step hb1;have zs:w.heap.size<w1.heap.size:=bx.size;have z0:=bx.at_.c0;have z1:=bx.at_.c1;have z2:=bx.at_.c2;have z3:=bx.at_.c3;have z4:=bx.at_.c4;have z5:=bx.at_.c5;have z6:=bx.at_.c11)
 cases vs with
 |false=>go_wp2_with (go_at_call 52;(with_reducible refine (Behind.at_ (HVS.out) ?_).mono ?_);(focus (have:=bx.below;have:=bx.size;go_grown));rintro e w1 ⟨rfl,hb1⟩;replace bx:=(bx.step (by go_grown)).step hb1;have zs:w.heap.size<w1.heap.size:=bx.size;have z0:=bx.at_.c0;have z1:=bx.at_.c1;have z2:=bx.at_.c2;have z3:=bx.at_.c3;have z4:=bx.at_.c4;have z5:=bx.at_.c5;have z6:=bx.at_.c11);go_ret;exact ⟨Zc (by rw [HR.out];first|(simp [*];done)|(simp [*];intros;omega)),by have:=bx.below;have:=bx.size;go_grown⟩
 |true=>
 by_cases hi:c.i<0
 .go_wp2_with (go_at_call 52;(with_reducible refine (Behind.at_ (HVS.out) ?_).mono ?_);(focus (have:=bx.below;have:=bx.size;go_grown));rintro e w1 ⟨rfl,hb1⟩;replace bx:=(bx.step (by go_grown)).step hb1;have zs:w.heap.size<w1.heap.size:=bx.size;have z0:=bx.at_.c0;have z1:=bx.at_.c1;have z2:=bx.at_.c2;have z3:=bx.at_.c3;have z4:=bx.at_.c4;have z5:=bx.at_.c5;have z6:=bx.at_.c11);go_ret;exact ⟨Zc (by rw [HR.out];first|(simp [*];done)|(simp [*];intros;omega)),by have:=bx.below;have:=bx.size;go_grown⟩
 by_cases hj:c.j<0
 .go_wp2_with (go_at_call 52;(with_reducible refine (Behind.at_ (HVS.out) ?_).mono ?_);(focus (have:=bx.below;have:=bx.size;go_grown));rintro e w1 ⟨rfl,hb1⟩;replace bx:=(bx.step (by go_grown)).step hb1;have zs:w.heap.size<w1.heap.size:=bx.size;have z0:=bx.at_.c0;have z1:=bx.at_.c1;have z2:=bx.at_.c2;have z3:=bx.at_.c3;have z4:=bx.at_.c4;have z5:=bx.at_.c5;have z6:=bx.at_.c11);go_ret;exact ⟨Zc (by rw [HR.out];first|(simp [*];done)|(simp [*];intros;omega)),by have:=bx.below;have:=bx.size;go_grown⟩
 by_cases e8:c.k=8
 case pos=>
  have f8:(c.k==8)=true:=by simp [e8]
  have f9:(c.k==9)=false:=by simp [e8]
  clear e8
  cases be with
  |true=>go_wp2_with (go_at_call 52;(with_reducible refine (Behind.at_ (HVS.out) ?_).mono ?_);(focus (have:=bx.below;have:=bx.size;go_grown));rintro e w1 ⟨rfl,hb1⟩;replace bx:=(bx.step (by go_grown)).step hb1;have zs:w.heap.size<w1.heap.size:=bx.size;have z0:=bx.at_.c0;have z1:=bx.at_.c1;have z2:=bx.at_.c2;have z3:=bx.at_.c3;have z4:=bx.at_.c4;have z5:=bx.at_.c5;have z6:=bx.at_.c11);go_ret;exact ⟨Zc (by rw [HR.out];first|(simp [*];done)|(simp [*];intros;omega)),by have:=bx.below;have:=bx.size;go_grown⟩
  |false=>
  go_wp2_with (go_at_call 52;(with_reducible refine (Behind.at_ (HVS.out) ?_).mono ?_);(focus (have:=bx.below;have:=bx.size;go_grown));rintro e w1 ⟨rfl,hb1⟩;replace bx:=(bx.step (by go_grown)).step hb1;have zs:w.heap.size<w1.heap.size:=bx.size;have z0:=bx.at_.c0;have z1:=bx.at_.c1;have z2:=bx.at_.c2;have z3:=bx.at_.c3;have z4:=bx.at_.c4;have z5:=bx.at_.c5;have z6:=bx.at_.c11)
  have a0:=Zb bx.at_.c6.c0;have a1:=Zb bx.at_.c6.c1;have a2:=Zb bx.at_.c6.c2;have a3:=Zb bx.at_.c6.c3;have a4:=Zb bx.at_.c6.c4;have a5:=Zb bx.at_.c1
  have hbx:=bx.below
  have hbs:=bx.size
  cases sd with
  | false=>
    refine Zl (by kernel_rfl) (by kernel_rfl) ?_
    repeat (go_big_quiet_step ((first|(go_at_call 56;exact Zg (HSD.out _ (hbx.trans ((Ze _ _).mono (by omega)))))|(go_at_call 57;exact Zg (HDP.out _ (hbx.trans ((Ze _ _).mono (by omega)))))|(go_at_call 58;exact Zg (HWT.out _ (hbx.trans ((Ze _ _).mono (by omega))))))))
    refine wpQuiet_nil ?_
    intro _ hw'
    obtain ⟨pq,hw''⟩:=hw'
    subst hw''
    go_wp2_with fail
    go_ret
    exact ⟨Zc (by rw [HR.out];simp),hbx.trans ((Ze _ _).mono (by omega))⟩
  |true=>
  by_cases hd:c.pl+1+dp<=16
  case neg=>
   have hdI:¬((c.pl:Int)+1+(dp:Int)<=16):=by omega
   have hdB:decide ((c.pl:Int)+1+(dp:Int)<=16)=false:=by simpa using hdI
   refine Zl (by kernel_rfl) (by kernel_rfl) ?_
   repeat (go_big_quiet_step ((first|(go_at_call 56;exact Zg (HSD.out _ (hbx.trans ((Ze _ _).mono (by omega)))))|(go_at_call 57;exact Zg (HDP.out _ (hbx.trans ((Ze _ _).mono (by omega)))))|(go_at_call 58;exact Zg (HWT.out _ (hbx.trans ((Ze _ _).mono (by omega))))))))
   refine wpQuiet_nil ?_
   intro _ hw'
   obtain ⟨pq,hw''⟩:=hw'
   subst hw''
   go_wp2_with fail
   go_ret
   exact ⟨Zc (by rw [HR.out];simp [hd]),hbx.trans ((Ze _ _).mono (by omega))⟩
  have hdI:(c.pl:Int)+1+(dp:Int)<=16:=by omega
  have hdB:decide ((c.pl:Int)+1+(dp:Int)<=16)=true:=by simpa using hdI
  refine Zl (by kernel_rfl) (by kernel_rfl) ?_
  repeat (go_big_quiet_step ((first|(go_at_call 56;exact Zg (HSD.out _ (hbx.trans ((Ze _ _).mono (by omega)))))|(go_at_call 57;exact Zg (HDP.out _ (hbx.trans ((Ze _ _).mono (by omega)))))|(go_at_call 58;exact Zg (HWT.out _ (hbx.trans ((Ze _ _).mono (by omega))))))))
  refine wpQuiet_nil ?_
  intro _ hw'
  obtain ⟨pq,hw''⟩:=hw'
  subst hw''
  go_wp2_with fail
  go_ret
  exact ⟨Zc (by rw [HR.out];simp [*];try omega),hbx.trans ((Ze _ _).mono (by omega))⟩
 case neg=>
  have f8:(c.k==8)=false:=by simp [e8]
  clear e8
  by_cases e9:c.k=9
  case pos=>
   have f9:(c.k==9)=true:=by simp [e9]
   clear e9
   by_cases hn:c.n<1
   .go_wp2_with (go_at_call 52;(with_reducible refine (Behind.at_ (HVS.out) ?_).mono ?_);(focus (have:=bx.below;have:=bx.size;go_grown));rintro e w1 ⟨rfl,hb1⟩;replace bx:=(bx.step (by go_grown)).step hb1;have zs:w.heap.size<w1.heap.size:=bx.size;have z0:=bx.at_.c0;have z1:=bx.at_.c1;have z2:=bx.at_.c2;have z3:=bx.at_.c3;have z4:=bx.at_.c4;have z5:=bx.at_.c5;have z6:=bx.at_.c11);go_ret;exact ⟨Zc (by rw [HR.out];first|(simp [*];done)|(simp [*];intros;omega)),by have:=bx.below;have:=bx.size;go_grown⟩
   have hn2:decide (c.n<1)=false:=by simpa using hn
   go_wp2_with (go_at_call 52;(with_reducible refine (Behind.at_ (HVS.out) ?_).mono ?_);(focus (have:=bx.below;have:=bx.size;go_grown));rintro e w1 ⟨rfl,hb1⟩;replace bx:=(bx.step (by go_grown)).step hb1;have zs:w.heap.size<w1.heap.size:=bx.size;have z0:=bx.at_.c0;have z1:=bx.at_.c1;have z2:=bx.at_.c2;have z3:=bx.at_.c3;have z4:=bx.at_.c4;have z5:=bx.at_.c5;have z6:=bx.at_.c11)
   have a0:=Zb bx.at_.c6.c0;have a1:=Zb bx.at_.c6.c1;have a2:=Zb bx.at_.c6.c2;have a3:=Zb bx.at_.c6.c3;have a4:=Zb bx.at_.c6.c4;have a5:=Zb bx.at_.c1
   have hbx:=bx.below
   have hbs:=bx.size
   cases sd with
   | false=>
     refine Zl (by kernel_rfl) (by kernel_rfl) ?_
     repeat (go_big_quiet_step ((first|(go_at_call 56;exact Zg (HSD.out _ (hbx.trans ((Ze _ _).mono (by omega)))))|(go_at_call 57;exact Zg (HDP.out _ (hbx.trans ((Ze _ _).mono (by omega)))))|(go_at_call 58;exact Zg (HWT.out _ (hbx.trans ((Ze _ _).mono (by omega))))))))
     refine wpQuiet_nil ?_
     intro _ hw'
     obtain ⟨pq,hw''⟩:=hw'
     subst hw''
     go_wp2_with fail
     go_ret
     exact ⟨Zc (by rw [HR.out];simp),hbx.trans ((Ze _ _).mono (by omega))⟩
   |true=>
   by_cases hd:c.pl+1+dp<=16
   case neg=>
    have hdI:¬((c.pl:Int)+1+(dp:Int)<=16):=by omega
    have hdB:decide ((c.pl:Int)+1+(dp:Int)<=16)=false:=by simpa using hdI
    refine Zl (by kernel_rfl) (by kernel_rfl) ?_
    repeat (go_big_quiet_step ((first|(go_at_call 56;exact Zg (HSD.out _ (hbx.trans ((Ze _ _).mono (by omega)))))|(go_at_call 57;exact Zg (HDP.out _ (hbx.trans ((Ze _ _).mono (by omega)))))|(go_at_call 58;exact Zg (HWT.out _ (hbx.trans ((Ze _ _).mono (by omega))))))))
    refine wpQuiet_nil ?_
    intro _ hw'
    obtain ⟨pq,hw''⟩:=hw'
    subst hw''
    go_wp2_with fail
    go_ret
    exact ⟨Zc (by rw [HR.out];simp [hd]),hbx.trans ((Ze _ _).mono (by omega))⟩
   have hdI:(c.pl:Int)+1+(dp:Int)<=16:=by omega
   have hdB:decide ((c.pl:Int)+1+(dp:Int)<=16)=true:=by simpa using hdI
   refine Zl (by kernel_rfl) (by kernel_rfl) ?_
   repeat (go_big_quiet_step ((first|(go_at_call 56;exact Zg (HSD.out _ (hbx.trans ((Ze _ _).mono (by omega)))))|(go_at_call 57;exact Zg (HDP.out _ (hbx.trans ((Ze _ _).mono (by omega)))))|(go_at_call 58;exact Zg (HWT.out _ (hbx.trans ((Ze _ _).mono (by omega))))))))
   refine wpQuiet_nil ?_
   intro _ hw'
   obtain ⟨pq,hw''⟩:=hw'
   subst hw''
   go_wp2_with fail
   go_ret
   exact ⟨Zc (by rw [HR.out];simp [*];try omega),hbx.trans ((Ze _ _).mono (by omega))⟩
  case neg=>
   have f9:(c.k==9)=false:=by simp [e9]
   clear e9
   go_wp2_with (go_at_call 52;(with_reducible refine (Behind.at_ (HVS.out) ?_).mono ?_);(focus (have:=bx.below;have:=bx.size;go_grown));rintro e w1 ⟨rfl,hb1⟩;replace bx:=(bx.step (by go_grown)).step hb1;have zs:w.heap.size<w1.heap.size:=bx.size;have z0:=bx.at_.c0;have z1:=bx.at_.c1;have z2:=bx.at_.c2;have z3:=bx.at_.c3;have z4:=bx.at_.c4;have z5:=bx.at_.c5;have z6:=bx.at_.c11)
   have a0:=Zb bx.at_.c6.c0;have a1:=Zb bx.at_.c6.c1;have a2:=Zb bx.at_.c6.c2;have a3:=Zb bx.at_.c6.c3;have a4:=Zb bx.at_.c6.c4;have a5:=Zb bx.at_.c1
   have hbx:=bx.below
   have hbs:=bx.size
   cases sd with
   | false=>
     refine Zl (by kernel_rfl) (by kernel_rfl) ?_
     repeat (go_big_quiet_step ((first|(go_at_call 56;exact Zg (HSD.out _ (hbx.trans ((Ze _ _).mono (by omega)))))|(go_at_call 57;exact Zg (HDP.out _ (hbx.trans ((Ze _ _).mono (by omega)))))|(go_at_call 58;exact Zg (HWT.out _ (hbx.trans ((Ze _ _).mono (by omega))))))))
     refine wpQuiet_nil ?_
     intro _ hw'
     obtain ⟨pq,hw''⟩:=hw'
     subst hw''
     go_wp2_with fail
     go_ret
     exact ⟨Zc (by rw [HR.out];simp),hbx.trans ((Ze _ _).mono (by omega))⟩
   |true=>
   by_cases hd:c.pl+1+dp<=16
   case neg=>
    have hdI:¬((c.pl:Int)+1+(dp:Int)<=16):=by omega
    have hdB:decide ((c.pl:Int)+1+(dp:Int)<=16)=false:=by simpa using hdI
    refine Zl (by kernel_rfl) (by kernel_rfl) ?_
    repeat (go_big_quiet_step ((first|(go_at_call 56;exact Zg (HSD.out _ (hbx.trans ((Ze _ _).mono (by omega)))))|(go_at_call 57;exact Zg (HDP.out _ (hbx.trans ((Ze _ _).mono (by omega)))))|(go_at_call 58;exact Zg (HWT.out _ (hbx.trans ((Ze _ _).mono (by omega))))))))
    refine wpQuiet_nil ?_
    intro _ hw'
    obtain ⟨pq,hw''⟩:=hw'
    subst hw''
    go_wp2_with fail
    go_ret
    exact ⟨Zc (by rw [HR.out];simp [hd]),hbx.trans ((Ze _ _).mono (by omega))⟩
   have hdI:(c.pl:Int)+1+(dp:Int)<=16:=by omega
   have hdB:decide ((c.pl:Int)+1+(dp:Int)<=16)=true:=by simpa using hdI
   refine Zl (by kernel_rfl) (by kernel_rfl) ?_
   repeat (go_big_quiet_step ((first|(go_at_call 56;exact Zg (HSD.out _ (hbx.trans ((Ze _ _).mono (by omega)))))|(go_at_call 57;exact Zg (HDP.out _ (hbx.trans ((Ze _ _).mono (by omega)))))|(go_at_call 58;exact Zg (HWT.out _ (hbx.trans ((Ze _ _).mono (by omega))))))))
   refine wpQuiet_nil ?_
   intro _ hw'
   obtain ⟨pq,hw''⟩:=hw'
   subst hw''
   go_wp2_with fail
   go_ret
   exact ⟨Zc (by rw [HR.out];simp [*];try omega),hbx.trans ((Ze _ _).mono (by omega))⟩
theorem zdq:ByteArray.empty.toList= [] :=by rw [ByteArray.toList_eq];rfl
theorem zl5 {s:ByteArray} :s.toList= [] ↔s= .empty:=by
 constructor
 .intro h;exact Xq (by rw [h,zdq])
 .intro h;rw [h,zdq]
theorem zp1 (x:Cm):eqB x.bare ⟨x.k,x.path, .empty,0,0,0,V.none, .empty⟩=
 ((kKey x.k||(x.key.toList== [])) && (kI x.k||(x.i==0)) && (kJ x.k||(x.j==0)) && (kN x.k||(x.n==0)) && (kS x.k||(x.s.toList== [])) && (kV x.k||eqv x.v V.none)):=by
 apply Bool.eq_iff_iff.2
 simp only [Bool.and_eq_true,Bool.or_eq_true,beq_iff_eq,zl5]
 constructor
 .intro h
  have h:=Qi h
  simp only [Cm.bare] at h
  injection h with _ _ h1 h2 h3 h4 h5 h6
  refine ⟨⟨⟨⟨⟨?_, ?_⟩, ?_⟩, ?_⟩, ?_⟩, ?_⟩
  .by_cases e:kKey x.k=true
   .exact .inl e
   .exact .inr (by simpa [e] using h1)
  .by_cases e:kI x.k=true
   .exact .inl e
   .exact .inr (by simpa [e] using h2)
  .by_cases e:kJ x.k=true
   .exact .inl e
   .exact .inr (by simpa [e] using h3)
  .by_cases e:kN x.k=true
   .exact .inl e
   .exact .inr (by simpa [e] using h4)
  .by_cases e:kS x.k=true
   .exact .inl e
   .exact .inr (by simpa [e] using h6)
  .by_cases e:kV x.k=true
   .exact .inl e
   .exact .inr (Jj (by simpa [e] using h5))
 .rintro ⟨⟨⟨⟨⟨h1,h2⟩,h3⟩,h4⟩,h5⟩,h6⟩
  apply Ys
  simp only [Cm.bare]
  congr 1
  .rcases h1 with e|e<;>simp [e]
  .rcases h2 with e|e<;>simp [e]
  .rcases h3 with e|e<;>simp [e]
  .rcases h4 with e|e<;>simp [e]
  .rcases h6 with e|e
   .simp [e]
   .simp [Jk e]
  .rcases h5 with e|e<;>simp [e]
def sndB (kn fK fI fJ fN fS fV bk i0 j0 n0 be vn ps vk vs i1 j1 k8 k9 sd dp wt:Bool):Bool:=
 kn && ((fK||bk) && (fI||i0) && (fJ||j0) && (fN||n0) && (fS||be) && (fV||vn)) && ps && vk && vs && i1 && j1 && !k8 && !k9 && sd && dp && wt
theorem zkp (x:Cm):cmSound x=sndB (kIs x.k) (kKey x.k) (kI x.k) (kJ x.k) (kN x.k) (kS x.k) (kV x.k) (x.key.toList== []) (x.i==0) (x.j==0) (x.n==0) (x.s.toList== []) (eqv x.v V.none)
 (pathSound x.path) (Lib.validD x.key.data.toList) (Lib.validD x.s.data.toList) (decide (0<=x.i)) (decide (0<=x.j)) (x.k==8 && (x.s.toList== [])) (x.k==9 && decide (x.n<1)) x.v.sound (decide (x.path.length+1+x.v.deep<=16)) (decide (x.v.weight<=20000)):=by
 unfold cmSound sndB
 rw [zp1]
 have:x.s.toList.isEmpty=(x.s.toList== []):=by cases x.s.toList<;>rfl
 rw [this]
theorem bcT (b:Bool) {P:Prop} (h:P):b=false∨b=true/\P:=by cases b;exact .inl rfl;exact .inr ⟨rfl,h⟩
theorem bcF (b:Bool) {P:Prop} (h:P):b=true∨b=false/\P:=by cases b;exact .inr ⟨rfl,h⟩;exact .inl rfl
theorem bcP (p:Prop) [Decidable p] {P:Prop} (h:P):p∨¬p/\P:=by by_cases q:p;exact .inl q;exact .inr ⟨q,h⟩
theorem Xh (a b:Nat):(¬(a+1+b<=16)/\¬((a:Int)+1+(b:Int)<=16)/\decide ((a:Int)+1+(b:Int)<=16)=false)∨(a+1+b<=16/\((a:Int)+1+(b:Int)<=16)/\decide ((a:Int)+1+(b:Int)<=16)=true):=by
 by_cases h:a+1+b<=16
 .have h2:(a:Int)+1+(b:Int)<=16:=by omega
  exact .inr ⟨h,h2,by simpa using h2⟩
 .have h2:¬((a:Int)+1+(b:Int)<=16):=by omega
  exact .inl ⟨h,h2,by simpa using h2⟩
theorem Boxed1C.all {w W:World} {c:CC} (h:Boxed1C w W c):w.heap.size<W.heap.size/\W.cell? ⟨w.heap.size,0,none⟩=some (.int .u8 c.k)/\W.cell? ⟨w.heap.size,1,none⟩=some (.slice c.pa c.pl c.pc)/\W.cell? ⟨w.heap.size,2,none⟩=some (.string c.key)/\W.cell? ⟨w.heap.size,3,none⟩=some (.int .i64 c.i)/\W.cell? ⟨w.heap.size,4,none⟩=some (.int .i64 c.j)/\W.cell? ⟨w.heap.size,5,none⟩=some (.int .i64 c.n)/\W.cell? ⟨w.heap.size,11,none⟩=some (.string c.s)/\W.cell? ⟨w.heap.size,6,none⟩=some (.int .u8 c.v.k)/\W.cell? ⟨w.heap.size,7,none⟩=some (.int .i64 c.v.n)/\W.cell? ⟨w.heap.size,8,none⟩=some (.string c.v.s)/\W.cell? ⟨w.heap.size,9,none⟩=some (.slice c.v.la c.v.ll c.v.lc)/\W.cell? ⟨w.heap.size,10,none⟩=some (.slice c.v.oa c.v.ol c.v.oc):=⟨by have:=h.size;omega,h.at_.c0,h.at_.c1,h.at_.c2,h.at_.c3,h.at_.c4,h.at_.c5,h.at_.c11,h.at_.c6.c0,h.at_.c6.c1,h.at_.c6.c2,h.at_.c6.c3,h.at_.c6.c4⟩
structure SndH (w:World) (c:CC) (R ps vk vs bk be i0 j0 n0 vn sd:Bool) (dp wt:Nat):Prop where
 hbk:(c.key.toList== [])=bk
 hbe:(c.s.toList== [])=be
 hi0:(c.i !=0)=i0
 hj0:(c.j !=0)=j0
 hn0:(c.n !=0)=n0
 HPS:Hid (Behind w 107 #[.slice c.pa c.pl c.pc] (.bool ps))
 HVK:Hid (Behind w 52 #[.string c.key] (.bool vk))
 HVS:Hid (Behind w 52 #[.string c.s] (.bool vs))
 HVN:Hid (Behind w 17 #[.agg #[.int .u8 c.v.k, .int .i64 c.v.n, .string c.v.s, .slice c.v.la c.v.ll c.v.lc, .slice c.v.oa c.v.ol c.v.oc], .agg #[.int .u8 0, .int .i64 0, .string { data:= #[] }, .slice none 0 0, .slice none 0 0]] (.bool vn))
 HSD:Hid (Behind w 18 #[.agg #[.int .u8 c.v.k, .int .i64 c.v.n, .string c.v.s, .slice c.v.la c.v.ll c.v.lc, .slice c.v.oa c.v.ol c.v.oc]] (.bool sd))
 HDP:Hid (Behind w 109 #[.agg #[.int .u8 c.v.k, .int .i64 c.v.n, .string c.v.s, .slice c.v.la c.v.ll c.v.lc, .slice c.v.oa c.v.ol c.v.oc]] (.int .i64 dp))
 HWT:Hid (Behind w 110 #[.agg #[.int .u8 c.v.k, .int .i64 c.v.n, .string c.v.s, .slice c.v.la c.v.ll c.v.lc, .slice c.v.oa c.v.ol c.v.oc]] (.int .i64 wt))
 HSAYS:Hid (Behind w 106 #[.int .u8 c.k] (.string (saysB c.k)))
 k:(c.pl:Int)<=140737488355328/\wt<=4611686018427387904/\dp<=4611686018427387904
 hR2:R=sndB (kIs c.k) (kKey c.k) (kI c.k) (kJ c.k) (kN c.k) (kS c.k) (kV c.k) bk (!i0) (!j0) (!n0) be vn ps vk vs (decide (0<=c.i)) (decide (0<=c.j)) (c.k==8 && be) (c.k==9 && decide (c.n<1)) sd (decide (c.pl+1+dp<=16)) (decide (wt<=20000))
theorem zjf (x:Cm) (w:World) (hT:Tabs w) (c:CC) (hx:IsComp w w.heap.size x c) (hw:x.v.weight<=4611686018427387904):∃ps vk vs bk be i0 j0 n0 vn sd dp wt,SndH w c (cmSound x) ps vk vs bk be i0 j0 n0 vn sd dp wt:=by
 cases hx with
 |mk c p v hb hp hv=>
 dsimp only at hw
 refine ⟨_,_,_,_,_,_,_,_,_,_,_,_,rfl,rfl,rfl,rfl,rfl,fun W hW=>zhy p W (hT.below hW) _ _ _ (hp.later_ hW),fun W hW=>Ym c.key W hb.key1 (hT.below hW),fun W hW=>Ym c.s W hb.s1 (hT.below hW),fun W hW=>J3 v V.none W c.v VC.none (hv.later_ hW) (Zq _ _),fun W hW=>zgb v W c.v (hv.later_ hW) (hT.below hW),fun W hW=>znj v W c.v (hv.later_ hW) hw,fun W hW=>zfu v W c.v (hv.later_ hW) hw,fun W _=>zno c.k W, ?_, ?_⟩
 .have k1:=hp.few;have k2:=hp.max;have k3:=hp.cap;have:=v.deep_lt;omega
 .rw [zkp];simp only [hp.len,bne,Bool.not_not]
set_option maxRecDepth 100000 in
theorem zoc (w:World) (c:CC) {R ps vk vs bk be i0 j0 n0 vn sd:Bool} {dp wt:Nat} (h:SndH w c R ps vk vs bk be i0 j0 n0 vn sd dp wt) (ek:kIs c.k=false):
 uP 66 #[.agg (uC c)] w fun e w'=>e= .returned (.bool R)/\uB w w':=by
 delta uC uB uP
 obtain ⟨hbk,hbe,hi0,hj0,hn0,HPS,HVK,HVS,HVN,HSD,HDP,HWT,HSAYS,⟨k1,k4,k5⟩,hR2⟩:=h
 have bx:=Yu w c 39
 have hR3:R=false:=by rw [hR2,ek];rfl
 have e1:saysB c.k= { data:= #[] } :=by
  simp only [kIs,Bool.and_eq_false_iff,decide_eq_false_iff_not] at ek
  unfold saysB
  repeat (first|rfl|rw [if_neg (by omega)])
 rw [e1] at HSAYS
 have HR:=qh hR3
 clear hR2 hR3 e1 ek
 go_enter Tryz.func66,Tryz.ntmps66
 go_wp2_with ((go_at_call 106;(with_reducible refine (Behind.at_ HSAYS.out ?_).mono ?_));(focus (have:=bx.below;have:=bx.size;go_grown));rintro e w1 ⟨rfl,hb1⟩;replace bx:=(bx.step (by go_grown)).step hb1;obtain ⟨zs,z0,z1,z2,z3,z4,z5,z6,y0,y1,y2,y3,y4⟩:=bx.all)
 go_ret
 exact ⟨Zc (by rw [HR.out]),by have:=bx.below;have:=bx.size;go_grown⟩
set_option maxRecDepth 100000 in
theorem zic (w:World) (c:CC) {R ps vk vs bk be i0 j0 n0 vn sd:Bool} {dp wt:Nat} (h:SndH w c R ps vk vs bk be i0 j0 n0 vn sd dp wt) (ek:c.k=1):
 uP 66 #[.agg (uC c)] w fun e w'=>e= .returned (.bool R)/\uB w w':=by
 delta uC uB uP
 obtain ⟨hbk,hbe,hi0,hj0,hn0,HPS,HVK,HVS,HVN,HSD,HDP,HWT,HSAYS,⟨k1,k4,k5⟩,hR2⟩:=h
 have bx:=Yu w c 39
 have e1:saysB c.k= { data:= #[78] } :=by rw [ek];rfl
 rw [e1] at HSAYS
 have HIN:∀(b:Nat) {t:Bool},hasB { data:= #[78] } b=t->Hid (Behind w 108 #[.string { data:= #[78] }, .int .u8 b] (.bool t)):=fun b t ht W _=>by rw [<-ht];exact Xj { data:= #[78] } b W (by decide)
 have hR3:R=sndB true false false false true false false bk (!i0) (!j0) (!n0) be vn ps vk vs (decide (0<=c.i)) (decide (0<=c.j)) false false sd (decide (c.pl+1+dp<=16)) (decide (wt<=20000)):=by
  rw [hR2,ek]
  first|rfl|(cases be<;>rfl)
 have HR:=qh hR3
 have f8:(c.k==8)=false:=by rw [ek];rfl
 have f9:(c.k==9)=false:=by rw [ek];rfl
 have HLK:Hid (Behind w 108 #[.string { data:= #[78] }, .int .u8 75] (.bool false)):=HIN 75 (by decide);have HLI:Hid (Behind w 108 #[.string { data:= #[78] }, .int .u8 73] (.bool false)):=HIN 73 (by decide);have HLJ:Hid (Behind w 108 #[.string { data:= #[78] }, .int .u8 74] (.bool false)):=HIN 74 (by decide);have HLN:Hid (Behind w 108 #[.string { data:= #[78] }, .int .u8 78] (.bool true)):=HIN 78 (by decide);have HLS:Hid (Behind w 108 #[.string { data:= #[78] }, .int .u8 83] (.bool false)):=HIN 83 (by decide);have HLV:Hid (Behind w 108 #[.string { data:= #[78] }, .int .u8 86] (.bool false)):=HIN 86 (by decide)
 clear hR2 hR3 e1 HIN ek
 go_enter Tryz.func66,Tryz.ntmps66
 go_wp2_with ((go_at_call 106;(with_reducible refine (Behind.at_ HSAYS.out ?_).mono ?_));(focus (have:=bx.below;have:=bx.size;go_grown));rintro e w1 ⟨rfl,hb1⟩;replace bx:=(bx.step (by go_grown)).step hb1;obtain ⟨zs,z0,z1,z2,z3,z4,z5,z6,y0,y1,y2,y3,y4⟩:=bx.all)
 rcases bcT ps (bcT bk (bcF i0 (bcF j0 (bcT be (bcT vn (bcT vk (bcT vs (bcP (c.i<0) (bcP (c.j<0) trivial))))))))) with rfl|⟨rfl,(rfl|⟨rfl,(rfl|⟨rfl,(rfl|⟨rfl,(rfl|⟨rfl,(rfl|⟨rfl,(rfl|⟨rfl,(rfl|⟨rfl,(hpi|⟨hpi,(hpj|⟨hpj,_⟩)⟩)⟩)⟩)⟩)⟩)⟩)⟩)⟩)⟩
 all_goals go_wp2_with ((first|(go_at_call 107;(with_reducible refine (Behind.at_ HPS.out ?_).mono ?_))|(go_at_call 108;(with_reducible refine (Behind.at_ HLK.out ?_).mono ?_))|(go_at_call 108;(with_reducible refine (Behind.at_ HLI.out ?_).mono ?_))|(go_at_call 108;(with_reducible refine (Behind.at_ HLJ.out ?_).mono ?_))|(go_at_call 108;(with_reducible refine (Behind.at_ HLN.out ?_).mono ?_))|(go_at_call 108;(with_reducible refine (Behind.at_ HLS.out ?_).mono ?_))|(go_at_call 108;(with_reducible refine (Behind.at_ HLV.out ?_).mono ?_))|(go_at_call 17;(with_reducible refine (Behind.at_ HVN.out ?_).mono ?_))|(go_at_call 52;(with_reducible refine (Behind.at_ HVK.out ?_).mono ?_))|(go_at_call 52;(with_reducible refine (Behind.at_ HVS.out ?_).mono ?_)));(focus (have:=bx.below;have:=bx.size;go_grown));rintro e w1 ⟨rfl,hb1⟩;replace bx:=(bx.step (by go_grown)).step hb1;obtain ⟨zs,z0,z1,z2,z3,z4,z5,z6,y0,y1,y2,y3,y4⟩:=bx.all)
 iterate 10 (focus (go_ret;exact ⟨Zc (by rw [HR.out];first|(simp [sndB, *];done)|(simp [sndB, *];intros;omega)),by have:=bx.below;have:=bx.size;go_grown⟩))
 have a0:=Zb bx.at_.c6.c0;have a1:=Zb bx.at_.c6.c1;have a2:=Zb bx.at_.c6.c2;have a3:=Zb bx.at_.c6.c3;have a4:=Zb bx.at_.c6.c4;have a5:=Zb bx.at_.c1
 have hbx:=bx.below
 have hbs:=bx.size
 rcases bcT sd (Xh c.pl dp) with rfl|⟨rfl,(⟨hd,hdI,hdB⟩|⟨hd,hdI,hdB⟩)⟩
 all_goals
  refine Zl (by kernel_rfl) (by kernel_rfl) ?_
  repeat (go_big_quiet_step ((first|(go_at_call 18;exact Zg (HSD.out _ (hbx.trans ((Ze _ _).mono (by omega)))))|(go_at_call 109;exact Zg (HDP.out _ (hbx.trans ((Ze _ _).mono (by omega)))))|(go_at_call 110;exact Zg (HWT.out _ (hbx.trans ((Ze _ _).mono (by omega))))))))
  refine wpQuiet_nil ?_
  intro _ hw'
  obtain ⟨pq,hw''⟩:=hw'
  subst hw''
  go_wp2_with fail
  go_ret
  exact ⟨Zc (by rw [HR.out];first|(simp [sndB, *];done)|(simp [sndB, *];intros;omega)),hbx.trans ((Ze _ _).mono (by omega))⟩
set_option maxRecDepth 100000 in
theorem znc (w:World) (c:CC) {R ps vk vs bk be i0 j0 n0 vn sd:Bool} {dp wt:Nat} (h:SndH w c R ps vk vs bk be i0 j0 n0 vn sd dp wt) (ek:c.k=2):
 uP 66 #[.agg (uC c)] w fun e w'=>e= .returned (.bool R)/\uB w w':=by
 delta uC uB uP
 obtain ⟨hbk,hbe,hi0,hj0,hn0,HPS,HVK,HVS,HVN,HSD,HDP,HWT,HSAYS,⟨k1,k4,k5⟩,hR2⟩:=h
 have bx:=Yu w c 39
 have e1:saysB c.k= { data:= #[75,86] } :=by rw [ek];rfl
 rw [e1] at HSAYS
 have HIN:∀(b:Nat) {t:Bool},hasB { data:= #[75,86] } b=t->Hid (Behind w 108 #[.string { data:= #[75,86] }, .int .u8 b] (.bool t)):=fun b t ht W _=>by rw [<-ht];exact Xj { data:= #[75,86] } b W (by decide)
 have hR3:R=sndB true true false false false false true bk (!i0) (!j0) (!n0) be vn ps vk vs (decide (0<=c.i)) (decide (0<=c.j)) false false sd (decide (c.pl+1+dp<=16)) (decide (wt<=20000)):=by
  rw [hR2,ek]
  first|rfl|(cases be<;>rfl)
 have HR:=qh hR3
 have f8:(c.k==8)=false:=by rw [ek];rfl
 have f9:(c.k==9)=false:=by rw [ek];rfl
 have HLK:Hid (Behind w 108 #[.string { data:= #[75,86] }, .int .u8 75] (.bool true)):=HIN 75 (by decide);have HLI:Hid (Behind w 108 #[.string { data:= #[75,86] }, .int .u8 73] (.bool false)):=HIN 73 (by decide);have HLJ:Hid (Behind w 108 #[.string { data:= #[75,86] }, .int .u8 74] (.bool false)):=HIN 74 (by decide);have HLN:Hid (Behind w 108 #[.string { data:= #[75,86] }, .int .u8 78] (.bool false)):=HIN 78 (by decide);have HLS:Hid (Behind w 108 #[.string { data:= #[75,86] }, .int .u8 83] (.bool false)):=HIN 83 (by decide);have HLV:Hid (Behind w 108 #[.string { data:= #[75,86] }, .int .u8 86] (.bool true)):=HIN 86 (by decide)
 clear hR2 hR3 e1 HIN ek
 go_enter Tryz.func66,Tryz.ntmps66
 go_wp2_with ((go_at_call 106;(with_reducible refine (Behind.at_ HSAYS.out ?_).mono ?_));(focus (have:=bx.below;have:=bx.size;go_grown));rintro e w1 ⟨rfl,hb1⟩;replace bx:=(bx.step (by go_grown)).step hb1;obtain ⟨zs,z0,z1,z2,z3,z4,z5,z6,y0,y1,y2,y3,y4⟩:=bx.all)
 rcases bcT ps (bcF i0 (bcF j0 (bcF n0 (bcT be (bcT vk (bcT vs (bcP (c.i<0) (bcP (c.j<0) trivial)))))))) with rfl|⟨rfl,(rfl|⟨rfl,(rfl|⟨rfl,(rfl|⟨rfl,(rfl|⟨rfl,(rfl|⟨rfl,(rfl|⟨rfl,(hpi|⟨hpi,(hpj|⟨hpj,_⟩)⟩)⟩)⟩)⟩)⟩)⟩)⟩)⟩
 all_goals go_wp2_with ((first|(go_at_call 107;(with_reducible refine (Behind.at_ HPS.out ?_).mono ?_))|(go_at_call 108;(with_reducible refine (Behind.at_ HLK.out ?_).mono ?_))|(go_at_call 108;(with_reducible refine (Behind.at_ HLI.out ?_).mono ?_))|(go_at_call 108;(with_reducible refine (Behind.at_ HLJ.out ?_).mono ?_))|(go_at_call 108;(with_reducible refine (Behind.at_ HLN.out ?_).mono ?_))|(go_at_call 108;(with_reducible refine (Behind.at_ HLS.out ?_).mono ?_))|(go_at_call 108;(with_reducible refine (Behind.at_ HLV.out ?_).mono ?_))|(go_at_call 52;(with_reducible refine (Behind.at_ HVK.out ?_).mono ?_))|(go_at_call 52;(with_reducible refine (Behind.at_ HVS.out ?_).mono ?_)));(focus (have:=bx.below;have:=bx.size;go_grown));rintro e w1 ⟨rfl,hb1⟩;replace bx:=(bx.step (by go_grown)).step hb1;obtain ⟨zs,z0,z1,z2,z3,z4,z5,z6,y0,y1,y2,y3,y4⟩:=bx.all)
 iterate 9 (focus (go_ret;exact ⟨Zc (by rw [HR.out];first|(simp [sndB, *];done)|(simp [sndB, *];intros;omega)),by have:=bx.below;have:=bx.size;go_grown⟩))
 have a0:=Zb bx.at_.c6.c0;have a1:=Zb bx.at_.c6.c1;have a2:=Zb bx.at_.c6.c2;have a3:=Zb bx.at_.c6.c3;have a4:=Zb bx.at_.c6.c4;have a5:=Zb bx.at_.c1
 have hbx:=bx.below
 have hbs:=bx.size
 rcases bcT sd (Xh c.pl dp) with rfl|⟨rfl,(⟨hd,hdI,hdB⟩|⟨hd,hdI,hdB⟩)⟩
 all_goals
  refine Zl (by kernel_rfl) (by kernel_rfl) ?_
  repeat (go_big_quiet_step ((first|(go_at_call 18;exact Zg (HSD.out _ (hbx.trans ((Ze _ _).mono (by omega)))))|(go_at_call 109;exact Zg (HDP.out _ (hbx.trans ((Ze _ _).mono (by omega)))))|(go_at_call 110;exact Zg (HWT.out _ (hbx.trans ((Ze _ _).mono (by omega))))))))
  refine wpQuiet_nil ?_
  intro _ hw'
  obtain ⟨pq,hw''⟩:=hw'
  subst hw''
  go_wp2_with fail
  go_ret
  exact ⟨Zc (by rw [HR.out];first|(simp [sndB, *];done)|(simp [sndB, *];intros;omega)),hbx.trans ((Ze _ _).mono (by omega))⟩
set_option maxRecDepth 100000 in
theorem zqf (w:World) (c:CC) {R ps vk vs bk be i0 j0 n0 vn sd:Bool} {dp wt:Nat} (h:SndH w c R ps vk vs bk be i0 j0 n0 vn sd dp wt) (ek:c.k=3):
 uP 66 #[.agg (uC c)] w fun e w'=>e= .returned (.bool R)/\uB w w':=by
 delta uC uB uP
 obtain ⟨hbk,hbe,hi0,hj0,hn0,HPS,HVK,HVS,HVN,HSD,HDP,HWT,HSAYS,⟨k1,k4,k5⟩,hR2⟩:=h
 have bx:=Yu w c 39
 have e1:saysB c.k= { data:= #[75] } :=by rw [ek];rfl
 rw [e1] at HSAYS
 have HIN:∀(b:Nat) {t:Bool},hasB { data:= #[75] } b=t->Hid (Behind w 108 #[.string { data:= #[75] }, .int .u8 b] (.bool t)):=fun b t ht W _=>by rw [<-ht];exact Xj { data:= #[75] } b W (by decide)
 have hR3:R=sndB true true false false false false false bk (!i0) (!j0) (!n0) be vn ps vk vs (decide (0<=c.i)) (decide (0<=c.j)) false false sd (decide (c.pl+1+dp<=16)) (decide (wt<=20000)):=by
  rw [hR2,ek]
  first|rfl|(cases be<;>rfl)
 have HR:=qh hR3
 have f8:(c.k==8)=false:=by rw [ek];rfl
 have f9:(c.k==9)=false:=by rw [ek];rfl
 have HLK:Hid (Behind w 108 #[.string { data:= #[75] }, .int .u8 75] (.bool true)):=HIN 75 (by decide);have HLI:Hid (Behind w 108 #[.string { data:= #[75] }, .int .u8 73] (.bool false)):=HIN 73 (by decide);have HLJ:Hid (Behind w 108 #[.string { data:= #[75] }, .int .u8 74] (.bool false)):=HIN 74 (by decide);have HLN:Hid (Behind w 108 #[.string { data:= #[75] }, .int .u8 78] (.bool false)):=HIN 78 (by decide);have HLS:Hid (Behind w 108 #[.string { data:= #[75] }, .int .u8 83] (.bool false)):=HIN 83 (by decide);have HLV:Hid (Behind w 108 #[.string { data:= #[75] }, .int .u8 86] (.bool false)):=HIN 86 (by decide)
 clear hR2 hR3 e1 HIN ek
 go_enter Tryz.func66,Tryz.ntmps66
 go_wp2_with ((go_at_call 106;(with_reducible refine (Behind.at_ HSAYS.out ?_).mono ?_));(focus (have:=bx.below;have:=bx.size;go_grown));rintro e w1 ⟨rfl,hb1⟩;replace bx:=(bx.step (by go_grown)).step hb1;obtain ⟨zs,z0,z1,z2,z3,z4,z5,z6,y0,y1,y2,y3,y4⟩:=bx.all)
 rcases bcT ps (bcF i0 (bcF j0 (bcF n0 (bcT be (bcT vn (bcT vk (bcT vs (bcP (c.i<0) (bcP (c.j<0) trivial))))))))) with rfl|⟨rfl,(rfl|⟨rfl,(rfl|⟨rfl,(rfl|⟨rfl,(rfl|⟨rfl,(rfl|⟨rfl,(rfl|⟨rfl,(rfl|⟨rfl,(hpi|⟨hpi,(hpj|⟨hpj,_⟩)⟩)⟩)⟩)⟩)⟩)⟩)⟩)⟩)⟩
 all_goals go_wp2_with ((first|(go_at_call 107;(with_reducible refine (Behind.at_ HPS.out ?_).mono ?_))|(go_at_call 108;(with_reducible refine (Behind.at_ HLK.out ?_).mono ?_))|(go_at_call 108;(with_reducible refine (Behind.at_ HLI.out ?_).mono ?_))|(go_at_call 108;(with_reducible refine (Behind.at_ HLJ.out ?_).mono ?_))|(go_at_call 108;(with_reducible refine (Behind.at_ HLN.out ?_).mono ?_))|(go_at_call 108;(with_reducible refine (Behind.at_ HLS.out ?_).mono ?_))|(go_at_call 108;(with_reducible refine (Behind.at_ HLV.out ?_).mono ?_))|(go_at_call 17;(with_reducible refine (Behind.at_ HVN.out ?_).mono ?_))|(go_at_call 52;(with_reducible refine (Behind.at_ HVK.out ?_).mono ?_))|(go_at_call 52;(with_reducible refine (Behind.at_ HVS.out ?_).mono ?_)));(focus (have:=bx.below;have:=bx.size;go_grown));rintro e w1 ⟨rfl,hb1⟩;replace bx:=(bx.step (by go_grown)).step hb1;obtain ⟨zs,z0,z1,z2,z3,z4,z5,z6,y0,y1,y2,y3,y4⟩:=bx.all)
 iterate 10 (focus (go_ret;exact ⟨Zc (by rw [HR.out];first|(simp [sndB, *];done)|(simp [sndB, *];intros;omega)),by have:=bx.below;have:=bx.size;go_grown⟩))
 have a0:=Zb bx.at_.c6.c0;have a1:=Zb bx.at_.c6.c1;have a2:=Zb bx.at_.c6.c2;have a3:=Zb bx.at_.c6.c3;have a4:=Zb bx.at_.c6.c4;have a5:=Zb bx.at_.c1
 have hbx:=bx.below
 have hbs:=bx.size
 rcases bcT sd (Xh c.pl dp) with rfl|⟨rfl,(⟨hd,hdI,hdB⟩|⟨hd,hdI,hdB⟩)⟩
 all_goals
  refine Zl (by kernel_rfl) (by kernel_rfl) ?_
  repeat (go_big_quiet_step ((first|(go_at_call 18;exact Zg (HSD.out _ (hbx.trans ((Ze _ _).mono (by omega)))))|(go_at_call 109;exact Zg (HDP.out _ (hbx.trans ((Ze _ _).mono (by omega)))))|(go_at_call 110;exact Zg (HWT.out _ (hbx.trans ((Ze _ _).mono (by omega))))))))
  refine wpQuiet_nil ?_
  intro _ hw'
  obtain ⟨pq,hw''⟩:=hw'
  subst hw''
  go_wp2_with fail
  go_ret
  exact ⟨Zc (by rw [HR.out];first|(simp [sndB, *];done)|(simp [sndB, *];intros;omega)),hbx.trans ((Ze _ _).mono (by omega))⟩
set_option maxRecDepth 100000 in
theorem zlc (w:World) (c:CC) {R ps vk vs bk be i0 j0 n0 vn sd:Bool} {dp wt:Nat} (h:SndH w c R ps vk vs bk be i0 j0 n0 vn sd dp wt) (ek:c.k=4):
 uP 66 #[.agg (uC c)] w fun e w'=>e= .returned (.bool R)/\uB w w':=by
 delta uC uB uP
 obtain ⟨hbk,hbe,hi0,hj0,hn0,HPS,HVK,HVS,HVN,HSD,HDP,HWT,HSAYS,⟨k1,k4,k5⟩,hR2⟩:=h
 have bx:=Yu w c 39
 have e1:saysB c.k= { data:= #[73,86] } :=by rw [ek];rfl
 rw [e1] at HSAYS
 have HIN:∀(b:Nat) {t:Bool},hasB { data:= #[73,86] } b=t->Hid (Behind w 108 #[.string { data:= #[73,86] }, .int .u8 b] (.bool t)):=fun b t ht W _=>by rw [<-ht];exact Xj { data:= #[73,86] } b W (by decide)
 have hR3:R=sndB true false true false false false true bk (!i0) (!j0) (!n0) be vn ps vk vs (decide (0<=c.i)) (decide (0<=c.j)) false false sd (decide (c.pl+1+dp<=16)) (decide (wt<=20000)):=by
  rw [hR2,ek]
  first|rfl|(cases be<;>rfl)
 have HR:=qh hR3
 have f8:(c.k==8)=false:=by rw [ek];rfl
 have f9:(c.k==9)=false:=by rw [ek];rfl
 have HLK:Hid (Behind w 108 #[.string { data:= #[73,86] }, .int .u8 75] (.bool false)):=HIN 75 (by decide);have HLI:Hid (Behind w 108 #[.string { data:= #[73,86] }, .int .u8 73] (.bool true)):=HIN 73 (by decide);have HLJ:Hid (Behind w 108 #[.string { data:= #[73,86] }, .int .u8 74] (.bool false)):=HIN 74 (by decide);have HLN:Hid (Behind w 108 #[.string { data:= #[73,86] }, .int .u8 78] (.bool false)):=HIN 78 (by decide);have HLS:Hid (Behind w 108 #[.string { data:= #[73,86] }, .int .u8 83] (.bool false)):=HIN 83 (by decide);have HLV:Hid (Behind w 108 #[.string { data:= #[73,86] }, .int .u8 86] (.bool true)):=HIN 86 (by decide)
 clear hR2 hR3 e1 HIN ek
 go_enter Tryz.func66,Tryz.ntmps66
 go_wp2_with ((go_at_call 106;(with_reducible refine (Behind.at_ HSAYS.out ?_).mono ?_));(focus (have:=bx.below;have:=bx.size;go_grown));rintro e w1 ⟨rfl,hb1⟩;replace bx:=(bx.step (by go_grown)).step hb1;obtain ⟨zs,z0,z1,z2,z3,z4,z5,z6,y0,y1,y2,y3,y4⟩:=bx.all)
 rcases bcT ps (bcT bk (bcF j0 (bcF n0 (bcT be (bcT vk (bcT vs (bcP (c.i<0) (bcP (c.j<0) trivial)))))))) with rfl|⟨rfl,(rfl|⟨rfl,(rfl|⟨rfl,(rfl|⟨rfl,(rfl|⟨rfl,(rfl|⟨rfl,(rfl|⟨rfl,(hpi|⟨hpi,(hpj|⟨hpj,_⟩)⟩)⟩)⟩)⟩)⟩)⟩)⟩)⟩
 all_goals go_wp2_with ((first|(go_at_call 107;(with_reducible refine (Behind.at_ HPS.out ?_).mono ?_))|(go_at_call 108;(with_reducible refine (Behind.at_ HLK.out ?_).mono ?_))|(go_at_call 108;(with_reducible refine (Behind.at_ HLI.out ?_).mono ?_))|(go_at_call 108;(with_reducible refine (Behind.at_ HLJ.out ?_).mono ?_))|(go_at_call 108;(with_reducible refine (Behind.at_ HLN.out ?_).mono ?_))|(go_at_call 108;(with_reducible refine (Behind.at_ HLS.out ?_).mono ?_))|(go_at_call 108;(with_reducible refine (Behind.at_ HLV.out ?_).mono ?_))|(go_at_call 52;(with_reducible refine (Behind.at_ HVK.out ?_).mono ?_))|(go_at_call 52;(with_reducible refine (Behind.at_ HVS.out ?_).mono ?_)));(focus (have:=bx.below;have:=bx.size;go_grown));rintro e w1 ⟨rfl,hb1⟩;replace bx:=(bx.step (by go_grown)).step hb1;obtain ⟨zs,z0,z1,z2,z3,z4,z5,z6,y0,y1,y2,y3,y4⟩:=bx.all)
 iterate 9 (focus (go_ret;exact ⟨Zc (by rw [HR.out];first|(simp [sndB, *];done)|(simp [sndB, *];intros;omega)),by have:=bx.below;have:=bx.size;go_grown⟩))
 have a0:=Zb bx.at_.c6.c0;have a1:=Zb bx.at_.c6.c1;have a2:=Zb bx.at_.c6.c2;have a3:=Zb bx.at_.c6.c3;have a4:=Zb bx.at_.c6.c4;have a5:=Zb bx.at_.c1
 have hbx:=bx.below
 have hbs:=bx.size
 rcases bcT sd (Xh c.pl dp) with rfl|⟨rfl,(⟨hd,hdI,hdB⟩|⟨hd,hdI,hdB⟩)⟩
 all_goals
  refine Zl (by kernel_rfl) (by kernel_rfl) ?_
  repeat (go_big_quiet_step ((first|(go_at_call 18;exact Zg (HSD.out _ (hbx.trans ((Ze _ _).mono (by omega)))))|(go_at_call 109;exact Zg (HDP.out _ (hbx.trans ((Ze _ _).mono (by omega)))))|(go_at_call 110;exact Zg (HWT.out _ (hbx.trans ((Ze _ _).mono (by omega))))))))
  refine wpQuiet_nil ?_
  intro _ hw'
  obtain ⟨pq,hw''⟩:=hw'
  subst hw''
  go_wp2_with fail
  go_ret
  exact ⟨Zc (by rw [HR.out];first|(simp [sndB, *];done)|(simp [sndB, *];intros;omega)),hbx.trans ((Ze _ _).mono (by omega))⟩
end Go.Proofs.YtnjgbiachcfigaaGreatDoor
