/-
  Contracts of the functions that the law reaches: conciliatorref03.Put: another one stands.
-/
import Derived.Test.YtbgheehjfnoiiaaGreatDoorOn7
namespace Go.Proofs.YtbgheehjfnoiiaaGreatDoor
open Go.RowKit
set_option maxHeartbeats 20000000
theorem Qx {w':World} {A:Prop} {r:Option V} {er:Int} {d:VC} {m m':Nat} (e:m=m') (h:Hid (A∨∃z,r=some z/\er=0/\IsVal (only (fun b=>m<=b) w') w'.heap.size z d)):Hid (A∨∃z,(r=some z/\er=0)/\IsVal (only (fun b=>m'<=b) w') w'.heap.size z d):=by
 subst e
 exact h.out.imp_right fun ⟨z,h1,h2,h3⟩=>⟨z,⟨h1,h2⟩,h3⟩
theorem IsSteps.tail {w:World} {B:Nat} {s:St} {r:List St} {b q n c:Nat} (h:IsSteps w B (s::r) (some ⟨b,q,none⟩) n c) (a':Option Addr) (c':Nat) (hc:n - 1<=c') (hc':c'<=9223372036854775807) (ha:1<n->a'=some ⟨b,q+3,none⟩):IsSteps w B r a' (n - 1) c':=by
 obtain ⟨h1,h2,h3,h4,b',q',h5,h6⟩:=h
 rw [List.length_cons] at h1
 obtain ⟨e1,e2⟩:=h5 (by omega)
 injection e1 with e1;injection e1 with e1 e3
 subst e1 e3
 refine ⟨by omega,hc,hc',by omega,b,q+3,fun hp=>⟨ha (by omega),e2⟩,fun i hi=> ?_⟩
 have:=h6 (i+1) (by rw [List.length_cons];omega)
 rw [show q+3+i*3=q+(i+1)*3 by omega]
 simpa using this
set_option maxRecDepth 100000 in
theorem ze1 (w:World) (vk vn:Int) (vs:ByteArray) (la:Option Addr) (ll lc:Nat) (oa:Option Addr) (ol oc:Nat) (v:V) (_hv:IsVal w w.heap.size v ⟨vk,vn,vs,la,ll,lc,oa,ol,oc⟩) (a:Option Addr) (n c:Nat) (xk xn:Int) (xs:ByteArray) (xa:Option Addr) (xl xc:Nat) (ya:Option Addr) (yl yc:Nat) (x:V) (hx:IsVal w w.heap.size x ⟨xk,xn,xs,xa,xl,xc,ya,yl,yc⟩) (hn:n=0):
 uP 66 #[.agg (uU vk vn vs la ll lc oa ol oc), .slice a n c, .agg (uU xk xn xs xa xl xc ya yl yc)] w (GetPost w (putP v [] x)):=by
 delta uU uP
 have HX:=qh hx
 have HB:=qh (PB.start w ⟨vk,vn,vs,la,ll,lc,oa,ol,oc⟩ ⟨xk,xn,xs,xa,xl,xc,ya,yl,yc⟩ 29 29 29)
 have HC:Hid (∀W,uB w W->uP 37 #[.agg (uU xk xn xs xa xl xc ya yl yc)] W (NewVal W x)):=fun W hW=>Yz x W ⟨xk,xn,xs,xa,xl,xc,ya,yl,yc⟩ (HX.out.later_ hW)
 subst hn
 clear hx
 go_enter Tryz.func66,Tryz.ntmps66
 generalize hQ0:bodyPost _ _ _=Q0
 have HQ:=qh hQ0
 clear hQ0
 go_wp2_with fail
 refine (HC.out _ HB.out.below).mono ?_
 rintro e w4 ⟨⟨d,rfl,hI4⟩,hb4⟩
 have B2:=HB.out.next hb4 (by simp)
 obtain ⟨v0,v1,v2,v3,v4⟩:=row5 B2.v.at_
 obtain ⟨x0,x1,x2,x3,x4⟩:=row5 B2.x.at_
 obtain ⟨r0,r1,r2,r3,r4⟩:=row5 B2.r.at_
 have f0:=B2.r.fr 0;have f1:=B2.r.fr 1;have f2:=B2.r.fr 2;have f3:=B2.r.fr 3;have f4:=B2.r.fr 4
 have z0:=B2.v.lt;have z1:=B2.x.lt;have z2:=B2.r.lt
 have HB2:=qh B2
 have HI:=qh hI4
 clear B2 hI4 hb4
 go_wp2_with fail
 rw [<-HQ.out]
 have ST:=HB2.out.result d
 exact Jy ST.1 ((Zm (base:=w.heap.size+1+1+1) (HI.out.sub (Ze fun k hk _=>⟨by simpa using hk,rfl⟩)) (Zi w4 (w.heap.size+1+1) 0 d) (by omega)).sub (Ze fun k hk _=>⟨by omega,rfl⟩)) ST.2 rfl rfl rfl
set_option maxRecDepth 100000 in
theorem znd (w:World) (vk vn:Int) (vs:ByteArray) (la:Option Addr) (ll lc:Nat) (oa:Option Addr) (ol oc:Nat) (v:V) (hv:IsVal w w.heap.size v ⟨vk,vn,vs,la,ll,lc,oa,ol,oc⟩) (a:Option Addr) (n c:Nat) (xk xn:Int) (xs:ByteArray) (xa:Option Addr) (xl xc:Nat) (ya:Option Addr) (yl yc:Nat) (x:V) (hx:IsVal w w.heap.size x ⟨xk,xn,xs,xa,xl,xc,ya,yl,yc⟩) (s:St) (r:List St) (b q:Nat) (ha:a=some ⟨b,q,none⟩) (hp:IsSteps w w.heap.size (s::r) a n c) (IH:∀(W:World) (y:V) (d:VC) (a:Option Addr) (n c:Nat),IsVal W W.heap.size y d->IsSteps W W.heap.size r a n c->IsVal W W.heap.size x ⟨xk,xn,xs,xa,xl,xc,ya,yl,yc⟩->uP 66 #[.agg (uV d), .slice a n c, .agg (uU xk xn xs xa xl xc ya yl yc)] W (GetPost W (putP y r x))) (hc:c=1):
 uP 66 #[.agg (uU vk vn vs la ll lc oa ol oc), .slice a n c, .agg (uU xk xn xs xa xl xc ya yl yc)] w (GetPost w (putP v (s::r) x)):=by
 delta uU uP
 subst ha
 have k1:=hp.few;have k2:=hp.max;have k3:=hp.cap;have k4:=hp.len
 rw [List.length_cons] at k4
 have HTL:Hid (IsSteps w w.heap.size r (some ⟨b,q,none⟩) 0 0):=by
  have:=hp.tail (some ⟨b,q,none⟩) 0 (by omega) (by omega) (by omega)
  rwa [show n - 1=0 by omega] at this
 obtain ⟨b',q',_,e1,hbB,hs,hsb⟩:=hp.get (k:=0) (by omega)
 injection e1 with e1;injection e1 with e1 e2
 subst e1 e2
 simp only [Nat.zero_mul,Nat.add_zero,List.getElem_cons_zero] at hs hsb
 have HS:=qh hs
 have HX:=qh hx
 have HV:=qh hv
 have IHH:=qh IH
 have HB:=qh (PB.start w ⟨vk,vn,vs,la,ll,lc,oa,ol,oc⟩ ⟨xk,xn,xs,xa,xl,xc,ya,yl,yc⟩ 29 29 29)
 obtain ⟨R,hR⟩:∃R,putP v (s::r) x=R:=⟨_,rfl⟩
 rw [hR]
 have HR:=qh hR
 have hne:((n:Int)==0)=false:=by simp;omega
 have hnp:0<n:=by omega
 clear hv hx hs hR hp IH k4
 subst hc
 obtain rfl:n=1:=by omega
 clear hne
 go_enter Tryz.func66,Tryz.ntmps66
 generalize hQ0:bodyPost _ _ _=Q0
 have HQ:=qh hQ0
 clear hQ0
 go_wp2_with fail
 have B:=HB.out
 obtain ⟨W0,hW0⟩:∃W0,(((w.alloc (.cells (uU vk vn vs la ll lc oa ol oc) 29)).alloc (.cells (uU xk xn xs xa xl xc ya yl yc) 29)).alloc (.cells (uU 0 0 { data:= #[] } none 0 0 none 0 0) 29))=W0:=⟨_,rfl⟩
 rw [hW0] at B ⊢
 clear HB hW0
 obtain ⟨v0,v1,v2,v3,v4⟩:=row5 B.v.at_
 obtain ⟨x0,x1,x2,x3,x4⟩:=row5 B.x.at_
 obtain ⟨r0,r1,r2,r3,r4⟩:=row5 B.r.at_
 have f0:=B.r.fr 0;have f1:=B.r.fr 1;have f2:=B.r.fr 2;have f3:=B.r.fr 3;have f4:=B.r.fr 4
 have z0:=B.v.lt;have z1:=B.x.lt;have z2:=B.r.lt
 have hs:=HS.out.keep B.below hbB
 have s0:=hs.c0;have s1:=hs.c1;have s2:=hs.c2
 have hbw:b<W0.heap.size:=World.block_lt_of_cell? W0 _ s0
 have hzs:=B.below.size
 have HBB:=qh B
 have HC:Hid (∀W,Below W0.heap.size W0.drew W->uP 104 #[.agg (uU vk vn vs la ll lc oa ol oc), .agg #[.bool s.list, .int .i64 s.i, .string s.key]] W (StepPost w w.heap.size W (stepP v s))):=fun W hW=>J6 W vk vn vs la ll lc oa ol oc v w w.heap.size ((HBB.out.below.trans ((Zf W0).mono hzs)).trans (hW.mono hzs)) (Nat.le_trans hzs hW.size) HV.out s hsb
 have HFB:Hid (∀W,Below W0.heap.size W0.drew W->W.cell? ⟨w.heap.size,0,none⟩=some (.int .u8 vk)/\W.cell? ⟨w.heap.size,1,none⟩=some (.int .i64 vn)/\W.cell? ⟨w.heap.size,2,none⟩=some (.string vs)/\W.cell? ⟨w.heap.size,3,none⟩=some (.slice la ll lc)/\W.cell? ⟨w.heap.size,4,none⟩=some (.slice oa ol oc)/\W.cell? ⟨b,q,none⟩=some (.bool s.list)/\W.cell? ⟨b,q+1,none⟩=some (.int .i64 s.i)/\W.cell? ⟨b,q+2,none⟩=some (.string s.key)):=by
  intro W hW
  have hk:∀b o u,b<W0.heap.size->W0.cell? ⟨b,o,none⟩=some u->W.cell? ⟨b,o,none⟩=some u:=fun b o u hb h=>Zb hW (Zb (Zf W0) h hb) hb
  exact ⟨hk _ _ _ z0 v0,hk _ _ _ z0 v1,hk _ _ _ z0 v2,hk _ _ _ z0 v3,hk _ _ _ z0 v4,hk _ _ _ hbw s0,hk _ _ _ hbw s1,hk _ _ _ hbw s2⟩
 clear B hs
 go_wp2_with fail
 refine wp_region_noPanic ?_
 go_region_held_law (fun W=>W.cell? ⟨w.heap.size,0,none⟩=some (.int .u8 vk)/\W.cell? ⟨w.heap.size,1,none⟩=some (.int .i64 vn)/\W.cell? ⟨w.heap.size,2,none⟩=some (.string vs)/\W.cell? ⟨w.heap.size,3,none⟩=some (.slice la ll lc)/\W.cell? ⟨w.heap.size,4,none⟩=some (.slice oa ol oc)/\W.cell? ⟨b,q,none⟩=some (.bool s.list)/\W.cell? ⟨b,q+1,none⟩=some (.int .i64 s.i)/\W.cell? ⟨b,q+2,none⟩=some (.string s.key))
  ((refine HFB.out _ ?_;(first|(with_reducible exact bl4)|(with_reducible exact Below.refl _ _)|(with_reducible exact Zp _ _)|(with_reducible exact Below.set5 bl4 _ _ _ _ _)|(with_reducible exact Below.set5' (Below.alloc bl4 bz4 _) bz4 _ _ _ _ _)|(with_reducible exact Below.alloc bl4 bz4 _))))
  (first
   |(go_at_call 104;(with_reducible refine (HC.out _ (Below.refl _ _)).mono ?_);rintro e w4 h4;obtain ⟨d,kk,er,rfl,hrel,hb4⟩:=StepPost.gen h4;clear h4;have bl4:Below W0.heap.size W0.drew w4:=hb4;have bz4:W0.heap.size<=w4.heap.size:=hb4.size)
   |(go_at_call 104;(with_reducible refine (HC.out _ (Zp _ _)).mono ?_);rintro e w4 h4;obtain ⟨d,kk,er,rfl,hrel,hb4⟩:=StepPost.gen h4;clear h4;have bl4:Below W0.heap.size W0.drew w4:=(Zp _ _).trans (hb4.mono (by simp));have bz4:W0.heap.size<=w4.heap.size:=bl4.size;have XB:=Xn hb4;obtain ⟨xc0,xc1,xc2,xc3,xc4⟩:=row5 XB.at_;have xg0:=XB.fr 0;have xg1:=XB.fr 1;have xg2:=XB.fr 2;have xg3:=XB.fr 3;have xg4:=XB.fr 4;have hxlt:=XB.lt))
 all_goals
  (first
   |((with_reducible refine Zr (P:=fun W=>BC W w4.heap.size (vcells d)/\Below W0.heap.size W0.drew W/\W0.heap.size<=w4.heap.size) (Q4 bl4 bz4 d _) ?_);rintro W1 ⟨YF,hbW, -⟩;generalize w4.heap.size=yb at YF ⊢)
   |((with_reducible refine Zr (P:=fun W=>BC W W0.heap.size (vcells d)/\Below W0.heap.size W0.drew W/\W0.heap.size<=W0.heap.size) (Jg bl4 d XB) ?_);rintro W1 ⟨YF,hbW, -⟩;generalize W0.heap.size=yb at YF ⊢))
  have B2:=HBB.out.next ((Zf W0).trans hbW) (Nat.succ_le_of_lt z2)
  clear v0 v1 v2 v3 v4 x0 x1 x2 x3 x4 r0 r1 r2 r3 r4 f0 f1 f2 f3 f4 s0 s1 s2 hb4 bl4 HC HFB
  obtain ⟨v0,v1,v2,v3,v4⟩:=row5 B2.v.at_
  obtain ⟨x0,x1,x2,x3,x4⟩:=row5 B2.x.at_
  obtain ⟨r0,r1,r2,r3,r4⟩:=row5 B2.r.at_
  have f0:=B2.r.fr 0;have f1:=B2.r.fr 1;have f2:=B2.r.fr 2;have f3:=B2.r.fr 3;have f4:=B2.r.fr 4
  have z0:=B2.v.lt;have z1:=B2.x.lt;have z2:=B2.r.lt
  obtain ⟨y0,y1,y2,y3,y4⟩:=row5 YF.at_
  have ylt:=YF.lt
  have z2B1:=B2.r.lt
  have hs:=HS.out.keep B2.below hbB
  have s0:=hs.c0;have s1:=hs.c1;have s2:=hs.c2
  have hbw1:b<W1.heap.size:=World.block_lt_of_cell? W1 _ s0
  have hzs1:=B2.below.size
  have HB2:=qh B2
  clear B2 YF hbW hs
  rcases hrel.out with ⟨hst,rfl⟩|⟨qq,hst,rfl,rfl,hI⟩
  .obtain rfl:R=none:=by rw [<-HR.out,putP,hst]
   clear hst
   go_wp2_with fail
   rw [<-HQ.out]
   have ST:=HB2.out.result ⟨0,0, { data:= #[] },none,0,0,none,0,0⟩
   exact Ji ST.1 ST.2 rfl rfl rfl
  .have HST:=qh hst
   have HI:=qh hI
   clear hst hI hrel
   have HC2:Hid (∀W,Below W1.heap.size W1.drew W->uP 66 #[.agg (uV d), .slice (some ⟨b,q,none⟩) 0 0, .agg (uU xk xn xs xa xl xc ya yl yc)] W (GetPost W (putP qq.1 r x))):=fun W hW=>by
    have hbl:uB w W:=(HB2.out.below.trans ((Zf W1).mono hzs1)).trans (hW.mono hzs1)
    exact IHH.out W qq.1 d _ _ _ ((HI.out.keep hbl).more hbl.size) (HTL.out.later_ hbl) (HX.out.later_ hbl)
   have HFB2:Hid (∀W,Below W1.heap.size W1.drew W->W.cell? ⟨yb,0,none⟩=some (.int .u8 d.k)/\W.cell? ⟨yb,1,none⟩=some (.int .i64 d.n)/\W.cell? ⟨yb,2,none⟩=some (.string d.s)/\W.cell? ⟨yb,3,none⟩=some (.slice d.la d.ll d.lc)/\W.cell? ⟨yb,4,none⟩=some (.slice d.oa d.ol d.oc)/\W.cell? ⟨w.heap.size+1,0,none⟩=some (.int .u8 xk)/\W.cell? ⟨w.heap.size+1,1,none⟩=some (.int .i64 xn)/\W.cell? ⟨w.heap.size+1,2,none⟩=some (.string xs)/\W.cell? ⟨w.heap.size+1,3,none⟩=some (.slice xa xl xc)/\W.cell? ⟨w.heap.size+1,4,none⟩=some (.slice ya yl yc)):=by
    intro W hW
    have hk:∀b o u,b<W1.heap.size->W1.cell? ⟨b,o,none⟩=some u->W.cell? ⟨b,o,none⟩=some u:=fun b o u hb h=>Zb hW (Zb (Zf W1) h hb) hb
    exact ⟨hk _ _ _ ylt y0,hk _ _ _ ylt y1,hk _ _ _ ylt y2,hk _ _ _ ylt y3,hk _ _ _ ylt y4,hk _ _ _ z1 x0,hk _ _ _ z1 x1,hk _ _ _ z1 x2,hk _ _ _ z1 x3,hk _ _ _ z1 x4⟩
   obtain ⟨PR,hPR⟩:∃PR,putP qq.1 r x=PR:=⟨_,rfl⟩
   rw [hPR] at HC2
   have HPR:=qh hPR
   clear hPR
   go_wp2_with fail
   refine wp_region_noPanic ?_
   go_region_held_law (fun W=>W.cell? ⟨yb,0,none⟩=some (.int .u8 d.k)/\W.cell? ⟨yb,1,none⟩=some (.int .i64 d.n)/\W.cell? ⟨yb,2,none⟩=some (.string d.s)/\W.cell? ⟨yb,3,none⟩=some (.slice d.la d.ll d.lc)/\W.cell? ⟨yb,4,none⟩=some (.slice d.oa d.ol d.oc)/\W.cell? ⟨w.heap.size+1,0,none⟩=some (.int .u8 xk)/\W.cell? ⟨w.heap.size+1,1,none⟩=some (.int .i64 xn)/\W.cell? ⟨w.heap.size+1,2,none⟩=some (.string xs)/\W.cell? ⟨w.heap.size+1,3,none⟩=some (.slice xa xl xc)/\W.cell? ⟨w.heap.size+1,4,none⟩=some (.slice ya yl yc))
    ((refine HFB2.out _ ?_;(first|(with_reducible exact bl5)|(with_reducible exact Below.refl _ _)|(with_reducible exact Zp _ _)|(with_reducible exact Below.set5 bl5 _ _ _ _ _)|(with_reducible exact Below.set5' (Below.alloc bl5 bz5 _) bz5 _ _ _ _ _)|(with_reducible exact Below.alloc bl5 bz5 _))))
    (first
     |(go_at_call 66;(with_reducible refine (HC2.out _ (Below.refl _ _)).mono ?_);rintro e w5 h5;obtain ⟨dz,ez,rfl,hrz,hb5⟩:=GetPost.gen h5;clear h5;have hz:=Qx (m':=W1.heap.size) rfl hrz;have bl5:Below W1.heap.size W1.drew w5:=hb5;have bz5:W1.heap.size<=w5.heap.size:=hb5.size)
     |(go_at_call 66;(with_reducible refine (HC2.out _ (Zp _ _)).mono ?_);rintro e w5 h5;obtain ⟨dz,ez,rfl,hrz,hb5⟩:=GetPost.gen h5;clear h5;have hz:=Qx (m':=W1.heap.size+1) (show (W1.alloc _).heap.size=_ by simp) hrz;have bl5:Below W1.heap.size W1.drew w5:=(Zp _ _).trans (hb5.mono (by simp));have bz5:W1.heap.size<=w5.heap.size:=bl5.size;have ZB:=Xn hb5;obtain ⟨xc0,xc1,xc2,xc3,xc4⟩:=row5 ZB.at_;have xg0:=ZB.fr 0;have xg1:=ZB.fr 1;have xg2:=ZB.fr 2;have xg3:=ZB.fr 3;have xg4:=ZB.fr 4;have hxlt:=ZB.lt))
   all_goals
    (first
     |((with_reducible refine Zr (P:=fun W=>(BC W w5.heap.size (vcells dz)/\Below W1.heap.size W1.drew W/\W1.heap.size<=w5.heap.size)/\Hid ((PR=none/\ez=30)∨∃z,(PR=some z/\ez=0)/\IsVal (only (fun b=>W1.heap.size<=b) W) W.heap.size z dz)) (zaq bl5 bz5 dz _ hz) ?_);rintro W2 ⟨⟨ZF,hbW, -⟩,hzz⟩;generalize w5.heap.size=zb at ZF ⊢)
     |((with_reducible refine Zr (P:=fun W=>(BC W W1.heap.size (vcells dz)/\Below W1.heap.size W1.drew W/\W1.heap.size<=W1.heap.size)/\Hid ((PR=none/\ez=30)∨∃z,(PR=some z/\ez=0)/\IsVal (only (fun b=>W1.heap.size<=b) W) W.heap.size z dz)) (zdb bl5 dz ZB hz) ?_);rintro W2 ⟨⟨ZF,hbW, -⟩,hzz⟩;generalize W1.heap.size=zb at ZF ⊢))
    have B3:=HB2.out.next ((Zf W1).trans hbW) (Nat.succ_le_of_lt z2)
    clear v0 v1 v2 v3 v4 x0 x1 x2 x3 x4 r0 r1 r2 r3 r4 f0 f1 f2 f3 f4 s0 s1 s2 y0 y1 y2 y3 y4 HC2 HFB2
    obtain ⟨v0,v1,v2,v3,v4⟩:=row5 B3.v.at_
    obtain ⟨x0,x1,x2,x3,x4⟩:=row5 B3.x.at_
    obtain ⟨r0,r1,r2,r3,r4⟩:=row5 B3.r.at_
    have f0:=B3.r.fr 0;have f1:=B3.r.fr 1;have f2:=B3.r.fr 2;have f3:=B3.r.fr 3;have f4:=B3.r.fr 4
    have z0:=B3.v.lt;have z1:=B3.x.lt;have z2:=B3.r.lt
    obtain ⟨e0,e1,e2,e3,e4⟩:=row5 ZF.at_
    have elt:=ZF.lt
    have hzs2:=B3.below.size
    have hzs3:W1.heap.size<=W2.heap.size:=hbW.size
    have hs:=HS.out.keep B3.below hbB
    have HB3:=qh B3
    clear B3
    rcases hzz.out with ⟨hpz,rfl⟩|⟨z,⟨hpz,rfl⟩,hIz⟩
    .obtain rfl:R=none:=by rw [<-HR.out,putP,HST.out];simp only [];rw [HPR.out,hpz]
     clear hpz hs hzz ZF hbW
     go_wp2_with fail
     rw [<-HQ.out]
     have ST:=HB3.out.result ⟨0,0, { data:= #[] },none,0,0,none,0,0⟩
     exact Ji ST.1 ST.2 rfl rfl rfl
    .have hR:R=some (if s.list=true then v.setL qq.2 z else v.setO qq.2 z):=by rw [<-HR.out,putP,HST.out];simp only [];rw [HPR.out,hpz]
     have HRR:=qh hR
     have HIZ:=qh hIz
     have HSS:=qh hs
     have HC3:Hid (uP 37 #[.agg (uU vk vn vs la ll lc oa ol oc)] W2 (CopyPost W2 vk vn vs v.ls v.os)):=Ky W2 v vk vn vs la ll lc oa ol oc ((HV.out.keep HB3.out.below).more hzs2)
     have HEB:=qh ZF
     clear hpz hR hIz hzz hbW hs ZF
     rcases Xm HST.out with ⟨hsl,hkd,_,hK,_⟩|⟨hsl,hkd,_,hK,_⟩
     .obtain ⟨K,hKK⟩:∃K,qq.2=K:=⟨_,rfl⟩
      rw [hKK] at hK HRR ⊢
      have HK:=qh hK
      have HSL:=qh hsl
      clear hkd hK hKK hsl
      go_wp2_with fail
      refine HC3.out.mono ?_
      rintro e w7 ⟨⟨a0,m0,c0,a1,m1,c1,cl,co,rfl,hF⟩,hb7⟩
      have B4:=HB3.out.next hb7 (Nat.succ_le_of_lt z2)
      have hs:=HSS.out.keep hb7 (by omega)
      obtain ⟨g,eg,hgb,hbc⟩:=hF.ownL.row (.inl (by have:=hF.len;have:=HK.out;omega))
      subst eg
      have hat:=Yp hbc (i:=K) (by rw [hF.ll];exact HK.out)
      have hKm:K<m0:=by rw [hF.len];exact HK.out
      have q0:=hat.c0;have q1:=hat.c1;have q2:=hat.c2;have q3:=hat.c3;have q4:=hat.c4
      have qf:=fun j=>hbc.fr j
      have qlt:=hbc.lt
      have EB:=HEB.out.keep hb7 elt
      clear v0 v1 v2 v3 v4 x0 x1 x2 x3 x4 r0 r1 r2 r3 r4 f0 f1 f2 f3 f4 e0 e1 e2 e3 e4
      obtain ⟨v0,v1,v2,v3,v4⟩:=row5 B4.v.at_
      obtain ⟨x0,x1,x2,x3,x4⟩:=row5 B4.x.at_
      obtain ⟨r0,r1,r2,r3,r4⟩:=row5 B4.r.at_
      have f0:=B4.r.fr 0;have f1:=B4.r.fr 1;have f2:=B4.r.fr 2;have f3:=B4.r.fr 3;have f4:=B4.r.fr 4
      have z0:=B4.v.lt;have z1:=B4.x.lt;have z2:=B4.r.lt
      obtain ⟨e0,e1,e2,e3,e4⟩:=row5 EB.at_
      have elt2:=EB.lt
      have s0:=hs.c0
      rw [HSL.out] at s0
      have hbw7:b<w7.heap.size:=by omega
      have HF:=qh hF
      have HB4:=qh B4
      have hgn:g≠w7.heap.size:=by omega
      go_wp2_with fail
      rw [<-HQ.out,HRR.out]
      simp only [HSL.out,if_true]
      exact zco HV.out HF.out HB4.out HIZ.out hb7 z2B1 hzs3 HK.out rfl rfl rfl
     .obtain ⟨K,hKK⟩:∃K,qq.2=K:=⟨_,rfl⟩
      rw [hKK] at hK HRR ⊢
      have HK:=qh hK
      have HSL:=qh hsl
      clear hkd hK hKK hsl
      go_wp2_with fail
      refine HC3.out.mono ?_
      rintro e w7 ⟨⟨a0,m0,c0,a1,m1,c1,cl,co,rfl,hF⟩,hb7⟩
      have B4:=HB3.out.next hb7 (Nat.succ_le_of_lt z2)
      have hs:=HSS.out.keep hb7 (by omega)
      obtain ⟨g,eg,hgb,hbc⟩:=hF.ownO.row (.inl (by have:=hF.len';have:=HK.out;omega))
      subst eg
      have hat:=(Z3 hbc (i:=K) (by rw [hF.lo];exact HK.out)).2
      have hKm:K<m1:=by rw [hF.len'];exact HK.out
      have q0:=hat.c0;have q1:=hat.c1;have q2:=hat.c2;have q3:=hat.c3;have q4:=hat.c4
      have qf:=fun j=>hbc.fr j
      have qlt:=hbc.lt
      have EB:=HEB.out.keep hb7 elt
      clear v0 v1 v2 v3 v4 x0 x1 x2 x3 x4 r0 r1 r2 r3 r4 f0 f1 f2 f3 f4 e0 e1 e2 e3 e4
      obtain ⟨v0,v1,v2,v3,v4⟩:=row5 B4.v.at_
      obtain ⟨x0,x1,x2,x3,x4⟩:=row5 B4.x.at_
      obtain ⟨r0,r1,r2,r3,r4⟩:=row5 B4.r.at_
      have f0:=B4.r.fr 0;have f1:=B4.r.fr 1;have f2:=B4.r.fr 2;have f3:=B4.r.fr 3;have f4:=B4.r.fr 4
      have z0:=B4.v.lt;have z1:=B4.x.lt;have z2:=B4.r.lt
      obtain ⟨e0,e1,e2,e3,e4⟩:=row5 EB.at_
      have elt2:=EB.lt
      have s0:=hs.c0
      rw [HSL.out] at s0
      have hbw7:b<w7.heap.size:=by omega
      have HF:=qh hF
      have HB4:=qh B4
      have hgn:g≠w7.heap.size:=by omega
      go_wp2_with fail
      rw [<-HQ.out,HRR.out]
      simp only [HSL.out,Bool.false_eq_true,if_false]
      exact zbt HV.out HF.out HB4.out HIZ.out hb7 z2B1 hzs3 HK.out rfl rfl rfl
set_option maxRecDepth 100000 in
theorem zih (w:World) (vk vn:Int) (vs:ByteArray) (la:Option Addr) (ll lc:Nat) (oa:Option Addr) (ol oc:Nat) (v:V) (hv:IsVal w w.heap.size v ⟨vk,vn,vs,la,ll,lc,oa,ol,oc⟩) (a:Option Addr) (n c:Nat) (xk xn:Int) (xs:ByteArray) (xa:Option Addr) (xl xc:Nat) (ya:Option Addr) (yl yc:Nat) (x:V) (hx:IsVal w w.heap.size x ⟨xk,xn,xs,xa,xl,xc,ya,yl,yc⟩) (s:St) (r:List St) (b q:Nat) (ha:a=some ⟨b,q,none⟩) (hp:IsSteps w w.heap.size (s::r) a n c) (IH:∀(W:World) (y:V) (d:VC) (a:Option Addr) (n c:Nat),IsVal W W.heap.size y d->IsSteps W W.heap.size r a n c->IsVal W W.heap.size x ⟨xk,xn,xs,xa,xl,xc,ya,yl,yc⟩->uP 66 #[.agg (uV d), .slice a n c, .agg (uU xk xn xs xa xl xc ya yl yc)] W (GetPost W (putP y r x))) (hc:1<c):
 uP 66 #[.agg (uU vk vn vs la ll lc oa ol oc), .slice a n c, .agg (uU xk xn xs xa xl xc ya yl yc)] w (GetPost w (putP v (s::r) x)):=by
 delta uU uP
 subst ha
 have k1:=hp.few;have k2:=hp.max;have k3:=hp.cap;have k4:=hp.len
 rw [List.length_cons] at k4
 have HTL:Hid (IsSteps w w.heap.size r (some ⟨b,q+3,none⟩) (n - 1) (c - 1)):=by
  have:=hp.tail (some ⟨b,q+3,none⟩) (c - 1) (by omega) (by omega) (fun _=>rfl)
  exact this
 obtain ⟨b',q',_,e1,hbB,hs,hsb⟩:=hp.get (k:=0) (by omega)
 injection e1 with e1;injection e1 with e1 e2
 subst e1 e2
 simp only [Nat.zero_mul,Nat.add_zero,List.getElem_cons_zero] at hs hsb
 have HS:=qh hs
 have HX:=qh hx
 have HV:=qh hv
 have IHH:=qh IH
 have HB:=qh (PB.start w ⟨vk,vn,vs,la,ll,lc,oa,ol,oc⟩ ⟨xk,xn,xs,xa,xl,xc,ya,yl,yc⟩ 29 29 29)
 obtain ⟨R,hR⟩:∃R,putP v (s::r) x=R:=⟨_,rfl⟩
 rw [hR]
 have HR:=qh hR
 have hne:((n:Int)==0)=false:=by simp;omega
 have hnp:0<n:=by omega
 clear hv hx hs hR hp IH k4
 go_enter Tryz.func66,Tryz.ntmps66
 generalize hQ0:bodyPost _ _ _=Q0
 have HQ:=qh hQ0
 clear hQ0
 go_wp2_with fail
 have B:=HB.out
 obtain ⟨W0,hW0⟩:∃W0,(((w.alloc (.cells (uU vk vn vs la ll lc oa ol oc) 29)).alloc (.cells (uU xk xn xs xa xl xc ya yl yc) 29)).alloc (.cells (uU 0 0 { data:= #[] } none 0 0 none 0 0) 29))=W0:=⟨_,rfl⟩
 rw [hW0] at B ⊢
 clear HB hW0
 obtain ⟨v0,v1,v2,v3,v4⟩:=row5 B.v.at_
 obtain ⟨x0,x1,x2,x3,x4⟩:=row5 B.x.at_
 obtain ⟨r0,r1,r2,r3,r4⟩:=row5 B.r.at_
 have f0:=B.r.fr 0;have f1:=B.r.fr 1;have f2:=B.r.fr 2;have f3:=B.r.fr 3;have f4:=B.r.fr 4
 have z0:=B.v.lt;have z1:=B.x.lt;have z2:=B.r.lt
 have hs:=HS.out.keep B.below hbB
 have s0:=hs.c0;have s1:=hs.c1;have s2:=hs.c2
 have hbw:b<W0.heap.size:=World.block_lt_of_cell? W0 _ s0
 have hzs:=B.below.size
 have HBB:=qh B
 have HC:Hid (∀W,Below W0.heap.size W0.drew W->uP 104 #[.agg (uU vk vn vs la ll lc oa ol oc), .agg #[.bool s.list, .int .i64 s.i, .string s.key]] W (StepPost w w.heap.size W (stepP v s))):=fun W hW=>J6 W vk vn vs la ll lc oa ol oc v w w.heap.size ((HBB.out.below.trans ((Zf W0).mono hzs)).trans (hW.mono hzs)) (Nat.le_trans hzs hW.size) HV.out s hsb
 have HFB:Hid (∀W,Below W0.heap.size W0.drew W->W.cell? ⟨w.heap.size,0,none⟩=some (.int .u8 vk)/\W.cell? ⟨w.heap.size,1,none⟩=some (.int .i64 vn)/\W.cell? ⟨w.heap.size,2,none⟩=some (.string vs)/\W.cell? ⟨w.heap.size,3,none⟩=some (.slice la ll lc)/\W.cell? ⟨w.heap.size,4,none⟩=some (.slice oa ol oc)/\W.cell? ⟨b,q,none⟩=some (.bool s.list)/\W.cell? ⟨b,q+1,none⟩=some (.int .i64 s.i)/\W.cell? ⟨b,q+2,none⟩=some (.string s.key)):=by
  intro W hW
  have hk:∀b o u,b<W0.heap.size->W0.cell? ⟨b,o,none⟩=some u->W.cell? ⟨b,o,none⟩=some u:=fun b o u hb h=>Zb hW (Zb (Zf W0) h hb) hb
  exact ⟨hk _ _ _ z0 v0,hk _ _ _ z0 v1,hk _ _ _ z0 v2,hk _ _ _ z0 v3,hk _ _ _ z0 v4,hk _ _ _ hbw s0,hk _ _ _ hbw s1,hk _ _ _ hbw s2⟩
 clear B hs
 go_wp2_with fail
 refine wp_region_noPanic ?_
 go_region_held_law (fun W=>W.cell? ⟨w.heap.size,0,none⟩=some (.int .u8 vk)/\W.cell? ⟨w.heap.size,1,none⟩=some (.int .i64 vn)/\W.cell? ⟨w.heap.size,2,none⟩=some (.string vs)/\W.cell? ⟨w.heap.size,3,none⟩=some (.slice la ll lc)/\W.cell? ⟨w.heap.size,4,none⟩=some (.slice oa ol oc)/\W.cell? ⟨b,q,none⟩=some (.bool s.list)/\W.cell? ⟨b,q+1,none⟩=some (.int .i64 s.i)/\W.cell? ⟨b,q+2,none⟩=some (.string s.key))
  ((refine HFB.out _ ?_;(first|(with_reducible exact bl4)|(with_reducible exact Below.refl _ _)|(with_reducible exact Zp _ _)|(with_reducible exact Below.set5 bl4 _ _ _ _ _)|(with_reducible exact Below.set5' (Below.alloc bl4 bz4 _) bz4 _ _ _ _ _)|(with_reducible exact Below.alloc bl4 bz4 _))))
  (first
   |(go_at_call 104;(with_reducible refine (HC.out _ (Below.refl _ _)).mono ?_);rintro e w4 h4;obtain ⟨d,kk,er,rfl,hrel,hb4⟩:=StepPost.gen h4;clear h4;have bl4:Below W0.heap.size W0.drew w4:=hb4;have bz4:W0.heap.size<=w4.heap.size:=hb4.size)
   |(go_at_call 104;(with_reducible refine (HC.out _ (Zp _ _)).mono ?_);rintro e w4 h4;obtain ⟨d,kk,er,rfl,hrel,hb4⟩:=StepPost.gen h4;clear h4;have bl4:Below W0.heap.size W0.drew w4:=(Zp _ _).trans (hb4.mono (by simp));have bz4:W0.heap.size<=w4.heap.size:=bl4.size;have XB:=Xn hb4;obtain ⟨xc0,xc1,xc2,xc3,xc4⟩:=row5 XB.at_;have xg0:=XB.fr 0;have xg1:=XB.fr 1;have xg2:=XB.fr 2;have xg3:=XB.fr 3;have xg4:=XB.fr 4;have hxlt:=XB.lt))
 all_goals
  (first
   |((with_reducible refine Zr (P:=fun W=>BC W w4.heap.size (vcells d)/\Below W0.heap.size W0.drew W/\W0.heap.size<=w4.heap.size) (Q4 bl4 bz4 d _) ?_);rintro W1 ⟨YF,hbW, -⟩;generalize w4.heap.size=yb at YF ⊢)
   |((with_reducible refine Zr (P:=fun W=>BC W W0.heap.size (vcells d)/\Below W0.heap.size W0.drew W/\W0.heap.size<=W0.heap.size) (Jg bl4 d XB) ?_);rintro W1 ⟨YF,hbW, -⟩;generalize W0.heap.size=yb at YF ⊢))
  have B2:=HBB.out.next ((Zf W0).trans hbW) (Nat.succ_le_of_lt z2)
  clear v0 v1 v2 v3 v4 x0 x1 x2 x3 x4 r0 r1 r2 r3 r4 f0 f1 f2 f3 f4 s0 s1 s2 hb4 bl4 HC HFB
  obtain ⟨v0,v1,v2,v3,v4⟩:=row5 B2.v.at_
  obtain ⟨x0,x1,x2,x3,x4⟩:=row5 B2.x.at_
  obtain ⟨r0,r1,r2,r3,r4⟩:=row5 B2.r.at_
  have f0:=B2.r.fr 0;have f1:=B2.r.fr 1;have f2:=B2.r.fr 2;have f3:=B2.r.fr 3;have f4:=B2.r.fr 4
  have z0:=B2.v.lt;have z1:=B2.x.lt;have z2:=B2.r.lt
  obtain ⟨y0,y1,y2,y3,y4⟩:=row5 YF.at_
  have ylt:=YF.lt
  have z2B1:=B2.r.lt
  have hs:=HS.out.keep B2.below hbB
  have s0:=hs.c0;have s1:=hs.c1;have s2:=hs.c2
  have hbw1:b<W1.heap.size:=World.block_lt_of_cell? W1 _ s0
  have hzs1:=B2.below.size
  have HB2:=qh B2
  clear B2 YF hbW hs
  rcases hrel.out with ⟨hst,rfl⟩|⟨qq,hst,rfl,rfl,hI⟩
  .obtain rfl:R=none:=by rw [<-HR.out,putP,hst]
   clear hst
   go_wp2_with fail
   rw [<-HQ.out]
   have ST:=HB2.out.result ⟨0,0, { data:= #[] },none,0,0,none,0,0⟩
   exact Ji ST.1 ST.2 rfl rfl rfl
  .have HST:=qh hst
   have HI:=qh hI
   clear hst hI hrel
   have HC2:Hid (∀W,Below W1.heap.size W1.drew W->uP 66 #[.agg (uV d), .slice (some ⟨b,q+3,none⟩) (n - 1) (c - 1), .agg (uU xk xn xs xa xl xc ya yl yc)] W (GetPost W (putP qq.1 r x))):=fun W hW=>by
    have hbl:uB w W:=(HB2.out.below.trans ((Zf W1).mono hzs1)).trans (hW.mono hzs1)
    exact IHH.out W qq.1 d _ _ _ ((HI.out.keep hbl).more hbl.size) (HTL.out.later_ hbl) (HX.out.later_ hbl)
   have HFB2:Hid (∀W,Below W1.heap.size W1.drew W->W.cell? ⟨yb,0,none⟩=some (.int .u8 d.k)/\W.cell? ⟨yb,1,none⟩=some (.int .i64 d.n)/\W.cell? ⟨yb,2,none⟩=some (.string d.s)/\W.cell? ⟨yb,3,none⟩=some (.slice d.la d.ll d.lc)/\W.cell? ⟨yb,4,none⟩=some (.slice d.oa d.ol d.oc)/\W.cell? ⟨w.heap.size+1,0,none⟩=some (.int .u8 xk)/\W.cell? ⟨w.heap.size+1,1,none⟩=some (.int .i64 xn)/\W.cell? ⟨w.heap.size+1,2,none⟩=some (.string xs)/\W.cell? ⟨w.heap.size+1,3,none⟩=some (.slice xa xl xc)/\W.cell? ⟨w.heap.size+1,4,none⟩=some (.slice ya yl yc)):=by
    intro W hW
    have hk:∀b o u,b<W1.heap.size->W1.cell? ⟨b,o,none⟩=some u->W.cell? ⟨b,o,none⟩=some u:=fun b o u hb h=>Zb hW (Zb (Zf W1) h hb) hb
    exact ⟨hk _ _ _ ylt y0,hk _ _ _ ylt y1,hk _ _ _ ylt y2,hk _ _ _ ylt y3,hk _ _ _ ylt y4,hk _ _ _ z1 x0,hk _ _ _ z1 x1,hk _ _ _ z1 x2,hk _ _ _ z1 x3,hk _ _ _ z1 x4⟩
   obtain ⟨PR,hPR⟩:∃PR,putP qq.1 r x=PR:=⟨_,rfl⟩
   rw [hPR] at HC2
   have HPR:=qh hPR
   clear hPR
   go_wp2_with fail
   refine wp_region_noPanic ?_
   go_region_held_law (fun W=>W.cell? ⟨yb,0,none⟩=some (.int .u8 d.k)/\W.cell? ⟨yb,1,none⟩=some (.int .i64 d.n)/\W.cell? ⟨yb,2,none⟩=some (.string d.s)/\W.cell? ⟨yb,3,none⟩=some (.slice d.la d.ll d.lc)/\W.cell? ⟨yb,4,none⟩=some (.slice d.oa d.ol d.oc)/\W.cell? ⟨w.heap.size+1,0,none⟩=some (.int .u8 xk)/\W.cell? ⟨w.heap.size+1,1,none⟩=some (.int .i64 xn)/\W.cell? ⟨w.heap.size+1,2,none⟩=some (.string xs)/\W.cell? ⟨w.heap.size+1,3,none⟩=some (.slice xa xl xc)/\W.cell? ⟨w.heap.size+1,4,none⟩=some (.slice ya yl yc))
    ((refine HFB2.out _ ?_;(first|(with_reducible exact bl5)|(with_reducible exact Below.refl _ _)|(with_reducible exact Zp _ _)|(with_reducible exact Below.set5 bl5 _ _ _ _ _)|(with_reducible exact Below.set5' (Below.alloc bl5 bz5 _) bz5 _ _ _ _ _)|(with_reducible exact Below.alloc bl5 bz5 _))))
    (first
     |(go_at_call 66;(with_reducible refine (HC2.out _ (Below.refl _ _)).mono ?_);rintro e w5 h5;obtain ⟨dz,ez,rfl,hrz,hb5⟩:=GetPost.gen h5;clear h5;have hz:=Qx (m':=W1.heap.size) rfl hrz;have bl5:Below W1.heap.size W1.drew w5:=hb5;have bz5:W1.heap.size<=w5.heap.size:=hb5.size)
     |(go_at_call 66;(with_reducible refine (HC2.out _ (Zp _ _)).mono ?_);rintro e w5 h5;obtain ⟨dz,ez,rfl,hrz,hb5⟩:=GetPost.gen h5;clear h5;have hz:=Qx (m':=W1.heap.size+1) (show (W1.alloc _).heap.size=_ by simp) hrz;have bl5:Below W1.heap.size W1.drew w5:=(Zp _ _).trans (hb5.mono (by simp));have bz5:W1.heap.size<=w5.heap.size:=bl5.size;have ZB:=Xn hb5;obtain ⟨xc0,xc1,xc2,xc3,xc4⟩:=row5 ZB.at_;have xg0:=ZB.fr 0;have xg1:=ZB.fr 1;have xg2:=ZB.fr 2;have xg3:=ZB.fr 3;have xg4:=ZB.fr 4;have hxlt:=ZB.lt))
   all_goals
    (first
     |((with_reducible refine Zr (P:=fun W=>(BC W w5.heap.size (vcells dz)/\Below W1.heap.size W1.drew W/\W1.heap.size<=w5.heap.size)/\Hid ((PR=none/\ez=30)∨∃z,(PR=some z/\ez=0)/\IsVal (only (fun b=>W1.heap.size<=b) W) W.heap.size z dz)) (zaq bl5 bz5 dz _ hz) ?_);rintro W2 ⟨⟨ZF,hbW, -⟩,hzz⟩;generalize w5.heap.size=zb at ZF ⊢)
     |((with_reducible refine Zr (P:=fun W=>(BC W W1.heap.size (vcells dz)/\Below W1.heap.size W1.drew W/\W1.heap.size<=W1.heap.size)/\Hid ((PR=none/\ez=30)∨∃z,(PR=some z/\ez=0)/\IsVal (only (fun b=>W1.heap.size<=b) W) W.heap.size z dz)) (zdb bl5 dz ZB hz) ?_);rintro W2 ⟨⟨ZF,hbW, -⟩,hzz⟩;generalize W1.heap.size=zb at ZF ⊢))
    have B3:=HB2.out.next ((Zf W1).trans hbW) (Nat.succ_le_of_lt z2)
    clear v0 v1 v2 v3 v4 x0 x1 x2 x3 x4 r0 r1 r2 r3 r4 f0 f1 f2 f3 f4 s0 s1 s2 y0 y1 y2 y3 y4 HC2 HFB2
    obtain ⟨v0,v1,v2,v3,v4⟩:=row5 B3.v.at_
    obtain ⟨x0,x1,x2,x3,x4⟩:=row5 B3.x.at_
    obtain ⟨r0,r1,r2,r3,r4⟩:=row5 B3.r.at_
    have f0:=B3.r.fr 0;have f1:=B3.r.fr 1;have f2:=B3.r.fr 2;have f3:=B3.r.fr 3;have f4:=B3.r.fr 4
    have z0:=B3.v.lt;have z1:=B3.x.lt;have z2:=B3.r.lt
    obtain ⟨e0,e1,e2,e3,e4⟩:=row5 ZF.at_
    have elt:=ZF.lt
    have hzs2:=B3.below.size
    have hzs3:W1.heap.size<=W2.heap.size:=hbW.size
    have hs:=HS.out.keep B3.below hbB
    have HB3:=qh B3
    clear B3
    rcases hzz.out with ⟨hpz,rfl⟩|⟨z,⟨hpz,rfl⟩,hIz⟩
    .obtain rfl:R=none:=by rw [<-HR.out,putP,HST.out];simp only [];rw [HPR.out,hpz]
     clear hpz hs hzz ZF hbW
     go_wp2_with fail
     rw [<-HQ.out]
     have ST:=HB3.out.result ⟨0,0, { data:= #[] },none,0,0,none,0,0⟩
     exact Ji ST.1 ST.2 rfl rfl rfl
    .have hR:R=some (if s.list=true then v.setL qq.2 z else v.setO qq.2 z):=by rw [<-HR.out,putP,HST.out];simp only [];rw [HPR.out,hpz]
     have HRR:=qh hR
     have HIZ:=qh hIz
     have HSS:=qh hs
     have HC3:Hid (uP 37 #[.agg (uU vk vn vs la ll lc oa ol oc)] W2 (CopyPost W2 vk vn vs v.ls v.os)):=Ky W2 v vk vn vs la ll lc oa ol oc ((HV.out.keep HB3.out.below).more hzs2)
     have HEB:=qh ZF
     clear hpz hR hIz hzz hbW hs ZF
     rcases Xm HST.out with ⟨hsl,hkd,_,hK,_⟩|⟨hsl,hkd,_,hK,_⟩
     .obtain ⟨K,hKK⟩:∃K,qq.2=K:=⟨_,rfl⟩
      rw [hKK] at hK HRR ⊢
      have HK:=qh hK
      have HSL:=qh hsl
      clear hkd hK hKK hsl
      go_wp2_with fail
      refine HC3.out.mono ?_
      rintro e w7 ⟨⟨a0,m0,c0,a1,m1,c1,cl,co,rfl,hF⟩,hb7⟩
      have B4:=HB3.out.next hb7 (Nat.succ_le_of_lt z2)
      have hs:=HSS.out.keep hb7 (by omega)
      obtain ⟨g,eg,hgb,hbc⟩:=hF.ownL.row (.inl (by have:=hF.len;have:=HK.out;omega))
      subst eg
      have hat:=Yp hbc (i:=K) (by rw [hF.ll];exact HK.out)
      have hKm:K<m0:=by rw [hF.len];exact HK.out
      have q0:=hat.c0;have q1:=hat.c1;have q2:=hat.c2;have q3:=hat.c3;have q4:=hat.c4
      have qf:=fun j=>hbc.fr j
      have qlt:=hbc.lt
      have EB:=HEB.out.keep hb7 elt
      clear v0 v1 v2 v3 v4 x0 x1 x2 x3 x4 r0 r1 r2 r3 r4 f0 f1 f2 f3 f4 e0 e1 e2 e3 e4
      obtain ⟨v0,v1,v2,v3,v4⟩:=row5 B4.v.at_
      obtain ⟨x0,x1,x2,x3,x4⟩:=row5 B4.x.at_
      obtain ⟨r0,r1,r2,r3,r4⟩:=row5 B4.r.at_
      have f0:=B4.r.fr 0;have f1:=B4.r.fr 1;have f2:=B4.r.fr 2;have f3:=B4.r.fr 3;have f4:=B4.r.fr 4
      have z0:=B4.v.lt;have z1:=B4.x.lt;have z2:=B4.r.lt
      obtain ⟨e0,e1,e2,e3,e4⟩:=row5 EB.at_
      have elt2:=EB.lt
      have s0:=hs.c0
      rw [HSL.out] at s0
      have hbw7:b<w7.heap.size:=by omega
      have HF:=qh hF
      have HB4:=qh B4
      have hgn:g≠w7.heap.size:=by omega
      go_wp2_with fail
      rw [<-HQ.out,HRR.out]
      simp only [HSL.out,if_true]
      exact zco HV.out HF.out HB4.out HIZ.out hb7 z2B1 hzs3 HK.out rfl rfl rfl
     .obtain ⟨K,hKK⟩:∃K,qq.2=K:=⟨_,rfl⟩
      rw [hKK] at hK HRR ⊢
      have HK:=qh hK
      have HSL:=qh hsl
      clear hkd hK hKK hsl
      go_wp2_with fail
      refine HC3.out.mono ?_
      rintro e w7 ⟨⟨a0,m0,c0,a1,m1,c1,cl,co,rfl,hF⟩,hb7⟩
      have B4:=HB3.out.next hb7 (Nat.succ_le_of_lt z2)
      have hs:=HSS.out.keep hb7 (by omega)
      obtain ⟨g,eg,hgb,hbc⟩:=hF.ownO.row (.inl (by have:=hF.len';have:=HK.out;omega))
      subst eg
      have hat:=(Z3 hbc (i:=K) (by rw [hF.lo];exact HK.out)).2
      have hKm:K<m1:=by rw [hF.len'];exact HK.out
      have q0:=hat.c0;have q1:=hat.c1;have q2:=hat.c2;have q3:=hat.c3;have q4:=hat.c4
      have qf:=fun j=>hbc.fr j
      have qlt:=hbc.lt
      have EB:=HEB.out.keep hb7 elt
      clear v0 v1 v2 v3 v4 x0 x1 x2 x3 x4 r0 r1 r2 r3 r4 f0 f1 f2 f3 f4 e0 e1 e2 e3 e4
      obtain ⟨v0,v1,v2,v3,v4⟩:=row5 B4.v.at_
      obtain ⟨x0,x1,x2,x3,x4⟩:=row5 B4.x.at_
      obtain ⟨r0,r1,r2,r3,r4⟩:=row5 B4.r.at_
      have f0:=B4.r.fr 0;have f1:=B4.r.fr 1;have f2:=B4.r.fr 2;have f3:=B4.r.fr 3;have f4:=B4.r.fr 4
      have z0:=B4.v.lt;have z1:=B4.x.lt;have z2:=B4.r.lt
      obtain ⟨e0,e1,e2,e3,e4⟩:=row5 EB.at_
      have elt2:=EB.lt
      have s0:=hs.c0
      rw [HSL.out] at s0
      have hbw7:b<w7.heap.size:=by omega
      have HF:=qh hF
      have HB4:=qh B4
      have hgn:g≠w7.heap.size:=by omega
      go_wp2_with fail
      rw [<-HQ.out,HRR.out]
      simp only [HSL.out,Bool.false_eq_true,if_false]
      exact zbt HV.out HF.out HB4.out HIZ.out hb7 z2B1 hzs3 HK.out rfl rfl rfl
theorem Jp (x:V) (xk xn:Int) (xs:ByteArray) (xa:Option Addr) (xl xc:Nat) (ya:Option Addr) (yl yc:Nat) (p:List St):∀(w:World) (vk vn:Int) (vs:ByteArray) (la:Option Addr) (ll lc:Nat) (oa:Option Addr) (ol oc:Nat) (v:V),IsVal w w.heap.size v ⟨vk,vn,vs,la,ll,lc,oa,ol,oc⟩->∀(a:Option Addr) (n c:Nat),IsSteps w w.heap.size p a n c->IsVal w w.heap.size x ⟨xk,xn,xs,xa,xl,xc,ya,yl,yc⟩->
 uP 66 #[.agg (uU vk vn vs la ll lc oa ol oc), .slice a n c, .agg (uU xk xn xs xa xl xc ya yl yc)] w (GetPost w (putP v p x)):=by
 delta uU uP
 induction p with
 | nil=>
   intro w vk vn vs la ll lc oa ol oc v hv a n c hp hx
   exact ze1 w vk vn vs la ll lc oa ol oc v hv a n c xk xn xs xa xl xc ya yl yc x hx hp.len
 | cons s r ih=>
   intro w vk vn vs la ll lc oa ol oc v hv a n c hp hx
   have k4:=hp.len
   have k3:=hp.cap
   rw [List.length_cons] at k4
   obtain ⟨b,q,_,ha,_,_,_⟩:=hp.get (k:=0) (by omega)
   have IH:∀(W:World) (y:V) (d:VC) (a:Option Addr) (n c:Nat),IsVal W W.heap.size y d->IsSteps W W.heap.size r a n c->IsVal W W.heap.size x ⟨xk,xn,xs,xa,xl,xc,ya,yl,yc⟩->uP 66 #[.agg (uV d), .slice a n c, .agg (uU xk xn xs xa xl xc ya yl yc)] W (GetPost W (putP y r x)):=fun W y d a n c h1 h2 h3=>ih W d.k d.n d.s d.la d.ll d.lc d.oa d.ol d.oc y h1 a n c h2 h3
   by_cases hc:c=1
   .exact znd w vk vn vs la ll lc oa ol oc v hv a n c xk xn xs xa xl xc ya yl yc x hx s r b q ha hp IH hc
   .exact zih w vk vn vs la ll lc oa ol oc v hv a n c xk xn xs xa xl xc ya yl yc x hx s r b q ha hp IH (by omega)
end Go.Proofs.YtbgheehjfnoiiaaGreatDoor
