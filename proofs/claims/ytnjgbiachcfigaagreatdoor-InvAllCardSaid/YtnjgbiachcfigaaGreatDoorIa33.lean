/-
  Contracts of the functions that the law reaches: conciliatorref06.Do: a list..
-/
import Derived.Test.YtnjgbiachcfigaaGreatDoorIa31
namespace Go.Proofs.YtnjgbiachcfigaaGreatDoor
open Go.RowKit
set_option maxHeartbeats 8000000
set_option maxRecDepth 100000 in
theorem zil (w:World) (vk vn:Int) (vs:ByteArray) (la:Option Addr) (ll lc:Nat) (oa:Option Addr) (ol oc:Nat) (v:V) (hv:IsVal w w.heap.size v ⟨vk,vn,vs,la,ll,lc,oa,ol,oc⟩) (hw:v.weight<=100000000) (p:List St) (xv:V) (cc:CC) (hcb:cc.Bnd) (hp:IsSteps w w.heap.size p cc.pa cc.pl cc.pc) (hxv:IsVal w w.heap.size xv cc.v) (hxw:xv.weight<=4611686018427387904) (hT:Tabs w) (he:checkP v ⟨cc.k,p,cc.key,cc.i,cc.j,cc.n,xv,cc.s⟩=0) (hk:4<=cc.k/\cc.k<=7):
 uP 16 #[.agg (uU vk vn vs la ll lc oa ol oc), .agg (uC cc)] w (DoPost w (doP v ⟨cc.k,p,cc.key,cc.i,cc.j,cc.n,xv,cc.s⟩)):=by
 delta uU uC uP
 obtain ⟨_,x,hg,hkd⟩:=Zw he
 dsimp only at hg hkd
 have hxw2:=Zy p hg
 have HCK:Hid (∀W,uB w W->uP 34 #[.agg (uU vk vn vs la ll lc oa ol oc), .agg (uC cc)] W fun e w'=>e= .returned (.int .i64 0)/\uB W w'):=fun W hW=>by
  have:=Xx W vk vn vs la ll lc oa ol oc v (hv.later_ hW) (by omega) p xv cc hcb (hp.later_ hW) (hxv.later_ hW) (by omega) (hT.below hW)
  rw [he] at this;exact this
 have HGT:Hid (∀W,uB w W->uP 38 #[.agg (uU vk vn vs la ll lc oa ol oc), .slice cc.pa cc.pl cc.pc] W (GetPost W (some x))):=fun W hW=>by rw [<-hg];exact Xn W vk vn vs la ll lc oa ol oc v (hv.later_ hW) p cc.pa cc.pl cc.pc (hp.later_ hW)
 have HPT:Hid (∀(W:World) (y:V) (k n:Int) (s:ByteArray) (a:Option Addr) (m c:Nat) (a':Option Addr) (m' c':Nat),uB w W->IsVal W W.heap.size y ⟨k,n,s,a,m,c,a',m',c'⟩->uP 51 #[.agg (uU vk vn vs la ll lc oa ol oc), .slice cc.pa cc.pl cc.pc, .agg (uU k n s a m c a' m' c')] W (GetPost W (putP v p y))):=fun W y k n s a m c a' m' c' hW hy=>Q7 y k n s a m c a' m' c' p W vk vn vs la ll lc oa ol oc v (hv.later_ hW) cc.pa cc.pl cc.pc (hp.later_ hW) hy
 have hdo:doP v ⟨cc.k,p,cc.key,cc.i,cc.j,cc.n,xv,cc.s⟩=doneQ (putP v p (doneP x ⟨cc.k,p,cc.key,cc.i,cc.j,cc.n,xv,cc.s⟩)):=Y8 he hg
 rw [hdo]
 have HB:=qh (DB.start w ⟨vk,vn,vs,la,ll,lc,oa,ol,oc⟩ cc 36 39 36)
 have HTT:=qh hT
 have HXV:=qh hxv
 have HCB:=qh hcb
 have HKD:=qh hkd
 have hsw:=x.str_weight
 obtain ⟨kx,nx,sx,lx,ox,rfl⟩:=x.eta
 dsimp only [V.str,V.ls,V.os] at hsw
 obtain ⟨Y,hY⟩:∃Y,doneP (.mk kx nx sx lx ox) ⟨cc.k,p,cc.key,cc.i,cc.j,cc.n,xv,cc.s⟩=Y:=⟨_,rfl⟩
 rw [hY]
 obtain ⟨z,hPR⟩:=Ym p hg Y
 rw [hPR,Xb]
 have HY:=qh hY
 have HPR:=qh hPR
 clear hv hp hxv hT hcb hdo hY hPR he hg hkd
 have HK:=qh hk
 clear hk
 go_enter Tryz.func16,Tryz.ntmps16
 generalize hQ0:bodyPost _ _ _=Q0
 have HQ:=qh hQ0
 clear hQ0
 go_wp2_with fail
 refine (HCK.out _ HB.out.below).mono ?_
 rintro e W ⟨rfl,hb1⟩
 have B:=HB.out.next hb1 (by simp)
 obtain ⟨v0,v1,v2,v3,v4⟩:=row5 B.v.at_
 obtain ⟨b0,b1,b2,b3,b4,b5,b6,b7,b8,b9,b10,b11⟩:=row12 B.c.at_
 obtain ⟨r0,r1,r2,r3,r4⟩:=row5 B.r.at_
 have f0:=B.r.fr 0;have f1:=B.r.fr 1;have f2:=B.r.fr 2;have f3:=B.r.fr 3;have f4:=B.r.fr 4
 have z0:=B.v.lt;have z1:=B.c.lt;have z2:=B.r.lt
 have HBW:=qh B
 clear B hb1
 go_wp2_with fail
 refine (HGT.out _ HBW.out.below).mono ?_
 rintro e W2 ⟨⟨d,rfl,hI⟩,hb2⟩
 have B2:=HBW.out.next hb2 (Nat.succ_le_of_lt z2)
 obtain ⟨e1,e2,e3,hbd,hl,ho⟩:=hI.lists
 subst e1 e2 e3
 clear v0 v1 v2 v3 v4 r0 r1 r2 r3 r4 f0 f1 f2 f3 f4 b0 b1 b2 b3 b4 b5 b6 b7 b8 b9 b10 b11
 obtain ⟨v0,v1,v2,v3,v4⟩:=row5 B2.v.at_
 obtain ⟨b0,b1,b2,b3,b4,b5,b6,b7,b8,b9,b10,b11⟩:=row12 B2.c.at_
 obtain ⟨r0,r1,r2,r3,r4⟩:=row5 B2.r.at_
 have f0:=B2.r.fr 0;have f1:=B2.r.fr 1;have f2:=B2.r.fr 2;have f3:=B2.r.fr 3;have f4:=B2.r.fr 4
 have z0:=B2.v.lt;have z1:=B2.c.lt;have z2:=B2.r.lt
 have zW:=HBW.out.below.size
 have zW2:=hb2.size
 have z22:=B2.r.lt
 have HB2:=qh B2
 have HI:=qh hI
 have HBD:=qh hbd
 have HL:=qh hl
 have HO:=qh ho
 have HAL:=qh (((Below.refl _ _).alloc (Nat.le_refl _) (.cells (uV d) 36)):uB W2 _)
 clear B2 hI hbd hl ho hb2
 have hlc:lCheck d.ll cc.k cc.i cc.j=0:=by
  have hk:=HKD.out
  rw [kindsP,if_neg (by have:=HK.out;omega),if_neg (by have:=HK.out;omega),if_neg (by have:=HK.out;omega)] at hk
  split at hk
  .omega
  .rw [HL.out.len];exact hk
 have g1:(cc.k==1)=false:=by have:=HK.out;simp;omega
 have g2:(cc.k==2)=false:=by have:=HK.out;simp;omega
 have g3:(cc.k==3)=false:=by have:=HK.out;simp;omega
 have g8:(cc.k==8)=false:=by have:=HK.out;simp;omega
 have g9:(cc.k==9)=false:=by have:=HK.out;simp;omega
 have HFL:Hid (uP 50 #[.slice d.la d.ll d.lc, .agg (uC cc)] (W2.alloc (.cells (uV d) 36)) (DoLPost (W2.alloc (.cells (uV d) 36)) (listDo lx cc.k cc.i cc.j xv))):=by
  have hb3:=HB2.out.below.trans (HAL.out.mono HB2.out.below.size)
  have hx3:=((HI.out.sub (Zl _ _ _)).later_ HAL.out).lists
  exact zfh (W2.alloc (.cells (uV d) 36)) lx d.la d.ll d.lc hx3.2.2.2.2.1 (by have:=HL.out.len;omega) cc xv (HXV.out.later_ hb3) hlc
 clear hlc
 go_wp2_with fail
 refine HFL.out.mono ?_
 rintro e w4 ⟨⟨a4,n4,c4,rfl,hI4⟩,hb4⟩
 have hbw4:uB W2 w4:=HAL.out.trans (hb4.mono (by simp))
 have B4:=HB2.out.next hbw4 (Nat.succ_le_of_lt z2)
 have X4:BC w4 W2.heap.size (vcells d):=(BC.start W2 (uV d) 36).keep hb4 (by simp)
 obtain ⟨x0,x1,x2,x3,x4⟩:=row5 X4.at_
 have xf0:=X4.fr 2;have xf1:=X4.fr 3;have xf2:=X4.fr 4
 have xlt:=X4.lt
 clear v0 v1 v2 v3 v4 r0 r1 r2 r3 r4 f0 f1 f2 f3 f4 b0 b1 b2 b3 b4 b5 b6 b7 b8 b9 b10 b11
 obtain ⟨v0,v1,v2,v3,v4⟩:=row5 B4.v.at_
 obtain ⟨b0,b1,b2,b3,b4,b5,b6,b7,b8,b9,b10,b11⟩:=row12 B4.c.at_
 obtain ⟨r0,r1,r2,r3,r4⟩:=row5 B4.r.at_
 have f0:=B4.r.fr 0;have f1:=B4.r.fr 1;have f2:=B4.r.fr 2;have f3:=B4.r.fr 3;have f4:=B4.r.fr 4
 have z0:=B4.v.lt;have z1:=B4.c.lt;have z2:=B4.r.lt
 have HBW4:=qh hbw4
 clear B4 X4 hb4 hbw4
 have HI4:=qh hI4
 clear hI4
 go_wp2_with fail
 have hbl4:uB W2 (w4.setCell ⟨W2.heap.size,3,none⟩ (.slice a4 n4 c4)):=HBW4.out.set_ (Nat.le_refl _)
 have hx4:=(HI.out.sub (Zl _ _ _)).later_ hbl4
 obtain ⟨_,_,_,_,hl4,ho4⟩:=hx4.lists
 have HB4:=qh (HB2.out.next hbl4 (Nat.succ_le_of_lt z22))
 have HCALL:Hid (uP 51 #[.agg (uU vk vn vs la ll lc oa ol oc), .slice cc.pa cc.pl cc.pc, .agg (uU d.k d.n d.s a4 n4 c4 d.oa d.ol d.oc)] (w4.setCell ⟨W2.heap.size,3,none⟩ (.slice a4 n4 c4)) (GetPost (w4.setCell ⟨W2.heap.size,3,none⟩ (.slice a4 n4 c4)) (some z))):=by
  have:=HPT.out (w4.setCell ⟨W2.heap.size,3,none⟩ (.slice a4 n4 c4)) Y d.k d.n d.s a4 n4 c4 d.oa d.ol d.oc HB4.out.below (by
   have hYe:Y= .mk d.k d.n d.s (listDo lx cc.k cc.i cc.j xv) ox:=by
    rw [<-HY.out,doneP,if_neg (by have:=HK.out;dsimp only;omega),if_neg (by have:=HK.out;dsimp only;omega),if_neg (by have:=HK.out;dsimp only;omega)];rfl
   have hst:RStep w4 (w4.setCell ⟨W2.heap.size,3,none⟩ (.slice a4 n4 c4)) W2.heap.size:=RStep.self
   rw [hYe]
   exact Yy HBD.out.k0 HBD.out.k1 HBD.out.n0 HBD.out.n1 HBD.out.s1 ((IsVals.sub (fun b o u hb h=>by
    obtain ⟨hs,hc⟩:=Z8 h
    exact hst.cell hc (by rw [World.size_alloc] at hs;omega)) HI4.out).more hst.size) ho4)
  rw [HPR.out] at this;exact this
 clear hx4 hl4 ho4
 refine HCALL.out.mono ?_
 rintro e W6 ⟨⟨d6,rfl,hz⟩,hb6⟩
 have B6:=HB4.out.next hb6 (Nat.succ_le_of_lt HB4.out.r.lt)
 clear v0 v1 v2 v3 v4 r0 r1 r2 r3 r4 f0 f1 f2 f3 f4 b0 b1 b2 b3 b4 b5 b6 b7 b8 b9 b10 b11
 obtain ⟨v0,v1,v2,v3,v4⟩:=row5 B6.v.at_
 obtain ⟨b0,b1,b2,b3,b4,b5,b6,b7,b8,b9,b10,b11⟩:=row12 B6.c.at_
 obtain ⟨r0,r1,r2,r3,r4⟩:=row5 B6.r.at_
 have f0:=B6.r.fr 0;have f1:=B6.r.fr 1;have f2:=B6.r.fr 2;have f3:=B6.r.fr 3;have f4:=B6.r.fr 4
 have z0:=B6.v.lt;have z1:=B6.c.lt;have z2:=B6.r.lt
 have HB6:=qh B6
 have hz4:=HB4.out.below.size
 have hz5:=HB4.out.r.lt
 have HZ:=qh hz
 clear B6 hb6 hz
 go_wp2_with fail
 rw [<-HQ.out]
 have ST:=HB6.out.result d6
 have hst:=Zh W6 (w.heap.size+1+1) 0 d6
 exact Qc (r:=(z,0)) ST.1 ((Zn (base:=w.heap.size+1+1+1) (HZ.out.sub (Zd fun k hk _=>⟨Nat.le_trans (Nat.succ_le_of_lt hz5) hk,rfl⟩)) hst (by omega)).sub (Zd fun k hk _=>⟨by omega,rfl⟩)) ST.2 rfl rfl rfl
theorem zd1 (w:World) (vk vn:Int) (vs:ByteArray) (la:Option Addr) (ll lc:Nat) (oa:Option Addr) (ol oc:Nat) (v:V) (hv:IsVal w w.heap.size v ⟨vk,vn,vs,la,ll,lc,oa,ol,oc⟩) (hw:v.weight<=100000000) (p:List St) (xv:V) (cc:CC) (hcb:cc.Bnd) (hp:IsSteps w w.heap.size p cc.pa cc.pl cc.pc) (hxv:IsVal w w.heap.size xv cc.v) (hxw:xv.weight<=4611686018427387904) (hcs:∀y,getP v p=some y->y.str.size+y.str.size+cc.s.size<=140737488355328) (hT:Tabs w):
 uP 16 #[.agg (uU vk vn vs la ll lc oa ol oc), .agg (uC cc)] w (DoPost w (doP v ⟨cc.k,p,cc.key,cc.i,cc.j,cc.n,xv,cc.s⟩)):=by
 delta uU uC uP
 by_cases he:checkP v ⟨cc.k,p,cc.key,cc.i,cc.j,cc.n,xv,cc.s⟩=0
 .obtain ⟨hs,x,_,hkd⟩:=Zw he
  have hk1:=Qr hs
  dsimp only at hk1
  by_cases e1:cc.k=1
  .exact zey w vk vn vs la ll lc oa ol oc v hv hw p xv cc hcb hp hxv hxw hT he e1
  by_cases e2:cc.k=2∨cc.k=3
  .exact zez w vk vn vs la ll lc oa ol oc v hv hw p xv cc hcb hp hxv hxw hT he e2
  by_cases e3:cc.k=8∨cc.k=9
  .exact zks w vk vn vs la ll lc oa ol oc v hv hw p xv cc hcb hp hxv hxw hcs hT he e3
  .exact zil w vk vn vs la ll lc oa ol oc v hv hw p xv cc hcb hp hxv hxw hT he (by omega)
 .exact zir w vk vn vs la ll lc oa ol oc v hv hw p xv cc hcb hp hxv hxw hT he
def CDoPost (w:World) (r:V×Int) (e:Ending) (w':World):Prop:=
 (∃c:VC,e= .returned (.tuple #[.agg #[.int .u8 c.k, .int .i64 c.n, .string c.s, .slice c.la c.ll c.lc, .slice c.oa c.ol c.oc], .int .u16 r.2])/\IsVal (only (fun b=>w.heap.size<=b) w') w'.heap.size r.1 c)/\Below w.heap.size w w'
theorem zmo {tmps:Array Value} {W:World} {b:Nat} {c:VC} {x:Value} (ht:tmps[4]? =some (.pointer (some ⟨b,0,none⟩))) (hx:tmps[5]? =some x) (h:BC W b (vcells c)):
 (results Tryz.f15 tmps).run Tryz.prog W= .ok (.tuple #[.agg #[.int .u8 c.k, .int .i64 c.n, .string c.s, .slice c.la c.ll c.lc, .slice c.oa c.ol c.oc],x]) W:=by
 obtain ⟨r0,r1,r2,r3,r4⟩:=row5 h.at_
 simp [results,Tryz.results15,go_sem,ht,hx,r0,r1,r2,r3,r4]
theorem Qa {w W:World} {x:Act} {c:VC} {r:V×Int} (h:BC W (w.heap.size+1+1) (vcells c)) (hv:IsVal (only (fun b=>w.heap.size<=b) W) W.heap.size r.1 c) (hb:uB w W) (hd:x.defers= []) (ht:x.tmps[4]? =some (.pointer (some ⟨w.heap.size+1+1,0,none⟩))) (hx:x.tmps[5]? =some (.int .u16 r.2)):
 bodyPost Tryz.prog Tryz.f15 (CDoPost w r) .ret x W:=⟨hd,_,zmo ht hx h,⟨c,rfl,hv⟩,hb⟩
theorem zja {x:V} (h:x.sound=true):rising x.os=true:=by
 obtain ⟨k,n,s,l,o,rfl⟩:=x.eta
 exact (Yd.1 h).2.1
theorem zk3 {x:V} {k i j n:Int} {key:ByteArray} (h:kindsP x k i j n key=0) (hk:k=1):x.kd=2:=by
 unfold kindsP at h
 rw [if_pos hk] at h
 split at h
 .omega
 .rename_i e;simpa using e
theorem zl5 {x:V} {k i j n:Int} {key:ByteArray} (h:kindsP x k i j n key=0) (hk:k=2∨k=3):x.kd=5/\(k=3->fieldIs x.os key=true):=by
 unfold kindsP at h
 rw [if_neg (by omega),if_pos hk] at h
 split at h
 .omega
 .rename_i e
  refine ⟨by simpa using e,fun e3=> ?_⟩
  cases hf:fieldIs x.os key with
  |true=>rfl
  |false=>rw [if_pos ⟨e3,hf⟩] at h;omega
theorem zk9 {x:V} {k i j n:Int} {key:ByteArray} (h:kindsP x k i j n key=0) (hk:k=8∨k=9):x.kd=3/\tCheck x.str k i n=0:=by
 unfold kindsP at h
 rw [if_neg (by omega),if_neg (by omega),if_pos hk] at h
 split at h
 .omega
 .rename_i e;exact ⟨by simpa using e,h⟩
theorem zfa {x:V} {k i j n:Int} {key:ByteArray} (h:kindsP x k i j n key=0) (hk:4<=k/\k<=7):x.kd=4/\lCheck x.ls.length k i j=0:=by
 unfold kindsP at h
 rw [if_neg (by omega),if_neg (by omega),if_neg (by omega)] at h
 split at h
 .omega
 .rename_i e;exact ⟨by simpa using e,h⟩
set_option maxRecDepth 100000 in
theorem zhi (w:World) (vk vn:Int) (vs:ByteArray) (la:Option Addr) (ll lc:Nat) (oa:Option Addr) (ol oc:Nat) (v:V) (hv:IsVal w w.heap.size v ⟨vk,vn,vs,la,ll,lc,oa,ol,oc⟩) (hw:v.weight<=100000000) (p:List St) (xv:V) (cc:CC) (hcb:cc.Bnd) (hp:IsSteps w w.heap.size p cc.pa cc.pl cc.pc) (hxv:IsVal w w.heap.size xv cc.v) (hxw:xv.weight<=4611686018427387904) (hT:Tabs w) (he:checkP v ⟨cc.k,p,cc.key,cc.i,cc.j,cc.n,xv,cc.s⟩≠0):
 uP 15 #[.agg (uU vk vn vs la ll lc oa ol oc), .agg (uC cc)] w (CDoPost w (doP v ⟨cc.k,p,cc.key,cc.i,cc.j,cc.n,xv,cc.s⟩)):=by
 delta uU uC uP
 have HCK:Hid (∀W,uB w W->uP 35 #[.agg (uU vk vn vs la ll lc oa ol oc), .agg (uC cc)] W fun e w'=>e= .returned (.int .u16 (checkP v ⟨cc.k,p,cc.key,cc.i,cc.j,cc.n,xv,cc.s⟩))/\uB W w'):=qh fun W hW=>Xw W vk vn vs la ll lc oa ol oc v (hv.later_ hW) (by omega) p xv cc hcb (hp.later_ hW) (hxv.later_ hW) (by omega) (hT.below hW)
 have HB:=qh (DB.start w ⟨vk,vn,vs,la,ll,lc,oa,ol,oc⟩ cc 36 39 36)
 have hd:doP v ⟨cc.k,p,cc.key,cc.i,cc.j,cc.n,xv,cc.s⟩=(V.none,checkP v ⟨cc.k,p,cc.key,cc.i,cc.j,cc.n,xv,cc.s⟩):=by rw [doP,if_neg he]
 rw [hd]
 obtain ⟨E,hE⟩:∃E,checkP v ⟨cc.k,p,cc.key,cc.i,cc.j,cc.n,xv,cc.s⟩=E:=⟨_,rfl⟩
 rw [hE] at HCK he ⊢
 have fe:(E !=0)=true:=by simp [he]
 clear hv hp hxv hT hcb hd hE
 go_enter Tryz.func15,Tryz.ntmps15
 generalize hQ0:bodyPost _ _ _=Q0
 have HQ:=qh hQ0
 clear hQ0
 go_wp2_with fail
 refine (HCK.out _ HB.out.below).mono ?_
 rintro e W ⟨rfl,hb1⟩
 have B:=HB.out.next hb1 (by simp)
 obtain ⟨v0,v1,v2,v3,v4⟩:=row5 B.v.at_
 obtain ⟨b0,b1,b2,b3,b4,b5,b6,b7,b8,b9,b10,b11⟩:=row12 B.c.at_
 obtain ⟨r0,r1,r2,r3,r4⟩:=row5 B.r.at_
 have f0:=B.r.fr 0;have f1:=B.r.fr 1;have f2:=B.r.fr 2;have f3:=B.r.fr 3;have f4:=B.r.fr 4
 have z0:=B.v.lt;have z1:=B.c.lt;have z2:=B.r.lt
 have HBW:=qh B
 clear B hb1
 go_wp2_with fail
 rw [<-HQ.out]
 have ST:=HBW.out.result ⟨0,0, { data:= #[] },none,0,0,none,0,0⟩
 exact Qa (r:=(V.none,E)) ST.1 (Zo _ _) ST.2 rfl rfl rfl
set_option maxRecDepth 100000 in
theorem zho (w:World) (vk vn:Int) (vs:ByteArray) (la:Option Addr) (ll lc:Nat) (oa:Option Addr) (ol oc:Nat) (v:V) (hv:IsVal w w.heap.size v ⟨vk,vn,vs,la,ll,lc,oa,ol,oc⟩) (hw:v.weight<=100000000) (p:List St) (xv:V) (cc:CC) (hcb:cc.Bnd) (hp:IsSteps w w.heap.size p cc.pa cc.pl cc.pc) (hxv:IsVal w w.heap.size xv cc.v) (hxw:xv.weight<=4611686018427387904) (hT:Tabs w) (he:checkP v ⟨cc.k,p,cc.key,cc.i,cc.j,cc.n,xv,cc.s⟩=0) (hk:cc.k=1):
 uP 15 #[.agg (uU vk vn vs la ll lc oa ol oc), .agg (uC cc)] w (CDoPost w (doP v ⟨cc.k,p,cc.key,cc.i,cc.j,cc.n,xv,cc.s⟩)):=by
 delta uU uC uP
 obtain ⟨_,x,hg,hkd⟩:=Zw he
 dsimp only at hg hkd
 have hxw2:=Zy p hg
 have hsw:=x.str_weight.1
 have hlo:=x.str_weight.2
 have HCK:Hid (∀W,uB w W->uP 35 #[.agg (uU vk vn vs la ll lc oa ol oc), .agg (uC cc)] W fun e w'=>e= .returned (.int .u16 0)/\uB W w'):=qh fun W hW=>by
  have:=Xw W vk vn vs la ll lc oa ol oc v (hv.later_ hW) (by omega) p xv cc hcb (hp.later_ hW) (hxv.later_ hW) (by omega) (hT.below hW)
  rw [he] at this;exact this
 have HGT:Hid (∀W,uB w W->uP 42 #[.agg (uU vk vn vs la ll lc oa ol oc), .slice cc.pa cc.pl cc.pc] W fun e W'=>(∃d:VC,e= .returned (.tuple #[.agg #[.int .u8 d.k, .int .i64 d.n, .string d.s, .slice d.la d.ll d.lc, .slice d.oa d.ol d.oc], .int .u16 0])/\Whole W' W.heap.size x d)/\uB W W'):=qh fun W hW=>by
  refine (Xz W v ⟨vk,vn,vs,la,ll,lc,oa,ol,oc⟩ p cc.pa cc.pl cc.pc (hv.later_ hW) (hp.later_ hW)).mono ?_
  rintro e W' ⟨hb,⟨_,hn⟩|⟨x',d,rfl,hg',hW'⟩⟩
  .rw [hn] at hg;cases hg
  .rw [hg] at hg';injection hg' with hg';subst hg'
   exact ⟨⟨d,rfl,hW'⟩,hb⟩
 obtain ⟨Y,hY⟩:∃Y,doneP x ⟨cc.k,p,cc.key,cc.i,cc.j,cc.n,xv,cc.s⟩=Y:=⟨_,rfl⟩
 obtain ⟨z,hPR⟩:=Ym p hg Y
 have HPT:Hid (∀(W:World) (d:VC),uB w W->IsVal W W.heap.size Y d->uP 47 #[.agg (uU vk vn vs la ll lc oa ol oc), .slice cc.pa cc.pl cc.pc, .agg (uV d)] W fun e W'=>(∃d':VC,e= .returned (.tuple #[.agg #[.int .u8 d'.k, .int .i64 d'.n, .string d'.s, .slice d'.la d'.ll d'.lc, .slice d'.oa d'.ol d'.oc], .int .u16 0])/\IsVal (only (fun b=>W.heap.size<=b) W') W'.heap.size z d')/\uB W W'):=qh fun W d hW hy=>by
  refine (J2 W v Y ⟨vk,vn,vs,la,ll,lc,oa,ol,oc⟩ d p cc.pa cc.pl cc.pc (hv.later_ hW) (hp.later_ hW) hy).mono ?_
  rintro e W' ⟨hb,⟨_,hn⟩|⟨z',d',rfl,hg',hW'⟩⟩
  .rw [hn] at hg;cases hg
  .rw [hPR] at hg';injection hg' with hg';subst hg'
   exact ⟨⟨d',rfl,hW'⟩,hb⟩
 have hdo:doP v ⟨cc.k,p,cc.key,cc.i,cc.j,cc.n,xv,cc.s⟩=doneQ (putP v p (doneP x ⟨cc.k,p,cc.key,cc.i,cc.j,cc.n,xv,cc.s⟩)):=Y8 he hg
 rw [hdo,hY,hPR,Xb]
 have HB:=qh (DB.start w ⟨vk,vn,vs,la,ll,lc,oa,ol,oc⟩ cc 36 39 36)
 have hxk:=zk3 hkd hk
 have HMD:Hid (∀(W2 W3:World) (base B:Nat) (d:VC),Mid w W2 W3 base B x d cc xv->uP 43 #[.pointer (some ⟨B,0,none⟩)] W3 (MidPost base W3 B cc Y)):=qh fun W2 W3 base B d h=>by
  have hst:=(Xl (Whole.isVal h.whole)).1
  rw [<-hY]
  exact zli w W2 W3 base B x d p cc xv h hk
 have HXV:=qh hxv
 have HKD:=qh hxk
 clear hv hp hxv hT hcb hdo hY hPR he hg hkd hxk hk hsw hlo hxw2
 go_enter Tryz.func15,Tryz.ntmps15
 generalize hQ0:bodyPost _ _ _=Q0
 have HQ:=qh hQ0
 clear hQ0
 go_wp2_with fail
 refine (HCK.out _ HB.out.below).mono ?_
 rintro e W ⟨rfl,hb1⟩
 have B:=HB.out.next hb1 (by simp)
 obtain ⟨v0,v1,v2,v3,v4⟩:=row5 B.v.at_
 obtain ⟨b0,b1,b2,b3,b4,b5,b6,b7,b8,b9,b10,b11⟩:=row12 B.c.at_
 obtain ⟨r0,r1,r2,r3,r4⟩:=row5 B.r.at_
 have f0:=B.r.fr 0;have f1:=B.r.fr 1;have f2:=B.r.fr 2;have f3:=B.r.fr 3;have f4:=B.r.fr 4
 have z0:=B.v.lt;have z1:=B.c.lt;have z2:=B.r.lt
 have HBW:=qh B
 clear B hb1
 go_wp2_with fail
 refine (HGT.out _ HBW.out.below).mono ?_
 rintro e W2 ⟨⟨d,rfl,hW⟩,hb2⟩
 have B2:=HBW.out.next hb2 (Nat.succ_le_of_lt z2)
 clear v0 v1 v2 v3 v4 r0 r1 r2 r3 r4 f0 f1 f2 f3 f4 b0 b1 b2 b3 b4 b5 b6 b7 b8 b9 b10 b11
 obtain ⟨v0,v1,v2,v3,v4⟩:=row5 B2.v.at_
 obtain ⟨b0,b1,b2,b3,b4,b5,b6,b7,b8,b9,b10,b11⟩:=row12 B2.c.at_
 obtain ⟨r0,r1,r2,r3,r4⟩:=row5 B2.r.at_
 have f0:=B2.r.fr 0;have f1:=B2.r.fr 1;have f2:=B2.r.fr 2;have f3:=B2.r.fr 3;have f4:=B2.r.fr 4
 have z0:=B2.v.lt;have z1:=B2.c.lt;have z2:=B2.r.lt
 have zW:=HBW.out.below.size
 have zW2:=hb2.size
 have z22:=B2.r.lt
 have HB2:=qh B2
 have hdk:d.k=2:=by rw [<-HKD.out,hW.1];rfl
 have g2:(d.k==2)=true:=by rw [hdk];rfl
 have g5:(d.k==5)=false:=by rw [hdk];rfl
 have g4:(d.k==4)=false:=by rw [hdk];rfl
 have hn1:uB W2 (W2.alloc (.cells #[.int .u8 d.k, .int .i64 d.n, .string d.s, .slice d.la d.ll d.lc, .slice d.oa d.ol d.oc] 36)):=(Below.refl _ _).alloc (Nat.le_refl _) _
 have hn3:uB W2 ((W2.alloc (.cells #[.int .u8 d.k, .int .i64 d.n, .string d.s, .slice d.la d.ll d.lc, .slice d.oa d.ol d.oc] 36)).alloc (.cells #[.int .u8 d.k, .int .i64 d.n, .string d.s, .slice d.la d.ll d.lc, .slice d.oa d.ol d.oc, .int .u8 cc.k, .slice cc.pa cc.pl cc.pc, .string cc.key, .int .i64 cc.i, .int .i64 cc.j, .int .i64 cc.n, .int .u8 cc.v.k, .int .i64 cc.v.n, .string cc.v.s, .slice cc.v.la cc.v.ll cc.v.lc, .slice cc.v.oa cc.v.ol cc.v.oc, .string cc.s] 87)):=hn1.alloc (by rw [World.size_alloc];omega) _
 have hbx:=BC.start (W2.alloc (.cells #[.int .u8 d.k, .int .i64 d.n, .string d.s, .slice d.la d.ll d.lc, .slice d.oa d.ol d.oc] 36)) #[.int .u8 d.k, .int .i64 d.n, .string d.s, .slice d.la d.ll d.lc, .slice d.oa d.ol d.oc, .int .u8 cc.k, .slice cc.pa cc.pl cc.pc, .string cc.key, .int .i64 cc.i, .int .i64 cc.j, .int .i64 cc.n, .int .u8 cc.v.k, .int .i64 cc.v.n, .string cc.v.s, .slice cc.v.la cc.v.ll cc.v.lc, .slice cc.v.oa cc.v.ol cc.v.oc, .string cc.s] 87
 rw [World.size_alloc] at hbx
 have HW3:=qh (HMD.out W2 ((W2.alloc (.cells #[.int .u8 d.k, .int .i64 d.n, .string d.s, .slice d.la d.ll d.lc, .slice d.oa d.ol d.oc] 36)).alloc (.cells #[.int .u8 d.k, .int .i64 d.n, .string d.s, .slice d.la d.ll d.lc, .slice d.oa d.ol d.oc, .int .u8 cc.k, .slice cc.pa cc.pl cc.pc, .string cc.key, .int .i64 cc.i, .int .i64 cc.j, .int .i64 cc.n, .int .u8 cc.v.k, .int .i64 cc.v.n, .string cc.v.s, .slice cc.v.la cc.v.ll cc.v.lc, .slice cc.v.oa cc.v.ol cc.v.oc, .string cc.s] 87)) W.heap.size (W2.heap.size+1) d ⟨hW,hn3,hbx,Nat.le_succ _,zW,zW2,HBW.out.below.trans (hb2.mono zW),HXV.out⟩)
 have HN3:=qh hn3
 clear hdk hn1 hn3 hbx hW B2 hb2
 go_wp2_with fail
 refine HW3.out.mono ?_
 rintro e W4 ⟨rfl,d4,hB4,hI4,hb4⟩
 have B4:=(HB2.out.next HN3.out (Nat.succ_le_of_lt z22)).next hb4 (Nat.succ_le_of_lt HBW.out.r.lt)
 clear v0 v1 v2 v3 v4 r0 r1 r2 r3 r4 f0 f1 f2 f3 f4 b0 b1 b2 b3 b4 b5 b6 b7 b8 b9 b10 b11
 obtain ⟨v0,v1,v2,v3,v4⟩:=row5 B4.v.at_
 obtain ⟨b0,b1,b2,b3,b4,b5,b6,b7,b8,b9,b10,b11⟩:=row12 B4.c.at_
 obtain ⟨r0,r1,r2,r3,r4⟩:=row5 B4.r.at_
 have f0:=B4.r.fr 0;have f1:=B4.r.fr 1;have f2:=B4.r.fr 2;have f3:=B4.r.fr 3;have f4:=B4.r.fr 4
 have z0:=B4.v.lt;have z1:=B4.c.lt;have z2:=B4.r.lt
 have z43:=B4.r.lt
 have HB4:=qh B4
 have HBD4:=qh (B4.below.drew)
 have x0:=hB4.at_ 0 _ rfl;have x1:=hB4.at_ 1 _ rfl;have x2:=hB4.at_ 2 _ rfl;have x3:=hB4.at_ 3 _ rfl;have x4:=hB4.at_ 4 _ rfl
 have xlt:=hB4.lt
 have HPD:Hid (uP 47 #[.agg (uU vk vn vs la ll lc oa ol oc), .slice cc.pa cc.pl cc.pc, .agg (uV d4)] W4.drew fun e W'=>(∃d':VC,e= .returned (.tuple #[.agg #[.int .u8 d'.k, .int .i64 d'.n, .string d'.s, .slice d'.la d'.ll d'.lc, .slice d'.oa d'.ol d'.oc], .int .u16 0])/\IsVal (only (fun b=>W4.drew.heap.size<=b) W') W'.heap.size z d')/\Below W4.drew.heap.size W4.drew W'):=qh (HPT.out W4.drew d4 HBD4.out (hI4.later_ (Zf W4)))
 have mixed:Tryz.prog.follows .mixedOrders=true:=by kernel_rfl
 clear B4 hB4 hI4 hb4 HW3 g2 g5 g4
 go_wp2_with fail
 refine wp_region_noPanic ?_
 go_region_with (go_simp;go_at_call 47;(with_reducible refine HPD.out.mono ?_);rintro e W6 ⟨⟨d6,rfl,hz⟩,hb6⟩;have hb46:uB W4 W6:=(Zf W4).trans hb6;have B6:=HB4.out.next hb46 (Nat.succ_le_of_lt z43);obtain ⟨rr0,rr1,rr2,rr3,rr4⟩:=row5 B6.r.at_;have ff0:=B6.r.fr 0;have ff1:=B6.r.fr 1;have ff2:=B6.r.fr 2;have ff3:=B6.r.fr 3;have ff4:=B6.r.fr 4;have zz6:=B6.r.lt;have HB6:=qh B6;have HZ:Hid (IsVal (only (fun b=>W4.heap.size<=b) W6) W6.heap.size z d6):=qh hz;clear hz hb6 hb46 B6)
 all_goals (
  refine NoPanic.normal ?_
  go_wp2_with fail
  rw [<-HQ.out]
  have ST:=HB6.out.result d6
  have hst:=Zh W6 (w.heap.size+1+1) 0 d6
  exact Qa (r:=(z,0)) ST.1 ((Zn (base:=w.heap.size+1+1+1) (HZ.out.sub (Zd fun k hk _=>⟨Nat.le_trans (Nat.succ_le_of_lt z43) hk,rfl⟩)) hst (by omega)).sub (Zd fun k hk _=>⟨by omega,rfl⟩)) ST.2 rfl rfl rfl)
set_option maxRecDepth 100000 in
theorem zlt (w:World) (vk vn:Int) (vs:ByteArray) (la:Option Addr) (ll lc:Nat) (oa:Option Addr) (ol oc:Nat) (v:V) (hv:IsVal w w.heap.size v ⟨vk,vn,vs,la,ll,lc,oa,ol,oc⟩) (hw:v.weight<=100000000) (p:List St) (xv:V) (cc:CC) (hcb:cc.Bnd) (hp:IsSteps w w.heap.size p cc.pa cc.pl cc.pc) (hxv:IsVal w w.heap.size xv cc.v) (hxw:xv.weight<=4611686018427387904) (hsn:v.sound=true) (hT:Tabs w) (he:checkP v ⟨cc.k,p,cc.key,cc.i,cc.j,cc.n,xv,cc.s⟩=0) (hk:cc.k=2∨cc.k=3):
 uP 15 #[.agg (uU vk vn vs la ll lc oa ol oc), .agg (uC cc)] w (CDoPost w (doP v ⟨cc.k,p,cc.key,cc.i,cc.j,cc.n,xv,cc.s⟩)):=by
 delta uU uC uP
 obtain ⟨_,x,hg,hkd⟩:=Zw he
 dsimp only at hg hkd
 have hxw2:=Zy p hg
 have hsw:=x.str_weight.1
 have hlo:=x.str_weight.2
 have HCK:Hid (∀W,uB w W->uP 35 #[.agg (uU vk vn vs la ll lc oa ol oc), .agg (uC cc)] W fun e w'=>e= .returned (.int .u16 0)/\uB W w'):=qh fun W hW=>by
  have:=Xw W vk vn vs la ll lc oa ol oc v (hv.later_ hW) (by omega) p xv cc hcb (hp.later_ hW) (hxv.later_ hW) (by omega) (hT.below hW)
  rw [he] at this;exact this
 have HGT:Hid (∀W,uB w W->uP 42 #[.agg (uU vk vn vs la ll lc oa ol oc), .slice cc.pa cc.pl cc.pc] W fun e W'=>(∃d:VC,e= .returned (.tuple #[.agg #[.int .u8 d.k, .int .i64 d.n, .string d.s, .slice d.la d.ll d.lc, .slice d.oa d.ol d.oc], .int .u16 0])/\Whole W' W.heap.size x d)/\uB W W'):=qh fun W hW=>by
  refine (Xz W v ⟨vk,vn,vs,la,ll,lc,oa,ol,oc⟩ p cc.pa cc.pl cc.pc (hv.later_ hW) (hp.later_ hW)).mono ?_
  rintro e W' ⟨hb,⟨_,hn⟩|⟨x',d,rfl,hg',hW'⟩⟩
  .rw [hn] at hg;cases hg
  .rw [hg] at hg';injection hg' with hg';subst hg'
   exact ⟨⟨d,rfl,hW'⟩,hb⟩
 obtain ⟨Y,hY⟩:∃Y,doneP x ⟨cc.k,p,cc.key,cc.i,cc.j,cc.n,xv,cc.s⟩=Y:=⟨_,rfl⟩
 obtain ⟨z,hPR⟩:=Ym p hg Y
 have HPT:Hid (∀(W:World) (d:VC),uB w W->IsVal W W.heap.size Y d->uP 47 #[.agg (uU vk vn vs la ll lc oa ol oc), .slice cc.pa cc.pl cc.pc, .agg (uV d)] W fun e W'=>(∃d':VC,e= .returned (.tuple #[.agg #[.int .u8 d'.k, .int .i64 d'.n, .string d'.s, .slice d'.la d'.ll d'.lc, .slice d'.oa d'.ol d'.oc], .int .u16 0])/\IsVal (only (fun b=>W.heap.size<=b) W') W'.heap.size z d')/\uB W W'):=qh fun W d hW hy=>by
  refine (J2 W v Y ⟨vk,vn,vs,la,ll,lc,oa,ol,oc⟩ d p cc.pa cc.pl cc.pc (hv.later_ hW) (hp.later_ hW) hy).mono ?_
  rintro e W' ⟨hb,⟨_,hn⟩|⟨z',d',rfl,hg',hW'⟩⟩
  .rw [hn] at hg;cases hg
  .rw [hPR] at hg';injection hg' with hg';subst hg'
   exact ⟨⟨d',rfl,hW'⟩,hb⟩
 have hdo:doP v ⟨cc.k,p,cc.key,cc.i,cc.j,cc.n,xv,cc.s⟩=doneQ (putP v p (doneP x ⟨cc.k,p,cc.key,cc.i,cc.j,cc.n,xv,cc.s⟩)):=Y8 he hg
 rw [hdo,hY,hPR,Xb]
 have HB:=qh (DB.start w ⟨vk,vn,vs,la,ll,lc,oa,ol,oc⟩ cc 36 39 36)
 obtain ⟨hxk,hkf⟩:=zl5 hkd hk
 have hri:=zja (zb0 p hsn hg)
 have HMD:Hid (∀(W2 W3:World) (base B:Nat) (d:VC),Mid w W2 W3 base B x d cc xv->uP 44 #[.pointer (some ⟨B,0,none⟩)] W3 (MidPost base W3 B cc Y)):=qh fun W2 W3 base B d h=>by
  have hst:=(Xl (Whole.isVal h.whole)).1
  rw [<-hY]
  exact zhh w W2 W3 base B x d p cc xv h hk ⟨by omega,by omega⟩ hri hcb.key1 hkf
 have HXV:=qh hxv
 have HKD:=qh hxk
 clear hv hp hxv hT hcb hdo hY hPR he hg hkd hxk hk hsw hlo hxw2 hkf hri hsn
 go_enter Tryz.func15,Tryz.ntmps15
 generalize hQ0:bodyPost _ _ _=Q0
 have HQ:=qh hQ0
 clear hQ0
 go_wp2_with fail
 refine (HCK.out _ HB.out.below).mono ?_
 rintro e W ⟨rfl,hb1⟩
 have B:=HB.out.next hb1 (by simp)
 obtain ⟨v0,v1,v2,v3,v4⟩:=row5 B.v.at_
 obtain ⟨b0,b1,b2,b3,b4,b5,b6,b7,b8,b9,b10,b11⟩:=row12 B.c.at_
 obtain ⟨r0,r1,r2,r3,r4⟩:=row5 B.r.at_
 have f0:=B.r.fr 0;have f1:=B.r.fr 1;have f2:=B.r.fr 2;have f3:=B.r.fr 3;have f4:=B.r.fr 4
 have z0:=B.v.lt;have z1:=B.c.lt;have z2:=B.r.lt
 have HBW:=qh B
 clear B hb1
 go_wp2_with fail
 refine (HGT.out _ HBW.out.below).mono ?_
 rintro e W2 ⟨⟨d,rfl,hW⟩,hb2⟩
 have B2:=HBW.out.next hb2 (Nat.succ_le_of_lt z2)
 clear v0 v1 v2 v3 v4 r0 r1 r2 r3 r4 f0 f1 f2 f3 f4 b0 b1 b2 b3 b4 b5 b6 b7 b8 b9 b10 b11
 obtain ⟨v0,v1,v2,v3,v4⟩:=row5 B2.v.at_
 obtain ⟨b0,b1,b2,b3,b4,b5,b6,b7,b8,b9,b10,b11⟩:=row12 B2.c.at_
 obtain ⟨r0,r1,r2,r3,r4⟩:=row5 B2.r.at_
 have f0:=B2.r.fr 0;have f1:=B2.r.fr 1;have f2:=B2.r.fr 2;have f3:=B2.r.fr 3;have f4:=B2.r.fr 4
 have z0:=B2.v.lt;have z1:=B2.c.lt;have z2:=B2.r.lt
 have zW:=HBW.out.below.size
 have zW2:=hb2.size
 have z22:=B2.r.lt
 have HB2:=qh B2
 have hdk:d.k=5:=by rw [<-HKD.out,hW.1];rfl
 have g2:(d.k==2)=false:=by rw [hdk];rfl
 have g5:(d.k==5)=true:=by rw [hdk];rfl
 have g4:(d.k==4)=false:=by rw [hdk];rfl
 have hn1:uB W2 (W2.alloc (.cells #[.int .u8 d.k, .int .i64 d.n, .string d.s, .slice d.la d.ll d.lc, .slice d.oa d.ol d.oc] 36)):=(Below.refl _ _).alloc (Nat.le_refl _) _
 have hn3:uB W2 ((W2.alloc (.cells #[.int .u8 d.k, .int .i64 d.n, .string d.s, .slice d.la d.ll d.lc, .slice d.oa d.ol d.oc] 36)).alloc (.cells #[.int .u8 d.k, .int .i64 d.n, .string d.s, .slice d.la d.ll d.lc, .slice d.oa d.ol d.oc, .int .u8 cc.k, .slice cc.pa cc.pl cc.pc, .string cc.key, .int .i64 cc.i, .int .i64 cc.j, .int .i64 cc.n, .int .u8 cc.v.k, .int .i64 cc.v.n, .string cc.v.s, .slice cc.v.la cc.v.ll cc.v.lc, .slice cc.v.oa cc.v.ol cc.v.oc, .string cc.s] 87)):=hn1.alloc (by rw [World.size_alloc];omega) _
 have hbx:=BC.start (W2.alloc (.cells #[.int .u8 d.k, .int .i64 d.n, .string d.s, .slice d.la d.ll d.lc, .slice d.oa d.ol d.oc] 36)) #[.int .u8 d.k, .int .i64 d.n, .string d.s, .slice d.la d.ll d.lc, .slice d.oa d.ol d.oc, .int .u8 cc.k, .slice cc.pa cc.pl cc.pc, .string cc.key, .int .i64 cc.i, .int .i64 cc.j, .int .i64 cc.n, .int .u8 cc.v.k, .int .i64 cc.v.n, .string cc.v.s, .slice cc.v.la cc.v.ll cc.v.lc, .slice cc.v.oa cc.v.ol cc.v.oc, .string cc.s] 87
 rw [World.size_alloc] at hbx
 have HW3:=qh (HMD.out W2 ((W2.alloc (.cells #[.int .u8 d.k, .int .i64 d.n, .string d.s, .slice d.la d.ll d.lc, .slice d.oa d.ol d.oc] 36)).alloc (.cells #[.int .u8 d.k, .int .i64 d.n, .string d.s, .slice d.la d.ll d.lc, .slice d.oa d.ol d.oc, .int .u8 cc.k, .slice cc.pa cc.pl cc.pc, .string cc.key, .int .i64 cc.i, .int .i64 cc.j, .int .i64 cc.n, .int .u8 cc.v.k, .int .i64 cc.v.n, .string cc.v.s, .slice cc.v.la cc.v.ll cc.v.lc, .slice cc.v.oa cc.v.ol cc.v.oc, .string cc.s] 87)) W.heap.size (W2.heap.size+1) d ⟨hW,hn3,hbx,Nat.le_succ _,zW,zW2,HBW.out.below.trans (hb2.mono zW),HXV.out⟩)
 have HN3:=qh hn3
 clear hdk hn1 hn3 hbx hW B2 hb2
 go_wp2_with fail
 refine HW3.out.mono ?_
 rintro e W4 ⟨rfl,d4,hB4,hI4,hb4⟩
 have B4:=(HB2.out.next HN3.out (Nat.succ_le_of_lt z22)).next hb4 (Nat.succ_le_of_lt HBW.out.r.lt)
 clear v0 v1 v2 v3 v4 r0 r1 r2 r3 r4 f0 f1 f2 f3 f4 b0 b1 b2 b3 b4 b5 b6 b7 b8 b9 b10 b11
 obtain ⟨v0,v1,v2,v3,v4⟩:=row5 B4.v.at_
 obtain ⟨b0,b1,b2,b3,b4,b5,b6,b7,b8,b9,b10,b11⟩:=row12 B4.c.at_
 obtain ⟨r0,r1,r2,r3,r4⟩:=row5 B4.r.at_
 have f0:=B4.r.fr 0;have f1:=B4.r.fr 1;have f2:=B4.r.fr 2;have f3:=B4.r.fr 3;have f4:=B4.r.fr 4
 have z0:=B4.v.lt;have z1:=B4.c.lt;have z2:=B4.r.lt
 have z43:=B4.r.lt
 have HB4:=qh B4
 have HBD4:=qh (B4.below.drew)
 have x0:=hB4.at_ 0 _ rfl;have x1:=hB4.at_ 1 _ rfl;have x2:=hB4.at_ 2 _ rfl;have x3:=hB4.at_ 3 _ rfl;have x4:=hB4.at_ 4 _ rfl
 have xlt:=hB4.lt
 have HPD:Hid (uP 47 #[.agg (uU vk vn vs la ll lc oa ol oc), .slice cc.pa cc.pl cc.pc, .agg (uV d4)] W4.drew fun e W'=>(∃d':VC,e= .returned (.tuple #[.agg #[.int .u8 d'.k, .int .i64 d'.n, .string d'.s, .slice d'.la d'.ll d'.lc, .slice d'.oa d'.ol d'.oc], .int .u16 0])/\IsVal (only (fun b=>W4.drew.heap.size<=b) W') W'.heap.size z d')/\Below W4.drew.heap.size W4.drew W'):=qh (HPT.out W4.drew d4 HBD4.out (hI4.later_ (Zf W4)))
 have mixed:Tryz.prog.follows .mixedOrders=true:=by kernel_rfl
 clear B4 hB4 hI4 hb4 HW3 g2 g5 g4
 go_wp2_with fail
 refine wp_region_noPanic ?_
 go_region_with (go_simp;go_at_call 47;(with_reducible refine HPD.out.mono ?_);rintro e W6 ⟨⟨d6,rfl,hz⟩,hb6⟩;have hb46:uB W4 W6:=(Zf W4).trans hb6;have B6:=HB4.out.next hb46 (Nat.succ_le_of_lt z43);obtain ⟨rr0,rr1,rr2,rr3,rr4⟩:=row5 B6.r.at_;have ff0:=B6.r.fr 0;have ff1:=B6.r.fr 1;have ff2:=B6.r.fr 2;have ff3:=B6.r.fr 3;have ff4:=B6.r.fr 4;have zz6:=B6.r.lt;have HB6:=qh B6;have HZ:Hid (IsVal (only (fun b=>W4.heap.size<=b) W6) W6.heap.size z d6):=qh hz;clear hz hb6 hb46 B6)
 all_goals (
  refine NoPanic.normal ?_
  go_wp2_with fail
  rw [<-HQ.out]
  have ST:=HB6.out.result d6
  have hst:=Zh W6 (w.heap.size+1+1) 0 d6
  exact Qa (r:=(z,0)) ST.1 ((Zn (base:=w.heap.size+1+1+1) (HZ.out.sub (Zd fun k hk _=>⟨Nat.le_trans (Nat.succ_le_of_lt z43) hk,rfl⟩)) hst (by omega)).sub (Zd fun k hk _=>⟨by omega,rfl⟩)) ST.2 rfl rfl rfl)
set_option maxRecDepth 100000 in
theorem zlf (w:World) (vk vn:Int) (vs:ByteArray) (la:Option Addr) (ll lc:Nat) (oa:Option Addr) (ol oc:Nat) (v:V) (hv:IsVal w w.heap.size v ⟨vk,vn,vs,la,ll,lc,oa,ol,oc⟩) (hw:v.weight<=100000000) (p:List St) (xv:V) (cc:CC) (hcb:cc.Bnd) (hp:IsSteps w w.heap.size p cc.pa cc.pl cc.pc) (hxv:IsVal w w.heap.size xv cc.v) (hxw:xv.weight<=4611686018427387904) (hT:Tabs w) (he:checkP v ⟨cc.k,p,cc.key,cc.i,cc.j,cc.n,xv,cc.s⟩=0) (hk:4<=cc.k/\cc.k<=7):
 uP 15 #[.agg (uU vk vn vs la ll lc oa ol oc), .agg (uC cc)] w (CDoPost w (doP v ⟨cc.k,p,cc.key,cc.i,cc.j,cc.n,xv,cc.s⟩)):=by
 delta uU uC uP
 obtain ⟨_,x,hg,hkd⟩:=Zw he
 dsimp only at hg hkd
 have hxw2:=Zy p hg
 have hsw:=x.str_weight.1
 have hlo:=x.str_weight.2
 have HCK:Hid (∀W,uB w W->uP 35 #[.agg (uU vk vn vs la ll lc oa ol oc), .agg (uC cc)] W fun e w'=>e= .returned (.int .u16 0)/\uB W w'):=qh fun W hW=>by
  have:=Xw W vk vn vs la ll lc oa ol oc v (hv.later_ hW) (by omega) p xv cc hcb (hp.later_ hW) (hxv.later_ hW) (by omega) (hT.below hW)
  rw [he] at this;exact this
 have HGT:Hid (∀W,uB w W->uP 42 #[.agg (uU vk vn vs la ll lc oa ol oc), .slice cc.pa cc.pl cc.pc] W fun e W'=>(∃d:VC,e= .returned (.tuple #[.agg #[.int .u8 d.k, .int .i64 d.n, .string d.s, .slice d.la d.ll d.lc, .slice d.oa d.ol d.oc], .int .u16 0])/\Whole W' W.heap.size x d)/\uB W W'):=qh fun W hW=>by
  refine (Xz W v ⟨vk,vn,vs,la,ll,lc,oa,ol,oc⟩ p cc.pa cc.pl cc.pc (hv.later_ hW) (hp.later_ hW)).mono ?_
  rintro e W' ⟨hb,⟨_,hn⟩|⟨x',d,rfl,hg',hW'⟩⟩
  .rw [hn] at hg;cases hg
  .rw [hg] at hg';injection hg' with hg';subst hg'
   exact ⟨⟨d,rfl,hW'⟩,hb⟩
 obtain ⟨Y,hY⟩:∃Y,doneP x ⟨cc.k,p,cc.key,cc.i,cc.j,cc.n,xv,cc.s⟩=Y:=⟨_,rfl⟩
 obtain ⟨z,hPR⟩:=Ym p hg Y
 have HPT:Hid (∀(W:World) (d:VC),uB w W->IsVal W W.heap.size Y d->uP 47 #[.agg (uU vk vn vs la ll lc oa ol oc), .slice cc.pa cc.pl cc.pc, .agg (uV d)] W fun e W'=>(∃d':VC,e= .returned (.tuple #[.agg #[.int .u8 d'.k, .int .i64 d'.n, .string d'.s, .slice d'.la d'.ll d'.lc, .slice d'.oa d'.ol d'.oc], .int .u16 0])/\IsVal (only (fun b=>W.heap.size<=b) W') W'.heap.size z d')/\uB W W'):=qh fun W d hW hy=>by
  refine (J2 W v Y ⟨vk,vn,vs,la,ll,lc,oa,ol,oc⟩ d p cc.pa cc.pl cc.pc (hv.later_ hW) (hp.later_ hW) hy).mono ?_
  rintro e W' ⟨hb,⟨_,hn⟩|⟨z',d',rfl,hg',hW'⟩⟩
  .rw [hn] at hg;cases hg
  .rw [hPR] at hg';injection hg' with hg';subst hg'
   exact ⟨⟨d',rfl,hW'⟩,hb⟩
 have hdo:doP v ⟨cc.k,p,cc.key,cc.i,cc.j,cc.n,xv,cc.s⟩=doneQ (putP v p (doneP x ⟨cc.k,p,cc.key,cc.i,cc.j,cc.n,xv,cc.s⟩)):=Y8 he hg
 rw [hdo,hY,hPR,Xb]
 have HB:=qh (DB.start w ⟨vk,vn,vs,la,ll,lc,oa,ol,oc⟩ cc 36 39 36)
 obtain ⟨hxk,hkl⟩:=zfa hkd hk
 have HMD:Hid (∀(W2 W3:World) (base B:Nat) (d:VC),Mid w W2 W3 base B x d cc xv->uP 45 #[.pointer (some ⟨B,0,none⟩)] W3 (MidPost base W3 B cc Y)):=qh fun W2 W3 base B d h=>by
  have hst:=(Xl (Whole.isVal h.whole)).1
  rw [<-hY]
  exact zi8 w W2 W3 base B x d p cc xv h hk (by omega) hkl
 have HXV:=qh hxv
 have HKD:=qh hxk
 clear hv hp hxv hT hcb hdo hY hPR he hg hkd hxk hk hsw hlo hxw2 hkl
 go_enter Tryz.func15,Tryz.ntmps15
 generalize hQ0:bodyPost _ _ _=Q0
 have HQ:=qh hQ0
 clear hQ0
 go_wp2_with fail
 refine (HCK.out _ HB.out.below).mono ?_
 rintro e W ⟨rfl,hb1⟩
 have B:=HB.out.next hb1 (by simp)
 obtain ⟨v0,v1,v2,v3,v4⟩:=row5 B.v.at_
 obtain ⟨b0,b1,b2,b3,b4,b5,b6,b7,b8,b9,b10,b11⟩:=row12 B.c.at_
 obtain ⟨r0,r1,r2,r3,r4⟩:=row5 B.r.at_
 have f0:=B.r.fr 0;have f1:=B.r.fr 1;have f2:=B.r.fr 2;have f3:=B.r.fr 3;have f4:=B.r.fr 4
 have z0:=B.v.lt;have z1:=B.c.lt;have z2:=B.r.lt
 have HBW:=qh B
 clear B hb1
 go_wp2_with fail
 refine (HGT.out _ HBW.out.below).mono ?_
 rintro e W2 ⟨⟨d,rfl,hW⟩,hb2⟩
 have B2:=HBW.out.next hb2 (Nat.succ_le_of_lt z2)
 clear v0 v1 v2 v3 v4 r0 r1 r2 r3 r4 f0 f1 f2 f3 f4 b0 b1 b2 b3 b4 b5 b6 b7 b8 b9 b10 b11
 obtain ⟨v0,v1,v2,v3,v4⟩:=row5 B2.v.at_
 obtain ⟨b0,b1,b2,b3,b4,b5,b6,b7,b8,b9,b10,b11⟩:=row12 B2.c.at_
 obtain ⟨r0,r1,r2,r3,r4⟩:=row5 B2.r.at_
 have f0:=B2.r.fr 0;have f1:=B2.r.fr 1;have f2:=B2.r.fr 2;have f3:=B2.r.fr 3;have f4:=B2.r.fr 4
 have z0:=B2.v.lt;have z1:=B2.c.lt;have z2:=B2.r.lt
 have zW:=HBW.out.below.size
 have zW2:=hb2.size
 have z22:=B2.r.lt
 have HB2:=qh B2
 have hdk:d.k=4:=by rw [<-HKD.out,hW.1];rfl
 have g2:(d.k==2)=false:=by rw [hdk];rfl
 have g5:(d.k==5)=false:=by rw [hdk];rfl
 have g4:(d.k==4)=true:=by rw [hdk];rfl
 have hn1:uB W2 (W2.alloc (.cells #[.int .u8 d.k, .int .i64 d.n, .string d.s, .slice d.la d.ll d.lc, .slice d.oa d.ol d.oc] 36)):=(Below.refl _ _).alloc (Nat.le_refl _) _
 have hn3:uB W2 ((W2.alloc (.cells #[.int .u8 d.k, .int .i64 d.n, .string d.s, .slice d.la d.ll d.lc, .slice d.oa d.ol d.oc] 36)).alloc (.cells #[.int .u8 d.k, .int .i64 d.n, .string d.s, .slice d.la d.ll d.lc, .slice d.oa d.ol d.oc, .int .u8 cc.k, .slice cc.pa cc.pl cc.pc, .string cc.key, .int .i64 cc.i, .int .i64 cc.j, .int .i64 cc.n, .int .u8 cc.v.k, .int .i64 cc.v.n, .string cc.v.s, .slice cc.v.la cc.v.ll cc.v.lc, .slice cc.v.oa cc.v.ol cc.v.oc, .string cc.s] 87)):=hn1.alloc (by rw [World.size_alloc];omega) _
 have hbx:=BC.start (W2.alloc (.cells #[.int .u8 d.k, .int .i64 d.n, .string d.s, .slice d.la d.ll d.lc, .slice d.oa d.ol d.oc] 36)) #[.int .u8 d.k, .int .i64 d.n, .string d.s, .slice d.la d.ll d.lc, .slice d.oa d.ol d.oc, .int .u8 cc.k, .slice cc.pa cc.pl cc.pc, .string cc.key, .int .i64 cc.i, .int .i64 cc.j, .int .i64 cc.n, .int .u8 cc.v.k, .int .i64 cc.v.n, .string cc.v.s, .slice cc.v.la cc.v.ll cc.v.lc, .slice cc.v.oa cc.v.ol cc.v.oc, .string cc.s] 87
 rw [World.size_alloc] at hbx
 have HW3:=qh (HMD.out W2 ((W2.alloc (.cells #[.int .u8 d.k, .int .i64 d.n, .string d.s, .slice d.la d.ll d.lc, .slice d.oa d.ol d.oc] 36)).alloc (.cells #[.int .u8 d.k, .int .i64 d.n, .string d.s, .slice d.la d.ll d.lc, .slice d.oa d.ol d.oc, .int .u8 cc.k, .slice cc.pa cc.pl cc.pc, .string cc.key, .int .i64 cc.i, .int .i64 cc.j, .int .i64 cc.n, .int .u8 cc.v.k, .int .i64 cc.v.n, .string cc.v.s, .slice cc.v.la cc.v.ll cc.v.lc, .slice cc.v.oa cc.v.ol cc.v.oc, .string cc.s] 87)) W.heap.size (W2.heap.size+1) d ⟨hW,hn3,hbx,Nat.le_succ _,zW,zW2,HBW.out.below.trans (hb2.mono zW),HXV.out⟩)
 have HN3:=qh hn3
 clear hdk hn1 hn3 hbx hW B2 hb2
 go_wp2_with fail
 refine HW3.out.mono ?_
 rintro e W4 ⟨rfl,d4,hB4,hI4,hb4⟩
 have B4:=(HB2.out.next HN3.out (Nat.succ_le_of_lt z22)).next hb4 (Nat.succ_le_of_lt HBW.out.r.lt)
 clear v0 v1 v2 v3 v4 r0 r1 r2 r3 r4 f0 f1 f2 f3 f4 b0 b1 b2 b3 b4 b5 b6 b7 b8 b9 b10 b11
 obtain ⟨v0,v1,v2,v3,v4⟩:=row5 B4.v.at_
 obtain ⟨b0,b1,b2,b3,b4,b5,b6,b7,b8,b9,b10,b11⟩:=row12 B4.c.at_
 obtain ⟨r0,r1,r2,r3,r4⟩:=row5 B4.r.at_
 have f0:=B4.r.fr 0;have f1:=B4.r.fr 1;have f2:=B4.r.fr 2;have f3:=B4.r.fr 3;have f4:=B4.r.fr 4
 have z0:=B4.v.lt;have z1:=B4.c.lt;have z2:=B4.r.lt
 have z43:=B4.r.lt
 have HB4:=qh B4
 have HBD4:=qh (B4.below.drew)
 have x0:=hB4.at_ 0 _ rfl;have x1:=hB4.at_ 1 _ rfl;have x2:=hB4.at_ 2 _ rfl;have x3:=hB4.at_ 3 _ rfl;have x4:=hB4.at_ 4 _ rfl
 have xlt:=hB4.lt
 have HPD:Hid (uP 47 #[.agg (uU vk vn vs la ll lc oa ol oc), .slice cc.pa cc.pl cc.pc, .agg (uV d4)] W4.drew fun e W'=>(∃d':VC,e= .returned (.tuple #[.agg #[.int .u8 d'.k, .int .i64 d'.n, .string d'.s, .slice d'.la d'.ll d'.lc, .slice d'.oa d'.ol d'.oc], .int .u16 0])/\IsVal (only (fun b=>W4.drew.heap.size<=b) W') W'.heap.size z d')/\Below W4.drew.heap.size W4.drew W'):=qh (HPT.out W4.drew d4 HBD4.out (hI4.later_ (Zf W4)))
 have mixed:Tryz.prog.follows .mixedOrders=true:=by kernel_rfl
 clear B4 hB4 hI4 hb4 HW3 g2 g5 g4
 go_wp2_with fail
 refine wp_region_noPanic ?_
 go_region_with (go_simp;go_at_call 47;(with_reducible refine HPD.out.mono ?_);rintro e W6 ⟨⟨d6,rfl,hz⟩,hb6⟩;have hb46:uB W4 W6:=(Zf W4).trans hb6;have B6:=HB4.out.next hb46 (Nat.succ_le_of_lt z43);obtain ⟨rr0,rr1,rr2,rr3,rr4⟩:=row5 B6.r.at_;have ff0:=B6.r.fr 0;have ff1:=B6.r.fr 1;have ff2:=B6.r.fr 2;have ff3:=B6.r.fr 3;have ff4:=B6.r.fr 4;have zz6:=B6.r.lt;have HB6:=qh B6;have HZ:Hid (IsVal (only (fun b=>W4.heap.size<=b) W6) W6.heap.size z d6):=qh hz;clear hz hb6 hb46 B6)
 all_goals (
  refine NoPanic.normal ?_
  go_wp2_with fail
  rw [<-HQ.out]
  have ST:=HB6.out.result d6
  have hst:=Zh W6 (w.heap.size+1+1) 0 d6
  exact Qa (r:=(z,0)) ST.1 ((Zn (base:=w.heap.size+1+1+1) (HZ.out.sub (Zd fun k hk _=>⟨Nat.le_trans (Nat.succ_le_of_lt z43) hk,rfl⟩)) hst (by omega)).sub (Zd fun k hk _=>⟨by omega,rfl⟩)) ST.2 rfl rfl rfl)
set_option maxRecDepth 100000 in
theorem zlc (w:World) (vk vn:Int) (vs:ByteArray) (la:Option Addr) (ll lc:Nat) (oa:Option Addr) (ol oc:Nat) (v:V) (hv:IsVal w w.heap.size v ⟨vk,vn,vs,la,ll,lc,oa,ol,oc⟩) (hw:v.weight<=100000000) (p:List St) (xv:V) (cc:CC) (hcb:cc.Bnd) (hp:IsSteps w w.heap.size p cc.pa cc.pl cc.pc) (hxv:IsVal w w.heap.size xv cc.v) (hxw:xv.weight<=4611686018427387904) (hcs:∀y,getP v p=some y->y.str.size+y.str.size+cc.s.size<=140737488355328) (hT:Tabs w) (he:checkP v ⟨cc.k,p,cc.key,cc.i,cc.j,cc.n,xv,cc.s⟩=0) (hk:cc.k=8∨cc.k=9):
 uP 15 #[.agg (uU vk vn vs la ll lc oa ol oc), .agg (uC cc)] w (CDoPost w (doP v ⟨cc.k,p,cc.key,cc.i,cc.j,cc.n,xv,cc.s⟩)):=by
 delta uU uC uP
 obtain ⟨_,x,hg,hkd⟩:=Zw he
 dsimp only at hg hkd
 have hxw2:=Zy p hg
 have hsw:=x.str_weight.1
 have hlo:=x.str_weight.2
 have HCK:Hid (∀W,uB w W->uP 35 #[.agg (uU vk vn vs la ll lc oa ol oc), .agg (uC cc)] W fun e w'=>e= .returned (.int .u16 0)/\uB W w'):=qh fun W hW=>by
  have:=Xw W vk vn vs la ll lc oa ol oc v (hv.later_ hW) (by omega) p xv cc hcb (hp.later_ hW) (hxv.later_ hW) (by omega) (hT.below hW)
  rw [he] at this;exact this
 have HGT:Hid (∀W,uB w W->uP 42 #[.agg (uU vk vn vs la ll lc oa ol oc), .slice cc.pa cc.pl cc.pc] W fun e W'=>(∃d:VC,e= .returned (.tuple #[.agg #[.int .u8 d.k, .int .i64 d.n, .string d.s, .slice d.la d.ll d.lc, .slice d.oa d.ol d.oc], .int .u16 0])/\Whole W' W.heap.size x d)/\uB W W'):=qh fun W hW=>by
  refine (Xz W v ⟨vk,vn,vs,la,ll,lc,oa,ol,oc⟩ p cc.pa cc.pl cc.pc (hv.later_ hW) (hp.later_ hW)).mono ?_
  rintro e W' ⟨hb,⟨_,hn⟩|⟨x',d,rfl,hg',hW'⟩⟩
  .rw [hn] at hg;cases hg
  .rw [hg] at hg';injection hg' with hg';subst hg'
   exact ⟨⟨d,rfl,hW'⟩,hb⟩
 obtain ⟨Y,hY⟩:∃Y,doneP x ⟨cc.k,p,cc.key,cc.i,cc.j,cc.n,xv,cc.s⟩=Y:=⟨_,rfl⟩
 obtain ⟨z,hPR⟩:=Ym p hg Y
 have HPT:Hid (∀(W:World) (d:VC),uB w W->IsVal W W.heap.size Y d->uP 47 #[.agg (uU vk vn vs la ll lc oa ol oc), .slice cc.pa cc.pl cc.pc, .agg (uV d)] W fun e W'=>(∃d':VC,e= .returned (.tuple #[.agg #[.int .u8 d'.k, .int .i64 d'.n, .string d'.s, .slice d'.la d'.ll d'.lc, .slice d'.oa d'.ol d'.oc], .int .u16 0])/\IsVal (only (fun b=>W.heap.size<=b) W') W'.heap.size z d')/\uB W W'):=qh fun W d hW hy=>by
  refine (J2 W v Y ⟨vk,vn,vs,la,ll,lc,oa,ol,oc⟩ d p cc.pa cc.pl cc.pc (hv.later_ hW) (hp.later_ hW) hy).mono ?_
  rintro e W' ⟨hb,⟨_,hn⟩|⟨z',d',rfl,hg',hW'⟩⟩
  .rw [hn] at hg;cases hg
  .rw [hPR] at hg';injection hg' with hg';subst hg'
   exact ⟨⟨d',rfl,hW'⟩,hb⟩
 have hdo:doP v ⟨cc.k,p,cc.key,cc.i,cc.j,cc.n,xv,cc.s⟩=doneQ (putP v p (doneP x ⟨cc.k,p,cc.key,cc.i,cc.j,cc.n,xv,cc.s⟩)):=Y8 he hg
 rw [hdo,hY,hPR,Xb]
 have HB:=qh (DB.start w ⟨vk,vn,vs,la,ll,lc,oa,ol,oc⟩ cc 36 39 36)
 obtain ⟨hxk,hkt⟩:=zk9 hkd hk
 have hcx:=hcs x hg
 have HMD:Hid (∀(W2 W3:World) (base B:Nat) (d:VC),Mid w W2 W3 base B x d cc xv->uP 46 #[.pointer (some ⟨B,0,none⟩)] W3 (MidPost base W3 B cc Y)):=qh fun W2 W3 base B d h=>by
  have hst:=(Xl (Whole.isVal h.whole)).1
  rw [<-hY]
  exact zfe w W2 W3 base B x d p cc xv h hk hcb (by rw [<-hst];omega) (by rw [<-hst];omega) hkt
 have HXV:=qh hxv
 have HKD:=qh hxk
 clear hv hp hxv hT hcb hdo hY hPR he hg hkd hxk hk hsw hlo hxw2 hkt hcx hcs
 go_enter Tryz.func15,Tryz.ntmps15
 generalize hQ0:bodyPost _ _ _=Q0
 have HQ:=qh hQ0
 clear hQ0
 go_wp2_with fail
 refine (HCK.out _ HB.out.below).mono ?_
 rintro e W ⟨rfl,hb1⟩
 have B:=HB.out.next hb1 (by simp)
 obtain ⟨v0,v1,v2,v3,v4⟩:=row5 B.v.at_
 obtain ⟨b0,b1,b2,b3,b4,b5,b6,b7,b8,b9,b10,b11⟩:=row12 B.c.at_
 obtain ⟨r0,r1,r2,r3,r4⟩:=row5 B.r.at_
 have f0:=B.r.fr 0;have f1:=B.r.fr 1;have f2:=B.r.fr 2;have f3:=B.r.fr 3;have f4:=B.r.fr 4
 have z0:=B.v.lt;have z1:=B.c.lt;have z2:=B.r.lt
 have HBW:=qh B
 clear B hb1
 go_wp2_with fail
 refine (HGT.out _ HBW.out.below).mono ?_
 rintro e W2 ⟨⟨d,rfl,hW⟩,hb2⟩
 have B2:=HBW.out.next hb2 (Nat.succ_le_of_lt z2)
 clear v0 v1 v2 v3 v4 r0 r1 r2 r3 r4 f0 f1 f2 f3 f4 b0 b1 b2 b3 b4 b5 b6 b7 b8 b9 b10 b11
 obtain ⟨v0,v1,v2,v3,v4⟩:=row5 B2.v.at_
 obtain ⟨b0,b1,b2,b3,b4,b5,b6,b7,b8,b9,b10,b11⟩:=row12 B2.c.at_
 obtain ⟨r0,r1,r2,r3,r4⟩:=row5 B2.r.at_
 have f0:=B2.r.fr 0;have f1:=B2.r.fr 1;have f2:=B2.r.fr 2;have f3:=B2.r.fr 3;have f4:=B2.r.fr 4
 have z0:=B2.v.lt;have z1:=B2.c.lt;have z2:=B2.r.lt
 have zW:=HBW.out.below.size
 have zW2:=hb2.size
 have z22:=B2.r.lt
 have HB2:=qh B2
 have hdk:d.k=3:=by rw [<-HKD.out,hW.1];rfl
 have g2:(d.k==2)=false:=by rw [hdk];rfl
 have g5:(d.k==5)=false:=by rw [hdk];rfl
 have g4:(d.k==4)=false:=by rw [hdk];rfl
 have hn1:uB W2 (W2.alloc (.cells #[.int .u8 d.k, .int .i64 d.n, .string d.s, .slice d.la d.ll d.lc, .slice d.oa d.ol d.oc] 36)):=(Below.refl _ _).alloc (Nat.le_refl _) _
 have hn3:uB W2 ((W2.alloc (.cells #[.int .u8 d.k, .int .i64 d.n, .string d.s, .slice d.la d.ll d.lc, .slice d.oa d.ol d.oc] 36)).alloc (.cells #[.int .u8 d.k, .int .i64 d.n, .string d.s, .slice d.la d.ll d.lc, .slice d.oa d.ol d.oc, .int .u8 cc.k, .slice cc.pa cc.pl cc.pc, .string cc.key, .int .i64 cc.i, .int .i64 cc.j, .int .i64 cc.n, .int .u8 cc.v.k, .int .i64 cc.v.n, .string cc.v.s, .slice cc.v.la cc.v.ll cc.v.lc, .slice cc.v.oa cc.v.ol cc.v.oc, .string cc.s] 87)):=hn1.alloc (by rw [World.size_alloc];omega) _
 have hbx:=BC.start (W2.alloc (.cells #[.int .u8 d.k, .int .i64 d.n, .string d.s, .slice d.la d.ll d.lc, .slice d.oa d.ol d.oc] 36)) #[.int .u8 d.k, .int .i64 d.n, .string d.s, .slice d.la d.ll d.lc, .slice d.oa d.ol d.oc, .int .u8 cc.k, .slice cc.pa cc.pl cc.pc, .string cc.key, .int .i64 cc.i, .int .i64 cc.j, .int .i64 cc.n, .int .u8 cc.v.k, .int .i64 cc.v.n, .string cc.v.s, .slice cc.v.la cc.v.ll cc.v.lc, .slice cc.v.oa cc.v.ol cc.v.oc, .string cc.s] 87
 rw [World.size_alloc] at hbx
 have HW3:=qh (HMD.out W2 ((W2.alloc (.cells #[.int .u8 d.k, .int .i64 d.n, .string d.s, .slice d.la d.ll d.lc, .slice d.oa d.ol d.oc] 36)).alloc (.cells #[.int .u8 d.k, .int .i64 d.n, .string d.s, .slice d.la d.ll d.lc, .slice d.oa d.ol d.oc, .int .u8 cc.k, .slice cc.pa cc.pl cc.pc, .string cc.key, .int .i64 cc.i, .int .i64 cc.j, .int .i64 cc.n, .int .u8 cc.v.k, .int .i64 cc.v.n, .string cc.v.s, .slice cc.v.la cc.v.ll cc.v.lc, .slice cc.v.oa cc.v.ol cc.v.oc, .string cc.s] 87)) W.heap.size (W2.heap.size+1) d ⟨hW,hn3,hbx,Nat.le_succ _,zW,zW2,HBW.out.below.trans (hb2.mono zW),HXV.out⟩)
 have HN3:=qh hn3
 clear hdk hn1 hn3 hbx hW B2 hb2
 go_wp2_with fail
 refine HW3.out.mono ?_
 rintro e W4 ⟨rfl,d4,hB4,hI4,hb4⟩
 have B4:=(HB2.out.next HN3.out (Nat.succ_le_of_lt z22)).next hb4 (Nat.succ_le_of_lt HBW.out.r.lt)
 clear v0 v1 v2 v3 v4 r0 r1 r2 r3 r4 f0 f1 f2 f3 f4 b0 b1 b2 b3 b4 b5 b6 b7 b8 b9 b10 b11
 obtain ⟨v0,v1,v2,v3,v4⟩:=row5 B4.v.at_
 obtain ⟨b0,b1,b2,b3,b4,b5,b6,b7,b8,b9,b10,b11⟩:=row12 B4.c.at_
 obtain ⟨r0,r1,r2,r3,r4⟩:=row5 B4.r.at_
 have f0:=B4.r.fr 0;have f1:=B4.r.fr 1;have f2:=B4.r.fr 2;have f3:=B4.r.fr 3;have f4:=B4.r.fr 4
 have z0:=B4.v.lt;have z1:=B4.c.lt;have z2:=B4.r.lt
 have z43:=B4.r.lt
 have HB4:=qh B4
 have HBD4:=qh (B4.below.drew)
 have x0:=hB4.at_ 0 _ rfl;have x1:=hB4.at_ 1 _ rfl;have x2:=hB4.at_ 2 _ rfl;have x3:=hB4.at_ 3 _ rfl;have x4:=hB4.at_ 4 _ rfl
 have xlt:=hB4.lt
 have HPD:Hid (uP 47 #[.agg (uU vk vn vs la ll lc oa ol oc), .slice cc.pa cc.pl cc.pc, .agg (uV d4)] W4.drew fun e W'=>(∃d':VC,e= .returned (.tuple #[.agg #[.int .u8 d'.k, .int .i64 d'.n, .string d'.s, .slice d'.la d'.ll d'.lc, .slice d'.oa d'.ol d'.oc], .int .u16 0])/\IsVal (only (fun b=>W4.drew.heap.size<=b) W') W'.heap.size z d')/\Below W4.drew.heap.size W4.drew W'):=qh (HPT.out W4.drew d4 HBD4.out (hI4.later_ (Zf W4)))
 have mixed:Tryz.prog.follows .mixedOrders=true:=by kernel_rfl
 clear B4 hB4 hI4 hb4 HW3 g2 g5 g4
 go_wp2_with fail
 refine wp_region_noPanic ?_
 go_region_with (go_simp;go_at_call 47;(with_reducible refine HPD.out.mono ?_);rintro e W6 ⟨⟨d6,rfl,hz⟩,hb6⟩;have hb46:uB W4 W6:=(Zf W4).trans hb6;have B6:=HB4.out.next hb46 (Nat.succ_le_of_lt z43);obtain ⟨rr0,rr1,rr2,rr3,rr4⟩:=row5 B6.r.at_;have ff0:=B6.r.fr 0;have ff1:=B6.r.fr 1;have ff2:=B6.r.fr 2;have ff3:=B6.r.fr 3;have ff4:=B6.r.fr 4;have zz6:=B6.r.lt;have HB6:=qh B6;have HZ:Hid (IsVal (only (fun b=>W4.heap.size<=b) W6) W6.heap.size z d6):=qh hz;clear hz hb6 hb46 B6)
 all_goals (
  refine NoPanic.normal ?_
  go_wp2_with fail
  rw [<-HQ.out]
  have ST:=HB6.out.result d6
  have hst:=Zh W6 (w.heap.size+1+1) 0 d6
  exact Qa (r:=(z,0)) ST.1 ((Zn (base:=w.heap.size+1+1+1) (HZ.out.sub (Zd fun k hk _=>⟨Nat.le_trans (Nat.succ_le_of_lt z43) hk,rfl⟩)) hst (by omega)).sub (Zd fun k hk _=>⟨by omega,rfl⟩)) ST.2 rfl rfl rfl)
theorem ze1 (w:World) (vk vn:Int) (vs:ByteArray) (la:Option Addr) (ll lc:Nat) (oa:Option Addr) (ol oc:Nat) (v:V) (hv:IsVal w w.heap.size v ⟨vk,vn,vs,la,ll,lc,oa,ol,oc⟩) (hw:v.weight<=100000000) (p:List St) (xv:V) (cc:CC) (hcb:cc.Bnd) (hp:IsSteps w w.heap.size p cc.pa cc.pl cc.pc) (hxv:IsVal w w.heap.size xv cc.v) (hxw:xv.weight<=4611686018427387904) (hcs:∀y,getP v p=some y->y.str.size+y.str.size+cc.s.size<=140737488355328) (hsn:v.sound=true) (hT:Tabs w):
 uP 15 #[.agg (uU vk vn vs la ll lc oa ol oc), .agg (uC cc)] w (CDoPost w (doP v ⟨cc.k,p,cc.key,cc.i,cc.j,cc.n,xv,cc.s⟩)):=by
 delta uU uC uP
 by_cases he:checkP v ⟨cc.k,p,cc.key,cc.i,cc.j,cc.n,xv,cc.s⟩=0
 .obtain ⟨hs,x,_,hkd⟩:=Zw he
  have hk1:=Qr hs
  dsimp only at hk1
  by_cases e1:cc.k=1
  .exact zho w vk vn vs la ll lc oa ol oc v hv hw p xv cc hcb hp hxv hxw hT he e1
  by_cases e2:cc.k=2∨cc.k=3
  .exact zlt w vk vn vs la ll lc oa ol oc v hv hw p xv cc hcb hp hxv hxw hsn hT he e2
  by_cases e8:cc.k=8∨cc.k=9
  .exact zlc w vk vn vs la ll lc oa ol oc v hv hw p xv cc hcb hp hxv hxw hcs hT he e8
  exact zlf w vk vn vs la ll lc oa ol oc v hv hw p xv cc hcb hp hxv hxw hT he (by omega)
 .exact zhi w vk vn vs la ll lc oa ol oc v hv hw p xv cc hcb hp hxv hxw hT he
theorem zc1 {c:Cm} (hk:kIs c.k=true) (hb:c.bare=⟨c.k,c.path, .empty,0,0,0,V.none, .empty⟩) (hp:pathSound c.path=true) (h1:Lib.validD c.key.data.toList=true) (h2:Lib.validD c.s.data.toList=true) (hi:0<=c.i) (hj:0<=c.j) (h8:c.k=8->c.s.toList≠ []) (h9:c.k=9->1<=c.n) (hv:c.v.sound=true) (hd:c.path.length+1+c.v.deep<=16) (hw:c.v.weight<=20000):cmSound c=true:=by
 unfold cmSound
 rw [hk,Yo hb,hp,h1,h2,decide_eq_true hi,decide_eq_true hj,hv,decide_eq_true hd,decide_eq_true hw]
 have e8:(c.k==8 && c.s.toList.isEmpty)=false:=by
  by_cases e:c.k=8
  .have:=h8 e
   cases hq:c.s.toList with
   |nil=>exact absurd hq this
   |cons a b=>simp
  .simp [e]
 have e9:(c.k==9 && decide (c.n<1))=false:=by
  by_cases e:c.k=9
  .have:=h9 e;simp;omega
  .simp [e]
 rw [e8,e9];rfl
theorem ze8:V.none.deep<=1:=by simp [V.none,V.deep,deepL,deepO]
theorem zac {v x:V} {c:Cm} (hs:cmSound c=true) (hg:getP v c.path=some x) (hk:kindsP x c.k c.i c.j c.n c.key=0):checkP v c=0:=by
 unfold checkP
 rw [hs,if_neg (by simp)]
 simp only [hg]
 exact hk
def kA:ByteArray:= { data:= #[97] }
def kvI (n:Int):V:= .mk 2 n .empty [] []
def kvV:V:= .mk 5 0 .empty [] [(kA,kvI 1)]
theorem zc7 (n:Int):(kvI n).sound=true:=Yd.2 ⟨by simp [plainB,ByteArray.toList_eq],by rfl,(fun v h=>by cases h),(fun f h=>by cases h)⟩
theorem Ki:Lib.validD kA.data.toList=true:=zbj (fun b h=>by simp [kA] at h;subst h;decide)
theorem zgm:kvV.sound=true:=Yd.2 ⟨by simp [plainB,ByteArray.toList_eq],by rfl,(fun v h=>by cases h),(fun f h=>by
 rw [List.mem_singleton] at h;subst h;exact ⟨Ki,zc7 1⟩)⟩
theorem zao:kvV.weight=3:=by
 have:kA.size=1:=rfl
 simp [kvV,kvI,V.weight,weightL,weightO,weightF,this]
theorem zfc:Op.bytesLess kA.toList kA.toList=false:=by rw [ByteArray.toList_eq];rfl
theorem zdt:fieldK [(kA,kvI 1)] kA=0/\fieldIs [(kA,kvI 1)] kA=true:=by
 have h1:fieldK [(kA,kvI 1)] kA=0:=by unfold fieldK;rw [List.takeWhile_cons,if_neg (by rw [zfc];simp)];rfl
 exact ⟨h1,by unfold fieldIs;rw [h1];simp⟩
def kc2:Cm:=⟨1, [⟨false,0,kA⟩], .empty,0,0,2,V.none, .empty⟩
theorem Qu (w:World) (B:Nat) (k n:Int) (hk:0<=k/\k<256) (hn: -9223372036854775808<=n/\n<=9223372036854775807):IsVal w B (.mk k n .empty [] []) ⟨k,n, .empty,none,0,0,none,0,0⟩:=
 Yy hk.1 hk.2 hn.1 hn.2 (by decide) ⟨rfl,by decide,by decide,by decide,0,0,fun _=>vzero,fun h=>absurd h (by decide),fun i h=>absurd h (by simp)⟩ (Km w B)
theorem zdk (W:World) (b:Nat) (h:BC W b (fcells (kA,⟨2,1, .empty,none,0,0,none,0,0⟩))):IsVal W W.heap.size kvV ⟨5,0, .empty,none,0,0,some ⟨b,0,none⟩,1,1⟩:=
 Yy (by decide) (by decide) (by decide) (by decide) (by decide) ⟨rfl,by decide,by decide,by decide,0,0,fun _=>vzero,fun h=>absurd h (by decide),fun i h=>absurd h (by simp)⟩ ⟨rfl,by decide,by decide,by decide,b,0,fun _=>⟨2,1, .empty,none,0,0,none,0,0⟩,fun _=>⟨rfl,h.lt⟩,fun i hi=>by
  have h0:i=0:=by simpa using hi
  subst h0
  exact ⟨h.at_ 0 _ rfl,(show kA.size<=140737488355328 by decide),⟨h.at_ 1 _ rfl,h.at_ 2 _ rfl,h.at_ 3 _ rfl,h.at_ 4 _ rfl,h.at_ 5 _ rfl⟩,Qu W _ 2 1 (by decide) (by decide)⟩⟩
theorem zi7 {a b:ByteArray} (h:a.data.toList=b.data.toList):a=b:=by
 cases a;cases b;congr;exact Array.ext' h
theorem znk (s:ByteArray):s.data.toList.length=s.size:=Array.length_toList
noncomputable def turnP (x:V) (c:Cm):Cm:=
 if c.k=1 then ⟨1,c.path, .empty,0,0,wrap64 (-c.n),V.none, .empty⟩
 else if c.k=2∨c.k=3 then (if fieldIs x.os c.key=true then ⟨2,c.path,c.key,0,0,0,(x.os.getD (fieldK x.os c.key) (.empty,V.none)).2, .empty⟩ else ⟨3,c.path,c.key,0,0,0,V.none, .empty⟩)
 else if c.k=4 then ⟨5,c.path, .empty,c.i,0,0,V.none, .empty⟩
 else if c.k=5 then ⟨4,c.path, .empty,c.i,0,0,x.ls.getD c.i.toNat V.none, .empty⟩
 else if c.k=6 then ⟨6,c.path, .empty,c.i,0,0,x.ls.getD c.i.toNat V.none, .empty⟩
 else if c.k=7 then ⟨7,c.path, .empty,c.j,c.i,0,V.none, .empty⟩
 else if c.k=8 then ⟨9,c.path, .empty,c.i,0,(textN c.s:Int),V.none, .empty⟩
 else ⟨8,c.path, .empty,c.i,0,0,V.none,partT x.str c.i c.n⟩
end Go.Proofs.YtnjgbiachcfigaaGreatDoor
