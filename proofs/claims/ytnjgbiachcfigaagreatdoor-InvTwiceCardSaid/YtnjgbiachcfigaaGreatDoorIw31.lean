/-
  Contracts of the functions that the law reaches: conciliatorref06.Do: a list..
-/
import Derived.Test.YtnjgbiachcfigaaGreatDoorIw20
import Derived.Test.YtnjgbiachcfigaaGreatDoorIw26
import Derived.Test.YtnjgbiachcfigaaGreatDoorIw30
namespace Go.Proofs.YtnjgbiachcfigaaGreatDoor
open Go.RowKit
set_option maxHeartbeats 8000000
set_option maxRecDepth 100000 in
theorem zql (w:World) (vk vn:Int) (vs:ByteArray) (la:Option Addr) (ll lc:Nat) (oa:Option Addr) (ol oc:Nat) (v:V) (hv:IsVal w w.heap.size v ⟨vk,vn,vs,la,ll,lc,oa,ol,oc⟩) (hw:v.weight<=100000000) (p:List St) (xv:V) (cc:CC) (hcb:cc.Bnd) (hp:IsSteps w w.heap.size p cc.pa cc.pl cc.pc) (hxv:IsVal w w.heap.size xv cc.v) (hxw:xv.weight<=4611686018427387904) (hT:Tabs w) (he:checkP v ⟨cc.k,p,cc.key,cc.i,cc.j,cc.n,xv,cc.s⟩=0) (hk:4<=cc.k/\cc.k<=7):
 uP 16 #[.agg (uU vk vn vs la ll lc oa ol oc), .agg (uC cc)] w (DoPost w (doP v ⟨cc.k,p,cc.key,cc.i,cc.j,cc.n,xv,cc.s⟩)):=by
 delta uU uC uP
 obtain ⟨_,x,hg,hkd⟩:=Zu he
 dsimp only at hg hkd
 have hxw2:=Zz p hg
 have HCK:Hid (∀W,uB w W->uP 34 #[.agg (uU vk vn vs la ll lc oa ol oc), .agg (uC cc)] W fun e w'=>e= .returned (.int .i64 0)/\uB W w'):=fun W hW=>by
  have:=X6 W vk vn vs la ll lc oa ol oc v (hv.later_ hW) (by omega) p xv cc hcb (hp.later_ hW) (hxv.later_ hW) (by omega) (hT.below hW)
  rw [he] at this;exact this
 have HGT:Hid (∀W,uB w W->uP 38 #[.agg (uU vk vn vs la ll lc oa ol oc), .slice cc.pa cc.pl cc.pc] W (GetPost W (some x))):=fun W hW=>by rw [<-hg];exact X3 W vk vn vs la ll lc oa ol oc v (hv.later_ hW) p cc.pa cc.pl cc.pc (hp.later_ hW)
 have HPT:Hid (∀(W:World) (y:V) (k n:Int) (s:ByteArray) (a:Option Addr) (m c:Nat) (a':Option Addr) (m' c':Nat),uB w W->IsVal W W.heap.size y ⟨k,n,s,a,m,c,a',m',c'⟩->uP 51 #[.agg (uU vk vn vs la ll lc oa ol oc), .slice cc.pa cc.pl cc.pc, .agg (uU k n s a m c a' m' c')] W (GetPost W (putP v p y))):=fun W y k n s a m c a' m' c' hW hy=>Js y k n s a m c a' m' c' p W vk vn vs la ll lc oa ol oc v (hv.later_ hW) cc.pa cc.pl cc.pc (hp.later_ hW) hy
 have hdo:doP v ⟨cc.k,p,cc.key,cc.i,cc.j,cc.n,xv,cc.s⟩=doneQ (putP v p (doneP x ⟨cc.k,p,cc.key,cc.i,cc.j,cc.n,xv,cc.s⟩)):=Yt he hg
 rw [hdo]
 have HB:=qh (DB.start w ⟨vk,vn,vs,la,ll,lc,oa,ol,oc⟩ cc 36 39 36)
 have HTT:=qh hT
 have HXV:=qh hxv
 have HCB:=qh hcb
 have HKD:=qh hkd
 have hsw:=x.str_weight
 obtain ⟨kx,nx,sx,lx,ox,rfl⟩:=x.eta
 dsimp only [V.str,V.ls,V.os] at hsw
 obtain ⟨Y,hY⟩:∃Y,doneP (.mk kx nx sx lx ox) ⟨cc.k,p,cc.key,cc.i,cc.j,cc.n,xv,cc.s⟩=Y:=⟨_,rfl⟩
 rw [hY]
 obtain ⟨z,hPR⟩:=Yn p hg Y
 rw [hPR,Xf]
 have HY:=qh hY
 have HPR:=qh hPR
 clear hv hp hxv hT hcb hdo hY hPR he hg hkd
 have HK:=qh hk
 clear hk
 go_enter Tryz.func16,Tryz.ntmps16
 generalize hQ0:bodyPost _ _ _=Q0
 have HQ:=qh hQ0
 clear hQ0
 go_wp2_with fail
 refine (HCK.out _ HB.out.below).mono ?_
 rintro e W ⟨rfl,hb1⟩
 have B:=HB.out.next hb1 (by simp)
 obtain ⟨v0,v1,v2,v3,v4⟩:=row5 B.v.at_
 obtain ⟨b0,b1,b2,b3,b4,b5,b6,b7,b8,b9,b10,b11⟩:=row12 B.c.at_
 obtain ⟨r0,r1,r2,r3,r4⟩:=row5 B.r.at_
 have f0:=B.r.fr 0;have f1:=B.r.fr 1;have f2:=B.r.fr 2;have f3:=B.r.fr 3;have f4:=B.r.fr 4
 have z0:=B.v.lt;have z1:=B.c.lt;have z2:=B.r.lt
 have HBW:=qh B
 clear B hb1
 go_wp2_with fail
 refine (HGT.out _ HBW.out.below).mono ?_
 rintro e W2 ⟨⟨d,rfl,hI⟩,hb2⟩
 have B2:=HBW.out.next hb2 (Nat.succ_le_of_lt z2)
 obtain ⟨e1,e2,e3,hbd,hl,ho⟩:=hI.lists
 subst e1 e2 e3
 clear v0 v1 v2 v3 v4 r0 r1 r2 r3 r4 f0 f1 f2 f3 f4 b0 b1 b2 b3 b4 b5 b6 b7 b8 b9 b10 b11
 obtain ⟨v0,v1,v2,v3,v4⟩:=row5 B2.v.at_
 obtain ⟨b0,b1,b2,b3,b4,b5,b6,b7,b8,b9,b10,b11⟩:=row12 B2.c.at_
 obtain ⟨r0,r1,r2,r3,r4⟩:=row5 B2.r.at_
 have f0:=B2.r.fr 0;have f1:=B2.r.fr 1;have f2:=B2.r.fr 2;have f3:=B2.r.fr 3;have f4:=B2.r.fr 4
 have z0:=B2.v.lt;have z1:=B2.c.lt;have z2:=B2.r.lt
 have zW:=HBW.out.below.size
 have zW2:=hb2.size
 have z22:=B2.r.lt
 have HB2:=qh B2
 have HI:=qh hI
 have HBD:=qh hbd
 have HL:=qh hl
 have HO:=qh ho
 have HAL:=qh (((Below.refl _ _).alloc (Nat.le_refl _) (.cells (uV d) 36)):uB W2 _)
 clear B2 hI hbd hl ho hb2
 have hlc:lCheck d.ll cc.k cc.i cc.j=0:=by
  have hk:=HKD.out
  rw [kindsP,if_neg (by have:=HK.out;omega),if_neg (by have:=HK.out;omega),if_neg (by have:=HK.out;omega)] at hk
  split at hk
  .omega
  .rw [HL.out.len];exact hk
 have g1:(cc.k==1)=false:=by have:=HK.out;simp;omega
 have g2:(cc.k==2)=false:=by have:=HK.out;simp;omega
 have g3:(cc.k==3)=false:=by have:=HK.out;simp;omega
 have g8:(cc.k==8)=false:=by have:=HK.out;simp;omega
 have g9:(cc.k==9)=false:=by have:=HK.out;simp;omega
 have HFL:Hid (uP 50 #[.slice d.la d.ll d.lc, .agg (uC cc)] (W2.alloc (.cells (uV d) 36)) (DoLPost (W2.alloc (.cells (uV d) 36)) (listDo lx cc.k cc.i cc.j xv))):=by
  have hb3:=HB2.out.below.trans (HAL.out.mono HB2.out.below.size)
  have hx3:=((HI.out.sub (Zk _ _ _)).later_ HAL.out).lists
  exact zqt (W2.alloc (.cells (uV d) 36)) lx d.la d.ll d.lc hx3.2.2.2.2.1 (by have:=HL.out.len;omega) cc xv (HXV.out.later_ hb3) hlc
 clear hlc
 go_wp2_with fail
 refine HFL.out.mono ?_
 rintro e w4 ⟨⟨a4,n4,c4,rfl,hI4⟩,hb4⟩
 have hbw4:uB W2 w4:=HAL.out.trans (hb4.mono (by simp))
 have B4:=HB2.out.next hbw4 (Nat.succ_le_of_lt z2)
 have X4:BC w4 W2.heap.size (vcells d):=(BC.start W2 (uV d) 36).keep hb4 (by simp)
 obtain ⟨x0,x1,x2,x3,x4⟩:=row5 X4.at_
 have xf0:=X4.fr 2;have xf1:=X4.fr 3;have xf2:=X4.fr 4
 have xlt:=X4.lt
 clear v0 v1 v2 v3 v4 r0 r1 r2 r3 r4 f0 f1 f2 f3 f4 b0 b1 b2 b3 b4 b5 b6 b7 b8 b9 b10 b11
 obtain ⟨v0,v1,v2,v3,v4⟩:=row5 B4.v.at_
 obtain ⟨b0,b1,b2,b3,b4,b5,b6,b7,b8,b9,b10,b11⟩:=row12 B4.c.at_
 obtain ⟨r0,r1,r2,r3,r4⟩:=row5 B4.r.at_
 have f0:=B4.r.fr 0;have f1:=B4.r.fr 1;have f2:=B4.r.fr 2;have f3:=B4.r.fr 3;have f4:=B4.r.fr 4
 have z0:=B4.v.lt;have z1:=B4.c.lt;have z2:=B4.r.lt
 have HBW4:=qh hbw4
 clear B4 X4 hb4 hbw4
 have HI4:=qh hI4
 clear hI4
 go_wp2_with fail
 have hbl4:uB W2 (w4.setCell ⟨W2.heap.size,3,none⟩ (.slice a4 n4 c4)):=HBW4.out.set_ (Nat.le_refl _)
 have hx4:=(HI.out.sub (Zk _ _ _)).later_ hbl4
 obtain ⟨_,_,_,_,hl4,ho4⟩:=hx4.lists
 have HB4:=qh (HB2.out.next hbl4 (Nat.succ_le_of_lt z22))
 have HCALL:Hid (uP 51 #[.agg (uU vk vn vs la ll lc oa ol oc), .slice cc.pa cc.pl cc.pc, .agg (uU d.k d.n d.s a4 n4 c4 d.oa d.ol d.oc)] (w4.setCell ⟨W2.heap.size,3,none⟩ (.slice a4 n4 c4)) (GetPost (w4.setCell ⟨W2.heap.size,3,none⟩ (.slice a4 n4 c4)) (some z))):=by
  have:=HPT.out (w4.setCell ⟨W2.heap.size,3,none⟩ (.slice a4 n4 c4)) Y d.k d.n d.s a4 n4 c4 d.oa d.ol d.oc HB4.out.below (by
   have hYe:Y= .mk d.k d.n d.s (listDo lx cc.k cc.i cc.j xv) ox:=by
    rw [<-HY.out,doneP,if_neg (by have:=HK.out;dsimp only;omega),if_neg (by have:=HK.out;dsimp only;omega),if_neg (by have:=HK.out;dsimp only;omega)];rfl
   have hst:RStep w4 (w4.setCell ⟨W2.heap.size,3,none⟩ (.slice a4 n4 c4)) W2.heap.size:=RStep.self
   rw [hYe]
   exact Y3 HBD.out.k0 HBD.out.k1 HBD.out.n0 HBD.out.n1 HBD.out.s1 ((IsVals.sub (fun b o u hb h=>by
    obtain ⟨hs,hc⟩:=Z9 h
    exact hst.cell hc (by rw [World.size_alloc] at hs;omega)) HI4.out).more hst.size) ho4)
  rw [HPR.out] at this;exact this
 clear hx4 hl4 ho4
 refine HCALL.out.mono ?_
 rintro e W6 ⟨⟨d6,rfl,hz⟩,hb6⟩
 have B6:=HB4.out.next hb6 (Nat.succ_le_of_lt HB4.out.r.lt)
 clear v0 v1 v2 v3 v4 r0 r1 r2 r3 r4 f0 f1 f2 f3 f4 b0 b1 b2 b3 b4 b5 b6 b7 b8 b9 b10 b11
 obtain ⟨v0,v1,v2,v3,v4⟩:=row5 B6.v.at_
 obtain ⟨b0,b1,b2,b3,b4,b5,b6,b7,b8,b9,b10,b11⟩:=row12 B6.c.at_
 obtain ⟨r0,r1,r2,r3,r4⟩:=row5 B6.r.at_
 have f0:=B6.r.fr 0;have f1:=B6.r.fr 1;have f2:=B6.r.fr 2;have f3:=B6.r.fr 3;have f4:=B6.r.fr 4
 have z0:=B6.v.lt;have z1:=B6.c.lt;have z2:=B6.r.lt
 have HB6:=qh B6
 have hz4:=HB4.out.below.size
 have hz5:=HB4.out.r.lt
 have HZ:=qh hz
 clear B6 hb6 hz
 go_wp2_with fail
 rw [<-HQ.out]
 have ST:=HB6.out.result d6
 have hst:=Zi W6 (w.heap.size+1+1) 0 d6
 exact Q8 (r:=(z,0)) ST.1 ((Zm (base:=w.heap.size+1+1+1) (HZ.out.sub (Zd fun k hk _=>⟨Nat.le_trans (Nat.succ_le_of_lt hz5) hk,rfl⟩)) hst (by omega)).sub (Zd fun k hk _=>⟨by omega,rfl⟩)) ST.2 rfl rfl rfl
theorem zak (w:World) (vk vn:Int) (vs:ByteArray) (la:Option Addr) (ll lc:Nat) (oa:Option Addr) (ol oc:Nat) (v:V) (hv:IsVal w w.heap.size v ⟨vk,vn,vs,la,ll,lc,oa,ol,oc⟩) (hw:v.weight<=100000000) (p:List St) (xv:V) (cc:CC) (hcb:cc.Bnd) (hp:IsSteps w w.heap.size p cc.pa cc.pl cc.pc) (hxv:IsVal w w.heap.size xv cc.v) (hxw:xv.weight<=4611686018427387904) (hcs:∀y,getP v p=some y->y.str.size+y.str.size+cc.s.size<=140737488355328) (hT:Tabs w):
 uP 16 #[.agg (uU vk vn vs la ll lc oa ol oc), .agg (uC cc)] w (DoPost w (doP v ⟨cc.k,p,cc.key,cc.i,cc.j,cc.n,xv,cc.s⟩)):=by
 delta uU uC uP
 by_cases he:checkP v ⟨cc.k,p,cc.key,cc.i,cc.j,cc.n,xv,cc.s⟩=0
 .obtain ⟨hs,x,_,hkd⟩:=Zu he
  have hk1:=Qq hs
  dsimp only at hk1
  by_cases e1:cc.k=1
  .exact zg9 w vk vn vs la ll lc oa ol oc v hv hw p xv cc hcb hp hxv hxw hT he e1
  by_cases e2:cc.k=2∨cc.k=3
  .exact zn9 w vk vn vs la ll lc oa ol oc v hv hw p xv cc hcb hp hxv hxw hT he e2
  by_cases e3:cc.k=8∨cc.k=9
  .exact zhr w vk vn vs la ll lc oa ol oc v hv hw p xv cc hcb hp hxv hxw hcs hT he e3
  .exact zql w vk vn vs la ll lc oa ol oc v hv hw p xv cc hcb hp hxv hxw hT he (by omega)
 .exact zou w vk vn vs la ll lc oa ol oc v hv hw p xv cc hcb hp hxv hxw hT he
theorem Yc (a b:ByteArray):(a++b).data.toList=a.data.toList++b.data.toList:=by simp
theorem zbf (b:List UInt8):∀(n i:Nat) (a:List UInt8),a.length<=n->Lib.validD a=true->cutsP (a++b).length i (a++b)=cutsP a.length i a++cutsP b.length (i+a.length) b:=by
 intro n
 induction n with
 |zero=>intro i a ha _;obtain rfl:a= [] :=List.length_eq_zero_iff.1 (by omega);simp [cutsP]
 | succ n ih=>
   intro i a ha hv
   by_cases hne:a= []
   .subst hne;simp [cutsP]
   have hw:=Lib.decodeL_width a
   have hf:=J2 hne
   rw [Lib.validD_step a hne] at hv
   by_cases hbad:(Lib.decodeL a).1=65533/\(Lib.decodeL a).2=1
   .rw [if_pos hbad] at hv;cases hv
   rw [if_neg hbad] at hv
   have e:Lib.decodeL (a++b)=Lib.decodeL a:=Kk hbad (by rw [List.length_append];omega) fun i hi=>by
    rw [List.getD_eq_getElem?_getD,List.getD_eq_getElem?_getD,List.getElem?_append_left (by omega)]
   rw [Y8 (show a++b≠ [] by simp [hne]),Y8 hne,e,List.drop_append_of_le_length hf,ih _ _ (by rw [List.length_drop];omega) hv,List.cons_append]
   rw [show i+(Lib.decodeL a).2+(a.drop (Lib.decodeL a).2).length=i+a.length by rw [List.length_drop];omega]
theorem X0 (s:ByteArray):textN s=(cutsP s.data.toList.length 0 s.data.toList).length:=by
 rw [Xw,textN,cuts,List.length_append];simp
theorem zal (f d:Nat) (l:List UInt8):(cutsP f d l).length=(cutsP f 0 l).length:=by
 have:=zdj d f 0 l
 rw [Nat.zero_add] at this
 rw [this,List.length_map]
theorem X7 {a:ByteArray} (b:ByteArray) (h:Lib.validD a.data.toList=true):textN (a++b)=textN a+textN b:=by
 rw [X0,X0,X0,Yc,zbf _ _ _ _ (Nat.le_refl _) h,List.length_append,zal _ (0+_)]
theorem Qp {a:ByteArray} (b:ByteArray) (h:Lib.validD a.data.toList=true):(cuts (a++b)).getD (textN a) 0=a.size:=by
 have hz:(a++b).size=a.size+b.size:=ByteArray.size_append
 rw [cuts, <-Xw (a++b),Yc,zbf _ _ _ _ (Nat.le_refl _) h,List.append_assoc,List.getD_eq_getElem?_getD,List.getElem?_append_right (by rw [X0];omega),X0,Nat.sub_self]
 by_cases hb:b.data.toList= []
 .rw [hb]
  have:=Xw a
  simp [cutsP,this]
 .rw [Y8 hb,List.cons_append]
  have:=Xw a
  simp [this]
theorem zol:∀(i:Nat) (l:List UInt8),Lib.validD l=true->i<=(cutsP l.length 0 l).length->∃a b,l=a++b/\Lib.validD a=true/\Lib.validD b=true/\(cutsP a.length 0 a).length=i:=by
 intro i
 induction i with
 |zero=>intro l hv _;exact ⟨[],l,rfl,rfl,hv,rfl⟩
 | succ i ih=>
   intro l hv hi
   have hne:l≠ [] :=fun e=>by subst e;simp [cutsP] at hi
   have hw:=Lib.decodeL_width l
   have hf:=J2 hne
   have h0:0<l.length:=List.length_pos_iff.2 hne
   rw [Y8 hne,List.length_cons,zal] at hi
   rw [Lib.validD_step l hne] at hv
   by_cases hbad:(Lib.decodeL l).1=65533/\(Lib.decodeL l).2=1
   .rw [if_pos hbad] at hv;cases hv
   rw [if_neg hbad] at hv
   obtain ⟨a,b,h1,h2,h3,h4⟩:=ih _ hv (by omega)
   have e:Lib.decodeL (l.take (Lib.decodeL l).2)=Lib.decodeL l:=Kk hbad (by rw [List.length_take];omega) fun j hj=>by
    rw [List.getD_eq_getElem?_getD,List.getD_eq_getElem?_getD,List.getElem?_take_of_lt hj]
   have hn2:l.take (Lib.decodeL l).2≠ [] :=fun h=>by
    have:=congrArg List.length h
    rw [List.length_take,List.length_nil] at this
    omega
   have hd:(l.take (Lib.decodeL l).2).drop (Lib.decodeL l).2= [] :=List.drop_eq_nil_of_le (by rw [List.length_take];omega)
   have hk:Lib.validD (l.take (Lib.decodeL l).2)=true:=by
    rw [Lib.validD_step _ hn2,e,if_neg hbad,hd];rfl
   refine ⟨l.take (Lib.decodeL l).2++a,b,by rw [List.append_assoc, <-h1,List.take_append_drop],by rw [Qr _ _ _ (Nat.le_refl _) hk];exact h2,h3, ?_⟩
   rw [zbf _ _ _ _ (Nat.le_refl _) hk,List.length_append,zal _ (0+_),h4,Y8 hn2,e,hd]
   simp [cutsP];omega
theorem zbc {s:ByteArray} (hv:Lib.validD s.data.toList=true) {i:Nat} (hi:i<=textN s):∃a b:ByteArray,s=a++b/\Lib.validD a.data.toList=true/\Lib.validD b.data.toList=true/\textN a=i:=by
 rw [X0] at hi
 obtain ⟨a,b,h1,h2,h3,h4⟩:=zol i _ hv hi
 refine ⟨⟨a.toArray⟩,⟨b.toArray⟩,Yz (by rw [Yc];exact h1),h2,h3,by rw [X0];exact h4⟩
theorem ext3 (a m b:ByteArray):(a++m++b).extract 0 a.size=a/\(a++m++b).extract a.size (a++m).size=m/\(a++m++b).extract a.size (a++m++b).size=m++b/\(a++m++b).extract (a++m).size (a++m++b).size=b:=by
 have z1:=Xw a;have z2:=Xw (a++m);have z3:=Xw (a++m++b)
 refine ⟨Yz ?_,Yz ?_,Yz ?_,Yz ?_⟩
 .rw [Xi,Yc,Yc,List.append_assoc, <-z1,List.take_left];rfl
 .rw [Xi,Yc, <-z2,List.take_left,Yc, <-z1,List.drop_left]
 .rw [Xi, <-z3,List.take_length,Yc,Yc,List.append_assoc, <-z1,List.drop_left,Yc]
 .rw [Xi, <-z3,List.take_length,Yc, <-z2,List.drop_left]
theorem zh4 {t s:ByteArray} (ht:Lib.validD t.data.toList=true) (hs:Lib.validD s.data.toList=true) {i:Int} (h0:0<=i) (hi:i<=textN t) (n:Int):
 textDo (textDo t 8 i n s) 9 i (textN s) .empty=t/\partT (textDo t 8 i n s) i (textN s)=s/\textN (textDo t 8 i n s)=textN t+textN s:=by
 obtain ⟨I,rfl⟩:∃I:Nat,i=I:=⟨i.toNat,by omega⟩
 obtain ⟨a,b,rfl,ha,hb,rfl⟩:=zbc ht (i:=I) (by omega)
 have e1:textDo (a++b) 8 (textN a) n s=a++s++b:=by
  have:=ext3 a .empty b
  rw [show a++ByteArray.empty=a from Yz (by rw [Yc];simp)] at this
  unfold textDo
  rw [if_pos rfl,Int.toNat_natCast,Qp b ha,this.1,this.2.2.2]
 have c1:(cuts (a++s++b)).getD (textN a) 0=a.size:=by
  rw [show a++s++b=a++(s++b) from Yz (by simp)];exact Qp _ ha
 have has:Lib.validD (a++s).data.toList=true:=by rw [Yc,Qr _ _ _ (Nat.le_refl _) ha];exact hs
 have c2:(cuts (a++s++b)).getD (textN a+textN s) 0=(a++s).size:=by
  rw [<-X7 s ha];exact Qp _ has
 obtain ⟨x1,x2,x3,x4⟩:=ext3 a s b
 rw [e1]
 refine ⟨?_, ?_, ?_⟩
 .unfold textDo
  rw [if_neg (by decide), <-Int.natCast_add,Int.toNat_natCast,Int.toNat_natCast,c1,c2,x1,x4]
 .unfold partT
  rw [<-Int.natCast_add,Int.toNat_natCast,Int.toNat_natCast,c1,c2,x2]
 .rw [X7 b has,X7 s ha,X7 b ha];omega
theorem zp8 {t:ByteArray} (ht:Lib.validD t.data.toList=true) {i n:Int} (h0:0<=i) (h1:1<=n) (hi:i+n<=textN t) (k:Int):
 textDo (textDo t 9 i n .empty) 8 i k (partT t i n)=t/\(textN (partT t i n):Int)=n/\i<=textN (textDo t 9 i n .empty)/\Lib.validD (partT t i n).data.toList=true:=by
 obtain ⟨I,rfl⟩:∃I:Nat,i=I:=⟨i.toNat,by omega⟩
 obtain ⟨J,rfl⟩:∃J:Nat,n=J:=⟨n.toNat,by omega⟩
 obtain ⟨am,b,rfl,ham,hb,hN⟩:=zbc ht (i:=I+J) (by omega)
 obtain ⟨a,m,rfl,ha,hm,rfl⟩:=zbc ham (i:=I) (by omega)
 have hJ:textN m=J:=by rw [X7 m ha] at hN;omega
 subst hJ
 have c1:(cuts (a++m++b)).getD (textN a) 0=a.size:=by
  rw [show a++m++b=a++(m++b) from Yz (by simp)];exact Qp _ ha
 have c2:(cuts (a++m++b)).getD (textN a+textN m) 0=(a++m).size:=by
  rw [<-X7 m ha];exact Qp _ ham
 obtain ⟨x1,x2,x3,x4⟩:=ext3 a m b
 have e1:textDo (a++m++b) 9 (textN a) (textN m) .empty=a++b:=by
  unfold textDo
  rw [if_neg (by decide), <-Int.natCast_add,Int.toNat_natCast,Int.toNat_natCast,c1,c2,x1,x4]
 have e2:partT (a++m++b) (textN a) (textN m)=m:=by
  unfold partT
  rw [<-Int.natCast_add,Int.toNat_natCast,Int.toNat_natCast,c1,c2,x2]
 rw [e1,e2]
 refine ⟨?_,rfl,by rw [X7 b ha];omega,hm⟩
 have:=ext3 a .empty b
 rw [show a++ByteArray.empty=a from Yz (by rw [Yc];simp)] at this
 unfold textDo
 rw [if_pos rfl,Int.toNat_natCast,Qp b ha,this.1,this.2.2.2]
theorem zdw {key:ByteArray} {a r:List (ByteArray×V)} (h:∀f ∈ a,Op.bytesLess f.1.toList key.toList=true) (hr:∀f,r[0]? =some f->Op.bytesLess f.1.toList key.toList=false):fieldK (a++r) key=a.length:=by
 refine Qd _ _ _ (fun i hi hij=> ?_) (by rw [List.length_append];omega) ?_
 .rw [List.getElem_append_left hij];exact h _ (List.getElem_mem _)
 .cases r with
  |nil=>exact .inl (by simp)
  |cons f r=>exact .inr ⟨by simp,by rw [List.getElem_append_right (Nat.le_refl _)];simpa using hr f rfl⟩
theorem zha (x:List UInt8):Op.bytesLess x x=false:=by
 cases h:Op.bytesLess x x with
 |false=>rfl
 |true=>exact absurd rfl (X8 _ _ h).2
theorem zcx (o:List (ByteArray×V)) (key:ByteArray):∀f ∈ o.take (fieldK o key),Op.bytesLess f.1.toList key.toList=true:=fun f hf=>by
 have hp:o.takeWhile (fun f=>Op.bytesLess f.1.toList key.toList)=o.take (fieldK o key):=List.prefix_iff_eq_take.1 (List.takeWhile_prefix _)
 rw [<-hp] at hf
 have:=List.all_takeWhile (p:=fun f:ByteArray×V=>Op.bytesLess f.1.toList key.toList) (l:=o)
 exact List.all_eq_true.1 this f hf
theorem zap (o:List (ByteArray×V)) (key:ByteArray) (v:V):fieldK (withF o key v) key=fieldK o key/\fieldIs (withF o key v) key=true/\(withF o key v).getD (fieldK o key) (.empty,V.none)=(key,v):=by
 have hl:(o.take (fieldK o key)).length=fieldK o key:=by rw [List.length_take,Nat.min_eq_left (Z7 o key)]
 have hk:fieldK (withF o key v) key=fieldK o key:=by
  rw [withF,zdw (zcx o key) (fun f hf=>by simp at hf;subst hf;exact zha _),hl]
 have hg:(withF o key v)[fieldK o key]? =some (key,v):=by
  rw [withF,List.getElem?_append_right (by omega),hl,Nat.sub_self];rfl
 refine ⟨hk, ?_,by rw [List.getD_eq_getElem?_getD,hg];rfl⟩
 unfold fieldIs
 rw [hk,hg];simp
theorem zef (o:List (ByteArray×V)) (key:ByteArray) (v:V):(withF o key v).take (fieldK o key)=o.take (fieldK o key)/\(withF o key v).drop (fieldK o key+1)=o.drop (if fieldIs o key=true then fieldK o key+1 else fieldK o key):=by
 have hl:(o.take (fieldK o key)).length=fieldK o key:=by rw [List.length_take,Nat.min_eq_left (Z7 o key)]
 unfold withF
 refine ⟨List.take_left' hl, ?_⟩
 rw [<-List.drop_drop,List.drop_left' hl];rfl
theorem zdt {o:List (ByteArray×V)} {key:ByteArray} (h:fieldIs o key=true):o.drop (fieldK o key)=(key,(o.getD (fieldK o key) (.empty,V.none)).2)::o.drop (fieldK o key+1):=by
 have hk:=Z8 h
 have h1:=zf6 (zfh h)
 rw [List.drop_eq_getElem_cons hk]
 have h2:o[fieldK o key] =o.getD (fieldK o key) (.empty,V.none):=by rw [List.getD_eq_getElem?_getD,List.getElem?_eq_getElem hk];rfl
 rw [h2]
 congr 1
 exact Prod.ext h1 rfl
theorem zo8 {o:List (ByteArray×V)} {key:ByteArray} (v:V) (h:fieldIs o key=true):withF (withF o key v) key (o.getD (fieldK o key) (.empty,V.none)).2=o:=by
 obtain ⟨h1,h2,h3⟩:=zap o key v
 obtain ⟨t1,t2⟩:=zef o key v
 rw [withF,h1,h2,if_pos rfl,t1,t2,if_pos h, <-zdt h,List.take_append_drop]
theorem zmi {o:List (ByteArray×V)} {key:ByteArray} (v:V) (h:fieldIs o key=false):remF (withF o key v) key=o:=by
 obtain ⟨h1,h2,h3⟩:=zap o key v
 obtain ⟨t1,t2⟩:=zef o key v
 rw [remF,h1,h2,if_pos rfl,t1,t2,if_neg (by rw [h];decide),List.take_append_drop]
theorem zct {o:List (ByteArray×V)} {key:ByteArray} (hr:rising o=true) (h:fieldIs o key=true):fieldK (remF o key) key=fieldK o key/\fieldIs (remF o key) key=false:=by
 have hl:(o.take (fieldK o key)).length=fieldK o key:=by rw [List.length_take,Nat.min_eq_left (Z7 o key)]
 have hkl:=Z8 h
 have hn:∀f,o[fieldK o key+1]? =some f->Op.bytesLess f.1.toList key.toList=false/\f.1.toList≠key.toList:=fun f hf=>by
  have h1:=X2.1 hr _ _ _ (List.getElem?_eq_getElem hkl) hf
  have h2:o[fieldK o key].1.toList=key.toList:=by
   have:=zfh h
   rwa [List.getD_eq_getElem?_getD,List.getElem?_eq_getElem hkl] at this
  rw [h2] at h1
  exact ⟨(X8 _ _ h1).1,fun e=>(X8 _ _ h1).2 e.symm⟩
 have hk:fieldK (remF o key) key=fieldK o key:=by
  rw [remF,if_pos h,zdw (zcx o key) (fun f hf=> ?_),hl]
  rw [List.getElem?_drop,Nat.add_zero] at hf
  exact (hn f hf).1
 refine ⟨hk, ?_⟩
 have hg:(remF o key)[fieldK o key]? =o[fieldK o key+1]? :=by
  rw [remF,if_pos h,List.getElem?_append_right (by omega),hl,Nat.sub_self,List.getElem?_drop,Nat.add_zero]
 unfold fieldIs
 rw [hk,hg]
 cases hq:o[fieldK o key+1]? with
 |none=>rfl
 |some f=>simpa using (hn f hq).2
theorem zkk {o:List (ByteArray×V)} {key:ByteArray} (hr:rising o=true) (h:fieldIs o key=true):withF (remF o key) key (o.getD (fieldK o key) (.empty,V.none)).2=o:=by
 have hl:(o.take (fieldK o key)).length=fieldK o key:=by rw [List.length_take,Nat.min_eq_left (Z7 o key)]
 obtain ⟨h1,h2⟩:=zct hr h
 rw [withF,h1,h2,if_neg (by decide),remF,if_pos h,List.take_left' hl,List.drop_left' hl, <-zdt h,List.take_append_drop]
theorem zc0 {α:Type} (l:List α) {i:Nat} (h:i<=l.length) (x d:α):remL (insL l i x) i=l/\(insL l i x).getD i d=x/\(insL l i x).length=l.length+1:=by
 have hl:(l.take i).length=i:=by rw [List.length_take,Nat.min_eq_left h]
 refine ⟨?_, ?_, ?_⟩
 .unfold remL insL
  rw [List.take_left' hl, <-List.drop_drop,List.drop_left' hl];simp
 .unfold insL
  rw [List.getD_eq_getElem?_getD,List.getElem?_append_right (by omega),hl,Nat.sub_self];rfl
 .unfold insL;simp;omega
theorem zc8 {α:Type} (l:List α) {i:Nat} (h:i<l.length) (d:α):insL (remL l i) i (l.getD i d)=l/\(remL l i).length+1=l.length:=by
 have hl:(l.take i).length=i:=by rw [List.length_take];omega
 refine ⟨?_,by unfold remL;simp;omega⟩
 unfold insL remL
 rw [List.take_left' hl,List.drop_left' hl,List.getD_eq_getElem?_getD,List.getElem?_eq_getElem h]
 show l.take i++l[i] ::l.drop (i+1)=l
 rw [<-List.drop_eq_getElem_cons h,List.take_append_drop]
theorem zin {α:Type} (l:List α) {i:Nat} (h:i<l.length) (x d:α):(l.set i x).set i (l.getD i d)=l/\(l.set i x).getD i d=x:=by
 refine ⟨?_,by simp [h]⟩
 rw [List.set_set,List.getD_eq_getElem?_getD,List.getElem?_eq_getElem h]
 exact List.set_getElem_self h
theorem zml {v:V} {s:St} {y:V} (z:V) {k:Nat} (h:stepP v s=some (y,k)):(if s.list=true then (if s.list=true then v.setL k z else v.setO k z).setL k y else (if s.list=true then v.setL k z else v.setO k z).setO k y)=v:=by
 obtain ⟨kk,n,t,l,o,rfl⟩:=v.eta
 rcases Yy h with ⟨h1,_,_,hk,h2⟩|⟨h1,_,_,hk,h2⟩
 .rw [if_pos h1,if_pos h1]
  have hk:k<l.length:=hk
  have h2:l[k] =y:=h2
  show V.mk kk n t ((l.set k z).set k y) o=V.mk kk n t l o
  rw [List.set_set, <-h2,List.set_getElem_self]
 .rw [if_neg (by rw [h1];decide),if_neg (by rw [h1];decide)]
  have hk:k<o.length:=hk
  have h2:o[k].2=y:=h2
  show V.mk kk n t l (putO (putO o k z) k y)=V.mk kk n t l o
  unfold putO
  rw [List.set_set]
  have e:(o.set k ((o.getD k (.empty,V.none)).1,z)).getD k (.empty,V.none)=((o.getD k (.empty,V.none)).1,z):=by
   rw [List.getD_eq_getElem?_getD,List.getElem?_set_self hk];rfl
  rw [e,List.getD_eq_getElem?_getD,List.getElem?_eq_getElem hk, <-h2]
  show V.mk kk n t l (o.set k o[k])=_
  rw [List.set_getElem_self]
theorem zow (p:List St):∀ {v x y w:V},getP v p=some x->putP v p y=some w->getP w p=some y/\putP w p x=some v:=by
 induction p with
 | nil=>
   intro v x y w h g
   simp only [getP,putP,Option.some.injEq] at h g
   subst h g
   exact ⟨rfl,rfl⟩
 | cons s r ih=>
   intro v x y w h g
   unfold getP at h
   unfold putP at g
   cases hs:stepP v s with
   |none=>rw [hs] at h;cases h
   | some q=>
     obtain ⟨u,k⟩:=q
     rw [hs] at h g
     dsimp only at h g
     cases hz:putP u r y with
     |none=>rw [hz] at g;cases g
     | some z=>
       rw [hz] at g
       dsimp only at g
       injection g with g
       obtain ⟨i1,i2⟩:=ih h hz
       have hs2:stepP w s=some (z,k):=by rw [<-g];exact zk1 hs
       unfold getP putP
       rw [hs2]
       dsimp only
       rw [i2]
       dsimp only
       refine ⟨i1, ?_⟩
       rw [<-g,zml z hs]
theorem zdn {n:Int} {s:ByteArray} {a b:Nat} (h:plainB 3 n s a b=true):Lib.validD s.data.toList=true:=by
 have:(n==0 && Lib.validD s.data.toList && a==0 && b==0)=true:=h
 simp only [Bool.and_eq_true] at this
 exact this.1.1.2
theorem zmw {n m:Int} (hn: -9223372036854775808<=n/\n<=9223372036854775807):wrap64 (wrap64 (n+m)+wrap64 (-m))=n:=by unfold wrap64;omega
theorem zpq {n:Int} (h: -9223372036854775808<=n/\n<=9223372036854775807):wrap64 (-(wrap64 (-n)))=n:=by unfold wrap64;omega
theorem zg0 {x:V} {c:Cm} (hx:x.sound=true) (hn: -9223372036854775808<=x.nm/\x.nm<=9223372036854775807) (hc:cmSound c=true) (hcn: -9223372036854775808<=c.n/\c.n<=9223372036854775807) (hk:kindsP x c.k c.i c.j c.n c.key=0):
 kindsP (doneP x c) (turnP x c).k (turnP x c).i (turnP x c).j (turnP x c).n (turnP x c).key=0/\doneP (doneP x c) (turnP x c)=x/\turnP (doneP x c) (turnP x c)=c:=by
 obtain ⟨k,path,key,i,j,n,v,s⟩:=c
 obtain ⟨xk,xn,xs,xl,xo,rfl⟩:=x.eta
 have hb:=hc
 unfold cmSound at hb
 simp only [Bool.and_eq_true] at hb
 obtain ⟨⟨⟨⟨⟨⟨⟨⟨⟨⟨⟨hk9,hbr⟩,hps⟩,hv1⟩,hv2⟩,hi0⟩,hj0⟩,h8⟩,h9⟩,hvs⟩,hd⟩,hw⟩:=hb
 have hi1:0<=i:=by simpa using hi0
 have hj1:0<=j:=by simpa using hj0
 obtain ⟨b1,b2,b3,b4,b5,b6⟩:=zbw hbr
 have hkk:=Qq hc
 dsimp only at b1 b2 b3 b4 b5 b6 hkk hv1 hv2 h8 h9 hcn
 obtain ⟨p1,p2,p3,p4⟩:=Zy.1 hx
 have hn: -9223372036854775808<=xn/\xn<=9223372036854775807:=hn
 have hkx:kindsP (.mk xk xn xs xl xo) k i j n key=0:=hk
 unfold kindsP at hkx
 have e1:(V.mk xk xn xs xl xo).kd=xk:=rfl
 have e2:(V.mk xk xn xs xl xo).nm=xn:=rfl
 have e3:(V.mk xk xn xs xl xo).str=xs:=rfl
 have e4:(V.mk xk xn xs xl xo).ls=xl:=rfl
 have e5:(V.mk xk xn xs xl xo).os=xo:=rfl
 rw [e1,e3,e4,e5] at hkx
 have hcase:k=1∨k=2∨k=3∨k=4∨k=5∨k=6∨k=7∨k=8∨k=9:=by omega
 clear hc hps hbr hk9 hd hw hk hvs
 rcases hcase with rfl|rfl|rfl|rfl|rfl|rfl|rfl|rfl|rfl
 .obtain rfl:=b1 rfl;obtain rfl:=b2 rfl;obtain rfl:=b3 rfl;obtain rfl:=b5 rfl;obtain rfl:=b6 rfl
  rw [if_pos rfl] at hkx
  have hx2:xk=2:=by by_cases h:xk=2;exact h;rw [if_pos h] at hkx;cases hkx
  subst hx2
  refine ⟨rfl, ?_, ?_⟩
  .show V.mk 2 (wrap64 (wrap64 (xn+n)+wrap64 (-n))) xs xl xo=_
   rw [zmw (n:=xn) hn]
  .show (⟨1,path, .empty,0,0,wrap64 (-(wrap64 (-n))),V.none, .empty⟩:Cm)=_
   rw [zpq hcn]
 .obtain rfl:=b2 rfl;obtain rfl:=b3 rfl;obtain rfl:=b4 rfl;obtain rfl:=b6 rfl
  rw [if_neg (by decide),if_pos (by decide)] at hkx
  have hx2:xk=5:=by by_cases h:xk=5;exact h;rw [if_pos h] at hkx;cases hkx
  subst hx2
  have ed:doneP (.mk 5 xn xs xl xo) ⟨2,path,key,0,0,0,v, .empty⟩= .mk 5 xn xs xl (withF xo key v):=by
   show V.mk 5 xn xs xl (fieldsDo xo key v false)=_
   rw [Xo p2];rfl
  have hr:rising (withF xo key v)=true:=zaz key v p2
  obtain ⟨f1,f2,f3⟩:=zap xo key v
  rw [ed]
  cases hf:fieldIs xo key with
  | true=>
    have et:turnP (.mk 5 xn xs xl xo) ⟨2,path,key,0,0,0,v, .empty⟩=⟨2,path,key,0,0,0,(xo.getD (fieldK xo key) (.empty,V.none)).2, .empty⟩:=by
     show (if fieldIs xo key=true then _ else _)=_
     rw [if_pos hf];rfl
    rw [et]
    refine ⟨rfl, ?_, ?_⟩
    .show V.mk 5 xn xs xl (fieldsDo (withF xo key v) key _ false)=_
     rw [Xo hr]
     show V.mk 5 xn xs xl (withF _ _ _)=_
     rw [zo8 v hf]
    .show (if fieldIs (withF xo key v) key=true then _ else _)=_
     rw [if_pos f2]
     show (⟨2,path,key,0,0,0,((withF xo key v).getD (fieldK (withF xo key v) key) (.empty,V.none)).2, .empty⟩:Cm)=_
     rw [f1,f3]
  | false=>
    have et:turnP (.mk 5 xn xs xl xo) ⟨2,path,key,0,0,0,v, .empty⟩=⟨3,path,key,0,0,0,V.none, .empty⟩:=by
     show (if fieldIs xo key=true then _ else _)=_
     rw [if_neg (by rw [hf];decide)]
    rw [et]
    refine ⟨?_, ?_, ?_⟩
    .show (if ((3:Int)=3/\fieldIs (withF xo key v) key=false) then (33:Int) else 0)=0
     rw [if_neg (by rw [f2];decide)]
    .show V.mk 5 xn xs xl (fieldsDo (withF xo key v) key _ true)=_
     rw [Xo hr]
     show V.mk 5 xn xs xl (remF _ _)=_
     rw [zmi v hf]
    .show (if fieldIs (withF xo key v) key=true then _ else _)=_
     rw [if_pos f2]
     show (⟨2,path,key,0,0,0,((withF xo key v).getD (fieldK (withF xo key v) key) (.empty,V.none)).2, .empty⟩:Cm)=_
     rw [f1,f3]
 .obtain rfl:=b2 rfl;obtain rfl:=b3 rfl;obtain rfl:=b4 rfl;obtain rfl:=b5 rfl;obtain rfl:=b6 rfl
  rw [if_neg (by decide),if_pos (by decide)] at hkx
  have hx2:xk=5:=by by_cases h:xk=5;exact h;rw [if_pos h] at hkx;cases hkx
  subst hx2
  rw [if_neg (by decide)] at hkx
  have hf:fieldIs xo key=true:=by
   cases h:fieldIs xo key with
   |true=>rfl
   |false=>rw [if_pos ⟨rfl,h⟩] at hkx;cases hkx
  have ed:doneP (.mk 5 xn xs xl xo) ⟨3,path,key,0,0,0,V.none, .empty⟩= .mk 5 xn xs xl (remF xo key):=by
   show V.mk 5 xn xs xl (fieldsDo xo key _ true)=_
   rw [Xo p2];rfl
  have hr:rising (remF xo key)=true:=zd4 key V.none true p2
  obtain ⟨f1,f2⟩:=zct p2 hf
  have et:turnP (.mk 5 xn xs xl xo) ⟨3,path,key,0,0,0,V.none, .empty⟩=⟨2,path,key,0,0,0,(xo.getD (fieldK xo key) (.empty,V.none)).2, .empty⟩:=by
   show (if fieldIs xo key=true then _ else _)=_
   rw [if_pos hf];rfl
  rw [ed,et]
  refine ⟨rfl, ?_, ?_⟩
  .show V.mk 5 xn xs xl (fieldsDo (remF xo key) key _ false)=_
   rw [Xo hr]
   show V.mk 5 xn xs xl (withF _ _ _)=_
   rw [zkk p2 hf]
  .show (if fieldIs (remF xo key) key=true then _ else _)=_
   rw [if_neg (by rw [f2];decide)]
 all_goals rw [if_neg (by decide),if_neg (by decide)] at hkx
 .obtain rfl:=b1 rfl;obtain rfl:=b3 rfl;obtain rfl:=b4 rfl;obtain rfl:=b6 rfl
  rw [if_neg (by decide)] at hkx
  have hx2:xk=4:=by by_cases h:xk=4;exact h;rw [if_pos h] at hkx;cases hkx
  subst hx2
  rw [if_neg (by decide),lCheck,if_neg (by decide)] at hkx
  have hil:i<=xl.length:=by
   by_cases h:i<=xl.length
   .exact h
   .rw [if_pos (by omega)] at hkx;cases hkx
  obtain ⟨i1,i2,i3⟩:=zc0 xl (i:=i.toNat) (by omega) v V.none
  refine ⟨?_, ?_, ?_⟩
  .show lCheck (insL xl i.toNat v).length 5 i 0=0
   rw [i3,lCheck,if_neg (by decide),if_neg (by omega),if_neg (by omega)]
  .show V.mk 4 xn xs (remL (insL xl i.toNat v) i.toNat) xo=_
   rw [i1]
  .show (⟨4,path, .empty,i,0,0,(insL xl i.toNat v).getD i.toNat V.none, .empty⟩:Cm)=_
   rw [i2]
 .obtain rfl:=b1 rfl;obtain rfl:=b3 rfl;obtain rfl:=b4 rfl;obtain rfl:=b5 rfl;obtain rfl:=b6 rfl
  rw [if_neg (by decide)] at hkx
  have hx2:xk=4:=by by_cases h:xk=4;exact h;rw [if_pos h] at hkx;cases hkx
  subst hx2
  rw [if_neg (by decide),lCheck,if_neg (by decide)] at hkx
  have hil:i<xl.length:=by
   by_cases h:i<xl.length
   .exact h
   .rw [if_pos (by omega)] at hkx;cases hkx
  obtain ⟨i1,i2⟩:=zc8 xl (i:=i.toNat) (by omega) V.none
  refine ⟨?_, ?_,rfl⟩
  .show lCheck (remL xl i.toNat).length 4 i 0=0
   rw [lCheck,if_neg (by decide),if_neg (by omega),if_neg (by omega)]
  .show V.mk 4 xn xs (insL (remL xl i.toNat) i.toNat (xl.getD i.toNat V.none)) xo=_
   rw [i1]
 .obtain rfl:=b1 rfl;obtain rfl:=b3 rfl;obtain rfl:=b4 rfl;obtain rfl:=b6 rfl
  rw [if_neg (by decide)] at hkx
  have hx2:xk=4:=by by_cases h:xk=4;exact h;rw [if_pos h] at hkx;cases hkx
  subst hx2
  rw [if_neg (by decide),lCheck,if_neg (by decide)] at hkx
  have hil:i<xl.length:=by
   by_cases h:i<xl.length
   .exact h
   .rw [if_pos (by omega)] at hkx;cases hkx
  obtain ⟨i1,i2⟩:=zin xl (i:=i.toNat) (by omega) v V.none
  refine ⟨?_, ?_, ?_⟩
  .show lCheck (xl.set i.toNat v).length 6 i 0=0
   rw [List.length_set,lCheck,if_neg (by decide),if_neg (by omega),if_neg (by omega)]
  .show V.mk 4 xn xs ((xl.set i.toNat v).set i.toNat (xl.getD i.toNat V.none)) xo=_
   rw [i1]
  .show (⟨6,path, .empty,i,0,0,(xl.set i.toNat v).getD i.toNat V.none, .empty⟩:Cm)=_
   rw [i2]
 .obtain rfl:=b1 rfl;obtain rfl:=b4 rfl;obtain rfl:=b5 rfl;obtain rfl:=b6 rfl
  rw [if_neg (by decide)] at hkx
  have hx2:xk=4:=by by_cases h:xk=4;exact h;rw [if_pos h] at hkx;cases hkx
  subst hx2
  rw [if_neg (by decide),lCheck,if_neg (by decide)] at hkx
  have hil:i<xl.length:=by
   by_cases h:i<xl.length
   .exact h
   .rw [if_pos (by omega)] at hkx;cases hkx
  rw [if_neg (by omega)] at hkx
  have hjl:j<xl.length:=by
   by_cases h:j<xl.length
   .exact h
   .rw [if_pos (by omega)] at hkx;cases hkx
  obtain ⟨i1,i2⟩:=zc8 xl (i:=i.toNat) (by omega) V.none
  obtain ⟨j1,j2,j3⟩:=zc0 (remL xl i.toNat) (i:=j.toNat) (by omega) (xl.getD i.toNat V.none) V.none
  refine ⟨?_, ?_,rfl⟩
  .show lCheck (insL (remL xl i.toNat) j.toNat (xl.getD i.toNat V.none)).length 7 j i=0
   rw [lCheck,if_neg (by decide),if_neg (by omega),if_neg (by omega)]
  .show V.mk 4 xn xs (insL (remL (insL (remL xl i.toNat) j.toNat (xl.getD i.toNat V.none)) j.toNat) i.toNat ((insL (remL xl i.toNat) j.toNat (xl.getD i.toNat V.none)).getD j.toNat V.none)) xo=_
   rw [j1,j2,i1]
 .obtain rfl:=b1 rfl;obtain rfl:=b3 rfl;obtain rfl:=b4 rfl;obtain rfl:=b5 rfl
  rw [if_pos (by decide)] at hkx
  have hx2:xk=3:=by by_cases h:xk=3;exact h;rw [if_pos h] at hkx;cases hkx
  subst hx2
  rw [if_neg (by decide),tCheck,if_neg (by decide)] at hkx
  have hil:i<=textN xs:=by
   by_cases h:i<=textN xs
   .exact h
   .rw [if_pos (by omega)] at hkx;cases hkx
  have hxs:Lib.validD xs.data.toList=true:=by
   exact zdn p1
  obtain ⟨t1,t2,t3⟩:=zh4 hxs hv2 hi1 hil 0
  have hs0:1<=textN s:=by
   have hne:s.data.toList≠ [] :=fun e=>by
    have:s.toList= [] :=by rw [ByteArray.toList_eq];exact e
    rw [this] at h8;revert h8;decide
   rw [X0,Y8 hne];simp
  refine ⟨?_, ?_, ?_⟩
  .show tCheck (textDo xs 8 i 0 s) 9 i (textN s)=0
   rw [tCheck,if_neg (by decide),t3,if_neg (by omega),if_neg (by omega)]
  .show V.mk 3 xn (textDo (textDo xs 8 i 0 s) 9 i (textN s) .empty) xl xo=_
   rw [t1]
  .show (⟨8,path, .empty,i,0,0,V.none,partT (textDo xs 8 i 0 s) i (textN s)⟩:Cm)=_
   rw [t2]
 .obtain rfl:=b1 rfl;obtain rfl:=b3 rfl;obtain rfl:=b5 rfl;obtain rfl:=b6 rfl
  rw [if_pos (by decide)] at hkx
  have hx2:xk=3:=by by_cases h:xk=3;exact h;rw [if_pos h] at hkx;cases hkx
  subst hx2
  rw [if_neg (by decide),tCheck,if_neg (by decide)] at hkx
  have hil:i<=textN xs:=by
   by_cases h:i<=textN xs
   .exact h
   .rw [if_pos (by omega)] at hkx;cases hkx
  rw [if_neg (by omega)] at hkx
  have hnl:1<=n/\i+n<=textN xs:=by
   by_cases h:1<=n/\i+n<=textN xs
   .exact h
   .rw [if_pos (by omega)] at hkx;cases hkx
  have hxs:Lib.validD xs.data.toList=true:=by
   exact zdn p1
  obtain ⟨t1,t2,t3,t4⟩:=zp8 hxs hi1 hnl.1 hnl.2 0
  refine ⟨?_, ?_, ?_⟩
  .show tCheck (textDo xs 9 i n .empty) 8 i 0=0
   rw [tCheck,if_neg (by decide),if_neg (by omega),if_neg (by omega)]
  .show V.mk 3 xn (textDo (textDo xs 9 i n .empty) 8 i 0 (partT xs i n)) xl xo=_
   rw [t1]
  .show (⟨9,path, .empty,i,0,(textN (partT xs i n):Int),V.none, .empty⟩:Cm)=_
   rw [t2]
inductive V.Her (P:Int->Prop) (K:ByteArray->Prop):V->Prop
 |mk (k n:Int) (s:ByteArray) (l:List V) (o:List (ByteArray×V)) (hn:P n) (hl:∀x ∈ l,V.Her P K x) (hk:∀f ∈ o,K f.1) (ho:∀f ∈ o,V.Her P K f.2):V.Her P K (.mk k n s l o)
variable {P:Int->Prop} {K:ByteArray->Prop}
theorem V.Her.nm {v:V} (h:V.Her P K v):P v.nm:=by cases h with|mk k n s l o hn hl hk ho=>exact hn
theorem V.Her.ls {v:V} (h:V.Her P K v):∀x ∈ v.ls,V.Her P K x:=by cases h with|mk k n s l o hn hl hk ho=>exact hl
theorem V.Her.os {v:V} (h:V.Her P K v):∀f ∈ v.os,K f.1/\V.Her P K f.2:=by cases h with|mk k n s l o hn hl hk ho=>exact fun f hf=>⟨hk f hf,ho f hf⟩
theorem zbp {v:V} {s:St} {x:V} {k:Nat} (hv:V.Her P K v) (h:stepP v s=some (x,k)):V.Her P K x:=by
 rcases Yy h with ⟨_,_,_,hk,rfl⟩|⟨_,_,_,hk,rfl⟩
 .exact hv.ls _ (List.getElem_mem _)
 .exact (hv.os _ (List.getElem_mem _)).2
theorem zff (p:List St):∀ {v x:V},V.Her P K v->getP v p=some x->V.Her P K x:=by
 induction p with
 |nil=>intro v x hv h;injection h with h;exact h ▸ hv
 | cons s r ih=>
   intro v x hv h
   unfold getP at h
   cases hs:stepP v s with
   |none=>rw [hs] at h;cases h
   | some q=>
     obtain ⟨y,k⟩:=q
     rw [hs] at h
     exact ih (zbp hv hs) h
abbrev V.Nums:V->Prop:=V.Her (fun n=> -9223372036854775808<=n/\n<=9223372036854775807) (fun _=>True)
theorem V.Num.nums {v:V} (h:v.Num):v.Nums:=by
 induction h with
 | mk k n s l o h0 h1 hl ho ihl iho=>
   refine .mk _ _ _ _ _ ⟨h0,h1⟩ (fun x hx=> ?_) (fun _ _=>trivial) (fun f hf=> ?_)
   .obtain ⟨i,hi,rfl⟩:=List.getElem_of_mem hx;exact ihl i hi
   .obtain ⟨i,hi,rfl⟩:=List.getElem_of_mem hf;exact iho i hi
theorem Ka (x:V) (c:Cm):(turnP x c).path=c.path:=by unfold turnP;(repeat' split)<;>rfl
def Cm.Nums (c:Cm):Prop:=(-9223372036854775808<=c.n/\c.n<=9223372036854775807)/\c.v.Nums
theorem za9 {v:V} {c d:Cm} (hv:v.sound=true) (hn:v.Nums) (hc:c.Nums) (h:turnedP v c=(d,0)):(doP v c).2=0/\doP (doP v c).1 d=(v,0)/\turnedP (doP v c).1 d=(c,0):=by
 obtain ⟨h1,x,hg,rfl,hs⟩:=J9 h
 obtain ⟨hcs,x',hg',hk⟩:=Zu h1
 rw [hg] at hg'
 obtain rfl:=Option.some.inj hg'
 obtain ⟨w,hw⟩:=Yn c.path hg (doneP x c)
 obtain ⟨g1,g2⟩:=zow c.path hg hw
 have e:doP v c=(w,0):=by rw [Yt h1 hg,hw];rfl
 obtain ⟨k1,k2,k3⟩:=zg0 (Kd _ hv hg) (zff _ hn hg).nm hcs hc.1 hk
 have hck:checkP w (turnP x c)=0:=Xe hs (by rw [Ka];exact g1) k1
 rw [e]
 refine ⟨rfl, ?_, ?_⟩
 .rw [Yt hck (by rw [Ka];exact g1),k2,Ka,g2];rfl
 .unfold turnedP
  rw [if_pos hck,Ka,g1,Option.getD_some,k3,if_pos hcs]
end Go.Proofs.YtnjgbiachcfigaaGreatDoor
