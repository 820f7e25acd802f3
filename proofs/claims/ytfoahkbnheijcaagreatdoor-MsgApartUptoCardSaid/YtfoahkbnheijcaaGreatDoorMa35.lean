/-
  Contracts of the functions that the law reaches: conciliatorref06.Do: a text..
-/
import Derived.Test.YtfoahkbnheijcaaGreatDoorMa34
namespace Go.Proofs.YtfoahkbnheijcaaGreatDoor
open Go.RowKit
set_option maxHeartbeats 8000000
set_option maxRecDepth 100000 in
theorem znd (w:World) (vk vn:Int) (vs:ByteArray) (la:Option Addr) (ll lc:Nat) (oa:Option Addr) (ol oc:Nat) (v:V) (hv:IsVal w w.heap.size v ⟨vk,vn,vs,la,ll,lc,oa,ol,oc⟩) (hw:v.weight<=100000000) (p:List St) (xv:V) (cc:CC) (hcb:cc.Bnd) (hp:IsSteps w w.heap.size p cc.pa cc.pl cc.pc) (hxv:IsVal w w.heap.size xv cc.v) (hxw:xv.weight<=100000000) (hcs:cc.s.size<=1000000000000) (hT:Tabs w) (he:checkP v ⟨cc.k,p,cc.key,cc.i,cc.j,cc.n,xv,cc.s⟩=0) (hk:cc.k=8∨cc.k=9):
 Calls Tryz.prog 22 #[.agg #[.int .u8 vk, .int .i64 vn, .string vs, .slice la ll lc, .slice oa ol oc], .agg #[.int .u8 cc.k, .slice cc.pa cc.pl cc.pc, .string cc.key, .int .i64 cc.i, .int .i64 cc.j, .int .i64 cc.n, .int .u8 cc.v.k, .int .i64 cc.v.n, .string cc.v.s, .slice cc.v.la cc.v.ll cc.v.lc, .slice cc.v.oa cc.v.ol cc.v.oc, .string cc.s]] w (DoPost w (doP v ⟨cc.k,p,cc.key,cc.i,cc.j,cc.n,xv,cc.s⟩)):=by
 obtain ⟨_,x,hg,hkd⟩:=Xc he
 dsimp only at hg hkd
 have hxw2:=Xv p hg
 have HCK:Hid (∀W,Below w.heap.size w W->Calls Tryz.prog 61 #[.agg #[.int .u8 vk, .int .i64 vn, .string vs, .slice la ll lc, .slice oa ol oc], .agg #[.int .u8 cc.k, .slice cc.pa cc.pl cc.pc, .string cc.key, .int .i64 cc.i, .int .i64 cc.j, .int .i64 cc.n, .int .u8 cc.v.k, .int .i64 cc.v.n, .string cc.v.s, .slice cc.v.la cc.v.ll cc.v.lc, .slice cc.v.oa cc.v.ol cc.v.oc, .string cc.s]] W fun e w'=>e= .returned (.int .i64 0)/\Below W.heap.size W w'):=fun W hW=>by
  have:=Ji W vk vn vs la ll lc oa ol oc v (hv.later_ hW) (by omega) p xv cc hcb (hp.later_ hW) (hxv.later_ hW) (by omega) (hT.below hW)
  rw [he] at this;exact this
 have HGT:Hid (∀W,Below w.heap.size w W->Calls Tryz.prog 51 #[.agg #[.int .u8 vk, .int .i64 vn, .string vs, .slice la ll lc, .slice oa ol oc], .slice cc.pa cc.pl cc.pc] W (GetPost W (some x))):=fun W hW=>by rw [<-hg];exact Qi W vk vn vs la ll lc oa ol oc v (hv.later_ hW) p cc.pa cc.pl cc.pc (hp.later_ hW)
 have HPT:Hid (∀(W:World) (y:V) (k n:Int) (s:ByteArray) (a:Option Addr) (m c:Nat) (a':Option Addr) (m' c':Nat),Below w.heap.size w W->IsVal W W.heap.size y ⟨k,n,s,a,m,c,a',m',c'⟩->Calls Tryz.prog 65 #[.agg #[.int .u8 vk, .int .i64 vn, .string vs, .slice la ll lc, .slice oa ol oc], .slice cc.pa cc.pl cc.pc, .agg #[.int .u8 k, .int .i64 n, .string s, .slice a m c, .slice a' m' c']] W (GetPost W (putP v p y))):=fun W y k n s a m c a' m' c' hW hy=>Jy y k n s a m c a' m' c' p W vk vn vs la ll lc oa ol oc v (hv.later_ hW) cc.pa cc.pl cc.pc (hp.later_ hW) hy
 have hdo:doP v ⟨cc.k,p,cc.key,cc.i,cc.j,cc.n,xv,cc.s⟩=doneQ (putP v p (doneP x ⟨cc.k,p,cc.key,cc.i,cc.j,cc.n,xv,cc.s⟩)):=Qy he hg
 rw [hdo]
 have HB:=qh (DB.start w ⟨vk,vn,vs,la,ll,lc,oa,ol,oc⟩ cc 41 60 41)
 have HTT:=qh hT
 have HXV:=qh hxv
 have HCB:=qh hcb
 have HKD:=qh hkd
 have hsw:=x.str_weight
 obtain ⟨kx,nx,sx,lx,ox,rfl⟩:=x.eta
 dsimp only [V.str,V.ls,V.os] at hsw
 obtain ⟨Y,hY⟩:∃Y,doneP (.mk kx nx sx lx ox) ⟨cc.k,p,cc.key,cc.i,cc.j,cc.n,xv,cc.s⟩=Y:=⟨_,rfl⟩
 rw [hY]
 obtain ⟨z,hPR⟩:=Q9 p hg Y
 rw [hPR,Jb]
 have HY:=qh hY
 have HPR:=qh hPR
 clear hv hp hxv hT hcb hdo hY hPR he hg hkd
 rcases hk with hk|hk
 all_goals
  have HK:=qh hk
  clear hk
  go_enter Tryz.func22,Tryz.ntmps22
  generalize hQ0:bodyPost _ _ _=Q0
  have HQ:=qh hQ0
  clear hQ0
  go_wp2_with fail
  refine (HCK.out _ HB.out.below).mono ?_
  rintro e W ⟨rfl,hb1⟩
  have B:=HB.out.next hb1 (by simp)
  obtain ⟨v0,v1,v2,v3,v4⟩:=row5 B.v.at_
  obtain ⟨b0,b1,b2,b3,b4,b5,b6,b7,b8,b9,b10,b11⟩:=row12 B.c.at_
  obtain ⟨r0,r1,r2,r3,r4⟩:=row5 B.r.at_
  have f0:=B.r.fr 0;have f1:=B.r.fr 1;have f2:=B.r.fr 2;have f3:=B.r.fr 3;have f4:=B.r.fr 4
  have z0:=B.v.lt;have z1:=B.c.lt;have z2:=B.r.lt
  have HBW:=qh B
  clear B hb1
  go_wp2_with fail
  refine (HGT.out _ HBW.out.below).mono ?_
  rintro e W2 ⟨⟨d,rfl,hI⟩,hb2⟩
  have B2:=HBW.out.next hb2 (Nat.succ_le_of_lt z2)
  obtain ⟨e1,e2,e3,hbd,hl,ho⟩:=hI.lists
  subst e1 e2 e3
  clear v0 v1 v2 v3 v4 r0 r1 r2 r3 r4 f0 f1 f2 f3 f4 b0 b1 b2 b3 b4 b5 b6 b7 b8 b9 b10 b11
  obtain ⟨v0,v1,v2,v3,v4⟩:=row5 B2.v.at_
  obtain ⟨b0,b1,b2,b3,b4,b5,b6,b7,b8,b9,b10,b11⟩:=row12 B2.c.at_
  obtain ⟨r0,r1,r2,r3,r4⟩:=row5 B2.r.at_
  have f0:=B2.r.fr 0;have f1:=B2.r.fr 1;have f2:=B2.r.fr 2;have f3:=B2.r.fr 3;have f4:=B2.r.fr 4
  have z0:=B2.v.lt;have z1:=B2.c.lt;have z2:=B2.r.lt
  have zW:=HBW.out.below.size
  have zW2:=hb2.size
  have z22:=B2.r.lt
  have HB2:=qh B2
  have HI:=qh hI
  have HBD:=qh hbd
  have HL:=qh hl
  have HO:=qh ho
  have HAL:=qh (((Below.refl _ _).alloc (Nat.le_refl _) (.cells #[.int .u8 d.k, .int .i64 d.n, .string d.s, .slice d.la d.ll d.lc, .slice d.oa d.ol d.oc] 41)):Below W2.heap.size W2 _)
  clear B2 hI hbd hl ho hb2
  rw [HK.out] at b0
  have hts:d.s.size<=1000000000000:=by have:=hsw.1;omega
  have htc:tCheck d.s cc.k cc.i cc.n=0:=by
   have hk:=HKD.out
   rw [kindsP,if_neg (by have:=HK.out;omega),if_neg (by have:=HK.out;omega),if_pos (by have:=HK.out;omega)] at hk
   split at hk
   .omega
   .exact hk
  obtain ⟨TD,hTD⟩:∃TD,textDo d.s cc.k cc.i cc.n cc.s=TD:=⟨_,rfl⟩
  have htz:TD.size<=140737488355328:=by
   rw [<-hTD]
   have:=zkk d.s cc.k cc.i cc.n cc.s
   omega
  have HFL:Hid (Calls Tryz.prog 63 #[.string d.s, .agg #[.int .u8 cc.k, .slice cc.pa cc.pl cc.pc, .string cc.key, .int .i64 cc.i, .int .i64 cc.j, .int .i64 cc.n, .int .u8 cc.v.k, .int .i64 cc.v.n, .string cc.v.s, .slice cc.v.la cc.v.ll cc.v.lc, .slice cc.v.oa cc.v.ol cc.v.oc, .string cc.s]] (W2.alloc (.cells #[.int .u8 d.k, .int .i64 d.n, .string d.s, .slice d.la d.ll d.lc, .slice d.oa d.ol d.oc] 41)) fun e w'=>e= .returned (.tuple #[.string TD, .int .i64 0])/\Below (W2.alloc (.cells #[.int .u8 d.k, .int .i64 d.n, .string d.s, .slice d.la d.ll d.lc, .slice d.oa d.ol d.oc] 41)).heap.size (W2.alloc (.cells #[.int .u8 d.k, .int .i64 d.n, .string d.s, .slice d.la d.ll d.lc, .slice d.oa d.ol d.oc] 41)) w'):=by
   have hb3:=HB2.out.below.trans (HAL.out.mono HB2.out.below.size)
   rw [<-hTD]
   exact zlh (W2.alloc (.cells #[.int .u8 d.k, .int .i64 d.n, .string d.s, .slice d.la d.ll d.lc, .slice d.oa d.ol d.oc] 41)) d.s cc HCB.out hts (HTT.out.below hb3) htc
  have HTD:=qh hTD
  clear hTD htc
  rw [HK.out] at HFL
  go_wp2_with fail
  refine HFL.out.mono ?_
  rintro e w4 ⟨rfl,hb4⟩
  have hbw4:Below W2.heap.size W2 w4:=HAL.out.trans (hb4.mono (by simp))
  have B4:=HB2.out.next hbw4 (Nat.succ_le_of_lt z2)
  have X4:BC w4 W2.heap.size (vcells d):=(BC.start W2 #[.int .u8 d.k, .int .i64 d.n, .string d.s, .slice d.la d.ll d.lc, .slice d.oa d.ol d.oc] 41).keep hb4 (by simp)
  obtain ⟨x0,x1,x2,x3,x4⟩:=row5 X4.at_
  have xf0:=X4.fr 2;have xf1:=X4.fr 3;have xf2:=X4.fr 4
  have xlt:=X4.lt
  clear v0 v1 v2 v3 v4 r0 r1 r2 r3 r4 f0 f1 f2 f3 f4 b0 b1 b2 b3 b4 b5 b6 b7 b8 b9 b10 b11
  obtain ⟨v0,v1,v2,v3,v4⟩:=row5 B4.v.at_
  obtain ⟨b0,b1,b2,b3,b4,b5,b6,b7,b8,b9,b10,b11⟩:=row12 B4.c.at_
  obtain ⟨r0,r1,r2,r3,r4⟩:=row5 B4.r.at_
  have f0:=B4.r.fr 0;have f1:=B4.r.fr 1;have f2:=B4.r.fr 2;have f3:=B4.r.fr 3;have f4:=B4.r.fr 4
  have z0:=B4.v.lt;have z1:=B4.c.lt;have z2:=B4.r.lt
  have HBW4:=qh hbw4
  clear B4 X4 hb4 hbw4
  go_wp2_with fail
  have hbl4:Below W2.heap.size W2 (w4.setCell ⟨W2.heap.size,2,none⟩ (.string TD)):=HBW4.out.set_ (Nat.le_refl _)
  have hx4:=(HI.out.sub (Zt _ _ _)).later_ hbl4
  obtain ⟨_,_,_,_,hl4,ho4⟩:=hx4.lists
  have HB4:=qh (HB2.out.next hbl4 (Nat.succ_le_of_lt z22))
  have HCALL:Hid (Calls Tryz.prog 65 #[.agg #[.int .u8 vk, .int .i64 vn, .string vs, .slice la ll lc, .slice oa ol oc], .slice cc.pa cc.pl cc.pc, .agg #[.int .u8 d.k, .int .i64 d.n, .string TD, .slice d.la d.ll d.lc, .slice d.oa d.ol d.oc]] (w4.setCell ⟨W2.heap.size,2,none⟩ (.string TD)) (GetPost (w4.setCell ⟨W2.heap.size,2,none⟩ (.string TD)) (some z))):=by
   have:=HPT.out (w4.setCell ⟨W2.heap.size,2,none⟩ (.string TD)) Y d.k d.n TD d.la d.ll d.lc d.oa d.ol d.oc HB4.out.below (by
    have hYe:Y= .mk d.k d.n TD lx ox:=by
     rw [<-HY.out,doneP,if_neg (by have:=HK.out;dsimp only;omega),if_neg (by have:=HK.out;dsimp only;omega),if_pos (by have:=HK.out;dsimp only;omega), <-HTD.out];rfl
    rw [hYe]
    exact K0 HBD.out.k0 HBD.out.k1 HBD.out.n0 HBD.out.n1 htz hl4 ho4)
   rw [HPR.out] at this;exact this
  clear hx4 hl4 ho4
  refine HCALL.out.mono ?_
  rintro e W6 ⟨⟨d6,rfl,hz⟩,hb6⟩
  have B6:=HB4.out.next hb6 (Nat.succ_le_of_lt HB4.out.r.lt)
  clear v0 v1 v2 v3 v4 r0 r1 r2 r3 r4 f0 f1 f2 f3 f4 b0 b1 b2 b3 b4 b5 b6 b7 b8 b9 b10 b11
  obtain ⟨v0,v1,v2,v3,v4⟩:=row5 B6.v.at_
  obtain ⟨b0,b1,b2,b3,b4,b5,b6,b7,b8,b9,b10,b11⟩:=row12 B6.c.at_
  obtain ⟨r0,r1,r2,r3,r4⟩:=row5 B6.r.at_
  have f0:=B6.r.fr 0;have f1:=B6.r.fr 1;have f2:=B6.r.fr 2;have f3:=B6.r.fr 3;have f4:=B6.r.fr 4
  have z0:=B6.v.lt;have z1:=B6.c.lt;have z2:=B6.r.lt
  have HB6:=qh B6
  have hz4:=HB4.out.below.size
  have hz5:=HB4.out.r.lt
  have HZ:=qh hz
  clear B6 hb6 hz
  go_wp2_with fail
  rw [<-HQ.out]
  have ST:=HB6.out.result d6
  have hst:=Zm W6 (w.heap.size+1+1) 0 d6
  exact Q5 (r:=(z,0)) ST.1 ((Zl (base:=w.heap.size+1+1+1) (HZ.out.sub (Zf fun k hk _=>⟨Nat.le_trans (Nat.succ_le_of_lt hz5) hk,rfl⟩)) hst (by omega)).sub (Zf fun k hk _=>⟨by omega,rfl⟩)) ST.2 rfl rfl rfl
set_option maxRecDepth 100000 in
theorem zgb (w:World) (vk vn:Int) (vs:ByteArray) (la:Option Addr) (ll lc:Nat) (oa:Option Addr) (ol oc:Nat) (v:V) (hv:IsVal w w.heap.size v ⟨vk,vn,vs,la,ll,lc,oa,ol,oc⟩) (hw:v.weight<=100000000) (p:List St) (xv:V) (cc:CC) (hcb:cc.Bnd) (hp:IsSteps w w.heap.size p cc.pa cc.pl cc.pc) (hxv:IsVal w w.heap.size xv cc.v) (hxw:xv.weight<=100000000) (hT:Tabs w) (he:checkP v ⟨cc.k,p,cc.key,cc.i,cc.j,cc.n,xv,cc.s⟩=0) (hk:4<=cc.k/\cc.k<=7):
 Calls Tryz.prog 22 #[.agg #[.int .u8 vk, .int .i64 vn, .string vs, .slice la ll lc, .slice oa ol oc], .agg #[.int .u8 cc.k, .slice cc.pa cc.pl cc.pc, .string cc.key, .int .i64 cc.i, .int .i64 cc.j, .int .i64 cc.n, .int .u8 cc.v.k, .int .i64 cc.v.n, .string cc.v.s, .slice cc.v.la cc.v.ll cc.v.lc, .slice cc.v.oa cc.v.ol cc.v.oc, .string cc.s]] w (DoPost w (doP v ⟨cc.k,p,cc.key,cc.i,cc.j,cc.n,xv,cc.s⟩)):=by
 obtain ⟨_,x,hg,hkd⟩:=Xc he
 dsimp only at hg hkd
 have hxw2:=Xv p hg
 have HCK:Hid (∀W,Below w.heap.size w W->Calls Tryz.prog 61 #[.agg #[.int .u8 vk, .int .i64 vn, .string vs, .slice la ll lc, .slice oa ol oc], .agg #[.int .u8 cc.k, .slice cc.pa cc.pl cc.pc, .string cc.key, .int .i64 cc.i, .int .i64 cc.j, .int .i64 cc.n, .int .u8 cc.v.k, .int .i64 cc.v.n, .string cc.v.s, .slice cc.v.la cc.v.ll cc.v.lc, .slice cc.v.oa cc.v.ol cc.v.oc, .string cc.s]] W fun e w'=>e= .returned (.int .i64 0)/\Below W.heap.size W w'):=fun W hW=>by
  have:=Ji W vk vn vs la ll lc oa ol oc v (hv.later_ hW) (by omega) p xv cc hcb (hp.later_ hW) (hxv.later_ hW) (by omega) (hT.below hW)
  rw [he] at this;exact this
 have HGT:Hid (∀W,Below w.heap.size w W->Calls Tryz.prog 51 #[.agg #[.int .u8 vk, .int .i64 vn, .string vs, .slice la ll lc, .slice oa ol oc], .slice cc.pa cc.pl cc.pc] W (GetPost W (some x))):=fun W hW=>by rw [<-hg];exact Qi W vk vn vs la ll lc oa ol oc v (hv.later_ hW) p cc.pa cc.pl cc.pc (hp.later_ hW)
 have HPT:Hid (∀(W:World) (y:V) (k n:Int) (s:ByteArray) (a:Option Addr) (m c:Nat) (a':Option Addr) (m' c':Nat),Below w.heap.size w W->IsVal W W.heap.size y ⟨k,n,s,a,m,c,a',m',c'⟩->Calls Tryz.prog 65 #[.agg #[.int .u8 vk, .int .i64 vn, .string vs, .slice la ll lc, .slice oa ol oc], .slice cc.pa cc.pl cc.pc, .agg #[.int .u8 k, .int .i64 n, .string s, .slice a m c, .slice a' m' c']] W (GetPost W (putP v p y))):=fun W y k n s a m c a' m' c' hW hy=>Jy y k n s a m c a' m' c' p W vk vn vs la ll lc oa ol oc v (hv.later_ hW) cc.pa cc.pl cc.pc (hp.later_ hW) hy
 have hdo:doP v ⟨cc.k,p,cc.key,cc.i,cc.j,cc.n,xv,cc.s⟩=doneQ (putP v p (doneP x ⟨cc.k,p,cc.key,cc.i,cc.j,cc.n,xv,cc.s⟩)):=Qy he hg
 rw [hdo]
 have HB:=qh (DB.start w ⟨vk,vn,vs,la,ll,lc,oa,ol,oc⟩ cc 41 60 41)
 have HTT:=qh hT
 have HXV:=qh hxv
 have HCB:=qh hcb
 have HKD:=qh hkd
 have hsw:=x.str_weight
 obtain ⟨kx,nx,sx,lx,ox,rfl⟩:=x.eta
 dsimp only [V.str,V.ls,V.os] at hsw
 obtain ⟨Y,hY⟩:∃Y,doneP (.mk kx nx sx lx ox) ⟨cc.k,p,cc.key,cc.i,cc.j,cc.n,xv,cc.s⟩=Y:=⟨_,rfl⟩
 rw [hY]
 obtain ⟨z,hPR⟩:=Q9 p hg Y
 rw [hPR,Jb]
 have HY:=qh hY
 have HPR:=qh hPR
 clear hv hp hxv hT hcb hdo hY hPR he hg hkd
 have HK:=qh hk
 clear hk
 go_enter Tryz.func22,Tryz.ntmps22
 generalize hQ0:bodyPost _ _ _=Q0
 have HQ:=qh hQ0
 clear hQ0
 go_wp2_with fail
 refine (HCK.out _ HB.out.below).mono ?_
 rintro e W ⟨rfl,hb1⟩
 have B:=HB.out.next hb1 (by simp)
 obtain ⟨v0,v1,v2,v3,v4⟩:=row5 B.v.at_
 obtain ⟨b0,b1,b2,b3,b4,b5,b6,b7,b8,b9,b10,b11⟩:=row12 B.c.at_
 obtain ⟨r0,r1,r2,r3,r4⟩:=row5 B.r.at_
 have f0:=B.r.fr 0;have f1:=B.r.fr 1;have f2:=B.r.fr 2;have f3:=B.r.fr 3;have f4:=B.r.fr 4
 have z0:=B.v.lt;have z1:=B.c.lt;have z2:=B.r.lt
 have HBW:=qh B
 clear B hb1
 go_wp2_with fail
 refine (HGT.out _ HBW.out.below).mono ?_
 rintro e W2 ⟨⟨d,rfl,hI⟩,hb2⟩
 have B2:=HBW.out.next hb2 (Nat.succ_le_of_lt z2)
 obtain ⟨e1,e2,e3,hbd,hl,ho⟩:=hI.lists
 subst e1 e2 e3
 clear v0 v1 v2 v3 v4 r0 r1 r2 r3 r4 f0 f1 f2 f3 f4 b0 b1 b2 b3 b4 b5 b6 b7 b8 b9 b10 b11
 obtain ⟨v0,v1,v2,v3,v4⟩:=row5 B2.v.at_
 obtain ⟨b0,b1,b2,b3,b4,b5,b6,b7,b8,b9,b10,b11⟩:=row12 B2.c.at_
 obtain ⟨r0,r1,r2,r3,r4⟩:=row5 B2.r.at_
 have f0:=B2.r.fr 0;have f1:=B2.r.fr 1;have f2:=B2.r.fr 2;have f3:=B2.r.fr 3;have f4:=B2.r.fr 4
 have z0:=B2.v.lt;have z1:=B2.c.lt;have z2:=B2.r.lt
 have zW:=HBW.out.below.size
 have zW2:=hb2.size
 have z22:=B2.r.lt
 have HB2:=qh B2
 have HI:=qh hI
 have HBD:=qh hbd
 have HL:=qh hl
 have HO:=qh ho
 have HAL:=qh (((Below.refl _ _).alloc (Nat.le_refl _) (.cells #[.int .u8 d.k, .int .i64 d.n, .string d.s, .slice d.la d.ll d.lc, .slice d.oa d.ol d.oc] 41)):Below W2.heap.size W2 _)
 clear B2 hI hbd hl ho hb2
 have hlc:lCheck d.ll cc.k cc.i cc.j=0:=by
  have hk:=HKD.out
  rw [kindsP,if_neg (by have:=HK.out;omega),if_neg (by have:=HK.out;omega),if_neg (by have:=HK.out;omega)] at hk
  split at hk
  .omega
  .rw [HL.out.len];exact hk
 have g1:(cc.k==1)=false:=by have:=HK.out;simp;omega
 have g2:(cc.k==2)=false:=by have:=HK.out;simp;omega
 have g3:(cc.k==3)=false:=by have:=HK.out;simp;omega
 have g8:(cc.k==8)=false:=by have:=HK.out;simp;omega
 have g9:(cc.k==9)=false:=by have:=HK.out;simp;omega
 have HFL:Hid (Calls Tryz.prog 64 #[.slice d.la d.ll d.lc, .agg #[.int .u8 cc.k, .slice cc.pa cc.pl cc.pc, .string cc.key, .int .i64 cc.i, .int .i64 cc.j, .int .i64 cc.n, .int .u8 cc.v.k, .int .i64 cc.v.n, .string cc.v.s, .slice cc.v.la cc.v.ll cc.v.lc, .slice cc.v.oa cc.v.ol cc.v.oc, .string cc.s]] (W2.alloc (.cells #[.int .u8 d.k, .int .i64 d.n, .string d.s, .slice d.la d.ll d.lc, .slice d.oa d.ol d.oc] 41)) (DoLPost (W2.alloc (.cells #[.int .u8 d.k, .int .i64 d.n, .string d.s, .slice d.la d.ll d.lc, .slice d.oa d.ol d.oc] 41)) (listDo lx cc.k cc.i cc.j xv))):=by
  have hb3:=HB2.out.below.trans (HAL.out.mono HB2.out.below.size)
  have hx3:=((HI.out.sub (Zt _ _ _)).later_ HAL.out).lists
  exact znv (W2.alloc (.cells #[.int .u8 d.k, .int .i64 d.n, .string d.s, .slice d.la d.ll d.lc, .slice d.oa d.ol d.oc] 41)) lx d.la d.ll d.lc hx3.2.2.2.2.1 (by have:=HL.out.len;omega) cc xv (HXV.out.later_ hb3) hlc
 clear hlc
 go_wp2_with fail
 refine HFL.out.mono ?_
 rintro e w4 ⟨⟨a4,n4,c4,rfl,hI4⟩,hb4⟩
 have hbw4:Below W2.heap.size W2 w4:=HAL.out.trans (hb4.mono (by simp))
 have B4:=HB2.out.next hbw4 (Nat.succ_le_of_lt z2)
 have X4:BC w4 W2.heap.size (vcells d):=(BC.start W2 #[.int .u8 d.k, .int .i64 d.n, .string d.s, .slice d.la d.ll d.lc, .slice d.oa d.ol d.oc] 41).keep hb4 (by simp)
 obtain ⟨x0,x1,x2,x3,x4⟩:=row5 X4.at_
 have xf0:=X4.fr 2;have xf1:=X4.fr 3;have xf2:=X4.fr 4
 have xlt:=X4.lt
 clear v0 v1 v2 v3 v4 r0 r1 r2 r3 r4 f0 f1 f2 f3 f4 b0 b1 b2 b3 b4 b5 b6 b7 b8 b9 b10 b11
 obtain ⟨v0,v1,v2,v3,v4⟩:=row5 B4.v.at_
 obtain ⟨b0,b1,b2,b3,b4,b5,b6,b7,b8,b9,b10,b11⟩:=row12 B4.c.at_
 obtain ⟨r0,r1,r2,r3,r4⟩:=row5 B4.r.at_
 have f0:=B4.r.fr 0;have f1:=B4.r.fr 1;have f2:=B4.r.fr 2;have f3:=B4.r.fr 3;have f4:=B4.r.fr 4
 have z0:=B4.v.lt;have z1:=B4.c.lt;have z2:=B4.r.lt
 have HBW4:=qh hbw4
 clear B4 X4 hb4 hbw4
 have HI4:=qh hI4
 clear hI4
 go_wp2_with fail
 have hbl4:Below W2.heap.size W2 (w4.setCell ⟨W2.heap.size,3,none⟩ (.slice a4 n4 c4)):=HBW4.out.set_ (Nat.le_refl _)
 have hx4:=(HI.out.sub (Zt _ _ _)).later_ hbl4
 obtain ⟨_,_,_,_,hl4,ho4⟩:=hx4.lists
 have HB4:=qh (HB2.out.next hbl4 (Nat.succ_le_of_lt z22))
 have HCALL:Hid (Calls Tryz.prog 65 #[.agg #[.int .u8 vk, .int .i64 vn, .string vs, .slice la ll lc, .slice oa ol oc], .slice cc.pa cc.pl cc.pc, .agg #[.int .u8 d.k, .int .i64 d.n, .string d.s, .slice a4 n4 c4, .slice d.oa d.ol d.oc]] (w4.setCell ⟨W2.heap.size,3,none⟩ (.slice a4 n4 c4)) (GetPost (w4.setCell ⟨W2.heap.size,3,none⟩ (.slice a4 n4 c4)) (some z))):=by
  have:=HPT.out (w4.setCell ⟨W2.heap.size,3,none⟩ (.slice a4 n4 c4)) Y d.k d.n d.s a4 n4 c4 d.oa d.ol d.oc HB4.out.below (by
   have hYe:Y= .mk d.k d.n d.s (listDo lx cc.k cc.i cc.j xv) ox:=by
    rw [<-HY.out,doneP,if_neg (by have:=HK.out;dsimp only;omega),if_neg (by have:=HK.out;dsimp only;omega),if_neg (by have:=HK.out;dsimp only;omega)];rfl
   have hst:RStep w4 (w4.setCell ⟨W2.heap.size,3,none⟩ (.slice a4 n4 c4)) W2.heap.size:=RStep.self
   rw [hYe]
   exact K0 HBD.out.k0 HBD.out.k1 HBD.out.n0 HBD.out.n1 HBD.out.s1 ((IsVals.sub (fun b o u hb h=>by
    obtain ⟨hs,hc⟩:=Z3 h
    exact hst.cell hc (by rw [World.size_alloc] at hs;omega)) HI4.out).more hst.size) ho4)
  rw [HPR.out] at this;exact this
 clear hx4 hl4 ho4
 refine HCALL.out.mono ?_
 rintro e W6 ⟨⟨d6,rfl,hz⟩,hb6⟩
 have B6:=HB4.out.next hb6 (Nat.succ_le_of_lt HB4.out.r.lt)
 clear v0 v1 v2 v3 v4 r0 r1 r2 r3 r4 f0 f1 f2 f3 f4 b0 b1 b2 b3 b4 b5 b6 b7 b8 b9 b10 b11
 obtain ⟨v0,v1,v2,v3,v4⟩:=row5 B6.v.at_
 obtain ⟨b0,b1,b2,b3,b4,b5,b6,b7,b8,b9,b10,b11⟩:=row12 B6.c.at_
 obtain ⟨r0,r1,r2,r3,r4⟩:=row5 B6.r.at_
 have f0:=B6.r.fr 0;have f1:=B6.r.fr 1;have f2:=B6.r.fr 2;have f3:=B6.r.fr 3;have f4:=B6.r.fr 4
 have z0:=B6.v.lt;have z1:=B6.c.lt;have z2:=B6.r.lt
 have HB6:=qh B6
 have hz4:=HB4.out.below.size
 have hz5:=HB4.out.r.lt
 have HZ:=qh hz
 clear B6 hb6 hz
 go_wp2_with fail
 rw [<-HQ.out]
 have ST:=HB6.out.result d6
 have hst:=Zm W6 (w.heap.size+1+1) 0 d6
 exact Q5 (r:=(z,0)) ST.1 ((Zl (base:=w.heap.size+1+1+1) (HZ.out.sub (Zf fun k hk _=>⟨Nat.le_trans (Nat.succ_le_of_lt hz5) hk,rfl⟩)) hst (by omega)).sub (Zf fun k hk _=>⟨by omega,rfl⟩)) ST.2 rfl rfl rfl
theorem zgu (w:World) (vk vn:Int) (vs:ByteArray) (la:Option Addr) (ll lc:Nat) (oa:Option Addr) (ol oc:Nat) (v:V) (hv:IsVal w w.heap.size v ⟨vk,vn,vs,la,ll,lc,oa,ol,oc⟩) (hw:v.weight<=100000000) (p:List St) (xv:V) (cc:CC) (hcb:cc.Bnd) (hp:IsSteps w w.heap.size p cc.pa cc.pl cc.pc) (hxv:IsVal w w.heap.size xv cc.v) (hxw:xv.weight<=100000000) (hcs:cc.s.size<=1000000000000) (hT:Tabs w):
 Calls Tryz.prog 22 #[.agg #[.int .u8 vk, .int .i64 vn, .string vs, .slice la ll lc, .slice oa ol oc], .agg #[.int .u8 cc.k, .slice cc.pa cc.pl cc.pc, .string cc.key, .int .i64 cc.i, .int .i64 cc.j, .int .i64 cc.n, .int .u8 cc.v.k, .int .i64 cc.v.n, .string cc.v.s, .slice cc.v.la cc.v.ll cc.v.lc, .slice cc.v.oa cc.v.ol cc.v.oc, .string cc.s]] w (DoPost w (doP v ⟨cc.k,p,cc.key,cc.i,cc.j,cc.n,xv,cc.s⟩)):=by
 by_cases he:checkP v ⟨cc.k,p,cc.key,cc.i,cc.j,cc.n,xv,cc.s⟩=0
 .obtain ⟨hs,x,_,hkd⟩:=Xc he
  have hk1:=zb5 hs
  dsimp only at hk1
  by_cases e1:cc.k=1
  .exact zi2 w vk vn vs la ll lc oa ol oc v hv hw p xv cc hcb hp hxv hxw hT he e1
  by_cases e2:cc.k=2∨cc.k=3
  .exact zmr w vk vn vs la ll lc oa ol oc v hv hw p xv cc hcb hp hxv hxw hT he e2
  by_cases e3:cc.k=8∨cc.k=9
  .exact znd w vk vn vs la ll lc oa ol oc v hv hw p xv cc hcb hp hxv hxw hcs hT he e3
  .exact zgb w vk vn vs la ll lc oa ol oc v hv hw p xv cc hcb hp hxv hxw hT he (by omega)
 .exact zqh w vk vn vs la ll lc oa ol oc v hv hw p xv cc hcb hp hxv hxw hT he
theorem znf:(Tryz.prog.info? 60).map (fun i=>(i.zero,i.size,i.bytes))=some (some (.agg #[.int .u8 0, .slice none 0 0, .string { data:= #[] }, .int .i64 0, .int .i64 0, .int .i64 0, .int .u8 0, .int .i64 0, .string { data:= #[] }, .slice none 0 0, .slice none 0 0, .string { data:= #[] }]),12,168):=by kernel_rfl
structure ActAt (w:World) (b o:Nat) (c:AC):Prop where
 c0:w.cell? ⟨b,o,none⟩=some (.slice c.pa c.pl c.pc)
 c1:w.cell? ⟨b,o+1,none⟩=some (.int .u8 c.k)
 c2:w.cell? ⟨b,o+2,none⟩=some (.int .i64 c.i)
 c3:w.cell? ⟨b,o+3,none⟩=some (.int .i64 c.j)
 c4:w.cell? ⟨b,o+4,none⟩=some (.int .i64 c.n)
 c5:w.cell? ⟨b,o+5,none⟩=some (.string c.s)
 c6:w.cell? ⟨b,o+6,none⟩=some (.slice c.va c.vl c.vc)
theorem ActAt.keep {w w':World} {B b o:Nat} {c:AC} (h:ActAt w b o c) (hb:Below B w w') (hB:b<B):ActAt w' b o c:=
 ⟨Zd hb h.c0 hB,Zd hb h.c1 hB,Zd hb h.c2 hB,Zd hb h.c3 hB,Zd hb h.c4 hB,Zd hb h.c5 hB,Zd hb h.c6 hB⟩
theorem IsAct.keep {w w':World} {B:Nat} {x:Ac} {c:AC} (h:IsAct w B x c) (hb:Below B w w'):IsAct w' B x c:=by
 cases h with
 |mk c p v hbd hp hv=>exact .mk c p v hbd (hp.keep hb) (hv.keep hb)
theorem IsB.more6 {w:World} {B B':Nat} {a:Option Addr} {n c:Nat} {bs:List UInt8} (h:IsB w B a n c bs) (hB:B<=B'):IsB w B' a n c bs:=by
 obtain ⟨h1,h2,h3,b,o,h5,h6⟩:=h
 exact ⟨h1,h2,h3,b,o,fun h=>⟨(h5 h).1,Nat.lt_of_lt_of_le (h5 h).2 hB⟩,h6⟩
theorem IsAct.more {w:World} {B B':Nat} {x:Ac} {c:AC} (h:IsAct w B x c) (hB:B<=B'):IsAct w B' x c:=by
 cases h with
 |mk c p v hbd hp hv=>exact .mk c p v hbd (hp.more6 hB) (hv.more hB)
structure IsActs (w:World) (B:Nat) (l:List Ac) (a:Option Addr) (n c:Nat):Prop where
 len:n=l.length
 cap:n<=c
 max:c<=9223372036854775807
 at_:∃b o,∃f:Nat->AC,(0<n->a=some ⟨b,o,none⟩/\b<B)/\∀i (h:i<l.length),ActAt w b (o+i*7) (f i)/\IsAct w B l[i] (f i)
theorem IsActs.keep {w w':World} {B:Nat} {l:List Ac} {a:Option Addr} {n c:Nat} (h:IsActs w B l a n c) (hb:Below B w w'):IsActs w' B l a n c:=by
 obtain ⟨h1,h2,h3,b,o,f,h5,h6⟩:=h
 exact ⟨h1,h2,h3,b,o,f,h5,fun i hi=>⟨(h6 i hi).1.keep hb (h5 (by omega)).2,(h6 i hi).2.keep hb⟩⟩
theorem IsActs.later_ {w w':World} {l:List Ac} {a:Option Addr} {n c:Nat} (h:IsActs w w.heap.size l a n c) (hb:Below w.heap.size w w'):IsActs w' w'.heap.size l a n c:=by
 obtain ⟨h1,h2,h3,b,o,f,h5,h6⟩:=h.keep hb
 exact ⟨h1,h2,h3,b,o,f,fun hn=>⟨(h5 hn).1,Nat.lt_of_lt_of_le (h5 hn).2 hb.size⟩,fun i hi=>⟨(h6 i hi).1,(h6 i hi).2.more hb.size⟩⟩
theorem IsActs.get {w:World} {B:Nat} {l:List Ac} {a:Option Addr} {n c k:Nat} (h:IsActs w B l a n c) (hk:k<n):
 ∃b o,∃f:AC,∃hp:k<l.length,a=some ⟨b,o,none⟩/\b<B/\ActAt w b (o+k*7) f/\IsAct w B l[k] f:=by
 obtain ⟨h1,h2,h3,b,o,f,h5,h6⟩:=h
 exact ⟨b,o,f k,by omega,(h5 (by omega)).1,(h5 (by omega)).2,(h6 k (by omega)).1,(h6 k (by omega)).2⟩
def OneRes (z:Nat) (r:Option Cm) (nn:Int) (W:World) (cc:CC):Prop:=match r with
 |some x=>nn=1/\IsComp (only (fun b=>z<=b) W) W.heap.size x cc
 |none=>nn=0
theorem IsComp.more6 {w:World} {B B':Nat} {x:Cm} {c:CC} (h:IsComp w B x c) (hB:B<=B'):IsComp w B' x c:=by
 cases h with
 |mk c p v hbd hp hv=>exact .mk c p v hbd (hp.more hB) (hv.more hB)
theorem zcz {W W':World} {S S':Nat->Prop} {B:Nat} {x:Cm} {c:CC} (h:IsComp (only S W) B x c) (hB:B=W.heap.size) (hz:W.heap.size<=W'.heap.size) (hs:∀k,S k->k<W.heap.size->S' k/\W'.heap[k]? =W.heap[k]?):IsComp (only S' W') W'.heap.size x c:=by
 subst hB;exact (h.sub (Zf hs)).more6 hz
theorem OneRes.step {z z':Nat} {r:Option Cm} {nn:Int} {W W':World} {cc:CC} (h:OneRes z r nn W cc) (hz:z'<=z) (hs:W.heap.size<=W'.heap.size) (hb:∀k,z<=k->k<W.heap.size->W'.heap[k]? =W.heap[k]?):OneRes z' r nn W' cc:=by
 cases r with
 |none=>exact h
 |some x=>exact ⟨h.1,zcz h.2 rfl hs fun k hk hl=>⟨Nat.le_trans hz hk,hb k hk hl⟩⟩
theorem OnePost.any {w w':World} {r:Option Cm} {e:Ending} (h:OnePost w r e w'):∃(cc:CC) (nn:Int),e= .returned (.tuple #[.agg #[.int .u8 cc.k, .slice cc.pa cc.pl cc.pc, .string cc.key, .int .i64 cc.i, .int .i64 cc.j, .int .i64 cc.n, .int .u8 cc.v.k, .int .i64 cc.v.n, .string cc.v.s, .slice cc.v.la cc.v.ll cc.v.lc, .slice cc.v.oa cc.v.ol cc.v.oc, .string cc.s], .int .i64 nn])/\OneRes w.heap.size r nn w' cc/\Below w.heap.size w w':=by
 obtain ⟨⟨cc,hm⟩,hb⟩:=h
 cases r with
 |none=>exact ⟨cc,0,hm,rfl,hb⟩
 |some x=>exact ⟨cc,1,hm.1,⟨rfl,hm.2⟩,hb⟩
theorem zhi {w w4:World} {r:Option Cm} {nn:Int} {z:Nat} (h:Below w.heap.size w.drew w4) (hz:w.heap.size<=w4.heap.size) (cc:CC) (t:TypeId) (ho:OneRes z r nn w4 cc) (hzz:w.heap.size<=z):BC (w4.alloc (.cells #[.int .u8 cc.k, .slice cc.pa cc.pl cc.pc, .string cc.key, .int .i64 cc.i, .int .i64 cc.j, .int .i64 cc.n, .int .u8 cc.v.k, .int .i64 cc.v.n, .string cc.v.s, .slice cc.v.la cc.v.ll cc.v.lc, .slice cc.v.oa cc.v.ol cc.v.oc, .string cc.s] t)) w4.heap.size (ccells cc)/\Below w.heap.size w.drew (w4.alloc (.cells #[.int .u8 cc.k, .slice cc.pa cc.pl cc.pc, .string cc.key, .int .i64 cc.i, .int .i64 cc.j, .int .i64 cc.n, .int .u8 cc.v.k, .int .i64 cc.v.n, .string cc.v.s, .slice cc.v.la cc.v.ll cc.v.lc, .slice cc.v.oa cc.v.ol cc.v.oc, .string cc.s] t))/\w.heap.size<=w4.heap.size/\OneRes w.heap.size r nn (w4.alloc (.cells #[.int .u8 cc.k, .slice cc.pa cc.pl cc.pc, .string cc.key, .int .i64 cc.i, .int .i64 cc.j, .int .i64 cc.n, .int .u8 cc.v.k, .int .i64 cc.v.n, .string cc.v.s, .slice cc.v.la cc.v.ll cc.v.lc, .slice cc.v.oa cc.v.ol cc.v.oc, .string cc.s] t)) cc:=by
 have hal:Below w4.heap.size w4 (w4.alloc (.cells #[.int .u8 cc.k, .slice cc.pa cc.pl cc.pc, .string cc.key, .int .i64 cc.i, .int .i64 cc.j, .int .i64 cc.n, .int .u8 cc.v.k, .int .i64 cc.v.n, .string cc.v.s, .slice cc.v.la cc.v.ll cc.v.lc, .slice cc.v.oa cc.v.ol cc.v.oc, .string cc.s] t)):=(Below.refl _ _).alloc (Nat.le_refl _) _
 exact ⟨BC.start w4 #[.int .u8 cc.k, .slice cc.pa cc.pl cc.pc, .string cc.key, .int .i64 cc.i, .int .i64 cc.j, .int .i64 cc.n, .int .u8 cc.v.k, .int .i64 cc.v.n, .string cc.v.s, .slice cc.v.la cc.v.ll cc.v.lc, .slice cc.v.oa cc.v.ol cc.v.oc, .string cc.s] t,h.alloc hz _,hz,ho.step hzz hal.size fun k _ hl=>hal.block k hl⟩
theorem ziq {w w4:World} {r:Option Cm} {nn:Int} {z:Nat} (h:Below w.heap.size w.drew w4) (cc:CC) (x:BC w4 w.heap.size [.int .u8 0, .slice none 0 0, .string { data:= #[] }, .int .i64 0, .int .i64 0, .int .i64 0, .int .u8 0, .int .i64 0, .string { data:= #[] }, .slice none 0 0, .slice none 0 0, .string { data:= #[] }]) (ho:OneRes z r nn w4 cc) (hzz:w.heap.size+1<=z):BC ((((((((((((w4.setCell ⟨w.heap.size,0,none⟩ (.int .u8 cc.k)).setCell ⟨w.heap.size,1,none⟩ (.slice cc.pa cc.pl cc.pc)).setCell ⟨w.heap.size,2,none⟩ (.string cc.key)).setCell ⟨w.heap.size,3,none⟩ (.int .i64 cc.i)).setCell ⟨w.heap.size,4,none⟩ (.int .i64 cc.j)).setCell ⟨w.heap.size,5,none⟩ (.int .i64 cc.n)).setCell ⟨w.heap.size,6,none⟩ (.int .u8 cc.v.k)).setCell ⟨w.heap.size,7,none⟩ (.int .i64 cc.v.n)).setCell ⟨w.heap.size,8,none⟩ (.string cc.v.s)).setCell ⟨w.heap.size,9,none⟩ (.slice cc.v.la cc.v.ll cc.v.lc)).setCell ⟨w.heap.size,10,none⟩ (.slice cc.v.oa cc.v.ol cc.v.oc)).setCell ⟨w.heap.size,11,none⟩ (.string cc.s)) w.heap.size (ccells cc)/\Below w.heap.size w.drew ((((((((((((w4.setCell ⟨w.heap.size,0,none⟩ (.int .u8 cc.k)).setCell ⟨w.heap.size,1,none⟩ (.slice cc.pa cc.pl cc.pc)).setCell ⟨w.heap.size,2,none⟩ (.string cc.key)).setCell ⟨w.heap.size,3,none⟩ (.int .i64 cc.i)).setCell ⟨w.heap.size,4,none⟩ (.int .i64 cc.j)).setCell ⟨w.heap.size,5,none⟩ (.int .i64 cc.n)).setCell ⟨w.heap.size,6,none⟩ (.int .u8 cc.v.k)).setCell ⟨w.heap.size,7,none⟩ (.int .i64 cc.v.n)).setCell ⟨w.heap.size,8,none⟩ (.string cc.v.s)).setCell ⟨w.heap.size,9,none⟩ (.slice cc.v.la cc.v.ll cc.v.lc)).setCell ⟨w.heap.size,10,none⟩ (.slice cc.v.oa cc.v.ol cc.v.oc)).setCell ⟨w.heap.size,11,none⟩ (.string cc.s))/\w.heap.size<=w.heap.size/\OneRes w.heap.size r nn ((((((((((((w4.setCell ⟨w.heap.size,0,none⟩ (.int .u8 cc.k)).setCell ⟨w.heap.size,1,none⟩ (.slice cc.pa cc.pl cc.pc)).setCell ⟨w.heap.size,2,none⟩ (.string cc.key)).setCell ⟨w.heap.size,3,none⟩ (.int .i64 cc.i)).setCell ⟨w.heap.size,4,none⟩ (.int .i64 cc.j)).setCell ⟨w.heap.size,5,none⟩ (.int .i64 cc.n)).setCell ⟨w.heap.size,6,none⟩ (.int .u8 cc.v.k)).setCell ⟨w.heap.size,7,none⟩ (.int .i64 cc.v.n)).setCell ⟨w.heap.size,8,none⟩ (.string cc.v.s)).setCell ⟨w.heap.size,9,none⟩ (.slice cc.v.la cc.v.ll cc.v.lc)).setCell ⟨w.heap.size,10,none⟩ (.slice cc.v.oa cc.v.ol cc.v.oc)).setCell ⟨w.heap.size,11,none⟩ (.string cc.s)) cc:=by
 have st:=zbk w4 w.heap.size cc
 exact ⟨Z1 (c0:=czero) x cc,Below.setC h (Nat.le_refl _) cc,Nat.le_refl _,ho.step (by omega) st.size fun k hk hl=>st.block k hl (by omega)⟩
structure AH (w wr:World) (v0:V) (l:List Ac) (j:Nat) (x:V) (cx:VC) (u:Value) (xs:List Cm) (cs:List CC):Prop where
 rd:xs++aimP x (l.drop j)=aimP v0 l
 cen:cs.length=xs.length
 few:xs.length<=j
 wt:x.weight<=20000+20100*j
 box:BC wr w.heap.size (vcells cx)
 val:IsVal (only (fun k=>k≠w.heap.size/\some k≠u.ownBlock) wr) wr.heap.size x cx
 row:RowC wr (w.heap.size+1) u xs cs
 below:Below w.heap.size w wr
theorem AH.start {w:World} {v0:V} {c:VC} {t:TypeId} (l:List Ac) (hv:IsVal w w.heap.size v0 c) (hw:v0.weight<=20000):AH w (w.alloc (.cells #[.int .u8 c.k, .int .i64 c.n, .string c.s, .slice c.la c.ll c.lc, .slice c.oa c.ol c.oc] t)) v0 l 0 v0 c (.slice none 0 0) [] [] :=by
 have hal:Below w.heap.size w (w.alloc (.cells #[.int .u8 c.k, .int .i64 c.n, .string c.s, .slice c.la c.ll c.lc, .slice c.oa c.ol c.oc] t)):=(Below.refl _ _).alloc (Nat.le_refl _) _
 exact ⟨rfl,rfl,Nat.le_refl _,by omega,BC.start _ _ _,(hv.sub fun b o u hb hc=>Z4 ⟨by omega,by simp [Value.ownBlock]⟩ ((World.cell?_of_block (hal.block b hb)).trans hc)).more hal.size,Row.nil _ _ _ _ _,hal⟩
theorem AH.skip {w wr W:World} {v0:V} {l:List Ac} {j:Nat} {x:V} {cx:VC} {u:Value} {xs:List Cm} {cs:List CC} (h:AH w wr v0 l j x cx u xs cs) (hb:Below wr.heap.size wr W) (hrd:aimP x (l.drop j)=aimP x (l.drop (j+1))):AH w W v0 l (j+1) x cx u xs cs:=
 ⟨by rw [<-hrd];exact h.rd,h.cen,by have:=h.few;omega,by have:=h.wt;omega,h.box.keep hb h.box.lt,Z7 h.val rfl hb.size fun k hk hl=>⟨hk,hb.block k hl⟩,h.row.later (PC.closed _ _) (.of_below w.heap.size hb) (by omega),h.below.trans (hb.mono h.below.size)⟩
structure AM (w wr W:World) (x y:V) (cm:Cm) (cy:VC) (cc:CC) (u:Value) (xs:List Cm) (cs:List CC):Prop where
 box:BC W w.heap.size (vcells cy)
 val:IsVal (only (fun k=>wr.heap.size<=k) W) W.heap.size y cy
 cmp:IsComp (only (fun k=>wr.heap.size<=k) W) W.heap.size cm cc
 row:RowC W (w.heap.size+1) u xs cs
 below:Below w.heap.size w W
theorem AH.mid {w wr W5 W6:World} {v0:V} {l:List Ac} {j:Nat} {x y:V} {cx cy:VC} {u:Value} {xs:List Cm} {cs:List CC} {cm:Cm} {cc:CC} (h:AH w wr v0 l j x cx u xs cs) (hb:Below wr.heap.size wr W5) (hc:IsComp (only (fun k=>wr.heap.size<=k) W5) W5.heap.size cm cc) (hb6:Below W5.heap.size W5 W6) (hy:IsVal (only (fun k=>W5.heap.size<=k) W6) W6.heap.size y cy) (o:Obj):
 AM w wr ((setV W6 w.heap.size 0 cy).alloc o) x y cm cy cc u xs cs:=by
 have st:=Zm W6 w.heap.size 0 cy
 have hal:Below (setV W6 w.heap.size 0 cy).heap.size (setV W6 w.heap.size 0 cy) ((setV W6 w.heap.size 0 cy).alloc o):=(Below.refl _ _).alloc (Nat.le_refl _) _
 have hlo:=h.box.lt
 have hz1:=hb.size;have hz2:=hb6.size;have hz3:=st.size;have hz4:=hal.size
 have hbA:Below wr.heap.size wr W6:=hb.trans (hb6.mono hz1)
 have sA:RStep W6 ((setV W6 w.heap.size 0 cy).alloc o) w.heap.size:=st.trans (RStep.of_below _ hal)
 refine ⟨(Yu (h.box.keep hbA hlo) cy).keep hal (by omega),Z7 hy rfl sA.size fun k hk hl=>⟨by omega,sA.block k hl (by omega)⟩,zcz hc rfl (Nat.le_trans hz2 sA.size) fun k hk hl=>⟨hk,(sA.block k (by omega) (by omega)).trans (hb6.block k hl)⟩,(h.row.later (PC.closed _ _) (.of_below w.heap.size hbA) (by omega)).later (PC.closed _ _) sA (by omega),(Below.set5' (h.below.trans (hbA.mono (by omega))) (Nat.le_refl _) _ _ _ _ _).trans (hal.mono (by omega))⟩
theorem zg8 {a b j:Nat} (h:a<=20000+20100*j) (hw:b<=a+20100):b<=20000+20100*(j+1):=by
 rw [Nat.mul_succ, <-Nat.add_assoc];exact Nat.le_trans hw (Nat.add_le_add_right h 20100)
theorem AH.round {w wr w7 w9:World} {v0:V} {l:List Ac} {j:Nat} {x y:V} {cx cy:VC} {a:Option Addr} {m c:Nat} {xs:List Cm} {cs:List CC} {cm:Cm} {cc:CC} {g cap:Nat} {t:TypeId}
 (h:AH w wr v0 l j x cx (.slice a m c) xs cs) (hm:AM w wr w7 x y cm cy cc (.slice a m c) xs cs) (hz:wr.heap.size<=w7.heap.size) (hrd:aimP x (l.drop j)=cm::aimP y (l.drop (j+1))) (hw:y.weight<=x.weight+20100)
 (hown:w9.ownsRow (w.heap.size+1) 60 12 (.slice (some ⟨g,0,none⟩) (xs.length+1) cap) (xs.length+1) (cs.flatMap ccells++ccells cc)) (hg:(w7.alloc (.cells #[.int .u8 cc.k, .slice cc.pa cc.pl cc.pc, .string cc.key, .int .i64 cc.i, .int .i64 cc.j, .int .i64 cc.n, .int .u8 cc.v.k, .int .i64 cc.v.n, .string cc.v.s, .slice cc.v.la cc.v.ll cc.v.lc, .slice cc.v.oa cc.v.ol cc.v.oc, .string cc.s] t)).grownBy w9 (Value.slice a m c).ownBlock)
 (hat:(Value.slice a m c).ownBlock=some g∨g=w7.heap.size+1):
 AH w w9 v0 l (j+1) y cy (.slice (some ⟨g,0,none⟩) (xs.length+1) cap) (xs++ [cm]) (cs++ [cc]):=by
 have hrlt:∀b,(Value.slice a m c).ownBlock=some b->w.heap.size+1<=b/\b<wr.heap.size:=h.row.lt
 have hba:Below w7.heap.size w7 (w7.alloc (.cells #[.int .u8 cc.k, .slice cc.pa cc.pl cc.pc, .string cc.key, .int .i64 cc.i, .int .i64 cc.j, .int .i64 cc.n, .int .u8 cc.v.k, .int .i64 cc.v.n, .string cc.v.s, .slice cc.v.la cc.v.ll cc.v.lc, .slice cc.v.oa cc.v.ol cc.v.oc, .string cc.s] t)):=(Below.refl _ _).alloc (Nat.le_refl _) _
 have hgb:Below (w.heap.size+1) (w7.alloc (.cells #[.int .u8 cc.k, .slice cc.pa cc.pl cc.pc, .string cc.key, .int .i64 cc.i, .int .i64 cc.j, .int .i64 cc.n, .int .u8 cc.v.k, .int .i64 cc.v.n, .string cc.v.s, .slice cc.v.la cc.v.ll cc.v.lc, .slice cc.v.oa cc.v.ol cc.v.oc, .string cc.s] t)) w9:=Zi hg (fun b hb=>(hrlt b hb).1) (by rw [World.size_alloc];have:=h.box.lt;omega)
 have hlt:=h.box.lt
 have hb79:Below (w.heap.size+1) w7 w9:=(hba.mono (by omega)).trans hgb
 obtain ⟨s1,s2⟩:=PC.snoc (l:=xs) (cs:=cs) h.cen cm cc
 have hnew:PC (xs++ [cm]) (cs++ [cc]) (only (Free (w.heap.size+1) (.slice a m c)) w7) w7.heap.size xs.length:=s1 _ _ (hm.cmp.sub (Zf fun b hb _=>⟨⟨by omega,fun e=>by have:=(hrlt b e.symm).2;omega⟩,rfl⟩))
 have hpush:=Row.push (PC.closed (xs++ [cm]) (cs++ [cc])) hm.row hba hg (u':= .slice (some ⟨g,0,none⟩) (xs.length+1) cap) (news:=ccells cc) hown (by
  rcases hat with e|e
  .left;rw [e];rfl
  .right;intro b hb;have:g=b:=by simpa [Value.ownBlock] using hb
   omega) hnew s2
 refine ⟨?_,by simp [h.cen],by rw [List.length_append,List.length_singleton];have:=h.few;omega,zg8 h.wt hw,hm.box.keep hb79 (by omega), ?_, ?_,hm.below.trans (hb79.mono (by omega))⟩
 .rw [<-h.rd,hrd,List.append_assoc];rfl
 .refine Z7 hm.val rfl hb79.size fun k hk hl=>⟨⟨by omega,fun e=> ?_⟩, ?_⟩
  .have e2:k=g:=by simpa [Value.ownBlock] using e
   rcases hat with e3|e3
   .have:=(hrlt g e3).2;omega
   .omega
  .refine (hg.block k (by simp;omega) fun e=> ?_).trans (hba.block k hl)
   have:=(hrlt k e.symm).2;omega
 .show Row _ _ _ _ _ _ _ _
  rw [Xb,List.length_append,List.length_singleton]
  exact hpush
theorem zl0 (w:World) (d:CC) (t:TypeId):∀j u,(ccells d)[j]? =some u->(w.alloc (.cells #[.int .u8 d.k, .slice d.pa d.pl d.pc, .string d.key, .int .i64 d.i, .int .i64 d.j, .int .i64 d.n, .int .u8 d.v.k, .int .i64 d.v.n, .string d.v.s, .slice d.v.la d.v.ll d.v.lc, .slice d.v.oa d.v.ol d.v.oc, .string d.s] t)).cell? ((⟨w.heap.size,0,none⟩:Addr).add j)=some u:=
 World.news_of_block (t:=t) (fr:=(0,0)) (heap_alloc_new w (.cells #[.int .u8 d.k, .slice d.pa d.pl d.pc, .string d.key, .int .i64 d.i, .int .i64 d.j, .int .i64 d.n, .int .u8 d.v.k, .int .i64 d.v.n, .string d.v.s, .slice d.v.la d.v.ll d.v.lc, .slice d.v.oa d.v.ol d.v.oc, .string d.s] t))
def AimPost (w:World) (l:List Cm) (e:Ending) (w':World):Prop:=
 (∃a n c,e= .returned (.slice a n c)/\IsComps (only (fun b=>w.heap.size<=b) w') w'.heap.size l a n c)/\Below w.heap.size w w'
end Go.Proofs.YtfoahkbnheijcaaGreatDoor
