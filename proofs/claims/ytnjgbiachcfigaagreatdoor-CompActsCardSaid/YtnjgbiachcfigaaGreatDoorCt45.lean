/-
  Contracts of the functions that the law reaches: conciliatorref06.Do: a text..
-/
import Derived.Test.YtnjgbiachcfigaaGreatDoorCt44
namespace Go.Proofs.YtnjgbiachcfigaaGreatDoor
open Go.RowKit
set_option maxHeartbeats 8000000
set_option maxRecDepth 100000 in
theorem zjx (w:World) (vk vn:Int) (vs:ByteArray) (la:Option Addr) (ll lc:Nat) (oa:Option Addr) (ol oc:Nat) (v:V) (hv:IsVal w w.heap.size v ⟨vk,vn,vs,la,ll,lc,oa,ol,oc⟩) (hw:v.weight<=100000000) (p:List St) (xv:V) (cc:CC) (hcb:cc.Bnd) (hp:IsSteps w w.heap.size p cc.pa cc.pl cc.pc) (hxv:IsVal w w.heap.size xv cc.v) (hxw:xv.weight<=4611686018427387904) (hcs:∀y,getP v p=some y->y.str.size+y.str.size+cc.s.size<=140737488355328) (hT:Tabs w) (he:checkP v ⟨cc.k,p,cc.key,cc.i,cc.j,cc.n,xv,cc.s⟩=0) (hk:cc.k=8∨cc.k=9):
 Calls Tryz.prog 16 #[.agg #[.int .u8 vk, .int .i64 vn, .string vs, .slice la ll lc, .slice oa ol oc], .agg #[.int .u8 cc.k, .slice cc.pa cc.pl cc.pc, .string cc.key, .int .i64 cc.i, .int .i64 cc.j, .int .i64 cc.n, .int .u8 cc.v.k, .int .i64 cc.v.n, .string cc.v.s, .slice cc.v.la cc.v.ll cc.v.lc, .slice cc.v.oa cc.v.ol cc.v.oc, .string cc.s]] w (DoPost w (doP v ⟨cc.k,p,cc.key,cc.i,cc.j,cc.n,xv,cc.s⟩)):=by
 obtain ⟨_,x,hg,hkd⟩:=Z8 he
 dsimp only at hg hkd
 have hxw2:=Z7 p hg
 have hcx:=hcs x hg
 have HCK:Hid (∀W,Below w.heap.size w W->Calls Tryz.prog 34 #[.agg #[.int .u8 vk, .int .i64 vn, .string vs, .slice la ll lc, .slice oa ol oc], .agg #[.int .u8 cc.k, .slice cc.pa cc.pl cc.pc, .string cc.key, .int .i64 cc.i, .int .i64 cc.j, .int .i64 cc.n, .int .u8 cc.v.k, .int .i64 cc.v.n, .string cc.v.s, .slice cc.v.la cc.v.ll cc.v.lc, .slice cc.v.oa cc.v.ol cc.v.oc, .string cc.s]] W fun e w'=>e= .returned (.int .i64 0)/\Below W.heap.size W w'):=fun W hW=>by
  have:=Xx W vk vn vs la ll lc oa ol oc v (hv.later_ hW) (by omega) p xv cc hcb (hp.later_ hW) (hxv.later_ hW) (by omega) (hT.below hW)
  rw [he] at this;exact this
 have HGT:Hid (∀W,Below w.heap.size w W->Calls Tryz.prog 38 #[.agg #[.int .u8 vk, .int .i64 vn, .string vs, .slice la ll lc, .slice oa ol oc], .slice cc.pa cc.pl cc.pc] W (GetPost W (some x))):=fun W hW=>by rw [<-hg];exact Xo W vk vn vs la ll lc oa ol oc v (hv.later_ hW) p cc.pa cc.pl cc.pc (hp.later_ hW)
 have HPT:Hid (∀(W:World) (y:V) (k n:Int) (s:ByteArray) (a:Option Addr) (m c:Nat) (a':Option Addr) (m' c':Nat),Below w.heap.size w W->IsVal W W.heap.size y ⟨k,n,s,a,m,c,a',m',c'⟩->Calls Tryz.prog 51 #[.agg #[.int .u8 vk, .int .i64 vn, .string vs, .slice la ll lc, .slice oa ol oc], .slice cc.pa cc.pl cc.pc, .agg #[.int .u8 k, .int .i64 n, .string s, .slice a m c, .slice a' m' c']] W (GetPost W (putP v p y))):=fun W y k n s a m c a' m' c' hW hy=>Je y k n s a m c a' m' c' p W vk vn vs la ll lc oa ol oc v (hv.later_ hW) cc.pa cc.pl cc.pc (hp.later_ hW) hy
 have hdo:doP v ⟨cc.k,p,cc.key,cc.i,cc.j,cc.n,xv,cc.s⟩=doneQ (putP v p (doneP x ⟨cc.k,p,cc.key,cc.i,cc.j,cc.n,xv,cc.s⟩)):=Yn he hg
 rw [hdo]
 have HB:=qh (DB.start w ⟨vk,vn,vs,la,ll,lc,oa,ol,oc⟩ cc 36 39 36)
 have HTT:=qh hT
 have HXV:=qh hxv
 have HCB:=qh hcb
 have HKD:=qh hkd
 have hsw:=x.str_weight
 obtain ⟨kx,nx,sx,lx,ox,rfl⟩:=x.eta
 dsimp only [V.str,V.ls,V.os] at hsw
 dsimp only [V.str] at hcx
 obtain ⟨Y,hY⟩:∃Y,doneP (.mk kx nx sx lx ox) ⟨cc.k,p,cc.key,cc.i,cc.j,cc.n,xv,cc.s⟩=Y:=⟨_,rfl⟩
 rw [hY]
 obtain ⟨z,hPR⟩:=Ys p hg Y
 rw [hPR,Y9]
 have HY:=qh hY
 have HPR:=qh hPR
 clear hv hp hxv hT hcb hdo hY hPR he hg hkd
 rcases hk with hk|hk
 all_goals
  have HK:=qh hk
  clear hk
  go_enter Tryz.func16,Tryz.ntmps16
  generalize hQ0:bodyPost _ _ _=Q0
  have HQ:=qh hQ0
  clear hQ0
  go_wp2_with fail
  refine (HCK.out _ HB.out.below).mono ?_
  rintro e W ⟨rfl,hb1⟩
  have B:=HB.out.next hb1 (by simp)
  have v0:=B.v.at_ 0 _ rfl;have v1:=B.v.at_ 1 _ rfl;have v2:=B.v.at_ 2 _ rfl;have v3:=B.v.at_ 3 _ rfl;have v4:=B.v.at_ 4 _ rfl
  have b0:=B.c.at_ 0 _ rfl;have b1:=B.c.at_ 1 _ rfl;have b2:=B.c.at_ 2 _ rfl;have b3:=B.c.at_ 3 _ rfl;have b4:=B.c.at_ 4 _ rfl;have b5:=B.c.at_ 5 _ rfl;have b6:=B.c.at_ 6 _ rfl;have b7:=B.c.at_ 7 _ rfl;have b8:=B.c.at_ 8 _ rfl;have b9:=B.c.at_ 9 _ rfl;have b10:=B.c.at_ 10 _ rfl;have b11:=B.c.at_ 11 _ rfl
  have r0:=B.r.at_ 0 _ rfl;have r1:=B.r.at_ 1 _ rfl;have r2:=B.r.at_ 2 _ rfl;have r3:=B.r.at_ 3 _ rfl;have r4:=B.r.at_ 4 _ rfl
  have f0:=B.r.fr 0;have f1:=B.r.fr 1;have f2:=B.r.fr 2;have f3:=B.r.fr 3;have f4:=B.r.fr 4
  have z0:=B.v.lt;have z1:=B.c.lt;have z2:=B.r.lt
  have HBW:=qh B
  clear B hb1
  go_wp2_with fail
  refine (HGT.out _ HBW.out.below).mono ?_
  rintro e W2 ⟨⟨d,rfl,hI⟩,hb2⟩
  have B2:=HBW.out.next hb2 (Nat.succ_le_of_lt z2)
  obtain ⟨e1,e2,e3,hbd,hl,ho⟩:=hI.lists
  subst e1 e2 e3
  clear v0 v1 v2 v3 v4 r0 r1 r2 r3 r4 f0 f1 f2 f3 f4 b0 b1 b2 b3 b4 b5 b6 b7 b8 b9 b10 b11
  have v0:=B2.v.at_ 0 _ rfl;have v1:=B2.v.at_ 1 _ rfl;have v2:=B2.v.at_ 2 _ rfl;have v3:=B2.v.at_ 3 _ rfl;have v4:=B2.v.at_ 4 _ rfl
  have b0:=B2.c.at_ 0 _ rfl;have b1:=B2.c.at_ 1 _ rfl;have b2:=B2.c.at_ 2 _ rfl;have b3:=B2.c.at_ 3 _ rfl;have b4:=B2.c.at_ 4 _ rfl;have b5:=B2.c.at_ 5 _ rfl;have b6:=B2.c.at_ 6 _ rfl;have b7:=B2.c.at_ 7 _ rfl;have b8:=B2.c.at_ 8 _ rfl;have b9:=B2.c.at_ 9 _ rfl;have b10:=B2.c.at_ 10 _ rfl;have b11:=B2.c.at_ 11 _ rfl
  have r0:=B2.r.at_ 0 _ rfl;have r1:=B2.r.at_ 1 _ rfl;have r2:=B2.r.at_ 2 _ rfl;have r3:=B2.r.at_ 3 _ rfl;have r4:=B2.r.at_ 4 _ rfl
  have f0:=B2.r.fr 0;have f1:=B2.r.fr 1;have f2:=B2.r.fr 2;have f3:=B2.r.fr 3;have f4:=B2.r.fr 4
  have z0:=B2.v.lt;have z1:=B2.c.lt;have z2:=B2.r.lt
  have zW:=HBW.out.below.size
  have zW2:=hb2.size
  have z22:=B2.r.lt
  have HB2:=qh B2
  have HI:=qh hI
  have HBD:=qh hbd
  have HL:=qh hl
  have HO:=qh ho
  have HAL:=qh (((Below.refl _ _).alloc (Nat.le_refl _) (.cells #[.int .u8 d.k, .int .i64 d.n, .string d.s, .slice d.la d.ll d.lc, .slice d.oa d.ol d.oc] 36)):Below W2.heap.size W2 _)
  clear B2 hI hbd hl ho hb2
  rw [HK.out] at b0
  have hts:d.s.size<=1000000000000:=by have:=hsw.1;omega
  have htc:tCheck d.s cc.k cc.i cc.n=0:=by
   have hk:=HKD.out
   rw [kindsP,if_neg (by have:=HK.out;omega),if_neg (by have:=HK.out;omega),if_pos (by have:=HK.out;omega)] at hk
   split at hk
   .omega
   .exact hk
  obtain ⟨TD,hTD⟩:∃TD,textDo d.s cc.k cc.i cc.n cc.s=TD:=⟨_,rfl⟩
  have htz:TD.size<=140737488355328:=by
   rw [<-hTD]
   have:=zbk d.s cc.k cc.i cc.n cc.s
   omega
  have HFL:Hid (Calls Tryz.prog 49 #[.string d.s, .agg #[.int .u8 cc.k, .slice cc.pa cc.pl cc.pc, .string cc.key, .int .i64 cc.i, .int .i64 cc.j, .int .i64 cc.n, .int .u8 cc.v.k, .int .i64 cc.v.n, .string cc.v.s, .slice cc.v.la cc.v.ll cc.v.lc, .slice cc.v.oa cc.v.ol cc.v.oc, .string cc.s]] (W2.alloc (.cells #[.int .u8 d.k, .int .i64 d.n, .string d.s, .slice d.la d.ll d.lc, .slice d.oa d.ol d.oc] 36)) fun e w'=>e= .returned (.tuple #[.string TD, .int .i64 0])/\Below (W2.alloc (.cells #[.int .u8 d.k, .int .i64 d.n, .string d.s, .slice d.la d.ll d.lc, .slice d.oa d.ol d.oc] 36)).heap.size (W2.alloc (.cells #[.int .u8 d.k, .int .i64 d.n, .string d.s, .slice d.la d.ll d.lc, .slice d.oa d.ol d.oc] 36)) w'):=by
   have hb3:=HB2.out.below.trans (HAL.out.mono HB2.out.below.size)
   rw [<-hTD]
   exact zla (W2.alloc (.cells #[.int .u8 d.k, .int .i64 d.n, .string d.s, .slice d.la d.ll d.lc, .slice d.oa d.ol d.oc] 36)) d.s cc HCB.out hts (HTT.out.below hb3) htc
  have HTD:=qh hTD
  clear hTD htc
  rw [HK.out] at HFL
  go_wp2_with fail
  refine HFL.out.mono ?_
  rintro e w4 ⟨rfl,hb4⟩
  have hbw4:Below W2.heap.size W2 w4:=HAL.out.trans (hb4.mono (by simp))
  have B4:=HB2.out.next hbw4 (Nat.succ_le_of_lt z2)
  have X4:BC w4 W2.heap.size (vcells d):=(BC.start W2 #[.int .u8 d.k, .int .i64 d.n, .string d.s, .slice d.la d.ll d.lc, .slice d.oa d.ol d.oc] 36).keep hb4 (by simp)
  have x0:=X4.at_ 0 _ rfl;have x1:=X4.at_ 1 _ rfl;have x2:=X4.at_ 2 _ rfl;have x3:=X4.at_ 3 _ rfl;have x4:=X4.at_ 4 _ rfl
  have xf0:=X4.fr 2;have xf1:=X4.fr 3;have xf2:=X4.fr 4
  have xlt:=X4.lt
  clear v0 v1 v2 v3 v4 r0 r1 r2 r3 r4 f0 f1 f2 f3 f4 b0 b1 b2 b3 b4 b5 b6 b7 b8 b9 b10 b11
  have v0:=B4.v.at_ 0 _ rfl;have v1:=B4.v.at_ 1 _ rfl;have v2:=B4.v.at_ 2 _ rfl;have v3:=B4.v.at_ 3 _ rfl;have v4:=B4.v.at_ 4 _ rfl
  have b0:=B4.c.at_ 0 _ rfl;have b1:=B4.c.at_ 1 _ rfl;have b2:=B4.c.at_ 2 _ rfl;have b3:=B4.c.at_ 3 _ rfl;have b4:=B4.c.at_ 4 _ rfl;have b5:=B4.c.at_ 5 _ rfl;have b6:=B4.c.at_ 6 _ rfl;have b7:=B4.c.at_ 7 _ rfl;have b8:=B4.c.at_ 8 _ rfl;have b9:=B4.c.at_ 9 _ rfl;have b10:=B4.c.at_ 10 _ rfl;have b11:=B4.c.at_ 11 _ rfl
  have r0:=B4.r.at_ 0 _ rfl;have r1:=B4.r.at_ 1 _ rfl;have r2:=B4.r.at_ 2 _ rfl;have r3:=B4.r.at_ 3 _ rfl;have r4:=B4.r.at_ 4 _ rfl
  have f0:=B4.r.fr 0;have f1:=B4.r.fr 1;have f2:=B4.r.fr 2;have f3:=B4.r.fr 3;have f4:=B4.r.fr 4
  have z0:=B4.v.lt;have z1:=B4.c.lt;have z2:=B4.r.lt
  have HBW4:=qh hbw4
  clear B4 X4 hb4 hbw4
  go_wp2_with fail
  have hbl4:Below W2.heap.size W2 (w4.setCell ⟨W2.heap.size,2,none⟩ (.string TD)):=HBW4.out.set_ (Nat.le_refl _)
  have hx4:=(HI.out.sub (Zn _ _ _)).later_ hbl4
  obtain ⟨_,_,_,_,hl4,ho4⟩:=hx4.lists
  have HB4:=qh (HB2.out.next hbl4 (Nat.succ_le_of_lt z22))
  have HCALL:Hid (Calls Tryz.prog 51 #[.agg #[.int .u8 vk, .int .i64 vn, .string vs, .slice la ll lc, .slice oa ol oc], .slice cc.pa cc.pl cc.pc, .agg #[.int .u8 d.k, .int .i64 d.n, .string TD, .slice d.la d.ll d.lc, .slice d.oa d.ol d.oc]] (w4.setCell ⟨W2.heap.size,2,none⟩ (.string TD)) (GetPost (w4.setCell ⟨W2.heap.size,2,none⟩ (.string TD)) (some z))):=by
   have:=HPT.out (w4.setCell ⟨W2.heap.size,2,none⟩ (.string TD)) Y d.k d.n TD d.la d.ll d.lc d.oa d.ol d.oc HB4.out.below (by
    have hYe:Y= .mk d.k d.n TD lx ox:=by
     rw [<-HY.out,doneP,if_neg (by have:=HK.out;dsimp only;omega),if_neg (by have:=HK.out;dsimp only;omega),if_pos (by have:=HK.out;dsimp only;omega), <-HTD.out];rfl
    rw [hYe]
    exact Yi HBD.out.k0 HBD.out.k1 HBD.out.n0 HBD.out.n1 htz hl4 ho4)
   rw [HPR.out] at this;exact this
  clear hx4 hl4 ho4
  refine HCALL.out.mono ?_
  rintro e W6 ⟨⟨d6,rfl,hz⟩,hb6⟩
  have B6:=HB4.out.next hb6 (Nat.succ_le_of_lt HB4.out.r.lt)
  clear v0 v1 v2 v3 v4 r0 r1 r2 r3 r4 f0 f1 f2 f3 f4 b0 b1 b2 b3 b4 b5 b6 b7 b8 b9 b10 b11
  have v0:=B6.v.at_ 0 _ rfl;have v1:=B6.v.at_ 1 _ rfl;have v2:=B6.v.at_ 2 _ rfl;have v3:=B6.v.at_ 3 _ rfl;have v4:=B6.v.at_ 4 _ rfl
  have b0:=B6.c.at_ 0 _ rfl;have b1:=B6.c.at_ 1 _ rfl;have b2:=B6.c.at_ 2 _ rfl;have b3:=B6.c.at_ 3 _ rfl;have b4:=B6.c.at_ 4 _ rfl;have b5:=B6.c.at_ 5 _ rfl;have b6:=B6.c.at_ 6 _ rfl;have b7:=B6.c.at_ 7 _ rfl;have b8:=B6.c.at_ 8 _ rfl;have b9:=B6.c.at_ 9 _ rfl;have b10:=B6.c.at_ 10 _ rfl;have b11:=B6.c.at_ 11 _ rfl
  have r0:=B6.r.at_ 0 _ rfl;have r1:=B6.r.at_ 1 _ rfl;have r2:=B6.r.at_ 2 _ rfl;have r3:=B6.r.at_ 3 _ rfl;have r4:=B6.r.at_ 4 _ rfl
  have f0:=B6.r.fr 0;have f1:=B6.r.fr 1;have f2:=B6.r.fr 2;have f3:=B6.r.fr 3;have f4:=B6.r.fr 4
  have z0:=B6.v.lt;have z1:=B6.c.lt;have z2:=B6.r.lt
  have HB6:=qh B6
  have hz4:=HB4.out.below.size
  have hz5:=HB4.out.r.lt
  have HZ:=qh hz
  clear B6 hb6 hz
  go_wp2_with fail
  rw [<-HQ.out]
  have ST:=HB6.out.result d6
  have hst:=Zi W6 (w.heap.size+1+1) 0 d6
  exact Qb (r:=(z,0)) ST.1 ((Zm (base:=w.heap.size+1+1+1) (HZ.out.sub (Ze fun k hk _=>⟨Nat.le_trans (Nat.succ_le_of_lt hz5) hk,rfl⟩)) hst (by omega)).sub (Ze fun k hk _=>⟨by omega,rfl⟩)) ST.2 rfl rfl rfl
set_option maxRecDepth 100000 in
theorem zkq (w:World) (vk vn:Int) (vs:ByteArray) (la:Option Addr) (ll lc:Nat) (oa:Option Addr) (ol oc:Nat) (v:V) (hv:IsVal w w.heap.size v ⟨vk,vn,vs,la,ll,lc,oa,ol,oc⟩) (hw:v.weight<=100000000) (p:List St) (xv:V) (cc:CC) (hcb:cc.Bnd) (hp:IsSteps w w.heap.size p cc.pa cc.pl cc.pc) (hxv:IsVal w w.heap.size xv cc.v) (hxw:xv.weight<=4611686018427387904) (hT:Tabs w) (he:checkP v ⟨cc.k,p,cc.key,cc.i,cc.j,cc.n,xv,cc.s⟩=0) (hk:4<=cc.k/\cc.k<=7):
 Calls Tryz.prog 16 #[.agg #[.int .u8 vk, .int .i64 vn, .string vs, .slice la ll lc, .slice oa ol oc], .agg #[.int .u8 cc.k, .slice cc.pa cc.pl cc.pc, .string cc.key, .int .i64 cc.i, .int .i64 cc.j, .int .i64 cc.n, .int .u8 cc.v.k, .int .i64 cc.v.n, .string cc.v.s, .slice cc.v.la cc.v.ll cc.v.lc, .slice cc.v.oa cc.v.ol cc.v.oc, .string cc.s]] w (DoPost w (doP v ⟨cc.k,p,cc.key,cc.i,cc.j,cc.n,xv,cc.s⟩)):=by
 obtain ⟨_,x,hg,hkd⟩:=Z8 he
 dsimp only at hg hkd
 have hxw2:=Z7 p hg
 have HCK:Hid (∀W,Below w.heap.size w W->Calls Tryz.prog 34 #[.agg #[.int .u8 vk, .int .i64 vn, .string vs, .slice la ll lc, .slice oa ol oc], .agg #[.int .u8 cc.k, .slice cc.pa cc.pl cc.pc, .string cc.key, .int .i64 cc.i, .int .i64 cc.j, .int .i64 cc.n, .int .u8 cc.v.k, .int .i64 cc.v.n, .string cc.v.s, .slice cc.v.la cc.v.ll cc.v.lc, .slice cc.v.oa cc.v.ol cc.v.oc, .string cc.s]] W fun e w'=>e= .returned (.int .i64 0)/\Below W.heap.size W w'):=fun W hW=>by
  have:=Xx W vk vn vs la ll lc oa ol oc v (hv.later_ hW) (by omega) p xv cc hcb (hp.later_ hW) (hxv.later_ hW) (by omega) (hT.below hW)
  rw [he] at this;exact this
 have HGT:Hid (∀W,Below w.heap.size w W->Calls Tryz.prog 38 #[.agg #[.int .u8 vk, .int .i64 vn, .string vs, .slice la ll lc, .slice oa ol oc], .slice cc.pa cc.pl cc.pc] W (GetPost W (some x))):=fun W hW=>by rw [<-hg];exact Xo W vk vn vs la ll lc oa ol oc v (hv.later_ hW) p cc.pa cc.pl cc.pc (hp.later_ hW)
 have HPT:Hid (∀(W:World) (y:V) (k n:Int) (s:ByteArray) (a:Option Addr) (m c:Nat) (a':Option Addr) (m' c':Nat),Below w.heap.size w W->IsVal W W.heap.size y ⟨k,n,s,a,m,c,a',m',c'⟩->Calls Tryz.prog 51 #[.agg #[.int .u8 vk, .int .i64 vn, .string vs, .slice la ll lc, .slice oa ol oc], .slice cc.pa cc.pl cc.pc, .agg #[.int .u8 k, .int .i64 n, .string s, .slice a m c, .slice a' m' c']] W (GetPost W (putP v p y))):=fun W y k n s a m c a' m' c' hW hy=>Je y k n s a m c a' m' c' p W vk vn vs la ll lc oa ol oc v (hv.later_ hW) cc.pa cc.pl cc.pc (hp.later_ hW) hy
 have hdo:doP v ⟨cc.k,p,cc.key,cc.i,cc.j,cc.n,xv,cc.s⟩=doneQ (putP v p (doneP x ⟨cc.k,p,cc.key,cc.i,cc.j,cc.n,xv,cc.s⟩)):=Yn he hg
 rw [hdo]
 have HB:=qh (DB.start w ⟨vk,vn,vs,la,ll,lc,oa,ol,oc⟩ cc 36 39 36)
 have HTT:=qh hT
 have HXV:=qh hxv
 have HCB:=qh hcb
 have HKD:=qh hkd
 have hsw:=x.str_weight
 obtain ⟨kx,nx,sx,lx,ox,rfl⟩:=x.eta
 dsimp only [V.str,V.ls,V.os] at hsw
 obtain ⟨Y,hY⟩:∃Y,doneP (.mk kx nx sx lx ox) ⟨cc.k,p,cc.key,cc.i,cc.j,cc.n,xv,cc.s⟩=Y:=⟨_,rfl⟩
 rw [hY]
 obtain ⟨z,hPR⟩:=Ys p hg Y
 rw [hPR,Y9]
 have HY:=qh hY
 have HPR:=qh hPR
 clear hv hp hxv hT hcb hdo hY hPR he hg hkd
 have HK:=qh hk
 clear hk
 go_enter Tryz.func16,Tryz.ntmps16
 generalize hQ0:bodyPost _ _ _=Q0
 have HQ:=qh hQ0
 clear hQ0
 go_wp2_with fail
 refine (HCK.out _ HB.out.below).mono ?_
 rintro e W ⟨rfl,hb1⟩
 have B:=HB.out.next hb1 (by simp)
 have v0:=B.v.at_ 0 _ rfl;have v1:=B.v.at_ 1 _ rfl;have v2:=B.v.at_ 2 _ rfl;have v3:=B.v.at_ 3 _ rfl;have v4:=B.v.at_ 4 _ rfl
 have b0:=B.c.at_ 0 _ rfl;have b1:=B.c.at_ 1 _ rfl;have b2:=B.c.at_ 2 _ rfl;have b3:=B.c.at_ 3 _ rfl;have b4:=B.c.at_ 4 _ rfl;have b5:=B.c.at_ 5 _ rfl;have b6:=B.c.at_ 6 _ rfl;have b7:=B.c.at_ 7 _ rfl;have b8:=B.c.at_ 8 _ rfl;have b9:=B.c.at_ 9 _ rfl;have b10:=B.c.at_ 10 _ rfl;have b11:=B.c.at_ 11 _ rfl
 have r0:=B.r.at_ 0 _ rfl;have r1:=B.r.at_ 1 _ rfl;have r2:=B.r.at_ 2 _ rfl;have r3:=B.r.at_ 3 _ rfl;have r4:=B.r.at_ 4 _ rfl
 have f0:=B.r.fr 0;have f1:=B.r.fr 1;have f2:=B.r.fr 2;have f3:=B.r.fr 3;have f4:=B.r.fr 4
 have z0:=B.v.lt;have z1:=B.c.lt;have z2:=B.r.lt
 have HBW:=qh B
 clear B hb1
 go_wp2_with fail
 refine (HGT.out _ HBW.out.below).mono ?_
 rintro e W2 ⟨⟨d,rfl,hI⟩,hb2⟩
 have B2:=HBW.out.next hb2 (Nat.succ_le_of_lt z2)
 obtain ⟨e1,e2,e3,hbd,hl,ho⟩:=hI.lists
 subst e1 e2 e3
 clear v0 v1 v2 v3 v4 r0 r1 r2 r3 r4 f0 f1 f2 f3 f4 b0 b1 b2 b3 b4 b5 b6 b7 b8 b9 b10 b11
 have v0:=B2.v.at_ 0 _ rfl;have v1:=B2.v.at_ 1 _ rfl;have v2:=B2.v.at_ 2 _ rfl;have v3:=B2.v.at_ 3 _ rfl;have v4:=B2.v.at_ 4 _ rfl
 have b0:=B2.c.at_ 0 _ rfl;have b1:=B2.c.at_ 1 _ rfl;have b2:=B2.c.at_ 2 _ rfl;have b3:=B2.c.at_ 3 _ rfl;have b4:=B2.c.at_ 4 _ rfl;have b5:=B2.c.at_ 5 _ rfl;have b6:=B2.c.at_ 6 _ rfl;have b7:=B2.c.at_ 7 _ rfl;have b8:=B2.c.at_ 8 _ rfl;have b9:=B2.c.at_ 9 _ rfl;have b10:=B2.c.at_ 10 _ rfl;have b11:=B2.c.at_ 11 _ rfl
 have r0:=B2.r.at_ 0 _ rfl;have r1:=B2.r.at_ 1 _ rfl;have r2:=B2.r.at_ 2 _ rfl;have r3:=B2.r.at_ 3 _ rfl;have r4:=B2.r.at_ 4 _ rfl
 have f0:=B2.r.fr 0;have f1:=B2.r.fr 1;have f2:=B2.r.fr 2;have f3:=B2.r.fr 3;have f4:=B2.r.fr 4
 have z0:=B2.v.lt;have z1:=B2.c.lt;have z2:=B2.r.lt
 have zW:=HBW.out.below.size
 have zW2:=hb2.size
 have z22:=B2.r.lt
 have HB2:=qh B2
 have HI:=qh hI
 have HBD:=qh hbd
 have HL:=qh hl
 have HO:=qh ho
 have HAL:=qh (((Below.refl _ _).alloc (Nat.le_refl _) (.cells #[.int .u8 d.k, .int .i64 d.n, .string d.s, .slice d.la d.ll d.lc, .slice d.oa d.ol d.oc] 36)):Below W2.heap.size W2 _)
 clear B2 hI hbd hl ho hb2
 have hlc:lCheck d.ll cc.k cc.i cc.j=0:=by
  have hk:=HKD.out
  rw [kindsP,if_neg (by have:=HK.out;omega),if_neg (by have:=HK.out;omega),if_neg (by have:=HK.out;omega)] at hk
  split at hk
  .omega
  .rw [HL.out.len];exact hk
 have g1:(cc.k==1)=false:=by have:=HK.out;simp;omega
 have g2:(cc.k==2)=false:=by have:=HK.out;simp;omega
 have g3:(cc.k==3)=false:=by have:=HK.out;simp;omega
 have g8:(cc.k==8)=false:=by have:=HK.out;simp;omega
 have g9:(cc.k==9)=false:=by have:=HK.out;simp;omega
 have HFL:Hid (Calls Tryz.prog 50 #[.slice d.la d.ll d.lc, .agg #[.int .u8 cc.k, .slice cc.pa cc.pl cc.pc, .string cc.key, .int .i64 cc.i, .int .i64 cc.j, .int .i64 cc.n, .int .u8 cc.v.k, .int .i64 cc.v.n, .string cc.v.s, .slice cc.v.la cc.v.ll cc.v.lc, .slice cc.v.oa cc.v.ol cc.v.oc, .string cc.s]] (W2.alloc (.cells #[.int .u8 d.k, .int .i64 d.n, .string d.s, .slice d.la d.ll d.lc, .slice d.oa d.ol d.oc] 36)) (DoLPost (W2.alloc (.cells #[.int .u8 d.k, .int .i64 d.n, .string d.s, .slice d.la d.ll d.lc, .slice d.oa d.ol d.oc] 36)) (listDo lx cc.k cc.i cc.j xv))):=by
  have hb3:=HB2.out.below.trans (HAL.out.mono HB2.out.below.size)
  have hx3:=((HI.out.sub (Zn _ _ _)).later_ HAL.out).lists
  exact zel (W2.alloc (.cells #[.int .u8 d.k, .int .i64 d.n, .string d.s, .slice d.la d.ll d.lc, .slice d.oa d.ol d.oc] 36)) lx d.la d.ll d.lc hx3.2.2.2.2.1 (by have:=HL.out.len;omega) cc xv (HXV.out.later_ hb3) hlc
 clear hlc
 go_wp2_with fail
 refine HFL.out.mono ?_
 rintro e w4 ⟨⟨a4,n4,c4,rfl,hI4⟩,hb4⟩
 have hbw4:Below W2.heap.size W2 w4:=HAL.out.trans (hb4.mono (by simp))
 have B4:=HB2.out.next hbw4 (Nat.succ_le_of_lt z2)
 have X4:BC w4 W2.heap.size (vcells d):=(BC.start W2 #[.int .u8 d.k, .int .i64 d.n, .string d.s, .slice d.la d.ll d.lc, .slice d.oa d.ol d.oc] 36).keep hb4 (by simp)
 have x0:=X4.at_ 0 _ rfl;have x1:=X4.at_ 1 _ rfl;have x2:=X4.at_ 2 _ rfl;have x3:=X4.at_ 3 _ rfl;have x4:=X4.at_ 4 _ rfl
 have xf0:=X4.fr 2;have xf1:=X4.fr 3;have xf2:=X4.fr 4
 have xlt:=X4.lt
 clear v0 v1 v2 v3 v4 r0 r1 r2 r3 r4 f0 f1 f2 f3 f4 b0 b1 b2 b3 b4 b5 b6 b7 b8 b9 b10 b11
 have v0:=B4.v.at_ 0 _ rfl;have v1:=B4.v.at_ 1 _ rfl;have v2:=B4.v.at_ 2 _ rfl;have v3:=B4.v.at_ 3 _ rfl;have v4:=B4.v.at_ 4 _ rfl
 have b0:=B4.c.at_ 0 _ rfl;have b1:=B4.c.at_ 1 _ rfl;have b2:=B4.c.at_ 2 _ rfl;have b3:=B4.c.at_ 3 _ rfl;have b4:=B4.c.at_ 4 _ rfl;have b5:=B4.c.at_ 5 _ rfl;have b6:=B4.c.at_ 6 _ rfl;have b7:=B4.c.at_ 7 _ rfl;have b8:=B4.c.at_ 8 _ rfl;have b9:=B4.c.at_ 9 _ rfl;have b10:=B4.c.at_ 10 _ rfl;have b11:=B4.c.at_ 11 _ rfl
 have r0:=B4.r.at_ 0 _ rfl;have r1:=B4.r.at_ 1 _ rfl;have r2:=B4.r.at_ 2 _ rfl;have r3:=B4.r.at_ 3 _ rfl;have r4:=B4.r.at_ 4 _ rfl
 have f0:=B4.r.fr 0;have f1:=B4.r.fr 1;have f2:=B4.r.fr 2;have f3:=B4.r.fr 3;have f4:=B4.r.fr 4
 have z0:=B4.v.lt;have z1:=B4.c.lt;have z2:=B4.r.lt
 have HBW4:=qh hbw4
 clear B4 X4 hb4 hbw4
 have HI4:=qh hI4
 clear hI4
 go_wp2_with fail
 have hbl4:Below W2.heap.size W2 (w4.setCell ⟨W2.heap.size,3,none⟩ (.slice a4 n4 c4)):=HBW4.out.set_ (Nat.le_refl _)
 have hx4:=(HI.out.sub (Zn _ _ _)).later_ hbl4
 obtain ⟨_,_,_,_,hl4,ho4⟩:=hx4.lists
 have HB4:=qh (HB2.out.next hbl4 (Nat.succ_le_of_lt z22))
 have HCALL:Hid (Calls Tryz.prog 51 #[.agg #[.int .u8 vk, .int .i64 vn, .string vs, .slice la ll lc, .slice oa ol oc], .slice cc.pa cc.pl cc.pc, .agg #[.int .u8 d.k, .int .i64 d.n, .string d.s, .slice a4 n4 c4, .slice d.oa d.ol d.oc]] (w4.setCell ⟨W2.heap.size,3,none⟩ (.slice a4 n4 c4)) (GetPost (w4.setCell ⟨W2.heap.size,3,none⟩ (.slice a4 n4 c4)) (some z))):=by
  have:=HPT.out (w4.setCell ⟨W2.heap.size,3,none⟩ (.slice a4 n4 c4)) Y d.k d.n d.s a4 n4 c4 d.oa d.ol d.oc HB4.out.below (by
   have hYe:Y= .mk d.k d.n d.s (listDo lx cc.k cc.i cc.j xv) ox:=by
    rw [<-HY.out,doneP,if_neg (by have:=HK.out;dsimp only;omega),if_neg (by have:=HK.out;dsimp only;omega),if_neg (by have:=HK.out;dsimp only;omega)];rfl
   have hst:RStep w4 (w4.setCell ⟨W2.heap.size,3,none⟩ (.slice a4 n4 c4)) W2.heap.size:=RStep.self
   rw [hYe]
   exact Yi HBD.out.k0 HBD.out.k1 HBD.out.n0 HBD.out.n1 HBD.out.s1 ((IsVals.sub (fun b o u hb h=>by
    obtain ⟨hs,hc⟩:=Zw h
    exact hst.cell hc (by rw [World.size_alloc] at hs;omega)) HI4.out).more hst.size) ho4)
  rw [HPR.out] at this;exact this
 clear hx4 hl4 ho4
 refine HCALL.out.mono ?_
 rintro e W6 ⟨⟨d6,rfl,hz⟩,hb6⟩
 have B6:=HB4.out.next hb6 (Nat.succ_le_of_lt HB4.out.r.lt)
 clear v0 v1 v2 v3 v4 r0 r1 r2 r3 r4 f0 f1 f2 f3 f4 b0 b1 b2 b3 b4 b5 b6 b7 b8 b9 b10 b11
 have v0:=B6.v.at_ 0 _ rfl;have v1:=B6.v.at_ 1 _ rfl;have v2:=B6.v.at_ 2 _ rfl;have v3:=B6.v.at_ 3 _ rfl;have v4:=B6.v.at_ 4 _ rfl
 have b0:=B6.c.at_ 0 _ rfl;have b1:=B6.c.at_ 1 _ rfl;have b2:=B6.c.at_ 2 _ rfl;have b3:=B6.c.at_ 3 _ rfl;have b4:=B6.c.at_ 4 _ rfl;have b5:=B6.c.at_ 5 _ rfl;have b6:=B6.c.at_ 6 _ rfl;have b7:=B6.c.at_ 7 _ rfl;have b8:=B6.c.at_ 8 _ rfl;have b9:=B6.c.at_ 9 _ rfl;have b10:=B6.c.at_ 10 _ rfl;have b11:=B6.c.at_ 11 _ rfl
 have r0:=B6.r.at_ 0 _ rfl;have r1:=B6.r.at_ 1 _ rfl;have r2:=B6.r.at_ 2 _ rfl;have r3:=B6.r.at_ 3 _ rfl;have r4:=B6.r.at_ 4 _ rfl
 have f0:=B6.r.fr 0;have f1:=B6.r.fr 1;have f2:=B6.r.fr 2;have f3:=B6.r.fr 3;have f4:=B6.r.fr 4
 have z0:=B6.v.lt;have z1:=B6.c.lt;have z2:=B6.r.lt
 have HB6:=qh B6
 have hz4:=HB4.out.below.size
 have hz5:=HB4.out.r.lt
 have HZ:=qh hz
 clear B6 hb6 hz
 go_wp2_with fail
 rw [<-HQ.out]
 have ST:=HB6.out.result d6
 have hst:=Zi W6 (w.heap.size+1+1) 0 d6
 exact Qb (r:=(z,0)) ST.1 ((Zm (base:=w.heap.size+1+1+1) (HZ.out.sub (Ze fun k hk _=>⟨Nat.le_trans (Nat.succ_le_of_lt hz5) hk,rfl⟩)) hst (by omega)).sub (Ze fun k hk _=>⟨by omega,rfl⟩)) ST.2 rfl rfl rfl
theorem zgv (w:World) (vk vn:Int) (vs:ByteArray) (la:Option Addr) (ll lc:Nat) (oa:Option Addr) (ol oc:Nat) (v:V) (hv:IsVal w w.heap.size v ⟨vk,vn,vs,la,ll,lc,oa,ol,oc⟩) (hw:v.weight<=100000000) (p:List St) (xv:V) (cc:CC) (hcb:cc.Bnd) (hp:IsSteps w w.heap.size p cc.pa cc.pl cc.pc) (hxv:IsVal w w.heap.size xv cc.v) (hxw:xv.weight<=4611686018427387904) (hcs:∀y,getP v p=some y->y.str.size+y.str.size+cc.s.size<=140737488355328) (hT:Tabs w):
 Calls Tryz.prog 16 #[.agg #[.int .u8 vk, .int .i64 vn, .string vs, .slice la ll lc, .slice oa ol oc], .agg #[.int .u8 cc.k, .slice cc.pa cc.pl cc.pc, .string cc.key, .int .i64 cc.i, .int .i64 cc.j, .int .i64 cc.n, .int .u8 cc.v.k, .int .i64 cc.v.n, .string cc.v.s, .slice cc.v.la cc.v.ll cc.v.lc, .slice cc.v.oa cc.v.ol cc.v.oc, .string cc.s]] w (DoPost w (doP v ⟨cc.k,p,cc.key,cc.i,cc.j,cc.n,xv,cc.s⟩)):=by
 by_cases he:checkP v ⟨cc.k,p,cc.key,cc.i,cc.j,cc.n,xv,cc.s⟩=0
 .obtain ⟨hs,x,_,hkd⟩:=Z8 he
  have hk1:=zcw hs
  dsimp only at hk1
  by_cases e1:cc.k=1
  .exact zjq w vk vn vs la ll lc oa ol oc v hv hw p xv cc hcb hp hxv hxw hT he e1
  by_cases e2:cc.k=2∨cc.k=3
  .exact zhv w vk vn vs la ll lc oa ol oc v hv hw p xv cc hcb hp hxv hxw hT he e2
  by_cases e3:cc.k=8∨cc.k=9
  .exact zjx w vk vn vs la ll lc oa ol oc v hv hw p xv cc hcb hp hxv hxw hcs hT he e3
  .exact zkq w vk vn vs la ll lc oa ol oc v hv hw p xv cc hcb hp hxv hxw hT he (by omega)
 .exact zhu w vk vn vs la ll lc oa ol oc v hv hw p xv cc hcb hp hxv hxw hT he
structure ActAt (w:World) (b o:Nat) (c:AC):Prop where
 c0:w.cell? ⟨b,o,none⟩=some (.slice c.pa c.pl c.pc)
 c1:w.cell? ⟨b,o+1,none⟩=some (.int .u8 c.k)
 c2:w.cell? ⟨b,o+2,none⟩=some (.int .i64 c.i)
 c3:w.cell? ⟨b,o+3,none⟩=some (.int .i64 c.j)
 c4:w.cell? ⟨b,o+4,none⟩=some (.int .i64 c.n)
 c5:w.cell? ⟨b,o+5,none⟩=some (.string c.s)
 c6:w.cell? ⟨b,o+6,none⟩=some (.slice c.va c.vl c.vc)
theorem ActAt.keep {w w':World} {B b o:Nat} {c:AC} (h:ActAt w b o c) (hb:Below B w w') (hB:b<B):ActAt w' b o c:=
 ⟨Zb hb h.c0 hB,Zb hb h.c1 hB,Zb hb h.c2 hB,Zb hb h.c3 hB,Zb hb h.c4 hB,Zb hb h.c5 hB,Zb hb h.c6 hB⟩
theorem IsAct.keep {w w':World} {B:Nat} {x:Ac} {c:AC} (h:IsAct w B x c) (hb:Below B w w'):IsAct w' B x c:=by
 cases h with
 |mk c p v hbd hp hv=>exact .mk c p v hbd (hp.keep hb) (hv.keep hb)
theorem IsB.more6 {w:World} {B B':Nat} {a:Option Addr} {n c:Nat} {bs:List UInt8} (h:IsB w B a n c bs) (hB:B<=B'):IsB w B' a n c bs:=by
 obtain ⟨h1,h2,h3,b,o,h5,h6⟩:=h
 exact ⟨h1,h2,h3,b,o,fun h=>⟨(h5 h).1,Nat.lt_of_lt_of_le (h5 h).2 hB⟩,h6⟩
theorem IsAct.more {w:World} {B B':Nat} {x:Ac} {c:AC} (h:IsAct w B x c) (hB:B<=B'):IsAct w B' x c:=by
 cases h with
 |mk c p v hbd hp hv=>exact .mk c p v hbd (hp.more6 hB) (hv.more hB)
structure IsActs (w:World) (B:Nat) (l:List Ac) (a:Option Addr) (n c:Nat):Prop where
 len:n=l.length
 cap:n<=c
 max:c<=9223372036854775807
 at_:∃b o,∃f:Nat->AC,(0<n->a=some ⟨b,o,none⟩/\b<B)/\∀i (h:i<l.length),ActAt w b (o+i*7) (f i)/\IsAct w B l[i] (f i)
theorem IsActs.get {w:World} {B:Nat} {l:List Ac} {a:Option Addr} {n c k:Nat} (h:IsActs w B l a n c) (hk:k<n):
 ∃b o,∃f:AC,∃hp:k<l.length,a=some ⟨b,o,none⟩/\b<B/\ActAt w b (o+k*7) f/\IsAct w B l[k] f:=by
 obtain ⟨h1,h2,h3,b,o,f,h5,h6⟩:=h
 exact ⟨b,o,f k,by omega,(h5 (by omega)).1,(h5 (by omega)).2,(h6 k (by omega)).1,(h6 k (by omega)).2⟩
end Go.Proofs.YtnjgbiachcfigaaGreatDoor
