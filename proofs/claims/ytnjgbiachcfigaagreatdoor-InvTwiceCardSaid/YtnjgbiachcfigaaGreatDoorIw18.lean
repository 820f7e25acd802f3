/-
  Contracts of the functions that the law reaches: comp.Do (the program's). What One says.
-/
import Derived.Test.YtnjgbiachcfigaaGreatDoorIw17
namespace Go.Proofs.YtnjgbiachcfigaaGreatDoor
open Go.RowKit
set_option maxHeartbeats 8000000
theorem zmq {x:V} {k i j n:Int} {key:ByteArray} (h:kindsP x k i j n key=0) (hk:k=2∨k=3):x.kd=5/\(k=3->fieldIs x.os key=true):=by
 unfold kindsP at h
 rw [if_neg (by omega),if_pos hk] at h
 split at h
 .omega
 .rename_i e
  refine ⟨by simpa using e,fun e3=> ?_⟩
  cases hf:fieldIs x.os key with
  |true=>rfl
  |false=>rw [if_pos ⟨e3,hf⟩] at h;omega
theorem zkv {x:V} {k i j n:Int} {key:ByteArray} (h:kindsP x k i j n key=0) (hk:k=8∨k=9):x.kd=3/\tCheck x.str k i n=0:=by
 unfold kindsP at h
 rw [if_neg (by omega),if_neg (by omega),if_pos hk] at h
 split at h
 .omega
 .rename_i e;exact ⟨by simpa using e,h⟩
theorem zor {x:V} {k i j n:Int} {key:ByteArray} (h:kindsP x k i j n key=0) (hk:4<=k/\k<=7):x.kd=4/\lCheck x.ls.length k i j=0:=by
 unfold kindsP at h
 rw [if_neg (by omega),if_neg (by omega),if_neg (by omega)] at h
 split at h
 .omega
 .rename_i e;exact ⟨by simpa using e,h⟩
set_option maxRecDepth 100000 in
theorem zje (w:World) (vk vn:Int) (vs:ByteArray) (la:Option Addr) (ll lc:Nat) (oa:Option Addr) (ol oc:Nat) (v:V) (hv:IsVal w w.heap.size v ⟨vk,vn,vs,la,ll,lc,oa,ol,oc⟩) (hw:v.weight<=100000000) (p:List St) (xv:V) (cc:CC) (hcb:cc.Bnd) (hp:IsSteps w w.heap.size p cc.pa cc.pl cc.pc) (hxv:IsVal w w.heap.size xv cc.v) (hxw:xv.weight<=4611686018427387904) (hT:Tabs w) (he:checkP v ⟨cc.k,p,cc.key,cc.i,cc.j,cc.n,xv,cc.s⟩≠0):
 uP 15 #[.agg (uU vk vn vs la ll lc oa ol oc), .agg (uC cc)] w (CDoPost w (doP v ⟨cc.k,p,cc.key,cc.i,cc.j,cc.n,xv,cc.s⟩)):=by
 delta uU uC uP
 have HCK:Hid (∀W,uB w W->uP 35 #[.agg (uU vk vn vs la ll lc oa ol oc), .agg (uC cc)] W fun e w'=>e= .returned (.int .u16 (checkP v ⟨cc.k,p,cc.key,cc.i,cc.j,cc.n,xv,cc.s⟩))/\uB W w'):=qh fun W hW=>Qc W vk vn vs la ll lc oa ol oc v (hv.later_ hW) (by omega) p xv cc hcb (hp.later_ hW) (hxv.later_ hW) (by omega) (hT.below hW)
 have HB:=qh (DB.start w ⟨vk,vn,vs,la,ll,lc,oa,ol,oc⟩ cc 36 39 36)
 have hd:doP v ⟨cc.k,p,cc.key,cc.i,cc.j,cc.n,xv,cc.s⟩=(V.none,checkP v ⟨cc.k,p,cc.key,cc.i,cc.j,cc.n,xv,cc.s⟩):=by rw [doP,if_neg he]
 rw [hd]
 obtain ⟨E,hE⟩:∃E,checkP v ⟨cc.k,p,cc.key,cc.i,cc.j,cc.n,xv,cc.s⟩=E:=⟨_,rfl⟩
 rw [hE] at HCK he ⊢
 have fe:(E !=0)=true:=by simp [he]
 clear hv hp hxv hT hcb hd hE
 go_enter Tryz.func15,Tryz.ntmps15
 generalize hQ0:bodyPost _ _ _=Q0
 have HQ:=qh hQ0
 clear hQ0
 go_wp2_with fail
 refine (HCK.out _ HB.out.below).mono ?_
 rintro e W ⟨rfl,hb1⟩
 have B:=HB.out.next hb1 (by simp)
 obtain ⟨v0,v1,v2,v3,v4⟩:=row5 B.v.at_
 obtain ⟨b0,b1,b2,b3,b4,b5,b6,b7,b8,b9,b10,b11⟩:=row12 B.c.at_
 obtain ⟨r0,r1,r2,r3,r4⟩:=row5 B.r.at_
 have f0:=B.r.fr 0;have f1:=B.r.fr 1;have f2:=B.r.fr 2;have f3:=B.r.fr 3;have f4:=B.r.fr 4
 have z0:=B.v.lt;have z1:=B.c.lt;have z2:=B.r.lt
 have HBW:=qh B
 clear B hb1
 go_wp2_with fail
 rw [<-HQ.out]
 have ST:=HBW.out.result ⟨0,0, { data:= #[] },none,0,0,none,0,0⟩
 exact Je (r:=(V.none,E)) ST.1 (Zq _ _) ST.2 rfl rfl rfl
set_option maxRecDepth 100000 in
theorem zk2 (w:World) (vk vn:Int) (vs:ByteArray) (la:Option Addr) (ll lc:Nat) (oa:Option Addr) (ol oc:Nat) (v:V) (hv:IsVal w w.heap.size v ⟨vk,vn,vs,la,ll,lc,oa,ol,oc⟩) (hw:v.weight<=100000000) (p:List St) (xv:V) (cc:CC) (hcb:cc.Bnd) (hp:IsSteps w w.heap.size p cc.pa cc.pl cc.pc) (hxv:IsVal w w.heap.size xv cc.v) (hxw:xv.weight<=4611686018427387904) (hT:Tabs w) (he:checkP v ⟨cc.k,p,cc.key,cc.i,cc.j,cc.n,xv,cc.s⟩=0) (hk:cc.k=1):
 uP 15 #[.agg (uU vk vn vs la ll lc oa ol oc), .agg (uC cc)] w (CDoPost w (doP v ⟨cc.k,p,cc.key,cc.i,cc.j,cc.n,xv,cc.s⟩)):=by
 delta uU uC uP
 obtain ⟨_,x,hg,hkd⟩:=Zu he
 dsimp only at hg hkd
 have hxw2:=Zz p hg
 have hsw:=x.str_weight.1
 have hlo:=x.str_weight.2
 have HCK:Hid (∀W,uB w W->uP 35 #[.agg (uU vk vn vs la ll lc oa ol oc), .agg (uC cc)] W fun e w'=>e= .returned (.int .u16 0)/\uB W w'):=qh fun W hW=>by
  have:=Qc W vk vn vs la ll lc oa ol oc v (hv.later_ hW) (by omega) p xv cc hcb (hp.later_ hW) (hxv.later_ hW) (by omega) (hT.below hW)
  rw [he] at this;exact this
 have HGT:Hid (∀W,uB w W->uP 42 #[.agg (uU vk vn vs la ll lc oa ol oc), .slice cc.pa cc.pl cc.pc] W fun e W'=>(∃d:VC,e= .returned (.tuple #[.agg #[.int .u8 d.k, .int .i64 d.n, .string d.s, .slice d.la d.ll d.lc, .slice d.oa d.ol d.oc], .int .u16 0])/\Whole W' W.heap.size x d)/\uB W W'):=qh fun W hW=>by
  refine (Qb W v ⟨vk,vn,vs,la,ll,lc,oa,ol,oc⟩ p cc.pa cc.pl cc.pc (hv.later_ hW) (hp.later_ hW)).mono ?_
  rintro e W' ⟨hb,⟨_,hn⟩|⟨x',d,rfl,hg',hW'⟩⟩
  .rw [hn] at hg;cases hg
  .rw [hg] at hg';injection hg' with hg';subst hg'
   exact ⟨⟨d,rfl,hW'⟩,hb⟩
 obtain ⟨Y,hY⟩:∃Y,doneP x ⟨cc.k,p,cc.key,cc.i,cc.j,cc.n,xv,cc.s⟩=Y:=⟨_,rfl⟩
 obtain ⟨z,hPR⟩:=Yn p hg Y
 have HPT:Hid (∀(W:World) (d:VC),uB w W->IsVal W W.heap.size Y d->uP 47 #[.agg (uU vk vn vs la ll lc oa ol oc), .slice cc.pa cc.pl cc.pc, .agg (uV d)] W fun e W'=>(∃d':VC,e= .returned (.tuple #[.agg #[.int .u8 d'.k, .int .i64 d'.n, .string d'.s, .slice d'.la d'.ll d'.lc, .slice d'.oa d'.ol d'.oc], .int .u16 0])/\IsVal (only (fun b=>W.heap.size<=b) W') W'.heap.size z d')/\uB W W'):=qh fun W d hW hy=>by
  refine (Kc W v Y ⟨vk,vn,vs,la,ll,lc,oa,ol,oc⟩ d p cc.pa cc.pl cc.pc (hv.later_ hW) (hp.later_ hW) hy).mono ?_
  rintro e W' ⟨hb,⟨_,hn⟩|⟨z',d',rfl,hg',hW'⟩⟩
  .rw [hn] at hg;cases hg
  .rw [hPR] at hg';injection hg' with hg';subst hg'
   exact ⟨⟨d',rfl,hW'⟩,hb⟩
 have hdo:doP v ⟨cc.k,p,cc.key,cc.i,cc.j,cc.n,xv,cc.s⟩=doneQ (putP v p (doneP x ⟨cc.k,p,cc.key,cc.i,cc.j,cc.n,xv,cc.s⟩)):=Yt he hg
 rw [hdo,hY,hPR,Xf]
 have HB:=qh (DB.start w ⟨vk,vn,vs,la,ll,lc,oa,ol,oc⟩ cc 36 39 36)
 have hxk:=zii hkd hk
 have HMD:Hid (∀(W2 W3:World) (base B:Nat) (d:VC),Mid w W2 W3 base B x d cc xv->uP 43 #[.pointer (some ⟨B,0,none⟩)] W3 (MidPost base W3 B cc Y)):=qh fun W2 W3 base B d h=>by
  have hst:=(Xd (Whole.isVal h.whole)).1
  rw [<-hY]
  exact zjm w W2 W3 base B x d p cc xv h hk
 have HXV:=qh hxv
 have HKD:=qh hxk
 clear hv hp hxv hT hcb hdo hY hPR he hg hkd hxk hk hsw hlo hxw2
 go_enter Tryz.func15,Tryz.ntmps15
 generalize hQ0:bodyPost _ _ _=Q0
 have HQ:=qh hQ0
 clear hQ0
 go_wp2_with fail
 refine (HCK.out _ HB.out.below).mono ?_
 rintro e W ⟨rfl,hb1⟩
 have B:=HB.out.next hb1 (by simp)
 obtain ⟨v0,v1,v2,v3,v4⟩:=row5 B.v.at_
 obtain ⟨b0,b1,b2,b3,b4,b5,b6,b7,b8,b9,b10,b11⟩:=row12 B.c.at_
 obtain ⟨r0,r1,r2,r3,r4⟩:=row5 B.r.at_
 have f0:=B.r.fr 0;have f1:=B.r.fr 1;have f2:=B.r.fr 2;have f3:=B.r.fr 3;have f4:=B.r.fr 4
 have z0:=B.v.lt;have z1:=B.c.lt;have z2:=B.r.lt
 have HBW:=qh B
 clear B hb1
 go_wp2_with fail
 refine (HGT.out _ HBW.out.below).mono ?_
 rintro e W2 ⟨⟨d,rfl,hW⟩,hb2⟩
 have B2:=HBW.out.next hb2 (Nat.succ_le_of_lt z2)
 clear v0 v1 v2 v3 v4 r0 r1 r2 r3 r4 f0 f1 f2 f3 f4 b0 b1 b2 b3 b4 b5 b6 b7 b8 b9 b10 b11
 obtain ⟨v0,v1,v2,v3,v4⟩:=row5 B2.v.at_
 obtain ⟨b0,b1,b2,b3,b4,b5,b6,b7,b8,b9,b10,b11⟩:=row12 B2.c.at_
 obtain ⟨r0,r1,r2,r3,r4⟩:=row5 B2.r.at_
 have f0:=B2.r.fr 0;have f1:=B2.r.fr 1;have f2:=B2.r.fr 2;have f3:=B2.r.fr 3;have f4:=B2.r.fr 4
 have z0:=B2.v.lt;have z1:=B2.c.lt;have z2:=B2.r.lt
 have zW:=HBW.out.below.size
 have zW2:=hb2.size
 have z22:=B2.r.lt
 have HB2:=qh B2
 have hdk:d.k=2:=by rw [<-HKD.out,hW.1];rfl
 have g2:(d.k==2)=true:=by rw [hdk];rfl
 have g5:(d.k==5)=false:=by rw [hdk];rfl
 have g4:(d.k==4)=false:=by rw [hdk];rfl
 have hn1:uB W2 (W2.alloc (.cells #[.int .u8 d.k, .int .i64 d.n, .string d.s, .slice d.la d.ll d.lc, .slice d.oa d.ol d.oc] 36)):=(Below.refl _ _).alloc (Nat.le_refl _) _
 have hn3:uB W2 ((W2.alloc (.cells #[.int .u8 d.k, .int .i64 d.n, .string d.s, .slice d.la d.ll d.lc, .slice d.oa d.ol d.oc] 36)).alloc (.cells #[.int .u8 d.k, .int .i64 d.n, .string d.s, .slice d.la d.ll d.lc, .slice d.oa d.ol d.oc, .int .u8 cc.k, .slice cc.pa cc.pl cc.pc, .string cc.key, .int .i64 cc.i, .int .i64 cc.j, .int .i64 cc.n, .int .u8 cc.v.k, .int .i64 cc.v.n, .string cc.v.s, .slice cc.v.la cc.v.ll cc.v.lc, .slice cc.v.oa cc.v.ol cc.v.oc, .string cc.s] 87)):=hn1.alloc (by rw [World.size_alloc];omega) _
 have hbx:=BC.start (W2.alloc (.cells #[.int .u8 d.k, .int .i64 d.n, .string d.s, .slice d.la d.ll d.lc, .slice d.oa d.ol d.oc] 36)) #[.int .u8 d.k, .int .i64 d.n, .string d.s, .slice d.la d.ll d.lc, .slice d.oa d.ol d.oc, .int .u8 cc.k, .slice cc.pa cc.pl cc.pc, .string cc.key, .int .i64 cc.i, .int .i64 cc.j, .int .i64 cc.n, .int .u8 cc.v.k, .int .i64 cc.v.n, .string cc.v.s, .slice cc.v.la cc.v.ll cc.v.lc, .slice cc.v.oa cc.v.ol cc.v.oc, .string cc.s] 87
 rw [World.size_alloc] at hbx
 have HW3:=qh (HMD.out W2 ((W2.alloc (.cells #[.int .u8 d.k, .int .i64 d.n, .string d.s, .slice d.la d.ll d.lc, .slice d.oa d.ol d.oc] 36)).alloc (.cells #[.int .u8 d.k, .int .i64 d.n, .string d.s, .slice d.la d.ll d.lc, .slice d.oa d.ol d.oc, .int .u8 cc.k, .slice cc.pa cc.pl cc.pc, .string cc.key, .int .i64 cc.i, .int .i64 cc.j, .int .i64 cc.n, .int .u8 cc.v.k, .int .i64 cc.v.n, .string cc.v.s, .slice cc.v.la cc.v.ll cc.v.lc, .slice cc.v.oa cc.v.ol cc.v.oc, .string cc.s] 87)) W.heap.size (W2.heap.size+1) d ⟨hW,hn3,hbx,Nat.le_succ _,zW,zW2,HBW.out.below.trans (hb2.mono zW),HXV.out⟩)
 have HN3:=qh hn3
 clear hdk hn1 hn3 hbx hW B2 hb2
 go_wp2_with fail
 refine HW3.out.mono ?_
 rintro e W4 ⟨rfl,d4,hB4,hI4,hb4⟩
 have B4:=(HB2.out.next HN3.out (Nat.succ_le_of_lt z22)).next hb4 (Nat.succ_le_of_lt HBW.out.r.lt)
 clear v0 v1 v2 v3 v4 r0 r1 r2 r3 r4 f0 f1 f2 f3 f4 b0 b1 b2 b3 b4 b5 b6 b7 b8 b9 b10 b11
 obtain ⟨v0,v1,v2,v3,v4⟩:=row5 B4.v.at_
 obtain ⟨b0,b1,b2,b3,b4,b5,b6,b7,b8,b9,b10,b11⟩:=row12 B4.c.at_
 obtain ⟨r0,r1,r2,r3,r4⟩:=row5 B4.r.at_
 have f0:=B4.r.fr 0;have f1:=B4.r.fr 1;have f2:=B4.r.fr 2;have f3:=B4.r.fr 3;have f4:=B4.r.fr 4
 have z0:=B4.v.lt;have z1:=B4.c.lt;have z2:=B4.r.lt
 have z43:=B4.r.lt
 have HB4:=qh B4
 have HBD4:=qh (B4.below.drew)
 have x0:=hB4.at_ 0 _ rfl;have x1:=hB4.at_ 1 _ rfl;have x2:=hB4.at_ 2 _ rfl;have x3:=hB4.at_ 3 _ rfl;have x4:=hB4.at_ 4 _ rfl
 have xlt:=hB4.lt
 have HPD:Hid (uP 47 #[.agg (uU vk vn vs la ll lc oa ol oc), .slice cc.pa cc.pl cc.pc, .agg (uV d4)] W4.drew fun e W'=>(∃d':VC,e= .returned (.tuple #[.agg #[.int .u8 d'.k, .int .i64 d'.n, .string d'.s, .slice d'.la d'.ll d'.lc, .slice d'.oa d'.ol d'.oc], .int .u16 0])/\IsVal (only (fun b=>W4.drew.heap.size<=b) W') W'.heap.size z d')/\Below W4.drew.heap.size W4.drew W'):=qh (HPT.out W4.drew d4 HBD4.out (hI4.later_ (Zf W4)))
 have mixed:Tryz.prog.follows .mixedOrders=true:=by kernel_rfl
 clear B4 hB4 hI4 hb4 HW3 g2 g5 g4
 go_wp2_with fail
 refine wp_region_noPanic ?_
 go_region_with (go_simp;go_at_call 47;(with_reducible refine HPD.out.mono ?_);rintro e W6 ⟨⟨d6,rfl,hz⟩,hb6⟩;have hb46:uB W4 W6:=(Zf W4).trans hb6;have B6:=HB4.out.next hb46 (Nat.succ_le_of_lt z43);obtain ⟨rr0,rr1,rr2,rr3,rr4⟩:=row5 B6.r.at_;have ff0:=B6.r.fr 0;have ff1:=B6.r.fr 1;have ff2:=B6.r.fr 2;have ff3:=B6.r.fr 3;have ff4:=B6.r.fr 4;have zz6:=B6.r.lt;have HB6:=qh B6;have HZ:Hid (IsVal (only (fun b=>W4.heap.size<=b) W6) W6.heap.size z d6):=qh hz;clear hz hb6 hb46 B6)
 all_goals (
  refine NoPanic.normal ?_
  go_wp2_with fail
  rw [<-HQ.out]
  have ST:=HB6.out.result d6
  have hst:=Zi W6 (w.heap.size+1+1) 0 d6
  exact Je (r:=(z,0)) ST.1 ((Zm (base:=w.heap.size+1+1+1) (HZ.out.sub (Zd fun k hk _=>⟨Nat.le_trans (Nat.succ_le_of_lt z43) hk,rfl⟩)) hst (by omega)).sub (Zd fun k hk _=>⟨by omega,rfl⟩)) ST.2 rfl rfl rfl)
set_option maxRecDepth 100000 in
theorem zjc (w:World) (vk vn:Int) (vs:ByteArray) (la:Option Addr) (ll lc:Nat) (oa:Option Addr) (ol oc:Nat) (v:V) (hv:IsVal w w.heap.size v ⟨vk,vn,vs,la,ll,lc,oa,ol,oc⟩) (hw:v.weight<=100000000) (p:List St) (xv:V) (cc:CC) (hcb:cc.Bnd) (hp:IsSteps w w.heap.size p cc.pa cc.pl cc.pc) (hxv:IsVal w w.heap.size xv cc.v) (hxw:xv.weight<=4611686018427387904) (hsn:v.sound=true) (hT:Tabs w) (he:checkP v ⟨cc.k,p,cc.key,cc.i,cc.j,cc.n,xv,cc.s⟩=0) (hk:cc.k=2∨cc.k=3):
 uP 15 #[.agg (uU vk vn vs la ll lc oa ol oc), .agg (uC cc)] w (CDoPost w (doP v ⟨cc.k,p,cc.key,cc.i,cc.j,cc.n,xv,cc.s⟩)):=by
 delta uU uC uP
 obtain ⟨_,x,hg,hkd⟩:=Zu he
 dsimp only at hg hkd
 have hxw2:=Zz p hg
 have hsw:=x.str_weight.1
 have hlo:=x.str_weight.2
 have HCK:Hid (∀W,uB w W->uP 35 #[.agg (uU vk vn vs la ll lc oa ol oc), .agg (uC cc)] W fun e w'=>e= .returned (.int .u16 0)/\uB W w'):=qh fun W hW=>by
  have:=Qc W vk vn vs la ll lc oa ol oc v (hv.later_ hW) (by omega) p xv cc hcb (hp.later_ hW) (hxv.later_ hW) (by omega) (hT.below hW)
  rw [he] at this;exact this
 have HGT:Hid (∀W,uB w W->uP 42 #[.agg (uU vk vn vs la ll lc oa ol oc), .slice cc.pa cc.pl cc.pc] W fun e W'=>(∃d:VC,e= .returned (.tuple #[.agg #[.int .u8 d.k, .int .i64 d.n, .string d.s, .slice d.la d.ll d.lc, .slice d.oa d.ol d.oc], .int .u16 0])/\Whole W' W.heap.size x d)/\uB W W'):=qh fun W hW=>by
  refine (Qb W v ⟨vk,vn,vs,la,ll,lc,oa,ol,oc⟩ p cc.pa cc.pl cc.pc (hv.later_ hW) (hp.later_ hW)).mono ?_
  rintro e W' ⟨hb,⟨_,hn⟩|⟨x',d,rfl,hg',hW'⟩⟩
  .rw [hn] at hg;cases hg
  .rw [hg] at hg';injection hg' with hg';subst hg'
   exact ⟨⟨d,rfl,hW'⟩,hb⟩
 obtain ⟨Y,hY⟩:∃Y,doneP x ⟨cc.k,p,cc.key,cc.i,cc.j,cc.n,xv,cc.s⟩=Y:=⟨_,rfl⟩
 obtain ⟨z,hPR⟩:=Yn p hg Y
 have HPT:Hid (∀(W:World) (d:VC),uB w W->IsVal W W.heap.size Y d->uP 47 #[.agg (uU vk vn vs la ll lc oa ol oc), .slice cc.pa cc.pl cc.pc, .agg (uV d)] W fun e W'=>(∃d':VC,e= .returned (.tuple #[.agg #[.int .u8 d'.k, .int .i64 d'.n, .string d'.s, .slice d'.la d'.ll d'.lc, .slice d'.oa d'.ol d'.oc], .int .u16 0])/\IsVal (only (fun b=>W.heap.size<=b) W') W'.heap.size z d')/\uB W W'):=qh fun W d hW hy=>by
  refine (Kc W v Y ⟨vk,vn,vs,la,ll,lc,oa,ol,oc⟩ d p cc.pa cc.pl cc.pc (hv.later_ hW) (hp.later_ hW) hy).mono ?_
  rintro e W' ⟨hb,⟨_,hn⟩|⟨z',d',rfl,hg',hW'⟩⟩
  .rw [hn] at hg;cases hg
  .rw [hPR] at hg';injection hg' with hg';subst hg'
   exact ⟨⟨d',rfl,hW'⟩,hb⟩
 have hdo:doP v ⟨cc.k,p,cc.key,cc.i,cc.j,cc.n,xv,cc.s⟩=doneQ (putP v p (doneP x ⟨cc.k,p,cc.key,cc.i,cc.j,cc.n,xv,cc.s⟩)):=Yt he hg
 rw [hdo,hY,hPR,Xf]
 have HB:=qh (DB.start w ⟨vk,vn,vs,la,ll,lc,oa,ol,oc⟩ cc 36 39 36)
 obtain ⟨hxk,hkf⟩:=zmq hkd hk
 have hri:=znd (Kd p hsn hg)
 have HMD:Hid (∀(W2 W3:World) (base B:Nat) (d:VC),Mid w W2 W3 base B x d cc xv->uP 44 #[.pointer (some ⟨B,0,none⟩)] W3 (MidPost base W3 B cc Y)):=qh fun W2 W3 base B d h=>by
  have hst:=(Xd (Whole.isVal h.whole)).1
  rw [<-hY]
  exact zf1 w W2 W3 base B x d p cc xv h hk ⟨by omega,by omega⟩ hri hcb.key1 hkf
 have HXV:=qh hxv
 have HKD:=qh hxk
 clear hv hp hxv hT hcb hdo hY hPR he hg hkd hxk hk hsw hlo hxw2 hkf hri hsn
 go_enter Tryz.func15,Tryz.ntmps15
 generalize hQ0:bodyPost _ _ _=Q0
 have HQ:=qh hQ0
 clear hQ0
 go_wp2_with fail
 refine (HCK.out _ HB.out.below).mono ?_
 rintro e W ⟨rfl,hb1⟩
 have B:=HB.out.next hb1 (by simp)
 obtain ⟨v0,v1,v2,v3,v4⟩:=row5 B.v.at_
 obtain ⟨b0,b1,b2,b3,b4,b5,b6,b7,b8,b9,b10,b11⟩:=row12 B.c.at_
 obtain ⟨r0,r1,r2,r3,r4⟩:=row5 B.r.at_
 have f0:=B.r.fr 0;have f1:=B.r.fr 1;have f2:=B.r.fr 2;have f3:=B.r.fr 3;have f4:=B.r.fr 4
 have z0:=B.v.lt;have z1:=B.c.lt;have z2:=B.r.lt
 have HBW:=qh B
 clear B hb1
 go_wp2_with fail
 refine (HGT.out _ HBW.out.below).mono ?_
 rintro e W2 ⟨⟨d,rfl,hW⟩,hb2⟩
 have B2:=HBW.out.next hb2 (Nat.succ_le_of_lt z2)
 clear v0 v1 v2 v3 v4 r0 r1 r2 r3 r4 f0 f1 f2 f3 f4 b0 b1 b2 b3 b4 b5 b6 b7 b8 b9 b10 b11
 obtain ⟨v0,v1,v2,v3,v4⟩:=row5 B2.v.at_
 obtain ⟨b0,b1,b2,b3,b4,b5,b6,b7,b8,b9,b10,b11⟩:=row12 B2.c.at_
 obtain ⟨r0,r1,r2,r3,r4⟩:=row5 B2.r.at_
 have f0:=B2.r.fr 0;have f1:=B2.r.fr 1;have f2:=B2.r.fr 2;have f3:=B2.r.fr 3;have f4:=B2.r.fr 4
 have z0:=B2.v.lt;have z1:=B2.c.lt;have z2:=B2.r.lt
 have zW:=HBW.out.below.size
 have zW2:=hb2.size
 have z22:=B2.r.lt
 have HB2:=qh B2
 have hdk:d.k=5:=by rw [<-HKD.out,hW.1];rfl
 have g2:(d.k==2)=false:=by rw [hdk];rfl
 have g5:(d.k==5)=true:=by rw [hdk];rfl
 have g4:(d.k==4)=false:=by rw [hdk];rfl
 have hn1:uB W2 (W2.alloc (.cells #[.int .u8 d.k, .int .i64 d.n, .string d.s, .slice d.la d.ll d.lc, .slice d.oa d.ol d.oc] 36)):=(Below.refl _ _).alloc (Nat.le_refl _) _
 have hn3:uB W2 ((W2.alloc (.cells #[.int .u8 d.k, .int .i64 d.n, .string d.s, .slice d.la d.ll d.lc, .slice d.oa d.ol d.oc] 36)).alloc (.cells #[.int .u8 d.k, .int .i64 d.n, .string d.s, .slice d.la d.ll d.lc, .slice d.oa d.ol d.oc, .int .u8 cc.k, .slice cc.pa cc.pl cc.pc, .string cc.key, .int .i64 cc.i, .int .i64 cc.j, .int .i64 cc.n, .int .u8 cc.v.k, .int .i64 cc.v.n, .string cc.v.s, .slice cc.v.la cc.v.ll cc.v.lc, .slice cc.v.oa cc.v.ol cc.v.oc, .string cc.s] 87)):=hn1.alloc (by rw [World.size_alloc];omega) _
 have hbx:=BC.start (W2.alloc (.cells #[.int .u8 d.k, .int .i64 d.n, .string d.s, .slice d.la d.ll d.lc, .slice d.oa d.ol d.oc] 36)) #[.int .u8 d.k, .int .i64 d.n, .string d.s, .slice d.la d.ll d.lc, .slice d.oa d.ol d.oc, .int .u8 cc.k, .slice cc.pa cc.pl cc.pc, .string cc.key, .int .i64 cc.i, .int .i64 cc.j, .int .i64 cc.n, .int .u8 cc.v.k, .int .i64 cc.v.n, .string cc.v.s, .slice cc.v.la cc.v.ll cc.v.lc, .slice cc.v.oa cc.v.ol cc.v.oc, .string cc.s] 87
 rw [World.size_alloc] at hbx
 have HW3:=qh (HMD.out W2 ((W2.alloc (.cells #[.int .u8 d.k, .int .i64 d.n, .string d.s, .slice d.la d.ll d.lc, .slice d.oa d.ol d.oc] 36)).alloc (.cells #[.int .u8 d.k, .int .i64 d.n, .string d.s, .slice d.la d.ll d.lc, .slice d.oa d.ol d.oc, .int .u8 cc.k, .slice cc.pa cc.pl cc.pc, .string cc.key, .int .i64 cc.i, .int .i64 cc.j, .int .i64 cc.n, .int .u8 cc.v.k, .int .i64 cc.v.n, .string cc.v.s, .slice cc.v.la cc.v.ll cc.v.lc, .slice cc.v.oa cc.v.ol cc.v.oc, .string cc.s] 87)) W.heap.size (W2.heap.size+1) d ⟨hW,hn3,hbx,Nat.le_succ _,zW,zW2,HBW.out.below.trans (hb2.mono zW),HXV.out⟩)
 have HN3:=qh hn3
 clear hdk hn1 hn3 hbx hW B2 hb2
 go_wp2_with fail
 refine HW3.out.mono ?_
 rintro e W4 ⟨rfl,d4,hB4,hI4,hb4⟩
 have B4:=(HB2.out.next HN3.out (Nat.succ_le_of_lt z22)).next hb4 (Nat.succ_le_of_lt HBW.out.r.lt)
 clear v0 v1 v2 v3 v4 r0 r1 r2 r3 r4 f0 f1 f2 f3 f4 b0 b1 b2 b3 b4 b5 b6 b7 b8 b9 b10 b11
 obtain ⟨v0,v1,v2,v3,v4⟩:=row5 B4.v.at_
 obtain ⟨b0,b1,b2,b3,b4,b5,b6,b7,b8,b9,b10,b11⟩:=row12 B4.c.at_
 obtain ⟨r0,r1,r2,r3,r4⟩:=row5 B4.r.at_
 have f0:=B4.r.fr 0;have f1:=B4.r.fr 1;have f2:=B4.r.fr 2;have f3:=B4.r.fr 3;have f4:=B4.r.fr 4
 have z0:=B4.v.lt;have z1:=B4.c.lt;have z2:=B4.r.lt
 have z43:=B4.r.lt
 have HB4:=qh B4
 have HBD4:=qh (B4.below.drew)
 have x0:=hB4.at_ 0 _ rfl;have x1:=hB4.at_ 1 _ rfl;have x2:=hB4.at_ 2 _ rfl;have x3:=hB4.at_ 3 _ rfl;have x4:=hB4.at_ 4 _ rfl
 have xlt:=hB4.lt
 have HPD:Hid (uP 47 #[.agg (uU vk vn vs la ll lc oa ol oc), .slice cc.pa cc.pl cc.pc, .agg (uV d4)] W4.drew fun e W'=>(∃d':VC,e= .returned (.tuple #[.agg #[.int .u8 d'.k, .int .i64 d'.n, .string d'.s, .slice d'.la d'.ll d'.lc, .slice d'.oa d'.ol d'.oc], .int .u16 0])/\IsVal (only (fun b=>W4.drew.heap.size<=b) W') W'.heap.size z d')/\Below W4.drew.heap.size W4.drew W'):=qh (HPT.out W4.drew d4 HBD4.out (hI4.later_ (Zf W4)))
 have mixed:Tryz.prog.follows .mixedOrders=true:=by kernel_rfl
 clear B4 hB4 hI4 hb4 HW3 g2 g5 g4
 go_wp2_with fail
 refine wp_region_noPanic ?_
 go_region_with (go_simp;go_at_call 47;(with_reducible refine HPD.out.mono ?_);rintro e W6 ⟨⟨d6,rfl,hz⟩,hb6⟩;have hb46:uB W4 W6:=(Zf W4).trans hb6;have B6:=HB4.out.next hb46 (Nat.succ_le_of_lt z43);obtain ⟨rr0,rr1,rr2,rr3,rr4⟩:=row5 B6.r.at_;have ff0:=B6.r.fr 0;have ff1:=B6.r.fr 1;have ff2:=B6.r.fr 2;have ff3:=B6.r.fr 3;have ff4:=B6.r.fr 4;have zz6:=B6.r.lt;have HB6:=qh B6;have HZ:Hid (IsVal (only (fun b=>W4.heap.size<=b) W6) W6.heap.size z d6):=qh hz;clear hz hb6 hb46 B6)
 all_goals (
  refine NoPanic.normal ?_
  go_wp2_with fail
  rw [<-HQ.out]
  have ST:=HB6.out.result d6
  have hst:=Zi W6 (w.heap.size+1+1) 0 d6
  exact Je (r:=(z,0)) ST.1 ((Zm (base:=w.heap.size+1+1+1) (HZ.out.sub (Zd fun k hk _=>⟨Nat.le_trans (Nat.succ_le_of_lt z43) hk,rfl⟩)) hst (by omega)).sub (Zd fun k hk _=>⟨by omega,rfl⟩)) ST.2 rfl rfl rfl)
set_option maxRecDepth 100000 in
theorem zmf (w:World) (vk vn:Int) (vs:ByteArray) (la:Option Addr) (ll lc:Nat) (oa:Option Addr) (ol oc:Nat) (v:V) (hv:IsVal w w.heap.size v ⟨vk,vn,vs,la,ll,lc,oa,ol,oc⟩) (hw:v.weight<=100000000) (p:List St) (xv:V) (cc:CC) (hcb:cc.Bnd) (hp:IsSteps w w.heap.size p cc.pa cc.pl cc.pc) (hxv:IsVal w w.heap.size xv cc.v) (hxw:xv.weight<=4611686018427387904) (hT:Tabs w) (he:checkP v ⟨cc.k,p,cc.key,cc.i,cc.j,cc.n,xv,cc.s⟩=0) (hk:4<=cc.k/\cc.k<=7):
 uP 15 #[.agg (uU vk vn vs la ll lc oa ol oc), .agg (uC cc)] w (CDoPost w (doP v ⟨cc.k,p,cc.key,cc.i,cc.j,cc.n,xv,cc.s⟩)):=by
 delta uU uC uP
 obtain ⟨_,x,hg,hkd⟩:=Zu he
 dsimp only at hg hkd
 have hxw2:=Zz p hg
 have hsw:=x.str_weight.1
 have hlo:=x.str_weight.2
 have HCK:Hid (∀W,uB w W->uP 35 #[.agg (uU vk vn vs la ll lc oa ol oc), .agg (uC cc)] W fun e w'=>e= .returned (.int .u16 0)/\uB W w'):=qh fun W hW=>by
  have:=Qc W vk vn vs la ll lc oa ol oc v (hv.later_ hW) (by omega) p xv cc hcb (hp.later_ hW) (hxv.later_ hW) (by omega) (hT.below hW)
  rw [he] at this;exact this
 have HGT:Hid (∀W,uB w W->uP 42 #[.agg (uU vk vn vs la ll lc oa ol oc), .slice cc.pa cc.pl cc.pc] W fun e W'=>(∃d:VC,e= .returned (.tuple #[.agg #[.int .u8 d.k, .int .i64 d.n, .string d.s, .slice d.la d.ll d.lc, .slice d.oa d.ol d.oc], .int .u16 0])/\Whole W' W.heap.size x d)/\uB W W'):=qh fun W hW=>by
  refine (Qb W v ⟨vk,vn,vs,la,ll,lc,oa,ol,oc⟩ p cc.pa cc.pl cc.pc (hv.later_ hW) (hp.later_ hW)).mono ?_
  rintro e W' ⟨hb,⟨_,hn⟩|⟨x',d,rfl,hg',hW'⟩⟩
  .rw [hn] at hg;cases hg
  .rw [hg] at hg';injection hg' with hg';subst hg'
   exact ⟨⟨d,rfl,hW'⟩,hb⟩
 obtain ⟨Y,hY⟩:∃Y,doneP x ⟨cc.k,p,cc.key,cc.i,cc.j,cc.n,xv,cc.s⟩=Y:=⟨_,rfl⟩
 obtain ⟨z,hPR⟩:=Yn p hg Y
 have HPT:Hid (∀(W:World) (d:VC),uB w W->IsVal W W.heap.size Y d->uP 47 #[.agg (uU vk vn vs la ll lc oa ol oc), .slice cc.pa cc.pl cc.pc, .agg (uV d)] W fun e W'=>(∃d':VC,e= .returned (.tuple #[.agg #[.int .u8 d'.k, .int .i64 d'.n, .string d'.s, .slice d'.la d'.ll d'.lc, .slice d'.oa d'.ol d'.oc], .int .u16 0])/\IsVal (only (fun b=>W.heap.size<=b) W') W'.heap.size z d')/\uB W W'):=qh fun W d hW hy=>by
  refine (Kc W v Y ⟨vk,vn,vs,la,ll,lc,oa,ol,oc⟩ d p cc.pa cc.pl cc.pc (hv.later_ hW) (hp.later_ hW) hy).mono ?_
  rintro e W' ⟨hb,⟨_,hn⟩|⟨z',d',rfl,hg',hW'⟩⟩
  .rw [hn] at hg;cases hg
  .rw [hPR] at hg';injection hg' with hg';subst hg'
   exact ⟨⟨d',rfl,hW'⟩,hb⟩
 have hdo:doP v ⟨cc.k,p,cc.key,cc.i,cc.j,cc.n,xv,cc.s⟩=doneQ (putP v p (doneP x ⟨cc.k,p,cc.key,cc.i,cc.j,cc.n,xv,cc.s⟩)):=Yt he hg
 rw [hdo,hY,hPR,Xf]
 have HB:=qh (DB.start w ⟨vk,vn,vs,la,ll,lc,oa,ol,oc⟩ cc 36 39 36)
 obtain ⟨hxk,hkl⟩:=zor hkd hk
 have HMD:Hid (∀(W2 W3:World) (base B:Nat) (d:VC),Mid w W2 W3 base B x d cc xv->uP 45 #[.pointer (some ⟨B,0,none⟩)] W3 (MidPost base W3 B cc Y)):=qh fun W2 W3 base B d h=>by
  have hst:=(Xd (Whole.isVal h.whole)).1
  rw [<-hY]
  exact zgx w W2 W3 base B x d p cc xv h hk (by omega) hkl
 have HXV:=qh hxv
 have HKD:=qh hxk
 clear hv hp hxv hT hcb hdo hY hPR he hg hkd hxk hk hsw hlo hxw2 hkl
 go_enter Tryz.func15,Tryz.ntmps15
 generalize hQ0:bodyPost _ _ _=Q0
 have HQ:=qh hQ0
 clear hQ0
 go_wp2_with fail
 refine (HCK.out _ HB.out.below).mono ?_
 rintro e W ⟨rfl,hb1⟩
 have B:=HB.out.next hb1 (by simp)
 obtain ⟨v0,v1,v2,v3,v4⟩:=row5 B.v.at_
 obtain ⟨b0,b1,b2,b3,b4,b5,b6,b7,b8,b9,b10,b11⟩:=row12 B.c.at_
 obtain ⟨r0,r1,r2,r3,r4⟩:=row5 B.r.at_
 have f0:=B.r.fr 0;have f1:=B.r.fr 1;have f2:=B.r.fr 2;have f3:=B.r.fr 3;have f4:=B.r.fr 4
 have z0:=B.v.lt;have z1:=B.c.lt;have z2:=B.r.lt
 have HBW:=qh B
 clear B hb1
 go_wp2_with fail
 refine (HGT.out _ HBW.out.below).mono ?_
 rintro e W2 ⟨⟨d,rfl,hW⟩,hb2⟩
 have B2:=HBW.out.next hb2 (Nat.succ_le_of_lt z2)
 clear v0 v1 v2 v3 v4 r0 r1 r2 r3 r4 f0 f1 f2 f3 f4 b0 b1 b2 b3 b4 b5 b6 b7 b8 b9 b10 b11
 obtain ⟨v0,v1,v2,v3,v4⟩:=row5 B2.v.at_
 obtain ⟨b0,b1,b2,b3,b4,b5,b6,b7,b8,b9,b10,b11⟩:=row12 B2.c.at_
 obtain ⟨r0,r1,r2,r3,r4⟩:=row5 B2.r.at_
 have f0:=B2.r.fr 0;have f1:=B2.r.fr 1;have f2:=B2.r.fr 2;have f3:=B2.r.fr 3;have f4:=B2.r.fr 4
 have z0:=B2.v.lt;have z1:=B2.c.lt;have z2:=B2.r.lt
 have zW:=HBW.out.below.size
 have zW2:=hb2.size
 have z22:=B2.r.lt
 have HB2:=qh B2
 have hdk:d.k=4:=by rw [<-HKD.out,hW.1];rfl
 have g2:(d.k==2)=false:=by rw [hdk];rfl
 have g5:(d.k==5)=false:=by rw [hdk];rfl
 have g4:(d.k==4)=true:=by rw [hdk];rfl
 have hn1:uB W2 (W2.alloc (.cells #[.int .u8 d.k, .int .i64 d.n, .string d.s, .slice d.la d.ll d.lc, .slice d.oa d.ol d.oc] 36)):=(Below.refl _ _).alloc (Nat.le_refl _) _
 have hn3:uB W2 ((W2.alloc (.cells #[.int .u8 d.k, .int .i64 d.n, .string d.s, .slice d.la d.ll d.lc, .slice d.oa d.ol d.oc] 36)).alloc (.cells #[.int .u8 d.k, .int .i64 d.n, .string d.s, .slice d.la d.ll d.lc, .slice d.oa d.ol d.oc, .int .u8 cc.k, .slice cc.pa cc.pl cc.pc, .string cc.key, .int .i64 cc.i, .int .i64 cc.j, .int .i64 cc.n, .int .u8 cc.v.k, .int .i64 cc.v.n, .string cc.v.s, .slice cc.v.la cc.v.ll cc.v.lc, .slice cc.v.oa cc.v.ol cc.v.oc, .string cc.s] 87)):=hn1.alloc (by rw [World.size_alloc];omega) _
 have hbx:=BC.start (W2.alloc (.cells #[.int .u8 d.k, .int .i64 d.n, .string d.s, .slice d.la d.ll d.lc, .slice d.oa d.ol d.oc] 36)) #[.int .u8 d.k, .int .i64 d.n, .string d.s, .slice d.la d.ll d.lc, .slice d.oa d.ol d.oc, .int .u8 cc.k, .slice cc.pa cc.pl cc.pc, .string cc.key, .int .i64 cc.i, .int .i64 cc.j, .int .i64 cc.n, .int .u8 cc.v.k, .int .i64 cc.v.n, .string cc.v.s, .slice cc.v.la cc.v.ll cc.v.lc, .slice cc.v.oa cc.v.ol cc.v.oc, .string cc.s] 87
 rw [World.size_alloc] at hbx
 have HW3:=qh (HMD.out W2 ((W2.alloc (.cells #[.int .u8 d.k, .int .i64 d.n, .string d.s, .slice d.la d.ll d.lc, .slice d.oa d.ol d.oc] 36)).alloc (.cells #[.int .u8 d.k, .int .i64 d.n, .string d.s, .slice d.la d.ll d.lc, .slice d.oa d.ol d.oc, .int .u8 cc.k, .slice cc.pa cc.pl cc.pc, .string cc.key, .int .i64 cc.i, .int .i64 cc.j, .int .i64 cc.n, .int .u8 cc.v.k, .int .i64 cc.v.n, .string cc.v.s, .slice cc.v.la cc.v.ll cc.v.lc, .slice cc.v.oa cc.v.ol cc.v.oc, .string cc.s] 87)) W.heap.size (W2.heap.size+1) d ⟨hW,hn3,hbx,Nat.le_succ _,zW,zW2,HBW.out.below.trans (hb2.mono zW),HXV.out⟩)
 have HN3:=qh hn3
 clear hdk hn1 hn3 hbx hW B2 hb2
 go_wp2_with fail
 refine HW3.out.mono ?_
 rintro e W4 ⟨rfl,d4,hB4,hI4,hb4⟩
 have B4:=(HB2.out.next HN3.out (Nat.succ_le_of_lt z22)).next hb4 (Nat.succ_le_of_lt HBW.out.r.lt)
 clear v0 v1 v2 v3 v4 r0 r1 r2 r3 r4 f0 f1 f2 f3 f4 b0 b1 b2 b3 b4 b5 b6 b7 b8 b9 b10 b11
 obtain ⟨v0,v1,v2,v3,v4⟩:=row5 B4.v.at_
 obtain ⟨b0,b1,b2,b3,b4,b5,b6,b7,b8,b9,b10,b11⟩:=row12 B4.c.at_
 obtain ⟨r0,r1,r2,r3,r4⟩:=row5 B4.r.at_
 have f0:=B4.r.fr 0;have f1:=B4.r.fr 1;have f2:=B4.r.fr 2;have f3:=B4.r.fr 3;have f4:=B4.r.fr 4
 have z0:=B4.v.lt;have z1:=B4.c.lt;have z2:=B4.r.lt
 have z43:=B4.r.lt
 have HB4:=qh B4
 have HBD4:=qh (B4.below.drew)
 have x0:=hB4.at_ 0 _ rfl;have x1:=hB4.at_ 1 _ rfl;have x2:=hB4.at_ 2 _ rfl;have x3:=hB4.at_ 3 _ rfl;have x4:=hB4.at_ 4 _ rfl
 have xlt:=hB4.lt
 have HPD:Hid (uP 47 #[.agg (uU vk vn vs la ll lc oa ol oc), .slice cc.pa cc.pl cc.pc, .agg (uV d4)] W4.drew fun e W'=>(∃d':VC,e= .returned (.tuple #[.agg #[.int .u8 d'.k, .int .i64 d'.n, .string d'.s, .slice d'.la d'.ll d'.lc, .slice d'.oa d'.ol d'.oc], .int .u16 0])/\IsVal (only (fun b=>W4.drew.heap.size<=b) W') W'.heap.size z d')/\Below W4.drew.heap.size W4.drew W'):=qh (HPT.out W4.drew d4 HBD4.out (hI4.later_ (Zf W4)))
 have mixed:Tryz.prog.follows .mixedOrders=true:=by kernel_rfl
 clear B4 hB4 hI4 hb4 HW3 g2 g5 g4
 go_wp2_with fail
 refine wp_region_noPanic ?_
 go_region_with (go_simp;go_at_call 47;(with_reducible refine HPD.out.mono ?_);rintro e W6 ⟨⟨d6,rfl,hz⟩,hb6⟩;have hb46:uB W4 W6:=(Zf W4).trans hb6;have B6:=HB4.out.next hb46 (Nat.succ_le_of_lt z43);obtain ⟨rr0,rr1,rr2,rr3,rr4⟩:=row5 B6.r.at_;have ff0:=B6.r.fr 0;have ff1:=B6.r.fr 1;have ff2:=B6.r.fr 2;have ff3:=B6.r.fr 3;have ff4:=B6.r.fr 4;have zz6:=B6.r.lt;have HB6:=qh B6;have HZ:Hid (IsVal (only (fun b=>W4.heap.size<=b) W6) W6.heap.size z d6):=qh hz;clear hz hb6 hb46 B6)
 all_goals (
  refine NoPanic.normal ?_
  go_wp2_with fail
  rw [<-HQ.out]
  have ST:=HB6.out.result d6
  have hst:=Zi W6 (w.heap.size+1+1) 0 d6
  exact Je (r:=(z,0)) ST.1 ((Zm (base:=w.heap.size+1+1+1) (HZ.out.sub (Zd fun k hk _=>⟨Nat.le_trans (Nat.succ_le_of_lt z43) hk,rfl⟩)) hst (by omega)).sub (Zd fun k hk _=>⟨by omega,rfl⟩)) ST.2 rfl rfl rfl)
set_option maxRecDepth 100000 in
theorem znw (w:World) (vk vn:Int) (vs:ByteArray) (la:Option Addr) (ll lc:Nat) (oa:Option Addr) (ol oc:Nat) (v:V) (hv:IsVal w w.heap.size v ⟨vk,vn,vs,la,ll,lc,oa,ol,oc⟩) (hw:v.weight<=100000000) (p:List St) (xv:V) (cc:CC) (hcb:cc.Bnd) (hp:IsSteps w w.heap.size p cc.pa cc.pl cc.pc) (hxv:IsVal w w.heap.size xv cc.v) (hxw:xv.weight<=4611686018427387904) (hcs:∀y,getP v p=some y->y.str.size+y.str.size+cc.s.size<=140737488355328) (hT:Tabs w) (he:checkP v ⟨cc.k,p,cc.key,cc.i,cc.j,cc.n,xv,cc.s⟩=0) (hk:cc.k=8∨cc.k=9):
 uP 15 #[.agg (uU vk vn vs la ll lc oa ol oc), .agg (uC cc)] w (CDoPost w (doP v ⟨cc.k,p,cc.key,cc.i,cc.j,cc.n,xv,cc.s⟩)):=by
 delta uU uC uP
 obtain ⟨_,x,hg,hkd⟩:=Zu he
 dsimp only at hg hkd
 have hxw2:=Zz p hg
 have hsw:=x.str_weight.1
 have hlo:=x.str_weight.2
 have HCK:Hid (∀W,uB w W->uP 35 #[.agg (uU vk vn vs la ll lc oa ol oc), .agg (uC cc)] W fun e w'=>e= .returned (.int .u16 0)/\uB W w'):=qh fun W hW=>by
  have:=Qc W vk vn vs la ll lc oa ol oc v (hv.later_ hW) (by omega) p xv cc hcb (hp.later_ hW) (hxv.later_ hW) (by omega) (hT.below hW)
  rw [he] at this;exact this
 have HGT:Hid (∀W,uB w W->uP 42 #[.agg (uU vk vn vs la ll lc oa ol oc), .slice cc.pa cc.pl cc.pc] W fun e W'=>(∃d:VC,e= .returned (.tuple #[.agg #[.int .u8 d.k, .int .i64 d.n, .string d.s, .slice d.la d.ll d.lc, .slice d.oa d.ol d.oc], .int .u16 0])/\Whole W' W.heap.size x d)/\uB W W'):=qh fun W hW=>by
  refine (Qb W v ⟨vk,vn,vs,la,ll,lc,oa,ol,oc⟩ p cc.pa cc.pl cc.pc (hv.later_ hW) (hp.later_ hW)).mono ?_
  rintro e W' ⟨hb,⟨_,hn⟩|⟨x',d,rfl,hg',hW'⟩⟩
  .rw [hn] at hg;cases hg
  .rw [hg] at hg';injection hg' with hg';subst hg'
   exact ⟨⟨d,rfl,hW'⟩,hb⟩
 obtain ⟨Y,hY⟩:∃Y,doneP x ⟨cc.k,p,cc.key,cc.i,cc.j,cc.n,xv,cc.s⟩=Y:=⟨_,rfl⟩
 obtain ⟨z,hPR⟩:=Yn p hg Y
 have HPT:Hid (∀(W:World) (d:VC),uB w W->IsVal W W.heap.size Y d->uP 47 #[.agg (uU vk vn vs la ll lc oa ol oc), .slice cc.pa cc.pl cc.pc, .agg (uV d)] W fun e W'=>(∃d':VC,e= .returned (.tuple #[.agg #[.int .u8 d'.k, .int .i64 d'.n, .string d'.s, .slice d'.la d'.ll d'.lc, .slice d'.oa d'.ol d'.oc], .int .u16 0])/\IsVal (only (fun b=>W.heap.size<=b) W') W'.heap.size z d')/\uB W W'):=qh fun W d hW hy=>by
  refine (Kc W v Y ⟨vk,vn,vs,la,ll,lc,oa,ol,oc⟩ d p cc.pa cc.pl cc.pc (hv.later_ hW) (hp.later_ hW) hy).mono ?_
  rintro e W' ⟨hb,⟨_,hn⟩|⟨z',d',rfl,hg',hW'⟩⟩
  .rw [hn] at hg;cases hg
  .rw [hPR] at hg';injection hg' with hg';subst hg'
   exact ⟨⟨d',rfl,hW'⟩,hb⟩
 have hdo:doP v ⟨cc.k,p,cc.key,cc.i,cc.j,cc.n,xv,cc.s⟩=doneQ (putP v p (doneP x ⟨cc.k,p,cc.key,cc.i,cc.j,cc.n,xv,cc.s⟩)):=Yt he hg
 rw [hdo,hY,hPR,Xf]
 have HB:=qh (DB.start w ⟨vk,vn,vs,la,ll,lc,oa,ol,oc⟩ cc 36 39 36)
 obtain ⟨hxk,hkt⟩:=zkv hkd hk
 have hcx:=hcs x hg
 have HMD:Hid (∀(W2 W3:World) (base B:Nat) (d:VC),Mid w W2 W3 base B x d cc xv->uP 46 #[.pointer (some ⟨B,0,none⟩)] W3 (MidPost base W3 B cc Y)):=qh fun W2 W3 base B d h=>by
  have hst:=(Xd (Whole.isVal h.whole)).1
  rw [<-hY]
  exact zqe w W2 W3 base B x d p cc xv h hk hcb (by rw [<-hst];omega) (by rw [<-hst];omega) hkt
 have HXV:=qh hxv
 have HKD:=qh hxk
 clear hv hp hxv hT hcb hdo hY hPR he hg hkd hxk hk hsw hlo hxw2 hkt hcx hcs
 go_enter Tryz.func15,Tryz.ntmps15
 generalize hQ0:bodyPost _ _ _=Q0
 have HQ:=qh hQ0
 clear hQ0
 go_wp2_with fail
 refine (HCK.out _ HB.out.below).mono ?_
 rintro e W ⟨rfl,hb1⟩
 have B:=HB.out.next hb1 (by simp)
 obtain ⟨v0,v1,v2,v3,v4⟩:=row5 B.v.at_
 obtain ⟨b0,b1,b2,b3,b4,b5,b6,b7,b8,b9,b10,b11⟩:=row12 B.c.at_
 obtain ⟨r0,r1,r2,r3,r4⟩:=row5 B.r.at_
 have f0:=B.r.fr 0;have f1:=B.r.fr 1;have f2:=B.r.fr 2;have f3:=B.r.fr 3;have f4:=B.r.fr 4
 have z0:=B.v.lt;have z1:=B.c.lt;have z2:=B.r.lt
 have HBW:=qh B
 clear B hb1
 go_wp2_with fail
 refine (HGT.out _ HBW.out.below).mono ?_
 rintro e W2 ⟨⟨d,rfl,hW⟩,hb2⟩
 have B2:=HBW.out.next hb2 (Nat.succ_le_of_lt z2)
 clear v0 v1 v2 v3 v4 r0 r1 r2 r3 r4 f0 f1 f2 f3 f4 b0 b1 b2 b3 b4 b5 b6 b7 b8 b9 b10 b11
 obtain ⟨v0,v1,v2,v3,v4⟩:=row5 B2.v.at_
 obtain ⟨b0,b1,b2,b3,b4,b5,b6,b7,b8,b9,b10,b11⟩:=row12 B2.c.at_
 obtain ⟨r0,r1,r2,r3,r4⟩:=row5 B2.r.at_
 have f0:=B2.r.fr 0;have f1:=B2.r.fr 1;have f2:=B2.r.fr 2;have f3:=B2.r.fr 3;have f4:=B2.r.fr 4
 have z0:=B2.v.lt;have z1:=B2.c.lt;have z2:=B2.r.lt
 have zW:=HBW.out.below.size
 have zW2:=hb2.size
 have z22:=B2.r.lt
 have HB2:=qh B2
 have hdk:d.k=3:=by rw [<-HKD.out,hW.1];rfl
 have g2:(d.k==2)=false:=by rw [hdk];rfl
 have g5:(d.k==5)=false:=by rw [hdk];rfl
 have g4:(d.k==4)=false:=by rw [hdk];rfl
 have hn1:uB W2 (W2.alloc (.cells #[.int .u8 d.k, .int .i64 d.n, .string d.s, .slice d.la d.ll d.lc, .slice d.oa d.ol d.oc] 36)):=(Below.refl _ _).alloc (Nat.le_refl _) _
 have hn3:uB W2 ((W2.alloc (.cells #[.int .u8 d.k, .int .i64 d.n, .string d.s, .slice d.la d.ll d.lc, .slice d.oa d.ol d.oc] 36)).alloc (.cells #[.int .u8 d.k, .int .i64 d.n, .string d.s, .slice d.la d.ll d.lc, .slice d.oa d.ol d.oc, .int .u8 cc.k, .slice cc.pa cc.pl cc.pc, .string cc.key, .int .i64 cc.i, .int .i64 cc.j, .int .i64 cc.n, .int .u8 cc.v.k, .int .i64 cc.v.n, .string cc.v.s, .slice cc.v.la cc.v.ll cc.v.lc, .slice cc.v.oa cc.v.ol cc.v.oc, .string cc.s] 87)):=hn1.alloc (by rw [World.size_alloc];omega) _
 have hbx:=BC.start (W2.alloc (.cells #[.int .u8 d.k, .int .i64 d.n, .string d.s, .slice d.la d.ll d.lc, .slice d.oa d.ol d.oc] 36)) #[.int .u8 d.k, .int .i64 d.n, .string d.s, .slice d.la d.ll d.lc, .slice d.oa d.ol d.oc, .int .u8 cc.k, .slice cc.pa cc.pl cc.pc, .string cc.key, .int .i64 cc.i, .int .i64 cc.j, .int .i64 cc.n, .int .u8 cc.v.k, .int .i64 cc.v.n, .string cc.v.s, .slice cc.v.la cc.v.ll cc.v.lc, .slice cc.v.oa cc.v.ol cc.v.oc, .string cc.s] 87
 rw [World.size_alloc] at hbx
 have HW3:=qh (HMD.out W2 ((W2.alloc (.cells #[.int .u8 d.k, .int .i64 d.n, .string d.s, .slice d.la d.ll d.lc, .slice d.oa d.ol d.oc] 36)).alloc (.cells #[.int .u8 d.k, .int .i64 d.n, .string d.s, .slice d.la d.ll d.lc, .slice d.oa d.ol d.oc, .int .u8 cc.k, .slice cc.pa cc.pl cc.pc, .string cc.key, .int .i64 cc.i, .int .i64 cc.j, .int .i64 cc.n, .int .u8 cc.v.k, .int .i64 cc.v.n, .string cc.v.s, .slice cc.v.la cc.v.ll cc.v.lc, .slice cc.v.oa cc.v.ol cc.v.oc, .string cc.s] 87)) W.heap.size (W2.heap.size+1) d ⟨hW,hn3,hbx,Nat.le_succ _,zW,zW2,HBW.out.below.trans (hb2.mono zW),HXV.out⟩)
 have HN3:=qh hn3
 clear hdk hn1 hn3 hbx hW B2 hb2
 go_wp2_with fail
 refine HW3.out.mono ?_
 rintro e W4 ⟨rfl,d4,hB4,hI4,hb4⟩
 have B4:=(HB2.out.next HN3.out (Nat.succ_le_of_lt z22)).next hb4 (Nat.succ_le_of_lt HBW.out.r.lt)
 clear v0 v1 v2 v3 v4 r0 r1 r2 r3 r4 f0 f1 f2 f3 f4 b0 b1 b2 b3 b4 b5 b6 b7 b8 b9 b10 b11
 obtain ⟨v0,v1,v2,v3,v4⟩:=row5 B4.v.at_
 obtain ⟨b0,b1,b2,b3,b4,b5,b6,b7,b8,b9,b10,b11⟩:=row12 B4.c.at_
 obtain ⟨r0,r1,r2,r3,r4⟩:=row5 B4.r.at_
 have f0:=B4.r.fr 0;have f1:=B4.r.fr 1;have f2:=B4.r.fr 2;have f3:=B4.r.fr 3;have f4:=B4.r.fr 4
 have z0:=B4.v.lt;have z1:=B4.c.lt;have z2:=B4.r.lt
 have z43:=B4.r.lt
 have HB4:=qh B4
 have HBD4:=qh (B4.below.drew)
 have x0:=hB4.at_ 0 _ rfl;have x1:=hB4.at_ 1 _ rfl;have x2:=hB4.at_ 2 _ rfl;have x3:=hB4.at_ 3 _ rfl;have x4:=hB4.at_ 4 _ rfl
 have xlt:=hB4.lt
 have HPD:Hid (uP 47 #[.agg (uU vk vn vs la ll lc oa ol oc), .slice cc.pa cc.pl cc.pc, .agg (uV d4)] W4.drew fun e W'=>(∃d':VC,e= .returned (.tuple #[.agg #[.int .u8 d'.k, .int .i64 d'.n, .string d'.s, .slice d'.la d'.ll d'.lc, .slice d'.oa d'.ol d'.oc], .int .u16 0])/\IsVal (only (fun b=>W4.drew.heap.size<=b) W') W'.heap.size z d')/\Below W4.drew.heap.size W4.drew W'):=qh (HPT.out W4.drew d4 HBD4.out (hI4.later_ (Zf W4)))
 have mixed:Tryz.prog.follows .mixedOrders=true:=by kernel_rfl
 clear B4 hB4 hI4 hb4 HW3 g2 g5 g4
 go_wp2_with fail
 refine wp_region_noPanic ?_
 go_region_with (go_simp;go_at_call 47;(with_reducible refine HPD.out.mono ?_);rintro e W6 ⟨⟨d6,rfl,hz⟩,hb6⟩;have hb46:uB W4 W6:=(Zf W4).trans hb6;have B6:=HB4.out.next hb46 (Nat.succ_le_of_lt z43);obtain ⟨rr0,rr1,rr2,rr3,rr4⟩:=row5 B6.r.at_;have ff0:=B6.r.fr 0;have ff1:=B6.r.fr 1;have ff2:=B6.r.fr 2;have ff3:=B6.r.fr 3;have ff4:=B6.r.fr 4;have zz6:=B6.r.lt;have HB6:=qh B6;have HZ:Hid (IsVal (only (fun b=>W4.heap.size<=b) W6) W6.heap.size z d6):=qh hz;clear hz hb6 hb46 B6)
 all_goals (
  refine NoPanic.normal ?_
  go_wp2_with fail
  rw [<-HQ.out]
  have ST:=HB6.out.result d6
  have hst:=Zi W6 (w.heap.size+1+1) 0 d6
  exact Je (r:=(z,0)) ST.1 ((Zm (base:=w.heap.size+1+1+1) (HZ.out.sub (Zd fun k hk _=>⟨Nat.le_trans (Nat.succ_le_of_lt z43) hk,rfl⟩)) hst (by omega)).sub (Zd fun k hk _=>⟨by omega,rfl⟩)) ST.2 rfl rfl rfl)
theorem zh1 (w:World) (vk vn:Int) (vs:ByteArray) (la:Option Addr) (ll lc:Nat) (oa:Option Addr) (ol oc:Nat) (v:V) (hv:IsVal w w.heap.size v ⟨vk,vn,vs,la,ll,lc,oa,ol,oc⟩) (hw:v.weight<=100000000) (p:List St) (xv:V) (cc:CC) (hcb:cc.Bnd) (hp:IsSteps w w.heap.size p cc.pa cc.pl cc.pc) (hxv:IsVal w w.heap.size xv cc.v) (hxw:xv.weight<=4611686018427387904) (hcs:∀y,getP v p=some y->y.str.size+y.str.size+cc.s.size<=140737488355328) (hsn:v.sound=true) (hT:Tabs w):
 uP 15 #[.agg (uU vk vn vs la ll lc oa ol oc), .agg (uC cc)] w (CDoPost w (doP v ⟨cc.k,p,cc.key,cc.i,cc.j,cc.n,xv,cc.s⟩)):=by
 delta uU uC uP
 by_cases he:checkP v ⟨cc.k,p,cc.key,cc.i,cc.j,cc.n,xv,cc.s⟩=0
 .obtain ⟨hs,x,_,hkd⟩:=Zu he
  have hk1:=Qq hs
  dsimp only at hk1
  by_cases e1:cc.k=1
  .exact zk2 w vk vn vs la ll lc oa ol oc v hv hw p xv cc hcb hp hxv hxw hT he e1
  by_cases e2:cc.k=2∨cc.k=3
  .exact zjc w vk vn vs la ll lc oa ol oc v hv hw p xv cc hcb hp hxv hxw hsn hT he e2
  by_cases e8:cc.k=8∨cc.k=9
  .exact znw w vk vn vs la ll lc oa ol oc v hv hw p xv cc hcb hp hxv hxw hcs hT he e8
  exact zmf w vk vn vs la ll lc oa ol oc v hv hw p xv cc hcb hp hxv hxw hT he (by omega)
 .exact zje w vk vn vs la ll lc oa ol oc v hv hw p xv cc hcb hp hxv hxw hT he
theorem Xu {c:Cm} (hk:kIs c.k=true) (hb:c.bare=⟨c.k,c.path, .empty,0,0,0,V.none, .empty⟩) (hp:pathSound c.path=true) (h1:Lib.validD c.key.data.toList=true) (h2:Lib.validD c.s.data.toList=true) (hi:0<=c.i) (hj:0<=c.j) (h8:c.k=8->c.s.toList≠ []) (h9:c.k=9->1<=c.n) (hv:c.v.sound=true) (hd:c.path.length+1+c.v.deep<=16) (hw:c.v.weight<=20000):cmSound c=true:=by
 unfold cmSound
 rw [hk,Ys hb,hp,h1,h2,decide_eq_true hi,decide_eq_true hj,hv,decide_eq_true hd,decide_eq_true hw]
 have e8:(c.k==8 && c.s.toList.isEmpty)=false:=by
  by_cases e:c.k=8
  .have:=h8 e
   cases hq:c.s.toList with
   |nil=>exact absurd hq this
   |cons a b=>simp
  .simp [e]
 have e9:(c.k==9 && decide (c.n<1))=false:=by
  by_cases e:c.k=9
  .have:=h9 e;simp;omega
  .simp [e]
 rw [e8,e9];rfl
theorem zeu:V.none.deep<=1:=by simp [V.none,V.deep,deepL,deepO]
theorem Xe {v x:V} {c:Cm} (hs:cmSound c=true) (hg:getP v c.path=some x) (hk:kindsP x c.k c.i c.j c.n c.key=0):checkP v c=0:=by
 unfold checkP
 rw [hs,if_neg (by simp)]
 simp only [hg]
 exact hk
def kA:ByteArray:= { data:= #[97] }
def kvI (n:Int):V:= .mk 2 n .empty [] []
def kvV:V:= .mk 5 0 .empty [] [(kA,kvI 1)]
theorem zem (n:Int):(kvI n).sound=true:=Zy.2 ⟨by simp [plainB,ByteArray.toList_eq],by rfl,(fun v h=>by cases h),(fun f h=>by cases h)⟩
theorem zas:Lib.validD kA.data.toList=true:=zab (fun b h=>by simp [kA] at h;subst h;decide)
theorem zky:kvV.sound=true:=Zy.2 ⟨by simp [plainB,ByteArray.toList_eq],by rfl,(fun v h=>by cases h),(fun f h=>by
 rw [List.mem_singleton] at h;subst h;exact ⟨zas,zem 1⟩)⟩
theorem zcj:kvV.weight=3:=by
 have:kA.size=1:=rfl
 simp [kvV,kvI,V.weight,weightL,weightO,weightF,this]
theorem zl7:Op.bytesLess kA.toList kA.toList=false:=by rw [ByteArray.toList_eq];rfl
theorem zde:fieldK [(kA,kvI 1)] kA=0/\fieldIs [(kA,kvI 1)] kA=true:=by
 have h1:fieldK [(kA,kvI 1)] kA=0:=by unfold fieldK;rw [List.takeWhile_cons,if_neg (by rw [zl7];simp)];rfl
 exact ⟨h1,by unfold fieldIs;rw [h1];simp⟩
theorem Q5 (w:World) (B:Nat) (k n:Int) (hk:0<=k/\k<256) (hn: -9223372036854775808<=n/\n<=9223372036854775807):IsVal w B (.mk k n .empty [] []) ⟨k,n, .empty,none,0,0,none,0,0⟩:=
 Y3 hk.1 hk.2 hn.1 hn.2 (by decide) ⟨rfl,by decide,by decide,by decide,0,0,fun _=>vzero,fun h=>absurd h (by decide),fun i h=>absurd h (by simp)⟩ (zay w B)
theorem zd1 (W:World) (b:Nat) (h:BC W b (fcells (kA,⟨2,1, .empty,none,0,0,none,0,0⟩))):IsVal W W.heap.size kvV ⟨5,0, .empty,none,0,0,some ⟨b,0,none⟩,1,1⟩:=
 Y3 (by decide) (by decide) (by decide) (by decide) (by decide) ⟨rfl,by decide,by decide,by decide,0,0,fun _=>vzero,fun h=>absurd h (by decide),fun i h=>absurd h (by simp)⟩ ⟨rfl,by decide,by decide,by decide,b,0,fun _=>⟨2,1, .empty,none,0,0,none,0,0⟩,fun _=>⟨rfl,h.lt⟩,fun i hi=>by
  have h0:i=0:=by simpa using hi
  subst h0
  exact ⟨h.at_ 0 _ rfl,(show kA.size<=140737488355328 by decide),⟨h.at_ 1 _ rfl,h.at_ 2 _ rfl,h.at_ 3 _ rfl,h.at_ 4 _ rfl,h.at_ 5 _ rfl⟩,Q5 W _ 2 1 (by decide) (by decide)⟩⟩
theorem Z2 {W W':World} {S S':Nat->Prop} {B:Nat} {x:V} {c:VC} (h:IsVal (only S W) B x c) (hB:B=W.heap.size) (hz:W.heap.size<=W'.heap.size) (hs:∀k,S k->k<W.heap.size->S' k/\W'.heap[k]? =W.heap[k]?):IsVal (only S' W') W'.heap.size x c:=by
 subst hB;exact (h.sub (Zd hs)).more hz
def setC (W:World) (b:Nat) (d:CC):World:=((((((((((((W.setCell ⟨b,0,none⟩ (.int .u8 d.k)).setCell ⟨b,1,none⟩ (.slice d.pa d.pl d.pc)).setCell ⟨b,2,none⟩ (.string d.key)).setCell ⟨b,3,none⟩ (.int .i64 d.i)).setCell ⟨b,4,none⟩ (.int .i64 d.j)).setCell ⟨b,5,none⟩ (.int .i64 d.n)).setCell ⟨b,6,none⟩ (.int .u8 d.v.k)).setCell ⟨b,7,none⟩ (.int .i64 d.v.n)).setCell ⟨b,8,none⟩ (.string d.v.s)).setCell ⟨b,9,none⟩ (.slice d.v.la d.v.ll d.v.lc)).setCell ⟨b,10,none⟩ (.slice d.v.oa d.v.ol d.v.oc)).setCell ⟨b,11,none⟩ (.string d.s))
theorem Yk (W:World) (b:Nat) (d:CC):RStep W (setC W b d) b:=Xz W b d
theorem za1:(Tryz.prog.info? 39).map (fun i=>(i.zero,i.size,i.bytes))=some (some (.agg #[.int .u8 0, .slice none 0 0, .string { data:= #[] }, .int .i64 0, .int .i64 0, .int .i64 0, .int .u8 0, .int .i64 0, .string { data:= #[] }, .slice none 0 0, .slice none 0 0, .string { data:= #[] }]),12,168):=by kernel_rfl
structure ActAt (w:World) (b o:Nat) (c:AC):Prop where
 c0:w.cell? ⟨b,o,none⟩=some (.slice c.pa c.pl c.pc)
 c1:w.cell? ⟨b,o+1,none⟩=some (.int .u8 c.k)
 c2:w.cell? ⟨b,o+2,none⟩=some (.int .i64 c.i)
 c3:w.cell? ⟨b,o+3,none⟩=some (.int .i64 c.j)
 c4:w.cell? ⟨b,o+4,none⟩=some (.int .i64 c.n)
 c5:w.cell? ⟨b,o+5,none⟩=some (.string c.s)
 c6:w.cell? ⟨b,o+6,none⟩=some (.slice c.va c.vl c.vc)
theorem ActAt.keep {w w':World} {B b o:Nat} {c:AC} (h:ActAt w b o c) (hb:Below B w w') (hB:b<B):ActAt w' b o c:=
 ⟨Za hb h.c0 hB,Za hb h.c1 hB,Za hb h.c2 hB,Za hb h.c3 hB,Za hb h.c4 hB,Za hb h.c5 hB,Za hb h.c6 hB⟩
theorem IsAct.keep {w w':World} {B:Nat} {x:Ac} {c:AC} (h:IsAct w B x c) (hb:Below B w w'):IsAct w' B x c:=by
 cases h with
 |mk c p v hbd hp hv=>exact .mk c p v hbd (hp.keep hb) (hv.keep hb)
theorem IsB.more6 {w:World} {B B':Nat} {a:Option Addr} {n c:Nat} {bs:List UInt8} (h:IsB w B a n c bs) (hB:B<=B'):IsB w B' a n c bs:=by
 obtain ⟨h1,h2,h3,b,o,h5,h6⟩:=h
 exact ⟨h1,h2,h3,b,o,fun h=>⟨(h5 h).1,Nat.lt_of_lt_of_le (h5 h).2 hB⟩,h6⟩
theorem IsAct.more {w:World} {B B':Nat} {x:Ac} {c:AC} (h:IsAct w B x c) (hB:B<=B'):IsAct w B' x c:=by
 cases h with
 |mk c p v hbd hp hv=>exact .mk c p v hbd (hp.more6 hB) (hv.more hB)
structure IsActs (w:World) (B:Nat) (l:List Ac) (a:Option Addr) (n c:Nat):Prop where
 len:n=l.length
 cap:n<=c
 max:c<=9223372036854775807
 at_:∃b o,∃f:Nat->AC,(0<n->a=some ⟨b,o,none⟩/\b<B)/\∀i (h:i<l.length),ActAt w b (o+i*7) (f i)/\IsAct w B l[i] (f i)
theorem IsActs.keep {w w':World} {B:Nat} {l:List Ac} {a:Option Addr} {n c:Nat} (h:IsActs w B l a n c) (hb:Below B w w'):IsActs w' B l a n c:=by
 obtain ⟨h1,h2,h3,b,o,f,h5,h6⟩:=h
 exact ⟨h1,h2,h3,b,o,f,h5,fun i hi=>⟨(h6 i hi).1.keep hb (h5 (by omega)).2,(h6 i hi).2.keep hb⟩⟩
theorem IsActs.later_ {w w':World} {l:List Ac} {a:Option Addr} {n c:Nat} (h:IsActs w w.heap.size l a n c) (hb:uB w w'):IsActs w' w'.heap.size l a n c:=by
 obtain ⟨h1,h2,h3,b,o,f,h5,h6⟩:=h.keep hb
 exact ⟨h1,h2,h3,b,o,f,fun hn=>⟨(h5 hn).1,Nat.lt_of_lt_of_le (h5 hn).2 hb.size⟩,fun i hi=>⟨(h6 i hi).1,(h6 i hi).2.more hb.size⟩⟩
theorem IsActs.get {w:World} {B:Nat} {l:List Ac} {a:Option Addr} {n c k:Nat} (h:IsActs w B l a n c) (hk:k<n):
 ∃b o,∃f:AC,∃hp:k<l.length,a=some ⟨b,o,none⟩/\b<B/\ActAt w b (o+k*7) f/\IsAct w B l[k] f:=by
 obtain ⟨h1,h2,h3,b,o,f,h5,h6⟩:=h
 exact ⟨b,o,f k,by omega,(h5 (by omega)).1,(h5 (by omega)).2,(h6 k (by omega)).1,(h6 k (by omega)).2⟩
theorem IsComp.more6 {w:World} {B B':Nat} {x:Cm} {c:CC} (h:IsComp w B x c) (hB:B<=B'):IsComp w B' x c:=by
 cases h with
 |mk c p v hbd hp hv=>exact .mk c p v hbd (hp.more hB) (hv.more hB)
theorem Xr {W W':World} {S S':Nat->Prop} {B:Nat} {x:Cm} {c:CC} (h:IsComp (only S W) B x c) (hB:B=W.heap.size) (hz:W.heap.size<=W'.heap.size) (hs:∀k,S k->k<W.heap.size->S' k/\W'.heap[k]? =W.heap[k]?):IsComp (only S' W') W'.heap.size x c:=by
 subst hB;exact (h.sub (Zd hs)).more6 hz
theorem K4 (w:World) (d:CC) (t:TypeId):∀j u,(ccells d)[j]? =some u->(w.alloc (.cells #[.int .u8 d.k, .slice d.pa d.pl d.pc, .string d.key, .int .i64 d.i, .int .i64 d.j, .int .i64 d.n, .int .u8 d.v.k, .int .i64 d.v.n, .string d.v.s, .slice d.v.la d.v.ll d.v.lc, .slice d.v.oa d.v.ol d.v.oc, .string d.s] t)).cell? ((⟨w.heap.size,0,none⟩:Addr).add j)=some u:=
 World.news_of_block (t:=t) (fr:=(0,0)) (heap_alloc_new w (.cells #[.int .u8 d.k, .slice d.pa d.pl d.pc, .string d.key, .int .i64 d.i, .int .i64 d.j, .int .i64 d.n, .int .u8 d.v.k, .int .i64 d.v.n, .string d.v.s, .slice d.v.la d.v.ll d.v.lc, .slice d.v.oa d.v.ol d.v.oc, .string d.s] t))
theorem Qw (w:World) (a1 a2:Array Value) (t1 t2:TypeId):BC ((w.alloc (.cells a1 t1)).alloc (.cells a2 t2)) w.heap.size a1.toList/\BC ((w.alloc (.cells a1 t1)).alloc (.cells a2 t2)) (w.heap.size+1) a2.toList/\uB w ((w.alloc (.cells a1 t1)).alloc (.cells a2 t2))/\((w.alloc (.cells a1 t1)).alloc (.cells a2 t2)).heap.size=w.heap.size+1+1:=by
 delta uB
 have b1:uB w (w.alloc (.cells a1 t1)):=(Below.refl _ _).alloc (Nat.le_refl _) _
 have b2:uB (w.alloc (.cells a1 t1)) ((w.alloc (.cells a1 t1)).alloc (.cells a2 t2)):=(Below.refl _ _).alloc (Nat.le_refl _) _
 have c2:=BC.start (w.alloc (.cells a1 t1)) a2 t2
 rw [World.size_alloc] at c2
 exact ⟨(BC.start w a1 t1).keep b2 (by simp),c2,b1.trans (b2.mono (by simp)),by simp⟩
end Go.Proofs.YtnjgbiachcfigaaGreatDoor
