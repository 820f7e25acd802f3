/-
  Contracts of the functions that the law reaches: comp.Do (the program's).
-/
import Derived.Test.YtbgheehjfnoiiaaGreatDoorOn33
namespace Go.Proofs.YtbgheehjfnoiiaaGreatDoor
open Go.RowKit
set_option maxHeartbeats 8000000
def CDoPost (w:World) (r:V×Int) (e:Ending) (w':World):Prop:=
 (∃c:VC,e= .returned (.tuple #[.agg #[.int .u8 c.k, .int .i64 c.n, .string c.s, .slice c.la c.ll c.lc, .slice c.oa c.ol c.oc], .int .u16 r.2])/\IsVal (only (fun b=>w.heap.size<=b) w') w'.heap.size r.1 c)/\Below w.heap.size w w'
theorem zj7 {tmps:Array Value} {W:World} {b:Nat} {c:VC} {x:Value} (ht:tmps[4]? =some (.pointer (some ⟨b,0,none⟩))) (hx:tmps[5]? =some x) (h:BC W b (vcells c)):
 (results Tryz.f36 tmps).run Tryz.prog W= .ok (.tuple #[.agg #[.int .u8 c.k, .int .i64 c.n, .string c.s, .slice c.la c.ll c.lc, .slice c.oa c.ol c.oc],x]) W:=by
 obtain ⟨r0,r1,r2,r3,r4⟩:=row5 h.at_
 simp [results,Tryz.results36,go_sem,ht,hx,r0,r1,r2,r3,r4]
theorem Qf {w W:World} {x:Act} {c:VC} {r:V×Int} (h:BC W (w.heap.size+1+1) (vcells c)) (hv:IsVal (only (fun b=>w.heap.size<=b) W) W.heap.size r.1 c) (hb:uB w W) (hd:x.defers= []) (ht:x.tmps[4]? =some (.pointer (some ⟨w.heap.size+1+1,0,none⟩))) (hx:x.tmps[5]? =some (.int .u16 r.2)):
 bodyPost Tryz.prog Tryz.f36 (CDoPost w r) .ret x W:=⟨hd,_,zj7 ht hx h,⟨c,rfl,hv⟩,hb⟩
theorem zmj {x:V} (h:x.sound=true):rising x.os=true:=by
 obtain ⟨k,n,s,l,o,rfl⟩:=x.eta
 exact (K5.1 h).2.1
theorem zjy {x:V} {k i j n:Int} {key:ByteArray} (h:kindsP x k i j n key=0) (hk:k=1):x.kd=2:=by
 unfold kindsP at h
 rw [if_pos hk] at h
 split at h
 .omega
 .rename_i e;simpa using e
theorem zku {x:V} {k i j n:Int} {key:ByteArray} (h:kindsP x k i j n key=0) (hk:k=2∨k=3):x.kd=5/\(k=3->fieldIs x.os key=true):=by
 unfold kindsP at h
 rw [if_neg (by omega),if_pos hk] at h
 split at h
 .omega
 .rename_i e
  refine ⟨by simpa using e,fun e3=> ?_⟩
  cases hf:fieldIs x.os key with
  |true=>rfl
  |false=>rw [if_pos ⟨e3,hf⟩] at h;omega
theorem zfi {x:V} {k i j n:Int} {key:ByteArray} (h:kindsP x k i j n key=0) (hk:k=8∨k=9):x.kd=3/\tCheck x.str k i n=0:=by
 unfold kindsP at h
 rw [if_neg (by omega),if_neg (by omega),if_pos hk] at h
 split at h
 .omega
 .rename_i e;exact ⟨by simpa using e,h⟩
theorem zl9 {x:V} {k i j n:Int} {key:ByteArray} (h:kindsP x k i j n key=0) (hk:4<=k/\k<=7):x.kd=4/\lCheck x.ls.length k i j=0:=by
 unfold kindsP at h
 rw [if_neg (by omega),if_neg (by omega),if_neg (by omega)] at h
 split at h
 .omega
 .rename_i e;exact ⟨by simpa using e,h⟩
set_option maxRecDepth 100000 in
theorem zd8 (w:World) (vk vn:Int) (vs:ByteArray) (la:Option Addr) (ll lc:Nat) (oa:Option Addr) (ol oc:Nat) (v:V) (hv:IsVal w w.heap.size v ⟨vk,vn,vs,la,ll,lc,oa,ol,oc⟩) (hw:v.weight<=100000000) (p:List St) (xv:V) (cc:CC) (hcb:cc.Bnd) (hp:IsSteps w w.heap.size p cc.pa cc.pl cc.pc) (hxv:IsVal w w.heap.size xv cc.v) (hxw:xv.weight<=4611686018427387904) (hT:Tabs w) (he:checkP v ⟨cc.k,p,cc.key,cc.i,cc.j,cc.n,xv,cc.s⟩≠0):
 uP 36 #[.agg (uU vk vn vs la ll lc oa ol oc), .agg (uC cc)] w (CDoPost w (doP v ⟨cc.k,p,cc.key,cc.i,cc.j,cc.n,xv,cc.s⟩)):=by
 delta uU uC uP
 have HCK:Hid (∀W,uB w W->uP 51 #[.agg (uU vk vn vs la ll lc oa ol oc), .agg (uC cc)] W fun e w'=>e= .returned (.int .u16 (checkP v ⟨cc.k,p,cc.key,cc.i,cc.j,cc.n,xv,cc.s⟩))/\uB W w'):=qh fun W hW=>X2 W vk vn vs la ll lc oa ol oc v (hv.later_ hW) (by omega) p xv cc hcb (hp.later_ hW) (hxv.later_ hW) (by omega) (hT.below hW)
 have HB:=qh (DB.start w ⟨vk,vn,vs,la,ll,lc,oa,ol,oc⟩ cc 29 54 29)
 have hd:doP v ⟨cc.k,p,cc.key,cc.i,cc.j,cc.n,xv,cc.s⟩=(V.none,checkP v ⟨cc.k,p,cc.key,cc.i,cc.j,cc.n,xv,cc.s⟩):=by rw [doP,if_neg he]
 rw [hd]
 obtain ⟨E,hE⟩:∃E,checkP v ⟨cc.k,p,cc.key,cc.i,cc.j,cc.n,xv,cc.s⟩=E:=⟨_,rfl⟩
 rw [hE] at HCK he ⊢
 have fe:(E !=0)=true:=by simp [he]
 clear hv hp hxv hT hcb hd hE
 go_enter Tryz.func36,Tryz.ntmps36
 generalize hQ0:bodyPost _ _ _=Q0
 have HQ:=qh hQ0
 clear hQ0
 go_wp2_with fail
 refine (HCK.out _ HB.out.below).mono ?_
 rintro e W ⟨rfl,hb1⟩
 have B:=HB.out.next hb1 (by simp)
 obtain ⟨v0,v1,v2,v3,v4⟩:=row5 B.v.at_
 obtain ⟨b0,b1,b2,b3,b4,b5,b6,b7,b8,b9,b10,b11⟩:=row12 B.c.at_
 obtain ⟨r0,r1,r2,r3,r4⟩:=row5 B.r.at_
 have f0:=B.r.fr 0;have f1:=B.r.fr 1;have f2:=B.r.fr 2;have f3:=B.r.fr 3;have f4:=B.r.fr 4
 have z0:=B.v.lt;have z1:=B.c.lt;have z2:=B.r.lt
 have HBW:=qh B
 clear B hb1
 go_wp2_with fail
 rw [<-HQ.out]
 have ST:=HBW.out.result ⟨0,0, { data:= #[] },none,0,0,none,0,0⟩
 exact Qf (r:=(V.none,E)) ST.1 (Zw _ _) ST.2 rfl rfl rfl
set_option maxRecDepth 100000 in
theorem zmy (w:World) (vk vn:Int) (vs:ByteArray) (la:Option Addr) (ll lc:Nat) (oa:Option Addr) (ol oc:Nat) (v:V) (hv:IsVal w w.heap.size v ⟨vk,vn,vs,la,ll,lc,oa,ol,oc⟩) (hw:v.weight<=100000000) (p:List St) (xv:V) (cc:CC) (hcb:cc.Bnd) (hp:IsSteps w w.heap.size p cc.pa cc.pl cc.pc) (hxv:IsVal w w.heap.size xv cc.v) (hxw:xv.weight<=4611686018427387904) (hT:Tabs w) (he:checkP v ⟨cc.k,p,cc.key,cc.i,cc.j,cc.n,xv,cc.s⟩=0) (hk:cc.k=1):
 uP 36 #[.agg (uU vk vn vs la ll lc oa ol oc), .agg (uC cc)] w (CDoPost w (doP v ⟨cc.k,p,cc.key,cc.i,cc.j,cc.n,xv,cc.s⟩)):=by
 delta uU uC uP
 obtain ⟨_,x,hg,hkd⟩:=Yl he
 dsimp only at hg hkd
 have hxw2:=Z6 p hg
 have hsw:=x.str_weight.1
 have hlo:=x.str_weight.2
 have HCK:Hid (∀W,uB w W->uP 51 #[.agg (uU vk vn vs la ll lc oa ol oc), .agg (uC cc)] W fun e w'=>e= .returned (.int .u16 0)/\uB W w'):=qh fun W hW=>by
  have:=X2 W vk vn vs la ll lc oa ol oc v (hv.later_ hW) (by omega) p xv cc hcb (hp.later_ hW) (hxv.later_ hW) (by omega) (hT.below hW)
  rw [he] at this;exact this
 have HGT:Hid (∀W,uB w W->uP 52 #[.agg (uU vk vn vs la ll lc oa ol oc), .slice cc.pa cc.pl cc.pc] W fun e W'=>(∃d:VC,e= .returned (.tuple #[.agg #[.int .u8 d.k, .int .i64 d.n, .string d.s, .slice d.la d.ll d.lc, .slice d.oa d.ol d.oc], .int .u16 0])/\Whole W' W.heap.size x d)/\uB W W'):=qh fun W hW=>by
  refine (Qp W v ⟨vk,vn,vs,la,ll,lc,oa,ol,oc⟩ p cc.pa cc.pl cc.pc (hv.later_ hW) (hp.later_ hW)).mono ?_
  rintro e W' ⟨hb,⟨_,hn⟩|⟨x',d,rfl,hg',hW'⟩⟩
  .rw [hn] at hg;cases hg
  .rw [hg] at hg';injection hg' with hg';subst hg'
   exact ⟨⟨d,rfl,hW'⟩,hb⟩
 obtain ⟨Y,hY⟩:∃Y,doneP x ⟨cc.k,p,cc.key,cc.i,cc.j,cc.n,xv,cc.s⟩=Y:=⟨_,rfl⟩
 obtain ⟨z,hPR⟩:=Y6 p hg Y
 have HPT:Hid (∀(W:World) (d:VC),uB w W->IsVal W W.heap.size Y d->uP 71 #[.agg (uU vk vn vs la ll lc oa ol oc), .slice cc.pa cc.pl cc.pc, .agg (uV d)] W fun e W'=>(∃d':VC,e= .returned (.tuple #[.agg #[.int .u8 d'.k, .int .i64 d'.n, .string d'.s, .slice d'.la d'.ll d'.lc, .slice d'.oa d'.ol d'.oc], .int .u16 0])/\IsVal (only (fun b=>W.heap.size<=b) W') W'.heap.size z d')/\uB W W'):=qh fun W d hW hy=>by
  refine (Q6 W v Y ⟨vk,vn,vs,la,ll,lc,oa,ol,oc⟩ d p cc.pa cc.pl cc.pc (hv.later_ hW) (hp.later_ hW) hy).mono ?_
  rintro e W' ⟨hb,⟨_,hn⟩|⟨z',d',rfl,hg',hW'⟩⟩
  .rw [hn] at hg;cases hg
  .rw [hPR] at hg';injection hg' with hg';subst hg'
   exact ⟨⟨d',rfl,hW'⟩,hb⟩
 have hdo:doP v ⟨cc.k,p,cc.key,cc.i,cc.j,cc.n,xv,cc.s⟩=doneQ (putP v p (doneP x ⟨cc.k,p,cc.key,cc.i,cc.j,cc.n,xv,cc.s⟩)):=Ym he hg
 rw [hdo,hY,hPR,Y4]
 have HB:=qh (DB.start w ⟨vk,vn,vs,la,ll,lc,oa,ol,oc⟩ cc 29 54 29)
 have hxk:=zjy hkd hk
 have HMD:Hid (∀(W2 W3:World) (base B:Nat) (d:VC),Mid w W2 W3 base B x d cc xv->uP 67 #[.pointer (some ⟨B,0,none⟩)] W3 (MidPost base W3 B cc Y)):=qh fun W2 W3 base B d h=>by
  have hst:=(Xj (Whole.isVal h.whole)).1
  rw [<-hY]
  exact zmg w W2 W3 base B x d p cc xv h hk
 have HXV:=qh hxv
 have HKD:=qh hxk
 clear hv hp hxv hT hcb hdo hY hPR he hg hkd hxk hk hsw hlo hxw2
 go_enter Tryz.func36,Tryz.ntmps36
 generalize hQ0:bodyPost _ _ _=Q0
 have HQ:=qh hQ0
 clear hQ0
 go_wp2_with fail
 refine (HCK.out _ HB.out.below).mono ?_
 rintro e W ⟨rfl,hb1⟩
 have B:=HB.out.next hb1 (by simp)
 obtain ⟨v0,v1,v2,v3,v4⟩:=row5 B.v.at_
 obtain ⟨b0,b1,b2,b3,b4,b5,b6,b7,b8,b9,b10,b11⟩:=row12 B.c.at_
 obtain ⟨r0,r1,r2,r3,r4⟩:=row5 B.r.at_
 have f0:=B.r.fr 0;have f1:=B.r.fr 1;have f2:=B.r.fr 2;have f3:=B.r.fr 3;have f4:=B.r.fr 4
 have z0:=B.v.lt;have z1:=B.c.lt;have z2:=B.r.lt
 have HBW:=qh B
 clear B hb1
 go_wp2_with fail
 refine (HGT.out _ HBW.out.below).mono ?_
 rintro e W2 ⟨⟨d,rfl,hW⟩,hb2⟩
 have B2:=HBW.out.next hb2 (Nat.succ_le_of_lt z2)
 clear v0 v1 v2 v3 v4 r0 r1 r2 r3 r4 f0 f1 f2 f3 f4 b0 b1 b2 b3 b4 b5 b6 b7 b8 b9 b10 b11
 obtain ⟨v0,v1,v2,v3,v4⟩:=row5 B2.v.at_
 obtain ⟨b0,b1,b2,b3,b4,b5,b6,b7,b8,b9,b10,b11⟩:=row12 B2.c.at_
 obtain ⟨r0,r1,r2,r3,r4⟩:=row5 B2.r.at_
 have f0:=B2.r.fr 0;have f1:=B2.r.fr 1;have f2:=B2.r.fr 2;have f3:=B2.r.fr 3;have f4:=B2.r.fr 4
 have z0:=B2.v.lt;have z1:=B2.c.lt;have z2:=B2.r.lt
 have zW:=HBW.out.below.size
 have zW2:=hb2.size
 have z22:=B2.r.lt
 have HB2:=qh B2
 have hdk:d.k=2:=by rw [<-HKD.out,hW.1];rfl
 have g2:(d.k==2)=true:=by rw [hdk];rfl
 have g5:(d.k==5)=false:=by rw [hdk];rfl
 have g4:(d.k==4)=false:=by rw [hdk];rfl
 have hn1:uB W2 (W2.alloc (.cells #[.int .u8 d.k, .int .i64 d.n, .string d.s, .slice d.la d.ll d.lc, .slice d.oa d.ol d.oc] 29)):=(Below.refl _ _).alloc (Nat.le_refl _) _
 have hn3:uB W2 ((W2.alloc (.cells #[.int .u8 d.k, .int .i64 d.n, .string d.s, .slice d.la d.ll d.lc, .slice d.oa d.ol d.oc] 29)).alloc (.cells #[.int .u8 d.k, .int .i64 d.n, .string d.s, .slice d.la d.ll d.lc, .slice d.oa d.ol d.oc, .int .u8 cc.k, .slice cc.pa cc.pl cc.pc, .string cc.key, .int .i64 cc.i, .int .i64 cc.j, .int .i64 cc.n, .int .u8 cc.v.k, .int .i64 cc.v.n, .string cc.v.s, .slice cc.v.la cc.v.ll cc.v.lc, .slice cc.v.oa cc.v.ol cc.v.oc, .string cc.s] 103)):=hn1.alloc (by rw [World.size_alloc];omega) _
 have hbx:=BC.start (W2.alloc (.cells #[.int .u8 d.k, .int .i64 d.n, .string d.s, .slice d.la d.ll d.lc, .slice d.oa d.ol d.oc] 29)) #[.int .u8 d.k, .int .i64 d.n, .string d.s, .slice d.la d.ll d.lc, .slice d.oa d.ol d.oc, .int .u8 cc.k, .slice cc.pa cc.pl cc.pc, .string cc.key, .int .i64 cc.i, .int .i64 cc.j, .int .i64 cc.n, .int .u8 cc.v.k, .int .i64 cc.v.n, .string cc.v.s, .slice cc.v.la cc.v.ll cc.v.lc, .slice cc.v.oa cc.v.ol cc.v.oc, .string cc.s] 103
 rw [World.size_alloc] at hbx
 have HW3:=qh (HMD.out W2 ((W2.alloc (.cells #[.int .u8 d.k, .int .i64 d.n, .string d.s, .slice d.la d.ll d.lc, .slice d.oa d.ol d.oc] 29)).alloc (.cells #[.int .u8 d.k, .int .i64 d.n, .string d.s, .slice d.la d.ll d.lc, .slice d.oa d.ol d.oc, .int .u8 cc.k, .slice cc.pa cc.pl cc.pc, .string cc.key, .int .i64 cc.i, .int .i64 cc.j, .int .i64 cc.n, .int .u8 cc.v.k, .int .i64 cc.v.n, .string cc.v.s, .slice cc.v.la cc.v.ll cc.v.lc, .slice cc.v.oa cc.v.ol cc.v.oc, .string cc.s] 103)) W.heap.size (W2.heap.size+1) d ⟨hW,hn3,hbx,Nat.le_succ _,zW,zW2,HBW.out.below.trans (hb2.mono zW),HXV.out⟩)
 have HN3:=qh hn3
 clear hdk hn1 hn3 hbx hW B2 hb2
 go_wp2_with fail
 refine HW3.out.mono ?_
 rintro e W4 ⟨rfl,d4,hB4,hI4,hb4⟩
 have B4:=(HB2.out.next HN3.out (Nat.succ_le_of_lt z22)).next hb4 (Nat.succ_le_of_lt HBW.out.r.lt)
 clear v0 v1 v2 v3 v4 r0 r1 r2 r3 r4 f0 f1 f2 f3 f4 b0 b1 b2 b3 b4 b5 b6 b7 b8 b9 b10 b11
 obtain ⟨v0,v1,v2,v3,v4⟩:=row5 B4.v.at_
 obtain ⟨b0,b1,b2,b3,b4,b5,b6,b7,b8,b9,b10,b11⟩:=row12 B4.c.at_
 obtain ⟨r0,r1,r2,r3,r4⟩:=row5 B4.r.at_
 have f0:=B4.r.fr 0;have f1:=B4.r.fr 1;have f2:=B4.r.fr 2;have f3:=B4.r.fr 3;have f4:=B4.r.fr 4
 have z0:=B4.v.lt;have z1:=B4.c.lt;have z2:=B4.r.lt
 have z43:=B4.r.lt
 have HB4:=qh B4
 have HBD4:=qh (B4.below.drew)
 have x0:=hB4.at_ 0 _ rfl;have x1:=hB4.at_ 1 _ rfl;have x2:=hB4.at_ 2 _ rfl;have x3:=hB4.at_ 3 _ rfl;have x4:=hB4.at_ 4 _ rfl
 have xlt:=hB4.lt
 have HPD:Hid (uP 71 #[.agg (uU vk vn vs la ll lc oa ol oc), .slice cc.pa cc.pl cc.pc, .agg (uV d4)] W4.drew fun e W'=>(∃d':VC,e= .returned (.tuple #[.agg #[.int .u8 d'.k, .int .i64 d'.n, .string d'.s, .slice d'.la d'.ll d'.lc, .slice d'.oa d'.ol d'.oc], .int .u16 0])/\IsVal (only (fun b=>W4.drew.heap.size<=b) W') W'.heap.size z d')/\Below W4.drew.heap.size W4.drew W'):=qh (HPT.out W4.drew d4 HBD4.out (hI4.later_ (Zf W4)))
 have mixed:Tryz.prog.follows .mixedOrders=true:=by kernel_rfl
 clear B4 hB4 hI4 hb4 HW3 g2 g5 g4
 go_wp2_with fail
 refine wp_region_noPanic ?_
 go_region_with (go_simp;go_at_call 71;(with_reducible refine HPD.out.mono ?_);rintro e W6 ⟨⟨d6,rfl,hz⟩,hb6⟩;have hb46:uB W4 W6:=(Zf W4).trans hb6;have B6:=HB4.out.next hb46 (Nat.succ_le_of_lt z43);obtain ⟨rr0,rr1,rr2,rr3,rr4⟩:=row5 B6.r.at_;have ff0:=B6.r.fr 0;have ff1:=B6.r.fr 1;have ff2:=B6.r.fr 2;have ff3:=B6.r.fr 3;have ff4:=B6.r.fr 4;have zz6:=B6.r.lt;have HB6:=qh B6;have HZ:Hid (IsVal (only (fun b=>W4.heap.size<=b) W6) W6.heap.size z d6):=qh hz;clear hz hb6 hb46 B6)
 all_goals (
  refine NoPanic.normal ?_
  go_wp2_with fail
  rw [<-HQ.out]
  have ST:=HB6.out.result d6
  have hst:=Zi W6 (w.heap.size+1+1) 0 d6
  exact Qf (r:=(z,0)) ST.1 ((Zm (base:=w.heap.size+1+1+1) (HZ.out.sub (Ze fun k hk _=>⟨Nat.le_trans (Nat.succ_le_of_lt z43) hk,rfl⟩)) hst (by omega)).sub (Ze fun k hk _=>⟨by omega,rfl⟩)) ST.2 rfl rfl rfl)
set_option maxRecDepth 100000 in
theorem zii (w:World) (vk vn:Int) (vs:ByteArray) (la:Option Addr) (ll lc:Nat) (oa:Option Addr) (ol oc:Nat) (v:V) (hv:IsVal w w.heap.size v ⟨vk,vn,vs,la,ll,lc,oa,ol,oc⟩) (hw:v.weight<=100000000) (p:List St) (xv:V) (cc:CC) (hcb:cc.Bnd) (hp:IsSteps w w.heap.size p cc.pa cc.pl cc.pc) (hxv:IsVal w w.heap.size xv cc.v) (hxw:xv.weight<=4611686018427387904) (hsn:v.sound=true) (hT:Tabs w) (he:checkP v ⟨cc.k,p,cc.key,cc.i,cc.j,cc.n,xv,cc.s⟩=0) (hk:cc.k=2∨cc.k=3):
 uP 36 #[.agg (uU vk vn vs la ll lc oa ol oc), .agg (uC cc)] w (CDoPost w (doP v ⟨cc.k,p,cc.key,cc.i,cc.j,cc.n,xv,cc.s⟩)):=by
 delta uU uC uP
 obtain ⟨_,x,hg,hkd⟩:=Yl he
 dsimp only at hg hkd
 have hxw2:=Z6 p hg
 have hsw:=x.str_weight.1
 have hlo:=x.str_weight.2
 have HCK:Hid (∀W,uB w W->uP 51 #[.agg (uU vk vn vs la ll lc oa ol oc), .agg (uC cc)] W fun e w'=>e= .returned (.int .u16 0)/\uB W w'):=qh fun W hW=>by
  have:=X2 W vk vn vs la ll lc oa ol oc v (hv.later_ hW) (by omega) p xv cc hcb (hp.later_ hW) (hxv.later_ hW) (by omega) (hT.below hW)
  rw [he] at this;exact this
 have HGT:Hid (∀W,uB w W->uP 52 #[.agg (uU vk vn vs la ll lc oa ol oc), .slice cc.pa cc.pl cc.pc] W fun e W'=>(∃d:VC,e= .returned (.tuple #[.agg #[.int .u8 d.k, .int .i64 d.n, .string d.s, .slice d.la d.ll d.lc, .slice d.oa d.ol d.oc], .int .u16 0])/\Whole W' W.heap.size x d)/\uB W W'):=qh fun W hW=>by
  refine (Qp W v ⟨vk,vn,vs,la,ll,lc,oa,ol,oc⟩ p cc.pa cc.pl cc.pc (hv.later_ hW) (hp.later_ hW)).mono ?_
  rintro e W' ⟨hb,⟨_,hn⟩|⟨x',d,rfl,hg',hW'⟩⟩
  .rw [hn] at hg;cases hg
  .rw [hg] at hg';injection hg' with hg';subst hg'
   exact ⟨⟨d,rfl,hW'⟩,hb⟩
 obtain ⟨Y,hY⟩:∃Y,doneP x ⟨cc.k,p,cc.key,cc.i,cc.j,cc.n,xv,cc.s⟩=Y:=⟨_,rfl⟩
 obtain ⟨z,hPR⟩:=Y6 p hg Y
 have HPT:Hid (∀(W:World) (d:VC),uB w W->IsVal W W.heap.size Y d->uP 71 #[.agg (uU vk vn vs la ll lc oa ol oc), .slice cc.pa cc.pl cc.pc, .agg (uV d)] W fun e W'=>(∃d':VC,e= .returned (.tuple #[.agg #[.int .u8 d'.k, .int .i64 d'.n, .string d'.s, .slice d'.la d'.ll d'.lc, .slice d'.oa d'.ol d'.oc], .int .u16 0])/\IsVal (only (fun b=>W.heap.size<=b) W') W'.heap.size z d')/\uB W W'):=qh fun W d hW hy=>by
  refine (Q6 W v Y ⟨vk,vn,vs,la,ll,lc,oa,ol,oc⟩ d p cc.pa cc.pl cc.pc (hv.later_ hW) (hp.later_ hW) hy).mono ?_
  rintro e W' ⟨hb,⟨_,hn⟩|⟨z',d',rfl,hg',hW'⟩⟩
  .rw [hn] at hg;cases hg
  .rw [hPR] at hg';injection hg' with hg';subst hg'
   exact ⟨⟨d',rfl,hW'⟩,hb⟩
 have hdo:doP v ⟨cc.k,p,cc.key,cc.i,cc.j,cc.n,xv,cc.s⟩=doneQ (putP v p (doneP x ⟨cc.k,p,cc.key,cc.i,cc.j,cc.n,xv,cc.s⟩)):=Ym he hg
 rw [hdo,hY,hPR,Y4]
 have HB:=qh (DB.start w ⟨vk,vn,vs,la,ll,lc,oa,ol,oc⟩ cc 29 54 29)
 obtain ⟨hxk,hkf⟩:=zku hkd hk
 have hri:=zmj (zk1 p hsn hg)
 have HMD:Hid (∀(W2 W3:World) (base B:Nat) (d:VC),Mid w W2 W3 base B x d cc xv->uP 68 #[.pointer (some ⟨B,0,none⟩)] W3 (MidPost base W3 B cc Y)):=qh fun W2 W3 base B d h=>by
  have hst:=(Xj (Whole.isVal h.whole)).1
  rw [<-hY]
  exact zie w W2 W3 base B x d p cc xv h hk ⟨by omega,by omega⟩ hri hcb.key1 hkf
 have HXV:=qh hxv
 have HKD:=qh hxk
 clear hv hp hxv hT hcb hdo hY hPR he hg hkd hxk hk hsw hlo hxw2 hkf hri hsn
 go_enter Tryz.func36,Tryz.ntmps36
 generalize hQ0:bodyPost _ _ _=Q0
 have HQ:=qh hQ0
 clear hQ0
 go_wp2_with fail
 refine (HCK.out _ HB.out.below).mono ?_
 rintro e W ⟨rfl,hb1⟩
 have B:=HB.out.next hb1 (by simp)
 obtain ⟨v0,v1,v2,v3,v4⟩:=row5 B.v.at_
 obtain ⟨b0,b1,b2,b3,b4,b5,b6,b7,b8,b9,b10,b11⟩:=row12 B.c.at_
 obtain ⟨r0,r1,r2,r3,r4⟩:=row5 B.r.at_
 have f0:=B.r.fr 0;have f1:=B.r.fr 1;have f2:=B.r.fr 2;have f3:=B.r.fr 3;have f4:=B.r.fr 4
 have z0:=B.v.lt;have z1:=B.c.lt;have z2:=B.r.lt
 have HBW:=qh B
 clear B hb1
 go_wp2_with fail
 refine (HGT.out _ HBW.out.below).mono ?_
 rintro e W2 ⟨⟨d,rfl,hW⟩,hb2⟩
 have B2:=HBW.out.next hb2 (Nat.succ_le_of_lt z2)
 clear v0 v1 v2 v3 v4 r0 r1 r2 r3 r4 f0 f1 f2 f3 f4 b0 b1 b2 b3 b4 b5 b6 b7 b8 b9 b10 b11
 obtain ⟨v0,v1,v2,v3,v4⟩:=row5 B2.v.at_
 obtain ⟨b0,b1,b2,b3,b4,b5,b6,b7,b8,b9,b10,b11⟩:=row12 B2.c.at_
 obtain ⟨r0,r1,r2,r3,r4⟩:=row5 B2.r.at_
 have f0:=B2.r.fr 0;have f1:=B2.r.fr 1;have f2:=B2.r.fr 2;have f3:=B2.r.fr 3;have f4:=B2.r.fr 4
 have z0:=B2.v.lt;have z1:=B2.c.lt;have z2:=B2.r.lt
 have zW:=HBW.out.below.size
 have zW2:=hb2.size
 have z22:=B2.r.lt
 have HB2:=qh B2
 have hdk:d.k=5:=by rw [<-HKD.out,hW.1];rfl
 have g2:(d.k==2)=false:=by rw [hdk];rfl
 have g5:(d.k==5)=true:=by rw [hdk];rfl
 have g4:(d.k==4)=false:=by rw [hdk];rfl
 have hn1:uB W2 (W2.alloc (.cells #[.int .u8 d.k, .int .i64 d.n, .string d.s, .slice d.la d.ll d.lc, .slice d.oa d.ol d.oc] 29)):=(Below.refl _ _).alloc (Nat.le_refl _) _
 have hn3:uB W2 ((W2.alloc (.cells #[.int .u8 d.k, .int .i64 d.n, .string d.s, .slice d.la d.ll d.lc, .slice d.oa d.ol d.oc] 29)).alloc (.cells #[.int .u8 d.k, .int .i64 d.n, .string d.s, .slice d.la d.ll d.lc, .slice d.oa d.ol d.oc, .int .u8 cc.k, .slice cc.pa cc.pl cc.pc, .string cc.key, .int .i64 cc.i, .int .i64 cc.j, .int .i64 cc.n, .int .u8 cc.v.k, .int .i64 cc.v.n, .string cc.v.s, .slice cc.v.la cc.v.ll cc.v.lc, .slice cc.v.oa cc.v.ol cc.v.oc, .string cc.s] 103)):=hn1.alloc (by rw [World.size_alloc];omega) _
 have hbx:=BC.start (W2.alloc (.cells #[.int .u8 d.k, .int .i64 d.n, .string d.s, .slice d.la d.ll d.lc, .slice d.oa d.ol d.oc] 29)) #[.int .u8 d.k, .int .i64 d.n, .string d.s, .slice d.la d.ll d.lc, .slice d.oa d.ol d.oc, .int .u8 cc.k, .slice cc.pa cc.pl cc.pc, .string cc.key, .int .i64 cc.i, .int .i64 cc.j, .int .i64 cc.n, .int .u8 cc.v.k, .int .i64 cc.v.n, .string cc.v.s, .slice cc.v.la cc.v.ll cc.v.lc, .slice cc.v.oa cc.v.ol cc.v.oc, .string cc.s] 103
 rw [World.size_alloc] at hbx
 have HW3:=qh (HMD.out W2 ((W2.alloc (.cells #[.int .u8 d.k, .int .i64 d.n, .string d.s, .slice d.la d.ll d.lc, .slice d.oa d.ol d.oc] 29)).alloc (.cells #[.int .u8 d.k, .int .i64 d.n, .string d.s, .slice d.la d.ll d.lc, .slice d.oa d.ol d.oc, .int .u8 cc.k, .slice cc.pa cc.pl cc.pc, .string cc.key, .int .i64 cc.i, .int .i64 cc.j, .int .i64 cc.n, .int .u8 cc.v.k, .int .i64 cc.v.n, .string cc.v.s, .slice cc.v.la cc.v.ll cc.v.lc, .slice cc.v.oa cc.v.ol cc.v.oc, .string cc.s] 103)) W.heap.size (W2.heap.size+1) d ⟨hW,hn3,hbx,Nat.le_succ _,zW,zW2,HBW.out.below.trans (hb2.mono zW),HXV.out⟩)
 have HN3:=qh hn3
 clear hdk hn1 hn3 hbx hW B2 hb2
 go_wp2_with fail
 refine HW3.out.mono ?_
 rintro e W4 ⟨rfl,d4,hB4,hI4,hb4⟩
 have B4:=(HB2.out.next HN3.out (Nat.succ_le_of_lt z22)).next hb4 (Nat.succ_le_of_lt HBW.out.r.lt)
 clear v0 v1 v2 v3 v4 r0 r1 r2 r3 r4 f0 f1 f2 f3 f4 b0 b1 b2 b3 b4 b5 b6 b7 b8 b9 b10 b11
 obtain ⟨v0,v1,v2,v3,v4⟩:=row5 B4.v.at_
 obtain ⟨b0,b1,b2,b3,b4,b5,b6,b7,b8,b9,b10,b11⟩:=row12 B4.c.at_
 obtain ⟨r0,r1,r2,r3,r4⟩:=row5 B4.r.at_
 have f0:=B4.r.fr 0;have f1:=B4.r.fr 1;have f2:=B4.r.fr 2;have f3:=B4.r.fr 3;have f4:=B4.r.fr 4
 have z0:=B4.v.lt;have z1:=B4.c.lt;have z2:=B4.r.lt
 have z43:=B4.r.lt
 have HB4:=qh B4
 have HBD4:=qh (B4.below.drew)
 have x0:=hB4.at_ 0 _ rfl;have x1:=hB4.at_ 1 _ rfl;have x2:=hB4.at_ 2 _ rfl;have x3:=hB4.at_ 3 _ rfl;have x4:=hB4.at_ 4 _ rfl
 have xlt:=hB4.lt
 have HPD:Hid (uP 71 #[.agg (uU vk vn vs la ll lc oa ol oc), .slice cc.pa cc.pl cc.pc, .agg (uV d4)] W4.drew fun e W'=>(∃d':VC,e= .returned (.tuple #[.agg #[.int .u8 d'.k, .int .i64 d'.n, .string d'.s, .slice d'.la d'.ll d'.lc, .slice d'.oa d'.ol d'.oc], .int .u16 0])/\IsVal (only (fun b=>W4.drew.heap.size<=b) W') W'.heap.size z d')/\Below W4.drew.heap.size W4.drew W'):=qh (HPT.out W4.drew d4 HBD4.out (hI4.later_ (Zf W4)))
 have mixed:Tryz.prog.follows .mixedOrders=true:=by kernel_rfl
 clear B4 hB4 hI4 hb4 HW3 g2 g5 g4
 go_wp2_with fail
 refine wp_region_noPanic ?_
 go_region_with (go_simp;go_at_call 71;(with_reducible refine HPD.out.mono ?_);rintro e W6 ⟨⟨d6,rfl,hz⟩,hb6⟩;have hb46:uB W4 W6:=(Zf W4).trans hb6;have B6:=HB4.out.next hb46 (Nat.succ_le_of_lt z43);obtain ⟨rr0,rr1,rr2,rr3,rr4⟩:=row5 B6.r.at_;have ff0:=B6.r.fr 0;have ff1:=B6.r.fr 1;have ff2:=B6.r.fr 2;have ff3:=B6.r.fr 3;have ff4:=B6.r.fr 4;have zz6:=B6.r.lt;have HB6:=qh B6;have HZ:Hid (IsVal (only (fun b=>W4.heap.size<=b) W6) W6.heap.size z d6):=qh hz;clear hz hb6 hb46 B6)
 all_goals (
  refine NoPanic.normal ?_
  go_wp2_with fail
  rw [<-HQ.out]
  have ST:=HB6.out.result d6
  have hst:=Zi W6 (w.heap.size+1+1) 0 d6
  exact Qf (r:=(z,0)) ST.1 ((Zm (base:=w.heap.size+1+1+1) (HZ.out.sub (Ze fun k hk _=>⟨Nat.le_trans (Nat.succ_le_of_lt z43) hk,rfl⟩)) hst (by omega)).sub (Ze fun k hk _=>⟨by omega,rfl⟩)) ST.2 rfl rfl rfl)
set_option maxRecDepth 100000 in
theorem zek (w:World) (vk vn:Int) (vs:ByteArray) (la:Option Addr) (ll lc:Nat) (oa:Option Addr) (ol oc:Nat) (v:V) (hv:IsVal w w.heap.size v ⟨vk,vn,vs,la,ll,lc,oa,ol,oc⟩) (hw:v.weight<=100000000) (p:List St) (xv:V) (cc:CC) (hcb:cc.Bnd) (hp:IsSteps w w.heap.size p cc.pa cc.pl cc.pc) (hxv:IsVal w w.heap.size xv cc.v) (hxw:xv.weight<=4611686018427387904) (hT:Tabs w) (he:checkP v ⟨cc.k,p,cc.key,cc.i,cc.j,cc.n,xv,cc.s⟩=0) (hk:4<=cc.k/\cc.k<=7):
 uP 36 #[.agg (uU vk vn vs la ll lc oa ol oc), .agg (uC cc)] w (CDoPost w (doP v ⟨cc.k,p,cc.key,cc.i,cc.j,cc.n,xv,cc.s⟩)):=by
 delta uU uC uP
 obtain ⟨_,x,hg,hkd⟩:=Yl he
 dsimp only at hg hkd
 have hxw2:=Z6 p hg
 have hsw:=x.str_weight.1
 have hlo:=x.str_weight.2
 have HCK:Hid (∀W,uB w W->uP 51 #[.agg (uU vk vn vs la ll lc oa ol oc), .agg (uC cc)] W fun e w'=>e= .returned (.int .u16 0)/\uB W w'):=qh fun W hW=>by
  have:=X2 W vk vn vs la ll lc oa ol oc v (hv.later_ hW) (by omega) p xv cc hcb (hp.later_ hW) (hxv.later_ hW) (by omega) (hT.below hW)
  rw [he] at this;exact this
 have HGT:Hid (∀W,uB w W->uP 52 #[.agg (uU vk vn vs la ll lc oa ol oc), .slice cc.pa cc.pl cc.pc] W fun e W'=>(∃d:VC,e= .returned (.tuple #[.agg #[.int .u8 d.k, .int .i64 d.n, .string d.s, .slice d.la d.ll d.lc, .slice d.oa d.ol d.oc], .int .u16 0])/\Whole W' W.heap.size x d)/\uB W W'):=qh fun W hW=>by
  refine (Qp W v ⟨vk,vn,vs,la,ll,lc,oa,ol,oc⟩ p cc.pa cc.pl cc.pc (hv.later_ hW) (hp.later_ hW)).mono ?_
  rintro e W' ⟨hb,⟨_,hn⟩|⟨x',d,rfl,hg',hW'⟩⟩
  .rw [hn] at hg;cases hg
  .rw [hg] at hg';injection hg' with hg';subst hg'
   exact ⟨⟨d,rfl,hW'⟩,hb⟩
 obtain ⟨Y,hY⟩:∃Y,doneP x ⟨cc.k,p,cc.key,cc.i,cc.j,cc.n,xv,cc.s⟩=Y:=⟨_,rfl⟩
 obtain ⟨z,hPR⟩:=Y6 p hg Y
 have HPT:Hid (∀(W:World) (d:VC),uB w W->IsVal W W.heap.size Y d->uP 71 #[.agg (uU vk vn vs la ll lc oa ol oc), .slice cc.pa cc.pl cc.pc, .agg (uV d)] W fun e W'=>(∃d':VC,e= .returned (.tuple #[.agg #[.int .u8 d'.k, .int .i64 d'.n, .string d'.s, .slice d'.la d'.ll d'.lc, .slice d'.oa d'.ol d'.oc], .int .u16 0])/\IsVal (only (fun b=>W.heap.size<=b) W') W'.heap.size z d')/\uB W W'):=qh fun W d hW hy=>by
  refine (Q6 W v Y ⟨vk,vn,vs,la,ll,lc,oa,ol,oc⟩ d p cc.pa cc.pl cc.pc (hv.later_ hW) (hp.later_ hW) hy).mono ?_
  rintro e W' ⟨hb,⟨_,hn⟩|⟨z',d',rfl,hg',hW'⟩⟩
  .rw [hn] at hg;cases hg
  .rw [hPR] at hg';injection hg' with hg';subst hg'
   exact ⟨⟨d',rfl,hW'⟩,hb⟩
 have hdo:doP v ⟨cc.k,p,cc.key,cc.i,cc.j,cc.n,xv,cc.s⟩=doneQ (putP v p (doneP x ⟨cc.k,p,cc.key,cc.i,cc.j,cc.n,xv,cc.s⟩)):=Ym he hg
 rw [hdo,hY,hPR,Y4]
 have HB:=qh (DB.start w ⟨vk,vn,vs,la,ll,lc,oa,ol,oc⟩ cc 29 54 29)
 obtain ⟨hxk,hkl⟩:=zl9 hkd hk
 have HMD:Hid (∀(W2 W3:World) (base B:Nat) (d:VC),Mid w W2 W3 base B x d cc xv->uP 69 #[.pointer (some ⟨B,0,none⟩)] W3 (MidPost base W3 B cc Y)):=qh fun W2 W3 base B d h=>by
  have hst:=(Xj (Whole.isVal h.whole)).1
  rw [<-hY]
  exact zjf w W2 W3 base B x d p cc xv h hk (by omega) hkl
 have HXV:=qh hxv
 have HKD:=qh hxk
 clear hv hp hxv hT hcb hdo hY hPR he hg hkd hxk hk hsw hlo hxw2 hkl
 go_enter Tryz.func36,Tryz.ntmps36
 generalize hQ0:bodyPost _ _ _=Q0
 have HQ:=qh hQ0
 clear hQ0
 go_wp2_with fail
 refine (HCK.out _ HB.out.below).mono ?_
 rintro e W ⟨rfl,hb1⟩
 have B:=HB.out.next hb1 (by simp)
 obtain ⟨v0,v1,v2,v3,v4⟩:=row5 B.v.at_
 obtain ⟨b0,b1,b2,b3,b4,b5,b6,b7,b8,b9,b10,b11⟩:=row12 B.c.at_
 obtain ⟨r0,r1,r2,r3,r4⟩:=row5 B.r.at_
 have f0:=B.r.fr 0;have f1:=B.r.fr 1;have f2:=B.r.fr 2;have f3:=B.r.fr 3;have f4:=B.r.fr 4
 have z0:=B.v.lt;have z1:=B.c.lt;have z2:=B.r.lt
 have HBW:=qh B
 clear B hb1
 go_wp2_with fail
 refine (HGT.out _ HBW.out.below).mono ?_
 rintro e W2 ⟨⟨d,rfl,hW⟩,hb2⟩
 have B2:=HBW.out.next hb2 (Nat.succ_le_of_lt z2)
 clear v0 v1 v2 v3 v4 r0 r1 r2 r3 r4 f0 f1 f2 f3 f4 b0 b1 b2 b3 b4 b5 b6 b7 b8 b9 b10 b11
 obtain ⟨v0,v1,v2,v3,v4⟩:=row5 B2.v.at_
 obtain ⟨b0,b1,b2,b3,b4,b5,b6,b7,b8,b9,b10,b11⟩:=row12 B2.c.at_
 obtain ⟨r0,r1,r2,r3,r4⟩:=row5 B2.r.at_
 have f0:=B2.r.fr 0;have f1:=B2.r.fr 1;have f2:=B2.r.fr 2;have f3:=B2.r.fr 3;have f4:=B2.r.fr 4
 have z0:=B2.v.lt;have z1:=B2.c.lt;have z2:=B2.r.lt
 have zW:=HBW.out.below.size
 have zW2:=hb2.size
 have z22:=B2.r.lt
 have HB2:=qh B2
 have hdk:d.k=4:=by rw [<-HKD.out,hW.1];rfl
 have g2:(d.k==2)=false:=by rw [hdk];rfl
 have g5:(d.k==5)=false:=by rw [hdk];rfl
 have g4:(d.k==4)=true:=by rw [hdk];rfl
 have hn1:uB W2 (W2.alloc (.cells #[.int .u8 d.k, .int .i64 d.n, .string d.s, .slice d.la d.ll d.lc, .slice d.oa d.ol d.oc] 29)):=(Below.refl _ _).alloc (Nat.le_refl _) _
 have hn3:uB W2 ((W2.alloc (.cells #[.int .u8 d.k, .int .i64 d.n, .string d.s, .slice d.la d.ll d.lc, .slice d.oa d.ol d.oc] 29)).alloc (.cells #[.int .u8 d.k, .int .i64 d.n, .string d.s, .slice d.la d.ll d.lc, .slice d.oa d.ol d.oc, .int .u8 cc.k, .slice cc.pa cc.pl cc.pc, .string cc.key, .int .i64 cc.i, .int .i64 cc.j, .int .i64 cc.n, .int .u8 cc.v.k, .int .i64 cc.v.n, .string cc.v.s, .slice cc.v.la cc.v.ll cc.v.lc, .slice cc.v.oa cc.v.ol cc.v.oc, .string cc.s] 103)):=hn1.alloc (by rw [World.size_alloc];omega) _
 have hbx:=BC.start (W2.alloc (.cells #[.int .u8 d.k, .int .i64 d.n, .string d.s, .slice d.la d.ll d.lc, .slice d.oa d.ol d.oc] 29)) #[.int .u8 d.k, .int .i64 d.n, .string d.s, .slice d.la d.ll d.lc, .slice d.oa d.ol d.oc, .int .u8 cc.k, .slice cc.pa cc.pl cc.pc, .string cc.key, .int .i64 cc.i, .int .i64 cc.j, .int .i64 cc.n, .int .u8 cc.v.k, .int .i64 cc.v.n, .string cc.v.s, .slice cc.v.la cc.v.ll cc.v.lc, .slice cc.v.oa cc.v.ol cc.v.oc, .string cc.s] 103
 rw [World.size_alloc] at hbx
 have HW3:=qh (HMD.out W2 ((W2.alloc (.cells #[.int .u8 d.k, .int .i64 d.n, .string d.s, .slice d.la d.ll d.lc, .slice d.oa d.ol d.oc] 29)).alloc (.cells #[.int .u8 d.k, .int .i64 d.n, .string d.s, .slice d.la d.ll d.lc, .slice d.oa d.ol d.oc, .int .u8 cc.k, .slice cc.pa cc.pl cc.pc, .string cc.key, .int .i64 cc.i, .int .i64 cc.j, .int .i64 cc.n, .int .u8 cc.v.k, .int .i64 cc.v.n, .string cc.v.s, .slice cc.v.la cc.v.ll cc.v.lc, .slice cc.v.oa cc.v.ol cc.v.oc, .string cc.s] 103)) W.heap.size (W2.heap.size+1) d ⟨hW,hn3,hbx,Nat.le_succ _,zW,zW2,HBW.out.below.trans (hb2.mono zW),HXV.out⟩)
 have HN3:=qh hn3
 clear hdk hn1 hn3 hbx hW B2 hb2
 go_wp2_with fail
 refine HW3.out.mono ?_
 rintro e W4 ⟨rfl,d4,hB4,hI4,hb4⟩
 have B4:=(HB2.out.next HN3.out (Nat.succ_le_of_lt z22)).next hb4 (Nat.succ_le_of_lt HBW.out.r.lt)
 clear v0 v1 v2 v3 v4 r0 r1 r2 r3 r4 f0 f1 f2 f3 f4 b0 b1 b2 b3 b4 b5 b6 b7 b8 b9 b10 b11
 obtain ⟨v0,v1,v2,v3,v4⟩:=row5 B4.v.at_
 obtain ⟨b0,b1,b2,b3,b4,b5,b6,b7,b8,b9,b10,b11⟩:=row12 B4.c.at_
 obtain ⟨r0,r1,r2,r3,r4⟩:=row5 B4.r.at_
 have f0:=B4.r.fr 0;have f1:=B4.r.fr 1;have f2:=B4.r.fr 2;have f3:=B4.r.fr 3;have f4:=B4.r.fr 4
 have z0:=B4.v.lt;have z1:=B4.c.lt;have z2:=B4.r.lt
 have z43:=B4.r.lt
 have HB4:=qh B4
 have HBD4:=qh (B4.below.drew)
 have x0:=hB4.at_ 0 _ rfl;have x1:=hB4.at_ 1 _ rfl;have x2:=hB4.at_ 2 _ rfl;have x3:=hB4.at_ 3 _ rfl;have x4:=hB4.at_ 4 _ rfl
 have xlt:=hB4.lt
 have HPD:Hid (uP 71 #[.agg (uU vk vn vs la ll lc oa ol oc), .slice cc.pa cc.pl cc.pc, .agg (uV d4)] W4.drew fun e W'=>(∃d':VC,e= .returned (.tuple #[.agg #[.int .u8 d'.k, .int .i64 d'.n, .string d'.s, .slice d'.la d'.ll d'.lc, .slice d'.oa d'.ol d'.oc], .int .u16 0])/\IsVal (only (fun b=>W4.drew.heap.size<=b) W') W'.heap.size z d')/\Below W4.drew.heap.size W4.drew W'):=qh (HPT.out W4.drew d4 HBD4.out (hI4.later_ (Zf W4)))
 have mixed:Tryz.prog.follows .mixedOrders=true:=by kernel_rfl
 clear B4 hB4 hI4 hb4 HW3 g2 g5 g4
 go_wp2_with fail
 refine wp_region_noPanic ?_
 go_region_with (go_simp;go_at_call 71;(with_reducible refine HPD.out.mono ?_);rintro e W6 ⟨⟨d6,rfl,hz⟩,hb6⟩;have hb46:uB W4 W6:=(Zf W4).trans hb6;have B6:=HB4.out.next hb46 (Nat.succ_le_of_lt z43);obtain ⟨rr0,rr1,rr2,rr3,rr4⟩:=row5 B6.r.at_;have ff0:=B6.r.fr 0;have ff1:=B6.r.fr 1;have ff2:=B6.r.fr 2;have ff3:=B6.r.fr 3;have ff4:=B6.r.fr 4;have zz6:=B6.r.lt;have HB6:=qh B6;have HZ:Hid (IsVal (only (fun b=>W4.heap.size<=b) W6) W6.heap.size z d6):=qh hz;clear hz hb6 hb46 B6)
 all_goals (
  refine NoPanic.normal ?_
  go_wp2_with fail
  rw [<-HQ.out]
  have ST:=HB6.out.result d6
  have hst:=Zi W6 (w.heap.size+1+1) 0 d6
  exact Qf (r:=(z,0)) ST.1 ((Zm (base:=w.heap.size+1+1+1) (HZ.out.sub (Ze fun k hk _=>⟨Nat.le_trans (Nat.succ_le_of_lt z43) hk,rfl⟩)) hst (by omega)).sub (Ze fun k hk _=>⟨by omega,rfl⟩)) ST.2 rfl rfl rfl)
set_option maxRecDepth 100000 in
theorem zg7 (w:World) (vk vn:Int) (vs:ByteArray) (la:Option Addr) (ll lc:Nat) (oa:Option Addr) (ol oc:Nat) (v:V) (hv:IsVal w w.heap.size v ⟨vk,vn,vs,la,ll,lc,oa,ol,oc⟩) (hw:v.weight<=100000000) (p:List St) (xv:V) (cc:CC) (hcb:cc.Bnd) (hp:IsSteps w w.heap.size p cc.pa cc.pl cc.pc) (hxv:IsVal w w.heap.size xv cc.v) (hxw:xv.weight<=4611686018427387904) (hcs:∀y,getP v p=some y->y.str.size+y.str.size+cc.s.size<=140737488355328) (hT:Tabs w) (he:checkP v ⟨cc.k,p,cc.key,cc.i,cc.j,cc.n,xv,cc.s⟩=0) (hk:cc.k=8∨cc.k=9):
 uP 36 #[.agg (uU vk vn vs la ll lc oa ol oc), .agg (uC cc)] w (CDoPost w (doP v ⟨cc.k,p,cc.key,cc.i,cc.j,cc.n,xv,cc.s⟩)):=by
 delta uU uC uP
 obtain ⟨_,x,hg,hkd⟩:=Yl he
 dsimp only at hg hkd
 have hxw2:=Z6 p hg
 have hsw:=x.str_weight.1
 have hlo:=x.str_weight.2
 have HCK:Hid (∀W,uB w W->uP 51 #[.agg (uU vk vn vs la ll lc oa ol oc), .agg (uC cc)] W fun e w'=>e= .returned (.int .u16 0)/\uB W w'):=qh fun W hW=>by
  have:=X2 W vk vn vs la ll lc oa ol oc v (hv.later_ hW) (by omega) p xv cc hcb (hp.later_ hW) (hxv.later_ hW) (by omega) (hT.below hW)
  rw [he] at this;exact this
 have HGT:Hid (∀W,uB w W->uP 52 #[.agg (uU vk vn vs la ll lc oa ol oc), .slice cc.pa cc.pl cc.pc] W fun e W'=>(∃d:VC,e= .returned (.tuple #[.agg #[.int .u8 d.k, .int .i64 d.n, .string d.s, .slice d.la d.ll d.lc, .slice d.oa d.ol d.oc], .int .u16 0])/\Whole W' W.heap.size x d)/\uB W W'):=qh fun W hW=>by
  refine (Qp W v ⟨vk,vn,vs,la,ll,lc,oa,ol,oc⟩ p cc.pa cc.pl cc.pc (hv.later_ hW) (hp.later_ hW)).mono ?_
  rintro e W' ⟨hb,⟨_,hn⟩|⟨x',d,rfl,hg',hW'⟩⟩
  .rw [hn] at hg;cases hg
  .rw [hg] at hg';injection hg' with hg';subst hg'
   exact ⟨⟨d,rfl,hW'⟩,hb⟩
 obtain ⟨Y,hY⟩:∃Y,doneP x ⟨cc.k,p,cc.key,cc.i,cc.j,cc.n,xv,cc.s⟩=Y:=⟨_,rfl⟩
 obtain ⟨z,hPR⟩:=Y6 p hg Y
 have HPT:Hid (∀(W:World) (d:VC),uB w W->IsVal W W.heap.size Y d->uP 71 #[.agg (uU vk vn vs la ll lc oa ol oc), .slice cc.pa cc.pl cc.pc, .agg (uV d)] W fun e W'=>(∃d':VC,e= .returned (.tuple #[.agg #[.int .u8 d'.k, .int .i64 d'.n, .string d'.s, .slice d'.la d'.ll d'.lc, .slice d'.oa d'.ol d'.oc], .int .u16 0])/\IsVal (only (fun b=>W.heap.size<=b) W') W'.heap.size z d')/\uB W W'):=qh fun W d hW hy=>by
  refine (Q6 W v Y ⟨vk,vn,vs,la,ll,lc,oa,ol,oc⟩ d p cc.pa cc.pl cc.pc (hv.later_ hW) (hp.later_ hW) hy).mono ?_
  rintro e W' ⟨hb,⟨_,hn⟩|⟨z',d',rfl,hg',hW'⟩⟩
  .rw [hn] at hg;cases hg
  .rw [hPR] at hg';injection hg' with hg';subst hg'
   exact ⟨⟨d',rfl,hW'⟩,hb⟩
 have hdo:doP v ⟨cc.k,p,cc.key,cc.i,cc.j,cc.n,xv,cc.s⟩=doneQ (putP v p (doneP x ⟨cc.k,p,cc.key,cc.i,cc.j,cc.n,xv,cc.s⟩)):=Ym he hg
 rw [hdo,hY,hPR,Y4]
 have HB:=qh (DB.start w ⟨vk,vn,vs,la,ll,lc,oa,ol,oc⟩ cc 29 54 29)
 obtain ⟨hxk,hkt⟩:=zfi hkd hk
 have hcx:=hcs x hg
 have HMD:Hid (∀(W2 W3:World) (base B:Nat) (d:VC),Mid w W2 W3 base B x d cc xv->uP 70 #[.pointer (some ⟨B,0,none⟩)] W3 (MidPost base W3 B cc Y)):=qh fun W2 W3 base B d h=>by
  have hst:=(Xj (Whole.isVal h.whole)).1
  rw [<-hY]
  exact zg3 w W2 W3 base B x d p cc xv h hk hcb (by rw [<-hst];omega) (by rw [<-hst];omega) hkt
 have HXV:=qh hxv
 have HKD:=qh hxk
 clear hv hp hxv hT hcb hdo hY hPR he hg hkd hxk hk hsw hlo hxw2 hkt hcx hcs
 go_enter Tryz.func36,Tryz.ntmps36
 generalize hQ0:bodyPost _ _ _=Q0
 have HQ:=qh hQ0
 clear hQ0
 go_wp2_with fail
 refine (HCK.out _ HB.out.below).mono ?_
 rintro e W ⟨rfl,hb1⟩
 have B:=HB.out.next hb1 (by simp)
 obtain ⟨v0,v1,v2,v3,v4⟩:=row5 B.v.at_
 obtain ⟨b0,b1,b2,b3,b4,b5,b6,b7,b8,b9,b10,b11⟩:=row12 B.c.at_
 obtain ⟨r0,r1,r2,r3,r4⟩:=row5 B.r.at_
 have f0:=B.r.fr 0;have f1:=B.r.fr 1;have f2:=B.r.fr 2;have f3:=B.r.fr 3;have f4:=B.r.fr 4
 have z0:=B.v.lt;have z1:=B.c.lt;have z2:=B.r.lt
 have HBW:=qh B
 clear B hb1
 go_wp2_with fail
 refine (HGT.out _ HBW.out.below).mono ?_
 rintro e W2 ⟨⟨d,rfl,hW⟩,hb2⟩
 have B2:=HBW.out.next hb2 (Nat.succ_le_of_lt z2)
 clear v0 v1 v2 v3 v4 r0 r1 r2 r3 r4 f0 f1 f2 f3 f4 b0 b1 b2 b3 b4 b5 b6 b7 b8 b9 b10 b11
 obtain ⟨v0,v1,v2,v3,v4⟩:=row5 B2.v.at_
 obtain ⟨b0,b1,b2,b3,b4,b5,b6,b7,b8,b9,b10,b11⟩:=row12 B2.c.at_
 obtain ⟨r0,r1,r2,r3,r4⟩:=row5 B2.r.at_
 have f0:=B2.r.fr 0;have f1:=B2.r.fr 1;have f2:=B2.r.fr 2;have f3:=B2.r.fr 3;have f4:=B2.r.fr 4
 have z0:=B2.v.lt;have z1:=B2.c.lt;have z2:=B2.r.lt
 have zW:=HBW.out.below.size
 have zW2:=hb2.size
 have z22:=B2.r.lt
 have HB2:=qh B2
 have hdk:d.k=3:=by rw [<-HKD.out,hW.1];rfl
 have g2:(d.k==2)=false:=by rw [hdk];rfl
 have g5:(d.k==5)=false:=by rw [hdk];rfl
 have g4:(d.k==4)=false:=by rw [hdk];rfl
 have hn1:uB W2 (W2.alloc (.cells #[.int .u8 d.k, .int .i64 d.n, .string d.s, .slice d.la d.ll d.lc, .slice d.oa d.ol d.oc] 29)):=(Below.refl _ _).alloc (Nat.le_refl _) _
 have hn3:uB W2 ((W2.alloc (.cells #[.int .u8 d.k, .int .i64 d.n, .string d.s, .slice d.la d.ll d.lc, .slice d.oa d.ol d.oc] 29)).alloc (.cells #[.int .u8 d.k, .int .i64 d.n, .string d.s, .slice d.la d.ll d.lc, .slice d.oa d.ol d.oc, .int .u8 cc.k, .slice cc.pa cc.pl cc.pc, .string cc.key, .int .i64 cc.i, .int .i64 cc.j, .int .i64 cc.n, .int .u8 cc.v.k, .int .i64 cc.v.n, .string cc.v.s, .slice cc.v.la cc.v.ll cc.v.lc, .slice cc.v.oa cc.v.ol cc.v.oc, .string cc.s] 103)):=hn1.alloc (by rw [World.size_alloc];omega) _
 have hbx:=BC.start (W2.alloc (.cells #[.int .u8 d.k, .int .i64 d.n, .string d.s, .slice d.la d.ll d.lc, .slice d.oa d.ol d.oc] 29)) #[.int .u8 d.k, .int .i64 d.n, .string d.s, .slice d.la d.ll d.lc, .slice d.oa d.ol d.oc, .int .u8 cc.k, .slice cc.pa cc.pl cc.pc, .string cc.key, .int .i64 cc.i, .int .i64 cc.j, .int .i64 cc.n, .int .u8 cc.v.k, .int .i64 cc.v.n, .string cc.v.s, .slice cc.v.la cc.v.ll cc.v.lc, .slice cc.v.oa cc.v.ol cc.v.oc, .string cc.s] 103
 rw [World.size_alloc] at hbx
 have HW3:=qh (HMD.out W2 ((W2.alloc (.cells #[.int .u8 d.k, .int .i64 d.n, .string d.s, .slice d.la d.ll d.lc, .slice d.oa d.ol d.oc] 29)).alloc (.cells #[.int .u8 d.k, .int .i64 d.n, .string d.s, .slice d.la d.ll d.lc, .slice d.oa d.ol d.oc, .int .u8 cc.k, .slice cc.pa cc.pl cc.pc, .string cc.key, .int .i64 cc.i, .int .i64 cc.j, .int .i64 cc.n, .int .u8 cc.v.k, .int .i64 cc.v.n, .string cc.v.s, .slice cc.v.la cc.v.ll cc.v.lc, .slice cc.v.oa cc.v.ol cc.v.oc, .string cc.s] 103)) W.heap.size (W2.heap.size+1) d ⟨hW,hn3,hbx,Nat.le_succ _,zW,zW2,HBW.out.below.trans (hb2.mono zW),HXV.out⟩)
 have HN3:=qh hn3
 clear hdk hn1 hn3 hbx hW B2 hb2
 go_wp2_with fail
 refine HW3.out.mono ?_
 rintro e W4 ⟨rfl,d4,hB4,hI4,hb4⟩
 have B4:=(HB2.out.next HN3.out (Nat.succ_le_of_lt z22)).next hb4 (Nat.succ_le_of_lt HBW.out.r.lt)
 clear v0 v1 v2 v3 v4 r0 r1 r2 r3 r4 f0 f1 f2 f3 f4 b0 b1 b2 b3 b4 b5 b6 b7 b8 b9 b10 b11
 obtain ⟨v0,v1,v2,v3,v4⟩:=row5 B4.v.at_
 obtain ⟨b0,b1,b2,b3,b4,b5,b6,b7,b8,b9,b10,b11⟩:=row12 B4.c.at_
 obtain ⟨r0,r1,r2,r3,r4⟩:=row5 B4.r.at_
 have f0:=B4.r.fr 0;have f1:=B4.r.fr 1;have f2:=B4.r.fr 2;have f3:=B4.r.fr 3;have f4:=B4.r.fr 4
 have z0:=B4.v.lt;have z1:=B4.c.lt;have z2:=B4.r.lt
 have z43:=B4.r.lt
 have HB4:=qh B4
 have HBD4:=qh (B4.below.drew)
 have x0:=hB4.at_ 0 _ rfl;have x1:=hB4.at_ 1 _ rfl;have x2:=hB4.at_ 2 _ rfl;have x3:=hB4.at_ 3 _ rfl;have x4:=hB4.at_ 4 _ rfl
 have xlt:=hB4.lt
 have HPD:Hid (uP 71 #[.agg (uU vk vn vs la ll lc oa ol oc), .slice cc.pa cc.pl cc.pc, .agg (uV d4)] W4.drew fun e W'=>(∃d':VC,e= .returned (.tuple #[.agg #[.int .u8 d'.k, .int .i64 d'.n, .string d'.s, .slice d'.la d'.ll d'.lc, .slice d'.oa d'.ol d'.oc], .int .u16 0])/\IsVal (only (fun b=>W4.drew.heap.size<=b) W') W'.heap.size z d')/\Below W4.drew.heap.size W4.drew W'):=qh (HPT.out W4.drew d4 HBD4.out (hI4.later_ (Zf W4)))
 have mixed:Tryz.prog.follows .mixedOrders=true:=by kernel_rfl
 clear B4 hB4 hI4 hb4 HW3 g2 g5 g4
 go_wp2_with fail
 refine wp_region_noPanic ?_
 go_region_with (go_simp;go_at_call 71;(with_reducible refine HPD.out.mono ?_);rintro e W6 ⟨⟨d6,rfl,hz⟩,hb6⟩;have hb46:uB W4 W6:=(Zf W4).trans hb6;have B6:=HB4.out.next hb46 (Nat.succ_le_of_lt z43);obtain ⟨rr0,rr1,rr2,rr3,rr4⟩:=row5 B6.r.at_;have ff0:=B6.r.fr 0;have ff1:=B6.r.fr 1;have ff2:=B6.r.fr 2;have ff3:=B6.r.fr 3;have ff4:=B6.r.fr 4;have zz6:=B6.r.lt;have HB6:=qh B6;have HZ:Hid (IsVal (only (fun b=>W4.heap.size<=b) W6) W6.heap.size z d6):=qh hz;clear hz hb6 hb46 B6)
 all_goals (
  refine NoPanic.normal ?_
  go_wp2_with fail
  rw [<-HQ.out]
  have ST:=HB6.out.result d6
  have hst:=Zi W6 (w.heap.size+1+1) 0 d6
  exact Qf (r:=(z,0)) ST.1 ((Zm (base:=w.heap.size+1+1+1) (HZ.out.sub (Ze fun k hk _=>⟨Nat.le_trans (Nat.succ_le_of_lt z43) hk,rfl⟩)) hst (by omega)).sub (Ze fun k hk _=>⟨by omega,rfl⟩)) ST.2 rfl rfl rfl)
theorem zh4 (w:World) (vk vn:Int) (vs:ByteArray) (la:Option Addr) (ll lc:Nat) (oa:Option Addr) (ol oc:Nat) (v:V) (hv:IsVal w w.heap.size v ⟨vk,vn,vs,la,ll,lc,oa,ol,oc⟩) (hw:v.weight<=100000000) (p:List St) (xv:V) (cc:CC) (hcb:cc.Bnd) (hp:IsSteps w w.heap.size p cc.pa cc.pl cc.pc) (hxv:IsVal w w.heap.size xv cc.v) (hxw:xv.weight<=4611686018427387904) (hcs:∀y,getP v p=some y->y.str.size+y.str.size+cc.s.size<=140737488355328) (hsn:v.sound=true) (hT:Tabs w):
 uP 36 #[.agg (uU vk vn vs la ll lc oa ol oc), .agg (uC cc)] w (CDoPost w (doP v ⟨cc.k,p,cc.key,cc.i,cc.j,cc.n,xv,cc.s⟩)):=by
 delta uU uC uP
 by_cases he:checkP v ⟨cc.k,p,cc.key,cc.i,cc.j,cc.n,xv,cc.s⟩=0
 .obtain ⟨hs,x,_,hkd⟩:=Yl he
  have hk1:=J8 hs
  dsimp only at hk1
  by_cases e1:cc.k=1
  .exact zmy w vk vn vs la ll lc oa ol oc v hv hw p xv cc hcb hp hxv hxw hT he e1
  by_cases e2:cc.k=2∨cc.k=3
  .exact zii w vk vn vs la ll lc oa ol oc v hv hw p xv cc hcb hp hxv hxw hsn hT he e2
  by_cases e8:cc.k=8∨cc.k=9
  .exact zg7 w vk vn vs la ll lc oa ol oc v hv hw p xv cc hcb hp hxv hxw hcs hT he e8
  exact zek w vk vn vs la ll lc oa ol oc v hv hw p xv cc hcb hp hxv hxw hT he (by omega)
 .exact zd8 w vk vn vs la ll lc oa ol oc v hv hw p xv cc hcb hp hxv hxw hT he
end Go.Proofs.YtbgheehjfnoiiaaGreatDoor
