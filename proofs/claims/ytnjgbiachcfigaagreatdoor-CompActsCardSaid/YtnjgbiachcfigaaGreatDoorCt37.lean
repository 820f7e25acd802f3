/-
  Contracts of the functions that the law reaches: comp.asks, comp.at (the program's)..
-/
import Derived.Test.YtnjgbiachcfigaaGreatDoorCt36
namespace Go.Proofs.YtnjgbiachcfigaaGreatDoor
open Go.RowKit
set_option maxHeartbeats 16000000
def asksK (k:Int):Int:=if k=1 then 2 else if k=2∨k=3 then 5 else if k=8∨k=9 then 3 else 4
theorem zis (x:V) (k i j n:Int) (key:ByteArray):kindsP x k i j n key=if x.kd≠asksK k then 31 else if x.kd=4 then lCheck x.ls.length k i j else if x.kd=3 then tCheck x.str k i n else if k=3/\fieldIs x.os key=false then 33 else 0:=by
 unfold kindsP asksK
 by_cases h1:k=1
 .rw [if_pos h1,if_pos h1]
  by_cases h:x.kd≠2
  .rw [if_pos h,if_pos h]
  .rw [if_neg h,if_neg h,if_neg (by omega),if_neg (by omega),if_neg (by omega)]
 .rw [if_neg h1,if_neg h1]
  by_cases h2:k=2∨k=3
  .rw [if_pos h2,if_pos h2]
   by_cases h:x.kd≠5
   .rw [if_pos h,if_pos h]
   .rw [if_neg h,if_neg h,if_neg (show ¬x.kd=4 by omega),if_neg (show ¬x.kd=3 by omega)]
  .rw [if_neg h2,if_neg h2]
   by_cases h3:k=8∨k=9
   .rw [if_pos h3,if_pos h3]
    by_cases h:x.kd≠3
    .rw [if_pos h,if_pos h]
    .rw [if_neg h,if_neg h,if_neg (show ¬x.kd=4 by omega),if_pos (show x.kd=3 by omega)]
   .rw [if_neg h3,if_neg h3]
    by_cases h:x.kd≠4
    .rw [if_pos h,if_pos h]
    .rw [if_neg h,if_neg h,if_pos (show x.kd=4 by omega)]
theorem zh3 (k:Int):asksK k=2∨asksK k=5∨asksK k=3∨asksK k=4:=by
 unfold asksK;split
 .exact .inl rfl
 .split
  .exact .inr (.inl rfl)
  .split
   .exact .inr (.inr (.inl rfl))
   .exact .inr (.inr (.inr rfl))
set_option maxRecDepth 100000 in
theorem zlc (w:World) (cc:CC):
 Calls Tryz.prog 112 #[.agg #[.int .u8 cc.k, .slice cc.pa cc.pl cc.pc, .string cc.key, .int .i64 cc.i, .int .i64 cc.j, .int .i64 cc.n, .int .u8 cc.v.k, .int .i64 cc.v.n, .string cc.v.s, .slice cc.v.la cc.v.ll cc.v.lc, .slice cc.v.oa cc.v.ol cc.v.oc, .string cc.s]] w fun e w'=>e= .returned (.int .u8 (asksK cc.k))/\Below w.heap.size w w':=by
 have HBX:=qh (BC.start w #[.int .u8 cc.k, .slice cc.pa cc.pl cc.pc, .string cc.key, .int .i64 cc.i, .int .i64 cc.j, .int .i64 cc.n, .int .u8 cc.v.k, .int .i64 cc.v.n, .string cc.v.s, .slice cc.v.la cc.v.ll cc.v.lc, .slice cc.v.oa cc.v.ol cc.v.oc, .string cc.s] 39)
 have HAL:=qh ((Below.refl _ _).alloc (Nat.le_refl _) (.cells #[.int .u8 cc.k, .slice cc.pa cc.pl cc.pc, .string cc.key, .int .i64 cc.i, .int .i64 cc.j, .int .i64 cc.n, .int .u8 cc.v.k, .int .i64 cc.v.n, .string cc.v.s, .slice cc.v.la cc.v.ll cc.v.lc, .slice cc.v.oa cc.v.ol cc.v.oc, .string cc.s] 39):Below w.heap.size w _)
 obtain ⟨R,hR⟩:∃R,asksK cc.k=R:=⟨_,rfl⟩
 rw [hR]
 obtain ⟨ck,hck⟩:∃ck,cc.k=ck:=⟨_,rfl⟩
 rw [hck] at HBX HAL hR ⊢
 have HR:=qh hR
 clear hck hR
 by_cases e1:ck=1
 .cases e1
  obtain rfl:R=2:=by rw [<-HR.out];rfl
  go_enter Tryz.func112,Tryz.ntmps112
  go_wp2_with fail
  go_returns
  exact ⟨rfl,HAL.out⟩
 have f1:(ck==1)=false:=by simp [e1]
 by_cases e2:ck=2
 .cases e2
  obtain rfl:R=5:=by rw [<-HR.out];rfl
  go_enter Tryz.func112,Tryz.ntmps112
  go_wp2_with fail
  go_returns
  exact ⟨rfl,HAL.out⟩
 have f2:(ck==2)=false:=by simp [e2]
 by_cases e3:ck=3
 .cases e3
  obtain rfl:R=5:=by rw [<-HR.out];rfl
  go_enter Tryz.func112,Tryz.ntmps112
  go_wp2_with fail
  go_returns
  exact ⟨rfl,HAL.out⟩
 have f3:(ck==3)=false:=by simp [e3]
 by_cases e8:ck=8
 .cases e8
  obtain rfl:R=3:=by rw [<-HR.out];rfl
  go_enter Tryz.func112,Tryz.ntmps112
  go_wp2_with fail
  go_returns
  exact ⟨rfl,HAL.out⟩
 have f8:(ck==8)=false:=by simp [e8]
 by_cases e9:ck=9
 .cases e9
  obtain rfl:R=3:=by rw [<-HR.out];rfl
  go_enter Tryz.func112,Tryz.ntmps112
  go_wp2_with fail
  go_returns
  exact ⟨rfl,HAL.out⟩
 have f9:(ck==9)=false:=by simp [e9]
 obtain rfl:R=4:=by rw [<-HR.out,asksK,if_neg e1,if_neg (by omega),if_neg (by omega)]
 go_enter Tryz.func112,Tryz.ntmps112
 go_wp2_with fail
 go_returns
 exact ⟨rfl,HAL.out⟩
set_option maxRecDepth 100000 in
theorem zc3 (w:World) (vk vn:Int) (vs:ByteArray) (la:Option Addr) (ll lc:Nat) (oa:Option Addr) (ol oc:Nat) (v:V) (hv:IsVal w w.heap.size v ⟨vk,vn,vs,la,ll,lc,oa,ol,oc⟩) (hs:vs.size<=1000000000000) (cc:CC) (hcb:cc.Bnd):
 Calls Tryz.prog 70 #[.agg #[.int .u8 vk, .int .i64 vn, .string vs, .slice la ll lc, .slice oa ol oc], .agg #[.int .u8 cc.k, .slice cc.pa cc.pl cc.pc, .string cc.key, .int .i64 cc.i, .int .i64 cc.j, .int .i64 cc.n, .int .u8 cc.v.k, .int .i64 cc.v.n, .string cc.v.s, .slice cc.v.la cc.v.ll cc.v.lc, .slice cc.v.oa cc.v.ol cc.v.oc, .string cc.s]] w fun e w'=>e= .returned (.int .u16 (kindsP v cc.k cc.i cc.j cc.n cc.key))/\Below w.heap.size w w':=by
 obtain ⟨k',n',s',l,o,rfl⟩:=v.eta
 obtain ⟨e1,e2,e3,hbd,hvl,hvo⟩:=hv.lists
 dsimp only at e1 e2 e3 hvl hvo
 subst e1 e2 e3
 have k1:=hvl.few;have k2:=hvl.max;have k3:=hvo.few;have k4:=hvo.max
 obtain ⟨R,hR⟩:∃R,kindsP (.mk vk vn vs l o) cc.k cc.i cc.j cc.n cc.key=R:=⟨_,rfl⟩
 rw [hR]
 rw [zis] at hR
 change (if vk≠asksK cc.k then (31:Int) else if vk=4 then lCheck l.length cc.k cc.i cc.j else if vk=3 then tCheck vs cc.k cc.i cc.n else if cc.k=3/\fieldIs o cc.key=false then 33 else 0)=R at hR
 have hll:l.length=ll:=by have:=hvl.len;omega
 rw [hll] at hR
 have HAS:Hid (∀W,Calls Tryz.prog 112 #[.agg #[.int .u8 cc.k, .slice cc.pa cc.pl cc.pc, .string cc.key, .int .i64 cc.i, .int .i64 cc.j, .int .i64 cc.n, .int .u8 cc.v.k, .int .i64 cc.v.n, .string cc.v.s, .slice cc.v.la cc.v.ll cc.v.lc, .slice cc.v.oa cc.v.ol cc.v.oc, .string cc.s]] W fun e w'=>e= .returned (.int .u8 (asksK cc.k))/\Below W.heap.size W w'):=fun W=>zlc W cc
 have HSQ:Hid (∀W,Calls Tryz.prog 113 #[.int .i64 ll, .agg #[.int .u8 cc.k, .slice cc.pa cc.pl cc.pc, .string cc.key, .int .i64 cc.i, .int .i64 cc.j, .int .i64 cc.n, .int .u8 cc.v.k, .int .i64 cc.v.n, .string cc.v.s, .slice cc.v.la cc.v.ll cc.v.lc, .slice cc.v.oa cc.v.ol cc.v.oc, .string cc.s]] W fun e w'=>e= .returned (.int .u16 (lCheck ll cc.k cc.i cc.j))/\Below W.heap.size W w'):=fun W=>Xu W ll (by omega) cc
 have HTC:Hid (∀W,Calls Tryz.prog 114 #[.string vs, .agg #[.int .u8 cc.k, .slice cc.pa cc.pl cc.pc, .string cc.key, .int .i64 cc.i, .int .i64 cc.j, .int .i64 cc.n, .int .u8 cc.v.k, .int .i64 cc.v.n, .string cc.v.s, .slice cc.v.la cc.v.ll cc.v.lc, .slice cc.v.oa cc.v.ol cc.v.oc, .string cc.s]] W fun e w'=>e= .returned (.int .u16 (tCheck vs cc.k cc.i cc.n))/\Below W.heap.size W w'):=fun W=>zb4 W vs cc hcb hs
 have HFD:Hid (∀W,Below w.heap.size w W->Calls Tryz.prog 79 #[.agg #[.int .u8 vk, .int .i64 vn, .string vs, .slice la ll lc, .slice oa ol oc], .string cc.key] W fun e w'=>e= .returned (.tuple #[.int .i64 (fieldK o cc.key:Int), .bool (fieldIs o cc.key)])/\Below W.heap.size W w'):=fun W hW=>X6 W o cc.key ⟨vk,vn,vs,la,ll,lc,oa,ol,oc⟩ (hvo.later_ hW)
 obtain ⟨LC,hLC⟩:∃LC,lCheck ll cc.k cc.i cc.j=LC:=⟨_,rfl⟩
 obtain ⟨TC,hTC⟩:∃TC,tCheck vs cc.k cc.i cc.n=TC:=⟨_,rfl⟩
 obtain ⟨is,his⟩:∃is,fieldIs o cc.key=is:=⟨_,rfl⟩
 obtain ⟨fk,hfk⟩:∃fk,fieldK o cc.key=fk:=⟨_,rfl⟩
 have hor:=zh3 cc.k
 obtain ⟨A,hA⟩:∃A,asksK cc.k=A:=⟨_,rfl⟩
 rw [hLC] at HSQ hR
 rw [hTC] at HTC hR
 rw [his] at HFD hR
 rw [hfk] at HFD
 rw [hA] at HAS hR hor
 have HB:=qh (KBk.start w ⟨vk,vn,vs,la,ll,lc,oa,ol,oc⟩ cc 36 39)
 have HBD:=qh (HB.out.next (Zf _) (by simp))
 have HR:=qh hR
 clear hR hLC hTC his hfk hA hll hv hbd hvl hvo hs hcb
 by_cases ev:vk=A
 .cases ev
  have h34:vk=3∨vk=4∨(vk≠3/\vk≠4):=by omega
  rcases h34 with rfl|rfl|⟨n3,n4⟩
  .obtain rfl:R=TC:=by rw [<-HR.out];rfl
   go_enter Tryz.func70,Tryz.ntmps70
   go_wp2_with fail
   go_region_with (go_simp;go_at_call 112;(with_reducible refine (HAS.out _).mono ?_);rintro e w4 ⟨rfl,hb4⟩;have B4:=HBD.out.next hb4 (by simp);have v0:=B4.v.at_ 0 _ rfl;have v1:=B4.v.at_ 1 _ rfl;have v2:=B4.v.at_ 2 _ rfl;have v3:=B4.v.at_ 3 _ rfl;have v4:=B4.v.at_ 4 _ rfl;have b0:=B4.c.at_ 0 _ rfl;have b1:=B4.c.at_ 1 _ rfl;have b2:=B4.c.at_ 2 _ rfl;have b3:=B4.c.at_ 3 _ rfl;have b4:=B4.c.at_ 4 _ rfl;have b5:=B4.c.at_ 5 _ rfl;have b6:=B4.c.at_ 6 _ rfl;have b7:=B4.c.at_ 7 _ rfl;have b8:=B4.c.at_ 8 _ rfl;have b9:=B4.c.at_ 9 _ rfl;have b10:=B4.c.at_ 10 _ rfl;have b11:=B4.c.at_ 11 _ rfl;have z0:=B4.v.lt;have z1:=B4.c.lt;have HB4:=qh B4;clear hb4 B4)
   all_goals (go_wp2_with fail;refine (HTC.out _).mono ?_;rintro e w5 ⟨rfl,hb5⟩;go_wp2_with fail;go_returns;exact ⟨rfl,HB4.out.below.trans (hb5.mono HB4.out.below.size)⟩)
  .obtain rfl:R=LC:=by rw [<-HR.out];rfl
   go_enter Tryz.func70,Tryz.ntmps70
   go_wp2_with fail
   go_region_with (go_simp;go_at_call 112;(with_reducible refine (HAS.out _).mono ?_);rintro e w4 ⟨rfl,hb4⟩;have B4:=HBD.out.next hb4 (by simp);have v0:=B4.v.at_ 0 _ rfl;have v1:=B4.v.at_ 1 _ rfl;have v2:=B4.v.at_ 2 _ rfl;have v3:=B4.v.at_ 3 _ rfl;have v4:=B4.v.at_ 4 _ rfl;have b0:=B4.c.at_ 0 _ rfl;have b1:=B4.c.at_ 1 _ rfl;have b2:=B4.c.at_ 2 _ rfl;have b3:=B4.c.at_ 3 _ rfl;have b4:=B4.c.at_ 4 _ rfl;have b5:=B4.c.at_ 5 _ rfl;have b6:=B4.c.at_ 6 _ rfl;have b7:=B4.c.at_ 7 _ rfl;have b8:=B4.c.at_ 8 _ rfl;have b9:=B4.c.at_ 9 _ rfl;have b10:=B4.c.at_ 10 _ rfl;have b11:=B4.c.at_ 11 _ rfl;have z0:=B4.v.lt;have z1:=B4.c.lt;have HB4:=qh B4;clear hb4 B4)
   all_goals (go_wp2_with fail;refine (HSQ.out _).mono ?_;rintro e w5 ⟨rfl,hb5⟩;go_wp2_with fail;go_returns;exact ⟨rfl,HB4.out.below.trans (hb5.mono HB4.out.below.size)⟩)
  .have hR2:(if cc.k=3/\is=false then (33:Int) else 0)=R:=by have h:=HR.out;rwa [if_neg (fun h=>h rfl),if_neg n4,if_neg n3] at h
   have g3:(vk==3)=false:=by simp [n3]
   have g4:(vk==4)=false:=by simp [n4]
   have HR2:=qh hR2
   clear HR hR2 n3 n4 hor
   by_cases e3:cc.k=3
   .have f3:(cc.k==3)=true:=by simp [e3]
    cases is with
    | false=>
      obtain rfl:R=33:=by rw [<-HR2.out,if_pos ⟨e3,rfl⟩]
      clear e3
      go_enter Tryz.func70,Tryz.ntmps70
      go_wp2_with fail
      go_region_with (go_simp;go_at_call 112;(with_reducible refine (HAS.out _).mono ?_);rintro e w4 ⟨rfl,hb4⟩;have B4:=HBD.out.next hb4 (by simp);have v0:=B4.v.at_ 0 _ rfl;have v1:=B4.v.at_ 1 _ rfl;have v2:=B4.v.at_ 2 _ rfl;have v3:=B4.v.at_ 3 _ rfl;have v4:=B4.v.at_ 4 _ rfl;have b0:=B4.c.at_ 0 _ rfl;have b1:=B4.c.at_ 1 _ rfl;have b2:=B4.c.at_ 2 _ rfl;have b3:=B4.c.at_ 3 _ rfl;have b4:=B4.c.at_ 4 _ rfl;have b5:=B4.c.at_ 5 _ rfl;have b6:=B4.c.at_ 6 _ rfl;have b7:=B4.c.at_ 7 _ rfl;have b8:=B4.c.at_ 8 _ rfl;have b9:=B4.c.at_ 9 _ rfl;have b10:=B4.c.at_ 10 _ rfl;have b11:=B4.c.at_ 11 _ rfl;have z0:=B4.v.lt;have z1:=B4.c.lt;have HB4:=qh B4;clear hb4 B4)
      all_goals (go_wp2_with fail;refine (HFD.out _ HB4.out.below).mono ?_;rintro e w5 ⟨rfl,hb5⟩;have B5:=HB4.out.next hb5 (by omega);clear v0 v1 v2 v3 v4 b0 b1 b2 b3 b4 b5 b6 b7 b8 b9 b10 b11 z0 z1;have v0:=B5.v.at_ 0 _ rfl;have v1:=B5.v.at_ 1 _ rfl;have v2:=B5.v.at_ 2 _ rfl;have v3:=B5.v.at_ 3 _ rfl;have v4:=B5.v.at_ 4 _ rfl;have b0:=B5.c.at_ 0 _ rfl;have b1:=B5.c.at_ 1 _ rfl;have b2:=B5.c.at_ 2 _ rfl;have b3:=B5.c.at_ 3 _ rfl;have b4:=B5.c.at_ 4 _ rfl;have b5:=B5.c.at_ 5 _ rfl;have b6:=B5.c.at_ 6 _ rfl;have b7:=B5.c.at_ 7 _ rfl;have b8:=B5.c.at_ 8 _ rfl;have b9:=B5.c.at_ 9 _ rfl;have b10:=B5.c.at_ 10 _ rfl;have b11:=B5.c.at_ 11 _ rfl;have z0:=B5.v.lt;have z1:=B5.c.lt;have HB5:=qh B5;clear hb5 B5;go_wp2_with fail;go_returns;exact ⟨rfl,HB5.out.below⟩)
    | true=>
      obtain rfl:R=0:=by rw [<-HR2.out,if_neg (by simp)]
      clear e3
      go_enter Tryz.func70,Tryz.ntmps70
      go_wp2_with fail
      go_region_with (go_simp;go_at_call 112;(with_reducible refine (HAS.out _).mono ?_);rintro e w4 ⟨rfl,hb4⟩;have B4:=HBD.out.next hb4 (by simp);have v0:=B4.v.at_ 0 _ rfl;have v1:=B4.v.at_ 1 _ rfl;have v2:=B4.v.at_ 2 _ rfl;have v3:=B4.v.at_ 3 _ rfl;have v4:=B4.v.at_ 4 _ rfl;have b0:=B4.c.at_ 0 _ rfl;have b1:=B4.c.at_ 1 _ rfl;have b2:=B4.c.at_ 2 _ rfl;have b3:=B4.c.at_ 3 _ rfl;have b4:=B4.c.at_ 4 _ rfl;have b5:=B4.c.at_ 5 _ rfl;have b6:=B4.c.at_ 6 _ rfl;have b7:=B4.c.at_ 7 _ rfl;have b8:=B4.c.at_ 8 _ rfl;have b9:=B4.c.at_ 9 _ rfl;have b10:=B4.c.at_ 10 _ rfl;have b11:=B4.c.at_ 11 _ rfl;have z0:=B4.v.lt;have z1:=B4.c.lt;have HB4:=qh B4;clear hb4 B4)
      all_goals (go_wp2_with fail;refine (HFD.out _ HB4.out.below).mono ?_;rintro e w5 ⟨rfl,hb5⟩;have B5:=HB4.out.next hb5 (by omega);clear v0 v1 v2 v3 v4 b0 b1 b2 b3 b4 b5 b6 b7 b8 b9 b10 b11 z0 z1;have v0:=B5.v.at_ 0 _ rfl;have v1:=B5.v.at_ 1 _ rfl;have v2:=B5.v.at_ 2 _ rfl;have v3:=B5.v.at_ 3 _ rfl;have v4:=B5.v.at_ 4 _ rfl;have b0:=B5.c.at_ 0 _ rfl;have b1:=B5.c.at_ 1 _ rfl;have b2:=B5.c.at_ 2 _ rfl;have b3:=B5.c.at_ 3 _ rfl;have b4:=B5.c.at_ 4 _ rfl;have b5:=B5.c.at_ 5 _ rfl;have b6:=B5.c.at_ 6 _ rfl;have b7:=B5.c.at_ 7 _ rfl;have b8:=B5.c.at_ 8 _ rfl;have b9:=B5.c.at_ 9 _ rfl;have b10:=B5.c.at_ 10 _ rfl;have b11:=B5.c.at_ 11 _ rfl;have z0:=B5.v.lt;have z1:=B5.c.lt;have HB5:=qh B5;clear hb5 B5;go_wp2_with fail;go_returns;exact ⟨rfl,HB5.out.below⟩)
   .have f3:(cc.k==3)=false:=by simp [e3]
    obtain rfl:R=0:=by rw [<-HR2.out,if_neg (fun h=>e3 h.1)]
    clear e3
    go_enter Tryz.func70,Tryz.ntmps70
    go_wp2_with fail
    go_region_with (go_simp;go_at_call 112;(with_reducible refine (HAS.out _).mono ?_);rintro e w4 ⟨rfl,hb4⟩;have B4:=HBD.out.next hb4 (by simp);have v0:=B4.v.at_ 0 _ rfl;have v1:=B4.v.at_ 1 _ rfl;have v2:=B4.v.at_ 2 _ rfl;have v3:=B4.v.at_ 3 _ rfl;have v4:=B4.v.at_ 4 _ rfl;have b0:=B4.c.at_ 0 _ rfl;have b1:=B4.c.at_ 1 _ rfl;have b2:=B4.c.at_ 2 _ rfl;have b3:=B4.c.at_ 3 _ rfl;have b4:=B4.c.at_ 4 _ rfl;have b5:=B4.c.at_ 5 _ rfl;have b6:=B4.c.at_ 6 _ rfl;have b7:=B4.c.at_ 7 _ rfl;have b8:=B4.c.at_ 8 _ rfl;have b9:=B4.c.at_ 9 _ rfl;have b10:=B4.c.at_ 10 _ rfl;have b11:=B4.c.at_ 11 _ rfl;have z0:=B4.v.lt;have z1:=B4.c.lt;have HB4:=qh B4;clear hb4 B4)
    all_goals (go_wp2_with fail;refine (HFD.out _ HB4.out.below).mono ?_;rintro e w5 ⟨rfl,hb5⟩;have B5:=HB4.out.next hb5 (by omega);clear v0 v1 v2 v3 v4 b0 b1 b2 b3 b4 b5 b6 b7 b8 b9 b10 b11 z0 z1;have v0:=B5.v.at_ 0 _ rfl;have v1:=B5.v.at_ 1 _ rfl;have v2:=B5.v.at_ 2 _ rfl;have v3:=B5.v.at_ 3 _ rfl;have v4:=B5.v.at_ 4 _ rfl;have b0:=B5.c.at_ 0 _ rfl;have b1:=B5.c.at_ 1 _ rfl;have b2:=B5.c.at_ 2 _ rfl;have b3:=B5.c.at_ 3 _ rfl;have b4:=B5.c.at_ 4 _ rfl;have b5:=B5.c.at_ 5 _ rfl;have b6:=B5.c.at_ 6 _ rfl;have b7:=B5.c.at_ 7 _ rfl;have b8:=B5.c.at_ 8 _ rfl;have b9:=B5.c.at_ 9 _ rfl;have b10:=B5.c.at_ 10 _ rfl;have b11:=B5.c.at_ 11 _ rfl;have z0:=B5.v.lt;have z1:=B5.c.lt;have HB5:=qh B5;clear hb5 B5;go_wp2_with fail;go_returns;exact ⟨rfl,HB5.out.below⟩)
 .have fv:(vk !=A)=true:=by simp [ev]
  obtain rfl:R=31:=by rw [<-HR.out,if_pos ev]
  go_enter Tryz.func70,Tryz.ntmps70
  go_wp2_with fail
  go_region_with (go_simp;go_at_call 112;(with_reducible refine (HAS.out _).mono ?_);rintro e w4 ⟨rfl,hb4⟩;have B4:=HBD.out.next hb4 (by simp);have v0:=B4.v.at_ 0 _ rfl;have v1:=B4.v.at_ 1 _ rfl;have v2:=B4.v.at_ 2 _ rfl;have v3:=B4.v.at_ 3 _ rfl;have v4:=B4.v.at_ 4 _ rfl;have b0:=B4.c.at_ 0 _ rfl;have b1:=B4.c.at_ 1 _ rfl;have b2:=B4.c.at_ 2 _ rfl;have b3:=B4.c.at_ 3 _ rfl;have b4:=B4.c.at_ 4 _ rfl;have b5:=B4.c.at_ 5 _ rfl;have b6:=B4.c.at_ 6 _ rfl;have b7:=B4.c.at_ 7 _ rfl;have b8:=B4.c.at_ 8 _ rfl;have b9:=B4.c.at_ 9 _ rfl;have b10:=B4.c.at_ 10 _ rfl;have b11:=B4.c.at_ 11 _ rfl;have z0:=B4.v.lt;have z1:=B4.c.lt;have HB4:=qh B4;clear hb4 B4)
  all_goals (go_wp2_with fail;go_returns;exact ⟨rfl,HB4.out.below⟩)
theorem PGetPost.gen {w:World} {v:V} {p:List St} {e:Ending} {w':World} (h:PGetPost w v p e w'):∃(d:VC) (er:Int),e= .returned (.tuple #[.agg #[.int .u8 d.k, .int .i64 d.n, .string d.s, .slice d.la d.ll d.lc, .slice d.oa d.ol d.oc], .int .u16 er])/\Hid ((getP v p=none/\er=30)∨∃x,getP v p=some x/\er=0/\Whole w' w.heap.size x d)/\Below w.heap.size w w':=by
 obtain ⟨hb,⟨rfl,hn⟩|⟨x,d,rfl,hg,hW⟩⟩:=h
 .exact ⟨vzero,30,rfl,qh (.inl ⟨hn,rfl⟩),hb⟩
 .exact ⟨d,0,rfl,qh (.inr ⟨x,hg,rfl,hW⟩),hb⟩
set_option maxRecDepth 100000 in
theorem Xs (w:World) (vk vn:Int) (vs:ByteArray) (la:Option Addr) (ll lc:Nat) (oa:Option Addr) (ol oc:Nat) (v:V) (hv:IsVal w w.heap.size v ⟨vk,vn,vs,la,ll,lc,oa,ol,oc⟩) (hw:v.weight<=1000000000000) (p:List St) (xv:V) (cc:CC) (hcb:cc.Bnd) (hp:IsSteps w w.heap.size p cc.pa cc.pl cc.pc) (hxv:IsVal w w.heap.size xv cc.v) (hxw:xv.weight<=4611686018427387904) (hT:Tabs w):
 Calls Tryz.prog 35 #[.agg #[.int .u8 vk, .int .i64 vn, .string vs, .slice la ll lc, .slice oa ol oc], .agg #[.int .u8 cc.k, .slice cc.pa cc.pl cc.pc, .string cc.key, .int .i64 cc.i, .int .i64 cc.j, .int .i64 cc.n, .int .u8 cc.v.k, .int .i64 cc.v.n, .string cc.v.s, .slice cc.v.la cc.v.ll cc.v.lc, .slice cc.v.oa cc.v.ol cc.v.oc, .string cc.s]] w fun e w'=>e= .returned (.int .u16 (checkP v ⟨cc.k,p,cc.key,cc.i,cc.j,cc.n,xv,cc.s⟩))/\Below w.heap.size w w':=by
 have HSD:Hid (∀W,Below w.heap.size w W->Calls Tryz.prog 19 #[.agg #[.int .u8 cc.k, .slice cc.pa cc.pl cc.pc, .string cc.key, .int .i64 cc.i, .int .i64 cc.j, .int .i64 cc.n, .int .u8 cc.v.k, .int .i64 cc.v.n, .string cc.v.s, .slice cc.v.la cc.v.ll cc.v.lc, .slice cc.v.oa cc.v.ol cc.v.oc, .string cc.s]] W fun e w'=>e= .returned (.bool (cmSound ⟨cc.k,p,cc.key,cc.i,cc.j,cc.n,xv,cc.s⟩))/\Below W.heap.size W w'):=fun W hW=>Kt _ W (hT.below hW) cc (.mk cc p xv hcb (hp.later_ hW) (hxv.later_ hW)) (by show xv.weight<=_;omega)
 have HGT:Hid (∀W,Below w.heap.size w W->Calls Tryz.prog 42 #[.agg #[.int .u8 vk, .int .i64 vn, .string vs, .slice la ll lc, .slice oa ol oc], .slice cc.pa cc.pl cc.pc] W (PGetPost W v p)):=fun W hW=>Qj W v ⟨vk,vn,vs,la,ll,lc,oa,ol,oc⟩ p cc.pa cc.pl cc.pc (hv.later_ hW) (hp.later_ hW)
 have HKD:Hid (∀W x (d:VC),Below w.heap.size w W->IsVal W W.heap.size x d->getP v p=some x->Calls Tryz.prog 70 #[.agg #[.int .u8 d.k, .int .i64 d.n, .string d.s, .slice d.la d.ll d.lc, .slice d.oa d.ol d.oc], .agg #[.int .u8 cc.k, .slice cc.pa cc.pl cc.pc, .string cc.key, .int .i64 cc.i, .int .i64 cc.j, .int .i64 cc.n, .int .u8 cc.v.k, .int .i64 cc.v.n, .string cc.v.s, .slice cc.v.la cc.v.ll cc.v.lc, .slice cc.v.oa cc.v.ol cc.v.oc, .string cc.s]] W fun e w'=>e= .returned (.int .u16 (kindsP x cc.k cc.i cc.j cc.n cc.key))/\Below W.heap.size W w'):=fun W x d hW hI hg=>by
  have h1:=Z7 p hg
  have h2:=x.str_weight.1
  have h3:=(Xc hI).1
  exact zc3 W d.k d.n d.s d.la d.ll d.lc d.oa d.ol d.oc x hI (by rw [<-h3];omega) cc hcb
 obtain ⟨sd,hsd⟩:∃sd,cmSound ⟨cc.k,p,cc.key,cc.i,cc.j,cc.n,xv,cc.s⟩=sd:=⟨_,rfl⟩
 rw [hsd] at HSD
 obtain ⟨R,hR⟩:∃R,checkP v ⟨cc.k,p,cc.key,cc.i,cc.j,cc.n,xv,cc.s⟩=R:=⟨_,rfl⟩
 rw [hR]
 simp only [checkP,hsd] at hR
 have HR:=qh hR
 have HB:=qh (KBk.start w ⟨vk,vn,vs,la,ll,lc,oa,ol,oc⟩ cc 36 39)
 clear hR hsd hv hp hxv hxw hw hT hcb
 go_enter Tryz.func35,Tryz.ntmps35
 go_wp2_with fail
 refine (HSD.out _ HB.out.below).mono ?_
 rintro e W ⟨rfl,hb1⟩
 have B:=HB.out.next hb1 (by simp)
 have v0:=B.v.at_ 0 _ rfl;have v1:=B.v.at_ 1 _ rfl;have v2:=B.v.at_ 2 _ rfl;have v3:=B.v.at_ 3 _ rfl;have v4:=B.v.at_ 4 _ rfl
 have b0:=B.c.at_ 0 _ rfl;have b1:=B.c.at_ 1 _ rfl;have b2:=B.c.at_ 2 _ rfl;have b3:=B.c.at_ 3 _ rfl;have b4:=B.c.at_ 4 _ rfl;have b5:=B.c.at_ 5 _ rfl;have b6:=B.c.at_ 6 _ rfl;have b7:=B.c.at_ 7 _ rfl;have b8:=B.c.at_ 8 _ rfl;have b9:=B.c.at_ 9 _ rfl;have b10:=B.c.at_ 10 _ rfl;have b11:=B.c.at_ 11 _ rfl
 have z0:=B.v.lt;have z1:=B.c.lt
 have HBW:=qh B
 clear B hb1
 cases sd with
 | false=>
   obtain rfl:R=60:=by rw [<-HR.out];rfl
   go_wp2_with fail
   go_returns
   exact ⟨rfl,HBW.out.below⟩
 | true=>
   go_wp2_with fail
   refine (HGT.out _ HBW.out.below).mono ?_
   rintro e W2 h2
   obtain ⟨d,er,rfl,hrel,hb2⟩:=PGetPost.gen h2
   clear h2
   have B2:=HBW.out.next hb2 (Nat.succ_le_of_lt z1)
   clear v0 v1 v2 v3 v4 b0 b1 b2 b3 b4 b5 b6 b7 b8 b9 b10 b11
   have v0:=B2.v.at_ 0 _ rfl;have v1:=B2.v.at_ 1 _ rfl;have v2:=B2.v.at_ 2 _ rfl;have v3:=B2.v.at_ 3 _ rfl;have v4:=B2.v.at_ 4 _ rfl
   have b0:=B2.c.at_ 0 _ rfl;have b1:=B2.c.at_ 1 _ rfl;have b2:=B2.c.at_ 2 _ rfl;have b3:=B2.c.at_ 3 _ rfl;have b4:=B2.c.at_ 4 _ rfl;have b5:=B2.c.at_ 5 _ rfl;have b6:=B2.c.at_ 6 _ rfl;have b7:=B2.c.at_ 7 _ rfl;have b8:=B2.c.at_ 8 _ rfl;have b9:=B2.c.at_ 9 _ rfl;have b10:=B2.c.at_ 10 _ rfl;have b11:=B2.c.at_ 11 _ rfl
   have z0:=B2.v.lt;have z1:=B2.c.lt
   have hbl2:=B2.below
   have HB2:=qh (hbl2.alloc hbl2.size (.cells #[.int .u8 d.k, .int .i64 d.n, .string d.s, .slice d.la d.ll d.lc, .slice d.oa d.ol d.oc] 36))
   clear hb2 B2
   rcases hrel.out with ⟨hg,rfl⟩|⟨x,hg,rfl,hI⟩
   .obtain rfl:R=30:=by rw [<-HR.out,hg];rfl
    clear hg hbl2
    go_wp2_with fail
    go_returns
    exact ⟨rfl,HB2.out⟩
   .have HK:Hid (Calls Tryz.prog 70 #[.agg #[.int .u8 d.k, .int .i64 d.n, .string d.s, .slice d.la d.ll d.lc, .slice d.oa d.ol d.oc], .agg #[.int .u8 cc.k, .slice cc.pa cc.pl cc.pc, .string cc.key, .int .i64 cc.i, .int .i64 cc.j, .int .i64 cc.n, .int .u8 cc.v.k, .int .i64 cc.v.n, .string cc.v.s, .slice cc.v.la cc.v.ll cc.v.lc, .slice cc.v.oa cc.v.ol cc.v.oc, .string cc.s]] (W2.alloc (.cells #[.int .u8 d.k, .int .i64 d.n, .string d.s, .slice d.la d.ll d.lc, .slice d.oa d.ol d.oc] 36)) fun e w'=>e= .returned (.int .u16 (kindsP x cc.k cc.i cc.j cc.n cc.key))/\Below (W2.alloc (.cells #[.int .u8 d.k, .int .i64 d.n, .string d.s, .slice d.la d.ll d.lc, .slice d.oa d.ol d.oc] 36)).heap.size (W2.alloc (.cells #[.int .u8 d.k, .int .i64 d.n, .string d.s, .slice d.la d.ll d.lc, .slice d.oa d.ol d.oc] 36)) w'):=HKD.out _ x d HB2.out ((hI.sepI.isVal.sub (Zn _ _ _)).later_ ((Below.refl _ _).alloc (Nat.le_refl _) _)) hg
    obtain rfl:R=kindsP x cc.k cc.i cc.j cc.n cc.key:=by rw [<-HR.out,hg];rfl
    clear hg hI hrel hbl2
    go_wp2_with fail
    refine HK.out.mono ?_
    rintro e W3 ⟨rfl,hb3⟩
    go_wp2_with fail
    go_returns
    exact ⟨rfl,HB2.out.trans (hb3.mono HB2.out.size)⟩
theorem zhl:(Tryz.prog.info? 77).map (fun i=>(i.zero,i.size,i.bytes))=some (some (.agg #[.bool false, .int .i64 0, .string { data:= #[] }]),3,32):=by kernel_rfl
def walkP:V->List UInt8->List St
 |_, [] => []
 | v,b::r=>if 0<v.ls.length then ⟨true,(b.toNat % v.ls.length:Nat), .empty⟩::walkP (v.ls.getD (b.toNat % v.ls.length) V.none) r
   else if 0<v.os.length then ⟨false,0,(v.os.getD (b.toNat % v.os.length) (.empty,V.none)).1⟩::walkP (v.os.getD (b.toNat % v.os.length) (.empty,V.none)).2 r
   else walkP v r
theorem zdi {w:World} {B1:Nat} {S:Nat->Prop} {v:Value} {l:List St} (hown:w.ownsRow B1 77 3 v l.length (l.flatMap scells)) (hS:∀k,B1<=k->S k) (hb:∀s ∈ l,s.Bnd) (hfew:l.length<=1466015503701):
 ∃a n c,v= .slice a n c/\IsSteps (only S w) w.heap.size l a n c:=by
 obtain ⟨a,c,hv,hr⟩:=OwnRow.of (base':=B1) hown (Nat.le_refl _)
 refine ⟨a,l.length,c,hv,rfl,hr.cap,hr.max,hfew, ?_⟩
 by_cases hn:0<l.length
 .obtain ⟨g,e,hg,hbc⟩:=hr.row (.inl hn)
  refine ⟨g,0,fun _=>⟨e,hbc.lt⟩,fun i hi=>⟨?_,hb _ (List.getElem_mem hi)⟩⟩
  have hc:∀t x,t<3->(scells l[i])[t]? =some x->(only S w).cell? ⟨g,0+i*3+t,none⟩=some x:=fun t x ht hx=>by
   rw [Nat.zero_add]
   exact Z3 (hS g hg) (hbc.at_ _ _ ((Xh scells 3 (fun _=>rfl) l i t hi ht).trans hx))
  exact ⟨hc 0 _ (by omega) rfl,hc 1 _ (by omega) rfl,hc 2 _ (by omega) rfl⟩
 .exact ⟨0,0,fun h=>absurd h hn,fun i hi=>absurd hi (by omega)⟩
def WalkPost (w:World) (l:List St) (e:Ending) (w':World):Prop:=
 (∃a n c,e= .returned (.slice a n c)/\IsSteps (only (fun b=>w.heap.size<=b) w') w'.heap.size l a n c)/\Below w.heap.size w w'
structure WKH (w wr:World) (v x:V) (c:VC) (bs:List UInt8) (j:Nat) (u:Value) (xs:List St):Prop where
 rd:xs++walkP x ((bs.take 8).drop j)=walkP v (bs.take 8)
 few:xs.length<=j
 bnd:∀s ∈ xs,s.Bnd
 val:IsVal w w.heap.size x c
 box:BC wr w.heap.size (vcells c)
 own:wr.ownsRow (w.heap.size+1) 77 3 u xs.length (xs.flatMap scells)
 below:Below w.heap.size w wr
theorem K9 (a b:Nat):Int.tmod (a:Int) (b:Int)=((a % b:Nat):Int):=by
 rw [Int.tmod_eq_emod_of_nonneg (by omega)];omega
theorem zb8 (w:World) (n:Nat) (s:St) (t:TypeId):∀j u,(scells s)[j]? =some u->((w.drewN n).alloc (.cells #[.bool s.list, .int .i64 s.i, .string s.key] t)).cell? ((⟨w.heap.size,0,none⟩:Addr).add j)=some u:=
 World.news_of_block (t:=t) (fr:=(0,0)) (heap_alloc_new (w.drewN n) (.cells #[.bool s.list, .int .i64 s.i, .string s.key] t))
theorem WKH.round {w wr w7:World} {v x x':V} {c c':VC} {bs:List UInt8} {j:Nat} {u u':Value} {xs:List St} {s:St} (h:WKH w wr v x c bs j u xs) (hrd:(xs++ [s])++walkP x' ((bs.take 8).drop (j+1))=walkP v (bs.take 8)) (hs:s.Bnd) (hv:IsVal w w.heap.size x' c') (hb7:Below (w.heap.size+1) wr w7) (hown:w7.ownsRow (w.heap.size+1) 77 3 u' (xs.length+1) (xs.flatMap scells++scells s)):
 WKH w (((((w7.setCell ⟨w.heap.size,0,none⟩ (.int .u8 c'.k)).setCell ⟨w.heap.size,1,none⟩ (.int .i64 c'.n)).setCell ⟨w.heap.size,2,none⟩ (.string c'.s)).setCell ⟨w.heap.size,3,none⟩ (.slice c'.la c'.ll c'.lc)).setCell ⟨w.heap.size,4,none⟩ (.slice c'.oa c'.ol c'.oc)) v x' c' bs (j+1) u' (xs++ [s]):=by
 have hz:=h.box.lt
 have hst:=Zi w7 w.heap.size 0 c'
 have hbx:=h.box.keep hb7 (by omega)
 refine ⟨hrd,by rw [List.length_append,List.length_singleton];have:=h.few;omega,fun s' h'=> ?_,hv,Zz hbx c', ?_,Below.set5' (h.below.trans (hb7.mono (by omega))) (Nat.le_refl _) _ _ _ _ _⟩
 .rcases List.mem_append.1 h' with h1|h1
  .exact h.bnd s' h1
  .rw [List.mem_singleton.1 h1];exact hs
 .rw [Xv,List.length_append,List.length_singleton]
  refine hown.kept (row:=some w.heap.size) ⟨hst.os,hst.tape,hst.output,hst.size,fun k hk hne=>hst.block k hk (fun e=>hne (by rw [e]))⟩ ?_
  right;intro e;have:=(hown.lt _ e).1;omega
set_option maxRecDepth 100000 in
theorem zc1 (w:World) (vk vn:Int) (vs:ByteArray) (la:Option Addr) (ll lc:Nat) (oa:Option Addr) (ol oc:Nat) (v:V) (hv:IsVal w w.heap.size v ⟨vk,vn,vs,la,ll,lc,oa,ol,oc⟩) (bs:List UInt8) (a:Option Addr) (n c:Nat) (hB:IsB w w.heap.size a n c bs):
 Calls Tryz.prog 37 #[.agg #[.int .u8 vk, .int .i64 vn, .string vs, .slice la ll lc, .slice oa ol oc], .slice a n c] w (WalkPost w (walkP v (bs.take 8))):=by
 obtain ⟨i0,hi0,hz0,hz1,hz2⟩:=info_parts zhl
 have hmax:=hB.max;have hcap:=hB.cap
 have HLN:=qh hB.len
 have HBS:=qh hB
 have HV:=qh hv
 have HST:=qh (BC.start w #[.int .u8 vk, .int .i64 vn, .string vs, .slice la ll lc, .slice oa ol oc] 36)
 obtain ⟨R,hR⟩:∃R,WalkPost w (walkP v (bs.take 8))=R:=⟨_,rfl⟩
 rw [hR]
 have HR:=qh hR
 clear hB hv hR
 go_enter Tryz.func37,Tryz.ntmps37
 go_wp2_with fail
 go_loopw [5,6,7,8] (fun u i _ _ wr=>∃(j:Nat) (x:V) (cx:VC) (ua:Option Addr) (m uc:Nat) (xs:List St),j<=n/\j<=8/\i= .int .i64 j/\u= .slice ua m uc/\WKH w wr v x cx bs j (.slice ua m uc) xs) (fun _ i _ _ _=>8 - (intOf i).toNat)
 case atStart=>exact ⟨0,v,_,none,0,0, [],Nat.zero_le _,Nat.zero_le _,rfl,rfl,⟨rfl,Nat.le_refl _,fun s h=>(by cases h),HV.out,HST.out,⟨rfl, .inl ⟨rfl,rfl⟩⟩,(Below.refl _ _).alloc (Nat.le_refl _) _⟩⟩
 case round=>
  obtain ⟨j,x,cx,ua,m,uc,xs,hj,hj8,rfl,rfl,L⟩:=hrel
  obtain ⟨v0,v1,v2,v3,v4⟩:=row5 L.box.at_
  have e0:=L.box.fr 0;have e1:=L.box.fr 1;have e2:=L.box.fr 2;have e3:=L.box.fr 3;have e4:=L.box.fr 4
  have zs:=L.box.lt
  have hfx:=L.few
  have HL:=qh L
  by_cases hcont:j<n/\j<8
  .obtain ⟨hlt,hlt8⟩:=hcont
   obtain ⟨b,q,h5,h6⟩:=HBS.out.at_
   obtain ⟨rfl,hbB⟩:=h5 (by omega)
   have hjl:j<bs.length:=by rw [<-HLN.out];exact hlt
   have hcj:=Zb L.below (h6 j hjl) hbB
   obtain ⟨y,hy⟩:∃y,bs[j].toNat=y:=⟨_,rfl⟩
   rw [hy] at hcj
   have hy2:y<256:=by rw [<-hy];exact UInt8.toNat_lt _
   have hbw:b<wr.heap.size:=World.block_lt_of_cell? wr _ hcj
   have hdr:(bs.take 8).drop j=bs[j] ::(bs.take 8).drop (j+1):=by
    have h8:j<(bs.take 8).length:=by rw [List.length_take];omega
    rw [List.drop_eq_getElem_cons h8,List.getElem_take]
   have hrd:=L.rd
   rw [hdr] at hrd
   obtain ⟨kx,nx,sx,lx,ox,rfl⟩:=x.eta
   obtain ⟨ck,cn,cs,cla,cll,clc,coa,col,coc⟩:=cx
   obtain ⟨f1,f2,f3,hbd,hvl,hvo⟩:=L.val.lists
   dsimp only at f1 f2 f3 hvl hvo v0 v1 v2 v3 v4
   subst f1 f2 f3
   have k1:=hvl.few;have k2:=hvl.max;have k3:=hvo.few;have k4:=hvo.max
   have hown:=L.own
   have hw1:IntKind.i64.wrap (y:Int)=y:=IntWalk.i64_in _ (by omega)
   have hrlt:∀g,(Value.slice ua m uc).ownBlock=some g->w.heap.size+1<=g:=fun g hg=>(L.own.lt g hg).1
   have hzb:=L.below.size
   have HBL:=qh L.below
   by_cases hll:0<cll
   .have hkl:y % cll<cll:=Nat.mod_lt _ hll
    obtain ⟨k,hk⟩:∃k,y % cll=k:=⟨_,rfl⟩
    rw [hk] at hkl
    have htm:Int.tmod (y:Int) (cll:Int)=(k:Int):=by rw [K9,hk]
    have hne:((cll:Int)==0)=false:=by simp;omega
    have hw2:IntKind.i64.wrap (k:Int)=k:=IntWalk.i64_in _ (by omega)
    obtain ⟨b2,q2,f,hp,rfl,hb2,hvf,hIf⟩:=hvl.get hkl
    have HVF:=qh hvf
    have HIF:=qh hIf
    have hb2w:b2<wr.heap.size:=by omega
    have hnx:(xs++ [⟨true,(k:Int), .empty⟩])++walkP lx[k] ((bs.take 8).drop (j+1))=walkP v (bs.take 8):=by
     rw [<-hrd,walkP,if_pos (show 0<(V.mk ck cn cs lx ox).ls.length by show 0<lx.length;rw [<-hvl.len];exact hll)]
     have e:(V.mk ck cn cs lx ox).ls=lx:=rfl
     rw [e, <-hvl.len,hy,hk,List.append_assoc]
     simp [List.getD_eq_getElem?_getD,hp]
    have HNX:=qh hnx
    clear L hrd hdr hy hnx hvf hIf h5 h6 hvl hvo hbd
    go_wp2_with fail
    go_quiet (fail)
    go_wp2_with (at_builtin;refine wpList_append_lies _ rfl (.tmp 32) (.tmp 35) 27 (by rfl) (w.heap.size+1) 77 i0 _ 3 32 Tryz.underlying27 hi0 hz0 hz1 hz2 rfl (by omega) (.slice ua m uc) xs.length (xs.flatMap scells) (by rfl) ((Yq hown _).alloc _) ⟨wr.heap.size,0,none⟩ 1 1 (scells (⟨true,(k:Int), .empty⟩:St)) (by rfl) (by rfl) (zb8 wr _ (⟨true,(k:Int), .empty⟩:St) _) (by simp [scells,Value.oneCell']) (by omega) (by unfold maxLen;omega) (by omega) (by first|omega|(rw [Zr];omega)) (wr.heap.size+1) (by first|exact Zr _ _ _|simp) ?_;intro g cap w7 hown7 hgrow7 hat7 hlt7;have hb7:Below (w.heap.size+1) wr w7:=(((Y8 wr _).alloc (Nat.le_refl _) _).mono (Nat.succ_le_of_lt zs)).trans (Zj hgrow7 hrlt (by first|omega|(rw [Zr];omega)));have V7:=HL.out.box.keep hb7 (by omega);obtain ⟨p0,p1,p2,p3,p4⟩:=row5 V7.at_;have q0:=V7.fr 0;have q1:=V7.fr 1;have q2':=V7.fr 2;have q3:=V7.fr 3;have q4:=V7.fr 4;have zs7:=V7.lt;have F7:=(HVF.out.keep HBL.out hb2).keep hb7 (by omega);have c0:=F7.c0;have c1:=F7.c1;have c2:=F7.c2;have c3:=F7.c3;have c4:=F7.c4;have hb27:b2<w7.heap.size:=World.block_lt_of_cell? w7 _ c0)
    go_roundw
    case rel=>exact ⟨j+1,lx[k],f,some ⟨g,0,none⟩,xs.length+1,cap,xs++ [⟨true,(k:Int), .empty⟩],by omega,by omega,by go_num,rfl,HL.out.round HNX.out ⟨by show _<=(k:Int);omega,by show (k:Int)<=_;omega,by show ByteArray.empty.size<=_;decide⟩ HIF.out hb7 hown7⟩
    case measure=>simp [intOf];omega
   .have hl0:cll=0:=by omega
    by_cases hol:0<col
    .have hkl:y % col<col:=Nat.mod_lt _ hol
     obtain ⟨k,hk⟩:∃k,y % col=k:=⟨_,rfl⟩
     rw [hk] at hkl
     have htm:Int.tmod (y:Int) (col:Int)=(k:Int):=by rw [K9,hk]
     have hne:((col:Int)==0)=false:=by simp;omega
     have hw2:IntKind.i64.wrap (k:Int)=k:=IntWalk.i64_in _ (by omega)
     obtain ⟨b2,q2,f,hp,rfl,hb2,hky,hks,hvf,hIf⟩:=hvo.get hkl
     have HVF:=qh hvf
     have HIF:=qh hIf
     have hb2w:b2<wr.heap.size:=by omega
     obtain ⟨sk,hsk⟩:∃sk,ox[k].1=sk:=⟨_,rfl⟩
     rw [hsk] at hky hks
     have hkyw:=Zb HBL.out hky hb2
     have hlx:lx.length=0:=by rw [<-hvl.len];exact hl0
     have hnx:(xs++ [⟨false,0,sk⟩])++walkP ox[k].2 ((bs.take 8).drop (j+1))=walkP v (bs.take 8):=by
      have e:(V.mk ck cn cs lx ox).ls=lx:=rfl
      have e2:(V.mk ck cn cs lx ox).os=ox:=rfl
      rw [<-hrd,walkP,e,e2,if_neg (by omega),if_pos (by rw [<-hvo.len];exact hol), <-hvo.len,hy,hk,List.append_assoc, <-hsk]
      simp [List.getD_eq_getElem?_getD,hp]
     have HNX:=qh hnx
     subst hl0
     clear L hrd hdr hy hnx hvf hIf h5 h6 hvl hvo hbd hky hsk hlx
     go_wp2_with fail
     go_quiet (fail)
     go_wp2_with (at_builtin;refine wpList_append_lies _ rfl (.tmp 55) (.tmp 63) 27 (by rfl) (w.heap.size+1) 77 i0 _ 3 32 Tryz.underlying27 hi0 hz0 hz1 hz2 rfl (by omega) (.slice ua m uc) xs.length (xs.flatMap scells) (by rfl) ((Yq hown _).alloc _) ⟨wr.heap.size,0,none⟩ 1 1 (scells (⟨false,0,sk⟩:St)) (by rfl) (by rfl) (zb8 wr _ (⟨false,0,sk⟩:St) _) (by simp [scells,Value.oneCell']) (by omega) (by unfold maxLen;omega) (by omega) (by first|omega|(rw [Zr];omega)) (wr.heap.size+1) (by first|exact Zr _ _ _|simp) ?_;intro g cap w7 hown7 hgrow7 hat7 hlt7;have hb7:Below (w.heap.size+1) wr w7:=(((Y8 wr _).alloc (Nat.le_refl _) _).mono (Nat.succ_le_of_lt zs)).trans (Zj hgrow7 hrlt (by first|omega|(rw [Zr];omega)));have V7:=HL.out.box.keep hb7 (by omega);obtain ⟨p0,p1,p2,p3,p4⟩:=row5 V7.at_;have q0:=V7.fr 0;have q1:=V7.fr 1;have q2':=V7.fr 2;have q3:=V7.fr 3;have q4:=V7.fr 4;have zs7:=V7.lt;have F7:=(HVF.out.keep HBL.out hb2).keep hb7 (by omega);have c0:=F7.c0;have c1:=F7.c1;have c2:=F7.c2;have c3:=F7.c3;have c4:=F7.c4;have hb27:b2<w7.heap.size:=World.block_lt_of_cell? w7 _ c0)
     go_roundw
     case rel=>exact ⟨j+1,ox[k].2,f,some ⟨g,0,none⟩,xs.length+1,cap,xs++ [⟨false,0,sk⟩],by omega,by omega,by go_num,rfl,HL.out.round HNX.out ⟨by show _<=(0:Int);omega,by show (0:Int)<=_;omega,hks⟩ HIF.out hb7 hown7⟩
     case measure=>simp [intOf];omega
    .have ho0:col=0:=by omega
     have hnx:xs++walkP (.mk ck cn cs lx ox) ((bs.take 8).drop (j+1))=walkP v (bs.take 8):=by
      have e:(V.mk ck cn cs lx ox).ls=lx:=rfl
      have e2:(V.mk ck cn cs lx ox).os=ox:=rfl
      rw [<-hrd]
      conv=>rhs;rw [walkP,e,e2,if_neg (by rw [<-hvl.len];omega),if_neg (by rw [<-hvo.len];omega)]
     have HNX:=qh hnx
     subst hl0 ho0
     clear L hrd hdr hy hnx h5 h6 hvl hvo hbd
     go_wp2_with fail
     go_roundw
     case rel=>exact ⟨j+1,_,_,ua,m,uc,xs,by omega,by omega,by go_num,rfl,⟨HNX.out,by omega,HL.out.bnd,HL.out.val,HL.out.box,HL.out.own,HL.out.below⟩⟩
     case measure=>simp [intOf];omega
  .have hdr:(bs.take 8).drop j= [] :=by
    apply List.drop_eq_nil_of_le
    rw [List.length_take, <-HLN.out];omega
   have hrd:=L.rd
   rw [hdr,walkP,List.append_nil] at hrd
   have HRD:=qh hrd
   have hex:¬j<n∨(j<n/\¬j<8):=by omega
   clear L hrd hdr hcont
   rcases hex with hq|⟨hq,hq8⟩
   all_goals
    go_wp2_with fail
    rw [<-HR.out, <-HRD.out]
    obtain ⟨a9,n9,c9,hv9,hs9⟩:=zdi (S:=fun b=>w.heap.size<=b) HL.out.own (fun k hk=>by omega) HL.out.bnd (by omega)
    exact ⟨⟨a9,n9,c9,by rw [hv9];rfl,hs9⟩,HL.out.below⟩
end Go.Proofs.YtnjgbiachcfigaaGreatDoor
