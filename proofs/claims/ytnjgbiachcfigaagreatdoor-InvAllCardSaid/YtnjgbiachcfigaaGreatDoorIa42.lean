/-
  Contracts of the functions that the law reaches: What conciliatorlaw09.known asks..
-/
import Derived.Test.YtnjgbiachcfigaaGreatDoorIa41
namespace Go.Proofs.YtnjgbiachcfigaaGreatDoor
open Go.RowKit
set_option maxHeartbeats 16000000
theorem IsComp.says {w:World} {B:Nat} {x:Cm} {c:CC} (h:IsComp w B x c):x.k=c.k/\x.key=c.key/\IsVal w B x.v c.v:=by
 cases h with
 |mk c p v hb hp hv=>exact ⟨rfl,rfl,hv⟩
theorem zh3 (w:World) (hT:Tabs w) (b:Nat) (hb:BC w b (fcells (kA,⟨2,1, .empty,none,0,0,none,0,0⟩))):uP 27 #[.agg (uU 5 0 { data:= #[] } none 0 0 (some ⟨b,0,none⟩) 1 1), .agg #[.int .u8 2, .slice none 0 0, .string { data:= #[97] }, .int .i64 0, .int .i64 0, .int .i64 0, .int .u8 2, .int .i64 2, .string { data:= #[] }, .slice none 0 0, .slice none 0 0, .string { data:= #[] }]] w fun e w'=>(∃d:CC,e= .returned (.tuple #[.agg #[.int .u8 d.k, .slice d.pa d.pl d.pc, .string d.key, .int .i64 d.i, .int .i64 d.j, .int .i64 d.n, .int .u8 d.v.k, .int .i64 d.v.n, .string d.v.s, .slice d.v.la d.v.ll d.v.lc, .slice d.v.oa d.v.ol d.v.oc, .string d.s], .int .u16 0])/\d.k=2/\d.v.n=1)/\uB w w':=by
 delta uU uB uP
 refine (Kl w ⟨5,0, .empty,none,0,0,some ⟨b,0,none⟩,1,1⟩ kvV (zdk w b hb) (by rw [zao];omega) [] (kvI 2) ⟨2,none,0,0,kA,0,0,0,⟨2,2, .empty,none,0,0,none,0,0⟩, .empty⟩ ⟨by dsimp only;omega,by dsimp only;omega,by dsimp only;omega,by dsimp only;omega,by dsimp only;omega,by dsimp only;omega,by dsimp only;omega,by dsimp only;omega,(show kA.size<=140737488355328 by decide),Nat.zero_le _⟩ (IsSteps.nil _ _) (Qu _ _ 2 2 (by decide) (by decide)) (by simp [kvI,V.weight,weightL,weightO]) (Nat.zero_le _) hT).mono ?_
 rintro e w' ⟨⟨d,rfl,hI⟩,hb'⟩
 have hd:=kt1
 unfold kd1 at hd
 rw [hd] at hI ⊢
 obtain ⟨h1,_,h3⟩:=hI.says
 obtain ⟨_,e2,_⟩:=h3.parts
 exact ⟨⟨d,rfl,h1.symm,e2.symm⟩,hb'⟩
theorem zge (w:World) (hT:Tabs w):uP 27 #[.agg (uU 5 0 { data:= #[] } none 0 0 none 0 0), .agg #[.int .u8 2, .slice none 0 0, .string { data:= #[97] }, .int .i64 0, .int .i64 0, .int .i64 0, .int .u8 2, .int .i64 2, .string { data:= #[] }, .slice none 0 0, .slice none 0 0, .string { data:= #[] }]] w fun e w'=>(∃d:CC,e= .returned (.tuple #[.agg #[.int .u8 d.k, .slice d.pa d.pl d.pc, .string d.key, .int .i64 d.i, .int .i64 d.j, .int .i64 d.n, .int .u8 d.v.k, .int .i64 d.v.n, .string d.v.s, .slice d.v.la d.v.ll d.v.lc, .slice d.v.oa d.v.ol d.v.oc, .string d.s], .int .u16 0])/\d.k=3/\d.key=kA)/\uB w w':=by
 delta uU uB uP
 refine (Kl w ⟨5,0, .empty,none,0,0,none,0,0⟩ kOb (Qu _ _ 5 0 (by decide) (by decide)) (by rw [zna];omega) [] (kvI 2) ⟨2,none,0,0,kA,0,0,0,⟨2,2, .empty,none,0,0,none,0,0⟩, .empty⟩ ⟨by dsimp only;omega,by dsimp only;omega,by dsimp only;omega,by dsimp only;omega,by dsimp only;omega,by dsimp only;omega,by dsimp only;omega,by dsimp only;omega,(show kA.size<=140737488355328 by decide),Nat.zero_le _⟩ (IsSteps.nil _ _) (Qu _ _ 2 2 (by decide) (by decide)) (by simp [kvI,V.weight,weightL,weightO]) (Nat.zero_le _) hT).mono ?_
 rintro e w' ⟨⟨d,rfl,hI⟩,hb'⟩
 have hd:=kt2
 unfold kd1 at hd
 rw [hd] at hI ⊢
 obtain ⟨h1,h2,_⟩:=hI.says
 exact ⟨⟨d,rfl,h1.symm,h2.symm⟩,hb'⟩
theorem zig (w:World) (hT:Tabs w) (b q:Nat) (hb:BC w b (fcells (kA,⟨2,1, .empty,none,0,0,none,0,0⟩))) (hq:BC w q (ccells ⟨2,none,0,0,kA,0,0,0,⟨2,2, .empty,none,0,0,none,0,0⟩, .empty⟩)):uP 23 #[.agg (uU 5 0 { data:= #[] } none 0 0 (some ⟨b,0,none⟩) 1 1), .slice (some ⟨q,0,none⟩) 1 1] w fun e w'=>(∃a c,e= .returned (.tuple #[.slice a 1 c, .int .u16 0]))/\uB w w':=by
 delta uU uB uP
 have hop:IsComps w w.heap.size [kd1] (some ⟨q,0,none⟩) 1 1:=⟨rfl,Nat.le_refl _,by decide,by decide,q,0,fun _=>⟨2,none,0,0,kA,0,0,0,⟨2,2, .empty,none,0,0,none,0,0⟩, .empty⟩,fun _=>⟨rfl,hq.lt⟩,fun i hi=>by
  have h0:i=0:=by simpa using hi
  subst h0
  exact ⟨⟨hq.at_ 0 _ rfl,hq.at_ 1 _ rfl,hq.at_ 2 _ rfl,hq.at_ 3 _ rfl,hq.at_ 4 _ rfl,hq.at_ 5 _ rfl,⟨hq.at_ 6 _ rfl,hq.at_ 7 _ rfl,hq.at_ 8 _ rfl,hq.at_ 9 _ rfl,hq.at_ 10 _ rfl⟩,hq.at_ 11 _ rfl⟩, .mk ⟨2,none,0,0,kA,0,0,0,⟨2,2, .empty,none,0,0,none,0,0⟩, .empty⟩ [] (kvI 2) ⟨by dsimp only;omega,by dsimp only;omega,by dsimp only;omega,by dsimp only;omega,by dsimp only;omega,by dsimp only;omega,by dsimp only;omega,by dsimp only;omega,(show kA.size<=140737488355328 by decide),Nat.zero_le _⟩ (IsSteps.nil _ _) (Qu _ _ 2 2 (by decide) (by decide))⟩⟩
 refine (zcx w ⟨5,0, .empty,none,0,0,some ⟨b,0,none⟩,1,1⟩ kvV (zdk w b hb) [kd1] (some ⟨q,0,none⟩) 1 1 hop (fun _=>kok1) hT).mono ?_
 rw [ka1]
 rintro e w' ⟨⟨a,n,c,rfl,hI⟩,hb'⟩
 obtain rfl:n=1:=hI.len
 exact ⟨⟨a,c,rfl⟩,hb'⟩
structure KN (w W:World):Prop where
 f:BC W w.heap.size (fcells (kA,⟨2,1, .empty,none,0,0,none,0,0⟩))
 v:BC W (w.heap.size+1) [.int .u8 5, .int .i64 0, .string { data:= #[] }, .slice none 0 0, .slice (some ⟨w.heap.size,0,none⟩) 1 1]
 c:BC W (w.heap.size+1+1) [.int .u8 2, .slice none 0 0, .string { data:= #[97] }, .int .i64 0, .int .i64 0, .int .i64 0, .int .u8 2, .int .i64 2, .string { data:= #[] }, .slice none 0 0, .slice none 0 0, .string { data:= #[] }]
 below:Below w.heap.size w W
theorem KN.keep {w W W':World} (h:KN w W) (hb:uB W W'):KN w W':=⟨h.f.keep hb h.f.lt,h.v.keep hb h.v.lt,h.c.keep hb h.c.lt,h.below.trans (hb.mono h.below.size)⟩
theorem KN.start (w:World) (t0 t1 t2:TypeId):KN w (((w.alloc (.cells #[.string { data:= #[97] }, .int .u8 2, .int .i64 1, .string { data:= #[] }, .slice none 0 0, .slice none 0 0] t0)).alloc (.cells #[.int .u8 5, .int .i64 0, .string { data:= #[] }, .slice none 0 0, .slice (some ⟨w.heap.size,0,none⟩) 1 1] t1)).alloc (.cells #[.int .u8 2, .slice none 0 0, .string { data:= #[97] }, .int .i64 0, .int .i64 0, .int .i64 0, .int .u8 2, .int .i64 2, .string { data:= #[] }, .slice none 0 0, .slice none 0 0, .string { data:= #[] }] t2)):=by
 obtain ⟨w1,h1⟩:∃w1,(w.alloc (.cells #[.string { data:= #[97] }, .int .u8 2, .int .i64 1, .string { data:= #[] }, .slice none 0 0, .slice none 0 0] t0)).alloc (.cells (uU 5 0 { data:= #[] } none 0 0 (some ⟨w.heap.size,0,none⟩) 1 1) t1)=w1:=⟨_,rfl⟩
 obtain ⟨b1,b2,b3,b4⟩:=Qf w #[.string { data:= #[97] }, .int .u8 2, .int .i64 1, .string { data:= #[] }, .slice none 0 0, .slice none 0 0] #[.int .u8 5, .int .i64 0, .string { data:= #[] }, .slice none 0 0, .slice (some ⟨w.heap.size,0,none⟩) 1 1] t0 t1
 rw [h1] at b1 b2 b3 b4 ⊢
 have hb:=Zu w1 (.cells #[.int .u8 2, .slice none 0 0, .string { data:= #[97] }, .int .i64 0, .int .i64 0, .int .i64 0, .int .u8 2, .int .i64 2, .string { data:= #[] }, .slice none 0 0, .slice none 0 0, .string { data:= #[] }] t2)
 have hr:=BC.start w1 #[.int .u8 2, .slice none 0 0, .string { data:= #[97] }, .int .i64 0, .int .i64 0, .int .i64 0, .int .u8 2, .int .i64 2, .string { data:= #[] }, .slice none 0 0, .slice none 0 0, .string { data:= #[] }] t2
 rw [b4] at hr
 exact ⟨b1.keep hb b1.lt,b2.keep hb b2.lt,hr,b3.trans (hb.mono b3.size)⟩
set_option maxRecDepth 100000 in
theorem zh7 (w:World) (hT:Tabs w):uP 21 #[] w fun e w'=>e= .returned (.bool true)/\uB w w':=by
 delta uB uP
 have HK:=qh (KN.start w 75 36 39)
 have HT:=qh hT
 clear hT
 go_enter Tryz.func21,Tryz.ntmps21
 go_upto_region 3 with fail
 obtain ⟨w1,hw1⟩:∃w1,((w.alloc (.cells #[.string { data:= #[97] }, .int .u8 2, .int .i64 1, .string { data:= #[] }, .slice none 0 0, .slice none 0 0] 75)).alloc (.cells (uU 5 0 { data:= #[] } none 0 0 (some ⟨w.heap.size,0,none⟩) 1 1) 36)).alloc (.cells #[.int .u8 2, .slice none 0 0, .string { data:= #[97] }, .int .i64 0, .int .i64 0, .int .i64 0, .int .u8 2, .int .i64 2, .string { data:= #[] }, .slice none 0 0, .slice none 0 0, .string { data:= #[] }] 39)=w1:=⟨_,rfl⟩
 rw [hw1] at HK ⊢
 have hk:=HK.out
 obtain ⟨v0,v1,v2,v3,v4⟩:=row5 hk.v.at_
 obtain ⟨c0,c1,c2,c3,c4,c5,c6,c7,c8,c9,c10,c11⟩:=row12 hk.c.at_
 have zv:=hk.v.lt;have zc:=hk.c.lt
 clear hw1 hk
 go_wp2_with fail
 refine (zh3 w1 (HT.out.below HK.out.below) _ HK.out.f).mono ?_
 rintro e w2 ⟨⟨d,rfl,hd1,hd2⟩,hb2⟩
 obtain ⟨w3,hw3⟩:∃w3,w2.alloc (.cells (uC d) 39)=w3:=⟨_,rfl⟩
 have hb3:uB w2 w3:=by rw [<-hw3];exact Zu w2 _
 have hx3:BC w3 w2.heap.size (ccells d):=by rw [<-hw3];exact BC.start w2 (uC d) 39
 have hk3:=(HK.out.keep hb2).keep hb3
 have HK3:=qh hk3;have HX3:=qh hx3;have HD:=qh (show d.k=2/\d.v.n=1 from ⟨hd1,hd2⟩)
 clear v0 v1 v2 v3 v4 c0 c1 c2 c3 c4 c5 c6 c7 c8 c9 c10 c11 zv zc
 obtain ⟨c0,c1,c2,c3,c4,c5,c6,c7,c8,c9,c10,c11⟩:=row12 hk3.c.at_
 have zc:=hk3.c.lt
 clear hb2 hb3 hx3 hk3 hd1 hd2 HK
 go_upto_region 4 with fail
 clear hw3
 go_wp2_with fail
 refine (zge w3 (HT.out.below HK3.out.below)).mono ?_
 rintro e w4 ⟨⟨g,rfl,hg1,hg2⟩,hb4⟩
 obtain ⟨w5,hw5⟩:∃w5,w4.alloc (.cells (uC g) 39)=w5:=⟨_,rfl⟩
 have hb5:uB w4 w5:=by rw [<-hw5];exact Zu w4 _
 have hx5:BC w5 w4.heap.size (ccells g):=by rw [<-hw5];exact BC.start w4 (uC g) 39
 have hk5:=(HK3.out.keep hb4).keep hb5
 have hd5:=(HX3.out.keep hb4 HX3.out.lt).keep hb5 (Nat.lt_of_lt_of_le HX3.out.lt hb4.size)
 have HK5:=qh hk5;have HX5:=qh hx5;have HD5:=qh hd5;have HG:=qh (show g.k=3/\g.key=kA from ⟨hg1,hg2⟩)
 clear c0 c1 c2 c3 c4 c5 c6 c7 c8 c9 c10 c11 zc
 obtain ⟨v0,v1,v2,v3,v4⟩:=row5 hk5.v.at_
 obtain ⟨c0,c1,c2,c3,c4,c5,c6,c7,c8,c9,c10,c11⟩:=row12 hk5.c.at_
 have zv:=hk5.v.lt;have zc:=hk5.c.lt
 clear hb4 hb5 hx5 hk5 hd5 hg1 hg2 HK3 HX3
 go_upto_region 5 with fail
 clear hw5
 obtain ⟨w6,hw6⟩:∃w6,w5.alloc (.cells #[.int .u8 2, .slice none 0 0, .string { data:= #[97] }, .int .i64 0, .int .i64 0, .int .i64 0, .int .u8 2, .int .i64 2, .string { data:= #[] }, .slice none 0 0, .slice none 0 0, .string { data:= #[] }] 39)=w6:=⟨_,rfl⟩
 have hb6:uB w5 w6:=by rw [<-hw6];exact Zu w5 _
 have hq6:BC w6 w5.heap.size (ccells ⟨2,none,0,0,kA,0,0,0,⟨2,2, .empty,none,0,0,none,0,0⟩, .empty⟩):=by rw [<-hw6];exact BC.start w5 #[.int .u8 2, .slice none 0 0, .string { data:= #[97] }, .int .i64 0, .int .i64 0, .int .i64 0, .int .u8 2, .int .i64 2, .string { data:= #[] }, .slice none 0 0, .slice none 0 0, .string { data:= #[] }] 39
 have hk6:=HK5.out.keep hb6
 have HAL:=qh (zig w6 (HT.out.below hk6.below) _ _ hk6.f hq6)
 have HB6:=qh hb6
 clear hb6 hq6 hk6
 go_wp2_with fail
 refine HAL.out.mono ?_
 rintro e w7 ⟨⟨a,cap,rfl⟩,hb7⟩
 have hb57:=HB6.out.trans (hb7.mono HB6.out.size)
 have hd7:=HD5.out.keep hb57 HD5.out.lt
 have hg7:=HX5.out.keep hb57 HX5.out.lt
 have HBL:=qh (HK5.out.below.trans (hb57.mono HK5.out.below.size))
 clear v0 v1 v2 v3 v4 c0 c1 c2 c3 c4 c5 c6 c7 c8 c9 c10 c11 zv zc
 have d0:=hd7.at_ 0 _ rfl;have d7:=hd7.at_ 7 _ rfl;have g0:=hg7.at_ 0 _ rfl;have g2:=hg7.at_ 2 _ rfl
 rw [HD.out.1] at d0;rw [HD.out.2] at d7;rw [HG.out.1] at g0;rw [HG.out.2,kA] at g2
 have zd:=hd7.lt;have zg:=hg7.lt
 clear hb57 hd7 hg7 hb7 hw6
 go_wp2_with fail
 go_returns
 exact ⟨rfl,HBL.out⟩
theorem zat (w:World) (o:Obj):uB w (w.alloc o):=(Below.refl _ _).alloc (Nat.le_refl _) o
set_option maxRecDepth 100000 in
theorem zgq (w:World) (hT:Tabs w) (l:List Tk) (a:Option Addr) (n c:Nat) (hl:IsToks w w.heap.size l a n c) (ax:List Ac) (b:Option Addr) (m k:Nat) (ha:IsActs w w.heap.size ax b m k):
 uP 6 #[.slice a n c, .slice b m k] w fun e w'=>e= .returned (.bool true)/\uB w w':=by
 delta uB uP
 have HL:=qh hl
 have HAC:=qh ha
 have HTT:=qh hT
 have HKN:Hid (∀W,uB w W->uP 21 #[] W fun e w'=>e= .returned (.bool true)/\uB W w'):=qh fun W hW=>zh7 W (hT.below hW)
 have HHV:=qh (zei w l a n c hl ax b m k ha)
 clear hl ha hT
 go_enter Tryz.func6,Tryz.ntmps6
 go_wp2_with fail
 refine HHV.out.mono ?_
 rintro e w1 ⟨⟨h,rfl⟩,hb1⟩
 have HA1:=qh hb1
 clear hb1 HHV
 cases h with
 | true=>
   go_wp2_with fail
   refine (HKN.out _ HA1.out).mono ?_
   rintro e wk ⟨rfl,hbk⟩
   have HAk:=qh (HA1.out.trans (hbk.mono HA1.out.size))
   clear hbk
   go_wp2_with fail
   go_returns
   exact ⟨rfl,HAk.out⟩
 |false=>
 go_wp2_with fail
 refine (HKN.out _ HA1.out).mono ?_
 rintro e w3 ⟨rfl,hb3⟩
 have HA3:=qh (HA1.out.trans (hb3.mono HA1.out.size))
 clear hb3 HKN HA1
 go_wp2_with fail
 refine (Y2 w3 l a n c (HL.out.later_ HA3.out)).mono ?_
 rintro e w4 ⟨⟨cv,rfl,hv4⟩,hb4⟩
 obtain ⟨V0,hV0⟩:∃V0,(oneP 6 (l.take 60)).1=V0:=⟨_,rfl⟩
 have HLT:Hid (V0.weight<=20000/\V0.sound=true):=qh (by rw [<-hV0];exact ⟨(Kn l).2.1,(Kn l).2.2.2.1⟩)
 rw [hV0] at hv4
 obtain ⟨w5,hw5⟩:∃W,w4.alloc (.cells (uV cv) 36)=W:=⟨_,rfl⟩
 have hb5:uB w4 w5:=by rw [<-hw5];exact zat w4 _
 have hx5:BC w5 w4.heap.size (vcells cv):=by rw [<-hw5];exact BC.start w4 (uV cv) 36
 have hA5:=HA3.out.trans ((hb4.trans (hb5.mono hb4.size)).mono HA3.out.size)
 have HV5:Hid (IsVal w5 w5.heap.size V0 cv):=qh ((hv4.sub (Zl _ _ _)).later_ hb5)
 have HCP:=qh (Ye V0 w5 cv HV5.out)
 obtain ⟨v0,v1,v2,v3,v4⟩:=row5 hx5.at_
 have zv:=hx5.lt
 have HA5:=qh hA5;have HX5:=qh hx5
 clear hb4 hb5 hv4 hV0 HL hA5 hx5 HA3
 go_upto_region 4 with fail
 clear hw5
 go_wp2_with fail
 refine HCP.out.mono ?_
 rintro e w6 ⟨⟨dv,rfl,hdv⟩,hb6⟩
 obtain ⟨w7,hw7⟩:∃W,w6.alloc (.cells (uV dv) 36)=W:=⟨_,rfl⟩
 have hb7:uB w6 w7:=by rw [<-hw7];exact zat w6 _
 have hx7:BC w7 w6.heap.size (vcells dv):=by rw [<-hw7];exact BC.start w6 (uV dv) 36
 have hb57:uB w5 w7:=hb6.trans (hb7.mono hb6.size)
 have HV7:=qh (HV5.out.later_ hb57)
 have HW7:Hid (IsVal w7 w7.heap.size V0 dv):=qh ((hdv.sub (Zl _ _ _)).later_ hb7)
 have hA7:=HA5.out.trans (hb57.mono HA5.out.size)
 have hv7:=HX5.out.keep hb57 HX5.out.lt
 have HAM:=qh (zmz w7 cv.k cv.n cv.s cv.la cv.ll cv.lc cv.oa cv.ol cv.oc V0 HV7.out HLT.out.1 ax b m k (HAC.out.later_ hA7) (HTT.out.below hA7))
 clear v0 v1 v2 v3 v4 zv
 obtain ⟨v0,v1,v2,v3,v4⟩:=row5 hv7.at_
 have zv:=hv7.lt
 have HA7:=qh hA7;have HX7:=qh hv7;have HY7:=qh hx7
 clear hb6 hb7 hb57 hdv hA7 hv7 hx7 HAC HX5 HV5 HA5 HCP
 go_upto_region 5 with fail
 clear hw7
 go_wp2_with fail
 refine HAM.out.mono ?_
 rintro e w8 ⟨⟨xa,xn,xc,rfl,hx⟩,hb8⟩
 have hX8:IsComps w8 w8.heap.size (aimP V0 (ax.take 20)) xa xn xc:=hx.sub (Zl _ _ _)
 have hl20:(aimP V0 (ax.take 20)).length<=20:=Nat.le_trans (zm6 _ _) (by rw [List.length_take];omega)
 obtain ⟨o1,o2⟩:=zk5 (ax.take 20) V0 HLT.out.2 (by have:=HLT.out.1;have:(ax.take 20).length<=20:=(by rw [List.length_take];omega);omega)
 have hte:=zif _ _ (zmp (ax.take 20) V0)
 obtain ⟨X,hX⟩:∃X,aimP V0 (ax.take 20)=X:=⟨_,rfl⟩
 rw [hX] at hX8 hl20 o1 hte
 have hxn:=hX8.len
 have HCY:=qh (zi0 w8 X xa xn xc hX8 (by omega))
 have HV8:=qh (HV7.out.later_ hb8);have HW8:=qh (HW7.out.later_ hb8)
 have HA8:=qh (HA7.out.trans (hb8.mono HA7.out.size))
 have hQr:(turnsP V0 X).2=0∨(turnsP V0 X).2=60:=hte.imp id fun h=>by rw [h]
 have hQ:allP V0 X=((turnsP V0 X).1.reverse,(turnsP V0 X).2):=by unfold allP;rw [if_neg (by omega)]
 have HX8:=qh (HX7.out.keep hb8 HX7.out.lt);have HY8:=qh (HY7.out.keep hb8 HY7.out.lt)
 have HXX:=qh hX8;have HQR:=qh hQr;have HQ:=qh hQ;have HO1:=qh o1;have HL20:=qh (show xn<=200 by omega)
 clear v0 v1 v2 v3 v4 zv hx hX8 hl20 o1 o2 hte hX hxn hQr hQ hb8 HAM HX7 HY7 HV7 HW7 HA7
 go_wp2_with fail
 refine HCY.out.mono ?_
 rintro e w9 ⟨⟨pa,pn,pc,rfl,hp⟩,hb9⟩
 have HPP:Hid (IsComps w9 w9.heap.size X pa pn pc):=qh (hp.sub (Zl _ _ _))
 replace HXX:=qh (HXX.out.later_ hb9)
 have HV9:=qh (HV8.out.later_ hb9);have HW9:=qh (HW8.out.later_ hb9)
 have HA9:=qh (HA8.out.trans (hb9.mono HA8.out.size))
 have hx9:=HX8.out.keep hb9 HX8.out.lt
 have HY9:=qh (HY8.out.keep hb9 HY8.out.lt)
 have HAL:=qh (zcx w9 cv V0 HV9.out X xa xn xc HXX.out (fun _=>HO1.out) (HTT.out.below HA9.out))
 rw [HQ.out] at HAL
 obtain ⟨v0,v1,v2,v3,v4⟩:=row5 hx9.at_
 have zv:=hx9.lt
 have HX9:=qh hx9
 clear hp hb9 hx9 HX8 HY8 HV8 HW8 HA8 HCY
 go_wp2_with fail
 refine HAL.out.mono ?_
 rintro e w10 ⟨⟨ya,yn,yc,rfl,hy⟩,hb10⟩
 have HYY:Hid (IsComps w10 w10.heap.size (turnsP V0 X).1.reverse ya yn yc):=qh (hy.sub (Zl _ _ _))
 replace HXX:=qh (HXX.out.later_ hb10);replace HPP:=qh (HPP.out.later_ hb10)
 have HV10:=qh (HV9.out.later_ hb10);have HW10:=qh (HW9.out.later_ hb10)
 have HA10:=qh (HA9.out.trans (hb10.mono HA9.out.size))
 have HX10:=qh (HX9.out.keep hb10 HX9.out.lt)
 have hy10:=HY9.out.keep hb10 HY9.out.lt
 have HRL:=qh (zi9 w10 dv V0 HW10.out X pa pn pc HPP.out (by have h1:=HPP.out.len;have h2:=HXX.out.len;have:=HL20.out;omega) HO1.out (HTT.out.below HA10.out))
 clear v0 v1 v2 v3 v4 zv
 obtain ⟨y0,y1,y2,y3,y4⟩:=row5 hy10.at_
 have zy:=hy10.lt
 have HY10:=qh hy10
 clear hy hb10 hy10 HX9 HY9 HV9 HW9 HA9 HAL
 go_wp2_with fail
 refine HRL.out.mono ?_
 rintro e w11 ⟨⟨za,zn,zc,rfl,hz⟩,hb11⟩
 have hZZ:IsComps w11 w11.heap.size (turnsP V0 X).1.reverse za zn zc:=hz.sub (Zl _ _ _)
 replace HXX:=qh (HXX.out.later_ hb11);replace HPP:=qh (HPP.out.later_ hb11)
 have HV11:=qh (HV10.out.later_ hb11);have HW11:=qh (HW10.out.later_ hb11)
 have HA11:=qh (HA10.out.trans (hb11.mono HA10.out.size))
 have HX11:=qh (HX10.out.keep hb11 HX10.out.lt);have HY11:=qh (HY10.out.keep hb11 HY10.out.lt)
 have hsm:=zau _ _ w11 ya za yn zn yc zc (HYY.out.later_ hb11) hZZ
 rw [Yo rfl] at hsm
 have HSM:=qh hsm
 obtain ⟨qe,hqe⟩:∃q,(turnsP V0 X).2=q:=⟨_,rfl⟩
 rw [hqe] at HQR
 rw [hqe]
 clear y0 y1 y2 y3 y4 zy hz hb11 hZZ hsm hqe HX10 HY10 HV10 HW10 HA10 HRL HYY HQ HO1 HL20
 go_wp2_with fail
 refine HSM.out.mono ?_
 rintro e w12 ⟨rfl,hb12⟩
 have hx12:=HX11.out.keep hb12 HX11.out.lt;have hy12:=HY11.out.keep hb12 HY11.out.lt
 have hs2:=K7 V0 V0 w12 cv dv (HV11.out.later_ hb12) (HW11.out.later_ hb12)
 rw [Jd rfl] at hs2
 have HS2:=qh hs2
 have HA12:=qh (HA11.out.trans (hb12.mono HA11.out.size))
 replace HXX:=qh (HXX.out.later_ hb12);replace HPP:=qh (HPP.out.later_ hb12)
 obtain ⟨v0,v1,v2,v3,v4⟩:=row5 hx12.at_
 obtain ⟨y0,y1,y2,y3,y4⟩:=row5 hy12.at_
 have zv:=hx12.lt;have zy:=hy12.lt
 have hw1:wrap64 qe=qe:=X7 (by have:=HQR.out;omega)
 clear hb12 hx12 hy12 hs2 HX11 HY11 HV11 HW11 HA11 HSM
 go_wp2_with fail
 refine HS2.out.mono ?_
 rintro e w13 ⟨rfl,hb13⟩
 have hs3:=zau X X w13 xa pa xn pn xc pc (HXX.out.later_ hb13) (HPP.out.later_ hb13)
 rw [Yo rfl] at hs3
 have HS3:=qh hs3
 have HA13:=qh (HA12.out.trans (hb13.mono HA12.out.size))
 clear v0 v1 v2 v3 v4 y0 y1 y2 y3 y4 zv zy hb13 hs3 HS2 HA12
 go_wp2_with fail
 refine HS3.out.mono ?_
 rintro e w14 ⟨rfl,hb14⟩
 have HA14:=qh (HA13.out.trans (hb14.mono HA13.out.size))
 clear hb14
 go_wp2_with fail
 go_returns
 exact ⟨rfl,HA14.out⟩
end Go.Proofs.YtnjgbiachcfigaaGreatDoor
