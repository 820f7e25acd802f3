/-
  Contracts of the functions that the law reaches: conciliatorlaw09.known: the chapter's.
-/
import Derived.Test.YtnjgbiachcfigaaGreatDoorIw21
namespace Go.Proofs.YtnjgbiachcfigaaGreatDoor
open Go.RowKit
set_option maxHeartbeats 16000000
set_option maxRecDepth 100000 in
theorem Kf (w:World) (hT:Tabs w):uP 21 #[] w fun e w'=>e= .returned (.bool true)/\uB w w':=by
 delta uB uP
 have HK:=qh (KN.start w 75 36 39)
 have HT:=qh hT
 clear hT
 go_enter Tryz.func21,Tryz.ntmps21
 go_upto_region 3 with fail
 obtain ⟨w1,hw1⟩:∃w1,((w.alloc (.cells #[.string { data:= #[97] }, .int .u8 2, .int .i64 1, .string { data:= #[] }, .slice none 0 0, .slice none 0 0] 75)).alloc (.cells (uU 5 0 { data:= #[] } none 0 0 (some ⟨w.heap.size,0,none⟩) 1 1) 36)).alloc (.cells #[.int .u8 2, .slice none 0 0, .string { data:= #[97] }, .int .i64 0, .int .i64 0, .int .i64 0, .int .u8 2, .int .i64 2, .string { data:= #[] }, .slice none 0 0, .slice none 0 0, .string { data:= #[] }] 39)=w1:=⟨_,rfl⟩
 rw [hw1] at HK ⊢
 have hk:=HK.out
 obtain ⟨v0,v1,v2,v3,v4⟩:=row5 hk.v.at_
 obtain ⟨c0,c1,c2,c3,c4,c5,c6,c7,c8,c9,c10,c11⟩:=row12 hk.c.at_
 have zv:=hk.v.lt;have zc:=hk.c.lt
 clear hw1 hk
 go_wp2_with fail
 refine (zp0 w1 (HT.out.below HK.out.below) _ HK.out.f).mono ?_
 rintro e w2 ⟨⟨d,rfl,hd1,hd2⟩,hb2⟩
 obtain ⟨w3,hw3⟩:∃w3,w2.alloc (.cells (uC d) 39)=w3:=⟨_,rfl⟩
 have hb3:uB w2 w3:=by rw [<-hw3];exact Zo w2 _
 have hx3:BC w3 w2.heap.size (ccells d):=by rw [<-hw3];exact BC.start w2 (uC d) 39
 have hk3:=(HK.out.keep hb2).keep hb3
 have HK3:=qh hk3;have HX3:=qh hx3;have HD:=qh (show d.k=2/\d.v.n=1 from ⟨hd1,hd2⟩)
 clear v0 v1 v2 v3 v4 c0 c1 c2 c3 c4 c5 c6 c7 c8 c9 c10 c11 zv zc
 obtain ⟨c0,c1,c2,c3,c4,c5,c6,c7,c8,c9,c10,c11⟩:=row12 hk3.c.at_
 have zc:=hk3.c.lt
 clear hb2 hb3 hx3 hk3 hd1 hd2 HK
 go_upto_region 4 with fail
 clear hw3
 go_wp2_with fail
 refine (zmg w3 (HT.out.below HK3.out.below)).mono ?_
 rintro e w4 ⟨⟨g,rfl,hg1,hg2⟩,hb4⟩
 obtain ⟨w5,hw5⟩:∃w5,w4.alloc (.cells (uC g) 39)=w5:=⟨_,rfl⟩
 have hb5:uB w4 w5:=by rw [<-hw5];exact Zo w4 _
 have hx5:BC w5 w4.heap.size (ccells g):=by rw [<-hw5];exact BC.start w4 (uC g) 39
 have hk5:=(HK3.out.keep hb4).keep hb5
 have hd5:=(HX3.out.keep hb4 HX3.out.lt).keep hb5 (Nat.lt_of_lt_of_le HX3.out.lt hb4.size)
 have HK5:=qh hk5;have HX5:=qh hx5;have HD5:=qh hd5;have HG:=qh (show g.k=3/\g.key=kA from ⟨hg1,hg2⟩)
 clear c0 c1 c2 c3 c4 c5 c6 c7 c8 c9 c10 c11 zc
 obtain ⟨v0,v1,v2,v3,v4⟩:=row5 hk5.v.at_
 obtain ⟨c0,c1,c2,c3,c4,c5,c6,c7,c8,c9,c10,c11⟩:=row12 hk5.c.at_
 have zv:=hk5.v.lt;have zc:=hk5.c.lt
 clear hb4 hb5 hx5 hk5 hd5 hg1 hg2 HK3 HX3
 go_upto_region 5 with fail
 clear hw5
 obtain ⟨w6,hw6⟩:∃w6,w5.alloc (.cells #[.int .u8 2, .slice none 0 0, .string { data:= #[97] }, .int .i64 0, .int .i64 0, .int .i64 0, .int .u8 2, .int .i64 2, .string { data:= #[] }, .slice none 0 0, .slice none 0 0, .string { data:= #[] }] 39)=w6:=⟨_,rfl⟩
 have hb6:uB w5 w6:=by rw [<-hw6];exact Zo w5 _
 have hq6:BC w6 w5.heap.size (ccells ⟨2,none,0,0,kA,0,0,0,⟨2,2, .empty,none,0,0,none,0,0⟩, .empty⟩):=by rw [<-hw6];exact BC.start w5 #[.int .u8 2, .slice none 0 0, .string { data:= #[97] }, .int .i64 0, .int .i64 0, .int .i64 0, .int .u8 2, .int .i64 2, .string { data:= #[] }, .slice none 0 0, .slice none 0 0, .string { data:= #[] }] 39
 have hk6:=HK5.out.keep hb6
 have HAL:=qh (zib w6 (HT.out.below hk6.below) _ _ hk6.f hq6)
 have HB6:=qh hb6
 clear hb6 hq6 hk6
 go_wp2_with fail
 refine HAL.out.mono ?_
 rintro e w7 ⟨⟨a,cap,rfl⟩,hb7⟩
 have hb57:=HB6.out.trans (hb7.mono HB6.out.size)
 have hd7:=HD5.out.keep hb57 HD5.out.lt
 have hg7:=HX5.out.keep hb57 HX5.out.lt
 have HBL:=qh (HK5.out.below.trans (hb57.mono HK5.out.below.size))
 clear v0 v1 v2 v3 v4 c0 c1 c2 c3 c4 c5 c6 c7 c8 c9 c10 c11 zv zc
 have d0:=hd7.at_ 0 _ rfl;have d7:=hd7.at_ 7 _ rfl;have g0:=hg7.at_ 0 _ rfl;have g2:=hg7.at_ 2 _ rfl
 rw [HD.out.1] at d0;rw [HD.out.2] at d7;rw [HG.out.1] at g0;rw [HG.out.2,kA] at g2
 have zd:=hd7.lt;have zg:=hg7.lt
 clear hb57 hd7 hg7 hb7 hw6
 go_wp2_with fail
 go_returns
 exact ⟨rfl,HBL.out⟩
end Go.Proofs.YtnjgbiachcfigaaGreatDoor
