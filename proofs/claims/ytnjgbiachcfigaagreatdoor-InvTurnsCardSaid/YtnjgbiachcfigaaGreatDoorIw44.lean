/-
  Contracts of the functions that the law reaches: InvTurns, of any pieces, component and.
-/
import Derived.Test.YtnjgbiachcfigaaGreatDoorIw43
namespace Go.Proofs.YtnjgbiachcfigaaGreatDoor
open Go.RowKit
set_option maxHeartbeats 16000000
set_option maxRecDepth 100000 in
theorem zp4 (w:World) (hT:Tabs w) (l:List Tk) (a:Option Addr) (n c:Nat) (hl:IsToks w w.heap.size l a n c) (bb:BA) (x:Ba) (hb:bb.pl<=40->IsBare w w.heap.size x bb) (ac:AC) (y:Ac) (ha:IsAct w w.heap.size y ac):
 uP 5 #[.slice a n c, .agg #[.int .u8 bb.k, .slice bb.pa bb.pl bb.pc, .string bb.key, .int .i64 bb.i, .int .i64 bb.j, .int .i64 bb.n, .string bb.s, .slice bb.va bb.vl bb.vc], .agg (uA ac)] w fun e w'=>e= .returned (.bool true)/\uB w w':=by
 delta uA uB uP
 have HL:=qh hl
 have HBR:=qh hb
 have HTT:=qh hT
 have HKN:Hid (∀W,uB w W->uP 21 #[] W fun e w'=>e= .returned (.bool true)/\uB W w'):=qh fun W hW=>Kf W (hT.below hW)
 obtain ⟨w1,hw1⟩:∃W,w.alloc (.cells #[.int .u8 bb.k, .slice bb.pa bb.pl bb.pc, .string bb.key, .int .i64 bb.i, .int .i64 bb.j, .int .i64 bb.n, .string bb.s, .slice bb.va bb.vl bb.vc] 29)=W:=⟨_,rfl⟩
 have hb1:uB w w1:=by rw [<-hw1];exact Zs w _
 have hx1:BC w1 w.heap.size [.int .u8 bb.k, .slice bb.pa bb.pl bb.pc, .string bb.key, .int .i64 bb.i, .int .i64 bb.j, .int .i64 bb.n, .string bb.s, .slice bb.va bb.vl bb.vc] :=by rw [<-hw1];exact BC.start w #[.int .u8 bb.k, .slice bb.pa bb.pl bb.pc, .string bb.key, .int .i64 bb.i, .int .i64 bb.j, .int .i64 bb.n, .string bb.s, .slice bb.va bb.vl bb.vc] 29
 obtain ⟨w2,hw2⟩:∃W,w1.alloc (.cells (uA ac) 25)=W:=⟨_,rfl⟩
 have hb2:uB w1 w2:=by rw [<-hw2];exact Zs w1 _
 have HA:Hid (uB w w2):=qh (hb1.trans (hb2.mono hb1.size))
 have HB:Hid (BC w2 w.heap.size [.int .u8 bb.k, .slice bb.pa bb.pl bb.pc, .string bb.key, .int .i64 bb.i, .int .i64 bb.j, .int .i64 bb.n, .string bb.s, .slice bb.va bb.vl bb.vc]):=qh (hx1.keep hb2 hx1.lt)
 have HAB:Hid (BC w2 w1.heap.size [.slice ac.pa ac.pl ac.pc, .int .u8 ac.k, .int .i64 ac.i, .int .i64 ac.j, .int .i64 ac.n, .string ac.s, .slice ac.va ac.vl ac.vc]):=qh (by rw [<-hw2];exact BC.start w1 (uA ac) 25)
 have HAC:=qh ((ha.keep HA.out).more HA.out.size)
 have HHV:=qh (Kr (w2.alloc (.cells (uA ac) 25)) l a n c ((hl.later_ HA.out).later_ (Zs w2 _)) [y] _ 1 1 (zme HAC.out))
 have hB:=HB.out;have b0:=hB.at_ 0 _ rfl;have b1:=hB.at_ 1 _ rfl;have b2:=hB.at_ 2 _ rfl;have b3:=hB.at_ 3 _ rfl;have b4:=hB.at_ 4 _ rfl;have b5:=hB.at_ 5 _ rfl;have b6:=hB.at_ 6 _ rfl;have b7:=hB.at_ 7 _ rfl;have zb:=hB.lt;clear hB
 have hAB:=HAB.out;obtain ⟨a0,a1,a2,a3,a4,a5,a6⟩:=row7 hAB.at_;have za:=hAB.lt;clear hAB
 clear hl hb ha hT hb1 hx1 hb2
 go_enter Tryz.func5,Tryz.ntmps5
 go_upto_region 1 with fail
 clear hw1 hw2
 go_wp2_with fail
 refine HHV.out.mono ?_
 rintro e w3 ⟨⟨h,rfl⟩,hb3⟩
 have hs:=(Zs w2 (.cells (uA ac) 25)).trans (hb3.mono (by simp))
 clear b0 b1 b2 b3 b4 b5 b6 b7 zb a0 a1 a2 a3 a4 a5 a6 za
 replace HB:=qh (HB.out.keep hs HB.out.lt)
 replace HAB:=qh (HAB.out.keep hs HAB.out.lt)
 replace HA:=qh (HA.out.trans (hs.mono HA.out.size))
 replace HAC:=qh ((HAC.out.keep hs).more hs.size)
 clear hs hb3 HHV
 have hB:=HB.out;have b0:=hB.at_ 0 _ rfl;have b1:=hB.at_ 1 _ rfl;have b2:=hB.at_ 2 _ rfl;have b3:=hB.at_ 3 _ rfl;have b4:=hB.at_ 4 _ rfl;have b5:=hB.at_ 5 _ rfl;have b6:=hB.at_ 6 _ rfl;have b7:=hB.at_ 7 _ rfl;have zb:=hB.lt;clear hB
 cases h with
 |true=>go_wp2_with fail;(refine (HKN.out _ HA.out).mono ?_;rintro e wk ⟨rfl,hbk⟩;have HAk:=qh (HA.out.trans (hbk.mono HA.out.size));clear hbk;go_wp2_with fail;go_returns;exact ⟨rfl,HAk.out⟩)
 |false=>
 by_cases h1:30<bb.pl
 .go_wp2_with fail;(refine (HKN.out _ HA.out).mono ?_;rintro e wk ⟨rfl,hbk⟩;have HAk:=qh (HA.out.trans (hbk.mono HA.out.size));clear hbk;go_wp2_with fail;go_returns;exact ⟨rfl,HAk.out⟩)
 have hbd:bb.key.size<=140737488355328/\bb.s.size<=140737488355328:=by
  cases HBR.out (by omega) with
  |mk _ p v hbd hp hv=>exact ⟨hbd.key1,hbd.s1⟩
 have HX:=qh ((HBR.out (by omega)).keep HA.out)
 clear HBR
 by_cases h2:500<bb.s.size+bb.key.size
 .go_wp2_with fail;(refine (HKN.out _ HA.out).mono ?_;rintro e wk ⟨rfl,hbk⟩;have HAk:=qh (HA.out.trans (hbk.mono HA.out.size));clear hbk;go_wp2_with fail;go_returns;exact ⟨rfl,HAk.out⟩)
 have HSS:Hid (bb.s.size<=500):=qh (by omega)
 by_cases h3:60<bb.vl
 .go_wp2_with fail;(refine (HKN.out _ HA.out).mono ?_;rintro e wk ⟨rfl,hbk⟩;have HAk:=qh (HA.out.trans (hbk.mono HA.out.size));clear hbk;go_wp2_with fail;go_returns;exact ⟨rfl,HAk.out⟩)
 go_wp2_with fail
 refine (HKN.out _ HA.out).mono ?_
 rintro e w4 ⟨rfl,hs⟩
 have hz0:=HA.out.size
 clear b0 b1 b2 b3 b4 b5 b6 b7 zb
 replace HB:=qh (HB.out.keep hs HB.out.lt)
 replace HAB:=qh (HAB.out.keep hs HAB.out.lt)
 replace HA:=qh (HA.out.trans (hs.mono HA.out.size))
 replace HAC:=qh ((HAC.out.keep hs).more hs.size)
 replace HX:=qh (HX.out.keep (hs.mono hz0):IsBare w4 w.heap.size x bb)
 clear hs HKN h1 h2 h3 hbd hz0
 have hB:=HB.out;have b0:=hB.at_ 0 _ rfl;have b1:=hB.at_ 1 _ rfl;have b2:=hB.at_ 2 _ rfl;have b3:=hB.at_ 3 _ rfl;have b4:=hB.at_ 4 _ rfl;have b5:=hB.at_ 5 _ rfl;have b6:=hB.at_ 6 _ rfl;have b7:=hB.at_ 7 _ rfl;have zb:=hB.lt;clear hB
 go_wp2_with fail
 refine (Yf w4 l a n c (HL.out.later_ HA.out)).mono ?_
 rintro e w5 ⟨⟨cv,rfl,hv⟩,hb5⟩
 obtain ⟨V0,hV0⟩:∃V0,(oneP 6 (l.take 60)).1=V0:=⟨_,rfl⟩
 have HLT:Hid (V0.weight<=20000/\V0.sound=true):=qh (by rw [<-hV0];exact ⟨(Y7 l).2.1,(Y7 l).2.2.2.1⟩)
 rw [hV0] at hv
 have hz0:=HA.out.size
 clear b0 b1 b2 b3 b4 b5 b6 b7 zb
 obtain ⟨w6,hw⟩:∃W,w5.alloc (.cells (uV cv) 36)=W:=⟨_,rfl⟩
 have hn:uB w5 w6:=by rw [<-hw];exact Zs w5 _
 have HV:Hid (BC w6 w5.heap.size (vcells cv)):=qh (by rw [<-hw];exact BC.start w5 (uV cv) 36)
 have hs:=hb5.trans (hn.mono hb5.size)
 replace HB:=qh (HB.out.keep hs HB.out.lt)
 replace HAB:=qh (HAB.out.keep hs HAB.out.lt)
 replace HA:=qh (HA.out.trans (hs.mono HA.out.size))
 replace HAC:=qh ((HAC.out.keep hs).more hs.size)
 replace HX:=qh (HX.out.keep (hs.mono hz0):IsBare w6 w.heap.size x bb)
 have HWV:Hid (IsVal w6 w6.heap.size V0 cv):=qh ((hv.sub (Zk _ _ _)).later_ hn)
 clear hn hs hb5 hv hV0 HL hz0
 have hB:=HB.out;have b0:=hB.at_ 0 _ rfl;have b1:=hB.at_ 1 _ rfl;have b2:=hB.at_ 2 _ rfl;have b3:=hB.at_ 3 _ rfl;have b4:=hB.at_ 4 _ rfl;have b5:=hB.at_ 5 _ rfl;have b6:=hB.at_ 6 _ rfl;have b7:=hB.at_ 7 _ rfl;have zb:=hB.lt;clear hB
 go_upto_region 4 with fail
 clear hw
 go_wp2_with fail
 refine (zfl w6 w.heap.size HA.out.size bb x HX.out).mono ?_
 rintro e w7 ⟨⟨cc,rfl,hc⟩,hb7⟩
 obtain ⟨hxs,hxw⟩:=zcu HX.out
 have hcs:(compP x).s.size<=1000000000000:=by rw [show (compP x).s=x.s from rfl,hxs];have:=HSS.out;omega
 obtain ⟨cm,hcm⟩:∃cm,compP x=cm:=⟨_,rfl⟩
 rw [hcm] at hc hxw hcs
 clear b0 b1 b2 b3 b4 b5 b6 b7 zb
 obtain ⟨w8,hw⟩:∃W,w7.alloc (.cells (uC cc) 39)=W:=⟨_,rfl⟩
 have hn:uB w7 w8:=by rw [<-hw];exact Zs w7 _
 have HC:Hid (BC w8 w7.heap.size (ccells cc)):=qh (by rw [<-hw];exact BC.start w7 (uC cc) 39)
 have hs:=hb7.trans (hn.mono hb7.size)
 replace HAB:=qh (HAB.out.keep hs HAB.out.lt)
 replace HV:=qh (HV.out.keep hs HV.out.lt)
 replace HA:=qh (HA.out.trans (hs.mono HA.out.size))
 replace HWV:=qh (HWV.out.later_ hs)
 replace HAC:=qh ((HAC.out.keep hs).more hs.size)
 have HCM:Hid (IsComp w8 w8.heap.size cm cc):=qh ((IsComp.sub (Zk _ _ _) hc).later_ hn)
 have HCW:=qh hxw;have HCS:=qh hcs
 clear hn hs hb7 hc hcm hxs hxw hcs HB HX HSS
 have hV:=HV.out;obtain ⟨v0,v1,v2,v3,v4⟩:=row5 hV.at_;have zv:=hV.lt;clear hV
 have hC:=HC.out;obtain ⟨c0,c1,c2,c3,c4,c5,c6,c7,c8,c9,c10,c11⟩:=row12 hC.at_;have zc:=hC.lt;clear hC
 go_upto_region 5 with fail
 clear hw
 go_wp2_with fail
 refine (Ke w8 cv V0 HWV.out (by have:=HLT.out.1;omega) cm cc HCM.out HCW.out HCS.out (HTT.out.below HA.out)).mono ?_
 rintro e w9 ⟨⟨dd,rfl,hd⟩,hb⟩
 obtain ⟨T,hT⟩:∃T,turnedP V0 cm=T:=⟨_,rfl⟩
 have hr:=zee V0 cm
 rw [hT] at hd hr
 have HT:=qh hT;have HRT:=qh hr
 clear hT hr
 rw [HT.out]
 clear v0 v1 v2 v3 v4 zv c0 c1 c2 c3 c4 c5 c6 c7 c8 c9 c10 c11 zc
 obtain ⟨w10,hw⟩:∃W,w9.alloc (.cells (uC dd) 39)=W:=⟨_,rfl⟩
 have hn:uB w9 w10:=by rw [<-hw];exact Zs w9 _
 have HD:Hid (BC w10 w9.heap.size (ccells dd)):=qh (by rw [<-hw];exact BC.start w9 (uC dd) 39)
 have hs:=hb.trans (hn.mono hb.size)
 replace HAB:=qh (HAB.out.keep hs HAB.out.lt)
 replace HV:=qh (HV.out.keep hs HV.out.lt)
 replace HC:=qh (HC.out.keep hs HC.out.lt)
 replace HA:=qh (HA.out.trans (hs.mono HA.out.size))
 replace HWV:=qh (HWV.out.later_ hs)
 replace HCM:=qh (HCM.out.later_ hs)
 have HID:Hid (IsComp w10 w10.heap.size T.1 dd):=qh ((hd.sub (Zk _ _ _)).later_ hn)
 replace HAC:=qh ((HAC.out.keep hs).more hs.size)
 clear hn hs hb hd
 have hV:=HV.out;obtain ⟨v0,v1,v2,v3,v4⟩:=row5 hV.at_;have zv:=hV.lt;clear hV
 have hC:=HC.out;obtain ⟨c0,c1,c2,c3,c4,c5,c6,c7,c8,c9,c10,c11⟩:=row12 hC.at_;have zc:=hC.lt;clear hC
 go_upto_region 6 with fail
 clear hw
 go_wp2_with fail
 refine (zdv w10 cv V0 HWV.out (by have:=HLT.out.1;omega) cm cc HCM.out HCW.out HCS.out (HTT.out.below HA.out)).mono ?_
 rintro e w11 ⟨⟨ff,rfl,hd⟩,hb⟩
 rw [HT.out] at hd
 rw [HT.out]
 clear v0 v1 v2 v3 v4 zv c0 c1 c2 c3 c4 c5 c6 c7 c8 c9 c10 c11 zc
 obtain ⟨w12,hw⟩:∃W,w11.alloc (.cells (uC ff) 39)=W:=⟨_,rfl⟩
 have hn:uB w11 w12:=by rw [<-hw];exact Zs w11 _
 have HF:Hid (BC w12 w11.heap.size (ccells ff)):=qh (by rw [<-hw];exact BC.start w11 (uC ff) 39)
 have hs:=hb.trans (hn.mono hb.size)
 replace HAB:=qh (HAB.out.keep hs HAB.out.lt)
 replace HV:=qh (HV.out.keep hs HV.out.lt)
 replace HD:=qh (HD.out.keep hs HD.out.lt)
 replace HA:=qh (HA.out.trans (hs.mono HA.out.size))
 replace HWV:=qh (HWV.out.later_ hs)
 replace HID:=qh (HID.out.later_ hs)
 have HIF:Hid (IsComp w12 w12.heap.size T.1 ff):=qh ((hd.sub (Zk _ _ _)).later_ hn)
 replace HAC:=qh ((HAC.out.keep hs).more hs.size)
 clear hn hs hb hd HC HCM HCW HCS
 have hV:=HV.out;obtain ⟨v0,v1,v2,v3,v4⟩:=row5 hV.at_;have zv:=hV.lt;clear hV
 have hAB:=HAB.out;obtain ⟨a0,a1,a2,a3,a4,a5,a6⟩:=row7 hAB.at_;have za:=hAB.lt;clear hAB
 go_upto_region 7 with fail
 clear hw
 go_wp2_with fail
 refine (za2 w12 cv.k cv.n cv.s cv.la cv.ll cv.lc cv.oa cv.ol cv.oc V0 HWV.out (by have:=HLT.out.1;omega) ac y HAC.out).mono ?_
 rintro e w13 ⟨⟨cg,hcc⟩,hb13⟩
 obtain ⟨gm,k,rfl,hk,hgw,hgs,hg⟩:∃(gm:Cm) (k:Int),e= .returned (.tuple #[.agg #[.int .u8 cg.k, .slice cg.pa cg.pl cg.pc, .string cg.key, .int .i64 cg.i, .int .i64 cg.j, .int .i64 cg.n, .int .u8 cg.v.k, .int .i64 cg.v.n, .string cg.v.s, .slice cg.v.la cg.v.ll cg.v.lc, .slice cg.v.oa cg.v.ol cg.v.oc, .string cg.s], .int .i64 k])/\(k=0∨k=1)/\gm.v.weight<=4611686018427387904/\gm.s.size<=1000000000000/\IsComp (only (fun b=>w12.heap.size<=b) w13) w13.heap.size gm cg:=by
  cases hone:oneC V0 y with
  | none=>
    rw [hone] at hcc
    obtain ⟨h1,gm,h2,h3,h4⟩:=hcc
    exact ⟨gm,0,h1, .inl rfl,by omega,by omega,h4⟩
  | some gm=>
    rw [hone] at hcc
    have hsm:=Jq hone
    exact ⟨gm,1,hcc.1, .inr rfl,by have:=hsm.sv;omega,by have:=hsm.ss;omega,hcc.2⟩
 clear hcc
 clear v0 v1 v2 v3 v4 zv a0 a1 a2 a3 a4 a5 a6 za
 obtain ⟨w14,hw⟩:∃W,w13.alloc (.cells (uC cg) 39)=W:=⟨_,rfl⟩
 have hn:uB w13 w14:=by rw [<-hw];exact Zs w13 _
 have HG:Hid (BC w14 w13.heap.size (ccells cg)):=qh (by rw [<-hw];exact BC.start w13 (uC cg) 39)
 have hs:=hb13.trans (hn.mono hb13.size)
 replace HV:=qh (HV.out.keep hs HV.out.lt)
 replace HD:=qh (HD.out.keep hs HD.out.lt)
 replace HF:=qh (HF.out.keep hs HF.out.lt)
 replace HA:=qh (HA.out.trans (hs.mono HA.out.size))
 replace HWV:=qh (HWV.out.later_ hs)
 replace HID:=qh (HID.out.later_ hs)
 replace HIF:=qh (HIF.out.later_ hs)
 have HGM:Hid (IsComp w14 w14.heap.size gm cg):=qh ((hg.sub (Zk _ _ _)).later_ hn)
 have HGW:=qh hgw;have HGS:=qh hgs;have HK:=qh hk
 clear hn hs hb13 hg hgw hgs hk HAB HAC
 have hV:=HV.out;obtain ⟨v0,v1,v2,v3,v4⟩:=row5 hV.at_;have zv:=hV.lt;clear hV
 have hG:=HG.out;obtain ⟨g0,g1,g2,g3,g4,g5,g6,g7,g8,g9,g10,g11⟩:=row12 hG.at_;have zg:=hG.lt;clear hG
 go_upto_region 8 with fail
 clear hw
 go_wp2_with fail
 refine (Ke w14 cv V0 HWV.out (by have:=HLT.out.1;omega) gm cg HGM.out HGW.out HGS.out (HTT.out.below HA.out)).mono ?_
 rintro e w15 ⟨⟨pp,rfl,hd⟩,hb⟩
 obtain ⟨U,hU⟩:∃T,turnedP V0 gm=T:=⟨_,rfl⟩
 have hr:=zee V0 gm
 rw [hU] at hd hr
 have HU:=qh hU;have HRU:=qh hr
 clear hU hr
 rw [HU.out]
 clear v0 v1 v2 v3 v4 zv g0 g1 g2 g3 g4 g5 g6 g7 g8 g9 g10 g11 zg
 obtain ⟨w16,hw⟩:∃W,w15.alloc (.cells (uC pp) 39)=W:=⟨_,rfl⟩
 have hn:uB w15 w16:=by rw [<-hw];exact Zs w15 _
 have HP:Hid (BC w16 w15.heap.size (ccells pp)):=qh (by rw [<-hw];exact BC.start w15 (uC pp) 39)
 have hs:=hb.trans (hn.mono hb.size)
 replace HV:=qh (HV.out.keep hs HV.out.lt)
 replace HD:=qh (HD.out.keep hs HD.out.lt)
 replace HF:=qh (HF.out.keep hs HF.out.lt)
 replace HG:=qh (HG.out.keep hs HG.out.lt)
 replace HA:=qh (HA.out.trans (hs.mono HA.out.size))
 replace HWV:=qh (HWV.out.later_ hs)
 replace HID:=qh (HID.out.later_ hs)
 replace HIF:=qh (HIF.out.later_ hs)
 replace HGM:=qh (HGM.out.later_ hs)
 have HIP:Hid (IsComp w16 w16.heap.size U.1 pp):=qh ((hd.sub (Zk _ _ _)).later_ hn)
 clear hn hs hb hd
 have hV:=HV.out;obtain ⟨v0,v1,v2,v3,v4⟩:=row5 hV.at_;have zv:=hV.lt;clear hV
 have hG:=HG.out;obtain ⟨g0,g1,g2,g3,g4,g5,g6,g7,g8,g9,g10,g11⟩:=row12 hG.at_;have zg:=hG.lt;clear hG
 go_upto_region 9 with fail
 clear hw
 go_wp2_with fail
 refine (zdv w16 cv V0 HWV.out (by have:=HLT.out.1;omega) gm cg HGM.out HGW.out HGS.out (HTT.out.below HA.out)).mono ?_
 rintro e w17 ⟨⟨qq,rfl,hd⟩,hb⟩
 rw [HU.out] at hd
 rw [HU.out]
 clear v0 v1 v2 v3 v4 zv g0 g1 g2 g3 g4 g5 g6 g7 g8 g9 g10 g11 zg
 obtain ⟨w18,hw⟩:∃W,w17.alloc (.cells (uC qq) 39)=W:=⟨_,rfl⟩
 have hn:uB w17 w18:=by rw [<-hw];exact Zs w17 _
 have HQ:Hid (BC w18 w17.heap.size (ccells qq)):=qh (by rw [<-hw];exact BC.start w17 (uC qq) 39)
 have hs:=hb.trans (hn.mono hb.size)
 replace HD:=qh (HD.out.keep hs HD.out.lt)
 replace HF:=qh (HF.out.keep hs HF.out.lt)
 replace HP:=qh (HP.out.keep hs HP.out.lt)
 replace HA:=qh (HA.out.trans (hs.mono HA.out.size))
 replace HID:=qh (HID.out.later_ hs)
 replace HIF:=qh (HIF.out.later_ hs)
 replace HIP:=qh (HIP.out.later_ hs)
 have HIQ:Hid (IsComp w18 w18.heap.size U.1 qq):=qh ((hd.sub (Zk _ _ _)).later_ hn)
 have hm1:=zaf T.1 T.1 w18 dd ff HID.out HIF.out
 rw [Ys rfl] at hm1
 have HM1:=qh hm1
 clear hn hs hb hd hm1 HV HWV HG HGM HGW HGS
 have hD:=HD.out;obtain ⟨d0,d1,d2,d3,d4,d5,d6,d7,d8,d9,d10,d11⟩:=row12 hD.at_;have zd:=hD.lt;clear hD
 have hF:=HF.out;obtain ⟨f0,f1,f2,f3,f4,f5,f6,f7,f8,f9,f10,f11⟩:=row12 hF.at_;have zf:=hF.lt;clear hF
 have HT2:=qh HT.out
 obtain ⟨T1,te⟩:=T
 obtain ⟨U1,ue⟩:=U
 dsimp only at HRT HRU HM1 HIP HIQ ⊢
 go_upto_region 10 with fail
 clear hw
 go_wp2_with fail
 refine HM1.out.mono ?_
 rintro e w19 ⟨rfl,hs⟩
 have hm2:=zaf U1 U1 w19 pp qq (HIP.out.later_ hs) (HIQ.out.later_ hs)
 rw [Ys rfl] at hm2
 have HM2:=qh hm2
 clear d0 d1 d2 d3 d4 d5 d6 d7 d8 d9 d10 d11 zd f0 f1 f2 f3 f4 f5 f6 f7 f8 f9 f10 f11 zf
 replace HP:=qh (HP.out.keep hs HP.out.lt)
 replace HQ:=qh (HQ.out.keep hs HQ.out.lt)
 replace HA:=qh (HA.out.trans (hs.mono HA.out.size))
 clear hs hm2 HM1 HD HF HID HIF HIP HIQ
 have hP:=HP.out;obtain ⟨p0,p1,p2,p3,p4,p5,p6,p7,p8,p9,p10,p11⟩:=row12 hP.at_;have zp:=hP.lt;clear hP
 have hQ:=HQ.out;obtain ⟨q0,q1,q2,q3,q4,q5,q6,q7,q8,q9,q10,q11⟩:=row12 hQ.at_;have zq:=hQ.lt;clear hQ
 have hw1:wrap64 te=te:=Xv (by have:=HRT.out;omega)
 have hw2:wrap64 ue=ue:=Xv (by have:=HRU.out;omega)
 rcases HK.out with rfl|rfl
 .go_wp2_with fail
  go_returns
  exact ⟨rfl,HA.out⟩
 .go_wp2_with fail
  refine HM2.out.mono ?_
  rintro e w20 ⟨rfl,hs⟩
  have HA20:=qh (HA.out.trans (hs.mono HA.out.size))
  clear hs
  go_wp2_with fail
  go_returns
  exact ⟨rfl,HA20.out⟩
end Go.Proofs.YtnjgbiachcfigaaGreatDoor
