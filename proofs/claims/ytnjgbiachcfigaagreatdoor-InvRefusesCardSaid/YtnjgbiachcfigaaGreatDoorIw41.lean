/-
  Contracts of the functions that the law reaches: InvRefuses, of any pieces, component and.
-/
import Derived.Test.YtnjgbiachcfigaaGreatDoorIw22
import Derived.Test.YtnjgbiachcfigaaGreatDoorIw35
namespace Go.Proofs.YtnjgbiachcfigaaGreatDoor
open Go.RowKit
set_option maxHeartbeats 16000000
theorem Zs (w:World) (o:Obj):uB w (w.alloc o):=(Below.refl _ _).alloc (Nat.le_refl _) o
theorem Ke (w:World) (cv:VC) (v:V) (hv:IsVal w w.heap.size v cv) (hw:v.weight<=1000000000000) (cm:Cm) (cc:CC) (hc:IsComp w w.heap.size cm cc) (hxw:cm.v.weight<=4611686018427387904) (hsz:cm.s.size<=1000000000000) (hT:Tabs w):
 uP 27 #[.agg (uV cv), .agg (uC cc)] w (TdPost .u16 w (turnedP v cm)):=by
 delta uV uC uP
 cases hc with
 |mk cc p xv hcb hp hxv=>exact Qa w cv v hv hw p xv cc hcb hp hxv hxw hsz hT
theorem zln (w:World) (B:Nat):IsActs w B [] none 0 0:=
 ⟨rfl,Nat.le_refl _,by decide,0,0,fun _=>⟨none,0,0,0,0,0,0, .empty,none,0,0⟩,fun h=>absurd h (by decide),fun i hi=>absurd hi (by simp)⟩
theorem zqo (w:World) (cv:VC) (v:V) (hv:IsVal w w.heap.size v cv) (hw:v.weight<=1000000000000) (cm:Cm) (cc:CC) (hc:IsComp w w.heap.size cm cc) (hxw:cm.v.weight<=4611686018427387904) (hT:Tabs w):
 uP 34 #[.agg (uV cv), .agg (uC cc)] w fun e w'=>e= .returned (.int .i64 (checkP v cm))/\uB w w':=by
 delta uV uC uB uP
 cases hc with
 |mk cc p xv hcb hp hxv=>exact X6 w cv.k cv.n cv.s cv.la cv.ll cv.lc cv.oa cv.ol cv.oc v hv hw p xv cc hcb hp hxv hxw hT
theorem zo1 {w:World} {cm:Cm} {cc:CC} (h:IsComp w w.heap.size cm cc):IsComps (w.alloc (.cells #[.int .u8 cc.k, .slice cc.pa cc.pl cc.pc, .string cc.key, .int .i64 cc.i, .int .i64 cc.j, .int .i64 cc.n, .int .u8 cc.v.k, .int .i64 cc.v.n, .string cc.v.s, .slice cc.v.la cc.v.ll cc.v.lc, .slice cc.v.oa cc.v.ol cc.v.oc, .string cc.s] 39)) (w.alloc (.cells #[.int .u8 cc.k, .slice cc.pa cc.pl cc.pc, .string cc.key, .int .i64 cc.i, .int .i64 cc.j, .int .i64 cc.n, .int .u8 cc.v.k, .int .i64 cc.v.n, .string cc.v.s, .slice cc.v.la cc.v.ll cc.v.lc, .slice cc.v.oa cc.v.ol cc.v.oc, .string cc.s] 39)).heap.size [cm] (some ⟨w.heap.size,0,none⟩) 1 1:=by
 have hB:=BC.start w (uC cc) 39
 have h2:=h.later_ (Zs w (.cells (uC cc) 39))
 exact ⟨rfl,Nat.le_refl _,by omega,by decide,w.heap.size,0,fun _=>cc,fun _=>⟨rfl,hB.lt⟩,fun i hi=>by
  have h0:i=0:=by simpa using hi
  subst h0
  exact ⟨⟨hB.at_ 0 _ rfl,hB.at_ 1 _ rfl,hB.at_ 2 _ rfl,hB.at_ 3 _ rfl,hB.at_ 4 _ rfl,hB.at_ 5 _ rfl,⟨hB.at_ 6 _ rfl,hB.at_ 7 _ rfl,hB.at_ 8 _ rfl,hB.at_ 9 _ rfl,hB.at_ 10 _ rfl⟩,hB.at_ 11 _ rfl⟩,h2⟩⟩
theorem zpu {w:World} {L j:Nat} {cm:Cm} {cc:CC} {a:Option Addr} {c:Nat} (h:IsComp w w.heap.size cm cc) (hown:w.ownsRow L 39 12 (.slice a j c) j ((List.replicate j cc).flatMap ccells)) (hj:j<=1000):IsComps w w.heap.size (List.replicate j cm) a j c:=by
 have hlt:=hown.lt
 have hcl:∀g,(Value.slice a j c).ownBlock=some g->∀k x,((List.replicate j cc).flatMap ccells)[k]? =some x->w.cell? ((⟨g,0,none⟩:Addr).add k)=some x:=fun g hg=>hown.cells hg
 rcases hown.2 with ⟨e,hn⟩|⟨g,cap',cur,e,hbg,hg,hnc,hcm,hcs,htake⟩
 .injection e with e1 e2 e3;subst e1 e2 e3
  exact .nil _ _
 .injection e with e1 e2 e3;subst e1 e3
  refine ⟨by simp,hnc,by simpa [maxLen] using hcm,by omega,g,0,fun _=>cc,fun _=>⟨rfl,(hlt g rfl).2⟩,fun i hi=>⟨?_,by simpa using h⟩⟩
  rw [List.length_replicate] at hi
  have hc:∀t x,t<12->(ccells cc)[t]? =some x->w.cell? ⟨g,0+i*12+t,none⟩=some x:=fun t x ht hx=>by
   have:=hcl g rfl (i*12+t) x ((Yv ccells 12 (fun _=>rfl) (List.replicate j cc) i t (by simpa using hi) ht).trans (by simpa using hx))
   rw [Zw] at this
   rw [Nat.add_assoc];exact this
  exact ⟨hc 0 _ (by omega) rfl,hc 1 _ (by omega) rfl,hc 2 _ (by omega) rfl,hc 3 _ (by omega) rfl,hc 4 _ (by omega) rfl,hc 5 _ (by omega) rfl,⟨hc 6 _ (by omega) rfl,hc 7 _ (by omega) rfl,hc 8 _ (by omega) rfl,hc 9 _ (by omega) rfl,hc 10 _ (by omega) rfl⟩,hc 11 _ (by omega) rfl⟩
structure LM2 (wL wr:World) (cc:CC) (j:Nat) (a:Option Addr) (c:Nat):Prop where
 own:wr.ownsRow wL.heap.size 39 12 (.slice a j c) j ((List.replicate j cc).flatMap ccells)
 below:Below wL.heap.size wL wr
set_option maxRecDepth 100000 in
theorem zke (w:World) (hT:Tabs w) (l:List Tk) (a:Option Addr) (n c:Nat) (hl:IsToks w w.heap.size l a n c) (bb:BA) (x:Ba) (hb:bb.pl<=40->IsBare w w.heap.size x bb) (nn:Int) (hnn:0<=nn/\nn<65536):
 uP 9 #[.slice a n c, .agg #[.int .u8 bb.k, .slice bb.pa bb.pl bb.pc, .string bb.key, .int .i64 bb.i, .int .i64 bb.j, .int .i64 bb.n, .string bb.s, .slice bb.va bb.vl bb.vc], .int .u16 nn] w fun e w'=>e= .returned (.bool true)/\uB w w':=by
 delta uB uP
 obtain ⟨i0,hi0,hz0,hz1,hz2⟩:=info_parts za1
 have HL:=qh hl
 have HBR:=qh hb
 have HTT:=qh hT
 have HNN:=qh hnn
 have HKN:Hid (∀W,uB w W->uP 21 #[] W fun e w'=>e= .returned (.bool true)/\uB W w'):=qh fun W hW=>Kf W (hT.below hW)
 obtain ⟨w2,hw2⟩:∃W,w.alloc (.cells #[.int .u8 bb.k, .slice bb.pa bb.pl bb.pc, .string bb.key, .int .i64 bb.i, .int .i64 bb.j, .int .i64 bb.n, .string bb.s, .slice bb.va bb.vl bb.vc] 29)=W:=⟨_,rfl⟩
 have HA:Hid (uB w w2):=qh (by rw [<-hw2];exact Zs w _)
 have HB:Hid (BC w2 w.heap.size [.int .u8 bb.k, .slice bb.pa bb.pl bb.pc, .string bb.key, .int .i64 bb.i, .int .i64 bb.j, .int .i64 bb.n, .string bb.s, .slice bb.va bb.vl bb.vc]):=qh (by rw [<-hw2];exact BC.start w #[.int .u8 bb.k, .slice bb.pa bb.pl bb.pc, .string bb.key, .int .i64 bb.i, .int .i64 bb.j, .int .i64 bb.n, .string bb.s, .slice bb.va bb.vl bb.vc] 29)
 have HHV:=qh (Kr w2 l a n c (hl.later_ HA.out) [] none 0 0 (zln _ _))
 have hB:=HB.out;have b0:=hB.at_ 0 _ rfl;have b1:=hB.at_ 1 _ rfl;have b2:=hB.at_ 2 _ rfl;have b3:=hB.at_ 3 _ rfl;have b4:=hB.at_ 4 _ rfl;have b5:=hB.at_ 5 _ rfl;have b6:=hB.at_ 6 _ rfl;have b7:=hB.at_ 7 _ rfl;have zb:=hB.lt;clear hB
 clear hl hb hT hnn
 go_enter Tryz.func9,Tryz.ntmps9
 go_upto_region 1 with fail
 clear hw2
 go_wp2_with fail
 refine HHV.out.mono ?_
 rintro e w3 ⟨⟨h,rfl⟩,hs⟩
 clear b0 b1 b2 b3 b4 b5 b6 b7 zb
 replace HB:=qh (HB.out.keep hs HB.out.lt)
 replace HA:=qh (HA.out.trans (hs.mono HA.out.size))
 clear hs HHV
 have hB:=HB.out;have b0:=hB.at_ 0 _ rfl;have b1:=hB.at_ 1 _ rfl;have b2:=hB.at_ 2 _ rfl;have b3:=hB.at_ 3 _ rfl;have b4:=hB.at_ 4 _ rfl;have b5:=hB.at_ 5 _ rfl;have b6:=hB.at_ 6 _ rfl;have b7:=hB.at_ 7 _ rfl;have zb:=hB.lt;clear hB
 cases h with
 |true=>go_wp2_with fail;(refine (HKN.out _ HA.out).mono ?_;rintro e wk ⟨rfl,hbk⟩;have HAk:=qh (HA.out.trans (hbk.mono HA.out.size));clear hbk;go_wp2_with fail;go_returns;exact ⟨rfl,HAk.out⟩)
 |false=>
 by_cases h1:30<bb.pl
 .go_wp2_with fail;(refine (HKN.out _ HA.out).mono ?_;rintro e wk ⟨rfl,hbk⟩;have HAk:=qh (HA.out.trans (hbk.mono HA.out.size));clear hbk;go_wp2_with fail;go_returns;exact ⟨rfl,HAk.out⟩)
 have hbd:bb.key.size<=140737488355328/\bb.s.size<=140737488355328:=by
  cases HBR.out (by omega) with
  |mk _ p v hbd hp hv=>exact ⟨hbd.key1,hbd.s1⟩
 have HX:=qh ((HBR.out (by omega)).keep HA.out)
 clear HBR
 by_cases h2:500<bb.s.size+bb.key.size
 .go_wp2_with fail;(refine (HKN.out _ HA.out).mono ?_;rintro e wk ⟨rfl,hbk⟩;have HAk:=qh (HA.out.trans (hbk.mono HA.out.size));clear hbk;go_wp2_with fail;go_returns;exact ⟨rfl,HAk.out⟩)
 have HSS:Hid (bb.s.size<=500):=qh (by omega)
 by_cases h3:60<bb.vl
 .go_wp2_with fail;(refine (HKN.out _ HA.out).mono ?_;rintro e wk ⟨rfl,hbk⟩;have HAk:=qh (HA.out.trans (hbk.mono HA.out.size));clear hbk;go_wp2_with fail;go_returns;exact ⟨rfl,HAk.out⟩)
 go_wp2_with fail
 refine (HKN.out _ HA.out).mono ?_
 rintro e w4 ⟨rfl,hs⟩
 have hz0:=HA.out.size
 clear b0 b1 b2 b3 b4 b5 b6 b7 zb
 replace HB:=qh (HB.out.keep hs HB.out.lt)
 replace HA:=qh (HA.out.trans (hs.mono HA.out.size))
 replace HX:=qh (HX.out.keep (hs.mono hz0):IsBare w4 w.heap.size x bb)
 clear hs HKN h1 h2 h3 hbd hz0
 have hB:=HB.out;have b0:=hB.at_ 0 _ rfl;have b1:=hB.at_ 1 _ rfl;have b2:=hB.at_ 2 _ rfl;have b3:=hB.at_ 3 _ rfl;have b4:=hB.at_ 4 _ rfl;have b5:=hB.at_ 5 _ rfl;have b6:=hB.at_ 6 _ rfl;have b7:=hB.at_ 7 _ rfl;have zb:=hB.lt;clear hB
 go_wp2_with fail
 refine (Yf w4 l a n c (HL.out.later_ HA.out)).mono ?_
 rintro e w5 ⟨⟨cv,rfl,hv⟩,hb5⟩
 obtain ⟨V0,hV0⟩:∃V0,(oneP 6 (l.take 60)).1=V0:=⟨_,rfl⟩
 have HLT:Hid (V0.weight<=20000/\V0.sound=true):=qh (by rw [<-hV0];exact ⟨(Y7 l).2.1,(Y7 l).2.2.2.1⟩)
 rw [hV0] at hv
 have hz0:=HA.out.size
 clear b0 b1 b2 b3 b4 b5 b6 b7 zb
 obtain ⟨w6,hw⟩:∃W,w5.alloc (.cells (uV cv) 36)=W:=⟨_,rfl⟩
 have hn:uB w5 w6:=by rw [<-hw];exact Zs w5 _
 have HV:Hid (BC w6 w5.heap.size (vcells cv)):=qh (by rw [<-hw];exact BC.start w5 (uV cv) 36)
 have hs:=hb5.trans (hn.mono hb5.size)
 replace HB:=qh (HB.out.keep hs HB.out.lt)
 replace HA:=qh (HA.out.trans (hs.mono HA.out.size))
 replace HX:=qh (HX.out.keep (hs.mono hz0):IsBare w6 w.heap.size x bb)
 have HWV:Hid (IsVal w6 w6.heap.size V0 cv):=qh ((hv.sub (Zk _ _ _)).later_ hn)
 clear hn hs hb5 hv hV0 HL hz0
 have hB:=HB.out;have b0:=hB.at_ 0 _ rfl;have b1:=hB.at_ 1 _ rfl;have b2:=hB.at_ 2 _ rfl;have b3:=hB.at_ 3 _ rfl;have b4:=hB.at_ 4 _ rfl;have b5:=hB.at_ 5 _ rfl;have b6:=hB.at_ 6 _ rfl;have b7:=hB.at_ 7 _ rfl;have zb:=hB.lt;clear hB
 go_upto_region 4 with fail
 clear hw
 go_wp2_with fail
 refine (zfl w6 w.heap.size HA.out.size bb x HX.out).mono ?_
 rintro e w7 ⟨⟨cc,rfl,hc⟩,hb7⟩
 obtain ⟨hxs,hxw⟩:=zcu HX.out
 have hcs:(compP x).s.size<=1000000000000:=by rw [show (compP x).s=x.s from rfl,hxs];have:=HSS.out;omega
 obtain ⟨cm,hcm⟩:∃cm,compP x=cm:=⟨_,rfl⟩
 rw [hcm] at hc hxw hcs
 clear b0 b1 b2 b3 b4 b5 b6 b7 zb
 obtain ⟨w8,hw⟩:∃W,w7.alloc (.cells (uC cc) 39)=W:=⟨_,rfl⟩
 have hn:uB w7 w8:=by rw [<-hw];exact Zs w7 _
 have HC:Hid (BC w8 w7.heap.size (ccells cc)):=qh (by rw [<-hw];exact BC.start w7 (uC cc) 39)
 have hs:=hb7.trans (hn.mono hb7.size)
 replace HV:=qh (HV.out.keep hs HV.out.lt)
 replace HA:=qh (HA.out.trans (hs.mono HA.out.size))
 replace HWV:=qh (HWV.out.later_ hs)
 have HCM:Hid (IsComp w8 w8.heap.size cm cc):=qh ((IsComp.sub (Zk _ _ _) hc).later_ hn)
 have HCW:=qh hxw;have HCS:=qh hcs
 clear hn hs hb7 hc hcm hxs hxw hcs HB HX HSS
 have hV:=HV.out;obtain ⟨v0,v1,v2,v3,v4⟩:=row5 hV.at_;have zv:=hV.lt;clear hV
 have hC:=HC.out;obtain ⟨c0,c1,c2,c3,c4,c5,c6,c7,c8,c9,c10,c11⟩:=row12 hC.at_;have zc:=hC.lt;clear hC
 go_upto_region 5 with fail
 clear hw
 go_wp2_with fail
 refine (zqo w8 cv V0 HWV.out (by have:=HLT.out.1;omega) cm cc HCM.out HCW.out (HTT.out.below HA.out)).mono ?_
 rintro e w9 ⟨rfl,hs⟩
 obtain ⟨E,hE⟩:∃E,checkP V0 cm=E:=⟨_,rfl⟩
 have hr:=ze7 V0 cm
 rw [hE] at hr
 rw [hE]
 clear v0 v1 v2 v3 v4 zv c0 c1 c2 c3 c4 c5 c6 c7 c8 c9 c10 c11 zc
 replace HV:=qh (HV.out.keep hs HV.out.lt)
 replace HC:=qh (HC.out.keep hs HC.out.lt)
 replace HA:=qh (HA.out.trans (hs.mono HA.out.size))
 replace HWV:=qh (HWV.out.later_ hs)
 replace HCM:=qh (HCM.out.later_ hs)
 have HRE:=qh hr;have HE:=qh hE
 clear hs hr hE
 have hV:=HV.out;obtain ⟨v0,v1,v2,v3,v4⟩:=row5 hV.at_;have zv:=hV.lt;clear hV
 have hC:=HC.out;obtain ⟨c0,c1,c2,c3,c4,c5,c6,c7,c8,c9,c10,c11⟩:=row12 hC.at_;have zc:=hC.lt;clear hC
 go_wp2_with fail
 refine (Ke w9 cv V0 HWV.out (by have:=HLT.out.1;omega) cm cc HCM.out HCW.out HCS.out (HTT.out.below HA.out)).mono ?_
 rintro e w10 ⟨⟨dd,rfl,hd⟩,hb⟩
 obtain ⟨T,hT⟩:∃T,turnedP V0 cm=T:=⟨_,rfl⟩
 obtain ⟨Q,hQ⟩:∃Q,allP V0 [cm] =Q:=⟨_,rfl⟩
 have hTQ:E≠0->T=(Cm.none,E)/\Q=([],E):=fun h0=>by
  have h1:turnedP V0 cm=(Cm.none,E):=by unfold turnedP;rw [HE.out,if_neg h0]
  refine ⟨by rw [<-hT,h1], ?_⟩
  rw [<-hQ,allP,turnsP,h1,if_neg h0];rfl
 rw [hT] at hd
 rw [hT]
 have HTQ:=qh hTQ
 clear v0 v1 v2 v3 v4 zv c0 c1 c2 c3 c4 c5 c6 c7 c8 c9 c10 c11 zc
 obtain ⟨w11,hw⟩:∃W,w10.alloc (.cells (uC dd) 39)=W:=⟨_,rfl⟩
 have hn:uB w10 w11:=by rw [<-hw];exact Zs w10 _
 have HD:Hid (BC w11 w10.heap.size (ccells dd)):=qh (by rw [<-hw];exact BC.start w10 (uC dd) 39)
 have hs:=hb.trans (hn.mono hb.size)
 replace HV:=qh (HV.out.keep hs HV.out.lt)
 replace HC:=qh (HC.out.keep hs HC.out.lt)
 replace HA:=qh (HA.out.trans (hs.mono HA.out.size))
 replace HWV:=qh (HWV.out.later_ hs)
 replace HCM:=qh (HCM.out.later_ hs)
 have HID:Hid (IsComp w11 w11.heap.size T.1 dd):=qh ((hd.sub (Zk _ _ _)).later_ hn)
 have hok:OpOk V0 [cm] :=⟨by have:=HLT.out.1;omega,HLT.out.2,HCW.out,HCS.out,fun _=>trivial⟩
 have HAL:=qh (Ky (w11.alloc (.cells (uC cc) 39)) cv V0 (HWV.out.later_ (Zs w11 _)) [cm] _ 1 1 (zo1 HCM.out) (fun _=>hok) (HTT.out.below (HA.out.trans ((Zs w11 _).mono HA.out.size))))
 rw [hQ] at HAL
 clear hn hs hb hd hok hT hQ hTQ HE HCS
 have hV:=HV.out;obtain ⟨v0,v1,v2,v3,v4⟩:=row5 hV.at_;have zv:=hV.lt;clear hV
 have hC:=HC.out;obtain ⟨c0,c1,c2,c3,c4,c5,c6,c7,c8,c9,c10,c11⟩:=row12 hC.at_;have zc:=hC.lt;clear hC
 go_upto_region 7 with fail
 clear hw
 go_wp2_with fail
 refine HAL.out.mono ?_
 rintro e w13 ⟨⟨ya,yn,yc,rfl,hy⟩,hb13⟩
 have HYN:=qh hy.len
 have hs:=(Zs w11 (.cells (uC cc) 39)).trans (hb13.mono (by simp))
 clear v0 v1 v2 v3 v4 zv c0 c1 c2 c3 c4 c5 c6 c7 c8 c9 c10 c11 zc
 replace HV:=qh (HV.out.keep hs HV.out.lt)
 replace HC:=qh (HC.out.keep hs HC.out.lt)
 replace HD:=qh (HD.out.keep hs HD.out.lt)
 replace HA:=qh (HA.out.trans (hs.mono HA.out.size))
 replace HWV:=qh (HWV.out.later_ hs)
 replace HCM:=qh (HCM.out.later_ hs)
 replace HID:=qh (HID.out.later_ hs)
 clear hs hb13 hy HAL
 obtain ⟨T1,te⟩:=T
 obtain ⟨Q1,qe⟩:=Q
 dsimp only at HID HTQ HYN ⊢
 obtain ⟨R,hR,hR50⟩:∃R:Nat,nn.tmod 50=(R:Int)/\R<50:=⟨(nn.tmod 50).toNat,by have:=HNN.out;rw [Int.toNat_of_nonneg];exact Int.tmod_nonneg _ this.1,by have:=HNN.out;have h5:=Int.tmod_lt_of_pos nn (show (0:Int)<50 by decide);have h6:=Int.tmod_nonneg 50 this.1;omega⟩
 have HML:Hid (LM2 w13 w13 cc 0 none 0):=qh ⟨⟨by simp, .inl ⟨rfl,rfl⟩⟩,Below.refl _ _⟩
 have HR:=qh hR
 clear hR
 have hC:=HC.out;obtain ⟨c0,c1,c2,c3,c4,c5,c6,c7,c8,c9,c10,c11⟩:=row12 hC.at_;have zc:=hC.lt;clear hC
 go_wp2_with fail
 go_loopw [14,15] (fun s i wr=>∃(j:Nat) (a:Option Addr) (cap:Nat),s= .slice a j cap/\i= .int .i64 j/\j<=201+R/\Hid (LM2 w13 wr cc j a cap)) (fun _ i _=>201+R - (intOf i).toNat)
 case atStart=>exact ⟨0,none,0,rfl,rfl,Nat.zero_le _,HML⟩
 case round=>
  obtain ⟨j,a1,cap,rfl,rfl,hj,HM⟩:=hrel
  clear HML
  clear c0 c1 c2 c3 c4 c5 c6 c7 c8 c9 c10 c11 zc
  have hC:=HC.out.keep HM.out.below HC.out.lt
  obtain ⟨c0,c1,c2,c3,c4,c5,c6,c7,c8,c9,c10,c11⟩:=row12 hC.at_;have zc:=hC.lt
  clear hC
  by_cases hlt:j<201+R
  .have hR:=HR.out
   have hown:=HM.out.own
   go_wp2_with (at_builtin;refine wpList_append_lies _ rfl (.tmp 75) (.tmp 77) 53 (by rfl) w13.heap.size 39 i0 _ 12 168 Tryz.underlying53 hi0 hz0 hz1 hz2 rfl (by omega) (.slice a1 j cap) j ((List.replicate j cc).flatMap ccells) (by rfl) (hown.alloc _) ⟨wr.heap.size,0,none⟩ 1 1 (ccells cc) (by rfl) (by rfl) (K4 wr cc _) (by simp [ccells,Value.oneCell']) (by omega) (by unfold maxLen;omega) (by omega) (by have:=HM.out.below.size;simp;omega) (wr.heap.size+1) (by simp) ?_;intro g cap2 w9 hown9 hgrow9 hat9 hlt9;have HO9:=qh hown9;have HG9:=qh hgrow9;clear hown9 hgrow9)
   go_roundw
   case rel=>exact ⟨j+1,some ⟨g,0,none⟩,cap2,rfl,by go_num,by omega,qh ⟨by
    rw [List.replicate_succ',Y4];exact HO9.out,HM.out.below.trans (((Zs wr _).mono HM.out.below.size).trans (Zj HG9.out (fun k hk=>(hown.lt k hk).1) (by have:=HM.out.below.size;rw [World.size_alloc];omega)))⟩⟩
   case measure=>simp [intOf];omega
  .obtain rfl:j=201+R:=by omega
   have hs:=HM.out.below
   have hR:=HR.out
   replace HV:=qh (HV.out.keep hs HV.out.lt)
   replace HD:=qh (HD.out.keep hs HD.out.lt)
   replace HA:=qh (HA.out.trans (hs.mono HA.out.size))
   replace HWV:=qh (HWV.out.later_ hs)
   replace HCM:=qh (HCM.out.later_ hs)
   replace HID:=qh (HID.out.later_ hs)
   have hmany:=zpu HCM.out HM.out.own (by omega)
   have hal:=Ky wr cv V0 HWV.out (List.replicate (201+R) cm) a1 (201+R) cap hmany (fun h=>by omega) (HTT.out.below HA.out)
   rw [show allP V0 (List.replicate (201+R) cm)=([],3) by unfold allP;rw [if_pos (by rw [List.length_replicate];omega)]] at hal
   have HAL:=qh hal
   clear hs hmany hal HM HC HCM c0 c1 c2 c3 c4 c5 c6 c7 c8 c9 c10 c11 zc
   have hV:=HV.out;obtain ⟨v0,v1,v2,v3,v4⟩:=row5 hV.at_;have zv:=hV.lt;clear hV
   go_wp2_with fail
   refine HAL.out.mono ?_
   rintro e w15 ⟨⟨za,zn,zc,rfl,hz⟩,hs⟩
   obtain rfl:zn=0:=hz.len
   clear v0 v1 v2 v3 v4 zv
   replace HD:=qh (HD.out.keep hs HD.out.lt)
   replace HA:=qh (HA.out.trans (hs.mono HA.out.size))
   replace HID:=qh (HID.out.later_ hs)
   clear hs hz HAL
   by_cases h0:E=0
   .subst h0
    go_wp2_with fail
    go_returns
    exact ⟨rfl,HA.out⟩
   .obtain ⟨h1,h2⟩:=HTQ.out h0
    injection h1 with h3 h4
    injection h2 with h5 h6
    subst h3 h4 h5 h6
    obtain rfl:yn=0:=HYN.out
    have hm:=zaf Cm.none Cm.none w15 dd czero HID.out (Q3 _ _)
    rw [Ys rfl] at hm
    have HM:=qh hm
    have hw1:wrap64 qe=qe:=Xv (by have:=HRE.out;omega)
    have hE0:(qe==0)=false:=by simpa using h0
    clear hm HTQ HYN
    have hD:=HD.out;obtain ⟨d0,d1,d2,d3,d4,d5,d6,d7,d8,d9,d10,d11⟩:=row12 hD.at_;have zd:=hD.lt;clear hD
    go_wp2_with fail
    refine HM.out.mono ?_
    rintro e w16 ⟨rfl,hs⟩
    have HA16:=qh (HA.out.trans (hs.mono HA.out.size))
    clear hs
    go_wp2_with fail
    go_returns
    exact ⟨rfl,HA16.out⟩
end Go.Proofs.YtnjgbiachcfigaaGreatDoor
