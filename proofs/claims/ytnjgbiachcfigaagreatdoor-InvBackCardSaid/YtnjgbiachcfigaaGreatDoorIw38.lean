/-
  Contracts of the functions that the law reaches: InvBack, of any pieces and acts.
-/
import Derived.Test.YtnjgbiachcfigaaGreatDoorIw37
namespace Go.Proofs.YtnjgbiachcfigaaGreatDoor
open Go.RowKit
set_option maxHeartbeats 16000000
set_option maxRecDepth 100000 in
theorem zkf (w:World) (hT:Tabs w) (l:List Tk) (a:Option Addr) (n c:Nat) (hl:IsToks w w.heap.size l a n c) (ax:List Ac) (b:Option Addr) (m k:Nat) (ha:IsActs w w.heap.size ax b m k):
 uP 7 #[.slice a n c, .slice b m k] w fun e w'=>e= .returned (.bool true)/\uB w w':=by
 delta uB uP
 have HL:=qh hl
 have HAC:=qh ha
 have HTT:=qh hT
 have HKN:Hid (∀W,uB w W->uP 21 #[] W fun e w'=>e= .returned (.bool true)/\uB W w'):=qh fun W hW=>Kf W (hT.below hW)
 have HHV:=qh (Kr w l a n c hl ax b m k ha)
 clear hl ha hT
 go_enter Tryz.func7,Tryz.ntmps7
 go_wp2_with fail
 refine HHV.out.mono ?_
 rintro e w1 ⟨⟨h,rfl⟩,hb1⟩
 have HA1:=qh hb1
 clear hb1 HHV
 cases h with
 | true=>
   go_wp2_with fail
   refine (HKN.out _ HA1.out).mono ?_
   rintro e wk ⟨rfl,hbk⟩
   have HAk:=qh (HA1.out.trans (hbk.mono HA1.out.size))
   clear hbk
   go_wp2_with fail
   go_returns
   exact ⟨rfl,HAk.out⟩
 |false=>
 go_wp2_with fail
 refine (HKN.out _ HA1.out).mono ?_
 rintro e w3 ⟨rfl,hb3⟩
 have HA3:=qh (HA1.out.trans (hb3.mono HA1.out.size))
 clear hb3 HKN HA1
 go_wp2_with fail
 refine (Yf w3 l a n c (HL.out.later_ HA3.out)).mono ?_
 rintro e w4 ⟨⟨cv,rfl,hv4⟩,hb4⟩
 obtain ⟨V0,hV0⟩:∃V0,(oneP 6 (l.take 60)).1=V0:=⟨_,rfl⟩
 have HLT:Hid (V0.weight<=20000/\V0.sound=true):=qh (by rw [<-hV0];exact ⟨(Y7 l).2.1,(Y7 l).2.2.2.1⟩)
 rw [hV0] at hv4
 obtain ⟨w5,hw5⟩:∃W,w4.alloc (.cells (uV cv) 36)=W:=⟨_,rfl⟩
 have hb5:uB w4 w5:=by rw [<-hw5];exact zaj w4 _
 have hx5:BC w5 w4.heap.size (vcells cv):=by rw [<-hw5];exact BC.start w4 (uV cv) 36
 have hA5:=HA3.out.trans ((hb4.trans (hb5.mono hb4.size)).mono HA3.out.size)
 have HV5:Hid (IsVal w5 w5.heap.size V0 cv):=qh ((hv4.sub (Zk _ _ _)).later_ hb5)
 have HAM:=qh (znr w5 cv.k cv.n cv.s cv.la cv.ll cv.lc cv.oa cv.ol cv.oc V0 HV5.out HLT.out.1 ax b m k (HAC.out.later_ hA5) (HTT.out.below hA5))
 obtain ⟨v0,v1,v2,v3,v4⟩:=row5 hx5.at_
 have zv:=hx5.lt
 have HA5:=qh hA5;have HX5:=qh hx5
 clear hb4 hb5 hv4 hV0 HL hA5 hx5 HA3 HAC
 go_upto_region 4 with fail
 clear hw5
 go_wp2_with fail
 refine HAM.out.mono ?_
 rintro e w6 ⟨⟨xa,xn,xc,rfl,hx⟩,hb6⟩
 have hX6:IsComps w6 w6.heap.size (aimP V0 (ax.take 20)) xa xn xc:=hx.sub (Zk _ _ _)
 have hl20:(aimP V0 (ax.take 20)).length<=20:=Nat.le_trans (zom _ _) (by rw [List.length_take];omega)
 obtain ⟨o1,o2⟩:=zmn (ax.take 20) V0 HLT.out.2 (by have:=HLT.out.1;have:(ax.take 20).length<=20:=(by rw [List.length_take];omega);omega)
 have hd:=zna (ax.take 20) V0
 have hvn:V0.Nums:=V.Num.nums HV5.out.num
 have hback:=zmj HLT.out.2 hvn (zn1 hX6) (by omega) hd o1 o2
 obtain ⟨X,hX⟩:∃X,aimP V0 (ax.take 20)=X:=⟨_,rfl⟩
 rw [hX] at hX6 hl20 o1 hd hback
 have hxn:=hX6.len
 obtain ⟨Y,hY⟩:∃Y,doAllP V0 X=Y:=⟨_,rfl⟩
 rw [hY] at hd hback
 have HV6:=qh (HV5.out.later_ hb6)
 have HA6:=qh (HA5.out.trans (hb6.mono HA5.out.size))
 obtain ⟨Q,hQ⟩:∃Q,allP V0 X=Q:=⟨_,rfl⟩
 have HAL:Hid (uP 23 #[.agg (uV cv), .slice xa xn xc] w6 (AllPost .u16 w6 Q)):=qh (by
  rw [<-hQ];exact Ky w6 cv V0 HV6.out X xa xn xc hX6 (fun _=>o1) (HTT.out.below HA6.out))
 have HD1:Hid (∀W,uB w6 W->uP 24 #[.agg (uV cv), .slice xa xn xc] W (DoPost W (Y.1,0))):=qh fun W hW=>
  zfm W cv V0 Y.1 (HV6.out.later_ hW) X xa xn xc (hX6.later_ hW) (by omega) o1 (hY.trans (Prod.ext rfl hd)) (HTT.out.below (HA6.out.trans (hW.mono HA6.out.size)))
 rw [hQ] at hback
 have hx6:=HX5.out.keep hb6 HX5.out.lt
 clear v0 v1 v2 v3 v4 zv
 obtain ⟨v0,v1,v2,v3,v4⟩:=row5 hx6.at_
 have zv:=hx6.lt
 have HX6:=qh hx6;have HBK:=qh hback;have HXN:=qh hxn;have HL20:=qh hl20
 clear hx hX6 hl20 o1 o2 hd hvn hback hX hxn hY hQ hb6 hx6 HAM HX5 HV5 HA5
 go_wp2_with fail
 refine HAL.out.mono ?_
 rintro e w7 ⟨⟨ya,yn,yc,rfl,hy⟩,hb7⟩
 have hx7:=HX6.out.keep hb7 HX6.out.lt
 have hyn:=hy.len
 have HY7:Hid (IsComps w7 w7.heap.size Q.1 ya yn yc):=qh (hy.sub (Zk _ _ _))
 have HA7:=qh (HA6.out.trans (hb7.mono HA6.out.size))
 have HB7:=qh hb7
 clear v0 v1 v2 v3 v4 zv
 obtain ⟨v0,v1,v2,v3,v4⟩:=row5 hx7.at_
 have zv:=hx7.lt
 have HX7:=qh hx7
 clear hy hb7 hx7 HX6 HAL
 rcases HBK.out with ⟨L,rfl,h1,h2,h3⟩|rfl
 .dsimp only at hyn HY7 ⊢
  obtain rfl:yn=xn:=by have:=HXN.out;omega
  have H1:=qh h1;have H3:=qh h3
  clear h1 h2 h3 HBK hyn
  go_wp2_with fail
  refine (HD1.out _ HB7.out).mono ?_
  rintro e w8 ⟨⟨g,rfl,hg⟩,hb8⟩
  obtain ⟨w9,hw9⟩:∃W,w8.alloc (.cells (uV g) 36)=W:=⟨_,rfl⟩
  have hb9:uB w8 w9:=by rw [<-hw9];exact zaj w8 _
  have hx9:BC w9 w8.heap.size (vcells g):=by rw [<-hw9];exact BC.start w8 (uV g) 36
  have hb79:uB w7 w9:=hb8.trans (hb9.mono hb8.size)
  have hv9:=HX7.out.keep hb79 HX7.out.lt
  have HA9:=qh (HA7.out.trans (hb79.mono HA7.out.size))
  have HD2:Hid (uP 24 #[.agg (uV g), .slice ya yn yc] w9 (DoPost w9 (V0,0))):=qh
   (zfm w9 g Y.1 V0 ((hg.sub (Zk _ _ _)).later_ hb9) L ya yn yc (HY7.out.later_ hb79) (by have:=HL20.out;have:=HXN.out;omega) H3.out H1.out (HTT.out.below HA9.out))
  have HV9:=qh ((HV6.out.later_ HB7.out).later_ hb79)
  clear v0 v1 v2 v3 v4 zv
  obtain ⟨v0,v1,v2,v3,v4⟩:=row5 hv9.at_
  obtain ⟨x0,x1,x2,x3,x4⟩:=row5 hx9.at_
  have zv:=hv9.lt;have zx:=hx9.lt
  have HX9:=qh hv9
  clear hb8 hg hb9 hb79 hv9 hx9 HX7 HY7 H1 H3 HD1 HB7 HA7
  go_upto_region 9 with fail
  clear hw9
  go_wp2_with fail
  refine HD2.out.mono ?_
  rintro e w10 ⟨⟨q,rfl,hq⟩,hb10⟩
  obtain ⟨w11,hw11⟩:∃W,w10.alloc (.cells (uV q) 36)=W:=⟨_,rfl⟩
  have hb11:uB w10 w11:=by rw [<-hw11];exact zaj w10 _
  have hx11:BC w11 w10.heap.size (vcells q):=by rw [<-hw11];exact BC.start w10 (uV q) 36
  have hb911:uB w9 w11:=hb10.trans (hb11.mono hb10.size)
  have hv11:=HX9.out.keep hb911 HX9.out.lt
  have HSM:Hid (uP 17 #[.agg (uV q), .agg (uV cv)] w11 fun e w'=>e= .returned (.bool true)/\uB w11 w'):=qh (by
   have:=J3 V0 V0 w11 q cv ((hq.sub (Zk _ _ _)).later_ hb11) (HV9.out.later_ hb911)
   rw [Jj rfl] at this;exact this)
  have HA11:=qh (HA9.out.trans (hb911.mono HA9.out.size))
  clear v0 v1 v2 v3 v4 x0 x1 x2 x3 x4 zv zx
  obtain ⟨v0,v1,v2,v3,v4⟩:=row5 hv11.at_
  obtain ⟨q0,q1,q2,q3,q4⟩:=row5 hx11.at_
  have zv:=hv11.lt;have zq:=hx11.lt
  clear hb10 hq hb11 hb911 hv11 hx11 HX9 HV9 HD2
  go_upto_region 10 with fail
  clear hw11
  go_wp2_with fail
  refine HSM.out.mono ?_
  rintro e w14 ⟨rfl,hb14⟩
  have HA14:=qh (HA11.out.trans (hb14.mono HA11.out.size))
  clear hb14
  go_wp2_with fail
  go_returns
  exact ⟨rfl,HA14.out⟩
 .obtain rfl:yn=0:=hyn
  clear HBK
  go_wp2_with fail
  go_returns
  exact ⟨rfl,HA7.out⟩
end Go.Proofs.YtnjgbiachcfigaaGreatDoor
