/-
  Contracts of the functions that the law reaches: CompDoes, of any pieces and any.
-/
import Derived.Test.YtfoahkbnheijcaaDoorCq45
import Derived.Test.YtfoahkbnheijcaaDoorRows
import Derived.Test.YtfoahkbnheijcaaDoorCards
import Derived.Test.YtfoahkbnheijcaaDoorTie
import Derived.PinnedBridge
import Derived.Lib.LaidIn
import Derived.Lib.LaidU8T
import Derived.Deep.DeepHandedRow
import Derived.Deep.DeepWitnessRowRef
import Derived.SevenTiedAt
namespace Go.Proofs.YtfoahkbnheijcaaDoor
open Go.RowKit
set_option maxHeartbeats 16000000
theorem zgp (s:ByteArray) (k i n:Int):0<=tCheck s k i n/\tCheck s k i n<=60:=by unfold tCheck;repeat' split;all_goals omega
theorem zea (m:Nat) (k i j:Int):0<=lCheck m k i j/\lCheck m k i j<=60:=by unfold lCheck;repeat' split;all_goals omega
theorem zgs (v:V) (c:Cm):0<=checkP v c/\checkP v c<=60:=by
 unfold checkP
 split
 .omega
 .cases getP v c.path with
  |none=>dsimp only;omega
  | some x=>
    dsimp only
    unfold kindsP
    have h1:=zgp x.str c.k c.i c.n
    have h2:=zea x.ls.length c.k c.i c.j
    repeat' split
    all_goals omega
set_option maxRecDepth 100000 in
theorem zfp (w:World) (hT:Tabs w) (l:List Tk) (a:Option Addr) (n c:Nat) (hl:IsToks w w.heap.size l a n c) (b:BA) (x:Ba) (hbv:IsToks w w.heap.size x.v b.va b.vl b.vc) (hb:b.pl<=40->IsBare w w.heap.size x b) (hs:b.s.size<=140737488351232):
 Calls Tryd.prog 7 #[.slice a n c, .agg #[.int .u8 b.k, .slice b.pa b.pl b.pc, .string b.key, .int .i64 b.i, .int .i64 b.j, .int .i64 b.n, .string b.s, .slice b.va b.vl b.vc]] w fun e w'=>e= .returned (.bool true)/\Below w.heap.size w w':=by
 have hbd:=hl
 have HL:=qh hl
 have HBR:=qh hb
 have HTT:=qh hT
 have HSZ:=qh hs
 have HKN:Hid (∀W,Below w.heap.size w W->Calls Tryd.prog 9 #[] W fun e w'=>e= .returned (.bool true)/\Below W.heap.size W w'):=qh fun W hW=>Jq W (hT.below hW)
 have HB0:=qh (BC.start w #[.int .u8 b.k, .slice b.pa b.pl b.pc, .string b.key, .int .i64 b.i, .int .i64 b.j, .int .i64 b.n, .string b.s, .slice b.va b.vl b.vc] 25)
 have HA0:=qh (Zi w (.cells #[.int .u8 b.k, .slice b.pa b.pl b.pc, .string b.key, .int .i64 b.i, .int .i64 b.j, .int .i64 b.n, .string b.s, .slice b.va b.vl b.vc] 25))
 have HHV:Hid (Calls Tryd.prog 8 #[.slice a n c, .agg #[.int .u8 b.k, .slice b.pa b.pl b.pc, .string b.key, .int .i64 b.i, .int .i64 b.j, .int .i64 b.n, .string b.s, .slice b.va b.vl b.vc]] (w.alloc (.cells #[.int .u8 b.k, .slice b.pa b.pl b.pc, .string b.key, .int .i64 b.i, .int .i64 b.j, .int .i64 b.n, .string b.s, .slice b.va b.vl b.vc] 25)) (SomeB (w.alloc (.cells #[.int .u8 b.k, .slice b.pa b.pl b.pc, .string b.key, .int .i64 b.i, .int .i64 b.j, .int .i64 b.n, .string b.s, .slice b.va b.vl b.vc] 25)) b.pl)):=qh (Kr _ l a n c (hl.later_ HA0.out) b x.v (hbv.later_ HA0.out))
 clear hl hb hT hs hbv hbd
 go_enter Tryd.func7,Tryd.ntmps7
 go_wp2_with fail
 refine HHV.out.mono ?_
 rintro e w1 ⟨⟨h,rfl,hh⟩,hb1⟩
 have hB1:=HB0.out.keep hb1 (by simp)
 have hA1:=HA0.out.trans (hb1.mono HA0.out.size)
 have b0:=hB1.at_ 0 _ rfl;have b1:=hB1.at_ 1 _ rfl;have b2:=hB1.at_ 2 _ rfl;have b3:=hB1.at_ 3 _ rfl;have b4:=hB1.at_ 4 _ rfl;have b5:=hB1.at_ 5 _ rfl;have b6:=hB1.at_ 6 _ rfl;have b7:=hB1.at_ 7 _ rfl;have zb:=hB1.lt
 have HB1:=qh hB1;have HA1:=qh hA1;have HH:=qh hh
 clear hB1 hA1 hb1 hh HHV HB0 HA0
 cases h with
 | true=>
   go_wp2_with fail
   refine (HKN.out _ HA1.out).mono ?_
   rintro e w2 ⟨rfl,hb2⟩
   have HA2:=qh (HA1.out.trans (hb2.mono HA1.out.size))
   clear hb2
   go_wp2_with fail
   go_returns
   exact ⟨rfl,HA2.out⟩
 |false=>
 have hpl:=HH.out rfl
 have HX:=qh (HBR.out hpl)
 clear hpl HH HBR
 go_wp2_with fail
 refine (HKN.out _ HA1.out).mono ?_
 rintro e w2 ⟨rfl,hb2⟩
 have hB2:=HB1.out.keep hb2 HB1.out.lt
 have HA2:=qh (HA1.out.trans (hb2.mono HA1.out.size))
 clear b0 b1 b2 b3 b4 b5 b6 b7 zb
 have b0:=hB2.at_ 0 _ rfl;have b1:=hB2.at_ 1 _ rfl;have b2:=hB2.at_ 2 _ rfl;have b3:=hB2.at_ 3 _ rfl;have b4:=hB2.at_ 4 _ rfl;have b5:=hB2.at_ 5 _ rfl;have b6:=hB2.at_ 6 _ rfl;have b7:=hB2.at_ 7 _ rfl;have zb:=hB2.lt
 have HB2:=qh hB2
 clear hb2 hB2 HB1
 go_wp2_with fail
 refine (Yf w2 l a n c (HL.out.later_ HA2.out)).mono ?_
 rintro e w3 ⟨⟨cv,rfl,hv3⟩,hb3⟩
 obtain ⟨V0,hV0⟩:∃V0,(oneP 6 (l.take 60)).1=V0:=⟨_,rfl⟩
 have HLT:Hid (V0.weight<=20000/\V0.sound=true):=qh (by rw [<-hV0];exact ⟨(Xg l).2.1,(Xg l).2.2.2.1⟩)
 have HLW:Hid (V.Low V0):=qh (by rw [<-hV0];exact J9 6 _)
 rw [hV0] at hv3
 have hB3:=HB2.out.keep hb3 HB2.out.lt
 have HA3:=qh (HA2.out.trans (hb3.mono HA2.out.size))
 have HV3:Hid (IsVal w3 w3.heap.size V0 cv):=qh (hv3.sub (Zn _ _ _))
 clear b0 b1 b2 b3 b4 b5 b6 b7 zb
 have b0:=hB3.at_ 0 _ rfl;have b1:=hB3.at_ 1 _ rfl;have b2:=hB3.at_ 2 _ rfl;have b3:=hB3.at_ 3 _ rfl;have b4:=hB3.at_ 4 _ rfl;have b5:=hB3.at_ 5 _ rfl;have b6:=hB3.at_ 6 _ rfl;have b7:=hB3.at_ 7 _ rfl;have zb:=hB3.lt
 have HB3:=qh hB3
 clear hb3 hB3 HB2 hv3 hV0 HL
 go_wp2_with fail
 refine (Yr V0 _ cv (HV3.out.later_ (Zi w3 _))).mono ?_
 rintro e w4 ⟨⟨wv,rfl,hwv⟩,hb4⟩
 have hb34:Below w3.heap.size w3 w4:=(Zi w3 _).trans (hb4.mono (by simp))
 have hB4:=HB3.out.keep hb34 HB3.out.lt
 have hbv4:BC w4 w3.heap.size (vcells cv):=(BC.start w3 #[.int .u8 cv.k, .int .i64 cv.n, .string cv.s, .slice cv.la cv.ll cv.lc, .slice cv.oa cv.ol cv.oc] 31).keep hb4 (by simp)
 have HA4:=qh (HA3.out.trans (hb34.mono HA3.out.size))
 have HV4:=qh (HV3.out.later_ hb34)
 have HW4:Hid (IsVal w4 w4.heap.size V0 wv):=qh (hwv.sub (Zn _ _ _))
 have HBV4:=qh hbv4
 clear b0 b1 b2 b3 b4 b5 b6 b7 zb
 have b0:=hB4.at_ 0 _ rfl;have b1:=hB4.at_ 1 _ rfl;have b2:=hB4.at_ 2 _ rfl;have b3:=hB4.at_ 3 _ rfl;have b4:=hB4.at_ 4 _ rfl;have b5:=hB4.at_ 5 _ rfl;have b6:=hB4.at_ 6 _ rfl;have b7:=hB4.at_ 7 _ rfl;have zb:=hB4.lt
 have HB4:=qh hB4
 clear hb34 hb4 hB4 hbv4 hwv HB3 HV3
 go_wp2_with fail
 refine (zcq _ w.heap.size (Nat.le_trans HA4.out.size (Zi w4 _).size) b x (HX.out.keep (HA4.out.trans ((Zi w4 _).mono HA4.out.size)))).mono ?_
 rintro e w5 ⟨⟨cc,rfl,hc⟩,hb5⟩
 obtain ⟨hxs,hxw⟩:=za1 HX.out
 have hcs:(compP x).s.size<=140737488351232:=by rw [show (compP x).s=x.s from rfl,hxs];exact HSZ.out
 obtain ⟨cm,hcm⟩:∃cm,compP x=cm:=⟨_,rfl⟩
 rw [hcm] at hc hxw hcs
 have hc5:IsComp w5 w5.heap.size cm cc:=IsComp.sub (Zn _ _ _) hc
 have hb45:Below w4.heap.size w4 w5:=(Zi w4 _).trans (hb5.mono (by simp))
 have hbw5:BC w5 w4.heap.size (vcells wv):=(BC.start w4 #[.int .u8 wv.k, .int .i64 wv.n, .string wv.s, .slice wv.la wv.ll wv.lc, .slice wv.oa wv.ol wv.oc] 31).keep hb5 (by simp)
 have hbv5:=HBV4.out.keep hb45 HBV4.out.lt
 have HA5:=qh (HA4.out.trans (hb45.mono HA4.out.size))
 have hv5:=HV4.out.later_ hb45
 have hw5:=HW4.out.later_ hb45
 have HCM:=qh hc5
 cases hc5 with
 |mk cc p xv hcb hp hxv=>
 dsimp only at hxw hcs
 obtain ⟨R,hR⟩:∃R,doP V0 ⟨cc.k,p,cc.key,cc.i,cc.j,cc.n,xv,cc.s⟩=R:=⟨_,rfl⟩
 obtain ⟨E,hE⟩:∃E,checkP V0 ⟨cc.k,p,cc.key,cc.i,cc.j,cc.n,xv,cc.s⟩=E:=⟨_,rfl⟩
 have hRE:R.2=E:=by rw [<-hR, <-hE];exact Ky _ _
 have HDO:Hid (∀W,Below w5.heap.size w5 W->Calls Tryd.prog 12 #[.agg #[.int .u8 cv.k, .int .i64 cv.n, .string cv.s, .slice cv.la cv.ll cv.lc, .slice cv.oa cv.ol cv.oc], .agg #[.int .u8 cc.k, .slice cc.pa cc.pl cc.pc, .string cc.key, .int .i64 cc.i, .int .i64 cc.j, .int .i64 cc.n, .int .u8 cc.v.k, .int .i64 cc.v.n, .string cc.v.s, .slice cc.v.la cc.v.ll cc.v.lc, .slice cc.v.oa cc.v.ol cc.v.oc, .string cc.s]] W fun e w'=>(∃d:VC,e= .returned (.tuple #[.agg #[.int .u8 d.k, .int .i64 d.n, .string d.s, .slice d.la d.ll d.lc, .slice d.oa d.ol d.oc], .int .u16 E])/\IsVal (only (fun k=>W.heap.size<=k) w') w'.heap.size R.1 d)/\Below W.heap.size W w'):=qh fun W hW=>by
  have:=X2 W cv.k cv.n cv.s cv.la cv.ll cv.lc cv.oa cv.ol cv.oc V0 (hv5.later_ hW) (by have:=HLT.out.1;omega) p xv cc hcb (hp.later_ hW) (hxv.later_ hW) hxw (fun y hy=>by have:=(Qr p HLW.out hy).few;omega) HLT.out.2 (HTT.out.below (HA5.out.trans (hW.mono HA5.out.size)))
  rw [hR] at this
  unfold CDoPost at this
  rw [hRE] at this;exact this
 have HCK:Hid (∀W,Below w5.heap.size w5 W->Calls Tryd.prog 13 #[.agg #[.int .u8 cv.k, .int .i64 cv.n, .string cv.s, .slice cv.la cv.ll cv.lc, .slice cv.oa cv.ol cv.oc], .agg #[.int .u8 cc.k, .slice cc.pa cc.pl cc.pc, .string cc.key, .int .i64 cc.i, .int .i64 cc.j, .int .i64 cc.n, .int .u8 cc.v.k, .int .i64 cc.v.n, .string cc.v.s, .slice cc.v.la cc.v.ll cc.v.lc, .slice cc.v.oa cc.v.ol cc.v.oc, .string cc.s]] W fun e w'=>e= .returned (.int .u16 E)/\Below W.heap.size W w'):=qh fun W hW=>by
  have:=Xc W cv.k cv.n cv.s cv.la cv.ll cv.lc cv.oa cv.ol cv.oc V0 (hv5.later_ hW) (by have:=HLT.out.1;omega) p xv cc hcb (hp.later_ hW) (hxv.later_ hW) hxw (HTT.out.below (HA5.out.trans (hW.mono HA5.out.size)))
  rw [hE] at this;exact this
 have HRG:Hid (0<=E/\E<=60):=qh (by rw [<-hE];exact zgs _ _)
 have HDR:Hid (∀W,Below w5.heap.size w5 W->Calls Tryd.prog 27 #[.agg #[.int .u8 wv.k, .int .i64 wv.n, .string wv.s, .slice wv.la wv.ll wv.lc, .slice wv.oa wv.ol wv.oc], .agg #[.int .u8 cc.k, .slice cc.pa cc.pl cc.pc, .string cc.key, .int .i64 cc.i, .int .i64 cc.j, .int .i64 cc.n, .int .u8 cc.v.k, .int .i64 cc.v.n, .string cc.v.s, .slice cc.v.la cc.v.ll cc.v.lc, .slice cc.v.oa cc.v.ol cc.v.oc, .string cc.s]] W fun e w'=>(∃g:VC,e= .returned (.tuple #[.agg #[.int .u8 g.k, .int .i64 g.n, .string g.s, .slice g.la g.ll g.lc, .slice g.oa g.ol g.oc], .int .i64 E])/\IsVal (only (fun k=>W.heap.size<=k) w') w'.heap.size R.1 g)/\Below W.heap.size W w'):=qh fun W hW=>by
  have:=zh2 W wv.k wv.n wv.s wv.la wv.ll wv.lc wv.oa wv.ol wv.oc V0 (hw5.later_ hW) (by have:=HLT.out.1;omega) p xv cc hcb (hp.later_ hW) (hxv.later_ hW) hxw (fun y hy=>by have:=(Qr p HLW.out hy).few;omega) (HTT.out.below (HA5.out.trans (hW.mono HA5.out.size)))
  rw [hR] at this
  unfold DoPost at this
  rw [hRE] at this;exact this
 have HCR:Hid (∀W,Below w5.heap.size w5 W->Calls Tryd.prog 28 #[.agg #[.int .u8 wv.k, .int .i64 wv.n, .string wv.s, .slice wv.la wv.ll wv.lc, .slice wv.oa wv.ol wv.oc], .agg #[.int .u8 cc.k, .slice cc.pa cc.pl cc.pc, .string cc.key, .int .i64 cc.i, .int .i64 cc.j, .int .i64 cc.n, .int .u8 cc.v.k, .int .i64 cc.v.n, .string cc.v.s, .slice cc.v.la cc.v.ll cc.v.lc, .slice cc.v.oa cc.v.ol cc.v.oc, .string cc.s]] W fun e w'=>e= .returned (.int .i64 E)/\Below W.heap.size W w'):=qh fun W hW=>by
  have:=Xy W wv.k wv.n wv.s wv.la wv.ll wv.lc wv.oa wv.ol wv.oc V0 (hw5.later_ hW) (by have:=HLT.out.1;omega) p xv cc hcb (hp.later_ hW) (hxv.later_ hW) hxw (HTT.out.below (HA5.out.trans (hW.mono HA5.out.size)))
  rw [hE] at this;exact this
 have HV5:=qh hv5;have HW5:=qh hw5
 have HBV5:=qh hbv5;have HBW5:=qh hbw5
 clear b0 b1 b2 b3 b4 b5 b6 b7 zb
 have v0:=hbv5.at_ 0 _ rfl;have v1:=hbv5.at_ 1 _ rfl;have v2:=hbv5.at_ 2 _ rfl;have v3:=hbv5.at_ 3 _ rfl;have v4:=hbv5.at_ 4 _ rfl;have zv:=hbv5.lt
 clear hb5 hb45 hbv5 hbw5 hv5 hw5 hc hxs hxw hcs hcm hcb hp hxv hR hE hRE HX HSZ HB4 HBV4 HV4 HW4 HCM HKN
 go_wp2_with fail
 refine (HDO.out _ (Zi w5 _)).mono ?_
 rintro e w6 ⟨⟨d,rfl,hd⟩,hb6⟩
 have hb56:Below w5.heap.size w5 w6:=(Zi w5 _).trans (hb6.mono (by simp))
 have hbv6:=HBV5.out.keep hb56 HBV5.out.lt
 have hbw6:=HBW5.out.keep hb56 HBW5.out.lt
 have hbc6:BC w6 w5.heap.size (ccells cc):=(BC.start w5 #[.int .u8 cc.k, .slice cc.pa cc.pl cc.pc, .string cc.key, .int .i64 cc.i, .int .i64 cc.j, .int .i64 cc.n, .int .u8 cc.v.k, .int .i64 cc.v.n, .string cc.v.s, .slice cc.v.la cc.v.ll cc.v.lc, .slice cc.v.oa cc.v.ol cc.v.oc, .string cc.s] 34).keep hb6 (by simp)
 have HA6:=qh (HA5.out.trans (hb56.mono HA5.out.size))
 have HB56:=qh hb56
 have HD6:Hid (IsVal w6 w6.heap.size R.1 d):=qh (hd.sub (Zn _ _ _))
 clear v0 v1 v2 v3 v4 zv
 have u0:=hbw6.at_ 0 _ rfl;have u1:=hbw6.at_ 1 _ rfl;have u2:=hbw6.at_ 2 _ rfl;have u3:=hbw6.at_ 3 _ rfl;have u4:=hbw6.at_ 4 _ rfl;have zu:=hbw6.lt
 have c0:=hbc6.at_ 0 _ rfl;have c1:=hbc6.at_ 1 _ rfl;have c2:=hbc6.at_ 2 _ rfl;have c3:=hbc6.at_ 3 _ rfl;have c4:=hbc6.at_ 4 _ rfl;have c5:=hbc6.at_ 5 _ rfl;have c6:=hbc6.at_ 6 _ rfl;have c7:=hbc6.at_ 7 _ rfl;have c8:=hbc6.at_ 8 _ rfl;have c9:=hbc6.at_ 9 _ rfl;have c10:=hbc6.at_ 10 _ rfl;have c11:=hbc6.at_ 11 _ rfl;have zc:=hbc6.lt
 have HBV6:=qh hbv6;have HBW6:=qh hbw6;have HBC6:=qh hbc6
 clear hb6 hb56 hbv6 hbw6 hbc6 hd HDO
 go_wp2_with fail
 refine (HDR.out _ (HB56.out.trans ((Zi w6 _).mono HB56.out.size))).mono ?_
 rintro e w7 ⟨⟨g,rfl,hg⟩,hb7⟩
 have hb67:Below w6.heap.size w6 w7:=(Zi w6 _).trans (hb7.mono (by simp))
 have HBV7:=qh (HBV6.out.keep hb67 HBV6.out.lt)
 have HBW7:=qh (HBW6.out.keep hb67 HBW6.out.lt)
 have HBC7:=qh (HBC6.out.keep hb67 HBC6.out.lt)
 have HBD7:Hid (BC w7 w6.heap.size (vcells d)):=qh ((BC.start w6 #[.int .u8 d.k, .int .i64 d.n, .string d.s, .slice d.la d.ll d.lc, .slice d.oa d.ol d.oc] 31).keep hb7 (by simp))
 have HA7:=qh (HA6.out.trans (hb67.mono HA6.out.size))
 have HB57:=qh (HB56.out.trans (hb67.mono HB56.out.size))
 have HD7:=qh (HD6.out.later_ hb67)
 have HG7:Hid (IsVal w7 w7.heap.size R.1 g):=qh (hg.sub (Zn _ _ _))
 clear u0 u1 u2 u3 u4 zu c0 c1 c2 c3 c4 c5 c6 c7 c8 c9 c10 c11 zc
 clear hb7 hb67 hg HDR HBV6 HBW6 HBC6 HD6
 go_wp2_with fail
 have hb78:Below w7.heap.size w7 (w7.alloc (.cells #[.int .u8 g.k, .int .i64 g.n, .string g.s, .slice g.la g.ll g.lc, .slice g.oa g.ol g.oc] 31)):=Zi w7 _
 have HBG8:Hid (BC (w7.alloc (.cells #[.int .u8 g.k, .int .i64 g.n, .string g.s, .slice g.la g.ll g.lc, .slice g.oa g.ol g.oc] 31)) w7.heap.size (vcells g)):=qh (BC.start w7 #[.int .u8 g.k, .int .i64 g.n, .string g.s, .slice g.la g.ll g.lc, .slice g.oa g.ol g.oc] 31)
 obtain ⟨w8,hw8⟩:∃w8,w7.alloc (.cells #[.int .u8 g.k, .int .i64 g.n, .string g.s, .slice g.la g.ll g.lc, .slice g.oa g.ol g.oc] 31)=w8:=⟨_,rfl⟩
 rw [hw8] at hb78 HBG8 ⊢
 have HBV8:=qh (HBV7.out.keep hb78 HBV7.out.lt)
 have HBW8:=qh (HBW7.out.keep hb78 HBW7.out.lt)
 have HBC8:=qh (HBC7.out.keep hb78 HBC7.out.lt)
 have HBD8:=qh (HBD7.out.keep hb78 HBD7.out.lt)
 have HA8:=qh (HA7.out.trans (hb78.mono HA7.out.size))
 have HB58:=qh (HB57.out.trans (hb78.mono HB57.out.size))
 have hd8:=HD7.out.later_ hb78
 have hg8:=HG7.out.later_ hb78
 have hv8:=HV5.out.later_ HB58.out
 have hw8v:=HW5.out.later_ HB58.out
 have HSP:Hid (∀W,Below w8.heap.size w8 W->W.cell? ⟨w3.heap.size,0,none⟩=some (.int .u8 cv.k)/\W.cell? ⟨w3.heap.size,1,none⟩=some (.int .i64 cv.n)/\W.cell? ⟨w3.heap.size,2,none⟩=some (.string cv.s)/\W.cell? ⟨w3.heap.size,3,none⟩=some (.slice cv.la cv.ll cv.lc)/\W.cell? ⟨w3.heap.size,4,none⟩=some (.slice cv.oa cv.ol cv.oc)/\W.cell? ⟨w4.heap.size,0,none⟩=some (.int .u8 wv.k)/\W.cell? ⟨w4.heap.size,1,none⟩=some (.int .i64 wv.n)/\W.cell? ⟨w4.heap.size,2,none⟩=some (.string wv.s)/\W.cell? ⟨w4.heap.size,3,none⟩=some (.slice wv.la wv.ll wv.lc)/\W.cell? ⟨w4.heap.size,4,none⟩=some (.slice wv.oa wv.ol wv.oc)/\W.cell? ⟨w5.heap.size,0,none⟩=some (.int .u8 cc.k)/\W.cell? ⟨w5.heap.size,1,none⟩=some (.slice cc.pa cc.pl cc.pc)/\W.cell? ⟨w5.heap.size,2,none⟩=some (.string cc.key)/\W.cell? ⟨w5.heap.size,3,none⟩=some (.int .i64 cc.i)/\W.cell? ⟨w5.heap.size,4,none⟩=some (.int .i64 cc.j)/\W.cell? ⟨w5.heap.size,5,none⟩=some (.int .i64 cc.n)/\W.cell? ⟨w5.heap.size,6,none⟩=some (.int .u8 cc.v.k)/\W.cell? ⟨w5.heap.size,7,none⟩=some (.int .i64 cc.v.n)/\W.cell? ⟨w5.heap.size,8,none⟩=some (.string cc.v.s)/\W.cell? ⟨w5.heap.size,9,none⟩=some (.slice cc.v.la cc.v.ll cc.v.lc)/\W.cell? ⟨w5.heap.size,10,none⟩=some (.slice cc.v.oa cc.v.ol cc.v.oc)/\W.cell? ⟨w5.heap.size,11,none⟩=some (.string cc.s)/\W.cell? ⟨w6.heap.size,0,none⟩=some (.int .u8 d.k)/\W.cell? ⟨w6.heap.size,1,none⟩=some (.int .i64 d.n)/\W.cell? ⟨w6.heap.size,2,none⟩=some (.string d.s)/\W.cell? ⟨w6.heap.size,3,none⟩=some (.slice d.la d.ll d.lc)/\W.cell? ⟨w6.heap.size,4,none⟩=some (.slice d.oa d.ol d.oc)/\W.cell? ⟨w7.heap.size,0,none⟩=some (.int .u8 g.k)/\W.cell? ⟨w7.heap.size,1,none⟩=some (.int .i64 g.n)/\W.cell? ⟨w7.heap.size,2,none⟩=some (.string g.s)/\W.cell? ⟨w7.heap.size,3,none⟩=some (.slice g.la g.ll g.lc)/\W.cell? ⟨w7.heap.size,4,none⟩=some (.slice g.oa g.ol g.oc)):=qh fun W hW=>by
  have V:=HBV8.out.keep hW HBV8.out.lt;have U:=HBW8.out.keep hW HBW8.out.lt;have C:=HBC8.out.keep hW HBC8.out.lt;have D:=HBD8.out.keep hW HBD8.out.lt;have G:=HBG8.out.keep hW HBG8.out.lt
  exact ⟨V.at_ 0 _ rfl,V.at_ 1 _ rfl,V.at_ 2 _ rfl,V.at_ 3 _ rfl,V.at_ 4 _ rfl,U.at_ 0 _ rfl,U.at_ 1 _ rfl,U.at_ 2 _ rfl,U.at_ 3 _ rfl,U.at_ 4 _ rfl,C.at_ 0 _ rfl,C.at_ 1 _ rfl,C.at_ 2 _ rfl,C.at_ 3 _ rfl,C.at_ 4 _ rfl,C.at_ 5 _ rfl,C.at_ 6 _ rfl,C.at_ 7 _ rfl,C.at_ 8 _ rfl,C.at_ 9 _ rfl,C.at_ 10 _ rfl,C.at_ 11 _ rfl,D.at_ 0 _ rfl,D.at_ 1 _ rfl,D.at_ 2 _ rfl,D.at_ 3 _ rfl,D.at_ 4 _ rfl,G.at_ 0 _ rfl,G.at_ 1 _ rfl,G.at_ 2 _ rfl,G.at_ 3 _ rfl,G.at_ 4 _ rfl⟩
 have HS1:Hid (∀W,Below w8.heap.size w8 W->Calls Tryd.prog 16 #[.agg #[.int .u8 d.k, .int .i64 d.n, .string d.s, .slice d.la d.ll d.lc, .slice d.oa d.ol d.oc], .agg #[.int .u8 g.k, .int .i64 g.n, .string g.s, .slice g.la g.ll g.lc, .slice g.oa g.ol g.oc]] W fun e w'=>e= .returned (.bool true)/\Below w8.heap.size w8 w'):=qh fun W hW=>by
  have:=Xq R.1 R.1 W d g (hd8.later_ hW) (hg8.later_ hW)
  rw [Xb rfl] at this
  exact this.mono fun e w' h=>⟨h.1,hW.trans (h.2.mono hW.size)⟩
 have HS2:Hid (∀W,Below w8.heap.size w8 W->Calls Tryd.prog 16 #[.agg #[.int .u8 cv.k, .int .i64 cv.n, .string cv.s, .slice cv.la cv.ll cv.lc, .slice cv.oa cv.ol cv.oc], .agg #[.int .u8 wv.k, .int .i64 wv.n, .string wv.s, .slice wv.la wv.ll wv.lc, .slice wv.oa wv.ol wv.oc]] W fun e w'=>e= .returned (.bool true)/\Below w8.heap.size w8 w'):=qh fun W hW=>by
  have:=Xq V0 V0 W cv wv (hv8.later_ hW) (hw8v.later_ hW)
  rw [Xb rfl] at this
  exact this.mono fun e w' h=>⟨h.1,hW.trans (h.2.mono hW.size)⟩
 have HC1:Hid (∀W,Below w8.heap.size w8 W->Calls Tryd.prog 13 #[.agg #[.int .u8 cv.k, .int .i64 cv.n, .string cv.s, .slice cv.la cv.ll cv.lc, .slice cv.oa cv.ol cv.oc], .agg #[.int .u8 cc.k, .slice cc.pa cc.pl cc.pc, .string cc.key, .int .i64 cc.i, .int .i64 cc.j, .int .i64 cc.n, .int .u8 cc.v.k, .int .i64 cc.v.n, .string cc.v.s, .slice cc.v.la cc.v.ll cc.v.lc, .slice cc.v.oa cc.v.ol cc.v.oc, .string cc.s]] W fun e w'=>e= .returned (.int .u16 E)/\Below w8.heap.size w8 w'):=qh fun W hW=>(HCK.out W (HB58.out.trans (hW.mono HB58.out.size))).mono fun e w' h=>⟨h.1,hW.trans (h.2.mono hW.size)⟩
 have HC2:Hid (∀W,Below w8.heap.size w8 W->Calls Tryd.prog 28 #[.agg #[.int .u8 wv.k, .int .i64 wv.n, .string wv.s, .slice wv.la wv.ll wv.lc, .slice wv.oa wv.ol wv.oc], .agg #[.int .u8 cc.k, .slice cc.pa cc.pl cc.pc, .string cc.key, .int .i64 cc.i, .int .i64 cc.j, .int .i64 cc.n, .int .u8 cc.v.k, .int .i64 cc.v.n, .string cc.v.s, .slice cc.v.la cc.v.ll cc.v.lc, .slice cc.v.oa cc.v.ol cc.v.oc, .string cc.s]] W fun e w'=>e= .returned (.int .i64 E)/\Below w8.heap.size w8 w'):=qh fun W hW=>(HCR.out W (HB58.out.trans (hW.mono HB58.out.size))).mono fun e w' h=>⟨h.1,hW.trans (h.2.mono hW.size)⟩
 have hwE:IntKind.i64.wrap E=E:=IntWalk.i64_in _ (by have:=HRG.out;omega)
 have bl0:Below w8.heap.size w8 w8.drew:=Zf w8
 have mixed:Tryd.prog.follows .mixedOrders=true:=by kernel_rfl
 clear hb78 hw8 hd8 hg8 hv8 hw8v HBV7 HBW7 HBC7 HBD7 HD7 HG7 HV5 HW5 HCK HCR HA7 HB57 HBV5 HBW5
 refine wp_region_noPanic ?_
 go_region_held_law (fun W=>W.cell? ⟨w3.heap.size,0,none⟩=some (.int .u8 cv.k)/\W.cell? ⟨w3.heap.size,1,none⟩=some (.int .i64 cv.n)/\W.cell? ⟨w3.heap.size,2,none⟩=some (.string cv.s)/\W.cell? ⟨w3.heap.size,3,none⟩=some (.slice cv.la cv.ll cv.lc)/\W.cell? ⟨w3.heap.size,4,none⟩=some (.slice cv.oa cv.ol cv.oc)/\W.cell? ⟨w4.heap.size,0,none⟩=some (.int .u8 wv.k)/\W.cell? ⟨w4.heap.size,1,none⟩=some (.int .i64 wv.n)/\W.cell? ⟨w4.heap.size,2,none⟩=some (.string wv.s)/\W.cell? ⟨w4.heap.size,3,none⟩=some (.slice wv.la wv.ll wv.lc)/\W.cell? ⟨w4.heap.size,4,none⟩=some (.slice wv.oa wv.ol wv.oc)/\W.cell? ⟨w5.heap.size,0,none⟩=some (.int .u8 cc.k)/\W.cell? ⟨w5.heap.size,1,none⟩=some (.slice cc.pa cc.pl cc.pc)/\W.cell? ⟨w5.heap.size,2,none⟩=some (.string cc.key)/\W.cell? ⟨w5.heap.size,3,none⟩=some (.int .i64 cc.i)/\W.cell? ⟨w5.heap.size,4,none⟩=some (.int .i64 cc.j)/\W.cell? ⟨w5.heap.size,5,none⟩=some (.int .i64 cc.n)/\W.cell? ⟨w5.heap.size,6,none⟩=some (.int .u8 cc.v.k)/\W.cell? ⟨w5.heap.size,7,none⟩=some (.int .i64 cc.v.n)/\W.cell? ⟨w5.heap.size,8,none⟩=some (.string cc.v.s)/\W.cell? ⟨w5.heap.size,9,none⟩=some (.slice cc.v.la cc.v.ll cc.v.lc)/\W.cell? ⟨w5.heap.size,10,none⟩=some (.slice cc.v.oa cc.v.ol cc.v.oc)/\W.cell? ⟨w5.heap.size,11,none⟩=some (.string cc.s)/\W.cell? ⟨w6.heap.size,0,none⟩=some (.int .u8 d.k)/\W.cell? ⟨w6.heap.size,1,none⟩=some (.int .i64 d.n)/\W.cell? ⟨w6.heap.size,2,none⟩=some (.string d.s)/\W.cell? ⟨w6.heap.size,3,none⟩=some (.slice d.la d.ll d.lc)/\W.cell? ⟨w6.heap.size,4,none⟩=some (.slice d.oa d.ol d.oc)/\W.cell? ⟨w7.heap.size,0,none⟩=some (.int .u8 g.k)/\W.cell? ⟨w7.heap.size,1,none⟩=some (.int .i64 g.n)/\W.cell? ⟨w7.heap.size,2,none⟩=some (.string g.s)/\W.cell? ⟨w7.heap.size,3,none⟩=some (.slice g.la g.ll g.lc)/\W.cell? ⟨w7.heap.size,4,none⟩=some (.slice g.oa g.ol g.oc))
  ((refine HSP.out _ ?_;assumption))
  (first
   |(go_at_call 13;(with_reducible refine (HC1.out _ (by assumption)).mono ?_);rintro e wq ⟨rfl,hbq⟩)
   |(go_at_call 28;(with_reducible refine (HC2.out _ (by assumption)).mono ?_);rintro e wq ⟨rfl,hbq⟩)
   |(go_at_call 16;(with_reducible refine (HS1.out _ (by assumption)).mono ?_);rintro e wq ⟨rfl,hbq⟩)
   |(go_at_call 16;(with_reducible refine (HS2.out _ (by assumption)).mono ?_);rintro e wq ⟨rfl,hbq⟩))
 all_goals (
  refine NoPanic.normal ?_
  go_wp2_with fail
  go_returns
  exact ⟨rfl,HA8.out.trans (Below.mono (by assumption) HA8.out.size)⟩)
end Go.Proofs.YtfoahkbnheijcaaDoor
namespace Go.Proofs.YtfoahkbnheijcaaDoor
open Go.Shelf
open Go.ChangeShapes Go.WideShapes Go.ChangeAt Go.RowKit Go.Lib
set_option maxHeartbeats 2000000
theorem rowCompDoesOwn:ownKnob Tryd.prog.godebug=none:=by kernel_rfl
theorem rowCompDoesLaidOut:laidOutB Tryd.prog=true:=by kernel_rfl
noncomputable def rowCompDoesWorld (os:Os):World:=
 let w0:=World.holding Tryd.prog os ⟨#[], #[], []⟩
 let put (h:Array Obj) (g:Nat) (cs:Array Value):Array Obj:=h.modify g fun
  | .cells _ t frozen=> .cells cs t frozen
  |o=>o
 let h1:=put w0.heap 0 (Lib.firstTab.map fun z=>Value.int .u8 z).toArray
 let h2:=put h1 1 ((List.range 16).flatMap fun i=> [Value.int .u8 (Lib.accLo i),Value.int .u8 (Lib.accHi i)]).toArray
 { w0 with heap:=h2 }
theorem rowCompDoesAccept:Rows.laid_unicode_utf8_acceptRanges (H:=Unit)=Lib.acceptData:=by kernel_rfl
theorem rowCompDoesLaid : Rows.compDoesRow.laid = [("unicode/utf8.acceptRanges", Lib.acceptData), ("unicode/utf8.first", Lib.firstData)] := by
 show [("unicode/utf8.acceptRanges", Rows.laid_unicode_utf8_acceptRanges), ("unicode/utf8.first", Go.Pinned.utf8First)] = _
 rw [Pinned.utf8First_eq,rowCompDoesAccept]
theorem rowCompDoesLaidMet (os:Os) (args:Array Value):laidMet Tryd.prog Rows.compDoesRow.laid ((rowCompDoesWorld os).forCall (fun _ _=>0) ⟨#[],args, []⟩).memory:=by
 rw [rowCompDoesLaid]
 exact (LaidIn.of_run (l := [("unicode/utf8.acceptRanges", Lib.acceptData), ("unicode/utf8.first", Lib.firstData)]) [0, 1] 8 (by kernel_rfl) (by kernel_rfl) (by kernel_rfl) (by kernel_rfl)).met
theorem rowCompDoesWitness (os:Os) {H:Type} (enc:TypeId×Value->H):
 (OpenSpec.ofChange Rows.compDoesSpec).preRow enc Tryd.prog Tryd.f7 Rows.compDoesRow.domain false Rows.compDoesRow.laid ((rowCompDoesWorld os).forCall (fun _ _=>0) ⟨#[], #[.slice none 0 0, .agg #[.int .u8 0, .slice none 0 0, .string { data:= #[] }, .int .i64 0, .int .i64 0, .int .i64 0, .string { data:= #[] }, .slice none 0 0]], []⟩).memory #[.slice none 0 0, .agg #[.int .u8 0, .slice none 0 0, .string { data:= #[] }, .int .i64 0, .int .i64 0, .int .i64 0, .string { data:= #[] }, .slice none 0 0]] :=by
 have hw:(DataW.whole enc Tryd.prog ((rowCompDoesWorld os).forCall (fun _ _=>0) ⟨#[], #[.slice none 0 0, .agg #[.int .u8 0, .slice none 0 0, .string { data:= #[] }, .int .i64 0, .int .i64 0, .int .i64 0, .string { data:= #[] }, .slice none 0 0]], []⟩).memory Tryd.f7.params.toList (OpenSpec.ofChange Rows.compDoesSpec).vars false #[Value.slice none 0 0, .agg #[.int .u8 0, .slice none 0 0, .string { data:= #[] }, .int .i64 0, .int .i64 0, .int .i64 0, .string { data:= #[] }, .slice none 0 0]].toList 8).map (fun x=>(x.1,x.2.1))=
  some ([.nil, .agg [.lit (.int .u8 0), .nil, .lit (.string []), .lit (.int .i64 0), .lit (.int .i64 0), .lit (.int .i64 0), .lit (.string []), .nil]], []):=by kernel_rfl
 obtain ⟨⟨x1,x2,x3⟩,hx,hx1⟩:=Option.map_eq_some_iff.1 hw
 simp only [Prod.mk.injEq] at hx1
 obtain ⟨rfl,rfl⟩:=hx1
 exact OpenSpec.preRow_of_cond 8 hx (by kernel_rfl) (fun k hk=>by cases hk) (by kernel_rfl) (rowCompDoesLaidMet os _)
set_option maxRecDepth 100000 in
theorem rowDoesToks {H:Type} {enc:TypeId×Value->H} {W:World} {base:Nat} {v1:Value} {d1:DataW H} {p1:List MemPlace} (hval:Value.okWide Tryd.prog W .any base 22 v1) (h1:DataW.Trod enc Tryd.prog W 0 (fun _=>true) true 22 v1 d1 p1) (hz:∀n ∈ d1.weights Tryd.prog 22,n<=reachBytes):
 ∃(a:Option Addr) (n c:Nat) (l:List Tk),v1= .slice a n c/\IsToks W W.heap.size l a n c:=by
 obtain ⟨a1,len,cap,rfl⟩:=okWide_slice Tryd.underlying22 hval
 obtain ⟨fuel,hf⟩:=h1
 obtain ⟨a,n,c,l,hcs,hI⟩:=Qk hf hz
 simp [Value.cells] at hcs
 obtain ⟨rfl,rfl,rfl⟩:=hcs
 exact ⟨_,_,_,l,rfl,hI⟩
set_option maxRecDepth 100000 in
theorem rowDoesBare {H:Type} {enc:TypeId×Value->H} {W:World} {base:Nat} {v1:Value} {d1:DataW H} {p1:List MemPlace} (hval:Value.okWide Tryd.prog W .any base 25 v1) (h1:DataW.Trod enc Tryd.prog W 0 (fun _=>true) true 25 v1 d1 p1) (hz:∀n ∈ d1.weights Tryd.prog 25,n<=reachBytes):
 ∃(c:BA) (b:Ba),v1= .agg (bacellsZ c).toArray/\IsToks W W.heap.size b.v c.va c.vl c.vc/\(c.pl<=40->IsBare W W.heap.size b c)/\c.s.size<=140737488351232:=by
 obtain ⟨cs,rfl,_⟩:=okWide_struct Tryd.underlying25 hval
 obtain ⟨fuel,hf⟩:=h1
 obtain ⟨c,b,hcs,h2,h3,h4,_⟩:=zc0 hf hz
 refine ⟨c,b, ?_,h2,h3,h4⟩
 have h5:cs.toList=bacellsZ c:=by simpa [Value.cells] using hcs
 rw [<-h5]
set_option maxRecDepth 100000 in
theorem rowCompDoesLifted (os:Os) (started:os.Started) (H:Type) (enc:TypeId×Value->H) (F:Stop.Interp):
 ReturnsInHanded {} Tryd.checked os 7 .any ((OpenSpec.ofChange Rows.compDoesSpec).preRow enc Tryd.prog Tryd.f7 Rows.compDoesRow.domain false Rows.compDoesRow.laid) (((OpenSpec.ofChange Rows.compDoesSpec).at F).post enc Tryd.prog Tryd.f7 false true false false):=by
 refine returnsInHanded_of_row (C:=Tryd.checked) (s:=OpenSpec.ofChange Rows.compDoesSpec) rowCompDoesOwn started (by kernel_rfl) Tryd.func7
  (witness_row_atRef (enc:=enc) (C:=Tryd.checked) false (rowCompDoesWorld os) #[.slice none 0 0, .agg #[.int .u8 0, .slice none 0 0, .string { data:= #[] }, .int .i64 0, .int .i64 0, .int .i64 0, .string { data:= #[] }, .slice none 0 0]] rfl (by kernel_rfl) (by kernel_rfl) (by kernel_rfl) (rowCompDoesWitness os enc)) ?_
 intro W base args ds gs before hval0 hW _ _ hsz hL _ _
 have hval:∀(j:Nat) t v,Tryd.f7.params[j]? =some t->args[j]? =some v->Value.okWide Tryd.prog W .any base t v:=hval0
 have hW':=hW
 obtain ⟨p,q,hA0,hV0,rfl,_,_⟩:=hW
 have hA:DataW.TrodAll enc Tryd.prog W 0 (fun _=>true) true Tryd.f7.params.toList args.toList ds p:=hA0
 rw [Tryd.params7] at hA hval
 obtain ⟨v0,v1,d0,d1,p0,p1,rfl,rfl,rfl,h0,h1⟩:=trodAll_two hA
 obtain ⟨rfl,rfl⟩:=trodVars_none hV0
 have k0:=h0
 have lt0:∀x ∈ p0,x.block<W.heap.size:=by obtain ⟨m,hm⟩:=k0;exact DataW.trod_lt m _ _ _ hm
 have k1:=h1
 have lt1:∀x ∈ p1,x.block<W.heap.size:=by obtain ⟨m,hm⟩:=k1;exact DataW.trod_lt m _ _ _ hm
 have hz0:∀n ∈ d0.weights Tryd.prog 22,n<=reachBytes:=fun n hn=>by
  have:=List.all_eq_true.1 hsz _ (DataW.weights_mem_each (j:=0) (t:=22) (d:=d0) rfl rfl n hn)
  simpa using this
 obtain ⟨a0,n0,c0,l0,rfl,hI0⟩:=rowDoesToks (hval 0 22 v0 rfl rfl) h0 hz0
 have hz1:∀n ∈ d1.weights Tryd.prog 25,n<=reachBytes:=fun n hn=>by
  have:=List.all_eq_true.1 hsz _ (DataW.weights_mem_each (j:=1) (t:=25) (d:=d1) rfl rfl n hn)
  simpa using this
 obtain ⟨b1,x1,rfl,hT1,hB1,hS1⟩:=rowDoesBare (hval 1 25 v1 rfl rfl) h1 hz1
 clear hA0 hV0 hval0
 have htab:Tabs W:=
  utf8Tabs_of_readsT (U8Types.of196 Tryd.lays196) ⟨by kernel_rfl,by kernel_rfl,by kernel_rfl,by kernel_rfl,by kernel_rfl,by kernel_rfl,by kernel_rfl⟩ (by rw [<-Pinned.utf8First_eq];exact Lib.laidMet.reads hL (.tail _ (.head _))) (Lib.laidMet.reads hL (.head _))
 refine (zfp W htab l0 a0 n0 c0 hI0 b1 x1 hT1 hB1 hS1).mono fun e W' ⟨he,bel⟩=> ?_
 subst he
 exact ⟨_,rfl,_,_,_, [],_, [],hW',trodAll_mk1 (shut_bool Tryd.underlying4 _),trodAll_cons_mk (Below.trod rowCompDoesLaidOut (by kernel_rfl) (of_decide_eq_true (by kernel_rfl)) k0 bel lt0) (trodAll_cons_mk (Below.trod rowCompDoesLaidOut (by kernel_rfl) (of_decide_eq_true (by kernel_rfl)) k1 bel lt1) trodAll_mk0),rfl,bel.frame _,fun h=>by cases h⟩
theorem rowCompDoesRowHolds:Rows.CompDoesSaid:=
 OpenClaim.holds_of_cond 7 Tryd.f7 rfl rfl rfl rfl rfl rfl rfl ⟨rfl,rfl,rfl,rfl,rfl⟩ rfl rfl rfl rfl rfl (by kernel_rfl) Tryd.func7 (by kernel_rfl)
  (of_decide_eq_true (by kernel_rfl)) (by unfold Func.isWrapper;rw [if_neg (of_decide_eq_false (by kernel_rfl))];exact ⟨rfl,rfl⟩)
  (fun os started H enc _ F0=>by rw [OpenClaim.pre_eq_preRow];exact rowCompDoesLifted os started H enc F0)
theorem compDoes_holds:Rows.CompDoesCardSaid:=
 Claim7.holds_tied_plain_at .later [] [.data, .pinned] true _ false
  rowCompDoesRowHolds (fun _ h=>by cases h) (by kernel_rfl) (fun _ h=>by cases h) compDoes_row_tie rfl ⟨rfl,rfl⟩ (by kernel_rfl) rfl
  (fun f fn hf hfn=>by
   obtain rfl : f = 7 := Option.some.inj ((show Tryd.prog.funcNamed "conciliator/conciliatorlaw06.CompDoes" = some 7 by kernel_rfl).symm.trans hf) |>.symm
   obtain rfl:fn=Tryd.f7:=(Option.some.inj (Tryd.func7.symm.trans hfn)).symm
   exact ⟨by kernel_rfl,fun j t ht=>by
    rw [Tryd.params7] at ht
    rcases j with _|_|j
    .obtain rfl:t=22:=by simpa using ht.symm
     exact (show Tryd.prog.wantsStandIn 22=false by kernel_rfl)
    .obtain rfl:t=25:=by simpa using ht.symm
     exact (show Tryd.prog.wantsStandIn 25=false by kernel_rfl)
    .simp at ht⟩)
  (by kernel_rfl)
#print axioms compDoes_holds
end Go.Proofs.YtfoahkbnheijcaaDoor
