/-
  CompActs: for all pieces and all acts the law returns true and they read as they did. Conditions: Go's two UTF-8 tables are what the program's text lays (the card ties them).
-/
import Derived.Test.YtnjgbiachcfigaaGreatDoorCt46
import Derived.Test.YtnjgbiachcfigaaGreatDoorCt49
import Derived.Test.YtnjgbiachcfigaaGreatDoorRows
import Derived.Test.YtnjgbiachcfigaaGreatDoorCards
import Derived.Test.YtnjgbiachcfigaaGreatDoorTie
import Derived.PinnedBridge
import Derived.Lib.LaidIn
import Derived.Lib.LaidU8T
import Derived.Deep.DeepHandedRow
import Derived.Deep.DeepWitnessRowRef
import Derived.SevenTiedAt
namespace Go.Proofs.YtnjgbiachcfigaaGreatDoor
open Go.RowKit
set_option maxHeartbeats 16000000
theorem zj3 (w:World) (l:List Tk) (a:Option Addr) (n c:Nat) (hl:IsToks w w.heap.size l a n c):Calls Tryz.prog 10 #[.slice a n c, .agg #[.int .u8 0, .slice none 0 0, .string { data:= #[] }, .int .i64 0, .int .i64 0, .int .i64 0, .string { data:= #[] }, .slice none 0 0]] w (SomeB w 0):=
 zje w l a n c hl ⟨0,none,0,0, .empty,0,0,0, .empty,none,0,0⟩ [] ⟨rfl,Nat.le_refl _,by dsimp only;omega,0,0,fun h=>absurd h (by dsimp only;omega),fun i hi=>by cases hi⟩
theorem zgz {w:World} {b:AC} {x:Ac} (h:IsAct w w.heap.size x b) (W:World) (hb:Below w.heap.size w W):IsActs (W.alloc (.cells #[.slice b.pa b.pl b.pc, .int .u8 b.k, .int .i64 b.i, .int .i64 b.j, .int .i64 b.n, .string b.s, .slice b.va b.vl b.vc] 25)) (W.alloc (.cells #[.slice b.pa b.pl b.pc, .int .u8 b.k, .int .i64 b.i, .int .i64 b.j, .int .i64 b.n, .string b.s, .slice b.va b.vl b.vc] 25)).heap.size [x] (some ⟨W.heap.size,0,none⟩) 1 1:=by
 have hB:=BC.start W #[.slice b.pa b.pl b.pc, .int .u8 b.k, .int .i64 b.i, .int .i64 b.j, .int .i64 b.n, .string b.s, .slice b.va b.vl b.vc] 25
 have h2:IsAct (W.alloc (.cells #[.slice b.pa b.pl b.pc, .int .u8 b.k, .int .i64 b.i, .int .i64 b.j, .int .i64 b.n, .string b.s, .slice b.va b.vl b.vc] 25)) (W.alloc (.cells #[.slice b.pa b.pl b.pc, .int .u8 b.k, .int .i64 b.i, .int .i64 b.j, .int .i64 b.n, .string b.s, .slice b.va b.vl b.vc] 25)).heap.size x b:=((h.keep hb).more hb.size|>.keep (Zv W _)).more (Zv W _).size
 exact ⟨rfl,Nat.le_refl _,by omega,W.heap.size,0,fun _=>b,fun _=>⟨rfl,hB.lt⟩,fun i hi=>by
  have h0:i=0:=by simpa using hi
  subst h0
  exact ⟨⟨hB.at_ 0 _ rfl,hB.at_ 1 _ rfl,hB.at_ 2 _ rfl,hB.at_ 3 _ rfl,hB.at_ 4 _ rfl,hB.at_ 5 _ rfl,hB.at_ 6 _ rfl⟩,h2⟩⟩
set_option maxRecDepth 100000 in
theorem zh4 (w:World) (hT:Tabs w) (l:List Tk) (a:Option Addr) (n c:Nat) (hl:IsToks w w.heap.size l a n c) (b:AC) (x:Ac) (ha:IsAct w w.heap.size x b):
 Calls Tryz.prog 3 #[.slice a n c, .agg #[.slice b.pa b.pl b.pc, .int .u8 b.k, .int .i64 b.i, .int .i64 b.j, .int .i64 b.n, .string b.s, .slice b.va b.vl b.vc]] w fun e w'=>e= .returned (.bool true)/\Below w.heap.size w w':=by
 have HL:=qh hl
 have HAC:=qh ha
 have HTT:=qh hT
 have HKN:Hid (∀W,Below w.heap.size w W->Calls Tryz.prog 12 #[] W fun e w'=>e= .returned (.bool true)/\Below W.heap.size W w'):=qh fun W hW=>zeh W (hT.below hW)
 have HB0:=qh (BC.start w #[.slice b.pa b.pl b.pc, .int .u8 b.k, .int .i64 b.i, .int .i64 b.j, .int .i64 b.n, .string b.s, .slice b.va b.vl b.vc] 25)
 have HA0:=qh (Zv w (.cells #[.slice b.pa b.pl b.pc, .int .u8 b.k, .int .i64 b.i, .int .i64 b.j, .int .i64 b.n, .string b.s, .slice b.va b.vl b.vc] 25))
 have HHV:Hid (Calls Tryz.prog 10 #[.slice a n c, .agg #[.int .u8 0, .slice none 0 0, .string { data:= #[] }, .int .i64 0, .int .i64 0, .int .i64 0, .string { data:= #[] }, .slice none 0 0]] (w.alloc (.cells #[.slice b.pa b.pl b.pc, .int .u8 b.k, .int .i64 b.i, .int .i64 b.j, .int .i64 b.n, .string b.s, .slice b.va b.vl b.vc] 25)) (SomeB (w.alloc (.cells #[.slice b.pa b.pl b.pc, .int .u8 b.k, .int .i64 b.i, .int .i64 b.j, .int .i64 b.n, .string b.s, .slice b.va b.vl b.vc] 25)) 0)):=qh (zj3 _ l a n c (hl.later_ HA0.out))
 clear hl ha hT
 go_enter Tryz.func3,Tryz.ntmps3
 go_wp2_with fail
 refine HHV.out.mono ?_
 rintro e w1 ⟨⟨h,rfl,_⟩,hb1⟩
 have hB1:=HB0.out.keep hb1 (by simp)
 have HA1:=qh (HA0.out.trans (hb1.mono HA0.out.size))
 have b0:=hB1.at_ 0 _ rfl;have b1:=hB1.at_ 1 _ rfl;have b2:=hB1.at_ 2 _ rfl;have b3:=hB1.at_ 3 _ rfl;have b4:=hB1.at_ 4 _ rfl;have b5:=hB1.at_ 5 _ rfl;have b6:=hB1.at_ 6 _ rfl;have zb:=hB1.lt
 have HB1:=qh hB1
 clear hB1 hb1 HHV HB0 HA0
 cases h with
 | true=>
   go_wp2_with fail
   refine (HKN.out _ HA1.out).mono ?_
   rintro e wk ⟨rfl,hbk⟩
   have HAk:=qh (HA1.out.trans (hbk.mono HA1.out.size))
   clear hbk
   go_wp2_with fail
   go_returns
   exact ⟨rfl,HAk.out⟩
 |false=>
 go_wp2_with fail
 refine (zc9 _ _ _ _ _ (zgz HAC.out w1 HA1.out)).mono ?_
 rintro e w2 ⟨⟨z,rfl⟩,hb2⟩
 have hb12:Below w1.heap.size w1 w2:=(Zv w1 _).trans (hb2.mono (by simp))
 have hB2:=HB1.out.keep hb12 HB1.out.lt
 have HA2:=qh (HA1.out.trans (hb12.mono HA1.out.size))
 clear b0 b1 b2 b3 b4 b5 b6 zb
 have b0:=hB2.at_ 0 _ rfl;have b1:=hB2.at_ 1 _ rfl;have b2:=hB2.at_ 2 _ rfl;have b3:=hB2.at_ 3 _ rfl;have b4:=hB2.at_ 4 _ rfl;have b5:=hB2.at_ 5 _ rfl;have b6:=hB2.at_ 6 _ rfl;have zb:=hB2.lt
 have HB2:=qh hB2
 clear hB2 hb2 hb12 HB1
 by_cases hz:(3000:Int)<z
 .go_wp2_with fail
  refine (HKN.out _ HA2.out).mono ?_
  rintro e wk ⟨rfl,hbk⟩
  have HAk:=qh (HA2.out.trans (hbk.mono HA2.out.size))
  clear hbk
  go_wp2_with fail
  go_returns
  exact ⟨rfl,HAk.out⟩
 go_wp2_with fail
 refine (HKN.out _ HA2.out).mono ?_
 rintro e w3 ⟨rfl,hb3⟩
 have hB3:=HB2.out.keep hb3 HB2.out.lt
 have HA3:=qh (HA2.out.trans (hb3.mono HA2.out.size))
 clear b0 b1 b2 b3 b4 b5 b6 zb
 have b0:=hB3.at_ 0 _ rfl;have b1:=hB3.at_ 1 _ rfl;have b2:=hB3.at_ 2 _ rfl;have b3:=hB3.at_ 3 _ rfl;have b4:=hB3.at_ 4 _ rfl;have b5:=hB3.at_ 5 _ rfl;have b6:=hB3.at_ 6 _ rfl;have zb:=hB3.lt
 have HB3:=qh hB3
 clear hB3 hb3 HB2 HKN
 go_wp2_with fail
 refine (Yp w3 l a n c (HL.out.later_ HA3.out)).mono ?_
 rintro e w4 ⟨⟨cv,rfl,hv4⟩,hb4⟩
 obtain ⟨V0,hV0⟩:∃V0,(oneP 6 (l.take 60)).1=V0:=⟨_,rfl⟩
 have HLT:Hid (V0.weight<=20000/\V0.sound=true):=qh (by rw [<-hV0];exact ⟨(Jn l).2.1,(Jn l).2.2.2.1⟩)
 have HLW:Hid (V.Low V0):=qh (by rw [<-hV0];exact zef 6 _)
 rw [hV0] at hv4
 have hB4:=HB3.out.keep hb4 HB3.out.lt
 have HA4:=qh (HA3.out.trans (hb4.mono HA3.out.size))
 have HV4:Hid (IsVal w4 w4.heap.size V0 cv):=qh (hv4.sub (Zn _ _ _))
 clear b0 b1 b2 b3 b4 b5 b6 zb
 have b0:=hB4.at_ 0 _ rfl;have b1:=hB4.at_ 1 _ rfl;have b2:=hB4.at_ 2 _ rfl;have b3:=hB4.at_ 3 _ rfl;have b4:=hB4.at_ 4 _ rfl;have b5:=hB4.at_ 5 _ rfl;have b6:=hB4.at_ 6 _ rfl;have zb:=hB4.lt
 have HB4:=qh hB4
 clear hb4 hB4 HB3 hv4 hV0 HL
 go_wp2_with fail
 have hONE:=zkz (w4.alloc (.cells #[.int .u8 cv.k, .int .i64 cv.n, .string cv.s, .slice cv.la cv.ll cv.lc, .slice cv.oa cv.ol cv.oc] 36)) cv.k cv.n cv.s cv.la cv.ll cv.lc cv.oa cv.ol cv.oc V0 (HV4.out.later_ (Zv w4 _)) (by have:=HLT.out.1;omega) b x (((HAC.out.keep HA4.out).more HA4.out.size|>.keep (Zv w4 _)).more (Zv w4 _).size)
 refine hONE.mono ?_
 rintro e w5 ⟨⟨cc,hcc⟩,hb5⟩
 clear hONE
 have hb45:Below w4.heap.size w4 w5:=(Zv w4 _).trans (hb5.mono (by simp))
 have hbv5:BC w5 w4.heap.size (vcells cv):=(BC.start w4 #[.int .u8 cv.k, .int .i64 cv.n, .string cv.s, .slice cv.la cv.ll cv.lc, .slice cv.oa cv.ol cv.oc] 36).keep hb5 (by simp)
 have HA5:=qh (HA4.out.trans (hb45.mono HA4.out.size))
 have HV5:=qh (HV4.out.later_ hb45)
 clear b0 b1 b2 b3 b4 b5 b6 zb
 have v0:=hbv5.at_ 0 _ rfl;have v1:=hbv5.at_ 1 _ rfl;have v2:=hbv5.at_ 2 _ rfl;have v3:=hbv5.at_ 3 _ rfl;have v4:=hbv5.at_ 4 _ rfl;have zv:=hbv5.lt
 have HBV5:=qh hbv5
 clear hb5 hb45 hbv5 HB4 HV4
 cases hone:oneC V0 x with
 | none=>
   rw [hone] at hcc
   obtain rfl:=hcc
   clear hone
   go_wp2_with fail
   go_returns
   exact ⟨rfl,HA5.out.trans ((Zv w5 _).mono HA5.out.size)⟩
 |some cm=>
 rw [hone] at hcc
 obtain ⟨rfl,hc⟩:=hcc
 obtain ⟨hck,hpath⟩:=zik HLT.out.2 HLW.out hone
 have hsm:=zkv hone
 have hc5:IsComp w5 w5.heap.size cm cc:=IsComp.sub (Zn _ _ _) hc
 have HCK:=qh hck;have HSM:=qh hsm
 have HC5:=qh hc5
 clear hc hpath hck hsm hone
 cases hc5 with
 |mk cc p xv hcb hp hxv=>
 have HCM:=HC5
 obtain ⟨R,hR⟩:∃R,doP V0 ⟨cc.k,p,cc.key,cc.i,cc.j,cc.n,xv,cc.s⟩=R:=⟨_,rfl⟩
 have hRE:R.2=0:=by rw [<-hR,zil];exact HCK.out
 have hcs:∀y,getP V0 p=some y->y.str.size+y.str.size+cc.s.size<=140737488355328:=fun y hy=>by have:=(zav p HLW.out hy).few;have:=HSM.out.ss;dsimp only at this;omega
 have hxw:xv.weight<=4611686018427387904:=by have:=HSM.out.sv;dsimp only at this;omega
 have HDO:Hid (∀W,Below w5.heap.size w5 W->Calls Tryz.prog 15 #[.agg #[.int .u8 cv.k, .int .i64 cv.n, .string cv.s, .slice cv.la cv.ll cv.lc, .slice cv.oa cv.ol cv.oc], .agg #[.int .u8 cc.k, .slice cc.pa cc.pl cc.pc, .string cc.key, .int .i64 cc.i, .int .i64 cc.j, .int .i64 cc.n, .int .u8 cc.v.k, .int .i64 cc.v.n, .string cc.v.s, .slice cc.v.la cc.v.ll cc.v.lc, .slice cc.v.oa cc.v.ol cc.v.oc, .string cc.s]] W fun e w'=>(∃d:VC,e= .returned (.tuple #[.agg #[.int .u8 d.k, .int .i64 d.n, .string d.s, .slice d.la d.ll d.lc, .slice d.oa d.ol d.oc], .int .u16 0])/\IsVal (only (fun k=>W.heap.size<=k) w') w'.heap.size R.1 d)/\Below W.heap.size W w'):=qh fun W hW=>by
  have:=Kk W cv.k cv.n cv.s cv.la cv.ll cv.lc cv.oa cv.ol cv.oc V0 (HV5.out.later_ hW) (by have:=HLT.out.1;omega) p xv cc hcb (hp.later_ hW) (hxv.later_ hW) hxw hcs HLT.out.2 (HTT.out.below (HA5.out.trans (hW.mono HA5.out.size)))
  rw [hR] at this
  unfold CDoPost at this
  rw [hRE] at this;exact this
 have HDR:Hid (∀W,Below w5.heap.size w5 W->Calls Tryz.prog 16 #[.agg #[.int .u8 cv.k, .int .i64 cv.n, .string cv.s, .slice cv.la cv.ll cv.lc, .slice cv.oa cv.ol cv.oc], .agg #[.int .u8 cc.k, .slice cc.pa cc.pl cc.pc, .string cc.key, .int .i64 cc.i, .int .i64 cc.j, .int .i64 cc.n, .int .u8 cc.v.k, .int .i64 cc.v.n, .string cc.v.s, .slice cc.v.la cc.v.ll cc.v.lc, .slice cc.v.oa cc.v.ol cc.v.oc, .string cc.s]] W fun e w'=>(∃g:VC,e= .returned (.tuple #[.agg #[.int .u8 g.k, .int .i64 g.n, .string g.s, .slice g.la g.ll g.lc, .slice g.oa g.ol g.oc], .int .i64 0])/\IsVal (only (fun k=>W.heap.size<=k) w') w'.heap.size R.1 g)/\Below W.heap.size W w'):=qh fun W hW=>by
  have:=zgv W cv.k cv.n cv.s cv.la cv.ll cv.lc cv.oa cv.ol cv.oc V0 (HV5.out.later_ hW) (by have:=HLT.out.1;omega) p xv cc hcb (hp.later_ hW) (hxv.later_ hW) hxw hcs (HTT.out.below (HA5.out.trans (hW.mono HA5.out.size)))
  rw [hR] at this
  unfold DoPost at this
  rw [hRE] at this;exact this
 have HSD:Hid (∀W,Below w5.heap.size w5 W->Calls Tryz.prog 19 #[.agg #[.int .u8 cc.k, .slice cc.pa cc.pl cc.pc, .string cc.key, .int .i64 cc.i, .int .i64 cc.j, .int .i64 cc.n, .int .u8 cc.v.k, .int .i64 cc.v.n, .string cc.v.s, .slice cc.v.la cc.v.ll cc.v.lc, .slice cc.v.oa cc.v.ol cc.v.oc, .string cc.s]] W fun e w'=>e= .returned (.bool true)/\Below W.heap.size W w'):=qh fun W hW=>by
  have:=Kt _ W (HTT.out.below (HA5.out.trans (hW.mono HA5.out.size))) cc (HCM.out.later_ hW) hxw
  rw [(Z8 HCK.out).1] at this;exact this
 have HRS:Hid (R.1.sound=true):=qh (by rw [<-hR];exact zki HLT.out.2)
 clear hcb hp hxv hR hRE hcs hxw HSM HCK HC5 HCM
 go_wp2_with fail
 refine (HDO.out _ (Zv w5 _)).mono ?_
 rintro e w6 ⟨⟨d,rfl,hd⟩,hb6⟩
 have hb56:Below w5.heap.size w5 w6:=(Zv w5 _).trans (hb6.mono (by simp))
 have hbv6:=HBV5.out.keep hb56 HBV5.out.lt
 have hbc6:BC w6 w5.heap.size (ccells cc):=(BC.start w5 #[.int .u8 cc.k, .slice cc.pa cc.pl cc.pc, .string cc.key, .int .i64 cc.i, .int .i64 cc.j, .int .i64 cc.n, .int .u8 cc.v.k, .int .i64 cc.v.n, .string cc.v.s, .slice cc.v.la cc.v.ll cc.v.lc, .slice cc.v.oa cc.v.ol cc.v.oc, .string cc.s] 39).keep hb6 (by simp)
 have HA6:=qh (HA5.out.trans (hb56.mono HA5.out.size))
 have HB56:=qh hb56
 have HD6:Hid (IsVal w6 w6.heap.size R.1 d):=qh (hd.sub (Zn _ _ _))
 clear v0 v1 v2 v3 v4 zv
 have v0:=hbv6.at_ 0 _ rfl;have v1:=hbv6.at_ 1 _ rfl;have v2:=hbv6.at_ 2 _ rfl;have v3:=hbv6.at_ 3 _ rfl;have v4:=hbv6.at_ 4 _ rfl;have zv:=hbv6.lt
 have c0:=hbc6.at_ 0 _ rfl;have c1:=hbc6.at_ 1 _ rfl;have c2:=hbc6.at_ 2 _ rfl;have c3:=hbc6.at_ 3 _ rfl;have c4:=hbc6.at_ 4 _ rfl;have c5:=hbc6.at_ 5 _ rfl;have c6:=hbc6.at_ 6 _ rfl;have c7:=hbc6.at_ 7 _ rfl;have c8:=hbc6.at_ 8 _ rfl;have c9:=hbc6.at_ 9 _ rfl;have c10:=hbc6.at_ 10 _ rfl;have c11:=hbc6.at_ 11 _ rfl;have zc:=hbc6.lt
 have HBC6:=qh hbc6
 clear hb6 hb56 hbv6 hbc6 hd HDO
 go_wp2_with fail
 refine (HDR.out _ (HB56.out.trans ((Zv w6 _).mono HB56.out.size))).mono ?_
 rintro e w7 ⟨⟨g,rfl,hg⟩,hb7⟩
 have hb67:Below w6.heap.size w6 w7:=(Zv w6 _).trans (hb7.mono (by simp))
 have hbc7:=HBC6.out.keep hb67 HBC6.out.lt
 have hbd7:BC w7 w6.heap.size (vcells d):=(BC.start w6 #[.int .u8 d.k, .int .i64 d.n, .string d.s, .slice d.la d.ll d.lc, .slice d.oa d.ol d.oc] 36).keep hb7 (by simp)
 have HA7:=qh (HA6.out.trans (hb67.mono HA6.out.size))
 have HB57:=qh (HB56.out.trans (hb67.mono HB56.out.size))
 have HD7:=qh (HD6.out.later_ hb67)
 have HG7:Hid (IsVal w7 w7.heap.size R.1 g):=qh (hg.sub (Zn _ _ _))
 clear v0 v1 v2 v3 v4 zv c0 c1 c2 c3 c4 c5 c6 c7 c8 c9 c10 c11 zc
 have c0:=hbc7.at_ 0 _ rfl;have c1:=hbc7.at_ 1 _ rfl;have c2:=hbc7.at_ 2 _ rfl;have c3:=hbc7.at_ 3 _ rfl;have c4:=hbc7.at_ 4 _ rfl;have c5:=hbc7.at_ 5 _ rfl;have c6:=hbc7.at_ 6 _ rfl;have c7:=hbc7.at_ 7 _ rfl;have c8:=hbc7.at_ 8 _ rfl;have c9:=hbc7.at_ 9 _ rfl;have c10:=hbc7.at_ 10 _ rfl;have c11:=hbc7.at_ 11 _ rfl;have zc:=hbc7.lt
 have d0:=hbd7.at_ 0 _ rfl;have d1:=hbd7.at_ 1 _ rfl;have d2:=hbd7.at_ 2 _ rfl;have d3:=hbd7.at_ 3 _ rfl;have d4:=hbd7.at_ 4 _ rfl;have zd:=hbd7.lt
 have HBC7:=qh hbc7;have HBD7:=qh hbd7
 have HSA:Hid (Calls Tryz.prog 17 #[.agg #[.int .u8 d.k, .int .i64 d.n, .string d.s, .slice d.la d.ll d.lc, .slice d.oa d.ol d.oc], .agg #[.int .u8 g.k, .int .i64 g.n, .string g.s, .slice g.la g.ll g.lc, .slice g.oa g.ol g.oc]] (w7.alloc (.cells #[.int .u8 g.k, .int .i64 g.n, .string g.s, .slice g.la g.ll g.lc, .slice g.oa g.ol g.oc] 36)) fun e w'=>e= .returned (.bool true)/\Below (w7.alloc (.cells #[.int .u8 g.k, .int .i64 g.n, .string g.s, .slice g.la g.ll g.lc, .slice g.oa g.ol g.oc] 36)).heap.size (w7.alloc (.cells #[.int .u8 g.k, .int .i64 g.n, .string g.s, .slice g.la g.ll g.lc, .slice g.oa g.ol g.oc] 36)) w'):=qh (by
  have:=zbc R.1 R.1 (w7.alloc (.cells #[.int .u8 g.k, .int .i64 g.n, .string g.s, .slice g.la g.ll g.lc, .slice g.oa g.ol g.oc] 36)) d g (HD7.out.later_ (Zv w7 _)) (HG7.out.later_ (Zv w7 _))
  rw [Q9 rfl] at this;exact this)
 clear hb7 hb67 hbc7 hbd7 hg HDR HBC6 HD6
 go_wp2_with fail
 refine HSA.out.mono ?_
 rintro e w8 ⟨rfl,hb8⟩
 have hb78:Below w7.heap.size w7 w8:=(Zv w7 _).trans (hb8.mono (by simp))
 have hbc8:=HBC7.out.keep hb78 HBC7.out.lt
 have hbd8:=HBD7.out.keep hb78 HBD7.out.lt
 have HA8:=qh (HA7.out.trans (hb78.mono HA7.out.size))
 have HB58:=qh (HB57.out.trans (hb78.mono HB57.out.size))
 have HD8:=qh (HD7.out.later_ hb78)
 clear d0 d1 d2 d3 d4 zd c0 c1 c2 c3 c4 c5 c6 c7 c8 c9 c10 c11 zc
 have c0:=hbc8.at_ 0 _ rfl;have c1:=hbc8.at_ 1 _ rfl;have c2:=hbc8.at_ 2 _ rfl;have c3:=hbc8.at_ 3 _ rfl;have c4:=hbc8.at_ 4 _ rfl;have c5:=hbc8.at_ 5 _ rfl;have c6:=hbc8.at_ 6 _ rfl;have c7:=hbc8.at_ 7 _ rfl;have c8:=hbc8.at_ 8 _ rfl;have c9:=hbc8.at_ 9 _ rfl;have c10:=hbc8.at_ 10 _ rfl;have c11:=hbc8.at_ 11 _ rfl;have zc:=hbc8.lt
 have d0:=hbd8.at_ 0 _ rfl;have d1:=hbd8.at_ 1 _ rfl;have d2:=hbd8.at_ 2 _ rfl;have d3:=hbd8.at_ 3 _ rfl;have d4:=hbd8.at_ 4 _ rfl;have zd:=hbd8.lt
 have HBC8:=qh hbc8
 have HSR:Hid (Calls Tryz.prog 18 #[.agg #[.int .u8 d.k, .int .i64 d.n, .string d.s, .slice d.la d.ll d.lc, .slice d.oa d.ol d.oc]] w8 fun e w'=>e= .returned (.bool true)/\Below w8.heap.size w8 w'):=qh (by
  have:=zbu R.1 w8 d HD8.out (HTT.out.below HA8.out)
  rw [HRS.out] at this;exact this)
 clear hb8 hb78 hbc8 hbd8 HSA HBC7 HBD7 HD7 HG7
 go_wp2_with fail
 refine HSR.out.mono ?_
 rintro e w9 ⟨rfl,hb9⟩
 have hbc9:=HBC8.out.keep hb9 HBC8.out.lt
 have HA9:=qh (HA8.out.trans (hb9.mono HA8.out.size))
 have HB59:=qh (HB58.out.trans (hb9.mono HB58.out.size))
 clear d0 d1 d2 d3 d4 zd c0 c1 c2 c3 c4 c5 c6 c7 c8 c9 c10 c11 zc
 have c0:=hbc9.at_ 0 _ rfl;have c1:=hbc9.at_ 1 _ rfl;have c2:=hbc9.at_ 2 _ rfl;have c3:=hbc9.at_ 3 _ rfl;have c4:=hbc9.at_ 4 _ rfl;have c5:=hbc9.at_ 5 _ rfl;have c6:=hbc9.at_ 6 _ rfl;have c7:=hbc9.at_ 7 _ rfl;have c8:=hbc9.at_ 8 _ rfl;have c9:=hbc9.at_ 9 _ rfl;have c10:=hbc9.at_ 10 _ rfl;have c11:=hbc9.at_ 11 _ rfl;have zc:=hbc9.lt
 clear hb9 hbc9 HSR
 go_wp2_with fail
 refine (HSD.out _ HB59.out).mono ?_
 rintro e w10 ⟨rfl,hb10⟩
 have HA10:=qh (HA9.out.trans (hb10.mono HA9.out.size))
 clear hb10
 go_wp2_with fail
 go_returns
 exact ⟨rfl,HA10.out⟩
end Go.Proofs.YtnjgbiachcfigaaGreatDoor
namespace Go.Proofs.YtnjgbiachcfigaaGreatDoor
open Go.Shelf
open Go.ChangeShapes Go.WideShapes Go.ChangeAt Go.RowKit Go.Lib
set_option maxHeartbeats 2000000
theorem rowCompActsOwn:ownKnob Tryz.prog.godebug=none:=by kernel_rfl
theorem rowCompActsLaidOut:laidOutB Tryz.prog=true:=by kernel_rfl
noncomputable def rowCompActsWorld (os:Os):World:=
 let w0:=World.holding Tryz.prog os ⟨#[], #[], []⟩
 let put (h:Array Obj) (g:Nat) (cs:Array Value):Array Obj:=h.modify g fun
  | .cells _ t frozen=> .cells cs t frozen
  |o=>o
 let h1:=put w0.heap 0 (Lib.firstTab.map fun z=>Value.int .u8 z).toArray
 let h2:=put h1 1 ((List.range 16).flatMap fun i=> [Value.int .u8 (Lib.accLo i),Value.int .u8 (Lib.accHi i)]).toArray
 { w0 with heap:=h2 }
theorem rowCompActsAccept:Rows.laid_unicode_utf8_acceptRanges (H:=Unit)=Lib.acceptData:=by kernel_rfl
theorem rowCompActsLaid : Rows.compActsRow.laid = [("unicode/utf8.acceptRanges", Lib.acceptData), ("unicode/utf8.first", Lib.firstData)] := by
 show [("unicode/utf8.acceptRanges", Rows.laid_unicode_utf8_acceptRanges), ("unicode/utf8.first", Go.Pinned.utf8First)] = _
 rw [Pinned.utf8First_eq,rowCompActsAccept]
theorem rowCompActsLaidMet (os:Os) (args:Array Value):laidMet Tryz.prog Rows.compActsRow.laid ((rowCompActsWorld os).forCall (fun _ _=>0) ⟨#[],args, []⟩).memory:=by
 rw [rowCompActsLaid]
 exact (LaidIn.of_run (l := [("unicode/utf8.acceptRanges", Lib.acceptData), ("unicode/utf8.first", Lib.firstData)]) [0, 1] 8 (by kernel_rfl) (by kernel_rfl) (by kernel_rfl) (by kernel_rfl)).met
theorem rowCompActsWitness (os:Os) {H:Type} (enc:TypeId×Value->H):
 (OpenSpec.ofChange Rows.compActsSpec).preRow enc Tryz.prog Tryz.f3 Rows.compActsRow.domain false Rows.compActsRow.laid ((rowCompActsWorld os).forCall (fun _ _=>0) ⟨#[], #[.slice none 0 0, .agg #[.slice none 0 0, .int .u8 0, .int .i64 0, .int .i64 0, .int .i64 0, .string { data:= #[] }, .slice none 0 0]], []⟩).memory #[.slice none 0 0, .agg #[.slice none 0 0, .int .u8 0, .int .i64 0, .int .i64 0, .int .i64 0, .string { data:= #[] }, .slice none 0 0]] :=by
 have hw:(DataW.whole enc Tryz.prog ((rowCompActsWorld os).forCall (fun _ _=>0) ⟨#[], #[.slice none 0 0, .agg #[.slice none 0 0, .int .u8 0, .int .i64 0, .int .i64 0, .int .i64 0, .string { data:= #[] }, .slice none 0 0]], []⟩).memory Tryz.f3.params.toList (OpenSpec.ofChange Rows.compActsSpec).vars false #[Value.slice none 0 0, .agg #[.slice none 0 0, .int .u8 0, .int .i64 0, .int .i64 0, .int .i64 0, .string { data:= #[] }, .slice none 0 0]].toList 8).map (fun x=>(x.1,x.2.1))=
  some ([.nil, .agg [.nil, .lit (.int .u8 0), .lit (.int .i64 0), .lit (.int .i64 0), .lit (.int .i64 0), .lit (.string []), .nil]], []):=by kernel_rfl
 obtain ⟨⟨x1,x2,x3⟩,hx,hx1⟩:=Option.map_eq_some_iff.1 hw
 simp only [Prod.mk.injEq] at hx1
 obtain ⟨rfl,rfl⟩:=hx1
 exact OpenSpec.preRow_of_cond 8 hx (by kernel_rfl) (fun k hk=>by cases hk) (by kernel_rfl) (rowCompActsLaidMet os _)
set_option maxRecDepth 100000 in
theorem rowActsToks {H:Type} {enc:TypeId×Value->H} {W:World} {base:Nat} {v1:Value} {d1:DataW H} {p1:List MemPlace} (hval:Value.okWide Tryz.prog W .any base 22 v1) (h1:DataW.Trod enc Tryz.prog W 0 (fun _=>true) true 22 v1 d1 p1) (hz:∀n ∈ d1.weights Tryz.prog 22,n<=reachBytes):
 ∃(a:Option Addr) (n c:Nat) (l:List Tk),v1= .slice a n c/\IsToks W W.heap.size l a n c:=by
 obtain ⟨a1,len,cap,rfl⟩:=okWide_slice Tryz.underlying22 hval
 obtain ⟨fuel,hf⟩:=h1
 obtain ⟨a,n,c,l,hcs,hI⟩:=zcs hf hz
 simp [Value.cells] at hcs
 obtain ⟨rfl,rfl,rfl⟩:=hcs
 exact ⟨_,_,_,l,rfl,hI⟩
set_option maxRecDepth 100000 in
theorem rowActsAct {H:Type} {enc:TypeId×Value->H} {W:World} {base:Nat} {v1:Value} {d1:DataW H} {p1:List MemPlace} (hval:Value.okWide Tryz.prog W .any base 25 v1) (h1:DataW.Trod enc Tryz.prog W 0 (fun _=>true) true 25 v1 d1 p1) (hz:∀n ∈ d1.weights Tryz.prog 25,n<=reachBytes):
 ∃(c:AC) (b:Ac),v1= .agg (acells c).toArray/\IsAct W W.heap.size b c:=by
 obtain ⟨cs,rfl,_⟩:=okWide_struct Tryz.underlying25 hval
 obtain ⟨fuel,hf⟩:=h1
 obtain ⟨c,b,hcs,h2⟩:=zfv hf hz
 refine ⟨c,b, ?_,h2⟩
 have h5:cs.toList=acells c:=by simpa [Value.cells] using hcs
 rw [<-h5]
set_option maxRecDepth 100000 in
theorem rowCompActsLifted (os:Os) (started:os.Started) (H:Type) (enc:TypeId×Value->H) (F:Stop.Interp):
 ReturnsInHanded {} Tryz.checked os 3 .any ((OpenSpec.ofChange Rows.compActsSpec).preRow enc Tryz.prog Tryz.f3 Rows.compActsRow.domain false Rows.compActsRow.laid) (((OpenSpec.ofChange Rows.compActsSpec).at F).post enc Tryz.prog Tryz.f3 false true false false):=by
 refine returnsInHanded_of_row (C:=Tryz.checked) (s:=OpenSpec.ofChange Rows.compActsSpec) rowCompActsOwn started (by kernel_rfl) Tryz.func3
  (witness_row_atRef (enc:=enc) (C:=Tryz.checked) false (rowCompActsWorld os) #[.slice none 0 0, .agg #[.slice none 0 0, .int .u8 0, .int .i64 0, .int .i64 0, .int .i64 0, .string { data:= #[] }, .slice none 0 0]] rfl (by kernel_rfl) (by kernel_rfl) (by kernel_rfl) (rowCompActsWitness os enc)) ?_
 intro W base args ds gs before hval0 hW _ _ hsz hL _ _
 have hval:∀(j:Nat) t v,Tryz.f3.params[j]? =some t->args[j]? =some v->Value.okWide Tryz.prog W .any base t v:=hval0
 have hW':=hW
 obtain ⟨p,q,hA0,hV0,rfl,_,_⟩:=hW
 have hA:DataW.TrodAll enc Tryz.prog W 0 (fun _=>true) true Tryz.f3.params.toList args.toList ds p:=hA0
 rw [Tryz.params3] at hA hval
 obtain ⟨v0,v1,d0,d1,p0,p1,rfl,rfl,rfl,h0,h1⟩:=trodAll_two hA
 obtain ⟨rfl,rfl⟩:=trodVars_none hV0
 have k0:=h0
 have lt0:∀x ∈ p0,x.block<W.heap.size:=by obtain ⟨m,hm⟩:=k0;exact DataW.trod_lt m _ _ _ hm
 have k1:=h1
 have lt1:∀x ∈ p1,x.block<W.heap.size:=by obtain ⟨m,hm⟩:=k1;exact DataW.trod_lt m _ _ _ hm
 have hz0:∀n ∈ d0.weights Tryz.prog 22,n<=reachBytes:=fun n hn=>by
  have:=List.all_eq_true.1 hsz _ (DataW.weights_mem_each (j:=0) (t:=22) (d:=d0) rfl rfl n hn)
  simpa using this
 obtain ⟨a0,n0,c0,l0,rfl,hI0⟩:=rowActsToks (hval 0 22 v0 rfl rfl) h0 hz0
 have hz1:∀n ∈ d1.weights Tryz.prog 25,n<=reachBytes:=fun n hn=>by
  have:=List.all_eq_true.1 hsz _ (DataW.weights_mem_each (j:=1) (t:=25) (d:=d1) rfl rfl n hn)
  simpa using this
 obtain ⟨b1,x1,rfl,hI1⟩:=rowActsAct (hval 1 25 v1 rfl rfl) h1 hz1
 clear hA0 hV0 hval0
 have htab:Tabs W:=
  utf8Tabs_of_readsT (U8Types.of196 Tryz.lays196) ⟨by kernel_rfl,by kernel_rfl,by kernel_rfl,by kernel_rfl,by kernel_rfl,by kernel_rfl,by kernel_rfl⟩ (by rw [<-Pinned.utf8First_eq];exact Lib.laidMet.reads hL (.tail _ (.head _))) (Lib.laidMet.reads hL (.head _))
 refine (zh4 W htab l0 a0 n0 c0 hI0 b1 x1 hI1).mono fun e W' ⟨he,bel⟩=> ?_
 subst he
 exact ⟨_,rfl,_,_,_, [],_, [],hW',trodAll_mk1 (shut_bool Tryz.underlying4 _),trodAll_cons_mk (Below.trod rowCompActsLaidOut (by kernel_rfl) (of_decide_eq_true (by kernel_rfl)) k0 bel lt0) (trodAll_cons_mk (Below.trod rowCompActsLaidOut (by kernel_rfl) (of_decide_eq_true (by kernel_rfl)) k1 bel lt1) trodAll_mk0),rfl,bel.frame _,fun h=>by cases h⟩
theorem rowCompActsRowHolds:Rows.CompActsSaid:=
 OpenClaim.holds_of_cond 3 Tryz.f3 rfl rfl rfl rfl rfl rfl rfl ⟨rfl,rfl,rfl,rfl,rfl⟩ rfl rfl rfl rfl rfl (by kernel_rfl) Tryz.func3 (by kernel_rfl)
  (of_decide_eq_true (by kernel_rfl)) (by unfold Func.isWrapper;rw [if_neg (of_decide_eq_false (by kernel_rfl))];exact ⟨rfl,rfl⟩)
  (fun os started H enc _ F0=>by rw [OpenClaim.pre_eq_preRow];exact rowCompActsLifted os started H enc F0)
theorem compActs_holds:Rows.CompActsCardSaid:=
 Claim7.holds_tied_plain_at .later [] [.data, .pinned] true _ _
  rowCompActsRowHolds (fun _ h=>by cases h) (by kernel_rfl) (fun _ h=>by cases h) compActs_row_tie rfl ⟨rfl,rfl⟩ (by kernel_rfl) rfl
  (fun f fn hf hfn=>by
   obtain rfl : f = 3 := Option.some.inj ((show Tryz.prog.funcNamed "conciliator/conciliatorlaw06.CompActs" = some 3 by kernel_rfl).symm.trans hf) |>.symm
   obtain rfl:fn=Tryz.f3:=(Option.some.inj (Tryz.func3.symm.trans hfn)).symm
   exact ⟨by kernel_rfl,fun j t ht=>by
    rw [Tryz.params3] at ht
    rcases j with _|_|j
    .obtain rfl:t=22:=by simpa using ht.symm
     exact (show Tryz.prog.wantsStandIn 22=false by kernel_rfl)
    .obtain rfl:t=25:=by simpa using ht.symm
     exact (show Tryz.prog.wantsStandIn 25=false by kernel_rfl)
    .simp at ht⟩)
  (by kernel_rfl)
#print axioms compActs_holds
end Go.Proofs.YtnjgbiachcfigaaGreatDoor
