/-
  Contracts of the functions that the law reaches: Heavy: some number. CompApart, of any.
-/
import Derived.Test.YtfoahkbnheijcaaDoorCq45
import Derived.Test.YtfoahkbnheijcaaDoorRows
import Derived.Test.YtfoahkbnheijcaaDoorCards
import Derived.Test.YtfoahkbnheijcaaDoorTie
import Derived.PinnedBridge
import Derived.Lib.LaidIn
import Derived.Lib.LaidU8T
import Derived.Deep.DeepHandedRow
import Derived.Deep.DeepWitnessRowRef
import Derived.SevenTiedAt
namespace Go.Proofs.YtfoahkbnheijcaaDoor
open Go.RowKit
set_option maxHeartbeats 16000000
def SomeInt (w:World) (e:Ending) (w':World):Prop:=(∃z:Int,e= .returned (.int .i64 z))/\Below w.heap.size w w'
theorem IsAct.toks {w:World} {B:Nat} {x:Ac} {c:AC} (h:IsAct w B x c):IsToks w B x.v c.va c.vl c.vc:=by
 cases h with
 |mk c p v hb hp hv=>exact hv
set_option maxRecDepth 100000 in
theorem zd0 (w:World) (l:List Ac) (a:Option Addr) (n c:Nat) (hl:IsActs w w.heap.size l a n c):
 Calls Tryd.prog 17 #[.slice a n c] w (SomeInt w):=by
 have hmax:=hl.max;have hcap:=hl.cap
 have HL:=qh hl
 clear hl
 obtain ⟨R,hR⟩:∃R,SomeInt w=R:=⟨_,rfl⟩
 rw [hR]
 have HR:=qh hR
 clear hR
 go_enter Tryd.func17,Tryd.ntmps17
 go_wp2_with fail
 go_loopg [3,4,5] n (fun gh z i _ wr=>∃(x:Int) (j:Nat),j<=n/\gh=n - j/\z= .int .i64 x/\i= .int .i64 j/\Below w.heap.size w wr)
 case atStart=>exact ⟨0,0,Nat.zero_le _,rfl,rfl,rfl,Below.refl _ _⟩
 case round=>
  obtain ⟨x,j,hj,rfl,rfl,rfl,hbl⟩:=hrel
  obtain ⟨w1,hw1⟩:∃w1,w1=wr:=⟨_,rfl⟩
  subst hw1
  have HBL:=qh hbl
  clear hbl
  by_cases hlt:j<n
  .obtain ⟨b,q,f,hpl,rfl,hbB,hat,hia⟩:=HL.out.get hlt
   have hat1:=hat.keep HBL.out hbB
   have s0:=hat1.c0;have s5:=hat1.c5;have s6:=hat1.c6
   have hv:=hia.toks
   have HV:=qh hv
   have hvm:=hv.max;have hvc:=hv.cap
   have HAT:=qh hat
   have hbw:b<w1.heap.size:=World.block_lt_of_cell? w1 _ s0
   clear hat hat1 hia hv
   go_wp2_with fail
   go_quiet (fail)
   go_wp2_with fail
   go_loopg [3,5] f.vl (fun gh z k wr=>∃(x:Int) (t:Nat),t<=f.vl/\gh=f.vl - t/\z= .int .i64 x/\k= .int .i64 t/\Below w.heap.size w wr)
   case atStart=>exact ⟨_,0,Nat.zero_le _,rfl,rfl,rfl,HBL.out.trans ((Xh _ _).mono HBL.out.size)⟩
   case round=>
    obtain ⟨y,t,ht,rfl,rfl,rfl,hbl⟩:=hrel
    have hat1:=HAT.out.keep hbl hbB
    clear s0 s5 s6 hbw
    have s6:=hat1.c6
    have hbw:b<wr.heap.size:=World.block_lt_of_cell? wr _ s6
    have HBL2:=qh hbl
    clear hat1 hbl
    by_cases htl:t<f.vl
    .obtain ⟨b2,q2,hp2,hva,hb2,htk,_⟩:=HV.out.get htl
     have htk1:=htk.keep HBL2.out hb2
     have t2:=htk1.c2
     rw [hva] at s6
     have hb2w:b2<wr.heap.size:=World.block_lt_of_cell? wr _ t2
     clear htk htk1 hva
     go_wp2_with fail
     go_roundg (f.vl - (t+1))
     case measure=>omega
     case rel=>exact ⟨_,t+1,by omega,rfl,rfl,by go_num,HBL2.out⟩
    .go_wp2_with fail
     go_roundg (n - (j+1))
     case measure=>omega
     case rel=>exact ⟨_,j+1,by omega,rfl,rfl,by go_num,HBL2.out⟩
  .go_wp2_with fail
   rw [<-HR.out]
   exact ⟨⟨_,rfl⟩,HBL.out⟩
theorem zb7 {l l':List St} (h:begins l l'=false):¬l'<+:l:=fun hp=>by
 have e:begins l l'=true:=Y3 (List.prefix_iff_eq_take.1 hp).symm
 rw [e] at h;cases h
theorem ze8 (w:World) (l:List Tk) (a:Option Addr) (n c:Nat) (hl:IsToks w w.heap.size l a n c):Calls Tryd.prog 8 #[.slice a n c, .agg #[.int .u8 0, .slice none 0 0, .string { data:= #[] }, .int .i64 0, .int .i64 0, .int .i64 0, .string { data:= #[] }, .slice none 0 0]] w (SomeB w 0):=
 Kr w l a n c hl ⟨0,none,0,0, .empty,0,0,0, .empty,none,0,0⟩ [] ⟨rfl,Nat.le_refl _,by dsimp only;omega,0,0,fun h=>absurd h (by dsimp only;omega),fun i hi=>by cases hi⟩
theorem zdw {w:World} {b:AC} {x:Ac} (h:IsAct w w.heap.size x b) (W:World) (hb:Below w.heap.size w W):IsActs (W.alloc (.cells #[.slice b.pa b.pl b.pc, .int .u8 b.k, .int .i64 b.i, .int .i64 b.j, .int .i64 b.n, .string b.s, .slice b.va b.vl b.vc] 46)) (W.alloc (.cells #[.slice b.pa b.pl b.pc, .int .u8 b.k, .int .i64 b.i, .int .i64 b.j, .int .i64 b.n, .string b.s, .slice b.va b.vl b.vc] 46)).heap.size [x] (some ⟨W.heap.size,0,none⟩) 1 1:=by
 have hB:=BC.start W #[.slice b.pa b.pl b.pc, .int .u8 b.k, .int .i64 b.i, .int .i64 b.j, .int .i64 b.n, .string b.s, .slice b.va b.vl b.vc] 46
 have h2:IsAct (W.alloc (.cells #[.slice b.pa b.pl b.pc, .int .u8 b.k, .int .i64 b.i, .int .i64 b.j, .int .i64 b.n, .string b.s, .slice b.va b.vl b.vc] 46)) (W.alloc (.cells #[.slice b.pa b.pl b.pc, .int .u8 b.k, .int .i64 b.i, .int .i64 b.j, .int .i64 b.n, .string b.s, .slice b.va b.vl b.vc] 46)).heap.size x b:=((h.keep hb).more hb.size|>.keep (Zi W _)).more (Zi W _).size
 exact ⟨rfl,Nat.le_refl _,by omega,W.heap.size,0,fun _=>b,fun _=>⟨rfl,hB.lt⟩,fun i hi=>by
  have h0:i=0:=by simpa using hi
  subst h0
  exact ⟨⟨hB.at_ 0 _ rfl,hB.at_ 1 _ rfl,hB.at_ 2 _ rfl,hB.at_ 3 _ rfl,hB.at_ 4 _ rfl,hB.at_ 5 _ rfl,hB.at_ 6 _ rfl⟩,h2⟩⟩
set_option maxRecDepth 100000 in
theorem zjp (w:World) (hT:Tabs w) (l:List Tk) (a:Option Addr) (n c:Nat) (hl:IsToks w w.heap.size l a n c) (b:AC) (x:Ac) (ha:IsAct w w.heap.size x b) (bs:List UInt8) (qa:Option Addr) (qn qc:Nat) (hq:IsB w w.heap.size qa qn qc bs):
 Calls Tryd.prog 4 #[.slice a n c, .agg #[.slice b.pa b.pl b.pc, .int .u8 b.k, .int .i64 b.i, .int .i64 b.j, .int .i64 b.n, .string b.s, .slice b.va b.vl b.vc], .slice qa qn qc] w fun e w'=>e= .returned (.bool true)/\Below w.heap.size w w':=by
 have HQ:=qh hq
 have hqm:=hq.max;have hqc:=hq.cap
 clear hq
 have HL:=qh hl
 have HAC:=qh ha
 have HTT:=qh hT
 have HKN:Hid (∀W,Below w.heap.size w W->Calls Tryd.prog 9 #[] W fun e w'=>e= .returned (.bool true)/\Below W.heap.size W w'):=qh fun W hW=>Jq W (hT.below hW)
 have HB0:=qh (BC.start w #[.slice b.pa b.pl b.pc, .int .u8 b.k, .int .i64 b.i, .int .i64 b.j, .int .i64 b.n, .string b.s, .slice b.va b.vl b.vc] 46)
 have HA0:=qh (Zi w (.cells #[.slice b.pa b.pl b.pc, .int .u8 b.k, .int .i64 b.i, .int .i64 b.j, .int .i64 b.n, .string b.s, .slice b.va b.vl b.vc] 46))
 have HHV:Hid (Calls Tryd.prog 8 #[.slice a n c, .agg #[.int .u8 0, .slice none 0 0, .string { data:= #[] }, .int .i64 0, .int .i64 0, .int .i64 0, .string { data:= #[] }, .slice none 0 0]] (w.alloc (.cells #[.slice b.pa b.pl b.pc, .int .u8 b.k, .int .i64 b.i, .int .i64 b.j, .int .i64 b.n, .string b.s, .slice b.va b.vl b.vc] 46)) (SomeB (w.alloc (.cells #[.slice b.pa b.pl b.pc, .int .u8 b.k, .int .i64 b.i, .int .i64 b.j, .int .i64 b.n, .string b.s, .slice b.va b.vl b.vc] 46)) 0)):=qh (ze8 _ l a n c (hl.later_ HA0.out))
 clear hl ha hT
 go_enter Tryd.func4,Tryd.ntmps4
 go_wp2_with fail
 refine HHV.out.mono ?_
 rintro e w1 ⟨⟨h,rfl,_⟩,hb1⟩
 have hB1:=HB0.out.keep hb1 (by simp)
 have HA1:=qh (HA0.out.trans (hb1.mono HA0.out.size))
 have b0:=hB1.at_ 0 _ rfl;have b1:=hB1.at_ 1 _ rfl;have b2:=hB1.at_ 2 _ rfl;have b3:=hB1.at_ 3 _ rfl;have b4:=hB1.at_ 4 _ rfl;have b5:=hB1.at_ 5 _ rfl;have b6:=hB1.at_ 6 _ rfl;have zb:=hB1.lt
 have HB1:=qh hB1
 clear hB1 hb1 HHV HB0 HA0
 cases h with
 | true=>
   go_wp2_with fail
   refine (HKN.out _ HA1.out).mono ?_
   rintro e wk ⟨rfl,hbk⟩
   have HAk:=qh (HA1.out.trans (hbk.mono HA1.out.size))
   clear hbk
   go_wp2_with fail
   go_returns
   exact ⟨rfl,HAk.out⟩
 |false=>
 go_wp2_with fail
 refine (zd0 _ _ _ _ _ (zdw HAC.out w1 HA1.out)).mono ?_
 rintro e w2 ⟨⟨z,rfl⟩,hb2⟩
 have hb12:Below w1.heap.size w1 w2:=(Zi w1 _).trans (hb2.mono (by simp))
 have hB2:=HB1.out.keep hb12 HB1.out.lt
 have HA2:=qh (HA1.out.trans (hb12.mono HA1.out.size))
 clear b0 b1 b2 b3 b4 b5 b6 zb
 have b0:=hB2.at_ 0 _ rfl;have b1:=hB2.at_ 1 _ rfl;have b2:=hB2.at_ 2 _ rfl;have b3:=hB2.at_ 3 _ rfl;have b4:=hB2.at_ 4 _ rfl;have b5:=hB2.at_ 5 _ rfl;have b6:=hB2.at_ 6 _ rfl;have zb:=hB2.lt
 have HB2:=qh hB2
 clear hB2 hb2 hb12 HB1
 by_cases hz:(3000:Int)<z
 .go_wp2_with fail
  refine (HKN.out _ HA2.out).mono ?_
  rintro e wk ⟨rfl,hbk⟩
  have HAk:=qh (HA2.out.trans (hbk.mono HA2.out.size))
  clear hbk
  go_wp2_with fail
  go_returns
  exact ⟨rfl,HAk.out⟩
 by_cases hqz:(20:Int)<(qn:Int)
 .go_wp2_with fail
  refine (HKN.out _ HA2.out).mono ?_
  rintro e wk ⟨rfl,hbk⟩
  have HAk:=qh (HA2.out.trans (hbk.mono HA2.out.size))
  clear hbk
  go_wp2_with fail
  go_returns
  exact ⟨rfl,HAk.out⟩
 go_wp2_with fail
 refine (HKN.out _ HA2.out).mono ?_
 rintro e w3 ⟨rfl,hb3⟩
 have hB3:=HB2.out.keep hb3 HB2.out.lt
 have HA3:=qh (HA2.out.trans (hb3.mono HA2.out.size))
 clear b0 b1 b2 b3 b4 b5 b6 zb
 have b0:=hB3.at_ 0 _ rfl;have b1:=hB3.at_ 1 _ rfl;have b2:=hB3.at_ 2 _ rfl;have b3:=hB3.at_ 3 _ rfl;have b4:=hB3.at_ 4 _ rfl;have b5:=hB3.at_ 5 _ rfl;have b6:=hB3.at_ 6 _ rfl;have zb:=hB3.lt
 have HB3:=qh hB3
 clear hB3 hb3 HB2 HKN
 go_wp2_with fail
 refine (Yf w3 l a n c (HL.out.later_ HA3.out)).mono ?_
 rintro e w4 ⟨⟨cv,rfl,hv4⟩,hb4⟩
 obtain ⟨V0,hV0⟩:∃V0,(oneP 6 (l.take 60)).1=V0:=⟨_,rfl⟩
 have HLT:Hid (V0.weight<=20000/\V0.sound=true):=qh (by rw [<-hV0];exact ⟨(Xg l).2.1,(Xg l).2.2.2.1⟩)
 have HLW:Hid (V.Low V0):=qh (by rw [<-hV0];exact J9 6 _)
 rw [hV0] at hv4
 have hB4:=HB3.out.keep hb4 HB3.out.lt
 have HA4:=qh (HA3.out.trans (hb4.mono HA3.out.size))
 have HV4:Hid (IsVal w4 w4.heap.size V0 cv):=qh (hv4.sub (Zn _ _ _))
 clear b0 b1 b2 b3 b4 b5 b6 zb
 have b0:=hB4.at_ 0 _ rfl;have b1:=hB4.at_ 1 _ rfl;have b2:=hB4.at_ 2 _ rfl;have b3:=hB4.at_ 3 _ rfl;have b4:=hB4.at_ 4 _ rfl;have b5:=hB4.at_ 5 _ rfl;have b6:=hB4.at_ 6 _ rfl;have zb:=hB4.lt
 have HB4:=qh hB4
 clear hb4 hB4 HB3 hv4 hV0 HL
 go_wp2_with fail
 have hONE:=zm3 (w4.alloc (.cells #[.int .u8 cv.k, .int .i64 cv.n, .string cv.s, .slice cv.la cv.ll cv.lc, .slice cv.oa cv.ol cv.oc] 31)) cv.k cv.n cv.s cv.la cv.ll cv.lc cv.oa cv.ol cv.oc V0 (HV4.out.later_ (Zi w4 _)) (by have:=HLT.out.1;omega) b x (((HAC.out.keep HA4.out).more HA4.out.size|>.keep (Zi w4 _)).more (Zi w4 _).size)
 refine hONE.mono ?_
 rintro e w5 ⟨⟨cc,hcc⟩,hb5⟩
 clear hONE
 have hb45:Below w4.heap.size w4 w5:=(Zi w4 _).trans (hb5.mono (by simp))
 have hbv5:BC w5 w4.heap.size (vcells cv):=(BC.start w4 #[.int .u8 cv.k, .int .i64 cv.n, .string cv.s, .slice cv.la cv.ll cv.lc, .slice cv.oa cv.ol cv.oc] 31).keep hb5 (by simp)
 have HA5:=qh (HA4.out.trans (hb45.mono HA4.out.size))
 have HV5:=qh (HV4.out.later_ hb45)
 clear b0 b1 b2 b3 b4 b5 b6 zb
 have v0:=hbv5.at_ 0 _ rfl;have v1:=hbv5.at_ 1 _ rfl;have v2:=hbv5.at_ 2 _ rfl;have v3:=hbv5.at_ 3 _ rfl;have v4:=hbv5.at_ 4 _ rfl;have zv:=hbv5.lt
 have HBV5:=qh hbv5
 clear hb5 hb45 hbv5 HB4 HV4
 cases hone:oneC V0 x with
 | none=>
   rw [hone] at hcc
   obtain rfl:=hcc
   clear hone
   go_wp2_with fail
   have hW5:=J6 (w5.alloc (.cells #[.int .u8 cc.k, .slice cc.pa cc.pl cc.pc, .string cc.key, .int .i64 cc.i, .int .i64 cc.j, .int .i64 cc.n, .int .u8 cc.v.k, .int .i64 cc.v.n, .string cc.v.s, .slice cc.v.la cc.v.ll cc.v.lc, .slice cc.v.oa cc.v.ol cc.v.oc, .string cc.s] 34)) cv.k cv.n cv.s cv.la cv.ll cv.lc cv.oa cv.ol cv.oc V0 (HV5.out.later_ (Zi w5 _)) bs qa qn qc ((HQ.out.keep (HA5.out.trans ((Zi w5 _).mono HA5.out.size))).more (HA5.out.trans ((Zi w5 _).mono HA5.out.size)).size)
   refine hW5.mono ?_
   rintro e w6 ⟨⟨sa,sn,sc,rfl,_⟩,hb6⟩
   have HA6:=qh (HA5.out.trans (((Zi w5 _).trans (hb6.mono (by simp))).mono HA5.out.size))
   clear hb6 hW5
   go_wp2_with fail
   go_returns
   exact ⟨rfl,HA6.out⟩
 |some cm=>
 rw [hone] at hcc
 obtain ⟨rfl,hc⟩:=hcc
 obtain ⟨hck,hpath⟩:=zm8 HLT.out.2 HLW.out hone
 have hsm:=zfn hone
 have hc5:IsComp w5 w5.heap.size cm cc:=IsComp.sub (Zn _ _ _) hc
 have HC5:=qh hc5
 have HCK:=qh hck;have HPT:=qh hpath;have HSM:=qh hsm
 clear hc hc5 hck hpath hsm hone
 go_wp2_with fail
 have hW5:=J6 (w5.alloc (.cells #[.int .u8 cc.k, .slice cc.pa cc.pl cc.pc, .string cc.key, .int .i64 cc.i, .int .i64 cc.j, .int .i64 cc.n, .int .u8 cc.v.k, .int .i64 cc.v.n, .string cc.v.s, .slice cc.v.la cc.v.ll cc.v.lc, .slice cc.v.oa cc.v.ol cc.v.oc, .string cc.s] 34)) cv.k cv.n cv.s cv.la cv.ll cv.lc cv.oa cv.ol cv.oc V0 (HV5.out.later_ (Zi w5 _)) bs qa qn qc ((HQ.out.keep (HA5.out.trans ((Zi w5 _).mono HA5.out.size))).more (HA5.out.trans ((Zi w5 _).mono HA5.out.size)).size)
 refine hW5.mono ?_
 rintro e w6 ⟨⟨sa,sn,sc,rfl,hst⟩,hb6⟩
 clear hW5
 obtain ⟨q,hqq⟩:∃q,walkP V0 (bs.take 8)=q:=⟨_,rfl⟩
 rw [hqq] at hst
 have hst6:IsSteps w6 w6.heap.size q sa sn sc:=hst.sub (Zn _ _ _)
 have hb56:Below w5.heap.size w5 w6:=(Zi w5 _).trans (hb6.mono (by simp))
 have hbc6:BC w6 w5.heap.size (ccells cc):=(BC.start w5 #[.int .u8 cc.k, .slice cc.pa cc.pl cc.pc, .string cc.key, .int .i64 cc.i, .int .i64 cc.j, .int .i64 cc.n, .int .u8 cc.v.k, .int .i64 cc.v.n, .string cc.v.s, .slice cc.v.la cc.v.ll cc.v.lc, .slice cc.v.oa cc.v.ol cc.v.oc, .string cc.s] 34).keep hb6 (by simp)
 have hbv6:=HBV5.out.keep hb56 HBV5.out.lt
 have HA6:=qh (HA5.out.trans (hb56.mono HA5.out.size))
 have HV6:=qh (HV5.out.later_ hb56)
 have hc6:=HC5.out.later_ hb56
 have HST6:=qh hst6
 have HQQ:=qh hqq
 clear v0 v1 v2 v3 v4 zv
 have v0:=hbv6.at_ 0 _ rfl;have v1:=hbv6.at_ 1 _ rfl;have v2:=hbv6.at_ 2 _ rfl;have v3:=hbv6.at_ 3 _ rfl;have v4:=hbv6.at_ 4 _ rfl;have zv:=hbv6.lt
 have c0:=hbc6.at_ 0 _ rfl;have c1:=hbc6.at_ 1 _ rfl;have c2:=hbc6.at_ 2 _ rfl;have c3:=hbc6.at_ 3 _ rfl;have c4:=hbc6.at_ 4 _ rfl;have c5:=hbc6.at_ 5 _ rfl;have c6:=hbc6.at_ 6 _ rfl;have c7:=hbc6.at_ 7 _ rfl;have c8:=hbc6.at_ 8 _ rfl;have c9:=hbc6.at_ 9 _ rfl;have c10:=hbc6.at_ 10 _ rfl;have c11:=hbc6.at_ 11 _ rfl;have zc:=hbc6.lt
 have HBV6:=qh hbv6;have HBC6:=qh hbc6
 have HCM:=qh hc6
 cases hc6 with
 |mk cc p xv hcb hp hxv=>
 have HPP:=qh hp
 dsimp only at HPT
 obtain ⟨cmv,hcmv⟩:∃cmv:Cm,(⟨cc.k,p,cc.key,cc.i,cc.j,cc.n,xv,cc.s⟩:Cm)=cmv:=⟨_,rfl⟩
 have HCP:Hid (cmv.path=p):=qh (by rw [<-hcmv])
 have HB1:Hid (∀W,Below w6.heap.size w6 W->Calls Tryd.prog 20 #[.slice sa sn sc, .slice cc.pa cc.pl cc.pc] W fun e w'=>e= .returned (.bool (begins q p))/\Below W.heap.size W w'):=qh fun W hW=>zbd q p W _ _ _ _ _ _ (HST6.out.later_ hW) (HPP.out.later_ hW)
 have HB2:Hid (∀W,Below w6.heap.size w6 W->Calls Tryd.prog 20 #[.slice cc.pa cc.pl cc.pc, .slice sa sn sc] W fun e w'=>e= .returned (.bool (begins p q))/\Below W.heap.size W w'):=qh fun W hW=>zbd p q W _ _ _ _ _ _ (HPP.out.later_ hW) (HST6.out.later_ hW)
 obtain ⟨R,hR⟩:∃R,doP V0 ⟨cc.k,p,cc.key,cc.i,cc.j,cc.n,xv,cc.s⟩=R:=⟨_,rfl⟩
 have hRE:R.2=0:=by rw [<-hR,Ky];exact HCK.out
 have HDO:Hid (∀W,Below w6.heap.size w6 W->Calls Tryd.prog 12 #[.agg #[.int .u8 cv.k, .int .i64 cv.n, .string cv.s, .slice cv.la cv.ll cv.lc, .slice cv.oa cv.ol cv.oc], .agg #[.int .u8 cc.k, .slice cc.pa cc.pl cc.pc, .string cc.key, .int .i64 cc.i, .int .i64 cc.j, .int .i64 cc.n, .int .u8 cc.v.k, .int .i64 cc.v.n, .string cc.v.s, .slice cc.v.la cc.v.ll cc.v.lc, .slice cc.v.oa cc.v.ol cc.v.oc, .string cc.s]] W fun e w'=>(∃d:VC,e= .returned (.tuple #[.agg #[.int .u8 d.k, .int .i64 d.n, .string d.s, .slice d.la d.ll d.lc, .slice d.oa d.ol d.oc], .int .u16 0])/\IsVal (only (fun k=>W.heap.size<=k) w') w'.heap.size R.1 d)/\Below W.heap.size W w'):=qh fun W hW=>by
  have:=X2 W cv.k cv.n cv.s cv.la cv.ll cv.lc cv.oa cv.ol cv.oc V0 (HV6.out.later_ hW) (by have:=HLT.out.1;omega) p xv cc hcb (hp.later_ hW) (hxv.later_ hW) (by have:=HSM.out.sv;dsimp only at this;omega) (fun y hy=>by have:=(Qr p HLW.out hy).few;have:=HSM.out.ss;dsimp only at this;omega) HLT.out.2 (HTT.out.below (HA6.out.trans (hW.mono HA6.out.size)))
  rw [hR] at this
  unfold CDoPost at this
  rw [hRE] at this;exact this
 have HGP:Hid (begins q p=false->begins p q=false->∃y,getP V0 q=some y/\getP R.1 q=some y):=qh fun h1 h2=>by
  obtain ⟨y,hy⟩:=zaa (bs.take 8) (v:=V0) (bs.take 8).length HLT.out.2
  rw [List.take_of_length_le (zlz _ _),HQQ.out] at hy
  obtain ⟨_,y0,hg0,_⟩:=Z5 HCK.out
  dsimp only at hg0
  obtain ⟨z,hz⟩:=Yi p hg0 (doneP y0 ⟨cc.k,p,cc.key,cc.i,cc.j,cc.n,xv,cc.s⟩)
  refine ⟨y,hy, ?_⟩
  have hdz:R.1=z:=by rw [<-hR,Yc HCK.out hg0];show (doneQ (putP V0 p _)).1=z;rw [hz];rfl
  rw [hdz]
  refine zhj p (fun s hs=> ?_) (fun s hs=> ?_) (zb7 h1) (zb7 h2) hy hz
  .rw [HPT.out] at hs
   exact St.ok_neat (Kl _ HLT.out.2 s (zat hs))
  .rw [<-HQQ.out] at hs
   exact St.ok_neat (Kl _ HLT.out.2 s hs)
 have HGT:Hid (∀W,Below w6.heap.size w6 W->Calls Tryd.prog 21 #[.agg #[.int .u8 cv.k, .int .i64 cv.n, .string cv.s, .slice cv.la cv.ll cv.lc, .slice cv.oa cv.ol cv.oc], .slice sa sn sc] W (GetPost W (getP V0 q))):=qh fun W hW=>Y8 W cv.k cv.n cv.s cv.la cv.ll cv.lc cv.oa cv.ol cv.oc V0 (HV6.out.later_ hW) q sa sn sc (HST6.out.later_ hW)
 obtain ⟨g1,hg1⟩:∃g1,begins q p=g1:=⟨_,rfl⟩
 obtain ⟨g2,hg2⟩:∃g2,begins p q=g2:=⟨_,rfl⟩
 rw [hg1] at HB1;rw [hg2] at HB2;rw [hg1,hg2] at HGP
 clear hb6 hb56 hbc6 hbv6 hst hst6 hqq hcb hp hxv hR hRE hcmv HCP HV5 HBV5 HC5 HQQ hg1 hg2 HSM HCM HPT HPP
 go_wp2_with fail
 refine (HB1.out _ (Below.refl _ _)).mono ?_
 rintro e w7 ⟨rfl,hb7⟩
 have hbv7:=HBV6.out.keep hb7 HBV6.out.lt
 have hbc7:=HBC6.out.keep hb7 HBC6.out.lt
 have HA7:=qh (HA6.out.trans (hb7.mono HA6.out.size))
 have HB67:=qh hb7
 clear v0 v1 v2 v3 v4 zv c0 c1 c2 c3 c4 c5 c6 c7 c8 c9 c10 c11 zc
 have v0:=hbv7.at_ 0 _ rfl;have v1:=hbv7.at_ 1 _ rfl;have v2:=hbv7.at_ 2 _ rfl;have v3:=hbv7.at_ 3 _ rfl;have v4:=hbv7.at_ 4 _ rfl;have zv:=hbv7.lt
 have c0:=hbc7.at_ 0 _ rfl;have c1:=hbc7.at_ 1 _ rfl;have c2:=hbc7.at_ 2 _ rfl;have c3:=hbc7.at_ 3 _ rfl;have c4:=hbc7.at_ 4 _ rfl;have c5:=hbc7.at_ 5 _ rfl;have c6:=hbc7.at_ 6 _ rfl;have c7:=hbc7.at_ 7 _ rfl;have c8:=hbc7.at_ 8 _ rfl;have c9:=hbc7.at_ 9 _ rfl;have c10:=hbc7.at_ 10 _ rfl;have c11:=hbc7.at_ 11 _ rfl;have zc:=hbc7.lt
 have HBV7:=qh hbv7;have HBC7:=qh hbc7
 clear hb7 hbv7 hbc7 HBV6 HBC6
 cases g1 with
 | true=>
   go_wp2_with fail
   go_returns
   exact ⟨rfl,HA7.out⟩
 |false=>
 go_wp2_with fail
 refine (HB2.out _ HB67.out).mono ?_
 rintro e w8 ⟨rfl,hb8⟩
 have hbv8:=HBV7.out.keep hb8 HBV7.out.lt
 have hbc8:=HBC7.out.keep hb8 HBC7.out.lt
 have HA8:=qh (HA7.out.trans (hb8.mono HA7.out.size))
 have HB68:=qh (HB67.out.trans (hb8.mono HB67.out.size))
 clear v0 v1 v2 v3 v4 zv c0 c1 c2 c3 c4 c5 c6 c7 c8 c9 c10 c11 zc
 have v0:=hbv8.at_ 0 _ rfl;have v1:=hbv8.at_ 1 _ rfl;have v2:=hbv8.at_ 2 _ rfl;have v3:=hbv8.at_ 3 _ rfl;have v4:=hbv8.at_ 4 _ rfl;have zv:=hbv8.lt
 have c0:=hbc8.at_ 0 _ rfl;have c1:=hbc8.at_ 1 _ rfl;have c2:=hbc8.at_ 2 _ rfl;have c3:=hbc8.at_ 3 _ rfl;have c4:=hbc8.at_ 4 _ rfl;have c5:=hbc8.at_ 5 _ rfl;have c6:=hbc8.at_ 6 _ rfl;have c7:=hbc8.at_ 7 _ rfl;have c8:=hbc8.at_ 8 _ rfl;have c9:=hbc8.at_ 9 _ rfl;have c10:=hbc8.at_ 10 _ rfl;have c11:=hbc8.at_ 11 _ rfl;have zc:=hbc8.lt
 have HBV8:=qh hbv8;have HBC8:=qh hbc8
 clear hb8 hbv8 hbc8 HBV7 HBC7
 cases g2 with
 | true=>
   go_wp2_with fail
   go_returns
   exact ⟨rfl,HA8.out⟩
 |false=>
 obtain ⟨y,hy1,hy2⟩:=HGP.out (by simp) (by simp)
 rw [hy1] at HGT
 have HY2:=qh hy2
 clear hy1 hy2 HGP HB1 HB2
 go_wp2_with fail
 refine (HDO.out _ HB68.out).mono ?_
 rintro e w9 ⟨⟨d,rfl,hd⟩,hb9⟩
 have hbv9:=HBV8.out.keep hb9 HBV8.out.lt
 have HA9:=qh (HA8.out.trans (hb9.mono HA8.out.size))
 have HB69:=qh (HB68.out.trans (hb9.mono HB68.out.size))
 have HD9:Hid (IsVal w9 w9.heap.size R.1 d):=qh (hd.sub (Zn _ _ _))
 clear v0 v1 v2 v3 v4 zv c0 c1 c2 c3 c4 c5 c6 c7 c8 c9 c10 c11 zc
 have v0:=hbv9.at_ 0 _ rfl;have v1:=hbv9.at_ 1 _ rfl;have v2:=hbv9.at_ 2 _ rfl;have v3:=hbv9.at_ 3 _ rfl;have v4:=hbv9.at_ 4 _ rfl;have zv:=hbv9.lt
 clear hb9 hbv9 hd HDO HBV8 HBC8
 go_wp2_with fail
 refine (HGT.out _ (HB69.out.trans ((Zi w9 _).mono HB69.out.size))).mono ?_
 rintro e w10 ⟨⟨xv1,rfl,hx1⟩,hb10⟩
 have hb910:Below w9.heap.size w9 w10:=(Zi w9 _).trans (hb10.mono (by simp))
 have hbd10:BC w10 w9.heap.size (vcells d):=(BC.start w9 #[.int .u8 d.k, .int .i64 d.n, .string d.s, .slice d.la d.ll d.lc, .slice d.oa d.ol d.oc] 31).keep hb10 (by simp)
 have HA10:=qh (HA9.out.trans (hb910.mono HA9.out.size))
 have HB610:=qh (HB69.out.trans (hb910.mono HB69.out.size))
 have HD10:=qh (HD9.out.later_ hb910)
 have HX10:Hid (IsVal w10 w10.heap.size y xv1):=qh (hx1.sub (Zn _ _ _))
 clear v0 v1 v2 v3 v4 zv
 have d0:=hbd10.at_ 0 _ rfl;have d1:=hbd10.at_ 1 _ rfl;have d2:=hbd10.at_ 2 _ rfl;have d3:=hbd10.at_ 3 _ rfl;have d4:=hbd10.at_ 4 _ rfl;have zd:=hbd10.lt
 clear hb10 hb910 hbd10 hx1 HD9 HGT
 go_wp2_with fail
 have hgy:=Y8 (w10.alloc (.cells #[.int .u8 xv1.k, .int .i64 xv1.n, .string xv1.s, .slice xv1.la xv1.ll xv1.lc, .slice xv1.oa xv1.ol xv1.oc] 31)) d.k d.n d.s d.la d.ll d.lc d.oa d.ol d.oc R.1 (HD10.out.later_ (Zi w10 _)) q sa sn sc (HST6.out.later_ (HB610.out.trans ((Zi w10 _).mono HB610.out.size)))
 rw [HY2.out] at hgy
 refine hgy.mono ?_
 clear hgy
 rintro e w11 ⟨⟨yv,rfl,hyv⟩,hb11⟩
 have hb1011:Below w10.heap.size w10 w11:=(Zi w10 _).trans (hb11.mono (by simp))
 have hbx11:BC w11 w10.heap.size (vcells xv1):=(BC.start w10 #[.int .u8 xv1.k, .int .i64 xv1.n, .string xv1.s, .slice xv1.la xv1.ll xv1.lc, .slice xv1.oa xv1.ol xv1.oc] 31).keep hb11 (by simp)
 have HA11:=qh (HA10.out.trans (hb1011.mono HA10.out.size))
 have hx11:=HX10.out.later_ hb1011
 have hy11:IsVal w11 w11.heap.size y yv:=hyv.sub (Zn _ _ _)
 have HSA:Hid (Calls Tryd.prog 16 #[.agg #[.int .u8 xv1.k, .int .i64 xv1.n, .string xv1.s, .slice xv1.la xv1.ll xv1.lc, .slice xv1.oa xv1.ol xv1.oc], .agg #[.int .u8 yv.k, .int .i64 yv.n, .string yv.s, .slice yv.la yv.ll yv.lc, .slice yv.oa yv.ol yv.oc]] (w11.alloc (.cells #[.int .u8 yv.k, .int .i64 yv.n, .string yv.s, .slice yv.la yv.ll yv.lc, .slice yv.oa yv.ol yv.oc] 31)) fun e w'=>e= .returned (.bool true)/\Below (w11.alloc (.cells #[.int .u8 yv.k, .int .i64 yv.n, .string yv.s, .slice yv.la yv.ll yv.lc, .slice yv.oa yv.ol yv.oc] 31)).heap.size (w11.alloc (.cells #[.int .u8 yv.k, .int .i64 yv.n, .string yv.s, .slice yv.la yv.ll yv.lc, .slice yv.oa yv.ol yv.oc] 31)) w'):=qh (by
  have:=Xq y y (w11.alloc (.cells #[.int .u8 yv.k, .int .i64 yv.n, .string yv.s, .slice yv.la yv.ll yv.lc, .slice yv.oa yv.ol yv.oc] 31)) xv1 yv (hx11.later_ (Zi w11 _)) (hy11.later_ (Zi w11 _))
  rw [Xb rfl] at this;exact this)
 clear d0 d1 d2 d3 d4 zd
 have e0:=hbx11.at_ 0 _ rfl;have e1:=hbx11.at_ 1 _ rfl;have e2:=hbx11.at_ 2 _ rfl;have e3:=hbx11.at_ 3 _ rfl;have e4:=hbx11.at_ 4 _ rfl;have ze:=hbx11.lt
 clear hb11 hb1011 hbx11 hx11 hy11 hyv
 go_wp2_with fail
 refine HSA.out.mono ?_
 rintro e w12 ⟨rfl,hb12⟩
 have HA12:=qh (HA11.out.trans (((Zi w11 _).trans (hb12.mono (by simp))).mono HA11.out.size))
 clear hb12
 go_wp2_with fail
 go_returns
 exact ⟨rfl,HA12.out⟩
end Go.Proofs.YtfoahkbnheijcaaDoor
namespace Go.Proofs.YtfoahkbnheijcaaDoor
open Go.Shelf
open Go.ChangeShapes Go.WideShapes Go.ChangeAt Go.RowKit Go.Lib
set_option maxHeartbeats 2000000
theorem rowCompApartOwn:ownKnob Tryd.prog.godebug=none:=by kernel_rfl
theorem rowCompApartLaidOut:laidOutB Tryd.prog=true:=by kernel_rfl
noncomputable def rowCompApartWorld (os:Os):World:=
 let w0:=World.holding Tryd.prog os ⟨#[], #[], []⟩
 let put (h:Array Obj) (g:Nat) (cs:Array Value):Array Obj:=h.modify g fun
  | .cells _ t frozen=> .cells cs t frozen
  |o=>o
 let h1:=put w0.heap 0 (Lib.firstTab.map fun z=>Value.int .u8 z).toArray
 let h2:=put h1 1 ((List.range 16).flatMap fun i=> [Value.int .u8 (Lib.accLo i),Value.int .u8 (Lib.accHi i)]).toArray
 { w0 with heap:=h2 }
theorem rowCompApartAccept:Rows.laid_unicode_utf8_acceptRanges (H:=Unit)=Lib.acceptData:=by kernel_rfl
theorem rowCompApartLaid : Rows.compApartRow.laid = [("unicode/utf8.acceptRanges", Lib.acceptData), ("unicode/utf8.first", Lib.firstData)] := by
 show [("unicode/utf8.acceptRanges", Rows.laid_unicode_utf8_acceptRanges), ("unicode/utf8.first", Go.Pinned.utf8First)] = _
 rw [Pinned.utf8First_eq,rowCompApartAccept]
theorem rowCompApartLaidMet (os:Os) (args:Array Value):laidMet Tryd.prog Rows.compApartRow.laid ((rowCompApartWorld os).forCall (fun _ _=>0) ⟨#[],args, []⟩).memory:=by
 rw [rowCompApartLaid]
 exact (LaidIn.of_run (l := [("unicode/utf8.acceptRanges", Lib.acceptData), ("unicode/utf8.first", Lib.firstData)]) [0, 1] 8 (by kernel_rfl) (by kernel_rfl) (by kernel_rfl) (by kernel_rfl)).met
theorem rowCompApartWitness (os:Os) {H:Type} (enc:TypeId×Value->H):
 (OpenSpec.ofChange Rows.compApartSpec).preRow enc Tryd.prog Tryd.f4 Rows.compApartRow.domain false Rows.compApartRow.laid ((rowCompApartWorld os).forCall (fun _ _=>0) ⟨#[], #[.slice none 0 0, .agg #[.slice none 0 0, .int .u8 0, .int .i64 0, .int .i64 0, .int .i64 0, .string { data:= #[] }, .slice none 0 0], .slice none 0 0], []⟩).memory #[.slice none 0 0, .agg #[.slice none 0 0, .int .u8 0, .int .i64 0, .int .i64 0, .int .i64 0, .string { data:= #[] }, .slice none 0 0], .slice none 0 0] :=by
 have hw:(DataW.whole enc Tryd.prog ((rowCompApartWorld os).forCall (fun _ _=>0) ⟨#[], #[.slice none 0 0, .agg #[.slice none 0 0, .int .u8 0, .int .i64 0, .int .i64 0, .int .i64 0, .string { data:= #[] }, .slice none 0 0], .slice none 0 0], []⟩).memory Tryd.f4.params.toList (OpenSpec.ofChange Rows.compApartSpec).vars false #[Value.slice none 0 0, .agg #[.slice none 0 0, .int .u8 0, .int .i64 0, .int .i64 0, .int .i64 0, .string { data:= #[] }, .slice none 0 0], .slice none 0 0].toList 8).map (fun x=>(x.1,x.2.1))=
  some ([.nil, .agg [.nil, .lit (.int .u8 0), .lit (.int .i64 0), .lit (.int .i64 0), .lit (.int .i64 0), .lit (.string []), .nil], .nil], []):=by kernel_rfl
 obtain ⟨⟨x1,x2,x3⟩,hx,hx1⟩:=Option.map_eq_some_iff.1 hw
 simp only [Prod.mk.injEq] at hx1
 obtain ⟨rfl,rfl⟩:=hx1
 exact OpenSpec.preRow_of_cond 8 hx (by kernel_rfl) (fun k hk=>by cases hk) (by kernel_rfl) (rowCompApartLaidMet os _)
set_option maxRecDepth 100000 in
theorem rowAptToks {H:Type} {enc:TypeId×Value->H} {W:World} {base:Nat} {v1:Value} {d1:DataW H} {p1:List MemPlace} (hval:Value.okWide Tryd.prog W .any base 22 v1) (h1:DataW.Trod enc Tryd.prog W 0 (fun _=>true) true 22 v1 d1 p1) (hz:∀n ∈ d1.weights Tryd.prog 22,n<=reachBytes):
 ∃(a:Option Addr) (n c:Nat) (l:List Tk),v1= .slice a n c/\IsToks W W.heap.size l a n c:=by
 obtain ⟨a1,len,cap,rfl⟩:=okWide_slice Tryd.underlying22 hval
 obtain ⟨fuel,hf⟩:=h1
 obtain ⟨a,n,c,l,hcs,hI⟩:=Qk hf hz
 simp [Value.cells] at hcs
 obtain ⟨rfl,rfl,rfl⟩:=hcs
 exact ⟨_,_,_,l,rfl,hI⟩
set_option maxRecDepth 100000 in
theorem rowAptAct {H:Type} {enc:TypeId×Value->H} {W:World} {base:Nat} {v1:Value} {d1:DataW H} {p1:List MemPlace} (hval:Value.okWide Tryd.prog W .any base 46 v1) (h1:DataW.Trod enc Tryd.prog W 0 (fun _=>true) true 46 v1 d1 p1) (hz:∀n ∈ d1.weights Tryd.prog 46,n<=reachBytes):
 ∃(c:AC) (b:Ac),v1= .agg (acells c).toArray/\IsAct W W.heap.size b c:=by
 obtain ⟨cs,rfl,_⟩:=okWide_struct Tryd.underlying46 hval
 obtain ⟨fuel,hf⟩:=h1
 obtain ⟨c,b,hcs,h2⟩:=zjt hf hz
 refine ⟨c,b, ?_,h2⟩
 have h5:cs.toList=acells c:=by simpa [Value.cells] using hcs
 rw [<-h5]
set_option maxRecDepth 100000 in
theorem rowAptBytes {H:Type} {enc:TypeId×Value->H} {W:World} {base:Nat} {v1:Value} {d1:DataW H} {p1:List MemPlace} (hval:Value.okWide Tryd.prog W .any base 44 v1) (h1:DataW.Trod enc Tryd.prog W 0 (fun _=>true) true 44 v1 d1 p1) (hz:∀n ∈ d1.weights Tryd.prog 44,n<=reachBytes):
 ∃(a:Option Addr) (n c:Nat) (l:List UInt8),v1= .slice a n c/\IsB W W.heap.size a n c l:=by
 obtain ⟨a1,len,cap,rfl⟩:=okWide_slice Tryd.underlying44 hval
 obtain ⟨fuel,hf⟩:=h1
 obtain ⟨a,n,c,l,hcs,hI⟩:=zba hf hz
 simp [Value.cells] at hcs
 obtain ⟨rfl,rfl,rfl⟩:=hcs
 exact ⟨_,_,_,l,rfl,hI⟩
set_option maxRecDepth 100000 in
theorem rowCompApartLifted (os:Os) (started:os.Started) (H:Type) (enc:TypeId×Value->H) (F:Stop.Interp):
 ReturnsInHanded {} Tryd.checked os 4 .any ((OpenSpec.ofChange Rows.compApartSpec).preRow enc Tryd.prog Tryd.f4 Rows.compApartRow.domain false Rows.compApartRow.laid) (((OpenSpec.ofChange Rows.compApartSpec).at F).post enc Tryd.prog Tryd.f4 false true false false):=by
 refine returnsInHanded_of_row (C:=Tryd.checked) (s:=OpenSpec.ofChange Rows.compApartSpec) rowCompApartOwn started (by kernel_rfl) Tryd.func4
  (witness_row_atRef (enc:=enc) (C:=Tryd.checked) false (rowCompApartWorld os) #[.slice none 0 0, .agg #[.slice none 0 0, .int .u8 0, .int .i64 0, .int .i64 0, .int .i64 0, .string { data:= #[] }, .slice none 0 0], .slice none 0 0] rfl (by kernel_rfl) (by kernel_rfl) (by kernel_rfl) (rowCompApartWitness os enc)) ?_
 intro W base args ds gs before hval0 hW _ _ hsz hL _ _
 have hval:∀(j:Nat) t v,Tryd.f4.params[j]? =some t->args[j]? =some v->Value.okWide Tryd.prog W .any base t v:=hval0
 have hW':=hW
 obtain ⟨p,q,hA0,hV0,rfl,_,_⟩:=hW
 have hA:DataW.TrodAll enc Tryd.prog W 0 (fun _=>true) true Tryd.f4.params.toList args.toList ds p:=hA0
 rw [Tryd.params4] at hA hval
 obtain ⟨v0,v1,v2,d0,d1,d2,p0,p1,p2,rfl,rfl,rfl,h0,h1,h2⟩:=trodAll_three hA
 obtain ⟨rfl,rfl⟩:=trodVars_none hV0
 have k0:=h0
 have lt0:∀x ∈ p0,x.block<W.heap.size:=by obtain ⟨m,hm⟩:=k0;exact DataW.trod_lt m _ _ _ hm
 have k1:=h1
 have lt1:∀x ∈ p1,x.block<W.heap.size:=by obtain ⟨m,hm⟩:=k1;exact DataW.trod_lt m _ _ _ hm
 have k2:=h2
 have lt2:∀x ∈ p2,x.block<W.heap.size:=by obtain ⟨m,hm⟩:=k2;exact DataW.trod_lt m _ _ _ hm
 have hz0:∀n ∈ d0.weights Tryd.prog 22,n<=reachBytes:=fun n hn=>by
  have:=List.all_eq_true.1 hsz _ (DataW.weights_mem_each (j:=0) (t:=22) (d:=d0) rfl rfl n hn)
  simpa using this
 obtain ⟨a0,n0,c0,l0,rfl,hI0⟩:=rowAptToks (hval 0 22 v0 rfl rfl) h0 hz0
 have hz1:∀n ∈ d1.weights Tryd.prog 46,n<=reachBytes:=fun n hn=>by
  have:=List.all_eq_true.1 hsz _ (DataW.weights_mem_each (j:=1) (t:=46) (d:=d1) rfl rfl n hn)
  simpa using this
 obtain ⟨b1,x1,rfl,hI1⟩:=rowAptAct (hval 1 46 v1 rfl rfl) h1 hz1
 have hz2:∀n ∈ d2.weights Tryd.prog 44,n<=reachBytes:=fun n hn=>by
  have:=List.all_eq_true.1 hsz _ (DataW.weights_mem_each (j:=2) (t:=44) (d:=d2) rfl rfl n hn)
  simpa using this
 obtain ⟨a2,n2,c2,l2,rfl,hI2⟩:=rowAptBytes (hval 2 44 v2 rfl rfl) h2 hz2
 clear hA0 hV0 hval0
 have htab:Tabs W:=
  utf8Tabs_of_readsT (U8Types.of196 Tryd.lays196) ⟨by kernel_rfl,by kernel_rfl,by kernel_rfl,by kernel_rfl,by kernel_rfl,by kernel_rfl,by kernel_rfl⟩ (by rw [<-Pinned.utf8First_eq];exact Lib.laidMet.reads hL (.tail _ (.head _))) (Lib.laidMet.reads hL (.head _))
 refine (zjp W htab l0 a0 n0 c0 hI0 b1 x1 hI1 l2 a2 n2 c2 hI2).mono fun e W' ⟨he,bel⟩=> ?_
 subst he
 exact ⟨_,rfl,_,_,_, [],_, [],hW',trodAll_mk1 (shut_bool Tryd.underlying4 _),trodAll_cons_mk (Below.trod rowCompApartLaidOut (by kernel_rfl) (of_decide_eq_true (by kernel_rfl)) k0 bel lt0) (trodAll_cons_mk (Below.trod rowCompApartLaidOut (by kernel_rfl) (of_decide_eq_true (by kernel_rfl)) k1 bel lt1) (trodAll_cons_mk (Below.trod rowCompApartLaidOut (by kernel_rfl) (of_decide_eq_true (by kernel_rfl)) k2 bel lt2) trodAll_mk0)),rfl,bel.frame _,fun h=>by cases h⟩
theorem rowCompApartRowHolds:Rows.CompApartSaid:=
 OpenClaim.holds_of_cond 4 Tryd.f4 rfl rfl rfl rfl rfl rfl rfl ⟨rfl,rfl,rfl,rfl,rfl⟩ rfl rfl rfl rfl rfl (by kernel_rfl) Tryd.func4 (by kernel_rfl)
  (of_decide_eq_true (by kernel_rfl)) (by unfold Func.isWrapper;rw [if_neg (of_decide_eq_false (by kernel_rfl))];exact ⟨rfl,rfl⟩)
  (fun os started H enc _ F0=>by rw [OpenClaim.pre_eq_preRow];exact rowCompApartLifted os started H enc F0)
theorem compApart_holds:Rows.CompApartCardSaid:=
 Claim7.holds_tied_plain_at .later [] [.data, .pinned] true _ false
  rowCompApartRowHolds (fun _ h=>by cases h) (by kernel_rfl) (fun _ h=>by cases h) compApart_row_tie rfl ⟨rfl,rfl⟩ (by kernel_rfl) rfl
  (fun f fn hf hfn=>by
   obtain rfl : f = 4 := Option.some.inj ((show Tryd.prog.funcNamed "conciliator/conciliatorlaw06.CompApart" = some 4 by kernel_rfl).symm.trans hf) |>.symm
   obtain rfl:fn=Tryd.f4:=(Option.some.inj (Tryd.func4.symm.trans hfn)).symm
   exact ⟨by kernel_rfl,fun j t ht=>by
    rw [Tryd.params4] at ht
    rcases j with _|_|_|j
    .obtain rfl:t=22:=by simpa using ht.symm
     exact (show Tryd.prog.wantsStandIn 22=false by kernel_rfl)
    .obtain rfl:t=46:=by simpa using ht.symm
     exact (show Tryd.prog.wantsStandIn 46=false by kernel_rfl)
    .obtain rfl:t=44:=by simpa using ht.symm
     exact (show Tryd.prog.wantsStandIn 44=false by kernel_rfl)
    .simp at ht⟩)
  (by kernel_rfl)
#print axioms compApart_holds
end Go.Proofs.YtfoahkbnheijcaaDoor
