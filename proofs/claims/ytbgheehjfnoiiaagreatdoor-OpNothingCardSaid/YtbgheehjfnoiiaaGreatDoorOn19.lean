/-
  Contracts of the functions that the law reaches: conciliatorref04.Len, Check..
-/
import Derived.Test.YtbgheehjfnoiiaaGreatDoorOn11
import Derived.Test.YtbgheehjfnoiiaaGreatDoorOn18
import Derived.Laws.RangeString
import Derived.Laws.RangeAny
import Derived.Lib.RuneCount
import Derived.Lib.RuneCountTail
namespace Go.Proofs.YtbgheehjfnoiiaaGreatDoor
open Go.RowKit
set_option maxHeartbeats 8000000
theorem zkl (w:World) (s:ByteArray) (hs:s.size<=1000000000000) (hT:Tabs w):
 uP 119 #[.string s] w fun e w'=>e= .returned (.int .i64 (textN s:Int))/\uB w w':=by
 delta uB uP
 have hl:=Xl s
 obtain ⟨L,hL⟩:∃L,(cuts s).length=L:=⟨_,rfl⟩
 have HC:=qh (zbw w s hs hT)
 have hn:textN s=L - 1:=by rw [textN,hL]
 rw [hn]
 rw [hL] at hl
 have hw1:IntKind.i64.wrap ((L:Int) - 1)=(L:Int) - 1:=IntWalk.i64_in _ (by omega)
 have hw2:((L - 1:Nat):Int)=(L:Int) - 1:=by omega
 rw [hw2]
 have HL:=qh hL
 clear hL hT hn
 go_enter Tryz.func119,Tryz.ntmps119
 go_wp2_with fail
 refine HC.out.mono ?_
 rintro e w1 ⟨⟨g,c,rfl,_,_,_,_⟩,hb1⟩
 rw [HL.out]
 go_wp2_with fail
 go_returns
 exact ⟨rfl,hb1⟩
def tCheck (s:ByteArray) (k i n:Int):Int:=
 if k≠8/\k≠9 then 31 else if i<0∨(textN s:Int)<i then 32 else if k=9/\(n<1∨(textN s:Int) - i<n) then 32 else 0
set_option maxRecDepth 100000 in
theorem zaw (w:World) (s:ByteArray) (c:CC) (hb:c.Bnd) (hs:s.size<=1000000000000) (hT:Tabs w):
 uP 108 #[.string s, .agg (uC c)] w fun e w'=>e= .returned (.int .i64 (tCheck s c.k c.i c.n))/\uB w w':=by
 delta uC uB uP
 have n0:=hb.n0;have n1:=hb.n1;have i0:=hb.i0;have i1:=hb.i1
 obtain ⟨N,hN⟩:∃N,textN s=N:=⟨_,rfl⟩
 have hNl:N<=1000000000000:=by have:=(Xl s).2;rw [<-hN,textN];omega
 have HN:Hid (∀W,uB w W->uP 119 #[.string s] W fun e w'=>e= .returned (.int .i64 (N:Int))/\uB W w'):=fun W hW=>by rw [<-hN];exact zkl W s hs (hT.below hW)
 have HBX:=qh (BC.start w #[.int .u8 c.k, .slice c.pa c.pl c.pc, .string c.key, .int .i64 c.i, .int .i64 c.j, .int .i64 c.n, .int .u8 c.v.k, .int .i64 c.v.n, .string c.v.s, .slice c.v.la c.v.ll c.v.lc, .slice c.v.oa c.v.ol c.v.oc, .string c.s] 54)
 have HAL:=qh ((Below.refl _ _).alloc (Nat.le_refl _) (.cells #[.int .u8 c.k, .slice c.pa c.pl c.pc, .string c.key, .int .i64 c.i, .int .i64 c.j, .int .i64 c.n, .int .u8 c.v.k, .int .i64 c.v.n, .string c.v.s, .slice c.v.la c.v.ll c.v.lc, .slice c.v.oa c.v.ol c.v.oc, .string c.s] 54):uB w _)
 obtain ⟨R,hR⟩:∃R,tCheck s c.k c.i c.n=R:=⟨_,rfl⟩
 rw [hR]
 rw [tCheck,hN] at hR
 have HR:=qh hR
 obtain ⟨ck,hck⟩:∃ck,c.k=ck:=⟨_,rfl⟩
 obtain ⟨ci,hci⟩:∃ci,c.i=ci:=⟨_,rfl⟩
 obtain ⟨cn,hcn⟩:∃cn,c.n=cn:=⟨_,rfl⟩
 rw [hck,hci,hcn] at HR
 rw [hcn] at n0 n1
 rw [hci] at i0 i1
 rw [hck,hci,hcn] at HBX HAL ⊢
 clear hR hN hT hb hck hci hcn
 by_cases e8:ck=8
 .cases e8
  have f9:((8:Int)==9)=false:=rfl
  by_cases hi0:ci<0
  .obtain rfl:R=32:=by rw [<-HR.out];simp [hi0]
   go_enter Tryz.func108,Tryz.ntmps108
   go_wp2_with fail
   refine (HN.out _ HAL.out).mono ?_
   rintro e w1 ⟨rfl,hb1⟩
   have D:=HBX.out.keep hb1 (by simp)
   obtain ⟨b0,b1,b2,b3,b4,b5,b6,b7,b8,b9,b10,b11⟩:=row12 D.at_
   have zs:=D.lt
   have HBL:=qh (HAL.out.trans (hb1.mono (by simp)))
   clear D hb1
   go_wp2_with fail
   go_returns
   exact ⟨rfl,HBL.out⟩
  .by_cases hi1:(N:Int)<ci
   .obtain rfl:R=32:=by rw [<-HR.out];simp [hi1]
    go_enter Tryz.func108,Tryz.ntmps108
    go_wp2_with fail
    refine (HN.out _ HAL.out).mono ?_
    rintro e w1 ⟨rfl,hb1⟩
    have D:=HBX.out.keep hb1 (by simp)
    obtain ⟨b0,b1,b2,b3,b4,b5,b6,b7,b8,b9,b10,b11⟩:=row12 D.at_
    have zs:=D.lt
    have HBL:=qh (HAL.out.trans (hb1.mono (by simp)))
    clear D hb1
    go_wp2_with fail
    go_returns
    exact ⟨rfl,HBL.out⟩
   .obtain rfl:R=0:=by rw [<-HR.out];simp [hi0,hi1]
    go_enter Tryz.func108,Tryz.ntmps108
    go_wp2_with fail
    refine (HN.out _ HAL.out).mono ?_
    rintro e w1 ⟨rfl,hb1⟩
    have D:=HBX.out.keep hb1 (by simp)
    obtain ⟨b0,b1,b2,b3,b4,b5,b6,b7,b8,b9,b10,b11⟩:=row12 D.at_
    have zs:=D.lt
    have HBL:=qh (HAL.out.trans (hb1.mono (by simp)))
    clear D hb1
    go_wp2_with fail
    go_returns
    exact ⟨rfl,HBL.out⟩
 .have f8 : (ck !=8)=true:=by simp [e8]
  by_cases e9:ck=9
  .cases e9
   by_cases hi0:ci<0
   .obtain rfl:R=32:=by rw [<-HR.out];simp [hi0]
    go_enter Tryz.func108,Tryz.ntmps108
    go_wp2_with fail
    refine (HN.out _ HAL.out).mono ?_
    rintro e w1 ⟨rfl,hb1⟩
    have D:=HBX.out.keep hb1 (by simp)
    obtain ⟨b0,b1,b2,b3,b4,b5,b6,b7,b8,b9,b10,b11⟩:=row12 D.at_
    have zs:=D.lt
    have HBL:=qh (HAL.out.trans (hb1.mono (by simp)))
    clear D hb1
    go_wp2_with fail
    go_returns
    exact ⟨rfl,HBL.out⟩
   .by_cases hi1:(N:Int)<ci
    .obtain rfl:R=32:=by rw [<-HR.out];simp [hi1]
     go_enter Tryz.func108,Tryz.ntmps108
     go_wp2_with fail
     refine (HN.out _ HAL.out).mono ?_
     rintro e w1 ⟨rfl,hb1⟩
     have D:=HBX.out.keep hb1 (by simp)
     obtain ⟨b0,b1,b2,b3,b4,b5,b6,b7,b8,b9,b10,b11⟩:=row12 D.at_
     have zs:=D.lt
     have HBL:=qh (HAL.out.trans (hb1.mono (by simp)))
     clear D hb1
     go_wp2_with fail
     go_returns
     exact ⟨rfl,HBL.out⟩
    .have hw1:IntKind.i64.wrap ((N:Int) - ci)=(N:Int) - ci:=IntWalk.i64_in _ (by omega)
     by_cases hn1:cn<1
     .obtain rfl:R=32:=by rw [<-HR.out];simp [hi0,hi1,hn1]
      go_enter Tryz.func108,Tryz.ntmps108
      go_wp2_with fail
      refine (HN.out _ HAL.out).mono ?_
      rintro e w1 ⟨rfl,hb1⟩
      have D:=HBX.out.keep hb1 (by simp)
      obtain ⟨b0,b1,b2,b3,b4,b5,b6,b7,b8,b9,b10,b11⟩:=row12 D.at_
      have zs:=D.lt
      have HBL:=qh (HAL.out.trans (hb1.mono (by simp)))
      clear D hb1
      go_wp2_with fail
      go_returns
      exact ⟨rfl,HBL.out⟩
     .by_cases hn2:(N:Int) - ci<cn
      .obtain rfl:R=32:=by rw [<-HR.out];simp [hi0,hi1,hn2]
       go_enter Tryz.func108,Tryz.ntmps108
       go_wp2_with fail
       refine (HN.out _ HAL.out).mono ?_
       rintro e w1 ⟨rfl,hb1⟩
       have D:=HBX.out.keep hb1 (by simp)
       obtain ⟨b0,b1,b2,b3,b4,b5,b6,b7,b8,b9,b10,b11⟩:=row12 D.at_
       have zs:=D.lt
       have HBL:=qh (HAL.out.trans (hb1.mono (by simp)))
       clear D hb1
       go_wp2_with fail
       go_returns
       exact ⟨rfl,HBL.out⟩
      .obtain rfl:R=0:=by rw [<-HR.out];simp [hi0,hi1,hn1,hn2]
       go_enter Tryz.func108,Tryz.ntmps108
       go_wp2_with fail
       refine (HN.out _ HAL.out).mono ?_
       rintro e w1 ⟨rfl,hb1⟩
       have D:=HBX.out.keep hb1 (by simp)
       obtain ⟨b0,b1,b2,b3,b4,b5,b6,b7,b8,b9,b10,b11⟩:=row12 D.at_
       have zs:=D.lt
       have HBL:=qh (HAL.out.trans (hb1.mono (by simp)))
       clear D hb1
       go_wp2_with fail
       go_returns
       exact ⟨rfl,HBL.out⟩
  .have f9:(ck !=9)=true:=by simp [e9]
   obtain rfl:R=31:=by rw [<-HR.out];simp [e8,e9]
   go_enter Tryz.func108,Tryz.ntmps108
   go_wp2_with fail
   go_returns
   exact ⟨rfl,HAL.out⟩
def textDo (s:ByteArray) (k i n:Int) (cs:ByteArray):ByteArray:=
 if k=8 then s.extract 0 ((cuts s).getD i.toNat 0)++cs++s.extract ((cuts s).getD i.toNat 0) s.size
 else s.extract 0 ((cuts s).getD i.toNat 0)++s.extract ((cuts s).getD (i+n).toNat 0) s.size
theorem Kv {s:ByteArray} {k i n:Int} (h:tCheck s k i n=0):(k=8∨(k=9/\1<=n/\i+n<=textN s))/\0<=i/\i<=textN s:=by
 unfold tCheck at h
 by_cases h1:k≠8/\k≠9
 .rw [if_pos h1] at h;omega
 .rw [if_neg h1] at h
  by_cases h2:i<0∨(textN s:Int)<i
  .rw [if_pos h2] at h;omega
  .rw [if_neg h2] at h
   by_cases h3:k=9/\(n<1∨(textN s:Int) - i<n)
   .rw [if_pos h3] at h;omega
   .omega
set_option maxRecDepth 100000 in
theorem zdw (w:World) (s:ByteArray) (c:CC) (hb:c.Bnd) (hs:s.size<=1000000000000) (hT:Tabs w) (hc:tCheck s c.k c.i c.n=0):
 uP 64 #[.string s, .agg #[.int .u8 c.k, .slice c.pa c.pl c.pc, .string c.key, .int .i64 c.i, .int .i64 c.j, .int .i64 c.n, .int .u8 c.v.k, .int .i64 c.v.n, .string c.v.s, .slice c.v.la c.v.ll c.v.lc, .slice c.v.oa c.v.ol c.v.oc, .string c.s]] w fun e w'=>e= .returned (.tuple #[.string (textDo s c.k c.i c.n c.s), .int .i64 0])/\uB w w':=by
 delta uB uP
 have HCK:Hid (∀W,uB w W->uP 108 #[.string s, .agg #[.int .u8 c.k, .slice c.pa c.pl c.pc, .string c.key, .int .i64 c.i, .int .i64 c.j, .int .i64 c.n, .int .u8 c.v.k, .int .i64 c.v.n, .string c.v.s, .slice c.v.la c.v.ll c.v.lc, .slice c.v.oa c.v.ol c.v.oc, .string c.s]] W fun e w'=>e= .returned (.int .i64 0)/\uB W w'):=fun W hW=>by
  have:=zaw W s c hb hs (hT.below hW)
  rw [hc] at this;exact this
 obtain ⟨hk,hi0,hi1⟩:=Kv hc
 have hcl:=Xl s
 have hcle:=J5 s
 obtain ⟨C,hC⟩:∃C,cuts s=C:=⟨_,rfl⟩
 have HCU:Hid (∀W,uB w W->uP 109 #[.string s] W (IntsPost W C)):=fun W hW=>by rw [<-hC];exact zbw W s hs (hT.below hW)
 have HBX:=qh (BC.start w #[.int .u8 c.k, .slice c.pa c.pl c.pc, .string c.key, .int .i64 c.i, .int .i64 c.j, .int .i64 c.n, .int .u8 c.v.k, .int .i64 c.v.n, .string c.v.s, .slice c.v.la c.v.ll c.v.lc, .slice c.v.oa c.v.ol c.v.oc, .string c.s] 54)
 have HAL:=qh ((Below.refl _ _).alloc (Nat.le_refl _) (.cells #[.int .u8 c.k, .slice c.pa c.pl c.pc, .string c.key, .int .i64 c.i, .int .i64 c.j, .int .i64 c.n, .int .u8 c.v.k, .int .i64 c.v.n, .string c.v.s, .slice c.v.la c.v.ll c.v.lc, .slice c.v.oa c.v.ol c.v.oc, .string c.s] 54):uB w _)
 obtain ⟨R,hR⟩:∃R,textDo s c.k c.i c.n c.s=R:=⟨_,rfl⟩
 rw [hR]
 rw [textDo,hC] at hR
 rw [hC] at hcl hcle
 rw [textN,hC] at hi1
 obtain ⟨I,hI⟩:∃I:Nat,c.i=I:=⟨c.i.toNat,by omega⟩
 have hIl:I<C.length:=by omega
 rw [hI,Int.toNat_natCast,List.getD_eq_getElem?_getD,List.getElem?_eq_getElem hIl,Option.getD_some] at hR
 have hpl:=hcle I hIl
 obtain ⟨p,hp⟩:∃p,C[I] =p:=⟨_,rfl⟩
 rw [hp] at hR hpl
 have HP:=qh hp
 have hk2:(c.k=8)∨(c.k=9/\∃J:Nat,c.n=J/\I+J<C.length):=by
  rw [textN,hC] at hk
  rcases hk with h|⟨h1,h2,h3⟩
  .exact .inl h
  .exact .inr ⟨h1,c.n.toNat,by omega,by omega⟩
 obtain ⟨ck,hck⟩:∃ck,c.k=ck:=⟨_,rfl⟩
 obtain ⟨cn,hcn⟩:∃cn,c.n=cn:=⟨_,rfl⟩
 rw [hck,hcn] at hR hk2
 rw [hck,hI,hcn] at HCK HBX HAL ⊢
 have HCLE:=qh hcle
 have hsz:s.size<=9223372036854775807:=by omega
 have hs1:=hb.s1
 have hq1:¬(9223372036854775807<p+c.s.size):=by omega
 have hq2:¬(9223372036854775807<p+c.s.size+(s.size - p)):=by omega
 clear hC hT hb hc hk hck hcn hi0 hi1 hcle hI hp
 rcases hk2 with e8|⟨e9,J,hJ,hIJ⟩
 .cases e8
  rw [if_pos rfl] at hR
  have HR:=qh hR
  clear hR
  go_enter Tryz.func64,Tryz.ntmps64
  go_wp2_with fail
  refine (HCK.out _ HAL.out).mono ?_
  rintro e w1 ⟨rfl,hb1⟩
  have D1:=HBX.out.keep hb1 (by simp)
  have hbl1:=HAL.out.trans (hb1.mono (by simp))
  have HD1:=qh D1
  have HBL1:=qh hbl1
  clear D1 hb1 hbl1
  go_wp2_with fail
  refine (HCU.out _ HBL1.out).mono ?_
  rintro e w2 ⟨⟨g,gc,rfl,hc1,hc2,hgl,hcell⟩,hb2⟩
  have D2:=HD1.out.keep hb2 HD1.out.lt
  obtain ⟨b0,b1,b2,b3,b4,b5,b6,b7,b8,b9,b10,b11⟩:=row12 D2.at_
  have zs:=D2.lt
  have hcI:=hcell I hIl
  rw [HP.out] at hcI
  have HBL2:=qh (HBL1.out.trans (hb2.mono HBL1.out.size))
  clear D2 hb2 hcell
  go_wp2_with fail
  go_region
  go_wp2_with fail
  go_returns
  exact ⟨by rw [<-HR.out];rfl,HBL2.out.drew⟩
 .cases e9
  cases hJ
  rw [if_neg (by omega),show ((I:Int)+(J:Int)).toNat=I+J by omega,List.getD_eq_getElem?_getD,List.getElem?_eq_getElem hIJ,Option.getD_some] at hR
  have hql:=HCLE.out (I+J) hIJ
  obtain ⟨q,hq⟩:∃q,C[I+J] =q:=⟨_,rfl⟩
  rw [hq] at hR hql
  have HQ:=qh hq
  have hw:IntKind.i64.wrap ((I:Int)+(J:Int))=((I+J:Nat):Int):=by rw [IntWalk.i64_in _ (by omega)];omega
  have hq1:¬(9223372036854775807<p+(s.size - q)):=by omega
  have HR:=qh hR
  clear hR hq
  go_enter Tryz.func64,Tryz.ntmps64
  go_wp2_with fail
  refine (HCK.out _ HAL.out).mono ?_
  rintro e w1 ⟨rfl,hb1⟩
  have D1:=HBX.out.keep hb1 (by simp)
  have hbl1:=HAL.out.trans (hb1.mono (by simp))
  have HD1:=qh D1
  have HBL1:=qh hbl1
  clear D1 hb1 hbl1
  go_wp2_with fail
  refine (HCU.out _ HBL1.out).mono ?_
  rintro e w2 ⟨⟨g,gc,rfl,hc1,hc2,hgl,hcell⟩,hb2⟩
  have D2:=HD1.out.keep hb2 HD1.out.lt
  obtain ⟨b0,b1,b2,b3,b4,b5,b6,b7,b8,b9,b10,b11⟩:=row12 D2.at_
  have zs:=D2.lt
  have hcI:=hcell I hIl
  rw [HP.out] at hcI
  have hcJ:=hcell (I+J) hIJ
  rw [HQ.out] at hcJ
  have HBL2:=qh (HBL1.out.trans (hb2.mono HBL1.out.size))
  clear D2 hb2 hcell
  go_wp2_with fail
  go_region
  go_wp2_with fail
  go_returns
  exact ⟨by rw [<-HR.out];rfl,HBL2.out.drew⟩
set_option maxRecDepth 100000 in
theorem ziu (w:World) (c:CC):
 uP 127 #[.agg (uC c)] w fun e w'=>e= .returned (.bool (decide (4<=c.k/\c.k<=7)))/\uB w w':=by
 delta uC uB uP
 have HBX:=qh (BC.start w #[.int .u8 c.k, .slice c.pa c.pl c.pc, .string c.key, .int .i64 c.i, .int .i64 c.j, .int .i64 c.n, .int .u8 c.v.k, .int .i64 c.v.n, .string c.v.s, .slice c.v.la c.v.ll c.v.lc, .slice c.v.oa c.v.ol c.v.oc, .string c.s] 54)
 have HAL:=qh ((Below.refl _ _).alloc (Nat.le_refl _) (.cells #[.int .u8 c.k, .slice c.pa c.pl c.pc, .string c.key, .int .i64 c.i, .int .i64 c.j, .int .i64 c.n, .int .u8 c.v.k, .int .i64 c.v.n, .string c.v.s, .slice c.v.la c.v.ll c.v.lc, .slice c.v.oa c.v.ol c.v.oc, .string c.s] 54):uB w _)
 obtain ⟨R,hR⟩:∃R,decide (4<=c.k/\c.k<=7)=R:=⟨_,rfl⟩
 rw [hR]
 obtain ⟨ck,hck⟩:∃ck,c.k=ck:=⟨_,rfl⟩
 rw [hck] at HBX HAL hR ⊢
 have HR:=qh hR
 clear hck hR
 by_cases e4:ck=4
 .cases e4
  obtain rfl:R=true:=by rw [<-HR.out];rfl
  go_enter Tryz.func127,Tryz.ntmps127
  go_wp2_with fail
  go_returns
  exact ⟨rfl,HAL.out⟩
 have f4:(ck==4)=false:=by simp [e4]
 by_cases e5:ck=5
 .cases e5
  obtain rfl:R=true:=by rw [<-HR.out];rfl
  go_enter Tryz.func127,Tryz.ntmps127
  go_wp2_with fail
  go_returns
  exact ⟨rfl,HAL.out⟩
 have f5:(ck==5)=false:=by simp [e5]
 by_cases e6:ck=6
 .cases e6
  obtain rfl:R=true:=by rw [<-HR.out];rfl
  go_enter Tryz.func127,Tryz.ntmps127
  go_wp2_with fail
  go_returns
  exact ⟨rfl,HAL.out⟩
 have f6:(ck==6)=false:=by simp [e6]
 by_cases e7:ck=7
 .cases e7
  obtain rfl:R=true:=by rw [<-HR.out];rfl
  go_enter Tryz.func127,Tryz.ntmps127
  go_wp2_with fail
  go_returns
  exact ⟨rfl,HAL.out⟩
 have f7:(ck==7)=false:=by simp [e7]
 obtain rfl:R=false:=by rw [<-HR.out];simp;omega
 go_enter Tryz.func127,Tryz.ntmps127
 go_wp2_with fail
 go_returns
 exact ⟨rfl,HAL.out⟩
def lCheck (n:Nat) (k i j:Int):Int:=
 if ¬(4<=k/\k<=7) then 31 else if i<0∨(n:Int)<i∨(i=n/\k≠4) then 32 else if k=7/\(j<0∨(n:Int)<=j) then 32 else 0
theorem Yi {n:Nat} {k i j:Int} (h:lCheck n k i j=0):4<=k/\k<=7/\0<=i/\i<=n/\(k≠4->i<n)/\(k=7->0<=j/\j<n):=by
 unfold lCheck at h
 by_cases h1:¬(4<=k/\k<=7)
 .rw [if_pos h1] at h;omega
 .rw [if_neg h1] at h
  by_cases h2:i<0∨(n:Int)<i∨(i=n/\k≠4)
  .rw [if_pos h2] at h;omega
  .rw [if_neg h2] at h
   by_cases h3:k=7/\(j<0∨(n:Int)<=j)
   .rw [if_pos h3] at h;omega
   .omega
set_option maxRecDepth 100000 in
theorem Qk (w:World) (n:Nat) (hn:n<=9223372036854775807) (c:CC):
 uP 110 #[.int .i64 n, .agg #[.int .u8 c.k, .slice c.pa c.pl c.pc, .string c.key, .int .i64 c.i, .int .i64 c.j, .int .i64 c.n, .int .u8 c.v.k, .int .i64 c.v.n, .string c.v.s, .slice c.v.la c.v.ll c.v.lc, .slice c.v.oa c.v.ol c.v.oc, .string c.s]] w fun e w'=>e= .returned (.int .i64 (lCheck n c.k c.i c.j))/\uB w w':=by
 delta uB uP
 have HBX:=qh (BC.start w #[.int .u8 c.k, .slice c.pa c.pl c.pc, .string c.key, .int .i64 c.i, .int .i64 c.j, .int .i64 c.n, .int .u8 c.v.k, .int .i64 c.v.n, .string c.v.s, .slice c.v.la c.v.ll c.v.lc, .slice c.v.oa c.v.ol c.v.oc, .string c.s] 54)
 have HAL:=qh ((Below.refl _ _).alloc (Nat.le_refl _) (.cells #[.int .u8 c.k, .slice c.pa c.pl c.pc, .string c.key, .int .i64 c.i, .int .i64 c.j, .int .i64 c.n, .int .u8 c.v.k, .int .i64 c.v.n, .string c.v.s, .slice c.v.la c.v.ll c.v.lc, .slice c.v.oa c.v.ol c.v.oc, .string c.s] 54):uB w _)
 have HKN:Hid (∀W,uP 127 #[.agg #[.int .u8 c.k, .slice c.pa c.pl c.pc, .string c.key, .int .i64 c.i, .int .i64 c.j, .int .i64 c.n, .int .u8 c.v.k, .int .i64 c.v.n, .string c.v.s, .slice c.v.la c.v.ll c.v.lc, .slice c.v.oa c.v.ol c.v.oc, .string c.s]] W fun e w'=>e= .returned (.bool (decide (4<=c.k/\c.k<=7)))/\uB W w'):=fun W=>ziu W c
 obtain ⟨KN,hKN⟩:∃KN,decide (4<=c.k/\c.k<=7)=KN:=⟨_,rfl⟩
 rw [hKN] at HKN
 obtain ⟨R,hR⟩:∃R,lCheck n c.k c.i c.j=R:=⟨_,rfl⟩
 rw [hR]
 rw [lCheck] at hR
 obtain ⟨ck,hck⟩:∃ck,c.k=ck:=⟨_,rfl⟩
 obtain ⟨ci,hci⟩:∃ci,c.i=ci:=⟨_,rfl⟩
 obtain ⟨cj,hcj⟩:∃cj,c.j=cj:=⟨_,rfl⟩
 rw [hck,hci,hcj] at hR HKN HBX HAL ⊢
 rw [hck] at hKN
 have HR:=qh hR
 have HKE:=qh hKN
 clear hR hck hci hcj hKN
 cases KN with
 | false=>
   have hk:¬(4<=ck/\ck<=7):=by simpa using HKE.out
   have HK:=qh hk
   clear hk
   obtain rfl:R=31:=by rw [<-HR.out];rw [if_pos HK.out]
   go_enter Tryz.func110,Tryz.ntmps110
   go_wp2_with fail
   refine (HKN.out _).mono ?_
   rintro e w1 ⟨rfl,hb1⟩
   have D:=HBX.out.keep hb1 (by simp)
   obtain ⟨b0,b1,b2,b3,b4,b5,b6,b7,b8,b9,b10,b11⟩:=row12 D.at_
   have zs:=D.lt
   have HBL:=qh (HAL.out.trans (hb1.mono (by simp)))
   clear D hb1
   go_wp2_with fail
   go_returns
   exact ⟨rfl,HBL.out⟩
 | true =>
   have hk:4<=ck/\ck<=7:=by simpa using HKE.out
   have HK:=qh hk
   clear hk
   by_cases h1:ci<0
   .obtain rfl:R=32:=by rw [<-HR.out];rw [if_neg (fun h=>h HK.out),if_pos (.inl h1)]
    go_enter Tryz.func110,Tryz.ntmps110
    go_wp2_with fail
    refine (HKN.out _).mono ?_
    rintro e w1 ⟨rfl,hb1⟩
    have D:=HBX.out.keep hb1 (by simp)
    obtain ⟨b0,b1,b2,b3,b4,b5,b6,b7,b8,b9,b10,b11⟩:=row12 D.at_
    have zs:=D.lt
    have HBL:=qh (HAL.out.trans (hb1.mono (by simp)))
    clear D hb1
    go_wp2_with fail
    go_returns
    exact ⟨rfl,HBL.out⟩
   by_cases h2:(n:Int)<ci
   .obtain rfl:R=32:=by rw [<-HR.out];rw [if_neg (fun h=>h HK.out),if_pos (.inr (.inl h2))]
    go_enter Tryz.func110,Tryz.ntmps110
    go_wp2_with fail
    refine (HKN.out _).mono ?_
    rintro e w1 ⟨rfl,hb1⟩
    have D:=HBX.out.keep hb1 (by simp)
    obtain ⟨b0,b1,b2,b3,b4,b5,b6,b7,b8,b9,b10,b11⟩:=row12 D.at_
    have zs:=D.lt
    have HBL:=qh (HAL.out.trans (hb1.mono (by simp)))
    clear D hb1
    go_wp2_with fail
    go_returns
    exact ⟨rfl,HBL.out⟩
   by_cases h3:ci=n
   .cases h3
    by_cases h4:ck=4
    .cases h4
     obtain rfl:R=0:=by rw [<-HR.out];rw [if_neg (fun h=>h HK.out),if_neg (by omega),if_neg (by omega)]
     go_enter Tryz.func110,Tryz.ntmps110
     go_wp2_with fail
     refine (HKN.out _).mono ?_
     rintro e w1 ⟨rfl,hb1⟩
     have D:=HBX.out.keep hb1 (by simp)
     obtain ⟨b0,b1,b2,b3,b4,b5,b6,b7,b8,b9,b10,b11⟩:=row12 D.at_
     have zs:=D.lt
     have HBL:=qh (HAL.out.trans (hb1.mono (by simp)))
     clear D hb1
     go_wp2_with fail
     go_returns
     exact ⟨rfl,HBL.out⟩
    .have f4:(ck !=4)=true:=by simp [h4]
     obtain rfl:R=32:=by rw [<-HR.out];rw [if_neg (fun h=>h HK.out),if_pos (.inr (.inr ⟨rfl,h4⟩))]
     go_enter Tryz.func110,Tryz.ntmps110
     go_wp2_with fail
     refine (HKN.out _).mono ?_
     rintro e w1 ⟨rfl,hb1⟩
     have D:=HBX.out.keep hb1 (by simp)
     obtain ⟨b0,b1,b2,b3,b4,b5,b6,b7,b8,b9,b10,b11⟩:=row12 D.at_
     have zs:=D.lt
     have HBL:=qh (HAL.out.trans (hb1.mono (by simp)))
     clear D hb1
     go_wp2_with fail
     go_returns
     exact ⟨rfl,HBL.out⟩
   .have f3:(ci==(n:Int))=false:=by simp [h3]
    by_cases h7:ck=7
    .cases h7
     by_cases h8:cj<0
     .obtain rfl:R=32:=by rw [<-HR.out];rw [if_neg (fun h=>h HK.out),if_neg (by omega),if_pos (by omega)]
      go_enter Tryz.func110,Tryz.ntmps110
      go_wp2_with fail
      refine (HKN.out _).mono ?_
      rintro e w1 ⟨rfl,hb1⟩
      have D:=HBX.out.keep hb1 (by simp)
      obtain ⟨b0,b1,b2,b3,b4,b5,b6,b7,b8,b9,b10,b11⟩:=row12 D.at_
      have zs:=D.lt
      have HBL:=qh (HAL.out.trans (hb1.mono (by simp)))
      clear D hb1
      go_wp2_with fail
      go_returns
      exact ⟨rfl,HBL.out⟩
     .by_cases h9:(n:Int)<=cj
      .obtain rfl:R=32:=by rw [<-HR.out];rw [if_neg (fun h=>h HK.out),if_neg (by omega),if_pos (by omega)]
       go_enter Tryz.func110,Tryz.ntmps110
       go_wp2_with fail
       refine (HKN.out _).mono ?_
       rintro e w1 ⟨rfl,hb1⟩
       have D:=HBX.out.keep hb1 (by simp)
       obtain ⟨b0,b1,b2,b3,b4,b5,b6,b7,b8,b9,b10,b11⟩:=row12 D.at_
       have zs:=D.lt
       have HBL:=qh (HAL.out.trans (hb1.mono (by simp)))
       clear D hb1
       go_wp2_with fail
       go_returns
       exact ⟨rfl,HBL.out⟩
      .obtain rfl:R=0:=by rw [<-HR.out];rw [if_neg (fun h=>h HK.out),if_neg (by omega),if_neg (by omega)]
       go_enter Tryz.func110,Tryz.ntmps110
       go_wp2_with fail
       refine (HKN.out _).mono ?_
       rintro e w1 ⟨rfl,hb1⟩
       have D:=HBX.out.keep hb1 (by simp)
       obtain ⟨b0,b1,b2,b3,b4,b5,b6,b7,b8,b9,b10,b11⟩:=row12 D.at_
       have zs:=D.lt
       have HBL:=qh (HAL.out.trans (hb1.mono (by simp)))
       clear D hb1
       go_wp2_with fail
       go_returns
       exact ⟨rfl,HBL.out⟩
    .have f7:(ck==7)=false:=by simp [h7]
     obtain rfl:R=0:=by rw [<-HR.out];rw [if_neg (fun h=>h HK.out),if_neg (by omega),if_neg (by omega)]
     go_enter Tryz.func110,Tryz.ntmps110
     go_wp2_with fail
     refine (HKN.out _).mono ?_
     rintro e w1 ⟨rfl,hb1⟩
     have D:=HBX.out.keep hb1 (by simp)
     obtain ⟨b0,b1,b2,b3,b4,b5,b6,b7,b8,b9,b10,b11⟩:=row12 D.at_
     have zs:=D.lt
     have HBL:=qh (HAL.out.trans (hb1.mono (by simp)))
     clear D hb1
     go_wp2_with fail
     go_returns
     exact ⟨rfl,HBL.out⟩
theorem zav (s:ByteArray) (i:Nat):s.extract i s.size=⟨(s.data.toList.drop i).toArray⟩:=by
 apply ByteArray.ext
 apply Array.ext'
 rw [ByteArray.data_extract,Array.toList_extract,List.extract_eq_take_drop]
 exact List.take_of_length_le (by rw [List.length_drop,Array.length_toList];exact Nat.le_refl _)
theorem zb2 (s:ByteArray) (i:Nat):Utf8.decode s i=Lib.decodeL (s.data.toList.drop i):=by
 have h:=Lib.tail_decode s i 0
 rw [Nat.add_zero,zav] at h
 exact h.symm
theorem zji (s:ByteArray) (f:Nat):∀i,Lib.runeCountFrom s f i=(cutsP f i (s.data.toList.drop i)).length:=by
 induction f with
 |zero=>intro i;rfl
 | succ f ih=>
   intro i
   have hz:s.data.toList.length=s.size:=Array.length_toList
   unfold cutsP Lib.runeCountFrom
   by_cases h:i<s.size
   .rw [if_pos h,if_neg (fun e=>by have:=congrArg List.length e;rw [List.length_drop,hz] at this;simp at this;omega),List.length_cons,ih,zb2,List.drop_drop]
    omega
   .rw [if_neg h,if_pos (List.drop_eq_nil_of_le (by omega))];rfl
theorem zet (s:ByteArray):Lib.runeCount s=textN s:=by
 rw [Lib.runeCount,zji,List.drop_zero,textN,cuts,List.length_append];rfl
theorem zca (w:World) (s:ByteArray) (hs:s.size<=1000000000000):
 uP 89 #[.string s] w fun e w'=>e= .returned (.int .i64 (textN s:Int))/\uB w w':=by
 delta uB uP
 have HC:=qh (Tryz.utf8_RuneCountInString s w (by omega))
 rw [<-zet]
 go_enter Tryz.func89,Tryz.ntmps89
 go_wp2_with fail
 refine HC.out.mono ?_
 rintro e w1 ⟨rfl,pos,rfl⟩
 go_wp2_with fail
 go_returns
 exact ⟨rfl,(Below.refl _ _).alloc (Nat.le_refl _) _⟩
theorem za0 (s:ByteArray) (i:Nat):(cuts s).getD i s.size=(cutsP s.size 0 s.data.toList).getD i s.size:=by
 rw [cuts,List.getD_eq_getElem?_getD,List.getD_eq_getElem?_getD]
 by_cases h:i<(cutsP s.size 0 s.data.toList).length
 .rw [List.getElem?_append_left h]
 .rw [List.getElem?_append_right (by omega),List.getElem?_eq_none (l:=cutsP s.size 0 s.data.toList) (by omega)]
  by_cases e:i - (cutsP s.size 0 s.data.toList).length=0
  .rw [e];rfl
  .rw [List.getElem?_eq_none (by simp;omega)]
set_option maxRecDepth 100000 in
theorem zdm (w:World) (s:ByteArray) (i:Nat) (hi:i<=9223372036854775807):
 uP 157 #[.string s, .int .i64 (i:Int)] w fun e w'=>e= .returned (.int .i64 ((cuts s).getD i s.size:Int))/\uB w w':=by
 delta uB uP
 rw [za0]
 have hz:s.data.toList.length=s.size:=Array.length_toList
 have HZ:=qh hz
 obtain ⟨R,hR⟩:∃R,(cutsP s.size 0 s.data.toList).getD i s.size=R:=⟨_,rfl⟩
 have HR:=qh hR
 rw [hR]
 clear hR hz
 go_enter Tryz.func157,Tryz.ntmps157
 go_wp2_with fail
 go_loopw [1,5] (fun iv _ wr=>∃(pos m:Nat),wr=w.iter s pos/\m<=i/\iv= .int .i64 (m:Int)/\Hid ((cutsP (s.data.toList.drop pos).length pos (s.data.toList.drop pos)).getD m s.size=R)) (fun _ _ wr=>s.size - wr.iterPos w.heap.size)
 case atStart=>exact ⟨0,i,rfl,Nat.le_refl _,rfl,qh (by rw [List.drop_zero,HZ.out];exact HR.out)⟩
 case round=>
  obtain ⟨pos,m,rfl,hm,rfl,HC⟩:=hrel
  by_cases hp:pos<s.size
  .have hnx:∀ty,(Instr.next (.pointer (some ⟨w.heap.size,0,none⟩)) true ty).run Tryz.prog (w.iter s pos)=_:=fun ty=>run_next_any w s pos ty hp
   have hwd:=Lib.decode_width_pos s pos hp
   have hne:s.data.toList.drop pos≠ [] :=fun e=>by
    have:=congrArg List.length e
    rw [List.length_drop,HZ.out] at this
    simp at this;omega
   have hcs:=HC.out
   rw [Kg hne, <-zb2,List.drop_drop] at hcs
   have HCS:=qh hcs
   have hw1:IntKind.i64.wrap ((m:Int) - 1)=(m:Int) - 1:=IntWalk.i64_in _ (by omega)
   clear hcs hne
   by_cases h0:m=0
   .subst h0
    have hr:pos=R:=by have:=HCS.out;rwa [List.getD_cons_zero] at this
    subst hr
    clear HCS HC
    go_wp2_with fail
    go_returns
    exact ⟨rfl,(Below.refl _ _).alloc (Nat.le_refl _) _⟩
   .have f0:((m:Int)==0)=false:=by simp;omega
    go_wp2_with fail
    go_roundw
    case rel=>
     obtain ⟨m',rfl⟩:∃m',m=m'+1:=⟨m - 1,by omega⟩
     refine ⟨pos+(Utf8.decode s pos).2,m',rfl,by omega,by go_num,qh ?_⟩
     have:=HCS.out
     rwa [List.getD_cons_succ] at this
    case measure=>
     simp
     omega
  .have hnx:∀ty,(Instr.next (.pointer (some ⟨w.heap.size,0,none⟩)) true ty).run Tryz.prog (w.iter s pos)=_:=fun ty=>run_next_end w s pos ty hp
   have hr:s.size=R:=by
    have:=HC.out
    rw [List.drop_eq_nil_of_le (by rw [HZ.out];omega)] at this
    exact this
   subst hr
   clear HC HR
   go_wp2_with fail
   go_returns
   exact ⟨rfl,(Below.refl _ _).alloc (Nat.le_refl _) _⟩
set_option maxRecDepth 100000 in
theorem zc9 (w:World) (s:ByteArray) (c:CC) (hb:c.Bnd) (hs:s.size<=1000000000000):
 uP 135 #[.string s, .agg (uC c)] w fun e w'=>e= .returned (.int .u16 (tCheck s c.k c.i c.n))/\uB w w':=by
 delta uC uB uP
 have n0:=hb.n0;have n1:=hb.n1;have i0:=hb.i0;have i1:=hb.i1
 obtain ⟨N,hN⟩:∃N,textN s=N:=⟨_,rfl⟩
 have hNl:N<=1000000000000:=by have:=(Xl s).2;rw [<-hN,textN];omega
 have HN:Hid (∀W,uB w W->uP 89 #[.string s] W fun e w'=>e= .returned (.int .i64 (N:Int))/\uB W w'):=fun W hW=>by rw [<-hN];exact zca W s hs
 have HBX:=qh (BC.start w #[.int .u8 c.k, .slice c.pa c.pl c.pc, .string c.key, .int .i64 c.i, .int .i64 c.j, .int .i64 c.n, .int .u8 c.v.k, .int .i64 c.v.n, .string c.v.s, .slice c.v.la c.v.ll c.v.lc, .slice c.v.oa c.v.ol c.v.oc, .string c.s] 54)
 have HAL:=qh ((Below.refl _ _).alloc (Nat.le_refl _) (.cells #[.int .u8 c.k, .slice c.pa c.pl c.pc, .string c.key, .int .i64 c.i, .int .i64 c.j, .int .i64 c.n, .int .u8 c.v.k, .int .i64 c.v.n, .string c.v.s, .slice c.v.la c.v.ll c.v.lc, .slice c.v.oa c.v.ol c.v.oc, .string c.s] 54):uB w _)
 obtain ⟨R,hR⟩:∃R,tCheck s c.k c.i c.n=R:=⟨_,rfl⟩
 rw [hR]
 rw [tCheck,hN] at hR
 have HR:=qh hR
 obtain ⟨ck,hck⟩:∃ck,c.k=ck:=⟨_,rfl⟩
 obtain ⟨ci,hci⟩:∃ci,c.i=ci:=⟨_,rfl⟩
 obtain ⟨cn,hcn⟩:∃cn,c.n=cn:=⟨_,rfl⟩
 rw [hck,hci,hcn] at HR
 rw [hcn] at n0 n1
 rw [hci] at i0 i1
 rw [hck,hci,hcn] at HBX HAL ⊢
 clear hR hN hb hck hci hcn
 by_cases e8:ck=8
 .cases e8
  have f9:((8:Int)==9)=false:=rfl
  by_cases hi0:ci<0
  .obtain rfl:R=32:=by rw [<-HR.out];simp [hi0]
   go_enter Tryz.func135,Tryz.ntmps135
   go_wp2_with fail
   refine (HN.out _ HAL.out).mono ?_
   rintro e w1 ⟨rfl,hb1⟩
   have D:=HBX.out.keep hb1 (by simp)
   obtain ⟨b0,b1,b2,b3,b4,b5,b6,b7,b8,b9,b10,b11⟩:=row12 D.at_
   have zs:=D.lt
   have HBL:=qh (HAL.out.trans (hb1.mono (by simp)))
   clear D hb1
   go_wp2_with fail
   go_returns
   exact ⟨rfl,HBL.out⟩
  .by_cases hi1:(N:Int)<ci
   .obtain rfl:R=32:=by rw [<-HR.out];simp [hi1]
    go_enter Tryz.func135,Tryz.ntmps135
    go_wp2_with fail
    refine (HN.out _ HAL.out).mono ?_
    rintro e w1 ⟨rfl,hb1⟩
    have D:=HBX.out.keep hb1 (by simp)
    obtain ⟨b0,b1,b2,b3,b4,b5,b6,b7,b8,b9,b10,b11⟩:=row12 D.at_
    have zs:=D.lt
    have HBL:=qh (HAL.out.trans (hb1.mono (by simp)))
    clear D hb1
    go_wp2_with fail
    go_returns
    exact ⟨rfl,HBL.out⟩
   .obtain rfl:R=0:=by rw [<-HR.out];simp [hi0,hi1]
    go_enter Tryz.func135,Tryz.ntmps135
    go_wp2_with fail
    refine (HN.out _ HAL.out).mono ?_
    rintro e w1 ⟨rfl,hb1⟩
    have D:=HBX.out.keep hb1 (by simp)
    obtain ⟨b0,b1,b2,b3,b4,b5,b6,b7,b8,b9,b10,b11⟩:=row12 D.at_
    have zs:=D.lt
    have HBL:=qh (HAL.out.trans (hb1.mono (by simp)))
    clear D hb1
    go_wp2_with fail
    go_returns
    exact ⟨rfl,HBL.out⟩
 .have f8 : (ck !=8)=true:=by simp [e8]
  by_cases e9:ck=9
  .cases e9
   by_cases hi0:ci<0
   .obtain rfl:R=32:=by rw [<-HR.out];simp [hi0]
    go_enter Tryz.func135,Tryz.ntmps135
    go_wp2_with fail
    refine (HN.out _ HAL.out).mono ?_
    rintro e w1 ⟨rfl,hb1⟩
    have D:=HBX.out.keep hb1 (by simp)
    obtain ⟨b0,b1,b2,b3,b4,b5,b6,b7,b8,b9,b10,b11⟩:=row12 D.at_
    have zs:=D.lt
    have HBL:=qh (HAL.out.trans (hb1.mono (by simp)))
    clear D hb1
    go_wp2_with fail
    go_returns
    exact ⟨rfl,HBL.out⟩
   .by_cases hi1:(N:Int)<ci
    .obtain rfl:R=32:=by rw [<-HR.out];simp [hi1]
     go_enter Tryz.func135,Tryz.ntmps135
     go_wp2_with fail
     refine (HN.out _ HAL.out).mono ?_
     rintro e w1 ⟨rfl,hb1⟩
     have D:=HBX.out.keep hb1 (by simp)
     obtain ⟨b0,b1,b2,b3,b4,b5,b6,b7,b8,b9,b10,b11⟩:=row12 D.at_
     have zs:=D.lt
     have HBL:=qh (HAL.out.trans (hb1.mono (by simp)))
     clear D hb1
     go_wp2_with fail
     go_returns
     exact ⟨rfl,HBL.out⟩
    .have hw1:IntKind.i64.wrap ((N:Int) - ci)=(N:Int) - ci:=IntWalk.i64_in _ (by omega)
     by_cases hn1:cn<1
     .obtain rfl:R=32:=by rw [<-HR.out];simp [hi0,hi1,hn1]
      go_enter Tryz.func135,Tryz.ntmps135
      go_wp2_with fail
      refine (HN.out _ HAL.out).mono ?_
      rintro e w1 ⟨rfl,hb1⟩
      have D:=HBX.out.keep hb1 (by simp)
      obtain ⟨b0,b1,b2,b3,b4,b5,b6,b7,b8,b9,b10,b11⟩:=row12 D.at_
      have zs:=D.lt
      have HBL:=qh (HAL.out.trans (hb1.mono (by simp)))
      clear D hb1
      go_wp2_with fail
      go_returns
      exact ⟨rfl,HBL.out⟩
     .by_cases hn2:(N:Int) - ci<cn
      .obtain rfl:R=32:=by rw [<-HR.out];simp [hi0,hi1,hn2]
       go_enter Tryz.func135,Tryz.ntmps135
       go_wp2_with fail
       refine (HN.out _ HAL.out).mono ?_
       rintro e w1 ⟨rfl,hb1⟩
       have D:=HBX.out.keep hb1 (by simp)
       obtain ⟨b0,b1,b2,b3,b4,b5,b6,b7,b8,b9,b10,b11⟩:=row12 D.at_
       have zs:=D.lt
       have HBL:=qh (HAL.out.trans (hb1.mono (by simp)))
       clear D hb1
       go_wp2_with fail
       go_returns
       exact ⟨rfl,HBL.out⟩
      .obtain rfl:R=0:=by rw [<-HR.out];simp [hi0,hi1,hn1,hn2]
       go_enter Tryz.func135,Tryz.ntmps135
       go_wp2_with fail
       refine (HN.out _ HAL.out).mono ?_
       rintro e w1 ⟨rfl,hb1⟩
       have D:=HBX.out.keep hb1 (by simp)
       obtain ⟨b0,b1,b2,b3,b4,b5,b6,b7,b8,b9,b10,b11⟩:=row12 D.at_
       have zs:=D.lt
       have HBL:=qh (HAL.out.trans (hb1.mono (by simp)))
       clear D hb1
       go_wp2_with fail
       go_returns
       exact ⟨rfl,HBL.out⟩
  .have f9:(ck !=9)=true:=by simp [e9]
   obtain rfl:R=31:=by rw [<-HR.out];simp [e8,e9]
   go_enter Tryz.func135,Tryz.ntmps135
   go_wp2_with fail
   refine (HN.out _ HAL.out).mono ?_
   rintro e w1 ⟨rfl,hb1⟩
   have D:=HBX.out.keep hb1 (by simp)
   obtain ⟨b0,b1,b2,b3,b4,b5,b6,b7,b8,b9,b10,b11⟩:=row12 D.at_
   have zs:=D.lt
   have HBL:=qh (HAL.out.trans (hb1.mono (by simp)))
   clear D hb1
   go_wp2_with fail
   go_returns
   exact ⟨rfl,HBL.out⟩
theorem zjz (d:Nat) (f:Nat):∀(i:Nat) (l:List UInt8),cutsP f (i+d) l=(cutsP f i l).map (· +d):=by
 induction f with
 |zero=>intro i l;rfl
 | succ f ih=>
   intro i l
   unfold cutsP
   split
   .rfl
   .rw [List.map_cons, <-ih];congr 2;omega
theorem zf2 (n:Nat):∀(I i:Nat) (l:List UInt8),l.length<=n->(h:I<(cutsP l.length i l).length)->
 (cutsP l.length i l)[I] - i<=l.length/\i<=(cutsP l.length i l)[I] /\(cutsP l.length i l).drop I=cutsP (l.drop ((cutsP l.length i l)[I] - i)).length (cutsP l.length i l)[I] (l.drop ((cutsP l.length i l)[I] - i)):=by
 induction n with
 | zero=>
   intro I i l hl h
   have:l= [] :=List.length_eq_zero_iff.1 (by omega)
   subst this
   simp [cutsP] at h
 | succ n ih=>
   intro I i l hl h
   by_cases hne:l= []
   .subst hne;simp [cutsP] at h
   .have hs:=Kg hne i
    have hw:=Lib.decodeL_width l
    have hle:=Lib.decodeL_le l hne
    cases I with
    | zero=>
      have e:(cutsP l.length i l)[0] =i:=by simp only [hs];rfl
      rw [e,Nat.sub_self,List.drop_zero,List.drop_zero]
      exact ⟨Nat.zero_le _,Nat.le_refl _,rfl⟩
    | succ I=>
      obtain ⟨k,hk⟩:∃k,(Lib.decodeL l).2=k:=⟨_,rfl⟩
      rw [hk] at hs hw hle
      have h2:I<(cutsP (l.drop k).length (i+k) (l.drop k)).length:=by rw [hs,List.length_cons] at h;omega
      have e:(cutsP l.length i l)[I+1] =(cutsP (l.drop k).length (i+k) (l.drop k))[I] :=by simp only [hs,List.getElem_cons_succ]
      obtain ⟨g1,g2,g3⟩:=ih I (i+k) (l.drop k) (by rw [List.length_drop];omega) h2
      obtain ⟨z,hzz⟩:∃z,(cutsP (l.drop k).length (i+k) (l.drop k))[I] =z:=⟨_,rfl⟩
      rw [hzz] at g1 g2 g3
      rw [e,hzz]
      have hdl:(l.drop k).length=l.length - k:=List.length_drop
      refine ⟨by omega,by omega, ?_⟩
      rw [hs,List.drop_succ_cons,g3,List.drop_drop]
      congr 2<;>(congr 1;omega)
theorem zec (s:ByteArray) (p:Nat):(s.extract p s.size).data.toList=s.data.toList.drop p:=by rw [zav]
theorem ziv (s:ByteArray) (p:Nat) (h:p<=s.size):(s.extract p s.size).size=s.size - p:=by rw [ByteArray.size_extract];omega
theorem zl2 (s:ByteArray) (I J:Nat) (hI:I<textN s) (hJ:I+J<=textN s):(cuts s).getD (I+J) 0=(cuts s).getD I 0+(cuts (s.extract ((cuts s).getD I 0) s.size)).getD J (s.extract ((cuts s).getD I 0) s.size).size:=by
 have hz:s.data.toList.length=s.size:=Array.length_toList
 have hN:textN s=(cutsP s.size 0 s.data.toList).length:=by rw [textN,cuts,List.length_append];rfl
 have hI2:I<(cutsP s.data.toList.length 0 s.data.toList).length:=by rw [hz];omega
 obtain ⟨g1,_,g3⟩:=zf2 _ I 0 s.data.toList (Nat.le_refl _) hI2
 have e:(cuts s).getD I 0=(cutsP s.data.toList.length 0 s.data.toList)[I] :=by
  simp only [cuts,hz]
  rw [List.getD_eq_getElem?_getD,List.getElem?_append_left (by omega),List.getElem?_eq_getElem (by omega)];rfl
 rw [e]
 obtain ⟨p,hp⟩:∃p,(cutsP s.data.toList.length 0 s.data.toList)[I] =p:=⟨_,rfl⟩
 rw [hp] at g1 g3 ⊢
 rw [Nat.sub_zero] at g1 g3
 rw [za0,ziv s p (by omega),zec,List.length_drop,hz] at*
 have h0:=zjz p (s.size - p) 0 (s.data.toList.drop p)
 rw [Nat.zero_add] at h0
 rw [h0] at g3
 have hl:(cutsP s.size 0 s.data.toList).length=I+(cutsP (s.size - p) 0 (s.data.toList.drop p)).length:=by
  have:=congrArg List.length g3
  rw [List.length_drop,List.length_map] at this;omega
 rw [cuts,List.getD_eq_getElem?_getD,List.getD_eq_getElem?_getD]
 by_cases h:J<(cutsP (s.size - p) 0 (s.data.toList.drop p)).length
 .rw [List.getElem?_append_left (by omega), <-List.getElem?_drop,g3,List.getElem?_map,List.getElem?_eq_getElem h]
  simp;omega
 .rw [List.getElem?_append_right (by omega),List.getElem?_eq_none (l:=cutsP (s.size - p) 0 (s.data.toList.drop p)) (by omega),show I+J - (cutsP s.size 0 s.data.toList).length=0 by omega]
  simp;omega
set_option maxRecDepth 100000 in
theorem zhv (w:World) (s:ByteArray) (c:CC) (hb:c.Bnd) (hs:s.size<=1000000000000) (hc:tCheck s c.k c.i c.n=0):
 uP 117 #[.string s, .agg #[.int .u8 c.k, .slice c.pa c.pl c.pc, .string c.key, .int .i64 c.i, .int .i64 c.j, .int .i64 c.n, .int .u8 c.v.k, .int .i64 c.v.n, .string c.v.s, .slice c.v.la c.v.ll c.v.lc, .slice c.v.oa c.v.ol c.v.oc, .string c.s]] w fun e w'=>e= .returned (.tuple #[.string (textDo s c.k c.i c.n c.s), .int .u16 0])/\uB w w':=by
 delta uB uP
 have HCK:Hid (∀W,uP 135 #[.string s, .agg #[.int .u8 c.k, .slice c.pa c.pl c.pc, .string c.key, .int .i64 c.i, .int .i64 c.j, .int .i64 c.n, .int .u8 c.v.k, .int .i64 c.v.n, .string c.v.s, .slice c.v.la c.v.ll c.v.lc, .slice c.v.oa c.v.ol c.v.oc, .string c.s]] W fun e w'=>e= .returned (.int .u16 0)/\uB W w'):=fun W=>by
  have:=zc9 W s c hb hs
  rw [hc] at this;exact this
 obtain ⟨hk,hi0,hi1⟩:=Kv hc
 have hcl:=Xl s
 obtain ⟨I,hI⟩:∃I:Nat,c.i=I:=⟨c.i.toNat,by omega⟩
 have hIl:I<(cuts s).length:=by rw [textN] at hi1;omega
 obtain ⟨p,hp⟩:∃p,(cuts s).getD I 0=p:=⟨_,rfl⟩
 have hps:(cuts s).getD I s.size=p:=by rw [<-hp,List.getD_eq_getElem?_getD,List.getD_eq_getElem?_getD,List.getElem?_eq_getElem hIl];rfl
 have hpl:p<=s.size:=by
  rw [<-hp,List.getD_eq_getElem?_getD,List.getElem?_eq_getElem hIl];exact J5 s I hIl
 have HAT:Hid (∀W,uP 157 #[.string s, .int .i64 (I:Int)] W fun e w'=>e= .returned (.int .i64 (p:Int))/\uB W w'):=fun W=>by
  have:=zdm W s I (by omega)
  rw [hps] at this;exact this
 have HBX:=qh (BC.start w #[.int .u8 c.k, .slice c.pa c.pl c.pc, .string c.key, .int .i64 c.i, .int .i64 c.j, .int .i64 c.n, .int .u8 c.v.k, .int .i64 c.v.n, .string c.v.s, .slice c.v.la c.v.ll c.v.lc, .slice c.v.oa c.v.ol c.v.oc, .string c.s] 54)
 have HAL:=qh ((Below.refl _ _).alloc (Nat.le_refl _) (.cells #[.int .u8 c.k, .slice c.pa c.pl c.pc, .string c.key, .int .i64 c.i, .int .i64 c.j, .int .i64 c.n, .int .u8 c.v.k, .int .i64 c.v.n, .string c.v.s, .slice c.v.la c.v.ll c.v.lc, .slice c.v.oa c.v.ol c.v.oc, .string c.s] 54):uB w _)
 obtain ⟨R,hR⟩:∃R,textDo s c.k c.i c.n c.s=R:=⟨_,rfl⟩
 rw [hR]
 rw [textDo,hI,Int.toNat_natCast,hp] at hR
 have hk2:(c.k=8)∨(c.k=9/\∃J:Nat,c.n=J/\I<textN s/\I+J<=textN s):=by
  rcases hk with h|⟨h1,h2,h3⟩
  .exact .inl h
  .exact .inr ⟨h1,c.n.toNat,by omega,by omega,by omega⟩
 obtain ⟨ck,hck⟩:∃ck,c.k=ck:=⟨_,rfl⟩
 obtain ⟨cn,hcn⟩:∃cn,c.n=cn:=⟨_,rfl⟩
 rw [hck,hcn] at hR hk2
 rw [hck,hI,hcn] at HCK HBX HAL ⊢
 have hsz:s.size<=9223372036854775807:=by omega
 have hs1:=hb.s1
 have hq1:¬(9223372036854775807<p+c.s.size):=by omega
 have hq2:¬(9223372036854775807<p+c.s.size+(s.size - p)):=by omega
 clear hb hc hk hck hcn hi0 hi1 hI hps
 rcases hk2 with e8|⟨e9,J,hJ,hI2,hIJ⟩
 .cases e8
  rw [if_pos rfl] at hR
  have HR:=qh hR
  clear hR hp
  go_enter Tryz.func117,Tryz.ntmps117
  go_wp2_with fail
  refine (HCK.out _).mono ?_
  rintro e w1 ⟨rfl,hb1⟩
  have D1:=HBX.out.keep hb1 (by simp)
  have hbl1:=HAL.out.trans (hb1.mono (by simp))
  obtain ⟨b0,b1,b2,b3,b4,b5,b6,b7,b8,b9,b10,b11⟩:=row12 D1.at_
  have zs1:=D1.lt
  have HD1:=qh D1
  have HBL1:=qh hbl1
  clear D1 hb1 hbl1
  go_wp2_with fail
  refine (HAT.out _).mono ?_
  rintro e w2 ⟨rfl,hb2⟩
  clear b0 b1 b2 b3 b4 b5 b6 b7 b8 b9 b10 b11
  have D2:=HD1.out.keep hb2 HD1.out.lt
  obtain ⟨b0,b1,b2,b3,b4,b5,b6,b7,b8,b9,b10,b11⟩:=row12 D2.at_
  have zs:=D2.lt
  have HBL2:=qh (HBL1.out.trans (hb2.mono HBL1.out.size))
  clear D2 hb2
  go_wp2_with fail
  go_quiet (fail)
  go_wp2_with fail
  go_returns
  exact ⟨by rw [<-HR.out];rfl,Z7 HBL2.out _⟩
 .cases e9
  cases hJ
  have hct:=zl2 s I J hI2 hIJ
  rw [if_neg (by omega),show ((I:Int)+(J:Int)).toNat=I+J by omega,hct] at hR
  rw [hp] at hR hct
  obtain ⟨q,hq⟩:∃q,(cuts (s.extract p s.size)).getD J (s.extract p s.size).size=q:=⟨_,rfl⟩
  rw [hq] at hR hct
  have HAT2:Hid (∀W,uP 157 #[.string (s.extract p s.size), .int .i64 (J:Int)] W fun e w'=>e= .returned (.int .i64 (q:Int))/\uB W w'):=fun W=>by
   have:=zdm W (s.extract p s.size) J (by rw [textN] at hIJ;omega)
   rw [hq] at this;exact this
  have hql:p+q<=s.size:=by
   rw [<-hct,List.getD_eq_getElem?_getD,List.getElem?_eq_getElem (by rw [textN] at hIJ;omega)];exact J5 s _ _
  have hq3:¬(9223372036854775807<p+(s.size - (p+q))):=by omega
  have hw1:IntKind.i64.wrap ((p:Int)+(q:Int))=(p:Int)+(q:Int):=IntWalk.i64_in _ (by omega)
  have HR:=qh hR
  clear hR hp hq hct
  go_enter Tryz.func117,Tryz.ntmps117
  go_wp2_with fail
  refine (HCK.out _).mono ?_
  rintro e w1 ⟨rfl,hb1⟩
  have D1:=HBX.out.keep hb1 (by simp)
  have hbl1:=HAL.out.trans (hb1.mono (by simp))
  obtain ⟨b0,b1,b2,b3,b4,b5,b6,b7,b8,b9,b10,b11⟩:=row12 D1.at_
  have zs1:=D1.lt
  have HD1:=qh D1
  have HBL1:=qh hbl1
  clear D1 hb1 hbl1
  go_wp2_with fail
  refine (HAT.out _).mono ?_
  rintro e w2 ⟨rfl,hb2⟩
  clear b0 b1 b2 b3 b4 b5 b6 b7 b8 b9 b10 b11
  have D2:=HD1.out.keep hb2 HD1.out.lt
  obtain ⟨b0,b1,b2,b3,b4,b5,b6,b7,b8,b9,b10,b11⟩:=row12 D2.at_
  have zs:=D2.lt
  have HBL2:=qh (HBL1.out.trans (hb2.mono HBL1.out.size))
  have HD2:=qh D2
  clear D2 hb2
  go_wp2_with fail
  go_region_with (go_simp;go_at_call 157;(with_reducible refine (HAT2.out _).mono ?_);rintro e w4 ⟨rfl,hb4⟩;have HB4:=qh hb4;clear hb4)
  all_goals (go_wp2_with fail;go_returns;exact ⟨by rw [<-HR.out];rfl,HBL2.out.trans (((Below.refl _ _).drew.trans HB4.out).mono HBL2.out.size)⟩)
end Go.Proofs.YtbgheehjfnoiiaaGreatDoor
