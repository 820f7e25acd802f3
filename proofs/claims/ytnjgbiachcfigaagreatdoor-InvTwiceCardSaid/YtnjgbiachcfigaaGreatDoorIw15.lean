/-
  Contracts of the functions that the law reaches: text.Len, text.at (the program's)..
-/
import Derived.Test.YtnjgbiachcfigaaGreatDoorIw8
import Derived.Test.YtnjgbiachcfigaaGreatDoorIw14
namespace Go.Proofs.YtnjgbiachcfigaaGreatDoor
open Go.RowKit
set_option maxHeartbeats 8000000
theorem zax (s:ByteArray) (i:Nat):(cuts s).getD i s.size=(cutsP s.size 0 s.data.toList).getD i s.size:=by
 rw [cuts,List.getD_eq_getElem?_getD,List.getD_eq_getElem?_getD]
 by_cases h:i<(cutsP s.size 0 s.data.toList).length
 .rw [List.getElem?_append_left h]
 .rw [List.getElem?_append_right (by omega),List.getElem?_eq_none (l:=cutsP s.size 0 s.data.toList) (by omega)]
  by_cases e:i - (cutsP s.size 0 s.data.toList).length=0
  .rw [e];rfl
  .rw [List.getElem?_eq_none (by simp;omega)]
set_option maxRecDepth 100000 in
theorem zep (w:World) (s:ByteArray) (i:Nat) (hi:i<=9223372036854775807):
 uP 124 #[.string s, .int .i64 (i:Int)] w fun e w'=>e= .returned (.int .i64 ((cuts s).getD i s.size:Int))/\uB w w':=by
 delta uB uP
 rw [zax]
 have hz:s.data.toList.length=s.size:=Array.length_toList
 have HZ:=qh hz
 obtain ⟨R,hR⟩:∃R,(cutsP s.size 0 s.data.toList).getD i s.size=R:=⟨_,rfl⟩
 have HR:=qh hR
 rw [hR]
 clear hR hz
 go_enter Tryz.func124,Tryz.ntmps124
 go_wp2_with fail
 go_loopw [1,5] (fun iv _ wr=>∃(pos m:Nat),wr=w.iter s pos/\m<=i/\iv= .int .i64 (m:Int)/\Hid ((cutsP (s.data.toList.drop pos).length pos (s.data.toList.drop pos)).getD m s.size=R)) (fun _ _ wr=>s.size - wr.iterPos w.heap.size)
 case atStart=>exact ⟨0,i,rfl,Nat.le_refl _,rfl,qh (by rw [List.drop_zero,HZ.out];exact HR.out)⟩
 case round=>
  obtain ⟨pos,m,rfl,hm,rfl,HC⟩:=hrel
  by_cases hp:pos<s.size
  .have hnx:∀ty,(Instr.next (.pointer (some ⟨w.heap.size,0,none⟩)) true ty).run Tryz.prog (w.iter s pos)=_:=fun ty=>run_next_any w s pos ty hp
   have hwd:=Lib.decode_width_pos s pos hp
   have hne:s.data.toList.drop pos≠ [] :=fun e=>by
    have:=congrArg List.length e
    rw [List.length_drop,HZ.out] at this
    simp at this;omega
   have hcs:=HC.out
   rw [Y8 hne, <-zbd,List.drop_drop] at hcs
   have HCS:=qh hcs
   have hw1:IntKind.i64.wrap ((m:Int) - 1)=(m:Int) - 1:=IntWalk.i64_in _ (by omega)
   clear hcs hne
   by_cases h0:m=0
   .subst h0
    have hr:pos=R:=by have:=HCS.out;rwa [List.getD_cons_zero] at this
    subst hr
    clear HCS HC
    go_wp2_with fail
    go_returns
    exact ⟨rfl,(Below.refl _ _).alloc (Nat.le_refl _) _⟩
   .have f0:((m:Int)==0)=false:=by simp;omega
    go_wp2_with fail
    go_roundw
    case rel=>
     obtain ⟨m',rfl⟩:∃m',m=m'+1:=⟨m - 1,by omega⟩
     refine ⟨pos+(Utf8.decode s pos).2,m',rfl,by omega,by go_num,qh ?_⟩
     have:=HCS.out
     rwa [List.getD_cons_succ] at this
    case measure=>
     simp
     omega
  .have hnx:∀ty,(Instr.next (.pointer (some ⟨w.heap.size,0,none⟩)) true ty).run Tryz.prog (w.iter s pos)=_:=fun ty=>run_next_end w s pos ty hp
   have hr:s.size=R:=by
    have:=HC.out
    rw [List.drop_eq_nil_of_le (by rw [HZ.out];omega)] at this
    exact this
   subst hr
   clear HC HR
   go_wp2_with fail
   go_returns
   exact ⟨rfl,(Below.refl _ _).alloc (Nat.le_refl _) _⟩
set_option maxRecDepth 100000 in
theorem zb2 (w:World) (s:ByteArray) (c:CC) (hb:c.Bnd) (hs:s.size<=1000000000000):
 uP 114 #[.string s, .agg (uC c)] w fun e w'=>e= .returned (.int .u16 (tCheck s c.k c.i c.n))/\uB w w':=by
 delta uC uB uP
 have n0:=hb.n0;have n1:=hb.n1;have i0:=hb.i0;have i1:=hb.i1
 obtain ⟨N,hN⟩:∃N,textN s=N:=⟨_,rfl⟩
 have hNl:N<=1000000000000:=by have:=(Yo s).2;rw [<-hN,textN];omega
 have HN:Hid (∀W,uB w W->uP 101 #[.string s] W fun e w'=>e= .returned (.int .i64 (N:Int))/\uB W w'):=fun W hW=>by rw [<-hN];exact zc5 W s hs
 have HBX:=qh (BC.start w #[.int .u8 c.k, .slice c.pa c.pl c.pc, .string c.key, .int .i64 c.i, .int .i64 c.j, .int .i64 c.n, .int .u8 c.v.k, .int .i64 c.v.n, .string c.v.s, .slice c.v.la c.v.ll c.v.lc, .slice c.v.oa c.v.ol c.v.oc, .string c.s] 39)
 have HAL:=qh ((Below.refl _ _).alloc (Nat.le_refl _) (.cells #[.int .u8 c.k, .slice c.pa c.pl c.pc, .string c.key, .int .i64 c.i, .int .i64 c.j, .int .i64 c.n, .int .u8 c.v.k, .int .i64 c.v.n, .string c.v.s, .slice c.v.la c.v.ll c.v.lc, .slice c.v.oa c.v.ol c.v.oc, .string c.s] 39):uB w _)
 obtain ⟨R,hR⟩:∃R,tCheck s c.k c.i c.n=R:=⟨_,rfl⟩
 rw [hR]
 rw [tCheck,hN] at hR
 have HR:=qh hR
 obtain ⟨ck,hck⟩:∃ck,c.k=ck:=⟨_,rfl⟩
 obtain ⟨ci,hci⟩:∃ci,c.i=ci:=⟨_,rfl⟩
 obtain ⟨cn,hcn⟩:∃cn,c.n=cn:=⟨_,rfl⟩
 rw [hck,hci,hcn] at HR
 rw [hcn] at n0 n1
 rw [hci] at i0 i1
 rw [hck,hci,hcn] at HBX HAL ⊢
 clear hR hN hb hck hci hcn
 by_cases e8:ck=8
 .cases e8
  have f9:((8:Int)==9)=false:=rfl
  by_cases hi0:ci<0
  .obtain rfl:R=32:=by rw [<-HR.out];simp [hi0]
   go_enter Tryz.func114,Tryz.ntmps114
   go_wp2_with fail
   refine (HN.out _ HAL.out).mono ?_
   rintro e w1 ⟨rfl,hb1⟩
   have D:=HBX.out.keep hb1 (by simp)
   obtain ⟨b0,b1,b2,b3,b4,b5,b6,b7,b8,b9,b10,b11⟩:=row12 D.at_
   have zs:=D.lt
   have HBL:=qh (HAL.out.trans (hb1.mono (by simp)))
   clear D hb1
   go_wp2_with fail
   go_returns
   exact ⟨rfl,HBL.out⟩
  .by_cases hi1:(N:Int)<ci
   .obtain rfl:R=32:=by rw [<-HR.out];simp [hi1]
    go_enter Tryz.func114,Tryz.ntmps114
    go_wp2_with fail
    refine (HN.out _ HAL.out).mono ?_
    rintro e w1 ⟨rfl,hb1⟩
    have D:=HBX.out.keep hb1 (by simp)
    obtain ⟨b0,b1,b2,b3,b4,b5,b6,b7,b8,b9,b10,b11⟩:=row12 D.at_
    have zs:=D.lt
    have HBL:=qh (HAL.out.trans (hb1.mono (by simp)))
    clear D hb1
    go_wp2_with fail
    go_returns
    exact ⟨rfl,HBL.out⟩
   .obtain rfl:R=0:=by rw [<-HR.out];simp [hi0,hi1]
    go_enter Tryz.func114,Tryz.ntmps114
    go_wp2_with fail
    refine (HN.out _ HAL.out).mono ?_
    rintro e w1 ⟨rfl,hb1⟩
    have D:=HBX.out.keep hb1 (by simp)
    obtain ⟨b0,b1,b2,b3,b4,b5,b6,b7,b8,b9,b10,b11⟩:=row12 D.at_
    have zs:=D.lt
    have HBL:=qh (HAL.out.trans (hb1.mono (by simp)))
    clear D hb1
    go_wp2_with fail
    go_returns
    exact ⟨rfl,HBL.out⟩
 .have f8 : (ck !=8)=true:=by simp [e8]
  by_cases e9:ck=9
  .cases e9
   by_cases hi0:ci<0
   .obtain rfl:R=32:=by rw [<-HR.out];simp [hi0]
    go_enter Tryz.func114,Tryz.ntmps114
    go_wp2_with fail
    refine (HN.out _ HAL.out).mono ?_
    rintro e w1 ⟨rfl,hb1⟩
    have D:=HBX.out.keep hb1 (by simp)
    obtain ⟨b0,b1,b2,b3,b4,b5,b6,b7,b8,b9,b10,b11⟩:=row12 D.at_
    have zs:=D.lt
    have HBL:=qh (HAL.out.trans (hb1.mono (by simp)))
    clear D hb1
    go_wp2_with fail
    go_returns
    exact ⟨rfl,HBL.out⟩
   .by_cases hi1:(N:Int)<ci
    .obtain rfl:R=32:=by rw [<-HR.out];simp [hi1]
     go_enter Tryz.func114,Tryz.ntmps114
     go_wp2_with fail
     refine (HN.out _ HAL.out).mono ?_
     rintro e w1 ⟨rfl,hb1⟩
     have D:=HBX.out.keep hb1 (by simp)
     obtain ⟨b0,b1,b2,b3,b4,b5,b6,b7,b8,b9,b10,b11⟩:=row12 D.at_
     have zs:=D.lt
     have HBL:=qh (HAL.out.trans (hb1.mono (by simp)))
     clear D hb1
     go_wp2_with fail
     go_returns
     exact ⟨rfl,HBL.out⟩
    .have hw1:IntKind.i64.wrap ((N:Int) - ci)=(N:Int) - ci:=IntWalk.i64_in _ (by omega)
     by_cases hn1:cn<1
     .obtain rfl:R=32:=by rw [<-HR.out];simp [hi0,hi1,hn1]
      go_enter Tryz.func114,Tryz.ntmps114
      go_wp2_with fail
      refine (HN.out _ HAL.out).mono ?_
      rintro e w1 ⟨rfl,hb1⟩
      have D:=HBX.out.keep hb1 (by simp)
      obtain ⟨b0,b1,b2,b3,b4,b5,b6,b7,b8,b9,b10,b11⟩:=row12 D.at_
      have zs:=D.lt
      have HBL:=qh (HAL.out.trans (hb1.mono (by simp)))
      clear D hb1
      go_wp2_with fail
      go_returns
      exact ⟨rfl,HBL.out⟩
     .by_cases hn2:(N:Int) - ci<cn
      .obtain rfl:R=32:=by rw [<-HR.out];simp [hi0,hi1,hn2]
       go_enter Tryz.func114,Tryz.ntmps114
       go_wp2_with fail
       refine (HN.out _ HAL.out).mono ?_
       rintro e w1 ⟨rfl,hb1⟩
       have D:=HBX.out.keep hb1 (by simp)
       obtain ⟨b0,b1,b2,b3,b4,b5,b6,b7,b8,b9,b10,b11⟩:=row12 D.at_
       have zs:=D.lt
       have HBL:=qh (HAL.out.trans (hb1.mono (by simp)))
       clear D hb1
       go_wp2_with fail
       go_returns
       exact ⟨rfl,HBL.out⟩
      .obtain rfl:R=0:=by rw [<-HR.out];simp [hi0,hi1,hn1,hn2]
       go_enter Tryz.func114,Tryz.ntmps114
       go_wp2_with fail
       refine (HN.out _ HAL.out).mono ?_
       rintro e w1 ⟨rfl,hb1⟩
       have D:=HBX.out.keep hb1 (by simp)
       obtain ⟨b0,b1,b2,b3,b4,b5,b6,b7,b8,b9,b10,b11⟩:=row12 D.at_
       have zs:=D.lt
       have HBL:=qh (HAL.out.trans (hb1.mono (by simp)))
       clear D hb1
       go_wp2_with fail
       go_returns
       exact ⟨rfl,HBL.out⟩
  .have f9:(ck !=9)=true:=by simp [e9]
   obtain rfl:R=31:=by rw [<-HR.out];simp [e8,e9]
   go_enter Tryz.func114,Tryz.ntmps114
   go_wp2_with fail
   refine (HN.out _ HAL.out).mono ?_
   rintro e w1 ⟨rfl,hb1⟩
   have D:=HBX.out.keep hb1 (by simp)
   obtain ⟨b0,b1,b2,b3,b4,b5,b6,b7,b8,b9,b10,b11⟩:=row12 D.at_
   have zs:=D.lt
   have HBL:=qh (HAL.out.trans (hb1.mono (by simp)))
   clear D hb1
   go_wp2_with fail
   go_returns
   exact ⟨rfl,HBL.out⟩
theorem zdj (d:Nat) (f:Nat):∀(i:Nat) (l:List UInt8),cutsP f (i+d) l=(cutsP f i l).map (· +d):=by
 induction f with
 |zero=>intro i l;rfl
 | succ f ih=>
   intro i l
   unfold cutsP
   split
   .rfl
   .rw [List.map_cons, <-ih];congr 2;omega
theorem zlw (n:Nat):∀(I i:Nat) (l:List UInt8),l.length<=n->(h:I<(cutsP l.length i l).length)->
 (cutsP l.length i l)[I] - i<=l.length/\i<=(cutsP l.length i l)[I] /\(cutsP l.length i l).drop I=cutsP (l.drop ((cutsP l.length i l)[I] - i)).length (cutsP l.length i l)[I] (l.drop ((cutsP l.length i l)[I] - i)):=by
 induction n with
 | zero=>
   intro I i l hl h
   have:l= [] :=List.length_eq_zero_iff.1 (by omega)
   subst this
   simp [cutsP] at h
 | succ n ih=>
   intro I i l hl h
   by_cases hne:l= []
   .subst hne;simp [cutsP] at h
   .have hs:=Y8 hne i
    have hw:=Lib.decodeL_width l
    have hle:=Lib.decodeL_le l hne
    cases I with
    | zero=>
      have e:(cutsP l.length i l)[0] =i:=by simp only [hs];rfl
      rw [e,Nat.sub_self,List.drop_zero,List.drop_zero]
      exact ⟨Nat.zero_le _,Nat.le_refl _,rfl⟩
    | succ I=>
      obtain ⟨k,hk⟩:∃k,(Lib.decodeL l).2=k:=⟨_,rfl⟩
      rw [hk] at hs hw hle
      have h2:I<(cutsP (l.drop k).length (i+k) (l.drop k)).length:=by rw [hs,List.length_cons] at h;omega
      have e:(cutsP l.length i l)[I+1] =(cutsP (l.drop k).length (i+k) (l.drop k))[I] :=by simp only [hs,List.getElem_cons_succ]
      obtain ⟨g1,g2,g3⟩:=ih I (i+k) (l.drop k) (by rw [List.length_drop];omega) h2
      obtain ⟨z,hzz⟩:∃z,(cutsP (l.drop k).length (i+k) (l.drop k))[I] =z:=⟨_,rfl⟩
      rw [hzz] at g1 g2 g3
      rw [e,hzz]
      have hdl:(l.drop k).length=l.length - k:=List.length_drop
      refine ⟨by omega,by omega, ?_⟩
      rw [hs,List.drop_succ_cons,g3,List.drop_drop]
      congr 2<;>(congr 1;omega)
theorem zfy (s:ByteArray) (p:Nat):(s.extract p s.size).data.toList=s.data.toList.drop p:=by rw [zcy]
theorem zjq (s:ByteArray) (p:Nat) (h:p<=s.size):(s.extract p s.size).size=s.size - p:=by rw [ByteArray.size_extract];omega
theorem za8 (s:ByteArray) (I J:Nat) (hI:I<textN s) (hJ:I+J<=textN s):(cuts s).getD (I+J) 0=(cuts s).getD I 0+(cuts (s.extract ((cuts s).getD I 0) s.size)).getD J (s.extract ((cuts s).getD I 0) s.size).size:=by
 have hz:s.data.toList.length=s.size:=Array.length_toList
 have hN:textN s=(cutsP s.size 0 s.data.toList).length:=by rw [textN,cuts,List.length_append];rfl
 have hI2:I<(cutsP s.data.toList.length 0 s.data.toList).length:=by rw [hz];omega
 obtain ⟨g1,_,g3⟩:=zlw _ I 0 s.data.toList (Nat.le_refl _) hI2
 have e:(cuts s).getD I 0=(cutsP s.data.toList.length 0 s.data.toList)[I] :=by
  simp only [cuts,hz]
  rw [List.getD_eq_getElem?_getD,List.getElem?_append_left (by omega),List.getElem?_eq_getElem (by omega)];rfl
 rw [e]
 obtain ⟨p,hp⟩:∃p,(cutsP s.data.toList.length 0 s.data.toList)[I] =p:=⟨_,rfl⟩
 rw [hp] at g1 g3 ⊢
 rw [Nat.sub_zero] at g1 g3
 rw [zax,zjq s p (by omega),zfy,List.length_drop,hz] at*
 have h0:=zdj p (s.size - p) 0 (s.data.toList.drop p)
 rw [Nat.zero_add] at h0
 rw [h0] at g3
 have hl:(cutsP s.size 0 s.data.toList).length=I+(cutsP (s.size - p) 0 (s.data.toList.drop p)).length:=by
  have:=congrArg List.length g3
  rw [List.length_drop,List.length_map] at this;omega
 rw [cuts,List.getD_eq_getElem?_getD,List.getD_eq_getElem?_getD]
 by_cases h:J<(cutsP (s.size - p) 0 (s.data.toList.drop p)).length
 .rw [List.getElem?_append_left (by omega), <-List.getElem?_drop,g3,List.getElem?_map,List.getElem?_eq_getElem h]
  simp;omega
 .rw [List.getElem?_append_right (by omega),List.getElem?_eq_none (l:=cutsP (s.size - p) 0 (s.data.toList.drop p)) (by omega),show I+J - (cutsP s.size 0 s.data.toList).length=0 by omega]
  simp;omega
set_option maxRecDepth 100000 in
theorem zpi (w:World) (s:ByteArray) (c:CC) (hb:c.Bnd) (hs:s.size<=1000000000000) (hc:tCheck s c.k c.i c.n=0):
 uP 83 #[.string s, .agg #[.int .u8 c.k, .slice c.pa c.pl c.pc, .string c.key, .int .i64 c.i, .int .i64 c.j, .int .i64 c.n, .int .u8 c.v.k, .int .i64 c.v.n, .string c.v.s, .slice c.v.la c.v.ll c.v.lc, .slice c.v.oa c.v.ol c.v.oc, .string c.s]] w fun e w'=>e= .returned (.tuple #[.string (textDo s c.k c.i c.n c.s), .int .u16 0])/\uB w w':=by
 delta uB uP
 have HCK:Hid (∀W,uP 114 #[.string s, .agg #[.int .u8 c.k, .slice c.pa c.pl c.pc, .string c.key, .int .i64 c.i, .int .i64 c.j, .int .i64 c.n, .int .u8 c.v.k, .int .i64 c.v.n, .string c.v.s, .slice c.v.la c.v.ll c.v.lc, .slice c.v.oa c.v.ol c.v.oc, .string c.s]] W fun e w'=>e= .returned (.int .u16 0)/\uB W w'):=fun W=>by
  have:=zb2 W s c hb hs
  rw [hc] at this;exact this
 obtain ⟨hk,hi0,hi1⟩:=J0 hc
 have hcl:=Yo s
 obtain ⟨I,hI⟩:∃I:Nat,c.i=I:=⟨c.i.toNat,by omega⟩
 have hIl:I<(cuts s).length:=by rw [textN] at hi1;omega
 obtain ⟨p,hp⟩:∃p,(cuts s).getD I 0=p:=⟨_,rfl⟩
 have hps:(cuts s).getD I s.size=p:=by rw [<-hp,List.getD_eq_getElem?_getD,List.getD_eq_getElem?_getD,List.getElem?_eq_getElem hIl];rfl
 have hpl:p<=s.size:=by
  rw [<-hp,List.getD_eq_getElem?_getD,List.getElem?_eq_getElem hIl];exact J8 s I hIl
 have HAT:Hid (∀W,uP 124 #[.string s, .int .i64 (I:Int)] W fun e w'=>e= .returned (.int .i64 (p:Int))/\uB W w'):=fun W=>by
  have:=zep W s I (by omega)
  rw [hps] at this;exact this
 have HBX:=qh (BC.start w #[.int .u8 c.k, .slice c.pa c.pl c.pc, .string c.key, .int .i64 c.i, .int .i64 c.j, .int .i64 c.n, .int .u8 c.v.k, .int .i64 c.v.n, .string c.v.s, .slice c.v.la c.v.ll c.v.lc, .slice c.v.oa c.v.ol c.v.oc, .string c.s] 39)
 have HAL:=qh ((Below.refl _ _).alloc (Nat.le_refl _) (.cells #[.int .u8 c.k, .slice c.pa c.pl c.pc, .string c.key, .int .i64 c.i, .int .i64 c.j, .int .i64 c.n, .int .u8 c.v.k, .int .i64 c.v.n, .string c.v.s, .slice c.v.la c.v.ll c.v.lc, .slice c.v.oa c.v.ol c.v.oc, .string c.s] 39):uB w _)
 obtain ⟨R,hR⟩:∃R,textDo s c.k c.i c.n c.s=R:=⟨_,rfl⟩
 rw [hR]
 rw [textDo,hI,Int.toNat_natCast,hp] at hR
 have hk2:(c.k=8)∨(c.k=9/\∃J:Nat,c.n=J/\I<textN s/\I+J<=textN s):=by
  rcases hk with h|⟨h1,h2,h3⟩
  .exact .inl h
  .exact .inr ⟨h1,c.n.toNat,by omega,by omega,by omega⟩
 obtain ⟨ck,hck⟩:∃ck,c.k=ck:=⟨_,rfl⟩
 obtain ⟨cn,hcn⟩:∃cn,c.n=cn:=⟨_,rfl⟩
 rw [hck,hcn] at hR hk2
 rw [hck,hI,hcn] at HCK HBX HAL ⊢
 have hsz:s.size<=9223372036854775807:=by omega
 have hs1:=hb.s1
 have hq1:¬(9223372036854775807<p+c.s.size):=by omega
 have hq2:¬(9223372036854775807<p+c.s.size+(s.size - p)):=by omega
 clear hb hc hk hck hcn hi0 hi1 hI hps
 rcases hk2 with e8|⟨e9,J,hJ,hI2,hIJ⟩
 .cases e8
  rw [if_pos rfl] at hR
  have HR:=qh hR
  clear hR hp
  go_enter Tryz.func83,Tryz.ntmps83
  go_wp2_with fail
  refine (HCK.out _).mono ?_
  rintro e w1 ⟨rfl,hb1⟩
  have D1:=HBX.out.keep hb1 (by simp)
  have hbl1:=HAL.out.trans (hb1.mono (by simp))
  obtain ⟨b0,b1,b2,b3,b4,b5,b6,b7,b8,b9,b10,b11⟩:=row12 D1.at_
  have zs1:=D1.lt
  have HD1:=qh D1
  have HBL1:=qh hbl1
  clear D1 hb1 hbl1
  go_wp2_with fail
  refine (HAT.out _).mono ?_
  rintro e w2 ⟨rfl,hb2⟩
  clear b0 b1 b2 b3 b4 b5 b6 b7 b8 b9 b10 b11
  have D2:=HD1.out.keep hb2 HD1.out.lt
  obtain ⟨b0,b1,b2,b3,b4,b5,b6,b7,b8,b9,b10,b11⟩:=row12 D2.at_
  have zs:=D2.lt
  have HBL2:=qh (HBL1.out.trans (hb2.mono HBL1.out.size))
  clear D2 hb2
  go_wp2_with fail
  go_quiet (fail)
  go_wp2_with fail
  go_returns
  exact ⟨by rw [<-HR.out];rfl,Ye HBL2.out _⟩
 .cases e9
  cases hJ
  have hct:=za8 s I J hI2 hIJ
  rw [if_neg (by omega),show ((I:Int)+(J:Int)).toNat=I+J by omega,hct] at hR
  rw [hp] at hR hct
  obtain ⟨q,hq⟩:∃q,(cuts (s.extract p s.size)).getD J (s.extract p s.size).size=q:=⟨_,rfl⟩
  rw [hq] at hR hct
  have HAT2:Hid (∀W,uP 124 #[.string (s.extract p s.size), .int .i64 (J:Int)] W fun e w'=>e= .returned (.int .i64 (q:Int))/\uB W w'):=fun W=>by
   have:=zep W (s.extract p s.size) J (by rw [textN] at hIJ;omega)
   rw [hq] at this;exact this
  have hql:p+q<=s.size:=by
   rw [<-hct,List.getD_eq_getElem?_getD,List.getElem?_eq_getElem (by rw [textN] at hIJ;omega)];exact J8 s _ _
  have hq3:¬(9223372036854775807<p+(s.size - (p+q))):=by omega
  have hw1:IntKind.i64.wrap ((p:Int)+(q:Int))=(p:Int)+(q:Int):=IntWalk.i64_in _ (by omega)
  have HR:=qh hR
  clear hR hp hq hct
  go_enter Tryz.func83,Tryz.ntmps83
  go_wp2_with fail
  refine (HCK.out _).mono ?_
  rintro e w1 ⟨rfl,hb1⟩
  have D1:=HBX.out.keep hb1 (by simp)
  have hbl1:=HAL.out.trans (hb1.mono (by simp))
  obtain ⟨b0,b1,b2,b3,b4,b5,b6,b7,b8,b9,b10,b11⟩:=row12 D1.at_
  have zs1:=D1.lt
  have HD1:=qh D1
  have HBL1:=qh hbl1
  clear D1 hb1 hbl1
  go_wp2_with fail
  refine (HAT.out _).mono ?_
  rintro e w2 ⟨rfl,hb2⟩
  clear b0 b1 b2 b3 b4 b5 b6 b7 b8 b9 b10 b11
  have D2:=HD1.out.keep hb2 HD1.out.lt
  obtain ⟨b0,b1,b2,b3,b4,b5,b6,b7,b8,b9,b10,b11⟩:=row12 D2.at_
  have zs:=D2.lt
  have HBL2:=qh (HBL1.out.trans (hb2.mono HBL1.out.size))
  have HD2:=qh D2
  clear D2 hb2
  go_wp2_with fail
  go_region_with (go_simp;go_at_call 124;(with_reducible refine (HAT2.out _).mono ?_);rintro e w4 ⟨rfl,hb4⟩;have HB4:=qh hb4;clear hb4)
  all_goals (go_wp2_with fail;go_returns;exact ⟨by rw [<-HR.out];rfl,HBL2.out.trans (((Below.refl _ _).drew.trans HB4.out).mono HBL2.out.size)⟩)
def wcells (d:VC) (cc:CC):List Value:=vcells d++ccells cc
set_option maxRecDepth 100000 in
theorem zpe (w:World) (B:Nat) (d:VC) (cc:CC) (hB:BC w B (wcells d cc)):
 uP 43 #[.pointer (some ⟨B,0,none⟩)] w fun e w'=>e= .returned (.tuple #[])/\∃W,uB w W/\w'=W.setCell ⟨B,1,none⟩ (.int .i64 (wrap64 (d.n+cc.n))):=by
 delta uB uP
 have c1:=hB.at_ 1 _ rfl;have c10:=hB.at_ 10 _ rfl;have f1:=hB.fr 1
 have zs:=hB.lt
 have mixed:Tryz.prog.follows .mixedOrders=true:=by kernel_rfl
 clear hB
 go_enter Tryz.func43,Tryz.ntmps43
 go_wp2_with fail
 go_region
 all_goals (go_wp2_with fail;exact ⟨rfl, .tuple #[],by simp [results,Tryz.results43,go_sem],rfl,w.drew,(Below.refl _ _).drew,rfl⟩)
set_option maxRecDepth 100000 in
theorem zl9 (w:World) (B:Nat) (d:VC) (cc:CC) (hB:BC w B (wcells d cc)) (hcb:cc.Bnd) (hs:d.s.size<=1000000000000) (hc:tCheck d.s cc.k cc.i cc.n=0):
 uP 46 #[.pointer (some ⟨B,0,none⟩)] w fun e w'=>e= .returned (.tuple #[])/\∃W,uB w W/\w'=W.setCell ⟨B,2,none⟩ (.string (textDo d.s cc.k cc.i cc.n cc.s)):=by
 delta uB uP
 have HTD:Hid (∀W,uP 83 #[.string d.s, .agg (uC cc)] W fun e w'=>e= .returned (.tuple #[.string (textDo d.s cc.k cc.i cc.n cc.s), .int .u16 0])/\uB W w'):=fun W=>zpi W d.s cc hcb hs hc
 have HB:=qh hB
 have c2:=hB.at_ 2 _ rfl;have f2:=hB.fr 2
 have c5:=hB.at_ 5 _ rfl;have c6:=hB.at_ 6 _ rfl;have c7:=hB.at_ 7 _ rfl;have c8:=hB.at_ 8 _ rfl;have c9:=hB.at_ 9 _ rfl;have c10:=hB.at_ 10 _ rfl;have c11:=hB.at_ 11 _ rfl;have c12:=hB.at_ 12 _ rfl;have c13:=hB.at_ 13 _ rfl;have c14:=hB.at_ 14 _ rfl;have c15:=hB.at_ 15 _ rfl;have c16:=hB.at_ 16 _ rfl
 have zs:=hB.lt
 have mixed:Tryz.prog.follows .mixedOrders=true:=by kernel_rfl
 obtain ⟨TD,hTD⟩:∃TD,textDo d.s cc.k cc.i cc.n cc.s=TD:=⟨_,rfl⟩
 rw [hTD] at HTD ⊢
 clear hB hTD hc hs hcb
 go_enter Tryz.func46,Tryz.ntmps46
 go_wp2_with fail
 go_region_with (go_simp;go_at_call 83;(with_reducible refine (HTD.out _).mono ?_);rintro e w4 ⟨rfl,hb4⟩;have B4:=HB.out.keep ((Zf w).trans hb4) HB.out.lt;have g2:=B4.at_ 2 _ rfl;have f2':=B4.fr 2;have z4:=B4.lt;have HB4:=qh ((Zf w).trans hb4);clear hb4 B4)
 all_goals (go_wp2_with fail;exact ⟨rfl, .tuple #[],by simp [results,Tryz.results46,go_sem],rfl,w4,HB4.out,rfl⟩)
structure Gr2 (w w':World) (B:Nat) (u:Option Nat):Prop where
 os:w'.os=w.os
 tape:w'.tape=w.tape
 output:w'.output=w.output
 size:w.heap.size<=w'.heap.size
 block:∀k,k<w.heap.size->k≠B->some k≠u->w'.heap[k]? =w.heap[k]?
theorem Gr2.refl (w:World) (B:Nat) (u:Option Nat):Gr2 w w B u:=⟨rfl,rfl,rfl,Nat.le_refl _,fun _ _ _ _=>rfl⟩
theorem Gr2.below {a w w':World} {B:Nat} {u:Option Nat} (h:Gr2 a w B u) (hb:uB w w'):Gr2 a w' B u:=
 ⟨hb.os.trans h.os,hb.tape.trans h.tape,hb.output.trans h.output,Nat.le_trans h.size hb.size,fun k hk h1 h2=>(hb.block k (Nat.lt_of_lt_of_le hk h.size)).trans (h.block k hk h1 h2)⟩
theorem Gr2.grown {a w w':World} {B:Nat} {u v:Option Nat} (h:Gr2 a w B u) (hg:w.grownBy w' v) (hv:v=u∨∀k,v=some k->a.heap.size<=k):Gr2 a w' B u:=
 ⟨hg.os.trans h.os,hg.tape.trans h.tape,hg.output.trans h.output,Nat.le_trans h.size hg.size,fun k hk h1 h2=>(hg.block k (Nat.lt_of_lt_of_le hk h.size) (fun e=>by
  rcases hv with hv|hv
  .exact h2 (hv ▸ e)
  .have:=hv k e.symm;omega)).trans (h.block k hk h1 h2)⟩
theorem Gr2.set {a w:World} {B:Nat} {u:Option Nat} (h:Gr2 a w B u) (i:Nat) (x:Value):Gr2 a (w.setCell ⟨B,i,none⟩ x) B u:=by
 have hg:=(RStep.self:RStep w (w.setCell ⟨B,i,none⟩ x) B).grown
 exact ⟨hg.os.trans h.os,hg.tape.trans h.tape,hg.output.trans h.output,Nat.le_trans h.size hg.size,fun k hk h1 h2=>(hg.block k (Nat.lt_of_lt_of_le hk h.size) (fun e=>h1 (by injection e))).trans (h.block k hk h1 h2)⟩
theorem Gr2.low {w W:World} {B base:Nat} {u:Option Nat} (h:Gr2 w W B u) (hw:base<=w.heap.size) (hB:base<=B) (hu:∀k,u=some k->base<=k):Below base w W:=
 ⟨h.os,h.tape,h.output,h.size,fun k hk=>h.block k (by omega) (by omega) (fun e=>by have:=hu k e.symm;omega)⟩
theorem FRow.del_any {W:World} {base i:Nat} {S:Nat->Prop} {u:Value} {o:List (ByteArray×V)} {co:List (ByteArray×VC)} (h:FRow W base S u o co) (hi:i<o.length):
 uP 80 #[u, .int .i64 (i:Int), .int .i64 ((i:Int)+1)] W fun e w'=>∃v',e= .returned v'/\(∃co',FRow w' base S v' (o.take i++o.drop (i+1)) co')/\W.grownBy w' u.ownBlock/\(v'.ownBlock=u.ownBlock∨v'.ownBlock=some W.heap.size):=by
 delta uP
 refine (zoz W base o.length i u (co.flatMap fcells) h.own hi (Y6 co)).mono ?_
 rintro e w' ⟨v',rfl,ho,hg,hu⟩
 exact ⟨v',rfl,⟨_,h.rem hi ho hg hu⟩,hg,hu⟩
theorem FRow.ins_any {W:World} {base i vb:Nat} {S:Nat->Prop} {u:Value} {o:List (ByteArray×V)} {co:List (ByteArray×VC)} {key:ByteArray} {x:V} {cx:VC} (h:FRow W base S u o co) (hB:base<=W.heap.size) (hi:i<=o.length) (hn:o.length+1<=1466015503701) (hks:key.size<=140737488355328) (hx:IsVal (only (fun k=>S k/\u.ownBlock≠some k) W) W.heap.size x cx)
 (hvb:W.heap[vb]? =some (.cells #[.string key, .int .u8 cx.k, .int .i64 cx.n, .string cx.s, .slice cx.la cx.ll cx.lc, .slice cx.oa cx.ol cx.oc] 75 (0,0))) (hne:u.ownBlock≠some vb):
 uP 81 #[u, .int .i64 (i:Int), .slice (some ⟨vb,0,none⟩) 1 1] W fun e w'=>∃v',e= .returned v'/\(∃co',FRow w' base S v' (o.take i++(key,x)::o.drop i) co')/\W.grownBy w' u.ownBlock/\(v'.ownBlock=u.ownBlock∨v'.ownBlock=some W.heap.size):=by
 delta uP
 refine (zhq W base o.length i vb 75 u (fcells (key,cx)) (co.flatMap fcells) h.own hB hi hn hvb hne rfl (X9 key cx) (Y6 co)).mono ?_
 rintro e w' ⟨v',rfl,ho,hg,hu⟩
 exact ⟨v',rfl,⟨_,h.ins hi hks hx ho hg hu⟩,hg,hu⟩
theorem FRow.slice {w:World} {base:Nat} {S:Nat->Prop} {u:Value} {o:List (ByteArray×V)} {co:List (ByteArray×VC)} (h:FRow w base S u o co):∃a n c,u= .slice a n c:=by
 rcases h.own.2 with ⟨e,_⟩|⟨g,cap,cur,e,_⟩
 .exact ⟨_,_,_,e⟩
 .exact ⟨_,_,_,e⟩
theorem FRow.beside {w:World} {base B i:Nat} {u v:Value} {o:List (ByteArray×V)} {co:List (ByteArray×VC)} (h:FRow w base (fun k=>base<=k/\k≠B) u o co) (hne:u.ownBlock≠some B):FRow (w.setCell ⟨B,i,none⟩ v) base (fun k=>base<=k/\k≠B) u o co:=by
 have hg:=(RStep.self:RStep w (w.setCell ⟨B,i,none⟩ v) B).grown
 exact ⟨h.len,h.own.kept hg (.inr hne),h.keys,fun j hj hj'=>((h.els j hj hj').sub (Zd fun k hk hl=>⟨hk,hg.block k hl (fun e=>hk.1.2 (by injection e))⟩)).more hg.size⟩
def WFPost (w:World) (B base:Nat) (d:VC) (cc:CC) (o:List (ByteArray×V)) (e:Ending) (w':World):Prop:=
 e= .returned (.tuple #[])/\∃a n c,BC w' B (wcells ⟨d.k,d.n,d.s,d.la,d.ll,d.lc,a,n,c⟩ cc)/\IsFields (only (fun k=>base<=k/\k≠B) w') w'.heap.size o a n c/\Gr2 w w' B (Value.slice d.oa d.ol d.oc).ownBlock
theorem Zh {P:Program} {md:Region.Mode} {ops:Array Oper} {Q:Exit->Act->World->Prop} {S:World->Prop} {i:Nat} {d:Option Nat} {oi:Oper} {v:Value} {fuel:Nat} {listed:Array Bool} {a:Act} {w:World} (hi:ops[i]? =some oi) (hd:oi.dst=d)
 (hs:Region.noSelect ops=true) (hf:Region.free md ops listed i=true) (hr:(Region.ready md ops listed).contains i=true)
 (hQ:∀c a w,Q (.panic c) (a.put oi.dst v) w->Q (.panic c) a w) (hy:YieldsIf P ops S oi v a) (hS:S w)
 (h:wpAnyH P md ops Q S fuel (listed.setIfInBounds i true) (a.put d v) w):wpAnyH P md ops Q S (fuel+1) listed a w:=by
 subst hd
 exact wpAnyH_take hi hs hf hr hQ hy hS h
structure WF (w W:World) (B base:Nat) (d:VC) (cc:CC) (o:List (ByteArray×V)) (u:Option Nat) (oa:Option Addr) (ol oc:Nat):Prop where
 box:BC W B (wcells ⟨d.k,d.n,d.s,d.la,d.ll,d.lc,oa,ol,oc⟩ cc)
 row:∃co,FRow W base (fun k=>base<=k/\k≠B) (.slice oa ol oc) o co
 own:(Value.slice oa ol oc).ownBlock=u∨∃g,(Value.slice oa ol oc).ownBlock=some g/\w.heap.size<=g
 ne:(Value.slice oa ol oc).ownBlock≠some B
 gr:Gr2 w W B u
theorem WF.post {w W:World} {B base:Nat} {d:VC} {cc:CC} {o:List (ByteArray×V)} {oa:Option Addr} {ol oc:Nat} (h:WF w W B base d cc o (Value.slice d.oa d.ol d.oc).ownBlock oa ol oc) (hfew:o.length<=1466015503701):WFPost w B base d cc o (.returned (.tuple #[])) W:=by
 obtain ⟨co,hF⟩:=h.row
 obtain ⟨a,n,c,e,hI,_⟩:=hF.flds (fun g hg=>⟨(hF.own.lt g hg).1,fun e=>h.ne (by rw [hg,e])⟩) hfew
 injection e with e1 e2 e3
 subst e1 e2 e3
 exact ⟨rfl,_,_,_,h.box,hI,h.gr⟩
theorem WF.later {w W W':World} {B base:Nat} {d:VC} {cc:CC} {o:List (ByteArray×V)} {u:Option Nat} {oa:Option Addr} {ol oc:Nat} (h:WF w W B base d cc o u oa ol oc) (hb:uB W W'):WF w W' B base d cc o u oa ol oc:=by
 obtain ⟨co,hF⟩:=h.row
 exact ⟨h.box.keep hb h.box.lt,⟨co,hF.later hb⟩,h.own,h.ne,h.gr.below hb⟩
theorem WF.stored {w W W':World} {B base:Nat} {d:VC} {cc:CC} {o o':List (ByteArray×V)} {u:Option Nat} {oa:Option Addr} {ol oc:Nat} {a:Option Addr} {n c:Nat} (h:WF w W B base d cc o u oa ol oc) (hw:B<w.heap.size) {co':List (ByteArray×VC)} (hF:FRow W' base (fun k=>base<=k/\k≠B) (.slice a n c) o' co') (hg:W.grownBy W' (Value.slice oa ol oc).ownBlock) (hu:(Value.slice a n c).ownBlock=(Value.slice oa ol oc).ownBlock∨(Value.slice a n c).ownBlock=some W.heap.size):
 WF w (W'.setCell ⟨B,4,none⟩ (.slice a n c)) B base d cc o' u a n c:=by
 have hs:=h.gr.size
 have hne:(Value.slice a n c).ownBlock≠some B:=by
  rcases hu with hu|hu
  .rw [hu];exact h.ne
  .rw [hu];intro e;injection e with e;omega
 refine ⟨?_,⟨co',hF.beside hne⟩, ?_,hne, ?_⟩
 .exact (h.box.grown hg h.ne).set (i:=4) (x:= .slice a n c) (by simp [wcells,vcells])
 .rcases hu with hu|hu
  .rw [hu];exact h.own
  .exact .inr ⟨_,hu,hs⟩
 .refine (h.gr.grown hg ?_).set 4 _
  rcases h.own with e|⟨g,e,hg'⟩
  .exact .inl e
  .exact .inr fun k hk=>by rw [e] at hk;injection hk with hk;omega
set_option maxRecDepth 100000 in
theorem zkw (W0 w:World) (B base:Nat) (d:VC) (cc:CC) (x xv:V) (co:List (ByteArray×VC)) (hB:BC w B (wcells d cc)) (hW0:uB W0 w) (hbase:W0.heap.size<=base) (hbB:base<=B) (hx:IsFields w w.heap.size x.os d.oa d.ol d.oc) (hF:FRow w base (fun k=>base<=k/\k≠B) (.slice d.oa d.ol d.oc) x.os co) (hne:(Value.slice d.oa d.ol d.oc).ownBlock≠some B) (hxv:IsVal W0 W0.heap.size xv cc.v) (hk:cc.k=3) (his:fieldIs x.os cc.key=true) (hfew:x.os.length<=100000000) (hks:cc.key.size<=140737488355328):
 uP 44 #[.pointer (some ⟨B,0,none⟩)] w (WFPost w B base d cc (newF x.os cc.key xv true)):=by
 delta uP
 have hkl:=Z7 x.os cc.key
 have hB0:=hB.lt
 have HF0:Hid (WF w w B base d cc x.os (Value.slice d.oa d.ol d.oc).ownBlock d.oa d.ol d.oc):=qh ⟨hB,⟨co,hF⟩, .inl rfl,hne,Gr2.refl _ _ _⟩
 have HVF:Hid (∀W,uB w W->uP 79 #[.agg (uV d), .string cc.key] W fun e w'=>e= .returned (.tuple #[.int .i64 (fieldK x.os cc.key:Int), .bool (fieldIs x.os cc.key)])/\uB W w'):=fun W hW=>Qj W x.os cc.key d (hx.later_ hW)
 have HCV:Hid (∀W,uB W0 W->uP 78 #[.agg (uV cc.v)] W fun e w'=>(∃f:VC,e= .returned (.agg #[.int .u8 f.k, .int .i64 f.n, .string f.s, .slice f.la f.ll f.lc, .slice f.oa f.ol f.oc])/\Whole w' W.heap.size xv f)/\uB W w'):=fun W hW=>Xa W xv cc.v (hxv.later_ hW)
 have hul:∀k,(Value.slice d.oa d.ol d.oc).ownBlock=some k->base<=k:=fun k hk=>(hF.own.lt k hk).1
 have HLOW:Hid (∀W,Gr2 w W B (Value.slice d.oa d.ol d.oc).ownBlock->uB W0 W):=qh fun W h=>hW0.trans ((h.low (by omega) hbB hul).mono hbase)
 have hBW:=hW0.size
 obtain ⟨FK,hFK⟩:∃FK,fieldK x.os cc.key=FK:=⟨_,rfl⟩
 obtain ⟨o,ho⟩:∃o,x.os=o:=⟨_,rfl⟩
 have HLT:=qh (Z8 his)
 rw [hFK,ho] at HLT
 rw [hFK,his] at HVF
 rw [hFK,ho] at hkl
 have HR:Hid (newF x.os cc.key xv true=o.take FK++o.drop (FK+1)):=qh (by rw [newF,if_pos rfl,remF,his,if_pos rfl,hFK,ho])
 have HK3:=qh hk;clear hk
 rw [ho] at HF0 hfew
 have HKL:=qh hkl
 have HFEW:=qh hfew
 have c4:=hB.at_ 4 _ rfl;have c0:=hB.at_ 0 _ rfl;have c1:=hB.at_ 1 _ rfl;have c2:=hB.at_ 2 _ rfl;have c3:=hB.at_ 3 _ rfl;have c7:=hB.at_ 7 _ rfl
 have HBD:=qh (Zf w)
 have HKS:=qh hks
 have HBB:=qh hbB
 have HBA:=qh hbase
 have HB0:=qh hB0
 have hw1:IntKind.i64.wrap ((FK:Int)+1)=(FK:Int)+1:=IntWalk.i64_in _ (by omega)
 have mixed:Tryz.prog.follows .mixedOrders=true:=by kernel_rfl
 clear hB hW0 hbase hbB hx hF hne hxv his hfew hks hul hkl hFK ho hBW
 go_enter Tryz.func44,Tryz.ntmps44
 go_wp2_with fail
 go_region_with (go_simp;go_at_call 79;(with_reducible refine (HVF.out _ HBD.out).mono ?_);rintro e w1 ⟨rfl,hb1⟩;have HB1:=qh ((Zf w).trans hb1);clear hb1)
 all_goals (
  have HF1:=qh (HF0.out.later HB1.out)
  have y4:=HF1.out.box.at_ 4 _ rfl;have f4:=HF1.out.box.fr 4;have z1:=HF1.out.box.lt
  obtain ⟨co1,hF1⟩:=HF1.out.row
  have HDL:=qh (hF1.del_any (i:=FK) HLT.out)
  clear hF1
  go_wp2_with fail
  refine HDL.out.mono ?_
  rintro e w2 ⟨v2,rfl,⟨co2,hF2⟩,hg2,hu2⟩
  obtain ⟨a2,n2,c2,rfl⟩:=hF2.slice
  have HS2:=qh (HF1.out.stored HB0.out hF2 hg2 hu2)
  have BX2:=HF1.out.box.grown hg2 HF1.out.ne
  have x5:=BX2.at_ 5 _ rfl;rw [HK3.out] at x5;have x4:=BX2.at_ 4 _ rfl;have g4:=BX2.fr 4;have z2:=BX2.lt
  clear hF2 hg2 hu2 BX2
  go_wp2_with fail
  have HFIN:=HS2.out.post (by have:=HFEW.out;simp;omega)
  exact ⟨rfl, .tuple #[],by simp [results,Tryz.results44,go_sem],by rw [HR.out];exact HFIN⟩)
set_option maxRecDepth 100000 in
theorem zi6 (W0 w:World) (B base:Nat) (d:VC) (cc:CC) (x xv:V) (co:List (ByteArray×VC)) (hB:BC w B (wcells d cc)) (hW0:uB W0 w) (hbase:W0.heap.size<=base) (hbB:base<=B) (hx:IsFields w w.heap.size x.os d.oa d.ol d.oc) (hF:FRow w base (fun k=>base<=k/\k≠B) (.slice d.oa d.ol d.oc) x.os co) (hne:(Value.slice d.oa d.ol d.oc).ownBlock≠some B) (hxv:IsVal W0 W0.heap.size xv cc.v) (hk:cc.k=2) (his:fieldIs x.os cc.key=true) (hfew:x.os.length<=100000000) (hks:cc.key.size<=140737488355328):
 uP 44 #[.pointer (some ⟨B,0,none⟩)] w (WFPost w B base d cc (newF x.os cc.key xv false)):=by
 delta uP
 have hkl:=Z7 x.os cc.key
 have hB0:=hB.lt
 have HF0:Hid (WF w w B base d cc x.os (Value.slice d.oa d.ol d.oc).ownBlock d.oa d.ol d.oc):=qh ⟨hB,⟨co,hF⟩, .inl rfl,hne,Gr2.refl _ _ _⟩
 have HVF:Hid (∀W,uB w W->uP 79 #[.agg (uV d), .string cc.key] W fun e w'=>e= .returned (.tuple #[.int .i64 (fieldK x.os cc.key:Int), .bool (fieldIs x.os cc.key)])/\uB W w'):=fun W hW=>Qj W x.os cc.key d (hx.later_ hW)
 have HCV:Hid (∀W,uB W0 W->uP 78 #[.agg (uV cc.v)] W fun e w'=>(∃f:VC,e= .returned (.agg #[.int .u8 f.k, .int .i64 f.n, .string f.s, .slice f.la f.ll f.lc, .slice f.oa f.ol f.oc])/\Whole w' W.heap.size xv f)/\uB W w'):=fun W hW=>Xa W xv cc.v (hxv.later_ hW)
 have hul:∀k,(Value.slice d.oa d.ol d.oc).ownBlock=some k->base<=k:=fun k hk=>(hF.own.lt k hk).1
 have HLOW:Hid (∀W,Gr2 w W B (Value.slice d.oa d.ol d.oc).ownBlock->uB W0 W):=qh fun W h=>hW0.trans ((h.low (by omega) hbB hul).mono hbase)
 have hBW:=hW0.size
 obtain ⟨FK,hFK⟩:∃FK,fieldK x.os cc.key=FK:=⟨_,rfl⟩
 obtain ⟨o,ho⟩:∃o,x.os=o:=⟨_,rfl⟩
 have HLT:=qh (Z8 his)
 rw [hFK,ho] at HLT
 rw [hFK,his] at HVF
 rw [hFK,ho] at hkl
 have HR:Hid (newF x.os cc.key xv false=(o.take FK++o.drop (FK+1)).take FK++(cc.key,xv)::(o.take FK++o.drop (FK+1)).drop FK):=qh (by
  have h:=zhk x.os cc.key xv
  rw [remF,his,if_pos rfl,hFK,ho] at h
  rw [newF,if_neg (by simp),h,ho])
 have HK3:=qh hk;clear hk
 rw [ho] at HF0 hfew
 have HKL:=qh hkl
 have HFEW:=qh hfew
 have c4:=hB.at_ 4 _ rfl;have c0:=hB.at_ 0 _ rfl;have c1:=hB.at_ 1 _ rfl;have c2:=hB.at_ 2 _ rfl;have c3:=hB.at_ 3 _ rfl;have c7:=hB.at_ 7 _ rfl
 have HBD:=qh (Zf w)
 have HKS:=qh hks
 have HBB:=qh hbB
 have HBA:=qh hbase
 have HB0:=qh hB0
 have hw1:IntKind.i64.wrap ((FK:Int)+1)=(FK:Int)+1:=IntWalk.i64_in _ (by omega)
 have mixed:Tryz.prog.follows .mixedOrders=true:=by kernel_rfl
 clear hB hW0 hbase hbB hx hF hne hxv his hfew hks hul hkl hFK ho hBW
 go_enter Tryz.func44,Tryz.ntmps44
 go_wp2_with fail
 go_region_with (go_simp;go_at_call 79;(with_reducible refine (HVF.out _ HBD.out).mono ?_);rintro e w1 ⟨rfl,hb1⟩;have HB1:=qh ((Zf w).trans hb1);clear hb1)
 all_goals (
  have HF1:=qh (HF0.out.later HB1.out)
  have y4:=HF1.out.box.at_ 4 _ rfl;have f4:=HF1.out.box.fr 4;have z1:=HF1.out.box.lt
  obtain ⟨co1,hF1⟩:=HF1.out.row
  have HDL:=qh (hF1.del_any (i:=FK) HLT.out)
  clear hF1
  go_wp2_with fail
  refine HDL.out.mono ?_
  rintro e w2 ⟨v2,rfl,⟨co2,hF2⟩,hg2,hu2⟩
  obtain ⟨a2,n2,c2,rfl⟩:=hF2.slice
  have HS2:=qh (HF1.out.stored HB0.out hF2 hg2 hu2)
  have BX2:=HF1.out.box.grown hg2 HF1.out.ne
  have x5:=BX2.at_ 5 _ rfl;rw [HK3.out] at x5;have x4:=BX2.at_ 4 _ rfl;have g4:=BX2.fr 4;have z2:=BX2.lt
  clear hF2 hg2 hu2 BX2
  go_wp2_with fail
  obtain ⟨w3,hw3⟩:∃w3,w2.setCell ⟨B,4,none⟩ (.slice a2 n2 c2)=w3:=⟨_,rfl⟩
  rw [hw3] at HS2 ⊢
  have HS3:=qh HS2.out
  clear HS2 x5 x4 g4 z2 y4 f4 z1 HF1 HDL hw3
  have HKO:Hid (FK<=(o.take FK++o.drop (FK+1)).length):=qh (by have:=HLT.out;simp;omega)
  have HNO:Hid ((o.take FK++o.drop (FK+1)).length+1<=1466015503701):=qh (by have:=HFEW.out;have:=HLT.out;simp;omega)
  have HNL:Hid (((o.take FK++o.drop (FK+1)).take FK++(cc.key,xv)::(o.take FK++o.drop (FK+1)).drop FK).length<=1466015503701):=qh (by have:=HFEW.out;have:=HLT.out;simp;omega)
  have q4:=HS3.out.box.at_ 4 _ rfl;have q7:=HS3.out.box.at_ 7 _ rfl;have q11:=HS3.out.box.at_ 11 _ rfl;have q12:=HS3.out.box.at_ 12 _ rfl;have q13:=HS3.out.box.at_ 13 _ rfl;have q14:=HS3.out.box.at_ 14 _ rfl;have q15:=HS3.out.box.at_ 15 _ rfl;have h4:=HS3.out.box.fr 4;have z3:=HS3.out.box.lt
  have HBD3:=qh ((HLOW.out _ HS3.out.gr).drew)
  have HZ3:=qh (HS3.out.gr.size)
  clear HF0 HVF HBD q7 q11 q12 q13 q14 q15
  have HSP:Hid (∀(W:World) (d':VC),BC W B (wcells d' cc)->W.cell? ⟨B,7,none⟩=some (.string cc.key)/\W.cell? ⟨B,11,none⟩=some (.int .u8 cc.v.k)/\W.cell? ⟨B,12,none⟩=some (.int .i64 cc.v.n)/\W.cell? ⟨B,13,none⟩=some (.string cc.v.s)/\W.cell? ⟨B,14,none⟩=some (.slice cc.v.la cc.v.ll cc.v.lc)/\W.cell? ⟨B,15,none⟩=some (.slice cc.v.oa cc.v.ol cc.v.oc)):=qh fun W d' h=>⟨h.at_ 7 _ rfl,h.at_ 11 _ rfl,h.at_ 12 _ rfl,h.at_ 13 _ rfl,h.at_ 14 _ rfl,h.at_ 15 _ rfl⟩
  have HK0:=qh (HSP.out _ _ (HS3.out.later (Zf w3)).box)
  refine wp_region_noPanic ?_
  refine wp_region_held_drew (S:=fun W=>W.cell? ⟨B,7,none⟩=some (.string cc.key)/\W.cell? ⟨B,11,none⟩=some (.int .u8 cc.v.k)/\W.cell? ⟨B,12,none⟩=some (.int .i64 cc.v.n)/\W.cell? ⟨B,13,none⟩=some (.string cc.v.s)/\W.cell? ⟨B,14,none⟩=some (.slice cc.v.la cc.v.ll cc.v.lc)/\W.cell? ⟨B,15,none⟩=some (.slice cc.v.oa cc.v.ol cc.v.oc)) (by kernel_rfl) HK0.out (fun hHeld=> ?_)
  refine Zh (i:=0) (d:=some 37) (v:= ?_) rfl rfl (by kernel_rfl) (by kernel_rfl) (by kernel_rfl) (fun _ _ _ h=>h) (Or.inl ⟨by rfl, ?_⟩) (by assumption) ?_
  rotate_left
  .intro w' hSw
   obtain ⟨s7,s11,s12,s13,s14,s15⟩:=hSw
   go_simp
   all_goals (with_reducible rfl)
  simp only [Act.put,List.setIfInBounds_toArray,List.set_cons_zero,List.set_cons_succ]
  refine Zh (i:=1) (d:=some 38) (v:= ?_) rfl rfl (by kernel_rfl) (by kernel_rfl) (by kernel_rfl) (fun _ _ _ h=>h) (Or.inl ⟨by rfl, ?_⟩) (by assumption) ?_
  rotate_left
  .intro w' hSw
   obtain ⟨s7,s11,s12,s13,s14,s15⟩:=hSw
   go_simp
   all_goals (with_reducible rfl)
  simp only [Act.put,List.setIfInBounds_toArray,List.set_cons_zero,List.set_cons_succ]
  refine Zh (i:=2) (d:=some 39) (v:= ?_) rfl rfl (by kernel_rfl) (by kernel_rfl) (by kernel_rfl) (fun _ _ _ h=>h) (Or.inl ⟨by rfl, ?_⟩) (by assumption) ?_
  rotate_left
  .intro w' hSw
   obtain ⟨s7,s11,s12,s13,s14,s15⟩:=hSw
   go_simp
   all_goals (with_reducible rfl)
  simp only [Act.put,List.setIfInBounds_toArray,List.set_cons_zero,List.set_cons_succ]
  refine Zh (i:=3) (d:=some 40) (v:= ?_) rfl rfl (by kernel_rfl) (by kernel_rfl) (by kernel_rfl) (fun _ _ _ h=>h) (Or.inl ⟨by rfl, ?_⟩) (by assumption) ?_
  rotate_left
  .intro w' hSw
   obtain ⟨s7,s11,s12,s13,s14,s15⟩:=hSw
   go_simp
   all_goals (with_reducible rfl)
  simp only [Act.put,List.setIfInBounds_toArray,List.set_cons_zero,List.set_cons_succ]
  refine Zh (i:=4) (d:=some 41) (v:= ?_) rfl rfl (by kernel_rfl) (by kernel_rfl) (by kernel_rfl) (fun _ _ _ h=>h) (Or.inl ⟨by rfl, ?_⟩) (by assumption) ?_
  rotate_left
  .intro w' hSw
   obtain ⟨s7,s11,s12,s13,s14,s15⟩:=hSw
   go_simp
   all_goals (with_reducible rfl)
  simp only [Act.put,List.setIfInBounds_toArray,List.set_cons_zero,List.set_cons_succ]
  refine Zh (i:=6) (d:=some 43) (v:= ?_) rfl rfl (by kernel_rfl) (by kernel_rfl) (by kernel_rfl) (fun _ _ _ h=>h) (Or.inl ⟨by rfl, ?_⟩) (by assumption) ?_
  rotate_left
  .intro w' hSw
   obtain ⟨s7,s11,s12,s13,s14,s15⟩:=hSw
   go_simp
   all_goals (with_reducible rfl)
  simp only [Act.put,List.setIfInBounds_toArray,List.set_cons_zero,List.set_cons_succ]
  refine Zh (i:=7) (d:=some 44) (v:= ?_) rfl rfl (by kernel_rfl) (by kernel_rfl) (by kernel_rfl) (fun _ _ _ h=>h) (Or.inl ⟨by rfl, ?_⟩) (by assumption) ?_
  rotate_left
  .intro w' hSw
   obtain ⟨s7,s11,s12,s13,s14,s15⟩:=hSw
   go_simp
   all_goals (with_reducible rfl)
  simp only [Act.put,List.setIfInBounds_toArray,List.set_cons_zero,List.set_cons_succ]
  refine Zh (i:=8) (d:=some 45) (v:= ?_) rfl rfl (by kernel_rfl) (by kernel_rfl) (by kernel_rfl) (fun _ _ _ h=>h) (Or.inl ⟨by rfl, ?_⟩) (by assumption) ?_
  rotate_left
  .intro w' hSw
   obtain ⟨s7,s11,s12,s13,s14,s15⟩:=hSw
   go_simp
   all_goals (with_reducible rfl)
  simp only [Act.put,List.setIfInBounds_toArray,List.set_cons_zero,List.set_cons_succ]
  refine Zh (i:=9) (d:=some 46) (v:= ?_) rfl rfl (by kernel_rfl) (by kernel_rfl) (by kernel_rfl) (fun _ _ _ h=>h) (Or.inl ⟨by rfl, ?_⟩) (by assumption) ?_
  rotate_left
  .intro w' hSw
   obtain ⟨s7,s11,s12,s13,s14,s15⟩:=hSw
   go_simp
   all_goals (with_reducible rfl)
  simp only [Act.put,List.setIfInBounds_toArray,List.set_cons_zero,List.set_cons_succ]
  refine Zh (i:=10) (d:=some 47) (v:= ?_) rfl rfl (by kernel_rfl) (by kernel_rfl) (by kernel_rfl) (fun _ _ _ h=>h) (Or.inl ⟨by rfl, ?_⟩) (by assumption) ?_
  rotate_left
  .intro w' hSw
   obtain ⟨s7,s11,s12,s13,s14,s15⟩:=hSw
   go_simp
   all_goals (with_reducible rfl)
  simp only [Act.put,List.setIfInBounds_toArray,List.set_cons_zero,List.set_cons_succ]
  refine Zh (i:=11) (d:=some 48) (v:= ?_) rfl rfl (by kernel_rfl) (by kernel_rfl) (by kernel_rfl) (fun _ _ _ h=>h) (Or.inl ⟨by rfl, ?_⟩) (by assumption) ?_
  rotate_left
  .intro w' hSw
   obtain ⟨s7,s11,s12,s13,s14,s15⟩:=hSw
   go_simp
   all_goals (with_reducible rfl)
  simp only [Act.put,List.setIfInBounds_toArray,List.set_cons_zero,List.set_cons_succ]
  refine Zh (i:=12) (d:=some 49) (v:= ?_) rfl rfl (by kernel_rfl) (by kernel_rfl) (by kernel_rfl) (fun _ _ _ h=>h) (Or.inl ⟨by rfl, ?_⟩) (by assumption) ?_
  rotate_left
  .intro w' hSw
   obtain ⟨s7,s11,s12,s13,s14,s15⟩:=hSw
   go_simp
   all_goals (with_reducible rfl)
  simp only [Act.put,List.setIfInBounds_toArray,List.set_cons_zero,List.set_cons_succ]
  refine Zh (i:=13) (d:=some 50) (v:= ?_) rfl rfl (by kernel_rfl) (by kernel_rfl) (by kernel_rfl) (fun _ _ _ h=>h) (Or.inl ⟨by rfl, ?_⟩) (by assumption) ?_
  rotate_left
  .intro w' hSw
   obtain ⟨s7,s11,s12,s13,s14,s15⟩:=hSw
   go_simp
   all_goals (with_reducible rfl)
  simp only [Act.put,List.setIfInBounds_toArray,List.set_cons_zero,List.set_cons_succ]
  refine Zh (i:=14) (d:=some 51) (v:= ?_) rfl rfl (by kernel_rfl) (by kernel_rfl) (by kernel_rfl) (fun _ _ _ h=>h) (Or.inl ⟨by rfl, ?_⟩) (by assumption) ?_
  rotate_left
  .intro w' hSw
   obtain ⟨s7,s11,s12,s13,s14,s15⟩:=hSw
   go_simp
   all_goals (with_reducible rfl)
  simp only [Act.put,List.setIfInBounds_toArray,List.set_cons_zero,List.set_cons_succ]
  refine Zh (i:=15) (d:=some 52) (v:= ?_) rfl rfl (by kernel_rfl) (by kernel_rfl) (by kernel_rfl) (fun _ _ _ h=>h) (Or.inl ⟨by rfl, ?_⟩) (by assumption) ?_
  rotate_left
  .intro w' hSw
   obtain ⟨s7,s11,s12,s13,s14,s15⟩:=hSw
   go_simp
   all_goals (with_reducible rfl)
  simp only [Act.put,List.setIfInBounds_toArray,List.set_cons_zero,List.set_cons_succ]
  refine Zh (i:=16) (d:=some 53) (v:= ?_) rfl rfl (by kernel_rfl) (by kernel_rfl) (by kernel_rfl) (fun _ _ _ h=>h) (Or.inl ⟨by rfl, ?_⟩) (by assumption) ?_
  rotate_left
  .intro w' hSw
   obtain ⟨s7,s11,s12,s13,s14,s15⟩:=hSw
   go_simp
   all_goals (with_reducible rfl)
  simp only [Act.put,List.setIfInBounds_toArray,List.set_cons_zero,List.set_cons_succ]
  refine wpAnyH_ready (rs:= [5,17]) (by kernel_rfl) (by simp) ?_
  refine AllReadyH.cons rfl (fun K hK=> ?_) (AllReadyH.cons rfl (fun K hK=> ?_) AllReadyH.nil)
  .go_simp
   refine hK.out _ _ HK0.out (fun _=> ?_)
   clear hK K
   try simp only [Act.put,List.setIfInBounds_toArray,List.set_cons_zero,List.set_cons_succ]
   refine wpAnyH_ready (rs:= [17]) (by kernel_rfl) (by simp) ?_
   refine AllReadyH.cons rfl (fun K hK=> ?_) AllReadyH.nil
   go_simp
   go_at_call 78
   (with_reducible refine (HCV.out _ HBD3.out).mono ?_)
   rintro e w4 ⟨⟨f,rfl,hW4⟩,hb4⟩
   have hB34:uB w3 w4:=(Zf w3).trans hb4
   have HF4:=qh (HS3.out.later hB34)
   have p4:=HF4.out.box.at_ 4 _ rfl;have i4:=HF4.out.box.fr 4;have z4:=HF4.out.box.lt
   have HFA:=qh (HF4.out.later ((Below.refl _ _).alloc (Nat.le_refl _) (.cells #[.string cc.key, .int .u8 f.k, .int .i64 f.n, .string f.s, .slice f.la f.ll f.lc, .slice f.oa f.ol f.oc] 75)))
   have HK4:=qh (HSP.out _ _ HF4.out.box)
   have HKA:=qh (HSP.out _ _ HFA.out.box)
   obtain ⟨co4,hF4⟩:=HFA.out.row
   have hos:∀k,(Value.slice a2 n2 c2).ownBlock=some k->k<w3.heap.size:=(fun k hk=>(by obtain ⟨co3,hF3⟩:=HS3.out.row;exact (hF3.own.lt k hk).2))
   have HIN:=qh (hF4.ins_any (i:=FK) (key:=cc.key) (x:=xv) (cx:=f) (vb:=w4.heap.size) (by have:=HB0.out;have:=HBB.out;have:=HZ3.out;have:=hB34.size;simp;omega) HKO.out HNO.out HKS.out (((hW4.sepI.isVal).sub (Zd fun k hk hl=>⟨⟨⟨by have:=HB0.out;have:=HBB.out;have:=HZ3.out;have:w3.heap.size<=k:=hk;omega,by have:=HB0.out;have:=HZ3.out;have:w3.heap.size<=k:=hk;omega⟩,fun e=>by have:=hos k e;have:w3.heap.size<=k:=hk;omega⟩,by first|exact heap_alloc_old w4 _ k hl|exact heap_alloc_old w4 _ hl⟩)).more (by simp)) (heap_alloc_new w4 _) (fun e=>by have:=hos _ e;have:=hB34.size;omega))
   clear hW4 hb4 hB34 hF4 hos
   refine hK.out _ _ HK4.out (fun _=> ?_)
   clear hK K
   try simp only [Act.put,List.setIfInBounds_toArray,List.set_cons_zero,List.set_cons_succ]
   refine Zh (i:=18) (d:=some 55) (v:= ?_) rfl rfl (by kernel_rfl) (by kernel_rfl) (by kernel_rfl) (fun _ _ _ h=>h) (Or.inl ⟨by rfl, ?_⟩) (by assumption) ?_
   rotate_left
   .intro w' hSw
    obtain ⟨s7,s11,s12,s13,s14,s15⟩:=hSw
    go_simp
    all_goals (with_reducible rfl)
   simp only [Act.put,List.setIfInBounds_toArray,List.set_cons_zero,List.set_cons_succ]
   refine wpAnyH_ready (rs:= [19]) (by kernel_rfl) (by simp) ?_
   refine AllReadyH.cons rfl (fun K hK=> ?_) AllReadyH.nil
   go_simp
   refine hK.out _ _ HKA.out (fun _=> ?_)
   clear hK K
   try simp only [Act.put,List.setIfInBounds_toArray,List.set_cons_zero,List.set_cons_succ]
   refine wpAnyH_ready (rs:= [20]) (by kernel_rfl) (by simp) ?_
   refine AllReadyH.cons rfl (fun K hK=> ?_) AllReadyH.nil
   go_simp
   go_at_call 81
   (with_reducible refine HIN.out.mono ?_)
   rintro e w5 ⟨v5,rfl,⟨co5,hF5⟩,hg5,hu5⟩
   obtain ⟨a5,n5,c5,rfl⟩:=hF5.slice
   have BX5:=HFA.out.box.grown hg5 HFA.out.ne
   have j4:=BX5.fr 4;have m4:=BX5.at_ 4 _ rfl;have z5:=BX5.lt
   have HS5:=qh (HFA.out.stored HB0.out hF5 hg5 hu5)
   have HK5:=qh (HSP.out _ _ BX5)
   have HK6:=qh (HSP.out _ _ HS5.out.box)
   clear hF5 hg5 hu5 BX5
   refine hK.out _ _ HK5.out (fun _=> ?_)
   clear hK K
   try simp only [Act.put,List.setIfInBounds_toArray,List.set_cons_zero,List.set_cons_succ]
   refine Zh (i:=21) (d:=some 58) (v:= ?_) rfl rfl (by kernel_rfl) (by kernel_rfl) (by kernel_rfl) (fun _ _ _ h=>h) (Or.inl ⟨by rfl, ?_⟩) (by assumption) ?_
   rotate_left
   .intro w' hSw
    obtain ⟨s7,s11,s12,s13,s14,s15⟩:=hSw
    go_simp
    all_goals (with_reducible rfl)
   simp only [Act.put,List.setIfInBounds_toArray,List.set_cons_zero,List.set_cons_succ]
   refine Zh (i:=22) (d:=some 59) (v:= ?_) rfl rfl (by kernel_rfl) (by kernel_rfl) (by kernel_rfl) (fun _ _ _ h=>h) (Or.inl ⟨by rfl, ?_⟩) (by assumption) ?_
   rotate_left
   .intro w' hSw
    obtain ⟨s7,s11,s12,s13,s14,s15⟩:=hSw
    go_simp
    all_goals (with_reducible rfl)
   simp only [Act.put,List.setIfInBounds_toArray,List.set_cons_zero,List.set_cons_succ]
   refine Zh (i:=23) (d:=some 60) (v:= ?_) rfl rfl (by kernel_rfl) (by kernel_rfl) (by kernel_rfl) (fun _ _ _ h=>h) (Or.inl ⟨by rfl, ?_⟩) (by assumption) ?_
   rotate_left
   .intro w' hSw
    obtain ⟨s7,s11,s12,s13,s14,s15⟩:=hSw
    go_simp
    all_goals (with_reducible rfl)
   simp only [Act.put,List.setIfInBounds_toArray,List.set_cons_zero,List.set_cons_succ]
   refine wpAnyH_ready (rs:= [24]) (by kernel_rfl) (by simp) ?_
   refine AllReadyH.cons rfl (fun K hK=> ?_) AllReadyH.nil
   go_simp
   refine hK.out _ _ HK6.out (fun _=> ?_)
   clear hK K
   try simp only [Act.put,List.setIfInBounds_toArray,List.set_cons_zero,List.set_cons_succ]
   refine wpAnyH_done (by kernel_rfl) ?_ _
   refine NoPanic.normal ?_
   go_wp2_with fail
   have HFIN:=HS5.out.post HNL.out
   exact ⟨rfl, .tuple #[],by simp [results,Tryz.results44,go_sem],by rw [HR.out];exact HFIN⟩
  .go_simp
   go_at_call 78
   (with_reducible refine (HCV.out _ HBD3.out).mono ?_)
   rintro e w4 ⟨⟨f,rfl,hW4⟩,hb4⟩
   have hB34:uB w3 w4:=(Zf w3).trans hb4
   have HF4:=qh (HS3.out.later hB34)
   have p4:=HF4.out.box.at_ 4 _ rfl;have i4:=HF4.out.box.fr 4;have z4:=HF4.out.box.lt
   have HFA:=qh (HF4.out.later ((Below.refl _ _).alloc (Nat.le_refl _) (.cells #[.string cc.key, .int .u8 f.k, .int .i64 f.n, .string f.s, .slice f.la f.ll f.lc, .slice f.oa f.ol f.oc] 75)))
   have HK4:=qh (HSP.out _ _ HF4.out.box)
   have HKA:=qh (HSP.out _ _ HFA.out.box)
   obtain ⟨co4,hF4⟩:=HFA.out.row
   have hos:∀k,(Value.slice a2 n2 c2).ownBlock=some k->k<w3.heap.size:=(fun k hk=>(by obtain ⟨co3,hF3⟩:=HS3.out.row;exact (hF3.own.lt k hk).2))
   have HIN:=qh (hF4.ins_any (i:=FK) (key:=cc.key) (x:=xv) (cx:=f) (vb:=w4.heap.size) (by have:=HB0.out;have:=HBB.out;have:=HZ3.out;have:=hB34.size;simp;omega) HKO.out HNO.out HKS.out (((hW4.sepI.isVal).sub (Zd fun k hk hl=>⟨⟨⟨by have:=HB0.out;have:=HBB.out;have:=HZ3.out;have:w3.heap.size<=k:=hk;omega,by have:=HB0.out;have:=HZ3.out;have:w3.heap.size<=k:=hk;omega⟩,fun e=>by have:=hos k e;have:w3.heap.size<=k:=hk;omega⟩,by first|exact heap_alloc_old w4 _ k hl|exact heap_alloc_old w4 _ hl⟩)).more (by simp)) (heap_alloc_new w4 _) (fun e=>by have:=hos _ e;have:=hB34.size;omega))
   clear hW4 hb4 hB34 hF4 hos
   refine hK.out _ _ HK4.out (fun _=> ?_)
   clear hK K
   try simp only [Act.put,List.setIfInBounds_toArray,List.set_cons_zero,List.set_cons_succ]
   refine Zh (i:=18) (d:=some 55) (v:= ?_) rfl rfl (by kernel_rfl) (by kernel_rfl) (by kernel_rfl) (fun _ _ _ h=>h) (Or.inl ⟨by rfl, ?_⟩) (by assumption) ?_
   rotate_left
   .intro w' hSw
    obtain ⟨s7,s11,s12,s13,s14,s15⟩:=hSw
    go_simp
    all_goals (with_reducible rfl)
   simp only [Act.put,List.setIfInBounds_toArray,List.set_cons_zero,List.set_cons_succ]
   refine wpAnyH_ready (rs:= [5,19]) (by kernel_rfl) (by simp) ?_
   refine AllReadyH.cons rfl (fun K hK=> ?_) (AllReadyH.cons rfl (fun K hK=> ?_) AllReadyH.nil)
   .go_simp
    refine hK.out _ _ HK4.out (fun _=> ?_)
    clear hK K
    try simp only [Act.put,List.setIfInBounds_toArray,List.set_cons_zero,List.set_cons_succ]
    refine wpAnyH_ready (rs:= [19]) (by kernel_rfl) (by simp) ?_
    refine AllReadyH.cons rfl (fun K hK=> ?_) AllReadyH.nil
    go_simp
    refine hK.out _ _ HKA.out (fun _=> ?_)
    clear hK K
    try simp only [Act.put,List.setIfInBounds_toArray,List.set_cons_zero,List.set_cons_succ]
    refine wpAnyH_ready (rs:= [20]) (by kernel_rfl) (by simp) ?_
    refine AllReadyH.cons rfl (fun K hK=> ?_) AllReadyH.nil
    go_simp
    go_at_call 81
    (with_reducible refine HIN.out.mono ?_)
    rintro e w5 ⟨v5,rfl,⟨co5,hF5⟩,hg5,hu5⟩
    obtain ⟨a5,n5,c5,rfl⟩:=hF5.slice
    have BX5:=HFA.out.box.grown hg5 HFA.out.ne
    have j4:=BX5.fr 4;have m4:=BX5.at_ 4 _ rfl;have z5:=BX5.lt
    have HS5:=qh (HFA.out.stored HB0.out hF5 hg5 hu5)
    have HK5:=qh (HSP.out _ _ BX5)
    have HK6:=qh (HSP.out _ _ HS5.out.box)
    clear hF5 hg5 hu5 BX5
    refine hK.out _ _ HK5.out (fun _=> ?_)
    clear hK K
    try simp only [Act.put,List.setIfInBounds_toArray,List.set_cons_zero,List.set_cons_succ]
    refine Zh (i:=21) (d:=some 58) (v:= ?_) rfl rfl (by kernel_rfl) (by kernel_rfl) (by kernel_rfl) (fun _ _ _ h=>h) (Or.inl ⟨by rfl, ?_⟩) (by assumption) ?_
    rotate_left
    .intro w' hSw
     obtain ⟨s7,s11,s12,s13,s14,s15⟩:=hSw
     go_simp
     all_goals (with_reducible rfl)
    simp only [Act.put,List.setIfInBounds_toArray,List.set_cons_zero,List.set_cons_succ]
    refine Zh (i:=22) (d:=some 59) (v:= ?_) rfl rfl (by kernel_rfl) (by kernel_rfl) (by kernel_rfl) (fun _ _ _ h=>h) (Or.inl ⟨by rfl, ?_⟩) (by assumption) ?_
    rotate_left
    .intro w' hSw
     obtain ⟨s7,s11,s12,s13,s14,s15⟩:=hSw
     go_simp
     all_goals (with_reducible rfl)
    simp only [Act.put,List.setIfInBounds_toArray,List.set_cons_zero,List.set_cons_succ]
    refine Zh (i:=23) (d:=some 60) (v:= ?_) rfl rfl (by kernel_rfl) (by kernel_rfl) (by kernel_rfl) (fun _ _ _ h=>h) (Or.inl ⟨by rfl, ?_⟩) (by assumption) ?_
    rotate_left
    .intro w' hSw
     obtain ⟨s7,s11,s12,s13,s14,s15⟩:=hSw
     go_simp
     all_goals (with_reducible rfl)
    simp only [Act.put,List.setIfInBounds_toArray,List.set_cons_zero,List.set_cons_succ]
    refine wpAnyH_ready (rs:= [24]) (by kernel_rfl) (by simp) ?_
    refine AllReadyH.cons rfl (fun K hK=> ?_) AllReadyH.nil
    go_simp
    refine hK.out _ _ HK6.out (fun _=> ?_)
    clear hK K
    try simp only [Act.put,List.setIfInBounds_toArray,List.set_cons_zero,List.set_cons_succ]
    refine wpAnyH_done (by kernel_rfl) ?_ _
    refine NoPanic.normal ?_
    go_wp2_with fail
    have HFIN:=HS5.out.post HNL.out
    exact ⟨rfl, .tuple #[],by simp [results,Tryz.results44,go_sem],by rw [HR.out];exact HFIN⟩
   .go_simp
    refine hK.out _ _ HKA.out (fun _=> ?_)
    clear hK K
    try simp only [Act.put,List.setIfInBounds_toArray,List.set_cons_zero,List.set_cons_succ]
    refine wpAnyH_ready (rs:= [5]) (by kernel_rfl) (by simp) ?_
    refine AllReadyH.cons rfl (fun K hK=> ?_) AllReadyH.nil
    go_simp
    refine hK.out _ _ HKA.out (fun _=> ?_)
    clear hK K
    try simp only [Act.put,List.setIfInBounds_toArray,List.set_cons_zero,List.set_cons_succ]
    refine wpAnyH_ready (rs:= [20]) (by kernel_rfl) (by simp) ?_
    refine AllReadyH.cons rfl (fun K hK=> ?_) AllReadyH.nil
    go_simp
    go_at_call 81
    (with_reducible refine HIN.out.mono ?_)
    rintro e w5 ⟨v5,rfl,⟨co5,hF5⟩,hg5,hu5⟩
    obtain ⟨a5,n5,c5,rfl⟩:=hF5.slice
    have BX5:=HFA.out.box.grown hg5 HFA.out.ne
    have j4:=BX5.fr 4;have m4:=BX5.at_ 4 _ rfl;have z5:=BX5.lt
    have HS5:=qh (HFA.out.stored HB0.out hF5 hg5 hu5)
    have HK5:=qh (HSP.out _ _ BX5)
    have HK6:=qh (HSP.out _ _ HS5.out.box)
    clear hF5 hg5 hu5 BX5
    refine hK.out _ _ HK5.out (fun _=> ?_)
    clear hK K
    try simp only [Act.put,List.setIfInBounds_toArray,List.set_cons_zero,List.set_cons_succ]
    refine Zh (i:=21) (d:=some 58) (v:= ?_) rfl rfl (by kernel_rfl) (by kernel_rfl) (by kernel_rfl) (fun _ _ _ h=>h) (Or.inl ⟨by rfl, ?_⟩) (by assumption) ?_
    rotate_left
    .intro w' hSw
     obtain ⟨s7,s11,s12,s13,s14,s15⟩:=hSw
     go_simp
     all_goals (with_reducible rfl)
    simp only [Act.put,List.setIfInBounds_toArray,List.set_cons_zero,List.set_cons_succ]
    refine Zh (i:=22) (d:=some 59) (v:= ?_) rfl rfl (by kernel_rfl) (by kernel_rfl) (by kernel_rfl) (fun _ _ _ h=>h) (Or.inl ⟨by rfl, ?_⟩) (by assumption) ?_
    rotate_left
    .intro w' hSw
     obtain ⟨s7,s11,s12,s13,s14,s15⟩:=hSw
     go_simp
     all_goals (with_reducible rfl)
    simp only [Act.put,List.setIfInBounds_toArray,List.set_cons_zero,List.set_cons_succ]
    refine Zh (i:=23) (d:=some 60) (v:= ?_) rfl rfl (by kernel_rfl) (by kernel_rfl) (by kernel_rfl) (fun _ _ _ h=>h) (Or.inl ⟨by rfl, ?_⟩) (by assumption) ?_
    rotate_left
    .intro w' hSw
     obtain ⟨s7,s11,s12,s13,s14,s15⟩:=hSw
     go_simp
     all_goals (with_reducible rfl)
    simp only [Act.put,List.setIfInBounds_toArray,List.set_cons_zero,List.set_cons_succ]
    refine wpAnyH_ready (rs:= [24]) (by kernel_rfl) (by simp) ?_
    refine AllReadyH.cons rfl (fun K hK=> ?_) AllReadyH.nil
    go_simp
    refine hK.out _ _ HK6.out (fun _=> ?_)
    clear hK K
    try simp only [Act.put,List.setIfInBounds_toArray,List.set_cons_zero,List.set_cons_succ]
    refine wpAnyH_done (by kernel_rfl) ?_ _
    refine NoPanic.normal ?_
    go_wp2_with fail
    have HFIN:=HS5.out.post HNL.out
    exact ⟨rfl, .tuple #[],by simp [results,Tryz.results44,go_sem],by rw [HR.out];exact HFIN⟩
 )
end Go.Proofs.YtnjgbiachcfigaaGreatDoor
