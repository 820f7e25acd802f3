/-
  Contracts of the functions that the law reaches: text.Do (the program's), where it may be.
-/
import Derived.Test.YtnjgbiachcfigaaGreatDoorCt30
import Derived.Test.YtnjgbiachcfigaaGreatDoorCt16
namespace Go.Proofs.YtnjgbiachcfigaaGreatDoor
open Go.RowKit
set_option maxHeartbeats 8000000
theorem zlf (d:Nat) (f:Nat):∀(i:Nat) (l:List UInt8),cutsP f (i+d) l=(cutsP f i l).map (· +d):=by
 induction f with
 |zero=>intro i l;rfl
 | succ f ih=>
   intro i l
   unfold cutsP
   split
   .rfl
   .rw [List.map_cons, <-ih];congr 2;omega
theorem zk5 (n:Nat):∀(I i:Nat) (l:List UInt8),l.length<=n->(h:I<(cutsP l.length i l).length)->
 (cutsP l.length i l)[I] - i<=l.length/\i<=(cutsP l.length i l)[I] /\(cutsP l.length i l).drop I=cutsP (l.drop ((cutsP l.length i l)[I] - i)).length (cutsP l.length i l)[I] (l.drop ((cutsP l.length i l)[I] - i)):=by
 induction n with
 | zero=>
   intro I i l hl h
   have:l= [] :=List.length_eq_zero_iff.1 (by omega)
   subst this
   simp [cutsP] at h
 | succ n ih=>
   intro I i l hl h
   by_cases hne:l= []
   .subst hne;simp [cutsP] at h
   .have hs:=Kf hne i
    have hw:=Lib.decodeL_width l
    have hle:=Lib.decodeL_le l hne
    cases I with
    | zero=>
      have e:(cutsP l.length i l)[0] =i:=by simp only [hs];rfl
      rw [e,Nat.sub_self,List.drop_zero,List.drop_zero]
      exact ⟨Nat.zero_le _,Nat.le_refl _,rfl⟩
    | succ I=>
      obtain ⟨k,hk⟩:∃k,(Lib.decodeL l).2=k:=⟨_,rfl⟩
      rw [hk] at hs hw hle
      have h2:I<(cutsP (l.drop k).length (i+k) (l.drop k)).length:=by rw [hs,List.length_cons] at h;omega
      have e:(cutsP l.length i l)[I+1] =(cutsP (l.drop k).length (i+k) (l.drop k))[I] :=by simp only [hs,List.getElem_cons_succ]
      obtain ⟨g1,g2,g3⟩:=ih I (i+k) (l.drop k) (by rw [List.length_drop];omega) h2
      obtain ⟨z,hzz⟩:∃z,(cutsP (l.drop k).length (i+k) (l.drop k))[I] =z:=⟨_,rfl⟩
      rw [hzz] at g1 g2 g3
      rw [e,hzz]
      have hdl:(l.drop k).length=l.length - k:=List.length_drop
      refine ⟨by omega,by omega, ?_⟩
      rw [hs,List.drop_succ_cons,g3,List.drop_drop]
      congr 2<;>(congr 1;omega)
theorem zek (s:ByteArray) (p:Nat):(s.extract p s.size).data.toList=s.data.toList.drop p:=by rw [K4]
theorem zia (s:ByteArray) (p:Nat) (h:p<=s.size):(s.extract p s.size).size=s.size - p:=by rw [ByteArray.size_extract];omega
theorem ze4 (s:ByteArray) (I J:Nat) (hI:I<textN s) (hJ:I+J<=textN s):(cuts s).getD (I+J) 0=(cuts s).getD I 0+(cuts (s.extract ((cuts s).getD I 0) s.size)).getD J (s.extract ((cuts s).getD I 0) s.size).size:=by
 have hz:s.data.toList.length=s.size:=Array.length_toList
 have hN:textN s=(cutsP s.size 0 s.data.toList).length:=by rw [textN,cuts,List.length_append];rfl
 have hI2:I<(cutsP s.data.toList.length 0 s.data.toList).length:=by rw [hz];omega
 obtain ⟨g1,_,g3⟩:=zk5 _ I 0 s.data.toList (Nat.le_refl _) hI2
 have e:(cuts s).getD I 0=(cutsP s.data.toList.length 0 s.data.toList)[I] :=by
  simp only [cuts,hz]
  rw [List.getD_eq_getElem?_getD,List.getElem?_append_left (by omega),List.getElem?_eq_getElem (by omega)];rfl
 rw [e]
 obtain ⟨p,hp⟩:∃p,(cutsP s.data.toList.length 0 s.data.toList)[I] =p:=⟨_,rfl⟩
 rw [hp] at g1 g3 ⊢
 rw [Nat.sub_zero] at g1 g3
 rw [zb1,zia s p (by omega),zek,List.length_drop,hz] at*
 have h0:=zlf p (s.size - p) 0 (s.data.toList.drop p)
 rw [Nat.zero_add] at h0
 rw [h0] at g3
 have hl:(cutsP s.size 0 s.data.toList).length=I+(cutsP (s.size - p) 0 (s.data.toList.drop p)).length:=by
  have:=congrArg List.length g3
  rw [List.length_drop,List.length_map] at this;omega
 rw [cuts,List.getD_eq_getElem?_getD,List.getD_eq_getElem?_getD]
 by_cases h:J<(cutsP (s.size - p) 0 (s.data.toList.drop p)).length
 .rw [List.getElem?_append_left (by omega), <-List.getElem?_drop,g3,List.getElem?_map,List.getElem?_eq_getElem h]
  simp;omega
 .rw [List.getElem?_append_right (by omega),List.getElem?_eq_none (l:=cutsP (s.size - p) 0 (s.data.toList.drop p)) (by omega),show I+J - (cutsP s.size 0 s.data.toList).length=0 by omega]
  simp;omega
set_option maxRecDepth 100000 in
theorem zja (w:World) (s:ByteArray) (c:CC) (hb:c.Bnd) (hs:s.size<=1000000000000) (hc:tCheck s c.k c.i c.n=0):
 Calls Tryz.prog 83 #[.string s, .agg #[.int .u8 c.k, .slice c.pa c.pl c.pc, .string c.key, .int .i64 c.i, .int .i64 c.j, .int .i64 c.n, .int .u8 c.v.k, .int .i64 c.v.n, .string c.v.s, .slice c.v.la c.v.ll c.v.lc, .slice c.v.oa c.v.ol c.v.oc, .string c.s]] w fun e w'=>e= .returned (.tuple #[.string (textDo s c.k c.i c.n c.s), .int .u16 0])/\Below w.heap.size w w':=by
 have HCK:Hid (∀W,Calls Tryz.prog 114 #[.string s, .agg #[.int .u8 c.k, .slice c.pa c.pl c.pc, .string c.key, .int .i64 c.i, .int .i64 c.j, .int .i64 c.n, .int .u8 c.v.k, .int .i64 c.v.n, .string c.v.s, .slice c.v.la c.v.ll c.v.lc, .slice c.v.oa c.v.ol c.v.oc, .string c.s]] W fun e w'=>e= .returned (.int .u16 0)/\Below W.heap.size W w'):=fun W=>by
  have:=zb4 W s c hb hs
  rw [hc] at this;exact this
 obtain ⟨hk,hi0,hi1⟩:=J4 hc
 have hcl:=Xp s
 obtain ⟨I,hI⟩:∃I:Nat,c.i=I:=⟨c.i.toNat,by omega⟩
 have hIl:I<(cuts s).length:=by rw [textN] at hi1;omega
 obtain ⟨p,hp⟩:∃p,(cuts s).getD I 0=p:=⟨_,rfl⟩
 have hps:(cuts s).getD I s.size=p:=by rw [<-hp,List.getD_eq_getElem?_getD,List.getD_eq_getElem?_getD,List.getElem?_eq_getElem hIl];rfl
 have hpl:p<=s.size:=by
  rw [<-hp,List.getD_eq_getElem?_getD,List.getElem?_eq_getElem hIl];exact Jr s I hIl
 have HAT:Hid (∀W,Calls Tryz.prog 124 #[.string s, .int .i64 (I:Int)] W fun e w'=>e= .returned (.int .i64 (p:Int))/\Below W.heap.size W w'):=fun W=>by
  have:=zb2 W s I (by omega)
  rw [hps] at this;exact this
 have HBX:=qh (BC.start w #[.int .u8 c.k, .slice c.pa c.pl c.pc, .string c.key, .int .i64 c.i, .int .i64 c.j, .int .i64 c.n, .int .u8 c.v.k, .int .i64 c.v.n, .string c.v.s, .slice c.v.la c.v.ll c.v.lc, .slice c.v.oa c.v.ol c.v.oc, .string c.s] 39)
 have HAL:=qh ((Below.refl _ _).alloc (Nat.le_refl _) (.cells #[.int .u8 c.k, .slice c.pa c.pl c.pc, .string c.key, .int .i64 c.i, .int .i64 c.j, .int .i64 c.n, .int .u8 c.v.k, .int .i64 c.v.n, .string c.v.s, .slice c.v.la c.v.ll c.v.lc, .slice c.v.oa c.v.ol c.v.oc, .string c.s] 39):Below w.heap.size w _)
 obtain ⟨R,hR⟩:∃R,textDo s c.k c.i c.n c.s=R:=⟨_,rfl⟩
 rw [hR]
 rw [textDo,hI,Int.toNat_natCast,hp] at hR
 have hk2:(c.k=8)∨(c.k=9/\∃J:Nat,c.n=J/\I<textN s/\I+J<=textN s):=by
  rcases hk with h|⟨h1,h2,h3⟩
  .exact .inl h
  .exact .inr ⟨h1,c.n.toNat,by omega,by omega,by omega⟩
 obtain ⟨ck,hck⟩:∃ck,c.k=ck:=⟨_,rfl⟩
 obtain ⟨cn,hcn⟩:∃cn,c.n=cn:=⟨_,rfl⟩
 rw [hck,hcn] at hR hk2
 rw [hck,hI,hcn] at HCK HBX HAL ⊢
 have hsz:s.size<=9223372036854775807:=by omega
 have hs1:=hb.s1
 have hq1:¬(9223372036854775807<p+c.s.size):=by omega
 have hq2:¬(9223372036854775807<p+c.s.size+(s.size - p)):=by omega
 clear hb hc hk hck hcn hi0 hi1 hI hps
 rcases hk2 with e8|⟨e9,J,hJ,hI2,hIJ⟩
 .cases e8
  rw [if_pos rfl] at hR
  have HR:=qh hR
  clear hR hp
  go_enter Tryz.func83,Tryz.ntmps83
  go_wp2_with fail
  refine (HCK.out _).mono ?_
  rintro e w1 ⟨rfl,hb1⟩
  have D1:=HBX.out.keep hb1 (by simp)
  have hbl1:=HAL.out.trans (hb1.mono (by simp))
  have b0:=D1.at_ 0 _ rfl;have b1:=D1.at_ 1 _ rfl;have b2:=D1.at_ 2 _ rfl;have b3:=D1.at_ 3 _ rfl;have b4:=D1.at_ 4 _ rfl;have b5:=D1.at_ 5 _ rfl;have b6:=D1.at_ 6 _ rfl;have b7:=D1.at_ 7 _ rfl;have b8:=D1.at_ 8 _ rfl;have b9:=D1.at_ 9 _ rfl;have b10:=D1.at_ 10 _ rfl;have b11:=D1.at_ 11 _ rfl
  have zs1:=D1.lt
  have HD1:=qh D1
  have HBL1:=qh hbl1
  clear D1 hb1 hbl1
  go_wp2_with fail
  refine (HAT.out _).mono ?_
  rintro e w2 ⟨rfl,hb2⟩
  clear b0 b1 b2 b3 b4 b5 b6 b7 b8 b9 b10 b11
  have D2:=HD1.out.keep hb2 HD1.out.lt
  have b0:=D2.at_ 0 _ rfl;have b1:=D2.at_ 1 _ rfl;have b2:=D2.at_ 2 _ rfl;have b3:=D2.at_ 3 _ rfl;have b4:=D2.at_ 4 _ rfl;have b5:=D2.at_ 5 _ rfl;have b6:=D2.at_ 6 _ rfl;have b7:=D2.at_ 7 _ rfl;have b8:=D2.at_ 8 _ rfl;have b9:=D2.at_ 9 _ rfl;have b10:=D2.at_ 10 _ rfl;have b11:=D2.at_ 11 _ rfl
  have zs:=D2.lt
  have HBL2:=qh (HBL1.out.trans (hb2.mono HBL1.out.size))
  clear D2 hb2
  go_wp2_with fail
  go_quiet (fail)
  go_wp2_with fail
  go_returns
  exact ⟨by rw [<-HR.out];rfl,Z6 HBL2.out _⟩
 .cases e9
  cases hJ
  have hct:=ze4 s I J hI2 hIJ
  rw [if_neg (by omega),show ((I:Int)+(J:Int)).toNat=I+J by omega,hct] at hR
  rw [hp] at hR hct
  obtain ⟨q,hq⟩:∃q,(cuts (s.extract p s.size)).getD J (s.extract p s.size).size=q:=⟨_,rfl⟩
  rw [hq] at hR hct
  have HAT2:Hid (∀W,Calls Tryz.prog 124 #[.string (s.extract p s.size), .int .i64 (J:Int)] W fun e w'=>e= .returned (.int .i64 (q:Int))/\Below W.heap.size W w'):=fun W=>by
   have:=zb2 W (s.extract p s.size) J (by rw [textN] at hIJ;omega)
   rw [hq] at this;exact this
  have hql:p+q<=s.size:=by
   rw [<-hct,List.getD_eq_getElem?_getD,List.getElem?_eq_getElem (by rw [textN] at hIJ;omega)];exact Jr s _ _
  have hq3:¬(9223372036854775807<p+(s.size - (p+q))):=by omega
  have hw1:IntKind.i64.wrap ((p:Int)+(q:Int))=(p:Int)+(q:Int):=IntWalk.i64_in _ (by omega)
  have HR:=qh hR
  clear hR hp hq hct
  go_enter Tryz.func83,Tryz.ntmps83
  go_wp2_with fail
  refine (HCK.out _).mono ?_
  rintro e w1 ⟨rfl,hb1⟩
  have D1:=HBX.out.keep hb1 (by simp)
  have hbl1:=HAL.out.trans (hb1.mono (by simp))
  have b0:=D1.at_ 0 _ rfl;have b1:=D1.at_ 1 _ rfl;have b2:=D1.at_ 2 _ rfl;have b3:=D1.at_ 3 _ rfl;have b4:=D1.at_ 4 _ rfl;have b5:=D1.at_ 5 _ rfl;have b6:=D1.at_ 6 _ rfl;have b7:=D1.at_ 7 _ rfl;have b8:=D1.at_ 8 _ rfl;have b9:=D1.at_ 9 _ rfl;have b10:=D1.at_ 10 _ rfl;have b11:=D1.at_ 11 _ rfl
  have zs1:=D1.lt
  have HD1:=qh D1
  have HBL1:=qh hbl1
  clear D1 hb1 hbl1
  go_wp2_with fail
  refine (HAT.out _).mono ?_
  rintro e w2 ⟨rfl,hb2⟩
  clear b0 b1 b2 b3 b4 b5 b6 b7 b8 b9 b10 b11
  have D2:=HD1.out.keep hb2 HD1.out.lt
  have b0:=D2.at_ 0 _ rfl;have b1:=D2.at_ 1 _ rfl;have b2:=D2.at_ 2 _ rfl;have b3:=D2.at_ 3 _ rfl;have b4:=D2.at_ 4 _ rfl;have b5:=D2.at_ 5 _ rfl;have b6:=D2.at_ 6 _ rfl;have b7:=D2.at_ 7 _ rfl;have b8:=D2.at_ 8 _ rfl;have b9:=D2.at_ 9 _ rfl;have b10:=D2.at_ 10 _ rfl;have b11:=D2.at_ 11 _ rfl
  have zs:=D2.lt
  have HBL2:=qh (HBL1.out.trans (hb2.mono HBL1.out.size))
  have HD2:=qh D2
  clear D2 hb2
  go_wp2_with fail
  go_region_with (go_simp;go_at_call 124;(with_reducible refine (HAT2.out _).mono ?_);rintro e w4 ⟨rfl,hb4⟩;have HB4:=qh hb4;clear hb4)
  all_goals (go_wp2_with fail;go_returns;exact ⟨by rw [<-HR.out];rfl,HBL2.out.trans (((Below.refl _ _).drew.trans HB4.out).mono HBL2.out.size)⟩)
def wcells (d:VC) (cc:CC):List Value:=vcells d++ccells cc
set_option maxRecDepth 100000 in
theorem zhn (w:World) (B:Nat) (d:VC) (cc:CC) (hB:BC w B (wcells d cc)):
 Calls Tryz.prog 43 #[.pointer (some ⟨B,0,none⟩)] w fun e w'=>e= .returned (.tuple #[])/\∃W,Below w.heap.size w W/\w'=W.setCell ⟨B,1,none⟩ (.int .i64 (wrap64 (d.n+cc.n))):=by
 have c1:=hB.at_ 1 _ rfl;have c10:=hB.at_ 10 _ rfl;have f1:=hB.fr 1
 have zs:=hB.lt
 have mixed:Tryz.prog.follows .mixedOrders=true:=by kernel_rfl
 clear hB
 go_enter Tryz.func43,Tryz.ntmps43
 go_wp2_with fail
 go_region
 all_goals (go_wp2_with fail;exact ⟨rfl, .tuple #[],by simp [results,Tryz.results43,go_sem],rfl,w.drew,(Below.refl _ _).drew,rfl⟩)
set_option maxRecDepth 100000 in
theorem zjl (w:World) (B:Nat) (d:VC) (cc:CC) (hB:BC w B (wcells d cc)) (hcb:cc.Bnd) (hs:d.s.size<=1000000000000) (hc:tCheck d.s cc.k cc.i cc.n=0):
 Calls Tryz.prog 46 #[.pointer (some ⟨B,0,none⟩)] w fun e w'=>e= .returned (.tuple #[])/\∃W,Below w.heap.size w W/\w'=W.setCell ⟨B,2,none⟩ (.string (textDo d.s cc.k cc.i cc.n cc.s)):=by
 have HTD:Hid (∀W,Calls Tryz.prog 83 #[.string d.s, .agg #[.int .u8 cc.k, .slice cc.pa cc.pl cc.pc, .string cc.key, .int .i64 cc.i, .int .i64 cc.j, .int .i64 cc.n, .int .u8 cc.v.k, .int .i64 cc.v.n, .string cc.v.s, .slice cc.v.la cc.v.ll cc.v.lc, .slice cc.v.oa cc.v.ol cc.v.oc, .string cc.s]] W fun e w'=>e= .returned (.tuple #[.string (textDo d.s cc.k cc.i cc.n cc.s), .int .u16 0])/\Below W.heap.size W w'):=fun W=>zja W d.s cc hcb hs hc
 have HB:=qh hB
 have c2:=hB.at_ 2 _ rfl;have f2:=hB.fr 2
 have c5:=hB.at_ 5 _ rfl;have c6:=hB.at_ 6 _ rfl;have c7:=hB.at_ 7 _ rfl;have c8:=hB.at_ 8 _ rfl;have c9:=hB.at_ 9 _ rfl;have c10:=hB.at_ 10 _ rfl;have c11:=hB.at_ 11 _ rfl;have c12:=hB.at_ 12 _ rfl;have c13:=hB.at_ 13 _ rfl;have c14:=hB.at_ 14 _ rfl;have c15:=hB.at_ 15 _ rfl;have c16:=hB.at_ 16 _ rfl
 have zs:=hB.lt
 have mixed:Tryz.prog.follows .mixedOrders=true:=by kernel_rfl
 obtain ⟨TD,hTD⟩:∃TD,textDo d.s cc.k cc.i cc.n cc.s=TD:=⟨_,rfl⟩
 rw [hTD] at HTD ⊢
 clear hB hTD hc hs hcb
 go_enter Tryz.func46,Tryz.ntmps46
 go_wp2_with fail
 go_region_with (go_simp;go_at_call 83;(with_reducible refine (HTD.out _).mono ?_);rintro e w4 ⟨rfl,hb4⟩;have B4:=HB.out.keep ((Zf w).trans hb4) HB.out.lt;have g2:=B4.at_ 2 _ rfl;have f2':=B4.fr 2;have z4:=B4.lt;have HB4:=qh ((Zf w).trans hb4);clear hb4 B4)
 all_goals (go_wp2_with fail;exact ⟨rfl, .tuple #[],by simp [results,Tryz.results46,go_sem],rfl,w4,HB4.out,rfl⟩)
end Go.Proofs.YtnjgbiachcfigaaGreatDoor
