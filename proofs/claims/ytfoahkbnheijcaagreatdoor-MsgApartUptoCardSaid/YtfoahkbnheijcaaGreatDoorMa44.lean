/-
  Contracts of the functions that the law reaches: conciliatorlaw06.Aim: components that.
-/
import Derived.Test.YtfoahkbnheijcaaGreatDoorMa43
namespace Go.Proofs.YtfoahkbnheijcaaGreatDoor
open Go.RowKit
set_option maxHeartbeats 16000000
set_option maxRecDepth 100000 in
theorem zh1 (w:World) (vk vn:Int) (vs:ByteArray) (la:Option Addr) (ll lc:Nat) (oa:Option Addr) (ol oc:Nat) (v:V) (hv:IsVal w w.heap.size v ⟨vk,vn,vs,la,ll,lc,oa,ol,oc⟩) (hw:v.weight<=20000) (l:List Ac) (a:Option Addr) (n c:Nat) (hl:IsActs w w.heap.size l a n c) (hT:Tabs w):
 Calls Tryz.prog 28 #[.agg #[.int .u8 vk, .int .i64 vn, .string vs, .slice la ll lc, .slice oa ol oc], .slice a n c] w (AimPost w (aimP v (l.take 20))):=by
 obtain ⟨i0,hi0,hz0,hz1,hz2⟩:=info_parts znf
 have hmax:=hl.max;have hcap:=hl.cap
 have HLN:=qh hl.len
 have HAC:=qh hl
 obtain ⟨R,hR⟩:∃R,AimPost w (aimP v (l.take 20))=R:=⟨_,rfl⟩
 rw [hR]
 have HR:=qh hR
 have HS:=qh (AH.start (t:=41) (l.take 20) hv hw)
 have HT:=qh hT
 clear hl hv hR hT
 go_enter Tryz.func28,Tryz.ntmps28
 go_wp2_with fail
 go_loopg [5,6,7,8,9,10] 20 (fun gh u i _ _ _ _ wr=>∃(j:Nat) (x:V) (cx:VC) (ua:Option Addr) (m uc:Nat) (xs:List Cm) (cs:List CC),j<=n/\j<=20/\gh=20 - j/\i= .int .i64 j/\u= .slice ua m uc/\m=xs.length/\AH w wr v (l.take 20) j x cx (.slice ua m uc) xs cs)
 case atStart=>exact ⟨0,v,_,none,0,0, [], [],Nat.zero_le _,Nat.zero_le _,rfl,rfl,rfl,rfl,HS.out⟩
 case round =>
  obtain ⟨j,x,cx,ua,m,uc,xs,cs,hj,hj8,rfl,rfl,rfl,hmx,L⟩:=hrel
  obtain ⟨v0,v1,v2,v3,v4⟩:=row5 L.box.at_
  have zs:=L.box.lt
  have hfx:=L.few
  have HL:=qh L
  have HMX:=qh hmx
  clear L hmx
  by_cases hcont:j<n/\j<20
  .obtain ⟨hlt,hlt8⟩:=hcont
   obtain ⟨b,q,f,hpl,rfl,hbB,hat,hia⟩:=HAC.out.get hlt
   have hat2:=hat.keep HL.out.below hbB
   obtain ⟨act,hact⟩:∃y,l[j] =y:=⟨_,rfl⟩
   rw [hact] at hia
   have hdr:(l.take 20).drop j=act::(l.take 20).drop (j+1):=by
    have h8:j<(l.take 20).length:=by rw [List.length_take];omega
    rw [List.drop_eq_getElem_cons h8,List.getElem_take,hact]
   have HDR:=qh hdr
   have hbw:b<wr.heap.size:=World.block_lt_of_cell? wr _ hat2.c0
   have hzb:=HL.out.below.size
   obtain ⟨r,hr⟩:∃r,oneC x act=r:=⟨_,rfl⟩
   have HRR:=qh hr
   have hwx:x.weight<=20000+20100*20:=Nat.le_trans HL.out.wt (by omega)
   have hval:IsVal wr wr.heap.size x cx:=HL.out.val.sub (Zt _ _ _)
   have HC:Hid (∀W,Below wr.heap.size wr.drew W->Calls Tryz.prog 20 #[.agg #[.int .u8 cx.k, .int .i64 cx.n, .string cx.s, .slice cx.la cx.ll cx.lc, .slice cx.oa cx.ol cx.oc], .agg #[.slice f.pa f.pl f.pc, .int .u8 f.k, .int .i64 f.i, .int .i64 f.j, .int .i64 f.n, .string f.s, .slice f.va f.vl f.vc]] W (OnePost W r)):=fun W hW=>by
    have hbW:Below wr.heap.size wr W:=(Zj wr).trans hW
    rw [<-hr]
    exact zmb W cx.k cx.n cx.s cx.la cx.ll cx.lc cx.oa cx.ol cx.oc x (hval.later_ hbW) (by omega) f act ((hia.keep (HL.out.below.trans (hbW.mono hzb))).more (Nat.le_trans hzb hbW.size))
   have HFB:Hid (∀W,Below wr.heap.size wr.drew W->W.cell? ⟨w.heap.size,0,none⟩=some (.int .u8 cx.k)/\W.cell? ⟨w.heap.size,1,none⟩=some (.int .i64 cx.n)/\W.cell? ⟨w.heap.size,2,none⟩=some (.string cx.s)/\W.cell? ⟨w.heap.size,3,none⟩=some (.slice cx.la cx.ll cx.lc)/\W.cell? ⟨w.heap.size,4,none⟩=some (.slice cx.oa cx.ol cx.oc)/\W.cell? ⟨b,q+j*7,none⟩=some (.slice f.pa f.pl f.pc)/\W.cell? ⟨b,q+j*7+1,none⟩=some (.int .u8 f.k)/\W.cell? ⟨b,q+j*7+2,none⟩=some (.int .i64 f.i)/\W.cell? ⟨b,q+j*7+3,none⟩=some (.int .i64 f.j)/\W.cell? ⟨b,q+j*7+4,none⟩=some (.int .i64 f.n)/\W.cell? ⟨b,q+j*7+5,none⟩=some (.string f.s)/\W.cell? ⟨b,q+j*7+6,none⟩=some (.slice f.va f.vl f.vc)):=by
    intro W hW
    have hk:∀b o u,b<wr.heap.size->wr.cell? ⟨b,o,none⟩=some u->W.cell? ⟨b,o,none⟩=some u:=fun b o u hb h=>Zd hW (Zd (Zj wr) h hb) hb
    exact ⟨hk _ _ _ zs v0,hk _ _ _ zs v1,hk _ _ _ zs v2,hk _ _ _ zs v3,hk _ _ _ zs v4,hk _ _ _ hbw hat2.c0,hk _ _ _ hbw hat2.c1,hk _ _ _ hbw hat2.c2,hk _ _ _ hbw hat2.c3,hk _ _ _ hbw hat2.c4,hk _ _ _ hbw hat2.c5,hk _ _ _ hbw hat2.c6⟩
   have HVAL:=qh hval
   have HWX:=qh hwx
   clear hat hat2 hia hact hdr hr hwx hval
   go_upto_region 5 with fail
   go_cut [7,8] from 11 to 44 (fun c7 c8 wx=>∃(yb:Nat) (cc:CC) (nn:Int),c7= .pointer (some ⟨yb,0,none⟩)/\c8= .int .i64 nn/\BC wx yb (ccells cc)/\Below wr.heap.size wr.drew wx/\wr.heap.size<=yb/\Hid (OneRes wr.heap.size r nn wx cc))
   case first=>
    go_wp2_with fail
    refine wp_region_noPanic ?_
    go_region_held_law (fun W=>W.cell? ⟨w.heap.size,0,none⟩=some (.int .u8 cx.k)/\W.cell? ⟨w.heap.size,1,none⟩=some (.int .i64 cx.n)/\W.cell? ⟨w.heap.size,2,none⟩=some (.string cx.s)/\W.cell? ⟨w.heap.size,3,none⟩=some (.slice cx.la cx.ll cx.lc)/\W.cell? ⟨w.heap.size,4,none⟩=some (.slice cx.oa cx.ol cx.oc)/\W.cell? ⟨b,q+j*7,none⟩=some (.slice f.pa f.pl f.pc)/\W.cell? ⟨b,q+j*7+1,none⟩=some (.int .u8 f.k)/\W.cell? ⟨b,q+j*7+2,none⟩=some (.int .i64 f.i)/\W.cell? ⟨b,q+j*7+3,none⟩=some (.int .i64 f.j)/\W.cell? ⟨b,q+j*7+4,none⟩=some (.int .i64 f.n)/\W.cell? ⟨b,q+j*7+5,none⟩=some (.string f.s)/\W.cell? ⟨b,q+j*7+6,none⟩=some (.slice f.va f.vl f.vc))
     ((refine HFB.out _ ?_;(first|(with_reducible exact bl4)|(with_reducible exact Below.refl _ _)|(with_reducible exact Zq _ _)|(with_reducible exact Below.alloc bl4 bz4 _)|(with_reducible exact Below.setC bl4 (Nat.le_refl _) cc))))
     (first
      |(go_at_call 20;(with_reducible refine (HC.out _ (Below.refl _ _)).mono ?_);rintro e w4 h4;obtain ⟨cc,nn,rfl,ho,hb4⟩:=h4.any;clear h4;have HO:=qh ho;clear ho;have bl4:Below wr.heap.size wr.drew w4:=hb4;have bz4:wr.heap.size<=w4.heap.size:=hb4.size)
      |(go_at_call 20;(with_reducible refine (HC.out _ (Zq _ _)).mono ?_);rintro e w4 h4;obtain ⟨cc,nn,rfl,ho,hb4⟩:=h4.any;clear h4;have HO:=qh ho;clear ho;have bl4:Below wr.heap.size wr.drew w4:=(Zq _ _).trans (hb4.mono (by simp));have bz4:wr.heap.size<=w4.heap.size:=bl4.size;have XB:=Xg hb4;obtain ⟨xc0,xc1,xc2,xc3,xc4,xc5,xc6,xc7,xc8,xc9,xc10,xc11⟩:=row12 XB.at_;have xg0:=XB.fr 0;have xg1:=XB.fr 1;have xg2:=XB.fr 2;have xg3:=XB.fr 3;have xg4:=XB.fr 4;have xg5:=XB.fr 5;have xg6:=XB.fr 6;have xg7:=XB.fr 7;have xg8:=XB.fr 8;have xg9:=XB.fr 9;have xg10:=XB.fr 10;have xg11:=XB.fr 11;have xl:=XB.lt))
    all_goals
     (first
      |(with_reducible refine Z2 (P:=fun W=>BC W w4.heap.size (ccells cc)/\Below wr.heap.size wr.drew W/\wr.heap.size<=w4.heap.size/\OneRes wr.heap.size r nn W cc) (zhi bl4 bz4 cc _ HO.out (Nat.le_refl _)) ?_)
      |(with_reducible refine Z2 (P:=fun W=>BC W wr.heap.size (ccells cc)/\Below wr.heap.size wr.drew W/\wr.heap.size<=wr.heap.size/\OneRes wr.heap.size r nn W cc) (ziq bl4 cc XB HO.out (by simp)) ?_))
     rintro W ⟨hbc,hbW,hyb,ho⟩
     have HO2:=qh ho
     clear ho
     go_wp2_with fail
     go_meet
     exact ⟨_,cc,nn,rfl,rfl,hbc,hbW,hyb,HO2⟩
   case rest=>
    clear v0 v1 v2 v3 v4
    obtain ⟨yb,cc,nn,rfl,rfl,Y,hb5,hyb,HO⟩:=hcut
    have hbw5:Below wr.heap.size wr wc:=(Zj wr).trans hb5
    have LB:=HL.out.box.keep hbw5 zs
    obtain ⟨v0,v1,v2,v3,v4⟩:=row5 LB.at_
    have vf0:=LB.fr 0;have vf1:=LB.fr 1;have vf2:=LB.fr 2;have vf3:=LB.fr 3;have vf4:=LB.fr 4
    have zs5:=LB.lt
    have HB5:=qh hbw5
    clear LB hb5 hbw5
    cases r with
    | none=>
      obtain rfl:nn=0:=HO.out
      have hrd:aimP x ((l.take 20).drop j)=aimP x ((l.take 20).drop (j+1)):=by rw [HDR.out,aimP,HRR.out]
      have HSK:=qh (HL.out.skip HB5.out hrd)
      clear hrd Y
      go_wp2_with fail
      go_roundg (20 - (j+1))
      case measure=>omega
      case rel=>exact ⟨j+1,x,cx,ua,m,uc,xs,cs,by omega,by omega,rfl,by go_num,rfl,HMX.out,HSK.out⟩
    | some cm=>
      obtain ⟨hn1,hcm⟩:=HO.out
      subst hn1
      have hsm:=J1 HRR.out
      have hzc:=HB5.out.size
      obtain ⟨z,hz⟩:∃z,doP x cm=z:=⟨_,rfl⟩
      have HDO:Hid (Calls Tryz.prog 22 #[.agg #[.int .u8 cx.k, .int .i64 cx.n, .string cx.s, .slice cx.la cx.ll cx.lc, .slice cx.oa cx.ol cx.oc], .agg #[.int .u8 cc.k, .slice cc.pa cc.pl cc.pc, .string cc.key, .int .i64 cc.i, .int .i64 cc.j, .int .i64 cc.n, .int .u8 cc.v.k, .int .i64 cc.v.n, .string cc.v.s, .slice cc.v.la cc.v.ll cc.v.lc, .slice cc.v.oa cc.v.ol cc.v.oc, .string cc.s]] wc (DoPost wc z)):=by
       rw [<-hz]
       cases hcm with
       | mk _ p xv hbd hp hxv=>
         have h1:=hsm.sv;have h2:=hsm.ss
         dsimp only at h1 h2
         exact zgu wc cx.k cx.n cx.s cx.la cx.ll cx.lc cx.oa cx.ol cx.oc x (HVAL.out.later_ HB5.out) (by have:=HWX.out;omega) p xv cc hbd (hp.sub (Zt _ _ _)) (hxv.sub (Zt _ _ _)) (by omega) (by omega) (HT.out.below (HL.out.below.trans (HB5.out.mono hzb)))
      have HCM:=qh hcm
      have HZ:=qh hz
      obtain ⟨y0,y1,y2,y3,y4,y5,y6,y7,y8,y9,y10,y11⟩:=row12 Y.at_
      have zy:=Y.lt
      have HY:=qh Y
      obtain ⟨y,er⟩:=z
      clear hsm hcm hz Y
      go_wp2_with fail
      refine HDO.out.mono ?_
      rintro e w6 ⟨⟨d,rfl,hI6⟩,hb6⟩
      have hz56:=hb6.size
      have LB:=(HL.out.box.keep HB5.out zs).keep hb6 (by omega)
      have Y:=HY.out.keep hb6 zy
      clear v0 v1 v2 v3 v4 vf0 vf1 vf2 vf3 vf4 y0 y1 y2 y3 y4 y5 y6 y7 y8 y9 y10 y11
      obtain ⟨v0,v1,v2,v3,v4⟩:=row5 LB.at_
      have vf0:=LB.fr 0;have vf1:=LB.fr 1;have vf2:=LB.fr 2;have vf3:=LB.fr 3;have vf4:=LB.fr 4
      obtain ⟨y0,y1,y2,y3,y4,y5,y6,y7,y8,y9,y10,y11⟩:=row12 Y.at_
      have zs6:=LB.lt;have zy6:=Y.lt
      have HI6:=qh hI6
      have HB6:=qh hb6
      have HY6:=qh Y
      clear LB Y hI6 hb6
      dsimp only at HI6
      have hal:Below w6.heap.size w6 (w6.alloc (.cells #[.int .u8 d.k, .int .i64 d.n, .string d.s, .slice d.la d.ll d.lc, .slice d.oa d.ol d.oc] 41)):=(Below.refl _ _).alloc (Nat.le_refl _) _
      have HAL:=qh hal
      clear hal
      by_cases he:er=0
      .subst he
       have hrd:aimP x ((l.take 20).drop j)=cm::aimP y ((l.take 20).drop (j+1)):=by
        rw [HDR.out,aimP,HRR.out];dsimp only;rw [HZ.out,if_pos rfl]
       have hwy:y.weight<=x.weight+20100:=by
        have:=zcr HRR.out (by rw [HZ.out]);rw [HZ.out] at this;exact this
       have hm:=AH.mid HL.out HB5.out HCM.out HB6.out HI6.out (.cells #[.int .u8 d.k, .int .i64 d.n, .string d.s, .slice d.la d.ll d.lc, .slice d.oa d.ol d.oc] 41)
       have HM:=qh hm
       have HRD:=qh hrd
       have HWY:=qh hwy
       have hal7:Below (setV w6 w.heap.size 0 d).heap.size (setV w6 w.heap.size 0 d) ((setV w6 w.heap.size 0 d).alloc (.cells #[.int .u8 d.k, .int .i64 d.n, .string d.s, .slice d.la d.ll d.lc, .slice d.oa d.ol d.oc] 41)):=(Below.refl _ _).alloc (Nat.le_refl _) _
       have hst7:=Zm w6 w.heap.size 0 d
       have hY7:=(HY6.out.next hst7 (by omega)).keep hal7 (Nat.lt_of_lt_of_le zy6 hst7.size)
       have hz7:wr.heap.size<=((setV w6 w.heap.size 0 d).alloc (.cells #[.int .u8 d.k, .int .i64 d.n, .string d.s, .slice d.la d.ll d.lc, .slice d.oa d.ol d.oc] 41)).heap.size:=by have:=hst7.size;have:=hal7.size;omega
       have HY7:=qh hY7
       have HZ7:=qh hz7
       clear hm hrd hwy hY7 hz7 hal7 hst7
       obtain ⟨rfl⟩:m=xs.length:=HMX.out
       go_upto_region 10 with fail
       generalize hw7:World.alloc _ _=w7
       have hm7:AM w wr w7 x y cm d cc (.slice ua xs.length uc) xs cs:=by rw [<-hw7];exact HM.out
       have Y:BC w7 yb (ccells cc):=by rw [<-hw7];exact HY7.out
       have hz7:wr.heap.size<=w7.heap.size:=by rw [<-hw7];exact HZ7.out
       clear hw7 v0 v1 v2 v3 v4 vf0 vf1 vf2 vf3 vf4 y0 y1 y2 y3 y4 y5 y6 y7 y8 y9 y10 y11
       obtain ⟨y0,y1,y2,y3,y4,y5,y6,y7,y8,y9,y10,y11⟩:=row12 Y.at_
       have zy7:=Y.lt
       have hown:=hm7.row.own
       have HM7:=qh hm7
       clear hm7 Y
       go_wp2_with (at_builtin;refine wpList_append_lies _ rfl (.tmp 41) (.tmp 43) 42 (by rfl) (w.heap.size+1) 60 i0 _ 12 168 Tryz.underlying42 hi0 hz0 hz1 hz2 rfl (by omega) (.slice ua xs.length uc) xs.length (cs.flatMap ccells) (by rfl) (hown.alloc _) ⟨w7.heap.size,0,none⟩ 1 1 (ccells cc) (by rfl) (by rfl) (zl0 w7 cc _) (by simp [ccells,Value.oneCell']) (by omega) (by unfold maxLen;omega) (by omega) (by first|omega|(simp;omega)) (w7.heap.size+1) (by simp) ?_;intro g cap w9 hown9 hgrow9 hat9 hlt9)
       go_roundg (20 - (j+1))
       case measure=>omega
       case rel=>exact ⟨j+1,y,d,some ⟨g,0,none⟩,xs.length+1,cap,xs++ [cm],cs++ [cc],by omega,by omega,rfl,by go_num,rfl,by simp,HL.out.round HM7.out hz7 HRD.out HWY.out hown9 hgrow9 hat9⟩
      .have hne:(er==0)=false:=by simp [he]
       have hrd:aimP x ((l.take 20).drop j)=aimP x ((l.take 20).drop (j+1)):=by
        rw [HDR.out,aimP,HRR.out];dsimp only;rw [HZ.out,if_neg he]
       have HSK:=qh (HL.out.skip (HB5.out.trans ((HB6.out.trans (HAL.out.mono hz56)).mono hzc)) hrd)
       clear hrd
       go_wp2_with fail
       go_roundg (20 - (j+1))
       case measure=>omega
       case rel=>exact ⟨j+1,x,cx,ua,m,uc,xs,cs,by omega,by omega,rfl,by go_num,rfl,HMX.out,HSK.out⟩
  .have hdr:(l.take 20).drop j= [] :=by
    apply List.drop_eq_nil_of_le
    rw [List.length_take, <-HLN.out];omega
   have hrd:=HL.out.rd
   rw [hdr,aimP,List.append_nil] at hrd
   have HRD:=qh hrd
   have hex:¬j<n∨(j<n/\¬j<20):=by omega
   clear hrd hdr hcont
   rcases hex with hq|⟨hq,hq8⟩
   all_goals
    go_wp2_with fail
    rw [<-HR.out, <-HRD.out,HMX.out]
    exact ⟨⟨_,_,_,rfl,RowC.comps (by rw [<-HMX.out];exact HL.out.row) HL.out.cen (by omega) (by omega)⟩,HL.out.below⟩
def setE (W:World) (b:Nat) (d:EC):World:=(((((((((W.setCell ⟨b,0,none⟩ (.int .u8 d.k)).setCell ⟨b,1,none⟩ (.int .u32 d.src)).setCell ⟨b,2,none⟩ (.int .u32 d.seq)).setCell ⟨b,3,none⟩ (.int .u8 d.v.k)).setCell ⟨b,4,none⟩ (.int .i64 d.v.n)).setCell ⟨b,5,none⟩ (.string d.v.s)).setCell ⟨b,6,none⟩ (.slice d.v.la d.v.ll d.v.lc)).setCell ⟨b,7,none⟩ (.slice d.v.oa d.v.ol d.v.oc)).setCell ⟨b,8,none⟩ (.slice d.oa d.ol d.oc))
theorem ze5 (W:World) (b:Nat) (d:EC):RStep W (setE W b d) b:=((((((((RStep.self.trans RStep.self).trans RStep.self).trans RStep.self).trans RStep.self).trans RStep.self).trans RStep.self).trans RStep.self).trans RStep.self)
theorem zcj {W:World} {b:Nat} {c0:EC} (h:BC W b (ecells c0)) (d:EC):BC (setE W b d) b (ecells d):=
 (((((((((h.set (i:=0) (x:= .int .u8 d.k) (by simp [ecells])).set (i:=1) (x:= .int .u32 d.src) (by simp [ecells])).set (i:=2) (x:= .int .u32 d.seq) (by simp [ecells])).set (i:=3) (x:= .int .u8 d.v.k) (by simp [ecells])).set (i:=4) (x:= .int .i64 d.v.n) (by simp [ecells])).set (i:=5) (x:= .string d.v.s) (by simp [ecells])).set (i:=6) (x:= .slice d.v.la d.v.ll d.v.lc) (by simp [ecells])).set (i:=7) (x:= .slice d.v.oa d.v.ol d.v.oc) (by simp [ecells])).set (i:=8) (x:= .slice d.oa d.ol d.oc) (by simp [ecells]))
theorem _root_.Go.RowKit.Below.setE {B b:Nat} {a W:World} (h:Below B a W) (hb:B<=b) (d:EC):Below B a (((((((((W.setCell ⟨b,0,none⟩ (.int .u8 d.k)).setCell ⟨b,1,none⟩ (.int .u32 d.src)).setCell ⟨b,2,none⟩ (.int .u32 d.seq)).setCell ⟨b,3,none⟩ (.int .u8 d.v.k)).setCell ⟨b,4,none⟩ (.int .i64 d.v.n)).setCell ⟨b,5,none⟩ (.string d.v.s)).setCell ⟨b,6,none⟩ (.slice d.v.la d.v.ll d.v.lc)).setCell ⟨b,7,none⟩ (.slice d.v.oa d.v.ol d.v.oc)).setCell ⟨b,8,none⟩ (.slice d.oa d.ol d.oc)):=
 (((((((((h.set_ hb).set_ hb).set_ hb).set_ hb).set_ hb).set_ hb).set_ hb).set_ hb).set_ hb)
theorem zjt {W:World} {b:Nat} {c0:EC} (h:BC W b (ecells c0)) (x:VC):BC (setV W b 3 x) b (ecells { c0 with v:=x }):=
 (((((h.set (i:=3) (x:= .int .u8 x.k) (by simp [ecells])).set (i:=4) (x:= .int .i64 x.n) (by simp [ecells])).set (i:=5) (x:= .string x.s) (by simp [ecells])).set (i:=6) (x:= .slice x.la x.ll x.lc) (by simp [ecells])).set (i:=7) (x:= .slice x.oa x.ol x.oc) (by simp [ecells]))
theorem zmd {tmps:Array Value} {W:World} {b:Nat} {d:EC} (ht:tmps[2]? =some (.pointer (some ⟨b,0,none⟩))) (h:BC W b (ecells d)):
 (results Tryz.f47 tmps).run Tryz.prog W= .ok (.agg #[.int .u8 d.k, .int .u32 d.src, .int .u32 d.seq, .int .u8 d.v.k, .int .i64 d.v.n, .string d.v.s, .slice d.v.la d.v.ll d.v.lc, .slice d.v.oa d.v.ol d.v.oc, .slice d.oa d.ol d.oc]) W:=by
 obtain ⟨r0,r1,r2,r3,r4,r5,r6,r7,r8⟩:=row9 h.at_
 simp [results,Tryz.results47,go_sem,ht,r0,r1,r2,r3,r4,r5,r6,r7,r8]
theorem zqy {w w4:World} {y:V} {z:Nat} (h:Below w.heap.size w.drew w4) (hz:w.heap.size<=w4.heap.size) (d:EC) (t:TypeId) (hv:IsVal (only (fun b=>z<=b) w4) w4.heap.size y d.v) (hzz:w.heap.size<=z):BC (w4.alloc (.cells #[.int .u8 d.k, .int .u32 d.src, .int .u32 d.seq, .int .u8 d.v.k, .int .i64 d.v.n, .string d.v.s, .slice d.v.la d.v.ll d.v.lc, .slice d.v.oa d.v.ol d.v.oc, .slice d.oa d.ol d.oc] t)) w4.heap.size (ecells d)/\Below w.heap.size w.drew (w4.alloc (.cells #[.int .u8 d.k, .int .u32 d.src, .int .u32 d.seq, .int .u8 d.v.k, .int .i64 d.v.n, .string d.v.s, .slice d.v.la d.v.ll d.v.lc, .slice d.v.oa d.v.ol d.v.oc, .slice d.oa d.ol d.oc] t))/\w.heap.size<=w4.heap.size/\IsVal (only (fun b=>w.heap.size<=b/\b≠w4.heap.size) (w4.alloc (.cells #[.int .u8 d.k, .int .u32 d.src, .int .u32 d.seq, .int .u8 d.v.k, .int .i64 d.v.n, .string d.v.s, .slice d.v.la d.v.ll d.v.lc, .slice d.v.oa d.v.ol d.v.oc, .slice d.oa d.ol d.oc] t))) (w4.alloc (.cells #[.int .u8 d.k, .int .u32 d.src, .int .u32 d.seq, .int .u8 d.v.k, .int .i64 d.v.n, .string d.v.s, .slice d.v.la d.v.ll d.v.lc, .slice d.v.oa d.v.ol d.v.oc, .slice d.oa d.ol d.oc] t)).heap.size y d.v:=by
 have hal:Below w4.heap.size w4 (w4.alloc (.cells #[.int .u8 d.k, .int .u32 d.src, .int .u32 d.seq, .int .u8 d.v.k, .int .i64 d.v.n, .string d.v.s, .slice d.v.la d.v.ll d.v.lc, .slice d.v.oa d.v.ol d.v.oc, .slice d.oa d.ol d.oc] t)):=(Below.refl _ _).alloc (Nat.le_refl _) _
 exact ⟨BC.start w4 #[.int .u8 d.k, .int .u32 d.src, .int .u32 d.seq, .int .u8 d.v.k, .int .i64 d.v.n, .string d.v.s, .slice d.v.la d.v.ll d.v.lc, .slice d.v.oa d.v.ol d.v.oc, .slice d.oa d.ol d.oc] t,h.alloc hz _,hz,Z7 hv rfl hal.size fun k hk hl=>⟨⟨Nat.le_trans hzz hk,by omega⟩,hal.block k hl⟩⟩
theorem zjd {w w4:World} {y:V} {z:Nat} (h:Below w.heap.size w.drew w4) (d:EC) (x:BC w4 w.heap.size [.int .u8 0, .int .u32 0, .int .u32 0, .int .u8 0, .int .i64 0, .string { data:= #[] }, .slice none 0 0, .slice none 0 0, .slice none 0 0]) (hv:IsVal (only (fun b=>z<=b) w4) w4.heap.size y d.v) (hzz:w.heap.size+1<=z):BC (setE w4 w.heap.size d) w.heap.size (ecells d)/\Below w.heap.size w.drew (setE w4 w.heap.size d)/\w.heap.size<=w.heap.size/\IsVal (only (fun b=>w.heap.size<=b/\b≠w.heap.size) (setE w4 w.heap.size d)) (setE w4 w.heap.size d).heap.size y d.v:=by
 have st:=ze5 w4 w.heap.size d
 exact ⟨zcj (c0:=ezero) x d,Below.setE h (Nat.le_refl _) d,Nat.le_refl _,Z7 hv rfl st.size fun k hk hl=>have hk':z<=k:=hk;⟨⟨by omega,by omega⟩,st.block k hl (by omega)⟩⟩
theorem zl6 {w w4:World} {y:V} {z:Nat} (h:Below w.heap.size w.drew w4) (d:EC) (x:BC w4 w.heap.size [.int .u8 0, .int .u32 0, .int .u32 0, .int .u8 0, .int .i64 0, .string { data:= #[] }, .slice none 0 0, .slice none 0 0, .slice none 0 0]) (hv:IsVal (only (fun b=>z<=b) w4) w4.heap.size y d.v) (hzz:w.heap.size+1<=z):BC (((((((((w4.setCell ⟨w.heap.size,0,none⟩ (.int .u8 d.k)).setCell ⟨w.heap.size,1,none⟩ (.int .u32 d.src)).setCell ⟨w.heap.size,2,none⟩ (.int .u32 d.seq)).setCell ⟨w.heap.size,3,none⟩ (.int .u8 d.v.k)).setCell ⟨w.heap.size,4,none⟩ (.int .i64 d.v.n)).setCell ⟨w.heap.size,5,none⟩ (.string d.v.s)).setCell ⟨w.heap.size,6,none⟩ (.slice d.v.la d.v.ll d.v.lc)).setCell ⟨w.heap.size,7,none⟩ (.slice d.v.oa d.v.ol d.v.oc)).setCell ⟨w.heap.size,8,none⟩ (.slice d.oa d.ol d.oc)) w.heap.size (ecells d)/\Below w.heap.size w.drew (((((((((w4.setCell ⟨w.heap.size,0,none⟩ (.int .u8 d.k)).setCell ⟨w.heap.size,1,none⟩ (.int .u32 d.src)).setCell ⟨w.heap.size,2,none⟩ (.int .u32 d.seq)).setCell ⟨w.heap.size,3,none⟩ (.int .u8 d.v.k)).setCell ⟨w.heap.size,4,none⟩ (.int .i64 d.v.n)).setCell ⟨w.heap.size,5,none⟩ (.string d.v.s)).setCell ⟨w.heap.size,6,none⟩ (.slice d.v.la d.v.ll d.v.lc)).setCell ⟨w.heap.size,7,none⟩ (.slice d.v.oa d.v.ol d.v.oc)).setCell ⟨w.heap.size,8,none⟩ (.slice d.oa d.ol d.oc))/\w.heap.size<=w.heap.size/\IsVal (only (fun b=>w.heap.size<=b/\b≠w.heap.size) (((((((((w4.setCell ⟨w.heap.size,0,none⟩ (.int .u8 d.k)).setCell ⟨w.heap.size,1,none⟩ (.int .u32 d.src)).setCell ⟨w.heap.size,2,none⟩ (.int .u32 d.seq)).setCell ⟨w.heap.size,3,none⟩ (.int .u8 d.v.k)).setCell ⟨w.heap.size,4,none⟩ (.int .i64 d.v.n)).setCell ⟨w.heap.size,5,none⟩ (.string d.v.s)).setCell ⟨w.heap.size,6,none⟩ (.slice d.v.la d.v.ll d.v.lc)).setCell ⟨w.heap.size,7,none⟩ (.slice d.v.oa d.v.ol d.v.oc)).setCell ⟨w.heap.size,8,none⟩ (.slice d.oa d.ol d.oc))) (((((((((w4.setCell ⟨w.heap.size,0,none⟩ (.int .u8 d.k)).setCell ⟨w.heap.size,1,none⟩ (.int .u32 d.src)).setCell ⟨w.heap.size,2,none⟩ (.int .u32 d.seq)).setCell ⟨w.heap.size,3,none⟩ (.int .u8 d.v.k)).setCell ⟨w.heap.size,4,none⟩ (.int .i64 d.v.n)).setCell ⟨w.heap.size,5,none⟩ (.string d.v.s)).setCell ⟨w.heap.size,6,none⟩ (.slice d.v.la d.v.ll d.v.lc)).setCell ⟨w.heap.size,7,none⟩ (.slice d.v.oa d.v.ol d.v.oc)).setCell ⟨w.heap.size,8,none⟩ (.slice d.oa d.ol d.oc)).heap.size y d.v:=
 zjd h d x hv hzz
end Go.Proofs.YtfoahkbnheijcaaGreatDoor
