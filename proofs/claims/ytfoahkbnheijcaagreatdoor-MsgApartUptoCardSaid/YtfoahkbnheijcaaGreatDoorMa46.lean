/-
  Contracts of the functions that the law reaches: conciliatorlaw10.Entry of a record that.
-/
import Derived.Test.YtfoahkbnheijcaaGreatDoorMa45
namespace Go.Proofs.YtfoahkbnheijcaaGreatDoor
open Go.RowKit
set_option maxHeartbeats 32000000
def EntryNew (w:World) (x:En) (e:Ending) (w':World):Prop:=
 (∃d:EC,e= .returned (.agg #[.int .u8 d.k, .int .u32 d.src, .int .u32 d.seq, .int .u8 d.v.k, .int .i64 d.v.n, .string d.v.s, .slice d.v.la d.v.ll d.v.lc, .slice d.v.oa d.v.ol d.v.oc, .slice d.oa d.ol d.oc])/\IsEntry (only (fun b=>w.heap.size<=b) w') w'.heap.size x d)/\Below w.heap.size w w'
theorem zaq {w W:World} {d:EC} {v:V} {l:List Cm} {A:Act} (hr:BC W (w.heap.size+1) (ecells ezero)) (hv:IsVal (only (fun b=>w.heap.size<=b/\b≠w.heap.size+1) W) W.heap.size v d.v) (ho:IsComps (only (fun b=>w.heap.size<=b/\b≠w.heap.size+1) W) W.heap.size l d.oa d.ol d.oc) (hb:Below w.heap.size w W) (hd:d.Bnd) (ht:A.tmps[2]? =some (.pointer (some ⟨w.heap.size+1,0,none⟩))) (hA:A.defers= []):
 bodyPost Tryz.prog Tryz.f47 (EntryNew w ⟨d.k,d.src,d.seq,v,l⟩) .ret A (setE W (w.heap.size+1) d):=by
 have st:=ze5 W (w.heap.size+1) d
 refine ⟨hA,_,zmd ht (zcj hr d),⟨d,rfl, ?_⟩,Below.setE hb (by omega) d⟩
 have h1:Shows (only (fun b=>w.heap.size<=b/\b≠w.heap.size+1) W) (only (fun b=>w.heap.size<=b) (setE W (w.heap.size+1) d)) W.heap.size:=by
  generalize setE W (w.heap.size+1) d=W' at st
  intro b o u hb hc
  obtain ⟨hs,hc⟩:=Z3 hc
  exact Z4 hs.1 ((World.cell?_of_block (w':=W') (w:=W) (by exact st.block b hb hs.2)).trans hc)
 exact .mk d v l hd ((hv.sub h1).more st.size) ((ho.sub h1).more st.size)
set_option maxRecDepth 100000 in
theorem zcb (w:World) (c:RC) (x:Rc) (h:IsRec w w.heap.size x c) (hT:Tabs w) (hsn0:c.snd=true):
 Calls Tryz.prog 47 #[.agg #[.int .u8 c.k, .int .u32 c.src, .int .u32 c.seq, .slice c.va c.vl c.vc, .slice c.oa c.ol c.oc, .slice c.aa c.al c.ac, .bool c.snd]] w (EntryNew w (entryP x)):=by
 have HS0:=qh hsn0
 clear hsn0
 cases h with
 |mk _ tl bs acs hbd hv ho ha=>
 obtain ⟨R,hR⟩:∃R,EntryNew w (entryP ⟨c.k,c.src,c.seq,tl,bs,acs,c.snd⟩)=R:=⟨_,rfl⟩
 rw [hR]
 have HR:=qh hR
 obtain ⟨wb,hwr⟩:∃wb,((w.alloc (.cells #[.int .u8 c.k, .int .u32 c.src, .int .u32 c.seq, .slice c.va c.vl c.vc, .slice c.oa c.ol c.oc, .slice c.aa c.al c.ac, .bool c.snd] 27)).alloc (.cells #[.int .u8 0, .int .u32 0, .int .u32 0, .int .u8 0, .int .i64 0, .string { data:= #[] }, .slice none 0 0, .slice none 0 0, .slice none 0 0] 44))=wb:=⟨_,rfl⟩
 obtain ⟨d1,d2,hb,hz⟩:=zlg w #[.int .u8 c.k, .int .u32 c.src, .int .u32 c.seq, .slice c.va c.vl c.vc, .slice c.oa c.ol c.oc, .slice c.aa c.al c.ac, .bool c.snd] #[.int .u8 0, .int .u32 0, .int .u32 0, .int .u8 0, .int .i64 0, .string { data:= #[] }, .slice none 0 0, .slice none 0 0, .slice none 0 0] 27 44
 rw [hwr] at d1 d2 hb hz
 have HRW:Hid (∀W,Below wb.heap.size wb.drew W->Calls Tryz.prog 46 #[.slice c.va c.vl c.vc] W fun e w'=>(∃cv:VC,e= .returned (.agg #[.int .u8 cv.k, .int .i64 cv.n, .string cv.s, .slice cv.la cv.ll cv.lc, .slice cv.oa cv.ol cv.oc])/\IsVal (only (fun b=>W.heap.size<=b) w') w'.heap.size (rawP 20 (tl.take 60)).1 cv)/\Below W.heap.size W w'):=fun W hW=>zlb W tl _ _ _ (hv.later_ ((hb.trans ((Zj wb).mono (by omega))).trans (hW.mono (by omega))))
 have HBD:Hid (∀W,Below w.heap.size w W->Calls Tryz.prog 19 #[.slice c.va c.vl c.vc] W fun e w'=>(∃cv:VC,e= .returned (.agg #[.int .u8 cv.k, .int .i64 cv.n, .string cv.s, .slice cv.la cv.ll cv.lc, .slice cv.oa cv.ol cv.oc])/\IsVal (only (fun b=>W.heap.size<=b) w') w'.heap.size (oneP 6 (tl.take 60)).1 cv)/\Below W.heap.size W w'):=fun W hW=>Yg W tl _ _ _ (hv.later_ hW)
 have HAM:Hid (∀W (cv:VC),Below w.heap.size w W->IsVal W W.heap.size (oneP 6 (tl.take 60)).1 cv->Calls Tryz.prog 28 #[.agg #[.int .u8 cv.k, .int .i64 cv.n, .string cv.s, .slice cv.la cv.ll cv.lc, .slice cv.oa cv.ol cv.oc], .slice c.aa c.al c.ac] W (AimPost W (aimP (oneP 6 (tl.take 60)).1 (acs.take 20)))):=fun W cv hW hI=>zh1 W _ _ _ _ _ _ _ _ _ _ hI (Qt tl).2.1 acs _ _ _ (ha.later_ hW) (hT.below hW)
 have HFB:Hid (∀W,Below wb.heap.size wb.drew W->W.cell? ⟨w.heap.size,0,none⟩=some (.int .u8 c.k)/\W.cell? ⟨w.heap.size,1,none⟩=some (.int .u32 c.src)/\W.cell? ⟨w.heap.size,2,none⟩=some (.int .u32 c.seq)/\W.cell? ⟨w.heap.size,3,none⟩=some (.slice c.va c.vl c.vc)):=by
  intro W hW
  have hk:∀o u,wb.cell? ⟨w.heap.size,o,none⟩=some u->W.cell? ⟨w.heap.size,o,none⟩=some u:=fun o u h=>Zd hW (Zd (Zj wb) h (by omega)) (show w.heap.size<wb.heap.size by omega)
  exact ⟨hk _ _ (d1.at_ 0 _ rfl),hk _ _ (d1.at_ 1 _ rfl),hk _ _ (d1.at_ 2 _ rfl),hk _ _ (d1.at_ 3 _ rfl)⟩
 have HD1:=qh (show BC wb w.heap.size (rcells c) from d1)
 have HD2:=qh (show BC wb (w.heap.size+1) (ecells ezero) from d2)
 have HB:=qh hb
 have hzl:w.heap.size+2<=wb.heap.size:=by omega
 have HOB:=qh ho
 have HBN:=qh hbd
 have HWR:=qh hwr
 have k0:=hbd.k0
 have hocap:=ho.cap;have homax:=ho.max
 clear hwr d1 d2 hb hz hv ho ha hbd hR hT
 go_enter Tryz.func47,Tryz.ntmps47
 generalize hQ0:bodyPost _ _ _=Q0
 have HQ:=qh hQ0
 clear hQ0
 go_upto_region 1 with fail
 rw [HWR.out]
 clear HWR
 go_cut [3] from 5 to 14 (fun c3 wx=>∃(yb:Nat) (cv:VC),c3= .pointer (some ⟨yb,0,none⟩)/\BC wx yb (ecells ⟨c.k,c.src,c.seq,cv,none,0,0⟩)/\Below wb.heap.size wb.drew wx/\wb.heap.size<=yb/\Hid (IsVal (only (fun b=>wb.heap.size<=b/\b≠yb) wx) wx.heap.size (rawP 20 (tl.take 60)).1 cv))
 case first=>
  go_wp2_with fail
  refine wp_region_noPanic ?_
  go_region_held_law (fun W=>W.cell? ⟨w.heap.size,0,none⟩=some (.int .u8 c.k)/\W.cell? ⟨w.heap.size,1,none⟩=some (.int .u32 c.src)/\W.cell? ⟨w.heap.size,2,none⟩=some (.int .u32 c.seq)/\W.cell? ⟨w.heap.size,3,none⟩=some (.slice c.va c.vl c.vc))
   ((refine HFB.out _ ?_;(first|(with_reducible exact bl4)|(with_reducible exact Below.refl _ _)|(with_reducible exact Zq _ _)|(with_reducible exact Below.alloc bl4 bz4 _)|(with_reducible exact Below.setE bl4 (Nat.le_refl _) ⟨c.k,c.src,c.seq,cv,none,0,0⟩))))
   (first
    |(go_at_call 46;(with_reducible refine (HRW.out _ (Below.refl _ _)).mono ?_);rintro e w4 ⟨⟨cv,rfl,hI⟩,hb4⟩;have HI:=qh hI;clear hI;have bl4:Below wb.heap.size wb.drew w4:=hb4;have bz4:wb.heap.size<=w4.heap.size:=hb4.size)
    |(go_at_call 46;(with_reducible refine (HRW.out _ (Zq _ _)).mono ?_);rintro e w4 ⟨⟨cv,rfl,hI⟩,hb4⟩;have HI:=qh hI;clear hI;have bl4:Below wb.heap.size wb.drew w4:=(Zq _ _).trans (hb4.mono (by simp));have bz4:wb.heap.size<=w4.heap.size:=bl4.size;have XB:=Xg hb4;obtain ⟨xc0,xc1,xc2,xc3,xc4,xc5,xc6,xc7,xc8⟩:=row9 XB.at_;have xg0:=XB.fr 0;have xg1:=XB.fr 1;have xg2:=XB.fr 2;have xg3:=XB.fr 3;have xg4:=XB.fr 4;have xg5:=XB.fr 5;have xg6:=XB.fr 6;have xg7:=XB.fr 7;have xg8:=XB.fr 8;have xl:=XB.lt))
  all_goals
   (first
    |(with_reducible refine Z2 (P:=fun W=>BC W w4.heap.size (ecells ⟨c.k,c.src,c.seq,cv,none,0,0⟩)/\Below wb.heap.size wb.drew W/\wb.heap.size<=w4.heap.size/\IsVal (only (fun b=>wb.heap.size<=b/\b≠w4.heap.size) W) W.heap.size (rawP 20 (tl.take 60)).1 cv) (zqy bl4 bz4 ⟨c.k,c.src,c.seq,cv,none,0,0⟩ _ HI.out (Nat.le_refl _)) ?_)
    |(with_reducible refine Z2 (P:=fun W=>BC W wb.heap.size (ecells ⟨c.k,c.src,c.seq,cv,none,0,0⟩)/\Below wb.heap.size wb.drew W/\wb.heap.size<=wb.heap.size/\IsVal (only (fun b=>wb.heap.size<=b/\b≠wb.heap.size) W) W.heap.size (rawP 20 (tl.take 60)).1 cv) (zl6 bl4 ⟨c.k,c.src,c.seq,cv,none,0,0⟩ XB HI.out (by simp)) ?_))
   rintro W ⟨hbc,hbW,hyb,hI⟩
   have HI2:=qh hI
   clear hI
   go_wp2_with fail
   go_meet
   exact ⟨_,cv,rfl,hbc,hbW,hyb,HI2⟩
 case rest=>
 obtain ⟨yb,cv,rfl,Y,hb5,hyb,HI⟩:=hcut
 have hbw:=Xd hb5
 have E1:=HD1.out.keep hbw (show w.heap.size<wb.heap.size by omega)
 have E2:=HD2.out.keep hbw (show w.heap.size+1<wb.heap.size by omega)
 have hIV:IsVal (only (fun k=>w.heap.size+2<=k/\k≠yb) wc) wc.heap.size (rawP 20 (tl.take 60)).1 cv:=Z7 HI.out rfl (Nat.le_refl _) fun k hk _=>⟨⟨by have:=hk.1;omega,hk.2⟩,rfl⟩
 have hBW:Below w.heap.size w wc:=HB.out.trans (hbw.mono (by omega))
 obtain ⟨sn,hsn⟩:∃sn,c.snd=sn:=⟨_,rfl⟩
 cases sn with
 |false=>exact absurd (HS0.out.symm.trans hsn) (by simp)
 | true =>
   have Y5:=Y
   obtain ⟨y0,y1,y2,y3,y4,y5,y6,y7,y8⟩:=row9 Y5.at_;have f0:=Y5.fr 0;have f1:=Y5.fr 1;have f2:=Y5.fr 2;have f3:=Y5.fr 3;have f4:=Y5.fr 4;have f5:=Y5.fr 5;have f6:=Y5.fr 6;have f7:=Y5.fr 7;have f8:=Y5.fr 8
   have q0:=E1.at_ 0 _ rfl;have q6:=E1.at_ 6 _ rfl
   rw [hsn] at q6
   have z1:=E1.lt;have zy:=Y.lt;have zr:=E2.lt
   have hd1:0<=c.k % 3:=Int.emod_nonneg _ (by omega)
   have hd2:c.k % 3<3:=Int.emod_lt_of_pos _ (by omega)
   have HY:=qh Y;have HE1:=qh E1;have HE2:=qh E2;have HBW:=qh hBW;have HSN:=qh hsn
   have HBB:=qh hbw
   clear Y5 Y E1 E2 hIV HI hbw hb5 hBW hsn
   go_upto_region 5 with fail
   generalize hw6:World.setCell _ _ _=w6
   have Y6:BC w6 yb (ecells ⟨1+c.k % 3,c.src,c.seq,vzero,none,0,0⟩):=by rw [<-hw6];exact zjt (c0:=⟨1+c.k % 3,c.src,c.seq,cv,none,0,0⟩) (HY.out.set (i:=0) (x:= .int .u8 (1+c.k % 3)) (by simp [ecells])) vzero
   have R6:BC w6 w.heap.size (rcells c):=by rw [<-hw6];exact (((((HE1.out.far (by omega)).far (by omega)).far (by omega)).far (by omega)).far (by omega)).far (by omega)
   have S6:BC w6 (w.heap.size+1) (ecells ezero):=by rw [<-hw6];exact (((((HE2.out.far (by omega)).far (by omega)).far (by omega)).far (by omega)).far (by omega)).far (by omega)
   have hb6:Below w.heap.size w w6:=by rw [<-hw6];exact (((((HBW.out.set_ (by omega)).set_ (by omega)).set_ (by omega)).set_ (by omega)).set_ (by omega)).set_ (by omega)
   clear hw6 y0 y1 y2 y3 y4 y5 y6 y7 y8 f0 f1 f2 f3 f4 f5 f6 f7 f8 q0 q6 z1 zy zr
   obtain ⟨kk,hkk⟩:∃kk,1+c.k % 3=kk:=⟨_,rfl⟩
   rw [hkk] at Y6
   obtain ⟨y0,y1,y2,y3,y4,y5,y6,y7,y8⟩:=row9 Y6.at_
   have f0:=Y6.fr 0;have f1:=Y6.fr 1;have f2:=Y6.fr 2;have f3:=Y6.fr 3;have f4:=Y6.fr 4;have f5:=Y6.fr 5;have f6:=Y6.fr 6;have f7:=Y6.fr 7;have f8:=Y6.fr 8
   have q0:=R6.at_ 0 _ rfl;have q1:=R6.at_ 1 _ rfl;have q2:=R6.at_ 2 _ rfl;have q3:=R6.at_ 3 _ rfl;have q4:=R6.at_ 4 _ rfl;have q5:=R6.at_ 5 _ rfl;have q6:=R6.at_ 6 _ rfl
   obtain ⟨s0,s1,s2,s3,s4,s5,s6,s7,s8⟩:=row9 S6.at_
   have sf0:=S6.fr 0;have sf1:=S6.fr 1;have sf2:=S6.fr 2;have sf3:=S6.fr 3;have sf4:=S6.fr 4;have sf5:=S6.fr 5;have sf6:=S6.fr 6;have sf7:=S6.fr 7;have sf8:=S6.fr 8
   have zr:=R6.lt;have zs:=S6.lt;have zy:=Y6.lt
   have HY6:=qh Y6;have HR6:=qh R6;have HS6:=qh S6;have HB6:=qh hb6
   have hcase:(kk=1/\c.k % 3=0)∨(kk=2/\c.k % 3=1)∨(kk=3/\c.k % 3=2):=by omega
   clear Y6 R6 S6 hb6 hkk hd1 hd2 HRW HFB HD1 HD2 HB HY HE1 HE2 HBW HBB
   rcases hcase with ⟨rfl,hm⟩|⟨rfl,hm⟩|⟨rfl,hm⟩
   .have hx:entryP ⟨c.k,c.src,c.seq,tl,bs,acs,c.snd⟩=⟨1,c.src,c.seq,(oneP 6 (tl.take 60)).1, []⟩:=by rw [entryP,if_pos HSN.out,if_pos hm]
    have HX:=qh hx
    clear hx hm
    go_wp2_with fail
    refine (HBD.out w6 HB6.out).mono ?_
    rintro e w7 ⟨⟨cv2,rfl,hI7⟩,hb7⟩
    have Y7:=HY6.out.keep hb7 zy
    have S7:=HS6.out.keep hb7 zs
    clear y0 f0 s0 sf0 y1 f1 s1 sf1 y2 f2 s2 sf2 y3 f3 s3 sf3 y4 f4 s4 sf4 y5 f5 s5 sf5 y6 f6 s6 sf6 y7 f7 s7 sf7 y8 f8 s8 sf8
    obtain ⟨y0,y1,y2,y3,y4,y5,y6,y7,y8⟩:=row9 Y7.at_;have f0:=Y7.fr 0;have f1:=Y7.fr 1;have f2:=Y7.fr 2;have f3:=Y7.fr 3;have f4:=Y7.fr 4;have f5:=Y7.fr 5;have f6:=Y7.fr 6;have f7:=Y7.fr 7;have f8:=Y7.fr 8
    obtain ⟨s0,s1,s2,s3,s4,s5,s6,s7,s8⟩:=row9 S7.at_;have sf0:=S7.fr 0;have sf1:=S7.fr 1;have sf2:=S7.fr 2;have sf3:=S7.fr 3;have sf4:=S7.fr 4;have sf5:=S7.fr 5;have sf6:=S7.fr 6;have sf7:=S7.fr 7;have sf8:=S7.fr 8
    have zy7:=Y7.lt;have zs7:=S7.lt
    have st:=Zm w7 yb 3 cv2
    have hv7:IsVal (only (fun b=>w.heap.size<=b/\b≠w.heap.size+1) (setV w7 yb 3 cv2)) (setV w7 yb 3 cv2).heap.size (oneP 6 (tl.take 60)).1 cv2:=Z7 hI7 rfl st.size fun k hk hl=>⟨⟨by omega,by omega⟩,st.block k hl (by omega)⟩
    have hb7':Below w.heap.size w (setV w7 yb 3 cv2):=(HB6.out.trans (hb7.mono HB6.out.size)).trans ((st.below (by omega)).mono (by omega))
    have HS7:=qh (S7.next st (by omega))
    have HV7:=qh hv7;have HB7:=qh hb7'
    clear Y7 S7 st hv7 hb7' hI7 hb7
    go_wp2_with fail
    rw [<-HQ.out, <-HR.out,HX.out]
    have hbn:=HBN.out
    exact zaq (W:=setV w7 yb 3 cv2) (d:=⟨1,c.src,c.seq,cv2,none,0,0⟩) HS7.out HV7.out (.nil _ _) HB7.out ⟨by show (0:Int)<=1;omega,by show (1:Int)<256;omega,hbn.src0,hbn.src1,hbn.seq0,hbn.seq1⟩ rfl rfl
   .have hx:entryP ⟨c.k,c.src,c.seq,tl,bs,acs,c.snd⟩=⟨2,c.src,c.seq,V.none,aimP (oneP 6 (tl.take 60)).1 (acs.take 20)⟩:=by rw [entryP,if_pos HSN.out,if_neg (by rw [hm];decide),if_pos hm]
    have HX:=qh hx
    clear hx hm
    go_wp2_with fail
    have HFB8:Hid (∀W,Below (w.heap.size+1) w6.drew W->W.cell? ⟨w.heap.size,3,none⟩=some (.slice c.va c.vl c.vc)/\W.cell? ⟨w.heap.size,5,none⟩=some (.slice c.aa c.al c.ac)):=by
     intro W hW
     have hk:∀o u,w6.cell? ⟨w.heap.size,o,none⟩=some u->W.cell? ⟨w.heap.size,o,none⟩=some u:=fun o u h=>Zd hW (Zd (Zj w6) h zr) (by omega)
     exact ⟨hk _ _ q3,hk _ _ q5⟩
    have hbd6:Below w.heap.size w w6.drew:=HB6.out.trans ((Zj w6).mono (by omega))
    have HBD6:=qh hbd6
    have HYD:=qh (HY6.out.keep (Zj w6) zy)
    have HSD:=qh (HS6.out.keep (Zj w6) zs)
    have hyw:w.heap.size+1<=yb:=by omega
    clear hbd6
    clear y0 f0 s0 sf0 y1 f1 s1 sf1 y2 f2 s2 sf2 y3 f3 s3 sf3 y4 f4 s4 sf4 y5 f5 s5 sf5 y6 f6 s6 sf6 y7 f7 s7 sf7 y8 f8 s8 sf8
    refine wp_region_noPanic ?_
    go_region_held_law (fun W=>W.cell? ⟨w.heap.size,3,none⟩=some (.slice c.va c.vl c.vc)/\W.cell? ⟨w.heap.size,5,none⟩=some (.slice c.aa c.al c.ac))
     ((refine HFB8.out _ ?_;(first|(with_reducible exact Below.refl _ _)|(with_reducible exact bl8)|(with_reducible exact bl7)|(with_reducible exact Below.set_ bl8 hyw))))
     (first
      |(go_at_call 19;(with_reducible refine (HBD.out _ HBD6.out).mono ?_);rintro e w7 ⟨⟨cv2,rfl,hI7⟩,hb7⟩;have HI7:=qh hI7;have HB7:=qh hb7;have bl7:Below (w.heap.size+1) w6.drew w7:=hb7.mono (Nat.succ_le_of_lt zr);clear hI7 hb7)
      |(go_at_call 28;(with_reducible refine (HAM.out _ cv2 (HBD6.out.trans (HB7.out.mono HBD6.out.size)) (HI7.out.sub (Zt _ _ _))).mono ?_);rintro e w8 ⟨⟨aa,an,acp,rfl,hI8⟩,hb8⟩;have HI8:=qh hI8;have HB8:=qh hb8;have hz78:w6.heap.size<=w7.heap.size:=HB7.out.size;have bl8:Below (w.heap.size+1) w6.drew w8:=bl7.trans (hb8.mono (Nat.le_trans (Nat.succ_le_of_lt zr) hz78));clear hI8 hb8;have Y8:=(HYD.out.keep HB7.out zy).keep HB8.out (Nat.lt_of_lt_of_le zy hz78);have S8:=(HSD.out.keep HB7.out zs).keep HB8.out (Nat.lt_of_lt_of_le zs hz78);obtain ⟨y0,y1,y2,y3,y4,y5,y6,y7,y8⟩:=row9 Y8.at_;have f0:=Y8.fr 0;have f1:=Y8.fr 1;have f2:=Y8.fr 2;have f3:=Y8.fr 3;have f4:=Y8.fr 4;have f5:=Y8.fr 5;have f6:=Y8.fr 6;have f7:=Y8.fr 7;have f8:=Y8.fr 8;obtain ⟨s0,s1,s2,s3,s4,s5,s6,s7,s8⟩:=row9 S8.at_;have sf0:=S8.fr 0;have sf1:=S8.fr 1;have sf2:=S8.fr 2;have sf3:=S8.fr 3;have sf4:=S8.fr 4;have sf5:=S8.fr 5;have sf6:=S8.fr 6;have sf7:=S8.fr 7;have sf8:=S8.fr 8;have zy8:=Y8.lt;have zs8:=S8.lt;have HY8:=qh Y8;have HS8:=qh S8;clear Y8 S8))
    all_goals
     refine NoPanic.normal ?_
     have st:RStep w8 (w8.setCell ⟨yb,8,none⟩ (.slice aa an acp)) yb:=RStep.self
     have hb8:Below w.heap.size w w8:=(HBD6.out.trans (HB7.out.mono HBD6.out.size)).trans (HB8.out.mono (Nat.le_trans HBD6.out.size HB7.out.size))
     have hz67:yb<w7.heap.size:=Nat.lt_of_lt_of_le zy HB7.out.size
     have ho8:IsComps (only (fun b=>w.heap.size<=b/\b≠w.heap.size+1) (w8.setCell ⟨yb,8,none⟩ (.slice aa an acp))) (w8.setCell ⟨yb,8,none⟩ (.slice aa an acp)).heap.size (aimP (oneP 6 (tl.take 60)).1 (acs.take 20)) aa an acp:=(HI8.out.sub (Zf fun k hk hl=>⟨⟨by omega,by omega⟩,st.block k hl (by omega)⟩)).more st.size
     have HO8:=qh ho8
     have HB9:=qh (hb8.trans ((st.below (by omega)).mono (by omega)))
     have HS9:=qh (HS8.out.next st (by omega))
     clear ho8 hb8 st
     go_wp2_with fail
     rw [<-HQ.out, <-HR.out,HX.out]
     have hbn:=HBN.out
     exact zaq (W:=w8.setCell ⟨yb,8,none⟩ (.slice aa an acp)) (d:=⟨2,c.src,c.seq,vzero,aa,an,acp⟩) HS9.out (Zo _ _) HO8.out HB9.out ⟨by show (0:Int)<=2;omega,by show (2:Int)<256;omega,hbn.src0,hbn.src1,hbn.seq0,hbn.seq1⟩ rfl rfl
   .have hx:entryP ⟨c.k,c.src,c.seq,tl,bs,acs,c.snd⟩=⟨3,c.src,c.seq,V.none, []⟩:=by rw [entryP,if_pos HSN.out,if_neg (by rw [hm];decide),if_neg (by rw [hm];decide)]
    have HX:=qh hx
    clear hx hm
    go_wp2_with fail
    rw [<-HQ.out, <-HR.out,HX.out]
    have hbn:=HBN.out
    exact zaq (W:=w6) (d:=⟨3,c.src,c.seq,vzero,none,0,0⟩) HS6.out (Zo _ _) (.nil _ _) HB6.out ⟨by show (0:Int)<=3;omega,by show (3:Int)<256;omega,hbn.src0,hbn.src1,hbn.seq0,hbn.seq1⟩ rfl rfl
end Go.Proofs.YtfoahkbnheijcaaGreatDoor
