/-
  Contracts of the functions that the law reaches: conciliatorlaw10.Entry: an entry, as it is given or such that it may be done. Heavy: some number. law10.Heavy: some number. Heavy: its number, where that is not too great. law10.Heavy: its number, where that is not too great. What Raw builds weighs little enough; how long a value's bytes are. No program in sight.
-/
import Derived.Test.YtgcfhkceejcliaaGreatDoorAp32
import Derived.Test.YtgcfhkceejcliaaGreatDoorAp4
import Derived.Test.YtgcfhkceejcliaaGreatDoorAp31
import Derived.Test.YtgcfhkceejcliaaGreatDoorAp7
import Derived.Test.YtgcfhkceejcliaaGreatDoorAp25
import Derived.Deep.CutBlock
import Derived.Deep.LoopGhost
import Derived.BigQuiet
namespace Go.Proofs.YtgcfhkceejcliaaGreatDoor
open Go.RowKit
theorem below_of_drew {w W:World} (h:Below w.heap.size w.drew W):Below w.heap.size w W:=(drew_below w).trans h
set_option maxHeartbeats 32000000 in
set_option maxRecDepth 100000 in
theorem ent10_any (w:World) (c:RC) (x:Rc) (h:IsRec w w.heap.size x c) (hT:Tabs w):
    Calls Tryz.prog 7 #[.agg #[.int .u8 c.k, .int .u32 c.src, .int .u32 c.seq, .slice c.va c.vl c.vc, .slice c.oa c.ol c.oc, .slice c.aa c.al c.ac, .bool c.snd]] w (EntryPost w (entryP x)):=by
  obtain ⟨i0,hi0,hz0,hz1,hz2⟩:=info_parts ginfoCm
  cases h with
  |mk _ tl bs acs hbd hv ho ha=>
  obtain ⟨R,hR⟩:∃R,EntryPost w (entryP ⟨c.k,c.src,c.seq,tl,bs,acs,c.snd⟩)=R:=⟨_,rfl⟩
  rw [hR]
  have HR:=Lib.hid hR
  obtain ⟨wb,hwr⟩:∃wb,((w.alloc (.cells #[.int .u8 c.k, .int .u32 c.src, .int .u32 c.seq, .slice c.va c.vl c.vc, .slice c.oa c.ol c.oc, .slice c.aa c.al c.ac, .bool c.snd] 27)).alloc (.cells #[.int .u8 0, .int .u32 0, .int .u32 0, .int .u8 0, .int .i64 0, .string { data:= #[] }, .slice none 0 0, .slice none 0 0, .slice none 0 0] 36))=wb:=⟨_,rfl⟩
  obtain ⟨d1,d2,hb,hz⟩:=two_boxes w #[.int .u8 c.k, .int .u32 c.src, .int .u32 c.seq, .slice c.va c.vl c.vc, .slice c.oa c.ol c.oc, .slice c.aa c.al c.ac, .bool c.snd] #[.int .u8 0, .int .u32 0, .int .u32 0, .int .u8 0, .int .i64 0, .string { data:= #[] }, .slice none 0 0, .slice none 0 0, .slice none 0 0] 27 36
  rw [hwr] at d1 d2 hb hz
  have HRW:Hid (∀W,Below wb.heap.size wb.drew W→Calls Tryz.prog 16 #[.slice c.va c.vl c.vc] W fun e w'=>(∃cv:VC,e= .returned (.agg #[.int .u8 cv.k, .int .i64 cv.n, .string cv.s, .slice cv.la cv.ll cv.lc, .slice cv.oa cv.ol cv.oc])∧IsVal (only (fun b=>W.heap.size≤b) w') w'.heap.size (rawP 20 (tl.take 60)).1 cv)∧Below W.heap.size W w'):=fun W hW=>rawF_own W tl _ _ _ (hv.later_ ((hb.trans ((drew_below wb).mono (by omega))).trans (hW.mono (by omega))))
  have HBD:Hid (∀W,Below w.heap.size w W→Calls Tryz.prog 17 #[.slice c.va c.vl c.vc] W fun e w'=>(∃cv:VC,e= .returned (.agg #[.int .u8 cv.k, .int .i64 cv.n, .string cv.s, .slice cv.la cv.ll cv.lc, .slice cv.oa cv.ol cv.oc])∧IsVal (only (fun b=>W.heap.size≤b) w') w'.heap.size (oneP 6 (tl.take 60)).1 cv)∧Below W.heap.size W w'):=fun W hW=>build_own W tl _ _ _ (hv.later_ hW)
  have HAM:Hid (∀W (cv:VC),Below w.heap.size w W→IsVal W W.heap.size (oneP 6 (tl.take 60)).1 cv→Calls Tryz.prog 18 #[.agg #[.int .u8 cv.k, .int .i64 cv.n, .string cv.s, .slice cv.la cv.ll cv.lc, .slice cv.oa cv.ol cv.oc], .slice c.aa c.al c.ac] W (AimPost W (aimP (oneP 6 (tl.take 60)).1 (acs.take 20)))):=fun W cv hW hI=>aim_any W _ _ _ _ _ _ _ _ _ _ hI (build_light tl).2.1 acs _ _ _ (ha.later_ hW) (hT.below hW)
  have HFB:Hid (∀W,Below wb.heap.size wb.drew W→W.cell? ⟨w.heap.size,0,none⟩=some (.int .u8 c.k)∧W.cell? ⟨w.heap.size,1,none⟩=some (.int .u32 c.src)∧W.cell? ⟨w.heap.size,2,none⟩=some (.int .u32 c.seq)∧W.cell? ⟨w.heap.size,3,none⟩=some (.slice c.va c.vl c.vc)):=by
    intro W hW
    have hk:∀o u,wb.cell? ⟨w.heap.size,o,none⟩=some u→W.cell? ⟨w.heap.size,o,none⟩=some u:=fun o u h=>keep_cell hW (keep_cell (drew_below wb) h (by omega)) (show w.heap.size<wb.heap.size by omega)
    exact ⟨hk _ _ (d1.at_ 0 _ rfl),hk _ _ (d1.at_ 1 _ rfl),hk _ _ (d1.at_ 2 _ rfl),hk _ _ (d1.at_ 3 _ rfl)⟩
  have HD1:=Lib.hid (show BC wb w.heap.size (rcells c) from d1)
  have HD2:=Lib.hid (show BC wb (w.heap.size+1) (ecells ezero) from d2)
  have HB:=Lib.hid hb
  have hzl:w.heap.size+2≤wb.heap.size:=by omega
  have HOB:=Lib.hid ho
  have HBN:=Lib.hid hbd
  have HWR:=Lib.hid hwr
  have k0:=hbd.k0
  have hocap:=ho.cap;have homax:=ho.max
  clear hwr d1 d2 hb hz hv ho ha hbd hR hT
  go_enter Tryz.func7,Tryz.ntmps7
  generalize hQ0:bodyPost _ _ _=Q0
  have HQ:=Lib.hid hQ0
  clear hQ0
  go_upto_region 1 with fail
  rw [HWR.out]
  clear HWR
  go_cut [3] from 5 to 14 (fun c3 wx=>∃(yb:Nat) (cv:VC),c3= .pointer (some ⟨yb,0,none⟩)∧BC wx yb (ecells ⟨c.k,c.src,c.seq,cv,none,0,0⟩)∧Below wb.heap.size wb.drew wx∧wb.heap.size≤yb∧Hid (IsVal (only (fun b=>wb.heap.size≤b∧b≠yb) wx) wx.heap.size (rawP 20 (tl.take 60)).1 cv))
  case first=>
    go_wp2_with fail
    refine wp_region_noPanic ?_
    go_region_held_law (fun W=>W.cell? ⟨w.heap.size,0,none⟩=some (.int .u8 c.k)∧W.cell? ⟨w.heap.size,1,none⟩=some (.int .u32 c.src)∧W.cell? ⟨w.heap.size,2,none⟩=some (.int .u32 c.seq)∧W.cell? ⟨w.heap.size,3,none⟩=some (.slice c.va c.vl c.vc))
      ((refine HFB.out _ ?_;(first|(with_reducible exact bl4)|(with_reducible exact Below.refl _ _)|(with_reducible exact below_draw_alloc _ _)|(with_reducible exact Below.alloc bl4 bz4 _)|(with_reducible exact Below.setE bl4 (Nat.le_refl _) ⟨c.k,c.src,c.seq,cv,none,0,0⟩))))
      (first
        |(go_at_call 16;(with_reducible refine (HRW.out _ (Below.refl _ _)).mono ?_);rintro e w4 ⟨⟨cv,rfl,hI⟩,hb4⟩;have HI:=Lib.hid hI;clear hI;have bl4:Below wb.heap.size wb.drew w4:=hb4;have bz4:wb.heap.size≤w4.heap.size:=hb4.size)
        |(go_at_call 16;(with_reducible refine (HRW.out _ (below_draw_alloc _ _)).mono ?_);rintro e w4 ⟨⟨cv,rfl,hI⟩,hb4⟩;have HI:=Lib.hid hI;clear hI;have bl4:Below wb.heap.size wb.drew w4:=(below_draw_alloc _ _).trans (hb4.mono (by simp));have bz4:wb.heap.size≤w4.heap.size:=bl4.size;have XB:=bc_new_drew hb4;obtain ⟨xc0,xc1,xc2,xc3,xc4,xc5,xc6,xc7,xc8⟩:=row9 XB.at_;have xg0:=XB.fr 0;have xg1:=XB.fr 1;have xg2:=XB.fr 2;have xg3:=XB.fr 3;have xg4:=XB.fr 4;have xg5:=XB.fr 5;have xg6:=XB.fr 6;have xg7:=XB.fr 7;have xg8:=XB.fr 8;have xl:=XB.lt))
    all_goals
      (first
        |(with_reducible refine gen_world (P:=fun W=>BC W w4.heap.size (ecells ⟨c.k,c.src,c.seq,cv,none,0,0⟩)∧Below wb.heap.size wb.drew W∧wb.heap.size≤w4.heap.size∧IsVal (only (fun b=>wb.heap.size≤b∧b≠w4.heap.size) W) W.heap.size (rawP 20 (tl.take 60)).1 cv) (filled1E bl4 bz4 ⟨c.k,c.src,c.seq,cv,none,0,0⟩ _ HI.out (Nat.le_refl _)) ?_)
        |(with_reducible refine gen_world (P:=fun W=>BC W wb.heap.size (ecells ⟨c.k,c.src,c.seq,cv,none,0,0⟩)∧Below wb.heap.size wb.drew W∧wb.heap.size≤wb.heap.size∧IsVal (only (fun b=>wb.heap.size≤b∧b≠wb.heap.size) W) W.heap.size (rawP 20 (tl.take 60)).1 cv) (filled2E bl4 ⟨c.k,c.src,c.seq,cv,none,0,0⟩ XB HI.out (by simp)) ?_))
      rintro W ⟨hbc,hbW,hyb,hI⟩
      have HI2:=Lib.hid hI
      clear hI
      go_wp2_with fail
      go_meet
      exact ⟨_,cv,rfl,hbc,hbW,hyb,HI2⟩
  case rest=>
  obtain ⟨yb,cv,rfl,Y,hb5,hyb,HI⟩:=hcut
  have hbw:=below_of_drew hb5
  have E1:=HD1.out.keep hbw (show w.heap.size<wb.heap.size by omega)
  have E2:=HD2.out.keep hbw (show w.heap.size+1<wb.heap.size by omega)
  have hIV:IsVal (only (fun k=>w.heap.size+2≤k∧k≠yb) wc) wc.heap.size (rawP 20 (tl.take 60)).1 cv:=isVal_S HI.out rfl (Nat.le_refl _) fun k hk _=>⟨⟨by have:=hk.1;omega,hk.2⟩,rfl⟩
  have hBW:Below w.heap.size w wc:=HB.out.trans (hbw.mono (by omega))
  obtain ⟨sn,hsn⟩:∃sn,c.snd=sn:=⟨_,rfl⟩
  cases sn with
  | false =>
    have hx:entryP ⟨c.k,c.src,c.seq,tl,bs,acs,c.snd⟩=⟨c.k,c.src,c.seq,(rawP 20 (tl.take 60)).1,(bs.take 20).map compP⟩:=by rw [entryP,if_neg (by rw [hsn];simp)]
    have HX:=Lib.hid hx
    have HE:=Lib.hid (EH.start E1 E2 Y hIV (by omega) hBW rfl rfl rfl)
    have q0:=E1.at_ 0 _ rfl;have q1:=E1.at_ 1 _ rfl;have q2:=E1.at_ 2 _ rfl;have q3:=E1.at_ 3 _ rfl;have q4:=E1.at_ 4 _ rfl;have q5:=E1.at_ 5 _ rfl;have q6:=E1.at_ 6 _ rfl
    rw [hsn] at q6
    have z1:=E1.lt
    clear E1 E2 Y hIV hbw hb5 hx hsn HI hBW
    go_upto_block 0 with fail
    clear q0 q1 q2 q3 q4 q5 q6
    go_wp2_with fail
    go_loopg [4] 20 (fun gh i wx=>∃(j:Nat) (ua:Option Addr) (m uc:Nat) (xs:List Cm) (cs:List CC),j≤c.ol∧j≤20∧gh=20 - j∧i= .int .i64 j∧Hid (m=j)∧Hid (xs=(bs.take j).map compP)∧EH w wx yb c ⟨c.k,c.src,c.seq,cv,ua,m,uc⟩ (rawP 20 (tl.take 60)).1 j xs cs)
    case atStart=>exact ⟨0,none,0,0, [], [],Nat.zero_le _,Nat.zero_le _,rfl,rfl,Lib.hid rfl,Lib.hid rfl,HE.out⟩
    case round=>
      obtain ⟨j,ua,m,uc,xs,cs,hj,hj20,rfl,rfl,HM,HXS,L⟩:=hrel
      have q4:=L.r.at_ 4 _ rfl
      have z1:=L.r.lt
      have HL:=Lib.hid L
      clear L
      by_cases hcont:j<c.ol∧j<20
      · obtain ⟨hlt,hlt20⟩:=hcont
        obtain ⟨b,q,f,hpl,hoa,hbB,hat,hia⟩:=HOB.out.get hlt
        have hat2:=hat.keep HL.out.below hbB
        have hbw:b<wr.heap.size:=World.block_lt_of_cell? wr _ hat2.c0
        have hzb:=HL.out.below.size
        obtain ⟨xb,hxb⟩:∃y,bs[j] =y:=⟨_,rfl⟩
        rw [hxb] at hia
        rw [hoa] at q4
        have hnx:xs++ [compP xb] =(bs.take (j+1)).map compP:=by rw [HXS.out,List.take_succ_eq_append_getElem hpl,List.map_append,hxb];rfl
        have HNX:=Lib.hid hnx
        have p0:=hat2.c0;have p1:=hat2.c1;have p2:=hat2.c2;have p3:=hat2.c3;have p4:=hat2.c4;have p5:=hat2.c5;have p6:=hat2.c6;have p7:=hat2.c7
        have HC3:Hid (∀W,Below wr.heap.size wr.drew W→Calls Tryz.prog 19 #[.agg #[.int .u8 f.k, .slice f.pa f.pl f.pc, .string f.key, .int .i64 f.i, .int .i64 f.j, .int .i64 f.n, .string f.s, .slice f.va f.vl f.vc]] W (CompPost W w.heap.size (compP xb))):=fun W hW=>compRaw_any W w.heap.size (Nat.le_trans hzb hW.size) f xb (hia.keep (HL.out.below.trans ((below_of_drew hW).mono hzb)))
        have HMM:Hid (m=j):=HM
        have hq4:=HL.out.box.at_ 8 _ rfl
        have hfr4:=HL.out.box.fr 8
        have hyl:=HL.out.box.lt
        have hlo:=HL.out.lo
        have hrlt:∀g,(Value.slice ua m uc).ownBlock=some g→w.heap.size+1≤g:=fun g hg=>by have:=(HL.out.row.own.lt g hg).1;omega
        have HEX:Hid (∀W,Below wr.heap.size wr.drew W→W.ownsRow (yb+1) 63 12 (.slice ua m uc) j (cs.flatMap ccells)∧BC W yb (ecells ⟨c.k,c.src,c.seq,cv,ua,m,uc⟩)):=fun W hW=>by
          have ho:=(HL.out.row.later (rb:=yb) (PC.closed _ _) (.of_below _ (below_of_drew hW)) (by omega) (fun hk=>hk.1 rfl)).own
          rw [HL.out.len] at ho
          exact ⟨ho,HL.out.box.keep (below_of_drew hW) hyl⟩
        have hyw:w.heap.size+1≤yb:=by omega
        have HOA:=Lib.hid hoa
        clear hat hat2 hia hxb hnx hoa HX HE HD1 HD2 HB HRW HBD HAM HFB
        go_wp2_with fail
        refine wp_region_noPanic ?_
        go_region_law
          (first
            |(go_simp;go_at_call 19;(with_reducible refine (HC3.out _ (Below.refl _ _)).mono ?_);rintro e w4 ⟨⟨cx,rfl,hI4⟩,hb4⟩;have HI4:=Lib.hid hI4;clear hI4;have HB4:=Lib.hid hb4;have bz4:w.heap.size+1≤w4.heap.size:=Nat.le_trans (Nat.succ_le_of_lt z1) hb4.size;have bw4:wr.heap.size≤w4.heap.size:=hb4.size;have bl4:Below (w.heap.size+1) wr.drew w4:=hb4.mono (Nat.succ_le_of_lt z1);obtain ⟨ho4,E4⟩:=HEX.out w4 hb4;clear hb4;have ye8:=E4.at_ 8 _ rfl;have yf8:=E4.fr 8;have yl4:=E4.lt)
            |(refine step_append_lies _ (by rfl) _ _ _ (by rfl) (yb+1) 63 i0 _ 12 168 (by kernel_rfl) hi0 hz0 hz1 hz2 rfl (by omega) (.slice ua m uc) j (cs.flatMap ccells) (by rfl) (ho4.alloc _) ⟨w4.heap.size,0,none⟩ 1 1 (ccells cx) (by rfl) (by rfl) (news_comp w4 cx _) (by simp [ccells,Value.oneCell']) (by omega) (by unfold maxLen;omega) (by omega) (by simp;omega) (w4.heap.size+1) (by simp) ?_;intro g cap w5 hown5 hgrow5 hat5 hlt5;have HG5:=Lib.hid hgrow5;have hgb5:Below (w.heap.size+1) w4 w5:=((Below.refl _ _).alloc bz4 _).trans (grown_below hgrow5 hrlt (by rw [World.size_alloc];omega));have bl5:Below (w.heap.size+1) wr.drew w5:=bl4.trans hgb5;have E5:=E4.keep ((((Below.refl _ _).alloc (Nat.le_refl _) _).mono (Nat.succ_le_of_lt yl4)).trans (grown_below hgrow5 (fun g hg=>(HL.out.row.own.lt g hg).1) (by rw [World.size_alloc];omega))) (Nat.lt_succ_self _);have yg8:=E5.at_ 8 _ rfl;have yh8:=E5.fr 8;have yl5:=E5.lt;clear hgrow5 hgb5))
        all_goals
          refine NoPanic.normal ?_
          go_wp2_with fail
          go_roundg (20 - (j+1))
          case measure=>omega
          case rel=>exact ⟨j+1,some ⟨g,0,none⟩,j+1,cap,xs++ [compP xb],cs++ [cx],by omega,by omega,rfl,by go_num,Lib.hid rfl,HNX,HL.out.round rfl rfl rfl HB4.out HI4.out hown5 HG5.out hat5⟩
      · have htk:(bs.take j).map compP=(bs.take 20).map compP:=by
          have hl:=HOB.out.len
          by_cases h20:j=20
          · rw [h20]
          · rw [List.take_of_length_le (by omega),List.take_of_length_le (by omega)]
        have hxs:=HXS.out
        rw [htk] at hxs
        have HXX:=Lib.hid hxs
        have hex:¬j<c.ol∨(j<c.ol∧¬j<20):=by omega
        obtain ⟨s0,s1,s2,s3,s4,s5,s6,s7,s8⟩:=row9 HL.out.res.at_
        have sf0:=HL.out.res.fr 0;have sf1:=HL.out.res.fr 1;have sf2:=HL.out.res.fr 2;have sf3:=HL.out.res.fr 3;have sf4:=HL.out.res.fr 4;have sf5:=HL.out.res.fr 5;have sf6:=HL.out.res.fr 6;have sf7:=HL.out.res.fr 7;have sf8:=HL.out.res.fr 8
        obtain ⟨y0,y1,y2,y3,y4,y5,y6,y7,y8⟩:=row9 HL.out.box.at_
        have zr2:=HL.out.res.lt;have zy2:=HL.out.box.lt
        clear htk hxs hcont HE HD1 HD2 HB HRW HBD HAM HFB
        rcases hex with hq|⟨hq,hq8⟩
        all_goals
          go_wp2_with fail
          rw [←HQ.out, ←HR.out,HX.out, ←HXX.out]
          have hbn:=HBN.out
          have hlo:=HL.out.lo
          exact ent10_leave (W:=wr) (d:=⟨c.k,c.src,c.seq,cv,ua,m,uc⟩) HL.out.res (isVal_S HL.out.val rfl (Nat.le_refl _) fun k hk _=>⟨hk.1.2,rfl⟩) (RowG.comps (S:=fun k=>k≠yb∧k≠w.heap.size+1) (S':=fun k=>k≠w.heap.size+1) HL.out.row (by rw [HL.out.cen,HL.out.len]) (by rw [HL.out.len];omega) (fun k hk=>hk.2) (fun k hk=>by omega)) HL.out.below ⟨hbn.k0,hbn.k1,hbn.src0,hbn.src1,hbn.seq0,hbn.seq1⟩ rfl rfl
  | true =>
    have Y5:=Y
    obtain ⟨y0,y1,y2,y3,y4,y5,y6,y7,y8⟩:=row9 Y5.at_;have f0:=Y5.fr 0;have f1:=Y5.fr 1;have f2:=Y5.fr 2;have f3:=Y5.fr 3;have f4:=Y5.fr 4;have f5:=Y5.fr 5;have f6:=Y5.fr 6;have f7:=Y5.fr 7;have f8:=Y5.fr 8
    have q0:=E1.at_ 0 _ rfl;have q6:=E1.at_ 6 _ rfl
    rw [hsn] at q6
    have z1:=E1.lt;have zy:=Y.lt;have zr:=E2.lt
    have hd1:0≤c.k % 3:=Int.emod_nonneg _ (by omega)
    have hd2:c.k % 3<3:=Int.emod_lt_of_pos _ (by omega)
    have HY:=Lib.hid Y;have HE1:=Lib.hid E1;have HE2:=Lib.hid E2;have HBW:=Lib.hid hBW;have HSN:=Lib.hid hsn
    have HBB:=Lib.hid hbw
    clear Y5 Y E1 E2 hIV HI hbw hb5 hBW hsn
    go_upto_region 5 with fail
    generalize hw6:World.setCell _ _ _=w6
    have Y6:BC w6 yb (ecells ⟨1+c.k % 3,c.src,c.seq,vzero,none,0,0⟩):=by rw [←hw6];exact bc_storeEV (c0:=⟨1+c.k % 3,c.src,c.seq,cv,none,0,0⟩) (HY.out.set (i:=0) (x:= .int .u8 (1+c.k % 3)) (by simp [ecells])) vzero
    have R6:BC w6 w.heap.size (rcells c):=by rw [←hw6];exact (((((HE1.out.far (by omega)).far (by omega)).far (by omega)).far (by omega)).far (by omega)).far (by omega)
    have S6:BC w6 (w.heap.size+1) (ecells ezero):=by rw [←hw6];exact (((((HE2.out.far (by omega)).far (by omega)).far (by omega)).far (by omega)).far (by omega)).far (by omega)
    have hb6:Below w.heap.size w w6:=by rw [←hw6];exact (((((HBW.out.set_ (by omega)).set_ (by omega)).set_ (by omega)).set_ (by omega)).set_ (by omega)).set_ (by omega)
    clear hw6 y0 y1 y2 y3 y4 y5 y6 y7 y8 f0 f1 f2 f3 f4 f5 f6 f7 f8 q0 q6 z1 zy zr
    obtain ⟨kk,hkk⟩:∃kk,1+c.k % 3=kk:=⟨_,rfl⟩
    rw [hkk] at Y6
    obtain ⟨y0,y1,y2,y3,y4,y5,y6,y7,y8⟩:=row9 Y6.at_
    have f0:=Y6.fr 0;have f1:=Y6.fr 1;have f2:=Y6.fr 2;have f3:=Y6.fr 3;have f4:=Y6.fr 4;have f5:=Y6.fr 5;have f6:=Y6.fr 6;have f7:=Y6.fr 7;have f8:=Y6.fr 8
    have q0:=R6.at_ 0 _ rfl;have q1:=R6.at_ 1 _ rfl;have q2:=R6.at_ 2 _ rfl;have q3:=R6.at_ 3 _ rfl;have q4:=R6.at_ 4 _ rfl;have q5:=R6.at_ 5 _ rfl;have q6:=R6.at_ 6 _ rfl
    obtain ⟨s0,s1,s2,s3,s4,s5,s6,s7,s8⟩:=row9 S6.at_
    have sf0:=S6.fr 0;have sf1:=S6.fr 1;have sf2:=S6.fr 2;have sf3:=S6.fr 3;have sf4:=S6.fr 4;have sf5:=S6.fr 5;have sf6:=S6.fr 6;have sf7:=S6.fr 7;have sf8:=S6.fr 8
    have zr:=R6.lt;have zs:=S6.lt;have zy:=Y6.lt
    have HY6:=Lib.hid Y6;have HR6:=Lib.hid R6;have HS6:=Lib.hid S6;have HB6:=Lib.hid hb6
    have hcase:(kk=1∧c.k % 3=0)∨(kk=2∧c.k % 3=1)∨(kk=3∧c.k % 3=2):=by omega
    clear Y6 R6 S6 hb6 hkk hd1 hd2 HRW HFB HD1 HD2 HB HY HE1 HE2 HBW HBB
    rcases hcase with ⟨rfl,hm⟩|⟨rfl,hm⟩|⟨rfl,hm⟩
    · have hx:entryP ⟨c.k,c.src,c.seq,tl,bs,acs,c.snd⟩=⟨1,c.src,c.seq,(oneP 6 (tl.take 60)).1, []⟩:=by rw [entryP,if_pos HSN.out,if_pos hm]
      have HX:=Lib.hid hx
      clear hx hm
      go_wp2_with fail
      refine (HBD.out w6 HB6.out).mono ?_
      rintro e w7 ⟨⟨cv2,rfl,hI7⟩,hb7⟩
      have Y7:=HY6.out.keep hb7 zy
      have S7:=HS6.out.keep hb7 zs
      clear y0 f0 s0 sf0 y1 f1 s1 sf1 y2 f2 s2 sf2 y3 f3 s3 sf3 y4 f4 s4 sf4 y5 f5 s5 sf5 y6 f6 s6 sf6 y7 f7 s7 sf7 y8 f8 s8 sf8
      obtain ⟨y0,y1,y2,y3,y4,y5,y6,y7,y8⟩:=row9 Y7.at_;have f0:=Y7.fr 0;have f1:=Y7.fr 1;have f2:=Y7.fr 2;have f3:=Y7.fr 3;have f4:=Y7.fr 4;have f5:=Y7.fr 5;have f6:=Y7.fr 6;have f7:=Y7.fr 7;have f8:=Y7.fr 8
      obtain ⟨s0,s1,s2,s3,s4,s5,s6,s7,s8⟩:=row9 S7.at_;have sf0:=S7.fr 0;have sf1:=S7.fr 1;have sf2:=S7.fr 2;have sf3:=S7.fr 3;have sf4:=S7.fr 4;have sf5:=S7.fr 5;have sf6:=S7.fr 6;have sf7:=S7.fr 7;have sf8:=S7.fr 8
      have zy7:=Y7.lt;have zs7:=S7.lt
      have st:=setV_step w7 yb 3 cv2
      have hv7:IsVal (only (fun b=>b≠w.heap.size+1) (setV w7 yb 3 cv2)) (setV w7 yb 3 cv2).heap.size (oneP 6 (tl.take 60)).1 cv2:=isVal_S hI7 rfl st.size fun k hk hl=>⟨by omega,st.block k hl (by omega)⟩
      have hb7':Below w.heap.size w (setV w7 yb 3 cv2):=(HB6.out.trans (hb7.mono HB6.out.size)).trans ((st.below (by omega)).mono (by omega))
      have HS7:=Lib.hid (S7.next st (by omega))
      have HV7:=Lib.hid hv7;have HB7:=Lib.hid hb7'
      clear Y7 S7 st hv7 hb7' hI7 hb7
      go_wp2_with fail
      rw [←HQ.out, ←HR.out,HX.out]
      have hbn:=HBN.out
      exact ent10_leave (W:=setV w7 yb 3 cv2) (d:=⟨1,c.src,c.seq,cv2,none,0,0⟩) HS7.out HV7.out (.nil _ _) HB7.out ⟨by show (0:Int)≤1;omega,by show (1:Int)<256;omega,hbn.src0,hbn.src1,hbn.seq0,hbn.seq1⟩ rfl rfl
    · have hx:entryP ⟨c.k,c.src,c.seq,tl,bs,acs,c.snd⟩=⟨2,c.src,c.seq,V.none,aimP (oneP 6 (tl.take 60)).1 (acs.take 20)⟩:=by rw [entryP,if_pos HSN.out,if_neg (by rw [hm];decide),if_pos hm]
      have HX:=Lib.hid hx
      clear hx hm
      go_wp2_with fail
      have HFB8:Hid (∀W,Below (w.heap.size+1) w6.drew W→W.cell? ⟨w.heap.size,3,none⟩=some (.slice c.va c.vl c.vc)∧W.cell? ⟨w.heap.size,5,none⟩=some (.slice c.aa c.al c.ac)):=by
        intro W hW
        have hk:∀o u,w6.cell? ⟨w.heap.size,o,none⟩=some u→W.cell? ⟨w.heap.size,o,none⟩=some u:=fun o u h=>keep_cell hW (keep_cell (drew_below w6) h zr) (by omega)
        exact ⟨hk _ _ q3,hk _ _ q5⟩
      have hbd6:Below w.heap.size w w6.drew:=HB6.out.trans ((drew_below w6).mono (by omega))
      have HBD6:=Lib.hid hbd6
      have HYD:=Lib.hid (HY6.out.keep (drew_below w6) zy)
      have HSD:=Lib.hid (HS6.out.keep (drew_below w6) zs)
      have hyw:w.heap.size+1≤yb:=by omega
      clear hbd6
      clear y0 f0 s0 sf0 y1 f1 s1 sf1 y2 f2 s2 sf2 y3 f3 s3 sf3 y4 f4 s4 sf4 y5 f5 s5 sf5 y6 f6 s6 sf6 y7 f7 s7 sf7 y8 f8 s8 sf8
      refine wp_region_noPanic ?_
      go_region_held_law (fun W=>W.cell? ⟨w.heap.size,3,none⟩=some (.slice c.va c.vl c.vc)∧W.cell? ⟨w.heap.size,5,none⟩=some (.slice c.aa c.al c.ac))
        ((refine HFB8.out _ ?_;(first|(with_reducible exact Below.refl _ _)|(with_reducible exact bl8)|(with_reducible exact bl7)|(with_reducible exact Below.set_ bl8 hyw))))
        (first
          |(go_at_call 17;(with_reducible refine (HBD.out _ HBD6.out).mono ?_);rintro e w7 ⟨⟨cv2,rfl,hI7⟩,hb7⟩;have HI7:=Lib.hid hI7;have HB7:=Lib.hid hb7;have bl7:Below (w.heap.size+1) w6.drew w7:=hb7.mono (Nat.succ_le_of_lt zr);clear hI7 hb7)
          |(go_at_call 18;(with_reducible refine (HAM.out _ cv2 (HBD6.out.trans (HB7.out.mono HBD6.out.size)) (HI7.out.sub (shows_only _ _ _))).mono ?_);rintro e w8 ⟨⟨aa,an,acp,rfl,hI8⟩,hb8⟩;have HI8:=Lib.hid hI8;have HB8:=Lib.hid hb8;have hz78:w6.heap.size≤w7.heap.size:=HB7.out.size;have bl8:Below (w.heap.size+1) w6.drew w8:=bl7.trans (hb8.mono (Nat.le_trans (Nat.succ_le_of_lt zr) hz78));clear hI8 hb8;have Y8:=(HYD.out.keep HB7.out zy).keep HB8.out (Nat.lt_of_lt_of_le zy hz78);have S8:=(HSD.out.keep HB7.out zs).keep HB8.out (Nat.lt_of_lt_of_le zs hz78);obtain ⟨y0,y1,y2,y3,y4,y5,y6,y7,y8⟩:=row9 Y8.at_;have f0:=Y8.fr 0;have f1:=Y8.fr 1;have f2:=Y8.fr 2;have f3:=Y8.fr 3;have f4:=Y8.fr 4;have f5:=Y8.fr 5;have f6:=Y8.fr 6;have f7:=Y8.fr 7;have f8:=Y8.fr 8;obtain ⟨s0,s1,s2,s3,s4,s5,s6,s7,s8⟩:=row9 S8.at_;have sf0:=S8.fr 0;have sf1:=S8.fr 1;have sf2:=S8.fr 2;have sf3:=S8.fr 3;have sf4:=S8.fr 4;have sf5:=S8.fr 5;have sf6:=S8.fr 6;have sf7:=S8.fr 7;have sf8:=S8.fr 8;have zy8:=Y8.lt;have zs8:=S8.lt;have HY8:=Lib.hid Y8;have HS8:=Lib.hid S8;clear Y8 S8))
      all_goals
        refine NoPanic.normal ?_
        have st:RStep w8 (w8.setCell ⟨yb,8,none⟩ (.slice aa an acp)) yb:=RStep.self
        have hb8:Below w.heap.size w w8:=(HBD6.out.trans (HB7.out.mono HBD6.out.size)).trans (HB8.out.mono (Nat.le_trans HBD6.out.size HB7.out.size))
        have hz67:yb<w7.heap.size:=Nat.lt_of_lt_of_le zy HB7.out.size
        have ho8:IsComps (only (fun b=>b≠w.heap.size+1) (w8.setCell ⟨yb,8,none⟩ (.slice aa an acp))) (w8.setCell ⟨yb,8,none⟩ (.slice aa an acp)).heap.size (aimP (oneP 6 (tl.take 60)).1 (acs.take 20)) aa an acp:=(HI8.out.sub (shows_step fun k hk hl=>⟨by omega,st.block k hl (by omega)⟩)).more st.size
        have HO8:=Lib.hid ho8
        have HB9:=Lib.hid (hb8.trans ((st.below (by omega)).mono (by omega)))
        have HS9:=Lib.hid (HS8.out.next st (by omega))
        clear ho8 hb8 st
        go_wp2_with fail
        rw [←HQ.out, ←HR.out,HX.out]
        have hbn:=HBN.out
        exact ent10_leave (W:=w8.setCell ⟨yb,8,none⟩ (.slice aa an acp)) (d:=⟨2,c.src,c.seq,vzero,aa,an,acp⟩) HS9.out (isVal_none _ _) HO8.out HB9.out ⟨by show (0:Int)≤2;omega,by show (2:Int)<256;omega,hbn.src0,hbn.src1,hbn.seq0,hbn.seq1⟩ rfl rfl
    · have hx:entryP ⟨c.k,c.src,c.seq,tl,bs,acs,c.snd⟩=⟨3,c.src,c.seq,V.none, []⟩:=by rw [entryP,if_pos HSN.out,if_neg (by rw [hm];decide),if_neg (by rw [hm];decide)]
      have HX:=Lib.hid hx
      clear hx hm
      go_wp2_with fail
      rw [←HQ.out, ←HR.out,HX.out]
      have hbn:=HBN.out
      exact ent10_leave (W:=w6) (d:=⟨3,c.src,c.seq,vzero,none,0,0⟩) HS6.out (isVal_none _ _) (.nil _ _) HB6.out ⟨by show (0:Int)≤3;omega,by show (3:Int)<256;omega,hbn.src0,hbn.src1,hbn.seq0,hbn.seq1⟩ rfl rfl
end Go.Proofs.YtgcfhkceejcliaaGreatDoor
namespace Go.Proofs.YtgcfhkceejcliaaGreatDoor
open Go.RowKit
theorem IsAct.toks {w:World} {B:Nat} {x:Ac} {c:AC} (h:IsAct w B x c):IsToks w B x.v c.va c.vl c.vc:=by
  cases h with
  |mk c p v hb hp hv=>exact hv
end Go.Proofs.YtgcfhkceejcliaaGreatDoor
namespace Go.Proofs.YtgcfhkceejcliaaGreatDoor
open Go.RowKit
theorem IsBare.toks {w:World} {B:Nat} {x:Ba} {c:BA} (h:IsBare w B x c):IsToks w B x.v c.va c.vl c.vc:=by
  cases h with
  |mk c p v hb hp hv=>exact hv
theorem IsBare.steps {w:World} {B:Nat} {x:Ba} {c:BA} (h:IsBare w B x c):IsSteps w B x.path c.pa c.pl c.pc:=by
  cases h with
  |mk c p v hb hp hv=>exact hp
end Go.Proofs.YtgcfhkceejcliaaGreatDoor
namespace Go.Proofs.YtgcfhkceejcliaaGreatDoor
open Go.RowKit
theorem wrap64_of {x:Int} (h1: -9223372036854775808≤x) (h2:x≤9223372036854775807):wrap64 x=x:=by unfold wrap64;omega
def TheInt (w:World) (z:Nat) (e:Ending) (w':World):Prop:=e= .returned (.int .i64 z)∧Below w.heap.size w w'
def hvT (l:List Tk):Nat:=(l.map fun t=>t.s.size+1).sum
def hvA (a:Ac):Nat:=10+a.path.length+a.s.size+hvT a.v
def hv6 (l:List Ac):Nat:=(l.map hvA).sum
theorem sum_step {α:Type} (f:α→Nat) (l:List α) (j:Nat) (h:j<l.length):((l.take (j+1)).map f).sum=((l.take j).map f).sum+f l[j] :=by
  rw [take_snoc l j h,List.map_append,List.sum_append]
  simp
theorem sum_part {α:Type} (f:α→Nat) (l:List α) (j:Nat):((l.take j).map f).sum≤(l.map f).sum:=by
  induction l generalizing j with
  |nil=>simp
  | cons a r ih=>
    cases j with
    |zero=>simp
    |succ j=>have:=ih j;simp only [List.take_succ_cons,List.map_cons,List.sum_cons];omega
theorem sum_mem {α:Type} (f:α→Nat) (l:List α) (j:Nat) (h:j<l.length):((l.take j).map f).sum+f l[j] ≤(l.map f).sum:=by
  rw [←sum_step f l j h];exact sum_part f l (j+1)
theorem hvT_step (l:List Tk) (j:Nat) (h:j<l.length):hvT (l.take (j+1))=hvT (l.take j)+(l[j].s.size+1):=sum_step _ l j h
theorem hvT_mem (l:List Tk) (j:Nat) (h:j<l.length):hvT (l.take j)+(l[j].s.size+1)≤hvT l:=sum_mem (fun t:Tk=>t.s.size+1) l j h
theorem hv6_step (l:List Ac) (j:Nat) (h:j<l.length):hv6 (l.take (j+1))=hv6 (l.take j)+hvA l[j] :=sum_step _ l j h
theorem hv6_mem (l:List Ac) (j:Nat) (h:j<l.length):hv6 (l.take j)+hvA l[j] ≤hv6 l:=sum_mem hvA l j h
theorem IsAct.parts {w:World} {B:Nat} {x:Ac} {c:AC} (h:IsAct w B x c):hvA x=10+c.pl+c.s.size+hvT x.v∧c.vl=x.v.length∧c.s.size≤140737488355328:=by
  cases h with
  |mk c p v hb hp hv=>exact ⟨by rw [hvA,hp.len],hv.len,hb.s1⟩
set_option maxHeartbeats 8000000 in
set_option maxRecDepth 100000 in
theorem heavy06_the (w:World) (l:List Ac) (a:Option Addr) (n c:Nat) (hl:IsActs w w.heap.size l a n c) (hz:hv6 l≤1099511627776):
    Calls Tryz.prog 13 #[.slice a n c] w (TheInt w (hv6 l)):=by
  have hmax:=hl.max;have hcap:=hl.cap
  have HZ:=Lib.hid hz
  have HL:=Lib.hid hl
  clear hl hz
  obtain ⟨R,hR⟩:∃R,TheInt w (hv6 l)=R:=⟨_,rfl⟩
  rw [hR]
  have HR:=Lib.hid hR
  clear hR
  go_enter Tryz.func13,Tryz.ntmps13
  go_wp2_with fail
  go_loopg [3,4,5] n (fun gh z i _ wr=>∃(x:Int) (j:Nat),j≤n∧gh=n - j∧z= .int .i64 x∧i= .int .i64 j∧Below w.heap.size w wr∧Hid (x=hv6 (l.take j)))
  case atStart=>exact ⟨0,0,Nat.zero_le _,rfl,rfl,rfl,Below.refl _ _,Lib.hid (by simp [hv6])⟩
  case round=>
    obtain ⟨x,j,hj,rfl,rfl,rfl,hbl,HX⟩:=hrel
    obtain ⟨w1,hw1⟩:∃w1,w1=wr:=⟨_,rfl⟩
    subst hw1
    have HBL:=Lib.hid hbl
    clear hbl
    by_cases hlt:j<n
    · obtain ⟨b,q,f,hpl,rfl,hbB,hat,hia⟩:=HL.out.get hlt
      have hat1:=hat.keep HBL.out hbB
      have s0:=hat1.c0;have s5:=hat1.c5;have s6:=hat1.c6
      have hv:=hia.toks
      have HV:=Lib.hid hv
      have HP:=Lib.hid hia.parts
      have hvm:=hv.max;have hvc:=hv.cap
      have HM:=Lib.hid (hv6_mem l j hpl)
      have HS:=Lib.hid (hv6_step l j hpl)
      have HAT:=Lib.hid hat
      have hbw:b<w1.heap.size:=World.block_lt_of_cell? w1 _ s0
      clear hat hat1 hia hv
      go_wp2_with fail
      go_quiet (fail)
      go_wp2_with fail
      go_loopg [3,5] f.vl (fun gh z k wr=>∃(x:Int) (t:Nat),t≤f.vl∧gh=f.vl - t∧z= .int .i64 x∧k= .int .i64 t∧Below w.heap.size w wr∧Hid (x=hv6 (l.take j)+10+f.pl+f.s.size+hvT ((l[j]'hpl).v.take t)))
      case atStart=>exact ⟨_,0,Nat.zero_le _,rfl,rfl,rfl,HBL.out.trans ((below_drewN _ _).mono HBL.out.size),Lib.hid (by
        have h1:=HX.out;have h2:=HM.out;have h3:=HZ.out;have h4:=HP.out
        rw [h4.1] at h2
        rw [show hvT ((l[j]'hpl).v.take 0)=0 from rfl]
        clear HX HM HZ HP HS HL HV HAT HBL HR
        rw [wrap64_of (x:=10+(f.pl:Int)) (by omega) (by omega),wrap64_of (x:=10+(f.pl:Int)+(f.s.size:Int)) (by omega) (by omega),wrap64_of (by omega) (by omega)]
        omega)⟩
      case round=>
        obtain ⟨y,t,ht,rfl,rfl,rfl,hbl,HY⟩:=hrel
        have hat1:=HAT.out.keep hbl hbB
        clear s0 s5 s6 hbw
        have s6:=hat1.c6
        have hbw:b<wr.heap.size:=World.block_lt_of_cell? wr _ s6
        have HBL2:=Lib.hid hbl
        clear hat1 hbl
        by_cases htl:t<f.vl
        · obtain ⟨b2,q2,hp2,hva,hb2,htk,_⟩:=HV.out.get htl
          have htk1:=htk.keep HBL2.out hb2
          have t2:=htk1.c2
          rw [hva] at s6
          have hb2w:b2<wr.heap.size:=World.block_lt_of_cell? wr _ t2
          clear htk htk1 hva
          have HT:=Lib.hid (hvT_mem _ t hp2)
          have HT2:=Lib.hid (hvT_step _ t hp2)
          go_wp2_with fail
          go_roundg (f.vl - (t+1))
          case measure=>omega
          case rel=>exact ⟨_,t+1,by omega,rfl,rfl,by go_num,HBL2.out,Lib.hid (by
            have h1:=HY.out;have h2:=HM.out;have h3:=HZ.out;have h4:=HP.out;have h5:=HT.out;have h6:=HT2.out
            rw [h4.1] at h2
            rw [h6]
            clear HX HM HZ HP HS HL HV HAT HBL HR HT HT2 HY HBL2
            rw [wrap64_of (x:=1+((l[j]'hpl).v[t].s.size:Int)) (by omega) (by omega),wrap64_of (by omega) (by omega)]
            omega)⟩
        · go_wp2_with fail
          go_roundg (n - (j+1))
          case measure=>omega
          case rel=>exact ⟨_,j+1,by omega,rfl,rfl,by go_num,HBL2.out,Lib.hid (by
            have h1:=HY.out;have h4:=HP.out;have h6:=HS.out
            have h7:(l[j]'hpl).v.take t=(l[j]'hpl).v:=List.take_of_length_le (by omega)
            rw [h7] at h1
            rw [h6,h4.1]
            omega)⟩
    · go_wp2_with fail
      rw [←HR.out]
      exact ⟨by
        have h1:=HX.out
        have h2:l.take j=l:=List.take_of_length_le (by have:=HL.out.len;omega)
        rw [h2] at h1
        rw [h1];rfl,HBL.out⟩
end Go.Proofs.YtgcfhkceejcliaaGreatDoor
namespace Go.Proofs.YtgcfhkceejcliaaGreatDoor
open Go.RowKit
def hvP (p:List St):Nat:=(p.map fun s=>s.key.size).sum
def hvB (b:Ba):Nat:=10+b.s.size+b.key.size+b.path.length+hvP b.path+hvT b.v
def hvO (l:List Ba):Nat:=(l.map hvB).sum
def hv10 (x:Rc):Nat:=hv6 x.acts+hvT x.v+hvO x.op
theorem hvP_step (l:List St) (j:Nat) (h:j<l.length):hvP (l.take (j+1))=hvP (l.take j)+l[j].key.size:=sum_step _ l j h
theorem hvP_mem (l:List St) (j:Nat) (h:j<l.length):hvP (l.take j)+l[j].key.size≤hvP l:=sum_mem (fun s:St=>s.key.size) l j h
theorem hvO_step (l:List Ba) (j:Nat) (h:j<l.length):hvO (l.take (j+1))=hvO (l.take j)+hvB l[j] :=sum_step _ l j h
theorem hvO_mem (l:List Ba) (j:Nat) (h:j<l.length):hvO (l.take j)+hvB l[j] ≤hvO l:=sum_mem hvB l j h
theorem IsBare.parts {w:World} {B:Nat} {x:Ba} {c:BA} (h:IsBare w B x c):hvB x=10+c.s.size+c.key.size+c.pl+hvP x.path+hvT x.v∧c.vl=x.v.length∧c.pl=x.path.length:=by
  cases h with
  |mk c p v hb hp hv=>exact ⟨by rw [hvB,hp.len],hv.len,hp.len⟩
set_option maxHeartbeats 16000000 in
set_option maxRecDepth 100000 in
theorem heavy10_the (w:World) (c:RC) (x:Rc) (h:IsRec w w.heap.size x c) (hz:hv10 x≤1099511627776):
    Calls Tryz.prog 5 #[.agg #[.int .u8 c.k, .int .u32 c.src, .int .u32 c.seq, .slice c.va c.vl c.vc, .slice c.oa c.ol c.oc, .slice c.aa c.al c.ac, .bool c.snd]] w (TheInt w (hv10 x)):=by
  cases h with
  |mk _ tl bs acs hbd hv ho ha=>
  obtain ⟨R,hR⟩:∃R,TheInt w (hv10 ⟨c.k,c.src,c.seq,tl,bs,acs,c.snd⟩)=R:=⟨_,rfl⟩
  rw [hR]
  have HR:=Lib.hid hR
  have hz6:hv6 acs+hvT tl+hvO bs≤1099511627776:=hz
  have HZ:Hid (hv6 acs+hvT tl+hvO bs≤1099511627776):=Lib.hid hz6
  have HTL:=Lib.hid hv.len
  have HOL:=Lib.hid ho.len
  have hal:Below w.heap.size w (w.alloc (.cells #[.int .u8 c.k, .int .u32 c.src, .int .u32 c.seq, .slice c.va c.vl c.vc, .slice c.oa c.ol c.oc, .slice c.aa c.al c.ac, .bool c.snd] 27)):=(Below.refl _ _).alloc (Nat.le_refl _) _
  have HD:=Lib.hid (show BC (w.alloc (.cells #[.int .u8 c.k, .int .u32 c.src, .int .u32 c.seq, .slice c.va c.vl c.vc, .slice c.oa c.ol c.oc, .slice c.aa c.al c.ac, .bool c.snd] 27)) w.heap.size (rcells c) from BC.start w #[.int .u8 c.k, .int .u32 c.src, .int .u32 c.seq, .slice c.va c.vl c.vc, .slice c.oa c.ol c.oc, .slice c.aa c.al c.ac, .bool c.snd] 27)
  have HAL:=Lib.hid hal
  have HH:Hid (∀W,Below w.heap.size w W→Calls Tryz.prog 13 #[.slice c.aa c.al c.ac] W (TheInt W (hv6 acs))):=fun W hW=>heavy06_the W acs _ _ _ (ha.later_ hW) (by omega)
  have m1:=hv.max;have m2:=hv.cap;have m3:=ho.max;have m4:=ho.cap
  have HV:=Lib.hid hv;have HO:=Lib.hid ho
  clear hR hal hv ho ha hbd hz hz6
  go_enter Tryz.func5,Tryz.ntmps5
  go_wp2_with fail
  refine (HH.out _ HAL.out).mono ?_
  rintro e w1 ⟨rfl,hb1⟩
  obtain ⟨z0,hz0⟩:∃z0:Int,z0=(hv6 acs:Int):=⟨_,rfl⟩
  rw [←hz0]
  have HZ0:=Lib.hid hz0
  clear hz0
  have D:=HD.out.keep hb1 (by simp)
  have hbw:Below w.heap.size w w1:=HAL.out.trans (hb1.mono (by simp))
  have HB:=Lib.hid hbw
  have HD1:=Lib.hid D
  have HV1:=Lib.hid (HV.out.keep hbw)
  have HO1:=Lib.hid (HO.out.keep hbw)
  have zs:w.heap.size<w1.heap.size:=D.lt
  clear hb1 hbw D
  go_upto_block 0 with fail
  go_wp2_with fail
  go_loopg [3,4] c.vl (fun gh z i wr=>∃(x:Int) (j:Nat),j≤c.vl∧gh=c.vl - j∧z= .int .i64 x∧i= .int .i64 j∧Below w1.heap.size w1 wr∧Hid (x=hv6 acs+hvT (tl.take j)))
  case atStart=>exact ⟨z0,0,Nat.zero_le _,rfl,rfl,rfl,Below.refl _ _,Lib.hid (by rw [HZ0.out];simp [hvT])⟩
  case round =>
    obtain ⟨y,j,hj,rfl,rfl,rfl,hbl,HX⟩:=hrel
    obtain ⟨wu,hwu⟩:∃wu,wu=wr:=⟨_,rfl⟩
    subst hwu
    have D:=HD1.out.keep hbl zs
    have q3:=D.at_ 3 _ rfl;have q4:=D.at_ 4 _ rfl
    have zu:=D.lt
    have HBL:=Lib.hid hbl
    clear hbl D
    by_cases hlt:j<c.vl
    · obtain ⟨b2,q2,hp2,hva,hb2,htk,_⟩:=HV1.out.get hlt
      have htk1:=htk.keep HBL.out (by omega)
      have t2:=htk1.c2
      rw [hva] at q3
      have hb2w:b2<wu.heap.size:=World.block_lt_of_cell? wu _ t2
      clear htk htk1 hva
      have HM:=Lib.hid (hvT_mem tl j hp2);have HS:=Lib.hid (hvT_step tl j hp2)
      go_wp2_with fail
      go_roundg (c.vl - (j+1))
      case measure=>omega
      case rel=>exact ⟨_,j+1,by omega,rfl,rfl,by go_num,HBL.out,Lib.hid (by
        have h1:=HX.out;have h2:=HM.out;have h3:=HZ.out;have h6:=HS.out
        rw [h6]
        clear HX HM HS HZ HR HV HO
        rw [wrap64_of (x:=((tl[j]'hp2).s.size:Int)+1) (by omega) (by omega),wrap64_of (by omega) (by omega)]
        omega)⟩
    · skip
      go_wp2_with fail
      go_loopg [3,5,6,7] c.ol (fun gh z i _ _ wr=>∃(x:Int) (j:Nat),j≤c.ol∧gh=c.ol - j∧z= .int .i64 x∧i= .int .i64 j∧Below w1.heap.size w1 wr∧Hid (x=hv6 acs+hvT tl+hvO (bs.take j)))
      case atStart=>exact ⟨_,0,Nat.zero_le _,rfl,rfl,rfl,HBL.out,Lib.hid (by
        have h1:=HX.out
        have h2:tl.take j=tl:=List.take_of_length_le (by have:=HTL.out;omega)
        rw [h2] at h1
        rw [h1];simp [hvO])⟩
      case round =>
        obtain ⟨y,j,hj,rfl,rfl,rfl,hbl,HX2⟩:=hrel
        obtain ⟨wv,hwv⟩:∃wv,wv=wr:=⟨_,rfl⟩
        subst hwv
        have D:=HD1.out.keep hbl zs
        have q4:=D.at_ 4 _ rfl
        have zu:=D.lt
        have HBL:=Lib.hid hbl
        clear hbl D
        by_cases hlt:j<c.ol
        · obtain ⟨b,q,f,hpl,hoa,hbB,hat,hia⟩:=HO1.out.get hlt
          have hat1:=hat.keep HBL.out (by omega)
          have s1:=hat1.c1;have s2:=hat1.c2;have s6:=hat1.c6;have s7:=hat1.c7
          have hbw:b<wv.heap.size:=World.block_lt_of_cell? wv _ s1
          have hst:=hia.steps;have hvv:=hia.toks
          have HP:=Lib.hid hia.parts
          have HM:=Lib.hid (hvO_mem bs j hpl);have HS:=Lib.hid (hvO_step bs j hpl)
          have n1:=hst.max;have n2:=hst.cap;have n3:=hvv.max;have n4:=hvv.cap
          rw [hoa] at q4
          have HOA:=Lib.hid hoa
          have HST:=Lib.hid hst;have HVV:=Lib.hid hvv;have HAT:=Lib.hid hat
          clear hat hat1 hia hst hvv hoa
          go_wp2_with fail
          go_quiet (fail)
          have hbq:∀k,Below w1.heap.size w1 (wv.drewN k):=fun k=>HBL.out.trans ((below_drewN wv k).mono HBL.out.size)
          have HBQ:=Lib.hid hbq
          clear hbq
          go_wp2_with fail
          go_loopg [3,6] f.pl (fun gh z i wr=>∃(x:Int) (k:Nat),k≤f.pl∧gh=f.pl - k∧z= .int .i64 x∧i= .int .i64 k∧Below w1.heap.size w1 wr∧Hid (x=hv6 acs+hvT tl+hvO (bs.take j)+10+f.s.size+f.key.size+f.pl+hvP ((bs[j]'hpl).path.take k)))
          case atStart=>exact ⟨_,0,Nat.zero_le _,rfl,rfl,rfl,HBQ.out _,Lib.hid (by
            have h1:=HX2.out;have h2:=HM.out;have h3:=HZ.out;have h4:=HP.out
            rw [h4.1] at h2
            rw [show hvP ((bs[j]'hpl).path.take 0)=0 from rfl]
            clear HX2 HM HZ HP HS HR HV HO
            rw [wrap64_of (x:=10+(f.s.size:Int)) (by omega) (by omega),wrap64_of (x:=10+(f.s.size:Int)+(f.key.size:Int)) (by omega) (by omega),wrap64_of (x:=10+(f.s.size:Int)+(f.key.size:Int)+(f.pl:Int)) (by omega) (by omega),wrap64_of (by omega) (by omega)]
            omega)⟩
          case round=>
            obtain ⟨y2,k,hk,rfl,rfl,rfl,hbl,HX3⟩:=hrel
            obtain ⟨wx,hwx⟩:∃wx,wx=wr:=⟨_,rfl⟩
            subst hwx
            have D:=HD1.out.keep hbl zs
            have q4:=D.at_ 4 _ rfl
            rw [HOA.out] at q4
            have zu:=D.lt
            have hat1:=HAT.out.keep hbl (by omega)
            have s1:=hat1.c1;have s7:=hat1.c7
            have hbw:b<wx.heap.size:=World.block_lt_of_cell? wx _ s1
            have HBL3:=Lib.hid hbl
            clear hbl D hat1
            by_cases hkl:k<f.pl
            · obtain ⟨b3,q3,hp3,hpa,hb3,hsp,_⟩:=HST.out.get hkl
              have hsp1:=hsp.keep HBL3.out (by omega)
              have u2:=hsp1.c2
              rw [hpa] at s1
              have hb3w:b3<wx.heap.size:=World.block_lt_of_cell? wx _ u2
              clear hsp hsp1 hpa
              have HT:=Lib.hid (hvP_mem _ k hp3);have HT2:=Lib.hid (hvP_step _ k hp3)
              go_wp2_with fail
              go_roundg (f.pl - (k+1))
              case measure=>omega
              case rel=>exact ⟨_,k+1,by omega,rfl,rfl,by go_num,HBL3.out,Lib.hid (by
                have h1:=HX3.out;have h2:=HM.out;have h3:=HZ.out;have h4:=HP.out;have h5:=HT.out;have h6:=HT2.out
                rw [h4.1] at h2
                rw [h6]
                clear HX2 HX3 HM HZ HP HS HR HV HO HT HT2
                rw [wrap64_of (by omega) (by omega)]
                omega)⟩
            · skip
              go_wp2_with fail
              go_loopg [3,7] f.vl (fun gh z i wr=>∃(x:Int) (t:Nat),t≤f.vl∧gh=f.vl - t∧z= .int .i64 x∧i= .int .i64 t∧Below w1.heap.size w1 wr∧Hid (x=hv6 acs+hvT tl+hvO (bs.take j)+10+f.s.size+f.key.size+f.pl+hvP (bs[j]'hpl).path+hvT ((bs[j]'hpl).v.take t)))
              case atStart=>exact ⟨_,0,Nat.zero_le _,rfl,rfl,rfl,HBL3.out,Lib.hid (by
                have h1:=HX3.out;have h4:=HP.out
                have h2:(bs[j]'hpl).path.take k=(bs[j]'hpl).path:=List.take_of_length_le (by omega)
                rw [h2] at h1
                rw [h1,show hvT ((bs[j]'hpl).v.take 0)=0 from rfl];omega)⟩
              case round=>
                obtain ⟨y3,t,ht,rfl,rfl,rfl,hbl,HX4⟩:=hrel
                have D:=HD1.out.keep hbl zs
                have q4:=D.at_ 4 _ rfl
                rw [HOA.out] at q4
                have zw:=D.lt
                have hat1:=HAT.out.keep hbl (by omega)
                have s7:=hat1.c7
                have hbw2:b<wr.heap.size:=World.block_lt_of_cell? wr _ s7
                have HBL4:=Lib.hid hbl
                clear hbl D hat1
                by_cases htl:t<f.vl
                · obtain ⟨b4,q5,hp4,hva,hb4,htk,_⟩:=HVV.out.get htl
                  have htk1:=htk.keep HBL4.out (by omega)
                  have t2:=htk1.c2
                  rw [hva] at s7
                  have hb4w:b4<wr.heap.size:=World.block_lt_of_cell? wr _ t2
                  clear htk htk1 hva
                  have HT:=Lib.hid (hvT_mem _ t hp4);have HT2:=Lib.hid (hvT_step _ t hp4)
                  go_wp2_with fail
                  go_roundg (f.vl - (t+1))
                  case measure=>omega
                  case rel=>exact ⟨_,t+1,by omega,rfl,rfl,by go_num,HBL4.out,Lib.hid (by
                    have h1:=HX4.out;have h2:=HM.out;have h3:=HZ.out;have h4:=HP.out;have h5:=HT.out;have h6:=HT2.out
                    rw [h4.1] at h2
                    rw [h6]
                    clear HX2 HX3 HX4 HM HZ HP HS HR HV HO HT HT2
                    rw [wrap64_of (x:=(((bs[j]'hpl).v[t]'hp4).s.size:Int)+1) (by omega) (by omega),wrap64_of (by omega) (by omega)]
                    omega)⟩
                · go_wp2_with fail
                  go_roundg (c.ol - (j+1))
                  case measure=>omega
                  case rel=>exact ⟨_,j+1,by omega,rfl,rfl,by go_num,HBL4.out,Lib.hid (by
                    have h1:=HX4.out;have h4:=HP.out;have h6:=HS.out
                    have h7:(bs[j]'hpl).v.take t=(bs[j]'hpl).v:=List.take_of_length_le (by omega)
                    rw [h7] at h1
                    rw [h6,h4.1]
                    omega)⟩
        · go_wp2_with fail
          rw [←HR.out]
          exact ⟨by
            have h1:=HX2.out
            have h2:bs.take j=bs:=List.take_of_length_le (by have:=HOL.out;omega)
            rw [h2] at h1
            rw [h1];rfl,HB.out.trans (HBL.out.mono HB.out.size)⟩
end Go.Proofs.YtgcfhkceejcliaaGreatDoor
namespace Go.Proofs.YtgcfhkceejcliaaGreatDoor
open Go.RowKit
structure RawW (v:V) (u:Nat):Prop where
  str:v.str.size≤140737488355328
  wt:u≠0→v.weight+140737488355328≤281474976710657*u
  low:u=0→v=V.none
theorem raw_R {f:List Tk→V×Nat} (hf:∀l,(∀t ∈ l,t.s.size≤140737488355328)→RawW (f l).1 (f l).2) (l:List Tk) (hl:∀t ∈ l,t.s.size≤140737488355328):∀j,1≤(fR f l j).2.1∧weightL (fR f l j).1+281474976710657≤281474976710657*(fR f l j).2.1∧weightO ((fR f l j).1.map fun x=>(x.str,x))+281474976710657≤281474976710657*(fR f l j).2.1:=by
  intro j
  induction j with
  |zero=>simp [fR,weightL,weightO]
  | succ j ih=>
    rw [fR]
    split
    · exact ih
    · split
      · exact ih
      · rename_i h1 h2
        have hb:=hf (l.drop (fR f l j).2.1) (fun t ht=>hl t (List.mem_of_mem_drop ht))
        have hs:=hb.str
        have hw:=hb.wt h2
        obtain ⟨a,b,c⟩:=ih
        dsimp only
        rw [weightL_append,List.map_append,weightO_append]
        simp only [weightL,List.map_cons,List.map_nil,weightO,weightF_eq]
        refine ⟨by omega, ?_, ?_⟩<;>(rw [Nat.mul_add];omega)
theorem rawP_wt (d:Nat):∀l,(∀t ∈ l,t.s.size≤140737488355328)→RawW (rawP d l).1 (rawP d l).2:=by
  induction d with
  | zero=>
    intro l hl
    cases l with
    |nil=>exact ⟨by simp [rawP,V.none,V.str],by simp [rawP],fun _=>rfl⟩
    | cons t r=>
      have:=hl t (by simp)
      exact ⟨by simp [rawP,V.str];omega,by simp [rawP,V.weight,weightL,weightO];omega,by simp [rawP]⟩
  | succ d ih=>
    intro l hl
    cases l with
    |nil=>exact ⟨by simp [rawP,V.none,V.str],by simp [rawP],fun _=>rfl⟩
    | cons t r=>
      have ht:=hl t (by simp)
      obtain ⟨K,hk⟩:∃K,(t.m % 4).toNat=K:=⟨_,rfl⟩
      rw [rawP,hk]
      obtain ⟨h1,h2,h3⟩:=raw_R ih (t::r) hl K
      obtain ⟨p,hp⟩:∃p,fR (rawP d) (t::r) K=p:=⟨_,rfl⟩
      rw [hp] at h1 h2 h3 ⊢
      dsimp only
      rw [rawV]
      split
      · exact ⟨ht,fun _=>by simp only [V.weight,weightO];omega,fun h=>by omega⟩
      · exact ⟨ht,fun _=>by simp only [V.weight,weightL];omega,fun h=>by omega⟩
theorem raw_weight (l:List Tk) (hl:∀t ∈ l,t.s.size≤140737488355328):(rawP 20 (l.take 60)).1.weight≤4611686018427387904:=by
  have h:=rawP_wt 20 (l.take 60) (fun t ht=>hl t (List.mem_of_mem_take ht))
  have hu:=rawP_used 20 (l.take 60)
  rw [List.length_take] at hu
  by_cases h0:(rawP 20 (l.take 60)).2=0
  · rw [h.low h0];simp [V.none,V.weight,weightL,weightO]
  · have:=h.wt h0
    omega
theorem IsToks.sizes {w:World} {B:Nat} {l:List Tk} {a:Option Addr} {n c:Nat} (h:IsToks w B l a n c):∀t ∈ l,t.s.size≤140737488355328:=by
  obtain ⟨_,_,_,b,o,_,h6⟩:=h
  intro t ht
  obtain ⟨i,hi,rfl⟩:=List.mem_iff_getElem.1 ht
  exact (h6 i hi).2.s1
end Go.Proofs.YtgcfhkceejcliaaGreatDoor
