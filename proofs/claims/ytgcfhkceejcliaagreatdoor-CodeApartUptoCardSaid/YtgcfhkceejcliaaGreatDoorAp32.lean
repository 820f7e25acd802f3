/-
  Contracts of the functions that the law reaches: conciliatorlaw06.Comp: a component as it is given. conciliatorlaw06.Aim: components that may be done to a value, one behind the other. conciliatorlaw10.Entry: what stands in memory while it runs.
-/
import Derived.Test.YtgcfhkceejcliaaGreatDoorAp31
import Derived.Test.YtgcfhkceejcliaaGreatDoorAp4
import Derived.Deep.CutBlock
import Derived.Deep.LoopGhost
namespace Go.Proofs.YtgcfhkceejcliaaGreatDoor
open Go.RowKit
theorem two_boxes (w:World) (a1 a2:Array Value) (t1 t2:TypeId):BC ((w.alloc (.cells a1 t1)).alloc (.cells a2 t2)) w.heap.size a1.toList∧BC ((w.alloc (.cells a1 t1)).alloc (.cells a2 t2)) (w.heap.size+1) a2.toList∧Below w.heap.size w ((w.alloc (.cells a1 t1)).alloc (.cells a2 t2))∧((w.alloc (.cells a1 t1)).alloc (.cells a2 t2)).heap.size=w.heap.size+1+1:=by
  have b1:Below w.heap.size w (w.alloc (.cells a1 t1)):=(Below.refl _ _).alloc (Nat.le_refl _) _
  have b2:Below (w.alloc (.cells a1 t1)).heap.size (w.alloc (.cells a1 t1)) ((w.alloc (.cells a1 t1)).alloc (.cells a2 t2)):=(Below.refl _ _).alloc (Nat.le_refl _) _
  have c2:=BC.start (w.alloc (.cells a1 t1)) a2 t2
  rw [World.size_alloc] at c2
  exact ⟨(BC.start w a1 t1).keep b2 (by simp),c2,b1.trans (b2.mono (by simp)),by simp⟩
theorem results_craw {tmps:Array Value} {W:World} {b:Nat} {d:CC} (ht:tmps[2]? =some (.pointer (some ⟨b,0,none⟩))) (h:BC W b (ccells d)):
    (results Tryz.f19 tmps).run Tryz.prog W= .ok (.agg #[.int .u8 d.k, .slice d.pa d.pl d.pc, .string d.key, .int .i64 d.i, .int .i64 d.j, .int .i64 d.n, .int .u8 d.v.k, .int .i64 d.v.n, .string d.v.s, .slice d.v.la d.v.ll d.v.lc, .slice d.v.oa d.v.ol d.v.oc, .string d.s]) W:=by
  obtain ⟨r0,r1,r2,r3,r4,r5,r6,r7,r8,r9,r10,r11⟩:=row12 h.at_
  simp [results,Tryz.results19,go_sem,ht,r0,r1,r2,r3,r4,r5,r6,r7,r8,r9,r10,r11]
theorem isSteps_part {w:World} {B0:Nat} {Q:Nat→Prop} {p:List St} {a:Option Addr} {n c:Nat} (h:IsSteps w B0 p a n c):IsSteps (only (fun k=>k<B0∨Q k) w) B0 p a n c:=
  h.sub fun _ _ _ hb hc=>only_cell' (.inl hb) hc
def CompPost (w:World) (B0:Nat) (x:Cm) (e:Ending) (w':World):Prop:=
  (∃cc:CC,e= .returned (.agg #[.int .u8 cc.k, .slice cc.pa cc.pl cc.pc, .string cc.key, .int .i64 cc.i, .int .i64 cc.j, .int .i64 cc.n, .int .u8 cc.v.k, .int .i64 cc.v.n, .string cc.v.s, .slice cc.v.la cc.v.ll cc.v.lc, .slice cc.v.oa cc.v.ol cc.v.oc, .string cc.s])∧IsComp (only (fun k=>k<B0∨w.heap.size≤k) w') w'.heap.size x cc)∧Below w.heap.size w w'
set_option maxHeartbeats 8000000 in
set_option maxRecDepth 100000 in
theorem compRaw_any (w:World) (B0:Nat) (hB0:B0≤w.heap.size) (c:BA) (x:Ba) (h:IsBare w B0 x c):
    Calls Tryz.prog 19 #[.agg #[.int .u8 c.k, .slice c.pa c.pl c.pc, .string c.key, .int .i64 c.i, .int .i64 c.j, .int .i64 c.n, .string c.s, .slice c.va c.vl c.vc]] w (CompPost w B0 (compP x)):=by
  cases h with
  |mk _ p v hbd hp hv=>
  obtain ⟨R,hR⟩:∃R,CompPost w B0 (compP ⟨c.k,p,c.key,c.i,c.j,c.n,c.s,v⟩)=R:=⟨_,rfl⟩
  rw [hR]
  have HR:=Lib.hid hR
  obtain ⟨wr,hwr⟩:∃wr,((w.alloc (.cells #[.int .u8 c.k, .slice c.pa c.pl c.pc, .string c.key, .int .i64 c.i, .int .i64 c.j, .int .i64 c.n, .string c.s, .slice c.va c.vl c.vc] 54)).alloc (.cells #[.int .u8 0, .slice none 0 0, .string { data:= #[] }, .int .i64 0, .int .i64 0, .int .i64 0, .int .u8 0, .int .i64 0, .string { data:= #[] }, .slice none 0 0, .slice none 0 0, .string { data:= #[] }] 63))=wr:=⟨_,rfl⟩
  obtain ⟨d1,d2,hb,hz⟩:=two_boxes w #[.int .u8 c.k, .slice c.pa c.pl c.pc, .string c.key, .int .i64 c.i, .int .i64 c.j, .int .i64 c.n, .string c.s, .slice c.va c.vl c.vc] #[.int .u8 0, .slice none 0 0, .string { data:= #[] }, .int .i64 0, .int .i64 0, .int .i64 0, .int .u8 0, .int .i64 0, .string { data:= #[] }, .slice none 0 0, .slice none 0 0, .string { data:= #[] }] 54 63
  rw [hwr] at d1 d2 hb hz
  have HRW:Hid (∀W,Below wr.heap.size wr.drew W→Calls Tryz.prog 16 #[.slice c.va c.vl c.vc] W fun e w'=>(∃cv:VC,e= .returned (.agg #[.int .u8 cv.k, .int .i64 cv.n, .string cv.s, .slice cv.la cv.ll cv.lc, .slice cv.oa cv.ol cv.oc])∧IsVal (only (fun b=>W.heap.size≤b) w') w'.heap.size (rawP 20 (v.take 60)).1 cv)∧Below W.heap.size W w'):=fun W hW=>rawF_own W v _ _ _ ((hv.more hB0).later_ ((hb.trans ((drew_below wr).mono (by omega))).trans (hW.mono (by omega))))
  have HFB:Hid (∀W,Below (w.heap.size+1) wr.drew W→W.cell? ⟨w.heap.size,0,none⟩=some (.int .u8 c.k)∧W.cell? ⟨w.heap.size,1,none⟩=some (.slice c.pa c.pl c.pc)∧W.cell? ⟨w.heap.size,2,none⟩=some (.string c.key)∧W.cell? ⟨w.heap.size,3,none⟩=some (.int .i64 c.i)∧W.cell? ⟨w.heap.size,4,none⟩=some (.int .i64 c.j)∧W.cell? ⟨w.heap.size,5,none⟩=some (.int .i64 c.n)∧W.cell? ⟨w.heap.size,6,none⟩=some (.string c.s)∧W.cell? ⟨w.heap.size,7,none⟩=some (.slice c.va c.vl c.vc)):=by
    intro W hW
    have hk:∀o u,wr.cell? ⟨w.heap.size,o,none⟩=some u→W.cell? ⟨w.heap.size,o,none⟩=some u:=fun o u h=>keep_cell hW (keep_cell (drew_below wr) h (by omega)) (by omega)
    exact ⟨hk _ _ (d1.at_ 0 _ rfl),hk _ _ (d1.at_ 1 _ rfl),hk _ _ (d1.at_ 2 _ rfl),hk _ _ (d1.at_ 3 _ rfl),hk _ _ (d1.at_ 4 _ rfl),hk _ _ (d1.at_ 5 _ rfl),hk _ _ (d1.at_ 6 _ rfl),hk _ _ (d1.at_ 7 _ rfl)⟩
  have HD2:=Lib.hid (show BC wr.drew (w.heap.size+1) (ccells czero) from d2.keep (drew_below wr) (by omega))
  have HB:=Lib.hid hb
  have zs:w.heap.size<wr.heap.size:=by omega
  have zt:w.heap.size+1<wr.heap.size:=by omega
  have HZ:=Lib.hid hz
  have HP:=Lib.hid hp
  have HBD:=Lib.hid hbd
  have HWR:=Lib.hid hwr
  clear hwr d1 d2 hb hz hv hp hbd hR
  go_enter Tryz.func19,Tryz.ntmps19
  generalize hQ0:bodyPost _ _ _=Q0
  have HQ:=Lib.hid hQ0
  clear hQ0
  go_upto_region 1 with fail
  rw [HWR.out]
  clear HWR
  go_wp2_with fail
  refine wp_region_noPanic ?_
  go_region_held_law (fun W=>W.cell? ⟨w.heap.size,0,none⟩=some (.int .u8 c.k)∧W.cell? ⟨w.heap.size,1,none⟩=some (.slice c.pa c.pl c.pc)∧W.cell? ⟨w.heap.size,2,none⟩=some (.string c.key)∧W.cell? ⟨w.heap.size,3,none⟩=some (.int .i64 c.i)∧W.cell? ⟨w.heap.size,4,none⟩=some (.int .i64 c.j)∧W.cell? ⟨w.heap.size,5,none⟩=some (.int .i64 c.n)∧W.cell? ⟨w.heap.size,6,none⟩=some (.string c.s)∧W.cell? ⟨w.heap.size,7,none⟩=some (.slice c.va c.vl c.vc))
    ((refine HFB.out _ ?_;(first|(with_reducible exact bl4)|(with_reducible exact Below.refl _ _)|(with_reducible exact Below.setC bl4 (Nat.le_refl _) ⟨c.k,c.pa,c.pl,c.pc,c.key,c.i,c.j,c.n,cv,c.s⟩))))
    (first|(go_at_call 16;(with_reducible refine (HRW.out _ (Below.refl _ _)).mono ?_);rintro e w4 ⟨⟨cv,rfl,hI⟩,hb4⟩;have HI:=Lib.hid hI;clear hI;have HB4:=Lib.hid hb4;have bl4:Below (w.heap.size+1) wr.drew w4:=hb4.mono (Nat.le_of_lt zt);clear hb4;have XB:=HD2.out.keep HB4.out zt;obtain ⟨xc0,xc1,xc2,xc3,xc4,xc5,xc6,xc7,xc8,xc9,xc10,xc11⟩:=row12 XB.at_;have xg0:=XB.fr 0;have xg1:=XB.fr 1;have xg2:=XB.fr 2;have xg3:=XB.fr 3;have xg4:=XB.fr 4;have xg5:=XB.fr 5;have xg6:=XB.fr 6;have xg7:=XB.fr 7;have xg8:=XB.fr 8;have xg9:=XB.fr 9;have xg10:=XB.fr 10;have xg11:=XB.fr 11;have xl:=XB.lt))
  all_goals
    refine NoPanic.normal ?_
    have HXB:=Lib.hid XB
    clear XB
    go_wp2_with fail
    rw [←HQ.out, ←HR.out]
    have st:=setC_st w4 (w.heap.size+1) ⟨c.k,c.pa,c.pl,c.pc,c.key,c.i,c.j,c.n,cv,c.s⟩
    have hbW:Below w.heap.size w w4:=(HB.out.trans ((drew_below wr).mono (Nat.le_of_lt zs))).trans (HB4.out.mono (Nat.le_of_lt zs))
    have hq:=HBD.out
    have hzz:wr.heap.size≤w4.heap.size:=HB4.out.size
    refine ⟨rfl,_,results_craw rfl (bc_storeC (c0:=czero) HXB.out ⟨c.k,c.pa,c.pl,c.pc,c.key,c.i,c.j,c.n,cv,c.s⟩),⟨⟨c.k,c.pa,c.pl,c.pc,c.key,c.i,c.j,c.n,cv,c.s⟩,rfl, ?_⟩,Below.setC hbW (by omega) ⟨c.k,c.pa,c.pl,c.pc,c.key,c.i,c.j,c.n,cv,c.s⟩⟩
    refine .mk ⟨c.k,c.pa,c.pl,c.pc,c.key,c.i,c.j,c.n,cv,c.s⟩ p _ ⟨hq.k0,hq.k1,hq.i0,hq.i1,hq.j0,hq.j1,hq.n0,hq.n1,hq.key1,hq.s1⟩ ?_ ?_
    · have h1:IsSteps (setC w4 (w.heap.size+1) ⟨c.k,c.pa,c.pl,c.pc,c.key,c.i,c.j,c.n,cv,c.s⟩) B0 p c.pa c.pl c.pc:=HP.out.keep ((Below.setC hbW (by omega) ⟨c.k,c.pa,c.pl,c.pc,c.key,c.i,c.j,c.n,cv,c.s⟩).mono hB0)
      have hz2:=st.size
      exact (isSteps_part h1).more (Nat.le_trans (by omega) hz2)
    · exact isVal_S HI.out rfl st.size fun k hk hl=>⟨.inr (by have:=hk;simp at this;omega),st.block k hl (by have:=hk;simp at this;omega)⟩
end Go.Proofs.YtgcfhkceejcliaaGreatDoor
namespace Go.Proofs.YtgcfhkceejcliaaGreatDoor
open Go.RowKit
set_option maxHeartbeats 16000000 in
set_option maxRecDepth 100000 in
theorem aim_any (w:World) (vk vn:Int) (vs:ByteArray) (la:Option Addr) (ll lc:Nat) (oa:Option Addr) (ol oc:Nat) (v:V) (hv:IsVal w w.heap.size v ⟨vk,vn,vs,la,ll,lc,oa,ol,oc⟩) (hw:v.weight≤20000) (l:List Ac) (a:Option Addr) (n c:Nat) (hl:IsActs w w.heap.size l a n c) (hT:Tabs w):
    Calls Tryz.prog 18 #[.agg #[.int .u8 vk, .int .i64 vn, .string vs, .slice la ll lc, .slice oa ol oc], .slice a n c] w (AimPost w (aimP v (l.take 20))):=by
  obtain ⟨i0,hi0,hz0,hz1,hz2⟩:=info_parts ginfoCm
  have hmax:=hl.max;have hcap:=hl.cap
  have HLN:=Lib.hid hl.len
  have HAC:=Lib.hid hl
  obtain ⟨R,hR⟩:∃R,AimPost w (aimP v (l.take 20))=R:=⟨_,rfl⟩
  rw [hR]
  have HR:=Lib.hid hR
  have HS:=Lib.hid (AH.start (t:=33) (l.take 20) hv hw)
  have HT:=Lib.hid hT
  clear hl hv hR hT
  go_enter Tryz.func18,Tryz.ntmps18
  go_wp2_with fail
  go_loopg [5,6,7,8,9,10] 20 (fun gh u i _ _ _ _ wr=>∃(j:Nat) (x:V) (cx:VC) (ua:Option Addr) (m uc:Nat) (xs:List Cm) (cs:List CC),j≤n∧j≤20∧gh=20 - j∧i= .int .i64 j∧u= .slice ua m uc∧m=xs.length∧AH w wr v (l.take 20) j x cx (.slice ua m uc) xs cs)
  case atStart=>exact ⟨0,v,_,none,0,0, [], [],Nat.zero_le _,Nat.zero_le _,rfl,rfl,rfl,rfl,HS.out⟩
  case round =>
    obtain ⟨j,x,cx,ua,m,uc,xs,cs,hj,hj8,rfl,rfl,rfl,hmx,L⟩:=hrel
    obtain ⟨v0,v1,v2,v3,v4⟩:=row5 L.box.at_
    have zs:=L.box.lt
    have hfx:=L.few
    have HL:=Lib.hid L
    have HMX:=Lib.hid hmx
    clear L hmx
    by_cases hcont:j<n∧j<20
    · obtain ⟨hlt,hlt8⟩:=hcont
      obtain ⟨b,q,f,hpl,rfl,hbB,hat,hia⟩:=HAC.out.get hlt
      have hat2:=hat.keep HL.out.below hbB
      obtain ⟨act,hact⟩:∃y,l[j] =y:=⟨_,rfl⟩
      rw [hact] at hia
      have hdr:(l.take 20).drop j=act::(l.take 20).drop (j+1):=by
        have h8:j<(l.take 20).length:=by rw [List.length_take];omega
        rw [List.drop_eq_getElem_cons h8,List.getElem_take,hact]
      have HDR:=Lib.hid hdr
      have hbw:b<wr.heap.size:=World.block_lt_of_cell? wr _ hat2.c0
      have hzb:=HL.out.below.size
      obtain ⟨r,hr⟩:∃r,oneC x act=r:=⟨_,rfl⟩
      have HRR:=Lib.hid hr
      have hwx:x.weight≤20000+20100*20:=Nat.le_trans HL.out.wt (by omega)
      have hval:IsVal wr wr.heap.size x cx:=HL.out.val.sub (shows_only _ _ _)
      have HC:Hid (∀W,Below wr.heap.size wr.drew W→Calls Tryz.prog 42 #[.agg #[.int .u8 cx.k, .int .i64 cx.n, .string cx.s, .slice cx.la cx.ll cx.lc, .slice cx.oa cx.ol cx.oc], .agg #[.slice f.pa f.pl f.pc, .int .u8 f.k, .int .i64 f.i, .int .i64 f.j, .int .i64 f.n, .string f.s, .slice f.va f.vl f.vc]] W (OnePost W r)):=fun W hW=>by
        have hbW:Below wr.heap.size wr W:=(drew_below wr).trans hW
        rw [←hr]
        exact one6_any W cx.k cx.n cx.s cx.la cx.ll cx.lc cx.oa cx.ol cx.oc x (hval.later_ hbW) (by omega) f act ((hia.keep (HL.out.below.trans (hbW.mono hzb))).more (Nat.le_trans hzb hbW.size))
      have HFB:Hid (∀W,Below wr.heap.size wr.drew W→W.cell? ⟨w.heap.size,0,none⟩=some (.int .u8 cx.k)∧W.cell? ⟨w.heap.size,1,none⟩=some (.int .i64 cx.n)∧W.cell? ⟨w.heap.size,2,none⟩=some (.string cx.s)∧W.cell? ⟨w.heap.size,3,none⟩=some (.slice cx.la cx.ll cx.lc)∧W.cell? ⟨w.heap.size,4,none⟩=some (.slice cx.oa cx.ol cx.oc)∧W.cell? ⟨b,q+j*7,none⟩=some (.slice f.pa f.pl f.pc)∧W.cell? ⟨b,q+j*7+1,none⟩=some (.int .u8 f.k)∧W.cell? ⟨b,q+j*7+2,none⟩=some (.int .i64 f.i)∧W.cell? ⟨b,q+j*7+3,none⟩=some (.int .i64 f.j)∧W.cell? ⟨b,q+j*7+4,none⟩=some (.int .i64 f.n)∧W.cell? ⟨b,q+j*7+5,none⟩=some (.string f.s)∧W.cell? ⟨b,q+j*7+6,none⟩=some (.slice f.va f.vl f.vc)):=by
        intro W hW
        have hk:∀b o u,b<wr.heap.size→wr.cell? ⟨b,o,none⟩=some u→W.cell? ⟨b,o,none⟩=some u:=fun b o u hb h=>keep_cell hW (keep_cell (drew_below wr) h hb) hb
        exact ⟨hk _ _ _ zs v0,hk _ _ _ zs v1,hk _ _ _ zs v2,hk _ _ _ zs v3,hk _ _ _ zs v4,hk _ _ _ hbw hat2.c0,hk _ _ _ hbw hat2.c1,hk _ _ _ hbw hat2.c2,hk _ _ _ hbw hat2.c3,hk _ _ _ hbw hat2.c4,hk _ _ _ hbw hat2.c5,hk _ _ _ hbw hat2.c6⟩
      have HVAL:=Lib.hid hval
      have HWX:=Lib.hid hwx
      clear hat hat2 hia hact hdr hr hwx hval
      go_upto_region 5 with fail
      go_cut [7,8] from 11 to 44 (fun c7 c8 wx=>∃(yb:Nat) (cc:CC) (nn:Int),c7= .pointer (some ⟨yb,0,none⟩)∧c8= .int .i64 nn∧BC wx yb (ccells cc)∧Below wr.heap.size wr.drew wx∧wr.heap.size≤yb∧Hid (OneRes wr.heap.size r nn wx cc))
      case first=>
        go_wp2_with fail
        refine wp_region_noPanic ?_
        go_region_held_law (fun W=>W.cell? ⟨w.heap.size,0,none⟩=some (.int .u8 cx.k)∧W.cell? ⟨w.heap.size,1,none⟩=some (.int .i64 cx.n)∧W.cell? ⟨w.heap.size,2,none⟩=some (.string cx.s)∧W.cell? ⟨w.heap.size,3,none⟩=some (.slice cx.la cx.ll cx.lc)∧W.cell? ⟨w.heap.size,4,none⟩=some (.slice cx.oa cx.ol cx.oc)∧W.cell? ⟨b,q+j*7,none⟩=some (.slice f.pa f.pl f.pc)∧W.cell? ⟨b,q+j*7+1,none⟩=some (.int .u8 f.k)∧W.cell? ⟨b,q+j*7+2,none⟩=some (.int .i64 f.i)∧W.cell? ⟨b,q+j*7+3,none⟩=some (.int .i64 f.j)∧W.cell? ⟨b,q+j*7+4,none⟩=some (.int .i64 f.n)∧W.cell? ⟨b,q+j*7+5,none⟩=some (.string f.s)∧W.cell? ⟨b,q+j*7+6,none⟩=some (.slice f.va f.vl f.vc))
          ((refine HFB.out _ ?_;(first|(with_reducible exact bl4)|(with_reducible exact Below.refl _ _)|(with_reducible exact below_draw_alloc _ _)|(with_reducible exact Below.alloc bl4 bz4 _)|(with_reducible exact Below.setC bl4 (Nat.le_refl _) cc))))
          (first
            |(go_at_call 42;(with_reducible refine (HC.out _ (Below.refl _ _)).mono ?_);rintro e w4 h4;obtain ⟨cc,nn,rfl,ho,hb4⟩:=h4.any;clear h4;have HO:=Lib.hid ho;clear ho;have bl4:Below wr.heap.size wr.drew w4:=hb4;have bz4:wr.heap.size≤w4.heap.size:=hb4.size)
            |(go_at_call 42;(with_reducible refine (HC.out _ (below_draw_alloc _ _)).mono ?_);rintro e w4 h4;obtain ⟨cc,nn,rfl,ho,hb4⟩:=h4.any;clear h4;have HO:=Lib.hid ho;clear ho;have bl4:Below wr.heap.size wr.drew w4:=(below_draw_alloc _ _).trans (hb4.mono (by simp));have bz4:wr.heap.size≤w4.heap.size:=bl4.size;have XB:=bc_new_drew hb4;obtain ⟨xc0,xc1,xc2,xc3,xc4,xc5,xc6,xc7,xc8,xc9,xc10,xc11⟩:=row12 XB.at_;have xg0:=XB.fr 0;have xg1:=XB.fr 1;have xg2:=XB.fr 2;have xg3:=XB.fr 3;have xg4:=XB.fr 4;have xg5:=XB.fr 5;have xg6:=XB.fr 6;have xg7:=XB.fr 7;have xg8:=XB.fr 8;have xg9:=XB.fr 9;have xg10:=XB.fr 10;have xg11:=XB.fr 11;have xl:=XB.lt))
        all_goals
          (first
            |(with_reducible refine gen_world (P:=fun W=>BC W w4.heap.size (ccells cc)∧Below wr.heap.size wr.drew W∧wr.heap.size≤w4.heap.size∧OneRes wr.heap.size r nn W cc) (filled1A bl4 bz4 cc _ HO.out (Nat.le_refl _)) ?_)
            |(with_reducible refine gen_world (P:=fun W=>BC W wr.heap.size (ccells cc)∧Below wr.heap.size wr.drew W∧wr.heap.size≤wr.heap.size∧OneRes wr.heap.size r nn W cc) (filled2A bl4 cc XB HO.out (by simp)) ?_))
          rintro W ⟨hbc,hbW,hyb,ho⟩
          have HO2:=Lib.hid ho
          clear ho
          go_wp2_with fail
          go_meet
          exact ⟨_,cc,nn,rfl,rfl,hbc,hbW,hyb,HO2⟩
      case rest=>
        clear v0 v1 v2 v3 v4
        obtain ⟨yb,cc,nn,rfl,rfl,Y,hb5,hyb,HO⟩:=hcut
        have hbw5:Below wr.heap.size wr wc:=(drew_below wr).trans hb5
        have LB:=HL.out.box.keep hbw5 zs
        obtain ⟨v0,v1,v2,v3,v4⟩:=row5 LB.at_
        have vf0:=LB.fr 0;have vf1:=LB.fr 1;have vf2:=LB.fr 2;have vf3:=LB.fr 3;have vf4:=LB.fr 4
        have zs5:=LB.lt
        have HB5:=Lib.hid hbw5
        clear LB hb5 hbw5
        cases r with
        | none=>
          obtain rfl:nn=0:=HO.out
          have hrd:aimP x ((l.take 20).drop j)=aimP x ((l.take 20).drop (j+1)):=by rw [HDR.out,aimP,HRR.out]
          have HSK:=Lib.hid (HL.out.skip HB5.out hrd)
          clear hrd Y
          go_wp2_with fail
          go_roundg (20 - (j+1))
          case measure=>omega
          case rel=>exact ⟨j+1,x,cx,ua,m,uc,xs,cs,by omega,by omega,rfl,by go_num,rfl,HMX.out,HSK.out⟩
        | some cm=>
          obtain ⟨hn1,hcm⟩:=HO.out
          subst hn1
          have hsm:=oneC_small HRR.out
          have hzc:=HB5.out.size
          obtain ⟨z,hz⟩:∃z,doP x cm=z:=⟨_,rfl⟩
          have HDO:Hid (Calls Tryz.prog 43 #[.agg #[.int .u8 cx.k, .int .i64 cx.n, .string cx.s, .slice cx.la cx.ll cx.lc, .slice cx.oa cx.ol cx.oc], .agg #[.int .u8 cc.k, .slice cc.pa cc.pl cc.pc, .string cc.key, .int .i64 cc.i, .int .i64 cc.j, .int .i64 cc.n, .int .u8 cc.v.k, .int .i64 cc.v.n, .string cc.v.s, .slice cc.v.la cc.v.ll cc.v.lc, .slice cc.v.oa cc.v.ol cc.v.oc, .string cc.s]] wc (DoPost wc z)):=by
            rw [←hz]
            cases hcm with
            | mk _ p xv hbd hp hxv=>
              have h1:=hsm.sv;have h2:=hsm.ss
              dsimp only at h1 h2
              exact do06_any wc cx.k cx.n cx.s cx.la cx.ll cx.lc cx.oa cx.ol cx.oc x (HVAL.out.later_ HB5.out) (by have:=HWX.out;omega) p xv cc hbd (hp.sub (shows_only _ _ _)) (hxv.sub (shows_only _ _ _)) (by omega) (by omega) (HT.out.below (HL.out.below.trans (HB5.out.mono hzb)))
          have HCM:=Lib.hid hcm
          have HZ:=Lib.hid hz
          obtain ⟨y0,y1,y2,y3,y4,y5,y6,y7,y8,y9,y10,y11⟩:=row12 Y.at_
          have zy:=Y.lt
          have HY:=Lib.hid Y
          obtain ⟨y,er⟩:=z
          clear hsm hcm hz Y
          go_wp2_with fail
          refine HDO.out.mono ?_
          rintro e w6 ⟨⟨d,rfl,hI6⟩,hb6⟩
          have hz56:=hb6.size
          have LB:=(HL.out.box.keep HB5.out zs).keep hb6 (by omega)
          have Y:=HY.out.keep hb6 zy
          clear v0 v1 v2 v3 v4 vf0 vf1 vf2 vf3 vf4 y0 y1 y2 y3 y4 y5 y6 y7 y8 y9 y10 y11
          obtain ⟨v0,v1,v2,v3,v4⟩:=row5 LB.at_
          have vf0:=LB.fr 0;have vf1:=LB.fr 1;have vf2:=LB.fr 2;have vf3:=LB.fr 3;have vf4:=LB.fr 4
          obtain ⟨y0,y1,y2,y3,y4,y5,y6,y7,y8,y9,y10,y11⟩:=row12 Y.at_
          have zs6:=LB.lt;have zy6:=Y.lt
          have HI6:=Lib.hid hI6
          have HB6:=Lib.hid hb6
          have HY6:=Lib.hid Y
          clear LB Y hI6 hb6
          dsimp only at HI6
          have hal:Below w6.heap.size w6 (w6.alloc (.cells #[.int .u8 d.k, .int .i64 d.n, .string d.s, .slice d.la d.ll d.lc, .slice d.oa d.ol d.oc] 33)):=(Below.refl _ _).alloc (Nat.le_refl _) _
          have HAL:=Lib.hid hal
          clear hal
          by_cases he:er=0
          · subst he
            have hrd:aimP x ((l.take 20).drop j)=cm::aimP y ((l.take 20).drop (j+1)):=by
              rw [HDR.out,aimP,HRR.out];dsimp only;rw [HZ.out,if_pos rfl]
            have hwy:y.weight≤x.weight+20100:=by
              have:=aim_step HRR.out (by rw [HZ.out]);rw [HZ.out] at this;exact this
            have hm:=AH.mid HL.out HB5.out HCM.out HB6.out HI6.out (.cells #[.int .u8 d.k, .int .i64 d.n, .string d.s, .slice d.la d.ll d.lc, .slice d.oa d.ol d.oc] 33)
            have HM:=Lib.hid hm
            have HRD:=Lib.hid hrd
            have HWY:=Lib.hid hwy
            have hal7:Below (setV w6 w.heap.size 0 d).heap.size (setV w6 w.heap.size 0 d) ((setV w6 w.heap.size 0 d).alloc (.cells #[.int .u8 d.k, .int .i64 d.n, .string d.s, .slice d.la d.ll d.lc, .slice d.oa d.ol d.oc] 33)):=(Below.refl _ _).alloc (Nat.le_refl _) _
            have hst7:=setV_step w6 w.heap.size 0 d
            have hY7:=(HY6.out.next hst7 (by omega)).keep hal7 (Nat.lt_of_lt_of_le zy6 hst7.size)
            have hz7:wr.heap.size≤((setV w6 w.heap.size 0 d).alloc (.cells #[.int .u8 d.k, .int .i64 d.n, .string d.s, .slice d.la d.ll d.lc, .slice d.oa d.ol d.oc] 33)).heap.size:=by have:=hst7.size;have:=hal7.size;omega
            have HY7:=Lib.hid hY7
            have HZ7:=Lib.hid hz7
            clear hm hrd hwy hY7 hz7 hal7 hst7
            obtain ⟨rfl⟩:m=xs.length:=HMX.out
            go_upto_region 10 with fail
            generalize hw7:World.alloc _ _=w7
            have hm7:AM w wr w7 x y cm d cc (.slice ua xs.length uc) xs cs:=by rw [←hw7];exact HM.out
            have Y:BC w7 yb (ccells cc):=by rw [←hw7];exact HY7.out
            have hz7:wr.heap.size≤w7.heap.size:=by rw [←hw7];exact HZ7.out
            clear hw7 v0 v1 v2 v3 v4 vf0 vf1 vf2 vf3 vf4 y0 y1 y2 y3 y4 y5 y6 y7 y8 y9 y10 y11
            obtain ⟨y0,y1,y2,y3,y4,y5,y6,y7,y8,y9,y10,y11⟩:=row12 Y.at_
            have zy7:=Y.lt
            have hown:=hm7.row.own
            have HM7:=Lib.hid hm7
            clear hm7 Y
            go_wp2_with (at_builtin;refine wpList_append_lies _ rfl (.tmp 41) (.tmp 43) 34 (by rfl) (w.heap.size+1) 63 i0 _ 12 168 Tryz.underlying34 hi0 hz0 hz1 hz2 rfl (by omega) (.slice ua xs.length uc) xs.length (cs.flatMap ccells) (by rfl) (hown.alloc _) ⟨w7.heap.size,0,none⟩ 1 1 (ccells cc) (by rfl) (by rfl) (news_comp w7 cc _) (by simp [ccells,Value.oneCell']) (by omega) (by unfold maxLen;omega) (by omega) (by first|omega|(simp;omega)) (w7.heap.size+1) (by simp) ?_;intro g cap w9 hown9 hgrow9 hat9 hlt9)
            go_roundg (20 - (j+1))
            case measure=>omega
            case rel=>exact ⟨j+1,y,d,some ⟨g,0,none⟩,xs.length+1,cap,xs++ [cm],cs++ [cc],by omega,by omega,rfl,by go_num,rfl,by simp,HL.out.round HM7.out hz7 HRD.out HWY.out hown9 hgrow9 hat9⟩
          · have hne:(er==0)=false:=by simp [he]
            have hrd:aimP x ((l.take 20).drop j)=aimP x ((l.take 20).drop (j+1)):=by
              rw [HDR.out,aimP,HRR.out];dsimp only;rw [HZ.out,if_neg he]
            have HSK:=Lib.hid (HL.out.skip (HB5.out.trans ((HB6.out.trans (HAL.out.mono hz56)).mono hzc)) hrd)
            clear hrd
            go_wp2_with fail
            go_roundg (20 - (j+1))
            case measure=>omega
            case rel=>exact ⟨j+1,x,cx,ua,m,uc,xs,cs,by omega,by omega,rfl,by go_num,rfl,HMX.out,HSK.out⟩
    · have hdr:(l.take 20).drop j= [] :=by
        apply List.drop_eq_nil_of_le
        rw [List.length_take, ←HLN.out];omega
      have hrd:=HL.out.rd
      rw [hdr,aimP,List.append_nil] at hrd
      have HRD:=Lib.hid hrd
      have hex:¬j<n∨(j<n∧¬j<20):=by omega
      clear hrd hdr hcont
      rcases hex with hq|⟨hq,hq8⟩
      all_goals
        go_wp2_with fail
        rw [←HR.out, ←HRD.out,HMX.out]
        exact ⟨⟨_,_,_,rfl,RowC.comps (by rw [←HMX.out];exact HL.out.row) HL.out.cen (by omega) (by omega)⟩,HL.out.below⟩
end Go.Proofs.YtgcfhkceejcliaaGreatDoor
namespace Go.Proofs.YtgcfhkceejcliaaGreatDoor
open Go.RowKit
def setE (W:World) (b:Nat) (d:EC):World:=(((((((((W.setCell ⟨b,0,none⟩ (.int .u8 d.k)).setCell ⟨b,1,none⟩ (.int .u32 d.src)).setCell ⟨b,2,none⟩ (.int .u32 d.seq)).setCell ⟨b,3,none⟩ (.int .u8 d.v.k)).setCell ⟨b,4,none⟩ (.int .i64 d.v.n)).setCell ⟨b,5,none⟩ (.string d.v.s)).setCell ⟨b,6,none⟩ (.slice d.v.la d.v.ll d.v.lc)).setCell ⟨b,7,none⟩ (.slice d.v.oa d.v.ol d.v.oc)).setCell ⟨b,8,none⟩ (.slice d.oa d.ol d.oc))
theorem setE_st (W:World) (b:Nat) (d:EC):RStep W (setE W b d) b:=((((((((RStep.self.trans RStep.self).trans RStep.self).trans RStep.self).trans RStep.self).trans RStep.self).trans RStep.self).trans RStep.self).trans RStep.self)
theorem bc_storeE {W:World} {b:Nat} {c0:EC} (h:BC W b (ecells c0)) (d:EC):BC (setE W b d) b (ecells d):=
  (((((((((h.set (i:=0) (x:= .int .u8 d.k) (by simp [ecells])).set (i:=1) (x:= .int .u32 d.src) (by simp [ecells])).set (i:=2) (x:= .int .u32 d.seq) (by simp [ecells])).set (i:=3) (x:= .int .u8 d.v.k) (by simp [ecells])).set (i:=4) (x:= .int .i64 d.v.n) (by simp [ecells])).set (i:=5) (x:= .string d.v.s) (by simp [ecells])).set (i:=6) (x:= .slice d.v.la d.v.ll d.v.lc) (by simp [ecells])).set (i:=7) (x:= .slice d.v.oa d.v.ol d.v.oc) (by simp [ecells])).set (i:=8) (x:= .slice d.oa d.ol d.oc) (by simp [ecells]))
theorem _root_.Go.RowKit.Below.setE {B b:Nat} {a W:World} (h:Below B a W) (hb:B≤b) (d:EC):Below B a (((((((((W.setCell ⟨b,0,none⟩ (.int .u8 d.k)).setCell ⟨b,1,none⟩ (.int .u32 d.src)).setCell ⟨b,2,none⟩ (.int .u32 d.seq)).setCell ⟨b,3,none⟩ (.int .u8 d.v.k)).setCell ⟨b,4,none⟩ (.int .i64 d.v.n)).setCell ⟨b,5,none⟩ (.string d.v.s)).setCell ⟨b,6,none⟩ (.slice d.v.la d.v.ll d.v.lc)).setCell ⟨b,7,none⟩ (.slice d.v.oa d.v.ol d.v.oc)).setCell ⟨b,8,none⟩ (.slice d.oa d.ol d.oc)):=
  (((((((((h.set_ hb).set_ hb).set_ hb).set_ hb).set_ hb).set_ hb).set_ hb).set_ hb).set_ hb)
theorem bc_storeEV {W:World} {b:Nat} {c0:EC} (h:BC W b (ecells c0)) (x:VC):BC (setV W b 3 x) b (ecells { c0 with v:=x }):=
  (((((h.set (i:=3) (x:= .int .u8 x.k) (by simp [ecells])).set (i:=4) (x:= .int .i64 x.n) (by simp [ecells])).set (i:=5) (x:= .string x.s) (by simp [ecells])).set (i:=6) (x:= .slice x.la x.ll x.lc) (by simp [ecells])).set (i:=7) (x:= .slice x.oa x.ol x.oc) (by simp [ecells]))
theorem results_ent10 {tmps:Array Value} {W:World} {b:Nat} {d:EC} (ht:tmps[2]? =some (.pointer (some ⟨b,0,none⟩))) (h:BC W b (ecells d)):
    (results Tryz.f7 tmps).run Tryz.prog W= .ok (.agg #[.int .u8 d.k, .int .u32 d.src, .int .u32 d.seq, .int .u8 d.v.k, .int .i64 d.v.n, .string d.v.s, .slice d.v.la d.v.ll d.v.lc, .slice d.v.oa d.v.ol d.v.oc, .slice d.oa d.ol d.oc]) W:=by
  obtain ⟨r0,r1,r2,r3,r4,r5,r6,r7,r8⟩:=row9 h.at_
  simp [results,Tryz.results7,go_sem,ht,r0,r1,r2,r3,r4,r5,r6,r7,r8]
def EntryPost (w:World) (x:En) (e:Ending) (w':World):Prop:=
  (∃d:EC,e= .returned (.agg #[.int .u8 d.k, .int .u32 d.src, .int .u32 d.seq, .int .u8 d.v.k, .int .i64 d.v.n, .string d.v.s, .slice d.v.la d.v.ll d.v.lc, .slice d.v.oa d.v.ol d.v.oc, .slice d.oa d.ol d.oc])∧IsEntry w' w'.heap.size x d)∧Below w.heap.size w w'
theorem filled1E {w w4:World} {y:V} {z:Nat} (h:Below w.heap.size w.drew w4) (hz:w.heap.size≤w4.heap.size) (d:EC) (t:TypeId) (hv:IsVal (only (fun b=>z≤b) w4) w4.heap.size y d.v) (hzz:w.heap.size≤z):BC (w4.alloc (.cells #[.int .u8 d.k, .int .u32 d.src, .int .u32 d.seq, .int .u8 d.v.k, .int .i64 d.v.n, .string d.v.s, .slice d.v.la d.v.ll d.v.lc, .slice d.v.oa d.v.ol d.v.oc, .slice d.oa d.ol d.oc] t)) w4.heap.size (ecells d)∧Below w.heap.size w.drew (w4.alloc (.cells #[.int .u8 d.k, .int .u32 d.src, .int .u32 d.seq, .int .u8 d.v.k, .int .i64 d.v.n, .string d.v.s, .slice d.v.la d.v.ll d.v.lc, .slice d.v.oa d.v.ol d.v.oc, .slice d.oa d.ol d.oc] t))∧w.heap.size≤w4.heap.size∧IsVal (only (fun b=>w.heap.size≤b∧b≠w4.heap.size) (w4.alloc (.cells #[.int .u8 d.k, .int .u32 d.src, .int .u32 d.seq, .int .u8 d.v.k, .int .i64 d.v.n, .string d.v.s, .slice d.v.la d.v.ll d.v.lc, .slice d.v.oa d.v.ol d.v.oc, .slice d.oa d.ol d.oc] t))) (w4.alloc (.cells #[.int .u8 d.k, .int .u32 d.src, .int .u32 d.seq, .int .u8 d.v.k, .int .i64 d.v.n, .string d.v.s, .slice d.v.la d.v.ll d.v.lc, .slice d.v.oa d.v.ol d.v.oc, .slice d.oa d.ol d.oc] t)).heap.size y d.v:=by
  have hal:Below w4.heap.size w4 (w4.alloc (.cells #[.int .u8 d.k, .int .u32 d.src, .int .u32 d.seq, .int .u8 d.v.k, .int .i64 d.v.n, .string d.v.s, .slice d.v.la d.v.ll d.v.lc, .slice d.v.oa d.v.ol d.v.oc, .slice d.oa d.ol d.oc] t)):=(Below.refl _ _).alloc (Nat.le_refl _) _
  exact ⟨BC.start w4 #[.int .u8 d.k, .int .u32 d.src, .int .u32 d.seq, .int .u8 d.v.k, .int .i64 d.v.n, .string d.v.s, .slice d.v.la d.v.ll d.v.lc, .slice d.v.oa d.v.ol d.v.oc, .slice d.oa d.ol d.oc] t,h.alloc hz _,hz,isVal_S hv rfl hal.size fun k hk hl=>⟨⟨Nat.le_trans hzz hk,by omega⟩,hal.block k hl⟩⟩
theorem filled2E0 {w w4:World} {y:V} {z:Nat} (h:Below w.heap.size w.drew w4) (d:EC) (x:BC w4 w.heap.size [.int .u8 0, .int .u32 0, .int .u32 0, .int .u8 0, .int .i64 0, .string { data:= #[] }, .slice none 0 0, .slice none 0 0, .slice none 0 0]) (hv:IsVal (only (fun b=>z≤b) w4) w4.heap.size y d.v) (hzz:w.heap.size+1≤z):BC (setE w4 w.heap.size d) w.heap.size (ecells d)∧Below w.heap.size w.drew (setE w4 w.heap.size d)∧w.heap.size≤w.heap.size∧IsVal (only (fun b=>w.heap.size≤b∧b≠w.heap.size) (setE w4 w.heap.size d)) (setE w4 w.heap.size d).heap.size y d.v:=by
  have st:=setE_st w4 w.heap.size d
  exact ⟨bc_storeE (c0:=ezero) x d,Below.setE h (Nat.le_refl _) d,Nat.le_refl _,isVal_S hv rfl st.size fun k hk hl=>have hk':z≤k:=hk;⟨⟨by omega,by omega⟩,st.block k hl (by omega)⟩⟩
theorem filled2E {w w4:World} {y:V} {z:Nat} (h:Below w.heap.size w.drew w4) (d:EC) (x:BC w4 w.heap.size [.int .u8 0, .int .u32 0, .int .u32 0, .int .u8 0, .int .i64 0, .string { data:= #[] }, .slice none 0 0, .slice none 0 0, .slice none 0 0]) (hv:IsVal (only (fun b=>z≤b) w4) w4.heap.size y d.v) (hzz:w.heap.size+1≤z):BC (((((((((w4.setCell ⟨w.heap.size,0,none⟩ (.int .u8 d.k)).setCell ⟨w.heap.size,1,none⟩ (.int .u32 d.src)).setCell ⟨w.heap.size,2,none⟩ (.int .u32 d.seq)).setCell ⟨w.heap.size,3,none⟩ (.int .u8 d.v.k)).setCell ⟨w.heap.size,4,none⟩ (.int .i64 d.v.n)).setCell ⟨w.heap.size,5,none⟩ (.string d.v.s)).setCell ⟨w.heap.size,6,none⟩ (.slice d.v.la d.v.ll d.v.lc)).setCell ⟨w.heap.size,7,none⟩ (.slice d.v.oa d.v.ol d.v.oc)).setCell ⟨w.heap.size,8,none⟩ (.slice d.oa d.ol d.oc)) w.heap.size (ecells d)∧Below w.heap.size w.drew (((((((((w4.setCell ⟨w.heap.size,0,none⟩ (.int .u8 d.k)).setCell ⟨w.heap.size,1,none⟩ (.int .u32 d.src)).setCell ⟨w.heap.size,2,none⟩ (.int .u32 d.seq)).setCell ⟨w.heap.size,3,none⟩ (.int .u8 d.v.k)).setCell ⟨w.heap.size,4,none⟩ (.int .i64 d.v.n)).setCell ⟨w.heap.size,5,none⟩ (.string d.v.s)).setCell ⟨w.heap.size,6,none⟩ (.slice d.v.la d.v.ll d.v.lc)).setCell ⟨w.heap.size,7,none⟩ (.slice d.v.oa d.v.ol d.v.oc)).setCell ⟨w.heap.size,8,none⟩ (.slice d.oa d.ol d.oc))∧w.heap.size≤w.heap.size∧IsVal (only (fun b=>w.heap.size≤b∧b≠w.heap.size) (((((((((w4.setCell ⟨w.heap.size,0,none⟩ (.int .u8 d.k)).setCell ⟨w.heap.size,1,none⟩ (.int .u32 d.src)).setCell ⟨w.heap.size,2,none⟩ (.int .u32 d.seq)).setCell ⟨w.heap.size,3,none⟩ (.int .u8 d.v.k)).setCell ⟨w.heap.size,4,none⟩ (.int .i64 d.v.n)).setCell ⟨w.heap.size,5,none⟩ (.string d.v.s)).setCell ⟨w.heap.size,6,none⟩ (.slice d.v.la d.v.ll d.v.lc)).setCell ⟨w.heap.size,7,none⟩ (.slice d.v.oa d.v.ol d.v.oc)).setCell ⟨w.heap.size,8,none⟩ (.slice d.oa d.ol d.oc))) (((((((((w4.setCell ⟨w.heap.size,0,none⟩ (.int .u8 d.k)).setCell ⟨w.heap.size,1,none⟩ (.int .u32 d.src)).setCell ⟨w.heap.size,2,none⟩ (.int .u32 d.seq)).setCell ⟨w.heap.size,3,none⟩ (.int .u8 d.v.k)).setCell ⟨w.heap.size,4,none⟩ (.int .i64 d.v.n)).setCell ⟨w.heap.size,5,none⟩ (.string d.v.s)).setCell ⟨w.heap.size,6,none⟩ (.slice d.v.la d.v.ll d.v.lc)).setCell ⟨w.heap.size,7,none⟩ (.slice d.v.oa d.v.ol d.v.oc)).setCell ⟨w.heap.size,8,none⟩ (.slice d.oa d.ol d.oc)).heap.size y d.v:=
  filled2E0 h d x hv hzz
theorem ent10_leave {w W:World} {d:EC} {v:V} {l:List Cm} {A:Act} (hr:BC W (w.heap.size+1) (ecells ezero)) (hv:IsVal (only (fun b=>b≠w.heap.size+1) W) W.heap.size v d.v) (ho:IsComps (only (fun b=>b≠w.heap.size+1) W) W.heap.size l d.oa d.ol d.oc) (hb:Below w.heap.size w W) (hd:d.Bnd) (ht:A.tmps[2]? =some (.pointer (some ⟨w.heap.size+1,0,none⟩))) (hA:A.defers= []):
    bodyPost Tryz.prog Tryz.f7 (EntryPost w ⟨d.k,d.src,d.seq,v,l⟩) .ret A (setE W (w.heap.size+1) d):=by
  have st:=setE_st W (w.heap.size+1) d
  refine ⟨hA,_,results_ent10 ht (bc_storeE hr d),⟨d,rfl, ?_⟩,Below.setE hb (by omega) d⟩
  have h1:Shows (only (fun b=>b≠w.heap.size+1) W) (setE W (w.heap.size+1) d) W.heap.size:=by
    generalize setE W (w.heap.size+1) d=W' at st
    intro b o u hb hc
    obtain ⟨hs,hc⟩:=only_cell hc
    exact (World.cell?_of_block (w':=W') (w:=W) (by exact st.block b hb hs)).trans hc
  exact .mk d v l hd ((hv.sub h1).more st.size) ((ho.sub h1).more st.size)
structure EH (w wr:World) (yb:Nat) (c:RC) (d:EC) (v:V) (j:Nat) (xs:List Cm) (cs:List CC):Prop where
  len:xs.length=j
  cen:cs.length=j
  r:BC wr w.heap.size (rcells c)
  res:BC wr (w.heap.size+1) (ecells ezero)
  box:BC wr yb (ecells d)
  val:IsVal (only (fun k=>(k≠yb∧k≠w.heap.size+1)∧some k≠(Value.slice d.oa d.ol d.oc).ownBlock) wr) wr.heap.size v d.v
  row:RowG 63 12 (fun k=>k≠yb∧k≠w.heap.size+1) wr (yb+1) (.slice d.oa d.ol d.oc) xs.length (cs.flatMap ccells) (PC xs cs)
  lo:w.heap.size+2≤yb
  below:Below w.heap.size w wr
theorem EH.start {w W:World} {yb:Nat} {c:RC} {d:EC} {v:V} (hr:BC W w.heap.size (rcells c)) (hs:BC W (w.heap.size+1) (ecells ezero)) (hb:BC W yb (ecells d)) (hv:IsVal (only (fun k=>w.heap.size+2≤k∧k≠yb) W) W.heap.size v d.v) (hlo:w.heap.size+2≤yb) (hbl:Below w.heap.size w W) (e1:d.oa=none) (e2:d.ol=0) (e3:d.oc=0):EH w W yb c d v 0 [] [] :=by
  obtain ⟨dk,ds,dq,dv,oa,ol,oc⟩:=d
  dsimp only at e1 e2 e3
  subst e1 e2 e3
  refine ⟨rfl,rfl,hr,hs,hb,isVal_S hv rfl (Nat.le_refl _) fun k hk hl=>⟨⟨⟨hk.2,by omega⟩,by simp [Value.ownBlock]⟩,rfl⟩,⟨⟨by simp, .inl ⟨rfl,rfl⟩⟩,fun i h=>absurd h (by simp)⟩,hlo,hbl⟩
theorem EH.round {w wr w4 w5:World} {yb:Nat} {c:RC} {d:EC} {v:V} {j:Nat} {xs:List Cm} {cs:List CC} {x:Cm} {cx:CC} {g cap:Nat} {t:TypeId} {a:Option Addr} {m uc:Nat} (h:EH w wr yb c d v j xs cs) (e1:d.oa=a) (e2:d.ol=m) (e3:d.oc=uc) (hb4:Below wr.heap.size wr.drew w4) (hI:IsComp (only (fun k=>k<w.heap.size∨wr.heap.size≤k) w4) w4.heap.size x cx)
    (hown:w5.ownsRow (yb+1) 63 12 (.slice (some ⟨g,0,none⟩) (j+1) cap) (j+1) (cs.flatMap ccells++ccells cx)) (hg:(w4.alloc (.cells #[.int .u8 cx.k, .slice cx.pa cx.pl cx.pc, .string cx.key, .int .i64 cx.i, .int .i64 cx.j, .int .i64 cx.n, .int .u8 cx.v.k, .int .i64 cx.v.n, .string cx.v.s, .slice cx.v.la cx.v.ll cx.v.lc, .slice cx.v.oa cx.v.ol cx.v.oc, .string cx.s] t)).grownBy w5 (Value.slice a m uc).ownBlock)
    (hat:(Value.slice a m uc).ownBlock=some g∨g=w4.heap.size+1):
    EH w (w5.setCell ⟨yb,8,none⟩ (.slice (some ⟨g,0,none⟩) (j+1) cap)) yb c { d with oa:=some ⟨g,0,none⟩,ol:=j+1,oc:=cap } v (j+1) (xs++ [x]) (cs++ [cx]):=by
  have hlo:=h.lo
  have hyl:=h.box.lt
  subst e1 e2 e3
  have hb4':Below wr.heap.size wr w4:=(drew_below wr).trans hb4
  have hz4:=hb4'.size
  have hrlt:∀b,(Value.slice d.oa d.ol d.oc).ownBlock=some b→yb+1≤b∧b<wr.heap.size:=h.row.own.lt
  have hba:Below w4.heap.size w4 (w4.alloc (.cells #[.int .u8 cx.k, .slice cx.pa cx.pl cx.pc, .string cx.key, .int .i64 cx.i, .int .i64 cx.j, .int .i64 cx.n, .int .u8 cx.v.k, .int .i64 cx.v.n, .string cx.v.s, .slice cx.v.la cx.v.ll cx.v.lc, .slice cx.v.oa cx.v.ol cx.v.oc, .string cx.s] t)):=(Below.refl _ _).alloc (Nat.le_refl _) _
  have hgb:Below (yb+1) (w4.alloc (.cells #[.int .u8 cx.k, .slice cx.pa cx.pl cx.pc, .string cx.key, .int .i64 cx.i, .int .i64 cx.j, .int .i64 cx.n, .int .u8 cx.v.k, .int .i64 cx.v.n, .string cx.v.s, .slice cx.v.la cx.v.ll cx.v.lc, .slice cx.v.oa cx.v.ol cx.v.oc, .string cx.s] t)) w5:=grown_below hg (fun b hb=>(hrlt b hb).1) (by rw [World.size_alloc];omega)
  have hb45:Below (yb+1) w4 w5:=(hba.mono (by omega)).trans hgb
  have hb5:Below (yb+1) wr w5:=(hb4'.mono (by omega)).trans hb45
  have hrow:=h.row.later (rb:=yb) (PC.closed xs cs) (.of_below _ hb4') (by omega) (fun hk=>hk.1 rfl)
  obtain ⟨s1,s2⟩:=PC.snoc (l:=xs) (cs:=cs) (by rw [h.len,h.cen]) x cx
  have hnew:PC (xs++ [x]) (cs++ [cx]) (only (fun k=>(k≠yb∧k≠w.heap.size+1)∧some k≠(Value.slice d.oa d.ol d.oc).ownBlock) w4) w4.heap.size xs.length:=s1 _ _ (hI.sub (shows_step fun b hb _=>⟨⟨⟨by omega,by omega⟩,fun e=>by have:=hrlt b e.symm;omega⟩,rfl⟩))
  have hpush:=RowG.push (PC.closed (xs++ [x]) (cs++ [cx])) hrow hba hg (u':= .slice (some ⟨g,0,none⟩) (j+1) cap) (news:=ccells cx) (by rw [h.len];exact hown) (by
    rcases hat with e|e
    · left;rw [e];rfl
    · right;intro b hb;have:g=b:=by simpa [Value.ownBlock] using hb
      omega) hnew s2
  have hr2:RowG 63 12 (fun k=>k≠yb∧k≠w.heap.size+1) w5 (yb+1) (.slice (some ⟨g,0,none⟩) (j+1) cap) (xs++ [x]).length ((cs++ [cx]).flatMap ccells) (PC (xs++ [x]) (cs++ [cx])):=by
    rw [flat_snoc,List.length_append,List.length_singleton]
    exact hpush
  have st:RStep w5 (w5.setCell ⟨yb,8,none⟩ (.slice (some ⟨g,0,none⟩) (j+1) cap)) yb:=RStep.self
  refine ⟨by simp [h.len],by simp [h.cen],(h.r.keep hb5 (by omega)).far (by omega),(h.res.keep hb5 (by omega)).far (by omega),(h.box.keep hb5 (by omega)).set (i:=8) (x:= .slice (some ⟨g,0,none⟩) (j+1) cap) (by simp [ecells]), ?_,hr2.later (PC.closed _ _) st (by omega) (fun hk=>hk.1 rfl),hlo,(h.below.trans (hb5.mono (by omega))).set_ (by omega)⟩
  refine isVal_S h.val rfl (Nat.le_trans hb5.size st.size) fun k hk hl=>⟨⟨hk.1,fun e=> ?_⟩, ?_⟩
  · have e2:k=g:=by simpa [Value.ownBlock] using e
    rcases hat with e3|e3
    · exact hk.2 (by rw [e2,e3])
    · omega
  · refine (st.block k (Nat.lt_of_lt_of_le hl hb5.size) hk.1.1).trans ((hg.block k (by rw [World.size_alloc];omega) hk.2).trans ((hba.block k (by omega)).trans (hb4'.block k hl)))
end Go.Proofs.YtgcfhkceejcliaaGreatDoor
