/-
  Contracts of the functions that the law reaches: conciliatorref06.fields..
-/
import Derived.Test.YtbgheehjfnoiiaaGreatDoorOn10
import Derived.Test.YtbgheehjfnoiiaaGreatDoorOn26
namespace Go.Proofs.YtbgheehjfnoiiaaGreatDoor
open Go.RowKit
set_option maxHeartbeats 16000000
set_option maxRecDepth 100000 in
theorem zjg (w:World) (S:Nat->Prop) (hS:∀k,w.heap.size<=k->S k) (o:List (ByteArray×V)) (oa:Option Addr) (ol oc:Nat) (ho:IsFields (only S w) w.heap.size o oa ol oc) (cc:CC) (xv:V) (hxv:IsVal w w.heap.size xv cc.v) (hks:cc.key.size<=140737488355328) (hfew:ol<=100000000):
 uP 63 #[.slice oa ol oc, .agg (uC cc)] w (FieldsPost w S (fieldsDo o cc.key xv (cc.k==3))):=by
 delta uC uP
 obtain ⟨i0,hi0,hz0,hz1,hz2⟩:=info_parts Ya
 have k2:=ho.max
 have HLN:=qh ho.len
 have HO:=qh ho
 have HCV:Hid (∀W,uB w W->uP 37 #[.agg (uV cc.v)] W (NewVal W xv)):=fun W hW=>Yz xv W cc.v (hxv.later_ hW)
 have HBX:=qh (BC.start w (uC cc) 54)
 have HAL:=qh ((Below.refl _ _).alloc (Nat.le_refl _) (.cells (uC cc) 54):uB w _)
 obtain ⟨del,hdel⟩:∃del,(cc.k==3)=del:=⟨_,rfl⟩
 obtain ⟨R,hR⟩:∃R,FieldsPost w S (fieldsDo o cc.key xv (cc.k==3))=R:=⟨_,rfl⟩
 rw [hR]
 rw [hdel] at hR
 have HR:=qh hR
 clear ho hxv hR
 go_enter Tryz.func63,Tryz.ntmps63
 go_wp2_with fail
 have B:=HBX.out
 obtain ⟨W0,hW0⟩:∃W0,(w.alloc (.cells (uC cc) 54))=W0:=⟨_,rfl⟩
 have hal0:=HAL.out
 rw [hW0] at B hal0 ⊢
 clear HBX HAL hW0
 obtain ⟨b0,b1,b2,b3,b4,b5,b6,b7,b8,b9,b10,b11⟩:=row12 B.at_
 have z0:=B.lt
 have HB:=qh B
 have HBL0:=qh hal0
 have HFB:Hid (∀W,Below W0.heap.size W0.drew W->W.cell? ⟨w.heap.size,2,none⟩=some (.string cc.key)/\W.cell? ⟨w.heap.size,6,none⟩=some (.int .u8 cc.v.k)/\W.cell? ⟨w.heap.size,7,none⟩=some (.int .i64 cc.v.n)/\W.cell? ⟨w.heap.size,8,none⟩=some (.string cc.v.s)/\W.cell? ⟨w.heap.size,9,none⟩=some (.slice cc.v.la cc.v.ll cc.v.lc)/\W.cell? ⟨w.heap.size,10,none⟩=some (.slice cc.v.oa cc.v.ol cc.v.oc)):=by
  intro W hW
  have hk:∀o u,W0.cell? ⟨w.heap.size,o,none⟩=some u->W.cell? ⟨w.heap.size,o,none⟩=some u:=fun o u h=>Zb hW (Zb (Zf W0) h z0) z0
  exact ⟨hk _ _ b2,hk _ _ b6,hk _ _ b7,hk _ _ b8,hk _ _ b9,hk _ _ b10⟩
 have HC:Hid (∀W,Below W0.heap.size W0.drew W->uP 37 #[.agg (uV cc.v)] W (NewVal W xv)):=fun W hW=>HCV.out W ((HBL0.out.trans ((Zf W0).mono HBL0.out.size)).trans (hW.mono HBL0.out.size))
 clear B hal0 HCV
 refine wp_region_noPanic ?_
 go_region_held_law (fun W=>W.cell? ⟨w.heap.size,2,none⟩=some (.string cc.key)/\W.cell? ⟨w.heap.size,6,none⟩=some (.int .u8 cc.v.k)/\W.cell? ⟨w.heap.size,7,none⟩=some (.int .i64 cc.v.n)/\W.cell? ⟨w.heap.size,8,none⟩=some (.string cc.v.s)/\W.cell? ⟨w.heap.size,9,none⟩=some (.slice cc.v.la cc.v.ll cc.v.lc)/\W.cell? ⟨w.heap.size,10,none⟩=some (.slice cc.v.oa cc.v.ol cc.v.oc))
  ((refine HFB.out _ ?_;(first|(with_reducible exact bl4)|(with_reducible exact Below.refl _ _)|(with_reducible exact Zp _ _)|(with_reducible exact Below.set6 bl4 (Nat.le_refl _) _ _ _ _ _ _)|(with_reducible exact Below.set6 (Below.alloc bl4 bz4 _) bz4 _ _ _ _ _ _)|(with_reducible exact Below.alloc bl4 bz4 _))))
  (first
   |(go_at_call 37;(with_reducible refine (HC.out _ (Below.refl _ _)).mono ?_);rintro e w4 ⟨⟨d,rfl,hI4⟩,hb4⟩;have bl4:Below W0.heap.size W0.drew w4:=hb4;have bz4:W0.heap.size<=w4.heap.size:=hb4.size;have hI5:IsVal (only (fun b=>W0.heap.size<=b) w4) w4.heap.size xv d:=hI4)
   |(go_at_call 37;(with_reducible refine (HC.out _ (Zp _ _)).mono ?_);rintro e w4 ⟨⟨d,rfl,hI4⟩,hb4⟩;have bl4:Below W0.heap.size W0.drew w4:=(Zp _ _).trans (hb4.mono (by simp));have bz4:W0.heap.size<=w4.heap.size:=bl4.size;have hI5:IsVal (only (fun b=>W0.heap.size+1<=b) w4) w4.heap.size xv d:=hI4.sub (Ze fun k hk _=>⟨by have h1:(W0.alloc _).heap.size<=k:=hk;rw [World.size_alloc] at h1;exact h1,rfl⟩);have XB:=Xn hb4;have xc0:=XB.at_ 0 _ rfl;have xc1:=XB.at_ 1 _ rfl;have xc2:=XB.at_ 2 _ rfl;have xc3:=XB.at_ 3 _ rfl;have xc4:=XB.at_ 4 _ rfl;have xc5:=XB.at_ 5 _ rfl;have xg0:=XB.fr 0;have xg1:=XB.fr 1;have xg2:=XB.fr 2;have xg3:=XB.fr 3;have xg4:=XB.fr 4;have xg5:=XB.fr 5;have hxlt:=XB.lt))
 all_goals
  (first
   |((with_reducible refine Zr (P:=fun W=>(BC W w4.heap.size (fcells (cc.key,d))/\Below W0.heap.size W0.drew W/\W0.heap.size<=w4.heap.size)/\Hid (IsVal (only (fun b=>W0.heap.size<=b) W) W.heap.size xv d)) (zls bl4 bz4 cc.key d _ hI5) ?_);rintro W1 ⟨⟨YF,hbW, -⟩,hI6⟩;generalize w4.heap.size=yb at YF ⊢)
   |((with_reducible refine Zr (P:=fun W=>(BC W W0.heap.size (fcells (cc.key,d))/\Below W0.heap.size W0.drew W/\W0.heap.size<=W0.heap.size)/\Hid (IsVal (only (fun b=>W0.heap.size<=b) W) W.heap.size xv d)) (zms bl4 cc.key d XB hI5) ?_);rintro W1 ⟨⟨YF,hbW, -⟩,hI6⟩;generalize W0.heap.size=yb at YF ⊢))
  clear hb4 bl4 hI4 hI5 HFB HC
  have hbl1:=HBL0.out.trans (((Zf W0).trans hbW).mono HBL0.out.size)
  have B1:=HB.out.keep ((Zf W0).trans hbW) z0
  have hw01:W0.heap.size<=W1.heap.size:=hbW.size
  have hw0:=HBL0.out.size
  have hsh:Shows (only S w) (only S W1) w.heap.size:=Ze fun k hk hl=>⟨hk,hbl1.block k hl⟩
  have hI7:IsVal (only S W1) W1.heap.size xv d:=hI6.out.sub (Ze fun k hk _=>⟨hS k (by omega),rfl⟩)
  have hO7:IsFields (only S W1) W1.heap.size o oa ol oc:=(IsFields.sub hsh HO.out).more hbl1.size
  have HI7:=qh hI7
  have HO7:=qh hO7
  have HBL1:=qh hbl1
  have HB1:=qh B1
  have HYF:=qh YF
  have ylt:=YF.lt
  have z1:=B1.lt
  clear b0 b1 b2 b3 b4 b5 b6 b7 b8 b9 b10 b11
  obtain ⟨b0,b1,b2,b3,b4,b5,b6,b7,b8,b9,b10,b11⟩:=row12 B1.at_
  clear hbW hI6 hsh hI7 hO7 hbl1 B1 YF
  go_wp2_with fail
  go_loopw [5,6,8] (fun u dn i wr=>∃(j:Nat) (a:Option Addr) (m c:Nat) (xs:List (ByteArray×V)) (cs:List (ByteArray×VC)) (done:Bool),j<=ol/\i= .int .i64 j/\u= .slice a m c/\dn= .bool done/\FH W1 wr S o cc.key xv del j (.slice a m c) xs cs done) (fun _ _ i _=>ol - (intOf i).toNat)
  case atStart=>exact ⟨0,none,0,0, [], [],del,Nat.zero_le _,rfl,rfl,rfl,⟨rfl,Nat.le_refl _,rfl,⟨rfl, .inl ⟨rfl,rfl⟩⟩,fun i h=>absurd h (by simp),Below.refl _ _⟩⟩
  case round=>
   obtain ⟨j,a,m,c,xs,cs,done,hj,rfl,rfl,rfl,L⟩:=hrel
   have C1:=HB1.out.keep L.below z1
   have Y1:=HYF.out.keep L.below ylt
   have y0:=Y1.at_ 0 _ rfl;have y1:=Y1.at_ 1 _ rfl;have y2:=Y1.at_ 2 _ rfl;have y3:=Y1.at_ 3 _ rfl;have y4:=Y1.at_ 4 _ rfl;have y5:=Y1.at_ 5 _ rfl
   clear b0 b1 b2 b3 b4 b5 b6 b7 b8 b9 b10 b11
   have b2:=C1.at_ 2 _ rfl
   have zs:=C1.lt
   have zy:=Y1.lt
   have hrlt:∀g,(Value.slice a m c).ownBlock=some g->W1.heap.size<=g:=fun g hg=>(L.own.lt g hg).1
   have hfx:=L.few
   have HL:=qh L
   clear C1 Y1
   by_cases hlt:j<ol
   .obtain ⟨b,q,f,hp,rfl,hbB,hkey,hks2,hvf,hIf⟩:=HO7.out.get hlt
    have hbW:b<W1.heap.size:=hbB
    have hky:=Zb L.below (Z1 hkey).2 hbW
    have hvf2:ValAt wr b (q+j*6+1) f:=(hvf.sub (Zl _ _ _) hbW).keep L.below hbW
    have c0:=hvf2.c0;have c1:=hvf2.c1;have c2:=hvf2.c2;have c3:=hvf2.c3;have c4:=hvf2.c4
    have hbw:b<wr.heap.size:=World.block_lt_of_cell? wr _ c0
    obtain ⟨sk,hsk⟩:∃sk,o[j].1=sk:=⟨_,rfl⟩
    rw [hsk] at hky hks2
    have hstep:(o.take (j+1)).foldl (fldStep cc.key xv) ([],del)=fldStep cc.key xv (xs,done) (sk,o[j].2):=by
     rw [zkc _ _ o j hp,L.rd, <-hsk]
    have HSP:=qh hstep
    have HIF:=qh hIf
    have hown:=L.own
    obtain ⟨lb,hlb⟩:∃lb,Op.bytesLess sk.toList cc.key.toList=lb:=⟨_,rfl⟩
    obtain ⟨eb,heb⟩:∃eb,(sk.toList==cc.key.toList)=eb:=⟨_,rfl⟩
    rw [hsk] at hkey
    have HKY:=qh hkey
    have HVF:=qh hvf
    clear L hkey hvf hvf2 hIf hsk hstep
    cases done with
    | true=>
      cases eb with
      | true=>
        have hfs:fldStep cc.key xv (xs,true) (sk,o[j].2)=(xs,true):=by rw [fldStep,if_neg (by simp),if_pos (by simpa using heb)]
        have HFS:=qh hfs
        clear hfs hlb
        go_wp2_with fail
        go_quiet (fail)
        go_wp2_with fail
        go_quiet (fail)
        go_wp2_with fail
        go_roundw
        case rel=>exact ⟨j+1,a,m,c,xs,cs,true,by omega,by go_num,rfl,rfl,⟨HSP.out.trans HFS.out,by omega,HL.out.cen,Yn hown _,HL.out.els,Z7 HL.out.below _⟩⟩
        case measure=>simp [intOf];omega
      | false=>
        have hfs:fldStep cc.key xv (xs,true) (sk,o[j].2)=(xs++ [(sk,o[j].2)],true):=by rw [fldStep,if_neg (by simp),if_neg (by simpa using heb)]
        have HFS:=qh hfs
        clear hfs hlb
        have zw:=HL.out.below.size
        go_wp2_with fail
        go_quiet (fail)
        go_wp2_with fail
        go_quiet (fail)
        go_wp2_with (at_builtin;refine wpList_append_lies _ rfl (.tmp 48) (.tmp 53) 27 (by rfl) W1.heap.size 62 i0 _ 6 96 Tryz.underlying27 hi0 hz0 hz1 hz2 rfl (by omega) (.slice a m c) xs.length (cs.flatMap fcells) (by rfl) ((Yn hown _).alloc _) ⟨wr.heap.size,0,none⟩ 1 1 (fcells (sk,f)) (by rfl) (by rfl) (Qe wr _ sk f _) (by simp [fcells,Value.oneCell']) (by omega) (by unfold maxLen;omega) (by omega) (by first|omega|(rw [Zu];omega)|(simp;omega)) (wr.heap.size+1) (by first|exact Zu _ _ _|simp) ?_;intro g cap w7 hownw7 hgroww7 hatw7 hltw7)
        have G2:=Xr (x:=o[j].2) hrlt HL.out.cen HL.out.els HL.out.below hks2 HIF.out ((Xa wr _).alloc (Nat.le_refl _) _) hownw7 hgroww7
        go_roundw
        case rel=>exact ⟨j+1,some ⟨g,0,none⟩,xs.length+1,cap,xs++ [(sk,o[j].2)],cs++ [(sk,f)],true,by omega,by go_num,rfl,rfl,⟨HSP.out.trans HFS.out,by rw [List.length_append,List.length_singleton];omega,G2.1,G2.2.1,G2.2.2.1,G2.2.2.2⟩⟩
        case measure=>simp [intOf];omega
    | false=>
      cases lb with
      | true=>
        cases eb with
        | true=>
          have hfs:fldStep cc.key xv (xs,false) (sk,o[j].2)=(xs,false):=by rw [fldStep,if_neg (by simp [hlb]),if_pos (by simpa using heb)]
          have HFS:=qh hfs
          clear hfs
          go_wp2_with fail
          go_quiet (fail)
          go_wp2_with fail
          go_quiet (fail)
          go_wp2_with fail
          go_roundw
          case rel=>exact ⟨j+1,a,m,c,xs,cs,false,by omega,by go_num,rfl,rfl,⟨HSP.out.trans HFS.out,by omega,HL.out.cen,Yn hown _,HL.out.els,Z7 HL.out.below _⟩⟩
          case measure=>simp [intOf];omega
        | false=>
          have hfs:fldStep cc.key xv (xs,false) (sk,o[j].2)=(xs++ [(sk,o[j].2)],false):=by rw [fldStep,if_neg (by simp [hlb]),if_neg (by simpa using heb)]
          have HFS:=qh hfs
          clear hfs
          have zw:=HL.out.below.size
          go_wp2_with fail
          go_quiet (fail)
          go_wp2_with fail
          go_quiet (fail)
          go_wp2_with (at_builtin;refine wpList_append_lies _ rfl (.tmp 48) (.tmp 53) 27 (by rfl) W1.heap.size 62 i0 _ 6 96 Tryz.underlying27 hi0 hz0 hz1 hz2 rfl (by omega) (.slice a m c) xs.length (cs.flatMap fcells) (by rfl) ((Yn hown _).alloc _) ⟨wr.heap.size,0,none⟩ 1 1 (fcells (sk,f)) (by rfl) (by rfl) (Qe wr _ sk f _) (by simp [fcells,Value.oneCell']) (by omega) (by unfold maxLen;omega) (by omega) (by first|omega|(rw [Zu];omega)|(simp;omega)) (wr.heap.size+1) (by first|exact Zu _ _ _|simp) ?_;intro g cap w7 hownw7 hgroww7 hatw7 hltw7)
          have G2:=Xr (x:=o[j].2) hrlt HL.out.cen HL.out.els HL.out.below hks2 HIF.out ((Xa wr _).alloc (Nat.le_refl _) _) hownw7 hgroww7
          go_roundw
          case rel=>exact ⟨j+1,some ⟨g,0,none⟩,xs.length+1,cap,xs++ [(sk,o[j].2)],cs++ [(sk,f)],false,by omega,by go_num,rfl,rfl,⟨HSP.out.trans HFS.out,by rw [List.length_append,List.length_singleton];omega,G2.1,G2.2.1,G2.2.2.1,G2.2.2.2⟩⟩
          case measure=>simp [intOf];omega
      | false=>
        have zw:=HL.out.below.size
        cases eb with
        | true=>
          have hfs:fldStep cc.key xv (xs,false) (sk,o[j].2)=(xs++ [(cc.key,xv)],true):=by rw [fldStep,if_pos ⟨rfl,hlb⟩,if_pos (by simpa using heb)]
          have HFS:=qh hfs
          clear hfs
          go_wp2_with fail
          go_quiet (fail)
          go_wp2_with (at_builtin;refine wpList_append_lies _ rfl (.tmp 36) (.tmp 38) 27 (by rfl) W1.heap.size 62 i0 _ 6 96 Tryz.underlying27 hi0 hz0 hz1 hz2 rfl (by omega) (.slice a m c) xs.length (cs.flatMap fcells) (by rfl) ((Yn hown _).alloc _) ⟨wr.heap.size,0,none⟩ 1 1 (fcells (cc.key,d)) (by rfl) (by rfl) (Qe wr _ cc.key d _) (by simp [fcells,Value.oneCell']) (by omega) (by unfold maxLen;omega) (by omega) (by first|omega|(rw [Zu];omega)|(simp;omega)) (wr.heap.size+1) (by first|exact Zu _ _ _|simp) ?_;intro g cap w7 hownw7 hgroww7 hatw7 hltw7)
          have G2:=Xr (x:=xv) hrlt HL.out.cen HL.out.els HL.out.below hks HI7.out ((Xa wr _).alloc (Nat.le_refl _) _) hownw7 hgroww7
          have hk7:∀b o u,b<W1.heap.size->W1.cell? ⟨b,o,none⟩=some u->w7.cell? ⟨b,o,none⟩=some u:=fun b o u hb h=>Zb G2.2.2.2 h hb
          have hkw:∀o u,(only S W1).cell? ⟨b,o,none⟩=some u->w7.cell? ⟨b,o,none⟩=some u:=fun o u h=>hk7 _ _ _ hbW (Z1 h).2
          have hky7:=hkw _ _ HKY.out
          have d0:=hkw _ _ HVF.out.c0;have d1:=hkw _ _ HVF.out.c1;have d2:=hkw _ _ HVF.out.c2;have d3:=hkw _ _ HVF.out.c3;have d4:=hkw _ _ HVF.out.c4
          have hbw7:b<w7.heap.size:=World.block_lt_of_cell? w7 _ d0
          have b27:=(HB1.out.keep G2.2.2.2 z1).at_ 2 _ rfl
          have zs7:=(HB1.out.keep G2.2.2.2 z1).lt
          go_quiet (fail)
          go_wp2_with fail
          go_roundw
          case rel=>exact ⟨j+1,some ⟨g,0,none⟩,xs.length+1,cap,xs++ [(cc.key,xv)],cs++ [(cc.key,d)],true,by omega,by go_num,rfl,rfl,⟨HSP.out.trans HFS.out,by rw [List.length_append,List.length_singleton];omega,G2.1,Yn G2.2.1 _,G2.2.2.1,Z7 G2.2.2.2 _⟩⟩
          case measure=>simp [intOf];omega
        | false=>
          have hfs:fldStep cc.key xv (xs,false) (sk,o[j].2)=(xs++ [(cc.key,xv)] ++ [(sk,o[j].2)],true):=by rw [fldStep,if_pos ⟨rfl,hlb⟩,if_neg (by simpa using heb)]
          have HFS:=qh hfs
          clear hfs
          go_wp2_with fail
          go_quiet (fail)
          go_wp2_with (at_builtin;refine wpList_append_lies _ rfl (.tmp 36) (.tmp 38) 27 (by rfl) W1.heap.size 62 i0 _ 6 96 Tryz.underlying27 hi0 hz0 hz1 hz2 rfl (by omega) (.slice a m c) xs.length (cs.flatMap fcells) (by rfl) ((Yn hown _).alloc _) ⟨wr.heap.size,0,none⟩ 1 1 (fcells (cc.key,d)) (by rfl) (by rfl) (Qe wr _ cc.key d _) (by simp [fcells,Value.oneCell']) (by omega) (by unfold maxLen;omega) (by omega) (by first|omega|(rw [Zu];omega)|(simp;omega)) (wr.heap.size+1) (by first|exact Zu _ _ _|simp) ?_;intro g cap w7 hownw7 hgroww7 hatw7 hltw7)
          have G2:=Xr (x:=xv) hrlt HL.out.cen HL.out.els HL.out.below hks HI7.out ((Xa wr _).alloc (Nat.le_refl _) _) hownw7 hgroww7
          have hk7:∀b o u,b<W1.heap.size->W1.cell? ⟨b,o,none⟩=some u->w7.cell? ⟨b,o,none⟩=some u:=fun b o u hb h=>Zb G2.2.2.2 h hb
          have hkw:∀o u,(only S W1).cell? ⟨b,o,none⟩=some u->w7.cell? ⟨b,o,none⟩=some u:=fun o u h=>hk7 _ _ _ hbW (Z1 h).2
          have hky7:=hkw _ _ HKY.out
          have d0:=hkw _ _ HVF.out.c0;have d1:=hkw _ _ HVF.out.c1;have d2:=hkw _ _ HVF.out.c2;have d3:=hkw _ _ HVF.out.c3;have d4:=hkw _ _ HVF.out.c4
          have hbw7:b<w7.heap.size:=World.block_lt_of_cell? w7 _ d0
          have b27:=(HB1.out.keep G2.2.2.2 z1).at_ 2 _ rfl
          have zs7:=(HB1.out.keep G2.2.2.2 z1).lt
          go_quiet (fail)
          have hrlt2:∀q,(Value.slice (some ⟨g,0,none⟩) (xs.length+1) cap).ownBlock=some q->W1.heap.size<=q:=fun q hq=>(hownw7.lt q hq).1
          have hown2:=G2.2.1
          rw [List.length_append,List.length_singleton] at hown2
          have zw7:=G2.2.2.2.size
          go_wp2_with (at_builtin;refine wpList_append_lies _ rfl (.tmp 48) (.tmp 53) 27 (by rfl) W1.heap.size 62 i0 _ 6 96 Tryz.underlying27 hi0 hz0 hz1 hz2 rfl (by omega) (.slice (some ⟨g,0,none⟩) (xs.length+1) cap) (xs.length+1) ((cs++ [(cc.key,d)]).flatMap fcells) (by rfl) ((Yn hown2 _).alloc _) ⟨w7.heap.size,0,none⟩ 1 1 (fcells (sk,f)) (by rfl) (by rfl) (Qe w7 _ sk f _) (by simp [fcells,Value.oneCell']) (by omega) (by unfold maxLen;omega) (by omega) (by first|omega|(rw [Zu];omega)|(simp;omega)) (w7.heap.size+1) (by first|exact Zu _ _ _|simp) ?_;intro g9 cap9 w9 hownw9 hgroww9 hatw9 hltw9)
          have hown9:w9.ownsRow W1.heap.size 62 6 (.slice (some ⟨g9,0,none⟩) (xs.length+1+1) cap9) ((xs++ [(cc.key,xv)]).length+1) ((cs++ [(cc.key,d)]).flatMap fcells++fcells (sk,f)):=by rw [List.length_append,List.length_singleton];exact hownw9
          have G4:=Xr (x:=o[j].2) hrlt2 G2.1 G2.2.2.1 G2.2.2.2 hks2 HIF.out ((Xa w7 _).alloc (Nat.le_refl _) _) hown9 hgroww9
          go_roundw
          case rel=>exact ⟨j+1,some ⟨g9,0,none⟩,xs.length+1+1,cap9,xs++ [(cc.key,xv)] ++ [(sk,o[j].2)],cs++ [(cc.key,d)] ++ [(sk,f)],true,by omega,by go_num,rfl,rfl,⟨HSP.out.trans HFS.out,by rw [List.length_append,List.length_append,List.length_singleton,List.length_singleton];omega,G4.1,G4.2.1,G4.2.2.1,G4.2.2.2⟩⟩
          case measure=>simp [intOf];omega
   .have hjn:j=ol:=by omega
    subst hjn
    have hfold:o.foldl (fldStep cc.key xv) ([],del)=(xs,done):=by
     rw [<-HL.out.rd,HLN.out,List.take_length]
    have HFD:=qh hfold
    have hown:=L.own
    have zw:=L.below.size
    clear L hfold
    cases done with
    | true=>
      go_wp2_with fail
      rw [<-HR.out]
      have hfd:fieldsDo o cc.key xv del=xs:=by rw [fieldsDo,HFD.out];rfl
      rw [hfd]
      have hshw:Shows (only S W1) (only S wr) W1.heap.size:=Ze fun q hq hl=>⟨hq,HL.out.below.block q hl⟩
      obtain ⟨a9,n9,c9,hv,hf,_⟩:=zb0 (S:=S) (B1:=W1.heap.size) hown (fun k hk=>hS k (by have:=HBL1.out.size;omega)) HL.out.cen (fun i hi=>PF.closed _ _ _ _ _ _ i hshw zw (HL.out.els i hi)) (by omega)
      exact ⟨⟨a9,n9,c9,by rw [hv],hf⟩,HBL1.out.trans (HL.out.below.mono HBL1.out.size)⟩
    | false=>
      go_wp2_with (at_builtin;refine wpList_append_lies _ rfl (.tmp 57) (.tmp 59) 27 (by rfl) W1.heap.size 62 i0 _ 6 96 Tryz.underlying27 hi0 hz0 hz1 hz2 rfl (by omega) (.slice a m c) xs.length (cs.flatMap fcells) (by rfl) (hown.alloc _) ⟨wr.heap.size,0,none⟩ 1 1 (fcells (cc.key,d)) (by rfl) (by rfl) (World.news_of_block (t:=62) (fr:=(0,0)) (heap_alloc_new wr (.cells #[.string cc.key, .int .u8 d.k, .int .i64 d.n, .string d.s, .slice d.la d.ll d.lc, .slice d.oa d.ol d.oc] 62))) (by simp [fcells,Value.oneCell']) (by omega) (by unfold maxLen;omega) (by omega) (by first|omega|(rw [Zu];omega)|(simp;omega)) (wr.heap.size+1) (by first|exact Zu _ _ _|simp) ?_;intro g cap w7 hownw7 hgroww7 hatw7 hltw7)
      have G2:=Xr (x:=xv) hrlt HL.out.cen HL.out.els HL.out.below hks HI7.out ((Below.refl _ _).alloc (Nat.le_refl _) _) hownw7 hgroww7
      rw [<-HR.out]
      have hfd:fieldsDo o cc.key xv del=xs++ [(cc.key,xv)] :=by rw [fieldsDo,HFD.out];rfl
      rw [hfd]
      have hshw:Shows (only S W1) (only S w7) W1.heap.size:=Ze fun q hq hl=>⟨hq,G2.2.2.2.block q hl⟩
      obtain ⟨a9,n9,c9,hv,hf,_⟩:=zb0 (S:=S) (B1:=W1.heap.size) G2.2.1 (fun k hk=>hS k (by have:=HBL1.out.size;omega)) G2.1 (fun i hi=>PF.closed _ _ _ _ _ _ i hshw G2.2.2.2.size (G2.2.2.1 i hi)) (by rw [List.length_append,List.length_singleton];omega)
      exact ⟨⟨a9,n9,c9,by rw [hv],hf⟩,HBL1.out.trans (G2.2.2.2.mono HBL1.out.size)⟩
noncomputable def doneP (x:V) (c:Cm):V:=
 if c.k=1 then .mk x.kd (wrap64 (x.nm+c.n)) x.str x.ls x.os
 else if c.k=2∨c.k=3 then .mk x.kd x.nm x.str x.ls (fieldsDo x.os c.key c.v (c.k==3))
 else if c.k=8∨c.k=9 then .mk x.kd x.nm (textDo x.str c.k c.i c.n c.s) x.ls x.os
 else .mk x.kd x.nm x.str (listDo x.ls c.k c.i c.j c.v) x.os
def doneQ:Option V->V×Int
 |none=>(V.none,30)
 |some w=>(w,0)
theorem Y4 (z:V):doneQ (some z)=(z,0):=rfl
noncomputable def doP (v:V) (c:Cm):V×Int:=
 if checkP v c=0 then (match getP v c.path with
  |none=>(V.none,30)
  |some x=>doneQ (putP v c.path (doneP x c))) else (V.none,checkP v c)
theorem Ym {v:V} {c:Cm} {x:V} (he:checkP v c=0) (hg:getP v c.path=some x):doP v c=doneQ (putP v c.path (doneP x c)):=by
 rw [doP,if_pos he];simp only [hg]
theorem Y6 (p:List St):∀ {v x:V} (_:getP v p=some x) (y:V),∃z,putP v p y=some z:=by
 induction p with
 |nil=>intro v x _ y;exact ⟨y,rfl⟩
 | cons s r ih=>
   intro v x h y
   unfold getP at h
   unfold putP
   cases hs:stepP v s with
   |none=>rw [hs] at h;cases h
   | some q=>
     rw [hs] at h
     obtain ⟨z,hz⟩:=ih h y
     simp only [hz]
     exact ⟨_,rfl⟩
theorem J8 {c:Cm} (h:cmSound c=true):1<=c.k/\c.k<=9:=by
 unfold cmSound at h
 simp only [Bool.and_eq_true] at h
 have hk:=h.1.1.1.1.1.1.1.1.1.1.1
 unfold kIs at hk
 simpa using hk
theorem zch (s:ByteArray) (k i n:Int) (cs:ByteArray):(textDo s k i n cs).size<=s.size+s.size+cs.size:=by
 unfold textDo
 split
 .rw [ByteArray.size_append,ByteArray.size_append,ByteArray.size_extract,ByteArray.size_extract];omega
 .rw [ByteArray.size_append,ByteArray.size_extract,ByteArray.size_extract];omega
theorem IsVals.sub {w w':World} {B:Nat} {l:List V} {a:Option Addr} {n c:Nat} (hs:Shows w w' B) (h:IsVals w B l a n c):IsVals w' B l a n c:=by
 obtain ⟨h1,h2,h3,h4,b,o,f,h5,h6⟩:=h
 exact ⟨h1,h2,h3,h4,b,o,f,h5,fun i hi=>⟨(h6 i hi).1.sub hs (h5 (by omega)).2,(h6 i hi).2.sub hs⟩⟩
theorem Yl {v:V} {c:Cm} (h:checkP v c=0):cmSound c=true/\∃x,getP v c.path=some x/\kindsP x c.k c.i c.j c.n c.key=0:=by
 unfold checkP at h
 cases hs:cmSound c with
 |false=>rw [hs,if_pos rfl] at h;omega
 | true=>
   rw [hs,if_neg (by simp)] at h
   cases hg:getP v c.path with
   |none=>rw [hg] at h;simp at h
   |some x=>rw [hg] at h;exact ⟨rfl,x,rfl,h⟩
def DoPost (w:World) (r:V×Int) (e:Ending) (w':World):Prop:=
 (∃c:VC,e= .returned (.tuple #[.agg #[.int .u8 c.k, .int .i64 c.n, .string c.s, .slice c.la c.ll c.lc, .slice c.oa c.ol c.oc], .int .i64 r.2])/\IsVal (only (fun b=>w.heap.size<=b) w') w'.heap.size r.1 c)/\Below w.heap.size w w'
theorem zfo {tmps:Array Value} {W:World} {b:Nat} {c:VC} {x:Value} (ht:tmps[4]? =some (.pointer (some ⟨b,0,none⟩))) (hx:tmps[5]? =some x) (h:BC W b (vcells c)):
 (results Tryz.f33 tmps).run Tryz.prog W= .ok (.tuple #[.agg #[.int .u8 c.k, .int .i64 c.n, .string c.s, .slice c.la c.ll c.lc, .slice c.oa c.ol c.oc],x]) W:=by
 obtain ⟨r0,r1,r2,r3,r4⟩:=(⟨h.at_ 0 _ rfl,h.at_ 1 _ rfl,h.at_ 2 _ rfl,h.at_ 3 _ rfl,h.at_ 4 _ rfl⟩:W.cell? ⟨b,0,none⟩=some (.int .u8 c.k)/\W.cell? ⟨b,1,none⟩=some (.int .i64 c.n)/\W.cell? ⟨b,2,none⟩=some (.string c.s)/\W.cell? ⟨b,3,none⟩=some (.slice c.la c.ll c.lc)/\W.cell? ⟨b,4,none⟩=some (.slice c.oa c.ol c.oc))
 simp [results,Tryz.results33,go_sem,ht,hx,r0,r1,r2,r3,r4]
theorem X9 {w W:World} {x:Act} {c:VC} {r:V×Int} (h:BC W (w.heap.size+1+1) (vcells c)) (hv:IsVal (only (fun b=>w.heap.size<=b) W) W.heap.size r.1 c) (hb:uB w W) (hd:x.defers= []) (ht:x.tmps[4]? =some (.pointer (some ⟨w.heap.size+1+1,0,none⟩))) (hx:x.tmps[5]? =some (.int .i64 r.2)):
 bodyPost Tryz.prog Tryz.f33 (DoPost w r) .ret x W:=⟨hd,_,zfo ht hx h,⟨c,rfl,hv⟩,hb⟩
structure DB (w W:World) (c:VC) (cc:CC):Prop where
 v:BC W w.heap.size (vcells c)
 c:BC W (w.heap.size+1) (ccells cc)
 r:BC W (w.heap.size+1+1) (vcells vzero)
 below:Below w.heap.size w W
theorem DB.next {w W W':World} {c:VC} {cc:CC} {B:Nat} (h:DB w W c cc) (hb:Below B W W') (hB:w.heap.size+3<=B):DB w W' c cc:=
 ⟨h.v.keep hb (by omega),h.c.keep hb (by omega),h.r.keep hb (by omega),h.below.trans (hb.mono (by omega))⟩
theorem DB.start (w:World) (c:VC) (cc:CC) (t1 t2 t3:TypeId):DB w (((w.alloc (.cells #[.int .u8 c.k, .int .i64 c.n, .string c.s, .slice c.la c.ll c.lc, .slice c.oa c.ol c.oc] t1)).alloc (.cells #[.int .u8 cc.k, .slice cc.pa cc.pl cc.pc, .string cc.key, .int .i64 cc.i, .int .i64 cc.j, .int .i64 cc.n, .int .u8 cc.v.k, .int .i64 cc.v.n, .string cc.v.s, .slice cc.v.la cc.v.ll cc.v.lc, .slice cc.v.oa cc.v.ol cc.v.oc, .string cc.s] t2)).alloc (.cells #[.int .u8 0, .int .i64 0, .string { data:= #[] }, .slice none 0 0, .slice none 0 0] t3)) c cc:=by
 have k:=KBk.start w c cc t1 t2
 obtain ⟨w2,hw2⟩:∃w2,((w.alloc (.cells (uV c) t1)).alloc (.cells (uC cc) t2))=w2:=⟨_,rfl⟩
 have s2:w2.heap.size=w.heap.size+1+1:=by rw [<-hw2,World.size_alloc,World.size_alloc]
 rw [hw2] at k ⊢
 have b3:uB w2 (w2.alloc (.cells (uU 0 0 { data:= #[] } none 0 0 none 0 0) t3)):=(Below.refl _ _).alloc (Nat.le_refl _) _
 have c3:=BC.start w2 (uU 0 0 { data:= #[] } none 0 0 none 0 0) t3
 rw [s2] at c3
 exact ⟨k.v.keep b3 (by omega),k.c.keep b3 (by omega),c3,k.below.trans (b3.mono (by omega))⟩
theorem DB.result {w W:World} {c:VC} {cc:CC} (h:DB w W c cc) (d:VC):BC (((((W.setCell ⟨w.heap.size+1+1,0,none⟩ (.int .u8 d.k)).setCell ⟨w.heap.size+1+1,1,none⟩ (.int .i64 d.n)).setCell ⟨w.heap.size+1+1,2,none⟩ (.string d.s)).setCell ⟨w.heap.size+1+1,3,none⟩ (.slice d.la d.ll d.lc)).setCell ⟨w.heap.size+1+1,4,none⟩ (.slice d.oa d.ol d.oc)) (w.heap.size+1+1) (vcells d)/\uB w (((((W.setCell ⟨w.heap.size+1+1,0,none⟩ (.int .u8 d.k)).setCell ⟨w.heap.size+1+1,1,none⟩ (.int .i64 d.n)).setCell ⟨w.heap.size+1+1,2,none⟩ (.string d.s)).setCell ⟨w.heap.size+1+1,3,none⟩ (.slice d.la d.ll d.lc)).setCell ⟨w.heap.size+1+1,4,none⟩ (.slice d.oa d.ol d.oc)):=
 ⟨Zy h.r d,Below.set5' h.below (by omega) _ _ _ _ _⟩
theorem Xh {w:World} {B:Nat} {k n:Int} {s:ByteArray} {l:List V} {o:List (ByteArray×V)} {la:Option Addr} {ll lc:Nat} {oa:Option Addr} {ol oc:Nat} (hk0:0<=k) (hk1:k<256) (hn0: -9223372036854775808<=n) (hn1:n<=9223372036854775807) (hs:s.size<=140737488355328) (h1:IsVals w B l la ll lc) (h2:IsFields w B o oa ol oc):IsVal w B (.mk k n s l o) ⟨k,n,s,la,ll,lc,oa,ol,oc⟩:=
 IsVal.of_lists (c:=⟨k,n,s,la,ll,lc,oa,ol,oc⟩) ⟨hk0,hk1,hn0,hn1,hs,h1.cap,h1.max,h1.few,h2.cap,h2.max,h2.few⟩ h1 h2
set_option maxRecDepth 100000 in
theorem zhl (w:World) (vk vn:Int) (vs:ByteArray) (la:Option Addr) (ll lc:Nat) (oa:Option Addr) (ol oc:Nat) (v:V) (hv:IsVal w w.heap.size v ⟨vk,vn,vs,la,ll,lc,oa,ol,oc⟩) (hw:v.weight<=100000000) (p:List St) (xv:V) (cc:CC) (hcb:cc.Bnd) (hp:IsSteps w w.heap.size p cc.pa cc.pl cc.pc) (hxv:IsVal w w.heap.size xv cc.v) (hxw:xv.weight<=4611686018427387904) (hT:Tabs w) (he:checkP v ⟨cc.k,p,cc.key,cc.i,cc.j,cc.n,xv,cc.s⟩≠0):
 uP 33 #[.agg (uU vk vn vs la ll lc oa ol oc), .agg (uC cc)] w (DoPost w (doP v ⟨cc.k,p,cc.key,cc.i,cc.j,cc.n,xv,cc.s⟩)):=by
 delta uU uC uP
 have HCK:Hid (∀W,uB w W->uP 62 #[.agg (uU vk vn vs la ll lc oa ol oc), .agg (uC cc)] W fun e w'=>e= .returned (.int .i64 (checkP v ⟨cc.k,p,cc.key,cc.i,cc.j,cc.n,xv,cc.s⟩))/\uB W w'):=fun W hW=>Qq W vk vn vs la ll lc oa ol oc v (hv.later_ hW) (by omega) p xv cc hcb (hp.later_ hW) (hxv.later_ hW) (by omega) (hT.below hW)
 have HB:=qh (DB.start w ⟨vk,vn,vs,la,ll,lc,oa,ol,oc⟩ cc 29 54 29)
 have hd:doP v ⟨cc.k,p,cc.key,cc.i,cc.j,cc.n,xv,cc.s⟩=(V.none,checkP v ⟨cc.k,p,cc.key,cc.i,cc.j,cc.n,xv,cc.s⟩):=by rw [doP,if_neg he]
 rw [hd]
 obtain ⟨E,hE⟩:∃E,checkP v ⟨cc.k,p,cc.key,cc.i,cc.j,cc.n,xv,cc.s⟩=E:=⟨_,rfl⟩
 rw [hE] at HCK he ⊢
 have fe:(E !=0)=true:=by simp [he]
 clear hv hp hxv hT hcb hd hE
 go_enter Tryz.func33,Tryz.ntmps33
 generalize hQ0:bodyPost _ _ _=Q0
 have HQ:=qh hQ0
 clear hQ0
 go_wp2_with fail
 refine (HCK.out _ HB.out.below).mono ?_
 rintro e W ⟨rfl,hb1⟩
 have B:=HB.out.next hb1 (by simp)
 obtain ⟨v0,v1,v2,v3,v4⟩:=row5 B.v.at_
 obtain ⟨b0,b1,b2,b3,b4,b5,b6,b7,b8,b9,b10,b11⟩:=row12 B.c.at_
 obtain ⟨r0,r1,r2,r3,r4⟩:=row5 B.r.at_
 have f0:=B.r.fr 0;have f1:=B.r.fr 1;have f2:=B.r.fr 2;have f3:=B.r.fr 3;have f4:=B.r.fr 4
 have z0:=B.v.lt;have z1:=B.c.lt;have z2:=B.r.lt
 have HBW:=qh B
 clear B hb1
 go_wp2_with fail
 rw [<-HQ.out]
 have ST:=HBW.out.result ⟨0,0, { data:= #[] },none,0,0,none,0,0⟩
 exact X9 (r:=(V.none,E)) ST.1 (Zw _ _) ST.2 rfl rfl rfl
set_option maxRecDepth 100000 in
theorem zd0 (w:World) (vk vn:Int) (vs:ByteArray) (la:Option Addr) (ll lc:Nat) (oa:Option Addr) (ol oc:Nat) (v:V) (hv:IsVal w w.heap.size v ⟨vk,vn,vs,la,ll,lc,oa,ol,oc⟩) (hw:v.weight<=100000000) (p:List St) (xv:V) (cc:CC) (hcb:cc.Bnd) (hp:IsSteps w w.heap.size p cc.pa cc.pl cc.pc) (hxv:IsVal w w.heap.size xv cc.v) (hxw:xv.weight<=4611686018427387904) (hT:Tabs w) (he:checkP v ⟨cc.k,p,cc.key,cc.i,cc.j,cc.n,xv,cc.s⟩=0) (hk:cc.k=1):
 uP 33 #[.agg (uU vk vn vs la ll lc oa ol oc), .agg (uC cc)] w (DoPost w (doP v ⟨cc.k,p,cc.key,cc.i,cc.j,cc.n,xv,cc.s⟩)):=by
 delta uU uC uP
 obtain ⟨_,x,hg,hkd⟩:=Yl he
 dsimp only at hg hkd
 have hxw2:=Z6 p hg
 have HCK:Hid (∀W,uB w W->uP 62 #[.agg (uU vk vn vs la ll lc oa ol oc), .agg (uC cc)] W fun e w'=>e= .returned (.int .i64 0)/\uB W w'):=fun W hW=>by
  have:=Qq W vk vn vs la ll lc oa ol oc v (hv.later_ hW) (by omega) p xv cc hcb (hp.later_ hW) (hxv.later_ hW) (by omega) (hT.below hW)
  rw [he] at this;exact this
 have HGT:Hid (∀W,uB w W->uP 58 #[.agg (uU vk vn vs la ll lc oa ol oc), .slice cc.pa cc.pl cc.pc] W (GetPost W (some x))):=fun W hW=>by rw [<-hg];exact Xt W vk vn vs la ll lc oa ol oc v (hv.later_ hW) p cc.pa cc.pl cc.pc (hp.later_ hW)
 have HPT:Hid (∀(W:World) (y:V) (k n:Int) (s:ByteArray) (a:Option Addr) (m c:Nat) (a':Option Addr) (m' c':Nat),uB w W->IsVal W W.heap.size y ⟨k,n,s,a,m,c,a',m',c'⟩->uP 66 #[.agg (uU vk vn vs la ll lc oa ol oc), .slice cc.pa cc.pl cc.pc, .agg (uU k n s a m c a' m' c')] W (GetPost W (putP v p y))):=fun W y k n s a m c a' m' c' hW hy=>Jp y k n s a m c a' m' c' p W vk vn vs la ll lc oa ol oc v (hv.later_ hW) cc.pa cc.pl cc.pc (hp.later_ hW) hy
 have hdo:doP v ⟨cc.k,p,cc.key,cc.i,cc.j,cc.n,xv,cc.s⟩=doneQ (putP v p (doneP x ⟨cc.k,p,cc.key,cc.i,cc.j,cc.n,xv,cc.s⟩)):=Ym he hg
 rw [hdo]
 have HB:=qh (DB.start w ⟨vk,vn,vs,la,ll,lc,oa,ol,oc⟩ cc 29 54 29)
 have HTT:=qh hT
 have HXV:=qh hxv
 have HCB:=qh hcb
 have HKD:=qh hkd
 have hsw:=x.str_weight
 obtain ⟨kx,nx,sx,lx,ox,rfl⟩:=x.eta
 dsimp only [V.str,V.ls,V.os] at hsw
 obtain ⟨Y,hY⟩:∃Y,doneP (.mk kx nx sx lx ox) ⟨cc.k,p,cc.key,cc.i,cc.j,cc.n,xv,cc.s⟩=Y:=⟨_,rfl⟩
 rw [hY]
 obtain ⟨z,hPR⟩:=Y6 p hg Y
 rw [hPR,Y4]
 have HY:=qh hY
 have HPR:=qh hPR
 clear hv hp hxv hT hcb hdo hY hPR he hg hkd
 have HK:=qh hk
 clear hk
 go_enter Tryz.func33,Tryz.ntmps33
 generalize hQ0:bodyPost _ _ _=Q0
 have HQ:=qh hQ0
 clear hQ0
 go_wp2_with fail
 refine (HCK.out _ HB.out.below).mono ?_
 rintro e W ⟨rfl,hb1⟩
 have B:=HB.out.next hb1 (by simp)
 obtain ⟨v0,v1,v2,v3,v4⟩:=row5 B.v.at_
 obtain ⟨b0,b1,b2,b3,b4,b5,b6,b7,b8,b9,b10,b11⟩:=row12 B.c.at_
 obtain ⟨r0,r1,r2,r3,r4⟩:=row5 B.r.at_
 have f0:=B.r.fr 0;have f1:=B.r.fr 1;have f2:=B.r.fr 2;have f3:=B.r.fr 3;have f4:=B.r.fr 4
 have z0:=B.v.lt;have z1:=B.c.lt;have z2:=B.r.lt
 have HBW:=qh B
 clear B hb1
 go_wp2_with fail
 refine (HGT.out _ HBW.out.below).mono ?_
 rintro e W2 ⟨⟨d,rfl,hI⟩,hb2⟩
 have B2:=HBW.out.next hb2 (Nat.succ_le_of_lt z2)
 obtain ⟨e1,e2,e3,hbd,hl,ho⟩:=hI.lists
 subst e1 e2 e3
 clear v0 v1 v2 v3 v4 r0 r1 r2 r3 r4 f0 f1 f2 f3 f4 b0 b1 b2 b3 b4 b5 b6 b7 b8 b9 b10 b11
 obtain ⟨v0,v1,v2,v3,v4⟩:=row5 B2.v.at_
 obtain ⟨b0,b1,b2,b3,b4,b5,b6,b7,b8,b9,b10,b11⟩:=row12 B2.c.at_
 obtain ⟨r0,r1,r2,r3,r4⟩:=row5 B2.r.at_
 have f0:=B2.r.fr 0;have f1:=B2.r.fr 1;have f2:=B2.r.fr 2;have f3:=B2.r.fr 3;have f4:=B2.r.fr 4
 have z0:=B2.v.lt;have z1:=B2.c.lt;have z2:=B2.r.lt
 have zW:=HBW.out.below.size
 have zW2:=hb2.size
 have z22:=B2.r.lt
 have HB2:=qh B2
 have HI:=qh hI
 have HBD:=qh hbd
 have HL:=qh hl
 have HO:=qh ho
 have HAL:=qh (((Below.refl _ _).alloc (Nat.le_refl _) (.cells (uV d) 29)):uB W2 _)
 clear B2 hI hbd hl ho hb2
 rw [HK.out] at b0
 obtain ⟨N,hN⟩:∃N,wrap64 (d.n+cc.n)=N:=⟨_,rfl⟩
 have hwr:IntKind.i64.wrap (d.n+cc.n)=N:=(zmu _).trans hN
 have hN0: -9223372036854775808<=N:=by rw [<-hN];exact zc4 _
 have hN1:N<=9223372036854775807:=by rw [<-hN];exact zay _
 have HN:=qh hN
 clear hN
 go_wp2_with fail
 have hbl4:uB W2 (W2.alloc (.cells (uU d.k N d.s d.la d.ll d.lc d.oa d.ol d.oc) 29)):=(Below.refl _ _).alloc (Nat.le_refl _) _
 have hx4:=(HI.out.sub (Zl _ _ _)).later_ hbl4
 obtain ⟨_,_,_,_,hl4,ho4⟩:=hx4.lists
 have HB4:=qh (HB2.out.next hbl4 (Nat.succ_le_of_lt z22))
 have HCALL:Hid (uP 66 #[.agg (uU vk vn vs la ll lc oa ol oc), .slice cc.pa cc.pl cc.pc, .agg (uU d.k N d.s d.la d.ll d.lc d.oa d.ol d.oc)] (W2.alloc (.cells (uU d.k N d.s d.la d.ll d.lc d.oa d.ol d.oc) 29)) (GetPost (W2.alloc (.cells (uU d.k N d.s d.la d.ll d.lc d.oa d.ol d.oc) 29)) (some z))):=by
  have:=HPT.out (W2.alloc (.cells (uU d.k N d.s d.la d.ll d.lc d.oa d.ol d.oc) 29)) Y d.k N d.s d.la d.ll d.lc d.oa d.ol d.oc HB4.out.below (by
   have hYe:Y= .mk d.k N d.s lx ox:=by rw [<-HY.out,doneP,if_pos HK.out, <-HN.out];rfl
   rw [hYe]
   exact Xh HBD.out.k0 HBD.out.k1 hN0 hN1 HBD.out.s1 hl4 ho4)
  rw [HPR.out] at this;exact this
 clear hx4 hl4 ho4
 refine HCALL.out.mono ?_
 rintro e W6 ⟨⟨d6,rfl,hz⟩,hb6⟩
 have B6:=HB4.out.next hb6 (Nat.succ_le_of_lt HB4.out.r.lt)
 clear v0 v1 v2 v3 v4 r0 r1 r2 r3 r4 f0 f1 f2 f3 f4 b0 b1 b2 b3 b4 b5 b6 b7 b8 b9 b10 b11
 obtain ⟨v0,v1,v2,v3,v4⟩:=row5 B6.v.at_
 obtain ⟨b0,b1,b2,b3,b4,b5,b6,b7,b8,b9,b10,b11⟩:=row12 B6.c.at_
 obtain ⟨r0,r1,r2,r3,r4⟩:=row5 B6.r.at_
 have f0:=B6.r.fr 0;have f1:=B6.r.fr 1;have f2:=B6.r.fr 2;have f3:=B6.r.fr 3;have f4:=B6.r.fr 4
 have z0:=B6.v.lt;have z1:=B6.c.lt;have z2:=B6.r.lt
 have HB6:=qh B6
 have hz4:=HB4.out.below.size
 have hz5:=HB4.out.r.lt
 have HZ:=qh hz
 clear B6 hb6 hz
 go_wp2_with fail
 rw [<-HQ.out]
 have ST:=HB6.out.result d6
 have hst:=Zi W6 (w.heap.size+1+1) 0 d6
 exact X9 (r:=(z,0)) ST.1 ((Zm (base:=w.heap.size+1+1+1) (HZ.out.sub (Ze fun k hk _=>⟨Nat.le_trans (Nat.succ_le_of_lt hz5) hk,rfl⟩)) hst (by omega)).sub (Ze fun k hk _=>⟨by omega,rfl⟩)) ST.2 rfl rfl rfl
theorem zb6:(Tryz.prog.info? 82).map (fun i=>(i.zero,i.size,i.bytes))=some (some (.agg #[.bool false, .int .i64 0, .string { data:= #[] }]),3,32):=by kernel_rfl
def walkP:V->List UInt8->List St
 |_, [] => []
 | v,b::r=>if 0<v.ls.length then ⟨true,(b.toNat % v.ls.length:Nat), .empty⟩::walkP (v.ls.getD (b.toNat % v.ls.length) V.none) r
   else if 0<v.os.length then ⟨false,0,(v.os.getD (b.toNat % v.os.length) (.empty,V.none)).1⟩::walkP (v.os.getD (b.toNat % v.os.length) (.empty,V.none)).2 r
   else walkP v r
theorem za8 {w:World} {B1:Nat} {S:Nat->Prop} {v:Value} {l:List St} (hown:w.ownsRow B1 82 3 v l.length (l.flatMap scells)) (hS:∀k,B1<=k->S k) (hb:∀s ∈ l,s.Bnd) (hfew:l.length<=1466015503701):
 ∃a n c,v= .slice a n c/\IsSteps (only S w) w.heap.size l a n c:=by
 obtain ⟨a,c,hv,hr⟩:=OwnRow.of (base':=B1) hown (Nat.le_refl _)
 refine ⟨a,l.length,c,hv,rfl,hr.cap,hr.max,hfew, ?_⟩
 by_cases hn:0<l.length
 .obtain ⟨g,e,hg,hbc⟩:=hr.row (.inl hn)
  refine ⟨g,0,fun _=>⟨e,hbc.lt⟩,fun i hi=>⟨?_,hb _ (List.getElem_mem hi)⟩⟩
  have hc:∀t x,t<3->(scells l[i])[t]? =some x->(only S w).cell? ⟨g,0+i*3+t,none⟩=some x:=fun t x ht hx=>by
   rw [Nat.zero_add]
   exact Z0 (hS g hg) (hbc.at_ _ _ ((Y0 scells 3 (fun _=>rfl) l i t hi ht).trans hx))
  exact ⟨hc 0 _ (by omega) rfl,hc 1 _ (by omega) rfl,hc 2 _ (by omega) rfl⟩
 .exact ⟨0,0,fun h=>absurd h hn,fun i hi=>absurd hi (by omega)⟩
def WalkPost (w:World) (l:List St) (e:Ending) (w':World):Prop:=
 (∃a n c,e= .returned (.slice a n c)/\IsSteps (only (fun b=>w.heap.size<=b) w') w'.heap.size l a n c)/\Below w.heap.size w w'
structure WKH (w wr:World) (v x:V) (c:VC) (bs:List UInt8) (j:Nat) (u:Value) (xs:List St):Prop where
 rd:xs++walkP x ((bs.take 8).drop j)=walkP v (bs.take 8)
 few:xs.length<=j
 bnd:∀s ∈ xs,s.Bnd
 val:IsVal w w.heap.size x c
 box:BC wr w.heap.size (vcells c)
 own:wr.ownsRow (w.heap.size+1) 82 3 u xs.length (xs.flatMap scells)
 below:Below w.heap.size w wr
theorem zda (a b:Nat):Int.tmod (a:Int) (b:Int)=((a % b:Nat):Int):=by
 rw [Int.tmod_eq_emod_of_nonneg (by omega)];omega
theorem zbx (w:World) (n:Nat) (s:St) (t:TypeId):∀j u,(scells s)[j]? =some u->((w.drewN n).alloc (.cells #[.bool s.list, .int .i64 s.i, .string s.key] t)).cell? ((⟨w.heap.size,0,none⟩:Addr).add j)=some u:=
 World.news_of_block (t:=t) (fr:=(0,0)) (heap_alloc_new (w.drewN n) (.cells #[.bool s.list, .int .i64 s.i, .string s.key] t))
theorem WKH.round {w wr w7:World} {v x x':V} {c c':VC} {bs:List UInt8} {j:Nat} {u u':Value} {xs:List St} {s:St} (h:WKH w wr v x c bs j u xs) (hrd:(xs++ [s])++walkP x' ((bs.take 8).drop (j+1))=walkP v (bs.take 8)) (hs:s.Bnd) (hv:IsVal w w.heap.size x' c') (hb7:Below (w.heap.size+1) wr w7) (hown:w7.ownsRow (w.heap.size+1) 82 3 u' (xs.length+1) (xs.flatMap scells++scells s)):
 WKH w (((((w7.setCell ⟨w.heap.size,0,none⟩ (.int .u8 c'.k)).setCell ⟨w.heap.size,1,none⟩ (.int .i64 c'.n)).setCell ⟨w.heap.size,2,none⟩ (.string c'.s)).setCell ⟨w.heap.size,3,none⟩ (.slice c'.la c'.ll c'.lc)).setCell ⟨w.heap.size,4,none⟩ (.slice c'.oa c'.ol c'.oc)) v x' c' bs (j+1) u' (xs++ [s]):=by
 have hz:=h.box.lt
 have hst:=Zi w7 w.heap.size 0 c'
 have hbx:=h.box.keep hb7 (by omega)
 refine ⟨hrd,by rw [List.length_append,List.length_singleton];have:=h.few;omega,fun s' h'=> ?_,hv,Zy hbx c', ?_,Below.set5' (h.below.trans (hb7.mono (by omega))) (Nat.le_refl _) _ _ _ _ _⟩
 .rcases List.mem_append.1 h' with h1|h1
  .exact h.bnd s' h1
  .rw [List.mem_singleton.1 h1];exact hs
 .rw [Yf,List.length_append,List.length_singleton]
  refine hown.kept (row:=some w.heap.size) ⟨hst.os,hst.tape,hst.output,hst.size,fun k hk hne=>hst.block k hk (fun e=>hne (by rw [e]))⟩ ?_
  right;intro e;have:=(hown.lt _ e).1;omega
set_option maxRecDepth 100000 in
theorem zia (w:World) (vk vn:Int) (vs:ByteArray) (la:Option Addr) (ll lc:Nat) (oa:Option Addr) (ol oc:Nat) (v:V) (hv:IsVal w w.heap.size v ⟨vk,vn,vs,la,ll,lc,oa,ol,oc⟩) (bs:List UInt8) (a:Option Addr) (n c:Nat) (hB:IsB w w.heap.size a n c bs):
 uP 57 #[.agg (uU vk vn vs la ll lc oa ol oc), .slice a n c] w (WalkPost w (walkP v (bs.take 8))):=by
 delta uU uP
 obtain ⟨i0,hi0,hz0,hz1,hz2⟩:=info_parts zb6
 have hmax:=hB.max;have hcap:=hB.cap
 have HLN:=qh hB.len
 have HBS:=qh hB
 have HV:=qh hv
 have HST:=qh (BC.start w (uU vk vn vs la ll lc oa ol oc) 29)
 obtain ⟨R,hR⟩:∃R,WalkPost w (walkP v (bs.take 8))=R:=⟨_,rfl⟩
 rw [hR]
 have HR:=qh hR
 clear hB hv hR
 go_enter Tryz.func57,Tryz.ntmps57
 go_wp2_with fail
 go_loopw [5,6,7,8] (fun u i _ _ wr=>∃(j:Nat) (x:V) (cx:VC) (ua:Option Addr) (m uc:Nat) (xs:List St),j<=n/\j<=8/\i= .int .i64 j/\u= .slice ua m uc/\WKH w wr v x cx bs j (.slice ua m uc) xs) (fun _ i _ _ _=>8 - (intOf i).toNat)
 case atStart=>exact ⟨0,v,_,none,0,0, [],Nat.zero_le _,Nat.zero_le _,rfl,rfl,⟨rfl,Nat.le_refl _,fun s h=>(by cases h),HV.out,HST.out,⟨rfl, .inl ⟨rfl,rfl⟩⟩,(Below.refl _ _).alloc (Nat.le_refl _) _⟩⟩
 case round=>
  obtain ⟨j,x,cx,ua,m,uc,xs,hj,hj8,rfl,rfl,L⟩:=hrel
  obtain ⟨v0,v1,v2,v3,v4⟩:=row5 L.box.at_
  have e0:=L.box.fr 0;have e1:=L.box.fr 1;have e2:=L.box.fr 2;have e3:=L.box.fr 3;have e4:=L.box.fr 4
  have zs:=L.box.lt
  have hfx:=L.few
  have HL:=qh L
  by_cases hcont:j<n/\j<8
  .obtain ⟨hlt,hlt8⟩:=hcont
   obtain ⟨b,q,h5,h6⟩:=HBS.out.at_
   obtain ⟨rfl,hbB⟩:=h5 (by omega)
   have hjl:j<bs.length:=by rw [<-HLN.out];exact hlt
   have hcj:=Zb L.below (h6 j hjl) hbB
   obtain ⟨y,hy⟩:∃y,bs[j].toNat=y:=⟨_,rfl⟩
   rw [hy] at hcj
   have hy2:y<256:=by rw [<-hy];exact UInt8.toNat_lt _
   have hbw:b<wr.heap.size:=World.block_lt_of_cell? wr _ hcj
   have hdr:(bs.take 8).drop j=bs[j] ::(bs.take 8).drop (j+1):=by
    have h8:j<(bs.take 8).length:=by rw [List.length_take];omega
    rw [List.drop_eq_getElem_cons h8,List.getElem_take]
   have hrd:=L.rd
   rw [hdr] at hrd
   obtain ⟨kx,nx,sx,lx,ox,rfl⟩:=x.eta
   obtain ⟨ck,cn,cs,cla,cll,clc,coa,col,coc⟩:=cx
   obtain ⟨f1,f2,f3,hbd,hvl,hvo⟩:=L.val.lists
   dsimp only at f1 f2 f3 hvl hvo v0 v1 v2 v3 v4
   subst f1 f2 f3
   have k1:=hvl.few;have k2:=hvl.max;have k3:=hvo.few;have k4:=hvo.max
   have hown:=L.own
   have hw1:IntKind.i64.wrap (y:Int)=y:=IntWalk.i64_in _ (by omega)
   have hrlt:∀g,(Value.slice ua m uc).ownBlock=some g->w.heap.size+1<=g:=fun g hg=>(L.own.lt g hg).1
   have hzb:=L.below.size
   have HBL:=qh L.below
   by_cases hll:0<cll
   .have hkl:y % cll<cll:=Nat.mod_lt _ hll
    obtain ⟨k,hk⟩:∃k,y % cll=k:=⟨_,rfl⟩
    rw [hk] at hkl
    have htm:Int.tmod (y:Int) (cll:Int)=(k:Int):=by rw [zda,hk]
    have hne:((cll:Int)==0)=false:=by simp;omega
    have hw2:IntKind.i64.wrap (k:Int)=k:=IntWalk.i64_in _ (by omega)
    obtain ⟨b2,q2,f,hp,rfl,hb2,hvf,hIf⟩:=hvl.get hkl
    have HVF:=qh hvf
    have HIF:=qh hIf
    have hb2w:b2<wr.heap.size:=by omega
    have hnx:(xs++ [⟨true,(k:Int), .empty⟩])++walkP lx[k] ((bs.take 8).drop (j+1))=walkP v (bs.take 8):=by
     rw [<-hrd,walkP,if_pos (show 0<(V.mk ck cn cs lx ox).ls.length by show 0<lx.length;rw [<-hvl.len];exact hll)]
     have e:(V.mk ck cn cs lx ox).ls=lx:=rfl
     rw [e, <-hvl.len,hy,hk,List.append_assoc]
     simp [List.getD_eq_getElem?_getD,hp]
    have HNX:=qh hnx
    clear L hrd hdr hy hnx hvf hIf h5 h6 hvl hvo hbd
    go_wp2_with fail
    go_quiet (fail)
    go_wp2_with (at_builtin;refine wpList_append_lies _ rfl (.tmp 32) (.tmp 35) 50 (by rfl) (w.heap.size+1) 82 i0 _ 3 32 Tryz.underlying50 hi0 hz0 hz1 hz2 rfl (by omega) (.slice ua m uc) xs.length (xs.flatMap scells) (by rfl) ((Yn hown _).alloc _) ⟨wr.heap.size,0,none⟩ 1 1 (scells (⟨true,(k:Int), .empty⟩:St)) (by rfl) (by rfl) (zbx wr _ (⟨true,(k:Int), .empty⟩:St) _) (by simp [scells,Value.oneCell']) (by omega) (by unfold maxLen;omega) (by omega) (by first|omega|(rw [Zu];omega)) (wr.heap.size+1) (by first|exact Zu _ _ _|simp) ?_;intro g cap w7 hown7 hgrow7 hat7 hlt7;have hb7:Below (w.heap.size+1) wr w7:=(((Xa wr _).alloc (Nat.le_refl _) _).mono (Nat.succ_le_of_lt zs)).trans (Zj hgrow7 hrlt (by first|omega|(rw [Zu];omega)));have V7:=HL.out.box.keep hb7 (by omega);obtain ⟨p0,p1,p2,p3,p4⟩:=row5 V7.at_;have q0:=V7.fr 0;have q1:=V7.fr 1;have q2':=V7.fr 2;have q3:=V7.fr 3;have q4:=V7.fr 4;have zs7:=V7.lt;have F7:=(HVF.out.keep HBL.out hb2).keep hb7 (by omega);have c0:=F7.c0;have c1:=F7.c1;have c2:=F7.c2;have c3:=F7.c3;have c4:=F7.c4;have hb27:b2<w7.heap.size:=World.block_lt_of_cell? w7 _ c0)
    go_roundw
    case rel=>exact ⟨j+1,lx[k],f,some ⟨g,0,none⟩,xs.length+1,cap,xs++ [⟨true,(k:Int), .empty⟩],by omega,by omega,by go_num,rfl,HL.out.round HNX.out ⟨by show _<=(k:Int);omega,by show (k:Int)<=_;omega,by show ByteArray.empty.size<=_;decide⟩ HIF.out hb7 hown7⟩
    case measure=>simp [intOf];omega
   .have hl0:cll=0:=by omega
    by_cases hol:0<col
    .have hkl:y % col<col:=Nat.mod_lt _ hol
     obtain ⟨k,hk⟩:∃k,y % col=k:=⟨_,rfl⟩
     rw [hk] at hkl
     have htm:Int.tmod (y:Int) (col:Int)=(k:Int):=by rw [zda,hk]
     have hne:((col:Int)==0)=false:=by simp;omega
     have hw2:IntKind.i64.wrap (k:Int)=k:=IntWalk.i64_in _ (by omega)
     obtain ⟨b2,q2,f,hp,rfl,hb2,hky,hks,hvf,hIf⟩:=hvo.get hkl
     have HVF:=qh hvf
     have HIF:=qh hIf
     have hb2w:b2<wr.heap.size:=by omega
     obtain ⟨sk,hsk⟩:∃sk,ox[k].1=sk:=⟨_,rfl⟩
     rw [hsk] at hky hks
     have hkyw:=Zb HBL.out hky hb2
     have hlx:lx.length=0:=by rw [<-hvl.len];exact hl0
     have hnx:(xs++ [⟨false,0,sk⟩])++walkP ox[k].2 ((bs.take 8).drop (j+1))=walkP v (bs.take 8):=by
      have e:(V.mk ck cn cs lx ox).ls=lx:=rfl
      have e2:(V.mk ck cn cs lx ox).os=ox:=rfl
      rw [<-hrd,walkP,e,e2,if_neg (by omega),if_pos (by rw [<-hvo.len];exact hol), <-hvo.len,hy,hk,List.append_assoc, <-hsk]
      simp [List.getD_eq_getElem?_getD,hp]
     have HNX:=qh hnx
     subst hl0
     clear L hrd hdr hy hnx hvf hIf h5 h6 hvl hvo hbd hky hsk hlx
     go_wp2_with fail
     go_quiet (fail)
     go_wp2_with (at_builtin;refine wpList_append_lies _ rfl (.tmp 55) (.tmp 63) 50 (by rfl) (w.heap.size+1) 82 i0 _ 3 32 Tryz.underlying50 hi0 hz0 hz1 hz2 rfl (by omega) (.slice ua m uc) xs.length (xs.flatMap scells) (by rfl) ((Yn hown _).alloc _) ⟨wr.heap.size,0,none⟩ 1 1 (scells (⟨false,0,sk⟩:St)) (by rfl) (by rfl) (zbx wr _ (⟨false,0,sk⟩:St) _) (by simp [scells,Value.oneCell']) (by omega) (by unfold maxLen;omega) (by omega) (by first|omega|(rw [Zu];omega)) (wr.heap.size+1) (by first|exact Zu _ _ _|simp) ?_;intro g cap w7 hown7 hgrow7 hat7 hlt7;have hb7:Below (w.heap.size+1) wr w7:=(((Xa wr _).alloc (Nat.le_refl _) _).mono (Nat.succ_le_of_lt zs)).trans (Zj hgrow7 hrlt (by first|omega|(rw [Zu];omega)));have V7:=HL.out.box.keep hb7 (by omega);obtain ⟨p0,p1,p2,p3,p4⟩:=row5 V7.at_;have q0:=V7.fr 0;have q1:=V7.fr 1;have q2':=V7.fr 2;have q3:=V7.fr 3;have q4:=V7.fr 4;have zs7:=V7.lt;have F7:=(HVF.out.keep HBL.out hb2).keep hb7 (by omega);have c0:=F7.c0;have c1:=F7.c1;have c2:=F7.c2;have c3:=F7.c3;have c4:=F7.c4;have hb27:b2<w7.heap.size:=World.block_lt_of_cell? w7 _ c0)
     go_roundw
     case rel=>exact ⟨j+1,ox[k].2,f,some ⟨g,0,none⟩,xs.length+1,cap,xs++ [⟨false,0,sk⟩],by omega,by omega,by go_num,rfl,HL.out.round HNX.out ⟨by show _<=(0:Int);omega,by show (0:Int)<=_;omega,hks⟩ HIF.out hb7 hown7⟩
     case measure=>simp [intOf];omega
    .have ho0:col=0:=by omega
     have hnx:xs++walkP (.mk ck cn cs lx ox) ((bs.take 8).drop (j+1))=walkP v (bs.take 8):=by
      have e:(V.mk ck cn cs lx ox).ls=lx:=rfl
      have e2:(V.mk ck cn cs lx ox).os=ox:=rfl
      rw [<-hrd]
      conv=>rhs;rw [walkP,e,e2,if_neg (by rw [<-hvl.len];omega),if_neg (by rw [<-hvo.len];omega)]
     have HNX:=qh hnx
     subst hl0 ho0
     clear L hrd hdr hy hnx h5 h6 hvl hvo hbd
     go_wp2_with fail
     go_roundw
     case rel=>exact ⟨j+1,_,_,ua,m,uc,xs,by omega,by omega,by go_num,rfl,⟨HNX.out,by omega,HL.out.bnd,HL.out.val,HL.out.box,HL.out.own,HL.out.below⟩⟩
     case measure=>simp [intOf];omega
  .have hdr:(bs.take 8).drop j= [] :=by
    apply List.drop_eq_nil_of_le
    rw [List.length_take, <-HLN.out];omega
   have hrd:=L.rd
   rw [hdr,walkP,List.append_nil] at hrd
   have HRD:=qh hrd
   have hex:¬j<n∨(j<n/\¬j<8):=by omega
   clear L hrd hdr hcont
   rcases hex with hq|⟨hq,hq8⟩
   all_goals
    go_wp2_with fail
    rw [<-HR.out, <-HRD.out]
    obtain ⟨a9,n9,c9,hv9,hs9⟩:=za8 (S:=fun b=>w.heap.size<=b) HL.out.own (fun k hk=>by omega) HL.out.bnd (by omega)
    exact ⟨⟨a9,n9,c9,by rw [hv9];rfl,hs9⟩,HL.out.below⟩
structure Ac where
 path:List UInt8
 k:Int
 i:Int
 j:Int
 n:Int
 s:ByteArray
 v:List Tk
structure AC where
 pa:Option Addr
 pl:Nat
 pc:Nat
 k:Int
 i:Int
 j:Int
 n:Int
 s:ByteArray
 va:Option Addr
 vl:Nat
 vc:Nat
structure AC.Bnd (c:AC):Prop where
 k0:0<=c.k
 k1:c.k<256
 i0: -9223372036854775808<=c.i
 i1:c.i<=9223372036854775807
 j0: -9223372036854775808<=c.j
 j1:c.j<=9223372036854775807
 n0: -9223372036854775808<=c.n
 n1:c.n<=9223372036854775807
 s1:c.s.size<=140737488355328
inductive IsAct (w:World) (B:Nat):Ac->AC->Prop
 |mk (c:AC) (p:List UInt8) (v:List Tk) (hb:c.Bnd) (hp:IsB w B c.pa c.pl c.pc p) (hv:IsToks w B v c.va c.vl c.vc):IsAct w B ⟨p,c.k,c.i,c.j,c.n,c.s,v⟩ c
def acells (c:AC):List Value:= [.slice c.pa c.pl c.pc, .int .u8 c.k, .int .i64 c.i, .int .i64 c.j, .int .i64 c.n, .string c.s, .slice c.va c.vl c.vc]
abbrev uA (c:AC):Array Value:= #[.slice c.pa c.pl c.pc, .int .u8 c.k, .int .i64 c.i, .int .i64 c.j, .int .i64 c.n, .string c.s, .slice c.va c.vl c.vc]
theorem Zt {W:World} {b:Nat} {c0:CC} (h:BC W b (ccells c0)) (d:CC):BC ((((((((((((W.setCell ⟨b,0,none⟩ (.int .u8 d.k)).setCell ⟨b,1,none⟩ (.slice d.pa d.pl d.pc)).setCell ⟨b,2,none⟩ (.string d.key)).setCell ⟨b,3,none⟩ (.int .i64 d.i)).setCell ⟨b,4,none⟩ (.int .i64 d.j)).setCell ⟨b,5,none⟩ (.int .i64 d.n)).setCell ⟨b,6,none⟩ (.int .u8 d.v.k)).setCell ⟨b,7,none⟩ (.int .i64 d.v.n)).setCell ⟨b,8,none⟩ (.string d.v.s)).setCell ⟨b,9,none⟩ (.slice d.v.la d.v.ll d.v.lc)).setCell ⟨b,10,none⟩ (.slice d.v.oa d.v.ol d.v.oc)).setCell ⟨b,11,none⟩ (.string d.s)) b (ccells d):=
 ((((((((((((h.set (i:=0) (x:= .int .u8 d.k) (by simp [ccells])).set (i:=1) (x:= .slice d.pa d.pl d.pc) (by simp [ccells])).set (i:=2) (x:= .string d.key) (by simp [ccells])).set (i:=3) (x:= .int .i64 d.i) (by simp [ccells])).set (i:=4) (x:= .int .i64 d.j) (by simp [ccells])).set (i:=5) (x:= .int .i64 d.n) (by simp [ccells])).set (i:=6) (x:= .int .u8 d.v.k) (by simp [ccells])).set (i:=7) (x:= .int .i64 d.v.n) (by simp [ccells])).set (i:=8) (x:= .string d.v.s) (by simp [ccells])).set (i:=9) (x:= .slice d.v.la d.v.ll d.v.lc) (by simp [ccells])).set (i:=10) (x:= .slice d.v.oa d.v.ol d.v.oc) (by simp [ccells])).set (i:=11) (x:= .string d.s) (by simp [ccells]))
theorem _root_.Go.RowKit.Below.setC {B b:Nat} {a W:World} (h:Below B a W) (hb:B<=b) (d:CC):Below B a ((((((((((((W.setCell ⟨b,0,none⟩ (.int .u8 d.k)).setCell ⟨b,1,none⟩ (.slice d.pa d.pl d.pc)).setCell ⟨b,2,none⟩ (.string d.key)).setCell ⟨b,3,none⟩ (.int .i64 d.i)).setCell ⟨b,4,none⟩ (.int .i64 d.j)).setCell ⟨b,5,none⟩ (.int .i64 d.n)).setCell ⟨b,6,none⟩ (.int .u8 d.v.k)).setCell ⟨b,7,none⟩ (.int .i64 d.v.n)).setCell ⟨b,8,none⟩ (.string d.v.s)).setCell ⟨b,9,none⟩ (.slice d.v.la d.v.ll d.v.lc)).setCell ⟨b,10,none⟩ (.slice d.v.oa d.v.ol d.v.oc)).setCell ⟨b,11,none⟩ (.string d.s)):=
 ((((((((((((h.set_ hb).set_ hb).set_ hb).set_ hb).set_ hb).set_ hb).set_ hb).set_ hb).set_ hb).set_ hb).set_ hb).set_ hb)
structure AB (w W:World) (c:CC) (a:AC) (d:CC:=czero):Prop where
 c:BC W w.heap.size (ccells c)
 a:BC W (w.heap.size+1) (acells a)
 r:BC W (w.heap.size+1+1) (ccells d)
 below:Below w.heap.size w W
theorem AB.startd (w:World) (c:CC) (a:AC) (d:CC) (t1 t2 t3:TypeId):AB w (((w.alloc (.cells #[.int .u8 c.k, .slice c.pa c.pl c.pc, .string c.key, .int .i64 c.i, .int .i64 c.j, .int .i64 c.n, .int .u8 c.v.k, .int .i64 c.v.n, .string c.v.s, .slice c.v.la c.v.ll c.v.lc, .slice c.v.oa c.v.ol c.v.oc, .string c.s] t1)).alloc (.cells #[.slice a.pa a.pl a.pc, .int .u8 a.k, .int .i64 a.i, .int .i64 a.j, .int .i64 a.n, .string a.s, .slice a.va a.vl a.vc] t2)).alloc (.cells #[.int .u8 d.k, .slice d.pa d.pl d.pc, .string d.key, .int .i64 d.i, .int .i64 d.j, .int .i64 d.n, .int .u8 d.v.k, .int .i64 d.v.n, .string d.v.s, .slice d.v.la d.v.ll d.v.lc, .slice d.v.oa d.v.ol d.v.oc, .string d.s] t3)) c a d:=by
 obtain ⟨w1,hw1⟩:∃w1,w.alloc (.cells (uC c) t1)=w1:=⟨_,rfl⟩
 have s1:w1.heap.size=w.heap.size+1:=by rw [<-hw1,World.size_alloc]
 have b1:uB w w1:=by rw [<-hw1];exact (Below.refl _ _).alloc (Nat.le_refl _) _
 have c1:BC w1 w.heap.size (ccells c):=by rw [<-hw1];exact BC.start w (uC c) t1
 rw [hw1]
 obtain ⟨w2,hw2⟩:∃w2,w1.alloc (.cells (uA a) t2)=w2:=⟨_,rfl⟩
 have s2:w2.heap.size=w.heap.size+1+1:=by rw [<-hw2,World.size_alloc,s1]
 have b2:uB w1 w2:=by rw [<-hw2];exact (Below.refl _ _).alloc (Nat.le_refl _) _
 have c2:=BC.start w1 (uA a) t2
 rw [hw2,s1] at c2
 rw [hw2]
 have b3:uB w2 (w2.alloc (.cells (uC d) t3)):=(Below.refl _ _).alloc (Nat.le_refl _) _
 have c3:=BC.start w2 (uC d) t3
 rw [s2] at c3
 exact ⟨(c1.keep b2 (by omega)).keep b3 (by omega),c2.keep b3 (by omega),c3,(b1.trans (b2.mono (by omega))).trans (b3.mono (by omega))⟩
theorem AB.start (w:World) (c:CC) (a:AC) (t1 t2 t3:TypeId):AB w (((w.alloc (.cells #[.int .u8 c.k, .slice c.pa c.pl c.pc, .string c.key, .int .i64 c.i, .int .i64 c.j, .int .i64 c.n, .int .u8 c.v.k, .int .i64 c.v.n, .string c.v.s, .slice c.v.la c.v.ll c.v.lc, .slice c.v.oa c.v.ol c.v.oc, .string c.s] t1)).alloc (.cells #[.slice a.pa a.pl a.pc, .int .u8 a.k, .int .i64 a.i, .int .i64 a.j, .int .i64 a.n, .string a.s, .slice a.va a.vl a.vc] t2)).alloc (.cells #[.int .u8 0, .slice none 0 0, .string { data:= #[] }, .int .i64 0, .int .i64 0, .int .i64 0, .int .u8 0, .int .i64 0, .string { data:= #[] }, .slice none 0 0, .slice none 0 0, .string { data:= #[] }] t3)) c a:=
 AB.startd w c a czero t1 t2 t3
theorem AB.next {w W W':World} {c d:CC} {a:AC} {B:Nat} (h:AB w W c a d) (hb:Below B W W') (hB:w.heap.size+3<=B):AB w W' c a d:=
 ⟨h.c.keep hb (by omega),h.a.keep hb (by omega),h.r.keep hb (by omega),h.below.trans (hb.mono (by omega))⟩
theorem AB.facts {w W:World} {c d:CC} {a:AC} (B:AB w W c a d):W.cell? ⟨w.heap.size,0,none⟩=some (.int .u8 c.k)/\W.cell? ⟨w.heap.size,1,none⟩=some (.slice c.pa c.pl c.pc)/\W.cell? ⟨w.heap.size,2,none⟩=some (.string c.key)/\W.cell? ⟨w.heap.size,3,none⟩=some (.int .i64 c.i)/\W.cell? ⟨w.heap.size,4,none⟩=some (.int .i64 c.j)/\W.cell? ⟨w.heap.size,5,none⟩=some (.int .i64 c.n)/\W.cell? ⟨w.heap.size,6,none⟩=some (.int .u8 c.v.k)/\W.cell? ⟨w.heap.size,7,none⟩=some (.int .i64 c.v.n)/\W.cell? ⟨w.heap.size,8,none⟩=some (.string c.v.s)/\W.cell? ⟨w.heap.size,9,none⟩=some (.slice c.v.la c.v.ll c.v.lc)/\W.cell? ⟨w.heap.size,10,none⟩=some (.slice c.v.oa c.v.ol c.v.oc)/\W.cell? ⟨w.heap.size,11,none⟩=some (.string c.s)/\W.cell? ⟨w.heap.size+1,0,none⟩=some (.slice a.pa a.pl a.pc)/\W.cell? ⟨w.heap.size+1,1,none⟩=some (.int .u8 a.k)/\W.cell? ⟨w.heap.size+1,2,none⟩=some (.int .i64 a.i)/\W.cell? ⟨w.heap.size+1,3,none⟩=some (.int .i64 a.j)/\W.cell? ⟨w.heap.size+1,4,none⟩=some (.int .i64 a.n)/\W.cell? ⟨w.heap.size+1,5,none⟩=some (.string a.s)/\W.cell? ⟨w.heap.size+1,6,none⟩=some (.slice a.va a.vl a.vc)/\W.cell? ⟨w.heap.size+1+1,0,none⟩=some (.int .u8 d.k)/\W.cell? ⟨w.heap.size+1+1,1,none⟩=some (.slice d.pa d.pl d.pc)/\W.cell? ⟨w.heap.size+1+1,2,none⟩=some (.string d.key)/\W.cell? ⟨w.heap.size+1+1,3,none⟩=some (.int .i64 d.i)/\W.cell? ⟨w.heap.size+1+1,4,none⟩=some (.int .i64 d.j)/\W.cell? ⟨w.heap.size+1+1,5,none⟩=some (.int .i64 d.n)/\W.cell? ⟨w.heap.size+1+1,6,none⟩=some (.int .u8 d.v.k)/\W.cell? ⟨w.heap.size+1+1,7,none⟩=some (.int .i64 d.v.n)/\W.cell? ⟨w.heap.size+1+1,8,none⟩=some (.string d.v.s)/\W.cell? ⟨w.heap.size+1+1,9,none⟩=some (.slice d.v.la d.v.ll d.v.lc)/\W.cell? ⟨w.heap.size+1+1,10,none⟩=some (.slice d.v.oa d.v.ol d.v.oc)/\W.cell? ⟨w.heap.size+1+1,11,none⟩=some (.string d.s)/\W.frozen? ⟨w.heap.size,0,none⟩=false/\W.frozen? ⟨w.heap.size,1,none⟩=false/\W.frozen? ⟨w.heap.size,2,none⟩=false/\W.frozen? ⟨w.heap.size,3,none⟩=false/\W.frozen? ⟨w.heap.size,4,none⟩=false/\W.frozen? ⟨w.heap.size,5,none⟩=false/\W.frozen? ⟨w.heap.size,6,none⟩=false/\W.frozen? ⟨w.heap.size,7,none⟩=false/\W.frozen? ⟨w.heap.size,8,none⟩=false/\W.frozen? ⟨w.heap.size,9,none⟩=false/\W.frozen? ⟨w.heap.size,10,none⟩=false/\W.frozen? ⟨w.heap.size,11,none⟩=false/\W.frozen? ⟨w.heap.size+1+1,0,none⟩=false/\W.frozen? ⟨w.heap.size+1+1,1,none⟩=false/\W.frozen? ⟨w.heap.size+1+1,2,none⟩=false/\W.frozen? ⟨w.heap.size+1+1,3,none⟩=false/\W.frozen? ⟨w.heap.size+1+1,4,none⟩=false/\W.frozen? ⟨w.heap.size+1+1,5,none⟩=false/\W.frozen? ⟨w.heap.size+1+1,6,none⟩=false/\W.frozen? ⟨w.heap.size+1+1,7,none⟩=false/\W.frozen? ⟨w.heap.size+1+1,8,none⟩=false/\W.frozen? ⟨w.heap.size+1+1,9,none⟩=false/\W.frozen? ⟨w.heap.size+1+1,10,none⟩=false/\W.frozen? ⟨w.heap.size+1+1,11,none⟩=false/\w.heap.size<W.heap.size/\w.heap.size+1<W.heap.size/\w.heap.size+1+1<W.heap.size:=
 ⟨B.c.at_ 0 _ rfl,B.c.at_ 1 _ rfl,B.c.at_ 2 _ rfl,B.c.at_ 3 _ rfl,B.c.at_ 4 _ rfl,B.c.at_ 5 _ rfl,B.c.at_ 6 _ rfl,B.c.at_ 7 _ rfl,B.c.at_ 8 _ rfl,B.c.at_ 9 _ rfl,B.c.at_ 10 _ rfl,B.c.at_ 11 _ rfl,B.a.at_ 0 _ rfl,B.a.at_ 1 _ rfl,B.a.at_ 2 _ rfl,B.a.at_ 3 _ rfl,B.a.at_ 4 _ rfl,B.a.at_ 5 _ rfl,B.a.at_ 6 _ rfl,B.r.at_ 0 _ rfl,B.r.at_ 1 _ rfl,B.r.at_ 2 _ rfl,B.r.at_ 3 _ rfl,B.r.at_ 4 _ rfl,B.r.at_ 5 _ rfl,B.r.at_ 6 _ rfl,B.r.at_ 7 _ rfl,B.r.at_ 8 _ rfl,B.r.at_ 9 _ rfl,B.r.at_ 10 _ rfl,B.r.at_ 11 _ rfl,B.c.fr 0,B.c.fr 1,B.c.fr 2,B.c.fr 3,B.c.fr 4,B.c.fr 5,B.c.fr 6,B.c.fr 7,B.c.fr 8,B.c.fr 9,B.c.fr 10,B.c.fr 11,B.r.fr 0,B.r.fr 1,B.r.fr 2,B.r.fr 3,B.r.fr 4,B.r.fr 5,B.r.fr 6,B.r.fr 7,B.r.fr 8,B.r.fr 9,B.r.fr 10,B.r.fr 11,B.c.lt,B.a.lt,B.r.lt⟩
end Go.Proofs.YtbgheehjfnoiiaaGreatDoor
