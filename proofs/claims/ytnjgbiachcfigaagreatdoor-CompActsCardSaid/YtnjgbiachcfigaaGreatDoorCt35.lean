/-
  Contracts of the functions that the law reaches: conciliatorref06.fields.
-/
import Derived.Test.YtnjgbiachcfigaaGreatDoorCt29
namespace Go.Proofs.YtnjgbiachcfigaaGreatDoor
open Go.RowKit
set_option maxHeartbeats 16000000
set_option maxRecDepth 100000 in
theorem zes (w:World) (S:Nat->Prop) (hS:∀k,w.heap.size<=k->S k) (o:List (ByteArray×V)) (oa:Option Addr) (ol oc:Nat) (ho:IsFields (only S w) w.heap.size o oa ol oc) (cc:CC) (xv:V) (hxv:IsVal w w.heap.size xv cc.v) (hks:cc.key.size<=140737488355328) (hfew:ol<=100000000):
 Calls Tryz.prog 48 #[.slice oa ol oc, .agg #[.int .u8 cc.k, .slice cc.pa cc.pl cc.pc, .string cc.key, .int .i64 cc.i, .int .i64 cc.j, .int .i64 cc.n, .int .u8 cc.v.k, .int .i64 cc.v.n, .string cc.v.s, .slice cc.v.la cc.v.ll cc.v.lc, .slice cc.v.oa cc.v.ol cc.v.oc, .string cc.s]] w (FieldsPost w S (fieldsDo o cc.key xv (cc.k==3))):=by
 obtain ⟨i0,hi0,hz0,hz1,hz2⟩:=info_parts Ya
 have k2:=ho.max
 have HLN:=qh ho.len
 have HO:=qh ho
 have HCV:Hid (∀W,Below w.heap.size w W->Calls Tryz.prog 30 #[.agg #[.int .u8 cc.v.k, .int .i64 cc.v.n, .string cc.v.s, .slice cc.v.la cc.v.ll cc.v.lc, .slice cc.v.oa cc.v.ol cc.v.oc]] W (NewVal W xv)):=fun W hW=>Yz xv W cc.v (hxv.later_ hW)
 have HBX:=qh (BC.start w #[.int .u8 cc.k, .slice cc.pa cc.pl cc.pc, .string cc.key, .int .i64 cc.i, .int .i64 cc.j, .int .i64 cc.n, .int .u8 cc.v.k, .int .i64 cc.v.n, .string cc.v.s, .slice cc.v.la cc.v.ll cc.v.lc, .slice cc.v.oa cc.v.ol cc.v.oc, .string cc.s] 39)
 have HAL:=qh ((Below.refl _ _).alloc (Nat.le_refl _) (.cells #[.int .u8 cc.k, .slice cc.pa cc.pl cc.pc, .string cc.key, .int .i64 cc.i, .int .i64 cc.j, .int .i64 cc.n, .int .u8 cc.v.k, .int .i64 cc.v.n, .string cc.v.s, .slice cc.v.la cc.v.ll cc.v.lc, .slice cc.v.oa cc.v.ol cc.v.oc, .string cc.s] 39):Below w.heap.size w _)
 obtain ⟨del,hdel⟩:∃del,(cc.k==3)=del:=⟨_,rfl⟩
 obtain ⟨R,hR⟩:∃R,FieldsPost w S (fieldsDo o cc.key xv (cc.k==3))=R:=⟨_,rfl⟩
 rw [hR]
 rw [hdel] at hR
 have HR:=qh hR
 clear ho hxv hR
 go_enter Tryz.func48,Tryz.ntmps48
 go_wp2_with fail
 have B:=HBX.out
 obtain ⟨W0,hW0⟩:∃W0,(w.alloc (.cells #[.int .u8 cc.k, .slice cc.pa cc.pl cc.pc, .string cc.key, .int .i64 cc.i, .int .i64 cc.j, .int .i64 cc.n, .int .u8 cc.v.k, .int .i64 cc.v.n, .string cc.v.s, .slice cc.v.la cc.v.ll cc.v.lc, .slice cc.v.oa cc.v.ol cc.v.oc, .string cc.s] 39))=W0:=⟨_,rfl⟩
 have hal0:=HAL.out
 rw [hW0] at B hal0 ⊢
 clear HBX HAL hW0
 obtain ⟨b0,b1,b2,b3,b4,b5,b6,b7,b8,b9,b10,b11⟩:=row12 B.at_
 have z0:=B.lt
 have HB:=qh B
 have HBL0:=qh hal0
 have HFB:Hid (∀W,Below W0.heap.size W0.drew W->W.cell? ⟨w.heap.size,2,none⟩=some (.string cc.key)/\W.cell? ⟨w.heap.size,6,none⟩=some (.int .u8 cc.v.k)/\W.cell? ⟨w.heap.size,7,none⟩=some (.int .i64 cc.v.n)/\W.cell? ⟨w.heap.size,8,none⟩=some (.string cc.v.s)/\W.cell? ⟨w.heap.size,9,none⟩=some (.slice cc.v.la cc.v.ll cc.v.lc)/\W.cell? ⟨w.heap.size,10,none⟩=some (.slice cc.v.oa cc.v.ol cc.v.oc)):=by
  intro W hW
  have hk:∀o u,W0.cell? ⟨w.heap.size,o,none⟩=some u->W.cell? ⟨w.heap.size,o,none⟩=some u:=fun o u h=>Zb hW (Zb (Zf W0) h z0) z0
  exact ⟨hk _ _ b2,hk _ _ b6,hk _ _ b7,hk _ _ b8,hk _ _ b9,hk _ _ b10⟩
 have HC:Hid (∀W,Below W0.heap.size W0.drew W->Calls Tryz.prog 30 #[.agg #[.int .u8 cc.v.k, .int .i64 cc.v.n, .string cc.v.s, .slice cc.v.la cc.v.ll cc.v.lc, .slice cc.v.oa cc.v.ol cc.v.oc]] W (NewVal W xv)):=fun W hW=>HCV.out W ((HBL0.out.trans ((Zf W0).mono HBL0.out.size)).trans (hW.mono HBL0.out.size))
 clear B hal0 HCV
 refine wp_region_noPanic ?_
 go_region_held_law (fun W=>W.cell? ⟨w.heap.size,2,none⟩=some (.string cc.key)/\W.cell? ⟨w.heap.size,6,none⟩=some (.int .u8 cc.v.k)/\W.cell? ⟨w.heap.size,7,none⟩=some (.int .i64 cc.v.n)/\W.cell? ⟨w.heap.size,8,none⟩=some (.string cc.v.s)/\W.cell? ⟨w.heap.size,9,none⟩=some (.slice cc.v.la cc.v.ll cc.v.lc)/\W.cell? ⟨w.heap.size,10,none⟩=some (.slice cc.v.oa cc.v.ol cc.v.oc))
  ((refine HFB.out _ ?_;(first|(with_reducible exact bl4)|(with_reducible exact Below.refl _ _)|(with_reducible exact Zq _ _)|(with_reducible exact Below.set6 bl4 (Nat.le_refl _) _ _ _ _ _ _)|(with_reducible exact Below.set6 (Below.alloc bl4 bz4 _) bz4 _ _ _ _ _ _)|(with_reducible exact Below.alloc bl4 bz4 _))))
  (first
   |(go_at_call 30;(with_reducible refine (HC.out _ (Below.refl _ _)).mono ?_);rintro e w4 ⟨⟨d,rfl,hI4⟩,hb4⟩;have bl4:Below W0.heap.size W0.drew w4:=hb4;have bz4:W0.heap.size<=w4.heap.size:=hb4.size;have hI5:IsVal (only (fun b=>W0.heap.size<=b) w4) w4.heap.size xv d:=hI4)
   |(go_at_call 30;(with_reducible refine (HC.out _ (Zq _ _)).mono ?_);rintro e w4 ⟨⟨d,rfl,hI4⟩,hb4⟩;have bl4:Below W0.heap.size W0.drew w4:=(Zq _ _).trans (hb4.mono (by simp));have bz4:W0.heap.size<=w4.heap.size:=bl4.size;have hI5:IsVal (only (fun b=>W0.heap.size+1<=b) w4) w4.heap.size xv d:=hI4.sub (Ze fun k hk _=>⟨by have h1:(W0.alloc _).heap.size<=k:=hk;rw [World.size_alloc] at h1;exact h1,rfl⟩);have XB:=Xt hb4;have xc0:=XB.at_ 0 _ rfl;have xc1:=XB.at_ 1 _ rfl;have xc2:=XB.at_ 2 _ rfl;have xc3:=XB.at_ 3 _ rfl;have xc4:=XB.at_ 4 _ rfl;have xc5:=XB.at_ 5 _ rfl;have xg0:=XB.fr 0;have xg1:=XB.fr 1;have xg2:=XB.fr 2;have xg3:=XB.fr 3;have xg4:=XB.fr 4;have xg5:=XB.fr 5;have hxlt:=XB.lt))
 all_goals
  (first
   |((with_reducible refine Zu (P:=fun W=>(BC W w4.heap.size (fcells (cc.key,d))/\Below W0.heap.size W0.drew W/\W0.heap.size<=w4.heap.size)/\Hid (IsVal (only (fun b=>W0.heap.size<=b) W) W.heap.size xv d)) (zdg bl4 bz4 cc.key d _ hI5) ?_);rintro W1 ⟨⟨YF,hbW, -⟩,hI6⟩;generalize w4.heap.size=yb at YF ⊢)
   |((with_reducible refine Zu (P:=fun W=>(BC W W0.heap.size (fcells (cc.key,d))/\Below W0.heap.size W0.drew W/\W0.heap.size<=W0.heap.size)/\Hid (IsVal (only (fun b=>W0.heap.size<=b) W) W.heap.size xv d)) (zlh bl4 cc.key d XB hI5) ?_);rintro W1 ⟨⟨YF,hbW, -⟩,hI6⟩;generalize W0.heap.size=yb at YF ⊢))
  clear hb4 bl4 hI4 hI5 HFB HC
  have hbl1:=HBL0.out.trans (((Zf W0).trans hbW).mono HBL0.out.size)
  have B1:=HB.out.keep ((Zf W0).trans hbW) z0
  have hw01:W0.heap.size<=W1.heap.size:=hbW.size
  have hw0:=HBL0.out.size
  have hsh:Shows (only S w) (only S W1) w.heap.size:=Ze fun k hk hl=>⟨hk,hbl1.block k hl⟩
  have hI7:IsVal (only S W1) W1.heap.size xv d:=hI6.out.sub (Ze fun k hk _=>⟨hS k (by omega),rfl⟩)
  have hO7:IsFields (only S W1) W1.heap.size o oa ol oc:=(IsFields.sub hsh HO.out).more hbl1.size
  have HI7:=qh hI7
  have HO7:=qh hO7
  have HBL1:=qh hbl1
  have HB1:=qh B1
  have HYF:=qh YF
  have ylt:=YF.lt
  have z1:=B1.lt
  clear b0 b1 b2 b3 b4 b5 b6 b7 b8 b9 b10 b11
  obtain ⟨b0,b1,b2,b3,b4,b5,b6,b7,b8,b9,b10,b11⟩:=row12 B1.at_
  clear hbW hI6 hsh hI7 hO7 hbl1 B1 YF
  go_wp2_with fail
  go_loopw [5,6,8] (fun u dn i wr=>∃(j:Nat) (a:Option Addr) (m c:Nat) (xs:List (ByteArray×V)) (cs:List (ByteArray×VC)) (done:Bool),j<=ol/\i= .int .i64 j/\u= .slice a m c/\dn= .bool done/\FH W1 wr S o cc.key xv del j (.slice a m c) xs cs done) (fun _ _ i _=>ol - (intOf i).toNat)
  case atStart=>exact ⟨0,none,0,0, [], [],del,Nat.zero_le _,rfl,rfl,rfl,⟨rfl,Nat.le_refl _,rfl,⟨rfl, .inl ⟨rfl,rfl⟩⟩,fun i h=>absurd h (by simp),Below.refl _ _⟩⟩
  case round=>
   obtain ⟨j,a,m,c,xs,cs,done,hj,rfl,rfl,rfl,L⟩:=hrel
   have C1:=HB1.out.keep L.below z1
   have Y1:=HYF.out.keep L.below ylt
   have y0:=Y1.at_ 0 _ rfl;have y1:=Y1.at_ 1 _ rfl;have y2:=Y1.at_ 2 _ rfl;have y3:=Y1.at_ 3 _ rfl;have y4:=Y1.at_ 4 _ rfl;have y5:=Y1.at_ 5 _ rfl
   clear b0 b1 b2 b3 b4 b5 b6 b7 b8 b9 b10 b11
   have b2:=C1.at_ 2 _ rfl
   have zs:=C1.lt
   have zy:=Y1.lt
   have hrlt:∀g,(Value.slice a m c).ownBlock=some g->W1.heap.size<=g:=fun g hg=>(L.own.lt g hg).1
   have hfx:=L.few
   have HL:=qh L
   clear C1 Y1
   by_cases hlt:j<ol
   .obtain ⟨b,q,f,hp,rfl,hbB,hkey,hks2,hvf,hIf⟩:=HO7.out.get hlt
    have hbW:b<W1.heap.size:=hbB
    have hky:=Zb L.below (Zw hkey).2 hbW
    have hvf2:ValAt wr b (q+j*6+1) f:=(hvf.sub (Zn _ _ _) hbW).keep L.below hbW
    have c0:=hvf2.c0;have c1:=hvf2.c1;have c2:=hvf2.c2;have c3:=hvf2.c3;have c4:=hvf2.c4
    have hbw:b<wr.heap.size:=World.block_lt_of_cell? wr _ c0
    obtain ⟨sk,hsk⟩:∃sk,o[j].1=sk:=⟨_,rfl⟩
    rw [hsk] at hky hks2
    have hstep:(o.take (j+1)).foldl (fldStep cc.key xv) ([],del)=fldStep cc.key xv (xs,done) (sk,o[j].2):=by
     rw [zhy _ _ o j hp,L.rd, <-hsk]
    have HSP:=qh hstep
    have HIF:=qh hIf
    have hown:=L.own
    obtain ⟨lb,hlb⟩:∃lb,Op.bytesLess sk.toList cc.key.toList=lb:=⟨_,rfl⟩
    obtain ⟨eb,heb⟩:∃eb,(sk.toList==cc.key.toList)=eb:=⟨_,rfl⟩
    rw [hsk] at hkey
    have HKY:=qh hkey
    have HVF:=qh hvf
    clear L hkey hvf hvf2 hIf hsk hstep
    cases done with
    | true=>
      cases eb with
      | true=>
        have hfs:fldStep cc.key xv (xs,true) (sk,o[j].2)=(xs,true):=by rw [fldStep,if_neg (by simp),if_pos (by simpa using heb)]
        have HFS:=qh hfs
        clear hfs hlb
        go_wp2_with fail
        go_quiet (fail)
        go_wp2_with fail
        go_quiet (fail)
        go_wp2_with fail
        go_roundw
        case rel=>exact ⟨j+1,a,m,c,xs,cs,true,by omega,by go_num,rfl,rfl,⟨HSP.out.trans HFS.out,by omega,HL.out.cen,Yq hown _,HL.out.els,Z6 HL.out.below _⟩⟩
        case measure=>simp [intOf];omega
      | false=>
        have hfs:fldStep cc.key xv (xs,true) (sk,o[j].2)=(xs++ [(sk,o[j].2)],true):=by rw [fldStep,if_neg (by simp),if_neg (by simpa using heb)]
        have HFS:=qh hfs
        clear hfs hlb
        have zw:=HL.out.below.size
        go_wp2_with fail
        go_quiet (fail)
        go_wp2_with fail
        go_quiet (fail)
        go_wp2_with (at_builtin;refine wpList_append_lies _ rfl (.tmp 48) (.tmp 53) 34 (by rfl) W1.heap.size 75 i0 _ 6 96 Tryz.underlying34 hi0 hz0 hz1 hz2 rfl (by omega) (.slice a m c) xs.length (cs.flatMap fcells) (by rfl) ((Yq hown _).alloc _) ⟨wr.heap.size,0,none⟩ 1 1 (fcells (sk,f)) (by rfl) (by rfl) (Qa wr _ sk f _) (by simp [fcells,Value.oneCell']) (by omega) (by unfold maxLen;omega) (by omega) (by first|omega|(rw [Zr];omega)|(simp;omega)) (wr.heap.size+1) (by first|exact Zr _ _ _|simp) ?_;intro g cap w7 hownw7 hgroww7 hatw7 hltw7)
        have G2:=Xk (x:=o[j].2) hrlt HL.out.cen HL.out.els HL.out.below hks2 HIF.out ((Y8 wr _).alloc (Nat.le_refl _) _) hownw7 hgroww7
        go_roundw
        case rel=>exact ⟨j+1,some ⟨g,0,none⟩,xs.length+1,cap,xs++ [(sk,o[j].2)],cs++ [(sk,f)],true,by omega,by go_num,rfl,rfl,⟨HSP.out.trans HFS.out,by rw [List.length_append,List.length_singleton];omega,G2.1,G2.2.1,G2.2.2.1,G2.2.2.2⟩⟩
        case measure=>simp [intOf];omega
    | false=>
      cases lb with
      | true=>
        cases eb with
        | true=>
          have hfs:fldStep cc.key xv (xs,false) (sk,o[j].2)=(xs,false):=by rw [fldStep,if_neg (by simp [hlb]),if_pos (by simpa using heb)]
          have HFS:=qh hfs
          clear hfs
          go_wp2_with fail
          go_quiet (fail)
          go_wp2_with fail
          go_quiet (fail)
          go_wp2_with fail
          go_roundw
          case rel=>exact ⟨j+1,a,m,c,xs,cs,false,by omega,by go_num,rfl,rfl,⟨HSP.out.trans HFS.out,by omega,HL.out.cen,Yq hown _,HL.out.els,Z6 HL.out.below _⟩⟩
          case measure=>simp [intOf];omega
        | false=>
          have hfs:fldStep cc.key xv (xs,false) (sk,o[j].2)=(xs++ [(sk,o[j].2)],false):=by rw [fldStep,if_neg (by simp [hlb]),if_neg (by simpa using heb)]
          have HFS:=qh hfs
          clear hfs
          have zw:=HL.out.below.size
          go_wp2_with fail
          go_quiet (fail)
          go_wp2_with fail
          go_quiet (fail)
          go_wp2_with (at_builtin;refine wpList_append_lies _ rfl (.tmp 48) (.tmp 53) 34 (by rfl) W1.heap.size 75 i0 _ 6 96 Tryz.underlying34 hi0 hz0 hz1 hz2 rfl (by omega) (.slice a m c) xs.length (cs.flatMap fcells) (by rfl) ((Yq hown _).alloc _) ⟨wr.heap.size,0,none⟩ 1 1 (fcells (sk,f)) (by rfl) (by rfl) (Qa wr _ sk f _) (by simp [fcells,Value.oneCell']) (by omega) (by unfold maxLen;omega) (by omega) (by first|omega|(rw [Zr];omega)|(simp;omega)) (wr.heap.size+1) (by first|exact Zr _ _ _|simp) ?_;intro g cap w7 hownw7 hgroww7 hatw7 hltw7)
          have G2:=Xk (x:=o[j].2) hrlt HL.out.cen HL.out.els HL.out.below hks2 HIF.out ((Y8 wr _).alloc (Nat.le_refl _) _) hownw7 hgroww7
          go_roundw
          case rel=>exact ⟨j+1,some ⟨g,0,none⟩,xs.length+1,cap,xs++ [(sk,o[j].2)],cs++ [(sk,f)],false,by omega,by go_num,rfl,rfl,⟨HSP.out.trans HFS.out,by rw [List.length_append,List.length_singleton];omega,G2.1,G2.2.1,G2.2.2.1,G2.2.2.2⟩⟩
          case measure=>simp [intOf];omega
      | false=>
        have zw:=HL.out.below.size
        cases eb with
        | true=>
          have hfs:fldStep cc.key xv (xs,false) (sk,o[j].2)=(xs++ [(cc.key,xv)],true):=by rw [fldStep,if_pos ⟨rfl,hlb⟩,if_pos (by simpa using heb)]
          have HFS:=qh hfs
          clear hfs
          go_wp2_with fail
          go_quiet (fail)
          go_wp2_with (at_builtin;refine wpList_append_lies _ rfl (.tmp 36) (.tmp 38) 34 (by rfl) W1.heap.size 75 i0 _ 6 96 Tryz.underlying34 hi0 hz0 hz1 hz2 rfl (by omega) (.slice a m c) xs.length (cs.flatMap fcells) (by rfl) ((Yq hown _).alloc _) ⟨wr.heap.size,0,none⟩ 1 1 (fcells (cc.key,d)) (by rfl) (by rfl) (Qa wr _ cc.key d _) (by simp [fcells,Value.oneCell']) (by omega) (by unfold maxLen;omega) (by omega) (by first|omega|(rw [Zr];omega)|(simp;omega)) (wr.heap.size+1) (by first|exact Zr _ _ _|simp) ?_;intro g cap w7 hownw7 hgroww7 hatw7 hltw7)
          have G2:=Xk (x:=xv) hrlt HL.out.cen HL.out.els HL.out.below hks HI7.out ((Y8 wr _).alloc (Nat.le_refl _) _) hownw7 hgroww7
          have hk7:∀b o u,b<W1.heap.size->W1.cell? ⟨b,o,none⟩=some u->w7.cell? ⟨b,o,none⟩=some u:=fun b o u hb h=>Zb G2.2.2.2 h hb
          have hkw:∀o u,(only S W1).cell? ⟨b,o,none⟩=some u->w7.cell? ⟨b,o,none⟩=some u:=fun o u h=>hk7 _ _ _ hbW (Zw h).2
          have hky7:=hkw _ _ HKY.out
          have d0:=hkw _ _ HVF.out.c0;have d1:=hkw _ _ HVF.out.c1;have d2:=hkw _ _ HVF.out.c2;have d3:=hkw _ _ HVF.out.c3;have d4:=hkw _ _ HVF.out.c4
          have hbw7:b<w7.heap.size:=World.block_lt_of_cell? w7 _ d0
          have b27:=(HB1.out.keep G2.2.2.2 z1).at_ 2 _ rfl
          have zs7:=(HB1.out.keep G2.2.2.2 z1).lt
          go_quiet (fail)
          go_wp2_with fail
          go_roundw
          case rel=>exact ⟨j+1,some ⟨g,0,none⟩,xs.length+1,cap,xs++ [(cc.key,xv)],cs++ [(cc.key,d)],true,by omega,by go_num,rfl,rfl,⟨HSP.out.trans HFS.out,by rw [List.length_append,List.length_singleton];omega,G2.1,Yq G2.2.1 _,G2.2.2.1,Z6 G2.2.2.2 _⟩⟩
          case measure=>simp [intOf];omega
        | false=>
          have hfs:fldStep cc.key xv (xs,false) (sk,o[j].2)=(xs++ [(cc.key,xv)] ++ [(sk,o[j].2)],true):=by rw [fldStep,if_pos ⟨rfl,hlb⟩,if_neg (by simpa using heb)]
          have HFS:=qh hfs
          clear hfs
          go_wp2_with fail
          go_quiet (fail)
          go_wp2_with (at_builtin;refine wpList_append_lies _ rfl (.tmp 36) (.tmp 38) 34 (by rfl) W1.heap.size 75 i0 _ 6 96 Tryz.underlying34 hi0 hz0 hz1 hz2 rfl (by omega) (.slice a m c) xs.length (cs.flatMap fcells) (by rfl) ((Yq hown _).alloc _) ⟨wr.heap.size,0,none⟩ 1 1 (fcells (cc.key,d)) (by rfl) (by rfl) (Qa wr _ cc.key d _) (by simp [fcells,Value.oneCell']) (by omega) (by unfold maxLen;omega) (by omega) (by first|omega|(rw [Zr];omega)|(simp;omega)) (wr.heap.size+1) (by first|exact Zr _ _ _|simp) ?_;intro g cap w7 hownw7 hgroww7 hatw7 hltw7)
          have G2:=Xk (x:=xv) hrlt HL.out.cen HL.out.els HL.out.below hks HI7.out ((Y8 wr _).alloc (Nat.le_refl _) _) hownw7 hgroww7
          have hk7:∀b o u,b<W1.heap.size->W1.cell? ⟨b,o,none⟩=some u->w7.cell? ⟨b,o,none⟩=some u:=fun b o u hb h=>Zb G2.2.2.2 h hb
          have hkw:∀o u,(only S W1).cell? ⟨b,o,none⟩=some u->w7.cell? ⟨b,o,none⟩=some u:=fun o u h=>hk7 _ _ _ hbW (Zw h).2
          have hky7:=hkw _ _ HKY.out
          have d0:=hkw _ _ HVF.out.c0;have d1:=hkw _ _ HVF.out.c1;have d2:=hkw _ _ HVF.out.c2;have d3:=hkw _ _ HVF.out.c3;have d4:=hkw _ _ HVF.out.c4
          have hbw7:b<w7.heap.size:=World.block_lt_of_cell? w7 _ d0
          have b27:=(HB1.out.keep G2.2.2.2 z1).at_ 2 _ rfl
          have zs7:=(HB1.out.keep G2.2.2.2 z1).lt
          go_quiet (fail)
          have hrlt2:∀q,(Value.slice (some ⟨g,0,none⟩) (xs.length+1) cap).ownBlock=some q->W1.heap.size<=q:=fun q hq=>(hownw7.lt q hq).1
          have hown2:=G2.2.1
          rw [List.length_append,List.length_singleton] at hown2
          have zw7:=G2.2.2.2.size
          go_wp2_with (at_builtin;refine wpList_append_lies _ rfl (.tmp 48) (.tmp 53) 34 (by rfl) W1.heap.size 75 i0 _ 6 96 Tryz.underlying34 hi0 hz0 hz1 hz2 rfl (by omega) (.slice (some ⟨g,0,none⟩) (xs.length+1) cap) (xs.length+1) ((cs++ [(cc.key,d)]).flatMap fcells) (by rfl) ((Yq hown2 _).alloc _) ⟨w7.heap.size,0,none⟩ 1 1 (fcells (sk,f)) (by rfl) (by rfl) (Qa w7 _ sk f _) (by simp [fcells,Value.oneCell']) (by omega) (by unfold maxLen;omega) (by omega) (by first|omega|(rw [Zr];omega)|(simp;omega)) (w7.heap.size+1) (by first|exact Zr _ _ _|simp) ?_;intro g9 cap9 w9 hownw9 hgroww9 hatw9 hltw9)
          have hown9:w9.ownsRow W1.heap.size 75 6 (.slice (some ⟨g9,0,none⟩) (xs.length+1+1) cap9) ((xs++ [(cc.key,xv)]).length+1) ((cs++ [(cc.key,d)]).flatMap fcells++fcells (sk,f)):=by rw [List.length_append,List.length_singleton];exact hownw9
          have G4:=Xk (x:=o[j].2) hrlt2 G2.1 G2.2.2.1 G2.2.2.2 hks2 HIF.out ((Y8 w7 _).alloc (Nat.le_refl _) _) hown9 hgroww9
          go_roundw
          case rel=>exact ⟨j+1,some ⟨g9,0,none⟩,xs.length+1+1,cap9,xs++ [(cc.key,xv)] ++ [(sk,o[j].2)],cs++ [(cc.key,d)] ++ [(sk,f)],true,by omega,by go_num,rfl,rfl,⟨HSP.out.trans HFS.out,by rw [List.length_append,List.length_append,List.length_singleton,List.length_singleton];omega,G4.1,G4.2.1,G4.2.2.1,G4.2.2.2⟩⟩
          case measure=>simp [intOf];omega
   .have hjn:j=ol:=by omega
    subst hjn
    have hfold:o.foldl (fldStep cc.key xv) ([],del)=(xs,done):=by
     rw [<-HL.out.rd,HLN.out,List.take_length]
    have HFD:=qh hfold
    have hown:=L.own
    have zw:=L.below.size
    clear L hfold
    cases done with
    | true=>
      go_wp2_with fail
      rw [<-HR.out]
      have hfd:fieldsDo o cc.key xv del=xs:=by rw [fieldsDo,HFD.out];rfl
      rw [hfd]
      have hshw:Shows (only S W1) (only S wr) W1.heap.size:=Ze fun q hq hl=>⟨hq,HL.out.below.block q hl⟩
      obtain ⟨a9,n9,c9,hv,hf,_⟩:=za1 (S:=S) (B1:=W1.heap.size) hown (fun k hk=>hS k (by have:=HBL1.out.size;omega)) HL.out.cen (fun i hi=>PF.closed _ _ _ _ _ _ i hshw zw (HL.out.els i hi)) (by omega)
      exact ⟨⟨a9,n9,c9,by rw [hv],hf⟩,HBL1.out.trans (HL.out.below.mono HBL1.out.size)⟩
    | false=>
      go_wp2_with (at_builtin;refine wpList_append_lies _ rfl (.tmp 57) (.tmp 59) 34 (by rfl) W1.heap.size 75 i0 _ 6 96 Tryz.underlying34 hi0 hz0 hz1 hz2 rfl (by omega) (.slice a m c) xs.length (cs.flatMap fcells) (by rfl) (hown.alloc _) ⟨wr.heap.size,0,none⟩ 1 1 (fcells (cc.key,d)) (by rfl) (by rfl) (World.news_of_block (t:=75) (fr:=(0,0)) (heap_alloc_new wr (.cells #[.string cc.key, .int .u8 d.k, .int .i64 d.n, .string d.s, .slice d.la d.ll d.lc, .slice d.oa d.ol d.oc] 75))) (by simp [fcells,Value.oneCell']) (by omega) (by unfold maxLen;omega) (by omega) (by first|omega|(rw [Zr];omega)|(simp;omega)) (wr.heap.size+1) (by first|exact Zr _ _ _|simp) ?_;intro g cap w7 hownw7 hgroww7 hatw7 hltw7)
      have G2:=Xk (x:=xv) hrlt HL.out.cen HL.out.els HL.out.below hks HI7.out ((Below.refl _ _).alloc (Nat.le_refl _) _) hownw7 hgroww7
      rw [<-HR.out]
      have hfd:fieldsDo o cc.key xv del=xs++ [(cc.key,xv)] :=by rw [fieldsDo,HFD.out];rfl
      rw [hfd]
      have hshw:Shows (only S W1) (only S w7) W1.heap.size:=Ze fun q hq hl=>⟨hq,G2.2.2.2.block q hl⟩
      obtain ⟨a9,n9,c9,hv,hf,_⟩:=za1 (S:=S) (B1:=W1.heap.size) G2.2.1 (fun k hk=>hS k (by have:=HBL1.out.size;omega)) G2.1 (fun i hi=>PF.closed _ _ _ _ _ _ i hshw G2.2.2.2.size (G2.2.2.1 i hi)) (by rw [List.length_append,List.length_singleton];omega)
      exact ⟨⟨a9,n9,c9,by rw [hv],hf⟩,HBL1.out.trans (G2.2.2.2.mono HBL1.out.size)⟩
end Go.Proofs.YtnjgbiachcfigaaGreatDoor
