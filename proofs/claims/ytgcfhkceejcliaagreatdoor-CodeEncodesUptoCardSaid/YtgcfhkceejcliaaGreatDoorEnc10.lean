/-
  Contracts of the functions that the law reaches: conciliatorref06.fields. conciliatorref06.Do. What is written of a sound value comes back. No program in sight. Which values may be kept: code.light and conciliatorref10.light; conciliatorref07.Same; slices.ContainsFunc over components; entries: code.Sound and conciliatorref10.Sound. What Build builds is light. No program in sight. conciliatorlaw03.Walk: a path into a value. What may be done to a value, as choices say: what stands in memory. The boxes of what may be done to a value. What may be done to a value, as choices say, in plain Lean; weights. conciliatorlaw06.list: what is done to a list.
-/
import Derived.Test.YtgcfhkceejcliaaGreatDoorEnc9
namespace Go.Proofs.YtgcfhkceejcliaaGreatDoor
open Go.RowKit
set_option maxHeartbeats 16000000 in
set_option maxRecDepth 100000 in
theorem fields06_any (w:World) (S:Nat→Prop) (hS:∀k,w.heap.size≤k→S k) (o:List (ByteArray×V)) (oa:Option Addr) (ol oc:Nat) (ho:IsFields (only S w) w.heap.size o oa ol oc) (cc:CC) (xv:V) (hxv:IsVal w w.heap.size xv cc.v) (hks:cc.key.size≤140737488355328) (hfew:ol≤100000000):
    Calls Tryz.prog 83 #[.slice oa ol oc, .agg #[.int .u8 cc.k, .slice cc.pa cc.pl cc.pc, .string cc.key, .int .i64 cc.i, .int .i64 cc.j, .int .i64 cc.n, .int .u8 cc.v.k, .int .i64 cc.v.n, .string cc.v.s, .slice cc.v.la cc.v.ll cc.v.lc, .slice cc.v.oa cc.v.ol cc.v.oc, .string cc.s]] w (FieldsPost w S (fieldsDo o cc.key xv (cc.k==3))):=by
  obtain ⟨i0,hi0,hz0,hz1,hz2⟩:=info_parts ginfoFR
  have k2:=ho.max
  have HLN:=Lib.hid ho.len
  have HO:=Lib.hid ho
  have HCV:Hid (∀W,Below w.heap.size w W→Calls Tryz.prog 103 #[.agg #[.int .u8 cc.v.k, .int .i64 cc.v.n, .string cc.v.s, .slice cc.v.la cc.v.ll cc.v.lc, .slice cc.v.oa cc.v.ol cc.v.oc]] W (NewVal W xv)):=fun W hW=>copyIH xv W cc.v (hxv.later_ hW)
  have HBX:=Lib.hid (BC.start w #[.int .u8 cc.k, .slice cc.pa cc.pl cc.pc, .string cc.key, .int .i64 cc.i, .int .i64 cc.j, .int .i64 cc.n, .int .u8 cc.v.k, .int .i64 cc.v.n, .string cc.v.s, .slice cc.v.la cc.v.ll cc.v.lc, .slice cc.v.oa cc.v.ol cc.v.oc, .string cc.s] 63)
  have HAL:=Lib.hid ((Below.refl _ _).alloc (Nat.le_refl _) (.cells #[.int .u8 cc.k, .slice cc.pa cc.pl cc.pc, .string cc.key, .int .i64 cc.i, .int .i64 cc.j, .int .i64 cc.n, .int .u8 cc.v.k, .int .i64 cc.v.n, .string cc.v.s, .slice cc.v.la cc.v.ll cc.v.lc, .slice cc.v.oa cc.v.ol cc.v.oc, .string cc.s] 63):Below w.heap.size w _)
  obtain ⟨del,hdel⟩:∃del,(cc.k==3)=del:=⟨_,rfl⟩
  obtain ⟨R,hR⟩:∃R,FieldsPost w S (fieldsDo o cc.key xv (cc.k==3))=R:=⟨_,rfl⟩
  rw [hR]
  rw [hdel] at hR
  have HR:=Lib.hid hR
  clear ho hxv hR
  go_enter Tryz.func83,Tryz.ntmps83
  go_wp2_with fail
  have B:=HBX.out
  obtain ⟨W0,hW0⟩:∃W0,(w.alloc (.cells #[.int .u8 cc.k, .slice cc.pa cc.pl cc.pc, .string cc.key, .int .i64 cc.i, .int .i64 cc.j, .int .i64 cc.n, .int .u8 cc.v.k, .int .i64 cc.v.n, .string cc.v.s, .slice cc.v.la cc.v.ll cc.v.lc, .slice cc.v.oa cc.v.ol cc.v.oc, .string cc.s] 63))=W0:=⟨_,rfl⟩
  have hal0:=HAL.out
  rw [hW0] at B hal0 ⊢
  clear HBX HAL hW0
  obtain ⟨b0,b1,b2,b3,b4,b5,b6,b7,b8,b9,b10,b11⟩:=row12 B.at_
  have z0:=B.lt
  have HB:=Lib.hid B
  have HBL0:=Lib.hid hal0
  have HFB:Hid (∀W,Below W0.heap.size W0.drew W→W.cell? ⟨w.heap.size,2,none⟩=some (.string cc.key)∧W.cell? ⟨w.heap.size,6,none⟩=some (.int .u8 cc.v.k)∧W.cell? ⟨w.heap.size,7,none⟩=some (.int .i64 cc.v.n)∧W.cell? ⟨w.heap.size,8,none⟩=some (.string cc.v.s)∧W.cell? ⟨w.heap.size,9,none⟩=some (.slice cc.v.la cc.v.ll cc.v.lc)∧W.cell? ⟨w.heap.size,10,none⟩=some (.slice cc.v.oa cc.v.ol cc.v.oc)):=by
    intro W hW
    have hk:∀o u,W0.cell? ⟨w.heap.size,o,none⟩=some u→W.cell? ⟨w.heap.size,o,none⟩=some u:=fun o u h=>keep_cell hW (keep_cell (drew_below W0) h z0) z0
    exact ⟨hk _ _ b2,hk _ _ b6,hk _ _ b7,hk _ _ b8,hk _ _ b9,hk _ _ b10⟩
  have HC:Hid (∀W,Below W0.heap.size W0.drew W→Calls Tryz.prog 103 #[.agg #[.int .u8 cc.v.k, .int .i64 cc.v.n, .string cc.v.s, .slice cc.v.la cc.v.ll cc.v.lc, .slice cc.v.oa cc.v.ol cc.v.oc]] W (NewVal W xv)):=fun W hW=>HCV.out W ((HBL0.out.trans ((drew_below W0).mono HBL0.out.size)).trans (hW.mono HBL0.out.size))
  clear B hal0 HCV
  refine wp_region_noPanic ?_
  go_region_held_law (fun W=>W.cell? ⟨w.heap.size,2,none⟩=some (.string cc.key)∧W.cell? ⟨w.heap.size,6,none⟩=some (.int .u8 cc.v.k)∧W.cell? ⟨w.heap.size,7,none⟩=some (.int .i64 cc.v.n)∧W.cell? ⟨w.heap.size,8,none⟩=some (.string cc.v.s)∧W.cell? ⟨w.heap.size,9,none⟩=some (.slice cc.v.la cc.v.ll cc.v.lc)∧W.cell? ⟨w.heap.size,10,none⟩=some (.slice cc.v.oa cc.v.ol cc.v.oc))
    ((refine HFB.out _ ?_;(first|(with_reducible exact bl4)|(with_reducible exact Below.refl _ _)|(with_reducible exact below_draw_alloc _ _)|(with_reducible exact Below.set6 bl4 (Nat.le_refl _) _ _ _ _ _ _)|(with_reducible exact Below.set6 (Below.alloc bl4 bz4 _) bz4 _ _ _ _ _ _)|(with_reducible exact Below.alloc bl4 bz4 _))))
    (first
      |(go_at_call 103;(with_reducible refine (HC.out _ (Below.refl _ _)).mono ?_);rintro e w4 ⟨⟨d,rfl,hI4⟩,hb4⟩;have bl4:Below W0.heap.size W0.drew w4:=hb4;have bz4:W0.heap.size≤w4.heap.size:=hb4.size;have hI5:IsVal (only (fun b=>W0.heap.size≤b) w4) w4.heap.size xv d:=hI4)
      |(go_at_call 103;(with_reducible refine (HC.out _ (below_draw_alloc _ _)).mono ?_);rintro e w4 ⟨⟨d,rfl,hI4⟩,hb4⟩;have bl4:Below W0.heap.size W0.drew w4:=(below_draw_alloc _ _).trans (hb4.mono (by simp));have bz4:W0.heap.size≤w4.heap.size:=bl4.size;have hI5:IsVal (only (fun b=>W0.heap.size+1≤b) w4) w4.heap.size xv d:=hI4.sub (shows_step fun k hk _=>⟨by have h1:(W0.alloc _).heap.size≤k:=hk;rw [World.size_alloc] at h1;exact h1,rfl⟩);have XB:=bc_new_drew hb4;have xc0:=XB.at_ 0 _ rfl;have xc1:=XB.at_ 1 _ rfl;have xc2:=XB.at_ 2 _ rfl;have xc3:=XB.at_ 3 _ rfl;have xc4:=XB.at_ 4 _ rfl;have xc5:=XB.at_ 5 _ rfl;have xg0:=XB.fr 0;have xg1:=XB.fr 1;have xg2:=XB.fr 2;have xg3:=XB.fr 3;have xg4:=XB.fr 4;have xg5:=XB.fr 5;have hxlt:=XB.lt))
  all_goals
    (first
      |((with_reducible refine gen_world (P:=fun W=>(BC W w4.heap.size (fcells (cc.key,d))∧Below W0.heap.size W0.drew W∧W0.heap.size≤w4.heap.size)∧Hid (IsVal (only (fun b=>W0.heap.size≤b) W) W.heap.size xv d)) (filledFZ1 bl4 bz4 cc.key d _ hI5) ?_);rintro W1 ⟨⟨YF,hbW, -⟩,hI6⟩;generalize w4.heap.size=yb at YF ⊢)
      |((with_reducible refine gen_world (P:=fun W=>(BC W W0.heap.size (fcells (cc.key,d))∧Below W0.heap.size W0.drew W∧W0.heap.size≤W0.heap.size)∧Hid (IsVal (only (fun b=>W0.heap.size≤b) W) W.heap.size xv d)) (filledFZ2 bl4 cc.key d XB hI5) ?_);rintro W1 ⟨⟨YF,hbW, -⟩,hI6⟩;generalize W0.heap.size=yb at YF ⊢))
    clear hb4 bl4 hI4 hI5 HFB HC
    have hbl1:=HBL0.out.trans (((drew_below W0).trans hbW).mono HBL0.out.size)
    have B1:=HB.out.keep ((drew_below W0).trans hbW) z0
    have hw01:W0.heap.size≤W1.heap.size:=hbW.size
    have hw0:=HBL0.out.size
    have hsh:Shows (only S w) (only S W1) w.heap.size:=shows_step fun k hk hl=>⟨hk,hbl1.block k hl⟩
    have hI7:IsVal (only S W1) W1.heap.size xv d:=hI6.out.sub (shows_step fun k hk _=>⟨hS k (by omega),rfl⟩)
    have hO7:IsFields (only S W1) W1.heap.size o oa ol oc:=(IsFields.sub hsh HO.out).more hbl1.size
    have HI7:=Lib.hid hI7
    have HO7:=Lib.hid hO7
    have HBL1:=Lib.hid hbl1
    have HB1:=Lib.hid B1
    have HYF:=Lib.hid YF
    have ylt:=YF.lt
    have z1:=B1.lt
    clear b0 b1 b2 b3 b4 b5 b6 b7 b8 b9 b10 b11
    obtain ⟨b0,b1,b2,b3,b4,b5,b6,b7,b8,b9,b10,b11⟩:=row12 B1.at_
    clear hbW hI6 hsh hI7 hO7 hbl1 B1 YF
    go_wp2_with fail
    go_loopw [5,6,8] (fun u dn i wr=>∃(j:Nat) (a:Option Addr) (m c:Nat) (xs:List (ByteArray×V)) (cs:List (ByteArray×VC)) (done:Bool),j≤ol∧i= .int .i64 j∧u= .slice a m c∧dn= .bool done∧FH W1 wr S o cc.key xv del j (.slice a m c) xs cs done) (fun _ _ i _=>ol - (intOf i).toNat)
    case atStart=>exact ⟨0,none,0,0, [], [],del,Nat.zero_le _,rfl,rfl,rfl,⟨rfl,Nat.le_refl _,rfl,⟨rfl, .inl ⟨rfl,rfl⟩⟩,fun i h=>absurd h (by simp),Below.refl _ _⟩⟩
    case round=>
      obtain ⟨j,a,m,c,xs,cs,done,hj,rfl,rfl,rfl,L⟩:=hrel
      have C1:=HB1.out.keep L.below z1
      have Y1:=HYF.out.keep L.below ylt
      have y0:=Y1.at_ 0 _ rfl;have y1:=Y1.at_ 1 _ rfl;have y2:=Y1.at_ 2 _ rfl;have y3:=Y1.at_ 3 _ rfl;have y4:=Y1.at_ 4 _ rfl;have y5:=Y1.at_ 5 _ rfl
      clear b0 b1 b2 b3 b4 b5 b6 b7 b8 b9 b10 b11
      have b2:=C1.at_ 2 _ rfl
      have zs:=C1.lt
      have zy:=Y1.lt
      have hrlt:∀g,(Value.slice a m c).ownBlock=some g→W1.heap.size≤g:=fun g hg=>(L.own.lt g hg).1
      have hfx:=L.few
      have HL:=Lib.hid L
      clear C1 Y1
      by_cases hlt:j<ol
      · obtain ⟨b,q,f,hp,rfl,hbB,hkey,hks2,hvf,hIf⟩:=HO7.out.get hlt
        have hbW:b<W1.heap.size:=hbB
        have hky:=keep_cell L.below (only_cell hkey).2 hbW
        have hvf2:ValAt wr b (q+j*6+1) f:=(hvf.sub (shows_only _ _ _) hbW).keep L.below hbW
        have c0:=hvf2.c0;have c1:=hvf2.c1;have c2:=hvf2.c2;have c3:=hvf2.c3;have c4:=hvf2.c4
        have hbw:b<wr.heap.size:=World.block_lt_of_cell? wr _ c0
        obtain ⟨sk,hsk⟩:∃sk,o[j].1=sk:=⟨_,rfl⟩
        rw [hsk] at hky hks2
        have hstep:(o.take (j+1)).foldl (fldStep cc.key xv) ([],del)=fldStep cc.key xv (xs,done) (sk,o[j].2):=by
          rw [fold_take _ _ o j hp,L.rd, ←hsk]
        have HSP:=Lib.hid hstep
        have HIF:=Lib.hid hIf
        have hown:=L.own
        obtain ⟨lb,hlb⟩:∃lb,Op.bytesLess sk.toList cc.key.toList=lb:=⟨_,rfl⟩
        obtain ⟨eb,heb⟩:∃eb,(sk.toList==cc.key.toList)=eb:=⟨_,rfl⟩
        rw [hsk] at hkey
        have HKY:=Lib.hid hkey
        have HVF:=Lib.hid hvf
        clear L hkey hvf hvf2 hIf hsk hstep
        cases done with
        | true=>
          cases eb with
          | true=>
            have hfs:fldStep cc.key xv (xs,true) (sk,o[j].2)=(xs,true):=by rw [fldStep,if_neg (by simp),if_pos (by simpa using heb)]
            have HFS:=Lib.hid hfs
            clear hfs hlb
            go_wp2_with fail
            go_quiet (fail)
            go_wp2_with fail
            go_quiet (fail)
            go_wp2_with fail
            go_roundw
            case rel=>exact ⟨j+1,a,m,c,xs,cs,true,by omega,by go_num,rfl,rfl,⟨HSP.out.trans HFS.out,by omega,HL.out.cen,own_drewN hown _,HL.out.els,belowN HL.out.below _⟩⟩
            case measure=>simp [intOf];omega
          | false=>
            have hfs:fldStep cc.key xv (xs,true) (sk,o[j].2)=(xs++ [(sk,o[j].2)],true):=by rw [fldStep,if_neg (by simp),if_neg (by simpa using heb)]
            have HFS:=Lib.hid hfs
            clear hfs hlb
            have zw:=HL.out.below.size
            go_wp2_with fail
            go_quiet (fail)
            go_wp2_with fail
            go_quiet (fail)
            go_wp2_with (at_builtin;refine wpList_append_lies _ rfl (.tmp 48) (.tmp 53) 31 (by rfl) W1.heap.size 98 i0 _ 6 96 Tryz.underlying31 hi0 hz0 hz1 hz2 rfl (by omega) (.slice a m c) xs.length (cs.flatMap fcells) (by rfl) ((own_drewN hown _).alloc _) ⟨wr.heap.size,0,none⟩ 1 1 (fcells (sk,f)) (by rfl) (by rfl) (news_drewN wr _ sk f _) (by simp [fcells,Value.oneCell']) (by omega) (by unfold maxLen;omega) (by omega) (by first|omega|(rw [drewN_size];omega)|(simp;omega)) (wr.heap.size+1) (by first|exact drewN_size _ _ _|simp) ?_;intro g cap w7 hownw7 hgroww7 hatw7 hltw7)
            have G2:=grow_one (x:=o[j].2) hrlt HL.out.cen HL.out.els HL.out.below hks2 HIF.out ((below_drewN wr _).alloc (Nat.le_refl _) _) hownw7 hgroww7
            go_roundw
            case rel=>exact ⟨j+1,some ⟨g,0,none⟩,xs.length+1,cap,xs++ [(sk,o[j].2)],cs++ [(sk,f)],true,by omega,by go_num,rfl,rfl,⟨HSP.out.trans HFS.out,by rw [List.length_append,List.length_singleton];omega,G2.1,G2.2.1,G2.2.2.1,G2.2.2.2⟩⟩
            case measure=>simp [intOf];omega
        | false=>
          cases lb with
          | true=>
            cases eb with
            | true=>
              have hfs:fldStep cc.key xv (xs,false) (sk,o[j].2)=(xs,false):=by rw [fldStep,if_neg (by simp [hlb]),if_pos (by simpa using heb)]
              have HFS:=Lib.hid hfs
              clear hfs
              go_wp2_with fail
              go_quiet (fail)
              go_wp2_with fail
              go_quiet (fail)
              go_wp2_with fail
              go_roundw
              case rel=>exact ⟨j+1,a,m,c,xs,cs,false,by omega,by go_num,rfl,rfl,⟨HSP.out.trans HFS.out,by omega,HL.out.cen,own_drewN hown _,HL.out.els,belowN HL.out.below _⟩⟩
              case measure=>simp [intOf];omega
            | false=>
              have hfs:fldStep cc.key xv (xs,false) (sk,o[j].2)=(xs++ [(sk,o[j].2)],false):=by rw [fldStep,if_neg (by simp [hlb]),if_neg (by simpa using heb)]
              have HFS:=Lib.hid hfs
              clear hfs
              have zw:=HL.out.below.size
              go_wp2_with fail
              go_quiet (fail)
              go_wp2_with fail
              go_quiet (fail)
              go_wp2_with (at_builtin;refine wpList_append_lies _ rfl (.tmp 48) (.tmp 53) 31 (by rfl) W1.heap.size 98 i0 _ 6 96 Tryz.underlying31 hi0 hz0 hz1 hz2 rfl (by omega) (.slice a m c) xs.length (cs.flatMap fcells) (by rfl) ((own_drewN hown _).alloc _) ⟨wr.heap.size,0,none⟩ 1 1 (fcells (sk,f)) (by rfl) (by rfl) (news_drewN wr _ sk f _) (by simp [fcells,Value.oneCell']) (by omega) (by unfold maxLen;omega) (by omega) (by first|omega|(rw [drewN_size];omega)|(simp;omega)) (wr.heap.size+1) (by first|exact drewN_size _ _ _|simp) ?_;intro g cap w7 hownw7 hgroww7 hatw7 hltw7)
              have G2:=grow_one (x:=o[j].2) hrlt HL.out.cen HL.out.els HL.out.below hks2 HIF.out ((below_drewN wr _).alloc (Nat.le_refl _) _) hownw7 hgroww7
              go_roundw
              case rel=>exact ⟨j+1,some ⟨g,0,none⟩,xs.length+1,cap,xs++ [(sk,o[j].2)],cs++ [(sk,f)],false,by omega,by go_num,rfl,rfl,⟨HSP.out.trans HFS.out,by rw [List.length_append,List.length_singleton];omega,G2.1,G2.2.1,G2.2.2.1,G2.2.2.2⟩⟩
              case measure=>simp [intOf];omega
          | false=>
            have zw:=HL.out.below.size
            cases eb with
            | true=>
              have hfs:fldStep cc.key xv (xs,false) (sk,o[j].2)=(xs++ [(cc.key,xv)],true):=by rw [fldStep,if_pos ⟨rfl,hlb⟩,if_pos (by simpa using heb)]
              have HFS:=Lib.hid hfs
              clear hfs
              go_wp2_with fail
              go_quiet (fail)
              go_wp2_with (at_builtin;refine wpList_append_lies _ rfl (.tmp 36) (.tmp 38) 31 (by rfl) W1.heap.size 98 i0 _ 6 96 Tryz.underlying31 hi0 hz0 hz1 hz2 rfl (by omega) (.slice a m c) xs.length (cs.flatMap fcells) (by rfl) ((own_drewN hown _).alloc _) ⟨wr.heap.size,0,none⟩ 1 1 (fcells (cc.key,d)) (by rfl) (by rfl) (news_drewN wr _ cc.key d _) (by simp [fcells,Value.oneCell']) (by omega) (by unfold maxLen;omega) (by omega) (by first|omega|(rw [drewN_size];omega)|(simp;omega)) (wr.heap.size+1) (by first|exact drewN_size _ _ _|simp) ?_;intro g cap w7 hownw7 hgroww7 hatw7 hltw7)
              have G2:=grow_one (x:=xv) hrlt HL.out.cen HL.out.els HL.out.below hks HI7.out ((below_drewN wr _).alloc (Nat.le_refl _) _) hownw7 hgroww7
              have hk7:∀b o u,b<W1.heap.size→W1.cell? ⟨b,o,none⟩=some u→w7.cell? ⟨b,o,none⟩=some u:=fun b o u hb h=>keep_cell G2.2.2.2 h hb
              have hkw:∀o u,(only S W1).cell? ⟨b,o,none⟩=some u→w7.cell? ⟨b,o,none⟩=some u:=fun o u h=>hk7 _ _ _ hbW (only_cell h).2
              have hky7:=hkw _ _ HKY.out
              have d0:=hkw _ _ HVF.out.c0;have d1:=hkw _ _ HVF.out.c1;have d2:=hkw _ _ HVF.out.c2;have d3:=hkw _ _ HVF.out.c3;have d4:=hkw _ _ HVF.out.c4
              have hbw7:b<w7.heap.size:=World.block_lt_of_cell? w7 _ d0
              have b27:=(HB1.out.keep G2.2.2.2 z1).at_ 2 _ rfl
              have zs7:=(HB1.out.keep G2.2.2.2 z1).lt
              go_quiet (fail)
              go_wp2_with fail
              go_roundw
              case rel=>exact ⟨j+1,some ⟨g,0,none⟩,xs.length+1,cap,xs++ [(cc.key,xv)],cs++ [(cc.key,d)],true,by omega,by go_num,rfl,rfl,⟨HSP.out.trans HFS.out,by rw [List.length_append,List.length_singleton];omega,G2.1,own_drewN G2.2.1 _,G2.2.2.1,belowN G2.2.2.2 _⟩⟩
              case measure=>simp [intOf];omega
            | false=>
              have hfs:fldStep cc.key xv (xs,false) (sk,o[j].2)=(xs++ [(cc.key,xv)] ++ [(sk,o[j].2)],true):=by rw [fldStep,if_pos ⟨rfl,hlb⟩,if_neg (by simpa using heb)]
              have HFS:=Lib.hid hfs
              clear hfs
              go_wp2_with fail
              go_quiet (fail)
              go_wp2_with (at_builtin;refine wpList_append_lies _ rfl (.tmp 36) (.tmp 38) 31 (by rfl) W1.heap.size 98 i0 _ 6 96 Tryz.underlying31 hi0 hz0 hz1 hz2 rfl (by omega) (.slice a m c) xs.length (cs.flatMap fcells) (by rfl) ((own_drewN hown _).alloc _) ⟨wr.heap.size,0,none⟩ 1 1 (fcells (cc.key,d)) (by rfl) (by rfl) (news_drewN wr _ cc.key d _) (by simp [fcells,Value.oneCell']) (by omega) (by unfold maxLen;omega) (by omega) (by first|omega|(rw [drewN_size];omega)|(simp;omega)) (wr.heap.size+1) (by first|exact drewN_size _ _ _|simp) ?_;intro g cap w7 hownw7 hgroww7 hatw7 hltw7)
              have G2:=grow_one (x:=xv) hrlt HL.out.cen HL.out.els HL.out.below hks HI7.out ((below_drewN wr _).alloc (Nat.le_refl _) _) hownw7 hgroww7
              have hk7:∀b o u,b<W1.heap.size→W1.cell? ⟨b,o,none⟩=some u→w7.cell? ⟨b,o,none⟩=some u:=fun b o u hb h=>keep_cell G2.2.2.2 h hb
              have hkw:∀o u,(only S W1).cell? ⟨b,o,none⟩=some u→w7.cell? ⟨b,o,none⟩=some u:=fun o u h=>hk7 _ _ _ hbW (only_cell h).2
              have hky7:=hkw _ _ HKY.out
              have d0:=hkw _ _ HVF.out.c0;have d1:=hkw _ _ HVF.out.c1;have d2:=hkw _ _ HVF.out.c2;have d3:=hkw _ _ HVF.out.c3;have d4:=hkw _ _ HVF.out.c4
              have hbw7:b<w7.heap.size:=World.block_lt_of_cell? w7 _ d0
              have b27:=(HB1.out.keep G2.2.2.2 z1).at_ 2 _ rfl
              have zs7:=(HB1.out.keep G2.2.2.2 z1).lt
              go_quiet (fail)
              have hrlt2:∀q,(Value.slice (some ⟨g,0,none⟩) (xs.length+1) cap).ownBlock=some q→W1.heap.size≤q:=fun q hq=>(hownw7.lt q hq).1
              have hown2:=G2.2.1
              rw [List.length_append,List.length_singleton] at hown2
              have zw7:=G2.2.2.2.size
              go_wp2_with (at_builtin;refine wpList_append_lies _ rfl (.tmp 48) (.tmp 53) 31 (by rfl) W1.heap.size 98 i0 _ 6 96 Tryz.underlying31 hi0 hz0 hz1 hz2 rfl (by omega) (.slice (some ⟨g,0,none⟩) (xs.length+1) cap) (xs.length+1) ((cs++ [(cc.key,d)]).flatMap fcells) (by rfl) ((own_drewN hown2 _).alloc _) ⟨w7.heap.size,0,none⟩ 1 1 (fcells (sk,f)) (by rfl) (by rfl) (news_drewN w7 _ sk f _) (by simp [fcells,Value.oneCell']) (by omega) (by unfold maxLen;omega) (by omega) (by first|omega|(rw [drewN_size];omega)|(simp;omega)) (w7.heap.size+1) (by first|exact drewN_size _ _ _|simp) ?_;intro g9 cap9 w9 hownw9 hgroww9 hatw9 hltw9)
              have hown9:w9.ownsRow W1.heap.size 98 6 (.slice (some ⟨g9,0,none⟩) (xs.length+1+1) cap9) ((xs++ [(cc.key,xv)]).length+1) ((cs++ [(cc.key,d)]).flatMap fcells++fcells (sk,f)):=by rw [List.length_append,List.length_singleton];exact hownw9
              have G4:=grow_one (x:=o[j].2) hrlt2 G2.1 G2.2.2.1 G2.2.2.2 hks2 HIF.out ((below_drewN w7 _).alloc (Nat.le_refl _) _) hown9 hgroww9
              go_roundw
              case rel=>exact ⟨j+1,some ⟨g9,0,none⟩,xs.length+1+1,cap9,xs++ [(cc.key,xv)] ++ [(sk,o[j].2)],cs++ [(cc.key,d)] ++ [(sk,f)],true,by omega,by go_num,rfl,rfl,⟨HSP.out.trans HFS.out,by rw [List.length_append,List.length_append,List.length_singleton,List.length_singleton];omega,G4.1,G4.2.1,G4.2.2.1,G4.2.2.2⟩⟩
              case measure=>simp [intOf];omega
      · have hjn:j=ol:=by omega
        subst hjn
        have hfold:o.foldl (fldStep cc.key xv) ([],del)=(xs,done):=by
          rw [←HL.out.rd,HLN.out,List.take_length]
        have HFD:=Lib.hid hfold
        have hown:=L.own
        have zw:=L.below.size
        clear L hfold
        cases done with
        | true=>
          go_wp2_with fail
          rw [←HR.out]
          have hfd:fieldsDo o cc.key xv del=xs:=by rw [fieldsDo,HFD.out];rfl
          rw [hfd]
          have hshw:Shows (only S W1) (only S wr) W1.heap.size:=shows_step fun q hq hl=>⟨hq,HL.out.below.block q hl⟩
          obtain ⟨a9,n9,c9,hv,hf,_⟩:=isFields_of_ownS (S:=S) (B1:=W1.heap.size) hown (fun k hk=>hS k (by have:=HBL1.out.size;omega)) HL.out.cen (fun i hi=>PF.closed _ _ _ _ _ _ i hshw zw (HL.out.els i hi)) (by omega)
          exact ⟨⟨a9,n9,c9,by rw [hv],hf⟩,HBL1.out.trans (HL.out.below.mono HBL1.out.size)⟩
        | false=>
          go_wp2_with (at_builtin;refine wpList_append_lies _ rfl (.tmp 57) (.tmp 59) 31 (by rfl) W1.heap.size 98 i0 _ 6 96 Tryz.underlying31 hi0 hz0 hz1 hz2 rfl (by omega) (.slice a m c) xs.length (cs.flatMap fcells) (by rfl) (hown.alloc _) ⟨wr.heap.size,0,none⟩ 1 1 (fcells (cc.key,d)) (by rfl) (by rfl) (World.news_of_block (t:=98) (fr:=(0,0)) (heap_alloc_new wr (.cells #[.string cc.key, .int .u8 d.k, .int .i64 d.n, .string d.s, .slice d.la d.ll d.lc, .slice d.oa d.ol d.oc] 98))) (by simp [fcells,Value.oneCell']) (by omega) (by unfold maxLen;omega) (by omega) (by first|omega|(rw [drewN_size];omega)|(simp;omega)) (wr.heap.size+1) (by first|exact drewN_size _ _ _|simp) ?_;intro g cap w7 hownw7 hgroww7 hatw7 hltw7)
          have G2:=grow_one (x:=xv) hrlt HL.out.cen HL.out.els HL.out.below hks HI7.out ((Below.refl _ _).alloc (Nat.le_refl _) _) hownw7 hgroww7
          rw [←HR.out]
          have hfd:fieldsDo o cc.key xv del=xs++ [(cc.key,xv)] :=by rw [fieldsDo,HFD.out];rfl
          rw [hfd]
          have hshw:Shows (only S W1) (only S w7) W1.heap.size:=shows_step fun q hq hl=>⟨hq,G2.2.2.2.block q hl⟩
          obtain ⟨a9,n9,c9,hv,hf,_⟩:=isFields_of_ownS (S:=S) (B1:=W1.heap.size) G2.2.1 (fun k hk=>hS k (by have:=HBL1.out.size;omega)) G2.1 (fun i hi=>PF.closed _ _ _ _ _ _ i hshw G2.2.2.2.size (G2.2.2.1 i hi)) (by rw [List.length_append,List.length_singleton];omega)
          exact ⟨⟨a9,n9,c9,by rw [hv],hf⟩,HBL1.out.trans (G2.2.2.2.mono HBL1.out.size)⟩
end Go.Proofs.YtgcfhkceejcliaaGreatDoor
namespace Go.Proofs.YtgcfhkceejcliaaGreatDoor
open Go.RowKit
noncomputable def doneP (x:V) (c:Cm):V:=
  if c.k=1 then .mk x.kd (wrap64 (x.nm+c.n)) x.str x.ls x.os
  else if c.k=2∨c.k=3 then .mk x.kd x.nm x.str x.ls (fieldsDo x.os c.key c.v (c.k==3))
  else if c.k=8∨c.k=9 then .mk x.kd x.nm (textDo x.str c.k c.i c.n c.s) x.ls x.os
  else .mk x.kd x.nm x.str (listDo x.ls c.k c.i c.j c.v) x.os
def doneQ:Option V→V×Int
  |none=>(V.none,30)
  |some w=>(w,0)
theorem doneQ_some (z:V):doneQ (some z)=(z,0):=rfl
noncomputable def doP (v:V) (c:Cm):V×Int:=
  if checkP v c=0 then (match getP v c.path with
    |none=>(V.none,30)
    |some x=>doneQ (putP v c.path (doneP x c))) else (V.none,checkP v c)
theorem doP_ok {v:V} {c:Cm} {x:V} (he:checkP v c=0) (hg:getP v c.path=some x):doP v c=doneQ (putP v c.path (doneP x c)):=by
  rw [doP,if_pos he];simp only [hg]
theorem putP_some (p:List St):∀ {v x:V} (_:getP v p=some x) (y:V),∃z,putP v p y=some z:=by
  induction p with
  |nil=>intro v x _ y;exact ⟨y,rfl⟩
  | cons s r ih=>
    intro v x h y
    unfold getP at h
    unfold putP
    cases hs:stepP v s with
    |none=>rw [hs] at h;cases h
    | some q=>
      rw [hs] at h
      obtain ⟨z,hz⟩:=ih h y
      simp only [hz]
      exact ⟨_,rfl⟩
theorem cmSound_kind {c:Cm} (h:cmSound c=true):1≤c.k∧c.k≤9:=by
  unfold cmSound at h
  simp only [Bool.and_eq_true] at h
  have hk:=h.1.1.1.1.1.1.1.1.1.1.1
  unfold kIs at hk
  simpa using hk
theorem textDo_size (s:ByteArray) (k i n:Int) (cs:ByteArray):(textDo s k i n cs).size≤s.size+s.size+cs.size:=by
  unfold textDo
  split
  · rw [ByteArray.size_append,ByteArray.size_append,ByteArray.size_extract,ByteArray.size_extract];omega
  · rw [ByteArray.size_append,ByteArray.size_extract,ByteArray.size_extract];omega
theorem IsVals.sub {w w':World} {B:Nat} {l:List V} {a:Option Addr} {n c:Nat} (hs:Shows w w' B) (h:IsVals w B l a n c):IsVals w' B l a n c:=by
  obtain ⟨h1,h2,h3,h4,b,o,f,h5,h6⟩:=h
  exact ⟨h1,h2,h3,h4,b,o,f,h5,fun i hi=>⟨(h6 i hi).1.sub hs (h5 (by omega)).2,(h6 i hi).2.sub hs⟩⟩
theorem checkP_ok {v:V} {c:Cm} (h:checkP v c=0):cmSound c=true∧∃x,getP v c.path=some x∧kindsP x c.k c.i c.j c.n c.key=0:=by
  unfold checkP at h
  cases hs:cmSound c with
  |false=>rw [hs,if_pos rfl] at h;omega
  | true=>
    rw [hs,if_neg (by simp)] at h
    cases hg:getP v c.path with
    |none=>rw [hg] at h;simp at h
    |some x=>rw [hg] at h;exact ⟨rfl,x,rfl,h⟩
def DoPost (w:World) (r:V×Int) (e:Ending) (w':World):Prop:=
  (∃c:VC,e= .returned (.tuple #[.agg #[.int .u8 c.k, .int .i64 c.n, .string c.s, .slice c.la c.ll c.lc, .slice c.oa c.ol c.oc], .int .i64 r.2])∧IsVal (only (fun b=>w.heap.size≤b) w') w'.heap.size r.1 c)∧Below w.heap.size w w'
theorem results_do06 {tmps:Array Value} {W:World} {b:Nat} {c:VC} {x:Value} (ht:tmps[4]? =some (.pointer (some ⟨b,0,none⟩))) (hx:tmps[5]? =some x) (h:BC W b (vcells c)):
    (results Tryz.f43 tmps).run Tryz.prog W= .ok (.tuple #[.agg #[.int .u8 c.k, .int .i64 c.n, .string c.s, .slice c.la c.ll c.lc, .slice c.oa c.ol c.oc],x]) W:=by
  obtain ⟨r0,r1,r2,r3,r4⟩:=(⟨h.at_ 0 _ rfl,h.at_ 1 _ rfl,h.at_ 2 _ rfl,h.at_ 3 _ rfl,h.at_ 4 _ rfl⟩:W.cell? ⟨b,0,none⟩=some (.int .u8 c.k)∧W.cell? ⟨b,1,none⟩=some (.int .i64 c.n)∧W.cell? ⟨b,2,none⟩=some (.string c.s)∧W.cell? ⟨b,3,none⟩=some (.slice c.la c.ll c.lc)∧W.cell? ⟨b,4,none⟩=some (.slice c.oa c.ol c.oc))
  simp [results,Tryz.results43,go_sem,ht,hx,r0,r1,r2,r3,r4]
theorem do_leave {w W:World} {x:Act} {c:VC} {r:V×Int} (h:BC W (w.heap.size+1+1) (vcells c)) (hv:IsVal (only (fun b=>w.heap.size≤b) W) W.heap.size r.1 c) (hb:Below w.heap.size w W) (hd:x.defers= []) (ht:x.tmps[4]? =some (.pointer (some ⟨w.heap.size+1+1,0,none⟩))) (hx:x.tmps[5]? =some (.int .i64 r.2)):
    bodyPost Tryz.prog Tryz.f43 (DoPost w r) .ret x W:=⟨hd,_,results_do06 ht hx h,⟨c,rfl,hv⟩,hb⟩
structure DB (w W:World) (c:VC) (cc:CC):Prop where
  v:BC W w.heap.size (vcells c)
  c:BC W (w.heap.size+1) (ccells cc)
  r:BC W (w.heap.size+1+1) (vcells vzero)
  below:Below w.heap.size w W
theorem DB.next {w W W':World} {c:VC} {cc:CC} {B:Nat} (h:DB w W c cc) (hb:Below B W W') (hB:w.heap.size+3≤B):DB w W' c cc:=
  ⟨h.v.keep hb (by omega),h.c.keep hb (by omega),h.r.keep hb (by omega),h.below.trans (hb.mono (by omega))⟩
theorem DB.start (w:World) (c:VC) (cc:CC) (t1 t2 t3:TypeId):DB w (((w.alloc (.cells #[.int .u8 c.k, .int .i64 c.n, .string c.s, .slice c.la c.ll c.lc, .slice c.oa c.ol c.oc] t1)).alloc (.cells #[.int .u8 cc.k, .slice cc.pa cc.pl cc.pc, .string cc.key, .int .i64 cc.i, .int .i64 cc.j, .int .i64 cc.n, .int .u8 cc.v.k, .int .i64 cc.v.n, .string cc.v.s, .slice cc.v.la cc.v.ll cc.v.lc, .slice cc.v.oa cc.v.ol cc.v.oc, .string cc.s] t2)).alloc (.cells #[.int .u8 0, .int .i64 0, .string { data:= #[] }, .slice none 0 0, .slice none 0 0] t3)) c cc:=by
  have k:=KB.start w c cc t1 t2
  obtain ⟨w2,hw2⟩:∃w2,((w.alloc (.cells #[.int .u8 c.k, .int .i64 c.n, .string c.s, .slice c.la c.ll c.lc, .slice c.oa c.ol c.oc] t1)).alloc (.cells #[.int .u8 cc.k, .slice cc.pa cc.pl cc.pc, .string cc.key, .int .i64 cc.i, .int .i64 cc.j, .int .i64 cc.n, .int .u8 cc.v.k, .int .i64 cc.v.n, .string cc.v.s, .slice cc.v.la cc.v.ll cc.v.lc, .slice cc.v.oa cc.v.ol cc.v.oc, .string cc.s] t2))=w2:=⟨_,rfl⟩
  have s2:w2.heap.size=w.heap.size+1+1:=by rw [←hw2,World.size_alloc,World.size_alloc]
  rw [hw2] at k ⊢
  have b3:Below w2.heap.size w2 (w2.alloc (.cells #[.int .u8 0, .int .i64 0, .string { data:= #[] }, .slice none 0 0, .slice none 0 0] t3)):=(Below.refl _ _).alloc (Nat.le_refl _) _
  have c3:=BC.start w2 #[.int .u8 0, .int .i64 0, .string { data:= #[] }, .slice none 0 0, .slice none 0 0] t3
  rw [s2] at c3
  exact ⟨k.v.keep b3 (by omega),k.c.keep b3 (by omega),c3,k.below.trans (b3.mono (by omega))⟩
theorem DB.result {w W:World} {c:VC} {cc:CC} (h:DB w W c cc) (d:VC):BC (((((W.setCell ⟨w.heap.size+1+1,0,none⟩ (.int .u8 d.k)).setCell ⟨w.heap.size+1+1,1,none⟩ (.int .i64 d.n)).setCell ⟨w.heap.size+1+1,2,none⟩ (.string d.s)).setCell ⟨w.heap.size+1+1,3,none⟩ (.slice d.la d.ll d.lc)).setCell ⟨w.heap.size+1+1,4,none⟩ (.slice d.oa d.ol d.oc)) (w.heap.size+1+1) (vcells d)∧Below w.heap.size w (((((W.setCell ⟨w.heap.size+1+1,0,none⟩ (.int .u8 d.k)).setCell ⟨w.heap.size+1+1,1,none⟩ (.int .i64 d.n)).setCell ⟨w.heap.size+1+1,2,none⟩ (.string d.s)).setCell ⟨w.heap.size+1+1,3,none⟩ (.slice d.la d.ll d.lc)).setCell ⟨w.heap.size+1+1,4,none⟩ (.slice d.oa d.ol d.oc)):=
  ⟨bc_store h.r d,Below.set5' h.below (by omega) _ _ _ _ _⟩
theorem isVal_parts {w:World} {B:Nat} {k n:Int} {s:ByteArray} {l:List V} {o:List (ByteArray×V)} {la:Option Addr} {ll lc:Nat} {oa:Option Addr} {ol oc:Nat} (hk0:0≤k) (hk1:k<256) (hn0: -9223372036854775808≤n) (hn1:n≤9223372036854775807) (hs:s.size≤140737488355328) (h1:IsVals w B l la ll lc) (h2:IsFields w B o oa ol oc):IsVal w B (.mk k n s l o) ⟨k,n,s,la,ll,lc,oa,ol,oc⟩:=
  IsVal.of_lists (c:=⟨k,n,s,la,ll,lc,oa,ol,oc⟩) ⟨hk0,hk1,hn0,hn1,hs,h1.cap,h1.max,h1.few,h2.cap,h2.max,h2.few⟩ h1 h2
set_option maxHeartbeats 8000000 in
set_option maxRecDepth 100000 in
theorem do06_err (w:World) (vk vn:Int) (vs:ByteArray) (la:Option Addr) (ll lc:Nat) (oa:Option Addr) (ol oc:Nat) (v:V) (hv:IsVal w w.heap.size v ⟨vk,vn,vs,la,ll,lc,oa,ol,oc⟩) (hw:v.weight≤100000000) (p:List St) (xv:V) (cc:CC) (hcb:cc.Bnd) (hp:IsSteps w w.heap.size p cc.pa cc.pl cc.pc) (hxv:IsVal w w.heap.size xv cc.v) (hxw:xv.weight≤100000000) (hT:Tabs w) (he:checkP v ⟨cc.k,p,cc.key,cc.i,cc.j,cc.n,xv,cc.s⟩≠0):
    Calls Tryz.prog 43 #[.agg #[.int .u8 vk, .int .i64 vn, .string vs, .slice la ll lc, .slice oa ol oc], .agg #[.int .u8 cc.k, .slice cc.pa cc.pl cc.pc, .string cc.key, .int .i64 cc.i, .int .i64 cc.j, .int .i64 cc.n, .int .u8 cc.v.k, .int .i64 cc.v.n, .string cc.v.s, .slice cc.v.la cc.v.ll cc.v.lc, .slice cc.v.oa cc.v.ol cc.v.oc, .string cc.s]] w (DoPost w (doP v ⟨cc.k,p,cc.key,cc.i,cc.j,cc.n,xv,cc.s⟩)):=by
  have HCK:Hid (∀W,Below w.heap.size w W→Calls Tryz.prog 82 #[.agg #[.int .u8 vk, .int .i64 vn, .string vs, .slice la ll lc, .slice oa ol oc], .agg #[.int .u8 cc.k, .slice cc.pa cc.pl cc.pc, .string cc.key, .int .i64 cc.i, .int .i64 cc.j, .int .i64 cc.n, .int .u8 cc.v.k, .int .i64 cc.v.n, .string cc.v.s, .slice cc.v.la cc.v.ll cc.v.lc, .slice cc.v.oa cc.v.ol cc.v.oc, .string cc.s]] W fun e w'=>e= .returned (.int .i64 (checkP v ⟨cc.k,p,cc.key,cc.i,cc.j,cc.n,xv,cc.s⟩))∧Below W.heap.size W w'):=fun W hW=>check06_any W vk vn vs la ll lc oa ol oc v (hv.later_ hW) (by omega) p xv cc hcb (hp.later_ hW) (hxv.later_ hW) (by omega) (hT.below hW)
  have HB:=Lib.hid (DB.start w ⟨vk,vn,vs,la,ll,lc,oa,ol,oc⟩ cc 33 63 33)
  have hd:doP v ⟨cc.k,p,cc.key,cc.i,cc.j,cc.n,xv,cc.s⟩=(V.none,checkP v ⟨cc.k,p,cc.key,cc.i,cc.j,cc.n,xv,cc.s⟩):=by rw [doP,if_neg he]
  rw [hd]
  obtain ⟨E,hE⟩:∃E,checkP v ⟨cc.k,p,cc.key,cc.i,cc.j,cc.n,xv,cc.s⟩=E:=⟨_,rfl⟩
  rw [hE] at HCK he ⊢
  have fe:(E !=0)=true:=by simp [he]
  clear hv hp hxv hT hcb hd hE
  go_enter Tryz.func43,Tryz.ntmps43
  generalize hQ0:bodyPost _ _ _=Q0
  have HQ:=Lib.hid hQ0
  clear hQ0
  go_wp2_with fail
  refine (HCK.out _ HB.out.below).mono ?_
  rintro e W ⟨rfl,hb1⟩
  have B:=HB.out.next hb1 (by simp)
  obtain ⟨v0,v1,v2,v3,v4⟩:=row5 B.v.at_
  obtain ⟨b0,b1,b2,b3,b4,b5,b6,b7,b8,b9,b10,b11⟩:=row12 B.c.at_
  obtain ⟨r0,r1,r2,r3,r4⟩:=row5 B.r.at_
  have f0:=B.r.fr 0;have f1:=B.r.fr 1;have f2:=B.r.fr 2;have f3:=B.r.fr 3;have f4:=B.r.fr 4
  have z0:=B.v.lt;have z1:=B.c.lt;have z2:=B.r.lt
  have HBW:=Lib.hid B
  clear B hb1
  go_wp2_with fail
  rw [←HQ.out]
  have ST:=HBW.out.result ⟨0,0, { data:= #[] },none,0,0,none,0,0⟩
  exact do_leave (r:=(V.none,E)) ST.1 (isVal_none _ _) ST.2 rfl rfl rfl
set_option maxHeartbeats 8000000 in
set_option maxRecDepth 100000 in
theorem do06_add (w:World) (vk vn:Int) (vs:ByteArray) (la:Option Addr) (ll lc:Nat) (oa:Option Addr) (ol oc:Nat) (v:V) (hv:IsVal w w.heap.size v ⟨vk,vn,vs,la,ll,lc,oa,ol,oc⟩) (hw:v.weight≤100000000) (p:List St) (xv:V) (cc:CC) (hcb:cc.Bnd) (hp:IsSteps w w.heap.size p cc.pa cc.pl cc.pc) (hxv:IsVal w w.heap.size xv cc.v) (hxw:xv.weight≤100000000) (hT:Tabs w) (he:checkP v ⟨cc.k,p,cc.key,cc.i,cc.j,cc.n,xv,cc.s⟩=0) (hk:cc.k=1):
    Calls Tryz.prog 43 #[.agg #[.int .u8 vk, .int .i64 vn, .string vs, .slice la ll lc, .slice oa ol oc], .agg #[.int .u8 cc.k, .slice cc.pa cc.pl cc.pc, .string cc.key, .int .i64 cc.i, .int .i64 cc.j, .int .i64 cc.n, .int .u8 cc.v.k, .int .i64 cc.v.n, .string cc.v.s, .slice cc.v.la cc.v.ll cc.v.lc, .slice cc.v.oa cc.v.ol cc.v.oc, .string cc.s]] w (DoPost w (doP v ⟨cc.k,p,cc.key,cc.i,cc.j,cc.n,xv,cc.s⟩)):=by
  obtain ⟨_,x,hg,hkd⟩:=checkP_ok he
  dsimp only at hg hkd
  have hxw2:=getP_weight p hg
  have HCK:Hid (∀W,Below w.heap.size w W→Calls Tryz.prog 82 #[.agg #[.int .u8 vk, .int .i64 vn, .string vs, .slice la ll lc, .slice oa ol oc], .agg #[.int .u8 cc.k, .slice cc.pa cc.pl cc.pc, .string cc.key, .int .i64 cc.i, .int .i64 cc.j, .int .i64 cc.n, .int .u8 cc.v.k, .int .i64 cc.v.n, .string cc.v.s, .slice cc.v.la cc.v.ll cc.v.lc, .slice cc.v.oa cc.v.ol cc.v.oc, .string cc.s]] W fun e w'=>e= .returned (.int .i64 0)∧Below W.heap.size W w'):=fun W hW=>by
    have:=check06_any W vk vn vs la ll lc oa ol oc v (hv.later_ hW) (by omega) p xv cc hcb (hp.later_ hW) (hxv.later_ hW) (by omega) (hT.below hW)
    rw [he] at this;exact this
  have HGT:Hid (∀W,Below w.heap.size w W→Calls Tryz.prog 78 #[.agg #[.int .u8 vk, .int .i64 vn, .string vs, .slice la ll lc, .slice oa ol oc], .slice cc.pa cc.pl cc.pc] W (GetPost W (some x))):=fun W hW=>by rw [←hg];exact get_any W vk vn vs la ll lc oa ol oc v (hv.later_ hW) p cc.pa cc.pl cc.pc (hp.later_ hW)
  have HPT:Hid (∀(W:World) (y:V) (k n:Int) (s:ByteArray) (a:Option Addr) (m c:Nat) (a':Option Addr) (m' c':Nat),Below w.heap.size w W→IsVal W W.heap.size y ⟨k,n,s,a,m,c,a',m',c'⟩→Calls Tryz.prog 86 #[.agg #[.int .u8 vk, .int .i64 vn, .string vs, .slice la ll lc, .slice oa ol oc], .slice cc.pa cc.pl cc.pc, .agg #[.int .u8 k, .int .i64 n, .string s, .slice a m c, .slice a' m' c']] W (GetPost W (putP v p y))):=fun W y k n s a m c a' m' c' hW hy=>put_any y k n s a m c a' m' c' p W vk vn vs la ll lc oa ol oc v (hv.later_ hW) cc.pa cc.pl cc.pc (hp.later_ hW) hy
  have hdo:doP v ⟨cc.k,p,cc.key,cc.i,cc.j,cc.n,xv,cc.s⟩=doneQ (putP v p (doneP x ⟨cc.k,p,cc.key,cc.i,cc.j,cc.n,xv,cc.s⟩)):=doP_ok he hg
  rw [hdo]
  have HB:=Lib.hid (DB.start w ⟨vk,vn,vs,la,ll,lc,oa,ol,oc⟩ cc 33 63 33)
  have HTT:=Lib.hid hT
  have HXV:=Lib.hid hxv
  have HCB:=Lib.hid hcb
  have HKD:=Lib.hid hkd
  have hsw:=x.str_weight
  obtain ⟨kx,nx,sx,lx,ox,rfl⟩:=x.eta
  dsimp only [V.str,V.ls,V.os] at hsw
  obtain ⟨Y,hY⟩:∃Y,doneP (.mk kx nx sx lx ox) ⟨cc.k,p,cc.key,cc.i,cc.j,cc.n,xv,cc.s⟩=Y:=⟨_,rfl⟩
  rw [hY]
  obtain ⟨z,hPR⟩:=putP_some p hg Y
  rw [hPR,doneQ_some]
  have HY:=Lib.hid hY
  have HPR:=Lib.hid hPR
  clear hv hp hxv hT hcb hdo hY hPR he hg hkd
  have HK:=Lib.hid hk
  clear hk
  go_enter Tryz.func43,Tryz.ntmps43
  generalize hQ0:bodyPost _ _ _=Q0
  have HQ:=Lib.hid hQ0
  clear hQ0
  go_wp2_with fail
  refine (HCK.out _ HB.out.below).mono ?_
  rintro e W ⟨rfl,hb1⟩
  have B:=HB.out.next hb1 (by simp)
  obtain ⟨v0,v1,v2,v3,v4⟩:=row5 B.v.at_
  obtain ⟨b0,b1,b2,b3,b4,b5,b6,b7,b8,b9,b10,b11⟩:=row12 B.c.at_
  obtain ⟨r0,r1,r2,r3,r4⟩:=row5 B.r.at_
  have f0:=B.r.fr 0;have f1:=B.r.fr 1;have f2:=B.r.fr 2;have f3:=B.r.fr 3;have f4:=B.r.fr 4
  have z0:=B.v.lt;have z1:=B.c.lt;have z2:=B.r.lt
  have HBW:=Lib.hid B
  clear B hb1
  go_wp2_with fail
  refine (HGT.out _ HBW.out.below).mono ?_
  rintro e W2 ⟨⟨d,rfl,hI⟩,hb2⟩
  have B2:=HBW.out.next hb2 (Nat.succ_le_of_lt z2)
  obtain ⟨e1,e2,e3,hbd,hl,ho⟩:=hI.lists
  subst e1 e2 e3
  clear v0 v1 v2 v3 v4 r0 r1 r2 r3 r4 f0 f1 f2 f3 f4 b0 b1 b2 b3 b4 b5 b6 b7 b8 b9 b10 b11
  obtain ⟨v0,v1,v2,v3,v4⟩:=row5 B2.v.at_
  obtain ⟨b0,b1,b2,b3,b4,b5,b6,b7,b8,b9,b10,b11⟩:=row12 B2.c.at_
  obtain ⟨r0,r1,r2,r3,r4⟩:=row5 B2.r.at_
  have f0:=B2.r.fr 0;have f1:=B2.r.fr 1;have f2:=B2.r.fr 2;have f3:=B2.r.fr 3;have f4:=B2.r.fr 4
  have z0:=B2.v.lt;have z1:=B2.c.lt;have z2:=B2.r.lt
  have zW:=HBW.out.below.size
  have zW2:=hb2.size
  have z22:=B2.r.lt
  have HB2:=Lib.hid B2
  have HI:=Lib.hid hI
  have HBD:=Lib.hid hbd
  have HL:=Lib.hid hl
  have HO:=Lib.hid ho
  have HAL:=Lib.hid (((Below.refl _ _).alloc (Nat.le_refl _) (.cells #[.int .u8 d.k, .int .i64 d.n, .string d.s, .slice d.la d.ll d.lc, .slice d.oa d.ol d.oc] 33)):Below W2.heap.size W2 _)
  clear B2 hI hbd hl ho hb2
  rw [HK.out] at b0
  obtain ⟨N,hN⟩:∃N,wrap64 (d.n+cc.n)=N:=⟨_,rfl⟩
  have hwr:IntKind.i64.wrap (d.n+cc.n)=N:=(wrapEq _).trans hN
  have hN0: -9223372036854775808≤N:=by rw [←hN];exact i64_lo _
  have hN1:N≤9223372036854775807:=by rw [←hN];exact i64_hi _
  have HN:=Lib.hid hN
  clear hN
  go_wp2_with fail
  have hbl4:Below W2.heap.size W2 (W2.alloc (.cells #[.int .u8 d.k, .int .i64 N, .string d.s, .slice d.la d.ll d.lc, .slice d.oa d.ol d.oc] 33)):=(Below.refl _ _).alloc (Nat.le_refl _) _
  have hx4:=(HI.out.sub (shows_only _ _ _)).later_ hbl4
  obtain ⟨_,_,_,_,hl4,ho4⟩:=hx4.lists
  have HB4:=Lib.hid (HB2.out.next hbl4 (Nat.succ_le_of_lt z22))
  have HCALL:Hid (Calls Tryz.prog 86 #[.agg #[.int .u8 vk, .int .i64 vn, .string vs, .slice la ll lc, .slice oa ol oc], .slice cc.pa cc.pl cc.pc, .agg #[.int .u8 d.k, .int .i64 N, .string d.s, .slice d.la d.ll d.lc, .slice d.oa d.ol d.oc]] (W2.alloc (.cells #[.int .u8 d.k, .int .i64 N, .string d.s, .slice d.la d.ll d.lc, .slice d.oa d.ol d.oc] 33)) (GetPost (W2.alloc (.cells #[.int .u8 d.k, .int .i64 N, .string d.s, .slice d.la d.ll d.lc, .slice d.oa d.ol d.oc] 33)) (some z))):=by
    have:=HPT.out (W2.alloc (.cells #[.int .u8 d.k, .int .i64 N, .string d.s, .slice d.la d.ll d.lc, .slice d.oa d.ol d.oc] 33)) Y d.k N d.s d.la d.ll d.lc d.oa d.ol d.oc HB4.out.below (by
      have hYe:Y= .mk d.k N d.s lx ox:=by rw [←HY.out,doneP,if_pos HK.out, ←HN.out];rfl
      rw [hYe]
      exact isVal_parts HBD.out.k0 HBD.out.k1 hN0 hN1 HBD.out.s1 hl4 ho4)
    rw [HPR.out] at this;exact this
  clear hx4 hl4 ho4
  refine HCALL.out.mono ?_
  rintro e W6 ⟨⟨d6,rfl,hz⟩,hb6⟩
  have B6:=HB4.out.next hb6 (Nat.succ_le_of_lt HB4.out.r.lt)
  clear v0 v1 v2 v3 v4 r0 r1 r2 r3 r4 f0 f1 f2 f3 f4 b0 b1 b2 b3 b4 b5 b6 b7 b8 b9 b10 b11
  obtain ⟨v0,v1,v2,v3,v4⟩:=row5 B6.v.at_
  obtain ⟨b0,b1,b2,b3,b4,b5,b6,b7,b8,b9,b10,b11⟩:=row12 B6.c.at_
  obtain ⟨r0,r1,r2,r3,r4⟩:=row5 B6.r.at_
  have f0:=B6.r.fr 0;have f1:=B6.r.fr 1;have f2:=B6.r.fr 2;have f3:=B6.r.fr 3;have f4:=B6.r.fr 4
  have z0:=B6.v.lt;have z1:=B6.c.lt;have z2:=B6.r.lt
  have HB6:=Lib.hid B6
  have hz4:=HB4.out.below.size
  have hz5:=HB4.out.r.lt
  have HZ:=Lib.hid hz
  clear B6 hb6 hz
  go_wp2_with fail
  rw [←HQ.out]
  have ST:=HB6.out.result d6
  have hst:=setV_step W6 (w.heap.size+1+1) 0 d6
  exact do_leave (r:=(z,0)) ST.1 ((isVal_far (base:=w.heap.size+1+1+1) (HZ.out.sub (shows_step fun k hk _=>⟨Nat.le_trans (Nat.succ_le_of_lt hz5) hk,rfl⟩)) hst (by omega)).sub (shows_step fun k hk _=>⟨by omega,rfl⟩)) ST.2 rfl rfl rfl
end Go.Proofs.YtgcfhkceejcliaaGreatDoor
namespace Go.Proofs.YtgcfhkceejcliaaGreatDoor
open Go.RowKit
inductive V.Num:V→Prop
  |mk (k n:Int) (s:ByteArray) (l:List V) (o:List (ByteArray×V)) (h0: -9223372036854775808≤n) (h1:n≤9223372036854775807) (hl:∀i (h:i<l.length),V.Num l[i]) (ho:∀i (h:i<o.length),V.Num o[i].2):V.Num (.mk k n s l o)
theorem IsVal.num {w:World} {B:Nat} {v:V} {c:VC} (h:IsVal w B v c):v.Num:=by
  induction h with
  |mk c l o cl co lb lo ob oo hbd hl ho hla hoa hlc hlv hoc hov ihl iho=>exact .mk _ _ _ _ _ hbd.n0 hbd.n1 ihl iho
end Go.Proofs.YtgcfhkceejcliaaGreatDoor
namespace Go.Proofs.YtgcfhkceejcliaaGreatDoor
open Go.RowKit
theorem CompAt.c7 {w:World} {b o:Nat} {c:CC} (h:CompAt w b o c):w.cell? ⟨b,o+7,none⟩=some (.int .i64 c.v.n):=h.c6.c1
theorem CompAt.c8 {w:World} {b o:Nat} {c:CC} (h:CompAt w b o c):w.cell? ⟨b,o+8,none⟩=some (.string c.v.s):=h.c6.c2
theorem CompAt.c9 {w:World} {b o:Nat} {c:CC} (h:CompAt w b o c):w.cell? ⟨b,o+9,none⟩=some (.slice c.v.la c.v.ll c.v.lc):=h.c6.c3
theorem CompAt.c10 {w:World} {b o:Nat} {c:CC} (h:CompAt w b o c):w.cell? ⟨b,o+10,none⟩=some (.slice c.v.oa c.v.ol c.v.oc):=h.c6.c4
theorem EntryAt.c4 {w:World} {b o:Nat} {c:EC} (h:EntryAt w b o c):w.cell? ⟨b,o+4,none⟩=some (.int .i64 c.v.n):=h.c3.c1
theorem EntryAt.c5 {w:World} {b o:Nat} {c:EC} (h:EntryAt w b o c):w.cell? ⟨b,o+5,none⟩=some (.string c.v.s):=h.c3.c2
theorem EntryAt.c6 {w:World} {b o:Nat} {c:EC} (h:EntryAt w b o c):w.cell? ⟨b,o+6,none⟩=some (.slice c.v.la c.v.ll c.v.lc):=h.c3.c3
theorem EntryAt.c7 {w:World} {b o:Nat} {c:EC} (h:EntryAt w b o c):w.cell? ⟨b,o+7,none⟩=some (.slice c.v.oa c.v.ol c.v.oc):=h.c3.c4
theorem Boxed1.next {w W W1 W2:World} {B:Nat} {c:VC} (h:Boxed1 w W c) (hb:Below B W1 W2) (hW:Below W.heap.size W W1) (hB:B=W1.heap.size):Boxed1 w W2 c:=by
  subst hB;exact (h.step hW).step hb
theorem Boxed1C.next {w W W1 W2:World} {B:Nat} {c:CC} (h:Boxed1C w W c) (hb:Below B W1 W2) (hW:Below W.heap.size W W1) (hB:B=W1.heap.size):Boxed1C w W2 c:=by
  subst hB;exact (h.step hW).step hb
def lightB (v:V):Bool:=v.sound && decide (v.deep≤16) && decide (v.weight≤20000)
set_option maxHeartbeats 4000000 in
set_option maxRecDepth 100000 in
theorem light_any (v:V) (w:World) (hT:Tabs w) (c:VC) (hv:IsVal w w.heap.size v c) (hw:v.weight≤4611686018427387904):
    Calls Tryz.prog 30 #[.agg #[.int .u8 c.k, .int .i64 c.n, .string c.s, .slice c.la c.ll c.lc, .slice c.oa c.ol c.oc]] w fun e w'=>e= .returned (.bool (lightB v))∧Below w.heap.size w w':=by
  obtain ⟨sd,hsd⟩:∃sd,v.sound=sd:=⟨_,rfl⟩
  obtain ⟨dp,hdp⟩:∃dp,v.deep=dp:=⟨_,rfl⟩
  obtain ⟨wt,hwt⟩:∃wt,v.weight=wt:=⟨_,rfl⟩
  have HSD:Hid (Behind w 53 #[.agg #[.int .u8 c.k, .int .i64 c.n, .string c.s, .slice c.la c.ll c.lc, .slice c.oa c.ol c.oc]] (.bool sd)):=fun W hW=>by rw [←hsd];exact valSound_any v W c (hv.later_ hW) (hT.below hW)
  have HDP:Hid (Behind w 54 #[.agg #[.int .u8 c.k, .int .i64 c.n, .string c.s, .slice c.la c.ll c.lc, .slice c.oa c.ol c.oc]] (.int .i64 dp)):=fun W hW=>by rw [←hdp];exact valDeep_any v hw W c (hv.later_ hW)
  have HWT:Hid (Behind w 55 #[.agg #[.int .u8 c.k, .int .i64 c.n, .string c.s, .slice c.la c.ll c.lc, .slice c.oa c.ol c.oc]] (.int .i64 wt)):=fun W hW=>by rw [←hwt];exact valWeight_any v hw W c (hv.later_ hW)
  have k4:wt≤4611686018427387904:=by omega
  have k5:dp≤4611686018427387904:=by have:=v.deep_lt;omega
  have hR2:lightB v=(sd && decide (dp≤16) && decide (wt≤20000)):=by rw [lightB,hsd,hdp,hwt]
  have HR:=Lib.hid hR2
  have bx:=boxed1_start w c 33
  clear hsd hdp hwt hR2 hv hw hT
  go_enter Tryz.func30,Tryz.ntmps30
  cases sd with
  |false=>go_wp2_with (go_at_call 53;(with_reducible refine (Behind.at_ (HSD.out) ?_).mono ?_);(focus (have:=bx.below;have:=bx.size;go_grown));rintro e w1 ⟨rfl,hb1⟩;replace bx:=bx.next hb1 (by go_grown) rfl;have zs:w.heap.size<w1.heap.size:=bx.size;have y0:=bx.a.c0;have y1:=bx.a.c1;have y2:=bx.a.c2;have y3:=bx.a.c3;have y4:=bx.a.c4);go_ret;exact ⟨ret_bool (by rw [HR.out];first|(simp [*];done)|(simp [*];try omega)),by have:=bx.below;have:=bx.size;go_grown⟩
  |true=>
  go_wp2_with (go_at_call 53;(with_reducible refine (Behind.at_ (HSD.out) ?_).mono ?_);(focus (have:=bx.below;have:=bx.size;go_grown));rintro e w1 ⟨rfl,hb1⟩;replace bx:=bx.next hb1 (by go_grown) rfl;have zs:w.heap.size<w1.heap.size:=bx.size;have y0:=bx.a.c0;have y1:=bx.a.c1;have y2:=bx.a.c2;have y3:=bx.a.c3;have y4:=bx.a.c4)
  by_cases hd:dp≤16
  case neg=>
    have hdB:decide ((dp:Int)≤16)=false:=by simp;omega
    go_wp2_with (go_at_call 54;(with_reducible refine (Behind.at_ (HDP.out) ?_).mono ?_);(focus (have:=bx.below;have:=bx.size;go_grown));rintro e w1 ⟨rfl,hb1⟩;replace bx:=bx.next hb1 (by go_grown) rfl;have zs:w.heap.size<w1.heap.size:=bx.size;have y0:=bx.a.c0;have y1:=bx.a.c1;have y2:=bx.a.c2;have y3:=bx.a.c3;have y4:=bx.a.c4);go_ret;exact ⟨ret_bool (by rw [HR.out];first|(simp [*];done)|(simp [*];try omega)),by have:=bx.below;have:=bx.size;go_grown⟩
  have hdB:decide ((dp:Int)≤16)=true:=by simp;omega
  go_wp2_with (first|(go_at_call 54;(with_reducible refine (Behind.at_ (HDP.out) ?_).mono ?_);(focus (have:=bx.below;have:=bx.size;go_grown));rintro e w1 ⟨rfl,hb1⟩;replace bx:=bx.next hb1 (by go_grown) rfl;have zs:w.heap.size<w1.heap.size:=bx.size;have y0:=bx.a.c0;have y1:=bx.a.c1;have y2:=bx.a.c2;have y3:=bx.a.c3;have y4:=bx.a.c4)|(go_at_call 55;(with_reducible refine (Behind.at_ (HWT.out) ?_).mono ?_);(focus (have:=bx.below;have:=bx.size;go_grown));rintro e w1 ⟨rfl,hb1⟩;replace bx:=bx.next hb1 (by go_grown) rfl;have zs:w.heap.size<w1.heap.size:=bx.size;have y0:=bx.a.c0;have y1:=bx.a.c1;have y2:=bx.a.c2;have y3:=bx.a.c3;have y4:=bx.a.c4))
  go_ret;exact ⟨ret_bool (by rw [HR.out];first|(simp [*];done)|(simp [*];try omega)),by have:=bx.below;have:=bx.size;go_grown⟩
set_option maxHeartbeats 4000000 in
set_option maxRecDepth 100000 in
theorem refLight_any (v:V) (w:World) (hT:Tabs w) (c:VC) (hv:IsVal w w.heap.size v c) (hw:v.weight≤4611686018427387904):
    Calls Tryz.prog 35 #[.agg #[.int .u8 c.k, .int .i64 c.n, .string c.s, .slice c.la c.ll c.lc, .slice c.oa c.ol c.oc]] w fun e w'=>e= .returned (.bool (lightB v))∧Below w.heap.size w w':=by
  obtain ⟨sd,hsd⟩:∃sd,v.sound=sd:=⟨_,rfl⟩
  obtain ⟨dp,hdp⟩:∃dp,v.deep=dp:=⟨_,rfl⟩
  obtain ⟨wt,hwt⟩:∃wt,v.weight=wt:=⟨_,rfl⟩
  have HSD:Hid (Behind w 61 #[.agg #[.int .u8 c.k, .int .i64 c.n, .string c.s, .slice c.la c.ll c.lc, .slice c.oa c.ol c.oc]] (.bool sd)):=fun W hW=>by rw [←hsd];exact refSound_any v W c (hv.later_ hW) (hT.below hW)
  have HDP:Hid (Behind w 62 #[.agg #[.int .u8 c.k, .int .i64 c.n, .string c.s, .slice c.la c.ll c.lc, .slice c.oa c.ol c.oc]] (.int .i64 dp)):=fun W hW=>by rw [←hdp];exact refDeep_any v W c (hv.later_ hW) hw
  have HWT:Hid (Behind w 63 #[.agg #[.int .u8 c.k, .int .i64 c.n, .string c.s, .slice c.la c.ll c.lc, .slice c.oa c.ol c.oc]] (.int .i64 wt)):=fun W hW=>by rw [←hwt];exact refWeight_any v W c (hv.later_ hW) hw
  have k4:wt≤4611686018427387904:=by omega
  have k5:dp≤4611686018427387904:=by have:=v.deep_lt;omega
  have hR2:lightB v=(sd && decide (dp≤16) && decide (wt≤20000)):=by rw [lightB,hsd,hdp,hwt]
  have HR:=Lib.hid hR2
  have bx:=boxed1_start w c 33
  clear hsd hdp hwt hR2 hv hw hT
  go_enter Tryz.func35,Tryz.ntmps35
  cases sd with
  |false=>go_wp2_with (go_at_call 61;(with_reducible refine (Behind.at_ (HSD.out) ?_).mono ?_);(focus (have:=bx.below;have:=bx.size;go_grown));rintro e w1 ⟨rfl,hb1⟩;replace bx:=bx.next hb1 (by go_grown) rfl;have zs:w.heap.size<w1.heap.size:=bx.size;have y0:=bx.a.c0;have y1:=bx.a.c1;have y2:=bx.a.c2;have y3:=bx.a.c3;have y4:=bx.a.c4);go_ret;exact ⟨ret_bool (by rw [HR.out];first|(simp [*];done)|(simp [*];try omega)),by have:=bx.below;have:=bx.size;go_grown⟩
  |true=>
  go_wp2_with (go_at_call 61;(with_reducible refine (Behind.at_ (HSD.out) ?_).mono ?_);(focus (have:=bx.below;have:=bx.size;go_grown));rintro e w1 ⟨rfl,hb1⟩;replace bx:=bx.next hb1 (by go_grown) rfl;have zs:w.heap.size<w1.heap.size:=bx.size;have y0:=bx.a.c0;have y1:=bx.a.c1;have y2:=bx.a.c2;have y3:=bx.a.c3;have y4:=bx.a.c4)
  by_cases hd:dp≤16
  case neg=>
    have hdB:decide ((dp:Int)≤16)=false:=by simp;omega
    go_wp2_with (go_at_call 62;(with_reducible refine (Behind.at_ (HDP.out) ?_).mono ?_);(focus (have:=bx.below;have:=bx.size;go_grown));rintro e w1 ⟨rfl,hb1⟩;replace bx:=bx.next hb1 (by go_grown) rfl;have zs:w.heap.size<w1.heap.size:=bx.size;have y0:=bx.a.c0;have y1:=bx.a.c1;have y2:=bx.a.c2;have y3:=bx.a.c3;have y4:=bx.a.c4);go_ret;exact ⟨ret_bool (by rw [HR.out];first|(simp [*];done)|(simp [*];try omega)),by have:=bx.below;have:=bx.size;go_grown⟩
  have hdB:decide ((dp:Int)≤16)=true:=by simp;omega
  go_wp2_with (first|(go_at_call 62;(with_reducible refine (Behind.at_ (HDP.out) ?_).mono ?_);(focus (have:=bx.below;have:=bx.size;go_grown));rintro e w1 ⟨rfl,hb1⟩;replace bx:=bx.next hb1 (by go_grown) rfl;have zs:w.heap.size<w1.heap.size:=bx.size;have y0:=bx.a.c0;have y1:=bx.a.c1;have y2:=bx.a.c2;have y3:=bx.a.c3;have y4:=bx.a.c4)|(go_at_call 63;(with_reducible refine (Behind.at_ (HWT.out) ?_).mono ?_);(focus (have:=bx.below;have:=bx.size;go_grown));rintro e w1 ⟨rfl,hb1⟩;replace bx:=bx.next hb1 (by go_grown) rfl;have zs:w.heap.size<w1.heap.size:=bx.size;have y0:=bx.a.c0;have y1:=bx.a.c1;have y2:=bx.a.c2;have y3:=bx.a.c3;have y4:=bx.a.c4))
  go_ret;exact ⟨ret_bool (by rw [HR.out];first|(simp [*];done)|(simp [*];try omega)),by have:=bx.below;have:=bx.size;go_grown⟩
set_option maxHeartbeats 2000000 in
set_option maxRecDepth 100000 in
theorem indexComp_any (l:List Cm) (w:World) (a:Option Addr) (n c:Nat) (h:IsComps w w.heap.size l a n c) (p:Cm→Bool) (g:Nat) (eg:∀args w,(callFunc g args).run Tryz.prog w= .ok (.enter g args) w)
    (hg:∀(x:Cm) (d:CC) (W:World),x ∈ l→Below w.heap.size w W→IsComp W W.heap.size x d→Calls Tryz.prog g #[.agg #[.int .u8 d.k, .slice d.pa d.pl d.pc, .string d.key, .int .i64 d.i, .int .i64 d.j, .int .i64 d.n, .int .u8 d.v.k, .int .i64 d.v.n, .string d.v.s, .slice d.v.la d.v.ll d.v.lc, .slice d.v.oa d.v.ol d.v.oc, .string d.s]] W fun e w'=>e= .returned (.bool (p x))∧Below W.heap.size W w'):
    Calls Tryz.prog 56 #[.slice a n c, .func (.func g) #[] #[]] w fun e w'=>(∃r:Int,e= .returned (.int .i64 r)∧Hid (decide (0≤r)=l.any p)∧ -1≤r∧r≤9223372036854775807)∧Below w.heap.size w w':=by
  have k1:=h.max;have k2:=h.few
  have HLn:=Lib.hid h.len
  have HG:=Lib.hid hg
  clear hg
  go_enter Tryz.func56,Tryz.ntmps56
  go_wp2_with fail
  go_loopw [5,8] (fun _ i wr=>∃k:Nat,k≤n∧i= .int .i64 k∧Hid (∀j,j<k→∀hj:j<l.length,p l[j] =false)∧Below w.heap.size w wr) (fun _ i _=>n - (intOf i).toNat)
  case atStart=>exact ⟨0,Nat.zero_le _,rfl,fun j hj=>by omega,Below.refl _ _⟩
  case round=>
    obtain ⟨k,hk,rfl,HJ,hB⟩:=hrel
    by_cases hlt:k<n
    · obtain ⟨b,o,d,kl,rfl,hb,x1,xb⟩:=h.get hlt
      have x1:=x1.keep hB hb
      have r0:=x1.c0;have r1:=x1.c1;have r2:=x1.c2;have r3:=x1.c3;have r4:=x1.c4;have r5:=x1.c5;have r6:=x1.c6.c0;have r7:=x1.c7;have r8:=x1.c8;have r9:=x1.c9;have r10:=x1.c10;have r11:=x1.c11
      have hc:=HG.out l[k] d wr (List.getElem_mem kl) hB (xb.later_ hB)
      clear x1 h
      generalize hx:p l[k] =bx at hc
      have HX:=Lib.hid hx
      have HC:=Lib.hid hc
      clear hx hc
      cases bx with
      | false=>
        go_wp2_with (go_at_fn g;refine HC.out.mono ?_;rintro e w' ⟨rfl,hb'⟩)
        go_roundw
        case rel=>exact ⟨k+1,by omega,by go_num,none_step HJ kl HX.out,hB.on hb' hB.size⟩
        case measure=>simp [intOf];omega
      | true=>
        go_wp2_with (go_at_fn g;refine HC.out.mono ?_;rintro e w' ⟨rfl,hb'⟩)
        go_ret
        exact ⟨⟨k,rfl,by show _=_;rw [any_hit kl HX.out];simp,by omega,by omega⟩,hB.on hb' hB.size⟩
    · go_wp2_with fail
      go_ret
      exact ⟨⟨-1,rfl,by show _=_;rw [any_none (n:=n) HLn.out (fun j hj=>HJ.out j (by omega))];rfl,by omega,by omega⟩,hB⟩
set_option maxHeartbeats 2000000 in
set_option maxRecDepth 100000 in
theorem containsComp_any (l:List Cm) (w:World) (a:Option Addr) (n c:Nat) (h:IsComps w w.heap.size l a n c) (p:Cm→Bool) (g:Nat) (eg:∀args w,(callFunc g args).run Tryz.prog w= .ok (.enter g args) w)
    (hg:∀(x:Cm) (d:CC) (W:World),x ∈ l→Below w.heap.size w W→IsComp W W.heap.size x d→Calls Tryz.prog g #[.agg #[.int .u8 d.k, .slice d.pa d.pl d.pc, .string d.key, .int .i64 d.i, .int .i64 d.j, .int .i64 d.n, .int .u8 d.v.k, .int .i64 d.v.n, .string d.v.s, .slice d.v.la d.v.ll d.v.lc, .slice d.v.oa d.v.ol d.v.oc, .string d.s]] W fun e w'=>e= .returned (.bool (p x))∧Below W.heap.size W w'):
    Calls Tryz.prog 31 #[.slice a n c, .func (.func g) #[] #[]] w fun e w'=>e= .returned (.bool (l.any p))∧Below w.heap.size w w':=by
  have k1:=h.max;have k2:=h.few
  have hc:=indexComp_any l w a n c h p g eg hg
  have HC:=Lib.hid hc
  clear hg hc h eg
  go_enter Tryz.func31,Tryz.ntmps31
  go_wp2_with (go_at_call 56;refine HC.out.mono ?_;rintro e w' ⟨⟨r,rfl,hr,h1,h2⟩,hb⟩)
  go_ret
  exact ⟨ret_bool (by rw [←hr.out]),hb⟩
set_option maxHeartbeats 2000000 in
set_option maxRecDepth 100000 in
theorem compBad_any (x:Cm) (w:World) (hT:Tabs w) (c:CC) (hx:IsComp w w.heap.size x c) (hw:x.v.weight≤4611686018427387904):
    Calls Tryz.prog 32 #[.agg #[.int .u8 c.k, .slice c.pa c.pl c.pc, .string c.key, .int .i64 c.i, .int .i64 c.j, .int .i64 c.n, .int .u8 c.v.k, .int .i64 c.v.n, .string c.v.s, .slice c.v.la c.v.ll c.v.lc, .slice c.v.oa c.v.ol c.v.oc, .string c.s]] w fun e w'=>e= .returned (.bool (!cmSound x))∧Below w.heap.size w w':=by
  have HC:Hid (∀W,Below w.heap.size w W→Calls Tryz.prog 33 #[.agg #[.int .u8 c.k, .slice c.pa c.pl c.pc, .string c.key, .int .i64 c.i, .int .i64 c.j, .int .i64 c.n, .int .u8 c.v.k, .int .i64 c.v.n, .string c.v.s, .slice c.v.la c.v.ll c.v.lc, .slice c.v.oa c.v.ol c.v.oc, .string c.s]] W fun e w'=>e= .returned (.bool (cmSound x))∧Below W.heap.size W w'):=fun W hW=>compSound_any x W (hT.below hW) c (hx.later_ hW) hw
  clear hx hT
  go_enter Tryz.func32,Tryz.ntmps32
  go_wp2_with (go_at_call 33;refine (HC.out _ ((Below.refl _ _).alloc (Nat.le_refl _) _)).mono ?_;rintro e w' ⟨rfl,hb⟩)
  go_ret
  exact ⟨rfl,hb.one⟩
end Go.Proofs.YtgcfhkceejcliaaGreatDoor
namespace Go.Proofs.YtgcfhkceejcliaaGreatDoor
open Go.RowKit
theorem low_lt (b:UInt8):(low b).toNat<128:=by
  unfold low;rw [UInt8.toNat_ofNat'];omega
theorem valid_low {l:List UInt8} (h:∀b ∈ l,b.toNat<128):Lib.validD l=true:=by
  have:=Lib.validD_ascii l.length l (fun b hb=>h b (List.mem_of_mem_take hb))
  rw [this,List.drop_length];rfl
theorem plainS_valid (s:ByteArray):Lib.validD (plainS s).data.toList=true:=by
  refine valid_low fun b hb=> ?_
  have:b ∈ plainL s.data.toList:=by simpa [plainS] using hb
  obtain ⟨c,_,rfl⟩:=List.mem_map.1 this
  exact low_lt c
theorem keyP_valid (l:List Tk) (u:Nat):Lib.validD (keyP l u).data.toList=true:=by
  unfold keyP
  split
  · exact plainS_valid _
  · rfl
theorem fieldK_lt (o:List (ByteArray×V)) (key:ByteArray):∀i a,o[i]? =some a→i<fieldK o key→Op.bytesLess a.1.toList key.toList=true:=by
  unfold fieldK
  induction o with
  |nil=>intro i a h;simp at h
  | cons f o ih=>
    intro i a h hi
    by_cases hf:Op.bytesLess f.1.toList key.toList=true
    · rw [List.takeWhile_cons,if_pos hf,List.length_cons] at hi
      cases i with
      |zero=>simp at h;subst h;exact hf
      |succ i=>exact ih i a (by simpa using h) (by omega)
    · rw [List.takeWhile_cons,if_neg hf] at hi
      simp at hi
theorem fieldK_stop (o:List (ByteArray×V)) (key:ByteArray):∀a,o[fieldK o key]? =some a→Op.bytesLess a.1.toList key.toList=false:=by
  unfold fieldK
  induction o with
  |nil=>intro a h;simp at h
  | cons f o ih=>
    intro a h
    by_cases hf:Op.bytesLess f.1.toList key.toList=true
    · rw [List.takeWhile_cons,if_pos hf,List.length_cons] at h
      exact ih a (by simpa using h)
    · rw [List.takeWhile_cons,if_neg hf] at h
      simp at h;subst h
      cases hq:Op.bytesLess f.1.toList key.toList with
      |true=>exact absurd hq hf
      |false=>rfl
theorem rising_get {o:List (ByteArray×V)} :rising o=true↔∀i a b,o[i]? =some a→o[i+1]? =some b→Op.bytesLess a.1.toList b.1.toList=true:=by
  rw [rising_iff]
  constructor
  · intro h i a b ha hb
    have hb1:=(List.getElem?_eq_some_iff.1 hb).1
    have:=h i hb1
    rw [List.getElem?_eq_getElem (by omega)] at ha
    rw [List.getElem?_eq_getElem hb1] at hb
    injection ha with ha;injection hb with hb
    rw [←ha, ←hb];exact this
  · intro h i hi
    exact h i _ _ (List.getElem?_eq_getElem (by omega)) (List.getElem?_eq_getElem hi)
theorem rising_with {o:List (ByteArray×V)} (key:ByteArray) (x:V) (h:rising o=true):rising (withF o key x)=true:=by
  rw [rising_get] at h ⊢
  obtain ⟨k,hk⟩:∃k,fieldK o key=k:=⟨_,rfl⟩
  have hkl:=fieldK_le o key
  have hlt:=fieldK_lt o key
  have hst:=fieldK_stop o key
  obtain ⟨k',hk'⟩:∃k',(if fieldIs o key=true then fieldK o key+1 else fieldK o key)=k':=⟨_,rfl⟩
  have hnext:∀b,o[k']? =some b→Op.bytesLess key.toList b.1.toList=true:=by
    intro b hb
    by_cases e:fieldIs o key=true
    · rw [if_pos e,hk] at hk'
      unfold fieldIs at e
      rw [hk] at e
      cases hf:o[k]? with
      |none=>rw [hf] at e;cases e
      | some f=>
        rw [hf] at e
        have e:f.1.toList=key.toList:=by simpa using e
        rw [←e]
        rw [←hk'] at hb
        exact h k f b hf hb
    · rw [if_neg e,hk] at hk'
      unfold fieldIs at e
      rw [←hk'] at hb
      have h1:=hst b (by rw [hk];exact hb)
      rw [hk,hb] at e
      rcases less_total b.1.toList key.toList with h2|h2|h2
      · rw [h1] at h2;cases h2
      · exact absurd (by simpa using h2) e
      · exact h2
  rw [hk] at hkl hlt
  have hw:withF o key x=o.take k++(key,x)::o.drop k':=by rw [withF,hk',hk]
  rw [hw]
  have l1:(o.take k).length=k:=by rw [List.length_take,Nat.min_eq_left hkl]
  have g1:∀i,i<k→(o.take k++(key,x)::o.drop k')[i]? =o[i]? :=fun i hi=>by
    rw [List.getElem?_append_left (by omega),List.getElem?_take_of_lt hi]
  have g2:(o.take k++(key,x)::o.drop k')[k]? =some (key,x):=by
    rw [List.getElem?_append_right (by omega),l1,Nat.sub_self];rfl
  have g3:∀m,(o.take k++(key,x)::o.drop k')[k+1+m]? =o[k'+m]? :=fun m=>by
    rw [List.getElem?_append_right (by omega),l1,show k+1+m - k=m+1 by omega,List.getElem?_cons_succ,List.getElem?_drop]
  intro i a b ha hb
  by_cases e1:i+1<k
  · rw [g1 _ (by omega)] at ha
    rw [g1 _ e1] at hb
    exact h i a b ha hb
  · by_cases e2:i+1=k
    · rw [g1 _ (by omega)] at ha
      rw [e2,g2] at hb
      injection hb with hb;subst hb
      exact hlt i a ha (by omega)
    · by_cases e3:i=k
      · subst e3
        rw [g2] at ha
        injection ha with ha;subst ha
        have:=g3 0
        rw [Nat.add_zero,Nat.add_zero] at this
        rw [this] at hb
        exact hnext b hb
      · obtain ⟨m,rfl⟩:∃m,i=k+1+m:=⟨i - k - 1,by omega⟩
        rw [g3] at ha
        rw [show k+1+m+1=k+1+(m+1) by omega,g3] at hb
        exact h (k'+m) a b ha hb
theorem withF_mem {o:List (ByteArray×V)} {key:ByteArray} {x:V} {f:ByteArray×V} (h:f ∈ withF o key x):f ∈ o∨f=(key,x):=by
  unfold withF at h
  rcases List.mem_append.1 h with h|h
  · exact .inl (List.mem_of_mem_take h)
  · rcases List.mem_cons.1 h with h|h
    · exact .inr h
    · exact .inl (List.mem_of_mem_drop h)
theorem withF_sum (g:ByteArray×V→Nat) (o:List (ByteArray×V)) (key:ByteArray) (x:V):((withF o key x).map g).sum≤(o.map g).sum+g (key,x):=by
  have hd:∀n,((o.drop (n+1)).map g).sum≤((o.drop n).map g).sum:=fun n=>by
    rw [←List.drop_drop,List.drop_one]
    cases o.drop n with
    |nil=>simp
    |cons a r=>simp
  have ht:((o.take (fieldK o key)).map g).sum+((o.drop (fieldK o key)).map g).sum=(o.map g).sum:=by
    rw [←List.sum_append, ←List.map_append,List.take_append_drop]
  unfold withF
  rw [List.map_append,List.map_cons,List.sum_append,List.sum_cons]
  split
  · have:=hd (fieldK o key);omega
  · omega
theorem weightO_sum (o:List (ByteArray×V)):weightO o=(o.map fun f=>f.1.size+f.2.weight).sum:=by
  induction o with
  |nil=>rfl
  |cons f r ih=>rw [weightO,weightF_eq,ih,List.map_cons,List.sum_cons]
theorem encO_sum (o:List (ByteArray×V)):(encO o).length=(o.map fun f=>(encF f).length).sum:=by
  induction o with
  |nil=>rfl
  |cons f r ih=>rw [encO,List.length_append,ih,List.map_cons,List.sum_cons]
theorem deepL_le {l:List V} {n:Nat} (h:∀v ∈ l,v.deep+1≤n):deepL l≤n:=by
  induction l with
  |nil=>simp [deepL]
  | cons v r ih=>
    rw [deepL]
    have h1:=h v (by simp)
    have h2:=ih fun x hx=>h x (by simp [hx])
    omega
theorem deepO_le {o:List (ByteArray×V)} {n:Nat} (h:∀f ∈ o,f.2.deep+1≤n):deepO o≤n:=by
  induction o with
  |nil=>simp [deepO]
  | cons v r ih=>
    rw [deepO,deepF_eq]
    have h1:=h v (by simp)
    have h2:=ih fun x hx=>h x (by simp [hx])
    omega
structure Built (d:Nat) (v:V) (u:Nat):Prop where
  sound:v.sound=true
  deep:v.deep≤d
  wt:v.weight+40≤81*(3*u+1)
  len:(encV v).length+44≤90*(3*u+1)
theorem built_none (d:Nat):Built d V.none 0:=⟨by simp [V.none,V.sound,plainB,rising,soundL,soundO],by simp [V.none,V.deep,deepL,deepO],by simp [V.none,V.weight,weightL,weightO],by simp [V.none,encV,be_length]⟩
theorem Built.more {d u u':Nat} {v:V} (h:Built d v u) (hu:u≤u'):Built d v u':=⟨h.sound,h.deep,by have:=h.wt;omega,by have:=h.len;omega⟩
theorem built_leaf (d:Nat) (t:Tk):Built d (leafP t) 1:=by
  have hp:=plainS_size t.s
  have hv:=plainS_valid t.s
  unfold leafP
  split
  · have:t.n % 2=0∨t.n % 2=1:=by omega
    refine ⟨?_,by simp [V.deep,deepL,deepO],by simp [V.weight,weightL,weightO],by simp [encV,be_length]⟩
    rcases this with h|h<;>simp [h,V.sound,plainB,rising,soundL,soundO]
  · split
    · exact ⟨by simp [V.sound,plainB,rising,soundL,soundO],by simp [V.deep,deepL,deepO],by simp [V.weight,weightL,weightO],by simp [encV,be_length]⟩
    · split
      · exact ⟨by simp [V.sound,plainB,rising,soundL,soundO,hv],by simp [V.deep,deepL,deepO],by simp [V.weight,weightL,weightO];omega,by simp [encV,be_length,encS_length];omega⟩
      · split
        · exact ⟨by simp [V.sound,plainB,rising,soundL,soundO],by simp [V.deep,deepL,deepO],by simp [V.weight,weightL,weightO],by simp [encV,encL,be_length]⟩
        · split
          · exact ⟨by simp [V.sound,plainB,rising,soundL,soundO],by simp [V.deep,deepL,deepO],by simp [V.weight,weightL,weightO],by simp [encV,encO,be_length]⟩
          · exact (built_none d).more (by omega)
theorem built_L {d:Nat} {f:List Tk→V×Nat} (hf:∀l,Built d (f l).1 (f l).2) (l:List Tk):∀j,(∀v ∈ (bL f l j).1,v.sound=true∧v.deep≤d)∧1≤(bL f l j).2∧weightL (bL f l j).1+40*j≤81*(3*((bL f l j).2 - 1)+j)∧(encL (bL f l j).1).length+44*j≤90*(3*((bL f l j).2 - 1)+j):=by
  intro j
  induction j with
  |zero=>exact ⟨by simp [bL],by simp [bL],by simp [bL,weightL],by simp [bL,encL]⟩
  | succ j ih=>
    obtain ⟨h1,h2,h3,h4⟩:=ih
    rw [bL]
    have hb:=hf (l.drop (bL f l j).2)
    have hw:=hb.wt
    have hn:=hb.len
    dsimp only
    rw [weightL_append,encL_append,List.length_append]
    simp only [weightL,encL,List.append_nil]
    refine ⟨fun v hv=> ?_,by omega,by omega,by omega⟩
    rcases List.mem_append.1 hv with hv|hv
    · exact h1 v hv
    · rw [List.mem_singleton] at hv;subst hv;exact ⟨hb.sound,hb.deep⟩
theorem built_O {d:Nat} {f:List Tk→V×Nat} (hf:∀l,Built d (f l).1 (f l).2) (l:List Tk):∀j,(∀g ∈ (bO f l j).1,Lib.validD g.1.data.toList=true∧g.2.sound=true∧g.2.deep≤d)∧rising (bO f l j).1=true∧1≤(bO f l j).2∧weightO (bO f l j).1≤81*(3*((bO f l j).2 - 1)+j)∧(encO (bO f l j).1).length≤90*(3*((bO f l j).2 - 1)+j):=by
  intro j
  induction j with
  |zero=>exact ⟨by simp [bO],by simp [bO,rising],by simp [bO],by simp [bO,weightO],by simp [bO,encO]⟩
  | succ j ih=>
    obtain ⟨h1,h5,h2,h3,h4⟩:=ih
    rw [bO]
    have hb:=hf (l.drop (bO f l j).2)
    have hw:=hb.wt
    have hn:=hb.len
    have hk:=keyP_size l (bO f l j).2
    have s1:=withF_sum (fun f=>f.1.size+f.2.weight) (bO f l j).1 (keyP l (bO f l j).2) (f (l.drop (bO f l j).2)).1
    have s2:=withF_sum (fun f=>(encF f).length) (bO f l j).1 (keyP l (bO f l j).2) (f (l.drop (bO f l j).2)).1
    rw [←weightO_sum, ←weightO_sum] at s1
    rw [←encO_sum, ←encO_sum] at s2
    rw [encF_eq,List.length_append,encS_length] at s2
    dsimp only at*
    refine ⟨fun v hv=> ?_,rising_with _ _ h5,by omega,by omega,by omega⟩
    rcases withF_mem hv with hv|hv
    · exact h1 v hv
    · subst hv;exact ⟨keyP_valid _ _,hb.sound,hb.deep⟩
theorem oneP_built (d:Nat):∀l,Built d (oneP d l).1 (oneP d l).2:=by
  induction d with
  | zero=>
    intro l
    cases l with
    |nil=>exact built_none 0
    |cons t r=>exact built_leaf 0 t
  | succ d ih=>
    intro l
    cases l with
    |nil=>exact built_none _
    | cons t r=>
      have hK:(t.m % 4).toNat≤3:=by omega
      obtain ⟨K,hk⟩:∃K,(t.m % 4).toNat=K:=⟨_,rfl⟩
      rw [oneP,hk]
      rw [hk] at hK
      split
      · obtain ⟨h1,h2,h3,h4⟩:=built_L ih (t::r) K
        obtain ⟨p,hp⟩:∃p,bL (oneP d) (t::r) K=p:=⟨_,rfl⟩
        rw [hp] at h1 h2 h3 h4 ⊢
        refine ⟨?_, ?_, ?_, ?_⟩
        · simp only [V.sound,Bool.and_eq_true]
          exact ⟨⟨⟨by simp [plainB],rfl⟩,(soundL_iff _).2 fun v hv=>(h1 v hv).1⟩,rfl⟩
        · simp only [V.deep,deepO]
          have:=deepL_le (n:=d+1) fun v hv=>by have:=(h1 v hv).2;omega
          omega
        · simp only [V.weight,weightO,show ByteArray.empty.size=0 from rfl];omega
        · rw [encV,if_neg (by omega),if_neg (by omega),if_pos rfl,List.length_append,List.length_append,be_length,be_length];omega
      · split
        · obtain ⟨h1,h5,h2,h3,h4⟩:=built_O ih (t::r) K
          obtain ⟨p,hp⟩:∃p,bO (oneP d) (t::r) K=p:=⟨_,rfl⟩
          rw [hp] at h1 h5 h2 h3 h4 ⊢
          refine ⟨?_, ?_, ?_, ?_⟩
          · simp only [V.sound,Bool.and_eq_true]
            exact ⟨⟨⟨by simp [plainB],h5⟩,rfl⟩,(soundO_iff _).2 fun v hv=>⟨(h1 v hv).1,(h1 v hv).2.1⟩⟩
          · simp only [V.deep,deepL]
            have:=deepO_le (n:=d+1) fun v hv=>by have:=(h1 v hv).2.2;omega
            omega
          · simp only [V.weight,weightL,show ByteArray.empty.size=0 from rfl];omega
          · rw [encV,if_neg (by omega),if_neg (by omega),if_neg (by omega),if_pos rfl,List.length_append,List.length_append,be_length,be_length];omega
        · exact built_leaf _ t
theorem build_light (l:List Tk):lightB (oneP 6 (l.take 60)).1=true∧(oneP 6 (l.take 60)).1.weight≤20000∧(oneP 6 (l.take 60)).1.deep≤6∧(oneP 6 (l.take 60)).1.sound=true∧(encV (oneP 6 (l.take 60)).1).length≤60000:=by
  have hb:=oneP_built 6 (l.take 60)
  have hu:=oneP_used 6 (l.take 60)
  rw [List.length_take] at hu
  have h1:=hb.wt
  have h2:=hb.len
  have h3:=hb.deep
  refine ⟨?_,by omega,h3,hb.sound,by omega⟩
  rw [lightB,hb.sound,decide_eq_true (by omega:(oneP 6 (l.take 60)).1.deep≤16),decide_eq_true (by omega:(oneP 6 (l.take 60)).1.weight≤20000)];rfl
end Go.Proofs.YtgcfhkceejcliaaGreatDoor
namespace Go.Proofs.YtgcfhkceejcliaaGreatDoor
open Go.RowKit
theorem ginfoSt:(Tryz.prog.info? 56).map (fun i=>(i.zero,i.size,i.bytes))=some (some (.agg #[.bool false, .int .i64 0, .string { data:= #[] }]),3,32):=by kernel_rfl
def walkP:V→List UInt8→List St
  |_, [] => []
  | v,b::r=>if 0<v.ls.length then ⟨true,(b.toNat % v.ls.length:Nat), .empty⟩::walkP (v.ls.getD (b.toNat % v.ls.length) V.none) r
    else if 0<v.os.length then ⟨false,0,(v.os.getD (b.toNat % v.os.length) (.empty,V.none)).1⟩::walkP (v.os.getD (b.toNat % v.os.length) (.empty,V.none)).2 r
    else walkP v r
theorem isSteps_of_own {w:World} {B1:Nat} {S:Nat→Prop} {v:Value} {l:List St} (hown:w.ownsRow B1 56 3 v l.length (l.flatMap scells)) (hS:∀k,B1≤k→S k) (hb:∀s ∈ l,s.Bnd) (hfew:l.length≤1466015503701):
    ∃a n c,v= .slice a n c∧IsSteps (only S w) w.heap.size l a n c:=by
  obtain ⟨a,c,hv,hr⟩:=OwnRow.of (base':=B1) hown (Nat.le_refl _)
  refine ⟨a,l.length,c,hv,rfl,hr.cap,hr.max,hfew, ?_⟩
  by_cases hn:0<l.length
  · obtain ⟨g,e,hg,hbc⟩:=hr.row (.inl hn)
    refine ⟨g,0,fun _=>⟨e,hbc.lt⟩,fun i hi=>⟨?_,hb _ (List.getElem_mem hi)⟩⟩
    have hc:∀t x,t<3→(scells l[i])[t]? =some x→(only S w).cell? ⟨g,0+i*3+t,none⟩=some x:=fun t x ht hx=>by
      rw [Nat.zero_add]
      exact only_cell' (hS g hg) (hbc.at_ _ _ ((flat_get scells 3 (fun _=>rfl) l i t hi ht).trans hx))
    exact ⟨hc 0 _ (by omega) rfl,hc 1 _ (by omega) rfl,hc 2 _ (by omega) rfl⟩
  · exact ⟨0,0,fun h=>absurd h hn,fun i hi=>absurd hi (by omega)⟩
def WalkPost (w:World) (l:List St) (e:Ending) (w':World):Prop:=
  (∃a n c,e= .returned (.slice a n c)∧IsSteps (only (fun b=>w.heap.size≤b) w') w'.heap.size l a n c)∧Below w.heap.size w w'
structure WH (w wr:World) (v x:V) (c:VC) (bs:List UInt8) (j:Nat) (u:Value) (xs:List St):Prop where
  rd:xs++walkP x ((bs.take 8).drop j)=walkP v (bs.take 8)
  few:xs.length≤j
  bnd:∀s ∈ xs,s.Bnd
  val:IsVal w w.heap.size x c
  box:BC wr w.heap.size (vcells c)
  own:wr.ownsRow (w.heap.size+1) 56 3 u xs.length (xs.flatMap scells)
  below:Below w.heap.size w wr
theorem tmod_nat (a b:Nat):Int.tmod (a:Int) (b:Int)=((a % b:Nat):Int):=by
  rw [Int.tmod_eq_emod_of_nonneg (by omega)];omega
theorem news_step (w:World) (n:Nat) (s:St) (t:TypeId):∀j u,(scells s)[j]? =some u→((w.drewN n).alloc (.cells #[.bool s.list, .int .i64 s.i, .string s.key] t)).cell? ((⟨w.heap.size,0,none⟩:Addr).add j)=some u:=
  World.news_of_block (t:=t) (fr:=(0,0)) (heap_alloc_new (w.drewN n) (.cells #[.bool s.list, .int .i64 s.i, .string s.key] t))
theorem WH.round {w wr w7:World} {v x x':V} {c c':VC} {bs:List UInt8} {j:Nat} {u u':Value} {xs:List St} {s:St} (h:WH w wr v x c bs j u xs) (hrd:(xs++ [s])++walkP x' ((bs.take 8).drop (j+1))=walkP v (bs.take 8)) (hs:s.Bnd) (hv:IsVal w w.heap.size x' c') (hb7:Below (w.heap.size+1) wr w7) (hown:w7.ownsRow (w.heap.size+1) 56 3 u' (xs.length+1) (xs.flatMap scells++scells s)):
    WH w (((((w7.setCell ⟨w.heap.size,0,none⟩ (.int .u8 c'.k)).setCell ⟨w.heap.size,1,none⟩ (.int .i64 c'.n)).setCell ⟨w.heap.size,2,none⟩ (.string c'.s)).setCell ⟨w.heap.size,3,none⟩ (.slice c'.la c'.ll c'.lc)).setCell ⟨w.heap.size,4,none⟩ (.slice c'.oa c'.ol c'.oc)) v x' c' bs (j+1) u' (xs++ [s]):=by
  have hz:=h.box.lt
  have hst:=setV_step w7 w.heap.size 0 c'
  have hbx:=h.box.keep hb7 (by omega)
  refine ⟨hrd,by rw [List.length_append,List.length_singleton];have:=h.few;omega,fun s' h'=> ?_,hv,bc_store hbx c', ?_,Below.set5' (h.below.trans (hb7.mono (by omega))) (Nat.le_refl _) _ _ _ _ _⟩
  · rcases List.mem_append.1 h' with h1|h1
    · exact h.bnd s' h1
    · rw [List.mem_singleton.1 h1];exact hs
  · rw [flat_snoc,List.length_append,List.length_singleton]
    refine hown.kept (row:=some w.heap.size) ⟨hst.os,hst.tape,hst.output,hst.size,fun k hk hne=>hst.block k hk (fun e=>hne (by rw [e]))⟩ ?_
    right;intro e;have:=(hown.lt _ e).1;omega
set_option maxHeartbeats 16000000 in
set_option maxRecDepth 100000 in
theorem walk_any (w:World) (vk vn:Int) (vs:ByteArray) (la:Option Addr) (ll lc:Nat) (oa:Option Addr) (ol oc:Nat) (v:V) (hv:IsVal w w.heap.size v ⟨vk,vn,vs,la,ll,lc,oa,ol,oc⟩) (bs:List UInt8) (a:Option Addr) (n c:Nat) (hB:IsB w w.heap.size a n c bs):
    Calls Tryz.prog 77 #[.agg #[.int .u8 vk, .int .i64 vn, .string vs, .slice la ll lc, .slice oa ol oc], .slice a n c] w (WalkPost w (walkP v (bs.take 8))):=by
  obtain ⟨i0,hi0,hz0,hz1,hz2⟩:=info_parts ginfoSt
  have hmax:=hB.max;have hcap:=hB.cap
  have HLN:=Lib.hid hB.len
  have HBS:=Lib.hid hB
  have HV:=Lib.hid hv
  have HST:=Lib.hid (BC.start w #[.int .u8 vk, .int .i64 vn, .string vs, .slice la ll lc, .slice oa ol oc] 33)
  obtain ⟨R,hR⟩:∃R,WalkPost w (walkP v (bs.take 8))=R:=⟨_,rfl⟩
  rw [hR]
  have HR:=Lib.hid hR
  clear hB hv hR
  go_enter Tryz.func77,Tryz.ntmps77
  go_wp2_with fail
  go_loopw [5,6,7,8] (fun u i _ _ wr=>∃(j:Nat) (x:V) (cx:VC) (ua:Option Addr) (m uc:Nat) (xs:List St),j≤n∧j≤8∧i= .int .i64 j∧u= .slice ua m uc∧WH w wr v x cx bs j (.slice ua m uc) xs) (fun _ i _ _ _=>8 - (intOf i).toNat)
  case atStart=>exact ⟨0,v,_,none,0,0, [],Nat.zero_le _,Nat.zero_le _,rfl,rfl,⟨rfl,Nat.le_refl _,fun s h=>(by cases h),HV.out,HST.out,⟨rfl, .inl ⟨rfl,rfl⟩⟩,(Below.refl _ _).alloc (Nat.le_refl _) _⟩⟩
  case round=>
    obtain ⟨j,x,cx,ua,m,uc,xs,hj,hj8,rfl,rfl,L⟩:=hrel
    obtain ⟨v0,v1,v2,v3,v4⟩:=row5 L.box.at_
    have e0:=L.box.fr 0;have e1:=L.box.fr 1;have e2:=L.box.fr 2;have e3:=L.box.fr 3;have e4:=L.box.fr 4
    have zs:=L.box.lt
    have hfx:=L.few
    have HL:=Lib.hid L
    by_cases hcont:j<n∧j<8
    · obtain ⟨hlt,hlt8⟩:=hcont
      obtain ⟨b,q,h5,h6⟩:=HBS.out.at_
      obtain ⟨rfl,hbB⟩:=h5 (by omega)
      have hjl:j<bs.length:=by rw [←HLN.out];exact hlt
      have hcj:=keep_cell L.below (h6 j hjl) hbB
      obtain ⟨y,hy⟩:∃y,bs[j].toNat=y:=⟨_,rfl⟩
      rw [hy] at hcj
      have hy2:y<256:=by rw [←hy];exact UInt8.toNat_lt _
      have hbw:b<wr.heap.size:=World.block_lt_of_cell? wr _ hcj
      have hdr:(bs.take 8).drop j=bs[j] ::(bs.take 8).drop (j+1):=by
        have h8:j<(bs.take 8).length:=by rw [List.length_take];omega
        rw [List.drop_eq_getElem_cons h8,List.getElem_take]
      have hrd:=L.rd
      rw [hdr] at hrd
      obtain ⟨kx,nx,sx,lx,ox,rfl⟩:=x.eta
      obtain ⟨ck,cn,cs,cla,cll,clc,coa,col,coc⟩:=cx
      obtain ⟨f1,f2,f3,hbd,hvl,hvo⟩:=L.val.lists
      dsimp only at f1 f2 f3 hvl hvo v0 v1 v2 v3 v4
      subst f1 f2 f3
      have k1:=hvl.few;have k2:=hvl.max;have k3:=hvo.few;have k4:=hvo.max
      have hown:=L.own
      have hw1:IntKind.i64.wrap (y:Int)=y:=IntWalk.i64_in _ (by omega)
      have hrlt:∀g,(Value.slice ua m uc).ownBlock=some g→w.heap.size+1≤g:=fun g hg=>(L.own.lt g hg).1
      have hzb:=L.below.size
      have HBL:=Lib.hid L.below
      by_cases hll:0<cll
      · have hkl:y % cll<cll:=Nat.mod_lt _ hll
        obtain ⟨k,hk⟩:∃k,y % cll=k:=⟨_,rfl⟩
        rw [hk] at hkl
        have htm:Int.tmod (y:Int) (cll:Int)=(k:Int):=by rw [tmod_nat,hk]
        have hne:((cll:Int)==0)=false:=by simp;omega
        have hw2:IntKind.i64.wrap (k:Int)=k:=IntWalk.i64_in _ (by omega)
        obtain ⟨b2,q2,f,hp,rfl,hb2,hvf,hIf⟩:=hvl.get hkl
        have HVF:=Lib.hid hvf
        have HIF:=Lib.hid hIf
        have hb2w:b2<wr.heap.size:=by omega
        have hnx:(xs++ [⟨true,(k:Int), .empty⟩])++walkP lx[k] ((bs.take 8).drop (j+1))=walkP v (bs.take 8):=by
          rw [←hrd,walkP,if_pos (show 0<(V.mk ck cn cs lx ox).ls.length by show 0<lx.length;rw [←hvl.len];exact hll)]
          have e:(V.mk ck cn cs lx ox).ls=lx:=rfl
          rw [e, ←hvl.len,hy,hk,List.append_assoc]
          simp [List.getD_eq_getElem?_getD,hp]
        have HNX:=Lib.hid hnx
        clear L hrd hdr hy hnx hvf hIf h5 h6 hvl hvo hbd
        go_wp2_with fail
        go_quiet (fail)
        go_wp2_with (at_builtin;refine wpList_append_lies _ rfl (.tmp 32) (.tmp 35) 52 (by rfl) (w.heap.size+1) 56 i0 _ 3 32 Tryz.underlying52 hi0 hz0 hz1 hz2 rfl (by omega) (.slice ua m uc) xs.length (xs.flatMap scells) (by rfl) ((own_drewN hown _).alloc _) ⟨wr.heap.size,0,none⟩ 1 1 (scells (⟨true,(k:Int), .empty⟩:St)) (by rfl) (by rfl) (news_step wr _ (⟨true,(k:Int), .empty⟩:St) _) (by simp [scells,Value.oneCell']) (by omega) (by unfold maxLen;omega) (by omega) (by first|omega|(rw [drewN_size];omega)) (wr.heap.size+1) (by first|exact drewN_size _ _ _|simp) ?_;intro g cap w7 hown7 hgrow7 hat7 hlt7;have hb7:Below (w.heap.size+1) wr w7:=(((below_drewN wr _).alloc (Nat.le_refl _) _).mono (Nat.succ_le_of_lt zs)).trans (grown_below hgrow7 hrlt (by first|omega|(rw [drewN_size];omega)));have V7:=HL.out.box.keep hb7 (by omega);obtain ⟨p0,p1,p2,p3,p4⟩:=row5 V7.at_;have q0:=V7.fr 0;have q1:=V7.fr 1;have q2':=V7.fr 2;have q3:=V7.fr 3;have q4:=V7.fr 4;have zs7:=V7.lt;have F7:=(HVF.out.keep HBL.out hb2).keep hb7 (by omega);have c0:=F7.c0;have c1:=F7.c1;have c2:=F7.c2;have c3:=F7.c3;have c4:=F7.c4;have hb27:b2<w7.heap.size:=World.block_lt_of_cell? w7 _ c0)
        go_roundw
        case rel=>exact ⟨j+1,lx[k],f,some ⟨g,0,none⟩,xs.length+1,cap,xs++ [⟨true,(k:Int), .empty⟩],by omega,by omega,by go_num,rfl,HL.out.round HNX.out ⟨by show _≤(k:Int);omega,by show (k:Int)≤_;omega,by show ByteArray.empty.size≤_;decide⟩ HIF.out hb7 hown7⟩
        case measure=>simp [intOf];omega
      · have hl0:cll=0:=by omega
        by_cases hol:0<col
        · have hkl:y % col<col:=Nat.mod_lt _ hol
          obtain ⟨k,hk⟩:∃k,y % col=k:=⟨_,rfl⟩
          rw [hk] at hkl
          have htm:Int.tmod (y:Int) (col:Int)=(k:Int):=by rw [tmod_nat,hk]
          have hne:((col:Int)==0)=false:=by simp;omega
          have hw2:IntKind.i64.wrap (k:Int)=k:=IntWalk.i64_in _ (by omega)
          obtain ⟨b2,q2,f,hp,rfl,hb2,hky,hks,hvf,hIf⟩:=hvo.get hkl
          have HVF:=Lib.hid hvf
          have HIF:=Lib.hid hIf
          have hb2w:b2<wr.heap.size:=by omega
          obtain ⟨sk,hsk⟩:∃sk,ox[k].1=sk:=⟨_,rfl⟩
          rw [hsk] at hky hks
          have hkyw:=keep_cell HBL.out hky hb2
          have hlx:lx.length=0:=by rw [←hvl.len];exact hl0
          have hnx:(xs++ [⟨false,0,sk⟩])++walkP ox[k].2 ((bs.take 8).drop (j+1))=walkP v (bs.take 8):=by
            have e:(V.mk ck cn cs lx ox).ls=lx:=rfl
            have e2:(V.mk ck cn cs lx ox).os=ox:=rfl
            rw [←hrd,walkP,e,e2,if_neg (by omega),if_pos (by rw [←hvo.len];exact hol), ←hvo.len,hy,hk,List.append_assoc, ←hsk]
            simp [List.getD_eq_getElem?_getD,hp]
          have HNX:=Lib.hid hnx
          subst hl0
          clear L hrd hdr hy hnx hvf hIf h5 h6 hvl hvo hbd hky hsk hlx
          go_wp2_with fail
          go_quiet (fail)
          go_wp2_with (at_builtin;refine wpList_append_lies _ rfl (.tmp 55) (.tmp 63) 52 (by rfl) (w.heap.size+1) 56 i0 _ 3 32 Tryz.underlying52 hi0 hz0 hz1 hz2 rfl (by omega) (.slice ua m uc) xs.length (xs.flatMap scells) (by rfl) ((own_drewN hown _).alloc _) ⟨wr.heap.size,0,none⟩ 1 1 (scells (⟨false,0,sk⟩:St)) (by rfl) (by rfl) (news_step wr _ (⟨false,0,sk⟩:St) _) (by simp [scells,Value.oneCell']) (by omega) (by unfold maxLen;omega) (by omega) (by first|omega|(rw [drewN_size];omega)) (wr.heap.size+1) (by first|exact drewN_size _ _ _|simp) ?_;intro g cap w7 hown7 hgrow7 hat7 hlt7;have hb7:Below (w.heap.size+1) wr w7:=(((below_drewN wr _).alloc (Nat.le_refl _) _).mono (Nat.succ_le_of_lt zs)).trans (grown_below hgrow7 hrlt (by first|omega|(rw [drewN_size];omega)));have V7:=HL.out.box.keep hb7 (by omega);obtain ⟨p0,p1,p2,p3,p4⟩:=row5 V7.at_;have q0:=V7.fr 0;have q1:=V7.fr 1;have q2':=V7.fr 2;have q3:=V7.fr 3;have q4:=V7.fr 4;have zs7:=V7.lt;have F7:=(HVF.out.keep HBL.out hb2).keep hb7 (by omega);have c0:=F7.c0;have c1:=F7.c1;have c2:=F7.c2;have c3:=F7.c3;have c4:=F7.c4;have hb27:b2<w7.heap.size:=World.block_lt_of_cell? w7 _ c0)
          go_roundw
          case rel=>exact ⟨j+1,ox[k].2,f,some ⟨g,0,none⟩,xs.length+1,cap,xs++ [⟨false,0,sk⟩],by omega,by omega,by go_num,rfl,HL.out.round HNX.out ⟨by show _≤(0:Int);omega,by show (0:Int)≤_;omega,hks⟩ HIF.out hb7 hown7⟩
          case measure=>simp [intOf];omega
        · have ho0:col=0:=by omega
          have hnx:xs++walkP (.mk ck cn cs lx ox) ((bs.take 8).drop (j+1))=walkP v (bs.take 8):=by
            have e:(V.mk ck cn cs lx ox).ls=lx:=rfl
            have e2:(V.mk ck cn cs lx ox).os=ox:=rfl
            rw [←hrd]
            conv=>rhs;rw [walkP,e,e2,if_neg (by rw [←hvl.len];omega),if_neg (by rw [←hvo.len];omega)]
          have HNX:=Lib.hid hnx
          subst hl0 ho0
          clear L hrd hdr hy hnx h5 h6 hvl hvo hbd
          go_wp2_with fail
          go_roundw
          case rel=>exact ⟨j+1,_,_,ua,m,uc,xs,by omega,by omega,by go_num,rfl,⟨HNX.out,by omega,HL.out.bnd,HL.out.val,HL.out.box,HL.out.own,HL.out.below⟩⟩
          case measure=>simp [intOf];omega
    · have hdr:(bs.take 8).drop j= [] :=by
        apply List.drop_eq_nil_of_le
        rw [List.length_take, ←HLN.out];omega
      have hrd:=L.rd
      rw [hdr,walkP,List.append_nil] at hrd
      have HRD:=Lib.hid hrd
      have hex:¬j<n∨(j<n∧¬j<8):=by omega
      clear L hrd hdr hcont
      rcases hex with hq|⟨hq,hq8⟩
      all_goals
        go_wp2_with fail
        rw [←HR.out, ←HRD.out]
        obtain ⟨a9,n9,c9,hv9,hs9⟩:=isSteps_of_own (S:=fun b=>w.heap.size≤b) HL.out.own (fun k hk=>by omega) HL.out.bnd (by omega)
        exact ⟨⟨a9,n9,c9,by rw [hv9];rfl,hs9⟩,HL.out.below⟩
end Go.Proofs.YtgcfhkceejcliaaGreatDoor
namespace Go.Proofs.YtgcfhkceejcliaaGreatDoor
open Go.RowKit
structure Ac where
  path:List UInt8
  k:Int
  i:Int
  j:Int
  n:Int
  s:ByteArray
  v:List Tk
structure AC where
  pa:Option Addr
  pl:Nat
  pc:Nat
  k:Int
  i:Int
  j:Int
  n:Int
  s:ByteArray
  va:Option Addr
  vl:Nat
  vc:Nat
structure AC.Bnd (c:AC):Prop where
  k0:0≤c.k
  k1:c.k<256
  i0: -9223372036854775808≤c.i
  i1:c.i≤9223372036854775807
  j0: -9223372036854775808≤c.j
  j1:c.j≤9223372036854775807
  n0: -9223372036854775808≤c.n
  n1:c.n≤9223372036854775807
  s1:c.s.size≤140737488355328
inductive IsAct (w:World) (B:Nat):Ac→AC→Prop
  |mk (c:AC) (p:List UInt8) (v:List Tk) (hb:c.Bnd) (hp:IsB w B c.pa c.pl c.pc p) (hv:IsToks w B v c.va c.vl c.vc):IsAct w B ⟨p,c.k,c.i,c.j,c.n,c.s,v⟩ c
def acells (c:AC):List Value:= [.slice c.pa c.pl c.pc, .int .u8 c.k, .int .i64 c.i, .int .i64 c.j, .int .i64 c.n, .string c.s, .slice c.va c.vl c.vc]
theorem bc_storeC {W:World} {b:Nat} {c0:CC} (h:BC W b (ccells c0)) (d:CC):BC ((((((((((((W.setCell ⟨b,0,none⟩ (.int .u8 d.k)).setCell ⟨b,1,none⟩ (.slice d.pa d.pl d.pc)).setCell ⟨b,2,none⟩ (.string d.key)).setCell ⟨b,3,none⟩ (.int .i64 d.i)).setCell ⟨b,4,none⟩ (.int .i64 d.j)).setCell ⟨b,5,none⟩ (.int .i64 d.n)).setCell ⟨b,6,none⟩ (.int .u8 d.v.k)).setCell ⟨b,7,none⟩ (.int .i64 d.v.n)).setCell ⟨b,8,none⟩ (.string d.v.s)).setCell ⟨b,9,none⟩ (.slice d.v.la d.v.ll d.v.lc)).setCell ⟨b,10,none⟩ (.slice d.v.oa d.v.ol d.v.oc)).setCell ⟨b,11,none⟩ (.string d.s)) b (ccells d):=
  ((((((((((((h.set (i:=0) (x:= .int .u8 d.k) (by simp [ccells])).set (i:=1) (x:= .slice d.pa d.pl d.pc) (by simp [ccells])).set (i:=2) (x:= .string d.key) (by simp [ccells])).set (i:=3) (x:= .int .i64 d.i) (by simp [ccells])).set (i:=4) (x:= .int .i64 d.j) (by simp [ccells])).set (i:=5) (x:= .int .i64 d.n) (by simp [ccells])).set (i:=6) (x:= .int .u8 d.v.k) (by simp [ccells])).set (i:=7) (x:= .int .i64 d.v.n) (by simp [ccells])).set (i:=8) (x:= .string d.v.s) (by simp [ccells])).set (i:=9) (x:= .slice d.v.la d.v.ll d.v.lc) (by simp [ccells])).set (i:=10) (x:= .slice d.v.oa d.v.ol d.v.oc) (by simp [ccells])).set (i:=11) (x:= .string d.s) (by simp [ccells]))
theorem _root_.Go.RowKit.Below.setC {B b:Nat} {a W:World} (h:Below B a W) (hb:B≤b) (d:CC):Below B a ((((((((((((W.setCell ⟨b,0,none⟩ (.int .u8 d.k)).setCell ⟨b,1,none⟩ (.slice d.pa d.pl d.pc)).setCell ⟨b,2,none⟩ (.string d.key)).setCell ⟨b,3,none⟩ (.int .i64 d.i)).setCell ⟨b,4,none⟩ (.int .i64 d.j)).setCell ⟨b,5,none⟩ (.int .i64 d.n)).setCell ⟨b,6,none⟩ (.int .u8 d.v.k)).setCell ⟨b,7,none⟩ (.int .i64 d.v.n)).setCell ⟨b,8,none⟩ (.string d.v.s)).setCell ⟨b,9,none⟩ (.slice d.v.la d.v.ll d.v.lc)).setCell ⟨b,10,none⟩ (.slice d.v.oa d.v.ol d.v.oc)).setCell ⟨b,11,none⟩ (.string d.s)):=
  ((((((((((((h.set_ hb).set_ hb).set_ hb).set_ hb).set_ hb).set_ hb).set_ hb).set_ hb).set_ hb).set_ hb).set_ hb).set_ hb)
end Go.Proofs.YtgcfhkceejcliaaGreatDoor
namespace Go.Proofs.YtgcfhkceejcliaaGreatDoor
open Go.RowKit
structure AB (w W:World) (c:CC) (a:AC) (d:CC:=czero):Prop where
  c:BC W w.heap.size (ccells c)
  a:BC W (w.heap.size+1) (acells a)
  r:BC W (w.heap.size+1+1) (ccells d)
  below:Below w.heap.size w W
theorem AB.startd (w:World) (c:CC) (a:AC) (d:CC) (t1 t2 t3:TypeId):AB w (((w.alloc (.cells #[.int .u8 c.k, .slice c.pa c.pl c.pc, .string c.key, .int .i64 c.i, .int .i64 c.j, .int .i64 c.n, .int .u8 c.v.k, .int .i64 c.v.n, .string c.v.s, .slice c.v.la c.v.ll c.v.lc, .slice c.v.oa c.v.ol c.v.oc, .string c.s] t1)).alloc (.cells #[.slice a.pa a.pl a.pc, .int .u8 a.k, .int .i64 a.i, .int .i64 a.j, .int .i64 a.n, .string a.s, .slice a.va a.vl a.vc] t2)).alloc (.cells #[.int .u8 d.k, .slice d.pa d.pl d.pc, .string d.key, .int .i64 d.i, .int .i64 d.j, .int .i64 d.n, .int .u8 d.v.k, .int .i64 d.v.n, .string d.v.s, .slice d.v.la d.v.ll d.v.lc, .slice d.v.oa d.v.ol d.v.oc, .string d.s] t3)) c a d:=by
  obtain ⟨w1,hw1⟩:∃w1,w.alloc (.cells #[.int .u8 c.k, .slice c.pa c.pl c.pc, .string c.key, .int .i64 c.i, .int .i64 c.j, .int .i64 c.n, .int .u8 c.v.k, .int .i64 c.v.n, .string c.v.s, .slice c.v.la c.v.ll c.v.lc, .slice c.v.oa c.v.ol c.v.oc, .string c.s] t1)=w1:=⟨_,rfl⟩
  have s1:w1.heap.size=w.heap.size+1:=by rw [←hw1,World.size_alloc]
  have b1:Below w.heap.size w w1:=by rw [←hw1];exact (Below.refl _ _).alloc (Nat.le_refl _) _
  have c1:BC w1 w.heap.size (ccells c):=by rw [←hw1];exact BC.start w #[.int .u8 c.k, .slice c.pa c.pl c.pc, .string c.key, .int .i64 c.i, .int .i64 c.j, .int .i64 c.n, .int .u8 c.v.k, .int .i64 c.v.n, .string c.v.s, .slice c.v.la c.v.ll c.v.lc, .slice c.v.oa c.v.ol c.v.oc, .string c.s] t1
  rw [hw1]
  obtain ⟨w2,hw2⟩:∃w2,w1.alloc (.cells #[.slice a.pa a.pl a.pc, .int .u8 a.k, .int .i64 a.i, .int .i64 a.j, .int .i64 a.n, .string a.s, .slice a.va a.vl a.vc] t2)=w2:=⟨_,rfl⟩
  have s2:w2.heap.size=w.heap.size+1+1:=by rw [←hw2,World.size_alloc,s1]
  have b2:Below w1.heap.size w1 w2:=by rw [←hw2];exact (Below.refl _ _).alloc (Nat.le_refl _) _
  have c2:=BC.start w1 #[.slice a.pa a.pl a.pc, .int .u8 a.k, .int .i64 a.i, .int .i64 a.j, .int .i64 a.n, .string a.s, .slice a.va a.vl a.vc] t2
  rw [hw2,s1] at c2
  rw [hw2]
  have b3:Below w2.heap.size w2 (w2.alloc (.cells #[.int .u8 d.k, .slice d.pa d.pl d.pc, .string d.key, .int .i64 d.i, .int .i64 d.j, .int .i64 d.n, .int .u8 d.v.k, .int .i64 d.v.n, .string d.v.s, .slice d.v.la d.v.ll d.v.lc, .slice d.v.oa d.v.ol d.v.oc, .string d.s] t3)):=(Below.refl _ _).alloc (Nat.le_refl _) _
  have c3:=BC.start w2 #[.int .u8 d.k, .slice d.pa d.pl d.pc, .string d.key, .int .i64 d.i, .int .i64 d.j, .int .i64 d.n, .int .u8 d.v.k, .int .i64 d.v.n, .string d.v.s, .slice d.v.la d.v.ll d.v.lc, .slice d.v.oa d.v.ol d.v.oc, .string d.s] t3
  rw [s2] at c3
  exact ⟨(c1.keep b2 (by omega)).keep b3 (by omega),c2.keep b3 (by omega),c3,(b1.trans (b2.mono (by omega))).trans (b3.mono (by omega))⟩
theorem AB.start (w:World) (c:CC) (a:AC) (t1 t2 t3:TypeId):AB w (((w.alloc (.cells #[.int .u8 c.k, .slice c.pa c.pl c.pc, .string c.key, .int .i64 c.i, .int .i64 c.j, .int .i64 c.n, .int .u8 c.v.k, .int .i64 c.v.n, .string c.v.s, .slice c.v.la c.v.ll c.v.lc, .slice c.v.oa c.v.ol c.v.oc, .string c.s] t1)).alloc (.cells #[.slice a.pa a.pl a.pc, .int .u8 a.k, .int .i64 a.i, .int .i64 a.j, .int .i64 a.n, .string a.s, .slice a.va a.vl a.vc] t2)).alloc (.cells #[.int .u8 0, .slice none 0 0, .string { data:= #[] }, .int .i64 0, .int .i64 0, .int .i64 0, .int .u8 0, .int .i64 0, .string { data:= #[] }, .slice none 0 0, .slice none 0 0, .string { data:= #[] }] t3)) c a:=
  AB.startd w c a czero t1 t2 t3
theorem AB.next {w W W':World} {c d:CC} {a:AC} {B:Nat} (h:AB w W c a d) (hb:Below B W W') (hB:w.heap.size+3≤B):AB w W' c a d:=
  ⟨h.c.keep hb (by omega),h.a.keep hb (by omega),h.r.keep hb (by omega),h.below.trans (hb.mono (by omega))⟩
theorem AB.facts {w W:World} {c d:CC} {a:AC} (B:AB w W c a d):W.cell? ⟨w.heap.size,0,none⟩=some (.int .u8 c.k)∧W.cell? ⟨w.heap.size,1,none⟩=some (.slice c.pa c.pl c.pc)∧W.cell? ⟨w.heap.size,2,none⟩=some (.string c.key)∧W.cell? ⟨w.heap.size,3,none⟩=some (.int .i64 c.i)∧W.cell? ⟨w.heap.size,4,none⟩=some (.int .i64 c.j)∧W.cell? ⟨w.heap.size,5,none⟩=some (.int .i64 c.n)∧W.cell? ⟨w.heap.size,6,none⟩=some (.int .u8 c.v.k)∧W.cell? ⟨w.heap.size,7,none⟩=some (.int .i64 c.v.n)∧W.cell? ⟨w.heap.size,8,none⟩=some (.string c.v.s)∧W.cell? ⟨w.heap.size,9,none⟩=some (.slice c.v.la c.v.ll c.v.lc)∧W.cell? ⟨w.heap.size,10,none⟩=some (.slice c.v.oa c.v.ol c.v.oc)∧W.cell? ⟨w.heap.size,11,none⟩=some (.string c.s)∧W.cell? ⟨w.heap.size+1,0,none⟩=some (.slice a.pa a.pl a.pc)∧W.cell? ⟨w.heap.size+1,1,none⟩=some (.int .u8 a.k)∧W.cell? ⟨w.heap.size+1,2,none⟩=some (.int .i64 a.i)∧W.cell? ⟨w.heap.size+1,3,none⟩=some (.int .i64 a.j)∧W.cell? ⟨w.heap.size+1,4,none⟩=some (.int .i64 a.n)∧W.cell? ⟨w.heap.size+1,5,none⟩=some (.string a.s)∧W.cell? ⟨w.heap.size+1,6,none⟩=some (.slice a.va a.vl a.vc)∧W.cell? ⟨w.heap.size+1+1,0,none⟩=some (.int .u8 d.k)∧W.cell? ⟨w.heap.size+1+1,1,none⟩=some (.slice d.pa d.pl d.pc)∧W.cell? ⟨w.heap.size+1+1,2,none⟩=some (.string d.key)∧W.cell? ⟨w.heap.size+1+1,3,none⟩=some (.int .i64 d.i)∧W.cell? ⟨w.heap.size+1+1,4,none⟩=some (.int .i64 d.j)∧W.cell? ⟨w.heap.size+1+1,5,none⟩=some (.int .i64 d.n)∧W.cell? ⟨w.heap.size+1+1,6,none⟩=some (.int .u8 d.v.k)∧W.cell? ⟨w.heap.size+1+1,7,none⟩=some (.int .i64 d.v.n)∧W.cell? ⟨w.heap.size+1+1,8,none⟩=some (.string d.v.s)∧W.cell? ⟨w.heap.size+1+1,9,none⟩=some (.slice d.v.la d.v.ll d.v.lc)∧W.cell? ⟨w.heap.size+1+1,10,none⟩=some (.slice d.v.oa d.v.ol d.v.oc)∧W.cell? ⟨w.heap.size+1+1,11,none⟩=some (.string d.s)∧W.frozen? ⟨w.heap.size,0,none⟩=false∧W.frozen? ⟨w.heap.size,1,none⟩=false∧W.frozen? ⟨w.heap.size,2,none⟩=false∧W.frozen? ⟨w.heap.size,3,none⟩=false∧W.frozen? ⟨w.heap.size,4,none⟩=false∧W.frozen? ⟨w.heap.size,5,none⟩=false∧W.frozen? ⟨w.heap.size,6,none⟩=false∧W.frozen? ⟨w.heap.size,7,none⟩=false∧W.frozen? ⟨w.heap.size,8,none⟩=false∧W.frozen? ⟨w.heap.size,9,none⟩=false∧W.frozen? ⟨w.heap.size,10,none⟩=false∧W.frozen? ⟨w.heap.size,11,none⟩=false∧W.frozen? ⟨w.heap.size+1+1,0,none⟩=false∧W.frozen? ⟨w.heap.size+1+1,1,none⟩=false∧W.frozen? ⟨w.heap.size+1+1,2,none⟩=false∧W.frozen? ⟨w.heap.size+1+1,3,none⟩=false∧W.frozen? ⟨w.heap.size+1+1,4,none⟩=false∧W.frozen? ⟨w.heap.size+1+1,5,none⟩=false∧W.frozen? ⟨w.heap.size+1+1,6,none⟩=false∧W.frozen? ⟨w.heap.size+1+1,7,none⟩=false∧W.frozen? ⟨w.heap.size+1+1,8,none⟩=false∧W.frozen? ⟨w.heap.size+1+1,9,none⟩=false∧W.frozen? ⟨w.heap.size+1+1,10,none⟩=false∧W.frozen? ⟨w.heap.size+1+1,11,none⟩=false∧w.heap.size<W.heap.size∧w.heap.size+1<W.heap.size∧w.heap.size+1+1<W.heap.size:=
  ⟨B.c.at_ 0 _ rfl,B.c.at_ 1 _ rfl,B.c.at_ 2 _ rfl,B.c.at_ 3 _ rfl,B.c.at_ 4 _ rfl,B.c.at_ 5 _ rfl,B.c.at_ 6 _ rfl,B.c.at_ 7 _ rfl,B.c.at_ 8 _ rfl,B.c.at_ 9 _ rfl,B.c.at_ 10 _ rfl,B.c.at_ 11 _ rfl,B.a.at_ 0 _ rfl,B.a.at_ 1 _ rfl,B.a.at_ 2 _ rfl,B.a.at_ 3 _ rfl,B.a.at_ 4 _ rfl,B.a.at_ 5 _ rfl,B.a.at_ 6 _ rfl,B.r.at_ 0 _ rfl,B.r.at_ 1 _ rfl,B.r.at_ 2 _ rfl,B.r.at_ 3 _ rfl,B.r.at_ 4 _ rfl,B.r.at_ 5 _ rfl,B.r.at_ 6 _ rfl,B.r.at_ 7 _ rfl,B.r.at_ 8 _ rfl,B.r.at_ 9 _ rfl,B.r.at_ 10 _ rfl,B.r.at_ 11 _ rfl,B.c.fr 0,B.c.fr 1,B.c.fr 2,B.c.fr 3,B.c.fr 4,B.c.fr 5,B.c.fr 6,B.c.fr 7,B.c.fr 8,B.c.fr 9,B.c.fr 10,B.c.fr 11,B.r.fr 0,B.r.fr 1,B.r.fr 2,B.r.fr 3,B.r.fr 4,B.r.fr 5,B.r.fr 6,B.r.fr 7,B.r.fr 8,B.r.fr 9,B.r.fr 10,B.r.fr 11,B.c.lt,B.a.lt,B.r.lt⟩
end Go.Proofs.YtgcfhkceejcliaaGreatDoor
namespace Go.Proofs.YtgcfhkceejcliaaGreatDoor
open Go.RowKit
theorem weightL_set (z:V):∀(l:List V) (k:Nat) (hk:k<l.length),weightL (l.set k z)+l[k].weight=weightL l+z.weight:=by
  intro l
  induction l with
  |nil=>intro k hk;cases hk
  | cons a r ih=>
    intro k hk
    cases k with
    |zero=>simp only [List.set_cons_zero,List.getElem_cons_zero,weightL];omega
    | succ k=>
      have:=ih k (by simpa using hk)
      simp only [List.set_cons_succ,List.getElem_cons_succ,weightL];omega
theorem weightO_put (z:V) (o:List (ByteArray×V)) (k:Nat) (hk:k<o.length):weightO (putO o k z)+o[k].2.weight=weightO o+z.weight:=by
  have e:putO o k z=o.set k (o[k].1,z):=by simp [putO,List.getD_eq_getElem?_getD,hk]
  rw [e]
  clear e
  induction o generalizing k with
  |nil=>cases hk
  | cons a r ih=>
    cases k with
    |zero=>simp only [List.set_cons_zero,List.getElem_cons_zero,weightO,weightF_eq];omega
    | succ k=>
      have:=ih k (by simpa using hk)
      simp only [List.set_cons_succ,List.getElem_cons_succ,weightO];omega
theorem putP_weight (p:List St):∀ {v x y z:V},getP v p=some x→putP v p y=some z→z.weight+x.weight=v.weight+y.weight:=by
  induction p with
  |nil=>intro v x y z h1 h2;injection h1 with h1;injection h2 with h2;subst h1 h2;omega
  | cons s r ih=>
    intro v x y z h1 h2
    unfold getP at h1
    unfold putP at h2
    cases hs:stepP v s with
    |none=>rw [hs] at h1;cases h1
    | some q=>
      rw [hs] at h1 h2
      dsimp only at h1 h2
      cases hp:putP q.1 r y with
      |none=>rw [hp] at h2;cases h2
      | some u=>
        rw [hp] at h2
        dsimp only at h2
        injection h2 with h2
        have hi:=ih h1 hp
        obtain ⟨kk,n,t,l,o,rfl⟩:=v.eta
        rcases stepP_some (x:=q.1) (k:=q.2) hs with ⟨hl,_,_,hk,e⟩|⟨hl,_,_,hk,e⟩
        · rw [if_pos hl] at h2
          have hw:=weightL_set u l q.2 hk
          have e2:(l[q.2]'hk)=q.1:=e
          rw [e2] at hw
          subst h2
          simp only [V.setL,V.weight];omega
        · rw [if_neg (by simp [hl])] at h2
          have hw:=weightO_put u o q.2 hk
          have e2:(o[q.2]'hk).2=q.1:=e
          rw [e2] at hw
          subst h2
          simp only [V.setO,V.weight];omega
def otherF (key:ByteArray) (o:List (ByteArray×V)):List (ByteArray×V):=o.filter fun f=>decide (f.1.toList≠key.toList)
theorem weightO_other (key:ByteArray) (o:List (ByteArray×V)):weightO (otherF key o)≤weightO o∧((∃f ∈ o,f.1=key)→weightO (otherF key o)+key.size≤weightO o):=by
  induction o with
  |nil=>exact ⟨Nat.le_refl _,fun ⟨_,h,_⟩=>by cases h⟩
  | cons a r ih=>
    unfold otherF at ih ⊢
    rw [List.filter_cons]
    by_cases h:a.1.toList=key.toList
    · rw [if_neg (by simp [h])]
      have he:a.1=key:=by
        have h2:=congrArg List.toArray h
        rw [ByteArray.toList_eq,ByteArray.toList_eq] at h2
        exact ByteArray.ext (by simpa using h2)
      simp only [weightO,weightF_eq,he]
      exact ⟨by omega,fun _=>by omega⟩
    · rw [if_pos (by simp [h])]
      simp only [weightO]
      refine ⟨by omega,fun ⟨f,hf,e⟩=> ?_⟩
      rcases List.mem_cons.1 hf with rfl|hf
      · exact absurd (by rw [e]) h
      · have:=ih.2 ⟨f,hf,e⟩;omega
def owed (key:ByteArray) (v:V) (d:Bool):Nat:=cond d 0 (key.size+v.weight)
theorem fold_weight (key:ByteArray) (v:V):∀(o acc:List (ByteArray×V)) (d:Bool),weightO (o.foldl (fldStep key v) (acc,d)).1+owed key v (o.foldl (fldStep key v) (acc,d)).2≤weightO acc+weightO (otherF key o)+owed key v d:=by
  intro o
  induction o with
  |nil=>intro acc d;exact Nat.le_refl _
  | cons a r ih=>
    intro acc d
    have o1:owed key v true=0:=rfl
    have o2:owed key v false=key.size+v.weight:=rfl
    have w0:weightO ([] :List (ByteArray×V))=0:=rfl
    rw [List.foldl_cons]
    by_cases h:a.1.toList=key.toList
    · have ho:otherF key (a::r)=otherF key r:=by rw [otherF,List.filter_cons,if_neg (by simp [h])];rfl
      rw [ho]
      by_cases h1:d=false∧Op.bytesLess a.1.toList key.toList=false
      · have e:fldStep key v (acc,d) a=(acc++ [(key,v)],true):=by rw [fldStep,if_pos h1,if_pos h]
        rw [e]
        have:=ih (acc++ [(key,v)]) true
        rw [weightO_append] at this
        simp only [weightO,weightF_eq] at this
        rw [h1.1]
        omega
      · have e:fldStep key v (acc,d) a=(acc,d):=by rw [fldStep,if_neg h1,if_pos h]
        rw [e]
        exact ih acc d
    · have ho:otherF key (a::r)=a::otherF key r:=by rw [otherF,List.filter_cons,if_pos (by simp [h])];rfl
      rw [ho]
      by_cases h1:d=false∧Op.bytesLess a.1.toList key.toList=false
      · have e:fldStep key v (acc,d) a=(acc++ [(key,v)] ++ [a],true):=by rw [fldStep,if_pos h1,if_neg h]
        rw [e]
        have:=ih (acc++ [(key,v)] ++ [a]) true
        rw [weightO_append,weightO_append] at this
        simp only [weightO,weightF_eq] at this ⊢
        rw [h1.1]
        omega
      · have e:fldStep key v (acc,d) a=(acc++ [a],d):=by rw [fldStep,if_neg h1,if_neg h]
        rw [e]
        have:=ih (acc++ [a]) d
        rw [weightO_append] at this
        simp only [weightO] at this ⊢
        omega
theorem fieldsDo_weight (o:List (ByteArray×V)) (key:ByteArray) (v:V) (del:Bool) (K:Nat) (hK:key.size≤K∨∃f ∈ o,f.1=key):weightO (fieldsDo o key v del)≤weightO o+v.weight+K:=by
  have h:=fold_weight key v o [] del
  have h2:=weightO_other key o
  have w0:weightO ([] :List (ByteArray×V))=0:=rfl
  have hd:owed key v del≤key.size+v.weight:=by cases del<;>simp [owed]
  have h3:weightO (fieldsDo o key v del)≤weightO (otherF key o)+(key.size+v.weight):=by
    unfold fieldsDo
    split
    · rename_i hf
      rw [hf] at h
      have o2:owed key v false=key.size+v.weight:=rfl
      rw [weightO_append]
      simp only [weightO,weightF_eq] at h ⊢
      omega
    · omega
  rcases hK with hK|hK
  · omega
  · have:=h2.2 hK;omega
theorem weightL_ins (l:List V) (i:Nat) (v:V):weightL (insL l i v)=weightL l+v.weight:=by
  rw [insL,weightL_append]
  have h:=weightL_append (l.take i) (l.drop i)
  rw [List.take_append_drop] at h
  simp only [weightL];omega
theorem weightL_rem (l:List V) (i:Nat):weightL (remL l i)≤weightL l∧(i<l.length→weightL (remL l i)+(l.getD i V.none).weight≤weightL l):=by
  rw [remL,weightL_append]
  have h:=weightL_append (l.take i) (l.drop i)
  rw [List.take_append_drop] at h
  by_cases hi:i<l.length
  · rw [List.drop_eq_getElem_cons hi] at h
    simp only [weightL] at h
    have e:l.getD i V.none=l[i] :=by simp [List.getD_eq_getElem?_getD,hi]
    rw [e]
    exact ⟨by omega,fun _=>by omega⟩
  · rw [List.drop_eq_nil_of_le (by omega)] at h ⊢
    exact ⟨by omega,fun h=>absurd h hi⟩
theorem listDo_weight (l:List V) (k i j:Int) (v:V) (hm:(k≠4∧k≠5∧k≠6)→i.toNat<l.length):weightL (listDo l k i j v)≤weightL l+v.weight:=by
  unfold listDo
  split
  · rw [weightL_ins];exact Nat.le_refl _
  · split
    · have:=(weightL_rem l i.toNat).1;omega
    · split
      · by_cases h:i.toNat<l.length
        · have:=weightL_set v l i.toNat h;omega
        · rw [List.set_eq_of_length_le (by omega)];omega
      · rw [weightL_ins]
        have:=(weightL_rem l i.toNat).2 (hm ⟨by omega,by omega,by omega⟩);omega
theorem cutsP_up (f:Nat):∀(i:Nat) (l:List UInt8),(cutsP f i l).Pairwise (· ≤ ·):=by
  induction f with
  |zero=>intro i l;simp [cutsP]
  | succ f ih=>
    intro i l
    unfold cutsP
    split
    · simp
    · refine List.pairwise_cons.2 ⟨fun x hx=> ?_,ih _ _⟩
      have:=(cutsP_range _ _ _ x hx).1;omega
theorem cuts_up (s:ByteArray) {i j:Nat} (hij:i≤j) (hj:j<(cuts s).length):(cuts s).getD i 0≤(cuts s).getD j 0:=by
  have hp:(cuts s).Pairwise (· ≤ ·):=by
    unfold cuts
    refine List.pairwise_append.2 ⟨cutsP_up _ _ _,by simp,fun x hx y hy=> ?_⟩
    have:=(cutsP_range _ _ _ x hx).2
    have e:s.data.toList.length=s.size:=Array.length_toList
    rw [List.mem_singleton.1 hy];omega
  have hi:i<(cuts s).length:=by omega
  simp only [List.getD_eq_getElem?_getD,List.getElem?_eq_getElem hi,List.getElem?_eq_getElem hj,Option.getD_some]
  by_cases e:i=j
  · subst e;exact Nat.le_refl _
  · exact List.pairwise_iff_getElem.1 hp i j hi hj (by omega)
theorem textDo_wt {s:ByteArray} {k i n:Int} {cs:ByteArray} (h:tCheck s k i n=0):(textDo s k i n cs).size≤s.size+cs.size:=by
  obtain ⟨hk,h0,h1⟩:=tCheck_ok h
  unfold textDo
  split
  · rw [ByteArray.size_append,ByteArray.size_append,ByteArray.size_extract,ByteArray.size_extract];omega
  · rename_i hne
    have hl:=cuts_len s
    have ht:textN s=(cuts s).length - 1:=rfl
    have hup:=cuts_up s (i:=i.toNat) (j:=(i+n).toNat) (by omega) (by omega)
    rw [ByteArray.size_append,ByteArray.size_extract,ByteArray.size_extract];omega
end Go.Proofs.YtgcfhkceejcliaaGreatDoor
namespace Go.Proofs.YtgcfhkceejcliaaGreatDoor
open Go.RowKit
theorem results_alist {tmps:Array Value} {W:World} {b:Nat} {d:CC} (ht:tmps[6]? =some (.pointer (some ⟨b,0,none⟩))) (h:BC W b (ccells d)):
    (results Tryz.f80 tmps).run Tryz.prog W= .ok (.agg #[.int .u8 d.k, .slice d.pa d.pl d.pc, .string d.key, .int .i64 d.i, .int .i64 d.j, .int .i64 d.n, .int .u8 d.v.k, .int .i64 d.v.n, .string d.v.s, .slice d.v.la d.v.ll d.v.lc, .slice d.v.oa d.v.ol d.v.oc, .string d.s]) W:=by
  obtain ⟨r0,r1,r2,r3,r4,r5,r6,r7,r8,r9,r10,r11⟩:=row12 h.at_
  simp [results,Tryz.results80,go_sem,ht,r0,r1,r2,r3,r4,r5,r6,r7,r8,r9,r10,r11]
theorem setC_step (W:World) (b:Nat) (d:CC):RStep W ((((((((((((W.setCell ⟨b,0,none⟩ (.int .u8 d.k)).setCell ⟨b,1,none⟩ (.slice d.pa d.pl d.pc)).setCell ⟨b,2,none⟩ (.string d.key)).setCell ⟨b,3,none⟩ (.int .i64 d.i)).setCell ⟨b,4,none⟩ (.int .i64 d.j)).setCell ⟨b,5,none⟩ (.int .i64 d.n)).setCell ⟨b,6,none⟩ (.int .u8 d.v.k)).setCell ⟨b,7,none⟩ (.int .i64 d.v.n)).setCell ⟨b,8,none⟩ (.string d.v.s)).setCell ⟨b,9,none⟩ (.slice d.v.la d.v.ll d.v.lc)).setCell ⟨b,10,none⟩ (.slice d.v.oa d.v.ol d.v.oc)).setCell ⟨b,11,none⟩ (.string d.s)) b:=(((((((((((RStep.self.trans RStep.self).trans RStep.self).trans RStep.self).trans RStep.self).trans RStep.self).trans RStep.self).trans RStep.self).trans RStep.self).trans RStep.self).trans RStep.self).trans RStep.self)
def listK (n:Nat) (k:Int):Int:=if n=0 then 4 else 4+k % 4
def listA (n:Nat) (a:AC) (c:CC) (cv:VC):CC:=
  { c with k:=listK n a.k,i:=if listK n a.k=4 then max a.i 0 % ((n:Int)+1) else max a.i 0 % n,j:=if listK n a.k=7 then max a.j 0 % n else c.j,v:=cv }
noncomputable def listV (n:Nat) (k:Int) (l:List Tk):V:=if listK n k=4∨listK n k=6 then (oneP 6 (l.take 60)).1 else V.none
def ListAPost (w:World) (n:Nat) (a:AC) (c:CC) (l:List Tk) (e:Ending) (w':World):Prop:=
  (∃cv:VC,e= .returned (.agg #[.int .u8 (listA n a c cv).k, .slice (listA n a c cv).pa (listA n a c cv).pl (listA n a c cv).pc, .string (listA n a c cv).key, .int .i64 (listA n a c cv).i, .int .i64 (listA n a c cv).j, .int .i64 (listA n a c cv).n, .int .u8 (listA n a c cv).v.k, .int .i64 (listA n a c cv).v.n, .string (listA n a c cv).v.s, .slice (listA n a c cv).v.la (listA n a c cv).v.ll (listA n a c cv).v.lc, .slice (listA n a c cv).v.oa (listA n a c cv).v.ol (listA n a c cv).v.oc, .string (listA n a c cv).s])∧IsVal (only (fun b=>w.heap.size≤b) w') w'.heap.size (listV n a.k l) cv)∧Below w.heap.size w w'
set_option maxHeartbeats 8000000 in
set_option maxRecDepth 100000 in
theorem alist_zero (w:World) (c:CC) (hcv:c.v=vzero) (a:AC) (ha:a.Bnd) (l:List Tk) (hv:IsToks w w.heap.size l a.va a.vl a.vc):
    Calls Tryz.prog 80 #[.agg #[.int .u8 c.k, .slice c.pa c.pl c.pc, .string c.key, .int .i64 c.i, .int .i64 c.j, .int .i64 c.n, .int .u8 c.v.k, .int .i64 c.v.n, .string c.v.s, .slice c.v.la c.v.ll c.v.lc, .slice c.v.oa c.v.ol c.v.oc, .string c.s], .agg #[.slice a.pa a.pl a.pc, .int .u8 a.k, .int .i64 a.i, .int .i64 a.j, .int .i64 a.n, .string a.s, .slice a.va a.vl a.vc], .int .i64 0] w (ListAPost w 0 a c l):=by
  have HBD:Hid (∀W,Below w.heap.size w W→Calls Tryz.prog 17 #[.slice a.va a.vl a.vc] W fun e w'=>(∃cv:VC,e= .returned (.agg #[.int .u8 cv.k, .int .i64 cv.n, .string cv.s, .slice cv.la cv.ll cv.lc, .slice cv.oa cv.ol cv.oc])∧IsVal (only (fun b=>W.heap.size≤b) w') w'.heap.size (oneP 6 (l.take 60)).1 cv)∧Below W.heap.size W w'):=fun W hW=>build_own W l _ _ _ (hv.later_ hW)
  have HB:=Lib.hid (AB.start w { c with k:=4,i:=0 } a 63 85 63)
  have hK:listK 0 a.k=4:=by simp [listK]
  have hA:listA 0 a c=fun cv=> { c with k:=4,i:=0,v:=cv } :=by funext cv;rw [listA,hK];simp
  have hV:listV 0 a.k l=(oneP 6 (l.take 60)).1:=by rw [listV,hK];simp
  obtain ⟨PP,hPP⟩:∃PP,ListAPost w 0 a c l=PP:=⟨_,rfl⟩
  have HPP:=Lib.hid hPP
  have HA:=Lib.hid hA;have HV:=Lib.hid hV;have HCV:=Lib.hid hcv
  rw [hPP]
  have i0:=ha.i0;have i1:=ha.i1;have j0:=ha.j0;have j1:=ha.j1;have k0:=ha.k0
  clear hPP hA hV hcv hK ha hv
  go_enter Tryz.func80,Tryz.ntmps80
  generalize hQ0:bodyPost _ _ _=Q0
  have HQ:=Lib.hid hQ0
  clear hQ0
  go_wp2_with fail
  refine (HBD.out _ HB.out.below).mono ?_
  rintro e w1 ⟨⟨cv,rfl,hv1⟩,hb1⟩
  have B:=HB.out.next hb1 (by simp)
  obtain ⟨b0,b1,b2,b3,b4,b5,b6,b7,b8,b9,b10,b11,a0,a1,a2,a3,a4,a5,a6,r0,r1,r2,r3,r4,r5,r6,r7,r8,r9,r10,r11,bf0,bf1,bf2,bf3,bf4,bf5,bf6,bf7,bf8,bf9,bf10,bf11,rf0,rf1,rf2,rf3,rf4,rf5,rf6,rf7,rf8,rf9,rf10,rf11,z0,z1,z2⟩:=B.facts
  have HBW:=Lib.hid B
  have hz1:w.heap.size+1+1+1≤w1.heap.size:=by omega
  have hv2:=isVal_far (isVal_far hv1 (setV_step w1 w.heap.size 6 cv) (by simp;try omega)) (setC_step _ (w.heap.size+1+1) { c with k:=4,i:=0,v:=cv }) (by simp)
  have h2:=bc_storeC (((((HBW.out.r.far (o:=6) (x:= .int .u8 cv.k) (show w.heap.size+1+1≠w.heap.size by omega)).far (o:=7) (x:= .int .i64 cv.n) (show w.heap.size+1+1≠w.heap.size by omega)).far (o:=8) (x:= .string cv.s) (show w.heap.size+1+1≠w.heap.size by omega)).far (o:=9) (x:= .slice cv.la cv.ll cv.lc) (show w.heap.size+1+1≠w.heap.size by omega)).far (o:=10) (x:= .slice cv.oa cv.ol cv.oc) (show w.heap.size+1+1≠w.heap.size by omega)) { c with k:=4,i:=0,v:=cv }
  have h3:=Below.setC (((((HBW.out.below.set_ (o:=6) (x:= .int .u8 cv.k) (Nat.le_refl _)).set_ (o:=7) (x:= .int .i64 cv.n) (Nat.le_refl _)).set_ (o:=8) (x:= .string cv.s) (Nat.le_refl _)).set_ (o:=9) (x:= .slice cv.la cv.ll cv.lc) (Nat.le_refl _)).set_ (o:=10) (x:= .slice cv.oa cv.ol cv.oc) (Nat.le_refl _)) (show w.heap.size≤w.heap.size+1+1 by omega) { c with k:=4,i:=0,v:=cv }
  dsimp only at h2 h3 hv2
  have H2:=Lib.hid h2
  have H3:=Lib.hid h3
  have HV2:=Lib.hid hv2
  clear h2 h3 hv1 hv2 B hb1
  go_wp2_with fail
  rw [←HQ.out]
  generalize hA:({ tmps:=_,defers:=_ } :Act)=A
  have h4:A.tmps[6]? =some (.pointer (some ⟨w.heap.size+1+1,0,none⟩)):=by rw [←hA];rfl
  have h5:A.defers= [] :=by rw [←hA]
  clear hA
  rw [←HPP.out]
  refine ⟨h5,_,results_alist h4 H2.out, ?_⟩
  exact ⟨⟨cv,by rw [HA.out],by rw [HV.out];exact HV2.out.sub (shows_step fun k hk _=>⟨by simp at hk;omega,rfl⟩)⟩,H3.out⟩
set_option maxHeartbeats 8000000 in
set_option maxRecDepth 100000 in
theorem alist_ins (w:World) (c:CC) (hcv:c.v=vzero) (a:AC) (ha:a.Bnd) (n:Nat) (hn:n≤1466015503701) (hn0:0<n) (hk:a.k % 4=0) (l:List Tk) (hv:IsToks w w.heap.size l a.va a.vl a.vc):
    Calls Tryz.prog 80 #[.agg #[.int .u8 c.k, .slice c.pa c.pl c.pc, .string c.key, .int .i64 c.i, .int .i64 c.j, .int .i64 c.n, .int .u8 c.v.k, .int .i64 c.v.n, .string c.v.s, .slice c.v.la c.v.ll c.v.lc, .slice c.v.oa c.v.ol c.v.oc, .string c.s], .agg #[.slice a.pa a.pl a.pc, .int .u8 a.k, .int .i64 a.i, .int .i64 a.j, .int .i64 a.n, .string a.s, .slice a.va a.vl a.vc], .int .i64 n] w (ListAPost w n a c l):=by
  have HBD:Hid (∀W,Below w.heap.size w W→Calls Tryz.prog 17 #[.slice a.va a.vl a.vc] W fun e w'=>(∃cv:VC,e= .returned (.agg #[.int .u8 cv.k, .int .i64 cv.n, .string cv.s, .slice cv.la cv.ll cv.lc, .slice cv.oa cv.ol cv.oc])∧IsVal (only (fun b=>W.heap.size≤b) w') w'.heap.size (oneP 6 (l.take 60)).1 cv)∧Below W.heap.size W w'):=fun W hW=>build_own W l _ _ _ (hv.later_ hW)
  have HB:=Lib.hid (AB.start w { c with k:=4,i:=max a.i 0 % ((n:Int)+1) } a 63 85 63)
  have hK:listK n a.k=4:=by rw [listK,if_neg (by omega)];omega
  have hA:listA n a c=fun cv=> { c with k:=4,i:=max a.i 0 % ((n:Int)+1),v:=cv } :=by funext cv;rw [listA,hK];simp
  have hV:listV n a.k l=(oneP 6 (l.take 60)).1:=by rw [listV,hK];simp
  obtain ⟨PP,hPP⟩:∃PP,ListAPost w n a c l=PP:=⟨_,rfl⟩
  have HPP:=Lib.hid hPP
  have HA:=Lib.hid hA;have HV:=Lib.hid hV;have HCV:=Lib.hid hcv
  rw [hPP]
  have i0:=ha.i0;have i1:=ha.i1;have j0:=ha.j0;have j1:=ha.j1;have k0:=ha.k0
  clear hPP hA hV hcv hK ha hv
  have hI0:0≤max a.i 0 % (n:Int):=Int.emod_nonneg _ (by omega)
  have hI1:max a.i 0 % (n:Int)<n:=Int.emod_lt_of_pos _ (by omega)
  have hJ0:0≤max a.j 0 % (n:Int):=Int.emod_nonneg _ (by omega)
  have hJ1:max a.j 0 % (n:Int)<n:=Int.emod_lt_of_pos _ (by omega)
  go_enter Tryz.func80,Tryz.ntmps80
  generalize hQ0:bodyPost _ _ _=Q0
  have HQ:=Lib.hid hQ0
  clear hQ0
  go_wp2_with fail
  refine (HBD.out _ HB.out.below).mono ?_
  rintro e w1 ⟨⟨cv,rfl,hv1⟩,hb1⟩
  have B:=HB.out.next hb1 (by simp)
  obtain ⟨b0,b1,b2,b3,b4,b5,b6,b7,b8,b9,b10,b11,a0,a1,a2,a3,a4,a5,a6,r0,r1,r2,r3,r4,r5,r6,r7,r8,r9,r10,r11,bf0,bf1,bf2,bf3,bf4,bf5,bf6,bf7,bf8,bf9,bf10,bf11,rf0,rf1,rf2,rf3,rf4,rf5,rf6,rf7,rf8,rf9,rf10,rf11,z0,z1,z2⟩:=B.facts
  have HBW:=Lib.hid B
  have hz1:w.heap.size+1+1+1≤w1.heap.size:=by omega
  have hv2:=isVal_far (isVal_far hv1 (setV_step w1 w.heap.size 6 cv) (by simp;try omega)) (setC_step _ (w.heap.size+1+1) { c with k:=4,i:=max a.i 0 % ((n:Int)+1),v:=cv }) (by simp)
  have h2:=bc_storeC (((((HBW.out.r.far (o:=6) (x:= .int .u8 cv.k) (show w.heap.size+1+1≠w.heap.size by omega)).far (o:=7) (x:= .int .i64 cv.n) (show w.heap.size+1+1≠w.heap.size by omega)).far (o:=8) (x:= .string cv.s) (show w.heap.size+1+1≠w.heap.size by omega)).far (o:=9) (x:= .slice cv.la cv.ll cv.lc) (show w.heap.size+1+1≠w.heap.size by omega)).far (o:=10) (x:= .slice cv.oa cv.ol cv.oc) (show w.heap.size+1+1≠w.heap.size by omega)) { c with k:=4,i:=max a.i 0 % ((n:Int)+1),v:=cv }
  have h3:=Below.setC (((((HBW.out.below.set_ (o:=6) (x:= .int .u8 cv.k) (Nat.le_refl _)).set_ (o:=7) (x:= .int .i64 cv.n) (Nat.le_refl _)).set_ (o:=8) (x:= .string cv.s) (Nat.le_refl _)).set_ (o:=9) (x:= .slice cv.la cv.ll cv.lc) (Nat.le_refl _)).set_ (o:=10) (x:= .slice cv.oa cv.ol cv.oc) (Nat.le_refl _)) (show w.heap.size≤w.heap.size+1+1 by omega) { c with k:=4,i:=max a.i 0 % ((n:Int)+1),v:=cv }
  dsimp only at h2 h3 hv2
  have H2:=Lib.hid h2
  have H3:=Lib.hid h3
  have HV2:=Lib.hid hv2
  clear h2 h3 hv1 hv2 B hb1
  go_wp2_with fail
  rw [←HQ.out]
  generalize hA:({ tmps:=_,defers:=_ } :Act)=A
  have h4:A.tmps[6]? =some (.pointer (some ⟨w.heap.size+1+1,0,none⟩)):=by rw [←hA];rfl
  have h5:A.defers= [] :=by rw [←hA]
  clear hA
  rw [←HPP.out]
  refine ⟨h5,_,results_alist h4 H2.out, ?_⟩
  exact ⟨⟨cv,by rw [HA.out],by rw [HV.out];exact HV2.out.sub (shows_step fun k hk _=>⟨by simp at hk;omega,rfl⟩)⟩,H3.out⟩
set_option maxHeartbeats 8000000 in
set_option maxRecDepth 100000 in
theorem alist_rem (w:World) (c:CC) (hcv:c.v=vzero) (a:AC) (ha:a.Bnd) (n:Nat) (hn:n≤1466015503701) (hn0:0<n) (hk:a.k % 4=1) (l:List Tk) (hv:IsToks w w.heap.size l a.va a.vl a.vc):
    Calls Tryz.prog 80 #[.agg #[.int .u8 c.k, .slice c.pa c.pl c.pc, .string c.key, .int .i64 c.i, .int .i64 c.j, .int .i64 c.n, .int .u8 c.v.k, .int .i64 c.v.n, .string c.v.s, .slice c.v.la c.v.ll c.v.lc, .slice c.v.oa c.v.ol c.v.oc, .string c.s], .agg #[.slice a.pa a.pl a.pc, .int .u8 a.k, .int .i64 a.i, .int .i64 a.j, .int .i64 a.n, .string a.s, .slice a.va a.vl a.vc], .int .i64 n] w (ListAPost w n a c l):=by
  have HBD:Hid (∀W,Below w.heap.size w W→Calls Tryz.prog 17 #[.slice a.va a.vl a.vc] W fun e w'=>(∃cv:VC,e= .returned (.agg #[.int .u8 cv.k, .int .i64 cv.n, .string cv.s, .slice cv.la cv.ll cv.lc, .slice cv.oa cv.ol cv.oc])∧IsVal (only (fun b=>W.heap.size≤b) w') w'.heap.size (oneP 6 (l.take 60)).1 cv)∧Below W.heap.size W w'):=fun W hW=>build_own W l _ _ _ (hv.later_ hW)
  have HB:=Lib.hid (AB.startd w { c with k:=5,i:=max a.i 0 % (n:Int) } a { c with k:=5,i:=max a.i 0 % (n:Int) } 63 85 63)
  have hK:listK n a.k=5:=by rw [listK,if_neg (by omega)];omega
  have hA:listA n a c=fun cv=> { c with k:=5,i:=max a.i 0 % (n:Int),v:=cv } :=by funext cv;rw [listA,hK];simp
  have hV:listV n a.k l=V.none:=by rw [listV,hK];simp
  obtain ⟨PP,hPP⟩:∃PP,ListAPost w n a c l=PP:=⟨_,rfl⟩
  have HPP:=Lib.hid hPP
  have HA:=Lib.hid hA;have HV:=Lib.hid hV;have HCV:=Lib.hid hcv
  rw [hPP]
  have i0:=ha.i0;have i1:=ha.i1;have j0:=ha.j0;have j1:=ha.j1;have k0:=ha.k0
  clear hPP hA hV hcv hK ha hv
  have hI0:0≤max a.i 0 % (n:Int):=Int.emod_nonneg _ (by omega)
  have hI1:max a.i 0 % (n:Int)<n:=Int.emod_lt_of_pos _ (by omega)
  have hJ0:0≤max a.j 0 % (n:Int):=Int.emod_nonneg _ (by omega)
  have hJ1:max a.j 0 % (n:Int)<n:=Int.emod_lt_of_pos _ (by omega)
  go_enter Tryz.func80,Tryz.ntmps80
  generalize hQ0:bodyPost _ _ _=Q0
  have HQ:=Lib.hid hQ0
  clear hQ0
  go_wp2_with fail
  have H2:=Lib.hid HB.out.r
  have H3:=Lib.hid HB.out.below
  rw [←HQ.out]
  generalize hA:({ tmps:=_,defers:=_ } :Act)=A
  have h4:A.tmps[6]? =some (.pointer (some ⟨w.heap.size+1+1,0,none⟩)):=by rw [←hA];rfl
  have h5:A.defers= [] :=by rw [←hA]
  clear hA
  rw [←HPP.out]
  refine ⟨h5,_,results_alist h4 H2.out, ?_⟩
  exact ⟨⟨c.v,by rw [HA.out],by rw [HV.out,HCV.out];exact isVal_none _ _⟩,H3.out⟩
set_option maxHeartbeats 8000000 in
set_option maxRecDepth 100000 in
theorem alist_set (w:World) (c:CC) (hcv:c.v=vzero) (a:AC) (ha:a.Bnd) (n:Nat) (hn:n≤1466015503701) (hn0:0<n) (hk:a.k % 4=2) (l:List Tk) (hv:IsToks w w.heap.size l a.va a.vl a.vc):
    Calls Tryz.prog 80 #[.agg #[.int .u8 c.k, .slice c.pa c.pl c.pc, .string c.key, .int .i64 c.i, .int .i64 c.j, .int .i64 c.n, .int .u8 c.v.k, .int .i64 c.v.n, .string c.v.s, .slice c.v.la c.v.ll c.v.lc, .slice c.v.oa c.v.ol c.v.oc, .string c.s], .agg #[.slice a.pa a.pl a.pc, .int .u8 a.k, .int .i64 a.i, .int .i64 a.j, .int .i64 a.n, .string a.s, .slice a.va a.vl a.vc], .int .i64 n] w (ListAPost w n a c l):=by
  have HBD:Hid (∀W,Below w.heap.size w W→Calls Tryz.prog 17 #[.slice a.va a.vl a.vc] W fun e w'=>(∃cv:VC,e= .returned (.agg #[.int .u8 cv.k, .int .i64 cv.n, .string cv.s, .slice cv.la cv.ll cv.lc, .slice cv.oa cv.ol cv.oc])∧IsVal (only (fun b=>W.heap.size≤b) w') w'.heap.size (oneP 6 (l.take 60)).1 cv)∧Below W.heap.size W w'):=fun W hW=>build_own W l _ _ _ (hv.later_ hW)
  have HB:=Lib.hid (AB.start w { c with k:=6,i:=max a.i 0 % (n:Int) } a 63 85 63)
  have hK:listK n a.k=6:=by rw [listK,if_neg (by omega)];omega
  have hA:listA n a c=fun cv=> { c with k:=6,i:=max a.i 0 % (n:Int),v:=cv } :=by funext cv;rw [listA,hK];simp
  have hV:listV n a.k l=(oneP 6 (l.take 60)).1:=by rw [listV,hK];simp
  obtain ⟨PP,hPP⟩:∃PP,ListAPost w n a c l=PP:=⟨_,rfl⟩
  have HPP:=Lib.hid hPP
  have HA:=Lib.hid hA;have HV:=Lib.hid hV;have HCV:=Lib.hid hcv
  rw [hPP]
  have i0:=ha.i0;have i1:=ha.i1;have j0:=ha.j0;have j1:=ha.j1;have k0:=ha.k0
  clear hPP hA hV hcv hK ha hv
  have hI0:0≤max a.i 0 % (n:Int):=Int.emod_nonneg _ (by omega)
  have hI1:max a.i 0 % (n:Int)<n:=Int.emod_lt_of_pos _ (by omega)
  have hJ0:0≤max a.j 0 % (n:Int):=Int.emod_nonneg _ (by omega)
  have hJ1:max a.j 0 % (n:Int)<n:=Int.emod_lt_of_pos _ (by omega)
  go_enter Tryz.func80,Tryz.ntmps80
  generalize hQ0:bodyPost _ _ _=Q0
  have HQ:=Lib.hid hQ0
  clear hQ0
  go_wp2_with fail
  refine (HBD.out _ HB.out.below).mono ?_
  rintro e w1 ⟨⟨cv,rfl,hv1⟩,hb1⟩
  have B:=HB.out.next hb1 (by simp)
  obtain ⟨b0,b1,b2,b3,b4,b5,b6,b7,b8,b9,b10,b11,a0,a1,a2,a3,a4,a5,a6,r0,r1,r2,r3,r4,r5,r6,r7,r8,r9,r10,r11,bf0,bf1,bf2,bf3,bf4,bf5,bf6,bf7,bf8,bf9,bf10,bf11,rf0,rf1,rf2,rf3,rf4,rf5,rf6,rf7,rf8,rf9,rf10,rf11,z0,z1,z2⟩:=B.facts
  have HBW:=Lib.hid B
  have hz1:w.heap.size+1+1+1≤w1.heap.size:=by omega
  have hv2:=isVal_far (isVal_far hv1 (setV_step w1 w.heap.size 6 cv) (by simp;try omega)) (setC_step _ (w.heap.size+1+1) { c with k:=6,i:=max a.i 0 % (n:Int),v:=cv }) (by simp)
  have h2:=bc_storeC (((((HBW.out.r.far (o:=6) (x:= .int .u8 cv.k) (show w.heap.size+1+1≠w.heap.size by omega)).far (o:=7) (x:= .int .i64 cv.n) (show w.heap.size+1+1≠w.heap.size by omega)).far (o:=8) (x:= .string cv.s) (show w.heap.size+1+1≠w.heap.size by omega)).far (o:=9) (x:= .slice cv.la cv.ll cv.lc) (show w.heap.size+1+1≠w.heap.size by omega)).far (o:=10) (x:= .slice cv.oa cv.ol cv.oc) (show w.heap.size+1+1≠w.heap.size by omega)) { c with k:=6,i:=max a.i 0 % (n:Int),v:=cv }
  have h3:=Below.setC (((((HBW.out.below.set_ (o:=6) (x:= .int .u8 cv.k) (Nat.le_refl _)).set_ (o:=7) (x:= .int .i64 cv.n) (Nat.le_refl _)).set_ (o:=8) (x:= .string cv.s) (Nat.le_refl _)).set_ (o:=9) (x:= .slice cv.la cv.ll cv.lc) (Nat.le_refl _)).set_ (o:=10) (x:= .slice cv.oa cv.ol cv.oc) (Nat.le_refl _)) (show w.heap.size≤w.heap.size+1+1 by omega) { c with k:=6,i:=max a.i 0 % (n:Int),v:=cv }
  dsimp only at h2 h3 hv2
  have H2:=Lib.hid h2
  have H3:=Lib.hid h3
  have HV2:=Lib.hid hv2
  clear h2 h3 hv1 hv2 B hb1
  go_wp2_with fail
  rw [←HQ.out]
  generalize hA:({ tmps:=_,defers:=_ } :Act)=A
  have h4:A.tmps[6]? =some (.pointer (some ⟨w.heap.size+1+1,0,none⟩)):=by rw [←hA];rfl
  have h5:A.defers= [] :=by rw [←hA]
  clear hA
  rw [←HPP.out]
  refine ⟨h5,_,results_alist h4 H2.out, ?_⟩
  exact ⟨⟨cv,by rw [HA.out],by rw [HV.out];exact HV2.out.sub (shows_step fun k hk _=>⟨by simp at hk;omega,rfl⟩)⟩,H3.out⟩
set_option maxHeartbeats 8000000 in
set_option maxRecDepth 100000 in
theorem alist_mov (w:World) (c:CC) (hcv:c.v=vzero) (a:AC) (ha:a.Bnd) (n:Nat) (hn:n≤1466015503701) (hn0:0<n) (hk:a.k % 4=3) (l:List Tk) (hv:IsToks w w.heap.size l a.va a.vl a.vc):
    Calls Tryz.prog 80 #[.agg #[.int .u8 c.k, .slice c.pa c.pl c.pc, .string c.key, .int .i64 c.i, .int .i64 c.j, .int .i64 c.n, .int .u8 c.v.k, .int .i64 c.v.n, .string c.v.s, .slice c.v.la c.v.ll c.v.lc, .slice c.v.oa c.v.ol c.v.oc, .string c.s], .agg #[.slice a.pa a.pl a.pc, .int .u8 a.k, .int .i64 a.i, .int .i64 a.j, .int .i64 a.n, .string a.s, .slice a.va a.vl a.vc], .int .i64 n] w (ListAPost w n a c l):=by
  have HBD:Hid (∀W,Below w.heap.size w W→Calls Tryz.prog 17 #[.slice a.va a.vl a.vc] W fun e w'=>(∃cv:VC,e= .returned (.agg #[.int .u8 cv.k, .int .i64 cv.n, .string cv.s, .slice cv.la cv.ll cv.lc, .slice cv.oa cv.ol cv.oc])∧IsVal (only (fun b=>W.heap.size≤b) w') w'.heap.size (oneP 6 (l.take 60)).1 cv)∧Below W.heap.size W w'):=fun W hW=>build_own W l _ _ _ (hv.later_ hW)
  have HB:=Lib.hid (AB.startd w { c with k:=7,i:=max a.i 0 % (n:Int),j:=max a.j 0 % (n:Int) } a { c with k:=7,i:=max a.i 0 % (n:Int),j:=max a.j 0 % (n:Int) } 63 85 63)
  have hK:listK n a.k=7:=by rw [listK,if_neg (by omega)];omega
  have hA:listA n a c=fun cv=> { c with k:=7,i:=max a.i 0 % (n:Int),j:=max a.j 0 % (n:Int),v:=cv } :=by funext cv;rw [listA,hK];simp
  have hV:listV n a.k l=V.none:=by rw [listV,hK];simp
  obtain ⟨PP,hPP⟩:∃PP,ListAPost w n a c l=PP:=⟨_,rfl⟩
  have HPP:=Lib.hid hPP
  have HA:=Lib.hid hA;have HV:=Lib.hid hV;have HCV:=Lib.hid hcv
  rw [hPP]
  have i0:=ha.i0;have i1:=ha.i1;have j0:=ha.j0;have j1:=ha.j1;have k0:=ha.k0
  clear hPP hA hV hcv hK ha hv
  have hI0:0≤max a.i 0 % (n:Int):=Int.emod_nonneg _ (by omega)
  have hI1:max a.i 0 % (n:Int)<n:=Int.emod_lt_of_pos _ (by omega)
  have hJ0:0≤max a.j 0 % (n:Int):=Int.emod_nonneg _ (by omega)
  have hJ1:max a.j 0 % (n:Int)<n:=Int.emod_lt_of_pos _ (by omega)
  go_enter Tryz.func80,Tryz.ntmps80
  generalize hQ0:bodyPost _ _ _=Q0
  have HQ:=Lib.hid hQ0
  clear hQ0
  go_wp2_with fail
  have H2:=Lib.hid HB.out.r
  have H3:=Lib.hid HB.out.below
  rw [←HQ.out]
  generalize hA:({ tmps:=_,defers:=_ } :Act)=A
  have h4:A.tmps[6]? =some (.pointer (some ⟨w.heap.size+1+1,0,none⟩)):=by rw [←hA];rfl
  have h5:A.defers= [] :=by rw [←hA]
  clear hA
  rw [←HPP.out]
  refine ⟨h5,_,results_alist h4 H2.out, ?_⟩
  exact ⟨⟨c.v,by rw [HA.out],by rw [HV.out,HCV.out];exact isVal_none _ _⟩,H3.out⟩
theorem alist_any (w:World) (c:CC) (hcv:c.v=vzero) (a:AC) (ha:a.Bnd) (n:Nat) (hn:n≤1466015503701) (l:List Tk) (hv:IsToks w w.heap.size l a.va a.vl a.vc):
    Calls Tryz.prog 80 #[.agg #[.int .u8 c.k, .slice c.pa c.pl c.pc, .string c.key, .int .i64 c.i, .int .i64 c.j, .int .i64 c.n, .int .u8 c.v.k, .int .i64 c.v.n, .string c.v.s, .slice c.v.la c.v.ll c.v.lc, .slice c.v.oa c.v.ol c.v.oc, .string c.s], .agg #[.slice a.pa a.pl a.pc, .int .u8 a.k, .int .i64 a.i, .int .i64 a.j, .int .i64 a.n, .string a.s, .slice a.va a.vl a.vc], .int .i64 n] w (ListAPost w n a c l):=by
  by_cases hn0:0<n
  · have h4:a.k % 4=0∨a.k % 4=1∨a.k % 4=2∨a.k % 4=3:=by omega
    rcases h4 with h|h|h|h
    · exact alist_ins w c hcv a ha n hn hn0 h l hv
    · exact alist_rem w c hcv a ha n hn hn0 h l hv
    · exact alist_set w c hcv a ha n hn hn0 h l hv
    · exact alist_mov w c hcv a ha n hn hn0 h l hv
  · obtain rfl:n=0:=by omega
    exact alist_zero w c hcv a ha l hv
end Go.Proofs.YtgcfhkceejcliaaGreatDoor
