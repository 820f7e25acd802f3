/-
  Contracts of the functions that the law reaches: seq.Do (the program's), where it may be.
-/
import Derived.Test.YtnjgbiachcfigaaGreatDoorIw9
import Derived.Test.YtnjgbiachcfigaaGreatDoorIw16
namespace Go.Proofs.YtnjgbiachcfigaaGreatDoor
open Go.RowKit
set_option maxHeartbeats 8000000
set_option maxRecDepth 100000 in
theorem zo7 (w:World) (l:List V) (a:Option Addr) (n c:Nat) (hl:IsVals w w.heap.size l a n c) (hfew:n<=100000000) (cc:CC) (x:V) (hc:lCheck n cc.k cc.i cc.j=0) (hk:cc.k=7):
 uP 82 #[.slice a n c, .agg #[.int .u8 cc.k, .slice cc.pa cc.pl cc.pc, .string cc.key, .int .i64 cc.i, .int .i64 cc.j, .int .i64 cc.n, .int .u8 cc.v.k, .int .i64 cc.v.n, .string cc.v.s, .slice cc.v.la cc.v.ll cc.v.lc, .slice cc.v.oa cc.v.ol cc.v.oc, .string cc.s]] w (SeqPost w (listDo l cc.k cc.i cc.j x)):=by
 delta uP
 have hmax:=hl.max
 have hlen:=hl.len
 obtain ⟨_,_,hi0,hi1,hi2,hj⟩:=Yx hc
 have HCK:Hid (∀W,uP 113 #[.int .i64 n, .agg #[.int .u8 cc.k, .slice cc.pa cc.pl cc.pc, .string cc.key, .int .i64 cc.i, .int .i64 cc.j, .int .i64 cc.n, .int .u8 cc.v.k, .int .i64 cc.v.n, .string cc.v.s, .slice cc.v.la cc.v.ll cc.v.lc, .slice cc.v.oa cc.v.ol cc.v.oc, .string cc.s]] W fun e w'=>e= .returned (.int .u16 0)/\uB W w'):=fun W=>by
  have:=Q7 W n (by omega) cc
  rw [hc] at this;exact this
 have HOW:Hid (∀W,uB w W->uP 78 #[.agg #[.int .u8 0, .int .i64 0, .string { data:= #[] }, .slice a n c, .slice none 0 0]] W fun e w'=>(∃(d:VC) (cl:List VC),e= .returned (.agg #[.int .u8 d.k, .int .i64 d.n, .string d.s, .slice d.la d.ll d.lc, .slice d.oa d.ol d.oc])/\VRow w' W.heap.size (.slice d.la d.ll d.lc) l cl)/\uB W w'):=fun W hW=>Kt W l a n c (hl.later_ hW)
 have HBX:=qh (BC.start w #[.int .u8 cc.k, .slice cc.pa cc.pl cc.pc, .string cc.key, .int .i64 cc.i, .int .i64 cc.j, .int .i64 cc.n, .int .u8 cc.v.k, .int .i64 cc.v.n, .string cc.v.s, .slice cc.v.la cc.v.ll cc.v.lc, .slice cc.v.oa cc.v.ol cc.v.oc, .string cc.s] 39)
 have HAL:=qh ((Below.refl _ _).alloc (Nat.le_refl _) (.cells #[.int .u8 cc.k, .slice cc.pa cc.pl cc.pc, .string cc.key, .int .i64 cc.i, .int .i64 cc.j, .int .i64 cc.n, .int .u8 cc.v.k, .int .i64 cc.v.n, .string cc.v.s, .slice cc.v.la cc.v.ll cc.v.lc, .slice cc.v.oa cc.v.ol cc.v.oc, .string cc.s] 39):uB w _)
 obtain ⟨R,hR⟩:∃R,listDo l cc.k cc.i cc.j x=R:=⟨_,rfl⟩
 rw [hR]
 rw [listDo,hk] at hR
 have HL:=qh hlen
 obtain ⟨i,hi⟩:∃i:Nat,cc.i=i:=⟨cc.i.toNat,by omega⟩
 obtain ⟨jj,hjj⟩:∃jj:Nat,cc.j=jj:=⟨cc.j.toNat,by have:=hj hk;omega⟩
 rw [hi,hjj] at hR
 rw [hi] at hi1 hi2
 have hjn:jj<n:=by have:=hj hk;omega
 rw [hk,hi,hjj] at HCK HBX HAL ⊢
 rw [Int.toNat_natCast,Int.toNat_natCast] at hR
 have hil:i<n:=by have:=hi2 (by omega);omega
 have hw1:IntKind.i64.wrap ((i:Int)+1)=(i:Int)+1:=IntWalk.i64_in _ (by omega)
 obtain rfl:R=insL (remL l i) jj (l.getD i V.none):=by rw [<-hR];rfl
 clear hl hc hlen hR hi hi0 hj hi1 hi2
 go_enter Tryz.func82,Tryz.ntmps82
 go_wp2_with fail
 refine (HCK.out _).mono ?_
 rintro e w1 ⟨rfl,hb1⟩
 have HD1:=qh (HBX.out.keep hb1 (by simp))
 have HBL1:=qh (HAL.out.trans (hb1.mono (by simp)))
 clear hb1
 go_wp2_with fail
 refine (HOW.out _ HBL1.out).mono ?_
 rintro e w2 ⟨⟨d,cl,rfl,hV⟩,hb2⟩
 have D2:=HD1.out.keep hb2 HD1.out.lt
 obtain ⟨b0,b1,b2,b3,b4,b5,b6,b7,b8,b9,b10,b11⟩:=row12 D2.at_
 have zs2:=D2.lt
 have HBL2:=qh (HBL1.out.trans (hb2.mono HBL1.out.size))
 have HW12:=qh hb2.size
 have HV:=qh hV
 have hfld:=Xl w2 d.k d.n d.s d.la d.ll d.lc d.oa d.ol d.oc
 obtain ⟨dk,dn,ds,dla,dll,dlc,doa,dol,doc⟩:=d
 dsimp only at hV HV hfld ⊢
 have hil2:i<l.length:=by have:=HL.out;omega
 have hic:i<cl.length:=by have:=hV.len;omega
 have hxe:=hV.els i hil2 hic
 have hlg:l.getD i V.none=l[i]'hil2:=by rw [List.getD_eq_getElem?_getD,List.getElem?_eq_getElem hil2];rfl
 rw [<-hlg] at hxe
 obtain ⟨g,cap,hu,hbg,hgl,hlc,hcm,hat,hfr⟩:=hV.at_ hil2 hic
 obtain ⟨y,hy⟩:∃y,cl[i]'hic=y:=⟨_,rfl⟩
 rw [hy] at hat hxe
 injection hu with u1 u2 u3
 subst u1 u2 u3
 have hcm63:dlc<=9223372036854775807:=by unfold maxLen at hcm;omega
 have HD2:=qh D2
 have HXE:=qh hxe
 have HJ:Hid (jj<l.length):=qh (by have:=HL.out;omega)
 have d0:=hat.c0;have d1:=hat.c1;have d2:=hat.c2;have d3:=hat.c3;have d4:=hat.c4
 clear hb2 hV D2 hat hfr hxe hlg hy
 go_wp2_with fail
 obtain ⟨w3,hw3⟩:∃w3,w2.alloc (.cells #[.int .u8 y.k, .int .i64 y.n, .string y.s, .slice y.la y.ll y.lc, .slice y.oa y.ol y.oc] 36)=w3:=⟨_,rfl⟩
 have hb23:uB w2 w3:=by rw [<-hw3];exact (Below.refl _ _).alloc (Nat.le_refl _) _
 have hz23:w3.heap.size=w2.heap.size+1:=by rw [<-hw3,World.size_alloc]
 have hbx:BC w3 w2.heap.size (vcells y):=by rw [<-hw3];exact BC.start w2 #[.int .u8 y.k, .int .i64 y.n, .string y.s, .slice y.la y.ll y.lc, .slice y.oa y.ol y.oc] 36
 rw [hw3]
 obtain ⟨B8,hB8⟩:∃B8,w2.heap.size=B8:=⟨_,rfl⟩
 have hV3:=HV.out.later hb23
 have hX3:=(HXE.out.sub (Zd fun k hk hl=>⟨hk,hb23.block k hl⟩)).more hb23.size
 have hD3:=HD2.out.keep hb23 zs2
 have hg3:∀k,(Value.slice (some ⟨g,0,none⟩) l.length dlc).ownBlock=some k->w1.heap.size<=k/\k<w2.heap.size:=HV.out.own.lt
 have hle:w1.heap.size<=w3.heap.size:=by have:=HW12.out;omega
 have hwl:=HBL1.out.size
 have hw0:w.heap.size<w1.heap.size:=HD1.out.lt
 have HBL3:=qh (HBL2.out.trans (hb23.mono HBL2.out.size))
 rw [hB8] at hbx hg3 hz23 ⊢
 have HDEL:Hid (∀W,uB w3 W->uP 123 #[.slice (some ⟨g,0,none⟩) l.length dlc, .int .i64 (i:Int), .int .i64 ((i:Int)+1)] W fun e w'=>∃v',e= .returned v'/\(∃cl',VRow w' w1.heap.size v' (remL l i) cl')/\IsVal (only (fun k=>w1.heap.size<=k/\v'.ownBlock≠some k) w') w'.heap.size (l.getD i V.none) y/\W.grownBy w' (Value.slice (some ⟨g,0,none⟩) l.length dlc).ownBlock/\v'.ownBlock≠some B8/\(w3.heap.size<W.heap.size->v'.ownBlock≠some w3.heap.size)):=qh fun W hW=>by
  refine ((hV3.later hW).del_any hil2).mono ?_
  rintro e w' ⟨v',rfl,h1,h2,h3,h4⟩
  have h8:=hW.size
  refine ⟨v',rfl,h1,h2 _ _ ((hX3.sub (Zd fun k hk hl=>⟨hk,hW.block k hl⟩)).more hW.size),h3,fun e=> ?_,fun hlt e=> ?_⟩
  .rcases h4 with h|h
   .rw [h] at e;have:=(hg3 _ e).2;omega
   .rw [h] at e;injection e with e;omega
  .rcases h4 with h|h
   .rw [h] at e;have:=(hg3 _ e).2;omega
   .rw [h] at e;injection e with e;omega
 have HA1:Hid (∀(w4:World) (v':Value) (cl4:List VC),VRow w4 w1.heap.size v' (remL l i) cl4->IsVal (only (fun k=>w1.heap.size<=k/\v'.ownBlock≠some k) w4) w4.heap.size (l.getD i V.none) y->w1.heap.size<=w4.heap.size->v'.ownBlock≠some B8->B8<w4.heap.size->uP 122 #[v', .int .i64 (jj:Int), .slice (some ⟨w4.heap.size,0,none⟩) 1 1] (w4.alloc (.cells #[.int .u8 y.k, .int .i64 y.n, .string y.s, .slice y.la y.ll y.lc, .slice y.oa y.ol y.oc] 36)) fun e w'=>∃v'',e= .returned v''/\(∃cl',VRow w' w1.heap.size v'' (insL (remL l i) jj (l.getD i V.none)) cl')/\Below w1.heap.size w4 w'/\w'.heap[B8]? =w4.heap[B8]?):=qh fun w4 v' cl4 hV4 hX4 h14 hn8 h48=>by
  have hb:uB w4 (w4.alloc (.cells #[.int .u8 y.k, .int .i64 y.n, .string y.s, .slice y.la y.ll y.lc, .slice y.oa y.ol y.oc] 36)):=(Below.refl _ _).alloc (Nat.le_refl _) _
  refine ((hV4.later hb).ins_any (i:=jj) (vb:=w4.heap.size) (by have:=hb.size;omega) (by have:=HJ.out;simp [remL];omega) (by have:=HL.out;simp [remL];omega) ((hX4.sub (Zd fun k hk hl=>⟨hk,hb.block k hl⟩)).more hb.size) (heap_alloc_new w4 _) (fun e=>by have:=(hV4.own.lt _ e).2;omega)).mono ?_
  rintro e w' ⟨v'',rfl,h1,h2⟩
  exact ⟨v'',rfl,h1,(hb.mono h14).trans (Zj h2 (fun k hk=>(hV4.own.lt k hk).1) (by have:=hb.size;omega)),(h2.block B8 (Nat.lt_of_lt_of_le h48 hb.size) (fun e=>hn8 e.symm)).trans (hb.block B8 h48)⟩
 have HA2:Hid (∀(w4:World) (v':Value) (cl4:List VC),VRow w4 w1.heap.size v' (remL l i) cl4->IsVal (only (fun k=>w1.heap.size<=k/\v'.ownBlock≠some k) w4) w4.heap.size (l.getD i V.none) y->w1.heap.size<=w4.heap.size->v'.ownBlock≠some B8->B8<w4.heap.size->w4.heap[w3.heap.size]? =some (.cells #[.int .u8 y.k, .int .i64 y.n, .string y.s, .slice y.la y.ll y.lc, .slice y.oa y.ol y.oc] 36 (0,0))->v'.ownBlock≠some w3.heap.size->uP 122 #[v', .int .i64 (jj:Int), .slice (some ⟨w3.heap.size,0,none⟩) 1 1] w4 fun e w'=>∃v'',e= .returned v''/\(∃cl',VRow w' w1.heap.size v'' (insL (remL l i) jj (l.getD i V.none)) cl')/\Below w1.heap.size w4 w'/\w'.heap[B8]? =w4.heap[B8]?):=qh fun w4 v' cl4 hV4 hX4 h14 hn8 h48 hvb hne=>by
  refine (hV4.ins_any (i:=jj) (vb:=w3.heap.size) h14 (by have:=HJ.out;simp [remL];omega) (by have:=HL.out;simp [remL];omega) hX4 hvb hne).mono ?_
  rintro e w' ⟨v'',rfl,h1,h2⟩
  exact ⟨v'',rfl,h1,Zj h2 (fun k hk=>(hV4.own.lt k hk).1) h14,h2.block B8 h48 (fun e=>hn8 e.symm)⟩
 have q3:=hD3.at_ 3 _ rfl;have q4:=hD3.at_ 4 _ rfl
 obtain ⟨e0,e1,e2,e3,e4⟩:=row5 hbx.at_
 have zw3:w.heap.size<w3.heap.size:=by omega
 have zb3:B8<w3.heap.size:=by omega
 have HBX8:=qh hbx;have HD3:=qh hD3
 have HBD3:=qh (Zf w3)
 have hba3:uB w3 (w3.alloc (.cells #[.int .u8 y.k, .int .i64 y.n, .string y.s, .slice y.la y.ll y.lc, .slice y.oa y.ol y.oc] 36)).drew:=((Below.refl _ _).alloc (Nat.le_refl _) _).drew
 have HBA3:=qh hba3
 have HG3:=qh hg3;have HLE:=qh hle;have HZ23:=qh hz23;have HW01:=qh hw0
 have mixed:Tryz.prog.follows .mixedOrders=true:=by kernel_rfl
 clear hw3 hb23 hz23 hbx hV3 hX3 hD3 hg3 hle hwl hw0 hB8 hba3 d0 d1 d2 d3 d4 b0 b1 b2 b3 b4 b5 b6 b7 b8 b9 b10 b11 zs2 hfld hk
 have HSP:Hid (∀W,Below w1.heap.size w3 W->W.heap[B8]? =w3.heap[B8]? ->W.cell? ⟨w.heap.size,3,none⟩=some (.int .i64 (i:Int))/\W.cell? ⟨w.heap.size,4,none⟩=some (.int .i64 (jj:Int))/\W.cell? ⟨B8,0,none⟩=some (.int .u8 y.k)/\W.cell? ⟨B8,1,none⟩=some (.int .i64 y.n)/\W.cell? ⟨B8,2,none⟩=some (.string y.s)/\W.cell? ⟨B8,3,none⟩=some (.slice y.la y.ll y.lc)/\W.cell? ⟨B8,4,none⟩=some (.slice y.oa y.ol y.oc)):=qh fun W hW h8=>by
  have D:=HD3.out.keep hW HW01.out
  have hk:∀o u,w3.cell? ⟨B8,o,none⟩=some u->W.cell? ⟨B8,o,none⟩=some u:=fun o u h=>(World.cell?_of_block h8).trans h
  exact ⟨D.at_ 3 _ rfl,D.at_ 4 _ rfl,hk _ _ (HBX8.out.at_ 0 _ rfl),hk _ _ (HBX8.out.at_ 1 _ rfl),hk _ _ (HBX8.out.at_ 2 _ rfl),hk _ _ (HBX8.out.at_ 3 _ rfl),hk _ _ (HBX8.out.at_ 4 _ rfl)⟩
 have HN8:Hid ((Value.slice (some ⟨g,0,none⟩) l.length dlc).ownBlock≠some B8):=qh fun e=>by have:=(HG3.out _ e).2;omega
 have HK0:=qh (HSP.out w3.drew (HBD3.out.mono HLE.out) rfl)
 have HK1:=qh (HSP.out _ (HBA3.out.mono HLE.out) (HBA3.out.block B8 HBX8.out.lt))
 have HDA:Hid (∀W w4,uB w3 W->W.grownBy w4 (Value.slice (some ⟨g,0,none⟩) l.length dlc).ownBlock->Below w1.heap.size w3 w4/\w4.heap[B8]? =w3.heap[B8]?):=qh fun W w4 hW hg=>⟨(hW.mono HLE.out).trans (Zj hg (fun k hk=>(HG3.out k hk).1) (Nat.le_trans HLE.out hW.size)),(hg.block B8 (Nat.lt_of_lt_of_le HBX8.out.lt hW.size) (fun e=>HN8.out e.symm)).trans (hW.block B8 HBX8.out.lt)⟩
 clear q3 q4 e0 e1 e2 e3 e4
 refine wp_region_noPanic ?_
 go_region_held_law (fun W=>W.cell? ⟨w.heap.size,3,none⟩=some (.int .i64 (i:Int))/\W.cell? ⟨w.heap.size,4,none⟩=some (.int .i64 (jj:Int))/\W.cell? ⟨B8,0,none⟩=some (.int .u8 y.k)/\W.cell? ⟨B8,1,none⟩=some (.int .i64 y.n)/\W.cell? ⟨B8,2,none⟩=some (.string y.s)/\W.cell? ⟨B8,3,none⟩=some (.slice y.la y.ll y.lc)/\W.cell? ⟨B8,4,none⟩=some (.slice y.oa y.ol y.oc))
  ((first|(with_reducible exact HK0.out)|(with_reducible exact HK1.out)|(with_reducible exact HK4.out)|(with_reducible exact HK4a.out)|(with_reducible exact HK5.out)))
  (first
   |(go_at_call 123;(with_reducible refine (HDEL.out _ HBD3.out).mono ?_);rintro e w4 ⟨v4,rfl,⟨cl4,hV4⟩,hx4,hg4,hn8,hn4⟩;obtain ⟨hb4,h84⟩:=HDA.out _ _ HBD3.out hg4;have HB4:=qh hb4;have HIN:=qh (HA1.out w4 v4 cl4 hV4 hx4 (Nat.le_trans HLE.out hb4.size) hn8 (Nat.lt_of_lt_of_le HBX8.out.lt hb4.size));have HK4:=qh (HSP.out w4 hb4 h84);have HK4a:Hid ((w4.alloc (.cells #[.int .u8 y.k, .int .i64 y.n, .string y.s, .slice y.la y.ll y.lc, .slice y.oa y.ol y.oc] 36)).cell? ⟨w.heap.size,3,none⟩=some (.int .i64 (i:Int))/\(w4.alloc (.cells #[.int .u8 y.k, .int .i64 y.n, .string y.s, .slice y.la y.ll y.lc, .slice y.oa y.ol y.oc] 36)).cell? ⟨w.heap.size,4,none⟩=some (.int .i64 (jj:Int))/\(w4.alloc (.cells #[.int .u8 y.k, .int .i64 y.n, .string y.s, .slice y.la y.ll y.lc, .slice y.oa y.ol y.oc] 36)).cell? ⟨B8,0,none⟩=some (.int .u8 y.k)/\(w4.alloc (.cells #[.int .u8 y.k, .int .i64 y.n, .string y.s, .slice y.la y.ll y.lc, .slice y.oa y.ol y.oc] 36)).cell? ⟨B8,1,none⟩=some (.int .i64 y.n)/\(w4.alloc (.cells #[.int .u8 y.k, .int .i64 y.n, .string y.s, .slice y.la y.ll y.lc, .slice y.oa y.ol y.oc] 36)).cell? ⟨B8,2,none⟩=some (.string y.s)/\(w4.alloc (.cells #[.int .u8 y.k, .int .i64 y.n, .string y.s, .slice y.la y.ll y.lc, .slice y.oa y.ol y.oc] 36)).cell? ⟨B8,3,none⟩=some (.slice y.la y.ll y.lc)/\(w4.alloc (.cells #[.int .u8 y.k, .int .i64 y.n, .string y.s, .slice y.la y.ll y.lc, .slice y.oa y.ol y.oc] 36)).cell? ⟨B8,4,none⟩=some (.slice y.oa y.ol y.oc)):=qh (HSP.out _ (hb4.alloc (Nat.le_trans HLE.out hb4.size) _) ((zoy w4 _ (Nat.lt_of_lt_of_le HBX8.out.lt hb4.size)).trans h84));have HE8:=qh h84;clear hb4 h84 hV4 hx4 hg4 hn4 hn8)
   |(go_at_call 123;(with_reducible refine (HDEL.out _ HBA3.out).mono ?_);rintro e w4 ⟨v4,rfl,⟨cl4,hV4⟩,hx4,hg4,hn8,hn4⟩;obtain ⟨hb4,h84⟩:=HDA.out _ _ HBA3.out hg4;have HB4:=qh hb4;have HIN:=qh (HA2.out w4 v4 cl4 hV4 hx4 (Nat.le_trans HLE.out hb4.size) hn8 (Nat.lt_of_lt_of_le HBX8.out.lt hb4.size) ((hg4.block w3.heap.size (by simp) (fun e=>by have:=(HG3.out _ e.symm).2;have:=HZ23.out;omega)).trans (heap_alloc_new w3 _)) (hn4 (by simp)));have HK4:=qh (HSP.out w4 hb4 h84);have HE8:=qh h84;clear hb4 h84 hV4 hx4 hg4 hn4 hn8)
   |(go_at_call 122;(with_reducible refine HIN.out.mono ?_);rintro e w5 ⟨v5,rfl,⟨cl5,hV5⟩,hb5,h85⟩;have HV5:=qh hV5;have hb35:=HB4.out.trans hb5;have HB5:=qh hb35;have HK5:=qh (HSP.out w5 hb35 (h85.trans (HE8.out)));clear hV5 hb5 hb35 h85))
 all_goals (
  have hlr:(insL (remL l i) jj (l.getD i V.none)).length<=1466015503701:=by have:=HL.out;simp [insL,remL];omega
  obtain ⟨a3,n3,c3,rfl,hI,hz⟩:=HV5.out.vals hlr
  have HBF:=qh (HBL3.out.trans (HB5.out.mono HBL1.out.size))
  have hcap:=hI.cap
  have hmx:=hI.max
  have HI:=qh (Xm hI HBL1.out.size (Below.refl _ _)).cut
  clear hI hlr HIN
  refine NoPanic.normal ?_
  rcases hz with ⟨rfl,rfl⟩|⟨b3',off3,rfl⟩
  .obtain rfl:n3=0:=by omega
   go_wp2_with fail
   go_returns
   exact ⟨⟨_,_,_,rfl,HI.out⟩,HBF.out⟩
  .go_wp2_with fail
   go_returns
   exact ⟨⟨_,_,_,rfl,HI.out⟩,HBF.out⟩)
set_option maxRecDepth 100000 in
theorem zia (w:World) (l:List V) (a:Option Addr) (n c:Nat) (hl:IsVals w w.heap.size l a n c) (hfew:n<=100000000) (cc:CC) (x:V) (hx:IsVal w w.heap.size x cc.v) (hc:lCheck n cc.k cc.i cc.j=0) (hk:cc.k=6):
 uP 82 #[.slice a n c, .agg #[.int .u8 cc.k, .slice cc.pa cc.pl cc.pc, .string cc.key, .int .i64 cc.i, .int .i64 cc.j, .int .i64 cc.n, .int .u8 cc.v.k, .int .i64 cc.v.n, .string cc.v.s, .slice cc.v.la cc.v.ll cc.v.lc, .slice cc.v.oa cc.v.ol cc.v.oc, .string cc.s]] w (SeqPost w (listDo l cc.k cc.i cc.j x)):=by
 delta uP
 have hmax:=hl.max
 have hlen:=hl.len
 obtain ⟨_,_,hi0,hi1,hi2,hj⟩:=Yx hc
 have HCK:Hid (∀W,uP 113 #[.int .i64 n, .agg #[.int .u8 cc.k, .slice cc.pa cc.pl cc.pc, .string cc.key, .int .i64 cc.i, .int .i64 cc.j, .int .i64 cc.n, .int .u8 cc.v.k, .int .i64 cc.v.n, .string cc.v.s, .slice cc.v.la cc.v.ll cc.v.lc, .slice cc.v.oa cc.v.ol cc.v.oc, .string cc.s]] W fun e w'=>e= .returned (.int .u16 0)/\uB W w'):=fun W=>by
  have:=Q7 W n (by omega) cc
  rw [hc] at this;exact this
 have HOW:Hid (∀W,uB w W->uP 78 #[.agg #[.int .u8 0, .int .i64 0, .string { data:= #[] }, .slice a n c, .slice none 0 0]] W fun e w'=>(∃(d:VC) (cl:List VC),e= .returned (.agg #[.int .u8 d.k, .int .i64 d.n, .string d.s, .slice d.la d.ll d.lc, .slice d.oa d.ol d.oc])/\VRow w' W.heap.size (.slice d.la d.ll d.lc) l cl)/\uB W w'):=fun W hW=>Kt W l a n c (hl.later_ hW)
 have HCV:Hid (∀W,uB w W->uP 78 #[.agg #[.int .u8 cc.v.k, .int .i64 cc.v.n, .string cc.v.s, .slice cc.v.la cc.v.ll cc.v.lc, .slice cc.v.oa cc.v.ol cc.v.oc]] W fun e w'=>(∃f:VC,e= .returned (.agg #[.int .u8 f.k, .int .i64 f.n, .string f.s, .slice f.la f.ll f.lc, .slice f.oa f.ol f.oc])/\Whole w' W.heap.size x f)/\uB W w'):=fun W hW=>Xa W x cc.v (hx.later_ hW)
 have HBX:=qh (BC.start w #[.int .u8 cc.k, .slice cc.pa cc.pl cc.pc, .string cc.key, .int .i64 cc.i, .int .i64 cc.j, .int .i64 cc.n, .int .u8 cc.v.k, .int .i64 cc.v.n, .string cc.v.s, .slice cc.v.la cc.v.ll cc.v.lc, .slice cc.v.oa cc.v.ol cc.v.oc, .string cc.s] 39)
 have HAL:=qh ((Below.refl _ _).alloc (Nat.le_refl _) (.cells #[.int .u8 cc.k, .slice cc.pa cc.pl cc.pc, .string cc.key, .int .i64 cc.i, .int .i64 cc.j, .int .i64 cc.n, .int .u8 cc.v.k, .int .i64 cc.v.n, .string cc.v.s, .slice cc.v.la cc.v.ll cc.v.lc, .slice cc.v.oa cc.v.ol cc.v.oc, .string cc.s] 39):uB w _)
 obtain ⟨R,hR⟩:∃R,listDo l cc.k cc.i cc.j x=R:=⟨_,rfl⟩
 rw [hR]
 rw [listDo,hk] at hR
 have HL:=qh hlen
 obtain ⟨i,hi⟩:∃i:Nat,cc.i=i:=⟨cc.i.toNat,by omega⟩
 rw [hi] at hR hi1 hi2
 rw [hk,hi] at HCK HBX HAL ⊢
 rw [Int.toNat_natCast] at hR
 have hil:i<n:=by have:=hi2 (by omega);omega
 have hw1:IntKind.i64.wrap ((i:Int)+1)=(i:Int)+1:=IntWalk.i64_in _ (by omega)
 obtain rfl:R=l.set i x:=by rw [<-hR];rfl
 clear hl hx hc hlen hR hi hi0 hj hi1 hi2
 go_enter Tryz.func82,Tryz.ntmps82
 go_wp2_with fail
 refine (HCK.out _).mono ?_
 rintro e w1 ⟨rfl,hb1⟩
 have HD1:=qh (HBX.out.keep hb1 (by simp))
 have HBL1:=qh (HAL.out.trans (hb1.mono (by simp)))
 clear hb1
 go_wp2_with fail
 refine (HOW.out _ HBL1.out).mono ?_
 rintro e w2 ⟨⟨d,cl,rfl,hV⟩,hb2⟩
 have D2:=HD1.out.keep hb2 HD1.out.lt
 obtain ⟨b0,b1,b2,b3,b4,b5,b6,b7,b8,b9,b10,b11⟩:=row12 D2.at_
 have zs2:=D2.lt
 have HBL2:=qh (HBL1.out.trans (hb2.mono HBL1.out.size))
 have HW12:=qh hb2.size
 have HV:=qh hV
 have hfld:=Xl w2 d.k d.n d.s d.la d.ll d.lc d.oa d.ol d.oc
 obtain ⟨dk,dn,ds,dla,dll,dlc,doa,dol,doc⟩:=d
 dsimp only at hV HV hfld ⊢
 have hil2:i<l.length:=by have:=HL.out;omega
 have hic:i<cl.length:=by have:=hV.len;omega
 obtain ⟨g,cap,hu,hbg,hgl,hlc,hcm,hat,hfr⟩:=hV.at_ hil2 hic
 obtain ⟨y,hy⟩:∃y,cl[i]'hic=y:=⟨_,rfl⟩
 rw [hy] at hat
 clear hy
 injection hu with u1 u2 u3
 subst u1 u2 u3
 have hcm63:dlc<=9223372036854775807:=by unfold maxLen at hcm;omega
 have HD2:=qh D2
 have HBD:=qh (HBL2.out.drew)
 have HAT:=qh hat;have HFR:=qh hfr
 clear hb2 hV D2 hat hfr
 go_wp2_with fail
 go_region_with (go_simp;go_at_call 78;(with_reducible refine (HCV.out _ HBD.out).mono ?_);rintro e w4 ⟨⟨f,rfl,hW4⟩,hb4⟩;have hB24:uB w2 w4:=(Zf w2).trans hb4;have D4:=HD2.out.keep hB24 zs2;have q3:=D4.at_ 3 _ rfl;have zs4:=D4.lt;have HB24:=qh hB24;have HW4:Hid (Whole w4 w2.heap.size x f):=qh hW4;have d0:=Za hB24 HAT.out.c0 hgl;have d1:=Za hB24 HAT.out.c1 hgl;have d2:=Za hB24 HAT.out.c2 hgl;have d3:=Za hB24 HAT.out.c3 hgl;have d4:=Za hB24 HAT.out.c4 hgl;have r0:=(Y0 (q:=i*5) (hB24.block g hgl)).trans (HFR.out _);have r1:=(Y0 (q:=i*5+1) (hB24.block g hgl)).trans (HFR.out _);have r2:=(Y0 (q:=i*5+2) (hB24.block g hgl)).trans (HFR.out _);have r3:=(Y0 (q:=i*5+3) (hB24.block g hgl)).trans (HFR.out _);have r4:=(Y0 (q:=i*5+4) (hB24.block g hgl)).trans (HFR.out _);clear hW4 hb4 hB24 D4)
 all_goals (
  have hIA:IsVal (only (fun k=>w1.heap.size<=k/\(Value.slice (some ⟨g,0,none⟩) l.length dlc).ownBlock≠some k) w4) w4.heap.size x f:=HW4.out.sepI.isVal.sub (Zd fun k hk hl=>⟨⟨by have:=HW12.out;omega,fun e=>by have:=(HV.out.own.lt _ e).2;omega⟩,rfl⟩)
  have hV5:=(HV.out.later HB24.out).set hil2 hIA
  have hbl:uB w (setV w4 g (i*5) f):=(HBL2.out.trans (HB24.out.mono HBL2.out.size)).trans ((Zi w4 g (i*5) f).lowC (by have:=HBL1.out.size;omega) (by have:=HB24.out.size;have:=HBL2.out.size;omega))
  refine Zt (P:=fun W=>VRow W w1.heap.size (.slice (some ⟨g,0,none⟩) l.length dlc) (l.set i x) (cl.set i f)/\uB w W) ⟨hV5,hbl⟩ ?_
  clear hIA hV5 hbl
  rintro W ⟨hV6,hb6⟩
  have hlr:(l.set i x).length<=1466015503701:=by have:=HL.out;simp;omega
  obtain ⟨a3,n3,c3,hu3,hI,hz⟩:=hV6.vals hlr
  injection hu3 with u1 u2 u3
  subst u1 u2 u3
  have HI:=qh (Xm hI HBL1.out.size (Below.refl _ _)).cut
  have HB6:=qh hb6
  clear hV6 hb6 hlr hI hz
  go_wp2_with fail
  go_returns
  exact ⟨⟨_,_,_,rfl,HI.out⟩,HB6.out⟩)
theorem zn6 (w:World) (l:List V) (a:Option Addr) (n c:Nat) (hl:IsVals w w.heap.size l a n c) (hfew:n<=100000000) (cc:CC) (x:V) (hx:IsVal w w.heap.size x cc.v) (hc:lCheck n cc.k cc.i cc.j=0):
 uP 82 #[.slice a n c, .agg (uC cc)] w (SeqPost w (listDo l cc.k cc.i cc.j x)):=by
 delta uC uP
 obtain ⟨h4,h7,_⟩:=Yx hc
 by_cases k4:cc.k=4
 .exact zi5 w l a n c hl hfew cc x hx hc k4
 by_cases k5:cc.k=5
 .exact zgo w l a n c hl hfew cc x hc k5
 by_cases k6:cc.k=6
 .exact zia w l a n c hl hfew cc x hx hc k6
 exact zo7 w l a n c hl hfew cc x hc (by omega)
set_option maxRecDepth 100000 in
theorem znq (w:World) (B:Nat) (d:VC) (cc:CC) (l:List V) (xv:V) (hB:BC w B (wcells d cc)) (hl:IsVals w w.heap.size l d.la d.ll d.lc) (hfew:l.length<=100000000) (hx:IsVal w w.heap.size xv cc.v) (hc:lCheck l.length cc.k cc.i cc.j=0):
 uP 45 #[.pointer (some ⟨B,0,none⟩)] w fun e w'=>e= .returned (.tuple #[])/\∃W a n c,uB w W/\w'=W.setCell ⟨B,3,none⟩ (.slice a n c)/\IsVals (only (fun b=>w.heap.size<=b) W) W.heap.size (listDo l cc.k cc.i cc.j xv) a n c:=by
 delta uB uP
 have hlen:=hl.len
 have HTD:Hid (∀W,uB w W->uP 82 #[.slice d.la d.ll d.lc, .agg (uC cc)] W fun e w'=>(∃a n c,e= .returned (.tuple #[.slice a n c, .int .u16 0])/\IsVals (only (fun b=>W.heap.size<=b) w') w'.heap.size (listDo l cc.k cc.i cc.j xv) a n c)/\uB W w'):=qh fun W hW=>zn6 W l d.la d.ll d.lc (hl.later_ hW) (by omega) cc xv (hx.later_ hW) (by rw [hlen];exact hc)
 have HB:=qh hB
 have HBD:=qh (Zf w)
 have c3:=hB.at_ 3 _ rfl;have f3:=hB.fr 3
 have c5:=hB.at_ 5 _ rfl;have c6:=hB.at_ 6 _ rfl;have c7:=hB.at_ 7 _ rfl;have c8:=hB.at_ 8 _ rfl;have c9:=hB.at_ 9 _ rfl;have c10:=hB.at_ 10 _ rfl;have c11:=hB.at_ 11 _ rfl;have c12:=hB.at_ 12 _ rfl;have c13:=hB.at_ 13 _ rfl;have c14:=hB.at_ 14 _ rfl;have c15:=hB.at_ 15 _ rfl;have c16:=hB.at_ 16 _ rfl
 have zs:=hB.lt
 have mixed:Tryz.prog.follows .mixedOrders=true:=by kernel_rfl
 obtain ⟨TD,hTD⟩:∃TD,listDo l cc.k cc.i cc.j xv=TD:=⟨_,rfl⟩
 rw [hTD] at HTD ⊢
 clear hB hTD hc hfew hl hlen hx
 go_enter Tryz.func45,Tryz.ntmps45
 go_wp2_with fail
 go_region_with (go_simp;go_at_call 82;(with_reducible refine (HTD.out _ HBD.out).mono ?_);rintro e w4 ⟨⟨a4,n4,m4,rfl,hI⟩,hb4⟩;have B4:=HB.out.keep ((Zf w).trans hb4) HB.out.lt;have g3:=B4.at_ 3 _ rfl;have f3':=B4.fr 3;have z4:=B4.lt;have HB4:=qh ((Zf w).trans hb4);have HI:=qh hI;clear hb4 B4 hI)
 all_goals (go_wp2_with fail;exact ⟨rfl, .tuple #[],by simp [results,Tryz.results45,go_sem],rfl,w4,a4,n4,m4,HB4.out,rfl,HI.out⟩)
noncomputable def doneP (x:V) (c:Cm):V:=
 if c.k=1 then .mk x.kd (wrap64 (x.nm+c.n)) x.str x.ls x.os
 else if c.k=2∨c.k=3 then .mk x.kd x.nm x.str x.ls (fieldsDo x.os c.key c.v (c.k==3))
 else if c.k=8∨c.k=9 then .mk x.kd x.nm (textDo x.str c.k c.i c.n c.s) x.ls x.os
 else .mk x.kd x.nm x.str (listDo x.ls c.k c.i c.j c.v) x.os
def doneQ:Option V->V×Int
 |none=>(V.none,30)
 |some w=>(w,0)
theorem Xf (z:V):doneQ (some z)=(z,0):=rfl
noncomputable def doP (v:V) (c:Cm):V×Int:=
 if checkP v c=0 then (match getP v c.path with
  |none=>(V.none,30)
  |some x=>doneQ (putP v c.path (doneP x c))) else (V.none,checkP v c)
theorem Yt {v:V} {c:Cm} {x:V} (he:checkP v c=0) (hg:getP v c.path=some x):doP v c=doneQ (putP v c.path (doneP x c)):=by
 rw [doP,if_pos he];simp only [hg]
theorem Yn (p:List St):∀ {v x:V} (_:getP v p=some x) (y:V),∃z,putP v p y=some z:=by
 induction p with
 |nil=>intro v x _ y;exact ⟨y,rfl⟩
 | cons s r ih=>
   intro v x h y
   unfold getP at h
   unfold putP
   cases hs:stepP v s with
   |none=>rw [hs] at h;cases h
   | some q=>
     rw [hs] at h
     obtain ⟨z,hz⟩:=ih h y
     simp only [hz]
     exact ⟨_,rfl⟩
theorem Qq {c:Cm} (h:cmSound c=true):1<=c.k/\c.k<=9:=by
 unfold cmSound at h
 simp only [Bool.and_eq_true] at h
 have hk:=h.1.1.1.1.1.1.1.1.1.1.1
 unfold kIs at hk
 simpa using hk
theorem zdb (s:ByteArray) (k i n:Int) (cs:ByteArray):(textDo s k i n cs).size<=s.size+s.size+cs.size:=by
 unfold textDo
 split
 .rw [ByteArray.size_append,ByteArray.size_append,ByteArray.size_extract,ByteArray.size_extract];omega
 .rw [ByteArray.size_append,ByteArray.size_extract,ByteArray.size_extract];omega
theorem IsVals.sub {w w':World} {B:Nat} {l:List V} {a:Option Addr} {n c:Nat} (hs:Shows w w' B) (h:IsVals w B l a n c):IsVals w' B l a n c:=by
 obtain ⟨h1,h2,h3,h4,b,o,f,h5,h6⟩:=h
 exact ⟨h1,h2,h3,h4,b,o,f,h5,fun i hi=>⟨(h6 i hi).1.sub hs (h5 (by omega)).2,(h6 i hi).2.sub hs⟩⟩
theorem Zu {v:V} {c:Cm} (h:checkP v c=0):cmSound c=true/\∃x,getP v c.path=some x/\kindsP x c.k c.i c.j c.n c.key=0:=by
 unfold checkP at h
 cases hs:cmSound c with
 |false=>rw [hs,if_pos rfl] at h;omega
 | true=>
   rw [hs,if_neg (by simp)] at h
   cases hg:getP v c.path with
   |none=>rw [hg] at h;simp at h
   |some x=>rw [hg] at h;exact ⟨rfl,x,rfl,h⟩
structure DB (w W:World) (c:VC) (cc:CC):Prop where
 v:BC W w.heap.size (vcells c)
 c:BC W (w.heap.size+1) (ccells cc)
 r:BC W (w.heap.size+1+1) (vcells vzero)
 below:Below w.heap.size w W
theorem DB.next {w W W':World} {c:VC} {cc:CC} {B:Nat} (h:DB w W c cc) (hb:Below B W W') (hB:w.heap.size+3<=B):DB w W' c cc:=
 ⟨h.v.keep hb (by omega),h.c.keep hb (by omega),h.r.keep hb (by omega),h.below.trans (hb.mono (by omega))⟩
theorem DB.start (w:World) (c:VC) (cc:CC) (t1 t2 t3:TypeId):DB w (((w.alloc (.cells #[.int .u8 c.k, .int .i64 c.n, .string c.s, .slice c.la c.ll c.lc, .slice c.oa c.ol c.oc] t1)).alloc (.cells #[.int .u8 cc.k, .slice cc.pa cc.pl cc.pc, .string cc.key, .int .i64 cc.i, .int .i64 cc.j, .int .i64 cc.n, .int .u8 cc.v.k, .int .i64 cc.v.n, .string cc.v.s, .slice cc.v.la cc.v.ll cc.v.lc, .slice cc.v.oa cc.v.ol cc.v.oc, .string cc.s] t2)).alloc (.cells #[.int .u8 0, .int .i64 0, .string { data:= #[] }, .slice none 0 0, .slice none 0 0] t3)) c cc:=by
 have k:=KBk.start w c cc t1 t2
 obtain ⟨w2,hw2⟩:∃w2,((w.alloc (.cells (uV c) t1)).alloc (.cells (uC cc) t2))=w2:=⟨_,rfl⟩
 have s2:w2.heap.size=w.heap.size+1+1:=by rw [<-hw2,World.size_alloc,World.size_alloc]
 rw [hw2] at k ⊢
 have b3:uB w2 (w2.alloc (.cells (uU 0 0 { data:= #[] } none 0 0 none 0 0) t3)):=(Below.refl _ _).alloc (Nat.le_refl _) _
 have c3:=BC.start w2 (uU 0 0 { data:= #[] } none 0 0 none 0 0) t3
 rw [s2] at c3
 exact ⟨k.v.keep b3 (by omega),k.c.keep b3 (by omega),c3,k.below.trans (b3.mono (by omega))⟩
theorem DB.result {w W:World} {c:VC} {cc:CC} (h:DB w W c cc) (d:VC):BC (((((W.setCell ⟨w.heap.size+1+1,0,none⟩ (.int .u8 d.k)).setCell ⟨w.heap.size+1+1,1,none⟩ (.int .i64 d.n)).setCell ⟨w.heap.size+1+1,2,none⟩ (.string d.s)).setCell ⟨w.heap.size+1+1,3,none⟩ (.slice d.la d.ll d.lc)).setCell ⟨w.heap.size+1+1,4,none⟩ (.slice d.oa d.ol d.oc)) (w.heap.size+1+1) (vcells d)/\uB w (((((W.setCell ⟨w.heap.size+1+1,0,none⟩ (.int .u8 d.k)).setCell ⟨w.heap.size+1+1,1,none⟩ (.int .i64 d.n)).setCell ⟨w.heap.size+1+1,2,none⟩ (.string d.s)).setCell ⟨w.heap.size+1+1,3,none⟩ (.slice d.la d.ll d.lc)).setCell ⟨w.heap.size+1+1,4,none⟩ (.slice d.oa d.ol d.oc)):=
 ⟨Z5 h.r d,Below.set5' h.below (by omega) _ _ _ _ _⟩
theorem Y3 {w:World} {B:Nat} {k n:Int} {s:ByteArray} {l:List V} {o:List (ByteArray×V)} {la:Option Addr} {ll lc:Nat} {oa:Option Addr} {ol oc:Nat} (hk0:0<=k) (hk1:k<256) (hn0: -9223372036854775808<=n) (hn1:n<=9223372036854775807) (hs:s.size<=140737488355328) (h1:IsVals w B l la ll lc) (h2:IsFields w B o oa ol oc):IsVal w B (.mk k n s l o) ⟨k,n,s,la,ll,lc,oa,ol,oc⟩:=
 IsVal.of_lists (c:=⟨k,n,s,la,ll,lc,oa,ol,oc⟩) ⟨hk0,hk1,hn0,hn1,hs,h1.cap,h1.max,h1.few,h2.cap,h2.max,h2.few⟩ h1 h2
def MidPost (base:Nat) (W3:World) (B:Nat) (cc:CC) (y:V) (e:Ending) (w':World):Prop:=
 e= .returned (.tuple #[])/\∃d':VC,BC w' B (wcells d' cc)/\IsVal w' w'.heap.size y d'/\Below base W3 w'
structure Mid (w0 W2 W3:World) (base B:Nat) (x:V) (d:VC) (cc:CC) (xv:V):Prop where
 whole:Whole W2 base x d
 next:Below W2.heap.size W2 W3
 box:BC W3 B (wcells d cc)
 B2:W2.heap.size<=B
 b0:w0.heap.size<=base
 b1:base<=W2.heap.size
 low:Below w0.heap.size w0 W2
 xv:IsVal w0 w0.heap.size xv cc.v
theorem Whole.isVal {w:World} {base:Nat} {x:V} {d:VC} (h:Whole w base x d):IsVal w w.heap.size x d:=h.sepI.isVal.sub (Zk _ _ _)
theorem IsVal.parts {w:World} {B:Nat} {x:V} {d:VC} (h:IsVal w B x d):x.kd=d.k/\x.nm=d.n/\x.str=d.s/\d.Bnd/\IsVals w B x.ls d.la d.ll d.lc/\IsFields w B x.os d.oa d.ol d.oc:=by
 obtain ⟨kx,nx,sx,lx,ox,rfl⟩:=x.eta
 obtain ⟨e1,e2,e3,hbd,hl,ho⟩:=h.lists
 subst e1 e2 e3
 exact ⟨rfl,rfl,rfl,hbd,hl,ho⟩
theorem Mid.seen {w0 W2 W3 W:World} {base B:Nat} {x:V} {d:VC} {cc:CC} {xv:V} (h:Mid w0 W2 W3 base B x d cc xv) (hb:uB W2 W):IsVal W W.heap.size x d:=(Whole.isVal h.whole).later_ hb
theorem Mid.seenv {w0 W2 W3 W:World} {base B:Nat} {x:V} {d:VC} {cc:CC} {xv:V} (h:Mid w0 W2 W3 base B x d cc xv) (hb:uB W2 W):IsVal W W.heap.size xv cc.v:=h.xv.later_ (h.low.trans (hb.mono (Nat.le_trans h.b0 h.b1)))
theorem zjm (w0 W2 W3:World) (base B:Nat) (x:V) (d:VC) (p:List St) (cc:CC) (xv:V) (h:Mid w0 W2 W3 base B x d cc xv) (hk:cc.k=1):
 uP 43 #[.pointer (some ⟨B,0,none⟩)] W3 (MidPost base W3 B cc (doneP x ⟨cc.k,p,cc.key,cc.i,cc.j,cc.n,xv,cc.s⟩)):=by
 delta uP
 refine (zpe W3 B d cc h.box).mono ?_
 rintro e w' ⟨rfl,W,hb,rfl⟩
 have hb2:uB W2 (W.setCell ⟨B,1,none⟩ (.int .i64 (wrap64 (d.n+cc.n)))):=(h.next.trans (hb.mono h.next.size)).set_ h.B2
 have hx:=h.seen hb2
 have hB:=(h.box.keep hb h.box.lt).set (i:=1) (x:= .int .i64 (wrap64 (d.n+cc.n))) (by simp [wcells,vcells])
 obtain ⟨e1,e2,e3,hbd,hl,ho⟩:=hx.parts
 refine ⟨rfl,⟨d.k,wrap64 (d.n+cc.n),d.s,d.la,d.ll,d.lc,d.oa,d.ol,d.oc⟩,hB, ?_,(hb.mono (Nat.le_trans h.b1 h.next.size)).set_ (Nat.le_trans h.b1 h.B2)⟩
 rw [doneP,if_pos hk,e1,e2,e3]
 exact Y3 hbd.k0 hbd.k1 (Kq _) (Jz _) hbd.s1 hl ho
theorem zqe (w0 W2 W3:World) (base B:Nat) (x:V) (d:VC) (p:List St) (cc:CC) (xv:V) (h:Mid w0 W2 W3 base B x d cc xv) (hk:cc.k=8∨cc.k=9) (hcb:cc.Bnd) (hs:d.s.size<=1000000000000) (hcs:d.s.size+d.s.size+cc.s.size<=140737488355328) (hc:tCheck x.str cc.k cc.i cc.n=0):
 uP 46 #[.pointer (some ⟨B,0,none⟩)] W3 (MidPost base W3 B cc (doneP x ⟨cc.k,p,cc.key,cc.i,cc.j,cc.n,xv,cc.s⟩)):=by
 delta uP
 have hstr:x.str=d.s:=(Xd (Whole.isVal h.whole)).1
 rw [hstr] at hc
 refine (zl9 W3 B d cc h.box hcb hs hc).mono ?_
 rintro e w' ⟨rfl,W,hb,rfl⟩
 have htz:(textDo d.s cc.k cc.i cc.n cc.s).size<=140737488355328:=by have:=zdb d.s cc.k cc.i cc.n cc.s;omega
 have hb2:uB W2 (W.setCell ⟨B,2,none⟩ (.string (textDo d.s cc.k cc.i cc.n cc.s))):=(h.next.trans (hb.mono h.next.size)).set_ h.B2
 have hx:=h.seen hb2
 have hB:=(h.box.keep hb h.box.lt).set (i:=2) (x:= .string (textDo d.s cc.k cc.i cc.n cc.s)) (by simp [wcells,vcells])
 obtain ⟨e1,e2,e3,hbd,hl,ho⟩:=hx.parts
 refine ⟨rfl,⟨d.k,d.n,textDo d.s cc.k cc.i cc.n cc.s,d.la,d.ll,d.lc,d.oa,d.ol,d.oc⟩,hB, ?_,(hb.mono (Nat.le_trans h.b1 h.next.size)).set_ (Nat.le_trans h.b1 h.B2)⟩
 rw [doneP,if_neg (by dsimp only;omega),if_neg (by dsimp only;omega),if_pos hk,e1,e2,e3]
 exact Y3 hbd.k0 hbd.k1 hbd.n0 hbd.n1 htz hl ho
theorem zgx (w0 W2 W3:World) (base B:Nat) (x:V) (d:VC) (p:List St) (cc:CC) (xv:V) (h:Mid w0 W2 W3 base B x d cc xv) (hk:4<=cc.k/\cc.k<=7) (hfew:x.ls.length<=100000000) (hc:lCheck x.ls.length cc.k cc.i cc.j=0):
 uP 45 #[.pointer (some ⟨B,0,none⟩)] W3 (MidPost base W3 B cc (doneP x ⟨cc.k,p,cc.key,cc.i,cc.j,cc.n,xv,cc.s⟩)):=by
 delta uP
 obtain ⟨_,_,_,_,hl3,_⟩:=(h.seen h.next).parts
 refine (znq W3 B d cc x.ls xv h.box ?_ hfew (h.seenv h.next) hc).mono ?_
 .exact hl3
 rintro e w' ⟨rfl,W,a,n,c,hb,rfl,hI⟩
 have hb2:uB W2 (W.setCell ⟨B,3,none⟩ (.slice a n c)):=(h.next.trans (hb.mono h.next.size)).set_ h.B2
 have hx:=h.seen hb2
 have hB:=(h.box.keep hb h.box.lt).set (i:=3) (x:= .slice a n c) (by simp [wcells,vcells])
 obtain ⟨e1,e2,e3,hbd,hl,ho⟩:=hx.parts
 refine ⟨rfl,⟨d.k,d.n,d.s,a,n,c,d.oa,d.ol,d.oc⟩,hB, ?_,(hb.mono (Nat.le_trans h.b1 h.next.size)).set_ (Nat.le_trans h.b1 h.B2)⟩
 rw [doneP,if_neg (by dsimp only;omega),if_neg (by dsimp only;omega),if_neg (by dsimp only;omega),e1,e2]
 have e3':x.str=d.s:=e3
 rw [e3']
 have hst:RStep W (W.setCell ⟨B,3,none⟩ (.slice a n c)) B:=RStep.self
 exact Y3 hbd.k0 hbd.k1 hbd.n0 hbd.n1 hbd.s1 ((IsVals.sub (fun b o u hb h'=>by
  obtain ⟨hs,hc⟩:=Z9 h'
  exact hst.cell hc (by have:=h.box.lt;omega)) hI).more hst.size) ho
theorem zf1 (w0 W2 W3:World) (base B:Nat) (x:V) (d:VC) (p:List St) (cc:CC) (xv:V) (h:Mid w0 W2 W3 base B x d cc xv) (hk:cc.k=2∨cc.k=3) (hfew:x.ls.length<=100000000/\x.os.length<=100000000) (hr:rising x.os=true) (hks:cc.key.size<=140737488355328) (hc:cc.k=3->fieldIs x.os cc.key=true):
 uP 44 #[.pointer (some ⟨B,0,none⟩)] W3 (MidPost base W3 B cc (doneP x ⟨cc.k,p,cc.key,cc.i,cc.j,cc.n,xv,cc.s⟩)):=by
 delta uP
 have hS:∀k,base<=k->k<W2.heap.size->base<=k/\k≠B:=fun k h1 h2=>⟨h1,by have:=h.B2;omega⟩
 obtain ⟨co,hF2⟩:=FRow.of (S:=fun k=>base<=k/\k≠B) h.whole rfl hS
 have hL2:=h.whole.lists hS (by omega)
 have hne:(Value.slice d.oa d.ol d.oc).ownBlock≠some B:=fun e=>by have:=(hF2.own.lt _ e).2;have:=h.B2;omega
 have hF3:=hF2.later h.next
 obtain ⟨_,_,_,_,_,ho3⟩:=(h.seen h.next).parts
 have key:∀e w',WFPost W3 B base d cc (newF x.os cc.key xv (cc.k==3)) e w'->MidPost base W3 B cc (doneP x ⟨cc.k,p,cc.key,cc.i,cc.j,cc.n,xv,cc.s⟩) e w':=by
  rintro e w' ⟨rfl,a,n,c,hB,hI,hg⟩
  refine ⟨rfl,⟨d.k,d.n,d.s,d.la,d.ll,d.lc,a,n,c⟩,hB, ?_,hg.low (Nat.le_trans h.b1 h.next.size) (Nat.le_trans h.b1 h.B2) (fun k hk=>(hF2.own.lt k hk).1)⟩
  obtain ⟨_,_,_,hbd,_,_⟩:=(Whole.isVal h.whole).parts
  have hl1:=IsVals.sub (Zd (S':=fun _=>True) (w':=w') fun k hk hl=>⟨trivial,(hg.block k (Nat.lt_of_lt_of_le hl h.next.size) hk.1.2 (fun e=>hk.2 e.symm)).trans (h.next.block k hl)⟩) hL2
  have hl:IsVals w' w'.heap.size x.ls d.la d.ll d.lc:=(IsVals.sub (Zk _ _ _) hl1).more (Nat.le_trans h.next.size hg.size)
  have ho:=IsFields.sub (Zk _ _ _) hI
  have he:=h.whole.1
  rw [<-Xo hr] at ho
  rw [doneP,if_neg (by dsimp only;omega),if_pos hk]
  have e1:x.kd=d.k:=by rw [he];rfl
  have e2:x.nm=d.n:=by rw [he];rfl
  have e3:x.str=d.s:=by rw [he];rfl
  rw [e1,e2,e3]
  exact Y3 hbd.k0 hbd.k1 hbd.n0 hbd.n1 hbd.s1 hl ho
 have hw0:uB w0 W3:=h.low.trans (h.next.mono (Nat.le_trans h.b0 h.b1))
 have hbB:base<=B:=Nat.le_trans h.b1 h.B2
 rcases hk with hk|hk
 .rw [hk] at key
  cases hi:fieldIs x.os cc.key with
  |true=>exact (zi6 w0 W3 B base d cc x xv co h.box hw0 h.b0 hbB ho3 hF3 hne h.xv hk hi hfew.2 hks).mono fun e w' hp=>by rw [hk];exact key e w' hp
  |false=>exact (zkh w0 W3 B base d cc x xv co h.box hw0 h.b0 hbB ho3 hF3 hne h.xv hk hi hfew.2 hks).mono fun e w' hp=>by rw [hk];exact key e w' hp
 .rw [hk] at key
  exact (zkw w0 W3 B base d cc x xv co h.box hw0 h.b0 hbB ho3 hF3 hne h.xv hk (hc hk) hfew.2 hks).mono fun e w' hp=>by rw [hk];exact key e w' hp
def asksK (k:Int):Int:=if k=1 then 2 else if k=2∨k=3 then 5 else if k=8∨k=9 then 3 else 4
theorem ziw (x:V) (k i j n:Int) (key:ByteArray):kindsP x k i j n key=if x.kd≠asksK k then 31 else if x.kd=4 then lCheck x.ls.length k i j else if x.kd=3 then tCheck x.str k i n else if k=3/\fieldIs x.os key=false then 33 else 0:=by
 unfold kindsP asksK
 by_cases h1:k=1
 .rw [if_pos h1,if_pos h1]
  by_cases h:x.kd≠2
  .rw [if_pos h,if_pos h]
  .rw [if_neg h,if_neg h,if_neg (by omega),if_neg (by omega),if_neg (by omega)]
 .rw [if_neg h1,if_neg h1]
  by_cases h2:k=2∨k=3
  .rw [if_pos h2,if_pos h2]
   by_cases h:x.kd≠5
   .rw [if_pos h,if_pos h]
   .rw [if_neg h,if_neg h,if_neg (show ¬x.kd=4 by omega),if_neg (show ¬x.kd=3 by omega)]
  .rw [if_neg h2,if_neg h2]
   by_cases h3:k=8∨k=9
   .rw [if_pos h3,if_pos h3]
    by_cases h:x.kd≠3
    .rw [if_pos h,if_pos h]
    .rw [if_neg h,if_neg h,if_neg (show ¬x.kd=4 by omega),if_pos (show x.kd=3 by omega)]
   .rw [if_neg h3,if_neg h3]
    by_cases h:x.kd≠4
    .rw [if_pos h,if_pos h]
    .rw [if_neg h,if_neg h,if_pos (show x.kd=4 by omega)]
theorem zly (k:Int):asksK k=2∨asksK k=5∨asksK k=3∨asksK k=4:=by
 unfold asksK;split
 .exact .inl rfl
 .split
  .exact .inr (.inl rfl)
  .split
   .exact .inr (.inr (.inl rfl))
   .exact .inr (.inr (.inr rfl))
set_option maxRecDepth 100000 in
theorem zh6 (w:World) (cc:CC):
 uP 112 #[.agg (uC cc)] w fun e w'=>e= .returned (.int .u8 (asksK cc.k))/\uB w w':=by
 delta uC uB uP
 have HBX:=qh (BC.start w #[.int .u8 cc.k, .slice cc.pa cc.pl cc.pc, .string cc.key, .int .i64 cc.i, .int .i64 cc.j, .int .i64 cc.n, .int .u8 cc.v.k, .int .i64 cc.v.n, .string cc.v.s, .slice cc.v.la cc.v.ll cc.v.lc, .slice cc.v.oa cc.v.ol cc.v.oc, .string cc.s] 39)
 have HAL:=qh ((Below.refl _ _).alloc (Nat.le_refl _) (.cells #[.int .u8 cc.k, .slice cc.pa cc.pl cc.pc, .string cc.key, .int .i64 cc.i, .int .i64 cc.j, .int .i64 cc.n, .int .u8 cc.v.k, .int .i64 cc.v.n, .string cc.v.s, .slice cc.v.la cc.v.ll cc.v.lc, .slice cc.v.oa cc.v.ol cc.v.oc, .string cc.s] 39):uB w _)
 obtain ⟨R,hR⟩:∃R,asksK cc.k=R:=⟨_,rfl⟩
 rw [hR]
 obtain ⟨ck,hck⟩:∃ck,cc.k=ck:=⟨_,rfl⟩
 rw [hck] at HBX HAL hR ⊢
 have HR:=qh hR
 clear hck hR
 by_cases e1:ck=1
 .cases e1
  obtain rfl:R=2:=by rw [<-HR.out];rfl
  go_enter Tryz.func112,Tryz.ntmps112
  go_wp2_with fail
  go_returns
  exact ⟨rfl,HAL.out⟩
 have f1:(ck==1)=false:=by simp [e1]
 by_cases e2:ck=2
 .cases e2
  obtain rfl:R=5:=by rw [<-HR.out];rfl
  go_enter Tryz.func112,Tryz.ntmps112
  go_wp2_with fail
  go_returns
  exact ⟨rfl,HAL.out⟩
 have f2:(ck==2)=false:=by simp [e2]
 by_cases e3:ck=3
 .cases e3
  obtain rfl:R=5:=by rw [<-HR.out];rfl
  go_enter Tryz.func112,Tryz.ntmps112
  go_wp2_with fail
  go_returns
  exact ⟨rfl,HAL.out⟩
 have f3:(ck==3)=false:=by simp [e3]
 by_cases e8:ck=8
 .cases e8
  obtain rfl:R=3:=by rw [<-HR.out];rfl
  go_enter Tryz.func112,Tryz.ntmps112
  go_wp2_with fail
  go_returns
  exact ⟨rfl,HAL.out⟩
 have f8:(ck==8)=false:=by simp [e8]
 by_cases e9:ck=9
 .cases e9
  obtain rfl:R=3:=by rw [<-HR.out];rfl
  go_enter Tryz.func112,Tryz.ntmps112
  go_wp2_with fail
  go_returns
  exact ⟨rfl,HAL.out⟩
 have f9:(ck==9)=false:=by simp [e9]
 obtain rfl:R=4:=by rw [<-HR.out,asksK,if_neg e1,if_neg (by omega),if_neg (by omega)]
 go_enter Tryz.func112,Tryz.ntmps112
 go_wp2_with fail
 go_returns
 exact ⟨rfl,HAL.out⟩
set_option maxRecDepth 100000 in
theorem zo9 (w:World) (vk vn:Int) (vs:ByteArray) (la:Option Addr) (ll lc:Nat) (oa:Option Addr) (ol oc:Nat) (v:V) (hv:IsVal w w.heap.size v ⟨vk,vn,vs,la,ll,lc,oa,ol,oc⟩) (hs:vs.size<=1000000000000) (cc:CC) (hcb:cc.Bnd):
 uP 70 #[.agg (uU vk vn vs la ll lc oa ol oc), .agg (uC cc)] w fun e w'=>e= .returned (.int .u16 (kindsP v cc.k cc.i cc.j cc.n cc.key))/\uB w w':=by
 delta uU uC uB uP
 obtain ⟨k',n',s',l,o,rfl⟩:=v.eta
 obtain ⟨e1,e2,e3,hbd,hvl,hvo⟩:=hv.lists
 dsimp only at e1 e2 e3 hvl hvo
 subst e1 e2 e3
 have k1:=hvl.few;have k2:=hvl.max;have k3:=hvo.few;have k4:=hvo.max
 obtain ⟨R,hR⟩:∃R,kindsP (.mk vk vn vs l o) cc.k cc.i cc.j cc.n cc.key=R:=⟨_,rfl⟩
 rw [hR]
 rw [ziw] at hR
 change (if vk≠asksK cc.k then (31:Int) else if vk=4 then lCheck l.length cc.k cc.i cc.j else if vk=3 then tCheck vs cc.k cc.i cc.n else if cc.k=3/\fieldIs o cc.key=false then 33 else 0)=R at hR
 have hll:l.length=ll:=by have:=hvl.len;omega
 rw [hll] at hR
 have HAS:Hid (∀W,uP 112 #[.agg (uC cc)] W fun e w'=>e= .returned (.int .u8 (asksK cc.k))/\uB W w'):=fun W=>zh6 W cc
 have HSQ:Hid (∀W,uP 113 #[.int .i64 ll, .agg (uC cc)] W fun e w'=>e= .returned (.int .u16 (lCheck ll cc.k cc.i cc.j))/\uB W w'):=fun W=>Q7 W ll (by omega) cc
 have HTC:Hid (∀W,uP 114 #[.string vs, .agg (uC cc)] W fun e w'=>e= .returned (.int .u16 (tCheck vs cc.k cc.i cc.n))/\uB W w'):=fun W=>zb2 W vs cc hcb hs
 have HFD:Hid (∀W,uB w W->uP 79 #[.agg (uU vk vn vs la ll lc oa ol oc), .string cc.key] W fun e w'=>e= .returned (.tuple #[.int .i64 (fieldK o cc.key:Int), .bool (fieldIs o cc.key)])/\uB W w'):=fun W hW=>Qj W o cc.key ⟨vk,vn,vs,la,ll,lc,oa,ol,oc⟩ (hvo.later_ hW)
 obtain ⟨LC,hLC⟩:∃LC,lCheck ll cc.k cc.i cc.j=LC:=⟨_,rfl⟩
 obtain ⟨TC,hTC⟩:∃TC,tCheck vs cc.k cc.i cc.n=TC:=⟨_,rfl⟩
 obtain ⟨is,his⟩:∃is,fieldIs o cc.key=is:=⟨_,rfl⟩
 obtain ⟨fk,hfk⟩:∃fk,fieldK o cc.key=fk:=⟨_,rfl⟩
 have hor:=zly cc.k
 obtain ⟨A,hA⟩:∃A,asksK cc.k=A:=⟨_,rfl⟩
 rw [hLC] at HSQ hR
 rw [hTC] at HTC hR
 rw [his] at HFD hR
 rw [hfk] at HFD
 rw [hA] at HAS hR hor
 have HB:=qh (KBk.start w ⟨vk,vn,vs,la,ll,lc,oa,ol,oc⟩ cc 36 39)
 have HBD:=qh (HB.out.next (Zf _) (by simp))
 have HR:=qh hR
 clear hR hLC hTC his hfk hA hll hv hbd hvl hvo hs hcb
 by_cases ev:vk=A
 .cases ev
  have h34:vk=3∨vk=4∨(vk≠3/\vk≠4):=by omega
  rcases h34 with rfl|rfl|⟨n3,n4⟩
  .obtain rfl:R=TC:=by rw [<-HR.out];rfl
   go_enter Tryz.func70,Tryz.ntmps70
   go_wp2_with fail
   go_region_with (go_simp;go_at_call 112;(with_reducible refine (HAS.out _).mono ?_);rintro e w4 ⟨rfl,hb4⟩;have B4:=HBD.out.next hb4 (by simp);obtain ⟨v0,v1,v2,v3,v4⟩:=row5 B4.v.at_;obtain ⟨b0,b1,b2,b3,b4,b5,b6,b7,b8,b9,b10,b11⟩:=row12 B4.c.at_;have z0:=B4.v.lt;have z1:=B4.c.lt;have HB4:=qh B4;clear hb4 B4)
   all_goals (go_wp2_with fail;refine (HTC.out _).mono ?_;rintro e w5 ⟨rfl,hb5⟩;go_wp2_with fail;go_returns;exact ⟨rfl,HB4.out.below.trans (hb5.mono HB4.out.below.size)⟩)
  .obtain rfl:R=LC:=by rw [<-HR.out];rfl
   go_enter Tryz.func70,Tryz.ntmps70
   go_wp2_with fail
   go_region_with (go_simp;go_at_call 112;(with_reducible refine (HAS.out _).mono ?_);rintro e w4 ⟨rfl,hb4⟩;have B4:=HBD.out.next hb4 (by simp);obtain ⟨v0,v1,v2,v3,v4⟩:=row5 B4.v.at_;obtain ⟨b0,b1,b2,b3,b4,b5,b6,b7,b8,b9,b10,b11⟩:=row12 B4.c.at_;have z0:=B4.v.lt;have z1:=B4.c.lt;have HB4:=qh B4;clear hb4 B4)
   all_goals (go_wp2_with fail;refine (HSQ.out _).mono ?_;rintro e w5 ⟨rfl,hb5⟩;go_wp2_with fail;go_returns;exact ⟨rfl,HB4.out.below.trans (hb5.mono HB4.out.below.size)⟩)
  .have hR2:(if cc.k=3/\is=false then (33:Int) else 0)=R:=by have h:=HR.out;rwa [if_neg (fun h=>h rfl),if_neg n4,if_neg n3] at h
   have g3:(vk==3)=false:=by simp [n3]
   have g4:(vk==4)=false:=by simp [n4]
   have HR2:=qh hR2
   clear HR hR2 n3 n4 hor
   by_cases e3:cc.k=3
   .have f3:(cc.k==3)=true:=by simp [e3]
    cases is with
    | false=>
      obtain rfl:R=33:=by rw [<-HR2.out,if_pos ⟨e3,rfl⟩]
      clear e3
      go_enter Tryz.func70,Tryz.ntmps70
      go_wp2_with fail
      go_region_with (go_simp;go_at_call 112;(with_reducible refine (HAS.out _).mono ?_);rintro e w4 ⟨rfl,hb4⟩;have B4:=HBD.out.next hb4 (by simp);obtain ⟨v0,v1,v2,v3,v4⟩:=row5 B4.v.at_;obtain ⟨b0,b1,b2,b3,b4,b5,b6,b7,b8,b9,b10,b11⟩:=row12 B4.c.at_;have z0:=B4.v.lt;have z1:=B4.c.lt;have HB4:=qh B4;clear hb4 B4)
      all_goals (go_wp2_with fail;refine (HFD.out _ HB4.out.below).mono ?_;rintro e w5 ⟨rfl,hb5⟩;have B5:=HB4.out.next hb5 (by omega);clear v0 v1 v2 v3 v4 b0 b1 b2 b3 b4 b5 b6 b7 b8 b9 b10 b11 z0 z1;obtain ⟨v0,v1,v2,v3,v4⟩:=row5 B5.v.at_;obtain ⟨b0,b1,b2,b3,b4,b5,b6,b7,b8,b9,b10,b11⟩:=row12 B5.c.at_;have z0:=B5.v.lt;have z1:=B5.c.lt;have HB5:=qh B5;clear hb5 B5;go_wp2_with fail;go_returns;exact ⟨rfl,HB5.out.below⟩)
    | true=>
      obtain rfl:R=0:=by rw [<-HR2.out,if_neg (by simp)]
      clear e3
      go_enter Tryz.func70,Tryz.ntmps70
      go_wp2_with fail
      go_region_with (go_simp;go_at_call 112;(with_reducible refine (HAS.out _).mono ?_);rintro e w4 ⟨rfl,hb4⟩;have B4:=HBD.out.next hb4 (by simp);obtain ⟨v0,v1,v2,v3,v4⟩:=row5 B4.v.at_;obtain ⟨b0,b1,b2,b3,b4,b5,b6,b7,b8,b9,b10,b11⟩:=row12 B4.c.at_;have z0:=B4.v.lt;have z1:=B4.c.lt;have HB4:=qh B4;clear hb4 B4)
      all_goals (go_wp2_with fail;refine (HFD.out _ HB4.out.below).mono ?_;rintro e w5 ⟨rfl,hb5⟩;have B5:=HB4.out.next hb5 (by omega);clear v0 v1 v2 v3 v4 b0 b1 b2 b3 b4 b5 b6 b7 b8 b9 b10 b11 z0 z1;obtain ⟨v0,v1,v2,v3,v4⟩:=row5 B5.v.at_;obtain ⟨b0,b1,b2,b3,b4,b5,b6,b7,b8,b9,b10,b11⟩:=row12 B5.c.at_;have z0:=B5.v.lt;have z1:=B5.c.lt;have HB5:=qh B5;clear hb5 B5;go_wp2_with fail;go_returns;exact ⟨rfl,HB5.out.below⟩)
   .have f3:(cc.k==3)=false:=by simp [e3]
    obtain rfl:R=0:=by rw [<-HR2.out,if_neg (fun h=>e3 h.1)]
    clear e3
    go_enter Tryz.func70,Tryz.ntmps70
    go_wp2_with fail
    go_region_with (go_simp;go_at_call 112;(with_reducible refine (HAS.out _).mono ?_);rintro e w4 ⟨rfl,hb4⟩;have B4:=HBD.out.next hb4 (by simp);obtain ⟨v0,v1,v2,v3,v4⟩:=row5 B4.v.at_;obtain ⟨b0,b1,b2,b3,b4,b5,b6,b7,b8,b9,b10,b11⟩:=row12 B4.c.at_;have z0:=B4.v.lt;have z1:=B4.c.lt;have HB4:=qh B4;clear hb4 B4)
    all_goals (go_wp2_with fail;refine (HFD.out _ HB4.out.below).mono ?_;rintro e w5 ⟨rfl,hb5⟩;have B5:=HB4.out.next hb5 (by omega);clear v0 v1 v2 v3 v4 b0 b1 b2 b3 b4 b5 b6 b7 b8 b9 b10 b11 z0 z1;obtain ⟨v0,v1,v2,v3,v4⟩:=row5 B5.v.at_;obtain ⟨b0,b1,b2,b3,b4,b5,b6,b7,b8,b9,b10,b11⟩:=row12 B5.c.at_;have z0:=B5.v.lt;have z1:=B5.c.lt;have HB5:=qh B5;clear hb5 B5;go_wp2_with fail;go_returns;exact ⟨rfl,HB5.out.below⟩)
 .have fv:(vk !=A)=true:=by simp [ev]
  obtain rfl:R=31:=by rw [<-HR.out,if_pos ev]
  go_enter Tryz.func70,Tryz.ntmps70
  go_wp2_with fail
  go_region_with (go_simp;go_at_call 112;(with_reducible refine (HAS.out _).mono ?_);rintro e w4 ⟨rfl,hb4⟩;have B4:=HBD.out.next hb4 (by simp);obtain ⟨v0,v1,v2,v3,v4⟩:=row5 B4.v.at_;obtain ⟨b0,b1,b2,b3,b4,b5,b6,b7,b8,b9,b10,b11⟩:=row12 B4.c.at_;have z0:=B4.v.lt;have z1:=B4.c.lt;have HB4:=qh B4;clear hb4 B4)
  all_goals (go_wp2_with fail;go_returns;exact ⟨rfl,HB4.out.below⟩)
theorem PGetPost.gen {w:World} {v:V} {p:List St} {e:Ending} {w':World} (h:PGetPost w v p e w'):∃(d:VC) (er:Int),e= .returned (.tuple #[.agg #[.int .u8 d.k, .int .i64 d.n, .string d.s, .slice d.la d.ll d.lc, .slice d.oa d.ol d.oc], .int .u16 er])/\Hid ((getP v p=none/\er=30)∨∃x,getP v p=some x/\er=0/\Whole w' w.heap.size x d)/\uB w w':=by
 delta uB
 obtain ⟨hb,⟨rfl,hn⟩|⟨x,d,rfl,hg,hW⟩⟩:=h
 .exact ⟨vzero,30,rfl,qh (.inl ⟨hn,rfl⟩),hb⟩
 .exact ⟨d,0,rfl,qh (.inr ⟨x,hg,rfl,hW⟩),hb⟩
set_option maxRecDepth 100000 in
theorem Qc (w:World) (vk vn:Int) (vs:ByteArray) (la:Option Addr) (ll lc:Nat) (oa:Option Addr) (ol oc:Nat) (v:V) (hv:IsVal w w.heap.size v ⟨vk,vn,vs,la,ll,lc,oa,ol,oc⟩) (hw:v.weight<=1000000000000) (p:List St) (xv:V) (cc:CC) (hcb:cc.Bnd) (hp:IsSteps w w.heap.size p cc.pa cc.pl cc.pc) (hxv:IsVal w w.heap.size xv cc.v) (hxw:xv.weight<=4611686018427387904) (hT:Tabs w):
 uP 35 #[.agg (uU vk vn vs la ll lc oa ol oc), .agg (uC cc)] w fun e w'=>e= .returned (.int .u16 (checkP v ⟨cc.k,p,cc.key,cc.i,cc.j,cc.n,xv,cc.s⟩))/\uB w w':=by
 delta uU uC uB uP
 have HSD:Hid (∀W,uB w W->uP 19 #[.agg (uC cc)] W fun e w'=>e= .returned (.bool (cmSound ⟨cc.k,p,cc.key,cc.i,cc.j,cc.n,xv,cc.s⟩))/\uB W w'):=fun W hW=>zb0 _ W (hT.below hW) cc (.mk cc p xv hcb (hp.later_ hW) (hxv.later_ hW)) (by show xv.weight<=_;omega)
 have HGT:Hid (∀W,uB w W->uP 42 #[.agg (uU vk vn vs la ll lc oa ol oc), .slice cc.pa cc.pl cc.pc] W (PGetPost W v p)):=fun W hW=>Qb W v ⟨vk,vn,vs,la,ll,lc,oa,ol,oc⟩ p cc.pa cc.pl cc.pc (hv.later_ hW) (hp.later_ hW)
 have HKD:Hid (∀W x (d:VC),uB w W->IsVal W W.heap.size x d->getP v p=some x->uP 70 #[.agg (uV d), .agg (uC cc)] W fun e w'=>e= .returned (.int .u16 (kindsP x cc.k cc.i cc.j cc.n cc.key))/\uB W w'):=fun W x d hW hI hg=>by
  have h1:=Zz p hg
  have h2:=x.str_weight.1
  have h3:=(Xd hI).1
  exact zo9 W d.k d.n d.s d.la d.ll d.lc d.oa d.ol d.oc x hI (by rw [<-h3];omega) cc hcb
 obtain ⟨sd,hsd⟩:∃sd,cmSound ⟨cc.k,p,cc.key,cc.i,cc.j,cc.n,xv,cc.s⟩=sd:=⟨_,rfl⟩
 rw [hsd] at HSD
 obtain ⟨R,hR⟩:∃R,checkP v ⟨cc.k,p,cc.key,cc.i,cc.j,cc.n,xv,cc.s⟩=R:=⟨_,rfl⟩
 rw [hR]
 simp only [checkP,hsd] at hR
 have HR:=qh hR
 have HB:=qh (KBk.start w ⟨vk,vn,vs,la,ll,lc,oa,ol,oc⟩ cc 36 39)
 clear hR hsd hv hp hxv hxw hw hT hcb
 go_enter Tryz.func35,Tryz.ntmps35
 go_wp2_with fail
 refine (HSD.out _ HB.out.below).mono ?_
 rintro e W ⟨rfl,hb1⟩
 have B:=HB.out.next hb1 (by simp)
 obtain ⟨v0,v1,v2,v3,v4⟩:=row5 B.v.at_
 obtain ⟨b0,b1,b2,b3,b4,b5,b6,b7,b8,b9,b10,b11⟩:=row12 B.c.at_
 have z0:=B.v.lt;have z1:=B.c.lt
 have HBW:=qh B
 clear B hb1
 cases sd with
 | false=>
   obtain rfl:R=60:=by rw [<-HR.out];rfl
   go_wp2_with fail
   go_returns
   exact ⟨rfl,HBW.out.below⟩
 | true=>
   go_wp2_with fail
   refine (HGT.out _ HBW.out.below).mono ?_
   rintro e W2 h2
   obtain ⟨d,er,rfl,hrel,hb2⟩:=PGetPost.gen h2
   clear h2
   have B2:=HBW.out.next hb2 (Nat.succ_le_of_lt z1)
   clear v0 v1 v2 v3 v4 b0 b1 b2 b3 b4 b5 b6 b7 b8 b9 b10 b11
   obtain ⟨v0,v1,v2,v3,v4⟩:=row5 B2.v.at_
   obtain ⟨b0,b1,b2,b3,b4,b5,b6,b7,b8,b9,b10,b11⟩:=row12 B2.c.at_
   have z0:=B2.v.lt;have z1:=B2.c.lt
   have hbl2:=B2.below
   have HB2:=qh (hbl2.alloc hbl2.size (.cells (uV d) 36))
   clear hb2 B2
   rcases hrel.out with ⟨hg,rfl⟩|⟨x,hg,rfl,hI⟩
   .obtain rfl:R=30:=by rw [<-HR.out,hg];rfl
    clear hg hbl2
    go_wp2_with fail
    go_returns
    exact ⟨rfl,HB2.out⟩
   .have HK:Hid (uP 70 #[.agg (uV d), .agg (uC cc)] (W2.alloc (.cells (uV d) 36)) fun e w'=>e= .returned (.int .u16 (kindsP x cc.k cc.i cc.j cc.n cc.key))/\uB (W2.alloc (.cells (uV d) 36)) w'):=HKD.out _ x d HB2.out ((hI.sepI.isVal.sub (Zk _ _ _)).later_ ((Below.refl _ _).alloc (Nat.le_refl _) _)) hg
    obtain rfl:R=kindsP x cc.k cc.i cc.j cc.n cc.key:=by rw [<-HR.out,hg];rfl
    clear hg hI hrel hbl2
    go_wp2_with fail
    refine HK.out.mono ?_
    rintro e W3 ⟨rfl,hb3⟩
    go_wp2_with fail
    go_returns
    exact ⟨rfl,HB2.out.trans (hb3.mono HB2.out.size)⟩
theorem zaa:(Tryz.prog.info? 77).map (fun i=>(i.zero,i.size,i.bytes))=some (some (.agg #[.bool false, .int .i64 0, .string { data:= #[] }]),3,32):=by kernel_rfl
theorem zba {w:World} {B1:Nat} {S:Nat->Prop} {v:Value} {l:List St} (hown:w.ownsRow B1 77 3 v l.length (l.flatMap scells)) (hS:∀k,B1<=k->S k) (hb:∀s ∈ l,s.Bnd) (hfew:l.length<=1466015503701):
 ∃a n c,v= .slice a n c/\IsSteps (only S w) w.heap.size l a n c:=by
 obtain ⟨a,c,hv,hr⟩:=OwnRow.of (base':=B1) hown (Nat.le_refl _)
 refine ⟨a,l.length,c,hv,rfl,hr.cap,hr.max,hfew, ?_⟩
 by_cases hn:0<l.length
 .obtain ⟨g,e,hg,hbc⟩:=hr.row (.inl hn)
  refine ⟨g,0,fun _=>⟨e,hbc.lt⟩,fun i hi=>⟨?_,hb _ (List.getElem_mem hi)⟩⟩
  have hc:∀t x,t<3->(scells l[i])[t]? =some x->(only S w).cell? ⟨g,0+i*3+t,none⟩=some x:=fun t x ht hx=>by
   rw [Nat.zero_add]
   exact Z3 (hS g hg) (hbc.at_ _ _ ((Yv scells 3 (fun _=>rfl) l i t hi ht).trans hx))
  exact ⟨hc 0 _ (by omega) rfl,hc 1 _ (by omega) rfl,hc 2 _ (by omega) rfl⟩
 .exact ⟨0,0,fun h=>absurd h hn,fun i hi=>absurd hi (by omega)⟩
structure Ac where
 path:List UInt8
 k:Int
 i:Int
 j:Int
 n:Int
 s:ByteArray
 v:List Tk
structure AC where
 pa:Option Addr
 pl:Nat
 pc:Nat
 k:Int
 i:Int
 j:Int
 n:Int
 s:ByteArray
 va:Option Addr
 vl:Nat
 vc:Nat
structure AC.Bnd (c:AC):Prop where
 k0:0<=c.k
 k1:c.k<256
 i0: -9223372036854775808<=c.i
 i1:c.i<=9223372036854775807
 j0: -9223372036854775808<=c.j
 j1:c.j<=9223372036854775807
 n0: -9223372036854775808<=c.n
 n1:c.n<=9223372036854775807
 s1:c.s.size<=140737488355328
inductive IsAct (w:World) (B:Nat):Ac->AC->Prop
 |mk (c:AC) (p:List UInt8) (v:List Tk) (hb:c.Bnd) (hp:IsB w B c.pa c.pl c.pc p) (hv:IsToks w B v c.va c.vl c.vc):IsAct w B ⟨p,c.k,c.i,c.j,c.n,c.s,v⟩ c
def acells (c:AC):List Value:= [.slice c.pa c.pl c.pc, .int .u8 c.k, .int .i64 c.i, .int .i64 c.j, .int .i64 c.n, .string c.s, .slice c.va c.vl c.vc]
theorem Zp {W:World} {b:Nat} {c0:CC} (h:BC W b (ccells c0)) (d:CC):BC ((((((((((((W.setCell ⟨b,0,none⟩ (.int .u8 d.k)).setCell ⟨b,1,none⟩ (.slice d.pa d.pl d.pc)).setCell ⟨b,2,none⟩ (.string d.key)).setCell ⟨b,3,none⟩ (.int .i64 d.i)).setCell ⟨b,4,none⟩ (.int .i64 d.j)).setCell ⟨b,5,none⟩ (.int .i64 d.n)).setCell ⟨b,6,none⟩ (.int .u8 d.v.k)).setCell ⟨b,7,none⟩ (.int .i64 d.v.n)).setCell ⟨b,8,none⟩ (.string d.v.s)).setCell ⟨b,9,none⟩ (.slice d.v.la d.v.ll d.v.lc)).setCell ⟨b,10,none⟩ (.slice d.v.oa d.v.ol d.v.oc)).setCell ⟨b,11,none⟩ (.string d.s)) b (ccells d):=
 ((((((((((((h.set (i:=0) (x:= .int .u8 d.k) (by simp [ccells])).set (i:=1) (x:= .slice d.pa d.pl d.pc) (by simp [ccells])).set (i:=2) (x:= .string d.key) (by simp [ccells])).set (i:=3) (x:= .int .i64 d.i) (by simp [ccells])).set (i:=4) (x:= .int .i64 d.j) (by simp [ccells])).set (i:=5) (x:= .int .i64 d.n) (by simp [ccells])).set (i:=6) (x:= .int .u8 d.v.k) (by simp [ccells])).set (i:=7) (x:= .int .i64 d.v.n) (by simp [ccells])).set (i:=8) (x:= .string d.v.s) (by simp [ccells])).set (i:=9) (x:= .slice d.v.la d.v.ll d.v.lc) (by simp [ccells])).set (i:=10) (x:= .slice d.v.oa d.v.ol d.v.oc) (by simp [ccells])).set (i:=11) (x:= .string d.s) (by simp [ccells]))
theorem _root_.Go.RowKit.Below.setC {B b:Nat} {a W:World} (h:Below B a W) (hb:B<=b) (d:CC):Below B a ((((((((((((W.setCell ⟨b,0,none⟩ (.int .u8 d.k)).setCell ⟨b,1,none⟩ (.slice d.pa d.pl d.pc)).setCell ⟨b,2,none⟩ (.string d.key)).setCell ⟨b,3,none⟩ (.int .i64 d.i)).setCell ⟨b,4,none⟩ (.int .i64 d.j)).setCell ⟨b,5,none⟩ (.int .i64 d.n)).setCell ⟨b,6,none⟩ (.int .u8 d.v.k)).setCell ⟨b,7,none⟩ (.int .i64 d.v.n)).setCell ⟨b,8,none⟩ (.string d.v.s)).setCell ⟨b,9,none⟩ (.slice d.v.la d.v.ll d.v.lc)).setCell ⟨b,10,none⟩ (.slice d.v.oa d.v.ol d.v.oc)).setCell ⟨b,11,none⟩ (.string d.s)):=
 ((((((((((((h.set_ hb).set_ hb).set_ hb).set_ hb).set_ hb).set_ hb).set_ hb).set_ hb).set_ hb).set_ hb).set_ hb).set_ hb)
theorem Xz (W:World) (b:Nat) (d:CC):RStep W ((((((((((((W.setCell ⟨b,0,none⟩ (.int .u8 d.k)).setCell ⟨b,1,none⟩ (.slice d.pa d.pl d.pc)).setCell ⟨b,2,none⟩ (.string d.key)).setCell ⟨b,3,none⟩ (.int .i64 d.i)).setCell ⟨b,4,none⟩ (.int .i64 d.j)).setCell ⟨b,5,none⟩ (.int .i64 d.n)).setCell ⟨b,6,none⟩ (.int .u8 d.v.k)).setCell ⟨b,7,none⟩ (.int .i64 d.v.n)).setCell ⟨b,8,none⟩ (.string d.v.s)).setCell ⟨b,9,none⟩ (.slice d.v.la d.v.ll d.v.lc)).setCell ⟨b,10,none⟩ (.slice d.v.oa d.v.ol d.v.oc)).setCell ⟨b,11,none⟩ (.string d.s)) b:=(((((((((((RStep.self.trans RStep.self).trans RStep.self).trans RStep.self).trans RStep.self).trans RStep.self).trans RStep.self).trans RStep.self).trans RStep.self).trans RStep.self).trans RStep.self).trans RStep.self)
theorem Jd:V.none.weight=1:=by simp [V.none,V.weight,weightL,weightO]
theorem Xi (s:ByteArray) (i j:Nat):(s.extract i j).data.toList=(s.data.toList.take j).drop i:=by
 simp [ByteArray.data_extract,List.drop_take]
theorem Zy {k n:Int} {s:ByteArray} {l:List V} {o:List (ByteArray×V)} :V.sound (.mk k n s l o)=true↔plainB k n s l.length o.length=true/\rising o=true/\(∀v ∈ l,v.sound=true)/\(∀f ∈ o,Lib.validD f.1.data.toList=true/\f.2.sound=true):=by
 simp only [V.sound,Bool.and_eq_true,Kw,K0,and_assoc]
theorem K3:V.none.sound=true:=by simp [V.none,V.sound,soundL,soundO,rising,plainB,ByteArray.toList_eq]
theorem zd3 {v:V} {s:St} {x:V} {k:Nat} (hv:v.sound=true) (h:stepP v s=some (x,k)):x.sound=true:=by
 obtain ⟨kk,n,t,l,o,rfl⟩:=v.eta
 obtain ⟨_,_,h3,h4⟩:=Zy.1 hv
 rcases Yy h with ⟨_,_,_,hk,rfl⟩|⟨_,_,_,hk,rfl⟩
 .exact h3 _ (List.getElem_mem (l:=l) hk)
 .exact (h4 _ (List.getElem_mem (l:=o) hk)).2
theorem Kd (p:List St):∀ {v x:V},v.sound=true->getP v p=some x->x.sound=true:=by
 induction p with
 |nil=>intro v x hv h;injection h with h;exact h ▸ hv
 | cons s r ih=>
   intro v x hv h
   unfold getP at h
   cases hs:stepP v s with
   |none=>rw [hs] at h;cases h
   | some q=>
     obtain ⟨y,k⟩:=q
     rw [hs] at h
     exact ih (zd3 hv hs) h
def CDoPost (w:World) (r:V×Int) (e:Ending) (w':World):Prop:=
 (∃c:VC,e= .returned (.tuple #[.agg #[.int .u8 c.k, .int .i64 c.n, .string c.s, .slice c.la c.ll c.lc, .slice c.oa c.ol c.oc], .int .u16 r.2])/\IsVal (only (fun b=>w.heap.size<=b) w') w'.heap.size r.1 c)/\Below w.heap.size w w'
theorem zov {tmps:Array Value} {W:World} {b:Nat} {c:VC} {x:Value} (ht:tmps[4]? =some (.pointer (some ⟨b,0,none⟩))) (hx:tmps[5]? =some x) (h:BC W b (vcells c)):
 (results Tryz.f15 tmps).run Tryz.prog W= .ok (.tuple #[.agg #[.int .u8 c.k, .int .i64 c.n, .string c.s, .slice c.la c.ll c.lc, .slice c.oa c.ol c.oc],x]) W:=by
 obtain ⟨r0,r1,r2,r3,r4⟩:=row5 h.at_
 simp [results,Tryz.results15,go_sem,ht,hx,r0,r1,r2,r3,r4]
theorem Je {w W:World} {x:Act} {c:VC} {r:V×Int} (h:BC W (w.heap.size+1+1) (vcells c)) (hv:IsVal (only (fun b=>w.heap.size<=b) W) W.heap.size r.1 c) (hb:uB w W) (hd:x.defers= []) (ht:x.tmps[4]? =some (.pointer (some ⟨w.heap.size+1+1,0,none⟩))) (hx:x.tmps[5]? =some (.int .u16 r.2)):
 bodyPost Tryz.prog Tryz.f15 (CDoPost w r) .ret x W:=⟨hd,_,zov ht hx h,⟨c,rfl,hv⟩,hb⟩
theorem znd {x:V} (h:x.sound=true):rising x.os=true:=by
 obtain ⟨k,n,s,l,o,rfl⟩:=x.eta
 exact (Zy.1 h).2.1
theorem zii {x:V} {k i j n:Int} {key:ByteArray} (h:kindsP x k i j n key=0) (hk:k=1):x.kd=2:=by
 unfold kindsP at h
 rw [if_pos hk] at h
 split at h
 .omega
 .rename_i e;simpa using e
end Go.Proofs.YtnjgbiachcfigaaGreatDoor
