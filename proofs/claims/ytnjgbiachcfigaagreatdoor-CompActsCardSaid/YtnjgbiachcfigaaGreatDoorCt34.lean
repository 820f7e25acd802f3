/-
  Contracts of the functions that the law reaches: seq.Do (the program's), where it may be.
-/
import Derived.Test.YtnjgbiachcfigaaGreatDoorCt33
import Derived.Test.YtnjgbiachcfigaaGreatDoorCt31
namespace Go.Proofs.YtnjgbiachcfigaaGreatDoor
open Go.RowKit
set_option maxHeartbeats 8000000
theorem VRow.del_any {W:World} {base i:Nat} {u:Value} {l:List V} {cl:List VC} (h:VRow W base u l cl) (hi:i<l.length):
 Calls Tryz.prog 123 #[u, .int .i64 (i:Int), .int .i64 ((i:Int)+1)] W fun e w'=>∃v',e= .returned v'/\(∃cl',VRow w' base v' (remL l i) cl')/\(∀x cx,IsVal (only (fun k=>base<=k/\u.ownBlock≠some k) W) W.heap.size x cx->IsVal (only (fun k=>base<=k/\v'.ownBlock≠some k) w') w'.heap.size x cx)/\W.grownBy w' u.ownBlock/\(v'.ownBlock=u.ownBlock∨v'.ownBlock=some W.heap.size):=by
 refine (zbb W base l.length i u (cl.flatMap vcells) h.own hi (Z1 cl)).mono ?_
 rintro e w' ⟨v',rfl,ho,hg,hu⟩
 exact ⟨v',rfl,⟨_,h.rem hi ho hg hu⟩,fun x cx hx=>hx.rowed hg hu,hg,hu⟩
theorem VRow.ins_any {W:World} {base i vb:Nat} {u:Value} {l:List V} {cl:List VC} {x:V} {cx:VC} (h:VRow W base u l cl) (hB:base<=W.heap.size) (hi:i<=l.length) (hn:l.length+1<=1466015503701) (hx:IsVal (only (fun k=>base<=k/\u.ownBlock≠some k) W) W.heap.size x cx)
 (hvb:W.heap[vb]? =some (.cells #[.int .u8 cx.k, .int .i64 cx.n, .string cx.s, .slice cx.la cx.ll cx.lc, .slice cx.oa cx.ol cx.oc] 36 (0,0))) (hne:u.ownBlock≠some vb):
 Calls Tryz.prog 122 #[u, .int .i64 (i:Int), .slice (some ⟨vb,0,none⟩) 1 1] W fun e w'=>∃v',e= .returned v'/\(∃cl',VRow w' base v' (insL l i x) cl')/\W.grownBy w' u.ownBlock:=by
 refine (zaj W base l.length i vb 36 u (vcells cx) (cl.flatMap vcells) h.own hB hi hn hvb hne rfl (by simp [vcells,Value.oneCell']) (Z1 cl)).mono ?_
 rintro e w' ⟨v',rfl,ho,hg,hu⟩
 exact ⟨v',rfl,⟨_,h.ins hi hx ho hg hu⟩,hg⟩
theorem zdo (w:World) (o:Obj) {k:Nat} (h:k<w.heap.size):(w.alloc o).heap[k]? =w.heap[k]? :=((Below.refl w.heap.size w).alloc (Nat.le_refl _) o).block k h
set_option maxRecDepth 100000 in
theorem zdx (w:World) (l:List V) (a:Option Addr) (n c:Nat) (hl:IsVals w w.heap.size l a n c) (hfew:n<=100000000) (cc:CC) (x:V) (hc:lCheck n cc.k cc.i cc.j=0) (hk:cc.k=7):
 Calls Tryz.prog 82 #[.slice a n c, .agg #[.int .u8 cc.k, .slice cc.pa cc.pl cc.pc, .string cc.key, .int .i64 cc.i, .int .i64 cc.j, .int .i64 cc.n, .int .u8 cc.v.k, .int .i64 cc.v.n, .string cc.v.s, .slice cc.v.la cc.v.ll cc.v.lc, .slice cc.v.oa cc.v.ol cc.v.oc, .string cc.s]] w (SeqPost w (listDo l cc.k cc.i cc.j x)):=by
 have hmax:=hl.max
 have hlen:=hl.len
 obtain ⟨_,_,hi0,hi1,hi2,hj⟩:=Yl hc
 have HCK:Hid (∀W,Calls Tryz.prog 113 #[.int .i64 n, .agg #[.int .u8 cc.k, .slice cc.pa cc.pl cc.pc, .string cc.key, .int .i64 cc.i, .int .i64 cc.j, .int .i64 cc.n, .int .u8 cc.v.k, .int .i64 cc.v.n, .string cc.v.s, .slice cc.v.la cc.v.ll cc.v.lc, .slice cc.v.oa cc.v.ol cc.v.oc, .string cc.s]] W fun e w'=>e= .returned (.int .u16 0)/\Below W.heap.size W w'):=fun W=>by
  have:=Xu W n (by omega) cc
  rw [hc] at this;exact this
 have HOW:Hid (∀W,Below w.heap.size w W->Calls Tryz.prog 78 #[.agg #[.int .u8 0, .int .i64 0, .string { data:= #[] }, .slice a n c, .slice none 0 0]] W fun e w'=>(∃(d:VC) (cl:List VC),e= .returned (.agg #[.int .u8 d.k, .int .i64 d.n, .string d.s, .slice d.la d.ll d.lc, .slice d.oa d.ol d.oc])/\VRow w' W.heap.size (.slice d.la d.ll d.lc) l cl)/\Below W.heap.size W w'):=fun W hW=>Qx W l a n c (hl.later_ hW)
 have HBX:=qh (BC.start w #[.int .u8 cc.k, .slice cc.pa cc.pl cc.pc, .string cc.key, .int .i64 cc.i, .int .i64 cc.j, .int .i64 cc.n, .int .u8 cc.v.k, .int .i64 cc.v.n, .string cc.v.s, .slice cc.v.la cc.v.ll cc.v.lc, .slice cc.v.oa cc.v.ol cc.v.oc, .string cc.s] 39)
 have HAL:=qh ((Below.refl _ _).alloc (Nat.le_refl _) (.cells #[.int .u8 cc.k, .slice cc.pa cc.pl cc.pc, .string cc.key, .int .i64 cc.i, .int .i64 cc.j, .int .i64 cc.n, .int .u8 cc.v.k, .int .i64 cc.v.n, .string cc.v.s, .slice cc.v.la cc.v.ll cc.v.lc, .slice cc.v.oa cc.v.ol cc.v.oc, .string cc.s] 39):Below w.heap.size w _)
 obtain ⟨R,hR⟩:∃R,listDo l cc.k cc.i cc.j x=R:=⟨_,rfl⟩
 rw [hR]
 rw [listDo,hk] at hR
 have HL:=qh hlen
 obtain ⟨i,hi⟩:∃i:Nat,cc.i=i:=⟨cc.i.toNat,by omega⟩
 obtain ⟨jj,hjj⟩:∃jj:Nat,cc.j=jj:=⟨cc.j.toNat,by have:=hj hk;omega⟩
 rw [hi,hjj] at hR
 rw [hi] at hi1 hi2
 have hjn:jj<n:=by have:=hj hk;omega
 rw [hk,hi,hjj] at HCK HBX HAL ⊢
 rw [Int.toNat_natCast,Int.toNat_natCast] at hR
 have hil:i<n:=by have:=hi2 (by omega);omega
 have hw1:IntKind.i64.wrap ((i:Int)+1)=(i:Int)+1:=IntWalk.i64_in _ (by omega)
 obtain rfl:R=insL (remL l i) jj (l.getD i V.none):=by rw [<-hR];rfl
 clear hl hc hlen hR hi hi0 hj hi1 hi2
 go_enter Tryz.func82,Tryz.ntmps82
 go_wp2_with fail
 refine (HCK.out _).mono ?_
 rintro e w1 ⟨rfl,hb1⟩
 have HD1:=qh (HBX.out.keep hb1 (by simp))
 have HBL1:=qh (HAL.out.trans (hb1.mono (by simp)))
 clear hb1
 go_wp2_with fail
 refine (HOW.out _ HBL1.out).mono ?_
 rintro e w2 ⟨⟨d,cl,rfl,hV⟩,hb2⟩
 have D2:=HD1.out.keep hb2 HD1.out.lt
 obtain ⟨b0,b1,b2,b3,b4,b5,b6,b7,b8,b9,b10,b11⟩:=row12 D2.at_
 have zs2:=D2.lt
 have HBL2:=qh (HBL1.out.trans (hb2.mono HBL1.out.size))
 have HW12:=qh hb2.size
 have HV:=qh hV
 have hfld:=Y3 w2 d.k d.n d.s d.la d.ll d.lc d.oa d.ol d.oc
 obtain ⟨dk,dn,ds,dla,dll,dlc,doa,dol,doc⟩:=d
 dsimp only at hV HV hfld ⊢
 have hil2:i<l.length:=by have:=HL.out;omega
 have hic:i<cl.length:=by have:=hV.len;omega
 have hxe:=hV.els i hil2 hic
 have hlg:l.getD i V.none=l[i]'hil2:=by rw [List.getD_eq_getElem?_getD,List.getElem?_eq_getElem hil2];rfl
 rw [<-hlg] at hxe
 obtain ⟨g,cap,hu,hbg,hgl,hlc,hcm,hat,hfr⟩:=hV.at_ hil2 hic
 obtain ⟨y,hy⟩:∃y,cl[i]'hic=y:=⟨_,rfl⟩
 rw [hy] at hat hxe
 injection hu with u1 u2 u3
 subst u1 u2 u3
 have hcm63:dlc<=9223372036854775807:=by unfold maxLen at hcm;omega
 have HD2:=qh D2
 have HXE:=qh hxe
 have HJ:Hid (jj<l.length):=qh (by have:=HL.out;omega)
 have d0:=hat.c0;have d1:=hat.c1;have d2:=hat.c2;have d3:=hat.c3;have d4:=hat.c4
 clear hb2 hV D2 hat hfr hxe hlg hy
 go_wp2_with fail
 obtain ⟨w3,hw3⟩:∃w3,w2.alloc (.cells #[.int .u8 y.k, .int .i64 y.n, .string y.s, .slice y.la y.ll y.lc, .slice y.oa y.ol y.oc] 36)=w3:=⟨_,rfl⟩
 have hb23:Below w2.heap.size w2 w3:=by rw [<-hw3];exact (Below.refl _ _).alloc (Nat.le_refl _) _
 have hz23:w3.heap.size=w2.heap.size+1:=by rw [<-hw3,World.size_alloc]
 have hbx:BC w3 w2.heap.size (vcells y):=by rw [<-hw3];exact BC.start w2 #[.int .u8 y.k, .int .i64 y.n, .string y.s, .slice y.la y.ll y.lc, .slice y.oa y.ol y.oc] 36
 rw [hw3]
 obtain ⟨B8,hB8⟩:∃B8,w2.heap.size=B8:=⟨_,rfl⟩
 have hV3:=HV.out.later hb23
 have hX3:=(HXE.out.sub (Ze fun k hk hl=>⟨hk,hb23.block k hl⟩)).more hb23.size
 have hD3:=HD2.out.keep hb23 zs2
 have hg3:∀k,(Value.slice (some ⟨g,0,none⟩) l.length dlc).ownBlock=some k->w1.heap.size<=k/\k<w2.heap.size:=HV.out.own.lt
 have hle:w1.heap.size<=w3.heap.size:=by have:=HW12.out;omega
 have hwl:=HBL1.out.size
 have hw0:w.heap.size<w1.heap.size:=HD1.out.lt
 have HBL3:=qh (HBL2.out.trans (hb23.mono HBL2.out.size))
 rw [hB8] at hbx hg3 hz23 ⊢
 have HDEL:Hid (∀W,Below w3.heap.size w3 W->Calls Tryz.prog 123 #[.slice (some ⟨g,0,none⟩) l.length dlc, .int .i64 (i:Int), .int .i64 ((i:Int)+1)] W fun e w'=>∃v',e= .returned v'/\(∃cl',VRow w' w1.heap.size v' (remL l i) cl')/\IsVal (only (fun k=>w1.heap.size<=k/\v'.ownBlock≠some k) w') w'.heap.size (l.getD i V.none) y/\W.grownBy w' (Value.slice (some ⟨g,0,none⟩) l.length dlc).ownBlock/\v'.ownBlock≠some B8/\(w3.heap.size<W.heap.size->v'.ownBlock≠some w3.heap.size)):=qh fun W hW=>by
  refine ((hV3.later hW).del_any hil2).mono ?_
  rintro e w' ⟨v',rfl,h1,h2,h3,h4⟩
  have h8:=hW.size
  refine ⟨v',rfl,h1,h2 _ _ ((hX3.sub (Ze fun k hk hl=>⟨hk,hW.block k hl⟩)).more hW.size),h3,fun e=> ?_,fun hlt e=> ?_⟩
  .rcases h4 with h|h
   .rw [h] at e;have:=(hg3 _ e).2;omega
   .rw [h] at e;injection e with e;omega
  .rcases h4 with h|h
   .rw [h] at e;have:=(hg3 _ e).2;omega
   .rw [h] at e;injection e with e;omega
 have HA1:Hid (∀(w4:World) (v':Value) (cl4:List VC),VRow w4 w1.heap.size v' (remL l i) cl4->IsVal (only (fun k=>w1.heap.size<=k/\v'.ownBlock≠some k) w4) w4.heap.size (l.getD i V.none) y->w1.heap.size<=w4.heap.size->v'.ownBlock≠some B8->B8<w4.heap.size->Calls Tryz.prog 122 #[v', .int .i64 (jj:Int), .slice (some ⟨w4.heap.size,0,none⟩) 1 1] (w4.alloc (.cells #[.int .u8 y.k, .int .i64 y.n, .string y.s, .slice y.la y.ll y.lc, .slice y.oa y.ol y.oc] 36)) fun e w'=>∃v'',e= .returned v''/\(∃cl',VRow w' w1.heap.size v'' (insL (remL l i) jj (l.getD i V.none)) cl')/\Below w1.heap.size w4 w'/\w'.heap[B8]? =w4.heap[B8]?):=qh fun w4 v' cl4 hV4 hX4 h14 hn8 h48=>by
  have hb:Below w4.heap.size w4 (w4.alloc (.cells #[.int .u8 y.k, .int .i64 y.n, .string y.s, .slice y.la y.ll y.lc, .slice y.oa y.ol y.oc] 36)):=(Below.refl _ _).alloc (Nat.le_refl _) _
  refine ((hV4.later hb).ins_any (i:=jj) (vb:=w4.heap.size) (by have:=hb.size;omega) (by have:=HJ.out;simp [remL];omega) (by have:=HL.out;simp [remL];omega) ((hX4.sub (Ze fun k hk hl=>⟨hk,hb.block k hl⟩)).more hb.size) (heap_alloc_new w4 _) (fun e=>by have:=(hV4.own.lt _ e).2;omega)).mono ?_
  rintro e w' ⟨v'',rfl,h1,h2⟩
  exact ⟨v'',rfl,h1,(hb.mono h14).trans (Zj h2 (fun k hk=>(hV4.own.lt k hk).1) (by have:=hb.size;omega)),(h2.block B8 (Nat.lt_of_lt_of_le h48 hb.size) (fun e=>hn8 e.symm)).trans (hb.block B8 h48)⟩
 have HA2:Hid (∀(w4:World) (v':Value) (cl4:List VC),VRow w4 w1.heap.size v' (remL l i) cl4->IsVal (only (fun k=>w1.heap.size<=k/\v'.ownBlock≠some k) w4) w4.heap.size (l.getD i V.none) y->w1.heap.size<=w4.heap.size->v'.ownBlock≠some B8->B8<w4.heap.size->w4.heap[w3.heap.size]? =some (.cells #[.int .u8 y.k, .int .i64 y.n, .string y.s, .slice y.la y.ll y.lc, .slice y.oa y.ol y.oc] 36 (0,0))->v'.ownBlock≠some w3.heap.size->Calls Tryz.prog 122 #[v', .int .i64 (jj:Int), .slice (some ⟨w3.heap.size,0,none⟩) 1 1] w4 fun e w'=>∃v'',e= .returned v''/\(∃cl',VRow w' w1.heap.size v'' (insL (remL l i) jj (l.getD i V.none)) cl')/\Below w1.heap.size w4 w'/\w'.heap[B8]? =w4.heap[B8]?):=qh fun w4 v' cl4 hV4 hX4 h14 hn8 h48 hvb hne=>by
  refine (hV4.ins_any (i:=jj) (vb:=w3.heap.size) h14 (by have:=HJ.out;simp [remL];omega) (by have:=HL.out;simp [remL];omega) hX4 hvb hne).mono ?_
  rintro e w' ⟨v'',rfl,h1,h2⟩
  exact ⟨v'',rfl,h1,Zj h2 (fun k hk=>(hV4.own.lt k hk).1) h14,h2.block B8 h48 (fun e=>hn8 e.symm)⟩
 have q3:=hD3.at_ 3 _ rfl;have q4:=hD3.at_ 4 _ rfl
 have e0:=hbx.at_ 0 _ rfl;have e1:=hbx.at_ 1 _ rfl;have e2:=hbx.at_ 2 _ rfl;have e3:=hbx.at_ 3 _ rfl;have e4:=hbx.at_ 4 _ rfl
 have zw3:w.heap.size<w3.heap.size:=by omega
 have zb3:B8<w3.heap.size:=by omega
 have HBX8:=qh hbx;have HD3:=qh hD3
 have HBD3:=qh (Zf w3)
 have hba3:Below w3.heap.size w3 (w3.alloc (.cells #[.int .u8 y.k, .int .i64 y.n, .string y.s, .slice y.la y.ll y.lc, .slice y.oa y.ol y.oc] 36)).drew:=((Below.refl _ _).alloc (Nat.le_refl _) _).drew
 have HBA3:=qh hba3
 have HG3:=qh hg3;have HLE:=qh hle;have HZ23:=qh hz23;have HW01:=qh hw0
 have mixed:Tryz.prog.follows .mixedOrders=true:=by kernel_rfl
 clear hw3 hb23 hz23 hbx hV3 hX3 hD3 hg3 hle hwl hw0 hB8 hba3 d0 d1 d2 d3 d4 b0 b1 b2 b3 b4 b5 b6 b7 b8 b9 b10 b11 zs2 hfld hk
 have HSP:Hid (∀W,Below w1.heap.size w3 W->W.heap[B8]? =w3.heap[B8]? ->W.cell? ⟨w.heap.size,3,none⟩=some (.int .i64 (i:Int))/\W.cell? ⟨w.heap.size,4,none⟩=some (.int .i64 (jj:Int))/\W.cell? ⟨B8,0,none⟩=some (.int .u8 y.k)/\W.cell? ⟨B8,1,none⟩=some (.int .i64 y.n)/\W.cell? ⟨B8,2,none⟩=some (.string y.s)/\W.cell? ⟨B8,3,none⟩=some (.slice y.la y.ll y.lc)/\W.cell? ⟨B8,4,none⟩=some (.slice y.oa y.ol y.oc)):=qh fun W hW h8=>by
  have D:=HD3.out.keep hW HW01.out
  have hk:∀o u,w3.cell? ⟨B8,o,none⟩=some u->W.cell? ⟨B8,o,none⟩=some u:=fun o u h=>(World.cell?_of_block h8).trans h
  exact ⟨D.at_ 3 _ rfl,D.at_ 4 _ rfl,hk _ _ (HBX8.out.at_ 0 _ rfl),hk _ _ (HBX8.out.at_ 1 _ rfl),hk _ _ (HBX8.out.at_ 2 _ rfl),hk _ _ (HBX8.out.at_ 3 _ rfl),hk _ _ (HBX8.out.at_ 4 _ rfl)⟩
 have HN8:Hid ((Value.slice (some ⟨g,0,none⟩) l.length dlc).ownBlock≠some B8):=qh fun e=>by have:=(HG3.out _ e).2;omega
 have HK0:=qh (HSP.out w3.drew (HBD3.out.mono HLE.out) rfl)
 have HK1:=qh (HSP.out _ (HBA3.out.mono HLE.out) (HBA3.out.block B8 HBX8.out.lt))
 have HDA:Hid (∀W w4,Below w3.heap.size w3 W->W.grownBy w4 (Value.slice (some ⟨g,0,none⟩) l.length dlc).ownBlock->Below w1.heap.size w3 w4/\w4.heap[B8]? =w3.heap[B8]?):=qh fun W w4 hW hg=>⟨(hW.mono HLE.out).trans (Zj hg (fun k hk=>(HG3.out k hk).1) (Nat.le_trans HLE.out hW.size)),(hg.block B8 (Nat.lt_of_lt_of_le HBX8.out.lt hW.size) (fun e=>HN8.out e.symm)).trans (hW.block B8 HBX8.out.lt)⟩
 clear q3 q4 e0 e1 e2 e3 e4
 refine wp_region_noPanic ?_
 go_region_held_law (fun W=>W.cell? ⟨w.heap.size,3,none⟩=some (.int .i64 (i:Int))/\W.cell? ⟨w.heap.size,4,none⟩=some (.int .i64 (jj:Int))/\W.cell? ⟨B8,0,none⟩=some (.int .u8 y.k)/\W.cell? ⟨B8,1,none⟩=some (.int .i64 y.n)/\W.cell? ⟨B8,2,none⟩=some (.string y.s)/\W.cell? ⟨B8,3,none⟩=some (.slice y.la y.ll y.lc)/\W.cell? ⟨B8,4,none⟩=some (.slice y.oa y.ol y.oc))
  ((first|(with_reducible exact HK0.out)|(with_reducible exact HK1.out)|(with_reducible exact HK4.out)|(with_reducible exact HK4a.out)|(with_reducible exact HK5.out)))
  (first
   |(go_at_call 123;(with_reducible refine (HDEL.out _ HBD3.out).mono ?_);rintro e w4 ⟨v4,rfl,⟨cl4,hV4⟩,hx4,hg4,hn8,hn4⟩;obtain ⟨hb4,h84⟩:=HDA.out _ _ HBD3.out hg4;have HB4:=qh hb4;have HIN:=qh (HA1.out w4 v4 cl4 hV4 hx4 (Nat.le_trans HLE.out hb4.size) hn8 (Nat.lt_of_lt_of_le HBX8.out.lt hb4.size));have HK4:=qh (HSP.out w4 hb4 h84);have HK4a:Hid ((w4.alloc (.cells #[.int .u8 y.k, .int .i64 y.n, .string y.s, .slice y.la y.ll y.lc, .slice y.oa y.ol y.oc] 36)).cell? ⟨w.heap.size,3,none⟩=some (.int .i64 (i:Int))/\(w4.alloc (.cells #[.int .u8 y.k, .int .i64 y.n, .string y.s, .slice y.la y.ll y.lc, .slice y.oa y.ol y.oc] 36)).cell? ⟨w.heap.size,4,none⟩=some (.int .i64 (jj:Int))/\(w4.alloc (.cells #[.int .u8 y.k, .int .i64 y.n, .string y.s, .slice y.la y.ll y.lc, .slice y.oa y.ol y.oc] 36)).cell? ⟨B8,0,none⟩=some (.int .u8 y.k)/\(w4.alloc (.cells #[.int .u8 y.k, .int .i64 y.n, .string y.s, .slice y.la y.ll y.lc, .slice y.oa y.ol y.oc] 36)).cell? ⟨B8,1,none⟩=some (.int .i64 y.n)/\(w4.alloc (.cells #[.int .u8 y.k, .int .i64 y.n, .string y.s, .slice y.la y.ll y.lc, .slice y.oa y.ol y.oc] 36)).cell? ⟨B8,2,none⟩=some (.string y.s)/\(w4.alloc (.cells #[.int .u8 y.k, .int .i64 y.n, .string y.s, .slice y.la y.ll y.lc, .slice y.oa y.ol y.oc] 36)).cell? ⟨B8,3,none⟩=some (.slice y.la y.ll y.lc)/\(w4.alloc (.cells #[.int .u8 y.k, .int .i64 y.n, .string y.s, .slice y.la y.ll y.lc, .slice y.oa y.ol y.oc] 36)).cell? ⟨B8,4,none⟩=some (.slice y.oa y.ol y.oc)):=qh (HSP.out _ (hb4.alloc (Nat.le_trans HLE.out hb4.size) _) ((zdo w4 _ (Nat.lt_of_lt_of_le HBX8.out.lt hb4.size)).trans h84));have HE8:=qh h84;clear hb4 h84 hV4 hx4 hg4 hn4 hn8)
   |(go_at_call 123;(with_reducible refine (HDEL.out _ HBA3.out).mono ?_);rintro e w4 ⟨v4,rfl,⟨cl4,hV4⟩,hx4,hg4,hn8,hn4⟩;obtain ⟨hb4,h84⟩:=HDA.out _ _ HBA3.out hg4;have HB4:=qh hb4;have HIN:=qh (HA2.out w4 v4 cl4 hV4 hx4 (Nat.le_trans HLE.out hb4.size) hn8 (Nat.lt_of_lt_of_le HBX8.out.lt hb4.size) ((hg4.block w3.heap.size (by simp) (fun e=>by have:=(HG3.out _ e.symm).2;have:=HZ23.out;omega)).trans (heap_alloc_new w3 _)) (hn4 (by simp)));have HK4:=qh (HSP.out w4 hb4 h84);have HE8:=qh h84;clear hb4 h84 hV4 hx4 hg4 hn4 hn8)
   |(go_at_call 122;(with_reducible refine HIN.out.mono ?_);rintro e w5 ⟨v5,rfl,⟨cl5,hV5⟩,hb5,h85⟩;have HV5:=qh hV5;have hb35:=HB4.out.trans hb5;have HB5:=qh hb35;have HK5:=qh (HSP.out w5 hb35 (h85.trans (HE8.out)));clear hV5 hb5 hb35 h85))
 all_goals (
  have hlr:(insL (remL l i) jj (l.getD i V.none)).length<=1466015503701:=by have:=HL.out;simp [insL,remL];omega
  obtain ⟨a3,n3,c3,rfl,hI,hz⟩:=HV5.out.vals hlr
  have HBF:=qh (HBL3.out.trans (HB5.out.mono HBL1.out.size))
  have hcap:=hI.cap
  have hmx:=hI.max
  have HI:=qh (Y7 hI HBL1.out.size (Below.refl _ _)).cut
  clear hI hlr HIN
  refine NoPanic.normal ?_
  rcases hz with ⟨rfl,rfl⟩|⟨b3',off3,rfl⟩
  .obtain rfl:n3=0:=by omega
   go_wp2_with fail
   go_returns
   exact ⟨⟨_,_,_,rfl,HI.out⟩,HBF.out⟩
  .go_wp2_with fail
   go_returns
   exact ⟨⟨_,_,_,rfl,HI.out⟩,HBF.out⟩)
set_option maxRecDepth 100000 in
theorem zfu (w:World) (l:List V) (a:Option Addr) (n c:Nat) (hl:IsVals w w.heap.size l a n c) (hfew:n<=100000000) (cc:CC) (x:V) (hx:IsVal w w.heap.size x cc.v) (hc:lCheck n cc.k cc.i cc.j=0) (hk:cc.k=6):
 Calls Tryz.prog 82 #[.slice a n c, .agg #[.int .u8 cc.k, .slice cc.pa cc.pl cc.pc, .string cc.key, .int .i64 cc.i, .int .i64 cc.j, .int .i64 cc.n, .int .u8 cc.v.k, .int .i64 cc.v.n, .string cc.v.s, .slice cc.v.la cc.v.ll cc.v.lc, .slice cc.v.oa cc.v.ol cc.v.oc, .string cc.s]] w (SeqPost w (listDo l cc.k cc.i cc.j x)):=by
 have hmax:=hl.max
 have hlen:=hl.len
 obtain ⟨_,_,hi0,hi1,hi2,hj⟩:=Yl hc
 have HCK:Hid (∀W,Calls Tryz.prog 113 #[.int .i64 n, .agg #[.int .u8 cc.k, .slice cc.pa cc.pl cc.pc, .string cc.key, .int .i64 cc.i, .int .i64 cc.j, .int .i64 cc.n, .int .u8 cc.v.k, .int .i64 cc.v.n, .string cc.v.s, .slice cc.v.la cc.v.ll cc.v.lc, .slice cc.v.oa cc.v.ol cc.v.oc, .string cc.s]] W fun e w'=>e= .returned (.int .u16 0)/\Below W.heap.size W w'):=fun W=>by
  have:=Xu W n (by omega) cc
  rw [hc] at this;exact this
 have HOW:Hid (∀W,Below w.heap.size w W->Calls Tryz.prog 78 #[.agg #[.int .u8 0, .int .i64 0, .string { data:= #[] }, .slice a n c, .slice none 0 0]] W fun e w'=>(∃(d:VC) (cl:List VC),e= .returned (.agg #[.int .u8 d.k, .int .i64 d.n, .string d.s, .slice d.la d.ll d.lc, .slice d.oa d.ol d.oc])/\VRow w' W.heap.size (.slice d.la d.ll d.lc) l cl)/\Below W.heap.size W w'):=fun W hW=>Qx W l a n c (hl.later_ hW)
 have HCV:Hid (∀W,Below w.heap.size w W->Calls Tryz.prog 78 #[.agg #[.int .u8 cc.v.k, .int .i64 cc.v.n, .string cc.v.s, .slice cc.v.la cc.v.ll cc.v.lc, .slice cc.v.oa cc.v.ol cc.v.oc]] W fun e w'=>(∃f:VC,e= .returned (.agg #[.int .u8 f.k, .int .i64 f.n, .string f.s, .slice f.la f.ll f.lc, .slice f.oa f.ol f.oc])/\Whole w' W.heap.size x f)/\Below W.heap.size W w'):=fun W hW=>Y2 W x cc.v (hx.later_ hW)
 have HBX:=qh (BC.start w #[.int .u8 cc.k, .slice cc.pa cc.pl cc.pc, .string cc.key, .int .i64 cc.i, .int .i64 cc.j, .int .i64 cc.n, .int .u8 cc.v.k, .int .i64 cc.v.n, .string cc.v.s, .slice cc.v.la cc.v.ll cc.v.lc, .slice cc.v.oa cc.v.ol cc.v.oc, .string cc.s] 39)
 have HAL:=qh ((Below.refl _ _).alloc (Nat.le_refl _) (.cells #[.int .u8 cc.k, .slice cc.pa cc.pl cc.pc, .string cc.key, .int .i64 cc.i, .int .i64 cc.j, .int .i64 cc.n, .int .u8 cc.v.k, .int .i64 cc.v.n, .string cc.v.s, .slice cc.v.la cc.v.ll cc.v.lc, .slice cc.v.oa cc.v.ol cc.v.oc, .string cc.s] 39):Below w.heap.size w _)
 obtain ⟨R,hR⟩:∃R,listDo l cc.k cc.i cc.j x=R:=⟨_,rfl⟩
 rw [hR]
 rw [listDo,hk] at hR
 have HL:=qh hlen
 obtain ⟨i,hi⟩:∃i:Nat,cc.i=i:=⟨cc.i.toNat,by omega⟩
 rw [hi] at hR hi1 hi2
 rw [hk,hi] at HCK HBX HAL ⊢
 rw [Int.toNat_natCast] at hR
 have hil:i<n:=by have:=hi2 (by omega);omega
 have hw1:IntKind.i64.wrap ((i:Int)+1)=(i:Int)+1:=IntWalk.i64_in _ (by omega)
 obtain rfl:R=l.set i x:=by rw [<-hR];rfl
 clear hl hx hc hlen hR hi hi0 hj hi1 hi2
 go_enter Tryz.func82,Tryz.ntmps82
 go_wp2_with fail
 refine (HCK.out _).mono ?_
 rintro e w1 ⟨rfl,hb1⟩
 have HD1:=qh (HBX.out.keep hb1 (by simp))
 have HBL1:=qh (HAL.out.trans (hb1.mono (by simp)))
 clear hb1
 go_wp2_with fail
 refine (HOW.out _ HBL1.out).mono ?_
 rintro e w2 ⟨⟨d,cl,rfl,hV⟩,hb2⟩
 have D2:=HD1.out.keep hb2 HD1.out.lt
 obtain ⟨b0,b1,b2,b3,b4,b5,b6,b7,b8,b9,b10,b11⟩:=row12 D2.at_
 have zs2:=D2.lt
 have HBL2:=qh (HBL1.out.trans (hb2.mono HBL1.out.size))
 have HW12:=qh hb2.size
 have HV:=qh hV
 have hfld:=Y3 w2 d.k d.n d.s d.la d.ll d.lc d.oa d.ol d.oc
 obtain ⟨dk,dn,ds,dla,dll,dlc,doa,dol,doc⟩:=d
 dsimp only at hV HV hfld ⊢
 have hil2:i<l.length:=by have:=HL.out;omega
 have hic:i<cl.length:=by have:=hV.len;omega
 obtain ⟨g,cap,hu,hbg,hgl,hlc,hcm,hat,hfr⟩:=hV.at_ hil2 hic
 obtain ⟨y,hy⟩:∃y,cl[i]'hic=y:=⟨_,rfl⟩
 rw [hy] at hat
 clear hy
 injection hu with u1 u2 u3
 subst u1 u2 u3
 have hcm63:dlc<=9223372036854775807:=by unfold maxLen at hcm;omega
 have HD2:=qh D2
 have HBD:=qh (HBL2.out.drew)
 have HAT:=qh hat;have HFR:=qh hfr
 clear hb2 hV D2 hat hfr
 go_wp2_with fail
 go_region_with (go_simp;go_at_call 78;(with_reducible refine (HCV.out _ HBD.out).mono ?_);rintro e w4 ⟨⟨f,rfl,hW4⟩,hb4⟩;have hB24:Below w2.heap.size w2 w4:=(Zf w2).trans hb4;have D4:=HD2.out.keep hB24 zs2;have q3:=D4.at_ 3 _ rfl;have zs4:=D4.lt;have HB24:=qh hB24;have HW4:Hid (Whole w4 w2.heap.size x f):=qh hW4;have d0:=Zb hB24 HAT.out.c0 hgl;have d1:=Zb hB24 HAT.out.c1 hgl;have d2:=Zb hB24 HAT.out.c2 hgl;have d3:=Zb hB24 HAT.out.c3 hgl;have d4:=Zb hB24 HAT.out.c4 hgl;have r0:=(Yj (q:=i*5) (hB24.block g hgl)).trans (HFR.out _);have r1:=(Yj (q:=i*5+1) (hB24.block g hgl)).trans (HFR.out _);have r2:=(Yj (q:=i*5+2) (hB24.block g hgl)).trans (HFR.out _);have r3:=(Yj (q:=i*5+3) (hB24.block g hgl)).trans (HFR.out _);have r4:=(Yj (q:=i*5+4) (hB24.block g hgl)).trans (HFR.out _);clear hW4 hb4 hB24 D4)
 all_goals (
  have hIA:IsVal (only (fun k=>w1.heap.size<=k/\(Value.slice (some ⟨g,0,none⟩) l.length dlc).ownBlock≠some k) w4) w4.heap.size x f:=HW4.out.sepI.isVal.sub (Ze fun k hk hl=>⟨⟨by have:=HW12.out;omega,fun e=>by have:=(HV.out.own.lt _ e).2;omega⟩,rfl⟩)
  have hV5:=(HV.out.later HB24.out).set hil2 hIA
  have hbl:Below w.heap.size w (setV w4 g (i*5) f):=(HBL2.out.trans (HB24.out.mono HBL2.out.size)).trans ((Zi w4 g (i*5) f).lowC (by have:=HBL1.out.size;omega) (by have:=HB24.out.size;have:=HBL2.out.size;omega))
  refine Zu (P:=fun W=>VRow W w1.heap.size (.slice (some ⟨g,0,none⟩) l.length dlc) (l.set i x) (cl.set i f)/\Below w.heap.size w W) ⟨hV5,hbl⟩ ?_
  clear hIA hV5 hbl
  rintro W ⟨hV6,hb6⟩
  have hlr:(l.set i x).length<=1466015503701:=by have:=HL.out;simp;omega
  obtain ⟨a3,n3,c3,hu3,hI,hz⟩:=hV6.vals hlr
  injection hu3 with u1 u2 u3
  subst u1 u2 u3
  have HI:=qh (Y7 hI HBL1.out.size (Below.refl _ _)).cut
  have HB6:=qh hb6
  clear hV6 hb6 hlr hI hz
  go_wp2_with fail
  go_returns
  exact ⟨⟨_,_,_,rfl,HI.out⟩,HB6.out⟩)
theorem zjh (w:World) (l:List V) (a:Option Addr) (n c:Nat) (hl:IsVals w w.heap.size l a n c) (hfew:n<=100000000) (cc:CC) (x:V) (hx:IsVal w w.heap.size x cc.v) (hc:lCheck n cc.k cc.i cc.j=0):
 Calls Tryz.prog 82 #[.slice a n c, .agg #[.int .u8 cc.k, .slice cc.pa cc.pl cc.pc, .string cc.key, .int .i64 cc.i, .int .i64 cc.j, .int .i64 cc.n, .int .u8 cc.v.k, .int .i64 cc.v.n, .string cc.v.s, .slice cc.v.la cc.v.ll cc.v.lc, .slice cc.v.oa cc.v.ol cc.v.oc, .string cc.s]] w (SeqPost w (listDo l cc.k cc.i cc.j x)):=by
 obtain ⟨h4,h7,_⟩:=Yl hc
 by_cases k4:cc.k=4
 .exact zkp w l a n c hl hfew cc x hx hc k4
 by_cases k5:cc.k=5
 .exact zkn w l a n c hl hfew cc x hc k5
 by_cases k6:cc.k=6
 .exact zfu w l a n c hl hfew cc x hx hc k6
 exact zdx w l a n c hl hfew cc x hc (by omega)
set_option maxRecDepth 100000 in
theorem zc6 (w:World) (B:Nat) (d:VC) (cc:CC) (l:List V) (xv:V) (hB:BC w B (wcells d cc)) (hl:IsVals w w.heap.size l d.la d.ll d.lc) (hfew:l.length<=100000000) (hx:IsVal w w.heap.size xv cc.v) (hc:lCheck l.length cc.k cc.i cc.j=0):
 Calls Tryz.prog 45 #[.pointer (some ⟨B,0,none⟩)] w fun e w'=>e= .returned (.tuple #[])/\∃W a n c,Below w.heap.size w W/\w'=W.setCell ⟨B,3,none⟩ (.slice a n c)/\IsVals (only (fun b=>w.heap.size<=b) W) W.heap.size (listDo l cc.k cc.i cc.j xv) a n c:=by
 have hlen:=hl.len
 have HTD:Hid (∀W,Below w.heap.size w W->Calls Tryz.prog 82 #[.slice d.la d.ll d.lc, .agg #[.int .u8 cc.k, .slice cc.pa cc.pl cc.pc, .string cc.key, .int .i64 cc.i, .int .i64 cc.j, .int .i64 cc.n, .int .u8 cc.v.k, .int .i64 cc.v.n, .string cc.v.s, .slice cc.v.la cc.v.ll cc.v.lc, .slice cc.v.oa cc.v.ol cc.v.oc, .string cc.s]] W fun e w'=>(∃a n c,e= .returned (.tuple #[.slice a n c, .int .u16 0])/\IsVals (only (fun b=>W.heap.size<=b) w') w'.heap.size (listDo l cc.k cc.i cc.j xv) a n c)/\Below W.heap.size W w'):=qh fun W hW=>zjh W l d.la d.ll d.lc (hl.later_ hW) (by omega) cc xv (hx.later_ hW) (by rw [hlen];exact hc)
 have HB:=qh hB
 have HBD:=qh (Zf w)
 have c3:=hB.at_ 3 _ rfl;have f3:=hB.fr 3
 have c5:=hB.at_ 5 _ rfl;have c6:=hB.at_ 6 _ rfl;have c7:=hB.at_ 7 _ rfl;have c8:=hB.at_ 8 _ rfl;have c9:=hB.at_ 9 _ rfl;have c10:=hB.at_ 10 _ rfl;have c11:=hB.at_ 11 _ rfl;have c12:=hB.at_ 12 _ rfl;have c13:=hB.at_ 13 _ rfl;have c14:=hB.at_ 14 _ rfl;have c15:=hB.at_ 15 _ rfl;have c16:=hB.at_ 16 _ rfl
 have zs:=hB.lt
 have mixed:Tryz.prog.follows .mixedOrders=true:=by kernel_rfl
 obtain ⟨TD,hTD⟩:∃TD,listDo l cc.k cc.i cc.j xv=TD:=⟨_,rfl⟩
 rw [hTD] at HTD ⊢
 clear hB hTD hc hfew hl hlen hx
 go_enter Tryz.func45,Tryz.ntmps45
 go_wp2_with fail
 go_region_with (go_simp;go_at_call 82;(with_reducible refine (HTD.out _ HBD.out).mono ?_);rintro e w4 ⟨⟨a4,n4,m4,rfl,hI⟩,hb4⟩;have B4:=HB.out.keep ((Zf w).trans hb4) HB.out.lt;have g3:=B4.at_ 3 _ rfl;have f3':=B4.fr 3;have z4:=B4.lt;have HB4:=qh ((Zf w).trans hb4);have HI:=qh hI;clear hb4 B4 hI)
 all_goals (go_wp2_with fail;exact ⟨rfl, .tuple #[],by simp [results,Tryz.results45,go_sem],rfl,w4,a4,n4,m4,HB4.out,rfl,HI.out⟩)
end Go.Proofs.YtnjgbiachcfigaaGreatDoor
