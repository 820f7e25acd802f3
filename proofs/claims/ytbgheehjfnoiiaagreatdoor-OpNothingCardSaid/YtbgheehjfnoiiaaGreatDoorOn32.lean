/-
  Contracts of the functions that the law reaches: seq.Do (the program's), where it may be.
-/
import Derived.Test.YtbgheehjfnoiiaaGreatDoorOn26
namespace Go.Proofs.YtbgheehjfnoiiaaGreatDoor
open Go.RowKit
set_option maxHeartbeats 8000000
theorem VRow.later {w w':World} {base:Nat} {u:Value} {l:List V} {cl:List VC} (h:VRow w base u l cl) (hb:uB w w'):VRow w' base u l cl:=
 ⟨h.len,h.own.kept (row:=none) ⟨hb.os,hb.tape,hb.output,hb.size,fun k hk _=>hb.block k hk⟩ (by cases hv:u.ownBlock<;>simp),fun i hi hi'=>((h.els i hi hi').sub (Ze fun k hk hl=>⟨hk,hb.block k hl⟩)).more hb.size⟩
set_option maxRecDepth 100000 in
theorem zjl (w:World) (l:List V) (a:Option Addr) (n c:Nat) (hl:IsVals w w.heap.size l a n c) (hfew:n<=100000000) (cc:CC) (x:V) (hx:IsVal w w.heap.size x cc.v) (hc:lCheck n cc.k cc.i cc.j=0) (hk:cc.k=4):
 uP 116 #[.slice a n c, .agg #[.int .u8 cc.k, .slice cc.pa cc.pl cc.pc, .string cc.key, .int .i64 cc.i, .int .i64 cc.j, .int .i64 cc.n, .int .u8 cc.v.k, .int .i64 cc.v.n, .string cc.v.s, .slice cc.v.la cc.v.ll cc.v.lc, .slice cc.v.oa cc.v.ol cc.v.oc, .string cc.s]] w (SeqPost w (listDo l cc.k cc.i cc.j x)):=by
 delta uP
 have hmax:=hl.max
 have hlen:=hl.len
 obtain ⟨_,_,hi0,hi1,hi2,hj⟩:=Yi hc
 have HCK:Hid (∀W,uP 134 #[.int .i64 n, .agg #[.int .u8 cc.k, .slice cc.pa cc.pl cc.pc, .string cc.key, .int .i64 cc.i, .int .i64 cc.j, .int .i64 cc.n, .int .u8 cc.v.k, .int .i64 cc.v.n, .string cc.v.s, .slice cc.v.la cc.v.ll cc.v.lc, .slice cc.v.oa cc.v.ol cc.v.oc, .string cc.s]] W fun e w'=>e= .returned (.int .u16 0)/\uB W w'):=fun W=>by
  have:=X3 W n (by omega) cc
  rw [hc] at this;exact this
 have HOW:Hid (∀W,uB w W->uP 46 #[.agg #[.int .u8 0, .int .i64 0, .string { data:= #[] }, .slice a n c, .slice none 0 0]] W fun e w'=>(∃(d:VC) (cl:List VC),e= .returned (.agg #[.int .u8 d.k, .int .i64 d.n, .string d.s, .slice d.la d.ll d.lc, .slice d.oa d.ol d.oc])/\VRow w' W.heap.size (.slice d.la d.ll d.lc) l cl)/\uB W w'):=fun W hW=>Jq W l a n c (hl.later_ hW)
 have HCV:Hid (∀W,uB w W->uP 46 #[.agg #[.int .u8 cc.v.k, .int .i64 cc.v.n, .string cc.v.s, .slice cc.v.la cc.v.ll cc.v.lc, .slice cc.v.oa cc.v.ol cc.v.oc]] W fun e w'=>(∃f:VC,e= .returned (.agg #[.int .u8 f.k, .int .i64 f.n, .string f.s, .slice f.la f.ll f.lc, .slice f.oa f.ol f.oc])/\Whole w' W.heap.size x f)/\uB W w'):=fun W hW=>Yt W x cc.v (hx.later_ hW)
 have HBX:=qh (BC.start w #[.int .u8 cc.k, .slice cc.pa cc.pl cc.pc, .string cc.key, .int .i64 cc.i, .int .i64 cc.j, .int .i64 cc.n, .int .u8 cc.v.k, .int .i64 cc.v.n, .string cc.v.s, .slice cc.v.la cc.v.ll cc.v.lc, .slice cc.v.oa cc.v.ol cc.v.oc, .string cc.s] 54)
 have HAL:=qh ((Below.refl _ _).alloc (Nat.le_refl _) (.cells #[.int .u8 cc.k, .slice cc.pa cc.pl cc.pc, .string cc.key, .int .i64 cc.i, .int .i64 cc.j, .int .i64 cc.n, .int .u8 cc.v.k, .int .i64 cc.v.n, .string cc.v.s, .slice cc.v.la cc.v.ll cc.v.lc, .slice cc.v.oa cc.v.ol cc.v.oc, .string cc.s] 54):uB w _)
 obtain ⟨R,hR⟩:∃R,listDo l cc.k cc.i cc.j x=R:=⟨_,rfl⟩
 rw [hR]
 rw [listDo,hk] at hR
 have HL:=qh hlen
 obtain ⟨i,hi⟩:∃i:Nat,cc.i=i:=⟨cc.i.toNat,by omega⟩
 rw [hi] at hR hi1 hi2
 rw [hk,hi] at HCK HBX HAL ⊢
 rw [Int.toNat_natCast] at hR
 have hil:i<=n:=by omega
 have hw1:IntKind.i64.wrap ((i:Int)+1)=(i:Int)+1:=IntWalk.i64_in _ (by omega)
 obtain rfl:R=insL l i x:=by rw [<-hR];rfl
 clear hl hx hc hlen hR hi hi0 hj hi1 hi2
 go_enter Tryz.func116,Tryz.ntmps116
 go_wp2_with fail
 refine (HCK.out _).mono ?_
 rintro e w1 ⟨rfl,hb1⟩
 have HD1:=qh (HBX.out.keep hb1 (by simp))
 have HBL1:=qh (HAL.out.trans (hb1.mono (by simp)))
 clear hb1
 go_wp2_with fail
 refine (HOW.out _ HBL1.out).mono ?_
 rintro e w2 ⟨⟨d,cl,rfl,hV⟩,hb2⟩
 have D2:=HD1.out.keep hb2 HD1.out.lt
 obtain ⟨b0,b1,b2,b3,b4,b5,b6,b7,b8,b9,b10,b11⟩:=row12 D2.at_
 have zs2:=D2.lt
 have HBL2:=qh (HBL1.out.trans (hb2.mono HBL1.out.size))
 have HW12:=qh hb2.size
 have HV:=qh hV
 have hfld:=Xd w2 d.k d.n d.s d.la d.ll d.lc d.oa d.ol d.oc
 have HD2:=qh D2
 have HBD:=qh (HBL2.out.drew)
 clear hb2 hV D2
 go_wp2_with fail
 go_region_with (first
  |(go_simp;go_at_call 46;(with_reducible refine (HCV.out _ HBD.out).mono ?_);rintro e w4 ⟨⟨f,rfl,hW4⟩,hb4⟩;have hB24:uB w2 w4:=(Zf w2).trans hb4;have D4:=HD2.out.keep hB24 zs2;have q3:=D4.at_ 3 _ rfl;have zs4:=D4.lt;have HB24:=qh hB24;have HW4:Hid (Whole w4 w2.heap.size x f):=qh hW4;have HIN:=qh (zdl (w4.alloc (.cells #[.int .u8 f.k, .int .i64 f.n, .string f.s, .slice f.la f.ll f.lc, .slice f.oa f.ol f.oc] 29)) w1.heap.size l.length i w4.heap.size 29 (.slice d.la d.ll d.lc) (vcells f) (cl.flatMap vcells) (HV.out.later (hB24.trans (((Below.refl _ _).alloc (Nat.le_refl _) _).mono hB24.size))).own (by have:=HW12.out;have:=hB24.size;simp;omega) (by have:=HL.out;omega) (by have:=HL.out;omega) (heap_alloc_new w4 _) (fun e=>by have:=(HV.out.own.lt _ e).2;have:=hB24.size;omega) rfl (by simp [vcells,Value.oneCell']) (Z5 cl));clear hW4 hb4 hB24 D4)
  |(go_simp;go_at_call 155;(with_reducible refine HIN.out.mono ?_);rintro e w5 ⟨v',rfl,ho,hg,hu⟩;have HO:=qh ho;have HG:=qh hg;have HU:=qh hu;clear ho hg hu))
 all_goals (
  have hBA:=HB24.out.trans (((Below.refl w4.heap.size w4).alloc (Nat.le_refl _) (.cells #[.int .u8 f.k, .int .i64 f.n, .string f.s, .slice f.la f.ll f.lc, .slice f.oa f.ol f.oc] 29)).mono HB24.out.size)
  have hIA:IsVal (only (fun k=>w1.heap.size<=k/\(Value.slice d.la d.ll d.lc).ownBlock≠some k) (w4.alloc (.cells #[.int .u8 f.k, .int .i64 f.n, .string f.s, .slice f.la f.ll f.lc, .slice f.oa f.ol f.oc] 29))) (w4.alloc (.cells #[.int .u8 f.k, .int .i64 f.n, .string f.s, .slice f.la f.ll f.lc, .slice f.oa f.ol f.oc] 29)).heap.size x f:=((HW4.out.sepI.isVal).sub (Ze fun k hk hl=>⟨⟨by have:=HW12.out;omega,fun e=>by have:=(HV.out.own.lt _ e).2;omega⟩,by first|exact heap_alloc_old w4 _ k hl|exact heap_alloc_old w4 _ hl⟩)).more (by simp)
  have hV5:=(HV.out.later hBA).ins (by have:=HL.out;omega) hIA HO.out HG.out HU.out
  have hlr:(insL l i x).length<=1466015503701:=by have:=HL.out;simp [insL];omega
  obtain ⟨a3,n3,c3,rfl,hI,hz⟩:=hV5.vals hlr
  have HB3:=qh ((HBL2.out.trans (hBA.mono HBL2.out.size)).trans ((Zj HG.out (fun k hk=>(HV.out.own.lt k hk).1) (by have:=HW12.out;have:=HB24.out.size;simp;omega)).mono HBL1.out.size))
  have hcap:=hI.cap
  have hmx:=hI.max
  have HI:=qh (Y7 hI HBL1.out.size (Below.refl _ _)).cut
  clear hBA hIA hV5 hI hlr HO HG HU HIN
  rcases hz with ⟨rfl,rfl⟩|⟨b3',off3,rfl⟩
  .obtain rfl:n3=0:=by omega
   go_wp2_with fail
   go_returns
   exact ⟨⟨_,_,_,rfl,HI.out⟩,HB3.out⟩
  .go_wp2_with fail
   go_returns
   exact ⟨⟨_,_,_,rfl,HI.out⟩,HB3.out⟩)
theorem VRow.del_any {W:World} {base i:Nat} {u:Value} {l:List V} {cl:List VC} (h:VRow W base u l cl) (hi:i<l.length):
 uP 156 #[u, .int .i64 (i:Int), .int .i64 ((i:Int)+1)] W fun e w'=>∃v',e= .returned v'/\(∃cl',VRow w' base v' (remL l i) cl')/\(∀x cx,IsVal (only (fun k=>base<=k/\u.ownBlock≠some k) W) W.heap.size x cx->IsVal (only (fun k=>base<=k/\v'.ownBlock≠some k) w') w'.heap.size x cx)/\W.grownBy w' u.ownBlock/\(v'.ownBlock=u.ownBlock∨v'.ownBlock=some W.heap.size):=by
 delta uP
 refine (zci W base l.length i u (cl.flatMap vcells) h.own hi (Z5 cl)).mono ?_
 rintro e w' ⟨v',rfl,ho,hg,hu⟩
 exact ⟨v',rfl,⟨_,h.rem hi ho hg hu⟩,fun x cx hx=>hx.rowed hg hu,hg,hu⟩
theorem VRow.ins_any {W:World} {base i vb:Nat} {u:Value} {l:List V} {cl:List VC} {x:V} {cx:VC} (h:VRow W base u l cl) (hB:base<=W.heap.size) (hi:i<=l.length) (hn:l.length+1<=1466015503701) (hx:IsVal (only (fun k=>base<=k/\u.ownBlock≠some k) W) W.heap.size x cx)
 (hvb:W.heap[vb]? =some (.cells #[.int .u8 cx.k, .int .i64 cx.n, .string cx.s, .slice cx.la cx.ll cx.lc, .slice cx.oa cx.ol cx.oc] 29 (0,0))) (hne:u.ownBlock≠some vb):
 uP 155 #[u, .int .i64 (i:Int), .slice (some ⟨vb,0,none⟩) 1 1] W fun e w'=>∃v',e= .returned v'/\(∃cl',VRow w' base v' (insL l i x) cl')/\W.grownBy w' u.ownBlock:=by
 delta uP
 refine (zdl W base l.length i vb 29 u (vcells cx) (cl.flatMap vcells) h.own hB hi hn hvb hne rfl (by simp [vcells,Value.oneCell']) (Z5 cl)).mono ?_
 rintro e w' ⟨v',rfl,ho,hg,hu⟩
 exact ⟨v',rfl,⟨_,h.ins hi hx ho hg hu⟩,hg⟩
theorem zi3 (w:World) (o:Obj) {k:Nat} (h:k<w.heap.size):(w.alloc o).heap[k]? =w.heap[k]? :=((Below.refl w.heap.size w).alloc (Nat.le_refl _) o).block k h
set_option maxRecDepth 100000 in
theorem zhc (w:World) (l:List V) (a:Option Addr) (n c:Nat) (hl:IsVals w w.heap.size l a n c) (hfew:n<=100000000) (cc:CC) (x:V) (hc:lCheck n cc.k cc.i cc.j=0) (hk:cc.k=7):
 uP 116 #[.slice a n c, .agg #[.int .u8 cc.k, .slice cc.pa cc.pl cc.pc, .string cc.key, .int .i64 cc.i, .int .i64 cc.j, .int .i64 cc.n, .int .u8 cc.v.k, .int .i64 cc.v.n, .string cc.v.s, .slice cc.v.la cc.v.ll cc.v.lc, .slice cc.v.oa cc.v.ol cc.v.oc, .string cc.s]] w (SeqPost w (listDo l cc.k cc.i cc.j x)):=by
 delta uP
 have hmax:=hl.max
 have hlen:=hl.len
 obtain ⟨_,_,hi0,hi1,hi2,hj⟩:=Yi hc
 have HCK:Hid (∀W,uP 134 #[.int .i64 n, .agg #[.int .u8 cc.k, .slice cc.pa cc.pl cc.pc, .string cc.key, .int .i64 cc.i, .int .i64 cc.j, .int .i64 cc.n, .int .u8 cc.v.k, .int .i64 cc.v.n, .string cc.v.s, .slice cc.v.la cc.v.ll cc.v.lc, .slice cc.v.oa cc.v.ol cc.v.oc, .string cc.s]] W fun e w'=>e= .returned (.int .u16 0)/\uB W w'):=fun W=>by
  have:=X3 W n (by omega) cc
  rw [hc] at this;exact this
 have HOW:Hid (∀W,uB w W->uP 46 #[.agg #[.int .u8 0, .int .i64 0, .string { data:= #[] }, .slice a n c, .slice none 0 0]] W fun e w'=>(∃(d:VC) (cl:List VC),e= .returned (.agg #[.int .u8 d.k, .int .i64 d.n, .string d.s, .slice d.la d.ll d.lc, .slice d.oa d.ol d.oc])/\VRow w' W.heap.size (.slice d.la d.ll d.lc) l cl)/\uB W w'):=fun W hW=>Jq W l a n c (hl.later_ hW)
 have HBX:=qh (BC.start w #[.int .u8 cc.k, .slice cc.pa cc.pl cc.pc, .string cc.key, .int .i64 cc.i, .int .i64 cc.j, .int .i64 cc.n, .int .u8 cc.v.k, .int .i64 cc.v.n, .string cc.v.s, .slice cc.v.la cc.v.ll cc.v.lc, .slice cc.v.oa cc.v.ol cc.v.oc, .string cc.s] 54)
 have HAL:=qh ((Below.refl _ _).alloc (Nat.le_refl _) (.cells #[.int .u8 cc.k, .slice cc.pa cc.pl cc.pc, .string cc.key, .int .i64 cc.i, .int .i64 cc.j, .int .i64 cc.n, .int .u8 cc.v.k, .int .i64 cc.v.n, .string cc.v.s, .slice cc.v.la cc.v.ll cc.v.lc, .slice cc.v.oa cc.v.ol cc.v.oc, .string cc.s] 54):uB w _)
 obtain ⟨R,hR⟩:∃R,listDo l cc.k cc.i cc.j x=R:=⟨_,rfl⟩
 rw [hR]
 rw [listDo,hk] at hR
 have HL:=qh hlen
 obtain ⟨i,hi⟩:∃i:Nat,cc.i=i:=⟨cc.i.toNat,by omega⟩
 obtain ⟨jj,hjj⟩:∃jj:Nat,cc.j=jj:=⟨cc.j.toNat,by have:=hj hk;omega⟩
 rw [hi,hjj] at hR
 rw [hi] at hi1 hi2
 have hjn:jj<n:=by have:=hj hk;omega
 rw [hk,hi,hjj] at HCK HBX HAL ⊢
 rw [Int.toNat_natCast,Int.toNat_natCast] at hR
 have hil:i<n:=by have:=hi2 (by omega);omega
 have hw1:IntKind.i64.wrap ((i:Int)+1)=(i:Int)+1:=IntWalk.i64_in _ (by omega)
 obtain rfl:R=insL (remL l i) jj (l.getD i V.none):=by rw [<-hR];rfl
 clear hl hc hlen hR hi hi0 hj hi1 hi2
 go_enter Tryz.func116,Tryz.ntmps116
 go_wp2_with fail
 refine (HCK.out _).mono ?_
 rintro e w1 ⟨rfl,hb1⟩
 have HD1:=qh (HBX.out.keep hb1 (by simp))
 have HBL1:=qh (HAL.out.trans (hb1.mono (by simp)))
 clear hb1
 go_wp2_with fail
 refine (HOW.out _ HBL1.out).mono ?_
 rintro e w2 ⟨⟨d,cl,rfl,hV⟩,hb2⟩
 have D2:=HD1.out.keep hb2 HD1.out.lt
 obtain ⟨b0,b1,b2,b3,b4,b5,b6,b7,b8,b9,b10,b11⟩:=row12 D2.at_
 have zs2:=D2.lt
 have HBL2:=qh (HBL1.out.trans (hb2.mono HBL1.out.size))
 have HW12:=qh hb2.size
 have HV:=qh hV
 have hfld:=Xd w2 d.k d.n d.s d.la d.ll d.lc d.oa d.ol d.oc
 obtain ⟨dk,dn,ds,dla,dll,dlc,doa,dol,doc⟩:=d
 dsimp only at hV HV hfld ⊢
 have hil2:i<l.length:=by have:=HL.out;omega
 have hic:i<cl.length:=by have:=hV.len;omega
 have hxe:=hV.els i hil2 hic
 have hlg:l.getD i V.none=l[i]'hil2:=by rw [List.getD_eq_getElem?_getD,List.getElem?_eq_getElem hil2];rfl
 rw [<-hlg] at hxe
 obtain ⟨g,cap,hu,hbg,hgl,hlc,hcm,hat,hfr⟩:=hV.at_ hil2 hic
 obtain ⟨y,hy⟩:∃y,cl[i]'hic=y:=⟨_,rfl⟩
 rw [hy] at hat hxe
 injection hu with u1 u2 u3
 subst u1 u2 u3
 have hcm63:dlc<=9223372036854775807:=by unfold maxLen at hcm;omega
 have HD2:=qh D2
 have HXE:=qh hxe
 have HJ:Hid (jj<l.length):=qh (by have:=HL.out;omega)
 have d0:=hat.c0;have d1:=hat.c1;have d2:=hat.c2;have d3:=hat.c3;have d4:=hat.c4
 clear hb2 hV D2 hat hfr hxe hlg hy
 go_wp2_with fail
 obtain ⟨w3,hw3⟩:∃w3,w2.alloc (.cells #[.int .u8 y.k, .int .i64 y.n, .string y.s, .slice y.la y.ll y.lc, .slice y.oa y.ol y.oc] 29)=w3:=⟨_,rfl⟩
 have hb23:uB w2 w3:=by rw [<-hw3];exact (Below.refl _ _).alloc (Nat.le_refl _) _
 have hz23:w3.heap.size=w2.heap.size+1:=by rw [<-hw3,World.size_alloc]
 have hbx:BC w3 w2.heap.size (vcells y):=by rw [<-hw3];exact BC.start w2 #[.int .u8 y.k, .int .i64 y.n, .string y.s, .slice y.la y.ll y.lc, .slice y.oa y.ol y.oc] 29
 rw [hw3]
 obtain ⟨B8,hB8⟩:∃B8,w2.heap.size=B8:=⟨_,rfl⟩
 have hV3:=HV.out.later hb23
 have hX3:=(HXE.out.sub (Ze fun k hk hl=>⟨hk,hb23.block k hl⟩)).more hb23.size
 have hD3:=HD2.out.keep hb23 zs2
 have hg3:∀k,(Value.slice (some ⟨g,0,none⟩) l.length dlc).ownBlock=some k->w1.heap.size<=k/\k<w2.heap.size:=HV.out.own.lt
 have hle:w1.heap.size<=w3.heap.size:=by have:=HW12.out;omega
 have hwl:=HBL1.out.size
 have hw0:w.heap.size<w1.heap.size:=HD1.out.lt
 have HBL3:=qh (HBL2.out.trans (hb23.mono HBL2.out.size))
 rw [hB8] at hbx hg3 hz23 ⊢
 have HDEL:Hid (∀W,uB w3 W->uP 156 #[.slice (some ⟨g,0,none⟩) l.length dlc, .int .i64 (i:Int), .int .i64 ((i:Int)+1)] W fun e w'=>∃v',e= .returned v'/\(∃cl',VRow w' w1.heap.size v' (remL l i) cl')/\IsVal (only (fun k=>w1.heap.size<=k/\v'.ownBlock≠some k) w') w'.heap.size (l.getD i V.none) y/\W.grownBy w' (Value.slice (some ⟨g,0,none⟩) l.length dlc).ownBlock/\v'.ownBlock≠some B8/\(w3.heap.size<W.heap.size->v'.ownBlock≠some w3.heap.size)):=qh fun W hW=>by
  refine ((hV3.later hW).del_any hil2).mono ?_
  rintro e w' ⟨v',rfl,h1,h2,h3,h4⟩
  have h8:=hW.size
  refine ⟨v',rfl,h1,h2 _ _ ((hX3.sub (Ze fun k hk hl=>⟨hk,hW.block k hl⟩)).more hW.size),h3,fun e=> ?_,fun hlt e=> ?_⟩
  .rcases h4 with h|h
   .rw [h] at e;have:=(hg3 _ e).2;omega
   .rw [h] at e;injection e with e;omega
  .rcases h4 with h|h
   .rw [h] at e;have:=(hg3 _ e).2;omega
   .rw [h] at e;injection e with e;omega
 have HA1:Hid (∀(w4:World) (v':Value) (cl4:List VC),VRow w4 w1.heap.size v' (remL l i) cl4->IsVal (only (fun k=>w1.heap.size<=k/\v'.ownBlock≠some k) w4) w4.heap.size (l.getD i V.none) y->w1.heap.size<=w4.heap.size->v'.ownBlock≠some B8->B8<w4.heap.size->uP 155 #[v', .int .i64 (jj:Int), .slice (some ⟨w4.heap.size,0,none⟩) 1 1] (w4.alloc (.cells #[.int .u8 y.k, .int .i64 y.n, .string y.s, .slice y.la y.ll y.lc, .slice y.oa y.ol y.oc] 29)) fun e w'=>∃v'',e= .returned v''/\(∃cl',VRow w' w1.heap.size v'' (insL (remL l i) jj (l.getD i V.none)) cl')/\Below w1.heap.size w4 w'/\w'.heap[B8]? =w4.heap[B8]?):=qh fun w4 v' cl4 hV4 hX4 h14 hn8 h48=>by
  have hb:uB w4 (w4.alloc (.cells #[.int .u8 y.k, .int .i64 y.n, .string y.s, .slice y.la y.ll y.lc, .slice y.oa y.ol y.oc] 29)):=(Below.refl _ _).alloc (Nat.le_refl _) _
  refine ((hV4.later hb).ins_any (i:=jj) (vb:=w4.heap.size) (by have:=hb.size;omega) (by have:=HJ.out;simp [remL];omega) (by have:=HL.out;simp [remL];omega) ((hX4.sub (Ze fun k hk hl=>⟨hk,hb.block k hl⟩)).more hb.size) (heap_alloc_new w4 _) (fun e=>by have:=(hV4.own.lt _ e).2;omega)).mono ?_
  rintro e w' ⟨v'',rfl,h1,h2⟩
  exact ⟨v'',rfl,h1,(hb.mono h14).trans (Zj h2 (fun k hk=>(hV4.own.lt k hk).1) (by have:=hb.size;omega)),(h2.block B8 (Nat.lt_of_lt_of_le h48 hb.size) (fun e=>hn8 e.symm)).trans (hb.block B8 h48)⟩
 have HA2:Hid (∀(w4:World) (v':Value) (cl4:List VC),VRow w4 w1.heap.size v' (remL l i) cl4->IsVal (only (fun k=>w1.heap.size<=k/\v'.ownBlock≠some k) w4) w4.heap.size (l.getD i V.none) y->w1.heap.size<=w4.heap.size->v'.ownBlock≠some B8->B8<w4.heap.size->w4.heap[w3.heap.size]? =some (.cells #[.int .u8 y.k, .int .i64 y.n, .string y.s, .slice y.la y.ll y.lc, .slice y.oa y.ol y.oc] 29 (0,0))->v'.ownBlock≠some w3.heap.size->uP 155 #[v', .int .i64 (jj:Int), .slice (some ⟨w3.heap.size,0,none⟩) 1 1] w4 fun e w'=>∃v'',e= .returned v''/\(∃cl',VRow w' w1.heap.size v'' (insL (remL l i) jj (l.getD i V.none)) cl')/\Below w1.heap.size w4 w'/\w'.heap[B8]? =w4.heap[B8]?):=qh fun w4 v' cl4 hV4 hX4 h14 hn8 h48 hvb hne=>by
  refine (hV4.ins_any (i:=jj) (vb:=w3.heap.size) h14 (by have:=HJ.out;simp [remL];omega) (by have:=HL.out;simp [remL];omega) hX4 hvb hne).mono ?_
  rintro e w' ⟨v'',rfl,h1,h2⟩
  exact ⟨v'',rfl,h1,Zj h2 (fun k hk=>(hV4.own.lt k hk).1) h14,h2.block B8 h48 (fun e=>hn8 e.symm)⟩
 have q3:=hD3.at_ 3 _ rfl;have q4:=hD3.at_ 4 _ rfl
 obtain ⟨e0,e1,e2,e3,e4⟩:=row5 hbx.at_
 have zw3:w.heap.size<w3.heap.size:=by omega
 have zb3:B8<w3.heap.size:=by omega
 have HBX8:=qh hbx;have HD3:=qh hD3
 have HBD3:=qh (Zf w3)
 have hba3:uB w3 (w3.alloc (.cells #[.int .u8 y.k, .int .i64 y.n, .string y.s, .slice y.la y.ll y.lc, .slice y.oa y.ol y.oc] 29)).drew:=((Below.refl _ _).alloc (Nat.le_refl _) _).drew
 have HBA3:=qh hba3
 have HG3:=qh hg3;have HLE:=qh hle;have HZ23:=qh hz23;have HW01:=qh hw0
 have mixed:Tryz.prog.follows .mixedOrders=true:=by kernel_rfl
 clear hw3 hb23 hz23 hbx hV3 hX3 hD3 hg3 hle hwl hw0 hB8 hba3 d0 d1 d2 d3 d4 b0 b1 b2 b3 b4 b5 b6 b7 b8 b9 b10 b11 zs2 hfld hk
 have HSP:Hid (∀W,Below w1.heap.size w3 W->W.heap[B8]? =w3.heap[B8]? ->W.cell? ⟨w.heap.size,3,none⟩=some (.int .i64 (i:Int))/\W.cell? ⟨w.heap.size,4,none⟩=some (.int .i64 (jj:Int))/\W.cell? ⟨B8,0,none⟩=some (.int .u8 y.k)/\W.cell? ⟨B8,1,none⟩=some (.int .i64 y.n)/\W.cell? ⟨B8,2,none⟩=some (.string y.s)/\W.cell? ⟨B8,3,none⟩=some (.slice y.la y.ll y.lc)/\W.cell? ⟨B8,4,none⟩=some (.slice y.oa y.ol y.oc)):=qh fun W hW h8=>by
  have D:=HD3.out.keep hW HW01.out
  have hk:∀o u,w3.cell? ⟨B8,o,none⟩=some u->W.cell? ⟨B8,o,none⟩=some u:=fun o u h=>(World.cell?_of_block h8).trans h
  exact ⟨D.at_ 3 _ rfl,D.at_ 4 _ rfl,hk _ _ (HBX8.out.at_ 0 _ rfl),hk _ _ (HBX8.out.at_ 1 _ rfl),hk _ _ (HBX8.out.at_ 2 _ rfl),hk _ _ (HBX8.out.at_ 3 _ rfl),hk _ _ (HBX8.out.at_ 4 _ rfl)⟩
 have HN8:Hid ((Value.slice (some ⟨g,0,none⟩) l.length dlc).ownBlock≠some B8):=qh fun e=>by have:=(HG3.out _ e).2;omega
 have HK0:=qh (HSP.out w3.drew (HBD3.out.mono HLE.out) rfl)
 have HK1:=qh (HSP.out _ (HBA3.out.mono HLE.out) (HBA3.out.block B8 HBX8.out.lt))
 have HDA:Hid (∀W w4,uB w3 W->W.grownBy w4 (Value.slice (some ⟨g,0,none⟩) l.length dlc).ownBlock->Below w1.heap.size w3 w4/\w4.heap[B8]? =w3.heap[B8]?):=qh fun W w4 hW hg=>⟨(hW.mono HLE.out).trans (Zj hg (fun k hk=>(HG3.out k hk).1) (Nat.le_trans HLE.out hW.size)),(hg.block B8 (Nat.lt_of_lt_of_le HBX8.out.lt hW.size) (fun e=>HN8.out e.symm)).trans (hW.block B8 HBX8.out.lt)⟩
 clear q3 q4 e0 e1 e2 e3 e4
 refine wp_region_noPanic ?_
 go_region_held_law (fun W=>W.cell? ⟨w.heap.size,3,none⟩=some (.int .i64 (i:Int))/\W.cell? ⟨w.heap.size,4,none⟩=some (.int .i64 (jj:Int))/\W.cell? ⟨B8,0,none⟩=some (.int .u8 y.k)/\W.cell? ⟨B8,1,none⟩=some (.int .i64 y.n)/\W.cell? ⟨B8,2,none⟩=some (.string y.s)/\W.cell? ⟨B8,3,none⟩=some (.slice y.la y.ll y.lc)/\W.cell? ⟨B8,4,none⟩=some (.slice y.oa y.ol y.oc))
  ((first|(with_reducible exact HK0.out)|(with_reducible exact HK1.out)|(with_reducible exact HK4.out)|(with_reducible exact HK4a.out)|(with_reducible exact HK5.out)))
  (first
   |(go_at_call 156;(with_reducible refine (HDEL.out _ HBD3.out).mono ?_);rintro e w4 ⟨v4,rfl,⟨cl4,hV4⟩,hx4,hg4,hn8,hn4⟩;obtain ⟨hb4,h84⟩:=HDA.out _ _ HBD3.out hg4;have HB4:=qh hb4;have HIN:=qh (HA1.out w4 v4 cl4 hV4 hx4 (Nat.le_trans HLE.out hb4.size) hn8 (Nat.lt_of_lt_of_le HBX8.out.lt hb4.size));have HK4:=qh (HSP.out w4 hb4 h84);have HK4a:Hid ((w4.alloc (.cells #[.int .u8 y.k, .int .i64 y.n, .string y.s, .slice y.la y.ll y.lc, .slice y.oa y.ol y.oc] 29)).cell? ⟨w.heap.size,3,none⟩=some (.int .i64 (i:Int))/\(w4.alloc (.cells #[.int .u8 y.k, .int .i64 y.n, .string y.s, .slice y.la y.ll y.lc, .slice y.oa y.ol y.oc] 29)).cell? ⟨w.heap.size,4,none⟩=some (.int .i64 (jj:Int))/\(w4.alloc (.cells #[.int .u8 y.k, .int .i64 y.n, .string y.s, .slice y.la y.ll y.lc, .slice y.oa y.ol y.oc] 29)).cell? ⟨B8,0,none⟩=some (.int .u8 y.k)/\(w4.alloc (.cells #[.int .u8 y.k, .int .i64 y.n, .string y.s, .slice y.la y.ll y.lc, .slice y.oa y.ol y.oc] 29)).cell? ⟨B8,1,none⟩=some (.int .i64 y.n)/\(w4.alloc (.cells #[.int .u8 y.k, .int .i64 y.n, .string y.s, .slice y.la y.ll y.lc, .slice y.oa y.ol y.oc] 29)).cell? ⟨B8,2,none⟩=some (.string y.s)/\(w4.alloc (.cells #[.int .u8 y.k, .int .i64 y.n, .string y.s, .slice y.la y.ll y.lc, .slice y.oa y.ol y.oc] 29)).cell? ⟨B8,3,none⟩=some (.slice y.la y.ll y.lc)/\(w4.alloc (.cells #[.int .u8 y.k, .int .i64 y.n, .string y.s, .slice y.la y.ll y.lc, .slice y.oa y.ol y.oc] 29)).cell? ⟨B8,4,none⟩=some (.slice y.oa y.ol y.oc)):=qh (HSP.out _ (hb4.alloc (Nat.le_trans HLE.out hb4.size) _) ((zi3 w4 _ (Nat.lt_of_lt_of_le HBX8.out.lt hb4.size)).trans h84));have HE8:=qh h84;clear hb4 h84 hV4 hx4 hg4 hn4 hn8)
   |(go_at_call 156;(with_reducible refine (HDEL.out _ HBA3.out).mono ?_);rintro e w4 ⟨v4,rfl,⟨cl4,hV4⟩,hx4,hg4,hn8,hn4⟩;obtain ⟨hb4,h84⟩:=HDA.out _ _ HBA3.out hg4;have HB4:=qh hb4;have HIN:=qh (HA2.out w4 v4 cl4 hV4 hx4 (Nat.le_trans HLE.out hb4.size) hn8 (Nat.lt_of_lt_of_le HBX8.out.lt hb4.size) ((hg4.block w3.heap.size (by simp) (fun e=>by have:=(HG3.out _ e.symm).2;have:=HZ23.out;omega)).trans (heap_alloc_new w3 _)) (hn4 (by simp)));have HK4:=qh (HSP.out w4 hb4 h84);have HE8:=qh h84;clear hb4 h84 hV4 hx4 hg4 hn4 hn8)
   |(go_at_call 155;(with_reducible refine HIN.out.mono ?_);rintro e w5 ⟨v5,rfl,⟨cl5,hV5⟩,hb5,h85⟩;have HV5:=qh hV5;have hb35:=HB4.out.trans hb5;have HB5:=qh hb35;have HK5:=qh (HSP.out w5 hb35 (h85.trans (HE8.out)));clear hV5 hb5 hb35 h85))
 all_goals (
  have hlr:(insL (remL l i) jj (l.getD i V.none)).length<=1466015503701:=by have:=HL.out;simp [insL,remL];omega
  obtain ⟨a3,n3,c3,rfl,hI,hz⟩:=HV5.out.vals hlr
  have HBF:=qh (HBL3.out.trans (HB5.out.mono HBL1.out.size))
  have hcap:=hI.cap
  have hmx:=hI.max
  have HI:=qh (Y7 hI HBL1.out.size (Below.refl _ _)).cut
  clear hI hlr HIN
  refine NoPanic.normal ?_
  rcases hz with ⟨rfl,rfl⟩|⟨b3',off3,rfl⟩
  .obtain rfl:n3=0:=by omega
   go_wp2_with fail
   go_returns
   exact ⟨⟨_,_,_,rfl,HI.out⟩,HBF.out⟩
  .go_wp2_with fail
   go_returns
   exact ⟨⟨_,_,_,rfl,HI.out⟩,HBF.out⟩)
set_option maxRecDepth 100000 in
theorem zg9 (w:World) (l:List V) (a:Option Addr) (n c:Nat) (hl:IsVals w w.heap.size l a n c) (hfew:n<=100000000) (cc:CC) (x:V) (hx:IsVal w w.heap.size x cc.v) (hc:lCheck n cc.k cc.i cc.j=0) (hk:cc.k=6):
 uP 116 #[.slice a n c, .agg #[.int .u8 cc.k, .slice cc.pa cc.pl cc.pc, .string cc.key, .int .i64 cc.i, .int .i64 cc.j, .int .i64 cc.n, .int .u8 cc.v.k, .int .i64 cc.v.n, .string cc.v.s, .slice cc.v.la cc.v.ll cc.v.lc, .slice cc.v.oa cc.v.ol cc.v.oc, .string cc.s]] w (SeqPost w (listDo l cc.k cc.i cc.j x)):=by
 delta uP
 have hmax:=hl.max
 have hlen:=hl.len
 obtain ⟨_,_,hi0,hi1,hi2,hj⟩:=Yi hc
 have HCK:Hid (∀W,uP 134 #[.int .i64 n, .agg #[.int .u8 cc.k, .slice cc.pa cc.pl cc.pc, .string cc.key, .int .i64 cc.i, .int .i64 cc.j, .int .i64 cc.n, .int .u8 cc.v.k, .int .i64 cc.v.n, .string cc.v.s, .slice cc.v.la cc.v.ll cc.v.lc, .slice cc.v.oa cc.v.ol cc.v.oc, .string cc.s]] W fun e w'=>e= .returned (.int .u16 0)/\uB W w'):=fun W=>by
  have:=X3 W n (by omega) cc
  rw [hc] at this;exact this
 have HOW:Hid (∀W,uB w W->uP 46 #[.agg #[.int .u8 0, .int .i64 0, .string { data:= #[] }, .slice a n c, .slice none 0 0]] W fun e w'=>(∃(d:VC) (cl:List VC),e= .returned (.agg #[.int .u8 d.k, .int .i64 d.n, .string d.s, .slice d.la d.ll d.lc, .slice d.oa d.ol d.oc])/\VRow w' W.heap.size (.slice d.la d.ll d.lc) l cl)/\uB W w'):=fun W hW=>Jq W l a n c (hl.later_ hW)
 have HCV:Hid (∀W,uB w W->uP 46 #[.agg #[.int .u8 cc.v.k, .int .i64 cc.v.n, .string cc.v.s, .slice cc.v.la cc.v.ll cc.v.lc, .slice cc.v.oa cc.v.ol cc.v.oc]] W fun e w'=>(∃f:VC,e= .returned (.agg #[.int .u8 f.k, .int .i64 f.n, .string f.s, .slice f.la f.ll f.lc, .slice f.oa f.ol f.oc])/\Whole w' W.heap.size x f)/\uB W w'):=fun W hW=>Yt W x cc.v (hx.later_ hW)
 have HBX:=qh (BC.start w #[.int .u8 cc.k, .slice cc.pa cc.pl cc.pc, .string cc.key, .int .i64 cc.i, .int .i64 cc.j, .int .i64 cc.n, .int .u8 cc.v.k, .int .i64 cc.v.n, .string cc.v.s, .slice cc.v.la cc.v.ll cc.v.lc, .slice cc.v.oa cc.v.ol cc.v.oc, .string cc.s] 54)
 have HAL:=qh ((Below.refl _ _).alloc (Nat.le_refl _) (.cells #[.int .u8 cc.k, .slice cc.pa cc.pl cc.pc, .string cc.key, .int .i64 cc.i, .int .i64 cc.j, .int .i64 cc.n, .int .u8 cc.v.k, .int .i64 cc.v.n, .string cc.v.s, .slice cc.v.la cc.v.ll cc.v.lc, .slice cc.v.oa cc.v.ol cc.v.oc, .string cc.s] 54):uB w _)
 obtain ⟨R,hR⟩:∃R,listDo l cc.k cc.i cc.j x=R:=⟨_,rfl⟩
 rw [hR]
 rw [listDo,hk] at hR
 have HL:=qh hlen
 obtain ⟨i,hi⟩:∃i:Nat,cc.i=i:=⟨cc.i.toNat,by omega⟩
 rw [hi] at hR hi1 hi2
 rw [hk,hi] at HCK HBX HAL ⊢
 rw [Int.toNat_natCast] at hR
 have hil:i<n:=by have:=hi2 (by omega);omega
 have hw1:IntKind.i64.wrap ((i:Int)+1)=(i:Int)+1:=IntWalk.i64_in _ (by omega)
 obtain rfl:R=l.set i x:=by rw [<-hR];rfl
 clear hl hx hc hlen hR hi hi0 hj hi1 hi2
 go_enter Tryz.func116,Tryz.ntmps116
 go_wp2_with fail
 refine (HCK.out _).mono ?_
 rintro e w1 ⟨rfl,hb1⟩
 have HD1:=qh (HBX.out.keep hb1 (by simp))
 have HBL1:=qh (HAL.out.trans (hb1.mono (by simp)))
 clear hb1
 go_wp2_with fail
 refine (HOW.out _ HBL1.out).mono ?_
 rintro e w2 ⟨⟨d,cl,rfl,hV⟩,hb2⟩
 have D2:=HD1.out.keep hb2 HD1.out.lt
 obtain ⟨b0,b1,b2,b3,b4,b5,b6,b7,b8,b9,b10,b11⟩:=row12 D2.at_
 have zs2:=D2.lt
 have HBL2:=qh (HBL1.out.trans (hb2.mono HBL1.out.size))
 have HW12:=qh hb2.size
 have HV:=qh hV
 have hfld:=Xd w2 d.k d.n d.s d.la d.ll d.lc d.oa d.ol d.oc
 obtain ⟨dk,dn,ds,dla,dll,dlc,doa,dol,doc⟩:=d
 dsimp only at hV HV hfld ⊢
 have hil2:i<l.length:=by have:=HL.out;omega
 have hic:i<cl.length:=by have:=hV.len;omega
 obtain ⟨g,cap,hu,hbg,hgl,hlc,hcm,hat,hfr⟩:=hV.at_ hil2 hic
 obtain ⟨y,hy⟩:∃y,cl[i]'hic=y:=⟨_,rfl⟩
 rw [hy] at hat
 clear hy
 injection hu with u1 u2 u3
 subst u1 u2 u3
 have hcm63:dlc<=9223372036854775807:=by unfold maxLen at hcm;omega
 have HD2:=qh D2
 have HBD:=qh (HBL2.out.drew)
 have HAT:=qh hat;have HFR:=qh hfr
 clear hb2 hV D2 hat hfr
 go_wp2_with fail
 go_region_with (go_simp;go_at_call 46;(with_reducible refine (HCV.out _ HBD.out).mono ?_);rintro e w4 ⟨⟨f,rfl,hW4⟩,hb4⟩;have hB24:uB w2 w4:=(Zf w2).trans hb4;have D4:=HD2.out.keep hB24 zs2;have q3:=D4.at_ 3 _ rfl;have zs4:=D4.lt;have HB24:=qh hB24;have HW4:Hid (Whole w4 w2.heap.size x f):=qh hW4;have d0:=Zb hB24 HAT.out.c0 hgl;have d1:=Zb hB24 HAT.out.c1 hgl;have d2:=Zb hB24 HAT.out.c2 hgl;have d3:=Zb hB24 HAT.out.c3 hgl;have d4:=Zb hB24 HAT.out.c4 hgl;have r0:=(Yq (q:=i*5) (hB24.block g hgl)).trans (HFR.out _);have r1:=(Yq (q:=i*5+1) (hB24.block g hgl)).trans (HFR.out _);have r2:=(Yq (q:=i*5+2) (hB24.block g hgl)).trans (HFR.out _);have r3:=(Yq (q:=i*5+3) (hB24.block g hgl)).trans (HFR.out _);have r4:=(Yq (q:=i*5+4) (hB24.block g hgl)).trans (HFR.out _);clear hW4 hb4 hB24 D4)
 all_goals (
  have hIA:IsVal (only (fun k=>w1.heap.size<=k/\(Value.slice (some ⟨g,0,none⟩) l.length dlc).ownBlock≠some k) w4) w4.heap.size x f:=HW4.out.sepI.isVal.sub (Ze fun k hk hl=>⟨⟨by have:=HW12.out;omega,fun e=>by have:=(HV.out.own.lt _ e).2;omega⟩,rfl⟩)
  have hV5:=(HV.out.later HB24.out).set hil2 hIA
  have hbl:uB w (setV w4 g (i*5) f):=(HBL2.out.trans (HB24.out.mono HBL2.out.size)).trans ((Zi w4 g (i*5) f).lowC (by have:=HBL1.out.size;omega) (by have:=HB24.out.size;have:=HBL2.out.size;omega))
  refine Zr (P:=fun W=>VRow W w1.heap.size (.slice (some ⟨g,0,none⟩) l.length dlc) (l.set i x) (cl.set i f)/\uB w W) ⟨hV5,hbl⟩ ?_
  clear hIA hV5 hbl
  rintro W ⟨hV6,hb6⟩
  have hlr:(l.set i x).length<=1466015503701:=by have:=HL.out;simp;omega
  obtain ⟨a3,n3,c3,hu3,hI,hz⟩:=hV6.vals hlr
  injection hu3 with u1 u2 u3
  subst u1 u2 u3
  have HI:=qh (Y7 hI HBL1.out.size (Below.refl _ _)).cut
  have HB6:=qh hb6
  clear hV6 hb6 hlr hI hz
  go_wp2_with fail
  go_returns
  exact ⟨⟨_,_,_,rfl,HI.out⟩,HB6.out⟩)
def asksK (k:Int):Int:=if k=1 then 2 else if k=2∨k=3 then 5 else if k=8∨k=9 then 3 else 4
theorem zka (x:V) (k i j n:Int) (key:ByteArray):kindsP x k i j n key=if x.kd≠asksK k then 31 else if x.kd=4 then lCheck x.ls.length k i j else if x.kd=3 then tCheck x.str k i n else if k=3/\fieldIs x.os key=false then 33 else 0:=by
 unfold kindsP asksK
 by_cases h1:k=1
 .rw [if_pos h1,if_pos h1]
  by_cases h:x.kd≠2
  .rw [if_pos h,if_pos h]
  .rw [if_neg h,if_neg h,if_neg (by omega),if_neg (by omega),if_neg (by omega)]
 .rw [if_neg h1,if_neg h1]
  by_cases h2:k=2∨k=3
  .rw [if_pos h2,if_pos h2]
   by_cases h:x.kd≠5
   .rw [if_pos h,if_pos h]
   .rw [if_neg h,if_neg h,if_neg (show ¬x.kd=4 by omega),if_neg (show ¬x.kd=3 by omega)]
  .rw [if_neg h2,if_neg h2]
   by_cases h3:k=8∨k=9
   .rw [if_pos h3,if_pos h3]
    by_cases h:x.kd≠3
    .rw [if_pos h,if_pos h]
    .rw [if_neg h,if_neg h,if_neg (show ¬x.kd=4 by omega),if_pos (show x.kd=3 by omega)]
   .rw [if_neg h3,if_neg h3]
    by_cases h:x.kd≠4
    .rw [if_pos h,if_pos h]
    .rw [if_neg h,if_neg h,if_pos (show x.kd=4 by omega)]
theorem znk (k:Int):asksK k=2∨asksK k=5∨asksK k=3∨asksK k=4:=by
 unfold asksK;split
 .exact .inl rfl
 .split
  .exact .inr (.inl rfl)
  .split
   .exact .inr (.inr (.inl rfl))
   .exact .inr (.inr (.inr rfl))
set_option maxRecDepth 100000 in
theorem zeg (w:World) (cc:CC):
 uP 133 #[.agg (uC cc)] w fun e w'=>e= .returned (.int .u8 (asksK cc.k))/\uB w w':=by
 delta uC uB uP
 have HBX:=qh (BC.start w #[.int .u8 cc.k, .slice cc.pa cc.pl cc.pc, .string cc.key, .int .i64 cc.i, .int .i64 cc.j, .int .i64 cc.n, .int .u8 cc.v.k, .int .i64 cc.v.n, .string cc.v.s, .slice cc.v.la cc.v.ll cc.v.lc, .slice cc.v.oa cc.v.ol cc.v.oc, .string cc.s] 54)
 have HAL:=qh ((Below.refl _ _).alloc (Nat.le_refl _) (.cells #[.int .u8 cc.k, .slice cc.pa cc.pl cc.pc, .string cc.key, .int .i64 cc.i, .int .i64 cc.j, .int .i64 cc.n, .int .u8 cc.v.k, .int .i64 cc.v.n, .string cc.v.s, .slice cc.v.la cc.v.ll cc.v.lc, .slice cc.v.oa cc.v.ol cc.v.oc, .string cc.s] 54):uB w _)
 obtain ⟨R,hR⟩:∃R,asksK cc.k=R:=⟨_,rfl⟩
 rw [hR]
 obtain ⟨ck,hck⟩:∃ck,cc.k=ck:=⟨_,rfl⟩
 rw [hck] at HBX HAL hR ⊢
 have HR:=qh hR
 clear hck hR
 by_cases e1:ck=1
 .cases e1
  obtain rfl:R=2:=by rw [<-HR.out];rfl
  go_enter Tryz.func133,Tryz.ntmps133
  go_wp2_with fail
  go_returns
  exact ⟨rfl,HAL.out⟩
 have f1:(ck==1)=false:=by simp [e1]
 by_cases e2:ck=2
 .cases e2
  obtain rfl:R=5:=by rw [<-HR.out];rfl
  go_enter Tryz.func133,Tryz.ntmps133
  go_wp2_with fail
  go_returns
  exact ⟨rfl,HAL.out⟩
 have f2:(ck==2)=false:=by simp [e2]
 by_cases e3:ck=3
 .cases e3
  obtain rfl:R=5:=by rw [<-HR.out];rfl
  go_enter Tryz.func133,Tryz.ntmps133
  go_wp2_with fail
  go_returns
  exact ⟨rfl,HAL.out⟩
 have f3:(ck==3)=false:=by simp [e3]
 by_cases e8:ck=8
 .cases e8
  obtain rfl:R=3:=by rw [<-HR.out];rfl
  go_enter Tryz.func133,Tryz.ntmps133
  go_wp2_with fail
  go_returns
  exact ⟨rfl,HAL.out⟩
 have f8:(ck==8)=false:=by simp [e8]
 by_cases e9:ck=9
 .cases e9
  obtain rfl:R=3:=by rw [<-HR.out];rfl
  go_enter Tryz.func133,Tryz.ntmps133
  go_wp2_with fail
  go_returns
  exact ⟨rfl,HAL.out⟩
 have f9:(ck==9)=false:=by simp [e9]
 obtain rfl:R=4:=by rw [<-HR.out,asksK,if_neg e1,if_neg (by omega),if_neg (by omega)]
 go_enter Tryz.func133,Tryz.ntmps133
 go_wp2_with fail
 go_returns
 exact ⟨rfl,HAL.out⟩
set_option maxRecDepth 100000 in
theorem zhq (w:World) (vk vn:Int) (vs:ByteArray) (la:Option Addr) (ll lc:Nat) (oa:Option Addr) (ol oc:Nat) (v:V) (hv:IsVal w w.heap.size v ⟨vk,vn,vs,la,ll,lc,oa,ol,oc⟩) (hs:vs.size<=1000000000000) (cc:CC) (hcb:cc.Bnd):
 uP 91 #[.agg (uU vk vn vs la ll lc oa ol oc), .agg (uC cc)] w fun e w'=>e= .returned (.int .u16 (kindsP v cc.k cc.i cc.j cc.n cc.key))/\uB w w':=by
 delta uU uC uB uP
 obtain ⟨k',n',s',l,o,rfl⟩:=v.eta
 obtain ⟨e1,e2,e3,hbd,hvl,hvo⟩:=hv.lists
 dsimp only at e1 e2 e3 hvl hvo
 subst e1 e2 e3
 have k1:=hvl.few;have k2:=hvl.max;have k3:=hvo.few;have k4:=hvo.max
 obtain ⟨R,hR⟩:∃R,kindsP (.mk vk vn vs l o) cc.k cc.i cc.j cc.n cc.key=R:=⟨_,rfl⟩
 rw [hR]
 rw [zka] at hR
 change (if vk≠asksK cc.k then (31:Int) else if vk=4 then lCheck l.length cc.k cc.i cc.j else if vk=3 then tCheck vs cc.k cc.i cc.n else if cc.k=3/\fieldIs o cc.key=false then 33 else 0)=R at hR
 have hll:l.length=ll:=by have:=hvl.len;omega
 rw [hll] at hR
 have HAS:Hid (∀W,uP 133 #[.agg (uC cc)] W fun e w'=>e= .returned (.int .u8 (asksK cc.k))/\uB W w'):=fun W=>zeg W cc
 have HSQ:Hid (∀W,uP 134 #[.int .i64 ll, .agg (uC cc)] W fun e w'=>e= .returned (.int .u16 (lCheck ll cc.k cc.i cc.j))/\uB W w'):=fun W=>X3 W ll (by omega) cc
 have HTC:Hid (∀W,uP 135 #[.string vs, .agg (uC cc)] W fun e w'=>e= .returned (.int .u16 (tCheck vs cc.k cc.i cc.n))/\uB W w'):=fun W=>zc9 W vs cc hcb hs
 have HFD:Hid (∀W,uB w W->uP 113 #[.agg (uU vk vn vs la ll lc oa ol oc), .string cc.key] W fun e w'=>e= .returned (.tuple #[.int .i64 (fieldK o cc.key:Int), .bool (fieldIs o cc.key)])/\uB W w'):=fun W hW=>Jo W o cc.key ⟨vk,vn,vs,la,ll,lc,oa,ol,oc⟩ (hvo.later_ hW)
 obtain ⟨LC,hLC⟩:∃LC,lCheck ll cc.k cc.i cc.j=LC:=⟨_,rfl⟩
 obtain ⟨TC,hTC⟩:∃TC,tCheck vs cc.k cc.i cc.n=TC:=⟨_,rfl⟩
 obtain ⟨is,his⟩:∃is,fieldIs o cc.key=is:=⟨_,rfl⟩
 obtain ⟨fk,hfk⟩:∃fk,fieldK o cc.key=fk:=⟨_,rfl⟩
 have hor:=znk cc.k
 obtain ⟨A,hA⟩:∃A,asksK cc.k=A:=⟨_,rfl⟩
 rw [hLC] at HSQ hR
 rw [hTC] at HTC hR
 rw [his] at HFD hR
 rw [hfk] at HFD
 rw [hA] at HAS hR hor
 have HB:=qh (KBk.start w ⟨vk,vn,vs,la,ll,lc,oa,ol,oc⟩ cc 29 54)
 have HBD:=qh (HB.out.next (Zf _) (by simp))
 have HR:=qh hR
 clear hR hLC hTC his hfk hA hll hv hbd hvl hvo hs hcb
 by_cases ev:vk=A
 .cases ev
  have h34:vk=3∨vk=4∨(vk≠3/\vk≠4):=by omega
  rcases h34 with rfl|rfl|⟨n3,n4⟩
  .obtain rfl:R=TC:=by rw [<-HR.out];rfl
   go_enter Tryz.func91,Tryz.ntmps91
   go_wp2_with fail
   go_region_with (go_simp;go_at_call 133;(with_reducible refine (HAS.out _).mono ?_);rintro e w4 ⟨rfl,hb4⟩;have B4:=HBD.out.next hb4 (by simp);obtain ⟨v0,v1,v2,v3,v4⟩:=row5 B4.v.at_;obtain ⟨b0,b1,b2,b3,b4,b5,b6,b7,b8,b9,b10,b11⟩:=row12 B4.c.at_;have z0:=B4.v.lt;have z1:=B4.c.lt;have HB4:=qh B4;clear hb4 B4)
   all_goals (go_wp2_with fail;refine (HTC.out _).mono ?_;rintro e w5 ⟨rfl,hb5⟩;go_wp2_with fail;go_returns;exact ⟨rfl,HB4.out.below.trans (hb5.mono HB4.out.below.size)⟩)
  .obtain rfl:R=LC:=by rw [<-HR.out];rfl
   go_enter Tryz.func91,Tryz.ntmps91
   go_wp2_with fail
   go_region_with (go_simp;go_at_call 133;(with_reducible refine (HAS.out _).mono ?_);rintro e w4 ⟨rfl,hb4⟩;have B4:=HBD.out.next hb4 (by simp);obtain ⟨v0,v1,v2,v3,v4⟩:=row5 B4.v.at_;obtain ⟨b0,b1,b2,b3,b4,b5,b6,b7,b8,b9,b10,b11⟩:=row12 B4.c.at_;have z0:=B4.v.lt;have z1:=B4.c.lt;have HB4:=qh B4;clear hb4 B4)
   all_goals (go_wp2_with fail;refine (HSQ.out _).mono ?_;rintro e w5 ⟨rfl,hb5⟩;go_wp2_with fail;go_returns;exact ⟨rfl,HB4.out.below.trans (hb5.mono HB4.out.below.size)⟩)
  .have hR2:(if cc.k=3/\is=false then (33:Int) else 0)=R:=by have h:=HR.out;rwa [if_neg (fun h=>h rfl),if_neg n4,if_neg n3] at h
   have g3:(vk==3)=false:=by simp [n3]
   have g4:(vk==4)=false:=by simp [n4]
   have HR2:=qh hR2
   clear HR hR2 n3 n4 hor
   by_cases e3:cc.k=3
   .have f3:(cc.k==3)=true:=by simp [e3]
    cases is with
    | false=>
      obtain rfl:R=33:=by rw [<-HR2.out,if_pos ⟨e3,rfl⟩]
      clear e3
      go_enter Tryz.func91,Tryz.ntmps91
      go_wp2_with fail
      go_region_with (go_simp;go_at_call 133;(with_reducible refine (HAS.out _).mono ?_);rintro e w4 ⟨rfl,hb4⟩;have B4:=HBD.out.next hb4 (by simp);obtain ⟨v0,v1,v2,v3,v4⟩:=row5 B4.v.at_;obtain ⟨b0,b1,b2,b3,b4,b5,b6,b7,b8,b9,b10,b11⟩:=row12 B4.c.at_;have z0:=B4.v.lt;have z1:=B4.c.lt;have HB4:=qh B4;clear hb4 B4)
      all_goals (go_wp2_with fail;refine (HFD.out _ HB4.out.below).mono ?_;rintro e w5 ⟨rfl,hb5⟩;have B5:=HB4.out.next hb5 (by omega);clear v0 v1 v2 v3 v4 b0 b1 b2 b3 b4 b5 b6 b7 b8 b9 b10 b11 z0 z1;obtain ⟨v0,v1,v2,v3,v4⟩:=row5 B5.v.at_;obtain ⟨b0,b1,b2,b3,b4,b5,b6,b7,b8,b9,b10,b11⟩:=row12 B5.c.at_;have z0:=B5.v.lt;have z1:=B5.c.lt;have HB5:=qh B5;clear hb5 B5;go_wp2_with fail;go_returns;exact ⟨rfl,HB5.out.below⟩)
    | true=>
      obtain rfl:R=0:=by rw [<-HR2.out,if_neg (by simp)]
      clear e3
      go_enter Tryz.func91,Tryz.ntmps91
      go_wp2_with fail
      go_region_with (go_simp;go_at_call 133;(with_reducible refine (HAS.out _).mono ?_);rintro e w4 ⟨rfl,hb4⟩;have B4:=HBD.out.next hb4 (by simp);obtain ⟨v0,v1,v2,v3,v4⟩:=row5 B4.v.at_;obtain ⟨b0,b1,b2,b3,b4,b5,b6,b7,b8,b9,b10,b11⟩:=row12 B4.c.at_;have z0:=B4.v.lt;have z1:=B4.c.lt;have HB4:=qh B4;clear hb4 B4)
      all_goals (go_wp2_with fail;refine (HFD.out _ HB4.out.below).mono ?_;rintro e w5 ⟨rfl,hb5⟩;have B5:=HB4.out.next hb5 (by omega);clear v0 v1 v2 v3 v4 b0 b1 b2 b3 b4 b5 b6 b7 b8 b9 b10 b11 z0 z1;obtain ⟨v0,v1,v2,v3,v4⟩:=row5 B5.v.at_;obtain ⟨b0,b1,b2,b3,b4,b5,b6,b7,b8,b9,b10,b11⟩:=row12 B5.c.at_;have z0:=B5.v.lt;have z1:=B5.c.lt;have HB5:=qh B5;clear hb5 B5;go_wp2_with fail;go_returns;exact ⟨rfl,HB5.out.below⟩)
   .have f3:(cc.k==3)=false:=by simp [e3]
    obtain rfl:R=0:=by rw [<-HR2.out,if_neg (fun h=>e3 h.1)]
    clear e3
    go_enter Tryz.func91,Tryz.ntmps91
    go_wp2_with fail
    go_region_with (go_simp;go_at_call 133;(with_reducible refine (HAS.out _).mono ?_);rintro e w4 ⟨rfl,hb4⟩;have B4:=HBD.out.next hb4 (by simp);obtain ⟨v0,v1,v2,v3,v4⟩:=row5 B4.v.at_;obtain ⟨b0,b1,b2,b3,b4,b5,b6,b7,b8,b9,b10,b11⟩:=row12 B4.c.at_;have z0:=B4.v.lt;have z1:=B4.c.lt;have HB4:=qh B4;clear hb4 B4)
    all_goals (go_wp2_with fail;refine (HFD.out _ HB4.out.below).mono ?_;rintro e w5 ⟨rfl,hb5⟩;have B5:=HB4.out.next hb5 (by omega);clear v0 v1 v2 v3 v4 b0 b1 b2 b3 b4 b5 b6 b7 b8 b9 b10 b11 z0 z1;obtain ⟨v0,v1,v2,v3,v4⟩:=row5 B5.v.at_;obtain ⟨b0,b1,b2,b3,b4,b5,b6,b7,b8,b9,b10,b11⟩:=row12 B5.c.at_;have z0:=B5.v.lt;have z1:=B5.c.lt;have HB5:=qh B5;clear hb5 B5;go_wp2_with fail;go_returns;exact ⟨rfl,HB5.out.below⟩)
 .have fv:(vk !=A)=true:=by simp [ev]
  obtain rfl:R=31:=by rw [<-HR.out,if_pos ev]
  go_enter Tryz.func91,Tryz.ntmps91
  go_wp2_with fail
  go_region_with (go_simp;go_at_call 133;(with_reducible refine (HAS.out _).mono ?_);rintro e w4 ⟨rfl,hb4⟩;have B4:=HBD.out.next hb4 (by simp);obtain ⟨v0,v1,v2,v3,v4⟩:=row5 B4.v.at_;obtain ⟨b0,b1,b2,b3,b4,b5,b6,b7,b8,b9,b10,b11⟩:=row12 B4.c.at_;have z0:=B4.v.lt;have z1:=B4.c.lt;have HB4:=qh B4;clear hb4 B4)
  all_goals (go_wp2_with fail;go_returns;exact ⟨rfl,HB4.out.below⟩)
end Go.Proofs.YtbgheehjfnoiiaaGreatDoor
