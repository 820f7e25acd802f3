/-
  Contracts of the functions that the law reaches: conciliatorref09.turned: what it makes.
-/
import Derived.Test.YtnjgbiachcfigaaGreatDoorIa37
import Derived.Test.YtnjgbiachcfigaaGreatDoorIa38
namespace Go.Proofs.YtnjgbiachcfigaaGreatDoor
open Go.RowKit
set_option maxHeartbeats 16000000
theorem IsVal.flds {w:World} {B:Nat} {x:V} {c:VC} (h:IsVal w B x c):IsFields w B x.os c.oa c.ol c.oc:=by
 obtain ⟨k,n,s,l,o,rfl⟩:=x.eta
 exact h.lists.2.2.2.2.2
set_option maxRecDepth 100000 in
theorem zex (w:World) (x:V) (xc:VC) (hx:IsVal w w.heap.size x xc) (p:List St) (xv:V) (cc:CC) (hcb:cc.Bnd) (hp:IsSteps w w.heap.size p cc.pa cc.pl cc.pc) (hk:kindsP x cc.k cc.i cc.j cc.n cc.key=0) (hkk:1<=cc.k/\cc.k<=9) (hsz:cc.s.size<=1000000000000) (hxz:xc.s.size<=1000000000000) (hT:Tabs w):
 uP 65 #[.agg (uV xc), .agg (uC cc)] w (TNPost w (turnP x ⟨cc.k,p,cc.key,cc.i,cc.j,cc.n,xv,cc.s⟩)):=by
 delta uV uC uP
 obtain ⟨DM,hDM⟩:∃DM,turnP x ⟨cc.k,p,cc.key,cc.i,cc.j,cc.n,xv,cc.s⟩=DM:=⟨_,rfl⟩
 rw [hDM]
 have HDM:=qh hDM;have HX:=qh hx;have HP:=qh hp;have HCB:=qh hcb
 have HKD:=qh hk;have HSZ:=qh hsz;have HXZ:=qh hxz;have HTT:=qh hT
 clear hDM hx hp hcb hk hsz hxz hT
 have HBX:∀t0 t1 t2 t3,IT w ((((w.alloc (.cells (uV xc) t0)).alloc (.cells (uC cc) t1)).alloc (.cells #[.int .u8 0, .slice none 0 0, .string { data:= #[] }, .int .i64 0, .int .i64 0, .int .i64 0, .int .u8 0, .int .i64 0, .string { data:= #[] }, .slice none 0 0, .slice none 0 0, .string { data:= #[] }] t2)).alloc (.cells #[.int .u8 cc.k, .slice cc.pa cc.pl cc.pc, .string { data:= #[] }, .int .i64 0, .int .i64 0, .int .i64 0, .int .u8 0, .int .i64 0, .string { data:= #[] }, .slice none 0 0, .slice none 0 0, .string { data:= #[] }] t3)) xc cc (ccat cc.k cc 0):=fun t0 t1 t2 t3=>by
  obtain ⟨q1,q2,q3,q4,q5⟩:=Jp w #[.int .u8 xc.k, .int .i64 xc.n, .string xc.s, .slice xc.la xc.ll xc.lc, .slice xc.oa xc.ol xc.oc] #[.int .u8 cc.k, .slice cc.pa cc.pl cc.pc, .string cc.key, .int .i64 cc.i, .int .i64 cc.j, .int .i64 cc.n, .int .u8 cc.v.k, .int .i64 cc.v.n, .string cc.v.s, .slice cc.v.la cc.v.ll cc.v.lc, .slice cc.v.oa cc.v.ol cc.v.oc, .string cc.s] #[.int .u8 0, .slice none 0 0, .string { data:= #[] }, .int .i64 0, .int .i64 0, .int .i64 0, .int .u8 0, .int .i64 0, .string { data:= #[] }, .slice none 0 0, .slice none 0 0, .string { data:= #[] }] #[.int .u8 cc.k, .slice cc.pa cc.pl cc.pc, .string { data:= #[] }, .int .i64 0, .int .i64 0, .int .i64 0, .int .u8 0, .int .i64 0, .string { data:= #[] }, .slice none 0 0, .slice none 0 0, .string { data:= #[] }] t0 t1 t2 t3
  exact ⟨q1,q2,q3,q4,q5⟩
 replace HBX:=qh (HBX 36 39 39 39)
 go_enter Tryz.func65,Tryz.ntmps65
 generalize hQ0:bodyPost _ _ _=Q0
 have HQ:=qh hQ0
 clear hQ0
 go_upto_region 2 with fail
 obtain ⟨w1,hw1⟩:∃w1,(((w.alloc (.cells (uV xc) 36)).alloc (.cells (uC cc) 39)).alloc (.cells #[.int .u8 0, .slice none 0 0, .string { data:= #[] }, .int .i64 0, .int .i64 0, .int .i64 0, .int .u8 0, .int .i64 0, .string { data:= #[] }, .slice none 0 0, .slice none 0 0, .string { data:= #[] }] 39)).alloc (.cells #[.int .u8 cc.k, .slice cc.pa cc.pl cc.pc, .string { data:= #[] }, .int .i64 0, .int .i64 0, .int .i64 0, .int .u8 0, .int .i64 0, .string { data:= #[] }, .slice none 0 0, .slice none 0 0, .string { data:= #[] }] 39)=w1:=⟨_,rfl⟩
 rw [hw1] at HBX ⊢
 obtain ⟨K,hK⟩:∃K,cc.k=K:=⟨_,rfl⟩
 rw [hK] at HBX HDM HKD hkk
 have b0:w1.cell? ⟨w.heap.size+1,0,none⟩=some (.int .u8 K):=by rw [<-hK];exact HBX.out.c.at_ 0 _ rfl
 clear hK
 have zx:=HBX.out.x.lt;have zc:=HBX.out.c.lt;have zd:=HBX.out.d.lt
 clear hw1
 go_upto_block 0 with fail
 go_cut [] from 6 (fun wc=>∃dc,IT w wc xc cc dc/\IsComp wc wc.heap.size DM dc)
 case rest=>
  obtain ⟨dc,hit,hic⟩:=hcut
  have HIC:=qh hic;have HIT:=qh hit
  obtain ⟨e0,e1,e2,e3,e4,e5,e6,e7,e8,e9,e10,e11⟩:=row12 hit.d.at_
  have ze:=hit.d.lt
  clear hit hic b0 zx zc zd
  go_wp2_with fail
  refine (zc5 _ _ _ HIC.out).mono ?_
  rintro e w9 ⟨⟨f,rfl,hf⟩,hb9⟩
  have HI9:=qh (HIT.out.keep hb9)
  have HF:=qh hf
  have zW:=HIT.out.r.lt
  obtain ⟨r0,r1,r2,r3,r4,r5,r6,r7,r8,r9,r10,r11⟩:=row12 HI9.out.r.at_
  have zr:=HI9.out.r.lt;have gr:=HI9.out.r.fr
  clear hf hb9 e0 e1 e2 e3 e4 e5 e6 e7 e8 e9 e10 e11 ze HIC HIT
  go_wp2_with fail
  rw [<-HQ.out]
  exact ⟨rfl,_,zm0 rfl (Zm (c0:=czero) HI9.out.r f),⟨f,rfl,Ju HF.out zW (by omega) f⟩,Below.setC HI9.out.below (by omega) f⟩
 case first=>
  rcases (show K=1∨K=4∨K=7∨K=8∨K=5∨K=6∨K=9∨K=2∨K=3 by omega) with rfl|rfl|rfl|rfl|rfl|rfl|rfl|rfl|rfl
  .have hib:=HBX.out
   have b5:=hib.c.at_ 5 _ rfl;have d5:=hib.d.at_ 5 _ rfl;have gd:=hib.d.fr
   clear hib
   go_wp2_with fail
   go_meet
   have hit:=HBX.out.cell 5 (.int .i64 (wrap64 (-cc.n))) (d2:=⟨1,cc.pa,cc.pl,cc.pc, .empty,0,0,wrap64 (-cc.n),vzero, .empty⟩) rfl (by decide)
   refine ⟨_,hit, ?_⟩
   rw [<-HDM.out,show turnP x ⟨1,p,cc.key,cc.i,cc.j,cc.n,xv,cc.s⟩=⟨1,p, .empty,0,0,wrap64 (-cc.n),V.none, .empty⟩ from rfl]
   exact Z2 (cc:=cc) 1 0 (by omega) ⟨by omega,by omega⟩ (HP.out.later_ hit.below) 0 (wrap64 (-cc.n)) (by omega) ⟨Jm _,Jb _⟩ .empty .empty (by decide) (by decide) V.none vzero (Zo _ _)
  .have hib:=HBX.out
   have b3:=hib.c.at_ 3 _ rfl;have d0:=hib.d.at_ 0 _ rfl;have d3:=hib.d.at_ 3 _ rfl;have gd:=hib.d.fr
   clear hib
   go_wp2_with fail
   go_meet
   have hit:=(HBX.out.cell 0 (.int .u8 5) (d2:=⟨5,cc.pa,cc.pl,cc.pc, .empty,0,0,0,vzero, .empty⟩) rfl (by decide)).cell 3 (.int .i64 cc.i) (d2:=⟨5,cc.pa,cc.pl,cc.pc, .empty,cc.i,0,0,vzero, .empty⟩) rfl (by decide)
   refine ⟨_,hit, ?_⟩
   rw [<-HDM.out,show turnP x ⟨4,p,cc.key,cc.i,cc.j,cc.n,xv,cc.s⟩=⟨5,p, .empty,cc.i,0,0,V.none, .empty⟩ from rfl]
   exact Z2 (cc:=cc) 5 cc.i (by omega) ⟨HCB.out.i0,HCB.out.i1⟩ (HP.out.later_ hit.below) 0 0 (by omega) (by omega) .empty .empty (by decide) (by decide) V.none vzero (Zo _ _)
  .have hib:=HBX.out
   have b3:=hib.c.at_ 3 _ rfl;have b4:=hib.c.at_ 4 _ rfl;have d3:=hib.d.at_ 3 _ rfl;have d4:=hib.d.at_ 4 _ rfl;have gd:=hib.d.fr
   clear hib
   go_wp2_with fail
   go_meet
   have hit:=(HBX.out.cell 3 (.int .i64 cc.j) (d2:=⟨7,cc.pa,cc.pl,cc.pc, .empty,cc.j,0,0,vzero, .empty⟩) rfl (by decide)).cell 4 (.int .i64 cc.i) (d2:=⟨7,cc.pa,cc.pl,cc.pc, .empty,cc.j,cc.i,0,vzero, .empty⟩) rfl (by decide)
   refine ⟨_,hit, ?_⟩
   rw [<-HDM.out,show turnP x ⟨7,p,cc.key,cc.i,cc.j,cc.n,xv,cc.s⟩=⟨7,p, .empty,cc.j,cc.i,0,V.none, .empty⟩ from rfl]
   exact Z2 (cc:=cc) 7 cc.j (by omega) ⟨HCB.out.j0,HCB.out.j1⟩ (HP.out.later_ hit.below) cc.i 0 ⟨HCB.out.i0,HCB.out.i1⟩ (by omega) .empty .empty (by decide) (by decide) V.none vzero (Zo _ _)
  .have hib:=HBX.out
   have b3:=hib.c.at_ 3 _ rfl;have d0:=hib.d.at_ 0 _ rfl;have d3:=hib.d.at_ 3 _ rfl;have gd:=hib.d.fr
   clear hib
   go_upto_region 29 with fail
   have him:=(HBX.out.cell 0 (.int .u8 9) (d2:=⟨9,cc.pa,cc.pl,cc.pc, .empty,0,0,0,vzero, .empty⟩) rfl (by decide)).cell 3 (.int .i64 cc.i) (d2:=⟨9,cc.pa,cc.pl,cc.pc, .empty,cc.i,0,0,vzero, .empty⟩) rfl (by decide)
   obtain ⟨wm,hwm⟩:∃wm,((w1.setCell ⟨w.heap.size+1+1+1,0,none⟩ (.int .u8 9)).setCell ⟨w.heap.size+1+1+1,3,none⟩ (.int .i64 cc.i))=wm:=⟨_,rfl⟩
   rw [hwm] at him ⊢
   have HIM:=qh him
   clear hwm
   have b11:=him.c.at_ 11 _ rfl;have zm:=him.c.lt
   clear b0 b3 d0 d3 gd zx zc zd
   clear him
   go_wp2_with fail
   refine (K5 _ _ HSZ.out (HTT.out.below HIM.out.below)).mono ?_
   rintro e w2 ⟨rfl,hb2⟩
   have hi2:=HIM.out.keep hb2
   have HI2:=qh hi2
   have d5:=hi2.d.at_ 5 _ rfl;have gd:=hi2.d.fr;have zd:=hi2.d.lt
   clear hi2 hb2
   go_wp2_with fail
   go_meet
   have hit:=HI2.out.cell 5 (.int .i64 (textN cc.s)) (d2:=⟨9,cc.pa,cc.pl,cc.pc, .empty,cc.i,0,textN cc.s,vzero, .empty⟩) rfl (by decide)
   refine ⟨_,hit, ?_⟩
   rw [<-HDM.out,show turnP x ⟨8,p,cc.key,cc.i,cc.j,cc.n,xv,cc.s⟩=⟨9,p, .empty,cc.i,0,textN cc.s,V.none, .empty⟩ from rfl]
   exact Z2 (cc:=cc) 9 cc.i (by omega) ⟨HCB.out.i0,HCB.out.i1⟩ (HP.out.later_ hit.below) 0 (textN cc.s) (by omega) (by have:=(Yh cc.s).2;have:=HSZ.out;unfold textN;omega) .empty .empty (by decide) (by decide) V.none vzero (Zo _ _)
  .have hib:=HBX.out
   have b3:=hib.c.at_ 3 _ rfl;have d0:=hib.d.at_ 0 _ rfl;have d3:=hib.d.at_ 3 _ rfl;have gd:=hib.d.fr
   clear hib
   obtain ⟨I,hI⟩:∃I:Nat,cc.i=I:=⟨cc.i.toNat,by have:=(Xh (by decide) HKD.out).1;omega⟩
   have hIl:I<x.ls.length:=by have:=(Xh (by decide) HKD.out).2;omega
   have hll:=HX.out.vals.len
   obtain ⟨vb,vo,f,hvp,hla,hvB,hva,hiv⟩:=HX.out.vals.get (k:=I) (by omega)
   have HIV:=qh hiv;have HII:=qh hI;have HLA:=qh hla
   have hI0:¬((I:Int)<0):=by omega
   have hIn:(I:Int)<(xc.ll:Int):=by omega
   clear hiv hla hI hll
   go_upto_region 19 with fail
   have him:=(HBX.out.cell 0 (.int .u8 4) (d2:=⟨4,cc.pa,cc.pl,cc.pc, .empty,0,0,0,vzero, .empty⟩) rfl (by decide)).cell 3 (.int .i64 cc.i) (d2:=⟨4,cc.pa,cc.pl,cc.pc, .empty,cc.i,0,0,vzero, .empty⟩) rfl (by decide)
   obtain ⟨wm,hwm⟩:∃wm,((w1.setCell ⟨w.heap.size+1+1+1,0,none⟩ (.int .u8 4)).setCell ⟨w.heap.size+1+1+1,3,none⟩ (.int .i64 cc.i))=wm:=⟨_,rfl⟩
   rw [hwm] at him ⊢
   have HIM:=qh him
   clear hwm
   have hvW:=Nat.lt_of_lt_of_le hvB him.below.size
   replace hva:=hva.keep him.below hvB
   have b3':=him.c.at_ 3 _ rfl;have x3:=him.x.at_ 3 _ rfl
   rw [HII.out] at b3'
   rw [HLA.out] at x3
   have zm:=him.c.lt;have zn:=him.x.lt;have zd':=him.d.lt;have gd':=him.d.fr
   have d6:=him.d.at_ 6 _ rfl;have d7:=him.d.at_ 7 _ rfl;have d8:=him.d.at_ 8 _ rfl;have d9:=him.d.at_ 9 _ rfl;have d10:=him.d.at_ 10 _ rfl
   have v0:=hva.c0;have v1:=hva.c1;have v2:=hva.c2;have v3:=hva.c3;have v4:=hva.c4
   clear b0 b3 d0 d3 gd zx zc zd
   clear him
   go_wp2_with fail
   go_meet
   have hit:=HIM.out.val f
   refine ⟨_,hit, ?_⟩
   rw [<-HDM.out,show turnP x ⟨5,p,cc.key,cc.i,cc.j,cc.n,xv,cc.s⟩=⟨4,p, .empty,cc.i,0,0,x.ls.getD cc.i.toNat V.none, .empty⟩ from rfl]
   exact Z2 (cc:=cc) 4 cc.i (by omega) ⟨HCB.out.i0,HCB.out.i1⟩ (HP.out.later_ hit.below) 0 0 (by omega) (by omega) .empty .empty (by decide) (by decide) _ f (by rw [HII.out,Int.toNat_natCast,List.getD_eq_getElem?_getD,List.getElem?_eq_getElem hvp];exact HIV.out.later_ hit.below)
  .have hib:=HBX.out
   have b3:=hib.c.at_ 3 _ rfl;have d0:=hib.d.at_ 0 _ rfl;have d3:=hib.d.at_ 3 _ rfl;have gd:=hib.d.fr
   clear hib
   obtain ⟨I,hI⟩:∃I:Nat,cc.i=I:=⟨cc.i.toNat,by have:=(Xh (by decide) HKD.out).1;omega⟩
   have hIl:I<x.ls.length:=by have:=(Xh (by decide) HKD.out).2;omega
   have hll:=HX.out.vals.len
   obtain ⟨vb,vo,f,hvp,hla,hvB,hva,hiv⟩:=HX.out.vals.get (k:=I) (by omega)
   have HIV:=qh hiv;have HII:=qh hI;have HLA:=qh hla
   have hI0:¬((I:Int)<0):=by omega
   have hIn:(I:Int)<(xc.ll:Int):=by omega
   clear hiv hla hI hll
   go_upto_region 22 with fail
   have him:=HBX.out.cell 3 (.int .i64 cc.i) (d2:=⟨6,cc.pa,cc.pl,cc.pc, .empty,cc.i,0,0,vzero, .empty⟩) rfl (by decide)
   obtain ⟨wm,hwm⟩:∃wm,(w1.setCell ⟨w.heap.size+1+1+1,3,none⟩ (.int .i64 cc.i))=wm:=⟨_,rfl⟩
   rw [hwm] at him ⊢
   have HIM:=qh him
   clear hwm
   have hvW:=Nat.lt_of_lt_of_le hvB him.below.size
   replace hva:=hva.keep him.below hvB
   have b3':=him.c.at_ 3 _ rfl;have x3:=him.x.at_ 3 _ rfl
   rw [HII.out] at b3'
   rw [HLA.out] at x3
   have zm:=him.c.lt;have zn:=him.x.lt;have zd':=him.d.lt;have gd':=him.d.fr
   have d6:=him.d.at_ 6 _ rfl;have d7:=him.d.at_ 7 _ rfl;have d8:=him.d.at_ 8 _ rfl;have d9:=him.d.at_ 9 _ rfl;have d10:=him.d.at_ 10 _ rfl
   have v0:=hva.c0;have v1:=hva.c1;have v2:=hva.c2;have v3:=hva.c3;have v4:=hva.c4
   clear b0 b3 d0 d3 gd zx zc zd
   clear him
   go_wp2_with fail
   go_meet
   have hit:=HIM.out.val f
   refine ⟨_,hit, ?_⟩
   rw [<-HDM.out,show turnP x ⟨6,p,cc.key,cc.i,cc.j,cc.n,xv,cc.s⟩=⟨6,p, .empty,cc.i,0,0,x.ls.getD cc.i.toNat V.none, .empty⟩ from rfl]
   exact Z2 (cc:=cc) 6 cc.i (by omega) ⟨HCB.out.i0,HCB.out.i1⟩ (HP.out.later_ hit.below) 0 0 (by omega) (by omega) .empty .empty (by decide) (by decide) _ f (by rw [HII.out,Int.toNat_natCast,List.getD_eq_getElem?_getD,List.getElem?_eq_getElem hvp];exact HIV.out.later_ hit.below)
  .have hib:=HBX.out
   have b3:=hib.c.at_ 3 _ rfl;have d0:=hib.d.at_ 0 _ rfl;have d3:=hib.d.at_ 3 _ rfl;have gd:=hib.d.fr
   clear hib
   obtain ⟨ht3,hi0,hin,hn1⟩:=zbz HKD.out
   have hxs:=HX.out.strs
   obtain ⟨I,hI⟩:∃I:Nat,cc.i=I:=⟨cc.i.toNat,by omega⟩
   obtain ⟨J,hJ⟩:∃J:Nat,cc.n=J:=⟨cc.n.toNat,by omega⟩
   have HPT:=qh fun W hW=>zh1 W xc.s HXZ.out hW I J (by omega) (by rw [hxs];omega)
   have HIJ:=qh (show cc.i=I/\cc.n=J from ⟨hI,hJ⟩)
   have HXS:=qh hxs
   clear hI hJ hxs ht3 hi0 hin hn1
   go_upto_region 33 with fail
   have him:=(HBX.out.cell 0 (.int .u8 8) (d2:=⟨8,cc.pa,cc.pl,cc.pc, .empty,0,0,0,vzero, .empty⟩) rfl (by decide)).cell 3 (.int .i64 cc.i) (d2:=⟨8,cc.pa,cc.pl,cc.pc, .empty,cc.i,0,0,vzero, .empty⟩) rfl (by decide)
   obtain ⟨wm,hwm⟩:∃wm,((w1.setCell ⟨w.heap.size+1+1+1,0,none⟩ (.int .u8 8)).setCell ⟨w.heap.size+1+1+1,3,none⟩ (.int .i64 cc.i))=wm:=⟨_,rfl⟩
   rw [hwm] at him ⊢
   have HIM:=qh him
   clear hwm
   have x2:=him.x.at_ 2 _ rfl;have b3':=him.c.at_ 3 _ rfl;have b5:=him.c.at_ 5 _ rfl;have zm:=him.c.lt;have zn:=him.x.lt
   rw [HIJ.out.1] at b3'
   rw [HIJ.out.2] at b5
   clear b0 b3 d0 d3 gd zx zc zd
   clear him
   go_wp2_with fail
   refine (HPT.out _ (HTT.out.below HIM.out.below)).mono ?_
   rintro e w2 ⟨rfl,hb2⟩
   have hi2:=HIM.out.keep hb2
   have HI2:=qh hi2
   have d11:=hi2.d.at_ 11 _ rfl;have gd:=hi2.d.fr;have zd:=hi2.d.lt
   clear hi2 hb2
   go_wp2_with fail
   go_meet
   have hit:=HI2.out.cell 11 (.string (partT xc.s I J)) (d2:=⟨8,cc.pa,cc.pl,cc.pc, .empty,cc.i,0,0,vzero,partT xc.s I J⟩) rfl (by decide)
   refine ⟨_,hit, ?_⟩
   rw [<-HDM.out,show turnP x ⟨9,p,cc.key,cc.i,cc.j,cc.n,xv,cc.s⟩=⟨8,p, .empty,cc.i,0,0,V.none,partT x.str cc.i cc.n⟩ from rfl]
   rw [show partT x.str cc.i cc.n=partT xc.s I J by rw [HIJ.out.1,HIJ.out.2,HXS.out]]
   exact Z2 (cc:=cc) 8 cc.i (by omega) ⟨HCB.out.i0,HCB.out.i1⟩ (HP.out.later_ hit.below) 0 0 (by omega) (by omega) .empty (partT xc.s I J) (by decide) (by have:=HXZ.out;rw [partT,ByteArray.size_extract];omega) V.none vzero (Zo _ _)
  .have hib:=HBX.out
   obtain ⟨x0,x1,x2,x3,x4⟩:=row5 hib.x.at_
   have b2:=hib.c.at_ 2 _ rfl
   obtain ⟨FK,hFK⟩:∃FK,fieldK x.os cc.key=FK:=⟨_,rfl⟩
   obtain ⟨FI,hFI⟩:∃FI,fieldIs x.os cc.key=FI:=⟨_,rfl⟩
   have HCF:Hid (uP 75 #[.agg (uV xc), .string cc.key] w1 fun e w'=>e= .returned (.tuple #[.int .i64 (FK:Int), .bool FI])/\uB w1 w'):=qh (by
    rw [<-hFK, <-hFI];exact Yb w1 _ _ _ _ _ _ _ _ _ _ _ (HX.out.flds.later_ HBX.out.below))
   have HFI:=qh hFI;have HFK:=qh hFK
   clear hib b0 hFK hFI
   go_wp2_with fail
   refine HCF.out.mono ?_
   rintro e w2 ⟨rfl,hb2⟩
   have hi2:=HBX.out.keep hb2
   have HI2:=qh hi2
   clear x0 x1 x2 x3 x4 b2 zx zc zd
   have b2:=hi2.c.at_ 2 _ rfl;have d2:=hi2.d.at_ 2 _ rfl;have d0:=hi2.d.at_ 0 _ rfl;have gd:=hi2.d.fr;have zd:=hi2.d.lt;have zc:=hi2.c.lt
   clear hi2 hb2
   cases FI with
   | false=>
     go_wp2_with fail
     go_meet
     have hit:=(HI2.out.cell 2 (.string cc.key) (d2:=⟨2,cc.pa,cc.pl,cc.pc,cc.key,0,0,0,vzero, .empty⟩) rfl (by decide)).cell 0 (.int .u8 3) (d2:=⟨3,cc.pa,cc.pl,cc.pc,cc.key,0,0,0,vzero, .empty⟩) rfl (by decide)
     refine ⟨_,hit, ?_⟩
     rw [<-HDM.out]
     exact X0 2 (cc:= { cc with i:=0 }) rfl ⟨HCB.out.k0,HCB.out.k1,by dsimp only;omega,by dsimp only;omega,HCB.out.j0,HCB.out.j1,HCB.out.n0,HCB.out.n1,HCB.out.key1,HCB.out.s1⟩ (HP.out.later_ hit.below) (.inr ⟨HFI.out,rfl⟩)
   | true=>
     go_upto_region 12 with fail
     have him:=((HI2.out.cell 2 (.string cc.key) (d2:=⟨2,cc.pa,cc.pl,cc.pc,cc.key,0,0,0,vzero, .empty⟩) rfl (by decide)).cell 0 (.int .u8 3) (d2:=⟨3,cc.pa,cc.pl,cc.pc,cc.key,0,0,0,vzero, .empty⟩) rfl (by decide)).cell 0 (.int .u8 2) (d2:=⟨2,cc.pa,cc.pl,cc.pc,cc.key,0,0,0,vzero, .empty⟩) rfl (by decide)
     obtain ⟨wm,hwm⟩:∃wm,(((w2.setCell ⟨w.heap.size+1+1+1,2,none⟩ (.string cc.key)).setCell ⟨w.heap.size+1+1+1,0,none⟩ (.int .u8 3)).setCell ⟨w.heap.size+1+1+1,0,none⟩ (.int .u8 2))=wm:=⟨_,rfl⟩
     have HWM:=qh hwm
     rw [hwm] at him ⊢
     have HIM:=qh him
     have hlt:FK<x.os.length:=by rw [<-HFK.out];exact Ys HFI.out
     have hol:=HX.out.flds.len
     obtain ⟨vb,vo,f,hvp,hoa,hvB,_,_,hva,hiv⟩:=HX.out.flds.get (k:=FK) (by omega)
     have HIV:=qh hiv
     have hK0:¬((FK:Int)<0):=by omega
     have hKn:(FK:Int)<(xc.ol:Int):=by omega
     have hvW:=Nat.lt_of_lt_of_le hvB him.below.size
     replace hva:=hva.keep him.below hvB
     have x4:=him.x.at_ 4 _ rfl
     rw [hoa] at x4
     clear hoa hiv hol hwm b2 d2 d0 gd zd zc
     have zn:=him.x.lt;have zd:=him.d.lt;have gd:=him.d.fr
     have d6:=him.d.at_ 6 _ rfl;have d7:=him.d.at_ 7 _ rfl;have d8:=him.d.at_ 8 _ rfl;have d9:=him.d.at_ 9 _ rfl;have d10:=him.d.at_ 10 _ rfl
     have v0:=hva.c0;have v1:=hva.c1;have v2:=hva.c2;have v3:=hva.c3;have v4:=hva.c4
     clear him
     go_wp2_with fail
     go_meet
     have hit:=HIM.out.val f
     refine ⟨_,hit, ?_⟩
     rw [<-HDM.out]
     refine X0 2 (cc:= { cc with i:=0 }) rfl ⟨HCB.out.k0,HCB.out.k1,by dsimp only;omega,by dsimp only;omega,HCB.out.j0,HCB.out.j1,HCB.out.n0,HCB.out.n1,HCB.out.key1,HCB.out.s1⟩ (HP.out.later_ hit.below) (.inl ⟨HFI.out,f,rfl, ?_⟩)
     have hz:=HIV.out.later_ hit.below
     show IsVal _ _ (x.os.getD (fieldK x.os cc.key) (.empty,V.none)).2 f
     rw [HFK.out,List.getD_eq_getElem?_getD,List.getElem?_eq_getElem hvp]
     exact hz
  .have hib:=HBX.out
   obtain ⟨x0,x1,x2,x3,x4⟩:=row5 hib.x.at_
   have b2:=hib.c.at_ 2 _ rfl
   obtain ⟨FK,hFK⟩:∃FK,fieldK x.os cc.key=FK:=⟨_,rfl⟩
   obtain ⟨FI,hFI⟩:∃FI,fieldIs x.os cc.key=FI:=⟨_,rfl⟩
   have HCF:Hid (uP 75 #[.agg (uV xc), .string cc.key] w1 fun e w'=>e= .returned (.tuple #[.int .i64 (FK:Int), .bool FI])/\uB w1 w'):=qh (by
    rw [<-hFK, <-hFI];exact Yb w1 _ _ _ _ _ _ _ _ _ _ _ (HX.out.flds.later_ HBX.out.below))
   have HFI:=qh hFI;have HFK:=qh hFK
   clear hib b0 hFK hFI
   go_wp2_with fail
   refine HCF.out.mono ?_
   rintro e w2 ⟨rfl,hb2⟩
   have hi2:=HBX.out.keep hb2
   have HI2:=qh hi2
   clear x0 x1 x2 x3 x4 b2 zx zc zd
   have b2:=hi2.c.at_ 2 _ rfl;have d2:=hi2.d.at_ 2 _ rfl;have d0:=hi2.d.at_ 0 _ rfl;have gd:=hi2.d.fr;have zd:=hi2.d.lt;have zc:=hi2.c.lt
   clear hi2 hb2
   cases FI with
   | false=>
     go_wp2_with fail
     go_meet
     have hit:=(HI2.out.cell 2 (.string cc.key) (d2:=⟨3,cc.pa,cc.pl,cc.pc,cc.key,0,0,0,vzero, .empty⟩) rfl (by decide)).cell 0 (.int .u8 3) (d2:=⟨3,cc.pa,cc.pl,cc.pc,cc.key,0,0,0,vzero, .empty⟩) rfl (by decide)
     refine ⟨_,hit, ?_⟩
     rw [<-HDM.out]
     exact X0 3 (cc:= { cc with i:=0 }) rfl ⟨HCB.out.k0,HCB.out.k1,by dsimp only;omega,by dsimp only;omega,HCB.out.j0,HCB.out.j1,HCB.out.n0,HCB.out.n1,HCB.out.key1,HCB.out.s1⟩ (HP.out.later_ hit.below) (.inr ⟨HFI.out,rfl⟩)
   | true=>
     go_upto_region 12 with fail
     have him:=((HI2.out.cell 2 (.string cc.key) (d2:=⟨3,cc.pa,cc.pl,cc.pc,cc.key,0,0,0,vzero, .empty⟩) rfl (by decide)).cell 0 (.int .u8 3) (d2:=⟨3,cc.pa,cc.pl,cc.pc,cc.key,0,0,0,vzero, .empty⟩) rfl (by decide)).cell 0 (.int .u8 2) (d2:=⟨2,cc.pa,cc.pl,cc.pc,cc.key,0,0,0,vzero, .empty⟩) rfl (by decide)
     obtain ⟨wm,hwm⟩:∃wm,(((w2.setCell ⟨w.heap.size+1+1+1,2,none⟩ (.string cc.key)).setCell ⟨w.heap.size+1+1+1,0,none⟩ (.int .u8 3)).setCell ⟨w.heap.size+1+1+1,0,none⟩ (.int .u8 2))=wm:=⟨_,rfl⟩
     have HWM:=qh hwm
     rw [hwm] at him ⊢
     have HIM:=qh him
     have hlt:FK<x.os.length:=by rw [<-HFK.out];exact Ys HFI.out
     have hol:=HX.out.flds.len
     obtain ⟨vb,vo,f,hvp,hoa,hvB,_,_,hva,hiv⟩:=HX.out.flds.get (k:=FK) (by omega)
     have HIV:=qh hiv
     have hK0:¬((FK:Int)<0):=by omega
     have hKn:(FK:Int)<(xc.ol:Int):=by omega
     have hvW:=Nat.lt_of_lt_of_le hvB him.below.size
     replace hva:=hva.keep him.below hvB
     have x4:=him.x.at_ 4 _ rfl
     rw [hoa] at x4
     clear hoa hiv hol hwm b2 d2 d0 gd zd zc
     have zn:=him.x.lt;have zd:=him.d.lt;have gd:=him.d.fr
     have d6:=him.d.at_ 6 _ rfl;have d7:=him.d.at_ 7 _ rfl;have d8:=him.d.at_ 8 _ rfl;have d9:=him.d.at_ 9 _ rfl;have d10:=him.d.at_ 10 _ rfl
     have v0:=hva.c0;have v1:=hva.c1;have v2:=hva.c2;have v3:=hva.c3;have v4:=hva.c4
     clear him
     go_wp2_with fail
     go_meet
     have hit:=HIM.out.val f
     refine ⟨_,hit, ?_⟩
     rw [<-HDM.out]
     refine X0 3 (cc:= { cc with i:=0 }) rfl ⟨HCB.out.k0,HCB.out.k1,by dsimp only;omega,by dsimp only;omega,HCB.out.j0,HCB.out.j1,HCB.out.n0,HCB.out.n1,HCB.out.key1,HCB.out.s1⟩ (HP.out.later_ hit.below) (.inl ⟨HFI.out,f,rfl, ?_⟩)
     have hz:=HIV.out.later_ hit.below
     show IsVal _ _ (x.os.getD (fieldK x.os cc.key) (.empty,V.none)).2 f
     rw [HFK.out,List.getD_eq_getElem?_getD,List.getElem?_eq_getElem hvp]
     exact hz
end Go.Proofs.YtnjgbiachcfigaaGreatDoor
