/-
  Contracts of the functions that the law reaches: inv.field: what undoes a change at a.
-/
import Derived.Test.YtnjgbiachcfigaaGreatDoorIa36
namespace Go.Proofs.YtnjgbiachcfigaaGreatDoor
open Go.RowKit
set_option maxHeartbeats 16000000
theorem Jp (w:World) (a0 a1 a2 a3:Array Value) (t0 t1 t2 t3:TypeId):BC ((((w.alloc (.cells a0 t0)).alloc (.cells a1 t1)).alloc (.cells a2 t2)).alloc (.cells a3 t3)) w.heap.size a0.toList/\BC ((((w.alloc (.cells a0 t0)).alloc (.cells a1 t1)).alloc (.cells a2 t2)).alloc (.cells a3 t3)) (w.heap.size+1) a1.toList/\BC ((((w.alloc (.cells a0 t0)).alloc (.cells a1 t1)).alloc (.cells a2 t2)).alloc (.cells a3 t3)) (w.heap.size+2) a2.toList/\BC ((((w.alloc (.cells a0 t0)).alloc (.cells a1 t1)).alloc (.cells a2 t2)).alloc (.cells a3 t3)) (w.heap.size+3) a3.toList/\uB w ((((w.alloc (.cells a0 t0)).alloc (.cells a1 t1)).alloc (.cells a2 t2)).alloc (.cells a3 t3)):=by
 delta uB
 obtain ⟨w1,h1⟩:∃w1,w.alloc (.cells a0 t0)=w1:=⟨_,rfl⟩
 have s1:w1.heap.size=w.heap.size+1:=by rw [<-h1];simp
 have c1:BC w1 w.heap.size a0.toList:=by rw [<-h1];exact BC.start w a0 t0
 have l1:uB w w1:=by rw [<-h1];exact Zu w _
 rw [h1]
 obtain ⟨w2,h2⟩:∃w2,w1.alloc (.cells a1 t1)=w2:=⟨_,rfl⟩
 have s2:w2.heap.size=w.heap.size+2:=by rw [<-h2];simp [s1]
 have c2:BC w2 (w.heap.size+1) a1.toList:=by rw [<-h2, <-s1];exact BC.start w1 a1 t1
 have l2:uB w1 w2:=by rw [<-h2];exact Zu w1 _
 rw [h2]
 obtain ⟨w3,h3⟩:∃w3,w2.alloc (.cells a2 t2)=w3:=⟨_,rfl⟩
 have s3:w3.heap.size=w.heap.size+3:=by rw [<-h3];simp [s2]
 have c3:BC w3 (w.heap.size+2) a2.toList:=by rw [<-h3, <-s2];exact BC.start w2 a2 t2
 have l3:uB w2 w3:=by rw [<-h3];exact Zu w2 _
 rw [h3]
 obtain ⟨w4,h4⟩:∃w4,w3.alloc (.cells a3 t3)=w4:=⟨_,rfl⟩
 have c4:BC w4 (w.heap.size+3) a3.toList:=by rw [<-h4, <-s3];exact BC.start w3 a3 t3
 have l4:uB w3 w4:=by rw [<-h4];exact Zu w3 _
 rw [h4]
 have l34:=l3.trans (l4.mono l3.size)
 have l24:=l2.trans (l34.mono l2.size)
 exact ⟨c1.keep l24 (by omega),c2.keep l34 (by omega),c3.keep l4 (by omega),c4,l1.trans (l24.mono l1.size)⟩
structure IB (w W:World) (xc:VC) (cc dc:CC):Prop where
 x:BC W w.heap.size (vcells xc)
 c:BC W (w.heap.size+1) (ccells cc)
 d:BC W (w.heap.size+1+1) (ccells dc)
 r:BC W (w.heap.size+1+1+1) (ccells czero)
 below:Below w.heap.size w W
theorem IB.keep {w W W':World} {xc:VC} {cc dc:CC} (h:IB w W xc cc dc) (hb:uB W W'):IB w W' xc cc dc:=⟨h.x.keep hb h.x.lt,h.c.keep hb h.c.lt,h.d.keep hb h.d.lt,h.r.keep hb h.r.lt,h.below.trans (hb.mono h.below.size)⟩
theorem IB.store {w W W':World} {xc:VC} {cc dc d2:CC} (h:IB w W xc cc dc) (st:RStep W W' (w.heap.size+1+1)) (hd:BC W' (w.heap.size+1+1) (ccells d2)):IB w W' xc cc d2:=
 ⟨h.x.next st (by omega),h.c.next st (by omega),hd,h.r.next st (by omega),h.below.trans (st.lowC (by omega) (by have:=h.below.size;omega))⟩
theorem zc3 {tmps:Array Value} {W:World} {b:Nat} {d:CC} (ht:tmps[6]? =some (.pointer (some ⟨b,0,none⟩))) (h:BC W b (ccells d)):
 (results Tryz.f100 tmps).run Tryz.prog W= .ok (.agg #[.int .u8 d.k, .slice d.pa d.pl d.pc, .string d.key, .int .i64 d.i, .int .i64 d.j, .int .i64 d.n, .int .u8 d.v.k, .int .i64 d.v.n, .string d.v.s, .slice d.v.la d.v.ll d.v.lc, .slice d.v.oa d.v.ol d.v.oc, .string d.s]) W:=by
 obtain ⟨r0,r1,r2,r3,r4,r5,r6,r7,r8,r9,r10,r11⟩:=row12 h.at_
 simp [results,Tryz.results100,go_sem,ht,r0,r1,r2,r3,r4,r5,r6,r7,r8,r9,r10,r11]
def IFPost (w:World) (B0:Nat) (x:V) (cc dc:CC) (e:Ending) (w':World):Prop:=
 (∃f:CC,e= .returned (.agg #[.int .u8 f.k, .slice f.pa f.pl f.pc, .string f.key, .int .i64 f.i, .int .i64 f.j, .int .i64 f.n, .int .u8 f.v.k, .int .i64 f.v.n, .string f.v.s, .slice f.v.la f.v.ll f.v.lc, .slice f.v.oa f.v.ol f.v.oc, .string f.s])/\((fieldIs x.os cc.key=true/\∃fv,f= { dc with k:=2,key:=cc.key,v:=fv } /\IsVal w B0 (x.os.getD (fieldK x.os cc.key) (.empty,V.none)).2 fv)∨(fieldIs x.os cc.key=false/\f= { dc with k:=3,key:=cc.key })))/\Below w.heap.size w w'
set_option maxRecDepth 100000 in
theorem zbf (w:World) (B0:Nat) (hB0:B0<=w.heap.size) (x:V) (xc:VC) (hx:IsVal w B0 x xc) (cc dc:CC):
 uP 100 #[.agg (uV xc), .agg (uC cc), .agg (uC dc)] w (IFPost w B0 x cc dc):=by
 delta uV uC uP
 obtain ⟨k',n',s',l,o,rfl⟩:=x.eta
 obtain ⟨e1,e2,e3,hbd,hvl,hvo⟩:=hx.lists
 subst e1 e2 e3
 show Calls _ _ _ _ (IFPost w B0 _ _ _)
 obtain ⟨K,hK⟩:∃K,fieldK o cc.key=K:=⟨_,rfl⟩
 obtain ⟨B,hB⟩:∃B,fieldIs o cc.key=B:=⟨_,rfl⟩
 have HVF:Hid (∀W,uB w W->uP 79 #[.agg (uV xc), .string cc.key] W fun e w'=>e= .returned (.tuple #[.int .i64 (K:Int), .bool B])/\uB W w'):=fun W hW=>by
  rw [<-hK, <-hB];exact Qs W o cc.key xc ((hvo.more hB0).later_ hW)
 have HKO:Hid (B=true->K<o.length):=qh fun hb=>by
  rw [<-hK];rw [<-hB] at hb
  unfold fieldIs at hb
  cases hg:o[fieldK o cc.key]? with
  |none=>rw [hg] at hb;cases hb
  |some q=>exact (List.getElem?_eq_some_iff.1 hg).1
 have HVO:=qh hvo
 have HK:=qh hK;have HB:=qh hB
 have HOL:=qh hvo.len
 have HBX:∀t0 t1 t2 t3,IB w ((((w.alloc (.cells (uV xc) t0)).alloc (.cells (uC cc) t1)).alloc (.cells (uC dc) t2)).alloc (.cells #[.int .u8 0, .slice none 0 0, .string { data:= #[] }, .int .i64 0, .int .i64 0, .int .i64 0, .int .u8 0, .int .i64 0, .string { data:= #[] }, .slice none 0 0, .slice none 0 0, .string { data:= #[] }] t3)) xc cc dc:=fun t0 t1 t2 t3=>by
  obtain ⟨q1,q2,q3,q4,q5⟩:=Jp w #[.int .u8 xc.k, .int .i64 xc.n, .string xc.s, .slice xc.la xc.ll xc.lc, .slice xc.oa xc.ol xc.oc] #[.int .u8 cc.k, .slice cc.pa cc.pl cc.pc, .string cc.key, .int .i64 cc.i, .int .i64 cc.j, .int .i64 cc.n, .int .u8 cc.v.k, .int .i64 cc.v.n, .string cc.v.s, .slice cc.v.la cc.v.ll cc.v.lc, .slice cc.v.oa cc.v.ol cc.v.oc, .string cc.s] #[.int .u8 dc.k, .slice dc.pa dc.pl dc.pc, .string dc.key, .int .i64 dc.i, .int .i64 dc.j, .int .i64 dc.n, .int .u8 dc.v.k, .int .i64 dc.v.n, .string dc.v.s, .slice dc.v.la dc.v.ll dc.v.lc, .slice dc.v.oa dc.v.ol dc.v.oc, .string dc.s] #[.int .u8 0, .slice none 0 0, .string { data:= #[] }, .int .i64 0, .int .i64 0, .int .i64 0, .int .u8 0, .int .i64 0, .string { data:= #[] }, .slice none 0 0, .slice none 0 0, .string { data:= #[] }] t0 t1 t2 t3
  exact ⟨q1,q2,q3,q4,q5⟩
 replace HBX:=qh (HBX 36 39 39 39)
 clear hx hvl hvo hbd hK hB
 go_enter Tryz.func100,Tryz.ntmps100
 generalize hQ0:bodyPost _ _ _=Q0
 have HQ:=qh hQ0
 clear hQ0
 go_upto_region 1 with fail
 obtain ⟨w1,hw1⟩:∃w1,(((w.alloc (.cells (uV xc) 36)).alloc (.cells (uC cc) 39)).alloc (.cells (uC dc) 39)).alloc (.cells #[.int .u8 0, .slice none 0 0, .string { data:= #[] }, .int .i64 0, .int .i64 0, .int .i64 0, .int .u8 0, .int .i64 0, .string { data:= #[] }, .slice none 0 0, .slice none 0 0, .string { data:= #[] }] 39)=w1:=⟨_,rfl⟩
 rw [hw1] at HBX ⊢
 have hib:=HBX.out
 have c2:=hib.c.at_ 2 _ rfl;have d0:=hib.d.at_ 0 _ rfl;have d2:=hib.d.at_ 2 _ rfl;have g0:=hib.d.fr 0;have g2:=hib.d.fr 2
 have zc:=hib.c.lt;have zd:=hib.d.lt
 clear hib hw1
 go_region
 obtain ⟨W1,hW1⟩:∃W1,((w1.setCell ⟨w.heap.size+1+1,0,none⟩ (.int .u8 3)).setCell ⟨w.heap.size+1+1,2,none⟩ (.string cc.key)).drew=W1:=⟨_,rfl⟩
 rw [hW1]
 have hib:IB w W1 xc cc { dc with k:=3,key:=cc.key } :=by
  rw [<-hW1]
  exact (HBX.out.store (RStep.self.trans RStep.self) ((HBX.out.d.set (i:=0) (x:= .int .u8 3) (by simp [ccells])).set (i:=2) (x:= .string cc.key) (by simp [ccells]))).keep (Zf _)
 obtain ⟨x0,x1,x2,x3,x4⟩:=row5 hib.x.at_
 have y2:=hib.c.at_ 2 _ rfl
 have zx:=hib.x.lt
 have zc:=hib.c.lt
 have HIB:=qh hib
 clear hib hW1 c2 d0 d2 g0 g2 zd HBX
 go_wp2_with fail
 refine (HVF.out _ HIB.out.below).mono ?_
 rintro e w2 ⟨rfl,hb2⟩
 have hi2:=HIB.out.keep hb2
 have HB2:=qh hi2
 have HBL:=qh hi2.below
 have e0:=hi2.d.at_ 0 _ rfl;have g0:=hi2.d.fr 0;have e1:=hi2.d.at_ 1 _ rfl;have g1:=hi2.d.fr 1;have e2:=hi2.d.at_ 2 _ rfl;have g2:=hi2.d.fr 2;have e3:=hi2.d.at_ 3 _ rfl;have g3:=hi2.d.fr 3;have e4:=hi2.d.at_ 4 _ rfl;have g4:=hi2.d.fr 4;have e5:=hi2.d.at_ 5 _ rfl;have g5:=hi2.d.fr 5;have e6:=hi2.d.at_ 6 _ rfl;have g6:=hi2.d.fr 6;have e7:=hi2.d.at_ 7 _ rfl;have g7:=hi2.d.fr 7;have e8:=hi2.d.at_ 8 _ rfl;have g8:=hi2.d.fr 8;have e9:=hi2.d.at_ 9 _ rfl;have g9:=hi2.d.fr 9;have e10:=hi2.d.at_ 10 _ rfl;have g10:=hi2.d.fr 10;have e11:=hi2.d.at_ 11 _ rfl;have g11:=hi2.d.fr 11
 have r0:=hi2.r.at_ 0 _ rfl;have h0:=hi2.r.fr 0;have r1:=hi2.r.at_ 1 _ rfl;have h1:=hi2.r.fr 1;have r2:=hi2.r.at_ 2 _ rfl;have h2:=hi2.r.fr 2;have r3:=hi2.r.at_ 3 _ rfl;have h3:=hi2.r.fr 3;have r4:=hi2.r.at_ 4 _ rfl;have h4:=hi2.r.fr 4;have r5:=hi2.r.at_ 5 _ rfl;have h5:=hi2.r.fr 5;have r6:=hi2.r.at_ 6 _ rfl;have h6:=hi2.r.fr 6;have r7:=hi2.r.at_ 7 _ rfl;have h7:=hi2.r.fr 7;have r8:=hi2.r.at_ 8 _ rfl;have h8:=hi2.r.fr 8;have r9:=hi2.r.at_ 9 _ rfl;have h9:=hi2.r.fr 9;have r10:=hi2.r.at_ 10 _ rfl;have h10:=hi2.r.fr 10;have r11:=hi2.r.at_ 11 _ rfl;have h11:=hi2.r.fr 11
 have q4:=hi2.x.at_ 4 _ rfl
 have zx:=hi2.x.lt;have zd:=hi2.d.lt;have zr:=hi2.r.lt
 clear x0 x1 x2 x3 x4 y2 zx zc hi2 hb2 HVF HIB
 cases B with
 | false=>
   go_wp2_with fail
   rw [<-HQ.out]
   exact ⟨rfl,_,zc3 rfl (Zm (c0:=czero) HB2.out.r { dc with k:=3,key:=cc.key }),⟨{ dc with k:=3,key:=cc.key },rfl, .inr ⟨HB.out,rfl⟩⟩,Below.setC HBL.out (by omega) { dc with k:=3,key:=cc.key }⟩
 | true=>
   obtain ⟨b,o1,f,hp,hoa,hbB,hkey,_,hvf,hif⟩:=HVO.out.get (k:=K) (by rw [HOL.out];exact HKO.out rfl)
   have hnl:(K:Int)<(xc.ol:Int):=by have:=HOL.out;have:=HKO.out rfl;omega
   have hK0:¬((K:Int)<0):=by omega
   replace hbB:=Nat.lt_of_lt_of_le hbB hB0
   replace hvf:=hvf.keep HBL.out hbB
   have hbW:=Nat.lt_of_lt_of_le hbB HBL.out.size
   have v0:=hvf.c0;have v1:=hvf.c1;have v2:=hvf.c2;have v3:=hvf.c3;have v4:=hvf.c4
   have HIF:=qh hif
   rw [hoa] at q4
   clear hvf hif hkey hoa
   go_wp2_with fail
   go_region
   have ST:RStep w2 ((((((w2.setCell ⟨w.heap.size+1+1,0,none⟩ (.int .u8 2)).setCell ⟨w.heap.size+1+1,6,none⟩ (.int .u8 f.k)).setCell ⟨w.heap.size+1+1,7,none⟩ (.int .i64 f.n)).setCell ⟨w.heap.size+1+1,8,none⟩ (.string f.s)).setCell ⟨w.heap.size+1+1,9,none⟩ (.slice f.la f.ll f.lc)).setCell ⟨w.heap.size+1+1,10,none⟩ (.slice f.oa f.ol f.oc)) (w.heap.size+1+1):=((((RStep.self.trans RStep.self).trans RStep.self).trans RStep.self).trans RStep.self).trans RStep.self
   have hib:=(HB2.out.store (d2:= { dc with k:=2,key:=cc.key,v:=f }) ST ((((((HB2.out.d.set (i:=0) (x:= .int .u8 2) (by simp [ccells])).set (i:=6) (x:= .int .u8 f.k) (by simp [ccells])).set (i:=7) (x:= .int .i64 f.n) (by simp [ccells])).set (i:=8) (x:= .string f.s) (by simp [ccells])).set (i:=9) (x:= .slice f.la f.ll f.lc) (by simp [ccells])).set (i:=10) (x:= .slice f.oa f.ol f.oc) (by simp [ccells]))).keep (Zf _)
   obtain ⟨W3,hW3⟩:∃W3,((((((w2.setCell ⟨w.heap.size+1+1,0,none⟩ (.int .u8 2)).setCell ⟨w.heap.size+1+1,6,none⟩ (.int .u8 f.k)).setCell ⟨w.heap.size+1+1,7,none⟩ (.int .i64 f.n)).setCell ⟨w.heap.size+1+1,8,none⟩ (.string f.s)).setCell ⟨w.heap.size+1+1,9,none⟩ (.slice f.la f.ll f.lc)).setCell ⟨w.heap.size+1+1,10,none⟩ (.slice f.oa f.ol f.oc)).drew=W3:=⟨_,rfl⟩
   rw [hW3] at hib ⊢
   have HB3:=qh hib
   clear e0 g0 e1 g1 e2 g2 e3 g3 e4 g4 e5 g5 e6 g6 e7 g7 e8 g8 e9 g9 e10 g10 e11 g11 r0 h0 r1 h1 r2 h2 r3 h3 r4 h4 r5 h5 r6 h6 r7 h7 r8 h8 r9 h9 r10 h10 r11 h11 q4 zx zd zr v0 v1 v2 v3 v4 ST hW3
   have e0:=hib.d.at_ 0 _ rfl;have g0:=hib.d.fr 0;have e1:=hib.d.at_ 1 _ rfl;have g1:=hib.d.fr 1;have e2:=hib.d.at_ 2 _ rfl;have g2:=hib.d.fr 2;have e3:=hib.d.at_ 3 _ rfl;have g3:=hib.d.fr 3;have e4:=hib.d.at_ 4 _ rfl;have g4:=hib.d.fr 4;have e5:=hib.d.at_ 5 _ rfl;have g5:=hib.d.fr 5;have e6:=hib.d.at_ 6 _ rfl;have g6:=hib.d.fr 6;have e7:=hib.d.at_ 7 _ rfl;have g7:=hib.d.fr 7;have e8:=hib.d.at_ 8 _ rfl;have g8:=hib.d.fr 8;have e9:=hib.d.at_ 9 _ rfl;have g9:=hib.d.fr 9;have e10:=hib.d.at_ 10 _ rfl;have g10:=hib.d.fr 10;have e11:=hib.d.at_ 11 _ rfl;have g11:=hib.d.fr 11
   have r0:=hib.r.at_ 0 _ rfl;have h0:=hib.r.fr 0;have r1:=hib.r.at_ 1 _ rfl;have h1:=hib.r.fr 1;have r2:=hib.r.at_ 2 _ rfl;have h2:=hib.r.fr 2;have r3:=hib.r.at_ 3 _ rfl;have h3:=hib.r.fr 3;have r4:=hib.r.at_ 4 _ rfl;have h4:=hib.r.fr 4;have r5:=hib.r.at_ 5 _ rfl;have h5:=hib.r.fr 5;have r6:=hib.r.at_ 6 _ rfl;have h6:=hib.r.fr 6;have r7:=hib.r.at_ 7 _ rfl;have h7:=hib.r.fr 7;have r8:=hib.r.at_ 8 _ rfl;have h8:=hib.r.fr 8;have r9:=hib.r.at_ 9 _ rfl;have h9:=hib.r.fr 9;have r10:=hib.r.at_ 10 _ rfl;have h10:=hib.r.fr 10;have r11:=hib.r.at_ 11 _ rfl;have h11:=hib.r.fr 11
   have zd:=hib.d.lt;have zr:=hib.r.lt
   clear hib
   go_wp2_with fail
   rw [<-HQ.out]
   have hbl:=Below.setC HB3.out.below (show w.heap.size<=w.heap.size+1+1+1 by omega) { dc with k:=2,key:=cc.key,v:=f }
   refine ⟨rfl,_,zc3 rfl (Zm (c0:=czero) HB3.out.r { dc with k:=2,key:=cc.key,v:=f }),⟨{ dc with k:=2,key:=cc.key,v:=f },rfl, .inl ⟨HB.out,f,rfl, ?_⟩⟩,hbl⟩
   have hz:=HIF.out
   have e1:((V.mk xc.k xc.n xc.s l o).os.getD (fieldK (V.mk xc.k xc.n xc.s l o).os cc.key) (.empty,V.none))=o[K] :=by
    show o.getD (fieldK o cc.key) _=_
    rw [HK.out,List.getD_eq_getElem?_getD,List.getElem?_eq_getElem hp];rfl
   rw [e1]
   exact hz
structure IT (w W:World) (xc:VC) (cc dc:CC):Prop where
 x:BC W w.heap.size (vcells xc)
 c:BC W (w.heap.size+1) (ccells cc)
 r:BC W (w.heap.size+1+1) (ccells czero)
 d:BC W (w.heap.size+1+1+1) (ccells dc)
 below:Below w.heap.size w W
theorem IT.keep {w W W':World} {xc:VC} {cc dc:CC} (h:IT w W xc cc dc) (hb:uB W W'):IT w W' xc cc dc:=⟨h.x.keep hb h.x.lt,h.c.keep hb h.c.lt,h.r.keep hb h.r.lt,h.d.keep hb h.d.lt,h.below.trans (hb.mono h.below.size)⟩
theorem IT.store {w W W':World} {xc:VC} {cc dc d2:CC} (h:IT w W xc cc dc) (st:RStep W W' (w.heap.size+1+1+1)) (hd:BC W' (w.heap.size+1+1+1) (ccells d2)):IT w W' xc cc d2:=
 ⟨h.x.next st (by omega),h.c.next st (by omega),h.r.next st (by omega),hd,h.below.trans (st.lowC (by omega) (by have:=h.below.size;omega))⟩
def ccat (k:Int) (cc:CC) (i:Int):CC:=⟨k,cc.pa,cc.pl,cc.pc, .empty,i,0,0,vzero, .empty⟩
theorem Z2 {w:World} {B:Nat} {p:List St} {cc:CC} (k i:Int) (hk:0<=k/\k<256) (hi: -9223372036854775808<=i/\i<=9223372036854775807) (hp:IsSteps w B p cc.pa cc.pl cc.pc) (j n:Int) (hj: -9223372036854775808<=j/\j<=9223372036854775807) (hn: -9223372036854775808<=n/\n<=9223372036854775807) (key s:ByteArray) (hkey:key.size<=140737488355328) (hs:s.size<=140737488355328) (v:V) (f:VC) (hv:IsVal w B v f):
 IsComp w B ⟨k,p,key,i,j,n,v,s⟩ ⟨k,cc.pa,cc.pl,cc.pc,key,i,j,n,f,s⟩:=
 .mk ⟨k,cc.pa,cc.pl,cc.pc,key,i,j,n,f,s⟩ p v ⟨hk.1,hk.2,hi.1,hi.2,hj.1,hj.2,hn.1,hn.2,hkey,hs⟩ hp hv
theorem zll {tmps:Array Value} {W:World} {b:Nat} {d:CC} (ht:tmps[4]? =some (.pointer (some ⟨b,0,none⟩))) (h:BC W b (ccells d)):
 (results Tryz.f64 tmps).run Tryz.prog W= .ok (.agg #[.int .u8 d.k, .slice d.pa d.pl d.pc, .string d.key, .int .i64 d.i, .int .i64 d.j, .int .i64 d.n, .int .u8 d.v.k, .int .i64 d.v.n, .string d.v.s, .slice d.v.la d.v.ll d.v.lc, .slice d.v.oa d.v.ol d.v.oc, .string d.s]) W:=by
 obtain ⟨r0,r1,r2,r3,r4,r5,r6,r7,r8,r9,r10,r11⟩:=row12 h.at_
 simp [results,Tryz.results64,go_sem,ht,r0,r1,r2,r3,r4,r5,r6,r7,r8,r9,r10,r11]
theorem zm0 {tmps:Array Value} {W:World} {b:Nat} {d:CC} (ht:tmps[4]? =some (.pointer (some ⟨b,0,none⟩))) (h:BC W b (ccells d)):
 (results Tryz.f65 tmps).run Tryz.prog W= .ok (.agg #[.int .u8 d.k, .slice d.pa d.pl d.pc, .string d.key, .int .i64 d.i, .int .i64 d.j, .int .i64 d.n, .int .u8 d.v.k, .int .i64 d.v.n, .string d.v.s, .slice d.v.la d.v.ll d.v.lc, .slice d.v.oa d.v.ol d.v.oc, .string d.s]) W:=by
 obtain ⟨r0,r1,r2,r3,r4,r5,r6,r7,r8,r9,r10,r11⟩:=row12 h.at_
 simp [results,Tryz.results65,go_sem,ht,r0,r1,r2,r3,r4,r5,r6,r7,r8,r9,r10,r11]
def TNPost (w:World) (cm:Cm) (e:Ending) (w':World):Prop:=
 (∃d:CC,e= .returned (.agg #[.int .u8 d.k, .slice d.pa d.pl d.pc, .string d.key, .int .i64 d.i, .int .i64 d.j, .int .i64 d.n, .int .u8 d.v.k, .int .i64 d.v.n, .string d.v.s, .slice d.v.la d.v.ll d.v.lc, .slice d.v.oa d.v.ol d.v.oc, .string d.s])/\IsComp (only (fun k=>w.heap.size<=k) w') w'.heap.size cm d)/\Below w.heap.size w w'
theorem Ju {w W:World} {cm:Cm} {f:CC} {B b:Nat} (hf:IsComp (only (fun k=>B<=k) W) W.heap.size cm f) (hb:b<B) (hw:w.heap.size<=b) (d:CC):IsComp (only (fun k=>w.heap.size<=k) (setC W b d)) (setC W b d).heap.size cm f:=by
 have st:=Yc W b d
 have hsh:Shows (only (fun k=>B<=k) W) (only (fun k=>w.heap.size<=k) (setC W b d)) W.heap.size:=Zd fun k hk hl=>⟨by omega,st.block k hl (by omega)⟩
 have:=IsComp.sub hsh hf
 cases this with
 |mk c p v hbd hp hv=>exact .mk _ p v hbd (hp.more st.size) (hv.more st.size)
def setV6 (W:World) (b:Nat) (f:VC):World:=((((W.setCell ⟨b,6,none⟩ (.int .u8 f.k)).setCell ⟨b,7,none⟩ (.int .i64 f.n)).setCell ⟨b,8,none⟩ (.string f.s)).setCell ⟨b,9,none⟩ (.slice f.la f.ll f.lc)).setCell ⟨b,10,none⟩ (.slice f.oa f.ol f.oc)
theorem zlz (W:World) (b:Nat) (f:VC):RStep W (setV6 W b f) b:=(((RStep.self.trans RStep.self).trans RStep.self).trans RStep.self).trans RStep.self
theorem zl1 {W:World} {b:Nat} {c:CC} (h:BC W b (ccells c)) (f:VC):BC (setV6 W b f) b (ccells { c with v:=f }):=
 ((((h.set (i:=6) (x:= .int .u8 f.k) (by simp [ccells])).set (i:=7) (x:= .int .i64 f.n) (by simp [ccells])).set (i:=8) (x:= .string f.s) (by simp [ccells])).set (i:=9) (x:= .slice f.la f.ll f.lc) (by simp [ccells])).set (i:=10) (x:= .slice f.oa f.ol f.oc) (by simp [ccells])
theorem IT.cell {w W:World} {xc:VC} {cc dc:CC} (h:IT w W xc cc dc) (i:Nat) (x:Value) {d2:CC} (hd:(ccells dc).set i x=ccells d2) (hi:i<12):IT w (W.setCell ⟨w.heap.size+1+1+1,i,none⟩ x) xc cc d2:=
 h.store RStep.self (hd ▸ h.d.set (by simpa [ccells] using hi))
theorem IT.val {w W:World} {xc:VC} {cc dc:CC} (h:IT w W xc cc dc) (f:VC):IT w (setV6 W (w.heap.size+1+1+1) f) xc cc { dc with v:=f } :=h.store (zlz _ _ _) (zl1 h.d f)
theorem IsVal.vals {w:World} {B:Nat} {x:V} {c:VC} (h:IsVal w B x c):IsVals w B x.ls c.la c.ll c.lc:=by
 obtain ⟨k,n,s,l,o,rfl⟩:=x.eta
 exact h.lists.2.2.2.2.1
theorem IsVal.strs {w:World} {B:Nat} {x:V} {c:VC} (h:IsVal w B x c):c.s=x.str:=by
 obtain ⟨k,n,s,l,o,rfl⟩:=x.eta
 exact h.lists.2.2.1
theorem IsVal.strz {w:World} {B:Nat} {x:V} {c:VC} (h:IsVal w B x c):c.s.size<=140737488355328:=by
 obtain ⟨k,n,s,l,o,rfl⟩:=x.eta
 exact h.lists.2.2.2.1.s1
theorem Xh {x:V} {k i j n:Int} {key:ByteArray} (hk:k=5∨k=6) (h:kindsP x k i j n key=0):0<=i/\i<x.ls.length:=by
 unfold kindsP lCheck at h
 rw [if_neg (by omega),if_neg (by omega),if_neg (by omega)] at h
 split at h
 .cases h
 .rw [if_neg (by omega)] at h
  split at h
  .cases h
  .omega
theorem X0 {W:World} {B:Nat} {x:V} {p:List St} {cc f:CC} (k:Int) (hi:cc.i=0) (hcb:cc.Bnd) (hp:IsSteps W B p cc.pa cc.pl cc.pc) (hf:(fieldIs x.os cc.key=true/\∃fv,f= { ccat k cc cc.i with k:=2,key:=cc.key,v:=fv } /\IsVal W B (x.os.getD (fieldK x.os cc.key) (.empty,V.none)).2 fv)∨(fieldIs x.os cc.key=false/\f= { ccat k cc cc.i with k:=3,key:=cc.key })):
 IsComp W B (if fieldIs x.os cc.key=true then ⟨2,p,cc.key,0,0,0,(x.os.getD (fieldK x.os cc.key) (.empty,V.none)).2, .empty⟩ else ⟨3,p,cc.key,0,0,0,V.none, .empty⟩) f:=by
 rw [hi] at hf
 rcases hf with ⟨h1,fv,rfl,h2⟩|⟨h1,rfl⟩
 .rw [if_pos h1]
  exact Z2 2 0 (by omega) (by omega) hp 0 0 (by omega) (by omega) cc.key .empty hcb.key1 (by decide) _ fv h2
 .rw [if_neg (by rw [h1];decide)]
  exact Z2 3 0 (by omega) (by omega) hp 0 0 (by omega) (by omega) cc.key .empty hcb.key1 (by decide) V.none vzero (Zo _ _)
theorem zbz {x:V} {i j n:Int} {key:ByteArray} (h:kindsP x 9 i j n key=0):x.kd=3/\0<=i/\i+n<=textN x.str/\1<=n:=by
 unfold kindsP tCheck at h
 rw [if_neg (by omega),if_neg (by omega),if_pos (by omega)] at h
 split at h
 .cases h
 .rename_i hk
  rw [if_neg (by omega)] at h
  split at h
  .cases h
  .split at h
   .cases h
   .omega
set_option maxRecDepth 100000 in
theorem zft (w:World) (x:V) (xc:VC) (hx:IsVal w w.heap.size x xc) (p:List St) (xv:V) (cc:CC) (hcb:cc.Bnd) (hp:IsSteps w w.heap.size p cc.pa cc.pl cc.pc) (hs:cmSound ⟨cc.k,p,cc.key,cc.i,cc.j,cc.n,xv,cc.s⟩=true) (hk:kindsP x cc.k cc.i cc.j cc.n cc.key=0) (hsz:cc.s.size<=1000000000000):
 uP 64 #[.agg (uV xc), .agg (uC cc)] w (TNPost w (turnP x ⟨cc.k,p,cc.key,cc.i,cc.j,cc.n,xv,cc.s⟩)):=by
 delta uV uC uP
 obtain ⟨DM,hDM⟩:∃DM,turnP x ⟨cc.k,p,cc.key,cc.i,cc.j,cc.n,xv,cc.s⟩=DM:=⟨_,rfl⟩
 rw [hDM]
 have HDM:=qh hDM;have HX:=qh hx;have HP:=qh hp;have HCB:=qh hcb
 have hkk:=Qr hs
 have hbr:=ze0 (by unfold cmSound at hs;simp only [Bool.and_eq_true] at hs;exact hs.1.1.1.1.1.1.1.1.1.1.2)
 have HI0:Hid (∀k,cc.k=k->kI k=false->cc.i=0):=qh fun k e h=>hbr.2.1 (e ▸ h)
 have HKD:=qh hk;have HSZ:=qh hsz
 clear hDM hx hp hcb hs hk hsz hbr
 have HBX:∀t0 t1 t2 t3,IT w ((((w.alloc (.cells (uV xc) t0)).alloc (.cells (uC cc) t1)).alloc (.cells #[.int .u8 0, .slice none 0 0, .string { data:= #[] }, .int .i64 0, .int .i64 0, .int .i64 0, .int .u8 0, .int .i64 0, .string { data:= #[] }, .slice none 0 0, .slice none 0 0, .string { data:= #[] }] t2)).alloc (.cells #[.int .u8 cc.k, .slice cc.pa cc.pl cc.pc, .string { data:= #[] }, .int .i64 cc.i, .int .i64 0, .int .i64 0, .int .u8 0, .int .i64 0, .string { data:= #[] }, .slice none 0 0, .slice none 0 0, .string { data:= #[] }] t3)) xc cc (ccat cc.k cc cc.i):=fun t0 t1 t2 t3=>by
  obtain ⟨q1,q2,q3,q4,q5⟩:=Jp w #[.int .u8 xc.k, .int .i64 xc.n, .string xc.s, .slice xc.la xc.ll xc.lc, .slice xc.oa xc.ol xc.oc] #[.int .u8 cc.k, .slice cc.pa cc.pl cc.pc, .string cc.key, .int .i64 cc.i, .int .i64 cc.j, .int .i64 cc.n, .int .u8 cc.v.k, .int .i64 cc.v.n, .string cc.v.s, .slice cc.v.la cc.v.ll cc.v.lc, .slice cc.v.oa cc.v.ol cc.v.oc, .string cc.s] #[.int .u8 0, .slice none 0 0, .string { data:= #[] }, .int .i64 0, .int .i64 0, .int .i64 0, .int .u8 0, .int .i64 0, .string { data:= #[] }, .slice none 0 0, .slice none 0 0, .string { data:= #[] }] #[.int .u8 cc.k, .slice cc.pa cc.pl cc.pc, .string { data:= #[] }, .int .i64 cc.i, .int .i64 0, .int .i64 0, .int .u8 0, .int .i64 0, .string { data:= #[] }, .slice none 0 0, .slice none 0 0, .string { data:= #[] }] t0 t1 t2 t3
  exact ⟨q1,q2,q3,q4,q5⟩
 replace HBX:=qh (HBX 36 39 39 39)
 go_enter Tryz.func64,Tryz.ntmps64
 generalize hQ0:bodyPost _ _ _=Q0
 have HQ:=qh hQ0
 clear hQ0
 go_upto_region 2 with fail
 obtain ⟨w1,hw1⟩:∃w1,(((w.alloc (.cells (uV xc) 36)).alloc (.cells (uC cc) 39)).alloc (.cells #[.int .u8 0, .slice none 0 0, .string { data:= #[] }, .int .i64 0, .int .i64 0, .int .i64 0, .int .u8 0, .int .i64 0, .string { data:= #[] }, .slice none 0 0, .slice none 0 0, .string { data:= #[] }] 39)).alloc (.cells #[.int .u8 cc.k, .slice cc.pa cc.pl cc.pc, .string { data:= #[] }, .int .i64 cc.i, .int .i64 0, .int .i64 0, .int .u8 0, .int .i64 0, .string { data:= #[] }, .slice none 0 0, .slice none 0 0, .string { data:= #[] }] 39)=w1:=⟨_,rfl⟩
 rw [hw1] at HBX ⊢
 obtain ⟨K,hK⟩:∃K,cc.k=K:=⟨_,rfl⟩
 replace HI0:=qh (HI0.out K hK)
 rw [hK] at HBX HDM HKD hkk
 have b0:w1.cell? ⟨w.heap.size+1,0,none⟩=some (.int .u8 K):=by rw [<-hK];exact HBX.out.c.at_ 0 _ rfl
 have HKK:=qh hK
 clear hK
 have zx:=HBX.out.x.lt;have zc:=HBX.out.c.lt;have zd:=HBX.out.d.lt
 clear hw1
 go_upto_block 0 with fail
 go_cut [] from 6 (fun wc=>∃dc,IT w wc xc cc dc/\IsComp wc wc.heap.size DM dc)
 case rest=>
  obtain ⟨dc,hit,hic⟩:=hcut
  have HIC:=qh hic;have HIT:=qh hit
  obtain ⟨e0,e1,e2,e3,e4,e5,e6,e7,e8,e9,e10,e11⟩:=row12 hit.d.at_
  have ze:=hit.d.lt
  clear hit hic b0 zx zc zd
  go_wp2_with fail
  refine (zk8 _ _ _ HIC.out).mono ?_
  rintro e w9 ⟨⟨f,rfl,hf⟩,hb9⟩
  have HI9:=qh (HIT.out.keep hb9)
  have HF:=qh hf
  have zW:=HIT.out.r.lt
  obtain ⟨r0,r1,r2,r3,r4,r5,r6,r7,r8,r9,r10,r11⟩:=row12 HI9.out.r.at_
  have zr:=HI9.out.r.lt;have gr:=HI9.out.r.fr
  clear hf hb9 e0 e1 e2 e3 e4 e5 e6 e7 e8 e9 e10 e11 ze HIC HIT
  go_wp2_with fail
  rw [<-HQ.out]
  exact ⟨rfl,_,zll rfl (Zm (c0:=czero) HI9.out.r f),⟨f,rfl,Ju HF.out zW (by omega) f⟩,Below.setC HI9.out.below (by omega) f⟩
 case first=>
  rcases (show K=1∨K=4∨K=7∨K=8∨K=5∨K=6∨K=2∨K=3∨K=9 by dsimp only at hkk;omega) with rfl|rfl|rfl|rfl|rfl|rfl|rfl|rfl|rfl
  .have hib:=HBX.out
   have b5:=hib.c.at_ 5 _ rfl;have d5:=hib.d.at_ 5 _ rfl;have gd:=hib.d.fr
   clear hib
   go_wp2_with fail
   go_meet
   have hit:=HBX.out.cell 5 (.int .i64 (wrap64 (-cc.n))) (d2:=⟨1,cc.pa,cc.pl,cc.pc, .empty,cc.i,0,wrap64 (-cc.n),vzero, .empty⟩) rfl (by decide)
   refine ⟨_,hit, ?_⟩
   rw [HI0.out rfl]
   rw [<-HDM.out,show turnP x ⟨1,p,cc.key,cc.i,cc.j,cc.n,xv,cc.s⟩=⟨1,p, .empty,0,0,wrap64 (-cc.n),V.none, .empty⟩ from rfl]
   exact Z2 (cc:=cc) 1 0 (by omega) ⟨by omega,by omega⟩ (HP.out.later_ hit.below) 0 (wrap64 (-cc.n)) (by omega) ⟨Jm _,Jb _⟩ .empty .empty (by decide) (by decide) V.none vzero (Zo _ _)
  .have hib:=HBX.out
   have d0:=hib.d.at_ 0 _ rfl;have gd:=hib.d.fr
   clear hib
   go_wp2_with fail
   go_meet
   have hit:=HBX.out.cell 0 (.int .u8 5) (d2:=ccat 5 cc cc.i) rfl (by decide)
   refine ⟨_,hit, ?_⟩
   rw [<-HDM.out,show turnP x ⟨4,p,cc.key,cc.i,cc.j,cc.n,xv,cc.s⟩=⟨5,p, .empty,cc.i,0,0,V.none, .empty⟩ from rfl]
   exact Z2 (cc:=cc) 5 cc.i (by omega) ⟨HCB.out.i0,HCB.out.i1⟩ (HP.out.later_ hit.below) 0 0 (by omega) (by omega) .empty .empty (by decide) (by decide) V.none vzero (Zo _ _)
  .have hib:=HBX.out
   have b3:=hib.c.at_ 3 _ rfl;have b4:=hib.c.at_ 4 _ rfl;have d3:=hib.d.at_ 3 _ rfl;have d4:=hib.d.at_ 4 _ rfl;have gd:=hib.d.fr
   clear hib
   go_upto_region 15 with fail
   go_region
   go_wp2_with fail
   go_meet
   have hit:=((HBX.out.cell 3 (.int .i64 cc.j) (d2:=ccat 7 cc cc.j) rfl (by decide)).cell 4 (.int .i64 cc.i) (d2:=⟨7,cc.pa,cc.pl,cc.pc, .empty,cc.j,cc.i,0,vzero, .empty⟩) rfl (by decide)).keep (Zf _)
   refine ⟨_,hit, ?_⟩
   rw [<-HDM.out,show turnP x ⟨7,p,cc.key,cc.i,cc.j,cc.n,xv,cc.s⟩=⟨7,p, .empty,cc.j,cc.i,0,V.none, .empty⟩ from rfl]
   exact Z2 (cc:=cc) 7 cc.j (by omega) ⟨HCB.out.j0,HCB.out.j1⟩ (HP.out.later_ hit.below) cc.i 0 ⟨HCB.out.i0,HCB.out.i1⟩ (by omega) .empty .empty (by decide) (by decide) V.none vzero (Zo _ _)
  .have hib:=HBX.out
   have b11:=hib.c.at_ 11 _ rfl;have gd:=hib.d.fr
   clear hib
   go_wp2_with fail
   refine (zax _ _ HSZ.out).mono ?_
   rintro e w2 ⟨rfl,hb2⟩
   have hi2:=HBX.out.keep hb2
   have HI2:=qh hi2
   have d0:=hi2.d.at_ 0 _ rfl;have d5:=hi2.d.at_ 5 _ rfl;have gd:=hi2.d.fr;have zd:=hi2.d.lt
   clear hi2 hb2
   go_wp2_with fail
   go_meet
   have hit:=(HI2.out.cell 0 (.int .u8 9) (d2:=ccat 9 cc cc.i) rfl (by decide)).cell 5 (.int .i64 (textN cc.s)) (d2:=⟨9,cc.pa,cc.pl,cc.pc, .empty,cc.i,0,textN cc.s,vzero, .empty⟩) rfl (by decide)
   refine ⟨_,hit, ?_⟩
   rw [<-HDM.out,show turnP x ⟨8,p,cc.key,cc.i,cc.j,cc.n,xv,cc.s⟩=⟨9,p, .empty,cc.i,0,textN cc.s,V.none, .empty⟩ from rfl]
   exact Z2 (cc:=cc) 9 cc.i (by omega) ⟨HCB.out.i0,HCB.out.i1⟩ (HP.out.later_ hit.below) 0 (textN cc.s) (by omega) (by have:=(Yh cc.s).2;have:=HSZ.out;unfold textN;omega) .empty .empty (by decide) (by decide) V.none vzero (Zo _ _)
  .have hib:=HBX.out
   have b3:=hib.c.at_ 3 _ rfl;have x3:=hib.x.at_ 3 _ rfl;have d0:=hib.d.at_ 0 _ rfl;have d6:=hib.d.at_ 6 _ rfl;have d7:=hib.d.at_ 7 _ rfl;have d8:=hib.d.at_ 8 _ rfl;have d9:=hib.d.at_ 9 _ rfl;have d10:=hib.d.at_ 10 _ rfl;have gd:=hib.d.fr
   clear hib
   obtain ⟨I,hI⟩:∃I:Nat,cc.i=I:=⟨cc.i.toNat,by have:=(Xh (by decide) HKD.out).1;omega⟩
   have hIl:I<x.ls.length:=by have:=(Xh (by decide) HKD.out).2;omega
   have hll:=HX.out.vals.len
   obtain ⟨vb,vo,f,hvp,hla,hvB,hva,hiv⟩:=HX.out.vals.get (k:=I) (by omega)
   rw [hI] at b3
   rw [hla] at x3
   have HIV:=qh hiv;have HII:=qh hI
   have hvW:=Nat.lt_of_lt_of_le hvB HBX.out.below.size
   replace hva:=hva.keep HBX.out.below hvB
   have v0:=hva.c0;have v1:=hva.c1;have v2:=hva.c2;have v3:=hva.c3;have v4:=hva.c4
   have hI0:¬((I:Int)<0):=by omega
   have hIn:(I:Int)<(xc.ll:Int):=by omega
   clear hva hiv hla hI hll
   go_upto_region 11 with fail
   go_region
   go_wp2_with fail
   go_meet
   have hit:=((HBX.out.cell 0 (.int .u8 4) (d2:=ccat 4 cc cc.i) rfl (by decide)).val f).keep (Zf _)
   refine ⟨_,hit, ?_⟩
   rw [<-HDM.out,show turnP x ⟨5,p,cc.key,cc.i,cc.j,cc.n,xv,cc.s⟩=⟨4,p, .empty,cc.i,0,0,x.ls.getD cc.i.toNat V.none, .empty⟩ from rfl]
   exact Z2 (cc:=cc) 4 cc.i (by omega) ⟨HCB.out.i0,HCB.out.i1⟩ (HP.out.later_ hit.below) 0 0 (by omega) (by omega) .empty .empty (by decide) (by decide) _ f (by rw [HII.out,Int.toNat_natCast,List.getD_eq_getElem?_getD,List.getElem?_eq_getElem hvp];exact HIV.out.later_ hit.below)
  .have hib:=HBX.out
   have b3:=hib.c.at_ 3 _ rfl;have x3:=hib.x.at_ 3 _ rfl;have d0:=hib.d.at_ 0 _ rfl;have d6:=hib.d.at_ 6 _ rfl;have d7:=hib.d.at_ 7 _ rfl;have d8:=hib.d.at_ 8 _ rfl;have d9:=hib.d.at_ 9 _ rfl;have d10:=hib.d.at_ 10 _ rfl;have gd:=hib.d.fr
   clear hib
   obtain ⟨I,hI⟩:∃I:Nat,cc.i=I:=⟨cc.i.toNat,by have:=(Xh (by decide) HKD.out).1;omega⟩
   have hIl:I<x.ls.length:=by have:=(Xh (by decide) HKD.out).2;omega
   have hll:=HX.out.vals.len
   obtain ⟨vb,vo,f,hvp,hla,hvB,hva,hiv⟩:=HX.out.vals.get (k:=I) (by omega)
   rw [hI] at b3
   rw [hla] at x3
   have HIV:=qh hiv;have HII:=qh hI
   have hvW:=Nat.lt_of_lt_of_le hvB HBX.out.below.size
   replace hva:=hva.keep HBX.out.below hvB
   have v0:=hva.c0;have v1:=hva.c1;have v2:=hva.c2;have v3:=hva.c3;have v4:=hva.c4
   have hI0:¬((I:Int)<0):=by omega
   have hIn:(I:Int)<(xc.ll:Int):=by omega
   clear hva hiv hla hI hll
   go_wp2_with fail
   go_meet
   have hit:=HBX.out.val f
   refine ⟨_,hit, ?_⟩
   rw [<-HDM.out,show turnP x ⟨6,p,cc.key,cc.i,cc.j,cc.n,xv,cc.s⟩=⟨6,p, .empty,cc.i,0,0,x.ls.getD cc.i.toNat V.none, .empty⟩ from rfl]
   exact Z2 (cc:=cc) 6 cc.i (by omega) ⟨HCB.out.i0,HCB.out.i1⟩ (HP.out.later_ hit.below) 0 0 (by omega) (by omega) .empty .empty (by decide) (by decide) _ f (by rw [HII.out,Int.toNat_natCast,List.getD_eq_getElem?_getD,List.getElem?_eq_getElem hvp];exact HIV.out.later_ hit.below)
  .have hib:=HBX.out
   obtain ⟨c0,c1,c2,c3,c4,c5,c6,c7,c8,c9,c10,c11⟩:=row12 hib.c.at_
   obtain ⟨d0,d1,d2,d3,d4,d5,d6,d7,d8,d9,d10,d11⟩:=row12 hib.d.at_
   obtain ⟨x0,x1,x2,x3,x4⟩:=row5 hib.x.at_
   have HCF:Hid (uP 100 #[.agg (uV xc), .agg (uC cc), .agg #[.int .u8 2, .slice cc.pa cc.pl cc.pc, .string { data:= #[] }, .int .i64 cc.i, .int .i64 0, .int .i64 0, .int .u8 0, .int .i64 0, .string { data:= #[] }, .slice none 0 0, .slice none 0 0, .string { data:= #[] }]] w1 (IFPost w1 w.heap.size x cc (ccat 2 cc cc.i))):=qh (zbf w1 w.heap.size hib.below.size x xc (HX.out.keep hib.below) cc (ccat 2 cc cc.i))
   clear hib b0
   go_wp2_with fail
   refine HCF.out.mono ?_
   rintro e w2 ⟨⟨f,rfl,hf⟩,hb2⟩
   have hi2:=HBX.out.keep hb2
   clear c0 c1 c2 c3 c4 c5 c6 c7 c8 c9 c10 c11 d0 d1 d2 d3 d4 d5 d6 d7 d8 d9 d10 d11 x0 x1 x2 x3 x4 zx zc zd
   obtain ⟨d0,d1,d2,d3,d4,d5,d6,d7,d8,d9,d10,d11⟩:=row12 hi2.d.at_
   have gd:=hi2.d.fr;have zd:=hi2.d.lt
   have HI2:=qh hi2;have HF:=qh hf;have HB2:=qh hb2
   clear hi2 hf hb2
   go_wp2_with fail
   go_meet
   have hit:=HI2.out.store (Yc _ _ f) (Zm HI2.out.d f)
   refine ⟨_,hit, ?_⟩
   rw [<-HDM.out]
   have hz:∀fv,IsVal w1 w.heap.size (x.os.getD (fieldK x.os cc.key) (.empty,V.none)).2 fv->IsVal (setC w2 (w.heap.size+1+1+1) f) (setC w2 (w.heap.size+1+1+1) f).heap.size (x.os.getD (fieldK x.os cc.key) (.empty,V.none)).2 fv:=fun fv h=>
    (h.keep ((HB2.out.mono HBX.out.below.size).trans ((Yc w2 (w.heap.size+1+1+1) f).lowC (by omega) (by omega)))).more hit.below.size
   refine X0 2 (HI0.out rfl) HCB.out (HP.out.later_ hit.below) ?_
   rcases HF.out with ⟨h1,fv,hfv,h2⟩|⟨h1,h2⟩
   .exact .inl ⟨h1,fv,hfv,hz fv h2⟩
   .exact .inr ⟨h1,h2⟩
  .have hib:=HBX.out
   obtain ⟨c0,c1,c2,c3,c4,c5,c6,c7,c8,c9,c10,c11⟩:=row12 hib.c.at_
   obtain ⟨d0,d1,d2,d3,d4,d5,d6,d7,d8,d9,d10,d11⟩:=row12 hib.d.at_
   obtain ⟨x0,x1,x2,x3,x4⟩:=row5 hib.x.at_
   have HCF:Hid (uP 100 #[.agg (uV xc), .agg (uC cc), .agg #[.int .u8 3, .slice cc.pa cc.pl cc.pc, .string { data:= #[] }, .int .i64 cc.i, .int .i64 0, .int .i64 0, .int .u8 0, .int .i64 0, .string { data:= #[] }, .slice none 0 0, .slice none 0 0, .string { data:= #[] }]] w1 (IFPost w1 w.heap.size x cc (ccat 3 cc cc.i))):=qh (zbf w1 w.heap.size hib.below.size x xc (HX.out.keep hib.below) cc (ccat 3 cc cc.i))
   clear hib b0
   go_wp2_with fail
   refine HCF.out.mono ?_
   rintro e w2 ⟨⟨f,rfl,hf⟩,hb2⟩
   have hi2:=HBX.out.keep hb2
   clear c0 c1 c2 c3 c4 c5 c6 c7 c8 c9 c10 c11 d0 d1 d2 d3 d4 d5 d6 d7 d8 d9 d10 d11 x0 x1 x2 x3 x4 zx zc zd
   obtain ⟨d0,d1,d2,d3,d4,d5,d6,d7,d8,d9,d10,d11⟩:=row12 hi2.d.at_
   have gd:=hi2.d.fr;have zd:=hi2.d.lt
   have HI2:=qh hi2;have HF:=qh hf;have HB2:=qh hb2
   clear hi2 hf hb2
   go_wp2_with fail
   go_meet
   have hit:=HI2.out.store (Yc _ _ f) (Zm HI2.out.d f)
   refine ⟨_,hit, ?_⟩
   rw [<-HDM.out]
   have hz:∀fv,IsVal w1 w.heap.size (x.os.getD (fieldK x.os cc.key) (.empty,V.none)).2 fv->IsVal (setC w2 (w.heap.size+1+1+1) f) (setC w2 (w.heap.size+1+1+1) f).heap.size (x.os.getD (fieldK x.os cc.key) (.empty,V.none)).2 fv:=fun fv h=>
    (h.keep ((HB2.out.mono HBX.out.below.size).trans ((Yc w2 (w.heap.size+1+1+1) f).lowC (by omega) (by omega)))).more hit.below.size
   refine X0 3 (HI0.out rfl) HCB.out (HP.out.later_ hit.below) ?_
   rcases HF.out with ⟨h1,fv,hfv,h2⟩|⟨h1,h2⟩
   .exact .inl ⟨h1,fv,hfv,hz fv h2⟩
   .exact .inr ⟨h1,h2⟩
  .have hib:=HBX.out
   have b3:=Za (hib.c.at_ 3 _ rfl);have x2:=Za (hib.x.at_ 2 _ rfl)
   clear hib
   obtain ⟨ht3,hi0,hin,hn1⟩:=zbz HKD.out
   have hxs:=HX.out.strs
   obtain ⟨I,hI⟩:∃I:Nat,cc.i=I:=⟨cc.i.toNat,by omega⟩
   obtain ⟨J,hJ⟩:∃J:Nat,cc.n=J:=⟨cc.n.toNat,by omega⟩
   have hIb:=HCB.out.i1;have hJb:=HCB.out.n1
   obtain ⟨pq1,hpq1⟩:∃p1,(cuts xc.s).getD I 0=p1:=⟨_,rfl⟩
   obtain ⟨q1,hq1⟩:∃q1,(cuts xc.s).getD (I+J) 0=q1:=⟨_,rfl⟩
   have hcl:=Yh xc.s
   have hord:=zae xc.s I J (by rw [hxs];omega) (by rw [hxs];omega)
   have htl:=Kh xc.s I J (by rw [hxs];omega) (by rw [hxs];omega)
   have hAT1:=fun W=>zai W xc.s I (by omega)
   have hAT2:=fun W=>zai W (xc.s.extract pq1 xc.s.size) J (by omega)
   rw [show (cuts xc.s).getD I xc.s.size=pq1 by rw [<-hpq1,List.getD_eq_getElem?_getD,List.getD_eq_getElem?_getD,List.getElem?_eq_getElem (by rw [hxs,textN] at*;omega)];rfl] at hAT1
   rw [hpq1,hq1] at hord
   rw [hpq1,hq1] at htl
   rw [show (cuts (xc.s.extract pq1 xc.s.size)).getD J (xc.s.extract pq1 xc.s.size).size=q1 - pq1 by omega] at hAT2
   rw [hI] at b3
   have hqs:q1<=xc.s.size - pq1+pq1:=by omega
   have hpq:=hord.1;have hqz:=hord.2;have hxz:=HX.out.strz
   have HAT1:=qh hAT1;have HAT2:=qh hAT2
   have HIJ:=qh (show cc.i=I/\cc.n=J/\(cuts xc.s).getD I 0=pq1/\(cuts xc.s).getD (I+J) 0=q1/\xc.s=x.str from ⟨hI,hJ,hpq1,hq1,hxs⟩)
   clear hAT1 hAT2 hI hJ hpq1 hq1 hxs hcl htl ht3 hi0 hin hn1
   go_upto_region 19 with fail
   refine Zj (by kernel_rfl) (by kernel_rfl) ?_
   repeat (go_big_quiet_step ((go_at_call 102;exact Zg (HAT1.out _))))
   refine wpQuiet_nil ?_
   intro _ hw'
   obtain ⟨pq,hw''⟩:=hw'
   subst hw''
   have hi2:=HBX.out.keep (Ze w1 pq)
   obtain ⟨w2,hw2⟩:∃w2,later w1 pq=w2:=⟨_,rfl⟩
   rw [hw2] at hi2 ⊢
   have HI2:=qh hi2
   have b5:=hi2.c.at_ 5 _ rfl;have d0:=hi2.d.at_ 0 _ rfl;have d7:=hi2.d.at_ 11 _ rfl;have gd:=hi2.d.fr;have zd:=hi2.d.lt
   rw [HIJ.out.2.1] at b5
   clear hi2 hw2 b0 b3 x2 zx
   go_upto_region 20 with fail
   refine wp_region_noPanic ?_
   go_region_law (go_simp;go_at_call 102;(with_reducible refine (HAT2.out _).mono ?_);rintro e w3 ⟨rfl,hb3⟩;have hi3:IT w w3 xc cc (ccat 9 cc cc.i):=(by first|exact HI2.out.keep hb3|exact (HI2.out.keep (Zf _)).keep hb3);have y0:=hi3.d.at_ 0 _ rfl;have y7:=hi3.d.at_ 11 _ rfl;have gy:=hi3.d.fr;have zy:=hi3.d.lt)
   refine NoPanic.normal ?_
   go_wp2_with fail
   go_meet
   have h2:=(hi3.cell 0 (.int .u8 8) (d2:=ccat 8 cc cc.i) rfl (by decide)).cell 11 (.string ((xc.s.extract pq1 xc.s.size).extract 0 (q1 - pq1))) (d2:=⟨8,cc.pa,cc.pl,cc.pc, .empty,cc.i,0,0,vzero,(xc.s.extract pq1 xc.s.size).extract 0 (q1 - pq1)⟩) rfl (by decide)
   refine ⟨_,h2, ?_⟩
   obtain ⟨wz,hwz⟩:∃wz,(w3.setCell ⟨w.heap.size+1+1+1,0,none⟩ (.int .u8 8)).setCell ⟨w.heap.size+1+1+1,11,none⟩ (.string ((xc.s.extract pq1 xc.s.size).extract 0 (q1 - pq1)))=wz:=⟨_,rfl⟩
   rw [hwz] at h2 ⊢
   have hit:=h2
   have hxb:(xc.s.extract pq1 xc.s.size).extract 0 (q1 - pq1)=xc.s.extract pq1 q1:=by
    refine zi7 ?_
    rw [Qj,Qj,Qj,List.drop_zero, <-znk,List.take_length,List.take_drop,show pq1+(q1 - pq1)=q1 by omega]
   rw [<-HDM.out,show turnP x ⟨9,p,cc.key,cc.i,cc.j,cc.n,xv,cc.s⟩=⟨8,p, .empty,cc.i,0,0,V.none,partT x.str cc.i cc.n⟩ from rfl]
   have hpt:partT x.str cc.i cc.n=(xc.s.extract pq1 xc.s.size).extract 0 (q1 - pq1):=by
    obtain ⟨g1,g2,g3,g4,g5⟩:=HIJ.out
    rw [hxb,partT,g1,g2, <-Int.natCast_add,Int.toNat_natCast,Int.toNat_natCast, <-g5,g3,g4]
   rw [hpt]
   exact Z2 (cc:=cc) 8 cc.i (by omega) ⟨HCB.out.i0,HCB.out.i1⟩ (HP.out.later_ hit.below) 0 0 (by omega) (by omega) .empty ((xc.s.extract pq1 xc.s.size).extract 0 (q1 - pq1)) (by decide) (by rw [hxb,ByteArray.size_extract];omega) V.none vzero (Zo _ _)
end Go.Proofs.YtnjgbiachcfigaaGreatDoor
