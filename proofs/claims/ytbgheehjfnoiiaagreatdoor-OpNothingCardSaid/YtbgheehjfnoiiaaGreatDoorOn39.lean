/-
  Contracts of the functions that the law reaches: comp.Copy (the program's)..
-/
import Derived.Test.YtbgheehjfnoiiaaGreatDoorOn38
namespace Go.Proofs.YtbgheehjfnoiiaaGreatDoor
open Go.RowKit
set_option maxHeartbeats 16000000
set_option maxRecDepth 100000 in
theorem zlm (w:World) (a:Option Addr) (n c:Nat) (cs:List Value) (h0:a=none->n=0) (hp:∀ad,a=some ad->∀j u,cs[j]? =some u->w.cell? (ad.add j)=some u) (hl:cs.length=n*3) (h1:∀u ∈ cs,u.oneCell'=true) (hbig:n*32<=140737488355328):
 uP 120 #[.slice a n c] w fun e w'=>(∃v',e= .returned v'/\w'.ownsRow w.heap.size 82 3 v' n cs)/\uB w w':=by
 delta uB uP
 obtain ⟨i0,hi0,hz0,hz1,hz2⟩:=info_parts zb6
 have hq:∀(w:World) (a:Option Addr) (n c n' c':Nat),(binOp .eql 50 (.slice a n c) (.slice none n' c')).run Tryz.prog w= .ok (.bool a.isNone) w:=fun w a n c n' c'=>Lib.run_eql_slice_nil w _ _ a n c n' c' Tryz.underlying50
 cases a with
 | none=>
   obtain rfl:=h0 rfl
   obtain rfl:cs= [] :=List.length_eq_zero_iff.1 (by omega)
   clear hp hl h1 hbig h0
   go_enter Tryz.func120,Tryz.ntmps120
   go_wp2_with fail
   go_ret
   exact ⟨⟨_,rfl,⟨rfl, .inl ⟨rfl,rfl⟩⟩⟩,Below.refl _ _⟩
 | some ad=>
   have HP:=qh hp
   have HL:=qh hl
   have H1:=qh h1
   clear hp hl h1 h0
   go_enter Tryz.func120,Tryz.ntmps120
   go_wp2_with (at_builtin;refine Zz _ rfl (.tmp 5) (.tmp 6) 50 (by rfl) w.heap.size 82 i0 _ 3 32 Tryz.underlying50 hi0 hz0 hz1 hz2 rfl (by omega) _ 0 [] (by rfl) (World.ownsRow_made w #[] 0 (Nat.le_refl _) (Nat.zero_le _) rfl) (some ad) n c cs (by rfl) ⟨(fun h=>by cases h),fun ad h j u hj=>Lib.cell?_alloc_some _ (HP.out ad h j u hj)⟩ HL.out H1.out (by unfold maxLen;omega) (by omega) (by simp) ?_;intro v' w1 hown hgrow)
   go_ret
   exact ⟨⟨v',rfl,by simpa using hown⟩,((Below.refl _ w).alloc (Nat.le_refl _) _).grown hgrow (by simp) (by intro k hk;simp [Value.ownBlock] at hk;omega)⟩
theorem IsSteps.clone {w:World} {p:List St} {a:Option Addr} {n c:Nat} (h:IsSteps w w.heap.size p a n c):∀W,uB w W->uP 120 #[.slice a n c] W fun e w'=>(∃a' m' c',e= .returned (.slice a' m' c')/\IsSteps (only (fun k=>W.heap.size<=k) w') w'.heap.size p a' m' c')/\uB W w':=by
 delta uB uP
 intro W hW
 obtain ⟨h1,h2,h3,h4,b,o,h5,h6⟩:=h
 have hfl:(p.flatMap scells).length=n*3:=by rw [Zk scells 3 (fun _=>rfl),h1]
 refine (zlm W a n c (p.flatMap scells) (fun e=> ?_) (fun ad e j u hj=> ?_) hfl (fun u hu=> ?_) (by omega)).mono ?_
 .by_cases h0:0<n
  .rw [e] at h5;cases (h5 h0).1
  .omega
 .have hj2:=(List.getElem?_eq_some_iff.1 hj).1
  have hn:0<n:=by omega
  obtain ⟨ha,hb⟩:=h5 hn
  rw [e] at ha;injection ha with ha;subst ha
  have hi:j / 3<p.length:=by omega
  have hd:j=j / 3*3+j % 3:=by omega
  have hm:j % 3<3:=by omega
  rw [hd,Y0 scells 3 (fun _=>rfl) _ (j / 3) (j % 3) hi hm] at hj
  obtain ⟨g1,g2⟩:=h6 (j / 3) hi
  rw [Addr.add_lit,hd, <-Nat.add_assoc]
  refine Zb hW ?_ hb
  obtain ⟨m,hmm⟩:∃m,j % 3=m:=⟨_,rfl⟩
  rw [hmm] at hj hm ⊢
  match m,hm with
  |0,_=>rw [<-hj];exact g1.c0
  |1,_=>rw [<-hj];exact g1.c1
  |2,_=>rw [<-hj];exact g1.c2
 .obtain ⟨v,_,hv⟩:=List.mem_flatMap.1 hu
  simp only [scells,List.mem_cons,List.mem_nil_iff,or_false] at hv
  rcases hv with rfl|rfl|rfl<;>rfl
 .rintro e w' ⟨⟨v',rfl,ho⟩,hb'⟩
  obtain ⟨a',m',c',rfl,hS⟩:=za8 (S:=fun k=>W.heap.size<=k) (by rw [h1] at ho;exact ho) (fun k hk=>hk) (fun s hs=>by
   obtain ⟨i,hi,rfl⟩:=List.getElem_of_mem hs
   exact (h6 i hi).2) (by omega)
  exact ⟨⟨a',m',c',rfl,hS⟩,hb'⟩
theorem zfj {tmps:Array Value} {W:World} {b:Nat} {d:CC} (ht:tmps[2]? =some (.pointer (some ⟨b,0,none⟩))) (h:BC W b (ccells d)):
 (results Tryz.f73 tmps).run Tryz.prog W= .ok (.agg #[.int .u8 d.k, .slice d.pa d.pl d.pc, .string d.key, .int .i64 d.i, .int .i64 d.j, .int .i64 d.n, .int .u8 d.v.k, .int .i64 d.v.n, .string d.v.s, .slice d.v.la d.v.ll d.v.lc, .slice d.v.oa d.v.ol d.v.oc, .string d.s]) W:=by
 obtain ⟨r0,r1,r2,r3,r4,r5,r6,r7,r8,r9,r10,r11⟩:=row12 h.at_
 simp [results,Tryz.results73,go_sem,ht,r0,r1,r2,r3,r4,r5,r6,r7,r8,r9,r10,r11]
structure CY (w W:World) (p:List St) (xv:V) (d:CC):Prop where
 one:BC W w.heap.size (ccells d)
 two:BC W (w.heap.size+1) (ccells czero)
 st:IsSteps (only (fun k=>w.heap.size+2<=k) W) W.heap.size p d.pa d.pl d.pc
 vl:IsVal (only (fun k=>w.heap.size+2<=k) W) W.heap.size xv d.v
 below:Below w.heap.size w W
theorem zlk (W:World) (b:Nat) (a:Option Addr) (m c:Nat) (f:VC):RStep W ((((((W.setCell ⟨b,1,none⟩ (.slice a m c)).setCell ⟨b,6,none⟩ (.int .u8 f.k)).setCell ⟨b,7,none⟩ (.int .i64 f.n)).setCell ⟨b,8,none⟩ (.string f.s)).setCell ⟨b,9,none⟩ (.slice f.la f.ll f.lc)).setCell ⟨b,10,none⟩ (.slice f.oa f.ol f.oc)) b:=((((RStep.self.trans RStep.self).trans RStep.self).trans RStep.self).trans RStep.self).trans RStep.self
theorem CY.made {w W1 W:World} {p:List St} {xv:V} {cc:CC} {a:Option Addr} {m c:Nat} {f:VC} (h1:BC W w.heap.size (ccells cc)) (h2:BC W (w.heap.size+1) (ccells czero)) (hz:w.heap.size+2<=W1.heap.size) (hst:IsSteps (only (fun k=>W1.heap.size<=k) W) W.heap.size p a m c) (hvl:IsVal (only (fun k=>W1.heap.size<=k) W) W.heap.size xv f) (hb:uB w W):
 CY w ((((((W.setCell ⟨w.heap.size,1,none⟩ (.slice a m c)).setCell ⟨w.heap.size,6,none⟩ (.int .u8 f.k)).setCell ⟨w.heap.size,7,none⟩ (.int .i64 f.n)).setCell ⟨w.heap.size,8,none⟩ (.string f.s)).setCell ⟨w.heap.size,9,none⟩ (.slice f.la f.ll f.lc)).setCell ⟨w.heap.size,10,none⟩ (.slice f.oa f.ol f.oc)) p xv { cc with pa:=a,pl:=m,pc:=c,v:=f } :=by
 have st:=zlk W w.heap.size a m c f
 have hsh:Shows (only (fun k=>W1.heap.size<=k) W) (only (fun k=>w.heap.size+2<=k) _) W.heap.size:=Ze fun k hk hl=>⟨by omega,st.block k hl (by omega)⟩
 refine ⟨(((((h1.set (i:=1) (x:= .slice a m c) (by simp [ccells])).set (i:=6) (x:= .int .u8 f.k) (by simp [ccells])).set (i:=7) (x:= .int .i64 f.n) (by simp [ccells])).set (i:=8) (x:= .string f.s) (by simp [ccells])).set (i:=9) (x:= .slice f.la f.ll f.lc) (by simp [ccells])).set (i:=10) (x:= .slice f.oa f.ol f.oc) (by simp [ccells]),h2.next st (by omega),(hst.sub hsh).more st.size,(hvl.sub hsh).more st.size,hb.trans (st.lowC (Nat.le_refl _) (by have:=hb.size;omega))⟩
theorem zf0 {w W:World} {S:Nat->Prop} {p:List St} {a:Option Addr} {n c:Nat} (h:IsSteps (only S w) w.heap.size p a n c) (hb:uB w W):IsSteps (only S W) W.heap.size p a n c:=(h.sub (Ze fun k hk hl=>⟨hk,hb.block k hl⟩)).more hb.size
theorem zf5 {w W:World} {S:Nat->Prop} {x:V} {f:VC} (h:IsVal (only S w) w.heap.size x f) (hb:uB w W):IsVal (only S W) W.heap.size x f:=(h.sub (Ze fun k hk hl=>⟨hk,hb.block k hl⟩)).more hb.size
set_option maxRecDepth 100000 in
theorem Kt (w:World) (cm:Cm) (cc:CC) (hc:IsComp w w.heap.size cm cc):
 uP 73 #[.agg (uC cc)] w fun e w'=>(∃d:CC,e= .returned (.agg #[.int .u8 d.k, .slice d.pa d.pl d.pc, .string d.key, .int .i64 d.i, .int .i64 d.j, .int .i64 d.n, .int .u8 d.v.k, .int .i64 d.v.n, .string d.v.s, .slice d.v.la d.v.ll d.v.lc, .slice d.v.oa d.v.ol d.v.oc, .string d.s])/\IsComp (only (fun k=>w.heap.size<=k) w') w'.heap.size cm d)/\uB w w':=by
 delta uC uB uP
 cases hc with
 |mk cc p xv hcb hp hxv=>
 have HCL:=qh hp.clone
 have HCV:Hid (∀W,uB w W->uP 46 #[.agg (uV cc.v)] W fun e w'=>(∃f:VC,e= .returned (.agg #[.int .u8 f.k, .int .i64 f.n, .string f.s, .slice f.la f.ll f.lc, .slice f.oa f.ol f.oc])/\Whole w' W.heap.size xv f)/\uB W w'):=qh fun W hW=>Yt W xv cc.v (hxv.later_ hW)
 have hbx:∀t1 t2,BC ((w.alloc (.cells (uC cc) t1)).alloc (.cells (ccells czero).toArray t2)) w.heap.size (ccells cc)/\BC ((w.alloc (.cells (uC cc) t1)).alloc (.cells (ccells czero).toArray t2)) (w.heap.size+1) (ccells czero)/\uB w ((w.alloc (.cells (uC cc) t1)).alloc (.cells (ccells czero).toArray t2))/\((w.alloc (.cells (uC cc) t1)).alloc (.cells (ccells czero).toArray t2)).heap.size=w.heap.size+2:=fun t1 t2=>by
  obtain ⟨q1,q2,q3,q4⟩:=zc8 w #[.int .u8 cc.k, .slice cc.pa cc.pl cc.pc, .string cc.key, .int .i64 cc.i, .int .i64 cc.j, .int .i64 cc.n, .int .u8 cc.v.k, .int .i64 cc.v.n, .string cc.v.s, .slice cc.v.la cc.v.ll cc.v.lc, .slice cc.v.oa cc.v.ol cc.v.oc, .string cc.s] (ccells czero).toArray t1 t2
  exact ⟨q1,by simpa using q2,q3,by simp⟩
 have HBX:=qh (hbx 54 54)
 have HCB:=qh hcb
 clear hbx hp hxv hcb
 go_enter Tryz.func73,Tryz.ntmps73
 generalize hQ0:bodyPost _ _ _=Q0
 have HQ:=qh hQ0
 clear hQ0
 go_upto_region 1 with fail
 obtain ⟨w1,hw1⟩:∃w1,(w.alloc (.cells (uC cc) 54)).alloc (.cells (ccells czero).toArray 54)=w1:=⟨_,rfl⟩
 rw [hw1] at HBX
 rw [show (w.alloc (.cells (uC cc) 54)).alloc (.cells #[.int .u8 0, .slice none 0 0, .string { data:= #[] }, .int .i64 0, .int .i64 0, .int .i64 0, .int .u8 0, .int .i64 0, .string { data:= #[] }, .slice none 0 0, .slice none 0 0, .string { data:= #[] }] 54)=w1 from hw1]
 obtain ⟨hb1,hb2,hal,hsz⟩:=HBX.out
 have HB1:=qh hb1;have HB2:=qh hb2;have HAL:=qh hal;have HSZ:=qh hsz
 have HCL1:Hid (∀W,uB w1 W->uP 120 #[.slice cc.pa cc.pl cc.pc] W fun e w'=>(∃a' m' c',e= .returned (.slice a' m' c')/\IsSteps (only (fun k=>w1.heap.size<=k) w') w'.heap.size p a' m' c')/\uB w1 w'/\uB W w'):=qh fun W hW=>(HCL.out W (HAL.out.trans (hW.mono HAL.out.size))).mono fun e w' h=>by
  obtain ⟨⟨a',m',c',rfl,hst⟩,hb⟩:=h
  exact ⟨⟨a',m',c',rfl,hst.sub (Ze fun k hk hl=>⟨Nat.le_trans hW.size hk,rfl⟩)⟩,hW.trans (hb.mono hW.size),hb⟩
 have HCV1:Hid (∀W,uB w1 W->uP 46 #[.agg (uV cc.v)] W fun e w'=>(∃f:VC,e= .returned (.agg #[.int .u8 f.k, .int .i64 f.n, .string f.s, .slice f.la f.ll f.lc, .slice f.oa f.ol f.oc])/\IsVal (only (fun k=>w1.heap.size<=k) w') w'.heap.size xv f)/\uB w1 w'/\uB W w'):=qh fun W hW=>(HCV.out W (HAL.out.trans (hW.mono HAL.out.size))).mono fun e w' h=>by
  obtain ⟨⟨f,rfl,hv⟩,hb⟩:=h
  exact ⟨⟨f,rfl,hv.sepI.isVal.sub (Ze fun k hk hl=>⟨Nat.le_trans hW.size hk,rfl⟩)⟩,hW.trans (hb.mono hW.size),hb⟩
 have q1:=hb1.at_ 1 _ rfl;have q6:=hb1.at_ 6 _ rfl;have q7:=hb1.at_ 7 _ rfl;have q8:=hb1.at_ 8 _ rfl;have q9:=hb1.at_ 9 _ rfl;have q10:=hb1.at_ 10 _ rfl;have qf1:=hb1.fr 1;have qf6:=hb1.fr 6;have qf7:=hb1.fr 7;have qf8:=hb1.fr 8;have qf9:=hb1.fr 9;have qf10:=hb1.fr 10;have qz:=hb1.lt
 have bl0:uB w1 w1.drew:=Zf w1
 have mixed:Tryz.prog.follows .mixedOrders=true:=by kernel_rfl
 clear hb1 hb2 hal hsz hw1 HBX HCL HCV
 refine wp_region_noPanic ?_
 go_region_with (first
  |(go_simp;go_at_call 120;(with_reducible refine (HCL1.out _ (by assumption)).mono ?_);rintro e wq ⟨⟨a1,m1,c1,rfl,hst⟩,hbq,hbr⟩;have D:=HB1.out.keep hbq (by have:=HSZ.out;omega);have k1:=D.at_ 1 _ rfl;have k6:=D.at_ 6 _ rfl;have k7:=D.at_ 7 _ rfl;have k8:=D.at_ 8 _ rfl;have k9:=D.at_ 9 _ rfl;have k10:=D.at_ 10 _ rfl;have kf1:=D.fr 1;have kf6:=D.fr 6;have kf7:=D.fr 7;have kf8:=D.fr 8;have kf9:=D.fr 9;have kf10:=D.fr 10;have kz:=D.lt;have HST:=qh hst;(try replace HVL:=qh (zf5 HVL.out hbr));clear D hst hbr)
  |(go_simp;go_at_call 46;(with_reducible refine (HCV1.out _ (by assumption)).mono ?_);rintro e wq ⟨⟨f,rfl,hvl⟩,hbq,hbr⟩;have D:=HB1.out.keep hbq (by have:=HSZ.out;omega);have k1:=D.at_ 1 _ rfl;have k6:=D.at_ 6 _ rfl;have k7:=D.at_ 7 _ rfl;have k8:=D.at_ 8 _ rfl;have k9:=D.at_ 9 _ rfl;have k10:=D.at_ 10 _ rfl;have kf1:=D.fr 1;have kf6:=D.fr 6;have kf7:=D.fr 7;have kf8:=D.fr 8;have kf9:=D.fr 9;have kf10:=D.fr 10;have kz:=D.lt;have HVL:=qh hvl;(try replace HST:=qh (zf0 HST.out hbr));clear D hvl hbr))
 all_goals (
  have hW1:=HB1.out.keep (show uB w1 wq by assumption) (by have:=HSZ.out;omega)
  have hW2:=HB2.out.keep (show uB w1 wq by assumption) (by have:=HSZ.out;omega)
  have hbW:=HAL.out.trans ((show uB w1 wq by assumption).mono HAL.out.size)
  have HCY:=qh (CY.made (W1:=w1) hW1 hW2 (by have:=HSZ.out;omega) HST.out HVL.out hbW)
  refine Zr (P:=fun W=>CY w W p xv { cc with pa:=a1,pl:=m1,pc:=c1,v:=f }) HCY.out ?_
  clear hW1 hW2 hbW HCY HST HVL
  rintro W5 h5
  obtain ⟨x0,x1,x2,x3,x4,x5,x6,x7,x8,x9,x10,x11⟩:=row12 h5.one.at_
  have y0:=h5.two.at_ 0 _ rfl;have g0:=h5.two.fr 0;have y1:=h5.two.at_ 1 _ rfl;have g1:=h5.two.fr 1;have y2:=h5.two.at_ 2 _ rfl;have g2:=h5.two.fr 2;have y3:=h5.two.at_ 3 _ rfl;have g3:=h5.two.fr 3;have y4:=h5.two.at_ 4 _ rfl;have g4:=h5.two.fr 4;have y5:=h5.two.at_ 5 _ rfl;have g5:=h5.two.fr 5;have y6:=h5.two.at_ 6 _ rfl;have g6:=h5.two.fr 6;have y7:=h5.two.at_ 7 _ rfl;have g7:=h5.two.fr 7;have y8:=h5.two.at_ 8 _ rfl;have g8:=h5.two.fr 8;have y9:=h5.two.at_ 9 _ rfl;have g9:=h5.two.fr 9;have y10:=h5.two.at_ 10 _ rfl;have g10:=h5.two.fr 10;have y11:=h5.two.at_ 11 _ rfl;have g11:=h5.two.fr 11
  have zx:=h5.one.lt;have zy:=h5.two.lt
  have H5:=qh h5
  clear h5
  go_wp2_with fail
  rw [<-HQ.out]
  have hq:=HCB.out
  have st:=Y9 W5 (w.heap.size+1) { cc with pa:=a1,pl:=m1,pc:=c1,v:=f }
  refine ⟨rfl,_,zfj rfl (Zt (c0:=czero) H5.out.two { cc with pa:=a1,pl:=m1,pc:=c1,v:=f }),⟨{ cc with pa:=a1,pl:=m1,pc:=c1,v:=f },rfl, ?_⟩,Below.setC H5.out.below (by omega) { cc with pa:=a1,pl:=m1,pc:=c1,v:=f }⟩
  refine .mk { cc with pa:=a1,pl:=m1,pc:=c1,v:=f } p _ ⟨hq.k0,hq.k1,hq.i0,hq.i1,hq.j0,hq.j1,hq.n0,hq.n1,hq.key1,hq.s1⟩ ?_ ?_
  .exact (H5.out.st.sub (Ze (S':=fun k=>w.heap.size<=k) fun k hk hl=>⟨by omega,st.block k hl (by omega)⟩)).more st.size
  .exact (H5.out.vl.sub (Ze (S':=fun k=>w.heap.size<=k) fun k hk hl=>⟨by omega,st.block k hl (by omega)⟩)).more st.size)
theorem zkh {w:World} {b o:Nat} {c:CC} (h:CompAt w b o c):∀k u,(ccells c)[k]? =some u->w.cell? ⟨b,o+k,none⟩=some u:=fun k u hk=>by
 have hm:k<12:=by have:=(List.getElem?_eq_some_iff.1 hk).1;exact this
 match k,hm with
 |0,_=>rw [<-hk];exact h.c0
 |1,_=>rw [<-hk];exact h.c1
 |2,_=>rw [<-hk];exact h.c2
 |3,_=>rw [<-hk];exact h.c3
 |4,_=>rw [<-hk];exact h.c4
 |5,_=>rw [<-hk];exact h.c5
 |6,_=>rw [<-hk];exact h.c6.c0
 |7,_=>rw [<-hk];exact h.c6.c1
 |8,_=>rw [<-hk];exact h.c6.c2
 |9,_=>rw [<-hk];exact h.c6.c3
 |10,_=>rw [<-hk];exact h.c6.c4
 |11,_=>rw [<-hk];exact h.c11
theorem Qa (w:World) (o:Obj):uB w (w.alloc o):=(Below.refl _ _).alloc (Nat.le_refl _) o
theorem RowC.snoc {w4 w9:World} {base lo:Nat} {a:Option Addr} {m c:Nat} {xs:List Cm} {cs:List CC} {cm:Cm} {d:CC} {g cap:Nat} (h:RowC w4 base (.slice a m c) xs cs) (hl:cs.length=xs.length) (hbase:base<=lo) (hlo:∀k,(Value.slice a m c).ownBlock=some k->k<lo) (hd:IsComp (only (fun k=>lo<=k) w4) w4.heap.size cm d)
 (hown:w9.ownsRow base 54 12 (.slice (some ⟨g,0,none⟩) (xs.length+1) cap) (xs.length+1) (cs.flatMap ccells++ccells d)) (hg:(w4.alloc (.cells #[.int .u8 d.k, .slice d.pa d.pl d.pc, .string d.key, .int .i64 d.i, .int .i64 d.j, .int .i64 d.n, .int .u8 d.v.k, .int .i64 d.v.n, .string d.v.s, .slice d.v.la d.v.ll d.v.lc, .slice d.v.oa d.v.ol d.v.oc, .string d.s] 54)).grownBy w9 (Value.slice a m c).ownBlock) (hat:(Value.slice a m c).ownBlock=some g∨g=w4.heap.size+1):
 RowC w9 base (.slice (some ⟨g,0,none⟩) (xs.length+1) cap) (xs++ [cm]) (cs++ [d]):=by
 obtain ⟨s1,s2⟩:=PC.snoc (l:=xs) (cs:=cs) hl cm d
 have hnew:PC (xs++ [cm]) (cs++ [d]) (only (Free base (.slice a m c)) w4) w4.heap.size xs.length:=s1 _ _ (hd.sub (Ze fun b hb _=>⟨⟨Nat.le_trans hbase hb,fun e=>by have h1:=hlo b e.symm;have h2:lo<=b:=hb;omega⟩,rfl⟩))
 have hpush:=Row.push (PC.closed (xs++ [cm]) (cs++ [d])) h (Qa w4 _) hg (u':= .slice (some ⟨g,0,none⟩) (xs.length+1) cap) (news:=ccells d) hown (by
  rcases hat with e|e
  .left;rw [e];rfl
  .right;intro b hb;have:g=b:=by simpa [Value.ownBlock] using hb
   omega) hnew s2
 show Row _ _ _ _ _ _ _ _
 rw [Yf,List.length_append,List.length_singleton]
 exact hpush
structure LK (w wr:World) (op:List Cm) (j:Nat) (u:Value) (cs:List CC):Prop where
 row:RowC wr w.heap.size u (op.take j) cs
 cen:cs.length=j
 below:Below w.heap.size w wr
set_option maxRecDepth 100000 in
theorem Ks (w:World) (op:List Cm) (oa:Option Addr) (on oc:Nat) (hop:IsComps w w.heap.size op oa on oc) (hn:on<=10000):
 uP 41 #[.slice oa on oc] w (AimPost w op):=by
 delta uP
 have hmax:=hop.max;have hcap:=hop.cap;have hlen:=hop.len
 subst hlen
 obtain ⟨i0,hi0,hz0,hz1,hz2⟩:=info_parts Ko
 have HOP:=qh hop
 have HLY:Hid (LK w w op 0 (.slice none 0 0) []):=qh ⟨Row.nil _ _ _ _ _,rfl,Below.refl _ _⟩
 clear hop
 go_enter Tryz.func41,Tryz.ntmps41
 generalize hQ0:bodyPost _ _ _=Q0
 have HQ:=qh hQ0
 clear hQ0
 go_wp2_with fail
 go_loopw [3,8] (fun s i wr=>∃(j:Nat) (a:Option Addr) (c:Nat) (cs:List CC),s= .slice a j c/\i= .int .i64 j/\j<=op.length/\Hid (LK w wr op j (.slice a j c) cs)) (fun _ i _=>op.length - (intOf i).toNat)
 case atStart=>exact ⟨0,none,0, [],rfl,rfl,Nat.zero_le _,HLY⟩
 case round=>
  obtain ⟨j,a,c,cs,rfl,rfl,hj,HL⟩:=hrel
  clear HLY
  by_cases hlt:j<op.length
  .have hlh:=HL.out
   have hjl:=hlt
   obtain ⟨b,o,f,h5,h6⟩:=HOP.out.at_
   obtain ⟨rfl,hbB⟩:=h5 (by omega)
   obtain ⟨hat,hic⟩:=h6 j hjl
   have hat2:=hat.keep hlh.below hbB
   have hbw:=Nat.lt_of_lt_of_le hbB hlh.below.size
   obtain ⟨cc,hcc⟩:∃c,f j=c:=⟨_,rfl⟩
   rw [hcc] at hat2 hic
   obtain ⟨cm,hcm⟩:∃y,op[j] =y:=⟨_,rfl⟩
   rw [hcm] at hic
   have htk:op.take (j+1)=op.take j++ [cm] :=by rw [List.take_add_one,List.getElem?_eq_getElem hjl,hcm];rfl
   have htl:(op.take j).length=j:=by rw [List.length_take];omega
   obtain ⟨w1,hw1⟩:∃w1,wr.alloc (.cells (uC cc) 54)=w1:=⟨_,rfl⟩
   have hb1:uB wr w1:=by rw [<-hw1];exact Yw wr _
   have hx1:BC w1 wr.heap.size (ccells cc):=by rw [<-hw1];exact BC.start wr (uC cc) 54
   have HC:=qh (Kt w1 cm cc (((hic.keep hlh.below).more hlh.below.size).keep hb1|>.more hb1.size))
   obtain ⟨e0,e1,e2,e3,e4,e5,e6,e7,e8,e9,e10,e11⟩:=row12 (zkh hat2)
   rw [Nat.add_zero] at e0
   have hj0:¬((j:Int)<0):=by omega
   have hjn:(j:Int)<(op.length:Int):=by omega
   have HTK:=qh htk;have HTL:=qh htl;have HBB:=qh hbB;have HB1:=qh hb1
   clear h5 h6 hat hic hat2 hcc hcm htk htl hlh hbB
   go_upto_region 5 with fail
   clear hw1 e0 e1 e2 e3 e4 e5 e6 e7 e8 e9 e10 e11 hbw
   obtain ⟨c0,c1,c2,c3,c4,c5,c6,c7,c8,c9,c10,c11⟩:=row12 hx1.at_
   have zc:=hx1.lt
   clear hx1 hb1
   go_wp2_with fail
   refine HC.out.mono ?_
   rintro e w4 ⟨⟨d,rfl,hd⟩,hb4⟩
   have hB4:uB wr w4:=HB1.out.trans (hb4.mono HB1.out.size)
   have hr4:=HL.out.row.later (PC.closed _ _) (.of_below b hB4) (HBB.out)
   have hown:w4.ownsRow w.heap.size 54 12 (.slice a j c) j (cs.flatMap ccells):=by have:=hr4.own;rwa [HTL.out] at this
   have hlow:=HL.out.row.lt
   have hz4:=hB4.size;have hzw:=HL.out.below.size;have hz1:=HB1.out.size
   have HR4:=qh hr4;have HD:Hid (IsComp (only (fun k=>wr.heap.size<=k) w4) w4.heap.size cm d):=qh (hd.sub (Ze fun k hk _=>⟨Nat.le_trans hz1 hk,rfl⟩));have HB4:=qh hB4
   clear hr4 hd hb4 hB4 HC c0 c1 c2 c3 c4 c5 c6 c7 c8 c9 c10 c11 zc HB1 hz1
   go_wp2_with (at_builtin;refine wpList_append_lies _ rfl (.tmp 12) (.tmp 15) 31 (by rfl) w.heap.size 54 i0 _ 12 168 Tryz.underlying31 hi0 hz0 hz1 hz2 rfl (by omega) (.slice a j c) j (cs.flatMap ccells) (by rfl) (hown.alloc _) ⟨w4.heap.size,0,none⟩ 1 1 (ccells d) (by rfl) (by rfl) (Km w4 d _) (by simp [ccells,Value.oneCell']) (by omega) (by unfold maxLen;omega) (by omega) (by simp;omega) (w4.heap.size+1) (by simp) ?_;intro g cap2 w9 hown9 hgrow9 hat9 hlt9;have HO9:=qh hown9;have HG9:=qh hgrow9;have HA9:=qh hat9;clear hown9 hgrow9 hat9)
   go_roundw
   case rel=>exact ⟨j+1,some ⟨g,0,none⟩,cap2,cs++ [d],rfl,by go_num,by omega,qh ⟨by
    rw [HTK.out]
    have:=RowC.snoc HR4.out (g:=g) (cap:=cap2) (by rw [HTL.out];exact HL.out.cen) hzw (fun k hk=>(hlow k hk).2) HD.out (w9:=w9) (by rw [HTL.out];exact HO9.out) HG9.out HA9.out
    rwa [HTL.out] at this,by rw [List.length_append,HL.out.cen];rfl,HL.out.below.trans ((HB4.out.mono hzw).trans (((Qa w4 _).mono (by omega)).trans (Zj HG9.out (fun k hk=>(hlow k hk).1) (by rw [World.size_alloc];omega))))⟩⟩
   case measure=>simp [intOf];omega
  .obtain rfl:j=op.length:=by omega
   have htl:op.take op.length=op:=List.take_of_length_le (by omega)
   have hfin:AimPost w op (.returned (.slice a op.length c)) wr:=⟨⟨a,op.length,c,rfl,by
    have:=HL.out.row
    rw [htl] at this
    exact this.comps (by rw [HL.out.cen]) (Nat.le_refl _) (by omega)⟩,HL.out.below⟩
   have HF:=qh hfin
   clear htl hfin HL
   go_wp2_with fail
   rw [<-HQ.out]
   exact ⟨rfl,_,by simp [results,Tryz.results41,go_sem],HF.out⟩
theorem ze2 {cs:List CC} {d d':CC} {J t:Nat} {v:Value} (hJ:cs.length=J) (h:(ccells d).set t v=ccells d'):((cs++ [d]).flatMap ccells).set (J*12+t) v=(cs++ [d']).flatMap ccells:=by
 have hl:(cs.flatMap ccells).length=J*12:=by rw [Zk ccells 12 (fun _=>rfl),hJ]
 rw [Yf,Yf,List.set_append_right _ _ (by omega),hl,Nat.add_sub_cancel_left,h]
theorem RowC.last {W W':World} {base g J c:Nat} {l:List Cm} {cs:List CC} {z m:Cm} {d d':CC} (hJ:l.length=J) (hc:cs.length=J) (h:RowC W base (.slice (some ⟨g,0,none⟩) (J+1) c) (l++ [z]) (cs++ [d])) (hown:W'.ownsRow base 54 12 (.slice (some ⟨g,0,none⟩) (J+1) c) (J+1) ((cs++ [d']).flatMap ccells)) (hblk:∀k,k≠g->k<W.heap.size->W'.heap[k]? =W.heap[k]?) (hsz:W.heap.size<=W'.heap.size)
 (hm:IsComp (only (Free base (.slice (some ⟨g,0,none⟩) (J+1) c)) W) W.heap.size m d'):RowC W' base (.slice (some ⟨g,0,none⟩) (J+1) c) (l++ [m]) (cs++ [d']):=by
 have hs:Shows (only (Free base (.slice (some ⟨g,0,none⟩) (J+1) c)) W) (only (Free base (.slice (some ⟨g,0,none⟩) (J+1) c)) W') W.heap.size:=Ze fun k hk hl=>⟨hk,hblk k (fun e=>hk.2 (by rw [e];rfl)) hl⟩
 show Row _ _ _ _ _ _ _ _
 rw [List.length_append,hJ,List.length_singleton]
 refine ⟨hown,fun i hi=> ?_⟩
 intro hi2
 by_cases hij:i<J
 .have:=h.els i (by rw [List.length_append,hJ,List.length_singleton];omega) (by rw [List.length_append,hJ,List.length_singleton];omega)
  rw [List.getElem_append_left (by omega)] at this ⊢
  have e1:(cs++ [d]).getD i czero=(cs++ [d']).getD i czero:=by simp [List.getD_eq_getElem?_getD,List.getElem?_append_left (show i<cs.length by omega)]
  rw [<-e1]
  exact (this.sub hs).more hsz
 .obtain rfl:i=J:=by omega
  have e1:(l++ [m])[i]'hi2=m:=by simp [<-hJ]
  have e2:(cs++ [d']).getD i czero=d':=by simp [<-hc]
  rw [e1,e2]
  exact (hm.sub hs).more hsz
theorem zky {w:World} {B:Nat} {z:Cm} {d:CC} {V:Int} (h:IsComp w B z d) (h1: -9223372036854775808<=V) (h2:V<=9223372036854775807):IsComp w B { z with n:=V } { d with n:=V } :=by
 cases h with
 |mk d p xv hb hp hx=>exact .mk { d with n:=V } p xv ⟨hb.k0,hb.k1,hb.i0,hb.i1,hb.j0,hb.j1,h1,h2,hb.key1,hb.s1⟩ hp hx
theorem zgm {w:World} {B:Nat} {z:Cm} {d:CC} {s:ByteArray} (h:IsComp w B z d) (h1:s.size<=140737488355328):IsComp w B { z with s:=s } { d with s:=s } :=by
 cases h with
 |mk d p xv hb hp hx=>exact .mk { d with s:=s } p xv ⟨hb.k0,hb.k1,hb.i0,hb.i1,hb.j0,hb.j1,hb.n0,hb.n1,hb.key1,h1⟩ hp hx
theorem RowC.pop {W:World} {base g J c:Nat} {l:List Cm} {cs:List CC} {m:Cm} {d:CC} (hJ:l.length=J) (hc:cs.length=J) (h:RowC W base (.slice (some ⟨g,0,none⟩) (J+1) c) (l++ [m]) (cs++ [d])):RowC W base (.slice (some ⟨g,0,none⟩) J c) l cs:=by
 have hl:(cs.flatMap ccells).length=J*12:=by rw [Zk ccells 12 (fun _=>rfl),hc]
 show Row _ _ _ _ _ _ _ _
 rw [hJ]
 refine ⟨⟨hl, .inr ?_⟩,fun i hi=> ?_⟩
 .rcases h.own.2 with ⟨e,_⟩|⟨g',cap,cur,e,h1,h2,h3,h4,h5,h6⟩
  .cases e
  .rw [List.length_append,hJ,List.length_singleton] at e h3 h6
   injection e with e1 e2 e3
   injection e1 with e1;injection e1 with e1
   subst e1 e3
   refine ⟨g,c,cur,rfl,h1,h2,by omega,h4,h5, ?_⟩
   have h7:=congrArg (List.take (J*12)) h6
   rw [List.take_take,Nat.min_eq_left (by omega),Yf,List.take_left' hl] at h7
   exact h7
 .intro hi2
  have:=h.els i (by rw [List.length_append,hJ,List.length_singleton];omega) (by rw [List.length_append,hJ,List.length_singleton];omega)
  rw [List.getElem_append_left (by omega)] at this
  have e1:(cs++ [d]).getD i czero=cs.getD i czero:=by simp [List.getD_eq_getElem?_getD,List.getElem?_append_left (show i<cs.length by omega)]
  rw [e1] at this
  exact this
set_option maxRecDepth 100000 in
theorem zau (w:World) (cm:Cm) (cc:CC) (hk:cm.k=cc.k/\cm.n=cc.n/\cm.i=cc.i/\cm.j=cc.j):uP 47 #[.agg (uC cc)] w fun e w'=>e= .returned (.bool (idleB cm))/\uB w w':=by
 delta uC uB uP
 have hx:=BC.start w (uC cc) 54
 obtain ⟨w1,hw1⟩:∃W,w.alloc (.cells (uC cc) 54)=W:=⟨_,rfl⟩
 have hb1:uB w w1:=by rw [<-hw1];exact Yw w _
 rw [hw1] at hx
 obtain ⟨c0,c1,c2,c3,c4,c5,c6,c7,c8,c9,c10,c11⟩:=row12 hx.at_
 obtain ⟨R,hR⟩:∃R,idleB cm=R:=⟨_,rfl⟩
 rw [hR]
 simp only [idleB,hk.1,hk.2.1,hk.2.2.1,hk.2.2.2] at hR
 have HR:=qh hR;have HB:=qh hb1
 clear hb1 hx hk hR
 go_enter Tryz.func47,Tryz.ntmps47
 go_upto_region 1 with fail
 clear hw1
 go_wp2_with fail
 all_goals (go_ret;refine ⟨Zc ?_,HB.out⟩;rw [<-HR.out];clear c0 c1 c2 c3 c4 c5 c6 c7 c8 c9 c10 c11 HR HB;first|rfl|grind)
def mergeV (d cc:CC):Option CC:=if cc.k=1 then some { d with n:=wrap64 (d.n+cc.n) } else if cc.k=2 then (if d.key=cc.key then some cc else none) else if cc.k=8 then (if cc.i=wrap64 (d.i+textN d.s) then some { d with s:=d.s++cc.s } else none) else none
def MgPost (w:World) (base g c J:Nat) (cs:List CC) (d:CC) (r:Option CC) (e:Ending) (w':World):Prop:=
 e= .returned (.bool r.isSome)/\w'.ownsRow base 54 12 (.slice (some ⟨g,0,none⟩) (J+1) c) (J+1) ((cs++ [r.getD d]).flatMap ccells)/\(∀k,k≠g->k<w.heap.size->w'.heap[k]? =w.heap[k]?)/\w.heap.size<=w'.heap.size/\Below base w w'/\(r=none->Below w.heap.size w w')
section
variable {w W0:World} {base g c J:Nat} {cs:List CC} {d:CC}
theorem J0 {r:Option CC} (hown:W0.ownsRow base 54 12 (.slice (some ⟨g,0,none⟩) (J+1) c) (J+1) ((cs++ [d]).flatMap ccells)) (hB:base<=w.heap.size) (hb:uB w W0) (h:r=none):MgPost w base g c J cs d r (.returned (.bool false)) W0:=by
 subst h;exact ⟨rfl,hown,fun k _ hl=>hb.block k hl,hb.size,hb.mono hB,fun _=>hb⟩
theorem zam {r:Option CC} (hown:W0.ownsRow base 54 12 (.slice (some ⟨g,0,none⟩) (J+1) c) (J+1) ((cs++ [d]).flatMap ccells)) (hJ:cs.length=J) (hB:base<=w.heap.size) (hg:base<=g) (hb:uB w W0) {t:Nat} {v:Value} {m:CC} (h:r=some m) (hm:(ccells d).set t v=ccells m):MgPost w base g c J cs d r (.returned (.bool true)) (W0.setCell ⟨g,J*12+t,none⟩ v):=by
 subst h
 have hst:=(hown.stored (J*12+t) v).1
 rw [ze2 (d':=m) hJ hm] at hst
 have st:RStep W0 (W0.setCell ⟨g,J*12+t,none⟩ v) g:=RStep.self
 exact ⟨rfl,hst,fun k hk hl=>(st.block k (Nat.lt_of_lt_of_le hl hb.size) hk).trans (hb.block k hl),Nat.le_trans hb.size st.size,(hb.mono hB).set_ hg,fun e=>by cases e⟩
theorem zmi {r:Option CC} {cc:CC} (hown:W0.ownsRow base 54 12 (.slice (some ⟨g,0,none⟩) (J+1) c) (J+1) ((cs++ [d]).flatMap ccells)) (hJ:cs.length=J) (hB:base<=w.heap.size) (hg:base<=g) (hb:uB w W0) (h:r=some cc):MgPost w base g c J cs d r (.returned (.bool true)) (setCo W0 g (J*12) cc):=by
 subst h
 have hst:=zbq hown (k:=J) (by simp [hJ]) cc
 rw [show (cs++ [d]).set J cc=cs++ [cc] by rw [<-hJ];simp] at hst
 have st:=zaj W0 g (J*12) cc
 exact ⟨rfl,hst,fun k hk hl=>(st.block k (Nat.lt_of_lt_of_le hl hb.size) hk).trans (hb.block k hl),Nat.le_trans hb.size st.size,(hb.mono hB).trans (((((((((((((Below.refl base W0).set_ hg).set_ hg).set_ hg).set_ hg).set_ hg).set_ hg).set_ hg).set_ hg).set_ hg).set_ hg).set_ hg).set_ hg),fun e=>by cases e⟩
end
theorem Xu {w W:World} {base g c J:Nat} {xs:List Value} (h:w.ownsRow base 54 12 (.slice (some ⟨g,0,none⟩) (J+1) c) (J+1) xs) (hb:uB w W):W.ownsRow base 54 12 (.slice (some ⟨g,0,none⟩) (J+1) c) (J+1) xs:=by
 obtain ⟨h1,h2⟩:=h
 refine ⟨h1,h2.imp id fun ⟨b,k,l,q1,q2,q3,q4⟩=>⟨b,k,l,q1,q2, ?_,q4⟩⟩
 have hlt:b<w.heap.size:=by
  cases hq:Nat.decLt b w.heap.size with
  |isTrue h=>exact h
  |isFalse h=>rw [Array.getElem?_eq_none (by omega)] at q3;cases q3
 rw [hb.block b hlt];exact q3
set_option maxRecDepth 100000 in
theorem zlr (w:World) (base g c J:Nat) (cs:List CC) (d cc:CC) (hJ:cs.length=J) (hown:w.ownsRow base 54 12 (.slice (some ⟨g,0,none⟩) (J+1) c) (J+1) ((cs++ [d]).flatMap ccells)) (hB:base<=w.heap.size) (hg:base<=g) (hgw:g<w.heap.size) (hsd:d.s.size<=1000000000000) (hcs:cc.s.size<=1000000000000):
 uP 49 #[.pointer (some ⟨g,J*12,none⟩), .agg (uC cc)] w (MgPost w base g c J cs d (mergeV d cc)):=by
 delta uC uP
 have hx:=BC.start w (uC cc) 54
 obtain ⟨w1,hw1⟩:∃W,w.alloc (.cells (uC cc) 54)=W:=⟨_,rfl⟩
 have hb1:uB w w1:=by rw [<-hw1];exact Yw w _
 rw [hw1] at hx
 have hown1:=Xu hown hb1
 obtain ⟨R,hR⟩:∃R,mergeV d cc=R:=⟨_,rfl⟩
 rw [hR]
 unfold mergeV at hR
 have HX:=qh hx
 have hdd:(cs++ [d])[J]'(by simp [hJ])=d:=by simp [<-hJ]
 have hds:=Qv hown1 (i:=J) (by simp [hJ])
 rw [hdd] at hds
 have HDS:=qh hds
 obtain ⟨d0,d1,d2,d3,d4,d5,d6,d7,d8,d9,d10,d11⟩:=row12 hds
 rw [Nat.add_zero] at d0
 obtain ⟨c0,c1,c2,c3,c4,c5,c6,c7,c8,c9,c10,c11⟩:=row12 hx.at_
 have hgw1:g<w1.heap.size:=Nat.lt_of_lt_of_le hgw hb1.size
 have gf:∀q,w1.frozen? ⟨g,q,none⟩=false:=fun q=>hown1.frozenAt q
 have HB:=qh hb1;have HO:=qh hown1;have HJ:=qh hJ
 have HLN:Hid (∀W,uB w1 W->uP 89 #[.string d.s] W fun e w'=>e= .returned (.int .i64 (textN d.s:Int))/\uB W w'):=qh fun W _=>zca W d.s hsd
 have HL:∀W,uB w1 W->Hid (W.ownsRow base 54 12 (.slice (some ⟨g,0,none⟩) (J+1) c) (J+1) ((cs++ [d]).flatMap ccells)/\uB w W/\BC W w.heap.size (ccells cc)/\(∀t u,(ccells d)[t]? =some u->W.cell? ⟨g,J*12+t,none⟩=some u)/\g<W.heap.size/\∀q,W.frozen? ⟨g,q,none⟩=false):=fun W hW=>qh ⟨Xu hown1 hW,hb1.trans (hW.mono hb1.size),hx.keep hW hx.lt,fun t u h=>Zb hW (hds t u h) hgw1,Nat.lt_of_lt_of_le hgw1 hW.size,fun q=>(Xu hown1 hW).frozenAt q⟩
 have HLL:=qh HL
 by_cases k1:cc.k=1
 .rw [if_pos k1] at hR
  rw [k1] at c0
  have HR:=qh hR
  clear hR k1 HL hb1 hown hown1 hJ hdd hds hx hsd
  go_enter Tryz.func49,Tryz.ntmps49
  go_upto_region 1 with fail
  clear hw1
  go_upto_region 3 with fail
  go_region
  all_goals (
   go_wp2_with fail
   go_ret
   exact zam (W0:=w1.drew) (Xu HO.out (Zf w1)) HJ.out hB hg (HB.out.trans ((Zf w1).mono HB.out.size)) HR.out.symm rfl)
 rw [if_neg k1] at hR
 by_cases k2:cc.k=2
 .rw [if_pos k2] at hR
  rw [k2] at c0
  have x2:=Za d2;have y2:=Za c2
  obtain ⟨q,hq⟩:∃q,(d.key.toList==cc.key.toList)=q:=⟨_,rfl⟩
  have hqk:q=true↔d.key=cc.key:=by rw [<-hq];exact ⟨fun h=>K8 (by simpa using h),fun h=>by rw [h];simp⟩
  have HR:=qh hR;have HQ:=qh hqk
  clear hR k1 k2 HL hb1 hown hown1 hJ hdd hds hx hsd hqk
  go_enter Tryz.func49,Tryz.ntmps49
  go_upto_region 1 with fail
  clear hw1
  go_upto_region 6 with fail
  refine Zh (by kernel_rfl) (by kernel_rfl) ?_
  repeat (go_big_quiet_step ((fail)))
  refine wpQuiet_nil ?_
  intro _ hw'
  obtain ⟨pq,hw''⟩:=hw'
  subst hw''
  have HW:=HLL.out _ (Zd w1 pq)
  obtain ⟨_,_,hx2,hd2,zz,gg⟩:=HW.out
  clear c0 c1 c2 c3 c4 c5 c6 c7 c8 c9 c10 c11 d0 d1 d2 d3 d4 d5 d6 d7 d8 d9 d10 d11 x2 y2 hgw1 gf
  obtain ⟨W0,hW0⟩:∃W0,later w1 pq=W0:=⟨_,rfl⟩
  rw [hW0] at HW hx2 hd2 zz gg ⊢
  clear hW0
  obtain ⟨d0,d1,d2,d3,d4,d5,d6,d7,d8,d9,d10,d11⟩:=row12 hd2
  rw [Nat.add_zero] at d0
  obtain ⟨c0,c1,c2,c3,c4,c5,c6,c7,c8,c9,c10,c11⟩:=row12 hx2.at_
  have zc:=hx2.lt
  clear hx2 hd2
  cases q with
  | true=>
    have hr:=HR.out
    rw [if_pos (HQ.out.1 rfl)] at hr
    have HR2:=qh hr
    clear hr HR HQ
    go_wp2_with fail
    go_ret
    have:=zmi HW.out.1 HJ.out hB hg HW.out.2.1 HR2.out.symm
    unfold setCo at this
    exact this
  | false=>
    have hr:=HR.out
    rw [if_neg fun e=>(by have:=HQ.out.2 e;cases this)] at hr
    have HR2:=qh hr
    clear hr HR HQ
    go_wp2_with fail
    go_ret
    exact J0 HW.out.1 hB HW.out.2.1 HR2.out.symm
 rw [if_neg k2] at hR
 by_cases k8:cc.k=8
 .rw [if_pos k8] at hR
  rw [k8] at c0
  have x3:=Za d3;have x11:=Za d11;have y3:=Za c3
  obtain ⟨M,hM⟩:∃M:Int,(textN d.s:Int)=M:=⟨_,rfl⟩
  rw [hM] at HLN hR
  obtain ⟨q,hq⟩:∃q,(cc.i==wrap64 (d.i+M))=q:=⟨_,rfl⟩
  have hq2:(cc.i==IntKind.i64.wrap (d.i+M))=q:=by rw [IntKind.wrap_i64];unfold wrap64 at hq;exact hq
  have hqk:q=true↔cc.i=wrap64 (d.i+M):=by rw [<-hq];exact beq_iff_eq
  have HR:=qh hR;have HQ:=qh hqk
  clear hR k1 k2 k8 HL hb1 hown hown1 hJ hdd hds hx hqk hM
  go_enter Tryz.func49,Tryz.ntmps49
  go_upto_region 1 with fail
  clear hw1
  go_upto_region 10 with fail
  refine Zh (by kernel_rfl) (by kernel_rfl) ?_
  repeat (go_big_quiet_step ((go_at_call 89;exact Zg (HLN.out _ (Zd _ _)))))
  refine wpQuiet_nil ?_
  intro _ hw'
  obtain ⟨pq,hw''⟩:=hw'
  subst hw''
  have HW:=HLL.out _ (Zd w1 pq)
  obtain ⟨_,_,hx2,hd2,zz,gg⟩:=HW.out
  clear c0 c1 c2 c3 c4 c5 c6 c7 c8 c9 c10 c11 d0 d1 d2 d3 d4 d5 d6 d7 d8 d9 d10 d11 x3 x11 y3 hgw1 gf
  obtain ⟨W0,hW0⟩:∃W0,later w1 pq=W0:=⟨_,rfl⟩
  rw [hW0] at HW hx2 hd2 zz gg ⊢
  clear hW0
  obtain ⟨d0,d1,d2,d3,d4,d5,d6,d7,d8,d9,d10,d11⟩:=row12 hd2
  rw [Nat.add_zero] at d0
  obtain ⟨c0,c1,c2,c3,c4,c5,c6,c7,c8,c9,c10,c11⟩:=row12 hx2.at_
  have zc:=hx2.lt
  clear hx2 hd2
  cases q with
  | true=>
    have hr:=HR.out
    rw [if_pos (HQ.out.1 rfl)] at hr
    have HR2:=qh hr
    clear hr HR HQ
    go_upto_region 11 with fail
    clear hq hq2
    go_region
    all_goals (
     go_wp2_with fail
     go_ret
     exact zam (W0:=W0.drew) (Xu HW.out.1 (Zf W0)) HJ.out hB hg (HW.out.2.1.trans ((Zf W0).mono HW.out.2.1.size)) HR2.out.symm rfl)
  | false=>
    have hr:=HR.out
    rw [if_neg fun e=>(by have:=HQ.out.2 e;cases this)] at hr
    have HR2:=qh hr
    clear hr HR HQ
    go_wp2_with fail
    go_ret
    exact J0 HW.out.1 hB HW.out.2.1 HR2.out.symm
 .rw [if_neg k8] at hR
  have g1:(cc.k==1)=false:=by simpa using k1
  have g2:(cc.k==2)=false:=by simpa using k2
  have g8:(cc.k==8)=false:=by simpa using k8
  have HR:=qh hR
  clear hR k1 k2 k8 HL hb1 hown hown1 hJ hdd hds hx hsd
  go_enter Tryz.func49,Tryz.ntmps49
  go_upto_region 1 with fail
  clear hw1
  go_wp2_with fail
  go_ret
  exact J0 HO.out hB HB.out HR.out.symm
theorem zh3 {l:List Cm} {z c:Cm} (h:idleB c=false):ontoP (l++ [z]) c=match joinC z c with
 |none=>l++ [z] ++ [c]
 |some none=>l
 |some (some m)=>l++ [m] :=by
 unfold ontoP
 rw [if_neg (by simp [h]),List.getLast?_append]
 simp only [List.getLast?_singleton,Option.some_or,List.dropLast_concat]
 cases joinC z c with
 |none=>rfl
 |some J=>cases J<;>rfl
theorem ziy {z c m:Cm} (h:joinC z c=some (some m)):m.s.size<=z.s.size+c.s.size:=by
 unfold joinC at h
 split at h
 .cases h
 .split at h
  .split at h
   .cases h
   .injection h with h;injection h with h;subst h
    exact Nat.le_add_right _ _
  .split at h
   .injection h with h;injection h with h;subst h
    exact Nat.le_add_left _ _
   .split at h
    .injection h with h;injection h with h;subst h
     exact Nat.le_of_eq ByteArray.size_append
    .cases h
theorem zeb (l:List Cm) (c:Cm):sumS (ontoP l c)<=sumS l+c.s.size:=by
 by_cases hi:idleB c=true
 .unfold ontoP;rw [if_pos hi];omega
 .rcases List.eq_nil_or_concat l with rfl|⟨l',z,rfl⟩
  .unfold ontoP;rw [if_neg hi];show sumS [c] <=_;rw [Q9];omega
  .rw [List.concat_eq_append,zh3 (by simpa using hi)]
   cases hj:joinC z c with
   |none=>show sumS (l'++ [z] ++ [c])<=_;rw [Qr (l'++ [z]),Q9];exact Nat.le_refl _
   | some J=>
     cases J with
     |none=>show sumS l'<=_;rw [Qr];omega
     |some m=>have:=ziy hj;show sumS (l'++ [m])<=_;rw [Qr,Qr,Q9,Q9];omega
theorem zdu:∀(r l:List Cm),sumS (r.foldl ontoP l)<=sumS l+sumS r:=by
 intro r
 induction r with
 |nil=>intro l;exact Nat.le_add_right _ _
 | cons c r ih=>
   intro l
   have h1:=ih (ontoP l c);have h2:=zeb l c
   have h3:sumS (c::r)=c.s.size+sumS r:=by simp [sumS]
   rw [List.foldl_cons];omega
theorem zct {l:List Cm} {z:Cm} (h:z ∈ l):z.s.size<=sumS l:=by
 induction l with
 |nil=>cases h
 | cons c r ih=>
   have h3:sumS (c::r)=c.s.size+sumS r:=by simp [sumS]
   rcases List.mem_cons.1 h with rfl|h
   .omega
   .have:=ih h;omega
end Go.Proofs.YtbgheehjfnoiiaaGreatDoor
