/-
  Contracts of the functions that the law reaches: conciliatorlaw06.Comp: a component as it.
-/
import Derived.Test.YtnjgbiachcfigaaGreatDoorIa35
namespace Go.Proofs.YtnjgbiachcfigaaGreatDoor
open Go.RowKit
set_option maxHeartbeats 16000000
theorem Qf (w:World) (a1 a2:Array Value) (t1 t2:TypeId):BC ((w.alloc (.cells a1 t1)).alloc (.cells a2 t2)) w.heap.size a1.toList/\BC ((w.alloc (.cells a1 t1)).alloc (.cells a2 t2)) (w.heap.size+1) a2.toList/\uB w ((w.alloc (.cells a1 t1)).alloc (.cells a2 t2))/\((w.alloc (.cells a1 t1)).alloc (.cells a2 t2)).heap.size=w.heap.size+1+1:=by
 delta uB
 have b1:uB w (w.alloc (.cells a1 t1)):=(Below.refl _ _).alloc (Nat.le_refl _) _
 have b2:uB (w.alloc (.cells a1 t1)) ((w.alloc (.cells a1 t1)).alloc (.cells a2 t2)):=(Below.refl _ _).alloc (Nat.le_refl _) _
 have c2:=BC.start (w.alloc (.cells a1 t1)) a2 t2
 rw [World.size_alloc] at c2
 exact ⟨(BC.start w a1 t1).keep b2 (by simp),c2,b1.trans (b2.mono (by simp)),by simp⟩
theorem Kw (v:V) (c:Cm):(doP v c).2=checkP v c:=by
 unfold doP
 split
 .rename_i he
  obtain ⟨hs,x,hg,hk⟩:=Zw he
  simp only [hg]
  obtain ⟨z,hz⟩:=Ym c.path hg (doneP x c)
  rw [hz,he];rfl
 .rfl
theorem Zu (w:World) (o:Obj):uB w (w.alloc o):=(Below.refl _ _).alloc (Nat.le_refl _) o
set_option maxRecDepth 100000 in
theorem ze9 (w:World) (a:Option Addr) (n c:Nat) (cs:List Value) (h0:a=none->n=0) (hp:∀ad,a=some ad->∀j u,cs[j]? =some u->w.cell? (ad.add j)=some u) (hl:cs.length=n*3) (h1:∀u ∈ cs,u.oneCell'=true) (hbig:n*32<=140737488355328):
 uP 133 #[.slice a n c] w fun e w'=>(∃v',e= .returned v'/\w'.ownsRow w.heap.size 77 3 v' n cs)/\uB w w':=by
 delta uB uP
 obtain ⟨i0,hi0,hz0,hz1,hz2⟩:=info_parts Kf
 have hq:∀(w:World) (a:Option Addr) (n c n' c':Nat),(binOp .eql 27 (.slice a n c) (.slice none n' c')).run Tryz.prog w= .ok (.bool a.isNone) w:=fun w a n c n' c'=>Lib.run_eql_slice_nil w _ _ a n c n' c' Tryz.underlying27
 cases a with
 | none=>
   obtain rfl:=h0 rfl
   obtain rfl:cs= [] :=List.length_eq_zero_iff.1 (by omega)
   clear hp hl h1 hbig h0
   go_enter Tryz.func133,Tryz.ntmps133
   go_wp2_with fail
   go_ret
   exact ⟨⟨_,rfl,⟨rfl, .inl ⟨rfl,rfl⟩⟩⟩,Below.refl _ _⟩
 | some ad=>
   have HP:=qh hp
   have HL:=qh hl
   have H1:=qh h1
   clear hp hl h1 h0
   go_enter Tryz.func133,Tryz.ntmps133
   go_wp2_with (at_builtin;refine Zz _ rfl (.tmp 5) (.tmp 6) 27 (by rfl) w.heap.size 77 i0 _ 3 32 Tryz.underlying27 hi0 hz0 hz1 hz2 rfl (by omega) _ 0 [] (by rfl) (World.ownsRow_made w #[] 0 (Nat.le_refl _) (Nat.zero_le _) rfl) (some ad) n c cs (by rfl) ⟨(fun h=>by cases h),fun ad h j u hj=>Lib.cell?_alloc_some _ (HP.out ad h j u hj)⟩ HL.out H1.out (by unfold maxLen;omega) (by omega) (by simp) ?_;intro v' w1 hown hgrow)
   go_ret
   exact ⟨⟨v',rfl,by simpa using hown⟩,((Below.refl _ w).alloc (Nat.le_refl _) _).grown hgrow (by simp) (by intro k hk;simp [Value.ownBlock] at hk;omega)⟩
theorem IsSteps.clone {w:World} {p:List St} {a:Option Addr} {n c:Nat} (h:IsSteps w w.heap.size p a n c):∀W,uB w W->uP 133 #[.slice a n c] W fun e w'=>(∃a' m' c',e= .returned (.slice a' m' c')/\IsSteps (only (fun k=>W.heap.size<=k) w') w'.heap.size p a' m' c')/\uB W w':=by
 delta uB uP
 intro W hW
 obtain ⟨h1,h2,h3,h4,b,o,h5,h6⟩:=h
 have hfl:(p.flatMap scells).length=n*3:=by rw [Zk scells 3 (fun _=>rfl),h1]
 refine (ze9 W a n c (p.flatMap scells) (fun e=> ?_) (fun ad e j u hj=> ?_) hfl (fun u hu=> ?_) (by omega)).mono ?_
 .by_cases h0:0<n
  .rw [e] at h5;cases (h5 h0).1
  .omega
 .have hj2:=(List.getElem?_eq_some_iff.1 hj).1
  have hn:0<n:=by omega
  obtain ⟨ha,hb⟩:=h5 hn
  rw [e] at ha;injection ha with ha;subst ha
  have hi:j / 3<p.length:=by omega
  have hd:j=j / 3*3+j % 3:=by omega
  have hm:j % 3<3:=by omega
  rw [hd,Yx scells 3 (fun _=>rfl) _ (j / 3) (j % 3) hi hm] at hj
  obtain ⟨g1,g2⟩:=h6 (j / 3) hi
  rw [Addr.add_lit,hd, <-Nat.add_assoc]
  refine Zb hW ?_ hb
  obtain ⟨m,hmm⟩:∃m,j % 3=m:=⟨_,rfl⟩
  rw [hmm] at hj hm ⊢
  match m,hm with
  |0,_=>rw [<-hj];exact g1.c0
  |1,_=>rw [<-hj];exact g1.c1
  |2,_=>rw [<-hj];exact g1.c2
 .obtain ⟨v,_,hv⟩:=List.mem_flatMap.1 hu
  simp only [scells,List.mem_cons,List.mem_nil_iff,or_false] at hv
  rcases hv with rfl|rfl|rfl<;>rfl
 .rintro e w' ⟨⟨v',rfl,ho⟩,hb'⟩
  obtain ⟨a',m',c',rfl,hS⟩:=J9 (S:=fun k=>W.heap.size<=k) (by rw [h1] at ho;exact ho) (fun k hk=>hk) (fun s hs=>by
   obtain ⟨i,hi,rfl⟩:=List.getElem_of_mem hs
   exact (h6 i hi).2) (by omega)
  exact ⟨⟨a',m',c',rfl,hS⟩,hb'⟩
theorem zkp {tmps:Array Value} {W:World} {b:Nat} {d:CC} (ht:tmps[2]? =some (.pointer (some ⟨b,0,none⟩))) (h:BC W b (ccells d)):
 (results Tryz.f103 tmps).run Tryz.prog W= .ok (.agg #[.int .u8 d.k, .slice d.pa d.pl d.pc, .string d.key, .int .i64 d.i, .int .i64 d.j, .int .i64 d.n, .int .u8 d.v.k, .int .i64 d.v.n, .string d.v.s, .slice d.v.la d.v.ll d.v.lc, .slice d.v.oa d.v.ol d.v.oc, .string d.s]) W:=by
 obtain ⟨r0,r1,r2,r3,r4,r5,r6,r7,r8,r9,r10,r11⟩:=row12 h.at_
 simp [results,Tryz.results103,go_sem,ht,r0,r1,r2,r3,r4,r5,r6,r7,r8,r9,r10,r11]
structure CY (w W:World) (p:List St) (xv:V) (d:CC):Prop where
 one:BC W w.heap.size (ccells d)
 two:BC W (w.heap.size+1) (ccells czero)
 st:IsSteps (only (fun k=>w.heap.size+2<=k) W) W.heap.size p d.pa d.pl d.pc
 vl:IsVal (only (fun k=>w.heap.size+2<=k) W) W.heap.size xv d.v
 below:Below w.heap.size w W
theorem zk0 (W:World) (b:Nat) (a:Option Addr) (m c:Nat) (f:VC):RStep W ((((((W.setCell ⟨b,1,none⟩ (.slice a m c)).setCell ⟨b,6,none⟩ (.int .u8 f.k)).setCell ⟨b,7,none⟩ (.int .i64 f.n)).setCell ⟨b,8,none⟩ (.string f.s)).setCell ⟨b,9,none⟩ (.slice f.la f.ll f.lc)).setCell ⟨b,10,none⟩ (.slice f.oa f.ol f.oc)) b:=((((RStep.self.trans RStep.self).trans RStep.self).trans RStep.self).trans RStep.self).trans RStep.self
theorem CY.made {w W1 W:World} {p:List St} {xv:V} {cc:CC} {a:Option Addr} {m c:Nat} {f:VC} (h1:BC W w.heap.size (ccells cc)) (h2:BC W (w.heap.size+1) (ccells czero)) (hz:w.heap.size+2<=W1.heap.size) (hst:IsSteps (only (fun k=>W1.heap.size<=k) W) W.heap.size p a m c) (hvl:IsVal (only (fun k=>W1.heap.size<=k) W) W.heap.size xv f) (hb:uB w W):
 CY w ((((((W.setCell ⟨w.heap.size,1,none⟩ (.slice a m c)).setCell ⟨w.heap.size,6,none⟩ (.int .u8 f.k)).setCell ⟨w.heap.size,7,none⟩ (.int .i64 f.n)).setCell ⟨w.heap.size,8,none⟩ (.string f.s)).setCell ⟨w.heap.size,9,none⟩ (.slice f.la f.ll f.lc)).setCell ⟨w.heap.size,10,none⟩ (.slice f.oa f.ol f.oc)) p xv { cc with pa:=a,pl:=m,pc:=c,v:=f } :=by
 have st:=zk0 W w.heap.size a m c f
 have hsh:Shows (only (fun k=>W1.heap.size<=k) W) (only (fun k=>w.heap.size+2<=k) _) W.heap.size:=Zd fun k hk hl=>⟨by omega,st.block k hl (by omega)⟩
 refine ⟨(((((h1.set (i:=1) (x:= .slice a m c) (by simp [ccells])).set (i:=6) (x:= .int .u8 f.k) (by simp [ccells])).set (i:=7) (x:= .int .i64 f.n) (by simp [ccells])).set (i:=8) (x:= .string f.s) (by simp [ccells])).set (i:=9) (x:= .slice f.la f.ll f.lc) (by simp [ccells])).set (i:=10) (x:= .slice f.oa f.ol f.oc) (by simp [ccells]),h2.next st (by omega),(hst.sub hsh).more st.size,(hvl.sub hsh).more st.size,hb.trans (st.lowC (Nat.le_refl _) (by have:=hb.size;omega))⟩
theorem K0 {w W:World} {S:Nat->Prop} {p:List St} {a:Option Addr} {n c:Nat} (h:IsSteps (only S w) w.heap.size p a n c) (hb:uB w W):IsSteps (only S W) W.heap.size p a n c:=(h.sub (Zd fun k hk hl=>⟨hk,hb.block k hl⟩)).more hb.size
theorem ze5 {w W:World} {S:Nat->Prop} {x:V} {f:VC} (h:IsVal (only S w) w.heap.size x f) (hb:uB w W):IsVal (only S W) W.heap.size x f:=(h.sub (Zd fun k hk hl=>⟨hk,hb.block k hl⟩)).more hb.size
set_option maxRecDepth 100000 in
theorem zk8 (w:World) (cm:Cm) (cc:CC) (hc:IsComp w w.heap.size cm cc):
 uP 103 #[.agg (uC cc)] w fun e w'=>(∃d:CC,e= .returned (.agg #[.int .u8 d.k, .slice d.pa d.pl d.pc, .string d.key, .int .i64 d.i, .int .i64 d.j, .int .i64 d.n, .int .u8 d.v.k, .int .i64 d.v.n, .string d.v.s, .slice d.v.la d.v.ll d.v.lc, .slice d.v.oa d.v.ol d.v.oc, .string d.s])/\IsComp (only (fun k=>w.heap.size<=k) w') w'.heap.size cm d)/\uB w w':=by
 delta uC uB uP
 cases hc with
 |mk cc p xv hcb hp hxv=>
 have HCL:=qh hp.clone
 have HCV:Hid (∀W,uB w W->uP 78 #[.agg (uV cc.v)] W fun e w'=>(∃f:VC,e= .returned (.agg #[.int .u8 f.k, .int .i64 f.n, .string f.s, .slice f.la f.ll f.lc, .slice f.oa f.ol f.oc])/\Whole w' W.heap.size xv f)/\uB W w'):=qh fun W hW=>Y6 W xv cc.v (hxv.later_ hW)
 have hbx:∀t1 t2,BC ((w.alloc (.cells (uC cc) t1)).alloc (.cells (ccells czero).toArray t2)) w.heap.size (ccells cc)/\BC ((w.alloc (.cells (uC cc) t1)).alloc (.cells (ccells czero).toArray t2)) (w.heap.size+1) (ccells czero)/\uB w ((w.alloc (.cells (uC cc) t1)).alloc (.cells (ccells czero).toArray t2))/\((w.alloc (.cells (uC cc) t1)).alloc (.cells (ccells czero).toArray t2)).heap.size=w.heap.size+2:=fun t1 t2=>by
  obtain ⟨q1,q2,q3,q4⟩:=Qf w #[.int .u8 cc.k, .slice cc.pa cc.pl cc.pc, .string cc.key, .int .i64 cc.i, .int .i64 cc.j, .int .i64 cc.n, .int .u8 cc.v.k, .int .i64 cc.v.n, .string cc.v.s, .slice cc.v.la cc.v.ll cc.v.lc, .slice cc.v.oa cc.v.ol cc.v.oc, .string cc.s] (ccells czero).toArray t1 t2
  exact ⟨q1,by simpa using q2,q3,by simp⟩
 have HBX:=qh (hbx 39 39)
 have HCB:=qh hcb
 clear hbx hp hxv hcb
 go_enter Tryz.func103,Tryz.ntmps103
 generalize hQ0:bodyPost _ _ _=Q0
 have HQ:=qh hQ0
 clear hQ0
 go_upto_region 1 with fail
 obtain ⟨w1,hw1⟩:∃w1,(w.alloc (.cells (uC cc) 39)).alloc (.cells (ccells czero).toArray 39)=w1:=⟨_,rfl⟩
 rw [hw1] at HBX
 rw [show (w.alloc (.cells (uC cc) 39)).alloc (.cells #[.int .u8 0, .slice none 0 0, .string { data:= #[] }, .int .i64 0, .int .i64 0, .int .i64 0, .int .u8 0, .int .i64 0, .string { data:= #[] }, .slice none 0 0, .slice none 0 0, .string { data:= #[] }] 39)=w1 from hw1]
 obtain ⟨hb1,hb2,hal,hsz⟩:=HBX.out
 have HB1:=qh hb1;have HB2:=qh hb2;have HAL:=qh hal;have HSZ:=qh hsz
 have HCL1:Hid (∀W,uB w1 W->uP 133 #[.slice cc.pa cc.pl cc.pc] W fun e w'=>(∃a' m' c',e= .returned (.slice a' m' c')/\IsSteps (only (fun k=>w1.heap.size<=k) w') w'.heap.size p a' m' c')/\uB w1 w'/\uB W w'):=qh fun W hW=>(HCL.out W (HAL.out.trans (hW.mono HAL.out.size))).mono fun e w' h=>by
  obtain ⟨⟨a',m',c',rfl,hst⟩,hb⟩:=h
  exact ⟨⟨a',m',c',rfl,hst.sub (Zd fun k hk hl=>⟨Nat.le_trans hW.size hk,rfl⟩)⟩,hW.trans (hb.mono hW.size),hb⟩
 have HCV1:Hid (∀W,uB w1 W->uP 78 #[.agg (uV cc.v)] W fun e w'=>(∃f:VC,e= .returned (.agg #[.int .u8 f.k, .int .i64 f.n, .string f.s, .slice f.la f.ll f.lc, .slice f.oa f.ol f.oc])/\IsVal (only (fun k=>w1.heap.size<=k) w') w'.heap.size xv f)/\uB w1 w'/\uB W w'):=qh fun W hW=>(HCV.out W (HAL.out.trans (hW.mono HAL.out.size))).mono fun e w' h=>by
  obtain ⟨⟨f,rfl,hv⟩,hb⟩:=h
  exact ⟨⟨f,rfl,hv.sepI.isVal.sub (Zd fun k hk hl=>⟨Nat.le_trans hW.size hk,rfl⟩)⟩,hW.trans (hb.mono hW.size),hb⟩
 have q1:=hb1.at_ 1 _ rfl;have q6:=hb1.at_ 6 _ rfl;have q7:=hb1.at_ 7 _ rfl;have q8:=hb1.at_ 8 _ rfl;have q9:=hb1.at_ 9 _ rfl;have q10:=hb1.at_ 10 _ rfl;have qf1:=hb1.fr 1;have qf6:=hb1.fr 6;have qf7:=hb1.fr 7;have qf8:=hb1.fr 8;have qf9:=hb1.fr 9;have qf10:=hb1.fr 10;have qz:=hb1.lt
 have bl0:uB w1 w1.drew:=Zf w1
 have mixed:Tryz.prog.follows .mixedOrders=true:=by kernel_rfl
 clear hb1 hb2 hal hsz hw1 HBX HCL HCV
 refine wp_region_noPanic ?_
 go_region_with (first
  |(go_simp;go_at_call 133;(with_reducible refine (HCL1.out _ (by assumption)).mono ?_);rintro e wq ⟨⟨a1,m1,c1,rfl,hst⟩,hbq,hbr⟩;have D:=HB1.out.keep hbq (by have:=HSZ.out;omega);have k1:=D.at_ 1 _ rfl;have k6:=D.at_ 6 _ rfl;have k7:=D.at_ 7 _ rfl;have k8:=D.at_ 8 _ rfl;have k9:=D.at_ 9 _ rfl;have k10:=D.at_ 10 _ rfl;have kf1:=D.fr 1;have kf6:=D.fr 6;have kf7:=D.fr 7;have kf8:=D.fr 8;have kf9:=D.fr 9;have kf10:=D.fr 10;have kz:=D.lt;have HST:=qh hst;(try replace HVL:=qh (ze5 HVL.out hbr));clear D hst hbr)
  |(go_simp;go_at_call 78;(with_reducible refine (HCV1.out _ (by assumption)).mono ?_);rintro e wq ⟨⟨f,rfl,hvl⟩,hbq,hbr⟩;have D:=HB1.out.keep hbq (by have:=HSZ.out;omega);have k1:=D.at_ 1 _ rfl;have k6:=D.at_ 6 _ rfl;have k7:=D.at_ 7 _ rfl;have k8:=D.at_ 8 _ rfl;have k9:=D.at_ 9 _ rfl;have k10:=D.at_ 10 _ rfl;have kf1:=D.fr 1;have kf6:=D.fr 6;have kf7:=D.fr 7;have kf8:=D.fr 8;have kf9:=D.fr 9;have kf10:=D.fr 10;have kz:=D.lt;have HVL:=qh hvl;(try replace HST:=qh (K0 HST.out hbr));clear D hvl hbr))
 all_goals (
  have hW1:=HB1.out.keep (show uB w1 wq by assumption) (by have:=HSZ.out;omega)
  have hW2:=HB2.out.keep (show uB w1 wq by assumption) (by have:=HSZ.out;omega)
  have hbW:=HAL.out.trans ((show uB w1 wq by assumption).mono HAL.out.size)
  have HCY:=qh (CY.made (W1:=w1) hW1 hW2 (by have:=HSZ.out;omega) HST.out HVL.out hbW)
  refine Zr (P:=fun W=>CY w W p xv { cc with pa:=a1,pl:=m1,pc:=c1,v:=f }) HCY.out ?_
  clear hW1 hW2 hbW HCY HST HVL
  rintro W5 h5
  obtain ⟨x0,x1,x2,x3,x4,x5,x6,x7,x8,x9,x10,x11⟩:=row12 h5.one.at_
  have y0:=h5.two.at_ 0 _ rfl;have g0:=h5.two.fr 0;have y1:=h5.two.at_ 1 _ rfl;have g1:=h5.two.fr 1;have y2:=h5.two.at_ 2 _ rfl;have g2:=h5.two.fr 2;have y3:=h5.two.at_ 3 _ rfl;have g3:=h5.two.fr 3;have y4:=h5.two.at_ 4 _ rfl;have g4:=h5.two.fr 4;have y5:=h5.two.at_ 5 _ rfl;have g5:=h5.two.fr 5;have y6:=h5.two.at_ 6 _ rfl;have g6:=h5.two.fr 6;have y7:=h5.two.at_ 7 _ rfl;have g7:=h5.two.fr 7;have y8:=h5.two.at_ 8 _ rfl;have g8:=h5.two.fr 8;have y9:=h5.two.at_ 9 _ rfl;have g9:=h5.two.fr 9;have y10:=h5.two.at_ 10 _ rfl;have g10:=h5.two.fr 10;have y11:=h5.two.at_ 11 _ rfl;have g11:=h5.two.fr 11
  have zx:=h5.one.lt;have zy:=h5.two.lt
  have H5:=qh h5
  clear h5
  go_wp2_with fail
  rw [<-HQ.out]
  have hq:=HCB.out
  have st:=Yc W5 (w.heap.size+1) { cc with pa:=a1,pl:=m1,pc:=c1,v:=f }
  refine ⟨rfl,_,zkp rfl (Zm (c0:=czero) H5.out.two { cc with pa:=a1,pl:=m1,pc:=c1,v:=f }),⟨{ cc with pa:=a1,pl:=m1,pc:=c1,v:=f },rfl, ?_⟩,Below.setC H5.out.below (by omega) { cc with pa:=a1,pl:=m1,pc:=c1,v:=f }⟩
  refine .mk { cc with pa:=a1,pl:=m1,pc:=c1,v:=f } p _ ⟨hq.k0,hq.k1,hq.i0,hq.i1,hq.j0,hq.j1,hq.n0,hq.n1,hq.key1,hq.s1⟩ ?_ ?_
  .exact (H5.out.st.sub (Zd (S':=fun k=>w.heap.size<=k) fun k hk hl=>⟨by omega,st.block k hl (by omega)⟩)).more st.size
  .exact (H5.out.vl.sub (Zd (S':=fun k=>w.heap.size<=k) fun k hk hl=>⟨by omega,st.block k hl (by omega)⟩)).more st.size)
theorem ze0 {c:Cm} (h:eqB c.bare ⟨c.k,c.path, .empty,0,0,0,V.none, .empty⟩=true):(kKey c.k=false->c.key= .empty)/\(kI c.k=false->c.i=0)/\(kJ c.k=false->c.j=0)/\(kN c.k=false->c.n=0)/\(kV c.k=false->c.v=V.none)/\(kS c.k=false->c.s= .empty):=by
 have h2:=X8 h
 rw [Cm.bare] at h2
 injection h2 with a1 a2 a3 a4 a5 a6 a7 a8
 exact ⟨fun e=>by rw [e] at a3;simpa using a3,fun e=>by rw [e] at a4;simpa using a4,fun e=>by rw [e] at a5;simpa using a5,fun e=>by rw [e] at a6;simpa using a6,fun e=>by rw [e] at a7;simpa using a7,fun e=>by rw [e] at a8;simpa using a8⟩
theorem zhx (cs:List CC) (k:Nat) (hk:k<cs.length) (z:CC):((((((((((((cs.flatMap ccells).set (k*12) (.int .u8 z.k)).set (k*12+1) (.slice z.pa z.pl z.pc)).set (k*12+2) (.string z.key)).set (k*12+3) (.int .i64 z.i)).set (k*12+4) (.int .i64 z.j)).set (k*12+5) (.int .i64 z.n)).set (k*12+6) (.int .u8 z.v.k)).set (k*12+7) (.int .i64 z.v.n)).set (k*12+8) (.string z.v.s)).set (k*12+9) (.slice z.v.la z.v.ll z.v.lc)).set (k*12+10) (.slice z.v.oa z.v.ol z.v.oc)).set (k*12+11) (.string z.s)=(cs.set k z).flatMap ccells:=by
 induction cs generalizing k with
 |nil=>cases hk
 | cons c r ih=>
   cases k with
   |zero=>simp [ccells]
   | succ k=>
     have e:∀t,(k+1)*12+t=(ccells c).length+(k*12+t):=fun t=>by show _=12+_;omega
     have e0:(k+1)*12=(ccells c).length+(k*12):=by show _=12+_;omega
     rw [e 1,e 2,e 3,e 4,e 5,e 6,e 7,e 8,e 9,e 10,e 11,e0]
     simp only [List.flatMap_cons,List.set_cons_succ]
     rw [<-ih k (by simpa using hk)]
     simp only [List.set_append_right _ _ (Nat.le_add_right _ _),Nat.add_sub_cancel_left]
def setCo (W:World) (b o:Nat) (z:CC):World:=((((((((((((W).setCell ⟨b,o,none⟩ (.int .u8 z.k)).setCell ⟨b,o+1,none⟩ (.slice z.pa z.pl z.pc)).setCell ⟨b,o+2,none⟩ (.string z.key)).setCell ⟨b,o+3,none⟩ (.int .i64 z.i)).setCell ⟨b,o+4,none⟩ (.int .i64 z.j)).setCell ⟨b,o+5,none⟩ (.int .i64 z.n)).setCell ⟨b,o+6,none⟩ (.int .u8 z.v.k)).setCell ⟨b,o+7,none⟩ (.int .i64 z.v.n)).setCell ⟨b,o+8,none⟩ (.string z.v.s)).setCell ⟨b,o+9,none⟩ (.slice z.v.la z.v.ll z.v.lc)).setCell ⟨b,o+10,none⟩ (.slice z.v.oa z.v.ol z.v.oc)).setCell ⟨b,o+11,none⟩ (.string z.s)
theorem zcw (W:World) (b o:Nat) (z:CC):RStep W (setCo W b o z) b:=((((((((((RStep.self.trans RStep.self).trans RStep.self).trans RStep.self).trans RStep.self).trans RStep.self).trans RStep.self).trans RStep.self).trans RStep.self).trans RStep.self).trans RStep.self).trans RStep.self
theorem zc0 {W:World} {base:Nat} {e:TypeId} {g n cap:Nat} {cs:List CC} (h:W.ownsRow base e 12 (.slice (some ⟨g,0,none⟩) n cap) n (cs.flatMap ccells)) {k:Nat} (hk:k<cs.length) (z:CC):
 (setCo W g (k*12) z).ownsRow base e 12 (.slice (some ⟨g,0,none⟩) n cap) n ((cs.set k z).flatMap ccells):=by
 have h0:=(h.stored (k*12) (.int .u8 z.k)).1
 have h1:=(h0.stored (k*12+1) (.slice z.pa z.pl z.pc)).1
 have h2:=(h1.stored (k*12+2) (.string z.key)).1
 have h3:=(h2.stored (k*12+3) (.int .i64 z.i)).1
 have h4:=(h3.stored (k*12+4) (.int .i64 z.j)).1
 have h5:=(h4.stored (k*12+5) (.int .i64 z.n)).1
 have h6:=(h5.stored (k*12+6) (.int .u8 z.v.k)).1
 have h7:=(h6.stored (k*12+7) (.int .i64 z.v.n)).1
 have h8:=(h7.stored (k*12+8) (.string z.v.s)).1
 have h9:=(h8.stored (k*12+9) (.slice z.v.la z.v.ll z.v.lc)).1
 have h10:=(h9.stored (k*12+10) (.slice z.v.oa z.v.ol z.v.oc)).1
 have h11:=(h10.stored (k*12+11) (.string z.s)).1
 rw [zhx cs k hk z] at h11
 exact h11
theorem zng {cs:List CC} {i:Nat} (hi:i<cs.length) {j:Nat} {v:Value} (h:(ccells cs[i])[j]? =some v):(cs.flatMap ccells)[i*12+j]? =some v:=by
 induction cs generalizing i with
 |nil=>cases hi
 | cons c r ih=>
   cases i with
   | zero=>
     have h:(ccells c)[j]? =some v:=h
     rw [Nat.zero_mul,Nat.zero_add,List.flatMap_cons,List.getElem?_append_left (List.getElem?_eq_some_iff.1 h).1];exact h
   | succ i=>
     have e:(i+1)*12+j=(ccells c).length+(i*12+j):=by show _=12+_;omega
     rw [e,List.flatMap_cons,List.getElem?_append_right (by omega),Nat.add_sub_cancel_left]
     exact ih (by simpa using hi) h
theorem zky {W:World} {base:Nat} {e:TypeId} {g n cap:Nat} {cs:List CC} (h:W.ownsRow base e 12 (.slice (some ⟨g,0,none⟩) n cap) n (cs.flatMap ccells)) {i:Nat} (hi:i<cs.length):∀j v,(ccells cs[i])[j]? =some v->W.cell? ⟨g,i*12+j,none⟩=some v:=fun j v hj=>by
 have:=h.cells (g:=g) rfl (i*12+j) v (zng hi hj)
 rw [Addr.add_lit,Nat.zero_add] at this;exact this
def swp (cs:List CC) (i:Nat):List CC:=(List.range cs.length).map fun k=>if k<i∨cs.length<=k+i then cs.getD (cs.length - 1 - k) czero else cs.getD k czero
theorem Xf (cs:List CC) (i:Nat):(swp cs i).length=cs.length:=by simp [swp]
theorem Qy (cs:List CC) (i:Nat) {k:Nat} (hk:k<(swp cs i).length):(swp cs i)[k] =if k<i∨cs.length<=k+i then cs.getD (cs.length - 1 - k) czero else cs.getD k czero:=by simp [swp]
theorem zld (cs:List CC):swp cs 0=cs:=by
 apply List.ext_getElem (Xf cs 0)
 intro k h1 h2
 rw [Qy,if_neg (by omega),List.getD_eq_getElem?_getD,List.getElem?_eq_getElem h2];rfl
theorem zee (cs:List CC) (i:Nat) (h:cs.length<=i+i+1):swp cs i=cs.reverse:=by
 apply List.ext_getElem (by rw [Xf,List.length_reverse])
 intro k h1 h2
 rw [Qy,List.getElem_reverse]
 rw [Xf] at h1
 have e:∀j (hj:j<cs.length),cs.getD j czero=cs[j] :=fun j hj=>by rw [List.getD_eq_getElem?_getD,List.getElem?_eq_getElem hj];rfl
 split
 .exact e _ (by omega)
 .rw [e k h1]
  congr 1
  omega
theorem zcp (cs:List CC) (i:Nat) {k:Nat} (hk:k<cs.length):(swp cs i).getD k czero=if k<i∨cs.length<=k+i then cs.getD (cs.length - 1 - k) czero else cs.getD k czero:=by
 rw [List.getD_eq_getElem?_getD,List.getElem?_eq_getElem (by rw [Xf];exact hk),Option.getD_some,Qy]
theorem zhw (cs:List CC) (i j:Nat) (h:i+i+1<cs.length) (hj:i+j+1=cs.length):((swp cs i).set i ((swp cs i).getD j czero)).set j ((swp cs i).getD i czero)=swp cs (i+1):=by
 rw [zcp cs i (by omega),zcp cs i (by omega),if_neg (by omega),if_neg (by omega)]
 apply List.ext_getElem (by simp [Xf])
 intro k h1 h2
 simp only [List.length_set,Xf] at h1
 rw [List.getElem_set,List.getElem_set,Qy,Qy]
 by_cases a:j=k
 .rw [if_pos a,if_pos (by omega)]
  congr 1;omega
 .rw [if_neg a]
  by_cases b:i=k
  .rw [if_pos b,if_pos (by omega)]
   congr 1;omega
  .rw [if_neg b]
   by_cases c:k<i∨cs.length<=k+i
   .rw [if_pos c,if_pos (by omega)]
   .rw [if_neg c,if_neg (by omega)]
structure RvI (w W:World) (base g n cap:Nat) (cs:List CC) (i:Nat):Prop where
 own:W.ownsRow base 39 12 (.slice (some ⟨g,0,none⟩) n cap) n ((swp cs i).flatMap ccells)
 gr:w.grownBy W (some g)
theorem RvI.step {w W:World} {base g n cap:Nat} {cs:List CC} {i:Nat} (h:RvI w W base g n cap cs i) (hn:cs.length=n) (hi:i+i+1<n) {j:Nat} (hj:i+j+1=n) {ci cj:CC} (hci:(swp cs i).getD i czero=ci) (hcj:(swp cs i).getD j czero=cj):
 RvI w (setCo (setCo W g (i*12) cj) g (j*12) ci) base g n cap cs (i+1):=by
 have hl:=Xf cs i
 have hs:=zhw cs i j (by omega) (by omega)
 have h1:=zc0 (zc0 h.own (k:=i) (by omega) cj) (k:=j) (by rw [List.length_set];omega) ci
 refine ⟨?_,(h.gr.trans (zcw W g (i*12) cj).grown).trans (zcw _ g (j*12) ci).grown⟩
 rw [<-hs,hci,hcj]
 exact h1
end Go.Proofs.YtnjgbiachcfigaaGreatDoor
