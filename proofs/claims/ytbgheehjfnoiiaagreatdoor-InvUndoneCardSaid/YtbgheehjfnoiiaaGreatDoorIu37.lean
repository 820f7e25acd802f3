/- Walks. -/
import Derived.Test.YtbgheehjfnoiiaaGreatDoorIu36
namespace Go.Proofs.YtbgheehjfnoiiaaGreatDoor
open Go.RowKit
set_option maxRecDepth 100000
set_option maxHeartbeats 16000000
theorem Qp (w:World) (a1 a2:Array Value) (t1 t2:TypeId):BC ((w.alloc (.cells a1 t1)).alloc (.cells a2 t2)) w.heap.size a1.toList/\BC ((w.alloc (.cells a1 t1)).alloc (.cells a2 t2)) (w.heap.size+1) a2.toList/\uB w ((w.alloc (.cells a1 t1)).alloc (.cells a2 t2))/\((w.alloc (.cells a1 t1)).alloc (.cells a2 t2)).heap.size=w.heap.size+1+1:=by delta uB;have b1:uB w (w.alloc (.cells a1 t1)):=(zzc _ _).alloc (zza _) _;have b2:uB (w.alloc (.cells a1 t1)) ((w.alloc (.cells a1 t1)).alloc (.cells a2 t2)):=(zzc _ _).alloc (zza _) _;have c2:=BC.start (w.alloc (.cells a1 t1)) a2 t2;rw [zzk] at c2;exact ⟨(BC.start w a1 t1).keep b2 (by simp),c2,b1.trans (b2.mono (by simp)),by simp⟩
theorem Jm (v:V) (c:Cm):(doP v c).2=checkP v c:=by
 unfold doP;split
 .rename_i he;obtain ⟨hs,x,hg,hk⟩:=Zw he;simp only [hg];obtain ⟨z,hz⟩:=Ya c.path hg (doneP x c);rw [hz,he];rfl
 .rfl
theorem Yd (w:World) (o:Obj):uB w (w.alloc o):=(zzc _ _).alloc (zza _) o
theorem zh7 (w:World) (a:Option Addr) (n c:Nat) (cs:List Value) (h0:a=none->n=0) (hp:∀ad,a=some ad->∀j u,cs[j]? =some u->w.cell? (ad.add j)=some u) (hl:cs.length=n*3) (h1:∀u ∈ cs,u.oneCell'=true) (hbig:n*32<=140737488355328):
 uP 120 #[.slice a n c] w fun e w'=>(∃v',e= .returned v'/\w'.ownsRow w.heap.size 82 3 v' n cs)/\uB w w':=by
 delta uB uP;obtain ⟨i0,hi0,hz0,hz1,hz2⟩:=info_parts zaz;have hq:∀(w:World) (a:Option Addr) (n c n' c':Nat),(binOp .eql 50 (.slice a n c) (.slice none n' c')).run Tryz.prog w= .ok (.bool a.isNone) w:=fun w a n c n' c'=>Lib.run_eql_slice_nil w _ _ a n c n' c' Tryz.underlying50
 cases a with
 | none=>
   obtain rfl:=h0 rfl;obtain rfl:cs= [] :=List.length_eq_zero_iff.1 (by omega);clear hp hl h1 hbig h0;go_enter Tryz.func120,Tryz.ntmps120
   go_wp2_with fail;go_ret
   exact ⟨⟨_,rfl,⟨rfl, .inl ⟨rfl,rfl⟩⟩⟩,zzc _ _⟩
 | some ad=>
   have HP:=qh hp;have HL:=qh hl;have H1:=qh h1;clear hp hl h1 h0;go_enter Tryz.func120,Tryz.ntmps120
   go_wp2_with (at_builtin;refine Z1 _ rfl (.tmp 5) (.tmp 6) 50 (by rfl) w.heap.size 82 i0 _ 3 32 Tryz.underlying50 hi0 hz0 hz1 hz2 rfl (by omega) _ 0 [] (by rfl) (World.ownsRow_made w #[] 0 (zza _) (Nat.zero_le _) rfl) (some ad) n c cs (by rfl) ⟨(fun h=>by cases h),fun ad h j u hj=>Lib.cell?_alloc_some _ (HP.out ad h j u hj)⟩ HL.out H1.out (by unfold maxLen;omega) (by omega) (by simp) ?_;intro v' w1 hown hgrow)
   go_ret
   exact ⟨⟨v',rfl,by simpa using hown⟩,((zzc _ w).alloc (zza _) _).grown hgrow (by simp) (by intro k hk;simp [Value.ownBlock] at hk;omega)⟩
theorem IsSteps.clone {w:World} {p:List St} {a:Option Addr} {n c:Nat} (h:IsSteps w w.heap.size p a n c):∀W,uB w W->uP 120 #[.slice a n c] W fun e w'=>(∃a' m' c',e= .returned (.slice a' m' c')/\IsSteps (only (fun k=>W.heap.size<=k) w') w'.heap.size p a' m' c')/\uB W w':=by
 delta uB uP;intro W hW;obtain ⟨h1,h2,h3,h4,b,o,h5,h6⟩:=h;have hfl:(p.flatMap scells).length=n*3:=by rw [Zk scells 3 (fun _=>rfl),h1]
 refine (zh7 W a n c (p.flatMap scells) (fun e=> ?_) (fun ad e j u hj=> ?_) hfl (fun u hu=> ?_) (by omega)).mono ?_
 .by_cases h0:0<n
  .rw [e] at h5;cases (h5 h0).1
  .omega
 .have hj2:=(List.getElem?_eq_some_iff.1 hj).1;have hn:0<n:=by omega
  obtain ⟨ha,hb⟩:=h5 hn;rw [e] at ha;injection ha with ha;subst ha;have hi:j / 3<p.length:=by omega
  have hd:j=j / 3*3+j % 3:=by omega
  have hm:j % 3<3:=by omega
  rw [hd,Yx scells 3 (fun _=>rfl) _ (j / 3) (j % 3) hi hm] at hj;obtain ⟨g1,g2⟩:=h6 (j / 3) hi;rw [Addr.add_lit,hd, <-Nat.add_assoc];refine Zb hW ?_ hb;obtain ⟨m,hmm⟩:∃m,j % 3=m:=⟨_,rfl⟩;rw [hmm] at hj hm ⊢
  match m,hm with
  |0,_=>rw [<-hj];exact g1.c0
  |1,_=>rw [<-hj];exact g1.c1
  |2,_=>rw [<-hj];exact g1.c2
 .obtain ⟨v,_,hv⟩:=List.mem_flatMap.1 hu;simp only [scells,List.mem_cons,List.mem_nil_iff,or_false] at hv;rcases hv with rfl|rfl|rfl<;>rfl
 .rintro e w' ⟨⟨v',rfl,ho⟩,hb'⟩;obtain ⟨a',m',c',rfl,hS⟩:=K5 (S:=fun k=>W.heap.size<=k) (by rw [h1] at ho;exact ho) (fun k hk=>hk) (fun s hs=>by
   obtain ⟨i,hi,rfl⟩:=List.getElem_of_mem hs;exact (h6 i hi).2) (by omega)
  exact ⟨⟨a',m',c',rfl,hS⟩,hb'⟩
theorem zk1 {tmps:Array Value} {W:World} {b:Nat} {d:CC} (ht:tmps[2]? =some (.pointer (some ⟨b,0,none⟩))) (h:BC W b (ccells d)):
 (results Tryz.f73 tmps).run Tryz.prog W= .ok (.agg #[.int .u8 d.k, .slice d.pa d.pl d.pc, .string d.key, .int .i64 d.i, .int .i64 d.j, .int .i64 d.n, .int .u8 d.v.k, .int .i64 d.v.n, .string d.v.s, .slice d.v.la d.v.ll d.v.lc, .slice d.v.oa d.v.ol d.v.oc, .string d.s]) W:=by
 obtain ⟨r0,r1,r2,r3,r4,r5,r6,r7,r8,r9,r10,r11⟩:=row12 h.at_;simp [results,Tryz.results73,go_sem,ht,r0,r1,r2,r3,r4,r5,r6,r7,r8,r9,r10,r11]
structure CY (w W:World) (p:List St) (xv:V) (d:CC):Prop where
 one:BC W w.heap.size (ccells d)
 two:BC W (w.heap.size+1) (ccells czero)
 st:IsSteps (only (fun k=>w.heap.size+2<=k) W) W.heap.size p d.pa d.pl d.pc
 vl:IsVal (only (fun k=>w.heap.size+2<=k) W) W.heap.size xv d.v
 below:Below w.heap.size w W
theorem zlu (W:World) (b:Nat) (a:Option Addr) (m c:Nat) (f:VC):RStep W ((((((W.setCell ⟨b,1,none⟩ (.slice a m c)).setCell ⟨b,6,none⟩ (.int .u8 f.k)).setCell ⟨b,7,none⟩ (.int .i64 f.n)).setCell ⟨b,8,none⟩ (.string f.s)).setCell ⟨b,9,none⟩ (.slice f.la f.ll f.lc)).setCell ⟨b,10,none⟩ (.slice f.oa f.ol f.oc)) b:=((((RStep.self.trans RStep.self).trans RStep.self).trans RStep.self).trans RStep.self).trans RStep.self
theorem CY.made {w W1 W:World} {p:List St} {xv:V} {cc:CC} {a:Option Addr} {m c:Nat} {f:VC} (h1:BC W w.heap.size (ccells cc)) (h2:BC W (w.heap.size+1) (ccells czero)) (hz:w.heap.size+2<=W1.heap.size) (hst:IsSteps (only (fun k=>W1.heap.size<=k) W) W.heap.size p a m c) (hvl:IsVal (only (fun k=>W1.heap.size<=k) W) W.heap.size xv f) (hb:uB w W):
 CY w ((((((W.setCell ⟨w.heap.size,1,none⟩ (.slice a m c)).setCell ⟨w.heap.size,6,none⟩ (.int .u8 f.k)).setCell ⟨w.heap.size,7,none⟩ (.int .i64 f.n)).setCell ⟨w.heap.size,8,none⟩ (.string f.s)).setCell ⟨w.heap.size,9,none⟩ (.slice f.la f.ll f.lc)).setCell ⟨w.heap.size,10,none⟩ (.slice f.oa f.ol f.oc)) p xv { cc with pa:=a,pl:=m,pc:=c,v:=f } :=by
 have st:=zlu W w.heap.size a m c f;have hsh:Shows (only (fun k=>W1.heap.size<=k) W) (only (fun k=>w.heap.size+2<=k) _) W.heap.size:=Zc fun k hk hl=>⟨by omega,st.block k hl (by omega)⟩;refine ⟨(((((h1.set (i:=1) (x:= .slice a m c) (by simp [ccells])).set (i:=6) (x:= .int .u8 f.k) (by simp [ccells])).set (i:=7) (x:= .int .i64 f.n) (by simp [ccells])).set (i:=8) (x:= .string f.s) (by simp [ccells])).set (i:=9) (x:= .slice f.la f.ll f.lc) (by simp [ccells])).set (i:=10) (x:= .slice f.oa f.ol f.oc) (by simp [ccells]),h2.next st (by omega),(hst.sub hsh).more st.size,(hvl.sub hsh).more st.size,hb.trans (st.lowC (zza _) (by have:=hb.size;omega))⟩
theorem za1 {w W:World} {S:Nat->Prop} {p:List St} {a:Option Addr} {n c:Nat} (h:IsSteps (only S w) w.heap.size p a n c) (hb:uB w W):IsSteps (only S W) W.heap.size p a n c:=(h.sub (Zc fun k hk hl=>⟨hk,hb.block k hl⟩)).more hb.size
theorem zlc {w W:World} {S:Nat->Prop} {x:V} {f:VC} (h:IsVal (only S w) w.heap.size x f) (hb:uB w W):IsVal (only S W) W.heap.size x f:=(h.sub (Zc fun k hk hl=>⟨hk,hb.block k hl⟩)).more hb.size
theorem zn9 (w:World) (cm:Cm) (cc:CC) (hc:IsComp w w.heap.size cm cc):
 uP 73 #[.agg (uC cc)] w fun e w'=>(∃d:CC,e= .returned (.agg #[.int .u8 d.k, .slice d.pa d.pl d.pc, .string d.key, .int .i64 d.i, .int .i64 d.j, .int .i64 d.n, .int .u8 d.v.k, .int .i64 d.v.n, .string d.v.s, .slice d.v.la d.v.ll d.v.lc, .slice d.v.oa d.v.ol d.v.oc, .string d.s])/\IsComp (only (fun k=>w.heap.size<=k) w') w'.heap.size cm d)/\uB w w':=by
 delta uC uB uP
 cases hc with
 |mk cc p xv hcb hp hxv=>
 have HCL:=qh hp.clone;have HCV:Hid (∀W,uB w W->uP 46 #[.agg (uV cc.v)] W fun e w'=>(∃f:VC,e= .returned (.agg #[.int .u8 f.k, .int .i64 f.n, .string f.s, .slice f.la f.ll f.lc, .slice f.oa f.ol f.oc])/\Whole w' W.heap.size xv f)/\uB W w'):=qh fun W hW=>Xb W xv cc.v (hxv.later_ hW);have hbx:∀t1 t2,BC ((w.alloc (.cells (uC cc) t1)).alloc (.cells (ccells czero).toArray t2)) w.heap.size (ccells cc)/\BC ((w.alloc (.cells (uC cc) t1)).alloc (.cells (ccells czero).toArray t2)) (w.heap.size+1) (ccells czero)/\uB w ((w.alloc (.cells (uC cc) t1)).alloc (.cells (ccells czero).toArray t2))/\((w.alloc (.cells (uC cc) t1)).alloc (.cells (ccells czero).toArray t2)).heap.size=w.heap.size+2:=fun t1 t2=>by obtain ⟨q1,q2,q3,q4⟩:=Qp w #[.int .u8 cc.k, .slice cc.pa cc.pl cc.pc, .string cc.key, .int .i64 cc.i, .int .i64 cc.j, .int .i64 cc.n, .int .u8 cc.v.k, .int .i64 cc.v.n, .string cc.v.s, .slice cc.v.la cc.v.ll cc.v.lc, .slice cc.v.oa cc.v.ol cc.v.oc, .string cc.s] (ccells czero).toArray t1 t2;exact ⟨q1,by simpa using q2,q3,by simp⟩
 have HBX:=qh (hbx 54 54);have HCB:=qh hcb;clear hbx hp hxv hcb;go_enter Tryz.func73,Tryz.ntmps73
 generalize hQ0:bodyPost _ _ _=Q0;have HQ:=qh hQ0;clear hQ0;go_upto_region 1 with fail
 obtain ⟨w1,hw1⟩:∃w1,(w.alloc (.cells (uC cc) 54)).alloc (.cells (ccells czero).toArray 54)=w1:=⟨_,rfl⟩;rw [hw1] at HBX;rw [show (w.alloc (.cells (uC cc) 54)).alloc (.cells #[.int .u8 0, .slice none 0 0, .string { data:= #[] }, .int .i64 0, .int .i64 0, .int .i64 0, .int .u8 0, .int .i64 0, .string { data:= #[] }, .slice none 0 0, .slice none 0 0, .string { data:= #[] }] 54)=w1 from hw1];obtain ⟨hb1,hb2,hal,hsz⟩:=HBX.out;have HB1:=qh hb1;have HB2:=qh hb2;have HAL:=qh hal;have HSZ:=qh hsz;have HCL1:Hid (∀W,uB w1 W->uP 120 #[.slice cc.pa cc.pl cc.pc] W fun e w'=>(∃a' m' c',e= .returned (.slice a' m' c')/\IsSteps (only (fun k=>w1.heap.size<=k) w') w'.heap.size p a' m' c')/\uB w1 w'/\uB W w'):=qh fun W hW=>(HCL.out W (HAL.out.trans (hW.mono HAL.out.size))).mono fun e w' h=>by obtain ⟨⟨a',m',c',rfl,hst⟩,hb⟩:=h;exact ⟨⟨a',m',c',rfl,hst.sub (Zc fun k hk hl=>⟨zzl hW.size hk,rfl⟩)⟩,hW.trans (hb.mono hW.size),hb⟩
 have HCV1:Hid (∀W,uB w1 W->uP 46 #[.agg (uV cc.v)] W fun e w'=>(∃f:VC,e= .returned (.agg #[.int .u8 f.k, .int .i64 f.n, .string f.s, .slice f.la f.ll f.lc, .slice f.oa f.ol f.oc])/\IsVal (only (fun k=>w1.heap.size<=k) w') w'.heap.size xv f)/\uB w1 w'/\uB W w'):=qh fun W hW=>(HCV.out W (HAL.out.trans (hW.mono HAL.out.size))).mono fun e w' h=>by obtain ⟨⟨f,rfl,hv⟩,hb⟩:=h;exact ⟨⟨f,rfl,hv.sepI.isVal.sub (Zc fun k hk hl=>⟨zzl hW.size hk,rfl⟩)⟩,hW.trans (hb.mono hW.size),hb⟩
 have q1:=hb1.at_ 1 _ rfl;have q6:=hb1.at_ 6 _ rfl;have q7:=hb1.at_ 7 _ rfl;have q8:=hb1.at_ 8 _ rfl;have q9:=hb1.at_ 9 _ rfl;have q10:=hb1.at_ 10 _ rfl;have qf1:=hb1.fr 1;have qf6:=hb1.fr 6;have qf7:=hb1.fr 7;have qf8:=hb1.fr 8;have qf9:=hb1.fr 9;have qf10:=hb1.fr 10;have qz:=hb1.lt;have bl0:uB w1 w1.drew:=Zf w1;have mixed:Tryz.prog.follows .mixedOrders=true:=by kernel_rfl
 clear hb1 hb2 hal hsz hw1 HBX HCL HCV;refine wp_region_noPanic ?_;go_region_with (first
  |(go_simp;go_at_call 120;(with_reducible refine (HCL1.out _ (by assumption)).mono ?_);rintro e wq ⟨⟨a1,m1,c1,rfl,hst⟩,hbq,hbr⟩;have D:=HB1.out.keep hbq (by have:=HSZ.out;omega);have k1:=D.at_ 1 _ rfl;have k6:=D.at_ 6 _ rfl;have k7:=D.at_ 7 _ rfl;have k8:=D.at_ 8 _ rfl;have k9:=D.at_ 9 _ rfl;have k10:=D.at_ 10 _ rfl;have kf1:=D.fr 1;have kf6:=D.fr 6;have kf7:=D.fr 7;have kf8:=D.fr 8;have kf9:=D.fr 9;have kf10:=D.fr 10;have kz:=D.lt;have HST:=qh hst;(try replace HVL:=qh (zlc HVL.out hbr));clear D hst hbr)
  |(go_simp;go_at_call 46;(with_reducible refine (HCV1.out _ (by assumption)).mono ?_);rintro e wq ⟨⟨f,rfl,hvl⟩,hbq,hbr⟩;have D:=HB1.out.keep hbq (by have:=HSZ.out;omega);have k1:=D.at_ 1 _ rfl;have k6:=D.at_ 6 _ rfl;have k7:=D.at_ 7 _ rfl;have k8:=D.at_ 8 _ rfl;have k9:=D.at_ 9 _ rfl;have k10:=D.at_ 10 _ rfl;have kf1:=D.fr 1;have kf6:=D.fr 6;have kf7:=D.fr 7;have kf8:=D.fr 8;have kf9:=D.fr 9;have kf10:=D.fr 10;have kz:=D.lt;have HVL:=qh hvl;(try replace HST:=qh (za1 HST.out hbr));clear D hvl hbr))
 all_goals (
  have hW1:=HB1.out.keep (show uB w1 wq by assumption) (by have:=HSZ.out;omega);have hW2:=HB2.out.keep (show uB w1 wq by assumption) (by have:=HSZ.out;omega);have hbW:=HAL.out.trans ((show uB w1 wq by assumption).mono HAL.out.size);have HCY:=qh (CY.made (W1:=w1) hW1 hW2 (by have:=HSZ.out;omega) HST.out HVL.out hbW);refine Zq (P:=fun W=>CY w W p xv { cc with pa:=a1,pl:=m1,pc:=c1,v:=f }) HCY.out ?_;clear hW1 hW2 hbW HCY HST HVL;rintro W5 h5;obtain ⟨x0,x1,x2,x3,x4,x5,x6,x7,x8,x9,x10,x11⟩:=row12 h5.one.at_;have y0:=h5.two.at_ 0 _ rfl;have g0:=h5.two.fr 0;have y1:=h5.two.at_ 1 _ rfl;have g1:=h5.two.fr 1;have y2:=h5.two.at_ 2 _ rfl;have g2:=h5.two.fr 2;have y3:=h5.two.at_ 3 _ rfl;have g3:=h5.two.fr 3;have y4:=h5.two.at_ 4 _ rfl;have g4:=h5.two.fr 4;have y5:=h5.two.at_ 5 _ rfl;have g5:=h5.two.fr 5;have y6:=h5.two.at_ 6 _ rfl;have g6:=h5.two.fr 6;have y7:=h5.two.at_ 7 _ rfl;have g7:=h5.two.fr 7;have y8:=h5.two.at_ 8 _ rfl;have g8:=h5.two.fr 8;have y9:=h5.two.at_ 9 _ rfl;have g9:=h5.two.fr 9;have y10:=h5.two.at_ 10 _ rfl;have g10:=h5.two.fr 10;have y11:=h5.two.at_ 11 _ rfl;have g11:=h5.two.fr 11;have zx:=h5.one.lt;have zy:=h5.two.lt;have H5:=qh h5;clear h5;go_wp2_with fail;rw [<-HQ.out];have hq:=HCB.out;have st:=Yk W5 (w.heap.size+1) { cc with pa:=a1,pl:=m1,pc:=c1,v:=f };refine ⟨rfl,_,zk1 rfl (Zp (c0:=czero) H5.out.two { cc with pa:=a1,pl:=m1,pc:=c1,v:=f }),⟨{ cc with pa:=a1,pl:=m1,pc:=c1,v:=f },rfl, ?_⟩,Below.setC H5.out.below (by omega) { cc with pa:=a1,pl:=m1,pc:=c1,v:=f }⟩;refine .mk { cc with pa:=a1,pl:=m1,pc:=c1,v:=f } p _ ⟨hq.k0,hq.k1,hq.i0,hq.i1,hq.j0,hq.j1,hq.n0,hq.n1,hq.key1,hq.s1⟩ ?_ ?_
  .exact (H5.out.st.sub (Zc (S':=fun k=>w.heap.size<=k) fun k hk hl=>⟨by omega,st.block k hl (by omega)⟩)).more st.size
  .exact (H5.out.vl.sub (Zc (S':=fun k=>w.heap.size<=k) fun k hk hl=>⟨by omega,st.block k hl (by omega)⟩)).more st.size)
theorem zfs {v:V} {s:St} {y:V} (z:V) {k:Nat} (h:stepP v s=some (y,k)):(if s.list=true then (if s.list=true then v.setL k z else v.setO k z).setL k y else (if s.list=true then v.setL k z else v.setO k z).setO k y)=v:=by
 obtain ⟨kk,n,t,l,o,rfl⟩:=v.eta;rcases Y7 h with ⟨h1,_,_,hk,h2⟩|⟨h1,_,_,hk,h2⟩
 .rw [if_pos h1,if_pos h1];have hk:k<l.length:=hk;have h2:l[k] =y:=h2;show V.mk kk n t ((l.set k z).set k y) o=V.mk kk n t l o;rw [List.set_set, <-h2,List.set_getElem_self]
 .rw [if_neg (by rw [h1];decide),if_neg (by rw [h1];decide)];have hk:k<o.length:=hk;have h2:o[k].2=y:=h2;show V.mk kk n t l (putO (putO o k z) k y)=V.mk kk n t l o;unfold putO;rw [List.set_set];have e:(o.set k ((o.getD k (.empty,V.none)).1,z)).getD k (.empty,V.none)=((o.getD k (.empty,V.none)).1,z):=by rw [zzb,List.getElem?_set_self hk];rfl
  rw [e,zzb,zzg hk, <-h2];show V.mk kk n t l (o.set k o[k])=_;rw [List.set_getElem_self]
theorem K2 (p:List St):∀ {v x y w:V},getP v p=some x->putP v p y=some w->getP w p=some y/\putP w p x=some v:=by
 induction p with
 | nil=>intro v x y w h g;simp only [getP,putP,Option.some.injEq] at h g;subst h g;exact ⟨rfl,rfl⟩
 | cons s r ih=>
   intro v x y w h g;unfold getP at h;unfold putP at g
   cases hs:stepP v s with
   |none=>rw [hs] at h;cases h
   | some q=>
     obtain ⟨u,k⟩:=q;rw [hs] at h g;dsimp only at h g
     cases hz:putP u r y with
     |none=>rw [hz] at g;cases g
     | some z=>
       rw [hz] at g;dsimp only at g;injection g with g;obtain ⟨i1,i2⟩:=ih h hz;have hs2:stepP w s=some (z,k):=by rw [<-g];exact zem hs
       unfold getP putP;rw [hs2];dsimp only;rw [i2];dsimp only;refine ⟨i1, ?_⟩;rw [<-g,zfs z hs]
theorem zax {n:Int} {s:ByteArray} {a b:Nat} (h:plainB 3 n s a b=true):Lib.validD s.data.toList=true:=by have:(n==0 && Lib.validD s.data.toList && a==0 && b==0)=true:=h;simp only [Bool.and_eq_true] at this;exact this.1.1.2
theorem znj {n m:Int} (hn: -9223372036854775808<=n/\n<=9223372036854775807):wrap64 (wrap64 (n+m)+wrap64 (-m))=n:=by unfold wrap64;omega
theorem zoi {n:Int} (h: -9223372036854775808<=n/\n<=9223372036854775807):wrap64 (-(wrap64 (-n)))=n:=by unfold wrap64;omega
theorem zma {x:V} {c:Cm} (hx:x.sound=true) (hn: -9223372036854775808<=x.nm/\x.nm<=9223372036854775807) (hc:cmSound c=true) (hcn: -9223372036854775808<=c.n/\c.n<=9223372036854775807) (hk:kindsP x c.k c.i c.j c.n c.key=0):
 kindsP (doneP x c) (turnP x c).k (turnP x c).i (turnP x c).j (turnP x c).n (turnP x c).key=0/\doneP (doneP x c) (turnP x c)=x/\turnP (doneP x c) (turnP x c)=c:=by
 obtain ⟨k,path,key,i,j,n,v,s⟩:=c;obtain ⟨xk,xn,xs,xl,xo,rfl⟩:=x.eta;have hb:=hc;unfold cmSound at hb;simp only [Bool.and_eq_true] at hb;obtain ⟨⟨⟨⟨⟨⟨⟨⟨⟨⟨⟨hk9,hbr⟩,hps⟩,hv1⟩,hv2⟩,hi0⟩,hj0⟩,h8⟩,h9⟩,hvs⟩,hd⟩,hw⟩:=hb;have hi1:0<=i:=by simpa using hi0
 have hj1:0<=j:=by simpa using hj0
 obtain ⟨b1,b2,b3,b4,b5,b6⟩:=zce hbr;have hkk:=Qv hc;dsimp only at b1 b2 b3 b4 b5 b6 hkk hv1 hv2 h8 h9 hcn;obtain ⟨p1,p2,p3,p4⟩:=Z3.1 hx;have hn: -9223372036854775808<=xn/\xn<=9223372036854775807:=hn;have hkx:kindsP (.mk xk xn xs xl xo) k i j n key=0:=hk;unfold kindsP at hkx;have e1:(V.mk xk xn xs xl xo).kd=xk:=rfl;have e2:(V.mk xk xn xs xl xo).nm=xn:=rfl;have e3:(V.mk xk xn xs xl xo).str=xs:=rfl;have e4:(V.mk xk xn xs xl xo).ls=xl:=rfl;have e5:(V.mk xk xn xs xl xo).os=xo:=rfl;rw [e1,e3,e4,e5] at hkx;have hcase:k=1∨k=2∨k=3∨k=4∨k=5∨k=6∨k=7∨k=8∨k=9:=by omega
 clear hc hps hbr hk9 hd hw hk hvs;rcases hcase with rfl|rfl|rfl|rfl|rfl|rfl|rfl|rfl|rfl
 .obtain rfl:=b1 rfl;obtain rfl:=b2 rfl;obtain rfl:=b3 rfl;obtain rfl:=b5 rfl;obtain rfl:=b6 rfl;rw [if_pos rfl] at hkx;have hx2:xk=2:=by by_cases h:xk=2;exact h;rw [if_pos h] at hkx;cases hkx
  subst hx2;refine ⟨rfl, ?_, ?_⟩
  .show V.mk 2 (wrap64 (wrap64 (xn+n)+wrap64 (-n))) xs xl xo=_;rw [znj (n:=xn) hn]
  .show (⟨1,path, .empty,0,0,wrap64 (-(wrap64 (-n))),V.none, .empty⟩:Cm)=_;rw [zoi hcn]
 .obtain rfl:=b2 rfl;obtain rfl:=b3 rfl;obtain rfl:=b4 rfl;obtain rfl:=b6 rfl;rw [if_neg (by decide),if_pos (by decide)] at hkx;have hx2:xk=5:=by by_cases h:xk=5;exact h;rw [if_pos h] at hkx;cases hkx
  subst hx2;have ed:doneP (.mk 5 xn xs xl xo) ⟨2,path,key,0,0,0,v, .empty⟩= .mk 5 xn xs xl (withF xo key v):=by show V.mk 5 xn xs xl (fieldsDo xo key v false)=_;rw [Y0 p2];rfl
  have hr:rising (withF xo key v)=true:=Kn key v p2;obtain ⟨f1,f2,f3⟩:=Km xo key v;rw [ed]
  cases hf:fieldIs xo key with
  | true=>
    have et:turnP (.mk 5 xn xs xl xo) ⟨2,path,key,0,0,0,v, .empty⟩=⟨2,path,key,0,0,0,(xo.getD (fieldK xo key) (.empty,V.none)).2, .empty⟩:=by show (if fieldIs xo key=true then _ else _)=_;rw [if_pos hf];rfl
    rw [et];refine ⟨rfl, ?_, ?_⟩
    .show V.mk 5 xn xs xl (fieldsDo (withF xo key v) key _ false)=_;rw [Y0 hr];show V.mk 5 xn xs xl (withF _ _ _)=_;rw [zo1 v hf]
    .show (if fieldIs (withF xo key v) key=true then _ else _)=_;rw [if_pos f2];show (⟨2,path,key,0,0,0,((withF xo key v).getD (fieldK (withF xo key v) key) (.empty,V.none)).2, .empty⟩:Cm)=_;rw [f1,f3]
  | false=>
    have et:turnP (.mk 5 xn xs xl xo) ⟨2,path,key,0,0,0,v, .empty⟩=⟨3,path,key,0,0,0,V.none, .empty⟩:=by show (if fieldIs xo key=true then _ else _)=_;rw [if_neg (by rw [hf];decide)]
    rw [et];refine ⟨?_, ?_, ?_⟩
    .show (if ((3:Int)=3/\fieldIs (withF xo key v) key=false) then (33:Int) else 0)=0;rw [if_neg (by rw [f2];decide)]
    .show V.mk 5 xn xs xl (fieldsDo (withF xo key v) key _ true)=_;rw [Y0 hr];show V.mk 5 xn xs xl (remF _ _)=_;rw [zmf v hf]
    .show (if fieldIs (withF xo key v) key=true then _ else _)=_;rw [if_pos f2];show (⟨2,path,key,0,0,0,((withF xo key v).getD (fieldK (withF xo key v) key) (.empty,V.none)).2, .empty⟩:Cm)=_;rw [f1,f3]
 .obtain rfl:=b2 rfl;obtain rfl:=b3 rfl;obtain rfl:=b4 rfl;obtain rfl:=b5 rfl;obtain rfl:=b6 rfl;rw [if_neg (by decide),if_pos (by decide)] at hkx;have hx2:xk=5:=by by_cases h:xk=5;exact h;rw [if_pos h] at hkx;cases hkx
  subst hx2;rw [if_neg (by decide)] at hkx;have hf:fieldIs xo key=true:=by
   cases h:fieldIs xo key with
   |true=>rfl
   |false=>rw [if_pos ⟨rfl,h⟩] at hkx;cases hkx
  have ed:doneP (.mk 5 xn xs xl xo) ⟨3,path,key,0,0,0,V.none, .empty⟩= .mk 5 xn xs xl (remF xo key):=by show V.mk 5 xn xs xl (fieldsDo xo key _ true)=_;rw [Y0 p2];rfl
  have hr:rising (remF xo key)=true:=zer key V.none true p2;obtain ⟨f1,f2⟩:=zcq p2 hf;have et:turnP (.mk 5 xn xs xl xo) ⟨3,path,key,0,0,0,V.none, .empty⟩=⟨2,path,key,0,0,0,(xo.getD (fieldK xo key) (.empty,V.none)).2, .empty⟩:=by show (if fieldIs xo key=true then _ else _)=_;rw [if_pos hf];rfl
  rw [ed,et];refine ⟨rfl, ?_, ?_⟩
  .show V.mk 5 xn xs xl (fieldsDo (remF xo key) key _ false)=_;rw [Y0 hr];show V.mk 5 xn xs xl (withF _ _ _)=_;rw [zk5 p2 hf]
  .show (if fieldIs (remF xo key) key=true then _ else _)=_;rw [if_neg (by rw [f2];decide)]
 all_goals rw [if_neg (by decide),if_neg (by decide)] at hkx
 .obtain rfl:=b1 rfl;obtain rfl:=b3 rfl;obtain rfl:=b4 rfl;obtain rfl:=b6 rfl;rw [if_neg (by decide)] at hkx;have hx2:xk=4:=by by_cases h:xk=4;exact h;rw [if_pos h] at hkx;cases hkx
  subst hx2;rw [if_neg (by decide),lCheck,if_neg (by decide)] at hkx;have hil:i<=xl.length:=by
   by_cases h:i<=xl.length
   .exact h
   .rw [if_pos (by omega)] at hkx;cases hkx
  obtain ⟨i1,i2,i3⟩:=zb0 xl (i:=i.toNat) (by omega) v V.none;refine ⟨?_, ?_, ?_⟩
  .show lCheck (insL xl i.toNat v).length 5 i 0=0;rw [i3,lCheck,if_neg (by decide),if_neg (by omega),if_neg (by omega)]
  .show V.mk 4 xn xs (remL (insL xl i.toNat v) i.toNat) xo=_;rw [i1]
  .show (⟨4,path, .empty,i,0,0,(insL xl i.toNat v).getD i.toNat V.none, .empty⟩:Cm)=_;rw [i2]
 .obtain rfl:=b1 rfl;obtain rfl:=b3 rfl;obtain rfl:=b4 rfl;obtain rfl:=b5 rfl;obtain rfl:=b6 rfl;rw [if_neg (by decide)] at hkx;have hx2:xk=4:=by by_cases h:xk=4;exact h;rw [if_pos h] at hkx;cases hkx
  subst hx2;rw [if_neg (by decide),lCheck,if_neg (by decide)] at hkx;have hil:i<xl.length:=by
   by_cases h:i<xl.length
   .exact h
   .rw [if_pos (by omega)] at hkx;cases hkx
  obtain ⟨i1,i2⟩:=zaq xl (i:=i.toNat) (by omega) V.none;refine ⟨?_, ?_,rfl⟩
  .show lCheck (remL xl i.toNat).length 4 i 0=0;rw [lCheck,if_neg (by decide),if_neg (by omega),if_neg (by omega)]
  .show V.mk 4 xn xs (insL (remL xl i.toNat) i.toNat (xl.getD i.toNat V.none)) xo=_;rw [i1]
 .obtain rfl:=b1 rfl;obtain rfl:=b3 rfl;obtain rfl:=b4 rfl;obtain rfl:=b6 rfl;rw [if_neg (by decide)] at hkx;have hx2:xk=4:=by by_cases h:xk=4;exact h;rw [if_pos h] at hkx;cases hkx
  subst hx2;rw [if_neg (by decide),lCheck,if_neg (by decide)] at hkx;have hil:i<xl.length:=by
   by_cases h:i<xl.length
   .exact h
   .rw [if_pos (by omega)] at hkx;cases hkx
  obtain ⟨i1,i2⟩:=zkp xl (i:=i.toNat) (by omega) v V.none;refine ⟨?_, ?_, ?_⟩
  .show lCheck (xl.set i.toNat v).length 6 i 0=0;rw [List.length_set,lCheck,if_neg (by decide),if_neg (by omega),if_neg (by omega)]
  .show V.mk 4 xn xs ((xl.set i.toNat v).set i.toNat (xl.getD i.toNat V.none)) xo=_;rw [i1]
  .show (⟨6,path, .empty,i,0,0,(xl.set i.toNat v).getD i.toNat V.none, .empty⟩:Cm)=_;rw [i2]
 .obtain rfl:=b1 rfl;obtain rfl:=b4 rfl;obtain rfl:=b5 rfl;obtain rfl:=b6 rfl;rw [if_neg (by decide)] at hkx;have hx2:xk=4:=by by_cases h:xk=4;exact h;rw [if_pos h] at hkx;cases hkx
  subst hx2;rw [if_neg (by decide),lCheck,if_neg (by decide)] at hkx;have hil:i<xl.length:=by
   by_cases h:i<xl.length
   .exact h
   .rw [if_pos (by omega)] at hkx;cases hkx
  rw [if_neg (by omega)] at hkx;have hjl:j<xl.length:=by
   by_cases h:j<xl.length
   .exact h
   .rw [if_pos (by omega)] at hkx;cases hkx
  obtain ⟨i1,i2⟩:=zaq xl (i:=i.toNat) (by omega) V.none;obtain ⟨j1,j2,j3⟩:=zb0 (remL xl i.toNat) (i:=j.toNat) (by omega) (xl.getD i.toNat V.none) V.none;refine ⟨?_, ?_,rfl⟩
  .show lCheck (insL (remL xl i.toNat) j.toNat (xl.getD i.toNat V.none)).length 7 j i=0;rw [lCheck,if_neg (by decide),if_neg (by omega),if_neg (by omega)]
  .show V.mk 4 xn xs (insL (remL (insL (remL xl i.toNat) j.toNat (xl.getD i.toNat V.none)) j.toNat) i.toNat ((insL (remL xl i.toNat) j.toNat (xl.getD i.toNat V.none)).getD j.toNat V.none)) xo=_;rw [j1,j2,i1]
 .obtain rfl:=b1 rfl;obtain rfl:=b3 rfl;obtain rfl:=b4 rfl;obtain rfl:=b5 rfl;rw [if_pos (by decide)] at hkx;have hx2:xk=3:=by by_cases h:xk=3;exact h;rw [if_pos h] at hkx;cases hkx
  subst hx2;rw [if_neg (by decide),tCheck,if_neg (by decide)] at hkx;have hil:i<=textN xs:=by
   by_cases h:i<=textN xs
   .exact h
   .rw [if_pos (by omega)] at hkx;cases hkx
  have hxs:Lib.validD xs.data.toList=true:=by exact zax p1
  obtain ⟨t1,t2,t3⟩:=zhw hxs hv2 hi1 hil 0;have hs0:1<=textN s:=by
   have hne:s.data.toList≠ [] :=fun e=>by
    have:s.toList= [] :=by rw [ByteArray.toList_eq];exact e
    rw [this] at h8;revert h8;decide
   rw [Xr,Y3 hne];simp
  refine ⟨?_, ?_, ?_⟩
  .show tCheck (textDo xs 8 i 0 s) 9 i (textN s)=0;rw [tCheck,if_neg (by decide),t3,if_neg (by omega),if_neg (by omega)]
  .show V.mk 3 xn (textDo (textDo xs 8 i 0 s) 9 i (textN s) .empty) xl xo=_;rw [t1]
  .show (⟨8,path, .empty,i,0,0,V.none,partT (textDo xs 8 i 0 s) i (textN s)⟩:Cm)=_;rw [t2]
 .obtain rfl:=b1 rfl;obtain rfl:=b3 rfl;obtain rfl:=b5 rfl;obtain rfl:=b6 rfl;rw [if_pos (by decide)] at hkx;have hx2:xk=3:=by by_cases h:xk=3;exact h;rw [if_pos h] at hkx;cases hkx
  subst hx2;rw [if_neg (by decide),tCheck,if_neg (by decide)] at hkx;have hil:i<=textN xs:=by
   by_cases h:i<=textN xs
   .exact h
   .rw [if_pos (by omega)] at hkx;cases hkx
  rw [if_neg (by omega)] at hkx;have hnl:1<=n/\i+n<=textN xs:=by
   by_cases h:1<=n/\i+n<=textN xs
   .exact h
   .rw [if_pos (by omega)] at hkx;cases hkx
  have hxs:Lib.validD xs.data.toList=true:=by exact zax p1
  obtain ⟨t1,t2,t3,t4⟩:=zm5 hxs hi1 hnl.1 hnl.2 0;refine ⟨?_, ?_, ?_⟩
  .show tCheck (textDo xs 9 i n .empty) 8 i 0=0;rw [tCheck,if_neg (by decide),if_neg (by omega),if_neg (by omega)]
  .show V.mk 3 xn (textDo (textDo xs 9 i n .empty) 8 i 0 (partT xs i n)) xl xo=_;rw [t1]
  .show (⟨9,path, .empty,i,0,(textN (partT xs i n):Int),V.none, .empty⟩:Cm)=_;rw [t2]
def Cm.none:Cm:=⟨0, [], .empty,0,0,0,V.none, .empty⟩
noncomputable def turnedP (v:V) (c:Cm):Cm×Int:=
 if checkP v c=0 then (if cmSound (turnP ((getP v c.path).getD V.none) c)=true then (turnP ((getP v c.path).getD V.none) c,0) else (Cm.none,60)) else (Cm.none,checkP v c)
noncomputable def turnsP:V->List Cm->List Cm×Int
 |_, [] =>([],0)
 |v,c::r=>if (turnedP v c).2=0 then (if (turnsP (doP v c).1 r).2=0 then ((turnedP v c).1::(turnsP (doP v c).1 r).1,0) else ([],(turnsP (doP v c).1 r).2)) else ([],(turnedP v c).2)
noncomputable def allP (v:V) (op:List Cm):List Cm×Int:=if 200<op.length then ([],3) else ((turnsP v op).1.reverse,(turnsP v op).2)
noncomputable def doAllP:V->List Cm->V×Int
 |v, [] =>(v,0)
 |v,c::r=>if (doP v c).2=0 then doAllP (doP v c).1 r else (V.none,(doP v c).2)
theorem Jj (x:V) (c:Cm):(turnP x c).path=c.path:=by unfold turnP;(repeat' split)<;>rfl
theorem Js {v:V} {c d:Cm} (h:turnedP v c=(d,0)):checkP v c=0/\∃x,getP v c.path=some x/\d=turnP x c/\cmSound d=true:=by
 unfold turnedP at h;by_cases hc:checkP v c=0
 .rw [if_pos hc] at h;obtain ⟨_,x,hg,_⟩:=Zw hc;rw [hg,Option.getD_some] at h;by_cases hs:cmSound (turnP x c)=true
  .rw [if_pos hs] at h;injection h with h1 h2;exact ⟨hc,x,hg,h1.symm,h1 ▸ hs⟩
  .rw [if_neg hs] at h;injection h with h1 h2;cases h2
 .rw [if_neg hc] at h;injection h with h1 h2;exact absurd h2 hc
def Cm.Nums (c:Cm):Prop:=(-9223372036854775808<=c.n/\c.n<=9223372036854775807)/\c.v.Nums
theorem zd5 {v:V} {c d:Cm} (hv:v.sound=true) (hn:v.Nums) (hc:c.Nums) (h:turnedP v c=(d,0)):(doP v c).2=0/\doP (doP v c).1 d=(v,0)/\turnedP (doP v c).1 d=(c,0):=by
 obtain ⟨h1,x,hg,rfl,hs⟩:=Js h;obtain ⟨hcs,x',hg',hk⟩:=Zw h1;rw [hg] at hg';obtain rfl:=Option.some.inj hg';obtain ⟨w,hw⟩:=Ya c.path hg (doneP x c);obtain ⟨g1,g2⟩:=K2 c.path hg hw;have e:doP v c=(w,0):=by rw [Yh h1 hg,hw];rfl
 obtain ⟨k1,k2,k3⟩:=zma (Ke _ hv hg) (Jk _ hn hg).nm hcs hc.1 hk;have hck:checkP w (turnP x c)=0:=Kp hs (by rw [Jj];exact g1) k1;rw [e];refine ⟨rfl, ?_, ?_⟩
 .rw [Yh hck (by rw [Jj];exact g1),k2,Jj,g2];rfl
 .unfold turnedP;rw [if_pos hck,Jj,g1,Option.getD_some,k3,if_pos hcs]
theorem K1 (a b:List Cm):∀v,doAllP v (a++b)=if (doAllP v a).2=0 then doAllP (doAllP v a).1 b else (V.none,(doAllP v a).2):=by
 induction a with
 |nil=>intro v;rfl
 | cons c r ih=>
   intro v;rw [List.cons_append,doAllP,doAllP];by_cases h:(doP v c).2=0
   .rw [if_pos h,if_pos h,ih]
   .rw [if_neg h,if_neg h,if_neg h]
theorem zb7:∀(op:List Cm) {v:V} {l:List Cm},v.sound=true->v.Nums->(∀c ∈ op,c.Nums)->turnsP v op=(l,0)->(doAllP v op).2=0/\doAllP (doAllP v op).1 l.reverse=(v,0)/\l.length=op.length:=by
 intro op
 induction op with
 | nil=>intro v l _ _ _ h;injection h with h1 h2;subst h1;exact ⟨rfl,rfl,rfl⟩
 | cons c r ih=>
   intro v l hv hn hc h;rw [turnsP] at h;by_cases h1:(turnedP v c).2=0
   .rw [if_pos h1] at h;by_cases h2:(turnsP (doP v c).1 r).2=0
    .rw [if_pos h2] at h;injection h with h3 h4;have ht:turnedP v c=((turnedP v c).1,0):=Prod.ext rfl h1;obtain ⟨b1,b2,b3⟩:=zd5 hv hn (hc c (List.mem_cons_self ..)) ht;have hq:turnsP (doP v c).1 r=((turnsP (doP v c).1 r).1,0):=Prod.ext rfl h2;obtain ⟨i1,i2,i3⟩:=ih (X5 hv) (K0 zaa hn (hc c (List.mem_cons_self ..)).2 trivial) (fun d hd=>hc d (List.mem_cons_of_mem _ hd)) hq;rw [doAllP,if_pos b1];refine ⟨i1, ?_,by rw [<-h3,List.length_cons,i3,List.length_cons]⟩;rw [<-h3,List.reverse_cons,K1,i2,if_pos rfl,doAllP,b2];rfl
    .rw [if_neg h2] at h;injection h with h3 h4;exact absurd h4 h2
   .rw [if_neg h1] at h;injection h with h3 h4;exact absurd h4 h1
theorem zgx:∀(op:List Cm) (v:V),(doAllP v op).2=0->(turnsP v op).2=0∨turnsP v op=([],60):=by
 intro op
 induction op with
 |nil=>intro v _;exact .inl rfl
 | cons c r ih=>
   intro v h;rw [doAllP] at h;by_cases h0:(doP v c).2=0
   .rw [if_pos h0] at h;have h1:=h0;rw [Jm] at h1;rw [turnsP];by_cases ht:(turnedP v c).2=0
    .rw [if_pos ht];rcases ih _ h with i|i
     .rw [if_pos i];exact .inl rfl
     .rw [i,if_neg (by decide)];exact .inr rfl
    .rw [if_neg ht];refine .inr ?_;have:(turnedP v c).2=60:=by
      unfold turnedP at ht ⊢;rw [if_pos h1] at ht ⊢;split at ht
      .exact absurd rfl ht
      .rename_i hs;rw [if_neg hs]
     rw [this]
   .rw [if_neg h0] at h;exact absurd h h0
theorem zo2 (l:List Ac):∀v,(doAllP v (aimP v l)).2=0:=by
 induction l with
 |nil=>intro v;rfl
 | cons a r ih=>
   intro v;rw [aimP]
   cases h:oneC v a with
   |none=>exact ih v
   | some c=>
     dsimp only;split
     .rename_i h0;rw [doAllP,if_pos h0];exact ih _
     .exact ih v
theorem znl (cs:List CC) (k:Nat) (hk:k<cs.length) (z:CC):((((((((((((cs.flatMap ccells).set (k*12) (.int .u8 z.k)).set (k*12+1) (.slice z.pa z.pl z.pc)).set (k*12+2) (.string z.key)).set (k*12+3) (.int .i64 z.i)).set (k*12+4) (.int .i64 z.j)).set (k*12+5) (.int .i64 z.n)).set (k*12+6) (.int .u8 z.v.k)).set (k*12+7) (.int .i64 z.v.n)).set (k*12+8) (.string z.v.s)).set (k*12+9) (.slice z.v.la z.v.ll z.v.lc)).set (k*12+10) (.slice z.v.oa z.v.ol z.v.oc)).set (k*12+11) (.string z.s)=(cs.set k z).flatMap ccells:=by
 induction cs generalizing k with
 |nil=>cases hk
 | cons c r ih=>
   cases k with
   |zero=>simp [ccells]
   | succ k=>
     have e:∀t,(k+1)*12+t=(ccells c).length+(k*12+t):=fun t=>by show _=12+_;omega
     have e0:(k+1)*12=(ccells c).length+(k*12):=by show _=12+_;omega
     rw [e 1,e 2,e 3,e 4,e 5,e 6,e 7,e 8,e 9,e 10,e 11,e0];simp only [List.flatMap_cons,List.set_cons_succ];rw [<-ih k (by simpa using hk)];simp only [List.set_append_right _ _ (Nat.le_add_right _ _),Nat.add_sub_cancel_left]
def setCo (W:World) (b o:Nat) (z:CC):World:=((((((((((((W).setCell ⟨b,o,none⟩ (.int .u8 z.k)).setCell ⟨b,o+1,none⟩ (.slice z.pa z.pl z.pc)).setCell ⟨b,o+2,none⟩ (.string z.key)).setCell ⟨b,o+3,none⟩ (.int .i64 z.i)).setCell ⟨b,o+4,none⟩ (.int .i64 z.j)).setCell ⟨b,o+5,none⟩ (.int .i64 z.n)).setCell ⟨b,o+6,none⟩ (.int .u8 z.v.k)).setCell ⟨b,o+7,none⟩ (.int .i64 z.v.n)).setCell ⟨b,o+8,none⟩ (.string z.v.s)).setCell ⟨b,o+9,none⟩ (.slice z.v.la z.v.ll z.v.lc)).setCell ⟨b,o+10,none⟩ (.slice z.v.oa z.v.ol z.v.oc)).setCell ⟨b,o+11,none⟩ (.string z.s)
theorem zao (W:World) (b o:Nat) (z:CC):RStep W (setCo W b o z) b:=((((((((((RStep.self.trans RStep.self).trans RStep.self).trans RStep.self).trans RStep.self).trans RStep.self).trans RStep.self).trans RStep.self).trans RStep.self).trans RStep.self).trans RStep.self).trans RStep.self
theorem zai {W:World} {base:Nat} {e:TypeId} {g n cap:Nat} {cs:List CC} (h:W.ownsRow base e 12 (.slice (some ⟨g,0,none⟩) n cap) n (cs.flatMap ccells)) {k:Nat} (hk:k<cs.length) (z:CC):
 (setCo W g (k*12) z).ownsRow base e 12 (.slice (some ⟨g,0,none⟩) n cap) n ((cs.set k z).flatMap ccells):=by
 have h0:=(h.stored (k*12) (.int .u8 z.k)).1;have h1:=(h0.stored (k*12+1) (.slice z.pa z.pl z.pc)).1;have h2:=(h1.stored (k*12+2) (.string z.key)).1;have h3:=(h2.stored (k*12+3) (.int .i64 z.i)).1;have h4:=(h3.stored (k*12+4) (.int .i64 z.j)).1;have h5:=(h4.stored (k*12+5) (.int .i64 z.n)).1;have h6:=(h5.stored (k*12+6) (.int .u8 z.v.k)).1;have h7:=(h6.stored (k*12+7) (.int .i64 z.v.n)).1;have h8:=(h7.stored (k*12+8) (.string z.v.s)).1;have h9:=(h8.stored (k*12+9) (.slice z.v.la z.v.ll z.v.lc)).1;have h10:=(h9.stored (k*12+10) (.slice z.v.oa z.v.ol z.v.oc)).1;have h11:=(h10.stored (k*12+11) (.string z.s)).1;rw [znl cs k hk z] at h11;exact h11
theorem zhu {cs:List CC} {i:Nat} (hi:i<cs.length) {j:Nat} {v:Value} (h:(ccells cs[i])[j]? =some v):(cs.flatMap ccells)[i*12+j]? =some v:=by
 induction cs generalizing i with
 |nil=>cases hi
 | cons c r ih=>
   cases i with
   | zero=>have h:(ccells c)[j]? =some v:=h;rw [Nat.zero_mul,Nat.zero_add,List.flatMap_cons,List.getElem?_append_left (List.getElem?_eq_some_iff.1 h).1];exact h
   | succ i=>
     have e:(i+1)*12+j=(ccells c).length+(i*12+j):=by show _=12+_;omega
     rw [e,List.flatMap_cons,List.getElem?_append_right (by omega),Nat.add_sub_cancel_left];exact ih (by simpa using hi) h
theorem Xt {W:World} {base:Nat} {e:TypeId} {g n cap:Nat} {cs:List CC} (h:W.ownsRow base e 12 (.slice (some ⟨g,0,none⟩) n cap) n (cs.flatMap ccells)) {i:Nat} (hi:i<cs.length):∀j v,(ccells cs[i])[j]? =some v->W.cell? ⟨g,i*12+j,none⟩=some v:=fun j v hj=>by have:=h.cells (g:=g) rfl (i*12+j) v (zhu hi hj);rw [Addr.add_lit,Nat.zero_add] at this;exact this
def swp (cs:List CC) (i:Nat):List CC:=(List.range cs.length).map fun k=>if k<i∨cs.length<=k+i then cs.getD (cs.length - 1 - k) czero else cs.getD k czero
theorem Xq (cs:List CC) (i:Nat):(swp cs i).length=cs.length:=by simp [swp]
theorem Ja (cs:List CC) (i:Nat) {k:Nat} (hk:k<(swp cs i).length):(swp cs i)[k] =if k<i∨cs.length<=k+i then cs.getD (cs.length - 1 - k) czero else cs.getD k czero:=by simp [swp]
theorem zlk (cs:List CC):swp cs 0=cs:=by apply List.ext_getElem (Xq cs 0);intro k h1 h2;rw [Ja,if_neg (by omega),zzb,zzg h2];rfl
theorem zmh (cs:List CC) (i:Nat) (h:cs.length<=i+i+1):swp cs i=cs.reverse:=by
 apply List.ext_getElem (by rw [Xq,List.length_reverse]);intro k h1 h2;rw [Ja,List.getElem_reverse];rw [Xq] at h1;have e:∀j (hj:j<cs.length),cs.getD j czero=cs[j] :=fun j hj=>by rw [zzb,zzg hj];rfl
 split
 .exact e _ (by omega)
 .rw [e k h1]
  congr 1
  omega
theorem zfh (cs:List CC) (i:Nat) {k:Nat} (hk:k<cs.length):(swp cs i).getD k czero=if k<i∨cs.length<=k+i then cs.getD (cs.length - 1 - k) czero else cs.getD k czero:=by rw [zzb,zzg (by rw [Xq];exact hk),Option.getD_some,Ja]
theorem zol (cs:List CC) (i j:Nat) (h:i+i+1<cs.length) (hj:i+j+1=cs.length):((swp cs i).set i ((swp cs i).getD j czero)).set j ((swp cs i).getD i czero)=swp cs (i+1):=by
 rw [zfh cs i (by omega),zfh cs i (by omega),if_neg (by omega),if_neg (by omega)];apply List.ext_getElem (by simp [Xq]);intro k h1 h2;simp only [List.length_set,Xq] at h1;rw [List.getElem_set,List.getElem_set,Ja,Ja];by_cases a:j=k
 .rw [if_pos a,if_pos (by omega)]
  congr 1;omega
 .rw [if_neg a];by_cases b:i=k
  .rw [if_pos b,if_pos (by omega)]
   congr 1;omega
  .rw [if_neg b];by_cases c:k<i∨cs.length<=k+i
   .rw [if_pos c,if_pos (by omega)]
   .rw [if_neg c,if_neg (by omega)]
structure RvI (w W:World) (base g n cap:Nat) (cs:List CC) (i:Nat):Prop where
 own:W.ownsRow base 54 12 (.slice (some ⟨g,0,none⟩) n cap) n ((swp cs i).flatMap ccells)
 gr:w.grownBy W (some g)
theorem RvI.step {w W:World} {base g n cap:Nat} {cs:List CC} {i:Nat} (h:RvI w W base g n cap cs i) (hn:cs.length=n) (hi:i+i+1<n) {j:Nat} (hj:i+j+1=n) {ci cj:CC} (hci:(swp cs i).getD i czero=ci) (hcj:(swp cs i).getD j czero=cj):
 RvI w (setCo (setCo W g (i*12) cj) g (j*12) ci) base g n cap cs (i+1):=by
 have hl:=Xq cs i;have hs:=zol cs i j (by omega) (by omega);have h1:=zai (zai h.own (k:=i) (by omega) cj) (k:=j) (by rw [List.length_set];omega) ci;refine ⟨?_,(h.gr.trans (zao W g (i*12) cj).grown).trans (zao _ g (j*12) ci).grown⟩;rw [<-hs,hci,hcj];exact h1
theorem zml {v:V} {s:St} {y:V} (z u:V) {k:Nat} (h:stepP v s=some (y,k)):(if s.list=true then (if s.list=true then v.setL k z else v.setO k z).setL k u else (if s.list=true then v.setL k z else v.setO k z).setO k u)=if s.list=true then v.setL k u else v.setO k u:=by
 obtain ⟨kk,n,t,l,o,rfl⟩:=v.eta;rcases Y7 h with ⟨h1,_,_,hk,h2⟩|⟨h1,_,_,hk,h2⟩
 .rw [if_pos h1,if_pos h1,if_pos h1];show V.mk kk n t ((l.set k z).set k u) o=V.mk kk n t (l.set k u) o;rw [List.set_set]
 .have h3:¬s.list=true:=by rw [h1];decide
  rw [if_neg h3,if_neg h3,if_neg h3];have hk:k<o.length:=hk;show V.mk kk n t l (putO (putO o k z) k u)=V.mk kk n t l (putO o k u);unfold putO;rw [List.set_set];have e:(o.set k ((o.getD k (.empty,V.none)).1,z)).getD k (.empty,V.none)=((o.getD k (.empty,V.none)).1,z):=by rw [zzb,List.getElem?_set_self hk];rfl
  rw [e]
theorem zdt (p:List St):∀ {v x y w:V} (u:V),getP v p=some x->putP v p y=some w->putP w p u=putP v p u:=by
 induction p with
 |nil=>intro v x y w u h g;rfl
 | cons s r ih=>
   intro v x y w u h g;unfold getP at h;unfold putP at g
   cases hs:stepP v s with
   |none=>rw [hs] at h;cases h
   | some q=>
     obtain ⟨a,k⟩:=q;rw [hs] at h g;dsimp only at h g
     cases hz:putP a r y with
     |none=>rw [hz] at g;cases g
     | some z=>
       rw [hz] at g;dsimp only at g;injection g with g;have hs2:stepP w s=some (z,k):=by rw [<-g];exact zem hs
       unfold putP;rw [hs2,hs];dsimp only;rw [ih u h hz]
       cases putP a r u with
       |none=>rfl
       | some b=>dsimp only;rw [<-g,zml z b hs]
theorem zew {p:List St} {v x:V} (h:getP v p=some x):putP v p x=some v:=by
 obtain ⟨w,hw⟩:=Ya p h V.none;have h2:=(K2 p h hw).2
 rwa [zdt p x h hw] at h2
def idleB (c:Cm):Bool:=(c.k==1 && c.n==0)||(c.k==7 && c.i==c.j)
noncomputable def joinC (z c:Cm):Option (Option Cm):=
 if z.k≠c.k∨eqB z.path c.path=false then none
 else if c.k=1 then (if wrap64 (z.n+c.n)=0 then some none else some (some { z with n:=wrap64 (z.n+c.n) }))
 else if c.k=2/\z.key=c.key then some (some c)
 else if c.k=8/\c.i=wrap64 (z.i+textN z.s) then some (some { z with s:=z.s++c.s })
 else none
noncomputable def ontoP (l:List Cm) (c:Cm):List Cm:=
 if idleB c=true then l else match l.getLast? with
  |none=>l++ [c]
  | some z=>match joinC z c with
    |none=>l++ [c]
    |some none=>l.dropLast
    |some (some m)=>l.dropLast++ [m]
noncomputable def trimP (l:List Cm):List Cm:=l.foldl ontoP []
theorem zaw {x y:V} {c:Cm} (h:doP x c=(y,0)):cmSound c=true/\∃u,getP x c.path=some u/\kindsP u c.k c.i c.j c.n c.key=0/\putP x c.path (doneP u c)=some y:=by
 have h0:checkP x c=0:=by rw [<-Jm,h]
 obtain ⟨hs,u,hg,hk⟩:=Zw h0;rw [Yh h0 hg] at h;obtain ⟨w,hw⟩:=Ya c.path hg (doneP u c);rw [hw,Ys] at h;injection h with h1 _;exact ⟨hs,u,hg,hk,by rw [hw,h1]⟩
theorem zau {x y u:V} {c:Cm} (hs:cmSound c=true) (hg:getP x c.path=some u) (hk:kindsP u c.k c.i c.j c.n c.key=0) (hp:putP x c.path (doneP u c)=some y):doP x c=(y,0):=by rw [Yh (Kp hs hg hk) hg,hp,Ys]
theorem zka {x y:V} {c:Cm} (hn:x.Nums) (h:doP x c=(y,0)) (hi:idleB c=true):y=x:=by
 obtain ⟨hs,u,hg,hk,hp⟩:=zaw h;have hu:doneP u c=u:=by
  obtain ⟨k,path,key,i,j,n,v,s⟩:=c;obtain ⟨xk,xn,xs,xl,xo,rfl⟩:=u.eta;simp only [idleB,Bool.or_eq_true,Bool.and_eq_true,beq_iff_eq] at hi;rcases hi with ⟨rfl,rfl⟩|⟨rfl,rfl⟩
  .have hr: -9223372036854775808<=xn/\xn<=9223372036854775807:=(Jk _ hn hg).nm;show V.mk xk (wrap64 (xn+0)) xs xl xo=_;rw [show wrap64 (xn+0)=xn by unfold wrap64;omega]
  .have hk:kindsP (.mk xk xn xs xl xo) 7 i i n key=0:=hk;unfold kindsP at hk;rw [if_neg (by decide),if_neg (by decide),if_neg (by decide)] at hk;have h4:(V.mk xk xn xs xl xo).kd=4:=by by_cases h:(V.mk xk xn xs xl xo).kd=4;exact h;rw [if_pos h] at hk;cases hk
   rw [if_neg (by simp [h4])] at hk;obtain ⟨_,_,i0,_,i1,_⟩:=Yj hk;have i1:=i1 (by decide);show V.mk xk xn xs (listDo xl 7 i i v) xo=_;have hlt:i.toNat<xl.length:=by have:(V.mk xk xn xs xl xo).ls=xl:=rfl;rw [this] at i1;omega
   rw [show listDo xl 7 i i v=insL (remL xl i.toNat) i.toNat (xl.getD i.toNat V.none) from rfl,(zaq xl hlt V.none).1]
 rw [hu,zew hg] at hp;exact (Option.some.inj hp).symm
theorem zju (o:List (ByteArray×V)) (key:ByteArray) (v v':V):withF (withF o key v) key v'=withF o key v':=by obtain ⟨f1,f2,_⟩:=Km o key v;obtain ⟨t1,t2⟩:=za6 o key v;show (withF o key v).take (fieldK (withF o key v) key)++(key,v')::(withF o key v).drop (if fieldIs (withF o key v) key=true then fieldK (withF o key v) key+1 else fieldK (withF o key v) key)=_;rw [f1,f2,if_pos rfl,t1,t2];rfl
theorem zpi {t a b:ByteArray} (ht:Lib.validD t.data.toList=true) (ha:Lib.validD a.data.toList=true) {i:Int} (h0:0<=i) (hi:i<=textN t) (n m:Int):textDo (textDo t 8 i n a) 8 (i+textN a) m b=textDo t 8 i n (a++b):=by
 obtain ⟨I,rfl⟩:∃I:Nat,i=I:=⟨i.toNat,by omega⟩;obtain ⟨p,q,rfl,hp,hq,rfl⟩:=Ki ht (i:=I) (by omega);have e1:∀(s:ByteArray) (n:Int),textDo (p++q) 8 (textN p) n s=p++s++q:=fun s n=>by have:=ext3 p .empty q;rw [show p++ByteArray.empty=p from Z8 (by rw [Zu];simp)] at this;unfold textDo;rw [if_pos rfl,Int.toNat_natCast,Xo q hp,this.1,this.2.2.2]
 have hpa:Lib.validD (p++a).data.toList=true:=by rw [Zu,Xs _ _ _ (zza _) hp];exact ha
 rw [e1,e1];have:=ext3 (p++a) .empty q;rw [show (p++a)++ByteArray.empty=p++a from Z8 (by rw [Zu];simp)] at this;unfold textDo;rw [if_pos rfl, <-Int.natCast_add,Int.toNat_natCast, <-Xx a hp,Xo q hpa,this.1,this.2.2.2];exact Z8 (by simp)
theorem zfz {x x1 y:V} {z c:Cm} (hx:x.sound=true) (hn:x.Nums) (hw:x.weight<=1000000000000) (hzl:z.s.size<=1000000000000) (hz:doP x z=(x1,0)) (hc:doP x1 c=(y,0)):
 (joinC z c=some none->y=x)/\∀m,joinC z c=some (some m)->doP x m=(y,0)/\m.path=z.path:=by
 obtain ⟨zs,u,zg,zk,zp⟩:=zaw hz;obtain ⟨cs,u1,cg,ck,cp⟩:=zaw hc;by_cases hpf:eqB z.path c.path=false
 .have hj:joinC z c=none:=by unfold joinC;rw [if_pos (.inr hpf)]
  rw [hj];exact ⟨fun h=>(by cases h),fun m h=>by cases h⟩
 have hpp:eqB z.path c.path=true:=by simpa using hpf
 have hpe:=Xw hpp;rw [<-hpe] at cg cp;have hu1:u1=doneP u z:=by rw [(K2 _ zg zp).1] at cg;exact (Option.some.inj cg).symm
 subst hu1;rw [zdt z.path _ zg zp] at cp;have hnu:=(Jk _ hn zg).nm;have hus:=Ke _ hx zg;obtain ⟨uk,un,us,ul,uo,rfl⟩:=u.eta;obtain ⟨zk0,zpa,zkey,zi,zj,zn,zv,zst⟩:=z;obtain ⟨ck0,cpa,ckey,ci,cj,cn,cv,cst⟩:=c;have hpe:zpa=cpa:=hpe;subst hpe;dsimp only at zg zp zk cp ck hnu;by_cases hk:zk0≠ck0
 .have hj:joinC ⟨zk0,zpa,zkey,zi,zj,zn,zv,zst⟩ ⟨ck0,zpa,ckey,ci,cj,cn,cv,cst⟩=none:=by unfold joinC;rw [if_pos (.inl hk)]
  rw [hj];exact ⟨fun h=>(by cases h),fun m h=>by cases h⟩
 obtain rfl:zk0=ck0:=by simpa using hk
 have hne:¬(zk0≠zk0∨eqB zpa zpa=false):=by simp [Xd rfl]
 obtain ⟨J,hJ⟩:∃J,joinC ⟨zk0,zpa,zkey,zi,zj,zn,zv,zst⟩ ⟨zk0,zpa,ckey,ci,cj,cn,cv,cst⟩=J:=⟨_,rfl⟩;rw [hJ];unfold joinC at hJ;rw [if_neg hne] at hJ;have hnu: -9223372036854775808<=un/\un<=9223372036854775807:=hnu;obtain ⟨p1,p2,p3,p4⟩:=Z3.1 hus;by_cases h1:zk0=1
 .subst h1;rw [if_pos rfl] at hJ;dsimp only at hJ;have cp:putP x zpa (.mk uk (wrap64 (wrap64 (un+zn)+cn)) us ul uo)=some y:=cp;by_cases hs0:wrap64 (zn+cn)=0
  .rw [if_pos hs0] at hJ;have e:wrap64 (wrap64 (un+zn)+cn)=un:=by unfold wrap64 at hs0 ⊢;omega
   rw [e,zew zg] at cp;rw [<-hJ];exact ⟨fun _=>(Option.some.inj cp).symm,fun m h=>by cases h⟩
  .rw [if_neg hs0] at hJ;rw [<-hJ];refine ⟨fun h=>(by cases h),fun m h=> ?_⟩;injection h with h;injection h with h;subst h;have e:wrap64 (wrap64 (un+zn)+cn)=wrap64 (un+wrap64 (zn+cn)):=by unfold wrap64;omega
   rw [e] at cp;have hsm:cmSound ⟨1,zpa,zkey,zi,zj,wrap64 (zn+cn),zv,zst⟩=true:=by rw [<-zs];unfold cmSound;rw [K7,K7];rfl
   exact ⟨zau hsm zg zk cp,rfl⟩
 rw [if_neg h1] at hJ;by_cases h2:zk0=2/\zkey=ckey
 .obtain ⟨rfl,rfl⟩:=h2;rw [if_pos ⟨rfl,rfl⟩] at hJ;rw [<-hJ];refine ⟨fun h=>(by cases h),fun m h=> ?_⟩;injection h with h;injection h with h;subst h;have e1:∀v,fieldsDo uo zkey v false=withF uo zkey v:=fun v=>by rw [Y0 p2];rfl
  have cp:putP x zpa (.mk uk un us ul (fieldsDo (fieldsDo uo zkey zv false) zkey cv false))=some y:=cp;rw [e1,Y0 (Kn zkey zv p2)] at cp;have cp:putP x zpa (.mk uk un us ul (withF (withF uo zkey zv) zkey cv))=some y:=cp;rw [zju, <-e1] at cp;exact ⟨zau cs zg zk cp,rfl⟩
 rw [if_neg h2] at hJ;by_cases h8:zk0=8/\ci=wrap64 (zi+textN zst)
 .obtain ⟨rfl,rfl⟩:=h8;rw [if_pos ⟨rfl,rfl⟩] at hJ;rw [<-hJ];refine ⟨fun h=>(by cases h),fun m h=> ?_⟩;injection h with h;injection h with h;subst h;have hzb:=zs;unfold cmSound at hzb;simp only [Bool.and_eq_true] at hzb;obtain ⟨⟨⟨⟨⟨⟨⟨⟨⟨⟨⟨k9,hbr⟩,hps⟩,hv1⟩,hv2⟩,hi0⟩,hj0⟩,hh8⟩,h9⟩,hvs⟩,hd⟩,hwv⟩:=hzb;have hcv:Lib.validD cst.data.toList=true:=by have:=cs;unfold cmSound at this;simp only [Bool.and_eq_true] at this;exact this.1.1.1.1.1.1.1.2
  have zk':=zk;unfold kindsP at zk';rw [if_neg (by decide),if_neg (by decide),if_pos (by decide)] at zk';have e3:(V.mk uk un us ul uo).kd=uk:=rfl;have e4:(V.mk uk un us ul uo).str=us:=rfl;rw [e3,e4] at zk';have h3:uk=3:=by by_cases h:uk=3;exact h;rw [if_pos h] at zk';cases zk'
  subst h3;rw [if_neg (by simp)] at zk';unfold tCheck at zk';rw [if_neg (by decide)] at zk';have hti:¬(zi<0∨(textN us:Int)<zi):=by intro h;rw [if_pos h] at zk';cases zk'
  have htv:=zax p1;have hlu:textN us<=us.size:=by have:=(Yp us).2;rw [textN];omega
  have hlz:textN zst<=zst.size:=by have:=(Yp zst).2;rw [textN];omega
  have hsu:us.size<=1000000000000:=by have h1:=Z0 _ zg;have h2:=(V.mk 3 un us ul uo).str_weight.1;rw [e4] at h2;omega
  have hwr:wrap64 (zi+textN zst)=zi+textN zst:=by have:zst.size<=1000000000000:=hzl;unfold wrap64;omega
  have cp:putP x zpa (.mk 3 un (textDo (textDo us 8 zi zn zst) 8 (wrap64 (zi+textN zst)) cn cst) ul uo)=some y:=cp;rw [hwr,zpi htv hv2 (by omega) (by omega)] at cp;have hsm:cmSound ⟨8,zpa,zkey,zi,zj,zn,zv,zst++cst⟩=true:=by
   refine za2 k9 (Xw hbr) hps hv1 (by rw [Zu,Xs _ _ _ (zza _) hv2];exact hcv) (by simpa using hi0) (by simpa using hj0) (fun _ he=> ?_) (fun h=>by cases h) hvs (by simpa using hd) (by simpa using hwv);have h0:zst++cst= .empty:=zcv.1 he;have h1:zst.size=0:=by have hsz:(zst++cst).size=zst.size+cst.size:=ByteArray.size_append;have he0:ByteArray.empty.size=0:=rfl;rw [h0,he0] at hsz;omega
   have h2:zst.toList= [] :=by have:zst.data.toList= [] :=List.length_eq_zero_iff.1 (by rw [Xc];exact h1);rw [ByteArray.toList_eq];exact this
   simp [h2] at hh8
  exact ⟨zau hsm zg zk cp,rfl⟩
 rw [if_neg h8] at hJ;rw [<-hJ];exact ⟨fun h=>(by cases h),fun m h=>by cases h⟩
theorem zmm {W:World} {base:Nat} {e:TypeId} {g n cap:Nat} {xs:List Value} (h:W.ownsRow base e 12 (.slice (some ⟨g,0,none⟩) n cap) n xs):g<W.heap.size/\∀q,W.frozen? ⟨g,q,none⟩=false:=by
 rcases h.2 with ⟨h0,_⟩|⟨g',cap',cur,he,_,hg,_⟩
 .cases h0
 .injection he with e1 e2 e3;injection e1 with e1;injection e1 with e1;subst e1;exact ⟨(Array.getElem?_eq_some_iff.1 hg).1,fun q=>by simp [World.frozen?,hg]⟩
theorem ze2 {W:World} {base:Nat} {e:TypeId} {g n cap:Nat} {cs:List CC} (h:W.ownsRow base e 12 (.slice (some ⟨g,0,none⟩) n cap) n (cs.flatMap ccells)) {i:Nat} (hi:i<cs.length) {c:CC} (hc:cs.getD i czero=c):∀j v,(ccells c)[j]? =some v->W.cell? ⟨g,i*12+j,none⟩=some v:=by rw [zzb,zzg hi,Option.getD_some] at hc;rw [<-hc];exact Xt h hi
theorem RvI.drew {w W:World} {base g n cap:Nat} {cs:List CC} {i:Nat} (h:RvI w W base g n cap cs i):RvI w W.drew base g n cap cs i:=by have b:=Zf W;refine ⟨?_,h.gr.trans ⟨b.os,b.tape,b.output,b.size,fun k hk _=>b.block k hk⟩⟩;have e:W.drew.heap=W.heap:=rfl;have:=h.own;unfold World.ownsRow at this ⊢;simp only [e];exact this
theorem zoq (w:World) (base:Nat) (u:Value) (n:Nat) (cs:List CC) (hn:cs.length=n) (h:w.ownsRow base 54 12 u n (cs.flatMap ccells)):
 uP 35 #[u] w fun e w'=>e= .returned (.tuple #[])/\w'.ownsRow base 54 12 u n (cs.reverse.flatMap ccells)/\w.grownBy w' u.ownBlock:=by
 delta uP;rcases h.2 with ⟨rfl,rfl⟩|⟨g,cap,cur,rfl,hbg,hg,hnc,hcm,hcs,htk⟩
 .have h0:cs= [] :=List.length_eq_zero_iff.1 hn;subst h0;have HO:=qh h;clear h;go_enter Tryz.func35,Tryz.ntmps35
  go_wp2_with fail
  go_loopw [2,3] (fun iv jv wr=>iv= .int .i64 0/\jv= .int .i64 (-1)/\wr=w) (fun _ _ _=>0)
  case atStart=>exact ⟨rfl,rfl,rfl⟩
  case round=>
   obtain ⟨rfl,rfl,rfl⟩:=hrel;go_wp2_with fail;exact ⟨rfl,_,by simp [results,Tryz.results35,go_sem],rfl,HO.out,World.grownBy.refl _ _⟩
 .have hmx:n<=9223372036854775807:=by unfold maxLen at hcm;omega
  have HI:Hid (RvI w w base g n cap cs 0):=qh ⟨by rw [zlk];exact h,World.grownBy.refl _ _⟩;have HN:=qh hn;clear h hg hcs htk hn;go_enter Tryz.func35,Tryz.ntmps35
  go_wp2_with fail
  go_loopw [2,3] (fun iv jv wr=>∃i:Nat,iv= .int .i64 (i:Int)/\jv= .int .i64 ((n:Int) - 1 - i)/\i<=n/\Hid (RvI w wr base g n cap cs i)) (fun iv _ _=>(match iv with| .int _ i=>n - i.toNat|_=>0))
  case atStart=>exact ⟨0,rfl,by simp,by omega,HI⟩
  case round=>
   obtain ⟨i,rfl,rfl,hin,HR⟩:=hrel;by_cases hij:i+i+1<n
   .obtain ⟨J,hJ⟩:∃J,i+J+1=n:=⟨n - 1 - i,by omega⟩;have hJ2:(n:Int) - 1 - i=(J:Int):=by omega
    rw [hJ2];have hl:=Xq cs i;have hnn:=HN.out;obtain ⟨ci,hci⟩:∃c,(swp cs i).getD i czero=c:=⟨_,rfl⟩;obtain ⟨cj,hcj⟩:∃c,(swp cs i).getD J czero=c:=⟨_,rfl⟩;have ai:=ze2 HR.out.own (by omega) hci;have aj:=ze2 HR.out.own (by omega) hcj;obtain ⟨hgz,hfr⟩:=zmm HR.out.own;have HST:=qh (HR.out.step HN.out hij hJ hci hcj).drew;obtain ⟨x0,x1,x2,x3,x4,x5,x6,x7,x8,x9,x10,x11⟩:=row12 ai;obtain ⟨y0,y1,y2,y3,y4,y5,y6,y7,y8,y9,y10,y11⟩:=row12 aj;rw [Nat.add_zero] at x0 y0;have hlt:(i:Int)<(J:Int):=by omega
    have hi0:¬((i:Int)<0):=by omega
    have hj0:¬((J:Int)<0):=by omega
    have hin2:(i:Int)<(n:Int):=by omega
    have hjn:(J:Int)<(n:Int):=by omega
    have HIJ:=qh (show i+i+1<n/\i+J+1=n from ⟨hij,hJ⟩);clear ai aj hci hcj hl hnn hij hJ hJ2 hin HR;go_upto_region 3 with fail
    go_region
    have hst:=HST.out;unfold setCo at hst;refine Zq (P:=fun W=>RvI w W base g n cap cs (i+1)) hst ?_;clear x0 x1 x2 x3 x4 x5 x6 x7 x8 x9 x10 x11 y0 y1 y2 y3 y4 y5 y6 y7 y8 y9 y10 y11 hgz hfr HST hst hlt hi0 hj0 hin2 hjn;intro W hW;have HW:=qh hW;have HW1:Hid (wrap64 ((i:Int)+1)=((i+1:Nat):Int)):=qh (by rw [zcy (by have:=HIJ.out;omega)];omega);have HW2:Hid (wrap64 ((J:Int) - 1)=(n:Int) - 1 - ((i+1:Nat):Int)):=qh (by rw [zcy (by have:=HIJ.out;omega)];have:=HIJ.out;omega);clear hW;go_wp2_with fail;go_roundw
    case rel=>exact ⟨i+1,by rw [HW1.out],by rw [HW2.out],by have:=HIJ.out;omega,HW⟩
    case measure=>
     have h:=HIJ.out;have hw:=HW1.out;clear HW1 HW2;simp only [hw,Int.toNat_natCast];clear hw;omega
   .have hlt:¬((i:Int)<(n:Int) - 1 - i):=by omega
    have HD:Hid (wr.ownsRow base 54 12 (.slice (some ⟨g,0,none⟩) n cap) n (cs.reverse.flatMap ccells)):=qh (by rw [<-zmh cs i (by have:=HN.out;omega)];exact HR.out.own);have HG:=qh HR.out.gr;clear hij hin HR;go_wp2_with fail;exact ⟨rfl,_,by simp [results,Tryz.results35,go_sem],rfl,HD.out,HG.out⟩
end Go.Proofs.YtbgheehjfnoiiaaGreatDoor
