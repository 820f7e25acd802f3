/- Walks. -/
import Derived.Test.YtbgheehjfnoiiaaGreatDoorIu37
namespace Go.Proofs.YtbgheehjfnoiiaaGreatDoor
open Go.RowKit
set_option maxRecDepth 100000
set_option maxHeartbeats 16000000
theorem zpm {P:Program} (w:World) {ops:Array Oper} {rest:List Oper} {o:Oper} {a:Act} {Q:Exit->Act->World->Prop} (hgd:o.guard=none) (s x:Operand) (t:TypeId)
 (ho:o.op= .call { callee:= .builtin .append,args:= #[s,x],argTypes:= #[t,t] })
 (e:TypeId) (i:TypeInfo) (ht:P.underlying t=some (.slice e)) (hi:P.info? e=some i)
 (hs:a.eval s= .slice none 0 0) (c:Nat)
 (hx:a.eval x= .slice none 0 c)
 (h:wpList P ops Q rest (a.put o.dst (.slice none 0 0)) w):wpList P ops Q (o::rest) a w:=
 wpList_plain hgd fun _ hK=>by
  have hr:(Builtin.append_ #[t,t] o.type #[.slice none 0 0, .slice none 0 c]).run P w= .ok (.slice none 0 0) w:=by simp [Builtin.append_,run_underlying ht,sizeOf,typeInfo,hi,Builtin.lenOf,Builtin.firstCells]
  unfold Oper.wp execOp;simp only [ho,resolve,invoke,builtin,Sem.run_bind,Sem.run_pure,Result.andThen_ok,List.map_toArray,List.map_cons,List.map_nil,hs,hx,hr];exact hK _ _ h
theorem IsSteps.cells {w:World} {B:Nat} {p:List St} {a:Option Addr} {n c:Nat} (h:IsSteps w B p a n c) (hB:B<=w.heap.size):
 (a=none->n=0/\p= [])/\∀ad,a=some ad->∀W,uB w W->∀j u,(p.flatMap scells)[j]? =some u->W.cell? (ad.add j)=some u:=by
 delta uB;obtain ⟨h1,h2,h3,h4,b,o,h5,h6⟩:=h;have hfl:(p.flatMap scells).length=n*3:=by rw [Zk scells 3 (fun _=>rfl),h1]
 refine ⟨fun e=> ?_,fun ad e W hW j u hj=> ?_⟩
 .have h0:n=0:=by
   by_cases h0:0<n
   .rw [e] at h5;cases (h5 h0).1
   .omega
  exact ⟨h0,List.length_eq_zero_iff.1 (by omega)⟩
 .have hj2:=(List.getElem?_eq_some_iff.1 hj).1;have hn:0<n:=by omega
  obtain ⟨ha,hb⟩:=h5 hn;rw [e] at ha;injection ha with ha;subst ha;have hi:j / 3<p.length:=by omega
  have hd:j=j / 3*3+j % 3:=by omega
  have hm:j % 3<3:=by omega
  rw [hd,Yx scells 3 (fun _=>rfl) _ (j / 3) (j % 3) hi hm] at hj;obtain ⟨g1,g2⟩:=h6 (j / 3) hi;rw [Addr.add_lit,hd, <-Nat.add_assoc];refine Zb hW ?_ (zzj hb hB);obtain ⟨m,hmm⟩:∃m,j % 3=m:=⟨_,rfl⟩;rw [hmm] at hj hm ⊢
  match m,hm with
  |0,_=>rw [<-hj];exact g1.c0
  |1,_=>rw [<-hj];exact g1.c1
  |2,_=>rw [<-hj];exact g1.c2
theorem zo5 (p:List St):∀u ∈ p.flatMap scells,u.oneCell'=true:=fun u hu=>by obtain ⟨v,_,hv⟩:=List.mem_flatMap.1 hu;simp only [scells,List.mem_cons,List.mem_nil_iff,or_false] at hv;rcases hv with rfl|rfl|rfl<;>rfl
theorem CY.made2 {w W1 W:World} {p:List St} {xv:V} {cc:CC} {f:VC} (h1:BC W w.heap.size (ccells cc)) (h2:BC W (w.heap.size+1) (ccells czero)) (hz:w.heap.size+2<=W1.heap.size) (hst:IsSteps (only (fun k=>w.heap.size+2<=k) W) W.heap.size p cc.pa cc.pl cc.pc) (hvl:IsVal (only (fun k=>W1.heap.size<=k) W) W.heap.size xv f) (hb:uB w W):
 CY w (((((W.setCell ⟨w.heap.size,6,none⟩ (.int .u8 f.k)).setCell ⟨w.heap.size,7,none⟩ (.int .i64 f.n)).setCell ⟨w.heap.size,8,none⟩ (.string f.s)).setCell ⟨w.heap.size,9,none⟩ (.slice f.la f.ll f.lc)).setCell ⟨w.heap.size,10,none⟩ (.slice f.oa f.ol f.oc)) p xv { cc with v:=f } :=by
 have st:RStep W (((((W.setCell ⟨w.heap.size,6,none⟩ (.int .u8 f.k)).setCell ⟨w.heap.size,7,none⟩ (.int .i64 f.n)).setCell ⟨w.heap.size,8,none⟩ (.string f.s)).setCell ⟨w.heap.size,9,none⟩ (.slice f.la f.ll f.lc)).setCell ⟨w.heap.size,10,none⟩ (.slice f.oa f.ol f.oc)) w.heap.size:=(((RStep.self.trans RStep.self).trans RStep.self).trans RStep.self).trans RStep.self;have hsh:∀B,w.heap.size+2<=B->Shows (only (fun k=>B<=k) W) (only (fun k=>w.heap.size+2<=k) _) W.heap.size:=fun B hB=>Zc fun k hk hl=>⟨by omega,st.block k hl (by omega)⟩;refine ⟨((((h1.set (i:=6) (x:= .int .u8 f.k) (by simp [ccells])).set (i:=7) (x:= .int .i64 f.n) (by simp [ccells])).set (i:=8) (x:= .string f.s) (by simp [ccells])).set (i:=9) (x:= .slice f.la f.ll f.lc) (by simp [ccells])).set (i:=10) (x:= .slice f.oa f.ol f.oc) (by simp [ccells]),h2.next st (by omega),(hst.sub (hsh _ (zza _))).more st.size,(hvl.sub (hsh _ hz)).more st.size,hb.trans (st.lowC (zza _) (by have:=hb.size;omega))⟩
theorem ze7 {tmps:Array Value} {W:World} {b:Nat} {d:CC} (ht:tmps[2]? =some (.pointer (some ⟨b,0,none⟩))) (h:BC W b (ccells d)):
 (results Tryz.f40 tmps).run Tryz.prog W= .ok (.agg #[.int .u8 d.k, .slice d.pa d.pl d.pc, .string d.key, .int .i64 d.i, .int .i64 d.j, .int .i64 d.n, .int .u8 d.v.k, .int .i64 d.v.n, .string d.v.s, .slice d.v.la d.v.ll d.v.lc, .slice d.v.oa d.v.ol d.v.oc, .string d.s]) W:=by
 obtain ⟨r0,r1,r2,r3,r4,r5,r6,r7,r8,r9,r10,r11⟩:=row12 h.at_;simp [results,Tryz.results40,go_sem,ht,r0,r1,r2,r3,r4,r5,r6,r7,r8,r9,r10,r11]
theorem zmz (w:World) (cm:Cm) (cc:CC) (hc:IsComp w w.heap.size cm cc):
 uP 40 #[.agg (uC cc)] w fun e w'=>(∃d:CC,e= .returned (.agg #[.int .u8 d.k, .slice d.pa d.pl d.pc, .string d.key, .int .i64 d.i, .int .i64 d.j, .int .i64 d.n, .int .u8 d.v.k, .int .i64 d.v.n, .string d.v.s, .slice d.v.la d.v.ll d.v.lc, .slice d.v.oa d.v.ol d.v.oc, .string d.s])/\IsComp (only (fun k=>w.heap.size<=k) w') w'.heap.size cm d)/\uB w w':=by
 delta uC uB uP
 cases hc with
 |mk cc p xv hcb hp hxv=>
 obtain ⟨i0,hi0,hz0,hz1,hz2⟩:=info_parts zaz;obtain ⟨hpn,hps⟩:=hp.cells (zza _);have hpl:=hp.len;have HBN:=qh (show ∀s ∈ p,s.Bnd from fun s hs=>by
  obtain ⟨_,_,_,_,b,o,_,h6⟩:=hp;obtain ⟨i,hi,rfl⟩:=List.getElem_of_mem hs;exact (h6 i hi).2)
 have hfew:=hp.few;have hfl:(p.flatMap scells).length=cc.pl*3:=by rw [Zk scells 3 (fun _=>rfl),hpl]
 have HXV:=qh hxv;have HPN:=qh hpn;have HPS:=qh hps;have HPL:=qh hpl;have HFL:=qh hfl;have hbx:∀t1 t2,BC ((w.alloc (.cells (uC cc) t1)).alloc (.cells (ccells czero).toArray t2)) w.heap.size (ccells cc)/\BC ((w.alloc (.cells (uC cc) t1)).alloc (.cells (ccells czero).toArray t2)) (w.heap.size+1) (ccells czero)/\uB w ((w.alloc (.cells (uC cc) t1)).alloc (.cells (ccells czero).toArray t2))/\((w.alloc (.cells (uC cc) t1)).alloc (.cells (ccells czero).toArray t2)).heap.size=w.heap.size+2:=fun t1 t2=>by obtain ⟨q1,q2,q3,q4⟩:=Qp w #[.int .u8 cc.k, .slice cc.pa cc.pl cc.pc, .string cc.key, .int .i64 cc.i, .int .i64 cc.j, .int .i64 cc.n, .int .u8 cc.v.k, .int .i64 cc.v.n, .string cc.v.s, .slice cc.v.la cc.v.ll cc.v.lc, .slice cc.v.oa cc.v.ol cc.v.oc, .string cc.s] (ccells czero).toArray t1 t2;exact ⟨q1,by simpa using q2,q3,by simp⟩
 have HBX:=qh (hbx 54 54);have HCB:=qh hcb;clear hbx hp hxv hcb hpn hps hpl hfl;go_enter Tryz.func40,Tryz.ntmps40
 generalize hQ0:bodyPost _ _ _=Q0;have HQ:=qh hQ0;clear hQ0;go_upto_region 1 with fail
 obtain ⟨w1,hw1⟩:∃w1,(w.alloc (.cells (uC cc) 54)).alloc (.cells (ccells czero).toArray 54)=w1:=⟨_,rfl⟩;rw [hw1] at HBX;rw [show (w.alloc (.cells (uC cc) 54)).alloc (.cells #[.int .u8 0, .slice none 0 0, .string { data:= #[] }, .int .i64 0, .int .i64 0, .int .i64 0, .int .u8 0, .int .i64 0, .string { data:= #[] }, .slice none 0 0, .slice none 0 0, .string { data:= #[] }] 54)=w1 from hw1];obtain ⟨hA1,hA2,hba,hsz⟩:=HBX.out;have HSZ:=qh hsz;have HWA:=qh hba;have x1:=hA1.at_ 1 _ rfl;have f1:=hA1.fr 1;have x6:=hA1.at_ 6 _ rfl;have f6:=hA1.fr 6;have x7:=hA1.at_ 7 _ rfl;have f7:=hA1.fr 7;have x8:=hA1.at_ 8 _ rfl;have f8:=hA1.fr 8;have x9:=hA1.at_ 9 _ rfl;have f9:=hA1.fr 9;have x10:=hA1.at_ 10 _ rfl;have f10:=hA1.fr 10;have zx:=hA1.lt;have HA1:=qh hA1;have HA2:=qh hA2;clear hA1 hA2 hba hsz hw1 HBX
 cases hpa:cc.pa with
 | none=>
   obtain ⟨g1,g2⟩:=HPN.out hpa;obtain ⟨a,ha⟩:∃a:Option Addr,a=none:=⟨_,rfl⟩;obtain ⟨m,hm⟩:∃m:Nat,m=0:=⟨_,rfl⟩;obtain ⟨c,hc⟩:∃c:Nat,c=0:=⟨_,rfl⟩;have HST:Hid (IsSteps (only (fun k=>w.heap.size+2<=k) w1) w1.heap.size p a m c):=qh (by
    rw [g2,ha,hm,hc];exact ⟨rfl,zza _,by decide,by decide,0,0,fun h=>absurd h (by decide),fun i h=>absurd h (by simp)⟩)
   rw [hpa,g1] at x1;clear g1 g2 hpa hfew HPN HPS HPL HFL HBN;go_upto_region 3 with (at_builtin;refine zpm _ rfl (.tmp 4) (.tmp 6) 50 (by rfl) 82 i0 Tryz.underlying50 hi0 (by rfl) cc.pc (by rfl) ?_)
   rw [show (Value.slice none 0 0)= .slice a m c by rw [ha,hm,hc]];clear ha hm hc;go_wp2_with fail;obtain ⟨wB,hwB⟩:∃wB,w1.setCell ⟨w.heap.size,1,none⟩ (.slice a m c)=wB:=⟨_,rfl⟩;rw [hwB];have st1:RStep w1 wB w.heap.size:=by rw [<-hwB];exact RStep.self
   have hB1:BC wB w.heap.size (ccells { cc with pa:=a,pl:=m,pc:=c }):=by rw [<-hwB];exact HA1.out.set (i:=1) (x:= .slice a m c) (by simp [ccells])
   have hB2:BC wB (w.heap.size+1) (ccells czero):=HA2.out.next st1 (by omega);have hbB:uB w wB:=HWA.out.trans (st1.lowC (zza _) (by have:=HWA.out.size;omega));have hsB:w.heap.size+2<=wB.heap.size:=by have:=HA2.out.lt;have:=st1.size;omega
   have hstB:IsSteps (only (fun k=>w.heap.size+2<=k) wB) wB.heap.size p a m c:=(HST.out.sub (Zc fun k hk hl=>⟨hk,st1.block k hl (by omega)⟩)).more st1.size;have HB1:=qh hB1;have HB2:=qh hB2;have HBB:=qh hbB;have HSB:=qh hsB;have HSTB:=qh hstB;have y6:=hB1.at_ 6 _ rfl;have y7:=hB1.at_ 7 _ rfl;have y8:=hB1.at_ 8 _ rfl;have y9:=hB1.at_ 9 _ rfl;have y10:=hB1.at_ 10 _ rfl;have zB:=hB1.lt;clear st1 hB1 hB2 hbB hsB hstB hwB HA1 HA2 HWA HST;clear x1 f1 x6 f6 x7 f7 x8 f8 x9 f9 x10 f10 zx;go_wp2_with fail;refine (Ym xv wB cc.v (HXV.out.later_ HBB.out)).mono ?_;rintro e w2 ⟨⟨f,rfl,hvl⟩,hb2⟩;have h1:=HB1.out.keep hb2 HB1.out.lt;have h2:=HB2.out.keep hb2 HB2.out.lt;have HST2:=qh (za1 HSTB.out hb2);have HVL2:=qh hvl;have HB2W:=qh (HBB.out.trans (hb2.mono HBB.out.size));have H1:=qh h1;have H2:=qh h2;have x6:=h1.at_ 6 _ rfl;have f6:=h1.fr 6;have x7:=h1.at_ 7 _ rfl;have f7:=h1.fr 7;have x8:=h1.at_ 8 _ rfl;have f8:=h1.fr 8;have x9:=h1.at_ 9 _ rfl;have f9:=h1.fr 9;have x10:=h1.at_ 10 _ rfl;have f10:=h1.fr 10;have zx:=h1.lt;clear h1 h2 hb2 hvl HB1 HB2 HSTB y6 y7 y8 y9 y10 zB;go_upto_region 5 with fail
   have HCY:=qh (CY.made2 (W1:=wB) H1.out H2.out HSB.out HST2.out HVL2.out HB2W.out);obtain ⟨W5,hW5⟩:∃W5,((((w2.setCell ⟨w.heap.size,6,none⟩ (.int .u8 f.k)).setCell ⟨w.heap.size,7,none⟩ (.int .i64 f.n)).setCell ⟨w.heap.size,8,none⟩ (.string f.s)).setCell ⟨w.heap.size,9,none⟩ (.slice f.la f.ll f.lc)).setCell ⟨w.heap.size,10,none⟩ (.slice f.oa f.ol f.oc)=W5:=⟨_,rfl⟩;rw [hW5] at HCY ⊢;have h5:=HCY.out;obtain ⟨u0,u1,u2,u3,u4,u5,u6,u7,u8,u9,u10,u11⟩:=row12 h5.one.at_;have y0:=h5.two.at_ 0 _ rfl;have g0:=h5.two.fr 0;have y1:=h5.two.at_ 1 _ rfl;have g1:=h5.two.fr 1;have y2:=h5.two.at_ 2 _ rfl;have g2:=h5.two.fr 2;have y3:=h5.two.at_ 3 _ rfl;have g3:=h5.two.fr 3;have y4:=h5.two.at_ 4 _ rfl;have g4:=h5.two.fr 4;have y5:=h5.two.at_ 5 _ rfl;have g5:=h5.two.fr 5;have y6:=h5.two.at_ 6 _ rfl;have g6:=h5.two.fr 6;have y7:=h5.two.at_ 7 _ rfl;have g7:=h5.two.fr 7;have y8:=h5.two.at_ 8 _ rfl;have g8:=h5.two.fr 8;have y9:=h5.two.at_ 9 _ rfl;have g9:=h5.two.fr 9;have y10:=h5.two.at_ 10 _ rfl;have g10:=h5.two.fr 10;have y11:=h5.two.at_ 11 _ rfl;have g11:=h5.two.fr 11;have zu:=h5.one.lt;have zy:=h5.two.lt;clear h5 hW5 H1 H2 HST2 HVL2 HB2W HSB HBB;clear x6 f6 x7 f7 x8 f8 x9 f9 x10 f10 zx;go_wp2_with fail;rw [<-HQ.out];have hq:=HCB.out;have st:=Yk W5 (w.heap.size+1) { cc with pa:=a,pl:=m,pc:=c,v:=f };refine ⟨rfl,_,ze7 rfl (Zp (c0:=czero) HCY.out.two { cc with pa:=a,pl:=m,pc:=c,v:=f }),⟨{ cc with pa:=a,pl:=m,pc:=c,v:=f },rfl, ?_⟩,Below.setC HCY.out.below (by omega) { cc with pa:=a,pl:=m,pc:=c,v:=f }⟩;refine .mk { cc with pa:=a,pl:=m,pc:=c,v:=f } p _ ⟨hq.k0,hq.k1,hq.i0,hq.i1,hq.j0,hq.j1,hq.n0,hq.n1,hq.key1,hq.s1⟩ ?_ ?_
   .exact (HCY.out.st.sub (Zc (S':=fun k=>w.heap.size<=k) fun k hk hl=>⟨by omega,st.block k hl (by omega)⟩)).more st.size
   .exact (HCY.out.vl.sub (Zc (S':=fun k=>w.heap.size<=k) fun k hk hl=>⟨by omega,st.block k hl (by omega)⟩)).more st.size
 | some ad=>
   have HPS2:=qh (HPS.out ad hpa);rw [hpa] at x1;clear hpa HPN HPS;go_upto_region 3 with (at_builtin;refine Z1 _ rfl (.tmp 4) (.tmp 6) 50 (by rfl) w1.heap.size 82 i0 _ 3 32 Tryz.underlying50 hi0 hz0 hz1 hz2 rfl (by omega) (.slice none 0 0) 0 [] (by rfl) ⟨rfl, .inl ⟨rfl,rfl⟩⟩ (some ad) cc.pl cc.pc (p.flatMap scells) (by rfl) ⟨(fun h=>by cases h),fun ad' h j u hj=>by injection h with h;subst h;exact HPS2.out _ HWA.out j u hj⟩ HFL.out (zo5 p) (by unfold maxLen;omega) (by omega) (zza _) ?_;intro v' wq hown hgrow)
   obtain ⟨a,m,c,rfl,hst⟩:=K5 (S:=fun k=>w.heap.size+2<=k) (by rw [<-HPL.out];simpa using hown) (fun k hk=>by have:=HSZ.out;omega) HBN.out (by rw [<-HPL.out];exact hfew);have hbq:uB w1 wq:=(zzc _ _).grown hgrow (zza _) (by intro k hk;simp [Value.ownBlock] at hk);have HST:=qh hst;replace HWA:=qh (HWA.out.trans (hbq.mono HWA.out.size));clear x1 f1 x6 f6 x7 f7 x8 f8 x9 f9 x10 f10 zx;have hA1:=HA1.out.keep hbq HA1.out.lt;have hA2:=HA2.out.keep hbq HA2.out.lt;have x1:=hA1.at_ 1 _ rfl;have f1:=hA1.fr 1;have x6:=hA1.at_ 6 _ rfl;have f6:=hA1.fr 6;have x7:=hA1.at_ 7 _ rfl;have f7:=hA1.fr 7;have x8:=hA1.at_ 8 _ rfl;have f8:=hA1.fr 8;have x9:=hA1.at_ 9 _ rfl;have f9:=hA1.fr 9;have x10:=hA1.at_ 10 _ rfl;have f10:=hA1.fr 10;have zx:=hA1.lt;replace HA1:=qh hA1;replace HA2:=qh hA2;clear hA1 hA2 hst hown hgrow hbq HPS2 HPL HFL HBN hfew;go_wp2_with fail;obtain ⟨wB,hwB⟩:∃wB,wq.setCell ⟨w.heap.size,1,none⟩ (.slice a m c)=wB:=⟨_,rfl⟩;rw [hwB];have st1:RStep wq wB w.heap.size:=by rw [<-hwB];exact RStep.self
   have hB1:BC wB w.heap.size (ccells { cc with pa:=a,pl:=m,pc:=c }):=by rw [<-hwB];exact HA1.out.set (i:=1) (x:= .slice a m c) (by simp [ccells])
   have hB2:BC wB (w.heap.size+1) (ccells czero):=HA2.out.next st1 (by omega);have hbB:uB w wB:=HWA.out.trans (st1.lowC (zza _) (by have:=HWA.out.size;omega));have hsB:w.heap.size+2<=wB.heap.size:=by have:=HA2.out.lt;have:=st1.size;omega
   have hstB:IsSteps (only (fun k=>w.heap.size+2<=k) wB) wB.heap.size p a m c:=(HST.out.sub (Zc fun k hk hl=>⟨hk,st1.block k hl (by omega)⟩)).more st1.size;have HB1:=qh hB1;have HB2:=qh hB2;have HBB:=qh hbB;have HSB:=qh hsB;have HSTB:=qh hstB;have y6:=hB1.at_ 6 _ rfl;have y7:=hB1.at_ 7 _ rfl;have y8:=hB1.at_ 8 _ rfl;have y9:=hB1.at_ 9 _ rfl;have y10:=hB1.at_ 10 _ rfl;have zB:=hB1.lt;clear st1 hB1 hB2 hbB hsB hstB hwB HA1 HA2 HWA HST;clear x1 f1 x6 f6 x7 f7 x8 f8 x9 f9 x10 f10 zx;go_wp2_with fail;refine (Ym xv wB cc.v (HXV.out.later_ HBB.out)).mono ?_;rintro e w2 ⟨⟨f,rfl,hvl⟩,hb2⟩;have h1:=HB1.out.keep hb2 HB1.out.lt;have h2:=HB2.out.keep hb2 HB2.out.lt;have HST2:=qh (za1 HSTB.out hb2);have HVL2:=qh hvl;have HB2W:=qh (HBB.out.trans (hb2.mono HBB.out.size));have H1:=qh h1;have H2:=qh h2;have x6:=h1.at_ 6 _ rfl;have f6:=h1.fr 6;have x7:=h1.at_ 7 _ rfl;have f7:=h1.fr 7;have x8:=h1.at_ 8 _ rfl;have f8:=h1.fr 8;have x9:=h1.at_ 9 _ rfl;have f9:=h1.fr 9;have x10:=h1.at_ 10 _ rfl;have f10:=h1.fr 10;have zx:=h1.lt;clear h1 h2 hb2 hvl HB1 HB2 HSTB y6 y7 y8 y9 y10 zB;go_upto_region 5 with fail
   have HCY:=qh (CY.made2 (W1:=wB) H1.out H2.out HSB.out HST2.out HVL2.out HB2W.out);obtain ⟨W5,hW5⟩:∃W5,((((w2.setCell ⟨w.heap.size,6,none⟩ (.int .u8 f.k)).setCell ⟨w.heap.size,7,none⟩ (.int .i64 f.n)).setCell ⟨w.heap.size,8,none⟩ (.string f.s)).setCell ⟨w.heap.size,9,none⟩ (.slice f.la f.ll f.lc)).setCell ⟨w.heap.size,10,none⟩ (.slice f.oa f.ol f.oc)=W5:=⟨_,rfl⟩;rw [hW5] at HCY ⊢;have h5:=HCY.out;obtain ⟨u0,u1,u2,u3,u4,u5,u6,u7,u8,u9,u10,u11⟩:=row12 h5.one.at_;have y0:=h5.two.at_ 0 _ rfl;have g0:=h5.two.fr 0;have y1:=h5.two.at_ 1 _ rfl;have g1:=h5.two.fr 1;have y2:=h5.two.at_ 2 _ rfl;have g2:=h5.two.fr 2;have y3:=h5.two.at_ 3 _ rfl;have g3:=h5.two.fr 3;have y4:=h5.two.at_ 4 _ rfl;have g4:=h5.two.fr 4;have y5:=h5.two.at_ 5 _ rfl;have g5:=h5.two.fr 5;have y6:=h5.two.at_ 6 _ rfl;have g6:=h5.two.fr 6;have y7:=h5.two.at_ 7 _ rfl;have g7:=h5.two.fr 7;have y8:=h5.two.at_ 8 _ rfl;have g8:=h5.two.fr 8;have y9:=h5.two.at_ 9 _ rfl;have g9:=h5.two.fr 9;have y10:=h5.two.at_ 10 _ rfl;have g10:=h5.two.fr 10;have y11:=h5.two.at_ 11 _ rfl;have g11:=h5.two.fr 11;have zu:=h5.one.lt;have zy:=h5.two.lt;clear h5 hW5 H1 H2 HST2 HVL2 HB2W HSB HBB;clear x6 f6 x7 f7 x8 f8 x9 f9 x10 f10 zx;go_wp2_with fail;rw [<-HQ.out];have hq:=HCB.out;have st:=Yk W5 (w.heap.size+1) { cc with pa:=a,pl:=m,pc:=c,v:=f };refine ⟨rfl,_,ze7 rfl (Zp (c0:=czero) HCY.out.two { cc with pa:=a,pl:=m,pc:=c,v:=f }),⟨{ cc with pa:=a,pl:=m,pc:=c,v:=f },rfl, ?_⟩,Below.setC HCY.out.below (by omega) { cc with pa:=a,pl:=m,pc:=c,v:=f }⟩;refine .mk { cc with pa:=a,pl:=m,pc:=c,v:=f } p _ ⟨hq.k0,hq.k1,hq.i0,hq.i1,hq.j0,hq.j1,hq.n0,hq.n1,hq.key1,hq.s1⟩ ?_ ?_
   .exact (HCY.out.st.sub (Zc (S':=fun k=>w.heap.size<=k) fun k hk hl=>⟨by omega,st.block k hl (by omega)⟩)).more st.size
   .exact (HCY.out.vl.sub (Zc (S':=fun k=>w.heap.size<=k) fun k hk hl=>⟨by omega,st.block k hl (by omega)⟩)).more st.size
def goOn (xs:List Cm) (q:List Cm×Int):List Cm×Int:=if q.2=0 then (xs++q.1,0) else ([],q.2)
def OpOk:V->List Cm->Prop
 |_, [] =>True
 |v,c::r=>v.weight<=100000000/\v.sound=true/\c.v.weight<=4611686018427387904/\c.s.size<=1000000000000/\((doP v c).2=0->OpOk (doP v c).1 r)
structure LH (w wr:World) (v0:V) (op:List Cm) (j:Nat) (x:V) (cx:VC) (u:Value) (xs:List Cm) (cs:List CC):Prop where
 rd:goOn xs (turnsP x (op.drop j))=turnsP v0 op
 ok:OpOk x (op.drop j)
 cen:cs.length=xs.length
 few:xs.length=j
 box:BC wr w.heap.size (vcells cx)
 obox:BC wr (w.heap.size+1) [u]
 val:IsVal (only (fun k=>k≠w.heap.size/\k≠w.heap.size+1/\some k≠u.ownBlock) wr) wr.heap.size x cx
 row:RowC wr (w.heap.size+2) u xs cs
 below:Below w.heap.size w wr
structure LM (w wr W:World) (y:V) (cm:Cm) (cy:VC) (cc:CC) (u:Value) (xs:List Cm) (cs:List CC):Prop where
 box:BC W w.heap.size (vcells cy)
 obox:BC W (w.heap.size+1) [u]
 val:IsVal (only (fun k=>wr.heap.size<=k) W) W.heap.size y cy
 cmp:IsComp (only (fun k=>wr.heap.size<=k) W) W.heap.size cm cc
 row:RowC W (w.heap.size+2) u xs cs
 below:Below w.heap.size w W
theorem LH.mid {w wr W5 W6:World} {v0:V} {op:List Cm} {j:Nat} {x y:V} {cx cy:VC} {u:Value} {xs:List Cm} {cs:List CC} {cm:Cm} {cc:CC} (h:LH w wr v0 op j x cx u xs cs) (hb:uB wr W5) (hc:IsComp (only (fun k=>wr.heap.size<=k) W5) W5.heap.size cm cc) (hb6:uB W5 W6) (hy:IsVal (only (fun k=>W5.heap.size<=k) W6) W6.heap.size y cy):
 LM w wr (setV W6 w.heap.size 0 cy) y cm cy cc u xs cs:=by
 have st:=Zh W6 w.heap.size 0 cy;have hlo:=h.box.lt;have hl1:=h.obox.lt;have hz1:=hb.size;have hz2:=hb6.size;have hz3:=st.size;have hbA:uB wr W6:=hb.trans (hb6.mono hz1);exact ⟨Zx (h.box.keep hbA hlo) cy,(h.obox.keep hbA hl1).next st (by omega),Zy hy rfl st.size fun k hk hl=>⟨by omega,st.block k hl (by omega)⟩,Y5 hc rfl (zzl hz2 st.size) fun k hk hl=>⟨hk,(st.block k (by omega) (by omega)).trans (hb6.block k hl)⟩,(h.row.later (PC.closed _ _) (.of_below w.heap.size hbA) (by omega)).later (PC.closed _ _) st (by omega),Below.set5' (h.below.trans (hbA.mono (by omega))) (zza _) _ _ _ _ _⟩
theorem LH.round {w wr w5 w7:World} {v0:V} {op:List Cm} {j:Nat} {x y:V} {cx cy:VC} {a:Option Addr} {m c:Nat} {xs:List Cm} {cs:List CC} {cm:Cm} {cc:CC} {g cap:Nat} {t:TypeId}
 (h:LH w wr v0 op j x cx (.slice a m c) xs cs) (hm:LM w wr w5 y cm cy cc (.slice a m c) xs cs) (hz:wr.heap.size<=w5.heap.size) (hrd:goOn (xs++ [cm]) (turnsP y (op.drop (j+1)))=turnsP v0 op) (hok:OpOk y (op.drop (j+1)))
 (hown:w7.ownsRow (w.heap.size+2) 54 12 (.slice (some ⟨g,0,none⟩) (xs.length+1) cap) (xs.length+1) (cs.flatMap ccells++ccells cc)) (hg:(w5.alloc (.cells #[.int .u8 cc.k, .slice cc.pa cc.pl cc.pc, .string cc.key, .int .i64 cc.i, .int .i64 cc.j, .int .i64 cc.n, .int .u8 cc.v.k, .int .i64 cc.v.n, .string cc.v.s, .slice cc.v.la cc.v.ll cc.v.lc, .slice cc.v.oa cc.v.ol cc.v.oc, .string cc.s] t)).grownBy w7 (Value.slice a m c).ownBlock)
 (hat:(Value.slice a m c).ownBlock=some g∨g=w5.heap.size+1):
 LH w (w7.setCell ⟨w.heap.size+1,0,none⟩ (.slice (some ⟨g,0,none⟩) (xs.length+1) cap)) v0 op (j+1) y cy (.slice (some ⟨g,0,none⟩) (xs.length+1) cap) (xs++ [cm]) (cs++ [cc]):=by
 have hrlt:∀b,(Value.slice a m c).ownBlock=some b->w.heap.size+2<=b/\b<wr.heap.size:=h.row.lt;have hba:uB w5 (w5.alloc (.cells (uC cc) t)):=(zzc _ _).alloc (zza _) _;have hlt:=h.box.lt;have hl1:=h.obox.lt;have hgb:Below (w.heap.size+2) (w5.alloc (.cells (uC cc) t)) w7:=Zi hg (fun b hb=>(hrlt b hb).1) (by rw [zzk];omega);have hb57:Below (w.heap.size+2) w5 w7:=(hba.mono (by omega)).trans hgb;have st8:RStep w7 (w7.setCell ⟨w.heap.size+1,0,none⟩ (.slice (some ⟨g,0,none⟩) (xs.length+1) cap)) (w.heap.size+1):=RStep.self;obtain ⟨s1,s2⟩:=PC.snoc (l:=xs) (cs:=cs) h.cen cm cc;have hnew:PC (xs++ [cm]) (cs++ [cc]) (only (Free (w.heap.size+2) (.slice a m c)) w5) w5.heap.size xs.length:=s1 _ _ (hm.cmp.sub (Zc fun b hb _=>⟨⟨by omega,fun e=>by have:=(hrlt b e.symm).2;omega⟩,rfl⟩));have hpush:=Row.push (PC.closed (xs++ [cm]) (cs++ [cc])) hm.row hba hg (u':= .slice (some ⟨g,0,none⟩) (xs.length+1) cap) (news:=ccells cc) hown (by
  rcases hat with e|e
  .left;rw [e];rfl
  .right;intro b hb;have:g=b:=by simpa [Value.ownBlock] using hb
   omega) hnew s2
 refine ⟨hrd,hok,by simp [h.cen],by rw [zze,List.length_singleton];have:=h.few;omega,(hm.box.keep hb57 (by omega)).next st8 (by omega),(hm.obox.keep hb57 (by omega)).set (i:=0) (by simp), ?_, ?_,hm.below.trans (hb57.mono (by omega))|>.trans (st8.lowC (by omega) (by have:=hb57.size;omega))⟩
 .refine Zy hm.val rfl (zzl hb57.size st8.size) fun k hk hl=>⟨⟨by omega,by omega,fun e=> ?_⟩, ?_⟩
  .have e2:k=g:=by simpa [Value.ownBlock] using e
   rcases hat with e3|e3
   .have:=(hrlt g e3).2;omega
   .omega
  .refine (st8.block k (by have:=hb57.size;omega) (by omega)).trans ((hg.block k (by simp;omega) fun e=> ?_).trans (hba.block k hl));have:=(hrlt k e.symm).2;omega
 .refine Row.later (PC.closed _ _) (?_:RowC w7 (w.heap.size+2) _ (xs++ [cm]) (cs++ [cc])) st8 (by omega);show Row _ _ _ _ _ _ _ _;rw [Yr,zze,List.length_singleton];exact hpush
theorem zdq {w:World} {b o:Nat} {c:CC} (h:CompAt w b o c):∀k u,(ccells c)[k]? =some u->w.cell? ⟨b,o+k,none⟩=some u:=fun k u hk=>by
 have hm:k<12:=by have:=(List.getElem?_eq_some_iff.1 hk).1;exact this
 match k,hm with
 |0,_=>rw [<-hk];exact h.c0
 |1,_=>rw [<-hk];exact h.c1
 |2,_=>rw [<-hk];exact h.c2
 |3,_=>rw [<-hk];exact h.c3
 |4,_=>rw [<-hk];exact h.c4
 |5,_=>rw [<-hk];exact h.c5
 |6,_=>rw [<-hk];exact h.c6.c0
 |7,_=>rw [<-hk];exact h.c6.c1
 |8,_=>rw [<-hk];exact h.c6.c2
 |9,_=>rw [<-hk];exact h.c6.c3
 |10,_=>rw [<-hk];exact h.c6.c4
 |11,_=>rw [<-hk];exact h.c11
theorem X0 (w:World) (o:Obj):uB w (w.alloc o):=(zzc _ _).alloc (zza _) o
theorem RowC.snoc {w4 w9:World} {base lo:Nat} {a:Option Addr} {m c:Nat} {xs:List Cm} {cs:List CC} {cm:Cm} {d:CC} {g cap:Nat} (h:RowC w4 base (.slice a m c) xs cs) (hl:cs.length=xs.length) (hbase:base<=lo) (hlo:∀k,(Value.slice a m c).ownBlock=some k->k<lo) (hd:IsComp (only (fun k=>lo<=k) w4) w4.heap.size cm d)
 (hown:w9.ownsRow base 54 12 (.slice (some ⟨g,0,none⟩) (xs.length+1) cap) (xs.length+1) (cs.flatMap ccells++ccells d)) (hg:(w4.alloc (.cells #[.int .u8 d.k, .slice d.pa d.pl d.pc, .string d.key, .int .i64 d.i, .int .i64 d.j, .int .i64 d.n, .int .u8 d.v.k, .int .i64 d.v.n, .string d.v.s, .slice d.v.la d.v.ll d.v.lc, .slice d.v.oa d.v.ol d.v.oc, .string d.s] 54)).grownBy w9 (Value.slice a m c).ownBlock) (hat:(Value.slice a m c).ownBlock=some g∨g=w4.heap.size+1):
 RowC w9 base (.slice (some ⟨g,0,none⟩) (xs.length+1) cap) (xs++ [cm]) (cs++ [d]):=by
 obtain ⟨s1,s2⟩:=PC.snoc (l:=xs) (cs:=cs) hl cm d;have hnew:PC (xs++ [cm]) (cs++ [d]) (only (Free base (.slice a m c)) w4) w4.heap.size xs.length:=s1 _ _ (hd.sub (Zc fun b hb _=>⟨⟨zzl hbase hb,fun e=>by have h1:=hlo b e.symm;have h2:lo<=b:=hb;omega⟩,rfl⟩));have hpush:=Row.push (PC.closed (xs++ [cm]) (cs++ [d])) h (X0 w4 _) hg (u':= .slice (some ⟨g,0,none⟩) (xs.length+1) cap) (news:=ccells d) hown (by
  rcases hat with e|e
  .left;rw [e];rfl
  .right;intro b hb;have:g=b:=by simpa [Value.ownBlock] using hb
   omega) hnew s2
 show Row _ _ _ _ _ _ _ _;rw [Yr,zze,List.length_singleton];exact hpush
theorem zn8 (x:V) (c:Cm):(turnP x c).s.size<=x.str.size:=by
 unfold turnP
 (repeat' split)<;>first|exact Nat.zero_le _|(show (partT _ _ _).size<=_;rw [partT,ByteArray.size_extract];omega)
theorem zez {v:V} {c d:Cm} (h:turnedP v c=(d,0)):d.s.size<=v.weight/\d.v.weight<=20000:=by obtain ⟨_,x,hg,rfl,hs⟩:=Js h;have h1:=zn8 x c;have h2:=x.str_weight.1;have h3:=Z0 _ hg;refine ⟨by omega, ?_⟩;unfold cmSound at hs;simp only [Bool.and_eq_true,decide_eq_true_eq] at hs;exact hs.2
theorem zld:∀(l:List Ac) (v:V),v.sound=true->v.weight+20100*l.length<=100000000->OpOk v (aimP v l)/\(doAllP v (aimP v l)).1.weight<=100000000:=by
 intro l
 induction l with
 |nil=>intro v _ hw;exact ⟨trivial,by rw [aimP,doAllP];simp at hw;exact hw⟩
 | cons a r ih=>
   intro v hs hw;rw [List.length_cons] at hw;rw [aimP]
   cases h:oneC v a with
   |none=>exact ih v hs (by omega)
   | some c=>
     dsimp only;split
     .rename_i h0;have h1:=zb2 h h0;have h2:=Jh h;obtain ⟨i1,i2⟩:=ih (doP v c).1 (X5 hs) (by omega);refine ⟨⟨by omega,hs,by have:=h2.sv;omega,by have:=h2.ss;omega,fun _=>i1⟩, ?_⟩;rw [doAllP,if_pos h0];exact i2
     .exact ih v hs (by omega)
theorem zct (b:List Cm):∀(a:List Cm) (v:V),OpOk v a->((doAllP v a).2=0->OpOk (doAllP v a).1 b)->OpOk v (a++b):=by
 intro a
 induction a with
 |nil=>intro v _ h;exact h rfl
 | cons c r ih=>intro v h hb;obtain ⟨h1,h2,h3,h4,h5⟩:=h;refine ⟨h1,h2,h3,h4,fun h0=>ih _ (h5 h0) fun hr=> ?_⟩;rw [doAllP,if_pos h0] at hb;exact hb hr
theorem zgp:∀(op:List Cm) (v:V) (l:List Cm),v.sound=true->v.Nums->(∀c ∈ op,c.Nums)->OpOk v op->(doAllP v op).1.weight<=100000000->turnsP v op=(l,0)->OpOk (doAllP v op).1 l.reverse:=by
 intro op
 induction op with
 | nil=>intro v l _ _ _ _ _ h;injection h with h1 h2;subst h1;exact trivial
 | cons c r ih=>
   intro v l hv hn hc hok hw h;obtain ⟨o1,o2,o3,o4,o5⟩:=hok;rw [turnsP] at h;by_cases h1:(turnedP v c).2=0
   .rw [if_pos h1] at h;by_cases h2:(turnsP (doP v c).1 r).2=0
    .rw [if_pos h2] at h;injection h with h3 h4;have ht:turnedP v c=((turnedP v c).1,0):=Prod.ext rfl h1;obtain ⟨b1,b2,b3⟩:=zd5 hv hn (hc c (List.mem_cons_self ..)) ht;have hq:turnsP (doP v c).1 r=((turnsP (doP v c).1 r).1,0):=Prod.ext rfl h2;have hn1:=K0 zaa hn (hc c (List.mem_cons_self ..)).2 trivial;have hcr:∀d ∈ r,d.Nums:=fun d hd=>hc d (List.mem_cons_of_mem _ hd);obtain ⟨i1,i2,i3⟩:=zb7 r (X5 hv) hn1 hcr hq;rw [doAllP,if_pos b1] at hw ⊢;have hi:=ih (doP v c).1 _ (X5 hv) hn1 hcr (o5 b1) hw hq;obtain ⟨s1,s2⟩:=zez ht;rw [<-h3,List.reverse_cons];refine zct _ _ _ hi fun _=> ?_;rw [i2];refine ⟨?_,X5 hv,by omega,by omega,fun _=>trivial⟩
     cases r with
     |nil=>exact hw
     |cons d r=>exact (o5 b1).1
    .rw [if_neg h2] at h;injection h with h3 h4;exact absurd h4 h2
   .rw [if_neg h1] at h;injection h with h3 h4;exact absurd h4 h1
theorem zlb {w:World} {b o:Nat} {c:CC} (h:CompAt w b o c):∀k u,(ccells c)[k]? =some u->w.cell? ⟨b,o+k,none⟩=some u:=fun k u hk=>by
 have hm:k<12:=by have:=(List.getElem?_eq_some_iff.1 hk).1;exact this
 match k,hm with
 |0,_=>rw [<-hk];exact h.c0
 |1,_=>rw [<-hk];exact h.c1
 |2,_=>rw [<-hk];exact h.c2
 |3,_=>rw [<-hk];exact h.c3
 |4,_=>rw [<-hk];exact h.c4
 |5,_=>rw [<-hk];exact h.c5
 |6,_=>rw [<-hk];exact h.c6.c0
 |7,_=>rw [<-hk];exact h.c6.c1
 |8,_=>rw [<-hk];exact h.c6.c2
 |9,_=>rw [<-hk];exact h.c6.c3
 |10,_=>rw [<-hk];exact h.c6.c4
 |11,_=>rw [<-hk];exact h.c11
theorem zbo {w w4:World} {y:V} (h:Below w.heap.size w.drew w4) (hz:w.heap.size<=w4.heap.size) (d:VC) (t:TypeId) (hv:IsVal (only (fun b=>w.heap.size<=b) w4) w4.heap.size y d):BC (w4.alloc (.cells #[.int .u8 d.k, .int .i64 d.n, .string d.s, .slice d.la d.ll d.lc, .slice d.oa d.ol d.oc] t)) w4.heap.size (vcells d)/\Below w.heap.size w.drew (w4.alloc (.cells #[.int .u8 d.k, .int .i64 d.n, .string d.s, .slice d.la d.ll d.lc, .slice d.oa d.ol d.oc] t))/\w.heap.size<=w4.heap.size/\IsVal (only (fun b=>w.heap.size<=b) (w4.alloc (.cells #[.int .u8 d.k, .int .i64 d.n, .string d.s, .slice d.la d.ll d.lc, .slice d.oa d.ol d.oc] t))) (w4.alloc (.cells #[.int .u8 d.k, .int .i64 d.n, .string d.s, .slice d.la d.ll d.lc, .slice d.oa d.ol d.oc] t)).heap.size y d:=by have f:=Jc h hz d t;have hal:uB w4 (w4.alloc (.cells (uV d) t)):=(zzc _ _).alloc (zza _) _;exact ⟨f.1,f.2.1,f.2.2,Zy hv rfl hal.size fun k hk hl=>⟨hk,hal.block k hl⟩⟩
theorem zg6 {w W:World} {y:V} (h:Below w.heap.size w.drew W) (d:VC) (x:BC W w.heap.size [.int .u8 0, .int .i64 0, .string { data:= #[] }, .slice none 0 0, .slice none 0 0]) (hv:IsVal (only (fun b=>w.heap.size+1<=b) W) W.heap.size y d):BC (((((W.setCell ⟨w.heap.size,0,none⟩ (.int .u8 d.k)).setCell ⟨w.heap.size,1,none⟩ (.int .i64 d.n)).setCell ⟨w.heap.size,2,none⟩ (.string d.s)).setCell ⟨w.heap.size,3,none⟩ (.slice d.la d.ll d.lc)).setCell ⟨w.heap.size,4,none⟩ (.slice d.oa d.ol d.oc)) w.heap.size (vcells d)/\Below w.heap.size w.drew (((((W.setCell ⟨w.heap.size,0,none⟩ (.int .u8 d.k)).setCell ⟨w.heap.size,1,none⟩ (.int .i64 d.n)).setCell ⟨w.heap.size,2,none⟩ (.string d.s)).setCell ⟨w.heap.size,3,none⟩ (.slice d.la d.ll d.lc)).setCell ⟨w.heap.size,4,none⟩ (.slice d.oa d.ol d.oc))/\w.heap.size<=w.heap.size/\IsVal (only (fun b=>w.heap.size<=b) (((((W.setCell ⟨w.heap.size,0,none⟩ (.int .u8 d.k)).setCell ⟨w.heap.size,1,none⟩ (.int .i64 d.n)).setCell ⟨w.heap.size,2,none⟩ (.string d.s)).setCell ⟨w.heap.size,3,none⟩ (.slice d.la d.ll d.lc)).setCell ⟨w.heap.size,4,none⟩ (.slice d.oa d.ol d.oc))) (((((W.setCell ⟨w.heap.size,0,none⟩ (.int .u8 d.k)).setCell ⟨w.heap.size,1,none⟩ (.int .i64 d.n)).setCell ⟨w.heap.size,2,none⟩ (.string d.s)).setCell ⟨w.heap.size,3,none⟩ (.slice d.la d.ll d.lc)).setCell ⟨w.heap.size,4,none⟩ (.slice d.oa d.ol d.oc)).heap.size y d:=by have f:=Q4 h d x;have st:=Zh W w.heap.size 0 d;exact ⟨f.1,f.2.1,f.2.2,Zy hv rfl st.size fun k hk hl=>⟨Nat.le_of_succ_le hk,st.block k hl (by have:w.heap.size+1<=k:=hk;omega)⟩⟩
theorem zl5 {tmps:Array Value} {W:World} {b:Nat} {c:VC} {x:Value} (ht:tmps[4]? =some (.pointer (some ⟨b,0,none⟩))) (hx:tmps[5]? =some x) (h:BC W b (vcells c)):
 (results Tryz.f15 tmps).run Tryz.prog W= .ok (.tuple #[.agg #[.int .u8 c.k, .int .i64 c.n, .string c.s, .slice c.la c.ll c.lc, .slice c.oa c.ol c.oc],x]) W:=by
 obtain ⟨r0,r1,r2,r3,r4⟩:=row5 h.at_;simp [results,Tryz.results15,go_sem,ht,hx,r0,r1,r2,r3,r4]
theorem zgq {w W:World} {x:Act} {c:VC} {v:V} (h:BC W (w.heap.size+1) (vcells c)) (hv:IsVal (only (fun b=>w.heap.size<=b) W) W.heap.size v c) (hb:uB w W) (hd:x.defers= []) (ht:x.tmps[4]? =some (.pointer (some ⟨w.heap.size+1,0,none⟩))) (hx:x.tmps[5]? =some (.int .i64 0)):
 bodyPost Tryz.prog Tryz.f15 (DoPost w (v,0)) .ret x W:=⟨hd,_,zl5 ht hx h,⟨c,rfl,hv⟩,hb⟩
structure LD (w wr:World) (op:List Cm) (y:V) (j:Nat) (x:V) (cx:VC):Prop where
 rd:doAllP x (op.drop j)=(y,0)
 ok:OpOk x (op.drop j)
 box:GB w wr cx
 val:IsVal (only (fun k=>w.heap.size+2<=k) wr) wr.heap.size x cx
theorem zp8 {x y:V} {c:Cm} {r:List Cm} (h:doAllP x (c::r)=(y,0)):(doP x c).2=0/\doAllP (doP x c).1 r=(y,0):=by
 rw [doAllP] at h;by_cases h0:(doP x c).2=0
 .rw [if_pos h0] at h;exact ⟨h0,h⟩
 .rw [if_neg h0] at h;exact absurd (congrArg Prod.snd h) h0
theorem zm2 (w:World) (cv:VC) (v y:V) (hv:IsVal w w.heap.size v cv) (op:List Cm) (oa:Option Addr) (on oc:Nat) (hop:IsComps w w.heap.size op oa on oc) (hn:on<=200) (hok:OpOk v op) (hd:doAllP v op=(y,0)) (hT:Tabs w):
 uP 15 #[.agg (uV cv), .slice oa on oc] w (DoPost w (y,0)):=by
 delta uV uP;have hlen:=hop.len;have hmax:=hop.max;have hcap:=hop.cap;have HOP:=qh hop;have HT:=qh hT;have HOK:=qh hok;have HD:=qh hd;obtain ⟨w2,hw2⟩:∃W,(w.alloc (.cells (uV cv) 29)).alloc (.cells (uU 0 0 { data:= #[] } none 0 0 none 0 0) 29)=W:=⟨_,rfl⟩;have B2:GB w w2 cv:=by rw [<-hw2];exact GB.start w cv 29 29
 have HCP:Hid (uP 37 #[.agg (uV cv)] w2 (NewVal w2 v)):=qh (Ym v w2 cv (hv.later_ B2.below));obtain ⟨v0,v1,v2,v3,v4⟩:=row5 B2.v.at_;have zs:=B2.v.lt;have zr:=B2.r.lt;have HB2:=qh B2;clear hop hT hok hd hv B2;go_enter Tryz.func15,Tryz.ntmps15
 generalize hQ0:bodyPost _ _ _=Q0;have HQ:=qh hQ0;clear hQ0;go_upto_region 3 with fail
 clear hw2;go_wp2_with fail;refine HCP.out.mono ?_;rintro e w3 ⟨⟨d,rfl,hI3⟩,hb3⟩;have B3:=HB2.out.next hb3 (Nat.succ_le_of_lt zr);clear v0 v1 v2 v3 v4 zs;obtain ⟨v0,v1,v2,v3,v4⟩:=row5 B3.v.at_;have zs:=B3.v.lt;have gv:=B3.v.fr;have HLD:Hid (LD w (setV w3 w.heap.size 0 d) op y 0 v d):=qh ⟨HD.out,HOK.out,B3.store d,by
  have st:=Zh w3 w.heap.size 0 d;have hz:=HB2.out.r.lt;exact Zy hI3 rfl st.size fun k hk hl=>have hk':w2.heap.size<=k:=hk;⟨by omega,st.block k hl (by omega)⟩⟩
 clear B3 hI3 hb3 HCP HD HOK HB2 zr;go_wp2_with fail;clear v0 v1 v2 v3 v4 zs gv
 go_loopw [6,7,8] (fun i _ _ wr=>∃(j:Nat) (x:V) (cx:VC),j<=on/\i= .int .i64 j/\Hid (LD w wr op y j x cx)) (fun i _ _ _=>on - (intOf i).toNat)
 case atStart=>exact ⟨0,v,d,Nat.zero_le _,rfl,HLD⟩
 case round=>
  obtain ⟨j,x,cx,hj,rfl,HL⟩:=hrel;have hlh:=HL.out;clear HLD;obtain ⟨v0,v1,v2,v3,v4⟩:=row5 hlh.box.v.at_;obtain ⟨r0,r1,r2,r3,r4⟩:=row5 hlh.box.r.at_;have gv:=hlh.box.v.fr;have gr:=hlh.box.r.fr;have zs0:=hlh.box.v.lt;have zs1:=hlh.box.r.lt;by_cases hlt:j<on
  .have hjl:j<op.length:=by omega
   obtain ⟨b,o,f,h5,h6⟩:=HOP.out.at_;obtain ⟨rfl,hbB⟩:=h5 (by omega);obtain ⟨hat,hic⟩:=h6 j hjl;have hat2:=hat.keep hlh.box.below hbB;have hbw:=zzj hbB hlh.box.below.size;obtain ⟨cc,hcc⟩:∃c,f j=c:=⟨_,rfl⟩;rw [hcc] at hat2 hic;obtain ⟨cm,hcm⟩:∃y,op[j] =y:=⟨_,rfl⟩;have hdr:op.drop j=cm::op.drop (j+1):=by rw [List.drop_eq_getElem_cons hjl,hcm]
   rw [hcm] at hic;have hok:=hlh.ok;have hrd:=hlh.rd;rw [hdr] at hok hrd;obtain ⟨hxw,hxs,hcw,hcs,hnx⟩:=hok;obtain ⟨hd0,hrd⟩:=zp8 hrd;have hnx:=hnx hd0;obtain ⟨D,hD⟩:∃D,doP x cm=D:=⟨_,rfl⟩;rw [hD] at hd0 hrd hnx;have HC:Hid (∀W,Below wr.heap.size wr.drew W->uP 33 #[.agg (uV cx), .agg (uC cc)] W (DoPost W (D.1,0))):=qh fun W hW=>by
    have hbW:uB wr W:=(Zf wr).trans hW;have hwW:=hlh.box.below.trans (hbW.mono hlh.box.below.size);have hvW:IsVal W W.heap.size x cx:=(hlh.val.sub (Zl _ _ _)).later_ hbW
    cases hic with
    | mk _ p xv hcb hp hxv=>have:=zdb W cx.k cx.n cx.s cx.la cx.ll cx.lc cx.oa cx.ol cx.oc x hvW hxw p xv cc hcb (hp.later_ hwW) (hxv.later_ hwW) hcw (fun y hy=>by have:=Z0 _ hy;have:=y.str_weight.1;dsimp only at hcs;omega) (HT.out.below hwW);rw [hD] at this;rw [<-hd0];exact this
   obtain ⟨e0,e1,e2,e3,e4,e5,e6,e7,e8,e9,e10,e11⟩:=row12 (zlb hat2);rw [Nat.add_zero] at e0;have hj0:¬((j:Int)<0):=by omega
   have hjn:(j:Int)<(on:Int):=by omega
   have HFB:Hid (∀W,Below wr.heap.size wr.drew W->W.cell? ⟨w.heap.size,0,none⟩=some (.int .u8 cx.k)/\W.cell? ⟨w.heap.size,1,none⟩=some (.int .i64 cx.n)/\W.cell? ⟨w.heap.size,2,none⟩=some (.string cx.s)/\W.cell? ⟨w.heap.size,3,none⟩=some (.slice cx.la cx.ll cx.lc)/\W.cell? ⟨w.heap.size,4,none⟩=some (.slice cx.oa cx.ol cx.oc)/\W.cell? ⟨b,o+j*12,none⟩=some (.int .u8 cc.k)/\W.cell? ⟨b,o+j*12+1,none⟩=some (.slice cc.pa cc.pl cc.pc)/\W.cell? ⟨b,o+j*12+2,none⟩=some (.string cc.key)/\W.cell? ⟨b,o+j*12+3,none⟩=some (.int .i64 cc.i)/\W.cell? ⟨b,o+j*12+4,none⟩=some (.int .i64 cc.j)/\W.cell? ⟨b,o+j*12+5,none⟩=some (.int .i64 cc.n)/\W.cell? ⟨b,o+j*12+6,none⟩=some (.int .u8 cc.v.k)/\W.cell? ⟨b,o+j*12+7,none⟩=some (.int .i64 cc.v.n)/\W.cell? ⟨b,o+j*12+8,none⟩=some (.string cc.v.s)/\W.cell? ⟨b,o+j*12+9,none⟩=some (.slice cc.v.la cc.v.ll cc.v.lc)/\W.cell? ⟨b,o+j*12+10,none⟩=some (.slice cc.v.oa cc.v.ol cc.v.oc)/\W.cell? ⟨b,o+j*12+11,none⟩=some (.string cc.s)):=qh fun W hW=>by have hk:∀b o u,b<wr.heap.size->wr.cell? ⟨b,o,none⟩=some u->W.cell? ⟨b,o,none⟩=some u:=fun b o u hb h=>Zb hW (Zb (Zf wr) h hb) hb;exact ⟨hk _ _ _ zs0 v0,hk _ _ _ zs0 v1,hk _ _ _ zs0 v2,hk _ _ _ zs0 v3,hk _ _ _ zs0 v4,hk _ _ _ hbw e0,hk _ _ _ hbw e1,hk _ _ _ hbw e2,hk _ _ _ hbw e3,hk _ _ _ hbw e4,hk _ _ _ hbw e5,hk _ _ _ hbw e6,hk _ _ _ hbw e7,hk _ _ _ hbw e8,hk _ _ _ hbw e9,hk _ _ _ hbw e10,hk _ _ _ hbw e11⟩
   have HRD:=qh hrd;have HNX:=qh hnx;clear h5 h6 hat hic hat2 hcc hcm hdr hxw hxs hcw hcs hnx hlh hd0 hrd hD;go_wp2_with fail;refine wp_region_noPanic ?_;go_region_held_law (fun W=>W.cell? ⟨w.heap.size,0,none⟩=some (.int .u8 cx.k)/\W.cell? ⟨w.heap.size,1,none⟩=some (.int .i64 cx.n)/\W.cell? ⟨w.heap.size,2,none⟩=some (.string cx.s)/\W.cell? ⟨w.heap.size,3,none⟩=some (.slice cx.la cx.ll cx.lc)/\W.cell? ⟨w.heap.size,4,none⟩=some (.slice cx.oa cx.ol cx.oc)/\W.cell? ⟨b,o+j*12,none⟩=some (.int .u8 cc.k)/\W.cell? ⟨b,o+j*12+1,none⟩=some (.slice cc.pa cc.pl cc.pc)/\W.cell? ⟨b,o+j*12+2,none⟩=some (.string cc.key)/\W.cell? ⟨b,o+j*12+3,none⟩=some (.int .i64 cc.i)/\W.cell? ⟨b,o+j*12+4,none⟩=some (.int .i64 cc.j)/\W.cell? ⟨b,o+j*12+5,none⟩=some (.int .i64 cc.n)/\W.cell? ⟨b,o+j*12+6,none⟩=some (.int .u8 cc.v.k)/\W.cell? ⟨b,o+j*12+7,none⟩=some (.int .i64 cc.v.n)/\W.cell? ⟨b,o+j*12+8,none⟩=some (.string cc.v.s)/\W.cell? ⟨b,o+j*12+9,none⟩=some (.slice cc.v.la cc.v.ll cc.v.lc)/\W.cell? ⟨b,o+j*12+10,none⟩=some (.slice cc.v.oa cc.v.ol cc.v.oc)/\W.cell? ⟨b,o+j*12+11,none⟩=some (.string cc.s))
    ((refine HFB.out _ ?_;(first|(with_reducible exact bl4)|(with_reducible exact zzc _ _)|(with_reducible exact Zo _ _)|(with_reducible exact Below.set5 bl4 _ _ _ _ _)|(with_reducible exact Below.set5' (Below.alloc bl4 bz4 _) bz4 _ _ _ _ _)|(with_reducible exact Below.alloc bl4 bz4 _))))
    (first
     |(go_at_call 33;(with_reducible refine (HC.out _ (zzc _ _)).mono ?_);rintro e w4 ⟨⟨d,rfl,hI4⟩,hb4⟩;have HI4:Hid (IsVal (only (fun b=>wr.heap.size<=b) w4) w4.heap.size D.1 d):=qh hI4;clear hI4;have bl4:Below wr.heap.size wr.drew w4:=hb4;have bz4:wr.heap.size<=w4.heap.size:=hb4.size)
     |(go_at_call 33;(with_reducible refine (HC.out _ (Zo _ _)).mono ?_);rintro e w4 ⟨⟨d,rfl,hI4⟩,hb4⟩;have HI4:=qh (hI4.sub (Zc (S':=fun b=>wr.heap.size+1<=b) fun k hk _=>⟨(by have:=hk;simpa using this),rfl⟩));clear hI4;have bl4:Below wr.heap.size wr.drew w4:=(Zo _ _).trans (hb4.mono (by simp));have bz4:wr.heap.size<=w4.heap.size:=bl4.size;have XB:=Xk hb4;obtain ⟨xc0,xc1,xc2,xc3,xc4⟩:=row5 XB.at_;have xg0:=XB.fr 0;have xg1:=XB.fr 1;have xg2:=XB.fr 2;have xg3:=XB.fr 3;have xg4:=XB.fr 4;have xl:=XB.lt))
   all_goals
    (first
     |(with_reducible refine Zq (P:=fun W=>BC W w4.heap.size (vcells d)/\Below wr.heap.size wr.drew W/\wr.heap.size<=w4.heap.size/\IsVal (only (fun b=>wr.heap.size<=b) W) W.heap.size D.1 d) (zbo bl4 bz4 d _ HI4.out) ?_)
     |(with_reducible refine Zq (P:=fun W=>BC W wr.heap.size (vcells d)/\Below wr.heap.size wr.drew W/\wr.heap.size<=wr.heap.size/\IsVal (only (fun b=>wr.heap.size<=b) W) W.heap.size D.1 d) (zg6 bl4 d XB HI4.out) ?_))
    rintro W ⟨XF,hbW,hxb,hI⟩;have B2:=HL.out.box.next ((Zf wr).trans hbW) (Nat.succ_le_of_lt zs1);clear v0 v1 v2 v3 v4 r0 r1 r2 r3 r4 gv gr e0 e1 e2 e3 e4 e5 e6 e7 e8 e9 e10 e11 hb4 bl4;obtain ⟨v0,v1,v2,v3,v4⟩:=row5 B2.v.at_;have gv:=B2.v.fr;obtain ⟨y0,y1,y2,y3,y4⟩:=row5 XF.at_;have zt0:=B2.v.lt;have zt2:=XF.lt;have HLD:Hid (LD w (setV W w.heap.size 0 d) op y (j+1) D.1 d):=qh ⟨HRD.out,HNX.out,B2.store d,by
     have st:=Zh W w.heap.size 0 d;exact Zy hI rfl st.size fun k hk hl=>have hk':wr.heap.size<=k:=hk;⟨by omega,st.block k hl (by omega)⟩⟩
    clear B2 XF hbW hI;go_wp2_with fail;go_roundw
    case rel=>exact ⟨j+1,D.1,d,by omega,by go_num,HLD⟩
    case measure=>simp [intOf];omega
  .have hjn:j=on:=by omega
   subst hjn;obtain rfl:x=y:=by have:=hlh.rd;rw [List.drop_eq_nil_of_le (by omega),doAllP] at this;exact congrArg Prod.fst this
   have ST:=hlh.box.result cx;have hI:IsVal (only (fun b=>w.heap.size<=b) (setV wr (w.heap.size+1) 0 cx)) (setV wr (w.heap.size+1) 0 cx).heap.size x cx:=by have st:=Zh wr (w.heap.size+1) 0 cx;exact Zy hlh.val rfl st.size fun k hk hl=>have hk':w.heap.size+2<=k:=hk;⟨by omega,st.block k hl (by omega)⟩
   have HI:=qh hI;have HST:=qh ST;clear hlh ST hI;go_wp2_with fail;rw [<-HQ.out];exact zgq HST.out.1 HI.out HST.out.2 rfl rfl rfl
def SomeInt (w:World) (e:Ending) (w':World):Prop:=(∃z:Int,e= .returned (.int .i64 z))/\Below w.heap.size w w'
theorem IsAct.toks {w:World} {B:Nat} {x:Ac} {c:AC} (h:IsAct w B x c):IsToks w B x.v c.va c.vl c.vc:=by
 cases h with
 |mk c p v hb hp hv=>exact hv
theorem znm (w:World) (l:List Ac) (a:Option Addr) (n c:Nat) (hl:IsActs w w.heap.size l a n c):
 uP 29 #[.slice a n c] w (SomeInt w):=by
 delta uP;have hmax:=hl.max;have hcap:=hl.cap;have HL:=qh hl;clear hl;obtain ⟨R,hR⟩:∃R,SomeInt w=R:=⟨_,rfl⟩;rw [hR];have HR:=qh hR;clear hR;go_enter Tryz.func29,Tryz.ntmps29
 go_wp2_with fail
 go_loopg [3,4,5] n (fun gh z i _ wr=>∃(x:Int) (j:Nat),j<=n/\gh=n - j/\z= .int .i64 x/\i= .int .i64 j/\uB w wr)
 case atStart=>exact ⟨0,0,Nat.zero_le _,rfl,rfl,rfl,zzc _ _⟩
 case round=>
  obtain ⟨x,j,hj,rfl,rfl,rfl,hbl⟩:=hrel;obtain ⟨w1,hw1⟩:∃w1,w1=wr:=⟨_,rfl⟩;subst hw1;have HBL:=qh hbl;clear hbl;by_cases hlt:j<n
  .obtain ⟨b,q,f,hpl,rfl,hbB,hat,hia⟩:=HL.out.get hlt;have hat1:=hat.keep HBL.out hbB;have s0:=hat1.c0;have s5:=hat1.c5;have s6:=hat1.c6;have hv:=hia.toks;have HV:=qh hv;have hvm:=hv.max;have hvc:=hv.cap;have HAT:=qh hat;have hbw:b<w1.heap.size:=zzi w1 _ s0;clear hat hat1 hia hv;go_wp2_with fail
   go_quiet (fail)
   go_wp2_with fail
   go_loopg [3,5] f.vl (fun gh z k wr=>∃(x:Int) (t:Nat),t<=f.vl/\gh=f.vl - t/\z= .int .i64 x/\k= .int .i64 t/\uB w wr)
   case atStart=>exact ⟨_,0,Nat.zero_le _,rfl,rfl,rfl,HBL.out.trans ((Xm _ _).mono HBL.out.size)⟩
   case round=>
    obtain ⟨y,t,ht,rfl,rfl,rfl,hbl⟩:=hrel;have hat1:=HAT.out.keep hbl hbB;clear s0 s5 s6 hbw;have s6:=hat1.c6;have hbw:b<wr.heap.size:=zzi wr _ s6;have HBL2:=qh hbl;clear hat1 hbl;by_cases htl:t<f.vl
    .obtain ⟨b2,q2,hp2,hva,hb2,htk,_⟩:=HV.out.get htl;have htk1:=htk.keep HBL2.out hb2;have t2:=htk1.c2;rw [hva] at s6;have hb2w:b2<wr.heap.size:=zzi wr _ t2;clear htk htk1 hva;go_wp2_with fail
     go_roundg (f.vl - (t+1))
     case measure=>omega
     case rel=>exact ⟨_,t+1,by omega,rfl,rfl,by go_num,HBL2.out⟩
    .go_wp2_with fail
     go_roundg (n - (j+1))
     case measure=>omega
     case rel=>exact ⟨_,j+1,by omega,rfl,rfl,by go_num,HBL2.out⟩
  .go_wp2_with fail;rw [<-HR.out]
   exact ⟨⟨_,rfl⟩,HBL.out⟩
def SomeBool (w:World) (e:Ending) (w':World):Prop:=(∃h:Bool,e= .returned (.bool h))/\Below w.heap.size w w'
theorem zpf (w:World) (l:List Tk) (a:Option Addr) (n c:Nat) (hl:IsToks w w.heap.size l a n c) (x:List Ac) (ya:Option Addr) (yn yc:Nat) (ha:IsActs w w.heap.size x ya yn yc):
 uP 10 #[.slice a n c, .slice ya yn yc] w (SomeBool w):=by
 delta uP;have hmax:=hl.max;have hcap:=hl.cap;have HL:=qh hl;have HH:Hid (∀W,uB w W->uP 29 #[.slice ya yn yc] W (SomeInt W)):=qh fun W hW=>znm W x ya yn yc (ha.later_ hW);clear hl ha;obtain ⟨R,hR⟩:∃R,SomeBool w=R:=⟨_,rfl⟩;rw [hR];have HR:=qh hR;clear hR;go_enter Tryz.func10,Tryz.ntmps10
 go_wp2_with fail
 go_loopg [5,6] n (fun gh z i wr=>∃(x:Int) (j:Nat),j<=n/\gh=n - j/\z= .int .i64 x/\i= .int .i64 j/\uB w wr)
 case atStart=>exact ⟨0,0,Nat.zero_le _,rfl,rfl,rfl,zzc _ _⟩
 case round=>
  obtain ⟨x,j,hj,rfl,rfl,rfl,hbl⟩:=hrel;have HBL:=qh hbl;by_cases hlt:j<n
  .obtain ⟨b,q,hpl,rfl,hbB,htk,_⟩:=HL.out.get hlt;have htk1:=htk.keep hbl hbB;have t2:=htk1.c2;have hbw:b<wr.heap.size:=zzi wr _ t2;clear htk htk1 hbl;go_wp2_with fail
   go_roundg (n - (j+1))
   case measure=>omega
   case rel=>exact ⟨_,j+1,by omega,rfl,rfl,by go_num,HBL.out⟩
  .clear hbl;by_cases h1:(2000:Int)<x
   .go_wp2_with fail;rw [<-HR.out]
    exact ⟨⟨_,rfl⟩,HBL.out⟩
   .by_cases h2:(12:Int)<(yn:Int)
    .go_wp2_with fail;rw [<-HR.out]
     exact ⟨⟨_,rfl⟩,HBL.out⟩
    .go_wp2_with fail;refine (HH.out _ HBL.out).mono ?_
     rintro e w2 ⟨⟨z,rfl⟩,hb2⟩;have HB2:=qh (HBL.out.trans (hb2.mono HBL.out.size));clear hb2;go_wp2_with fail;rw [<-HR.out];exact ⟨⟨_,rfl⟩,HB2.out⟩
def kOb:V:= .mk 5 0 .empty [] []
def kd1:Cm:=⟨2, [],kA,0,0,0,kvI 2, .empty⟩
def kd2:Cm:=⟨2, [],kA,0,0,0,kvI 1, .empty⟩
def kd3:Cm:=⟨3, [],kA,0,0,0,V.none, .empty⟩
theorem zac (n:Int):cmSound ⟨2, [],kA,0,0,0,kvI n, .empty⟩=true:=za2 rfl rfl rfl Kt rfl (Int.le_refl 0) (Int.le_refl 0) (fun e=>absurd (show (2:Int)=8 from e) (by decide)) (fun e=>absurd (show (2:Int)=9 from e) (by decide)) (ze4 n) (by simp [kvI,V.deep,deepL,deepO]) (by simp [kvI,V.weight,weightL,weightO])
theorem zh3:cmSound kd3=true:=za2 rfl rfl rfl Kt rfl (by decide) (by decide) (fun e=>absurd e (by decide)) (fun e=>absurd e (by decide)) zas (by have:=zhc;simp [kd3];omega) (by have:=Kd;simp [kd3];omega)
theorem zi7:kOb.weight=1:=by simp [kOb,V.weight,weightL,weightO]
theorem kt1:turnedP kvV kd1=(kd2,0):=by
 have hc:checkP kvV kd1=0:=Kp (zac 2) (by rfl) (by simp [kindsP,kd1,kvV,V.kd]);have ht:turnP kvV kd1=kd2:=by show (if fieldIs [(kA,kvI 1)] kA=true then _ else _)=_;rw [if_pos zbd.2];show (⟨2, [],kA,0,0,0,([(kA,kvI 1)].getD (fieldK [(kA,kvI 1)] kA) (.empty,V.none)).2, .empty⟩:Cm)=_;rw [zbd.1];rfl
 unfold turnedP;rw [if_pos hc,show getP kvV kd1.path=some kvV from rfl,Option.getD_some,ht,if_pos (show cmSound kd2=true from zac 1)]
theorem kt2:turnedP kOb kd1=(kd3,0):=by
 have hc:checkP kOb kd1=0:=Kp (zac 2) (by rfl) (by simp [kindsP,kd1,kOb,V.kd]);have ht:turnP kOb kd1=kd3:=by have h:fieldIs kOb.os kA=false:=rfl;show (if fieldIs kOb.os kA=true then (⟨2, [],kA,0,0,0,(kOb.os.getD (fieldK kOb.os kA) (.empty,V.none)).2, .empty⟩:Cm) else ⟨3, [],kA,0,0,0,V.none, .empty⟩)=_;rw [if_neg (by rw [h];decide)];rfl
 unfold turnedP;rw [if_pos hc,show getP kOb kd1.path=some kOb from rfl,Option.getD_some,ht,if_pos zh3]
theorem ka1:allP kvV [kd1] =([kd2],0):=by unfold allP;rw [if_neg (by simp),turnsP,kt1,if_pos rfl,turnsP,if_pos rfl];rfl
theorem kok1:OpOk kvV [kd1] :=⟨by rw [zcd];omega,zmb,by simp [kd1,kvI,V.weight,weightL,weightO],by decide,fun _=>trivial⟩
theorem zor (w:World) (b base:Nat) (a:Option Addr) (m c:Nat) (cs:List CC) (hn:cs.length=m) (hb:BC w b [.slice a m c]) (h:w.ownsRow base 54 12 (.slice a m c) m (cs.flatMap ccells)):
 CallsD Tryz.prog 34 #[.pointer (some ⟨b,0,none⟩)] .returning w fun e u' w'=>u'= .returning/\e= .returned (.tuple #[])/\w'.ownsRow base 54 12 (.slice a m c) m (cs.reverse.flatMap ccells)/\w.grownBy w' (Value.slice a m c).ownBlock:=by
 have c0:=hb.at_ 0 _ rfl;have HR:=qh (zoq w base (.slice a m c) m cs hn h);clear h hb
 go_enter_d Tryz.func34,Tryz.ntmps34
 go_wp2_with fail;refine HR.out.mono ?_
 rintro e w' ⟨rfl,ho,hg⟩;go_wp2_with fail;exact ⟨rfl,_,by simp [results,Tryz.results34,go_sem],rfl,ho,hg⟩
theorem RowC.rev {w w':World} {base:Nat} {u:Value} {xs:List Cm} {cs:List CC} (h:RowC w base u xs cs) (hl:cs.length=xs.length) (ho:w'.ownsRow base 54 12 u xs.length (cs.reverse.flatMap ccells)) (hg:w.grownBy w' u.ownBlock):RowC w' base u xs.reverse cs.reverse:=by
 refine ⟨by rw [List.length_reverse];exact ho,fun i hi=> ?_⟩;rw [List.length_reverse] at hi;intro hi2;have h0:=h.els (xs.length - 1 - i) (by omega) (by omega);rw [List.getElem_reverse];have e:cs.reverse.getD i czero=cs.getD (xs.length - 1 - i) czero:=by rw [zzb,zzb,List.getElem?_reverse (by omega),hl]
 rw [e];exact (h0.sub (Zc fun k hk hlt=>⟨hk,hg.block k hlt (fun e=>hk.2 e)⟩)).more hg.size
end Go.Proofs.YtbgheehjfnoiiaaGreatDoor
