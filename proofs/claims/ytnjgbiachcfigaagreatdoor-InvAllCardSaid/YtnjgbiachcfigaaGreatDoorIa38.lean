/-
  Contracts of the functions that the law reaches: What undoes an operation leaves the.
-/
import Derived.Test.YtnjgbiachcfigaaGreatDoorIa36
namespace Go.Proofs.YtnjgbiachcfigaaGreatDoor
open Go.RowKit
set_option maxHeartbeats 16000000
def Cm.none:Cm:=⟨0, [], .empty,0,0,0,V.none, .empty⟩
noncomputable def turnedP (v:V) (c:Cm):Cm×Int:=
 if checkP v c=0 then (if cmSound (turnP ((getP v c.path).getD V.none) c)=true then (turnP ((getP v c.path).getD V.none) c,0) else (Cm.none,60)) else (Cm.none,checkP v c)
noncomputable def turnsP:V->List Cm->List Cm×Int
 |_, [] =>([],0)
 |v,c::r=>if (turnedP v c).2=0 then (if (turnsP (doP v c).1 r).2=0 then ((turnedP v c).1::(turnsP (doP v c).1 r).1,0) else ([],(turnsP (doP v c).1 r).2)) else ([],(turnedP v c).2)
noncomputable def allP (v:V) (op:List Cm):List Cm×Int:=if 200<op.length then ([],3) else ((turnsP v op).1.reverse,(turnsP v op).2)
noncomputable def doAllP:V->List Cm->V×Int
 |v, [] =>(v,0)
 |v,c::r=>if (doP v c).2=0 then doAllP (doP v c).1 r else (V.none,(doP v c).2)
theorem zcd {v:V} {c d:Cm} (h:turnedP v c=(d,0)):checkP v c=0/\∃x,getP v c.path=some x/\d=turnP x c/\cmSound d=true:=by
 unfold turnedP at h
 by_cases hc:checkP v c=0
 .rw [if_pos hc] at h
  obtain ⟨_,x,hg,_⟩:=Zw hc
  rw [hg,Option.getD_some] at h
  by_cases hs:cmSound (turnP x c)=true
  .rw [if_pos hs] at h
   injection h with h1 h2
   exact ⟨hc,x,hg,h1.symm,h1 ▸ hs⟩
  .rw [if_neg hs] at h
   injection h with h1 h2
   cases h2
 .rw [if_neg hc] at h
  injection h with h1 h2
  exact absurd h2 hc
theorem zif:∀(op:List Cm) (v:V),(doAllP v op).2=0->(turnsP v op).2=0∨turnsP v op=([],60):=by
 intro op
 induction op with
 |nil=>intro v _;exact .inl rfl
 | cons c r ih=>
   intro v h
   rw [doAllP] at h
   by_cases h0:(doP v c).2=0
   .rw [if_pos h0] at h
    have h1:=h0
    rw [Kw] at h1
    rw [turnsP]
    by_cases ht:(turnedP v c).2=0
    .rw [if_pos ht]
     rcases ih _ h with i|i
     .rw [if_pos i];exact .inl rfl
     .rw [i,if_neg (by decide)];exact .inr rfl
    .rw [if_neg ht]
     refine .inr ?_
     have:(turnedP v c).2=60:=by
      unfold turnedP at ht ⊢
      rw [if_pos h1] at ht ⊢
      split at ht
      .exact absurd rfl ht
      .rename_i hs;rw [if_neg hs]
     rw [this]
   .rw [if_neg h0] at h
    exact absurd h h0
theorem zmp (l:List Ac):∀v,(doAllP v (aimP v l)).2=0:=by
 induction l with
 |nil=>intro v;rfl
 | cons a r ih=>
   intro v
   rw [aimP]
   cases h:oneC v a with
   |none=>exact ih v
   | some c=>
     dsimp only
     split
     .rename_i h0
      rw [doAllP,if_pos h0];exact ih _
     .exact ih v
theorem X7 {n:Int} (h: -9223372036854775808<=n/\n<=9223372036854775807):wrap64 n=n:=by unfold wrap64;omega
set_option maxRecDepth 100000 in
theorem zh1 (w:World) (s:ByteArray) (hs:s.size<=1000000000000) (hT:Tabs w) (I J:Nat) (h1:1<=J) (hIJ:I+J<=textN s):
 uP 105 #[.string s, .int .i64 (I:Int), .int .i64 (J:Int)] w fun e w'=>e= .returned (.string (partT s I J))/\uB w w':=by
 delta uB uP
 obtain ⟨q1,q2,q3,q4⟩:=zhr s I J (by omega) (by omega) (by omega)
 rw [<-Int.natCast_add,Int.toNat_natCast,Int.toNat_natCast] at q1 q4
 rw [<-Int.natCast_add,Int.toNat_natCast] at q2
 rw [Int.toNat_natCast] at q3
 have hN:=(Yh s).2
 obtain ⟨N,hNN⟩:∃N,textN s=N:=⟨_,rfl⟩
 have hNs:N<=s.size:=by rw [<-hNN,textN];omega
 obtain ⟨a,ha⟩:∃a,(cuts s).getD I 0=a:=⟨_,rfl⟩
 obtain ⟨b,hb⟩:∃b,(cuts s).getD (I+J) 0=b:=⟨_,rfl⟩
 have HLN:Hid (∀W,uB w W->uP 104 #[.string s] W fun e w'=>e= .returned (.int .i64 (N:Int))/\uB W w'):=qh fun W hW=>by rw [<-hNN];exact K5 W s hs (hT.below hW)
 have hcd:∀n:Int,1<=n->I+n<=N->∀W,uB w W->uP 49 #[.string s, .agg #[.int .u8 9, .slice none 0 0, .string { data:= #[] }, .int .i64 (I:Int), .int .i64 0, .int .i64 n, .int .u8 0, .int .i64 0, .string { data:= #[] }, .slice none 0 0, .slice none 0 0, .string { data:= #[] }]] W fun e w'=>e= .returned (.tuple #[.string (textDo s 9 I n .empty), .int .i64 0])/\uB W w':=fun n h0 hn W hW=>by
  refine zce W s ⟨9,none,0,0, .empty,I,0,n,vzero, .empty⟩ ⟨by dsimp only;omega,by dsimp only;omega,by dsimp only;omega,by dsimp only;omega,by dsimp only;omega,by dsimp only;omega,by dsimp only;omega,by dsimp only;omega,Nat.zero_le _,Nat.zero_le _⟩ hs (hT.below hW) ?_
  show tCheck s 9 I n=0
  rw [tCheck,hNN,if_neg (by decide),if_neg (by omega),if_neg (by omega)]
 have HD1:=qh (hcd (N - I) (by omega) (by omega));have HD2:=qh (hcd J (by omega) (by omega))
 rw [hNN] at q3
 rw [ha] at q1 q3 q4
 rw [hb] at q1 q2 q4
 obtain ⟨D1,hD1⟩:∃D,textDo s 9 I (N - I) .empty=D:=⟨_,rfl⟩
 obtain ⟨D2,hD2⟩:∃D,textDo s 9 I J .empty=D:=⟨_,rfl⟩
 rw [hD1] at HD1 q3
 rw [hD2] at HD2 q4
 have hR:partT s I J=s.extract a b:=by rw [partT, <-Int.natCast_add,Int.toNat_natCast,Int.toNat_natCast,ha,hb]
 rw [hR]
 have hni:(I:Int)<N:=by omega
 have e3:(a:Int)+s.size - D2.size=(b:Int):=by omega
 have b1: -9223372036854775808<=(N:Int) - I/\(N:Int) - I<=9223372036854775807:=by omega
 have b2: -9223372036854775808<=(a:Int)+s.size/\(a:Int)+s.size<=9223372036854775807:=by omega
 have b3: -9223372036854775808<=(b:Int)/\(b:Int)<=9223372036854775807:=by omega
 have HW1:=qh (X7 b1);have HW2:=qh (X7 b2)
 have HW3:=qh (show wrap64 ((a:Int)+s.size - D2.size)=(b:Int) by rw [e3];exact X7 b3)
 have HQ1:=qh q1;have HQ2:=qh q2;have HQ3:=qh q3;have HQ4:=qh q4
 clear b1 b2 b3 e3 q1 q2 q3 q4 h1 hIJ hs hNs
 clear hD1 hD2 hR ha hb hNN hN hcd hT
 go_enter Tryz.func105,Tryz.ntmps105
 go_wp2_with fail
 refine (HLN.out _ (Below.refl _ _)).mono ?_
 rintro e W1 ⟨rfl,hb1⟩
 have HB1:=qh hb1
 clear hb1
 go_upto_region 4 with fail
 have w1:=HW1.out
 go_wp2_with fail
 clear w1
 refine (HD1.out _ HB1.out).mono ?_
 rintro e W2 ⟨rfl,hb2⟩
 have HB2:=qh (HB1.out.trans (hb2.mono HB1.out.size))
 clear hb2
 go_wp2_with fail
 refine (HD2.out _ HB2.out).mono ?_
 rintro e W3 ⟨rfl,hb3⟩
 have HB3:=qh (HB2.out.trans (hb3.mono HB2.out.size))
 clear hb3
 go_upto_region 6 with fail
 have w2:=HW2.out;have w3:=HW3.out;have q1:=HQ1.out;have q2:=HQ2.out;have q3:=HQ3.out
 go_wp2_with fail
 go_returns
 exact ⟨rfl,HB3.out⟩
theorem zi6 {P:Program} (w:World) {ops:Array Oper} {rest:List Oper} {o:Oper} {a:Act} {Q:Exit->Act->World->Prop} (hgd:o.guard=none) (s x:Operand) (t:TypeId)
 (ho:o.op= .call { callee:= .builtin .append,args:= #[s,x],argTypes:= #[t,t] })
 (e:TypeId) (i:TypeInfo) (ht:P.underlying t=some (.slice e)) (hi:P.info? e=some i)
 (hs:a.eval s= .slice none 0 0) (c:Nat)
 (hx:a.eval x= .slice none 0 c)
 (h:wpList P ops Q rest (a.put o.dst (.slice none 0 0)) w):wpList P ops Q (o::rest) a w:=
 wpList_plain hgd fun _ hK=>by
  have hr:(Builtin.append_ #[t,t] o.type #[.slice none 0 0, .slice none 0 c]).run P w= .ok (.slice none 0 0) w:=by
   simp [Builtin.append_,run_underlying ht,sizeOf,typeInfo,hi,Builtin.lenOf,Builtin.firstCells]
  unfold Oper.wp execOp
  simp only [ho,resolve,invoke,builtin,Sem.run_bind,Sem.run_pure,Result.andThen_ok,List.map_toArray,List.map_cons,List.map_nil,hs,hx,hr]
  exact hK _ _ h
theorem IsSteps.cells {w:World} {B:Nat} {p:List St} {a:Option Addr} {n c:Nat} (h:IsSteps w B p a n c) (hB:B<=w.heap.size):
 (a=none->n=0/\p= [])/\∀ad,a=some ad->∀W,uB w W->∀j u,(p.flatMap scells)[j]? =some u->W.cell? (ad.add j)=some u:=by
 delta uB
 obtain ⟨h1,h2,h3,h4,b,o,h5,h6⟩:=h
 have hfl:(p.flatMap scells).length=n*3:=by rw [Zk scells 3 (fun _=>rfl),h1]
 refine ⟨fun e=> ?_,fun ad e W hW j u hj=> ?_⟩
 .have h0:n=0:=by
   by_cases h0:0<n
   .rw [e] at h5;cases (h5 h0).1
   .omega
  exact ⟨h0,List.length_eq_zero_iff.1 (by omega)⟩
 .have hj2:=(List.getElem?_eq_some_iff.1 hj).1
  have hn:0<n:=by omega
  obtain ⟨ha,hb⟩:=h5 hn
  rw [e] at ha;injection ha with ha;subst ha
  have hi:j / 3<p.length:=by omega
  have hd:j=j / 3*3+j % 3:=by omega
  have hm:j % 3<3:=by omega
  rw [hd,Yx scells 3 (fun _=>rfl) _ (j / 3) (j % 3) hi hm] at hj
  obtain ⟨g1,g2⟩:=h6 (j / 3) hi
  rw [Addr.add_lit,hd, <-Nat.add_assoc]
  refine Zb hW ?_ (Nat.lt_of_lt_of_le hb hB)
  obtain ⟨m,hmm⟩:∃m,j % 3=m:=⟨_,rfl⟩
  rw [hmm] at hj hm ⊢
  match m,hm with
  |0,_=>rw [<-hj];exact g1.c0
  |1,_=>rw [<-hj];exact g1.c1
  |2,_=>rw [<-hj];exact g1.c2
theorem zga (p:List St):∀u ∈ p.flatMap scells,u.oneCell'=true:=fun u hu=>by
 obtain ⟨v,_,hv⟩:=List.mem_flatMap.1 hu
 simp only [scells,List.mem_cons,List.mem_nil_iff,or_false] at hv
 rcases hv with rfl|rfl|rfl<;>rfl
theorem CY.made2 {w W1 W:World} {p:List St} {xv:V} {cc:CC} {f:VC} (h1:BC W w.heap.size (ccells cc)) (h2:BC W (w.heap.size+1) (ccells czero)) (hz:w.heap.size+2<=W1.heap.size) (hst:IsSteps (only (fun k=>w.heap.size+2<=k) W) W.heap.size p cc.pa cc.pl cc.pc) (hvl:IsVal (only (fun k=>W1.heap.size<=k) W) W.heap.size xv f) (hb:uB w W):
 CY w (((((W.setCell ⟨w.heap.size,6,none⟩ (.int .u8 f.k)).setCell ⟨w.heap.size,7,none⟩ (.int .i64 f.n)).setCell ⟨w.heap.size,8,none⟩ (.string f.s)).setCell ⟨w.heap.size,9,none⟩ (.slice f.la f.ll f.lc)).setCell ⟨w.heap.size,10,none⟩ (.slice f.oa f.ol f.oc)) p xv { cc with v:=f } :=by
 have st:RStep W (((((W.setCell ⟨w.heap.size,6,none⟩ (.int .u8 f.k)).setCell ⟨w.heap.size,7,none⟩ (.int .i64 f.n)).setCell ⟨w.heap.size,8,none⟩ (.string f.s)).setCell ⟨w.heap.size,9,none⟩ (.slice f.la f.ll f.lc)).setCell ⟨w.heap.size,10,none⟩ (.slice f.oa f.ol f.oc)) w.heap.size:=(((RStep.self.trans RStep.self).trans RStep.self).trans RStep.self).trans RStep.self
 have hsh:∀B,w.heap.size+2<=B->Shows (only (fun k=>B<=k) W) (only (fun k=>w.heap.size+2<=k) _) W.heap.size:=fun B hB=>Zd fun k hk hl=>⟨by omega,st.block k hl (by omega)⟩
 refine ⟨((((h1.set (i:=6) (x:= .int .u8 f.k) (by simp [ccells])).set (i:=7) (x:= .int .i64 f.n) (by simp [ccells])).set (i:=8) (x:= .string f.s) (by simp [ccells])).set (i:=9) (x:= .slice f.la f.ll f.lc) (by simp [ccells])).set (i:=10) (x:= .slice f.oa f.ol f.oc) (by simp [ccells]),h2.next st (by omega),(hst.sub (hsh _ (Nat.le_refl _))).more st.size,(hvl.sub (hsh _ hz)).more st.size,hb.trans (st.lowC (Nat.le_refl _) (by have:=hb.size;omega))⟩
theorem zbs {tmps:Array Value} {W:World} {b:Nat} {d:CC} (ht:tmps[2]? =some (.pointer (some ⟨b,0,none⟩))) (h:BC W b (ccells d)):
 (results Tryz.f68 tmps).run Tryz.prog W= .ok (.agg #[.int .u8 d.k, .slice d.pa d.pl d.pc, .string d.key, .int .i64 d.i, .int .i64 d.j, .int .i64 d.n, .int .u8 d.v.k, .int .i64 d.v.n, .string d.v.s, .slice d.v.la d.v.ll d.v.lc, .slice d.v.oa d.v.ol d.v.oc, .string d.s]) W:=by
 obtain ⟨r0,r1,r2,r3,r4,r5,r6,r7,r8,r9,r10,r11⟩:=row12 h.at_
 simp [results,Tryz.results68,go_sem,ht,r0,r1,r2,r3,r4,r5,r6,r7,r8,r9,r10,r11]
set_option maxRecDepth 100000 in
theorem zc5 (w:World) (cm:Cm) (cc:CC) (hc:IsComp w w.heap.size cm cc):
 uP 68 #[.agg (uC cc)] w fun e w'=>(∃d:CC,e= .returned (.agg #[.int .u8 d.k, .slice d.pa d.pl d.pc, .string d.key, .int .i64 d.i, .int .i64 d.j, .int .i64 d.n, .int .u8 d.v.k, .int .i64 d.v.n, .string d.v.s, .slice d.v.la d.v.ll d.v.lc, .slice d.v.oa d.v.ol d.v.oc, .string d.s])/\IsComp (only (fun k=>w.heap.size<=k) w') w'.heap.size cm d)/\uB w w':=by
 delta uC uB uP
 cases hc with
 |mk cc p xv hcb hp hxv=>
 obtain ⟨i0,hi0,hz0,hz1,hz2⟩:=info_parts Kf
 obtain ⟨hpn,hps⟩:=hp.cells (Nat.le_refl _)
 have hpl:=hp.len
 have HBN:=qh (show ∀s ∈ p,s.Bnd from fun s hs=>by
  obtain ⟨_,_,_,_,b,o,_,h6⟩:=hp
  obtain ⟨i,hi,rfl⟩:=List.getElem_of_mem hs
  exact (h6 i hi).2)
 have hfew:=hp.few
 have hfl:(p.flatMap scells).length=cc.pl*3:=by rw [Zk scells 3 (fun _=>rfl),hpl]
 have HXV:=qh hxv
 have HPN:=qh hpn;have HPS:=qh hps;have HPL:=qh hpl;have HFL:=qh hfl
 have hbx:∀t1 t2,BC ((w.alloc (.cells (uC cc) t1)).alloc (.cells (ccells czero).toArray t2)) w.heap.size (ccells cc)/\BC ((w.alloc (.cells (uC cc) t1)).alloc (.cells (ccells czero).toArray t2)) (w.heap.size+1) (ccells czero)/\uB w ((w.alloc (.cells (uC cc) t1)).alloc (.cells (ccells czero).toArray t2))/\((w.alloc (.cells (uC cc) t1)).alloc (.cells (ccells czero).toArray t2)).heap.size=w.heap.size+2:=fun t1 t2=>by
  obtain ⟨q1,q2,q3,q4⟩:=Qf w #[.int .u8 cc.k, .slice cc.pa cc.pl cc.pc, .string cc.key, .int .i64 cc.i, .int .i64 cc.j, .int .i64 cc.n, .int .u8 cc.v.k, .int .i64 cc.v.n, .string cc.v.s, .slice cc.v.la cc.v.ll cc.v.lc, .slice cc.v.oa cc.v.ol cc.v.oc, .string cc.s] (ccells czero).toArray t1 t2
  exact ⟨q1,by simpa using q2,q3,by simp⟩
 have HBX:=qh (hbx 39 39)
 have HCB:=qh hcb
 clear hbx hp hxv hcb hpn hps hpl hfl
 go_enter Tryz.func68,Tryz.ntmps68
 generalize hQ0:bodyPost _ _ _=Q0
 have HQ:=qh hQ0
 clear hQ0
 go_upto_region 1 with fail
 obtain ⟨w1,hw1⟩:∃w1,(w.alloc (.cells (uC cc) 39)).alloc (.cells (ccells czero).toArray 39)=w1:=⟨_,rfl⟩
 rw [hw1] at HBX
 rw [show (w.alloc (.cells (uC cc) 39)).alloc (.cells #[.int .u8 0, .slice none 0 0, .string { data:= #[] }, .int .i64 0, .int .i64 0, .int .i64 0, .int .u8 0, .int .i64 0, .string { data:= #[] }, .slice none 0 0, .slice none 0 0, .string { data:= #[] }] 39)=w1 from hw1]
 obtain ⟨hA1,hA2,hba,hsz⟩:=HBX.out
 have HSZ:=qh hsz
 have HWA:=qh hba
 have x1:=hA1.at_ 1 _ rfl;have f1:=hA1.fr 1;have x6:=hA1.at_ 6 _ rfl;have f6:=hA1.fr 6;have x7:=hA1.at_ 7 _ rfl;have f7:=hA1.fr 7;have x8:=hA1.at_ 8 _ rfl;have f8:=hA1.fr 8;have x9:=hA1.at_ 9 _ rfl;have f9:=hA1.fr 9;have x10:=hA1.at_ 10 _ rfl;have f10:=hA1.fr 10;have zx:=hA1.lt
 have HA1:=qh hA1;have HA2:=qh hA2
 clear hA1 hA2 hba hsz hw1 HBX
 cases hpa:cc.pa with
 | none=>
   obtain ⟨g1,g2⟩:=HPN.out hpa
   obtain ⟨a,ha⟩:∃a:Option Addr,a=none:=⟨_,rfl⟩
   obtain ⟨m,hm⟩:∃m:Nat,m=0:=⟨_,rfl⟩
   obtain ⟨c,hc⟩:∃c:Nat,c=0:=⟨_,rfl⟩
   have HST:Hid (IsSteps (only (fun k=>w.heap.size+2<=k) w1) w1.heap.size p a m c):=qh (by
    rw [g2,ha,hm,hc];exact ⟨rfl,Nat.le_refl _,by decide,by decide,0,0,fun h=>absurd h (by decide),fun i h=>absurd h (by simp)⟩)
   rw [hpa,g1] at x1
   clear g1 g2 hpa hfew HPN HPS HPL HFL HBN
   go_upto_region 3 with (at_builtin;refine zi6 _ rfl (.tmp 4) (.tmp 6) 27 (by rfl) 77 i0 Tryz.underlying27 hi0 (by rfl) cc.pc (by rfl) ?_)
   rw [show (Value.slice none 0 0)= .slice a m c by rw [ha,hm,hc]]
   clear ha hm hc
   go_wp2_with fail
   obtain ⟨wB,hwB⟩:∃wB,w1.setCell ⟨w.heap.size,1,none⟩ (.slice a m c)=wB:=⟨_,rfl⟩
   rw [hwB]
   have st1:RStep w1 wB w.heap.size:=by rw [<-hwB];exact RStep.self
   have hB1:BC wB w.heap.size (ccells { cc with pa:=a,pl:=m,pc:=c }):=by rw [<-hwB];exact HA1.out.set (i:=1) (x:= .slice a m c) (by simp [ccells])
   have hB2:BC wB (w.heap.size+1) (ccells czero):=HA2.out.next st1 (by omega)
   have hbB:uB w wB:=HWA.out.trans (st1.lowC (Nat.le_refl _) (by have:=HWA.out.size;omega))
   have hsB:w.heap.size+2<=wB.heap.size:=by have:=HA2.out.lt;have:=st1.size;omega
   have hstB:IsSteps (only (fun k=>w.heap.size+2<=k) wB) wB.heap.size p a m c:=(HST.out.sub (Zd fun k hk hl=>⟨hk,st1.block k hl (by omega)⟩)).more st1.size
   have HB1:=qh hB1;have HB2:=qh hB2;have HBB:=qh hbB;have HSB:=qh hsB;have HSTB:=qh hstB
   have y6:=hB1.at_ 6 _ rfl;have y7:=hB1.at_ 7 _ rfl;have y8:=hB1.at_ 8 _ rfl;have y9:=hB1.at_ 9 _ rfl;have y10:=hB1.at_ 10 _ rfl;have zB:=hB1.lt
   clear st1 hB1 hB2 hbB hsB hstB hwB HA1 HA2 HWA HST
   clear x1 f1 x6 f6 x7 f7 x8 f8 x9 f9 x10 f10 zx
   go_wp2_with fail
   refine (Ye xv wB cc.v (HXV.out.later_ HBB.out)).mono ?_
   rintro e w2 ⟨⟨f,rfl,hvl⟩,hb2⟩
   have h1:=HB1.out.keep hb2 HB1.out.lt
   have h2:=HB2.out.keep hb2 HB2.out.lt
   have HST2:=qh (K0 HSTB.out hb2)
   have HVL2:=qh hvl
   have HB2W:=qh (HBB.out.trans (hb2.mono HBB.out.size))
   have H1:=qh h1;have H2:=qh h2
   have x6:=h1.at_ 6 _ rfl;have f6:=h1.fr 6;have x7:=h1.at_ 7 _ rfl;have f7:=h1.fr 7;have x8:=h1.at_ 8 _ rfl;have f8:=h1.fr 8;have x9:=h1.at_ 9 _ rfl;have f9:=h1.fr 9;have x10:=h1.at_ 10 _ rfl;have f10:=h1.fr 10;have zx:=h1.lt
   clear h1 h2 hb2 hvl HB1 HB2 HSTB y6 y7 y8 y9 y10 zB
   go_upto_region 5 with fail
   have HCY:=qh (CY.made2 (W1:=wB) H1.out H2.out HSB.out HST2.out HVL2.out HB2W.out)
   obtain ⟨W5,hW5⟩:∃W5,((((w2.setCell ⟨w.heap.size,6,none⟩ (.int .u8 f.k)).setCell ⟨w.heap.size,7,none⟩ (.int .i64 f.n)).setCell ⟨w.heap.size,8,none⟩ (.string f.s)).setCell ⟨w.heap.size,9,none⟩ (.slice f.la f.ll f.lc)).setCell ⟨w.heap.size,10,none⟩ (.slice f.oa f.ol f.oc)=W5:=⟨_,rfl⟩
   rw [hW5] at HCY ⊢
   have h5:=HCY.out
   obtain ⟨u0,u1,u2,u3,u4,u5,u6,u7,u8,u9,u10,u11⟩:=row12 h5.one.at_
   have y0:=h5.two.at_ 0 _ rfl;have g0:=h5.two.fr 0;have y1:=h5.two.at_ 1 _ rfl;have g1:=h5.two.fr 1;have y2:=h5.two.at_ 2 _ rfl;have g2:=h5.two.fr 2;have y3:=h5.two.at_ 3 _ rfl;have g3:=h5.two.fr 3;have y4:=h5.two.at_ 4 _ rfl;have g4:=h5.two.fr 4;have y5:=h5.two.at_ 5 _ rfl;have g5:=h5.two.fr 5;have y6:=h5.two.at_ 6 _ rfl;have g6:=h5.two.fr 6;have y7:=h5.two.at_ 7 _ rfl;have g7:=h5.two.fr 7;have y8:=h5.two.at_ 8 _ rfl;have g8:=h5.two.fr 8;have y9:=h5.two.at_ 9 _ rfl;have g9:=h5.two.fr 9;have y10:=h5.two.at_ 10 _ rfl;have g10:=h5.two.fr 10;have y11:=h5.two.at_ 11 _ rfl;have g11:=h5.two.fr 11
   have zu:=h5.one.lt;have zy:=h5.two.lt
   clear h5 hW5 H1 H2 HST2 HVL2 HB2W HSB HBB
   clear x6 f6 x7 f7 x8 f8 x9 f9 x10 f10 zx
   go_wp2_with fail
   rw [<-HQ.out]
   have hq:=HCB.out
   have st:=Yc W5 (w.heap.size+1) { cc with pa:=a,pl:=m,pc:=c,v:=f }
   refine ⟨rfl,_,zbs rfl (Zm (c0:=czero) HCY.out.two { cc with pa:=a,pl:=m,pc:=c,v:=f }),⟨{ cc with pa:=a,pl:=m,pc:=c,v:=f },rfl, ?_⟩,Below.setC HCY.out.below (by omega) { cc with pa:=a,pl:=m,pc:=c,v:=f }⟩
   refine .mk { cc with pa:=a,pl:=m,pc:=c,v:=f } p _ ⟨hq.k0,hq.k1,hq.i0,hq.i1,hq.j0,hq.j1,hq.n0,hq.n1,hq.key1,hq.s1⟩ ?_ ?_
   .exact (HCY.out.st.sub (Zd (S':=fun k=>w.heap.size<=k) fun k hk hl=>⟨by omega,st.block k hl (by omega)⟩)).more st.size
   .exact (HCY.out.vl.sub (Zd (S':=fun k=>w.heap.size<=k) fun k hk hl=>⟨by omega,st.block k hl (by omega)⟩)).more st.size
 | some ad=>
   have HPS2:=qh (HPS.out ad hpa)
   rw [hpa] at x1
   clear hpa HPN HPS
   go_upto_region 3 with (at_builtin;refine Zz _ rfl (.tmp 4) (.tmp 6) 27 (by rfl) w1.heap.size 77 i0 _ 3 32 Tryz.underlying27 hi0 hz0 hz1 hz2 rfl (by omega) (.slice none 0 0) 0 [] (by rfl) ⟨rfl, .inl ⟨rfl,rfl⟩⟩ (some ad) cc.pl cc.pc (p.flatMap scells) (by rfl) ⟨(fun h=>by cases h),fun ad' h j u hj=>by injection h with h;subst h;exact HPS2.out _ HWA.out j u hj⟩ HFL.out (zga p) (by unfold maxLen;omega) (by omega) (Nat.le_refl _) ?_;intro v' wq hown hgrow)
   obtain ⟨a,m,c,rfl,hst⟩:=J9 (S:=fun k=>w.heap.size+2<=k) (by rw [<-HPL.out];simpa using hown) (fun k hk=>by have:=HSZ.out;omega) HBN.out (by rw [<-HPL.out];exact hfew)
   have hbq:uB w1 wq:=(Below.refl _ _).grown hgrow (Nat.le_refl _) (by intro k hk;simp [Value.ownBlock] at hk)
   have HST:=qh hst
   replace HWA:=qh (HWA.out.trans (hbq.mono HWA.out.size))
   clear x1 f1 x6 f6 x7 f7 x8 f8 x9 f9 x10 f10 zx
   have hA1:=HA1.out.keep hbq HA1.out.lt
   have hA2:=HA2.out.keep hbq HA2.out.lt
   have x1:=hA1.at_ 1 _ rfl;have f1:=hA1.fr 1;have x6:=hA1.at_ 6 _ rfl;have f6:=hA1.fr 6;have x7:=hA1.at_ 7 _ rfl;have f7:=hA1.fr 7;have x8:=hA1.at_ 8 _ rfl;have f8:=hA1.fr 8;have x9:=hA1.at_ 9 _ rfl;have f9:=hA1.fr 9;have x10:=hA1.at_ 10 _ rfl;have f10:=hA1.fr 10;have zx:=hA1.lt
   replace HA1:=qh hA1
   replace HA2:=qh hA2
   clear hA1 hA2 hst hown hgrow hbq HPS2 HPL HFL HBN hfew
   go_wp2_with fail
   obtain ⟨wB,hwB⟩:∃wB,wq.setCell ⟨w.heap.size,1,none⟩ (.slice a m c)=wB:=⟨_,rfl⟩
   rw [hwB]
   have st1:RStep wq wB w.heap.size:=by rw [<-hwB];exact RStep.self
   have hB1:BC wB w.heap.size (ccells { cc with pa:=a,pl:=m,pc:=c }):=by rw [<-hwB];exact HA1.out.set (i:=1) (x:= .slice a m c) (by simp [ccells])
   have hB2:BC wB (w.heap.size+1) (ccells czero):=HA2.out.next st1 (by omega)
   have hbB:uB w wB:=HWA.out.trans (st1.lowC (Nat.le_refl _) (by have:=HWA.out.size;omega))
   have hsB:w.heap.size+2<=wB.heap.size:=by have:=HA2.out.lt;have:=st1.size;omega
   have hstB:IsSteps (only (fun k=>w.heap.size+2<=k) wB) wB.heap.size p a m c:=(HST.out.sub (Zd fun k hk hl=>⟨hk,st1.block k hl (by omega)⟩)).more st1.size
   have HB1:=qh hB1;have HB2:=qh hB2;have HBB:=qh hbB;have HSB:=qh hsB;have HSTB:=qh hstB
   have y6:=hB1.at_ 6 _ rfl;have y7:=hB1.at_ 7 _ rfl;have y8:=hB1.at_ 8 _ rfl;have y9:=hB1.at_ 9 _ rfl;have y10:=hB1.at_ 10 _ rfl;have zB:=hB1.lt
   clear st1 hB1 hB2 hbB hsB hstB hwB HA1 HA2 HWA HST
   clear x1 f1 x6 f6 x7 f7 x8 f8 x9 f9 x10 f10 zx
   go_wp2_with fail
   refine (Ye xv wB cc.v (HXV.out.later_ HBB.out)).mono ?_
   rintro e w2 ⟨⟨f,rfl,hvl⟩,hb2⟩
   have h1:=HB1.out.keep hb2 HB1.out.lt
   have h2:=HB2.out.keep hb2 HB2.out.lt
   have HST2:=qh (K0 HSTB.out hb2)
   have HVL2:=qh hvl
   have HB2W:=qh (HBB.out.trans (hb2.mono HBB.out.size))
   have H1:=qh h1;have H2:=qh h2
   have x6:=h1.at_ 6 _ rfl;have f6:=h1.fr 6;have x7:=h1.at_ 7 _ rfl;have f7:=h1.fr 7;have x8:=h1.at_ 8 _ rfl;have f8:=h1.fr 8;have x9:=h1.at_ 9 _ rfl;have f9:=h1.fr 9;have x10:=h1.at_ 10 _ rfl;have f10:=h1.fr 10;have zx:=h1.lt
   clear h1 h2 hb2 hvl HB1 HB2 HSTB y6 y7 y8 y9 y10 zB
   go_upto_region 5 with fail
   have HCY:=qh (CY.made2 (W1:=wB) H1.out H2.out HSB.out HST2.out HVL2.out HB2W.out)
   obtain ⟨W5,hW5⟩:∃W5,((((w2.setCell ⟨w.heap.size,6,none⟩ (.int .u8 f.k)).setCell ⟨w.heap.size,7,none⟩ (.int .i64 f.n)).setCell ⟨w.heap.size,8,none⟩ (.string f.s)).setCell ⟨w.heap.size,9,none⟩ (.slice f.la f.ll f.lc)).setCell ⟨w.heap.size,10,none⟩ (.slice f.oa f.ol f.oc)=W5:=⟨_,rfl⟩
   rw [hW5] at HCY ⊢
   have h5:=HCY.out
   obtain ⟨u0,u1,u2,u3,u4,u5,u6,u7,u8,u9,u10,u11⟩:=row12 h5.one.at_
   have y0:=h5.two.at_ 0 _ rfl;have g0:=h5.two.fr 0;have y1:=h5.two.at_ 1 _ rfl;have g1:=h5.two.fr 1;have y2:=h5.two.at_ 2 _ rfl;have g2:=h5.two.fr 2;have y3:=h5.two.at_ 3 _ rfl;have g3:=h5.two.fr 3;have y4:=h5.two.at_ 4 _ rfl;have g4:=h5.two.fr 4;have y5:=h5.two.at_ 5 _ rfl;have g5:=h5.two.fr 5;have y6:=h5.two.at_ 6 _ rfl;have g6:=h5.two.fr 6;have y7:=h5.two.at_ 7 _ rfl;have g7:=h5.two.fr 7;have y8:=h5.two.at_ 8 _ rfl;have g8:=h5.two.fr 8;have y9:=h5.two.at_ 9 _ rfl;have g9:=h5.two.fr 9;have y10:=h5.two.at_ 10 _ rfl;have g10:=h5.two.fr 10;have y11:=h5.two.at_ 11 _ rfl;have g11:=h5.two.fr 11
   have zu:=h5.one.lt;have zy:=h5.two.lt
   clear h5 hW5 H1 H2 HST2 HVL2 HB2W HSB HBB
   clear x6 f6 x7 f7 x8 f8 x9 f9 x10 f10 zx
   go_wp2_with fail
   rw [<-HQ.out]
   have hq:=HCB.out
   have st:=Yc W5 (w.heap.size+1) { cc with pa:=a,pl:=m,pc:=c,v:=f }
   refine ⟨rfl,_,zbs rfl (Zm (c0:=czero) HCY.out.two { cc with pa:=a,pl:=m,pc:=c,v:=f }),⟨{ cc with pa:=a,pl:=m,pc:=c,v:=f },rfl, ?_⟩,Below.setC HCY.out.below (by omega) { cc with pa:=a,pl:=m,pc:=c,v:=f }⟩
   refine .mk { cc with pa:=a,pl:=m,pc:=c,v:=f } p _ ⟨hq.k0,hq.k1,hq.i0,hq.i1,hq.j0,hq.j1,hq.n0,hq.n1,hq.key1,hq.s1⟩ ?_ ?_
   .exact (HCY.out.st.sub (Zd (S':=fun k=>w.heap.size<=k) fun k hk hl=>⟨by omega,st.block k hl (by omega)⟩)).more st.size
   .exact (HCY.out.vl.sub (Zd (S':=fun k=>w.heap.size<=k) fun k hk hl=>⟨by omega,st.block k hl (by omega)⟩)).more st.size
def goOn (xs:List Cm) (q:List Cm×Int):List Cm×Int:=if q.2=0 then (xs++q.1,0) else ([],q.2)
def OpOk:V->List Cm->Prop
 |_, [] =>True
 |v,c::r=>v.weight<=100000000/\v.sound=true/\c.v.weight<=4611686018427387904/\c.s.size<=1000000000000/\((doP v c).2=0->OpOk (doP v c).1 r)
structure LH (w wr:World) (v0:V) (op:List Cm) (j:Nat) (x:V) (cx:VC) (u:Value) (xs:List Cm) (cs:List CC):Prop where
 rd:goOn xs (turnsP x (op.drop j))=turnsP v0 op
 ok:OpOk x (op.drop j)
 cen:cs.length=xs.length
 few:xs.length=j
 box:BC wr w.heap.size (vcells cx)
 obox:BC wr (w.heap.size+1) [u]
 val:IsVal (only (fun k=>k≠w.heap.size/\k≠w.heap.size+1/\some k≠u.ownBlock) wr) wr.heap.size x cx
 row:RowC wr (w.heap.size+2) u xs cs
 below:Below w.heap.size w wr
structure LM (w wr W:World) (y:V) (cm:Cm) (cy:VC) (cc:CC) (u:Value) (xs:List Cm) (cs:List CC):Prop where
 box:BC W w.heap.size (vcells cy)
 obox:BC W (w.heap.size+1) [u]
 val:IsVal (only (fun k=>wr.heap.size<=k) W) W.heap.size y cy
 cmp:IsComp (only (fun k=>wr.heap.size<=k) W) W.heap.size cm cc
 row:RowC W (w.heap.size+2) u xs cs
 below:Below w.heap.size w W
theorem LH.mid {w wr W5 W6:World} {v0:V} {op:List Cm} {j:Nat} {x y:V} {cx cy:VC} {u:Value} {xs:List Cm} {cs:List CC} {cm:Cm} {cc:CC} (h:LH w wr v0 op j x cx u xs cs) (hb:uB wr W5) (hc:IsComp (only (fun k=>wr.heap.size<=k) W5) W5.heap.size cm cc) (hb6:uB W5 W6) (hy:IsVal (only (fun k=>W5.heap.size<=k) W6) W6.heap.size y cy):
 LM w wr (setV W6 w.heap.size 0 cy) y cm cy cc u xs cs:=by
 have st:=Zh W6 w.heap.size 0 cy
 have hlo:=h.box.lt;have hl1:=h.obox.lt
 have hz1:=hb.size;have hz2:=hb6.size;have hz3:=st.size
 have hbA:uB wr W6:=hb.trans (hb6.mono hz1)
 exact ⟨Zx (h.box.keep hbA hlo) cy,(h.obox.keep hbA hl1).next st (by omega),Z5 hy rfl st.size fun k hk hl=>⟨by omega,st.block k hl (by omega)⟩,Yk hc rfl (Nat.le_trans hz2 st.size) fun k hk hl=>⟨hk,(st.block k (by omega) (by omega)).trans (hb6.block k hl)⟩,(h.row.later (PC.closed _ _) (.of_below w.heap.size hbA) (by omega)).later (PC.closed _ _) st (by omega),Below.set5' (h.below.trans (hbA.mono (by omega))) (Nat.le_refl _) _ _ _ _ _⟩
theorem LH.round {w wr w5 w7:World} {v0:V} {op:List Cm} {j:Nat} {x y:V} {cx cy:VC} {a:Option Addr} {m c:Nat} {xs:List Cm} {cs:List CC} {cm:Cm} {cc:CC} {g cap:Nat} {t:TypeId}
 (h:LH w wr v0 op j x cx (.slice a m c) xs cs) (hm:LM w wr w5 y cm cy cc (.slice a m c) xs cs) (hz:wr.heap.size<=w5.heap.size) (hrd:goOn (xs++ [cm]) (turnsP y (op.drop (j+1)))=turnsP v0 op) (hok:OpOk y (op.drop (j+1)))
 (hown:w7.ownsRow (w.heap.size+2) 39 12 (.slice (some ⟨g,0,none⟩) (xs.length+1) cap) (xs.length+1) (cs.flatMap ccells++ccells cc)) (hg:(w5.alloc (.cells #[.int .u8 cc.k, .slice cc.pa cc.pl cc.pc, .string cc.key, .int .i64 cc.i, .int .i64 cc.j, .int .i64 cc.n, .int .u8 cc.v.k, .int .i64 cc.v.n, .string cc.v.s, .slice cc.v.la cc.v.ll cc.v.lc, .slice cc.v.oa cc.v.ol cc.v.oc, .string cc.s] t)).grownBy w7 (Value.slice a m c).ownBlock)
 (hat:(Value.slice a m c).ownBlock=some g∨g=w5.heap.size+1):
 LH w (w7.setCell ⟨w.heap.size+1,0,none⟩ (.slice (some ⟨g,0,none⟩) (xs.length+1) cap)) v0 op (j+1) y cy (.slice (some ⟨g,0,none⟩) (xs.length+1) cap) (xs++ [cm]) (cs++ [cc]):=by
 have hrlt:∀b,(Value.slice a m c).ownBlock=some b->w.heap.size+2<=b/\b<wr.heap.size:=h.row.lt
 have hba:uB w5 (w5.alloc (.cells (uC cc) t)):=(Below.refl _ _).alloc (Nat.le_refl _) _
 have hlt:=h.box.lt;have hl1:=h.obox.lt
 have hgb:Below (w.heap.size+2) (w5.alloc (.cells (uC cc) t)) w7:=Zi hg (fun b hb=>(hrlt b hb).1) (by rw [World.size_alloc];omega)
 have hb57:Below (w.heap.size+2) w5 w7:=(hba.mono (by omega)).trans hgb
 have st8:RStep w7 (w7.setCell ⟨w.heap.size+1,0,none⟩ (.slice (some ⟨g,0,none⟩) (xs.length+1) cap)) (w.heap.size+1):=RStep.self
 obtain ⟨s1,s2⟩:=PC.snoc (l:=xs) (cs:=cs) h.cen cm cc
 have hnew:PC (xs++ [cm]) (cs++ [cc]) (only (Free (w.heap.size+2) (.slice a m c)) w5) w5.heap.size xs.length:=s1 _ _ (hm.cmp.sub (Zd fun b hb _=>⟨⟨by omega,fun e=>by have:=(hrlt b e.symm).2;omega⟩,rfl⟩))
 have hpush:=Row.push (PC.closed (xs++ [cm]) (cs++ [cc])) hm.row hba hg (u':= .slice (some ⟨g,0,none⟩) (xs.length+1) cap) (news:=ccells cc) hown (by
  rcases hat with e|e
  .left;rw [e];rfl
  .right;intro b hb;have:g=b:=by simpa [Value.ownBlock] using hb
   omega) hnew s2
 refine ⟨hrd,hok,by simp [h.cen],by rw [List.length_append,List.length_singleton];have:=h.few;omega,(hm.box.keep hb57 (by omega)).next st8 (by omega),(hm.obox.keep hb57 (by omega)).set (i:=0) (by simp), ?_, ?_,hm.below.trans (hb57.mono (by omega))|>.trans (st8.lowC (by omega) (by have:=hb57.size;omega))⟩
 .refine Z5 hm.val rfl (Nat.le_trans hb57.size st8.size) fun k hk hl=>⟨⟨by omega,by omega,fun e=> ?_⟩, ?_⟩
  .have e2:k=g:=by simpa [Value.ownBlock] using e
   rcases hat with e3|e3
   .have:=(hrlt g e3).2;omega
   .omega
  .refine (st8.block k (by have:=hb57.size;omega) (by omega)).trans ((hg.block k (by simp;omega) fun e=> ?_).trans (hba.block k hl))
   have:=(hrlt k e.symm).2;omega
 .refine Row.later (PC.closed _ _) (?_:RowC w7 (w.heap.size+2) _ (xs++ [cm]) (cs++ [cc])) st8 (by omega)
  show Row _ _ _ _ _ _ _ _
  rw [Xd,List.length_append,List.length_singleton]
  exact hpush
theorem zm4 {w:World} {b o:Nat} {c:CC} (h:CompAt w b o c):∀k u,(ccells c)[k]? =some u->w.cell? ⟨b,o+k,none⟩=some u:=fun k u hk=>by
 have hm:k<12:=by have:=(List.getElem?_eq_some_iff.1 hk).1;exact this
 match k,hm with
 |0,_=>rw [<-hk];exact h.c0
 |1,_=>rw [<-hk];exact h.c1
 |2,_=>rw [<-hk];exact h.c2
 |3,_=>rw [<-hk];exact h.c3
 |4,_=>rw [<-hk];exact h.c4
 |5,_=>rw [<-hk];exact h.c5
 |6,_=>rw [<-hk];exact h.c6.c0
 |7,_=>rw [<-hk];exact h.c6.c1
 |8,_=>rw [<-hk];exact h.c6.c2
 |9,_=>rw [<-hk];exact h.c6.c3
 |10,_=>rw [<-hk];exact h.c6.c4
 |11,_=>rw [<-hk];exact h.c11
theorem zdg (w:World) (o:Obj):uB w (w.alloc o):=(Below.refl _ _).alloc (Nat.le_refl _) o
theorem RowC.snoc {w4 w9:World} {base lo:Nat} {a:Option Addr} {m c:Nat} {xs:List Cm} {cs:List CC} {cm:Cm} {d:CC} {g cap:Nat} (h:RowC w4 base (.slice a m c) xs cs) (hl:cs.length=xs.length) (hbase:base<=lo) (hlo:∀k,(Value.slice a m c).ownBlock=some k->k<lo) (hd:IsComp (only (fun k=>lo<=k) w4) w4.heap.size cm d)
 (hown:w9.ownsRow base 39 12 (.slice (some ⟨g,0,none⟩) (xs.length+1) cap) (xs.length+1) (cs.flatMap ccells++ccells d)) (hg:(w4.alloc (.cells #[.int .u8 d.k, .slice d.pa d.pl d.pc, .string d.key, .int .i64 d.i, .int .i64 d.j, .int .i64 d.n, .int .u8 d.v.k, .int .i64 d.v.n, .string d.v.s, .slice d.v.la d.v.ll d.v.lc, .slice d.v.oa d.v.ol d.v.oc, .string d.s] 39)).grownBy w9 (Value.slice a m c).ownBlock) (hat:(Value.slice a m c).ownBlock=some g∨g=w4.heap.size+1):
 RowC w9 base (.slice (some ⟨g,0,none⟩) (xs.length+1) cap) (xs++ [cm]) (cs++ [d]):=by
 obtain ⟨s1,s2⟩:=PC.snoc (l:=xs) (cs:=cs) hl cm d
 have hnew:PC (xs++ [cm]) (cs++ [d]) (only (Free base (.slice a m c)) w4) w4.heap.size xs.length:=s1 _ _ (hd.sub (Zd fun b hb _=>⟨⟨Nat.le_trans hbase hb,fun e=>by have h1:=hlo b e.symm;have h2:lo<=b:=hb;omega⟩,rfl⟩))
 have hpush:=Row.push (PC.closed (xs++ [cm]) (cs++ [d])) h (zdg w4 _) hg (u':= .slice (some ⟨g,0,none⟩) (xs.length+1) cap) (news:=ccells d) hown (by
  rcases hat with e|e
  .left;rw [e];rfl
  .right;intro b hb;have:g=b:=by simpa [Value.ownBlock] using hb
   omega) hnew s2
 show Row _ _ _ _ _ _ _ _
 rw [Xd,List.length_append,List.length_singleton]
 exact hpush
structure LY (w wr:World) (op:List Cm) (j:Nat) (u:Value) (cs:List CC):Prop where
 row:RowC wr w.heap.size u (op.take j) cs
 cen:cs.length=j
 below:Below w.heap.size w wr
set_option maxRecDepth 100000 in
theorem zi0 (w:World) (op:List Cm) (oa:Option Addr) (on oc:Nat) (hop:IsComps w w.heap.size op oa on oc) (hn:on<=1000):
 uP 31 #[.slice oa on oc] w (AimPost w op):=by
 delta uP
 have hmax:=hop.max;have hcap:=hop.cap;have hlen:=hop.len
 subst hlen
 obtain ⟨i0,hi0,hz0,hz1,hz2⟩:=info_parts Jk
 have HOP:=qh hop
 have HLY:Hid (LY w w op 0 (.slice none 0 0) []):=qh ⟨Row.nil _ _ _ _ _,rfl,Below.refl _ _⟩
 clear hop
 go_enter Tryz.func31,Tryz.ntmps31
 generalize hQ0:bodyPost _ _ _=Q0
 have HQ:=qh hQ0
 clear hQ0
 go_wp2_with fail
 go_loopw [3,4] (fun s i wr=>∃(j:Nat) (a:Option Addr) (c:Nat) (cs:List CC),s= .slice a j c/\i= .int .i64 j/\j<=op.length/\Hid (LY w wr op j (.slice a j c) cs)) (fun _ i _=>op.length - (intOf i).toNat)
 case atStart=>exact ⟨0,none,0, [],rfl,rfl,Nat.zero_le _,HLY⟩
 case round=>
  obtain ⟨j,a,c,cs,rfl,rfl,hj,HL⟩:=hrel
  clear HLY
  by_cases hlt:j<op.length
  .have hlh:=HL.out
   have hjl:=hlt
   obtain ⟨b,o,f,h5,h6⟩:=HOP.out.at_
   obtain ⟨rfl,hbB⟩:=h5 (by omega)
   obtain ⟨hat,hic⟩:=h6 j hjl
   have hat2:=hat.keep hlh.below hbB
   have hbw:=Nat.lt_of_lt_of_le hbB hlh.below.size
   obtain ⟨cc,hcc⟩:∃c,f j=c:=⟨_,rfl⟩
   rw [hcc] at hat2 hic
   obtain ⟨cm,hcm⟩:∃y,op[j] =y:=⟨_,rfl⟩
   rw [hcm] at hic
   have HC:=qh (zc5 wr cm cc ((hic.keep hlh.below).more hlh.below.size))
   have htk:op.take (j+1)=op.take j++ [cm] :=by rw [List.take_add_one,List.getElem?_eq_getElem hjl,hcm];rfl
   have htl:(op.take j).length=j:=by rw [List.length_take];omega
   obtain ⟨e0,e1,e2,e3,e4,e5,e6,e7,e8,e9,e10,e11⟩:=row12 (zm4 hat2)
   rw [Nat.add_zero] at e0
   have hj0:¬((j:Int)<0):=by omega
   have hjn:(j:Int)<(op.length:Int):=by omega
   have HTK:=qh htk;have HTL:=qh htl;have HBB:=qh hbB
   clear h5 h6 hat hic hat2 hcc hcm htk htl hlh hbB
   go_wp2_with fail
   refine HC.out.mono ?_
   rintro e w4 ⟨⟨d,rfl,hd⟩,hb4⟩
   have hr4:=HL.out.row.later (PC.closed _ _) (.of_below b hb4) HBB.out
   have hown:w4.ownsRow w.heap.size 39 12 (.slice a j c) j (cs.flatMap ccells):=by have:=hr4.own;rwa [HTL.out] at this
   have hlow:=HL.out.row.lt
   have hz4:=hb4.size;have hzw:=HL.out.below.size
   have HR4:=qh hr4;have HD:=qh hd;have HB4:=qh hb4
   clear hr4 hd hb4 HC e0 e1 e2 e3 e4 e5 e6 e7 e8 e9 e10 e11 hbw
   go_wp2_with (at_builtin;refine wpList_append_lies _ rfl (.tmp 11) (.tmp 17) 53 (by rfl) w.heap.size 39 i0 _ 12 168 Tryz.underlying53 hi0 hz0 hz1 hz2 rfl (by omega) (.slice a j c) j (cs.flatMap ccells) (by rfl) (hown.alloc _) ⟨w4.heap.size,0,none⟩ 1 1 (ccells d) (by rfl) (by rfl) (K6 w4 d _) (by simp [ccells,Value.oneCell']) (by omega) (by unfold maxLen;omega) (by omega) (by simp;omega) (w4.heap.size+1) (by simp) ?_;intro g cap2 w9 hown9 hgrow9 hat9 hlt9;have HO9:=qh hown9;have HG9:=qh hgrow9;have HA9:=qh hat9;clear hown9 hgrow9 hat9)
   go_roundw
   case rel=>exact ⟨j+1,some ⟨g,0,none⟩,cap2,cs++ [d],rfl,by go_num,by omega,qh ⟨by
    rw [HTK.out]
    have:=RowC.snoc HR4.out (g:=g) (cap:=cap2) (by rw [HTL.out];exact HL.out.cen) hzw (fun k hk=>(hlow k hk).2) HD.out (w9:=w9) (by rw [HTL.out];exact HO9.out) HG9.out HA9.out
    rwa [HTL.out] at this,by rw [List.length_append,HL.out.cen];rfl,HL.out.below.trans ((HB4.out.mono hzw).trans (((zdg w4 _).mono (by omega)).trans (Zi HG9.out (fun k hk=>(hlow k hk).1) (by rw [World.size_alloc];omega))))⟩⟩
   case measure=>simp [intOf];omega
  .obtain rfl:j=op.length:=by omega
   have htl:op.take op.length=op:=List.take_of_length_le (by omega)
   have hfin:AimPost w op (.returned (.slice a op.length c)) wr:=⟨⟨a,op.length,c,rfl,by
    have:=HL.out.row
    rw [htl] at this
    exact this.comps (by rw [HL.out.cen]) (Nat.le_refl _) (by omega)⟩,HL.out.below⟩
   have HF:=qh hfin
   clear htl hfin HL
   go_wp2_with fail
   rw [<-HQ.out]
   exact ⟨rfl,_,by simp [results,Tryz.results31,go_sem],HF.out⟩
def SomeInt (w:World) (e:Ending) (w':World):Prop:=(∃z:Int,e= .returned (.int .i64 z))/\Below w.heap.size w w'
theorem IsAct.toks {w:World} {B:Nat} {x:Ac} {c:AC} (h:IsAct w B x c):IsToks w B x.v c.va c.vl c.vc:=by
 cases h with
 |mk c p v hb hp hv=>exact hv
set_option maxRecDepth 100000 in
theorem zl8 (w:World) (l:List Ac) (a:Option Addr) (n c:Nat) (hl:IsActs w w.heap.size l a n c):
 uP 11 #[.slice a n c] w (SomeInt w):=by
 delta uP
 have hmax:=hl.max;have hcap:=hl.cap
 have HL:=qh hl
 clear hl
 obtain ⟨R,hR⟩:∃R,SomeInt w=R:=⟨_,rfl⟩
 rw [hR]
 have HR:=qh hR
 clear hR
 go_enter Tryz.func11,Tryz.ntmps11
 go_wp2_with fail
 go_loopg [3,4,5] n (fun gh z i _ wr=>∃(x:Int) (j:Nat),j<=n/\gh=n - j/\z= .int .i64 x/\i= .int .i64 j/\uB w wr)
 case atStart=>exact ⟨0,0,Nat.zero_le _,rfl,rfl,rfl,Below.refl _ _⟩
 case round=>
  obtain ⟨x,j,hj,rfl,rfl,rfl,hbl⟩:=hrel
  obtain ⟨w1,hw1⟩:∃w1,w1=wr:=⟨_,rfl⟩
  subst hw1
  have HBL:=qh hbl
  clear hbl
  by_cases hlt:j<n
  .obtain ⟨b,q,f,hpl,rfl,hbB,hat,hia⟩:=HL.out.get hlt
   have hat1:=hat.keep HBL.out hbB
   have s0:=hat1.c0;have s5:=hat1.c5;have s6:=hat1.c6
   have hv:=hia.toks
   have HV:=qh hv
   have hvm:=hv.max;have hvc:=hv.cap
   have HAT:=qh hat
   have hbw:b<w1.heap.size:=World.block_lt_of_cell? w1 _ s0
   clear hat hat1 hia hv
   go_wp2_with fail
   go_quiet (fail)
   go_wp2_with fail
   go_loopg [3,5] f.vl (fun gh z k wr=>∃(x:Int) (t:Nat),t<=f.vl/\gh=f.vl - t/\z= .int .i64 x/\k= .int .i64 t/\uB w wr)
   case atStart=>exact ⟨_,0,Nat.zero_le _,rfl,rfl,rfl,HBL.out.trans ((Xi _ _).mono HBL.out.size)⟩
   case round=>
    obtain ⟨y,t,ht,rfl,rfl,rfl,hbl⟩:=hrel
    have hat1:=HAT.out.keep hbl hbB
    clear s0 s5 s6 hbw
    have s6:=hat1.c6
    have hbw:b<wr.heap.size:=World.block_lt_of_cell? wr _ s6
    have HBL2:=qh hbl
    clear hat1 hbl
    by_cases htl:t<f.vl
    .obtain ⟨b2,q2,hp2,hva,hb2,htk,_⟩:=HV.out.get htl
     have htk1:=htk.keep HBL2.out hb2
     have t2:=htk1.c2
     rw [hva] at s6
     have hb2w:b2<wr.heap.size:=World.block_lt_of_cell? wr _ t2
     clear htk htk1 hva
     go_wp2_with fail
     go_roundg (f.vl - (t+1))
     case measure=>omega
     case rel=>exact ⟨_,t+1,by omega,rfl,rfl,by go_num,HBL2.out⟩
    .go_wp2_with fail
     go_roundg (n - (j+1))
     case measure=>omega
     case rel=>exact ⟨_,j+1,by omega,rfl,rfl,by go_num,HBL2.out⟩
  .go_wp2_with fail
   rw [<-HR.out]
   exact ⟨⟨_,rfl⟩,HBL.out⟩
def SomeBool (w:World) (e:Ending) (w':World):Prop:=(∃h:Bool,e= .returned (.bool h))/\Below w.heap.size w w'
set_option maxRecDepth 100000 in
theorem zei (w:World) (l:List Tk) (a:Option Addr) (n c:Nat) (hl:IsToks w w.heap.size l a n c) (x:List Ac) (ya:Option Addr) (yn yc:Nat) (ha:IsActs w w.heap.size x ya yn yc):
 uP 20 #[.slice a n c, .slice ya yn yc] w (SomeBool w):=by
 delta uP
 have hmax:=hl.max;have hcap:=hl.cap
 have HL:=qh hl
 have HH:Hid (∀W,uB w W->uP 11 #[.slice ya yn yc] W (SomeInt W)):=qh fun W hW=>zl8 W x ya yn yc (ha.later_ hW)
 clear hl ha
 obtain ⟨R,hR⟩:∃R,SomeBool w=R:=⟨_,rfl⟩
 rw [hR]
 have HR:=qh hR
 clear hR
 go_enter Tryz.func20,Tryz.ntmps20
 go_wp2_with fail
 go_loopg [5,6] n (fun gh z i wr=>∃(x:Int) (j:Nat),j<=n/\gh=n - j/\z= .int .i64 x/\i= .int .i64 j/\uB w wr)
 case atStart=>exact ⟨0,0,Nat.zero_le _,rfl,rfl,rfl,Below.refl _ _⟩
 case round=>
  obtain ⟨x,j,hj,rfl,rfl,rfl,hbl⟩:=hrel
  have HBL:=qh hbl
  by_cases hlt:j<n
  .obtain ⟨b,q,hpl,rfl,hbB,htk,_⟩:=HL.out.get hlt
   have htk1:=htk.keep hbl hbB
   have t2:=htk1.c2
   have hbw:b<wr.heap.size:=World.block_lt_of_cell? wr _ t2
   clear htk htk1 hbl
   go_wp2_with fail
   go_roundg (n - (j+1))
   case measure=>omega
   case rel=>exact ⟨_,j+1,by omega,rfl,rfl,by go_num,HBL.out⟩
  .clear hbl
   by_cases h1:(2000:Int)<x
   .go_wp2_with fail
    rw [<-HR.out]
    exact ⟨⟨_,rfl⟩,HBL.out⟩
   .by_cases h2:(12:Int)<(yn:Int)
    .go_wp2_with fail
     rw [<-HR.out]
     exact ⟨⟨_,rfl⟩,HBL.out⟩
    .go_wp2_with fail
     refine (HH.out _ HBL.out).mono ?_
     rintro e w2 ⟨⟨z,rfl⟩,hb2⟩
     have HB2:=qh (HBL.out.trans (hb2.mono HBL.out.size))
     clear hb2
     go_wp2_with fail
     rw [<-HR.out]
     exact ⟨⟨_,rfl⟩,HB2.out⟩
def kOb:V:= .mk 5 0 .empty [] []
def kd1:Cm:=⟨2, [],kA,0,0,0,kvI 2, .empty⟩
def kd2:Cm:=⟨2, [],kA,0,0,0,kvI 1, .empty⟩
def kd3:Cm:=⟨3, [],kA,0,0,0,V.none, .empty⟩
theorem Kr (n:Int):cmSound ⟨2, [],kA,0,0,0,kvI n, .empty⟩=true:=zc1 rfl rfl rfl Ki rfl (Int.le_refl 0) (Int.le_refl 0) (fun e=>absurd (show (2:Int)=8 from e) (by decide)) (fun e=>absurd (show (2:Int)=9 from e) (by decide)) (zc7 n) (by simp [kvI,V.deep,deepL,deepO]) (by simp [kvI,V.weight,weightL,weightO])
theorem zin:cmSound kd3=true:=zc1 rfl rfl rfl Ki rfl (by decide) (by decide) (fun e=>absurd e (by decide)) (fun e=>absurd e (by decide)) Kq (by have:=ze8;simp [kd3];omega) (by have:=Q6;simp [kd3];omega)
theorem zna:kOb.weight=1:=by simp [kOb,V.weight,weightL,weightO]
theorem kt1:turnedP kvV kd1=(kd2,0):=by
 have hc:checkP kvV kd1=0:=zac (Kr 2) (by rfl) (by simp [kindsP,kd1,kvV,V.kd])
 have ht:turnP kvV kd1=kd2:=by
  show (if fieldIs [(kA,kvI 1)] kA=true then _ else _)=_
  rw [if_pos zdt.2]
  show (⟨2, [],kA,0,0,0,([(kA,kvI 1)].getD (fieldK [(kA,kvI 1)] kA) (.empty,V.none)).2, .empty⟩:Cm)=_
  rw [zdt.1];rfl
 unfold turnedP
 rw [if_pos hc,show getP kvV kd1.path=some kvV from rfl,Option.getD_some,ht,if_pos (show cmSound kd2=true from Kr 1)]
theorem kt2:turnedP kOb kd1=(kd3,0):=by
 have hc:checkP kOb kd1=0:=zac (Kr 2) (by rfl) (by simp [kindsP,kd1,kOb,V.kd])
 have ht:turnP kOb kd1=kd3:=by
  have h:fieldIs kOb.os kA=false:=rfl
  show (if fieldIs kOb.os kA=true then (⟨2, [],kA,0,0,0,(kOb.os.getD (fieldK kOb.os kA) (.empty,V.none)).2, .empty⟩:Cm) else ⟨3, [],kA,0,0,0,V.none, .empty⟩)=_
  rw [if_neg (by rw [h];decide)];rfl
 unfold turnedP
 rw [if_pos hc,show getP kOb kd1.path=some kOb from rfl,Option.getD_some,ht,if_pos zin]
theorem ka1:allP kvV [kd1] =([kd2],0):=by
 unfold allP
 rw [if_neg (by simp),turnsP,kt1,if_pos rfl,turnsP,if_pos rfl];rfl
theorem kok1:OpOk kvV [kd1] :=⟨by rw [zao];omega,zgm,by simp [kd1,kvI,V.weight,weightL,weightO],by decide,fun _=>trivial⟩
end Go.Proofs.YtnjgbiachcfigaaGreatDoor
