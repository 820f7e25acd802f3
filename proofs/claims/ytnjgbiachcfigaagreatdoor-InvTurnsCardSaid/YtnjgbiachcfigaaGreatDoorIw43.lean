/-
  Contracts of the functions that the law reaches: inv.at, and what is undone of a text.
-/
import Derived.Test.YtnjgbiachcfigaaGreatDoorIw22
import Derived.Test.YtnjgbiachcfigaaGreatDoorIw26
import Derived.Test.YtnjgbiachcfigaaGreatDoorIw35
namespace Go.Proofs.YtnjgbiachcfigaaGreatDoor
open Go.RowKit
set_option maxHeartbeats 16000000
theorem zoq (s:ByteArray):(cuts s).getD (textN s) 0=s.size:=by
 rw [cuts,textN,cuts,List.length_append,List.getD_eq_getElem?_getD]
 simp
theorem zl6 (s:ByteArray) (i n:Int) (hn:1<=n) (hi0:0<=i) (hin:i+n<=textN s):
 (cuts s).getD i.toNat 0<=(cuts s).getD (i+n).toNat 0/\(cuts s).getD (i+n).toNat 0<=s.size/\
 (textDo s 9 i (textN s - i) .empty).size=(cuts s).getD i.toNat 0/\(textDo s 9 i n .empty).size=(cuts s).getD i.toNat 0+(s.size - (cuts s).getD (i+n).toNat 0):=by
 obtain ⟨I,rfl⟩:∃I:Nat,i=I:=⟨i.toNat,by omega⟩
 obtain ⟨J,rfl⟩:∃J:Nat,n=J:=⟨n.toNat,by omega⟩
 have h:=zb5 s I J (by omega) (by omega)
 rw [textDo,textDo,if_neg (by decide),if_neg (by decide),show ((I:Int)+((textN s:Int) - I)).toNat=textN s by omega,zoq, <-Int.natCast_add,Int.toNat_natCast,Int.toNat_natCast]
 simp only [ByteArray.size_append,ByteArray.size_extract]
 omega
set_option maxRecDepth 100000 in
theorem zk8 (w:World) (s:ByteArray) (hs:s.size<=1000000000000) (hT:Tabs w) (I J:Nat) (h1:1<=J) (hIJ:I+J<=textN s):
 uP 105 #[.string s, .int .i64 (I:Int), .int .i64 (J:Int)] w fun e w'=>e= .returned (.string (partT s I J))/\uB w w':=by
 delta uB uP
 obtain ⟨q1,q2,q3,q4⟩:=zl6 s I J (by omega) (by omega) (by omega)
 rw [<-Int.natCast_add,Int.toNat_natCast,Int.toNat_natCast] at q1 q4
 rw [<-Int.natCast_add,Int.toNat_natCast] at q2
 rw [Int.toNat_natCast] at q3
 have hN:=(Yo s).2
 obtain ⟨N,hNN⟩:∃N,textN s=N:=⟨_,rfl⟩
 have hNs:N<=s.size:=by rw [<-hNN,textN];omega
 obtain ⟨a,ha⟩:∃a,(cuts s).getD I 0=a:=⟨_,rfl⟩
 obtain ⟨b,hb⟩:∃b,(cuts s).getD (I+J) 0=b:=⟨_,rfl⟩
 have HLN:Hid (∀W,uB w W->uP 104 #[.string s] W fun e w'=>e= .returned (.int .i64 (N:Int))/\uB W w'):=qh fun W hW=>by rw [<-hNN];exact zam W s hs (hT.below hW)
 have hcd:∀n:Int,1<=n->I+n<=N->∀W,uB w W->uP 49 #[.string s, .agg #[.int .u8 9, .slice none 0 0, .string { data:= #[] }, .int .i64 (I:Int), .int .i64 0, .int .i64 n, .int .u8 0, .int .i64 0, .string { data:= #[] }, .slice none 0 0, .slice none 0 0, .string { data:= #[] }]] W fun e w'=>e= .returned (.tuple #[.string (textDo s 9 I n .empty), .int .i64 0])/\uB W w':=fun n h0 hn W hW=>by
  refine zbv W s ⟨9,none,0,0, .empty,I,0,n,vzero, .empty⟩ ⟨by dsimp only;omega,by dsimp only;omega,by dsimp only;omega,by dsimp only;omega,by dsimp only;omega,by dsimp only;omega,by dsimp only;omega,by dsimp only;omega,Nat.zero_le _,Nat.zero_le _⟩ hs (hT.below hW) ?_
  show tCheck s 9 I n=0
  rw [tCheck,hNN,if_neg (by decide),if_neg (by omega),if_neg (by omega)]
 have HD1:=qh (hcd (N - I) (by omega) (by omega));have HD2:=qh (hcd J (by omega) (by omega))
 rw [hNN] at q3
 rw [ha] at q1 q3 q4
 rw [hb] at q1 q2 q4
 obtain ⟨D1,hD1⟩:∃D,textDo s 9 I (N - I) .empty=D:=⟨_,rfl⟩
 obtain ⟨D2,hD2⟩:∃D,textDo s 9 I J .empty=D:=⟨_,rfl⟩
 rw [hD1] at HD1 q3
 rw [hD2] at HD2 q4
 have hR:partT s I J=s.extract a b:=by rw [partT, <-Int.natCast_add,Int.toNat_natCast,Int.toNat_natCast,ha,hb]
 rw [hR]
 have hni:(I:Int)<N:=by omega
 have e3:(a:Int)+s.size - D2.size=(b:Int):=by omega
 have b1: -9223372036854775808<=(N:Int) - I/\(N:Int) - I<=9223372036854775807:=by omega
 have b2: -9223372036854775808<=(a:Int)+s.size/\(a:Int)+s.size<=9223372036854775807:=by omega
 have b3: -9223372036854775808<=(b:Int)/\(b:Int)<=9223372036854775807:=by omega
 have HW1:=qh (Xv b1);have HW2:=qh (Xv b2)
 have HW3:=qh (show wrap64 ((a:Int)+s.size - D2.size)=(b:Int) by rw [e3];exact Xv b3)
 have HQ1:=qh q1;have HQ2:=qh q2;have HQ3:=qh q3;have HQ4:=qh q4
 clear b1 b2 b3 e3 q1 q2 q3 q4 h1 hIJ hs hNs
 clear hD1 hD2 hR ha hb hNN hN hcd hT
 go_enter Tryz.func105,Tryz.ntmps105
 go_wp2_with fail
 refine (HLN.out _ (Below.refl _ _)).mono ?_
 rintro e W1 ⟨rfl,hb1⟩
 have HB1:=qh hb1
 clear hb1
 go_upto_region 4 with fail
 have w1:=HW1.out
 go_wp2_with fail
 clear w1
 refine (HD1.out _ HB1.out).mono ?_
 rintro e W2 ⟨rfl,hb2⟩
 have HB2:=qh (HB1.out.trans (hb2.mono HB1.out.size))
 clear hb2
 go_wp2_with fail
 refine (HD2.out _ HB2.out).mono ?_
 rintro e W3 ⟨rfl,hb3⟩
 have HB3:=qh (HB2.out.trans (hb3.mono HB2.out.size))
 clear hb3
 go_upto_region 6 with fail
 have w2:=HW2.out;have w3:=HW3.out;have q1:=HQ1.out;have q2:=HQ2.out;have q3:=HQ3.out
 go_wp2_with fail
 go_returns
 exact ⟨rfl,HB3.out⟩
theorem zjn {tmps:Array Value} {W:World} {b:Nat} {d:CC} (ht:tmps[4]? =some (.pointer (some ⟨b,0,none⟩))) (h:BC W b (ccells d)):
 (results Tryz.f65 tmps).run Tryz.prog W= .ok (.agg #[.int .u8 d.k, .slice d.pa d.pl d.pc, .string d.key, .int .i64 d.i, .int .i64 d.j, .int .i64 d.n, .int .u8 d.v.k, .int .i64 d.v.n, .string d.v.s, .slice d.v.la d.v.ll d.v.lc, .slice d.v.oa d.v.ol d.v.oc, .string d.s]) W:=by
 obtain ⟨r0,r1,r2,r3,r4,r5,r6,r7,r8,r9,r10,r11⟩:=row12 h.at_
 simp [results,Tryz.results65,go_sem,ht,r0,r1,r2,r3,r4,r5,r6,r7,r8,r9,r10,r11]
theorem zg3 {P:Program} (w:World) {ops:Array Oper} {rest:List Oper} {o:Oper} {a:Act} {Q:Exit->Act->World->Prop} (hgd:o.guard=none) (s x:Operand) (t:TypeId)
 (ho:o.op= .call { callee:= .builtin .append,args:= #[s,x],argTypes:= #[t,t] })
 (e:TypeId) (i:TypeInfo) (ht:P.underlying t=some (.slice e)) (hi:P.info? e=some i)
 (hs:a.eval s= .slice none 0 0) (c:Nat)
 (hx:a.eval x= .slice none 0 c)
 (h:wpList P ops Q rest (a.put o.dst (.slice none 0 0)) w):wpList P ops Q (o::rest) a w:=
 wpList_plain hgd fun _ hK=>by
  have hr:(Builtin.append_ #[t,t] o.type #[.slice none 0 0, .slice none 0 c]).run P w= .ok (.slice none 0 0) w:=by
   simp [Builtin.append_,run_underlying ht,sizeOf,typeInfo,hi,Builtin.lenOf,Builtin.firstCells]
  unfold Oper.wp execOp
  simp only [ho,resolve,invoke,builtin,Sem.run_bind,Sem.run_pure,Result.andThen_ok,List.map_toArray,List.map_cons,List.map_nil,hs,hx,hr]
  exact hK _ _ h
theorem IsSteps.cells {w:World} {B:Nat} {p:List St} {a:Option Addr} {n c:Nat} (h:IsSteps w B p a n c) (hB:B<=w.heap.size):
 (a=none->n=0/\p= [])/\∀ad,a=some ad->∀W,uB w W->∀j u,(p.flatMap scells)[j]? =some u->W.cell? (ad.add j)=some u:=by
 delta uB
 obtain ⟨h1,h2,h3,h4,b,o,h5,h6⟩:=h
 have hfl:(p.flatMap scells).length=n*3:=by rw [Zn scells 3 (fun _=>rfl),h1]
 refine ⟨fun e=> ?_,fun ad e W hW j u hj=> ?_⟩
 .have h0:n=0:=by
   by_cases h0:0<n
   .rw [e] at h5;cases (h5 h0).1
   .omega
  exact ⟨h0,List.length_eq_zero_iff.1 (by omega)⟩
 .have hj2:=(List.getElem?_eq_some_iff.1 hj).1
  have hn:0<n:=by omega
  obtain ⟨ha,hb⟩:=h5 hn
  rw [e] at ha;injection ha with ha;subst ha
  have hi:j / 3<p.length:=by omega
  have hd:j=j / 3*3+j % 3:=by omega
  have hm:j % 3<3:=by omega
  rw [hd,Yv scells 3 (fun _=>rfl) _ (j / 3) (j % 3) hi hm] at hj
  obtain ⟨g1,g2⟩:=h6 (j / 3) hi
  rw [Addr.add_lit,hd, <-Nat.add_assoc]
  refine Za hW ?_ (Nat.lt_of_lt_of_le hb hB)
  obtain ⟨m,hmm⟩:∃m,j % 3=m:=⟨_,rfl⟩
  rw [hmm] at hj hm ⊢
  match m,hm with
  |0,_=>rw [<-hj];exact g1.c0
  |1,_=>rw [<-hj];exact g1.c1
  |2,_=>rw [<-hj];exact g1.c2
theorem zqd (p:List St):∀u ∈ p.flatMap scells,u.oneCell'=true:=fun u hu=>by
 obtain ⟨v,_,hv⟩:=List.mem_flatMap.1 hu
 simp only [scells,List.mem_cons,List.mem_nil_iff,or_false] at hv
 rcases hv with rfl|rfl|rfl<;>rfl
theorem CY.made2 {w W1 W:World} {p:List St} {xv:V} {cc:CC} {f:VC} (h1:BC W w.heap.size (ccells cc)) (h2:BC W (w.heap.size+1) (ccells czero)) (hz:w.heap.size+2<=W1.heap.size) (hst:IsSteps (only (fun k=>w.heap.size+2<=k) W) W.heap.size p cc.pa cc.pl cc.pc) (hvl:IsVal (only (fun k=>W1.heap.size<=k) W) W.heap.size xv f) (hb:uB w W):
 CY w (((((W.setCell ⟨w.heap.size,6,none⟩ (.int .u8 f.k)).setCell ⟨w.heap.size,7,none⟩ (.int .i64 f.n)).setCell ⟨w.heap.size,8,none⟩ (.string f.s)).setCell ⟨w.heap.size,9,none⟩ (.slice f.la f.ll f.lc)).setCell ⟨w.heap.size,10,none⟩ (.slice f.oa f.ol f.oc)) p xv { cc with v:=f } :=by
 have st:RStep W (((((W.setCell ⟨w.heap.size,6,none⟩ (.int .u8 f.k)).setCell ⟨w.heap.size,7,none⟩ (.int .i64 f.n)).setCell ⟨w.heap.size,8,none⟩ (.string f.s)).setCell ⟨w.heap.size,9,none⟩ (.slice f.la f.ll f.lc)).setCell ⟨w.heap.size,10,none⟩ (.slice f.oa f.ol f.oc)) w.heap.size:=(((RStep.self.trans RStep.self).trans RStep.self).trans RStep.self).trans RStep.self
 have hsh:∀B,w.heap.size+2<=B->Shows (only (fun k=>B<=k) W) (only (fun k=>w.heap.size+2<=k) _) W.heap.size:=fun B hB=>Zd fun k hk hl=>⟨by omega,st.block k hl (by omega)⟩
 refine ⟨((((h1.set (i:=6) (x:= .int .u8 f.k) (by simp [ccells])).set (i:=7) (x:= .int .i64 f.n) (by simp [ccells])).set (i:=8) (x:= .string f.s) (by simp [ccells])).set (i:=9) (x:= .slice f.la f.ll f.lc) (by simp [ccells])).set (i:=10) (x:= .slice f.oa f.ol f.oc) (by simp [ccells]),h2.next st (by omega),(hst.sub (hsh _ (Nat.le_refl _))).more st.size,(hvl.sub (hsh _ hz)).more st.size,hb.trans (st.lowC (Nat.le_refl _) (by have:=hb.size;omega))⟩
theorem zds {tmps:Array Value} {W:World} {b:Nat} {d:CC} (ht:tmps[2]? =some (.pointer (some ⟨b,0,none⟩))) (h:BC W b (ccells d)):
 (results Tryz.f68 tmps).run Tryz.prog W= .ok (.agg #[.int .u8 d.k, .slice d.pa d.pl d.pc, .string d.key, .int .i64 d.i, .int .i64 d.j, .int .i64 d.n, .int .u8 d.v.k, .int .i64 d.v.n, .string d.v.s, .slice d.v.la d.v.ll d.v.lc, .slice d.v.oa d.v.ol d.v.oc, .string d.s]) W:=by
 obtain ⟨r0,r1,r2,r3,r4,r5,r6,r7,r8,r9,r10,r11⟩:=row12 h.at_
 simp [results,Tryz.results68,go_sem,ht,r0,r1,r2,r3,r4,r5,r6,r7,r8,r9,r10,r11]
set_option maxRecDepth 100000 in
theorem zn2 (w:World) (cm:Cm) (cc:CC) (hc:IsComp w w.heap.size cm cc):
 uP 68 #[.agg (uC cc)] w fun e w'=>(∃d:CC,e= .returned (.agg #[.int .u8 d.k, .slice d.pa d.pl d.pc, .string d.key, .int .i64 d.i, .int .i64 d.j, .int .i64 d.n, .int .u8 d.v.k, .int .i64 d.v.n, .string d.v.s, .slice d.v.la d.v.ll d.v.lc, .slice d.v.oa d.v.ol d.v.oc, .string d.s])/\IsComp (only (fun k=>w.heap.size<=k) w') w'.heap.size cm d)/\uB w w':=by
 delta uC uB uP
 cases hc with
 |mk cc p xv hcb hp hxv=>
 obtain ⟨i0,hi0,hz0,hz1,hz2⟩:=info_parts zaa
 obtain ⟨hpn,hps⟩:=hp.cells (Nat.le_refl _)
 have hpl:=hp.len
 have HBN:=qh (show ∀s ∈ p,s.Bnd from fun s hs=>by
  obtain ⟨_,_,_,_,b,o,_,h6⟩:=hp
  obtain ⟨i,hi,rfl⟩:=List.getElem_of_mem hs
  exact (h6 i hi).2)
 have hfew:=hp.few
 have hfl:(p.flatMap scells).length=cc.pl*3:=by rw [Zn scells 3 (fun _=>rfl),hpl]
 have HXV:=qh hxv
 have HPN:=qh hpn;have HPS:=qh hps;have HPL:=qh hpl;have HFL:=qh hfl
 have hbx:∀t1 t2,BC ((w.alloc (.cells (uC cc) t1)).alloc (.cells (ccells czero).toArray t2)) w.heap.size (ccells cc)/\BC ((w.alloc (.cells (uC cc) t1)).alloc (.cells (ccells czero).toArray t2)) (w.heap.size+1) (ccells czero)/\uB w ((w.alloc (.cells (uC cc) t1)).alloc (.cells (ccells czero).toArray t2))/\((w.alloc (.cells (uC cc) t1)).alloc (.cells (ccells czero).toArray t2)).heap.size=w.heap.size+2:=fun t1 t2=>by
  obtain ⟨q1,q2,q3,q4⟩:=Qw w #[.int .u8 cc.k, .slice cc.pa cc.pl cc.pc, .string cc.key, .int .i64 cc.i, .int .i64 cc.j, .int .i64 cc.n, .int .u8 cc.v.k, .int .i64 cc.v.n, .string cc.v.s, .slice cc.v.la cc.v.ll cc.v.lc, .slice cc.v.oa cc.v.ol cc.v.oc, .string cc.s] (ccells czero).toArray t1 t2
  exact ⟨q1,by simpa using q2,q3,by simp⟩
 have HBX:=qh (hbx 39 39)
 have HCB:=qh hcb
 clear hbx hp hxv hcb hpn hps hpl hfl
 go_enter Tryz.func68,Tryz.ntmps68
 generalize hQ0:bodyPost _ _ _=Q0
 have HQ:=qh hQ0
 clear hQ0
 go_upto_region 1 with fail
 obtain ⟨w1,hw1⟩:∃w1,(w.alloc (.cells (uC cc) 39)).alloc (.cells (ccells czero).toArray 39)=w1:=⟨_,rfl⟩
 rw [hw1] at HBX
 rw [show (w.alloc (.cells (uC cc) 39)).alloc (.cells #[.int .u8 0, .slice none 0 0, .string { data:= #[] }, .int .i64 0, .int .i64 0, .int .i64 0, .int .u8 0, .int .i64 0, .string { data:= #[] }, .slice none 0 0, .slice none 0 0, .string { data:= #[] }] 39)=w1 from hw1]
 obtain ⟨hA1,hA2,hba,hsz⟩:=HBX.out
 have HSZ:=qh hsz
 have HWA:=qh hba
 have x1:=hA1.at_ 1 _ rfl;have f1:=hA1.fr 1;have x6:=hA1.at_ 6 _ rfl;have f6:=hA1.fr 6;have x7:=hA1.at_ 7 _ rfl;have f7:=hA1.fr 7;have x8:=hA1.at_ 8 _ rfl;have f8:=hA1.fr 8;have x9:=hA1.at_ 9 _ rfl;have f9:=hA1.fr 9;have x10:=hA1.at_ 10 _ rfl;have f10:=hA1.fr 10;have zx:=hA1.lt
 have HA1:=qh hA1;have HA2:=qh hA2
 clear hA1 hA2 hba hsz hw1 HBX
 cases hpa:cc.pa with
 | none=>
   obtain ⟨g1,g2⟩:=HPN.out hpa
   obtain ⟨a,ha⟩:∃a:Option Addr,a=none:=⟨_,rfl⟩
   obtain ⟨m,hm⟩:∃m:Nat,m=0:=⟨_,rfl⟩
   obtain ⟨c,hc⟩:∃c:Nat,c=0:=⟨_,rfl⟩
   have HST:Hid (IsSteps (only (fun k=>w.heap.size+2<=k) w1) w1.heap.size p a m c):=qh (by
    rw [g2,ha,hm,hc];exact ⟨rfl,Nat.le_refl _,by decide,by decide,0,0,fun h=>absurd h (by decide),fun i h=>absurd h (by simp)⟩)
   rw [hpa,g1] at x1
   clear g1 g2 hpa hfew HPN HPS HPL HFL HBN
   go_upto_region 3 with (at_builtin;refine zg3 _ rfl (.tmp 4) (.tmp 6) 27 (by rfl) 77 i0 Tryz.underlying27 hi0 (by rfl) cc.pc (by rfl) ?_)
   rw [show (Value.slice none 0 0)= .slice a m c by rw [ha,hm,hc]]
   clear ha hm hc
   go_wp2_with fail
   obtain ⟨wB,hwB⟩:∃wB,w1.setCell ⟨w.heap.size,1,none⟩ (.slice a m c)=wB:=⟨_,rfl⟩
   rw [hwB]
   have st1:RStep w1 wB w.heap.size:=by rw [<-hwB];exact RStep.self
   have hB1:BC wB w.heap.size (ccells { cc with pa:=a,pl:=m,pc:=c }):=by rw [<-hwB];exact HA1.out.set (i:=1) (x:= .slice a m c) (by simp [ccells])
   have hB2:BC wB (w.heap.size+1) (ccells czero):=HA2.out.next st1 (by omega)
   have hbB:uB w wB:=HWA.out.trans (st1.lowC (Nat.le_refl _) (by have:=HWA.out.size;omega))
   have hsB:w.heap.size+2<=wB.heap.size:=by have:=HA2.out.lt;have:=st1.size;omega
   have hstB:IsSteps (only (fun k=>w.heap.size+2<=k) wB) wB.heap.size p a m c:=(HST.out.sub (Zd fun k hk hl=>⟨hk,st1.block k hl (by omega)⟩)).more st1.size
   have HB1:=qh hB1;have HB2:=qh hB2;have HBB:=qh hbB;have HSB:=qh hsB;have HSTB:=qh hstB
   have y6:=hB1.at_ 6 _ rfl;have y7:=hB1.at_ 7 _ rfl;have y8:=hB1.at_ 8 _ rfl;have y9:=hB1.at_ 9 _ rfl;have y10:=hB1.at_ 10 _ rfl;have zB:=hB1.lt
   clear st1 hB1 hB2 hbB hsB hstB hwB HA1 HA2 HWA HST
   clear x1 f1 x6 f6 x7 f7 x8 f8 x9 f9 x10 f10 zx
   go_wp2_with fail
   refine (Yp xv wB cc.v (HXV.out.later_ HBB.out)).mono ?_
   rintro e w2 ⟨⟨f,rfl,hvl⟩,hb2⟩
   have h1:=HB1.out.keep hb2 HB1.out.lt
   have h2:=HB2.out.keep hb2 HB2.out.lt
   have HST2:=qh (K9 HSTB.out hb2)
   have HVL2:=qh hvl
   have HB2W:=qh (HBB.out.trans (hb2.mono HBB.out.size))
   have H1:=qh h1;have H2:=qh h2
   have x6:=h1.at_ 6 _ rfl;have f6:=h1.fr 6;have x7:=h1.at_ 7 _ rfl;have f7:=h1.fr 7;have x8:=h1.at_ 8 _ rfl;have f8:=h1.fr 8;have x9:=h1.at_ 9 _ rfl;have f9:=h1.fr 9;have x10:=h1.at_ 10 _ rfl;have f10:=h1.fr 10;have zx:=h1.lt
   clear h1 h2 hb2 hvl HB1 HB2 HSTB y6 y7 y8 y9 y10 zB
   go_upto_region 5 with fail
   have HCY:=qh (CY.made2 (W1:=wB) H1.out H2.out HSB.out HST2.out HVL2.out HB2W.out)
   obtain ⟨W5,hW5⟩:∃W5,((((w2.setCell ⟨w.heap.size,6,none⟩ (.int .u8 f.k)).setCell ⟨w.heap.size,7,none⟩ (.int .i64 f.n)).setCell ⟨w.heap.size,8,none⟩ (.string f.s)).setCell ⟨w.heap.size,9,none⟩ (.slice f.la f.ll f.lc)).setCell ⟨w.heap.size,10,none⟩ (.slice f.oa f.ol f.oc)=W5:=⟨_,rfl⟩
   rw [hW5] at HCY ⊢
   have h5:=HCY.out
   obtain ⟨u0,u1,u2,u3,u4,u5,u6,u7,u8,u9,u10,u11⟩:=row12 h5.one.at_
   have y0:=h5.two.at_ 0 _ rfl;have g0:=h5.two.fr 0;have y1:=h5.two.at_ 1 _ rfl;have g1:=h5.two.fr 1;have y2:=h5.two.at_ 2 _ rfl;have g2:=h5.two.fr 2;have y3:=h5.two.at_ 3 _ rfl;have g3:=h5.two.fr 3;have y4:=h5.two.at_ 4 _ rfl;have g4:=h5.two.fr 4;have y5:=h5.two.at_ 5 _ rfl;have g5:=h5.two.fr 5;have y6:=h5.two.at_ 6 _ rfl;have g6:=h5.two.fr 6;have y7:=h5.two.at_ 7 _ rfl;have g7:=h5.two.fr 7;have y8:=h5.two.at_ 8 _ rfl;have g8:=h5.two.fr 8;have y9:=h5.two.at_ 9 _ rfl;have g9:=h5.two.fr 9;have y10:=h5.two.at_ 10 _ rfl;have g10:=h5.two.fr 10;have y11:=h5.two.at_ 11 _ rfl;have g11:=h5.two.fr 11
   have zu:=h5.one.lt;have zy:=h5.two.lt
   clear h5 hW5 H1 H2 HST2 HVL2 HB2W HSB HBB
   clear x6 f6 x7 f7 x8 f8 x9 f9 x10 f10 zx
   go_wp2_with fail
   rw [<-HQ.out]
   have hq:=HCB.out
   have st:=Yk W5 (w.heap.size+1) { cc with pa:=a,pl:=m,pc:=c,v:=f }
   refine ⟨rfl,_,zds rfl (Zp (c0:=czero) HCY.out.two { cc with pa:=a,pl:=m,pc:=c,v:=f }),⟨{ cc with pa:=a,pl:=m,pc:=c,v:=f },rfl, ?_⟩,Below.setC HCY.out.below (by omega) { cc with pa:=a,pl:=m,pc:=c,v:=f }⟩
   refine .mk { cc with pa:=a,pl:=m,pc:=c,v:=f } p _ ⟨hq.k0,hq.k1,hq.i0,hq.i1,hq.j0,hq.j1,hq.n0,hq.n1,hq.key1,hq.s1⟩ ?_ ?_
   .exact (HCY.out.st.sub (Zd (S':=fun k=>w.heap.size<=k) fun k hk hl=>⟨by omega,st.block k hl (by omega)⟩)).more st.size
   .exact (HCY.out.vl.sub (Zd (S':=fun k=>w.heap.size<=k) fun k hk hl=>⟨by omega,st.block k hl (by omega)⟩)).more st.size
 | some ad=>
   have HPS2:=qh (HPS.out ad hpa)
   rw [hpa] at x1
   clear hpa HPN HPS
   go_upto_region 3 with (at_builtin;refine Z1 _ rfl (.tmp 4) (.tmp 6) 27 (by rfl) w1.heap.size 77 i0 _ 3 32 Tryz.underlying27 hi0 hz0 hz1 hz2 rfl (by omega) (.slice none 0 0) 0 [] (by rfl) ⟨rfl, .inl ⟨rfl,rfl⟩⟩ (some ad) cc.pl cc.pc (p.flatMap scells) (by rfl) ⟨(fun h=>by cases h),fun ad' h j u hj=>by injection h with h;subst h;exact HPS2.out _ HWA.out j u hj⟩ HFL.out (zqd p) (by unfold maxLen;omega) (by omega) (Nat.le_refl _) ?_;intro v' wq hown hgrow)
   obtain ⟨a,m,c,rfl,hst⟩:=zba (S:=fun k=>w.heap.size+2<=k) (by rw [<-HPL.out];simpa using hown) (fun k hk=>by have:=HSZ.out;omega) HBN.out (by rw [<-HPL.out];exact hfew)
   have hbq:uB w1 wq:=(Below.refl _ _).grown hgrow (Nat.le_refl _) (by intro k hk;simp [Value.ownBlock] at hk)
   have HST:=qh hst
   replace HWA:=qh (HWA.out.trans (hbq.mono HWA.out.size))
   clear x1 f1 x6 f6 x7 f7 x8 f8 x9 f9 x10 f10 zx
   have hA1:=HA1.out.keep hbq HA1.out.lt
   have hA2:=HA2.out.keep hbq HA2.out.lt
   have x1:=hA1.at_ 1 _ rfl;have f1:=hA1.fr 1;have x6:=hA1.at_ 6 _ rfl;have f6:=hA1.fr 6;have x7:=hA1.at_ 7 _ rfl;have f7:=hA1.fr 7;have x8:=hA1.at_ 8 _ rfl;have f8:=hA1.fr 8;have x9:=hA1.at_ 9 _ rfl;have f9:=hA1.fr 9;have x10:=hA1.at_ 10 _ rfl;have f10:=hA1.fr 10;have zx:=hA1.lt
   replace HA1:=qh hA1
   replace HA2:=qh hA2
   clear hA1 hA2 hst hown hgrow hbq HPS2 HPL HFL HBN hfew
   go_wp2_with fail
   obtain ⟨wB,hwB⟩:∃wB,wq.setCell ⟨w.heap.size,1,none⟩ (.slice a m c)=wB:=⟨_,rfl⟩
   rw [hwB]
   have st1:RStep wq wB w.heap.size:=by rw [<-hwB];exact RStep.self
   have hB1:BC wB w.heap.size (ccells { cc with pa:=a,pl:=m,pc:=c }):=by rw [<-hwB];exact HA1.out.set (i:=1) (x:= .slice a m c) (by simp [ccells])
   have hB2:BC wB (w.heap.size+1) (ccells czero):=HA2.out.next st1 (by omega)
   have hbB:uB w wB:=HWA.out.trans (st1.lowC (Nat.le_refl _) (by have:=HWA.out.size;omega))
   have hsB:w.heap.size+2<=wB.heap.size:=by have:=HA2.out.lt;have:=st1.size;omega
   have hstB:IsSteps (only (fun k=>w.heap.size+2<=k) wB) wB.heap.size p a m c:=(HST.out.sub (Zd fun k hk hl=>⟨hk,st1.block k hl (by omega)⟩)).more st1.size
   have HB1:=qh hB1;have HB2:=qh hB2;have HBB:=qh hbB;have HSB:=qh hsB;have HSTB:=qh hstB
   have y6:=hB1.at_ 6 _ rfl;have y7:=hB1.at_ 7 _ rfl;have y8:=hB1.at_ 8 _ rfl;have y9:=hB1.at_ 9 _ rfl;have y10:=hB1.at_ 10 _ rfl;have zB:=hB1.lt
   clear st1 hB1 hB2 hbB hsB hstB hwB HA1 HA2 HWA HST
   clear x1 f1 x6 f6 x7 f7 x8 f8 x9 f9 x10 f10 zx
   go_wp2_with fail
   refine (Yp xv wB cc.v (HXV.out.later_ HBB.out)).mono ?_
   rintro e w2 ⟨⟨f,rfl,hvl⟩,hb2⟩
   have h1:=HB1.out.keep hb2 HB1.out.lt
   have h2:=HB2.out.keep hb2 HB2.out.lt
   have HST2:=qh (K9 HSTB.out hb2)
   have HVL2:=qh hvl
   have HB2W:=qh (HBB.out.trans (hb2.mono HBB.out.size))
   have H1:=qh h1;have H2:=qh h2
   have x6:=h1.at_ 6 _ rfl;have f6:=h1.fr 6;have x7:=h1.at_ 7 _ rfl;have f7:=h1.fr 7;have x8:=h1.at_ 8 _ rfl;have f8:=h1.fr 8;have x9:=h1.at_ 9 _ rfl;have f9:=h1.fr 9;have x10:=h1.at_ 10 _ rfl;have f10:=h1.fr 10;have zx:=h1.lt
   clear h1 h2 hb2 hvl HB1 HB2 HSTB y6 y7 y8 y9 y10 zB
   go_upto_region 5 with fail
   have HCY:=qh (CY.made2 (W1:=wB) H1.out H2.out HSB.out HST2.out HVL2.out HB2W.out)
   obtain ⟨W5,hW5⟩:∃W5,((((w2.setCell ⟨w.heap.size,6,none⟩ (.int .u8 f.k)).setCell ⟨w.heap.size,7,none⟩ (.int .i64 f.n)).setCell ⟨w.heap.size,8,none⟩ (.string f.s)).setCell ⟨w.heap.size,9,none⟩ (.slice f.la f.ll f.lc)).setCell ⟨w.heap.size,10,none⟩ (.slice f.oa f.ol f.oc)=W5:=⟨_,rfl⟩
   rw [hW5] at HCY ⊢
   have h5:=HCY.out
   obtain ⟨u0,u1,u2,u3,u4,u5,u6,u7,u8,u9,u10,u11⟩:=row12 h5.one.at_
   have y0:=h5.two.at_ 0 _ rfl;have g0:=h5.two.fr 0;have y1:=h5.two.at_ 1 _ rfl;have g1:=h5.two.fr 1;have y2:=h5.two.at_ 2 _ rfl;have g2:=h5.two.fr 2;have y3:=h5.two.at_ 3 _ rfl;have g3:=h5.two.fr 3;have y4:=h5.two.at_ 4 _ rfl;have g4:=h5.two.fr 4;have y5:=h5.two.at_ 5 _ rfl;have g5:=h5.two.fr 5;have y6:=h5.two.at_ 6 _ rfl;have g6:=h5.two.fr 6;have y7:=h5.two.at_ 7 _ rfl;have g7:=h5.two.fr 7;have y8:=h5.two.at_ 8 _ rfl;have g8:=h5.two.fr 8;have y9:=h5.two.at_ 9 _ rfl;have g9:=h5.two.fr 9;have y10:=h5.two.at_ 10 _ rfl;have g10:=h5.two.fr 10;have y11:=h5.two.at_ 11 _ rfl;have g11:=h5.two.fr 11
   have zu:=h5.one.lt;have zy:=h5.two.lt
   clear h5 hW5 H1 H2 HST2 HVL2 HB2W HSB HBB
   clear x6 f6 x7 f7 x8 f8 x9 f9 x10 f10 zx
   go_wp2_with fail
   rw [<-HQ.out]
   have hq:=HCB.out
   have st:=Yk W5 (w.heap.size+1) { cc with pa:=a,pl:=m,pc:=c,v:=f }
   refine ⟨rfl,_,zds rfl (Zp (c0:=czero) HCY.out.two { cc with pa:=a,pl:=m,pc:=c,v:=f }),⟨{ cc with pa:=a,pl:=m,pc:=c,v:=f },rfl, ?_⟩,Below.setC HCY.out.below (by omega) { cc with pa:=a,pl:=m,pc:=c,v:=f }⟩
   refine .mk { cc with pa:=a,pl:=m,pc:=c,v:=f } p _ ⟨hq.k0,hq.k1,hq.i0,hq.i1,hq.j0,hq.j1,hq.n0,hq.n1,hq.key1,hq.s1⟩ ?_ ?_
   .exact (HCY.out.st.sub (Zd (S':=fun k=>w.heap.size<=k) fun k hk hl=>⟨by omega,st.block k hl (by omega)⟩)).more st.size
   .exact (HCY.out.vl.sub (Zd (S':=fun k=>w.heap.size<=k) fun k hk hl=>⟨by omega,st.block k hl (by omega)⟩)).more st.size
theorem IsVal.flds {w:World} {B:Nat} {x:V} {c:VC} (h:IsVal w B x c):IsFields w B x.os c.oa c.ol c.oc:=by
 obtain ⟨k,n,s,l,o,rfl⟩:=x.eta
 exact h.lists.2.2.2.2.2
set_option maxRecDepth 100000 in
theorem zhi (w:World) (x:V) (xc:VC) (hx:IsVal w w.heap.size x xc) (p:List St) (xv:V) (cc:CC) (hcb:cc.Bnd) (hp:IsSteps w w.heap.size p cc.pa cc.pl cc.pc) (hk:kindsP x cc.k cc.i cc.j cc.n cc.key=0) (hkk:1<=cc.k/\cc.k<=9) (hsz:cc.s.size<=1000000000000) (hxz:xc.s.size<=1000000000000) (hT:Tabs w):
 uP 65 #[.agg (uV xc), .agg (uC cc)] w (TNPost w (turnP x ⟨cc.k,p,cc.key,cc.i,cc.j,cc.n,xv,cc.s⟩)):=by
 delta uV uC uP
 obtain ⟨DM,hDM⟩:∃DM,turnP x ⟨cc.k,p,cc.key,cc.i,cc.j,cc.n,xv,cc.s⟩=DM:=⟨_,rfl⟩
 rw [hDM]
 have HDM:=qh hDM;have HX:=qh hx;have HP:=qh hp;have HCB:=qh hcb
 have HKD:=qh hk;have HSZ:=qh hsz;have HXZ:=qh hxz;have HTT:=qh hT
 clear hDM hx hp hcb hk hsz hxz hT
 have HBX:∀t0 t1 t2 t3,IT w ((((w.alloc (.cells (uV xc) t0)).alloc (.cells (uC cc) t1)).alloc (.cells #[.int .u8 0, .slice none 0 0, .string { data:= #[] }, .int .i64 0, .int .i64 0, .int .i64 0, .int .u8 0, .int .i64 0, .string { data:= #[] }, .slice none 0 0, .slice none 0 0, .string { data:= #[] }] t2)).alloc (.cells #[.int .u8 cc.k, .slice cc.pa cc.pl cc.pc, .string { data:= #[] }, .int .i64 0, .int .i64 0, .int .i64 0, .int .u8 0, .int .i64 0, .string { data:= #[] }, .slice none 0 0, .slice none 0 0, .string { data:= #[] }] t3)) xc cc (ccat cc.k cc 0):=fun t0 t1 t2 t3=>by
  obtain ⟨q1,q2,q3,q4,q5⟩:=Kz w #[.int .u8 xc.k, .int .i64 xc.n, .string xc.s, .slice xc.la xc.ll xc.lc, .slice xc.oa xc.ol xc.oc] #[.int .u8 cc.k, .slice cc.pa cc.pl cc.pc, .string cc.key, .int .i64 cc.i, .int .i64 cc.j, .int .i64 cc.n, .int .u8 cc.v.k, .int .i64 cc.v.n, .string cc.v.s, .slice cc.v.la cc.v.ll cc.v.lc, .slice cc.v.oa cc.v.ol cc.v.oc, .string cc.s] #[.int .u8 0, .slice none 0 0, .string { data:= #[] }, .int .i64 0, .int .i64 0, .int .i64 0, .int .u8 0, .int .i64 0, .string { data:= #[] }, .slice none 0 0, .slice none 0 0, .string { data:= #[] }] #[.int .u8 cc.k, .slice cc.pa cc.pl cc.pc, .string { data:= #[] }, .int .i64 0, .int .i64 0, .int .i64 0, .int .u8 0, .int .i64 0, .string { data:= #[] }, .slice none 0 0, .slice none 0 0, .string { data:= #[] }] t0 t1 t2 t3
  exact ⟨q1,q2,q3,q4,q5⟩
 replace HBX:=qh (HBX 36 39 39 39)
 go_enter Tryz.func65,Tryz.ntmps65
 generalize hQ0:bodyPost _ _ _=Q0
 have HQ:=qh hQ0
 clear hQ0
 go_upto_region 2 with fail
 obtain ⟨w1,hw1⟩:∃w1,(((w.alloc (.cells (uV xc) 36)).alloc (.cells (uC cc) 39)).alloc (.cells #[.int .u8 0, .slice none 0 0, .string { data:= #[] }, .int .i64 0, .int .i64 0, .int .i64 0, .int .u8 0, .int .i64 0, .string { data:= #[] }, .slice none 0 0, .slice none 0 0, .string { data:= #[] }] 39)).alloc (.cells #[.int .u8 cc.k, .slice cc.pa cc.pl cc.pc, .string { data:= #[] }, .int .i64 0, .int .i64 0, .int .i64 0, .int .u8 0, .int .i64 0, .string { data:= #[] }, .slice none 0 0, .slice none 0 0, .string { data:= #[] }] 39)=w1:=⟨_,rfl⟩
 rw [hw1] at HBX ⊢
 obtain ⟨K,hK⟩:∃K,cc.k=K:=⟨_,rfl⟩
 rw [hK] at HBX HDM HKD hkk
 have b0:w1.cell? ⟨w.heap.size+1,0,none⟩=some (.int .u8 K):=by rw [<-hK];exact HBX.out.c.at_ 0 _ rfl
 clear hK
 have zx:=HBX.out.x.lt;have zc:=HBX.out.c.lt;have zd:=HBX.out.d.lt
 clear hw1
 go_upto_block 0 with fail
 go_cut [] from 6 (fun wc=>∃dc,IT w wc xc cc dc/\IsComp wc wc.heap.size DM dc)
 case rest=>
  obtain ⟨dc,hit,hic⟩:=hcut
  have HIC:=qh hic;have HIT:=qh hit
  obtain ⟨e0,e1,e2,e3,e4,e5,e6,e7,e8,e9,e10,e11⟩:=row12 hit.d.at_
  have ze:=hit.d.lt
  clear hit hic b0 zx zc zd
  go_wp2_with fail
  refine (zn2 _ _ _ HIC.out).mono ?_
  rintro e w9 ⟨⟨f,rfl,hf⟩,hb9⟩
  have HI9:=qh (HIT.out.keep hb9)
  have HF:=qh hf
  have zW:=HIT.out.r.lt
  obtain ⟨r0,r1,r2,r3,r4,r5,r6,r7,r8,r9,r10,r11⟩:=row12 HI9.out.r.at_
  have zr:=HI9.out.r.lt;have gr:=HI9.out.r.fr
  clear hf hb9 e0 e1 e2 e3 e4 e5 e6 e7 e8 e9 e10 e11 ze HIC HIT
  go_wp2_with fail
  rw [<-HQ.out]
  exact ⟨rfl,_,zjn rfl (Zp (c0:=czero) HI9.out.r f),⟨f,rfl,Ku HF.out zW (by omega) f⟩,Below.setC HI9.out.below (by omega) f⟩
 case first=>
  rcases (show K=1∨K=4∨K=7∨K=8∨K=5∨K=6∨K=9∨K=2∨K=3 by omega) with rfl|rfl|rfl|rfl|rfl|rfl|rfl|rfl|rfl
  .have hib:=HBX.out
   have b5:=hib.c.at_ 5 _ rfl;have d5:=hib.d.at_ 5 _ rfl;have gd:=hib.d.fr
   clear hib
   go_wp2_with fail
   go_meet
   have hit:=HBX.out.cell 5 (.int .i64 (wrap64 (-cc.n))) (d2:=⟨1,cc.pa,cc.pl,cc.pc, .empty,0,0,wrap64 (-cc.n),vzero, .empty⟩) rfl (by decide)
   refine ⟨_,hit, ?_⟩
   rw [<-HDM.out,show turnP x ⟨1,p,cc.key,cc.i,cc.j,cc.n,xv,cc.s⟩=⟨1,p, .empty,0,0,wrap64 (-cc.n),V.none, .empty⟩ from rfl]
   exact Z6 (cc:=cc) 1 0 (by omega) ⟨by omega,by omega⟩ (HP.out.later_ hit.below) 0 (wrap64 (-cc.n)) (by omega) ⟨Kq _,Jz _⟩ .empty .empty (by decide) (by decide) V.none vzero (Zq _ _)
  .have hib:=HBX.out
   have b3:=hib.c.at_ 3 _ rfl;have d0:=hib.d.at_ 0 _ rfl;have d3:=hib.d.at_ 3 _ rfl;have gd:=hib.d.fr
   clear hib
   go_wp2_with fail
   go_meet
   have hit:=(HBX.out.cell 0 (.int .u8 5) (d2:=⟨5,cc.pa,cc.pl,cc.pc, .empty,0,0,0,vzero, .empty⟩) rfl (by decide)).cell 3 (.int .i64 cc.i) (d2:=⟨5,cc.pa,cc.pl,cc.pc, .empty,cc.i,0,0,vzero, .empty⟩) rfl (by decide)
   refine ⟨_,hit, ?_⟩
   rw [<-HDM.out,show turnP x ⟨4,p,cc.key,cc.i,cc.j,cc.n,xv,cc.s⟩=⟨5,p, .empty,cc.i,0,0,V.none, .empty⟩ from rfl]
   exact Z6 (cc:=cc) 5 cc.i (by omega) ⟨HCB.out.i0,HCB.out.i1⟩ (HP.out.later_ hit.below) 0 0 (by omega) (by omega) .empty .empty (by decide) (by decide) V.none vzero (Zq _ _)
  .have hib:=HBX.out
   have b3:=hib.c.at_ 3 _ rfl;have b4:=hib.c.at_ 4 _ rfl;have d3:=hib.d.at_ 3 _ rfl;have d4:=hib.d.at_ 4 _ rfl;have gd:=hib.d.fr
   clear hib
   go_wp2_with fail
   go_meet
   have hit:=(HBX.out.cell 3 (.int .i64 cc.j) (d2:=⟨7,cc.pa,cc.pl,cc.pc, .empty,cc.j,0,0,vzero, .empty⟩) rfl (by decide)).cell 4 (.int .i64 cc.i) (d2:=⟨7,cc.pa,cc.pl,cc.pc, .empty,cc.j,cc.i,0,vzero, .empty⟩) rfl (by decide)
   refine ⟨_,hit, ?_⟩
   rw [<-HDM.out,show turnP x ⟨7,p,cc.key,cc.i,cc.j,cc.n,xv,cc.s⟩=⟨7,p, .empty,cc.j,cc.i,0,V.none, .empty⟩ from rfl]
   exact Z6 (cc:=cc) 7 cc.j (by omega) ⟨HCB.out.j0,HCB.out.j1⟩ (HP.out.later_ hit.below) cc.i 0 ⟨HCB.out.i0,HCB.out.i1⟩ (by omega) .empty .empty (by decide) (by decide) V.none vzero (Zq _ _)
  .have hib:=HBX.out
   have b3:=hib.c.at_ 3 _ rfl;have d0:=hib.d.at_ 0 _ rfl;have d3:=hib.d.at_ 3 _ rfl;have gd:=hib.d.fr
   clear hib
   go_upto_region 29 with fail
   have him:=(HBX.out.cell 0 (.int .u8 9) (d2:=⟨9,cc.pa,cc.pl,cc.pc, .empty,0,0,0,vzero, .empty⟩) rfl (by decide)).cell 3 (.int .i64 cc.i) (d2:=⟨9,cc.pa,cc.pl,cc.pc, .empty,cc.i,0,0,vzero, .empty⟩) rfl (by decide)
   obtain ⟨wm,hwm⟩:∃wm,((w1.setCell ⟨w.heap.size+1+1+1,0,none⟩ (.int .u8 9)).setCell ⟨w.heap.size+1+1+1,3,none⟩ (.int .i64 cc.i))=wm:=⟨_,rfl⟩
   rw [hwm] at him ⊢
   have HIM:=qh him
   clear hwm
   have b11:=him.c.at_ 11 _ rfl;have zm:=him.c.lt
   clear b0 b3 d0 d3 gd zx zc zd
   clear him
   go_wp2_with fail
   refine (zam _ _ HSZ.out (HTT.out.below HIM.out.below)).mono ?_
   rintro e w2 ⟨rfl,hb2⟩
   have hi2:=HIM.out.keep hb2
   have HI2:=qh hi2
   have d5:=hi2.d.at_ 5 _ rfl;have gd:=hi2.d.fr;have zd:=hi2.d.lt
   clear hi2 hb2
   go_wp2_with fail
   go_meet
   have hit:=HI2.out.cell 5 (.int .i64 (textN cc.s)) (d2:=⟨9,cc.pa,cc.pl,cc.pc, .empty,cc.i,0,textN cc.s,vzero, .empty⟩) rfl (by decide)
   refine ⟨_,hit, ?_⟩
   rw [<-HDM.out,show turnP x ⟨8,p,cc.key,cc.i,cc.j,cc.n,xv,cc.s⟩=⟨9,p, .empty,cc.i,0,textN cc.s,V.none, .empty⟩ from rfl]
   exact Z6 (cc:=cc) 9 cc.i (by omega) ⟨HCB.out.i0,HCB.out.i1⟩ (HP.out.later_ hit.below) 0 (textN cc.s) (by omega) (by have:=(Yo cc.s).2;have:=HSZ.out;unfold textN;omega) .empty .empty (by decide) (by decide) V.none vzero (Zq _ _)
  .have hib:=HBX.out
   have b3:=hib.c.at_ 3 _ rfl;have d0:=hib.d.at_ 0 _ rfl;have d3:=hib.d.at_ 3 _ rfl;have gd:=hib.d.fr
   clear hib
   obtain ⟨I,hI⟩:∃I:Nat,cc.i=I:=⟨cc.i.toNat,by have:=(Xp (by decide) HKD.out).1;omega⟩
   have hIl:I<x.ls.length:=by have:=(Xp (by decide) HKD.out).2;omega
   have hll:=HX.out.vals.len
   obtain ⟨vb,vo,f,hvp,hla,hvB,hva,hiv⟩:=HX.out.vals.get (k:=I) (by omega)
   have HIV:=qh hiv;have HII:=qh hI;have HLA:=qh hla
   have hI0:¬((I:Int)<0):=by omega
   have hIn:(I:Int)<(xc.ll:Int):=by omega
   clear hiv hla hI hll
   go_upto_region 19 with fail
   have him:=(HBX.out.cell 0 (.int .u8 4) (d2:=⟨4,cc.pa,cc.pl,cc.pc, .empty,0,0,0,vzero, .empty⟩) rfl (by decide)).cell 3 (.int .i64 cc.i) (d2:=⟨4,cc.pa,cc.pl,cc.pc, .empty,cc.i,0,0,vzero, .empty⟩) rfl (by decide)
   obtain ⟨wm,hwm⟩:∃wm,((w1.setCell ⟨w.heap.size+1+1+1,0,none⟩ (.int .u8 4)).setCell ⟨w.heap.size+1+1+1,3,none⟩ (.int .i64 cc.i))=wm:=⟨_,rfl⟩
   rw [hwm] at him ⊢
   have HIM:=qh him
   clear hwm
   have hvW:=Nat.lt_of_lt_of_le hvB him.below.size
   replace hva:=hva.keep him.below hvB
   have b3':=him.c.at_ 3 _ rfl;have x3:=him.x.at_ 3 _ rfl
   rw [HII.out] at b3'
   rw [HLA.out] at x3
   have zm:=him.c.lt;have zn:=him.x.lt;have zd':=him.d.lt;have gd':=him.d.fr
   have d6:=him.d.at_ 6 _ rfl;have d7:=him.d.at_ 7 _ rfl;have d8:=him.d.at_ 8 _ rfl;have d9:=him.d.at_ 9 _ rfl;have d10:=him.d.at_ 10 _ rfl
   have v0:=hva.c0;have v1:=hva.c1;have v2:=hva.c2;have v3:=hva.c3;have v4:=hva.c4
   clear b0 b3 d0 d3 gd zx zc zd
   clear him
   go_wp2_with fail
   go_meet
   have hit:=HIM.out.val f
   refine ⟨_,hit, ?_⟩
   rw [<-HDM.out,show turnP x ⟨5,p,cc.key,cc.i,cc.j,cc.n,xv,cc.s⟩=⟨4,p, .empty,cc.i,0,0,x.ls.getD cc.i.toNat V.none, .empty⟩ from rfl]
   exact Z6 (cc:=cc) 4 cc.i (by omega) ⟨HCB.out.i0,HCB.out.i1⟩ (HP.out.later_ hit.below) 0 0 (by omega) (by omega) .empty .empty (by decide) (by decide) _ f (by rw [HII.out,Int.toNat_natCast,List.getD_eq_getElem?_getD,List.getElem?_eq_getElem hvp];exact HIV.out.later_ hit.below)
  .have hib:=HBX.out
   have b3:=hib.c.at_ 3 _ rfl;have d0:=hib.d.at_ 0 _ rfl;have d3:=hib.d.at_ 3 _ rfl;have gd:=hib.d.fr
   clear hib
   obtain ⟨I,hI⟩:∃I:Nat,cc.i=I:=⟨cc.i.toNat,by have:=(Xp (by decide) HKD.out).1;omega⟩
   have hIl:I<x.ls.length:=by have:=(Xp (by decide) HKD.out).2;omega
   have hll:=HX.out.vals.len
   obtain ⟨vb,vo,f,hvp,hla,hvB,hva,hiv⟩:=HX.out.vals.get (k:=I) (by omega)
   have HIV:=qh hiv;have HII:=qh hI;have HLA:=qh hla
   have hI0:¬((I:Int)<0):=by omega
   have hIn:(I:Int)<(xc.ll:Int):=by omega
   clear hiv hla hI hll
   go_upto_region 22 with fail
   have him:=HBX.out.cell 3 (.int .i64 cc.i) (d2:=⟨6,cc.pa,cc.pl,cc.pc, .empty,cc.i,0,0,vzero, .empty⟩) rfl (by decide)
   obtain ⟨wm,hwm⟩:∃wm,(w1.setCell ⟨w.heap.size+1+1+1,3,none⟩ (.int .i64 cc.i))=wm:=⟨_,rfl⟩
   rw [hwm] at him ⊢
   have HIM:=qh him
   clear hwm
   have hvW:=Nat.lt_of_lt_of_le hvB him.below.size
   replace hva:=hva.keep him.below hvB
   have b3':=him.c.at_ 3 _ rfl;have x3:=him.x.at_ 3 _ rfl
   rw [HII.out] at b3'
   rw [HLA.out] at x3
   have zm:=him.c.lt;have zn:=him.x.lt;have zd':=him.d.lt;have gd':=him.d.fr
   have d6:=him.d.at_ 6 _ rfl;have d7:=him.d.at_ 7 _ rfl;have d8:=him.d.at_ 8 _ rfl;have d9:=him.d.at_ 9 _ rfl;have d10:=him.d.at_ 10 _ rfl
   have v0:=hva.c0;have v1:=hva.c1;have v2:=hva.c2;have v3:=hva.c3;have v4:=hva.c4
   clear b0 b3 d0 d3 gd zx zc zd
   clear him
   go_wp2_with fail
   go_meet
   have hit:=HIM.out.val f
   refine ⟨_,hit, ?_⟩
   rw [<-HDM.out,show turnP x ⟨6,p,cc.key,cc.i,cc.j,cc.n,xv,cc.s⟩=⟨6,p, .empty,cc.i,0,0,x.ls.getD cc.i.toNat V.none, .empty⟩ from rfl]
   exact Z6 (cc:=cc) 6 cc.i (by omega) ⟨HCB.out.i0,HCB.out.i1⟩ (HP.out.later_ hit.below) 0 0 (by omega) (by omega) .empty .empty (by decide) (by decide) _ f (by rw [HII.out,Int.toNat_natCast,List.getD_eq_getElem?_getD,List.getElem?_eq_getElem hvp];exact HIV.out.later_ hit.below)
  .have hib:=HBX.out
   have b3:=hib.c.at_ 3 _ rfl;have d0:=hib.d.at_ 0 _ rfl;have d3:=hib.d.at_ 3 _ rfl;have gd:=hib.d.fr
   clear hib
   obtain ⟨ht3,hi0,hin,hn1⟩:=zb4 HKD.out
   have hxs:=HX.out.strs
   obtain ⟨I,hI⟩:∃I:Nat,cc.i=I:=⟨cc.i.toNat,by omega⟩
   obtain ⟨J,hJ⟩:∃J:Nat,cc.n=J:=⟨cc.n.toNat,by omega⟩
   have HPT:=qh fun W hW=>zk8 W xc.s HXZ.out hW I J (by omega) (by rw [hxs];omega)
   have HIJ:=qh (show cc.i=I/\cc.n=J from ⟨hI,hJ⟩)
   have HXS:=qh hxs
   clear hI hJ hxs ht3 hi0 hin hn1
   go_upto_region 33 with fail
   have him:=(HBX.out.cell 0 (.int .u8 8) (d2:=⟨8,cc.pa,cc.pl,cc.pc, .empty,0,0,0,vzero, .empty⟩) rfl (by decide)).cell 3 (.int .i64 cc.i) (d2:=⟨8,cc.pa,cc.pl,cc.pc, .empty,cc.i,0,0,vzero, .empty⟩) rfl (by decide)
   obtain ⟨wm,hwm⟩:∃wm,((w1.setCell ⟨w.heap.size+1+1+1,0,none⟩ (.int .u8 8)).setCell ⟨w.heap.size+1+1+1,3,none⟩ (.int .i64 cc.i))=wm:=⟨_,rfl⟩
   rw [hwm] at him ⊢
   have HIM:=qh him
   clear hwm
   have x2:=him.x.at_ 2 _ rfl;have b3':=him.c.at_ 3 _ rfl;have b5:=him.c.at_ 5 _ rfl;have zm:=him.c.lt;have zn:=him.x.lt
   rw [HIJ.out.1] at b3'
   rw [HIJ.out.2] at b5
   clear b0 b3 d0 d3 gd zx zc zd
   clear him
   go_wp2_with fail
   refine (HPT.out _ (HTT.out.below HIM.out.below)).mono ?_
   rintro e w2 ⟨rfl,hb2⟩
   have hi2:=HIM.out.keep hb2
   have HI2:=qh hi2
   have d11:=hi2.d.at_ 11 _ rfl;have gd:=hi2.d.fr;have zd:=hi2.d.lt
   clear hi2 hb2
   go_wp2_with fail
   go_meet
   have hit:=HI2.out.cell 11 (.string (partT xc.s I J)) (d2:=⟨8,cc.pa,cc.pl,cc.pc, .empty,cc.i,0,0,vzero,partT xc.s I J⟩) rfl (by decide)
   refine ⟨_,hit, ?_⟩
   rw [<-HDM.out,show turnP x ⟨9,p,cc.key,cc.i,cc.j,cc.n,xv,cc.s⟩=⟨8,p, .empty,cc.i,0,0,V.none,partT x.str cc.i cc.n⟩ from rfl]
   rw [show partT x.str cc.i cc.n=partT xc.s I J by rw [HIJ.out.1,HIJ.out.2,HXS.out]]
   exact Z6 (cc:=cc) 8 cc.i (by omega) ⟨HCB.out.i0,HCB.out.i1⟩ (HP.out.later_ hit.below) 0 0 (by omega) (by omega) .empty (partT xc.s I J) (by decide) (by have:=HXZ.out;rw [partT,ByteArray.size_extract];omega) V.none vzero (Zq _ _)
  .have hib:=HBX.out
   obtain ⟨x0,x1,x2,x3,x4⟩:=row5 hib.x.at_
   have b2:=hib.c.at_ 2 _ rfl
   obtain ⟨FK,hFK⟩:∃FK,fieldK x.os cc.key=FK:=⟨_,rfl⟩
   obtain ⟨FI,hFI⟩:∃FI,fieldIs x.os cc.key=FI:=⟨_,rfl⟩
   have HCF:Hid (uP 75 #[.agg (uV xc), .string cc.key] w1 fun e w'=>e= .returned (.tuple #[.int .i64 (FK:Int), .bool FI])/\uB w1 w'):=qh (by
    rw [<-hFK, <-hFI];exact Yi w1 _ _ _ _ _ _ _ _ _ _ _ (HX.out.flds.later_ HBX.out.below))
   have HFI:=qh hFI;have HFK:=qh hFK
   clear hib b0 hFK hFI
   go_wp2_with fail
   refine HCF.out.mono ?_
   rintro e w2 ⟨rfl,hb2⟩
   have hi2:=HBX.out.keep hb2
   have HI2:=qh hi2
   clear x0 x1 x2 x3 x4 b2 zx zc zd
   have b2:=hi2.c.at_ 2 _ rfl;have d2:=hi2.d.at_ 2 _ rfl;have d0:=hi2.d.at_ 0 _ rfl;have gd:=hi2.d.fr;have zd:=hi2.d.lt;have zc:=hi2.c.lt
   clear hi2 hb2
   cases FI with
   | false=>
     go_wp2_with fail
     go_meet
     have hit:=(HI2.out.cell 2 (.string cc.key) (d2:=⟨2,cc.pa,cc.pl,cc.pc,cc.key,0,0,0,vzero, .empty⟩) rfl (by decide)).cell 0 (.int .u8 3) (d2:=⟨3,cc.pa,cc.pl,cc.pc,cc.key,0,0,0,vzero, .empty⟩) rfl (by decide)
     refine ⟨_,hit, ?_⟩
     rw [<-HDM.out]
     exact Qo 2 (cc:= { cc with i:=0 }) rfl ⟨HCB.out.k0,HCB.out.k1,by dsimp only;omega,by dsimp only;omega,HCB.out.j0,HCB.out.j1,HCB.out.n0,HCB.out.n1,HCB.out.key1,HCB.out.s1⟩ (HP.out.later_ hit.below) (.inr ⟨HFI.out,rfl⟩)
   | true=>
     go_upto_region 12 with fail
     have him:=((HI2.out.cell 2 (.string cc.key) (d2:=⟨2,cc.pa,cc.pl,cc.pc,cc.key,0,0,0,vzero, .empty⟩) rfl (by decide)).cell 0 (.int .u8 3) (d2:=⟨3,cc.pa,cc.pl,cc.pc,cc.key,0,0,0,vzero, .empty⟩) rfl (by decide)).cell 0 (.int .u8 2) (d2:=⟨2,cc.pa,cc.pl,cc.pc,cc.key,0,0,0,vzero, .empty⟩) rfl (by decide)
     obtain ⟨wm,hwm⟩:∃wm,(((w2.setCell ⟨w.heap.size+1+1+1,2,none⟩ (.string cc.key)).setCell ⟨w.heap.size+1+1+1,0,none⟩ (.int .u8 3)).setCell ⟨w.heap.size+1+1+1,0,none⟩ (.int .u8 2))=wm:=⟨_,rfl⟩
     have HWM:=qh hwm
     rw [hwm] at him ⊢
     have HIM:=qh him
     have hlt:FK<x.os.length:=by rw [<-HFK.out];exact Z8 HFI.out
     have hol:=HX.out.flds.len
     obtain ⟨vb,vo,f,hvp,hoa,hvB,_,_,hva,hiv⟩:=HX.out.flds.get (k:=FK) (by omega)
     have HIV:=qh hiv
     have hK0:¬((FK:Int)<0):=by omega
     have hKn:(FK:Int)<(xc.ol:Int):=by omega
     have hvW:=Nat.lt_of_lt_of_le hvB him.below.size
     replace hva:=hva.keep him.below hvB
     have x4:=him.x.at_ 4 _ rfl
     rw [hoa] at x4
     clear hoa hiv hol hwm b2 d2 d0 gd zd zc
     have zn:=him.x.lt;have zd:=him.d.lt;have gd:=him.d.fr
     have d6:=him.d.at_ 6 _ rfl;have d7:=him.d.at_ 7 _ rfl;have d8:=him.d.at_ 8 _ rfl;have d9:=him.d.at_ 9 _ rfl;have d10:=him.d.at_ 10 _ rfl
     have v0:=hva.c0;have v1:=hva.c1;have v2:=hva.c2;have v3:=hva.c3;have v4:=hva.c4
     clear him
     go_wp2_with fail
     go_meet
     have hit:=HIM.out.val f
     refine ⟨_,hit, ?_⟩
     rw [<-HDM.out]
     refine Qo 2 (cc:= { cc with i:=0 }) rfl ⟨HCB.out.k0,HCB.out.k1,by dsimp only;omega,by dsimp only;omega,HCB.out.j0,HCB.out.j1,HCB.out.n0,HCB.out.n1,HCB.out.key1,HCB.out.s1⟩ (HP.out.later_ hit.below) (.inl ⟨HFI.out,f,rfl, ?_⟩)
     have hz:=HIV.out.later_ hit.below
     show IsVal _ _ (x.os.getD (fieldK x.os cc.key) (.empty,V.none)).2 f
     rw [HFK.out,List.getD_eq_getElem?_getD,List.getElem?_eq_getElem hvp]
     exact hz
  .have hib:=HBX.out
   obtain ⟨x0,x1,x2,x3,x4⟩:=row5 hib.x.at_
   have b2:=hib.c.at_ 2 _ rfl
   obtain ⟨FK,hFK⟩:∃FK,fieldK x.os cc.key=FK:=⟨_,rfl⟩
   obtain ⟨FI,hFI⟩:∃FI,fieldIs x.os cc.key=FI:=⟨_,rfl⟩
   have HCF:Hid (uP 75 #[.agg (uV xc), .string cc.key] w1 fun e w'=>e= .returned (.tuple #[.int .i64 (FK:Int), .bool FI])/\uB w1 w'):=qh (by
    rw [<-hFK, <-hFI];exact Yi w1 _ _ _ _ _ _ _ _ _ _ _ (HX.out.flds.later_ HBX.out.below))
   have HFI:=qh hFI;have HFK:=qh hFK
   clear hib b0 hFK hFI
   go_wp2_with fail
   refine HCF.out.mono ?_
   rintro e w2 ⟨rfl,hb2⟩
   have hi2:=HBX.out.keep hb2
   have HI2:=qh hi2
   clear x0 x1 x2 x3 x4 b2 zx zc zd
   have b2:=hi2.c.at_ 2 _ rfl;have d2:=hi2.d.at_ 2 _ rfl;have d0:=hi2.d.at_ 0 _ rfl;have gd:=hi2.d.fr;have zd:=hi2.d.lt;have zc:=hi2.c.lt
   clear hi2 hb2
   cases FI with
   | false=>
     go_wp2_with fail
     go_meet
     have hit:=(HI2.out.cell 2 (.string cc.key) (d2:=⟨3,cc.pa,cc.pl,cc.pc,cc.key,0,0,0,vzero, .empty⟩) rfl (by decide)).cell 0 (.int .u8 3) (d2:=⟨3,cc.pa,cc.pl,cc.pc,cc.key,0,0,0,vzero, .empty⟩) rfl (by decide)
     refine ⟨_,hit, ?_⟩
     rw [<-HDM.out]
     exact Qo 3 (cc:= { cc with i:=0 }) rfl ⟨HCB.out.k0,HCB.out.k1,by dsimp only;omega,by dsimp only;omega,HCB.out.j0,HCB.out.j1,HCB.out.n0,HCB.out.n1,HCB.out.key1,HCB.out.s1⟩ (HP.out.later_ hit.below) (.inr ⟨HFI.out,rfl⟩)
   | true=>
     go_upto_region 12 with fail
     have him:=((HI2.out.cell 2 (.string cc.key) (d2:=⟨3,cc.pa,cc.pl,cc.pc,cc.key,0,0,0,vzero, .empty⟩) rfl (by decide)).cell 0 (.int .u8 3) (d2:=⟨3,cc.pa,cc.pl,cc.pc,cc.key,0,0,0,vzero, .empty⟩) rfl (by decide)).cell 0 (.int .u8 2) (d2:=⟨2,cc.pa,cc.pl,cc.pc,cc.key,0,0,0,vzero, .empty⟩) rfl (by decide)
     obtain ⟨wm,hwm⟩:∃wm,(((w2.setCell ⟨w.heap.size+1+1+1,2,none⟩ (.string cc.key)).setCell ⟨w.heap.size+1+1+1,0,none⟩ (.int .u8 3)).setCell ⟨w.heap.size+1+1+1,0,none⟩ (.int .u8 2))=wm:=⟨_,rfl⟩
     have HWM:=qh hwm
     rw [hwm] at him ⊢
     have HIM:=qh him
     have hlt:FK<x.os.length:=by rw [<-HFK.out];exact Z8 HFI.out
     have hol:=HX.out.flds.len
     obtain ⟨vb,vo,f,hvp,hoa,hvB,_,_,hva,hiv⟩:=HX.out.flds.get (k:=FK) (by omega)
     have HIV:=qh hiv
     have hK0:¬((FK:Int)<0):=by omega
     have hKn:(FK:Int)<(xc.ol:Int):=by omega
     have hvW:=Nat.lt_of_lt_of_le hvB him.below.size
     replace hva:=hva.keep him.below hvB
     have x4:=him.x.at_ 4 _ rfl
     rw [hoa] at x4
     clear hoa hiv hol hwm b2 d2 d0 gd zd zc
     have zn:=him.x.lt;have zd:=him.d.lt;have gd:=him.d.fr
     have d6:=him.d.at_ 6 _ rfl;have d7:=him.d.at_ 7 _ rfl;have d8:=him.d.at_ 8 _ rfl;have d9:=him.d.at_ 9 _ rfl;have d10:=him.d.at_ 10 _ rfl
     have v0:=hva.c0;have v1:=hva.c1;have v2:=hva.c2;have v3:=hva.c3;have v4:=hva.c4
     clear him
     go_wp2_with fail
     go_meet
     have hit:=HIM.out.val f
     refine ⟨_,hit, ?_⟩
     rw [<-HDM.out]
     refine Qo 3 (cc:= { cc with i:=0 }) rfl ⟨HCB.out.k0,HCB.out.k1,by dsimp only;omega,by dsimp only;omega,HCB.out.j0,HCB.out.j1,HCB.out.n0,HCB.out.n1,HCB.out.key1,HCB.out.s1⟩ (HP.out.later_ hit.below) (.inl ⟨HFI.out,f,rfl, ?_⟩)
     have hz:=HIV.out.later_ hit.below
     show IsVal _ _ (x.os.getD (fieldK x.os cc.key) (.empty,V.none)).2 f
     rw [HFK.out,List.getD_eq_getElem?_getD,List.getElem?_eq_getElem hvp]
     exact hz
theorem zae {tmps:Array Value} {W:World} {b:Nat} {d:CC} {x:Value} (ht:tmps[4]? =some (.pointer (some ⟨b,0,none⟩))) (hx:tmps[5]? =some x) (h:BC W b (ccells d)):
 (results Tryz.f28 tmps).run Tryz.prog W= .ok (.tuple #[.agg #[.int .u8 d.k, .slice d.pa d.pl d.pc, .string d.key, .int .i64 d.i, .int .i64 d.j, .int .i64 d.n, .int .u8 d.v.k, .int .i64 d.v.n, .string d.v.s, .slice d.v.la d.v.ll d.v.lc, .slice d.v.oa d.v.ol d.v.oc, .string d.s],x]) W:=by
 obtain ⟨r0,r1,r2,r3,r4,r5,r6,r7,r8,r9,r10,r11⟩:=row12 h.at_
 simp [results,Tryz.results28,go_sem,ht,hx,r0,r1,r2,r3,r4,r5,r6,r7,r8,r9,r10,r11]
set_option maxRecDepth 100000 in
theorem zgp (w:World) (cv:VC) (v:V) (hv:IsVal w w.heap.size v cv) (hw:v.weight<=1000000000000) (p:List St) (xv:V) (cc:CC) (hcb:cc.Bnd) (hp:IsSteps w w.heap.size p cc.pa cc.pl cc.pc) (hxv:IsVal w w.heap.size xv cc.v) (hxw:xv.weight<=4611686018427387904) (hsz:cc.s.size<=1000000000000) (hT:Tabs w):
 uP 28 #[.agg (uV cv), .agg (uC cc)] w (TdPost .i64 w (turnedP v ⟨cc.k,p,cc.key,cc.i,cc.j,cc.n,xv,cc.s⟩)):=by
 delta uV uC uP
 have HCK:Hid (∀W,uB w W->uP 34 #[.agg (uV cv), .agg (uC cc)] W fun e w'=>e= .returned (.int .i64 (checkP v ⟨cc.k,p,cc.key,cc.i,cc.j,cc.n,xv,cc.s⟩))/\uB W w'):=qh fun W hW=>X6 W cv.k cv.n cv.s cv.la cv.ll cv.lc cv.oa cv.ol cv.oc v (hv.later_ hW) hw p xv cc hcb (hp.later_ hW) (hxv.later_ hW) hxw (hT.below hW)
 have HGT:Hid (∀x,getP v p=some x->∀W,uB w W->uP 38 #[.agg (uV cv), .slice cc.pa cc.pl cc.pc] W fun e w'=>(∃d:VC,e= .returned (.tuple #[.agg #[.int .u8 d.k, .int .i64 d.n, .string d.s, .slice d.la d.ll d.lc, .slice d.oa d.ol d.oc], .int .i64 0])/\IsVal w' w'.heap.size x d)/\uB W w'):=qh fun x hx W hW=>by
  have:=X3 W cv.k cv.n cv.s cv.la cv.ll cv.lc cv.oa cv.ol cv.oc v (hv.later_ hW) p cc.pa cc.pl cc.pc (hp.later_ hW)
  rw [hx] at this
  exact this.mono fun e w' h=>⟨h.1.imp fun d hd=>⟨hd.1,hd.2.sub (Zk _ _ _)⟩,h.2⟩
 have HTN:Hid (∀x (d:VC) W,getP v p=some x->checkP v ⟨cc.k,p,cc.key,cc.i,cc.j,cc.n,xv,cc.s⟩=0->uB w W->IsVal W W.heap.size x d->uP 65 #[.agg (uV d), .agg (uC cc)] W (TNPost W (turnP x ⟨cc.k,p,cc.key,cc.i,cc.j,cc.n,xv,cc.s⟩))):=qh fun x d W hx hc hW hI=>by
  obtain ⟨hs,x',hg,hk⟩:=Zu hc
  obtain rfl:x=x':=Option.some.inj (hx.symm.trans hg)
  exact zhi W x d hI p xv cc hcb (hp.later_ hW) hk (Qq hs) (by show cc.s.size<=_;omega) (by rw [hI.strs];have:=(V.str_weight x).1;have:=Zz p hg;omega) (hT.below hW)
 have HSD:Hid (∀x (d:CC) W,x.v.weight<=v.weight->uB w W->IsComp W W.heap.size x d->uP 66 #[.agg (uC d)] W fun e w'=>e= .returned (.bool (cmSound x))/\uB W w'):=qh fun x d W hx hW hI=>ze0 x W (hT.below hW) d hI (by omega)
 have HB:=qh (TB.start w cv cc 36 39 39)
 obtain ⟨R,hR⟩:∃R,turnedP v ⟨cc.k,p,cc.key,cc.i,cc.j,cc.n,xv,cc.s⟩=R:=⟨_,rfl⟩
 rw [hR]
 unfold turnedP at hR
 obtain ⟨E,hE⟩:∃E,checkP v ⟨cc.k,p,cc.key,cc.i,cc.j,cc.n,xv,cc.s⟩=E:=⟨_,rfl⟩
 rw [hE] at HCK hR
 have HR:=qh hR;have HE:=qh hE
 clear hv hw hp hxv hxw hT hsz hcb hR hE
 go_enter Tryz.func28,Tryz.ntmps28
 generalize hQ0:bodyPost _ _ _=Q0
 have HQ:=qh hQ0
 clear hQ0
 go_wp2_with fail
 refine (HCK.out _ HB.out.below).mono ?_
 rintro e w1 ⟨rfl,hb1⟩
 have hB1:=HB.out.keep hb1
 have HB1:=qh hB1
 obtain ⟨v0,v1,v2,v3,v4⟩:=row5 hB1.v.at_
 obtain ⟨c0,c1,c2,c3,c4,c5,c6,c7,c8,c9,c10,c11⟩:=row12 hB1.c.at_
 obtain ⟨r0,r1,r2,r3,r4,r5,r6,r7,r8,r9,r10,r11⟩:=row12 hB1.r.at_
 have gr:=hB1.r.fr;have zv:=hB1.v.lt;have zc:=hB1.c.lt;have zr:=hB1.r.lt
 clear hB1 hb1 HCK HB
 by_cases hE0:E=0
 .subst hE0
  have hR:=HR.out
  rw [if_pos rfl] at hR
  obtain ⟨hs,x,hg,hk⟩:=Zu HE.out
  dsimp only at hg
  rw [hg,Option.getD_some] at hR
  obtain ⟨S,hS⟩:∃S,cmSound (turnP x ⟨cc.k,p,cc.key,cc.i,cc.j,cc.n,xv,cc.s⟩)=S:=⟨_,rfl⟩
  rw [hS] at hR
  have HRT:Hid (S=true->(turnP x ⟨cc.k,p,cc.key,cc.i,cc.j,cc.n,xv,cc.s⟩,0)=R):=qh fun e=>by rw [e,if_pos rfl] at hR;exact hR
  have HRF:Hid (S=false->(Cm.none,60)=R):=qh fun e=>by rw [e,if_neg (by decide)] at hR;exact hR
  have HS:=qh hS;have HG:=qh hg
  have HXW:=qh (Zz p hg)
  clear hR hs hk hS HR hg
  go_wp2_with fail
  refine (HGT.out x HG.out _ HB1.out.below).mono ?_
  rintro e w2 ⟨⟨d,rfl,hd⟩,hb2⟩
  obtain ⟨w3,hw3⟩:∃w3,w2.alloc (.cells (uV d) 36)=w3:=⟨_,rfl⟩
  have hb3:uB w2 w3:=by rw [<-hw3];exact Zo w2 _
  have hx3:BC w3 w2.heap.size (vcells d):=by rw [<-hw3];exact BC.start w2 (uV d) 36
  have hB3:=(HB1.out.keep hb2).keep hb3
  have HD3:=qh (hd.later_ hb3)
  have HB3:=qh hB3
  clear v0 v1 v2 v3 v4 c0 c1 c2 c3 c4 c5 c6 c7 c8 c9 c10 c11 r0 r1 r2 r3 r4 r5 r6 r7 r8 r9 r10 r11 gr zv zc zr
  obtain ⟨v0,v1,v2,v3,v4⟩:=row5 hx3.at_
  obtain ⟨c0,c1,c2,c3,c4,c5,c6,c7,c8,c9,c10,c11⟩:=row12 hB3.c.at_
  have zv:=hx3.lt;have zc:=hB3.c.lt
  clear hB3 hb2 hd hx3 hb3 HB1
  go_upto_region 5 with fail
  clear hw3
  go_wp2_with fail
  refine (HTN.out x d _ HG.out HE.out HB3.out.below HD3.out).mono ?_
  rintro e w4 ⟨⟨f,rfl,hf⟩,hb4⟩
  obtain ⟨w5,hw5⟩:∃w5,w4.alloc (.cells (uC f) 39)=w5:=⟨_,rfl⟩
  have hb5:uB w4 w5:=by rw [<-hw5];exact Zo w4 _
  have hx5:BC w5 w4.heap.size (ccells f):=by rw [<-hw5];exact BC.start w4 (uC f) 39
  have hB5:=(HB3.out.keep hb4).keep hb5
  have hz4:=HB3.out.r.lt
  have HF5:Hid (IsComp (only (fun k=>w.heap.size+1+1+1<=k) w5) w5.heap.size (turnP x ⟨cc.k,p,cc.key,cc.i,cc.j,cc.n,xv,cc.s⟩) f):=qh (Xr hf rfl hb5.size fun k hk hl=>⟨by omega,hb5.block k hl⟩)
  have HB5:=qh hB5;have HX5:=qh hx5
  clear v0 v1 v2 v3 v4 c0 c1 c2 c3 c4 c5 c6 c7 c8 c9 c10 c11 zv zc
  obtain ⟨f0,f1,f2,f3,f4,f5,f6,f7,f8,f9,f10,f11⟩:=row12 hx5.at_
  have zf:=hx5.lt
  clear hB5 hf hx5 hb4 hb5 hz4 HB3 HTN HGT
  go_upto_region 6 with fail
  clear hw5
  go_wp2_with fail
  refine (HSD.out _ f _ (Nat.le_trans (zc3 _ _) HXW.out) HB5.out.below (HF5.out.sub (Zk _ _ _))).mono ?_
  rintro e w6 ⟨rfl,hb6⟩
  rw [HS.out]
  have hB6:=HB5.out.keep hb6
  have hx6:=HX5.out.keep hb6 HX5.out.lt
  have HF6:Hid (IsComp (only (fun k=>w.heap.size+1+1+1<=k) w6) w6.heap.size (turnP x ⟨cc.k,p,cc.key,cc.i,cc.j,cc.n,xv,cc.s⟩) f):=qh (Xr HF5.out rfl hb6.size fun k hk hl=>⟨hk,hb6.block k hl⟩)
  have HB6:=qh hB6
  clear f0 f1 f2 f3 f4 f5 f6 f7 f8 f9 f10 f11 zf
  obtain ⟨f0,f1,f2,f3,f4,f5,f6,f7,f8,f9,f10,f11⟩:=row12 hx6.at_
  obtain ⟨r0,r1,r2,r3,r4,r5,r6,r7,r8,r9,r10,r11⟩:=row12 hB6.r.at_
  have zf:=hx6.lt;have zr:=hB6.r.lt;have gr:=hB6.r.fr
  clear hB6 hx6 hb6 HX5 HF5 HB5 HSD HS
  cases S with
  | true=>
    go_wp2_with fail
    rw [<-HQ.out, <-HRT.out (by trivial)]
    exact ⟨rfl,_,zae rfl rfl (Zp (c0:=czero) HB6.out.r f),⟨f,rfl,Ku HF6.out (by omega) (by omega) f⟩,Below.setC HB6.out.below (by omega) f⟩
  | false=>
    go_wp2_with fail
    rw [<-HQ.out, <-HRF.out (by trivial)]
    exact ⟨rfl,_,zae rfl rfl (Zp (c0:=czero) HB6.out.r czero),⟨czero,rfl,Q3 _ _⟩,Below.setC HB6.out.below (by omega) czero⟩
 .have f0:(E==0)=false:=by simpa using hE0
  go_wp2_with fail
  rw [<-HQ.out, <-HR.out,if_neg hE0]
  exact ⟨rfl,_,zae rfl rfl (Zp (c0:=czero) HB1.out.r czero),⟨czero,rfl,Q3 _ _⟩,Below.setC HB1.out.below (by omega) czero⟩
theorem Zs (w:World) (o:Obj):uB w (w.alloc o):=(Below.refl _ _).alloc (Nat.le_refl _) o
theorem Ke (w:World) (cv:VC) (v:V) (hv:IsVal w w.heap.size v cv) (hw:v.weight<=1000000000000) (cm:Cm) (cc:CC) (hc:IsComp w w.heap.size cm cc) (hxw:cm.v.weight<=4611686018427387904) (hsz:cm.s.size<=1000000000000) (hT:Tabs w):
 uP 27 #[.agg (uV cv), .agg (uC cc)] w (TdPost .u16 w (turnedP v cm)):=by
 delta uV uC uP
 cases hc with
 |mk cc p xv hcb hp hxv=>exact Qa w cv v hv hw p xv cc hcb hp hxv hxw hsz hT
theorem zdv (w:World) (cv:VC) (v:V) (hv:IsVal w w.heap.size v cv) (hw:v.weight<=1000000000000) (cm:Cm) (cc:CC) (hc:IsComp w w.heap.size cm cc) (hxw:cm.v.weight<=4611686018427387904) (hsz:cm.s.size<=1000000000000) (hT:Tabs w):
 uP 28 #[.agg (uV cv), .agg (uC cc)] w (TdPost .i64 w (turnedP v cm)):=by
 delta uV uC uP
 cases hc with
 |mk cc p xv hcb hp hxv=>exact zgp w cv v hv hw p xv cc hcb hp hxv hxw hsz hT
theorem zee (v:V) (c:Cm):0<=(turnedP v c).2/\(turnedP v c).2<=60:=by
 unfold turnedP
 have:=ze7 v c
 (repeat' split)<;>simp<;>omega
theorem zme {w:World} {ac:AC} {x:Ac} (h:IsAct w w.heap.size x ac):IsActs (w.alloc (.cells #[.slice ac.pa ac.pl ac.pc, .int .u8 ac.k, .int .i64 ac.i, .int .i64 ac.j, .int .i64 ac.n, .string ac.s, .slice ac.va ac.vl ac.vc] 25)) (w.alloc (.cells #[.slice ac.pa ac.pl ac.pc, .int .u8 ac.k, .int .i64 ac.i, .int .i64 ac.j, .int .i64 ac.n, .string ac.s, .slice ac.va ac.vl ac.vc] 25)).heap.size [x] (some ⟨w.heap.size,0,none⟩) 1 1:=by
 have hB:=BC.start w (uA ac) 25
 have h2:IsAct (w.alloc (.cells (uA ac) 25)) (w.alloc (.cells (uA ac) 25)).heap.size x ac:=(h.keep (Zs w _)).more (Zs w _).size
 exact ⟨rfl,Nat.le_refl _,by omega,w.heap.size,0,fun _=>ac,fun _=>⟨rfl,hB.lt⟩,fun i hi=>by
  have h0:i=0:=by simpa using hi
  subst h0
  exact ⟨⟨hB.at_ 0 _ rfl,hB.at_ 1 _ rfl,hB.at_ 2 _ rfl,hB.at_ 3 _ rfl,hB.at_ 4 _ rfl,hB.at_ 5 _ rfl,hB.at_ 6 _ rfl⟩,h2⟩⟩
end Go.Proofs.YtnjgbiachcfigaaGreatDoor
