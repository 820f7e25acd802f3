/-
  Contracts of the functions that the law reaches: conciliatorref09.Turned..
-/
import Derived.Test.YtnjgbiachcfigaaGreatDoorIa39
import Derived.Test.YtnjgbiachcfigaaGreatDoorIa40
namespace Go.Proofs.YtnjgbiachcfigaaGreatDoor
open Go.RowKit
set_option maxHeartbeats 16000000
theorem zab {tmps:Array Value} {W:World} {b:Nat} {d:CC} {x:Value} (ht:tmps[4]? =some (.pointer (some ⟨b,0,none⟩))) (hx:tmps[5]? =some x) (h:BC W b (ccells d)):
 (results Tryz.f28 tmps).run Tryz.prog W= .ok (.tuple #[.agg #[.int .u8 d.k, .slice d.pa d.pl d.pc, .string d.key, .int .i64 d.i, .int .i64 d.j, .int .i64 d.n, .int .u8 d.v.k, .int .i64 d.v.n, .string d.v.s, .slice d.v.la d.v.ll d.v.lc, .slice d.v.oa d.v.ol d.v.oc, .string d.s],x]) W:=by
 obtain ⟨r0,r1,r2,r3,r4,r5,r6,r7,r8,r9,r10,r11⟩:=row12 h.at_
 simp [results,Tryz.results28,go_sem,ht,hx,r0,r1,r2,r3,r4,r5,r6,r7,r8,r9,r10,r11]
set_option maxRecDepth 100000 in
theorem zlh (w:World) (cv:VC) (v:V) (hv:IsVal w w.heap.size v cv) (hw:v.weight<=1000000000000) (p:List St) (xv:V) (cc:CC) (hcb:cc.Bnd) (hp:IsSteps w w.heap.size p cc.pa cc.pl cc.pc) (hxv:IsVal w w.heap.size xv cc.v) (hxw:xv.weight<=4611686018427387904) (hsz:cc.s.size<=1000000000000) (hT:Tabs w):
 uP 28 #[.agg (uV cv), .agg (uC cc)] w (TdPost .i64 w (turnedP v ⟨cc.k,p,cc.key,cc.i,cc.j,cc.n,xv,cc.s⟩)):=by
 delta uV uC uP
 have HCK:Hid (∀W,uB w W->uP 34 #[.agg (uV cv), .agg (uC cc)] W fun e w'=>e= .returned (.int .i64 (checkP v ⟨cc.k,p,cc.key,cc.i,cc.j,cc.n,xv,cc.s⟩))/\uB W w'):=qh fun W hW=>Xx W cv.k cv.n cv.s cv.la cv.ll cv.lc cv.oa cv.ol cv.oc v (hv.later_ hW) hw p xv cc hcb (hp.later_ hW) (hxv.later_ hW) hxw (hT.below hW)
 have HGT:Hid (∀x,getP v p=some x->∀W,uB w W->uP 38 #[.agg (uV cv), .slice cc.pa cc.pl cc.pc] W fun e w'=>(∃d:VC,e= .returned (.tuple #[.agg #[.int .u8 d.k, .int .i64 d.n, .string d.s, .slice d.la d.ll d.lc, .slice d.oa d.ol d.oc], .int .i64 0])/\IsVal w' w'.heap.size x d)/\uB W w'):=qh fun x hx W hW=>by
  have:=Xn W cv.k cv.n cv.s cv.la cv.ll cv.lc cv.oa cv.ol cv.oc v (hv.later_ hW) p cc.pa cc.pl cc.pc (hp.later_ hW)
  rw [hx] at this
  exact this.mono fun e w' h=>⟨h.1.imp fun d hd=>⟨hd.1,hd.2.sub (Zl _ _ _)⟩,h.2⟩
 have HTN:Hid (∀x (d:VC) W,getP v p=some x->checkP v ⟨cc.k,p,cc.key,cc.i,cc.j,cc.n,xv,cc.s⟩=0->uB w W->IsVal W W.heap.size x d->uP 65 #[.agg (uV d), .agg (uC cc)] W (TNPost W (turnP x ⟨cc.k,p,cc.key,cc.i,cc.j,cc.n,xv,cc.s⟩))):=qh fun x d W hx hc hW hI=>by
  obtain ⟨hs,x',hg,hk⟩:=Zw hc
  obtain rfl:x=x':=Option.some.inj (hx.symm.trans hg)
  exact zex W x d hI p xv cc hcb (hp.later_ hW) hk (Qr hs) (by show cc.s.size<=_;omega) (by rw [hI.strs];have:=(V.str_weight x).1;have:=Zy p hg;omega) (hT.below hW)
 have HSD:Hid (∀x (d:CC) W,x.v.weight<=v.weight->uB w W->IsComp W W.heap.size x d->uP 66 #[.agg (uC d)] W fun e w'=>e= .returned (.bool (cmSound x))/\uB W w'):=qh fun x d W hx hW hI=>zaf x W (hT.below hW) d hI (by omega)
 have HB:=qh (TB.start w cv cc 36 39 39)
 obtain ⟨R,hR⟩:∃R,turnedP v ⟨cc.k,p,cc.key,cc.i,cc.j,cc.n,xv,cc.s⟩=R:=⟨_,rfl⟩
 rw [hR]
 unfold turnedP at hR
 obtain ⟨E,hE⟩:∃E,checkP v ⟨cc.k,p,cc.key,cc.i,cc.j,cc.n,xv,cc.s⟩=E:=⟨_,rfl⟩
 rw [hE] at HCK hR
 have HR:=qh hR;have HE:=qh hE
 clear hv hw hp hxv hxw hT hsz hcb hR hE
 go_enter Tryz.func28,Tryz.ntmps28
 generalize hQ0:bodyPost _ _ _=Q0
 have HQ:=qh hQ0
 clear hQ0
 go_wp2_with fail
 refine (HCK.out _ HB.out.below).mono ?_
 rintro e w1 ⟨rfl,hb1⟩
 have hB1:=HB.out.keep hb1
 have HB1:=qh hB1
 obtain ⟨v0,v1,v2,v3,v4⟩:=row5 hB1.v.at_
 obtain ⟨c0,c1,c2,c3,c4,c5,c6,c7,c8,c9,c10,c11⟩:=row12 hB1.c.at_
 obtain ⟨r0,r1,r2,r3,r4,r5,r6,r7,r8,r9,r10,r11⟩:=row12 hB1.r.at_
 have gr:=hB1.r.fr;have zv:=hB1.v.lt;have zc:=hB1.c.lt;have zr:=hB1.r.lt
 clear hB1 hb1 HCK HB
 by_cases hE0:E=0
 .subst hE0
  have hR:=HR.out
  rw [if_pos rfl] at hR
  obtain ⟨hs,x,hg,hk⟩:=Zw HE.out
  dsimp only at hg
  rw [hg,Option.getD_some] at hR
  obtain ⟨S,hS⟩:∃S,cmSound (turnP x ⟨cc.k,p,cc.key,cc.i,cc.j,cc.n,xv,cc.s⟩)=S:=⟨_,rfl⟩
  rw [hS] at hR
  have HRT:Hid (S=true->(turnP x ⟨cc.k,p,cc.key,cc.i,cc.j,cc.n,xv,cc.s⟩,0)=R):=qh fun e=>by rw [e,if_pos rfl] at hR;exact hR
  have HRF:Hid (S=false->(Cm.none,60)=R):=qh fun e=>by rw [e,if_neg (by decide)] at hR;exact hR
  have HS:=qh hS;have HG:=qh hg
  have HXW:=qh (Zy p hg)
  clear hR hs hk hS HR hg
  go_wp2_with fail
  refine (HGT.out x HG.out _ HB1.out.below).mono ?_
  rintro e w2 ⟨⟨d,rfl,hd⟩,hb2⟩
  obtain ⟨w3,hw3⟩:∃w3,w2.alloc (.cells (uV d) 36)=w3:=⟨_,rfl⟩
  have hb3:uB w2 w3:=by rw [<-hw3];exact Zu w2 _
  have hx3:BC w3 w2.heap.size (vcells d):=by rw [<-hw3];exact BC.start w2 (uV d) 36
  have hB3:=(HB1.out.keep hb2).keep hb3
  have HD3:=qh (hd.later_ hb3)
  have HB3:=qh hB3
  clear v0 v1 v2 v3 v4 c0 c1 c2 c3 c4 c5 c6 c7 c8 c9 c10 c11 r0 r1 r2 r3 r4 r5 r6 r7 r8 r9 r10 r11 gr zv zc zr
  obtain ⟨v0,v1,v2,v3,v4⟩:=row5 hx3.at_
  obtain ⟨c0,c1,c2,c3,c4,c5,c6,c7,c8,c9,c10,c11⟩:=row12 hB3.c.at_
  have zv:=hx3.lt;have zc:=hB3.c.lt
  clear hB3 hb2 hd hx3 hb3 HB1
  go_upto_region 5 with fail
  clear hw3
  go_wp2_with fail
  refine (HTN.out x d _ HG.out HE.out HB3.out.below HD3.out).mono ?_
  rintro e w4 ⟨⟨f,rfl,hf⟩,hb4⟩
  obtain ⟨w5,hw5⟩:∃w5,w4.alloc (.cells (uC f) 39)=w5:=⟨_,rfl⟩
  have hb5:uB w4 w5:=by rw [<-hw5];exact Zu w4 _
  have hx5:BC w5 w4.heap.size (ccells f):=by rw [<-hw5];exact BC.start w4 (uC f) 39
  have hB5:=(HB3.out.keep hb4).keep hb5
  have hz4:=HB3.out.r.lt
  have HF5:Hid (IsComp (only (fun k=>w.heap.size+1+1+1<=k) w5) w5.heap.size (turnP x ⟨cc.k,p,cc.key,cc.i,cc.j,cc.n,xv,cc.s⟩) f):=qh (Yk hf rfl hb5.size fun k hk hl=>⟨by omega,hb5.block k hl⟩)
  have HB5:=qh hB5;have HX5:=qh hx5
  clear v0 v1 v2 v3 v4 c0 c1 c2 c3 c4 c5 c6 c7 c8 c9 c10 c11 zv zc
  obtain ⟨f0,f1,f2,f3,f4,f5,f6,f7,f8,f9,f10,f11⟩:=row12 hx5.at_
  have zf:=hx5.lt
  clear hB5 hf hx5 hb4 hb5 hz4 HB3 HTN HGT
  go_upto_region 6 with fail
  clear hw5
  go_wp2_with fail
  refine (HSD.out _ f _ (Nat.le_trans (zbv _ _) HXW.out) HB5.out.below (HF5.out.sub (Zl _ _ _))).mono ?_
  rintro e w6 ⟨rfl,hb6⟩
  rw [HS.out]
  have hB6:=HB5.out.keep hb6
  have hx6:=HX5.out.keep hb6 HX5.out.lt
  have HF6:Hid (IsComp (only (fun k=>w.heap.size+1+1+1<=k) w6) w6.heap.size (turnP x ⟨cc.k,p,cc.key,cc.i,cc.j,cc.n,xv,cc.s⟩) f):=qh (Yk HF5.out rfl hb6.size fun k hk hl=>⟨hk,hb6.block k hl⟩)
  have HB6:=qh hB6
  clear f0 f1 f2 f3 f4 f5 f6 f7 f8 f9 f10 f11 zf
  obtain ⟨f0,f1,f2,f3,f4,f5,f6,f7,f8,f9,f10,f11⟩:=row12 hx6.at_
  obtain ⟨r0,r1,r2,r3,r4,r5,r6,r7,r8,r9,r10,r11⟩:=row12 hB6.r.at_
  have zf:=hx6.lt;have zr:=hB6.r.lt;have gr:=hB6.r.fr
  clear hB6 hx6 hb6 HX5 HF5 HB5 HSD HS
  cases S with
  | true=>
    go_wp2_with fail
    rw [<-HQ.out, <-HRT.out (by trivial)]
    exact ⟨rfl,_,zab rfl rfl (Zm (c0:=czero) HB6.out.r f),⟨f,rfl,Ju HF6.out (by omega) (by omega) f⟩,Below.setC HB6.out.below (by omega) f⟩
  | false=>
    go_wp2_with fail
    rw [<-HQ.out, <-HRF.out (by trivial)]
    exact ⟨rfl,_,zab rfl rfl (Zm (c0:=czero) HB6.out.r czero),⟨czero,rfl,J5 _ _⟩,Below.setC HB6.out.below (by omega) czero⟩
 .have f0:(E==0)=false:=by simpa using hE0
  go_wp2_with fail
  rw [<-HQ.out, <-HR.out,if_neg hE0]
  exact ⟨rfl,_,zab rfl rfl (Zm (c0:=czero) HB1.out.r czero),⟨czero,rfl,J5 _ _⟩,Below.setC HB1.out.below (by omega) czero⟩
theorem zk2 {P:Program} (w:World) {ops:Array Oper} {rest:List Oper} {o:Oper} {a:Act} {Q:Exit->Act->World->Prop} (hgd:o.guard=none) (s x:Operand) (t:TypeId)
 (ho:o.op= .call { callee:= .builtin .append,args:= #[s,x],argTypes:= #[t,t] })
 (e:TypeId) (i:TypeInfo) (ht:P.underlying t=some (.slice e)) (hi:P.info? e=some i) (ad:Addr) (n c:Nat)
 (hnc:n<=c) (hs:a.eval s= .slice (some ad) n c) (hx:a.eval x= .slice none 0 0)
 (h:wpList P ops Q rest (a.put o.dst (.slice (some ad) n c)) w):wpList P ops Q (o::rest) a w:=
 wpList_plain hgd fun _ hK=>by
  have hr:(Builtin.append_ #[t,t] o.type #[.slice (some ad) n c, .slice none 0 0]).run P w= .ok (.slice (some ad) n c) w:=by
   simp [Builtin.append_,run_underlying ht,sizeOf,typeInfo,hi,Builtin.lenOf,Builtin.firstCells,hnc,storeCells]
  unfold Oper.wp execOp
  simp only [ho,resolve,invoke,builtin,Sem.run_bind,Sem.run_pure,Result.andThen_ok,List.map_toArray,List.map_cons,List.map_nil,hs,hx,hr]
  exact hK _ _ h
theorem zm3 {w w4:World} {x:Cm} (h:Below w.heap.size w.drew w4) (hz:w.heap.size<=w4.heap.size) (cc:CC) (t:TypeId) (hv:IsComp (only (fun b=>w.heap.size<=b) w4) w4.heap.size x cc):BC (w4.alloc (.cells #[.int .u8 cc.k, .slice cc.pa cc.pl cc.pc, .string cc.key, .int .i64 cc.i, .int .i64 cc.j, .int .i64 cc.n, .int .u8 cc.v.k, .int .i64 cc.v.n, .string cc.v.s, .slice cc.v.la cc.v.ll cc.v.lc, .slice cc.v.oa cc.v.ol cc.v.oc, .string cc.s] t)) w4.heap.size (ccells cc)/\Below w.heap.size w.drew (w4.alloc (.cells #[.int .u8 cc.k, .slice cc.pa cc.pl cc.pc, .string cc.key, .int .i64 cc.i, .int .i64 cc.j, .int .i64 cc.n, .int .u8 cc.v.k, .int .i64 cc.v.n, .string cc.v.s, .slice cc.v.la cc.v.ll cc.v.lc, .slice cc.v.oa cc.v.ol cc.v.oc, .string cc.s] t))/\w.heap.size<=w4.heap.size/\IsComp (only (fun b=>w.heap.size<=b) (w4.alloc (.cells #[.int .u8 cc.k, .slice cc.pa cc.pl cc.pc, .string cc.key, .int .i64 cc.i, .int .i64 cc.j, .int .i64 cc.n, .int .u8 cc.v.k, .int .i64 cc.v.n, .string cc.v.s, .slice cc.v.la cc.v.ll cc.v.lc, .slice cc.v.oa cc.v.ol cc.v.oc, .string cc.s] t))) (w4.alloc (.cells #[.int .u8 cc.k, .slice cc.pa cc.pl cc.pc, .string cc.key, .int .i64 cc.i, .int .i64 cc.j, .int .i64 cc.n, .int .u8 cc.v.k, .int .i64 cc.v.n, .string cc.v.s, .slice cc.v.la cc.v.ll cc.v.lc, .slice cc.v.oa cc.v.ol cc.v.oc, .string cc.s] t)).heap.size x cc:=by
 have hal:uB w4 (w4.alloc (.cells (uC cc) t)):=(Below.refl _ _).alloc (Nat.le_refl _) _
 exact ⟨BC.start w4 (uC cc) t,h.alloc hz _,hz,Yk hv rfl hal.size fun k hk hl=>⟨hk,hal.block k hl⟩⟩
theorem zk6 {w W:World} {x:Cm} (h:Below w.heap.size w.drew W) (cc:CC) (xb:BC W w.heap.size [.int .u8 0, .slice none 0 0, .string { data:= #[] }, .int .i64 0, .int .i64 0, .int .i64 0, .int .u8 0, .int .i64 0, .string { data:= #[] }, .slice none 0 0, .slice none 0 0, .string { data:= #[] }]) (hv:IsComp (only (fun b=>w.heap.size+1<=b) W) W.heap.size x cc):BC ((((((((((((W.setCell ⟨w.heap.size,0,none⟩ (.int .u8 cc.k)).setCell ⟨w.heap.size,1,none⟩ (.slice cc.pa cc.pl cc.pc)).setCell ⟨w.heap.size,2,none⟩ (.string cc.key)).setCell ⟨w.heap.size,3,none⟩ (.int .i64 cc.i)).setCell ⟨w.heap.size,4,none⟩ (.int .i64 cc.j)).setCell ⟨w.heap.size,5,none⟩ (.int .i64 cc.n)).setCell ⟨w.heap.size,6,none⟩ (.int .u8 cc.v.k)).setCell ⟨w.heap.size,7,none⟩ (.int .i64 cc.v.n)).setCell ⟨w.heap.size,8,none⟩ (.string cc.v.s)).setCell ⟨w.heap.size,9,none⟩ (.slice cc.v.la cc.v.ll cc.v.lc)).setCell ⟨w.heap.size,10,none⟩ (.slice cc.v.oa cc.v.ol cc.v.oc)).setCell ⟨w.heap.size,11,none⟩ (.string cc.s)) w.heap.size (ccells cc)/\Below w.heap.size w.drew ((((((((((((W.setCell ⟨w.heap.size,0,none⟩ (.int .u8 cc.k)).setCell ⟨w.heap.size,1,none⟩ (.slice cc.pa cc.pl cc.pc)).setCell ⟨w.heap.size,2,none⟩ (.string cc.key)).setCell ⟨w.heap.size,3,none⟩ (.int .i64 cc.i)).setCell ⟨w.heap.size,4,none⟩ (.int .i64 cc.j)).setCell ⟨w.heap.size,5,none⟩ (.int .i64 cc.n)).setCell ⟨w.heap.size,6,none⟩ (.int .u8 cc.v.k)).setCell ⟨w.heap.size,7,none⟩ (.int .i64 cc.v.n)).setCell ⟨w.heap.size,8,none⟩ (.string cc.v.s)).setCell ⟨w.heap.size,9,none⟩ (.slice cc.v.la cc.v.ll cc.v.lc)).setCell ⟨w.heap.size,10,none⟩ (.slice cc.v.oa cc.v.ol cc.v.oc)).setCell ⟨w.heap.size,11,none⟩ (.string cc.s))/\w.heap.size<=w.heap.size/\IsComp (only (fun b=>w.heap.size<=b) ((((((((((((W.setCell ⟨w.heap.size,0,none⟩ (.int .u8 cc.k)).setCell ⟨w.heap.size,1,none⟩ (.slice cc.pa cc.pl cc.pc)).setCell ⟨w.heap.size,2,none⟩ (.string cc.key)).setCell ⟨w.heap.size,3,none⟩ (.int .i64 cc.i)).setCell ⟨w.heap.size,4,none⟩ (.int .i64 cc.j)).setCell ⟨w.heap.size,5,none⟩ (.int .i64 cc.n)).setCell ⟨w.heap.size,6,none⟩ (.int .u8 cc.v.k)).setCell ⟨w.heap.size,7,none⟩ (.int .i64 cc.v.n)).setCell ⟨w.heap.size,8,none⟩ (.string cc.v.s)).setCell ⟨w.heap.size,9,none⟩ (.slice cc.v.la cc.v.ll cc.v.lc)).setCell ⟨w.heap.size,10,none⟩ (.slice cc.v.oa cc.v.ol cc.v.oc)).setCell ⟨w.heap.size,11,none⟩ (.string cc.s))) ((((((((((((W.setCell ⟨w.heap.size,0,none⟩ (.int .u8 cc.k)).setCell ⟨w.heap.size,1,none⟩ (.slice cc.pa cc.pl cc.pc)).setCell ⟨w.heap.size,2,none⟩ (.string cc.key)).setCell ⟨w.heap.size,3,none⟩ (.int .i64 cc.i)).setCell ⟨w.heap.size,4,none⟩ (.int .i64 cc.j)).setCell ⟨w.heap.size,5,none⟩ (.int .i64 cc.n)).setCell ⟨w.heap.size,6,none⟩ (.int .u8 cc.v.k)).setCell ⟨w.heap.size,7,none⟩ (.int .i64 cc.v.n)).setCell ⟨w.heap.size,8,none⟩ (.string cc.v.s)).setCell ⟨w.heap.size,9,none⟩ (.slice cc.v.la cc.v.ll cc.v.lc)).setCell ⟨w.heap.size,10,none⟩ (.slice cc.v.oa cc.v.ol cc.v.oc)).setCell ⟨w.heap.size,11,none⟩ (.string cc.s)).heap.size x cc:=by
 have st:=Yc W w.heap.size cc
 exact ⟨Zm (c0:=czero) xb cc,Below.setC h (Nat.le_refl _) cc,Nat.le_refl _,Yk hv rfl st.size fun k hk hl=>have hk':w.heap.size+1<=k:=hk;⟨Nat.le_of_succ_le hk',st.block k hl (by omega)⟩⟩
theorem RowC.cons {w5 w9:World} {base:Nat} {a:Option Addr} {m c:Nat} {ys:List Cm} {cs:List CC} {cm:Cm} {d:CC} {g cap:Nat} (h:RowC w5 base (.slice a m c) ys cs) (hd:IsComp (only (fun k=>base<=k) w5) w5.heap.size cm d)
 (hown:w9.ownsRow base 39 12 (.slice (some ⟨g,0,none⟩) (1+ys.length) cap) (1+ys.length) (ccells d++cs.flatMap ccells)) (hsz:w5.heap.size<=w9.heap.size) (hblk:∀k,k<w5.heap.size->w9.heap[k]? =w5.heap[k]?) (hg:w5.heap.size<=g):
 RowC w9 base (.slice (some ⟨g,0,none⟩) (1+ys.length) cap) (cm::ys) (d::cs):=by
 have hne:∀k,k<w5.heap.size->some k≠(Value.slice (some ⟨g,0,none⟩) (1+ys.length) cap).ownBlock:=fun k hk e=>by
  have:k=g:=by simpa [Value.ownBlock] using e
  omega
 have hs:Shows (only (Free base (.slice a m c)) w5) (only (Free base (.slice (some ⟨g,0,none⟩) (1+ys.length) cap)) w9) w5.heap.size:=Zd fun k hk hl=>⟨⟨hk.1,hne k hl⟩,hblk k hl⟩
 have hs2:Shows (only (fun k=>base<=k) w5) (only (Free base (.slice (some ⟨g,0,none⟩) (1+ys.length) cap)) w9) w5.heap.size:=Zd fun k hk hl=>⟨⟨hk,hne k hl⟩,hblk k hl⟩
 show Row _ _ _ _ _ _ _ _
 rw [List.length_cons,List.flatMap_cons,Nat.add_comm ys.length 1]
 refine ⟨hown,fun i hi=> ?_⟩
 cases i with
 |zero=>intro _;exact (hd.sub hs2).more hsz
 | succ i=>
   intro hi2
   have:=h.els i (by omega) (by simpa using hi2)
   simpa [List.getD_cons_succ] using (this.sub hs).more hsz
structure LA (w wr:World) (v0:V) (op:List Cm) (j:Nat) (x:V) (cx:VC) (u:Value) (xs:List Cm) (cs:List CC):Prop where
 rd:goOn xs (turnsP x (op.drop j))=turnsP v0 op
 ok:OpOk x (op.drop j)
 cen:cs.length=j
 few:xs.length=j
 nil:j=0->u= .slice none 0 0
 box:BC wr w.heap.size (vcells cx)
 val:IsVal (only (fun k=>k≠w.heap.size) wr) wr.heap.size x cx
 row:RowC wr (w.heap.size+1) u xs.reverse cs
 below:Below w.heap.size w wr
theorem LA.next {w wr w5 w9:World} {v0 x:V} {op:List Cm} {j:Nat} {cx y:VC} {a:Option Addr} {m c g cap:Nat} {xs:List Cm} {cs:List CC} {cm T1:Cm} {d:CC} (h:LA w wr v0 op j x cx (.slice a m c) xs cs) (hdr:op.drop j=cm::op.drop (j+1)) (ht:turnedP x cm=(T1,0)) (hok:OpOk (doP x cm).1 (op.drop (j+1)))
 (hbox:BC w5 w.heap.size (vcells y)) (hval:IsVal (only (fun k=>wr.heap.size<=k) w5) w5.heap.size (doP x cm).1 y) (hcmp:IsComp (only (fun k=>wr.heap.size<=k) w5) w5.heap.size T1 d) (hst:RStep wr w5 w.heap.size) (hbel:uB w w5) (hb:uB w5 w9)
 (hown:w9.ownsRow (w.heap.size+1) 39 12 (.slice (some ⟨g,0,none⟩) (1+j) cap) (1+j) (ccells d++cs.flatMap ccells)) (hg:w5.heap.size<=g):
 LA w w9 v0 op (j+1) (doP x cm).1 y (.slice (some ⟨g,0,none⟩) (1+j) cap) (xs++ [T1]) (d::cs):=by
 have hlt:=h.box.lt
 have hz:=hst.size
 have hl:xs.reverse.length=j:=by rw [List.length_reverse];exact h.few
 refine ⟨by rw [zdw ht, <-hdr];exact h.rd,hok,by rw [List.length_cons,h.cen],by rw [List.length_append,h.few];rfl,fun e=>absurd e (by omega),hbox.keep hb hbox.lt,Z5 hval rfl hb.size fun k hk hl=>have hk':wr.heap.size<=k:=hk;⟨by omega,hb.block k hl⟩, ?_,hbel.trans (hb.mono hbel.size)⟩
 rw [List.reverse_append,List.reverse_singleton,List.singleton_append]
 have:=RowC.cons (g:=g) (cap:=cap) (w9:=w9) (cm:=T1) (d:=d) (h.row.later (PC.closed _ _) hst (by omega)) (hcmp.sub (Zd fun k hk _=>have hk':wr.heap.size<=k:=hk;⟨by omega,rfl⟩)) (by rw [hl];exact hown) hb.size (fun k hk=>hb.block k hk) hg
 rwa [hl] at this
theorem zkz (cs:List CC):∀u ∈ cs.flatMap ccells,u.oneCell'=true:=fun u hu=>by
 obtain ⟨v,_,hv⟩:=List.mem_flatMap.1 hu
 simp only [ccells,List.mem_cons,List.mem_nil_iff,or_false] at hv
 rcases hv with rfl|rfl|rfl|rfl|rfl|rfl|rfl|rfl|rfl|rfl|rfl|rfl<;>rfl
theorem zak (w:World) (base:Nat) (d:CC) (h:base<=w.heap.size):(w.alloc (.cells #[.int .u8 d.k, .slice d.pa d.pl d.pc, .string d.key, .int .i64 d.i, .int .i64 d.j, .int .i64 d.n, .int .u8 d.v.k, .int .i64 d.v.n, .string d.v.s, .slice d.v.la d.v.ll d.v.lc, .slice d.v.oa d.v.ol d.v.oc, .string d.s] 39)).ownsRow base 39 12 (.slice (some ⟨w.heap.size,0,none⟩) 1 1) 1 (ccells d):=
 ⟨rfl, .inr ⟨w.heap.size,1, #[.int .u8 d.k, .slice d.pa d.pl d.pc, .string d.key, .int .i64 d.i, .int .i64 d.j, .int .i64 d.n, .int .u8 d.v.k, .int .i64 d.v.n, .string d.v.s, .slice d.v.la d.v.ll d.v.lc, .slice d.v.oa d.v.ol d.v.oc, .string d.s],rfl,h,heap_alloc_new w _,Nat.le_refl _,by decide,rfl,rfl⟩⟩
set_option maxRecDepth 100000 in
theorem zi9 (w:World) (cv:VC) (v:V) (hv:IsVal w w.heap.size v cv) (op:List Cm) (oa:Option Addr) (on oc:Nat) (hop:IsComps w w.heap.size op oa on oc) (hn:on<=200) (hok:OpOk v op) (hT:Tabs w):
 uP 32 #[.agg (uV cv), .slice oa on oc] w (AllPost .i64 w ((turnsP v op).1.reverse,(turnsP v op).2)):=by
 delta uV uP
 obtain ⟨i0,hi0,hz0,hz1,hz2⟩:=info_parts Jk
 have hmax:=hop.max;have hcap:=hop.cap;have hlen:=hop.len
 subst hlen
 have HOP:=qh hop;have HT:=qh hT
 have hal:=Zu w (.cells (uV cv) 36)
 have HLA:Hid (LA w (w.alloc (.cells (uV cv) 36)) v op 0 v cv (.slice none 0 0) [] []):=qh ⟨za2 v op,hok,rfl,rfl,fun _=>rfl,BC.start _ _ _,(hv.sub fun b o u hb hc=>Z1 (by omega) ((World.cell?_of_block (hal.block b hb)).trans hc)).more hal.size,Row.nil _ _ _ _ _,hal⟩
 clear hop hT hv hok hal
 go_enter Tryz.func32,Tryz.ntmps32
 generalize hQ0:bodyPost _ _ _=Q0
 have HQ:=qh hQ0
 clear hQ0
 go_wp2_with fail
 go_loopw [6,7,8,9,10,11,12] (fun s i _ _ _ _ _ wr=>∃(j:Nat) (x:V) (cx:VC) (a:Option Addr) (c:Nat) (xs:List Cm) (cs:List CC),s= .slice a j c/\i= .int .i64 j/\j<=op.length/\Hid (LA w wr v op j x cx (.slice a j c) xs cs)) (fun _ i _ _ _ _ _ _=>op.length - (intOf i).toNat)
 case atStart=>exact ⟨0,v,cv,none,0, [], [],rfl,rfl,Nat.zero_le _,HLA⟩
 case round =>
  obtain ⟨j,x,cx,a,c,xs,cs,rfl,rfl,hj,HL⟩:=hrel
  clear HLA
  have hlh:=HL.out
  obtain ⟨v0,v1,v2,v3,v4⟩:=row5 hlh.box.at_
  have gv:=hlh.box.fr
  have zs0:=hlh.box.lt
  by_cases hlt:j<op.length
  .obtain ⟨b, o, f,h5,h6⟩:=HOP.out.at_
   obtain ⟨rfl,hbB⟩:=h5 (by omega)
   obtain ⟨hat,hic⟩:=h6 j hlt
   have hat2:=hat.keep hlh.below hbB
   have hbw:=Nat.lt_of_lt_of_le hbB hlh.below.size
   obtain ⟨cc,hcc⟩:∃c,f j=c:=⟨_,rfl⟩
   rw [hcc] at hat2 hic
   obtain ⟨cm,hcm⟩:∃y,op[j] =y:=⟨_,rfl⟩
   have hdr:op.drop j=cm::op.drop (j+1):=by rw [List.drop_eq_getElem_cons hlt,hcm]
   rw [hcm] at hic
   have hok:=hlh.ok
   rw [hdr] at hok
   obtain ⟨hxw,hxs,hcw,hcs,hnx⟩:=hok
   obtain ⟨T,hT⟩:∃T,turnedP x cm=T:=⟨_,rfl⟩
   have HC:Hid (∀W,Below wr.heap.size wr.drew W->uP 28 #[.agg (uV cx), .agg (uC cc)] W (TdPost .i64 W T)):=qh fun W hW=>by
    have hbW:uB wr W:=(Zf wr).trans hW
    have hwW:=hlh.below.trans (hbW.mono hlh.below.size)
    have hvW:IsVal W W.heap.size x cx:=(hlh.val.sub (Zl _ _ _)).later_ hbW
    rw [<-hT]
    cases hic with
    |mk _ p xv hcb hp hxv=>exact zlh W cx x hvW (by omega) p xv cc hcb (hp.later_ hwW) (hxv.later_ hwW) hcw hcs (HT.out.below hwW)
   have HDO:Hid (∀W,Below wr.heap.size wr.drew W->uP 16 #[.agg (uV cx), .agg (uC cc)] W (DoPost W (doP x cm))):=qh fun W hW=>by
    have hbW:uB wr W:=(Zf wr).trans hW
    have hwW:=hlh.below.trans (hbW.mono hlh.below.size)
    have hvW:IsVal W W.heap.size x cx:=(hlh.val.sub (Zl _ _ _)).later_ hbW
    cases hic with
    |mk _ p xv hcb hp hxv=>exact zd1 W cx.k cx.n cx.s cx.la cx.ll cx.lc cx.oa cx.ol cx.oc x hvW hxw p xv cc hcb (hp.later_ hwW) (hxv.later_ hwW) hcw (fun y hy=>by have:=Zy _ hy;have:=y.str_weight.1;dsimp only at hcs;omega) (HT.out.below hwW)
   obtain ⟨e0,e1,e2,e3,e4,e5,e6,e7,e8,e9,e10,e11⟩:=row12 hat2.cells
   rw [Nat.add_zero] at e0
   have hj0:¬((j:Int)<0):=by omega
   have hjn:(j:Int)<(op.length:Int):=by omega
   have HFB:Hid (∀W,Below wr.heap.size wr.drew W->W.cell? ⟨w.heap.size,0,none⟩=some (.int .u8 cx.k)/\W.cell? ⟨w.heap.size,1,none⟩=some (.int .i64 cx.n)/\W.cell? ⟨w.heap.size,2,none⟩=some (.string cx.s)/\W.cell? ⟨w.heap.size,3,none⟩=some (.slice cx.la cx.ll cx.lc)/\W.cell? ⟨w.heap.size,4,none⟩=some (.slice cx.oa cx.ol cx.oc)/\W.cell? ⟨b,o+j*12,none⟩=some (.int .u8 cc.k)/\W.cell? ⟨b,o+j*12+1,none⟩=some (.slice cc.pa cc.pl cc.pc)/\W.cell? ⟨b,o+j*12+2,none⟩=some (.string cc.key)/\W.cell? ⟨b,o+j*12+3,none⟩=some (.int .i64 cc.i)/\W.cell? ⟨b,o+j*12+4,none⟩=some (.int .i64 cc.j)/\W.cell? ⟨b,o+j*12+5,none⟩=some (.int .i64 cc.n)/\W.cell? ⟨b,o+j*12+6,none⟩=some (.int .u8 cc.v.k)/\W.cell? ⟨b,o+j*12+7,none⟩=some (.int .i64 cc.v.n)/\W.cell? ⟨b,o+j*12+8,none⟩=some (.string cc.v.s)/\W.cell? ⟨b,o+j*12+9,none⟩=some (.slice cc.v.la cc.v.ll cc.v.lc)/\W.cell? ⟨b,o+j*12+10,none⟩=some (.slice cc.v.oa cc.v.ol cc.v.oc)/\W.cell? ⟨b,o+j*12+11,none⟩=some (.string cc.s)):=qh fun W hW=>by
    have hk:∀b o u,b<wr.heap.size->wr.cell? ⟨b,o,none⟩=some u->W.cell? ⟨b,o,none⟩=some u:=fun b o u hb h=>Zb hW (Zb (Zf wr) h hb) hb
    exact ⟨hk _ _ _ zs0 v0,hk _ _ _ zs0 v1,hk _ _ _ zs0 v2,hk _ _ _ zs0 v3,hk _ _ _ zs0 v4,hk _ _ _ hbw e0,hk _ _ _ hbw e1,hk _ _ _ hbw e2,hk _ _ _ hbw e3,hk _ _ _ hbw e4,hk _ _ _ hbw e5,hk _ _ _ hbw e6,hk _ _ _ hbw e7,hk _ _ _ hbw e8,hk _ _ _ hbw e9,hk _ _ _ hbw e10,hk _ _ _ hbw e11⟩
   have HDR:=qh hdr;have HNX:=qh hnx;have HTT:=qh hT
   clear h5 h6 hat hic hat2 hcc hcm hdr hxw hxs hcw hcs hnx hlh hT
   go_wp2_with fail
   refine wp_region_noPanic ?_
   go_region_held_law (fun W=>W.cell? ⟨w.heap.size,0,none⟩=some (.int .u8 cx.k)/\W.cell? ⟨w.heap.size,1,none⟩=some (.int .i64 cx.n)/\W.cell? ⟨w.heap.size,2,none⟩=some (.string cx.s)/\W.cell? ⟨w.heap.size,3,none⟩=some (.slice cx.la cx.ll cx.lc)/\W.cell? ⟨w.heap.size,4,none⟩=some (.slice cx.oa cx.ol cx.oc)/\W.cell? ⟨b,o+j*12,none⟩=some (.int .u8 cc.k)/\W.cell? ⟨b,o+j*12+1,none⟩=some (.slice cc.pa cc.pl cc.pc)/\W.cell? ⟨b,o+j*12+2,none⟩=some (.string cc.key)/\W.cell? ⟨b,o+j*12+3,none⟩=some (.int .i64 cc.i)/\W.cell? ⟨b,o+j*12+4,none⟩=some (.int .i64 cc.j)/\W.cell? ⟨b,o+j*12+5,none⟩=some (.int .i64 cc.n)/\W.cell? ⟨b,o+j*12+6,none⟩=some (.int .u8 cc.v.k)/\W.cell? ⟨b,o+j*12+7,none⟩=some (.int .i64 cc.v.n)/\W.cell? ⟨b,o+j*12+8,none⟩=some (.string cc.v.s)/\W.cell? ⟨b,o+j*12+9,none⟩=some (.slice cc.v.la cc.v.ll cc.v.lc)/\W.cell? ⟨b,o+j*12+10,none⟩=some (.slice cc.v.oa cc.v.ol cc.v.oc)/\W.cell? ⟨b,o+j*12+11,none⟩=some (.string cc.s))
    ((refine HFB.out _ ?_;(first|(with_reducible exact bl4)|(with_reducible exact Below.refl _ _)|(with_reducible exact Zq _ _)|(with_reducible exact Below.alloc bl4 bz4 _)|(with_reducible exact Below.setC bl4 (Nat.le_refl _) d))))
    (first
     |(go_at_call 28;(with_reducible refine (HC.out _ (Below.refl _ _)).mono ?_);rintro e w4 ⟨⟨d,rfl,hI4⟩,hb4⟩;have HI4:Hid (IsComp (only (fun b=>wr.heap.size<=b) w4) w4.heap.size T.1 d):=qh hI4;clear hI4;have bl4:Below wr.heap.size wr.drew w4:=hb4;have bz4:wr.heap.size<=w4.heap.size:=hb4.size)
     |(go_at_call 28;(with_reducible refine (HC.out _ (Zq _ _)).mono ?_);rintro e w4 ⟨⟨d,rfl,hI4⟩,hb4⟩;have HI4:=qh (hI4.sub (Zd (S':=fun b=>wr.heap.size+1<=b) fun k hk _=>⟨(by have:=hk;simpa using this),rfl⟩));clear hI4;have bl4:Below wr.heap.size wr.drew w4:=(Zq _ _).trans (hb4.mono (by simp));have bz4:wr.heap.size<=w4.heap.size:=bl4.size;have XB:=Y5 hb4;obtain ⟨xc0,xc1,xc2,xc3,xc4,xc5,xc6,xc7,xc8,xc9,xc10,xc11⟩:=row12 XB.at_;have xg:=XB.fr;have xl:=XB.lt))
   all_goals
    (first
     |(with_reducible refine Zr (P:=fun W=>BC W w4.heap.size (ccells d)/\Below wr.heap.size wr.drew W/\wr.heap.size<=w4.heap.size/\IsComp (only (fun b=>wr.heap.size<=b) W) W.heap.size T.1 d) (zm3 bl4 bz4 d _ HI4.out) ?_)
     |(with_reducible refine Zr (P:=fun W=>BC W wr.heap.size (ccells d)/\Below wr.heap.size wr.drew W/\wr.heap.size<=wr.heap.size/\IsComp (only (fun b=>wr.heap.size<=b) W) W.heap.size T.1 d) (zk6 bl4 d XB HI4.out) ?_))
    rintro W ⟨XF,hbW,hxb,hI⟩
    clear v0 v1 v2 v3 v4 gv e0 e1 e2 e3 e4 e5 e6 e7 e8 e9 e10 e11 hb4 bl4
    have hbW0:=(Zf wr).trans hbW
    have hzW:=hbW0.size
    have hvb:=HL.out.box.keep hbW0 zs0
    obtain ⟨v0,v1,v2,v3,v4⟩:=row5 hvb.at_
    obtain ⟨y0,y1,y2,y3,y4,y5,y6,y7,y8,y9,y10,y11⟩:=row12 XF.at_
    have zv:=hvb.lt;have zy:=XF.lt
    have HXF:=qh XF;have HI:=qh hI;have HVB:=qh hvb;have HBW:=qh hbW
    obtain ⟨T1,er⟩:=T
    dsimp only at HI ⊢
    clear XF hI hvb hbW hbW0
    by_cases he:er=0
    .subst he
     have hd0:(doP x cm).2=0:=by rw [Kw];exact (zcd HTT.out).1
     have hok2:=HNX.out hd0
     have HOK:=qh hok2
     have HFB2:Hid (∀W',Below W.heap.size W.drew W'->W'.cell? ⟨w.heap.size,0,none⟩=some (.int .u8 cx.k)/\W'.cell? ⟨w.heap.size,1,none⟩=some (.int .i64 cx.n)/\W'.cell? ⟨w.heap.size,2,none⟩=some (.string cx.s)/\W'.cell? ⟨w.heap.size,3,none⟩=some (.slice cx.la cx.ll cx.lc)/\W'.cell? ⟨w.heap.size,4,none⟩=some (.slice cx.oa cx.ol cx.oc)/\W'.cell? ⟨b,o+j*12,none⟩=some (.int .u8 cc.k)/\W'.cell? ⟨b,o+j*12+1,none⟩=some (.slice cc.pa cc.pl cc.pc)/\W'.cell? ⟨b,o+j*12+2,none⟩=some (.string cc.key)/\W'.cell? ⟨b,o+j*12+3,none⟩=some (.int .i64 cc.i)/\W'.cell? ⟨b,o+j*12+4,none⟩=some (.int .i64 cc.j)/\W'.cell? ⟨b,o+j*12+5,none⟩=some (.int .i64 cc.n)/\W'.cell? ⟨b,o+j*12+6,none⟩=some (.int .u8 cc.v.k)/\W'.cell? ⟨b,o+j*12+7,none⟩=some (.int .i64 cc.v.n)/\W'.cell? ⟨b,o+j*12+8,none⟩=some (.string cc.v.s)/\W'.cell? ⟨b,o+j*12+9,none⟩=some (.slice cc.v.la cc.v.ll cc.v.lc)/\W'.cell? ⟨b,o+j*12+10,none⟩=some (.slice cc.v.oa cc.v.ol cc.v.oc)/\W'.cell? ⟨b,o+j*12+11,none⟩=some (.string cc.s)):=qh fun W' hW=>HFB.out W' (HBW.out.trans (((Zf W).trans hW).mono hzW))
     have HD2:Hid (∀W',Below W.heap.size W.drew W'->uP 16 #[.agg (uV cx), .agg (uC cc)] W' (DoPost W' (doP x cm))):=qh fun W' hW=>HDO.out W' (HBW.out.trans (((Zf W).trans hW).mono hzW))
     obtain ⟨D,hD⟩:∃D,doP x cm=D:=⟨_,rfl⟩
     rw [hD] at HD2
     have HDD:=qh hD
     have hj0:¬((j:Int)<0):=by omega
     have hjn:(j:Int)<(op.length:Int):=by omega
     clear hd0 hok2 hD HFB HC HDO
     go_upto_region 10 with fail
     clear v0 v1 v2 v3 v4 y0 y1 y2 y3 y4 y5 y6 y7 y8 y9 y10 y11
     go_wp2_with fail
     refine wp_region_noPanic ?_
     go_region_held_law (fun W=>W.cell? ⟨w.heap.size,0,none⟩=some (.int .u8 cx.k)/\W.cell? ⟨w.heap.size,1,none⟩=some (.int .i64 cx.n)/\W.cell? ⟨w.heap.size,2,none⟩=some (.string cx.s)/\W.cell? ⟨w.heap.size,3,none⟩=some (.slice cx.la cx.ll cx.lc)/\W.cell? ⟨w.heap.size,4,none⟩=some (.slice cx.oa cx.ol cx.oc)/\W.cell? ⟨b,o+j*12,none⟩=some (.int .u8 cc.k)/\W.cell? ⟨b,o+j*12+1,none⟩=some (.slice cc.pa cc.pl cc.pc)/\W.cell? ⟨b,o+j*12+2,none⟩=some (.string cc.key)/\W.cell? ⟨b,o+j*12+3,none⟩=some (.int .i64 cc.i)/\W.cell? ⟨b,o+j*12+4,none⟩=some (.int .i64 cc.j)/\W.cell? ⟨b,o+j*12+5,none⟩=some (.int .i64 cc.n)/\W.cell? ⟨b,o+j*12+6,none⟩=some (.int .u8 cc.v.k)/\W.cell? ⟨b,o+j*12+7,none⟩=some (.int .i64 cc.v.n)/\W.cell? ⟨b,o+j*12+8,none⟩=some (.string cc.v.s)/\W.cell? ⟨b,o+j*12+9,none⟩=some (.slice cc.v.la cc.v.ll cc.v.lc)/\W.cell? ⟨b,o+j*12+10,none⟩=some (.slice cc.v.oa cc.v.ol cc.v.oc)/\W.cell? ⟨b,o+j*12+11,none⟩=some (.string cc.s))
      ((refine HFB2.out _ ?_;(first|(with_reducible exact bl5)|(with_reducible exact Below.refl _ _)|(with_reducible exact Zq _ _)|(with_reducible exact Below.set5 bl5 _ _ _ _ _)|(with_reducible exact Below.set5' (Below.alloc bl5 bz5 _) bz5 _ _ _ _ _)|(with_reducible exact Below.alloc bl5 bz5 _))))
      (first
       |(go_at_call 16;(with_reducible refine (HD2.out _ (Below.refl _ _)).mono ?_);rintro e w5 ⟨⟨y,rfl,hI5⟩,hb5⟩;have HI5:Hid (IsVal (only (fun b=>W.heap.size<=b) w5) w5.heap.size D.1 y):=qh hI5;clear hI5;have bl5:Below W.heap.size W.drew w5:=hb5;have bz5:W.heap.size<=w5.heap.size:=hb5.size)
       |(go_at_call 16;(with_reducible refine (HD2.out _ (Zq _ _)).mono ?_);rintro e w5 ⟨⟨y,rfl,hI5⟩,hb5⟩;have HI5:=qh (hI5.sub (Zd (S':=fun b=>W.heap.size+1<=b) fun k hk _=>⟨(by have:=hk;simpa using this),rfl⟩));clear hI5;have bl5:Below W.heap.size W.drew w5:=(Zq _ _).trans (hb5.mono (by simp));have bz5:W.heap.size<=w5.heap.size:=bl5.size;have XC:=Y5 hb5;obtain ⟨xd0,xd1,xd2,xd3,xd4⟩:=row5 XC.at_;have xgd:=XC.fr;have xld:=XC.lt))
     all_goals
      (first
       |(with_reducible refine Zr (P:=fun W'=>BC W' w5.heap.size (vcells y)/\Below W.heap.size W.drew W'/\W.heap.size<=w5.heap.size/\IsVal (only (fun b=>W.heap.size<=b) W') W'.heap.size D.1 y) (zlw bl5 bz5 y _ HI5.out) ?_)
       |(with_reducible refine Zr (P:=fun W'=>BC W' W.heap.size (vcells y)/\Below W.heap.size W.drew W'/\W.heap.size<=W.heap.size/\IsVal (only (fun b=>W.heap.size<=b) W') W'.heap.size D.1 y) (zju bl5 y XC HI5.out) ?_))
      rintro W2 ⟨YF,hbW2,hyb,hI2⟩
      clear hb5 bl5
      have hb2:=(Zf W).trans hbW2
      have hz2':=hb2.size
      have hvb:=HVB.out.keep hb2 zv
      have hx2:=HXF.out.keep hb2 zy
      have st:=Zh W2 w.heap.size 0 y
      have HM:Hid (BC (setV W2 w.heap.size 0 y) w.heap.size (vcells y)/\IsVal (only (fun k=>wr.heap.size<=k) (setV W2 w.heap.size 0 y)) (setV W2 w.heap.size 0 y).heap.size D.1 y/\IsComp (only (fun k=>wr.heap.size<=k) (setV W2 w.heap.size 0 y)) (setV W2 w.heap.size 0 y).heap.size T1 d/\RStep wr (setV W2 w.heap.size 0 y) w.heap.size/\uB w (setV W2 w.heap.size 0 y)/\BC (setV W2 w.heap.size 0 y) _ (ccells d)):=qh ⟨Zx hvb y,Z5 hI2 rfl st.size fun k hk hl=>have hk':W.heap.size<=k:=hk;⟨by omega,st.block k hl (by omega)⟩,Yk HI.out rfl (Nat.le_trans hz2' st.size) fun k hk hl=>have hk':wr.heap.size<=k:=hk;⟨hk',(st.block k (by omega) (by omega)).trans (hb2.block k hl)⟩,(RStep.of_below _ ((Zf wr).trans (HBW.out.trans (hb2.mono hzW)))).trans st,Below.set5' (HL.out.below.trans (((Zf wr).trans (HBW.out.trans (hb2.mono hzW))).mono HL.out.below.size)) (Nat.le_refl _) _ _ _ _ _,hx2.next st (by omega)⟩
      obtain ⟨v0,v1,v2,v3,v4⟩:=row5 hvb.at_
      obtain ⟨q0,q1,q2,q3,q4⟩:=row5 YF.at_
      have zv2:=hvb.lt;have zq2:=YF.lt;have gv:=hvb.fr
      clear hvb hx2 st YF hbW2 hb2 hI2
      go_upto_region 12 with fail
      obtain ⟨w6,hw6⟩:∃W',setV W2 w.heap.size 0 y=W':=⟨_,rfl⟩
      rw [hw6] at HM
      simp only [setV,Nat.zero_add] at hw6
      rw [hw6]
      have hm:=HM.out
      clear HM hw6 v0 v1 v2 v3 v4 q0 q1 q2 q3 q4 zv2 zq2 gv
      obtain ⟨m1,m2,m3,m4,m5,m6⟩:=hm
      obtain ⟨y0,y1,y2,y3,y4,y5,y6,y7,y8,y9,y10,y11⟩:=row12 m6.at_
      have zy6:=m6.lt;have zw6:=m1.lt
      have H1:=qh m1;have H2:=qh m2;have H3:=qh m3;have H4:=qh m4;have H5:=qh m5
      clear m1 m2 m3 m4 m5 m6
      by_cases hjz:j=0
      .subst hjz
       have e:=HL.out.nil rfl
       injection e with e1 e2 e3
       subst e1 e3
       clear e2
       go_wp2_with (at_builtin;refine zk2 _ rfl (.tmp 46) (.tmp 47) 53 (by rfl) 39 i0 Tryz.underlying53 hi0 ⟨w6.heap.size,0,none⟩ 1 1 (Nat.le_refl _) (by rfl) (by rfl) ?_)
       go_roundw
       case rel=>exact ⟨1,D.1,y,some ⟨w6.heap.size,0,none⟩,1,xs++ [T1],d::cs,rfl,by go_num,by omega,qh (by
        have hc0:cs= [] :=List.length_eq_zero_iff.1 HL.out.cen
        have:=HL.out.next (cap:=1) HDR.out HTT.out HOK.out H1.out (by rw [HDD.out];exact H2.out) H3.out H4.out H5.out (Zu w6 _) (by rw [hc0,List.flatMap_nil,List.append_nil];exact zak w6 _ d (by omega)) (Nat.le_refl _)
        rw [HDD.out] at this;exact this)⟩
       case measure=>simp [intOf];omega
      .obtain ⟨g0,rfl⟩:∃g0,a=some ⟨g0,0,none⟩:=by
        rcases HL.out.row.own.2 with ⟨e,_⟩|⟨g0,_,_,e,_⟩
        .injection e with e1 e2 e3;omega
        .injection e with e1;exact ⟨g0,e1⟩
       have hro:=(HL.out.row.later (PC.closed _ _) H4.out (by omega)).own.alloc (.cells (uC d) 39)
       have hcells:=hro.cells (g:=g0) rfl
       have hown6:=zak w6 (w.heap.size+1) d (by omega)
       have HRO:=qh hcells
       have hcen:=qh HL.out.cen
       have hj200:j<=200:=by omega
       clear hro hcells
       go_wp2_with (at_builtin;refine wpList_append_lies _ rfl (.tmp 46) (.tmp 47) 53 (by rfl) (w.heap.size+1) 39 i0 _ 12 168 Tryz.underlying53 hi0 hz0 hz1 hz2 rfl (by omega) (.slice (some ⟨w6.heap.size,0,none⟩) 1 1) 1 (ccells d) (by rfl) hown6 ⟨g0,0,none⟩ j c (cs.flatMap ccells) (by rfl) (by rw [Zk ccells 12 (fun _=>rfl),hcen.out]) HRO.out (zkz cs) (by omega) (by unfold maxLen;omega) (by omega) (by simp;omega) (w6.heap.size+1) (by simp) ?_;intro g cap2 w9 hown9 hgrow9 hat9 hlt9;have HO9:=qh hown9;have HG9:=qh hgrow9;have HA9:=qh hat9;clear hown9 hgrow9 hat9)
       go_roundw
       case rel=>exact ⟨1+j,D.1,y,some ⟨g,0,none⟩,cap2,xs++ [T1],d::cs,rfl,by go_num,by omega,qh (by
        have hg:w6.heap.size<=g:=by
         rcases HA9.out with e|e
         .have:w6.heap.size=g:=by simpa [Value.ownBlock] using e
          omega
         .omega
        have hbn:uB w6 w9:=(Zu w6 _).trans (Zi HG9.out (fun k hk=>by have:w6.heap.size=k:=(by simpa [Value.ownBlock] using hk);omega) (by rw [World.size_alloc];omega))
        have:=HL.out.next HDR.out HTT.out HOK.out H1.out (by rw [HDD.out];exact H2.out) H3.out H4.out H5.out hbn HO9.out hg
        rw [HDD.out,Nat.add_comm j 1] at this;exact this)⟩
       case measure=>simp [intOf];omega
    .have f0:(er==0)=false:=by simpa using he
     have hts:turnsP v op=([],er):=by
      have:=HL.out.rd
      rw [HDR.out,turnsP,HTT.out,if_neg he] at this
      rw [<-this];unfold goOn;rw [if_neg he]
     have hfin:AllPost .i64 w ([],er) (.returned (.tuple #[.slice none 0 0, .int .i64 er])) W:=⟨⟨none,0,0,rfl,zaq _ _⟩,HL.out.below.trans (((Zf wr).trans HBW.out).mono HL.out.below.size)⟩
     have HTS:=qh hts;have HF:=qh hfin
     clear hts hfin
     go_wp2_with fail
     rw [<-HQ.out,HTS.out]
     exact ⟨rfl,_,by simp [results,Tryz.results32,go_sem],HF.out⟩
  .obtain rfl:j=op.length:=by omega
   have hts:turnsP v op=(xs,0):=by
    have:=hlh.rd
    rw [List.drop_eq_nil_of_le (Nat.le_refl _),turnsP] at this
    rw [<-this];unfold goOn;rw [if_pos rfl,List.append_nil]
   have hfin:AllPost .i64 w (xs.reverse,0) (.returned (.tuple #[.slice a op.length c, .int .i64 0])) wr:=⟨⟨a,op.length,c,rfl,by
    have:=hlh.row.comps (lo:=w.heap.size) (by rw [List.length_reverse,hlh.cen,hlh.few]) (by omega) (by rw [List.length_reverse,hlh.few];omega)
    exact this⟩,hlh.below⟩
   have HTS:=qh hts;have HF:=qh hfin
   clear hts hfin hlh
   go_wp2_with fail
   rw [<-HQ.out,HTS.out]
   exact ⟨rfl,_,by simp [results,Tryz.results32,go_sem],HF.out⟩
end Go.Proofs.YtnjgbiachcfigaaGreatDoor
