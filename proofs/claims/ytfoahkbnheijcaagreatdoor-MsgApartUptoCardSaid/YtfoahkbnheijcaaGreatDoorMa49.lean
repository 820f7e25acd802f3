/-
  Contracts of the functions that the law reaches: MsgApart, of two records of bounded.
-/
import Derived.Test.YtfoahkbnheijcaaGreatDoorMa47
import Derived.Test.YtfoahkbnheijcaaGreatDoorMa48
import Derived.Test.YtfoahkbnheijcaaGreatDoorRows
namespace Go.Proofs.YtfoahkbnheijcaaGreatDoor
open Go.RowKit
set_option maxHeartbeats 32000000
theorem IsB.later19 {w w':World} {a:Option Addr} {n c:Nat} {bs:List UInt8} (h:IsB w w.heap.size a n c bs) (hb:Below w.heap.size w w'):IsB w' w'.heap.size a n c bs:=h.later6 hb
theorem IsMsg.ent {w:World} {B:Nat} {m:Ms} {c:MC} (h:IsMsg w B m c):IsEntry w B m.e c.e:=by
 cases h with
 |mk c e v f h1 h2 h3 h4=>exact h2
structure M2 (w:World) (c d:MR) (W:World):Prop where
 r:BC W w.heap.size (mrcells { c with snd:=true })
 s:BC W (w.heap.size+1) (mrcells { d with snd:=true })
 below:Below w.heap.size w W
theorem M2.keep {w W W':World} {c d:MR} (h:M2 w c d W) (hb:Below W.heap.size W W'):M2 w c d W':=
 ⟨h.r.keep hb h.r.lt,h.s.keep hb h.s.lt,h.below.trans (hb.mono h.below.size)⟩
theorem M2.start (w:World) (c d:MR) (t1 t2:TypeId):M2 w c d ((w.alloc (.cells #[.int .u8 c.k, .string c.doc, .int .i64 c.n, .int .u8 c.e.k, .int .u32 c.e.src, .int .u32 c.e.seq, .slice c.e.va c.e.vl c.e.vc, .slice c.e.oa c.e.ol c.e.oc, .slice c.e.aa c.e.al c.e.ac, .bool c.e.snd, .int .u32 c.src, .int .u32 c.seq, .int .u16 c.err, .bool c.there, .slice c.va c.vl c.vc, .slice c.fa c.fl c.fc, .bool true] t1)).alloc (.cells #[.int .u8 d.k, .string d.doc, .int .i64 d.n, .int .u8 d.e.k, .int .u32 d.e.src, .int .u32 d.e.seq, .slice d.e.va d.e.vl d.e.vc, .slice d.e.oa d.e.ol d.e.oc, .slice d.e.aa d.e.al d.e.ac, .bool d.e.snd, .int .u32 d.src, .int .u32 d.seq, .int .u16 d.err, .bool d.there, .slice d.va d.vl d.vc, .slice d.fa d.fl d.fc, .bool true] t2)):=by
 have b1:Below w.heap.size w (w.alloc (.cells #[.int .u8 c.k, .string c.doc, .int .i64 c.n, .int .u8 c.e.k, .int .u32 c.e.src, .int .u32 c.e.seq, .slice c.e.va c.e.vl c.e.vc, .slice c.e.oa c.e.ol c.e.oc, .slice c.e.aa c.e.al c.e.ac, .bool c.e.snd, .int .u32 c.src, .int .u32 c.seq, .int .u16 c.err, .bool c.there, .slice c.va c.vl c.vc, .slice c.fa c.fl c.fc, .bool true] t1)):=(Below.refl _ _).alloc (Nat.le_refl _) _
 have x1:BC (w.alloc (.cells #[.int .u8 c.k, .string c.doc, .int .i64 c.n, .int .u8 c.e.k, .int .u32 c.e.src, .int .u32 c.e.seq, .slice c.e.va c.e.vl c.e.vc, .slice c.e.oa c.e.ol c.e.oc, .slice c.e.aa c.e.al c.e.ac, .bool c.e.snd, .int .u32 c.src, .int .u32 c.seq, .int .u16 c.err, .bool c.there, .slice c.va c.vl c.vc, .slice c.fa c.fl c.fc, .bool true] t1)) w.heap.size (mrcells { c with snd:=true }):=BC.start w #[.int .u8 c.k, .string c.doc, .int .i64 c.n, .int .u8 c.e.k, .int .u32 c.e.src, .int .u32 c.e.seq, .slice c.e.va c.e.vl c.e.vc, .slice c.e.oa c.e.ol c.e.oc, .slice c.e.aa c.e.al c.e.ac, .bool c.e.snd, .int .u32 c.src, .int .u32 c.seq, .int .u16 c.err, .bool c.there, .slice c.va c.vl c.vc, .slice c.fa c.fl c.fc, .bool true] t1
 obtain ⟨w1,hw1⟩:∃w1,w.alloc (.cells #[.int .u8 c.k, .string c.doc, .int .i64 c.n, .int .u8 c.e.k, .int .u32 c.e.src, .int .u32 c.e.seq, .slice c.e.va c.e.vl c.e.vc, .slice c.e.oa c.e.ol c.e.oc, .slice c.e.aa c.e.al c.e.ac, .bool c.e.snd, .int .u32 c.src, .int .u32 c.seq, .int .u16 c.err, .bool c.there, .slice c.va c.vl c.vc, .slice c.fa c.fl c.fc, .bool true] t1)=w1:=⟨_,rfl⟩
 have s1:w1.heap.size=w.heap.size+1:=by rw [<-hw1,World.size_alloc]
 rw [hw1] at b1 x1 ⊢
 have b2:Below w1.heap.size w1 (w1.alloc (.cells #[.int .u8 d.k, .string d.doc, .int .i64 d.n, .int .u8 d.e.k, .int .u32 d.e.src, .int .u32 d.e.seq, .slice d.e.va d.e.vl d.e.vc, .slice d.e.oa d.e.ol d.e.oc, .slice d.e.aa d.e.al d.e.ac, .bool d.e.snd, .int .u32 d.src, .int .u32 d.seq, .int .u16 d.err, .bool d.there, .slice d.va d.vl d.vc, .slice d.fa d.fl d.fc, .bool true] t2)):=(Below.refl _ _).alloc (Nat.le_refl _) _
 have x2:BC (w1.alloc (.cells #[.int .u8 d.k, .string d.doc, .int .i64 d.n, .int .u8 d.e.k, .int .u32 d.e.src, .int .u32 d.e.seq, .slice d.e.va d.e.vl d.e.vc, .slice d.e.oa d.e.ol d.e.oc, .slice d.e.aa d.e.al d.e.ac, .bool d.e.snd, .int .u32 d.src, .int .u32 d.seq, .int .u16 d.err, .bool d.there, .slice d.va d.vl d.vc, .slice d.fa d.fl d.fc, .bool true] t2)) (w.heap.size+1) (mrcells { d with snd:=true }):=by rw [<-s1];exact BC.start w1 #[.int .u8 d.k, .string d.doc, .int .i64 d.n, .int .u8 d.e.k, .int .u32 d.e.src, .int .u32 d.e.seq, .slice d.e.va d.e.vl d.e.vc, .slice d.e.oa d.e.ol d.e.oc, .slice d.e.aa d.e.al d.e.ac, .bool d.e.snd, .int .u32 d.src, .int .u32 d.seq, .int .u16 d.err, .bool d.there, .slice d.va d.vl d.vc, .slice d.fa d.fl d.fc, .bool true] t2
 exact ⟨x1.keep b2 x1.lt,x2,b1.trans (b2.mono (by omega))⟩
theorem Qp:(Tryz.prog.info? 31).map (·.size)=some 17:=by kernel_rfl
theorem Xi {ops:Array Oper} {rest:List Oper} {op:Oper} {a:Act} {Q:Exit->Act->World->Prop} {W:World} (hgd:op.guard=none) (x:Operand) (ho:op.op= .load 31 x)
 (h:∃(b:Nat) (cs:List Value),a.eval x= .pointer (some ⟨b,0,none⟩)/\cs.length=17/\BC W b cs/\wpList Tryz.prog ops Q rest (a.put op.dst (.agg cs.toArray)) W):wpList Tryz.prog ops Q (op::rest) a W:=by
 obtain ⟨b,cs,h1,h2,h3,h4⟩:=h
 exact wpList_load_mid hgd _ x ho b 0 h1 cs _ h3.range Tryz.underlying31 rfl (by rw [Qp,h2]) h4
theorem Kd {ops:Array Oper} {rest:List Oper} {op:Oper} {a:Act} {Q:Exit->Act->World->Prop} {W:World} (x:Operand) (ho:op.op= .load 31 x) (hw:Region.wanted op (yielded ops a.tmps)=true)
 (h:∃(b:Nat) (cs:List Value),a.eval x= .pointer (some ⟨b,0,none⟩)/\cs.length=17/\BC W b cs/\wpList Tryz.prog ops Q rest (a.put op.dst (.agg cs.toArray)) W):wpList Tryz.prog ops Q (op::rest) a W:=by
 obtain ⟨b,cs,h1,h2,h3,h4⟩:=h
 exact zj9 hw fun K hK=>wp_load_mid _ x ho b 0 h1 cs _ h3.range Tryz.underlying31 rfl (by rw [Qp,h2]) (hK _ _ h4)
theorem Zr {P:Program} {md:Region.Mode} {ops:Array Oper} {Q:Exit->Act->World->Prop} {S:World->Prop} {i:Nat} {d:Option Nat} {oi:Oper} {v:Value} {fuel:Nat} {listed:Array Bool} {a:Act} {w:World} (hi:ops[i]? =some oi) (hd:oi.dst=d)
 (hs:Region.noSelect ops=true) (hf:Region.free md ops listed i=true) (hr:(Region.ready md ops listed).contains i=true)
 (hQ:∀c a w,Q (.panic c) (a.put oi.dst v) w->Q (.panic c) a w) (hy:YieldsIf P ops S oi v a) (hS:S w)
 (h:wpAnyH P md ops Q S fuel (listed.setIfInBounds i true) (a.put d v) w):wpAnyH P md ops Q S (fuel+1) listed a w:=by
 subst hd
 exact wpAnyH_take hi hs hf hr hQ hy hS h
theorem zd9 (W:World) (d:MC):(Instr.field 46 (.agg (mcells d).toArray) 3).run Tryz.prog W= .ok (.agg #[.int .u8 d.e.k, .int .u32 d.e.src, .int .u32 d.e.seq, .int .u8 d.e.v.k, .int .i64 d.e.v.n, .string d.e.v.s, .slice d.e.v.la d.e.v.ll d.e.v.lc, .slice d.e.v.oa d.e.v.ol d.e.v.oc, .slice d.e.oa d.e.ol d.e.oc]) W:=by
 first
  |kernel_rfl
  |(simp [Instr.field,run_underlying Tryz.underlying46,go_sem,mcells];done)
set_option maxRecDepth 100000 in
theorem zkg (w:World) (hT:Tabs w) (c d:MR) (x y:Mr) (hx:IsMr w w.heap.size x c) (hy:IsMr w w.heap.size y d) (zx:hv19 x<=1099511627776) (zy:hv19 y<=1099511627776)
 (sx:(entryP { x.e with snd:=true }).small) (sy:(entryP { y.e with snd:=true }).small) (ex0:0<=x.err) (ey0:0<=y.err):
 Calls Tryz.prog 3 #[.agg #[.int .u8 c.k, .string c.doc, .int .i64 c.n, .int .u8 c.e.k, .int .u32 c.e.src, .int .u32 c.e.seq, .slice c.e.va c.e.vl c.e.vc, .slice c.e.oa c.e.ol c.e.oc, .slice c.e.aa c.e.al c.e.ac, .bool c.e.snd, .int .u32 c.src, .int .u32 c.seq, .int .u16 c.err, .bool c.there, .slice c.va c.vl c.vc, .slice c.fa c.fl c.fc, .bool c.snd], .agg #[.int .u8 d.k, .string d.doc, .int .i64 d.n, .int .u8 d.e.k, .int .u32 d.e.src, .int .u32 d.e.seq, .slice d.e.va d.e.vl d.e.vc, .slice d.e.oa d.e.ol d.e.oc, .slice d.e.aa d.e.al d.e.ac, .bool d.e.snd, .int .u32 d.src, .int .u32 d.seq, .int .u16 d.err, .bool d.there, .slice d.va d.vl d.vc, .slice d.fa d.fl d.fc, .bool d.snd]] w fun e w'=>e= .returned (.bool true)/\Below w.heap.size w w':=by
 have hRX:=hx.told
 have hRY:=hy.told
 clear hx hy
 have HD:=qh (M2.start w c d 31 31)
 obtain ⟨nx,hnx⟩:∃nx:Int,((hv19 x:Nat):Int)=nx:=⟨_,rfl⟩
 obtain ⟨ny,hny⟩:∃ny:Int,((hv19 y:Nat):Int)=ny:=⟨_,rfl⟩
 have HHX:Hid (∀W,Below w.heap.size w W->Calls Tryz.prog 10 #[.agg (mrcells { c with snd:=true }).toArray] W fun e w'=>e= .returned (.int .i64 nx)/\Below W.heap.size W w'):=fun W hW=>by rw [<-hnx];exact zb6 W { c with snd:=true } x (hRX.later_ hW) zx
 have HHY:Hid (∀W,Below w.heap.size w W->Calls Tryz.prog 10 #[.agg (mrcells { d with snd:=true }).toArray] W fun e w'=>e= .returned (.int .i64 ny)/\Below W.heap.size W w'):=fun W hW=>by rw [<-hny];exact zb6 W { d with snd:=true } y (hRY.later_ hW) zy
 have HEX:Hid (∀W,Below w.heap.size w W->Calls Tryz.prog 13 #[.agg (mrcells { c with snd:=true }).toArray] W (Msg19Post W (msgP x))):=fun W hW=>zfc W c x (hRX.later_ hW) (hT.below hW)
 have HEY:Hid (∀W,Below w.heap.size w W->Calls Tryz.prog 13 #[.agg (mrcells { d with snd:=true }).toArray] W (Msg19Post W (msgP y))):=fun W hW=>zfc W d y (hRY.later_ hW) (hT.below hW)
 have HK:Hid (∀W,Below w.heap.size w W->Calls Tryz.prog 11 #[] W fun e w'=>e= .returned (.bool true)/\Below W.heap.size W w'):=fun W hW=>zpy W (hT.below hW)
 have hex:nx<=3000->∃bs,encMsg (msgP x)=(0,bs):=fun h=>zel x ex0 (zab x (by omega))
 have hey:ny<=3000->∃bs,encMsg (msgP y)=(0,bs):=fun h=>zel y ey0 (zab y (by omega))
 have hfx:nx<=3000->(msgP x).Fits:=fun h=>zdp x sx (zab x (by omega))
 have hfy:ny<=3000->(msgP y).Fits:=fun h=>zdp y sy (zab y (by omega))
 have ffx:=ze9 x
 have ffy:=ze9 y
 obtain ⟨mx,hmx⟩:∃mx,msgP x=mx:=⟨_,rfl⟩
 obtain ⟨my,hmy⟩:∃my,msgP y=my:=⟨_,rfl⟩
 rw [hmx] at HEX hex hfx ffx
 rw [hmy] at HEY hey hfy ffy
 have HCX:Hid (nx<=3000->∃A,encMsg mx=(0,A)/\∀W (q:MC),Below w.heap.size w W->IsMsg W W.heap.size mx q->Calls Tryz.prog 12 #[.agg (mcells q).toArray] W fun e w'=>(∃a n cc,e= .returned (.tuple #[.slice a n cc, .int .u16 0])/\IsB w' w'.heap.size a n cc A)/\Below W.heap.size W w'):=fun h=>by
  obtain ⟨A,hA⟩:=hex h
  refine ⟨A,hA,fun W q hW hI=> ?_⟩
  have h1:=Q8 mx W (hT.below hW) q hI (hfx h)
  rw [hA] at h1;exact h1
 have HCY:Hid (ny<=3000->∃A,encMsg my=(0,A)/\∀W (q:MC),Below w.heap.size w W->IsMsg W W.heap.size my q->Calls Tryz.prog 12 #[.agg (mcells q).toArray] W fun e w'=>(∃a n cc,e= .returned (.tuple #[.slice a n cc, .int .u16 0])/\IsB w' w'.heap.size a n cc A)/\Below W.heap.size W w'):=fun h=>by
  obtain ⟨A,hA⟩:=hey h
  refine ⟨A,hA,fun W q hW hI=> ?_⟩
  have h1:=Q8 my W (hT.below hW) q hI (hfy h)
  rw [hA] at h1;exact h1
 obtain ⟨sb,hsb⟩:∃sb,eqB mx my=sb:=⟨_,rfl⟩
 have HSM:Hid (∀W (p q:MC),IsMsg W W.heap.size mx p->IsMsg W W.heap.size my q->Calls Tryz.prog 14 #[.agg (mcells p).toArray, .agg (mcells q).toArray] W fun e w'=>e= .returned (.bool sb)/\Below W.heap.size W w'):=fun W p q hI hJ=>by
  have h1:=zqm mx my W p q hI hJ
  rw [zgx hI hJ,hsb] at h1;exact h1
 have HSE:Hid (∀W (p q:MC),IsMsg W W.heap.size mx p->IsMsg W W.heap.size mx q->Calls Tryz.prog 15 #[.agg #[.int .u8 p.e.k, .int .u32 p.e.src, .int .u32 p.e.seq, .int .u8 p.e.v.k, .int .i64 p.e.v.n, .string p.e.v.s, .slice p.e.v.la p.e.v.ll p.e.v.lc, .slice p.e.v.oa p.e.v.ol p.e.v.oc, .slice p.e.oa p.e.ol p.e.oc], .agg #[.int .u8 q.e.k, .int .u32 q.e.src, .int .u32 q.e.seq, .int .u8 q.e.v.k, .int .i64 q.e.v.n, .string q.e.v.s, .slice q.e.v.la q.e.v.ll q.e.v.lc, .slice q.e.v.oa q.e.v.ol q.e.v.oc, .slice q.e.oa q.e.ol q.e.oc]] W fun e w'=>e= .returned (.bool true)/\Below W.heap.size W w'):=fun W p q hI hJ=>by
  have h1:=zch mx.e mx.e W p.e q.e hI.ent hJ.ent
  rw [K8] at h1;exact h1
 have HEQ:Hid (∀A B,encMsg mx=(0,A)->encMsg my=(0,B)->sb=true->A=B):=fun A B hA hB h=>by
  rw [<-hsb] at h
  rw [Z6 h,hB] at hA
  injection hA with _ h2;exact h2.symm
 have HNE:Hid (∀A B (p q:MC) (W W':World),encMsg mx=(0,A)->encMsg my=(0,B)->IsMsg W W.heap.size mx p->IsMsg W' W'.heap.size my q->sb=false->A≠B):=fun A B p q W W' hA hB hI hJ h3 h4=>by
  subst h4
  have h5:=zgw (hI.num (by have:=ffx.1;omega) (fun t ht=>by rw [ffx.2 t ht];decide)) (hJ.num (by have:=ffy.1;omega) (fun t ht=>by rw [ffy.2 t ht];decide)) hA hB
  rw [Zy h5] at hsb
  rw [<-hsb] at h3;cases h3
 clear hT hsb hmx hmy hnx hny hRX hRY hex hey hfx hfy ffx ffy sx sy zx zy ex0 ey0
 go_enter Tryz.func3,Tryz.ntmps3
 go_upto_region 3 with fail
 have HDD:=HD.out
 generalize hw2:World.alloc _ _=w2 at HDD ⊢
 clear hw2 HD
 have HB2:=qh HDD
 clear HDD
 go_wp2_with (first|(refine Xi rfl _ rfl ?_;refine ⟨w.heap.size,mrcells { c with snd:=true },rfl,rfl,HB2.out.r, ?_⟩)|(refine Xi rfl _ rfl ?_;refine ⟨w.heap.size+1,mrcells { d with snd:=true },rfl,rfl,HB2.out.s, ?_⟩)|(refine Kd _ rfl rfl ?_;refine ⟨w.heap.size+1,mrcells { d with snd:=true },rfl,rfl,HB2.out.s, ?_⟩))
 refine (HHX.out _ HB2.out.below).mono ?_
 rintro e w3 ⟨rfl,hb3⟩
 have HB3:=qh (HB2.out.keep hb3)
 clear hb3
 by_cases hz:3000<nx
 .go_wp2_with fail
  refine (HK.out _ HB3.out.below).mono ?_
  rintro e w4 ⟨rfl,hb4⟩
  go_wp2_with fail
  go_returns
  exact ⟨rfl,(HB3.out.keep hb4).below⟩
 .have f1:decide (3000<nx)=false:=decide_eq_false hz
  go_wp2_with (first|(refine Xi rfl _ rfl ?_;refine ⟨w.heap.size,mrcells { c with snd:=true },rfl,rfl,HB3.out.r, ?_⟩)|(refine Xi rfl _ rfl ?_;refine ⟨w.heap.size+1,mrcells { d with snd:=true },rfl,rfl,HB3.out.s, ?_⟩)|(refine Kd _ rfl rfl ?_;refine ⟨w.heap.size+1,mrcells { d with snd:=true },rfl,rfl,HB3.out.s, ?_⟩))
  refine (HHY.out _ HB3.out.below).mono ?_
  rintro e w4 ⟨rfl,hb4⟩
  have HB4:=qh (HB3.out.keep hb4)
  clear hb4
  by_cases hy:3000<ny
  .go_wp2_with fail
   refine (HK.out _ HB4.out.below).mono ?_
   rintro e w5 ⟨rfl,hb5⟩
   go_wp2_with fail
   go_returns
   exact ⟨rfl,(HB4.out.keep hb5).below⟩
  .have f2:decide (3000<ny)=false:=decide_eq_false hy
   go_wp2_with fail
   refine (HK.out _ HB4.out.below).mono ?_
   rintro e w5 ⟨rfl,hb5⟩
   have HB5:=qh (HB4.out.keep hb5)
   clear hb5
   obtain ⟨A,hA,hC1⟩:=HCX.out (by omega)
   obtain ⟨B,hB,hC2⟩:=HCY.out (by omega)
   have HC1:=qh hC1;have HC2:=qh hC2;have HEA:=qh hA;have HEB:=qh hB
   clear HCX HCY hz hy hC1 hC2 hA hB
   go_wp2_with (first|(refine Xi rfl _ rfl ?_;refine ⟨w.heap.size,mrcells { c with snd:=true },rfl,rfl,HB5.out.r, ?_⟩)|(refine Xi rfl _ rfl ?_;refine ⟨w.heap.size+1,mrcells { d with snd:=true },rfl,rfl,HB5.out.s, ?_⟩)|(refine Kd _ rfl rfl ?_;refine ⟨w.heap.size+1,mrcells { d with snd:=true },rfl,rfl,HB5.out.s, ?_⟩))
   clear f1 f2
   refine (HEX.out _ HB5.out.below).mono ?_
   rintro e w6 ⟨⟨x6,rfl,hI6⟩,hb6⟩
   have HB6:=qh (HB5.out.keep hb6)
   clear hb6
   have HI6:=qh hI6
   clear hI6
   go_wp2_with fail
   refine (HC1.out _ x6 HB6.out.below HI6.out).mono ?_
   rintro e w7 ⟨⟨a1,n1,c1,rfl,hA7⟩,hb7⟩
   have HB7:=qh (HB6.out.keep hb7)
   clear hb7
   have HA7:=qh hA7
   clear hA7
   go_wp2_with (first|(refine Xi rfl _ rfl ?_;refine ⟨w.heap.size,mrcells { c with snd:=true },rfl,rfl,HB7.out.r, ?_⟩)|(refine Xi rfl _ rfl ?_;refine ⟨w.heap.size+1,mrcells { d with snd:=true },rfl,rfl,HB7.out.s, ?_⟩)|(refine Kd _ rfl rfl ?_;refine ⟨w.heap.size+1,mrcells { d with snd:=true },rfl,rfl,HB7.out.s, ?_⟩))
   refine (HEY.out _ HB7.out.below).mono ?_
   rintro e w8 ⟨⟨y8,rfl,hI8⟩,hb8⟩
   have HA8:=qh (HA7.out.later19 hb8)
   have HB8:=qh (HB7.out.keep hb8)
   clear hb8
   have HI8:=qh hI8
   clear hI8
   go_wp2_with fail
   refine (HC2.out _ y8 HB8.out.below HI8.out).mono ?_
   rintro e w9 ⟨⟨a2,n2,c2,rfl,hB9⟩,hb9⟩
   have HA9:=qh (HA8.out.later19 hb9)
   have HB9:=qh (HB8.out.keep hb9)
   clear hb9
   have HBB9:=qh hB9
   clear hB9
   go_wp2_with fail
   have hq:sb=true/\A=B∨sb=false/\A≠B:=by
    cases sb with
    |true=>exact .inl ⟨rfl,HEQ.out A B HEA.out HEB.out rfl⟩
    |false=>exact .inr ⟨rfl,HNE.out A B x6 y8 _ _ HEA.out HEB.out HI6.out HI8.out rfl⟩
   have HQ:=qh hq
   have HFB:Hid (∀W,Below w9.heap.size w9.drew W->(fun W:World=>BC W w.heap.size (mrcells { c with snd:=true })/\BC W (w.heap.size+1) (mrcells { d with snd:=true })/\(convert 34 9 (.slice a1 n1 c1)).run Tryz.prog W= .ok (.string ⟨A.toArray⟩) W/\(convert 34 9 (.slice a2 n2 c2)).run Tryz.prog W= .ok (.string ⟨B.toArray⟩) W) W):=by
    intro W hW
    have hb:=Xd hW
    exact ⟨HB9.out.r.keep hb HB9.out.r.lt,HB9.out.s.keep hb HB9.out.s.lt,Yp (HA9.out.later19 hb),Yp (HBB9.out.later19 hb)⟩
   have HX9:Hid (∀W,Below w9.heap.size w9.drew W->Calls Tryz.prog 13 #[.agg (mrcells { c with snd:=true }).toArray] W (Msg19Post W mx)):=fun W hW=>HEX.out W (HB9.out.below.trans ((Xd hW).mono HB9.out.below.size))
   have HY9:Hid (∀W,Below w9.heap.size w9.drew W->Calls Tryz.prog 13 #[.agg (mrcells { d with snd:=true }).toArray] W (Msg19Post W my)):=fun W hW=>HEY.out W (HB9.out.below.trans ((Xd hW).mono HB9.out.below.size))
   clear hq
   have HBOOL:Hid (((A==B)==sb)=true):=by
    show _=_
    rcases HQ.out with ⟨h1,h2⟩|⟨h1,h2⟩
    .rw [h1,h2];simp
    .rw [h1];simp [h2]
   refine wp_region_noPanic ?_
   have hH0:=HFB.out _ (Below.refl _ _)
   refine wp_region_held_drew (S:=fun W=>(fun W:World=>BC W w.heap.size (mrcells { c with snd:=true })/\BC W (w.heap.size+1) (mrcells { d with snd:=true })/\(convert 34 9 (.slice a1 n1 c1)).run Tryz.prog W= .ok (.string ⟨A.toArray⟩) W/\(convert 34 9 (.slice a2 n2 c2)).run Tryz.prog W= .ok (.string ⟨B.toArray⟩) W) W) (by kernel_rfl) hH0 (fun _=> ?_)
   refine Zr (i:=0) (d:=(some 36)) (v:= ?_) rfl rfl (by kernel_rfl) (by kernel_rfl) (by kernel_rfl) (fun _ _ _ h=>h) (Or.inl ⟨by rfl, ?_⟩) (by assumption) ?_
   rotate_left
   .intro w' hSw
    obtain ⟨-, -,s3,s4⟩:=hSw
    go_simp
    all_goals (with_reducible rfl)
   simp only [Act.put,List.setIfInBounds_toArray,List.set_cons_zero,List.set_cons_succ]
   refine Zr (i:=1) (d:=(some 37)) (v:= ?_) rfl rfl (by kernel_rfl) (by kernel_rfl) (by kernel_rfl) (fun _ _ _ h=>h) (Or.inl ⟨by rfl, ?_⟩) (by assumption) ?_
   rotate_left
   .intro w' hSw
    obtain ⟨-, -,s3,s4⟩:=hSw
    go_simp
    all_goals (with_reducible rfl)
   simp only [Act.put,List.setIfInBounds_toArray,List.set_cons_zero,List.set_cons_succ]
   refine Zr (i:=2) (d:=(some 38)) (v:= ?_) rfl rfl (by kernel_rfl) (by kernel_rfl) (by kernel_rfl) (fun _ _ _ h=>h) (Or.inl ⟨by rfl, ?_⟩) (by assumption) ?_
   rotate_left
   .intro w' hSw
    obtain ⟨-, -,s3,s4⟩:=hSw
    go_simp
    all_goals (with_reducible rfl)
   simp only [Act.put,List.setIfInBounds_toArray,List.set_cons_zero,List.set_cons_succ]
   refine Zr (i:=3) (d:=(some 39)) (v:= ?_) rfl rfl (by kernel_rfl) (by kernel_rfl) (by kernel_rfl) (fun _ _ _ h=>h) (Or.inl ⟨by rfl, ?_⟩) (by assumption) ?_
   rotate_left
   .intro w' hSw
    obtain ⟨-, -,s3,s4⟩:=hSw
    go_simp
    all_goals (with_reducible rfl)
   simp only [Act.put,List.setIfInBounds_toArray,List.set_cons_zero,List.set_cons_succ]
   refine Zr (i:=4) (d:=(some 40)) (v:= ?_) rfl rfl (by kernel_rfl) (by kernel_rfl) (by kernel_rfl) (fun _ _ _ h=>h) (Or.inl ⟨by rfl, ?_⟩) (by assumption) ?_
   rotate_left
   .intro w' hSw
    obtain ⟨-, -,s3,s4⟩:=hSw
    go_simp
    all_goals (with_reducible rfl)
   simp only [Act.put,List.setIfInBounds_toArray,List.set_cons_zero,List.set_cons_succ]
   refine Zr (i:=5) (d:=(some 41)) (v:= ?_) rfl rfl (by kernel_rfl) (by kernel_rfl) (by kernel_rfl) (fun _ _ _ h=>h) (Or.inl ⟨by rfl, ?_⟩) (by assumption) ?_
   rotate_left
   .intro w' hSw
    obtain ⟨-, -,s3,s4⟩:=hSw
    go_simp
    all_goals (with_reducible rfl)
   simp only [Act.put,List.setIfInBounds_toArray,List.set_cons_zero,List.set_cons_succ]
   refine Zr (i:=6) (d:=(some 42)) (v:= ?_) rfl rfl (by kernel_rfl) (by kernel_rfl) (by kernel_rfl) (fun _ _ _ h=>h) (Or.inl ⟨by rfl, ?_⟩) (by assumption) ?_
   rotate_left
   .intro w' hSw
    obtain ⟨-, -,s3,s4⟩:=hSw
    go_simp
    all_goals (with_reducible rfl)
   simp only [Act.put,List.setIfInBounds_toArray,List.set_cons_zero,List.set_cons_succ]
   refine Zr (i:=7) (d:=(some 43)) (v:= ?_) rfl rfl (by kernel_rfl) (by kernel_rfl) (by kernel_rfl) (fun _ _ _ h=>h) (Or.inl ⟨by rfl, ?_⟩) (by assumption) ?_
   rotate_left
   .intro w' hSw
    obtain ⟨-, -,s3,s4⟩:=hSw
    go_simp
    all_goals (with_reducible rfl)
   simp only [Act.put,List.setIfInBounds_toArray,List.set_cons_zero,List.set_cons_succ]
   refine Zr (i:=8) (d:=(some 44)) (v:= ?_) rfl rfl (by kernel_rfl) (by kernel_rfl) (by kernel_rfl) (fun _ _ _ h=>h) (Or.inl ⟨by rfl, ?_⟩) (by assumption) ?_
   rotate_left
   .intro w' hSw
    obtain ⟨-, -,s3,s4⟩:=hSw
    go_simp
    all_goals (with_reducible rfl)
   simp only [Act.put,List.setIfInBounds_toArray,List.set_cons_zero,List.set_cons_succ]
   refine Zr (i:=9) (d:=(some 45)) (v:= ?_) rfl rfl (by kernel_rfl) (by kernel_rfl) (by kernel_rfl) (fun _ _ _ h=>h) (Or.inl ⟨by rfl, ?_⟩) (by assumption) ?_
   rotate_left
   .intro w' hSw
    obtain ⟨-, -,s3,s4⟩:=hSw
    go_simp
    all_goals (with_reducible rfl)
   simp only [Act.put,List.setIfInBounds_toArray,List.set_cons_zero,List.set_cons_succ]
   refine Zr (i:=10) (d:=(some 46)) (v:= ?_) rfl rfl (by kernel_rfl) (by kernel_rfl) (by kernel_rfl) (fun _ _ _ h=>h) (Or.inl ⟨by rfl, ?_⟩) (by assumption) ?_
   rotate_left
   .intro w' hSw
    obtain ⟨-, -,s3,s4⟩:=hSw
    go_simp
    all_goals (with_reducible rfl)
   simp only [Act.put,List.setIfInBounds_toArray,List.set_cons_zero,List.set_cons_succ]
   refine Zr (i:=11) (d:=(some 47)) (v:= ?_) rfl rfl (by kernel_rfl) (by kernel_rfl) (by kernel_rfl) (fun _ _ _ h=>h) (Or.inl ⟨by rfl, ?_⟩) (by assumption) ?_
   rotate_left
   .intro w' hSw
    obtain ⟨-, -,s3,s4⟩:=hSw
    go_simp
    all_goals (with_reducible rfl)
   simp only [Act.put,List.setIfInBounds_toArray,List.set_cons_zero,List.set_cons_succ]
   refine Zr (i:=12) (d:=(some 48)) (v:=(.agg (mrcells { c with snd:=true }).toArray)) rfl rfl (by kernel_rfl) (by kernel_rfl) (by kernel_rfl) (fun _ _ _ h=>h) (yieldsIf_load_mid (by rfl) _ _ rfl _ _ rfl (mrcells { c with snd:=true }) _ (fun W h=>h.1.range) Tryz.underlying31 rfl (by rw [Qp];rfl)) (by assumption) ?_
   simp only [Act.put,List.setIfInBounds_toArray,List.set_cons_zero,List.set_cons_succ]
   refine Zr (i:=14) (d:=(some 50)) (v:=(.agg (mrcells { d with snd:=true }).toArray)) rfl rfl (by kernel_rfl) (by kernel_rfl) (by kernel_rfl) (fun _ _ _ h=>h) (yieldsIf_load_mid (by rfl) _ _ rfl _ _ rfl (mrcells { d with snd:=true }) _ (fun W h=>h.2.1.range) Tryz.underlying31 rfl (by rw [Qp];rfl)) (by assumption) ?_
   simp only [Act.put,List.setIfInBounds_toArray,List.set_cons_zero,List.set_cons_succ]
   refine wpAnyH_ready (rs:= [13]) (by kernel_rfl) (by simp) ?_
   refine AllReadyH.cons rfl (fun K hK=> ?_) AllReadyH.nil
   go_simp
   go_at_call 13
   (with_reducible refine (HX9.out _ (Below.refl _ _)).mono ?_)
   rintro e w10 ⟨⟨xi,rfl,hIx⟩,hb10⟩
   have bl10:Below w9.heap.size w9.drew w10:=hb10
   have HHw10:=HFB.out _ bl10
   refine hK.out _ _ HHw10 (fun _=> ?_)
   clear hK K
   try simp only [Act.put,List.setIfInBounds_toArray,List.set_cons_zero,List.set_cons_succ]
   refine wpAnyH_ready (rs:= [15]) (by kernel_rfl) (by simp) ?_
   refine AllReadyH.cons rfl (fun K hK=> ?_) AllReadyH.nil
   go_simp
   go_at_call 13
   (with_reducible refine (HY9.out _ bl10).mono ?_)
   rintro e w11 ⟨⟨yi,rfl,hIy⟩,hb11⟩
   have bl11:Below w9.heap.size w9.drew w11:=bl10.trans (hb11.mono bl10.size)
   have hIx2:=hIx.later_ hb11
   have hIy2:=hIy
   have HHw11:=HFB.out _ bl11
   refine hK.out _ _ HHw11 (fun _=> ?_)
   clear hK K
   try simp only [Act.put,List.setIfInBounds_toArray,List.set_cons_zero,List.set_cons_succ]
   refine wpAnyH_ready (rs:= [16]) (by kernel_rfl) (by simp) ?_
   refine AllReadyH.cons rfl (fun K hK=> ?_) AllReadyH.nil
   go_simp
   go_at_call 14
   (with_reducible refine (HSM.out _ _ _ hIx2 hIy2).mono ?_)
   rintro e w12 ⟨rfl,hb12⟩
   have bl12:Below w9.heap.size w9.drew w12:=bl11.trans (hb12.mono bl11.size)
   have HHw12:=HFB.out _ bl12
   refine hK.out _ _ HHw12 (fun _=> ?_)
   clear hK K
   try simp only [Act.put,List.setIfInBounds_toArray,List.set_cons_zero,List.set_cons_succ]
   refine Zr (i:=17) (d:=(some 53)) (v:= ?_) rfl rfl (by kernel_rfl) (by kernel_rfl) (by kernel_rfl) (fun _ _ _ h=>h) (Or.inl ⟨by rfl, ?_⟩) (by assumption) ?_
   rotate_left
   .intro w' hSw
    obtain ⟨-, -,s3,s4⟩:=hSw
    go_simp
    all_goals (first|(rw [HBOOL.out])|(with_reducible rfl))
   simp only [Act.put,List.setIfInBounds_toArray,List.set_cons_zero,List.set_cons_succ]
   refine Zr (i:=18) (d:=(some 54)) (v:= ?_) rfl rfl (by kernel_rfl) (by kernel_rfl) (by kernel_rfl) (fun _ _ _ h=>h) (Or.inl ⟨by rfl, ?_⟩) (by assumption) ?_
   rotate_left
   .intro w' hSw
    obtain ⟨-, -,s3,s4⟩:=hSw
    go_simp
    all_goals (with_reducible rfl)
   simp only [Act.put,List.setIfInBounds_toArray,List.set_cons_zero,List.set_cons_succ]
   refine Zr (i:=19) (d:=(some 55)) (v:= ?_) rfl rfl (by kernel_rfl) (by kernel_rfl) (by kernel_rfl) (fun _ _ _ h=>h) (Or.inl ⟨by rfl, ?_⟩) (by assumption) ?_
   rotate_left
   .intro w' hSw
    obtain ⟨-, -,s3,s4⟩:=hSw
    go_simp
    all_goals (with_reducible rfl)
   simp only [Act.put,List.setIfInBounds_toArray,List.set_cons_zero,List.set_cons_succ]
   refine Zr (i:=20) (d:=(some 56)) (v:=(.agg (mrcells { c with snd:=true }).toArray)) rfl rfl (by kernel_rfl) (by kernel_rfl) (by kernel_rfl) (fun _ _ _ h=>h) (yieldsIf_load_mid (by rfl) _ _ rfl _ _ rfl (mrcells { c with snd:=true }) _ (fun W h=>h.1.range) Tryz.underlying31 rfl (by rw [Qp];rfl)) (by assumption) ?_
   simp only [Act.put,List.setIfInBounds_toArray,List.set_cons_zero,List.set_cons_succ]
   refine Zr (i:=23) (d:=(some 59)) (v:=(.agg (mrcells { c with snd:=true }).toArray)) rfl rfl (by kernel_rfl) (by kernel_rfl) (by kernel_rfl) (fun _ _ _ h=>h) (yieldsIf_load_mid (by rfl) _ _ rfl _ _ rfl (mrcells { c with snd:=true }) _ (fun W h=>h.1.range) Tryz.underlying31 rfl (by rw [Qp];rfl)) (by assumption) ?_
   simp only [Act.put,List.setIfInBounds_toArray,List.set_cons_zero,List.set_cons_succ]
   refine wpAnyH_ready (rs:= [21]) (by kernel_rfl) (by simp) ?_
   refine AllReadyH.cons rfl (fun K hK=> ?_) AllReadyH.nil
   go_simp
   go_at_call 13
   (with_reducible refine (HX9.out _ bl12).mono ?_)
   rintro e w13 ⟨⟨m1,rfl,hI1⟩,hb13⟩
   have bl13:Below w9.heap.size w9.drew w13:=bl12.trans (hb13.mono bl12.size)
   have HHw13:=HFB.out _ bl13
   refine hK.out _ _ HHw13 (fun _=> ?_)
   clear hK K
   try simp only [Act.put,List.setIfInBounds_toArray,List.set_cons_zero,List.set_cons_succ]
   have hfld1:=fun W=>zd9 W m1
   refine Zr (i:=22) (d:=(some 58)) (v:= ?_) rfl rfl (by kernel_rfl) (by kernel_rfl) (by kernel_rfl) (fun _ _ _ h=>h) (Or.inl ⟨by rfl, ?_⟩) (by assumption) ?_
   rotate_left
   .intro w' hSw
    obtain ⟨-, -,s3,s4⟩:=hSw
    go_simp
    all_goals (with_reducible rfl)
   simp only [Act.put,List.setIfInBounds_toArray,List.set_cons_zero,List.set_cons_succ]
   clear hfld1
   refine wpAnyH_ready (rs:= [24]) (by kernel_rfl) (by simp) ?_
   refine AllReadyH.cons rfl (fun K hK=> ?_) AllReadyH.nil
   go_simp
   go_at_call 13
   (with_reducible refine (HX9.out _ bl13).mono ?_)
   rintro e w14 ⟨⟨m2,rfl,hI2⟩,hb14⟩
   have bl14:Below w9.heap.size w9.drew w14:=bl13.trans (hb14.mono bl13.size)
   have hJ1:=hI1.later_ hb14
   have hJ2:=hI2
   have HHw14:=HFB.out _ bl14
   refine hK.out _ _ HHw14 (fun _=> ?_)
   clear hK K
   try simp only [Act.put,List.setIfInBounds_toArray,List.set_cons_zero,List.set_cons_succ]
   have hfld2:=fun W=>zd9 W m2
   refine Zr (i:=25) (d:=(some 61)) (v:= ?_) rfl rfl (by kernel_rfl) (by kernel_rfl) (by kernel_rfl) (fun _ _ _ h=>h) (Or.inl ⟨by rfl, ?_⟩) (by assumption) ?_
   rotate_left
   .intro w' hSw
    obtain ⟨-, -,s3,s4⟩:=hSw
    go_simp
    all_goals (with_reducible rfl)
   simp only [Act.put,List.setIfInBounds_toArray,List.set_cons_zero,List.set_cons_succ]
   clear hfld2
   refine wpAnyH_ready (rs:= [26]) (by kernel_rfl) (by simp) ?_
   refine AllReadyH.cons rfl (fun K hK=> ?_) AllReadyH.nil
   go_simp
   go_at_call 15
   (with_reducible refine (HSE.out _ _ _ hJ1 hJ2).mono ?_)
   rintro e w15 ⟨rfl,hb15⟩
   have bl15:Below w9.heap.size w9.drew w15:=bl14.trans (hb15.mono bl14.size)
   have HHw15:=HFB.out _ bl15
   refine hK.out _ _ HHw15 (fun _=> ?_)
   clear hK K
   try simp only [Act.put,List.setIfInBounds_toArray,List.set_cons_zero,List.set_cons_succ]
   refine Zr (i:=27) (d:=(some 63)) (v:= ?_) rfl rfl (by kernel_rfl) (by kernel_rfl) (by kernel_rfl) (fun _ _ _ h=>h) (Or.inl ⟨by rfl, ?_⟩) (by assumption) ?_
   rotate_left
   .intro w' hSw
    obtain ⟨-, -,s3,s4⟩:=hSw
    go_simp
    all_goals (with_reducible rfl)
   simp only [Act.put,List.setIfInBounds_toArray,List.set_cons_zero,List.set_cons_succ]
   refine Zr (i:=28) (d:=(some 4)) (v:= ?_) rfl rfl (by kernel_rfl) (by kernel_rfl) (by kernel_rfl) (fun _ _ _ h=>h) (Or.inl ⟨by rfl, ?_⟩) (by assumption) ?_
   rotate_left
   .intro w' hSw
    obtain ⟨-, -,s3,s4⟩:=hSw
    go_simp
    all_goals (with_reducible rfl)
   simp only [Act.put,List.setIfInBounds_toArray,List.set_cons_zero,List.set_cons_succ]
   refine wpAnyH_done (by kernel_rfl) ?_ _
   refine NoPanic.normal ?_
   go_wp2_with fail
   go_returns
   exact ⟨rfl,HB9.out.below.trans ((Xd bl15).mono HB9.out.below.size)⟩
end Go.Proofs.YtfoahkbnheijcaaGreatDoor
namespace Go.Proofs.YtfoahkbnheijcaaGreatDoor
open Go.ChangeShapes Go.WideShapes Go.ChangeAt Go.RowKit Go.Lib Go.Deep
instance:Inhabited St:=⟨⟨false,0, .empty⟩⟩
instance:Inhabited AC:=⟨⟨none,0,0,0,0,0,0, .empty,none,0,0⟩⟩
instance:Inhabited Ac:=⟨⟨[],0,0,0,0, .empty, []⟩⟩
instance:Inhabited BA:=⟨⟨0,none,0,0, .empty,0,0,0, .empty,none,0,0⟩⟩
instance:Inhabited Ba:=⟨⟨0, [], .empty,0,0,0, .empty, []⟩⟩
theorem zmv {H:Type} {d:DataW H} {l:List (DataW H)} (h:d ∈ l):Rows.uptoBulk d<=Rows.uptoBulkAll l:=by
 induction l with
 |nil=>cases h
 | cons x r ih=>
   simp only [Rows.uptoBulkAll]
   rcases List.mem_cons.1 h with e|e
   .subst e;omega
   .have:=ih e;omega
theorem zap {H:Type} (d:DataW H):1<=Rows.uptoBulk d:=by
 cases d with
 |lit l=>cases l<;>simp [Rows.uptoBulk]
 |nil=>simp [Rows.uptoBulk]
 |ptr d=>simp [Rows.uptoBulk]
 |slice elems spare=>simp [Rows.uptoBulk]
 |agg parts=>simp [Rows.uptoBulk]
 |iface t d=>simp [Rows.uptoBulk]
 |map entries=>simp [Rows.uptoBulk]
 |held h=>simp [Rows.uptoBulk]
theorem zpe {H:Type} (l:List (DataW H)):l.length<=Rows.uptoBulkAll l:=by
 induction l with
 |nil=>simp [Rows.uptoBulkAll]
 |cons x r ih=>have:=zap x;simp only [Rows.uptoBulkAll,List.length_cons];omega
structure InRow {T:Type} (W:World) (sz:Nat) (cells:T->List Value) (Q:T->Prop) (l:List T) (a:Option Addr) (n c:Nat):Prop where
 len:n=l.length
 cap:n<=c
 max:c<=9223372036854775807
 few:n<=1048576
 at_:∃b o,(0<n->a=some ⟨b,o,none⟩/\b<W.heap.size)/\∀i (h:i<l.length),(∀j u,(cells l[i])[j]? =some u->W.cell? ⟨b,o+i*sz+j,none⟩=some u)/\Q l[i]
theorem zns {α:Type} {l:List α} (h:l.length=3):∃v0 v1 v2,l= [v0,v1,v2] :=by
 match l,h with
 | [v0,v1,v2],_=>exact ⟨v0,v1,v2,rfl⟩
theorem zoy {H:Type} {enc:TypeId×Value->H} {P:Program} {w:World} {base:Nat} {spare:Nat->Bool} {held:Bool} {t:TypeId} {f0 f1 f2:Field} {fuel:Nat} {cs:List Value} {x:DataW H×List MemPlace} (ht:P.underlying t=some (.struct #[f0,f1,f2])) (h:DataW.trod enc P w base spare held fuel t cs=some x):
 ∃(y0 y1 y2:DataW H×List MemPlace) (n:Nat),x.1= .agg [y0.1,y1.1,y2.1] /\cs.length=P.cellsOf t/\DataW.trod enc P w base spare held n f0.type ((cs.drop f0.offset).take (P.cellsOf f0.type))=some y0/\DataW.trod enc P w base spare held n f1.type ((cs.drop f1.offset).take (P.cellsOf f1.type))=some y1/\DataW.trod enc P w base spare held n f2.type ((cs.drop f2.offset).take (P.cellsOf f2.type))=some y2:=by
 obtain ⟨xs,n,_,rfl,hl,hlen,hf⟩:=DataW.trod_struct ht h
 match xs,hlen with
 | [y0,y1,y2],_=>exact ⟨y0,y1,y2,n,by simp,hl,by simpa using hf 0 f0 rfl,by simpa using hf 1 f1 rfl,by simpa using hf 2 f2 rfl⟩
theorem zrf {α:Type} {l:List α} (h:l.length=4):∃v0 v1 v2 v3,l= [v0,v1,v2,v3] :=by
 match l,h with
 | [v0,v1,v2,v3],_=>exact ⟨v0,v1,v2,v3,rfl⟩
theorem zkh {H:Type} {enc:TypeId×Value->H} {P:Program} {w:World} {base:Nat} {spare:Nat->Bool} {held:Bool} {t:TypeId} {f0 f1 f2 f3:Field} {fuel:Nat} {cs:List Value} {x:DataW H×List MemPlace} (ht:P.underlying t=some (.struct #[f0,f1,f2,f3])) (h:DataW.trod enc P w base spare held fuel t cs=some x):
 ∃(y0 y1 y2 y3:DataW H×List MemPlace) (n:Nat),x.1= .agg [y0.1,y1.1,y2.1,y3.1] /\cs.length=P.cellsOf t/\DataW.trod enc P w base spare held n f0.type ((cs.drop f0.offset).take (P.cellsOf f0.type))=some y0/\DataW.trod enc P w base spare held n f1.type ((cs.drop f1.offset).take (P.cellsOf f1.type))=some y1/\DataW.trod enc P w base spare held n f2.type ((cs.drop f2.offset).take (P.cellsOf f2.type))=some y2/\DataW.trod enc P w base spare held n f3.type ((cs.drop f3.offset).take (P.cellsOf f3.type))=some y3:=by
 obtain ⟨xs,n,_,rfl,hl,hlen,hf⟩:=DataW.trod_struct ht h
 match xs,hlen with
 | [y0,y1,y2,y3],_=>exact ⟨y0,y1,y2,y3,n,by simp,hl,by simpa using hf 0 f0 rfl,by simpa using hf 1 f1 rfl,by simpa using hf 2 f2 rfl,by simpa using hf 3 f3 rfl⟩
theorem zej {α:Type} {l:List α} (h:l.length=7):∃v0 v1 v2 v3 v4 v5 v6,l= [v0,v1,v2,v3,v4,v5,v6] :=by
 match l,h with
 | [v0,v1,v2,v3,v4,v5,v6],_=>exact ⟨v0,v1,v2,v3,v4,v5,v6,rfl⟩
theorem zdc {H:Type} {enc:TypeId×Value->H} {P:Program} {w:World} {base:Nat} {spare:Nat->Bool} {held:Bool} {t:TypeId} {f0 f1 f2 f3 f4 f5 f6:Field} {fuel:Nat} {cs:List Value} {x:DataW H×List MemPlace} (ht:P.underlying t=some (.struct #[f0,f1,f2,f3,f4,f5,f6])) (h:DataW.trod enc P w base spare held fuel t cs=some x):
 ∃(y0 y1 y2 y3 y4 y5 y6:DataW H×List MemPlace) (n:Nat),x.1= .agg [y0.1,y1.1,y2.1,y3.1,y4.1,y5.1,y6.1] /\cs.length=P.cellsOf t/\DataW.trod enc P w base spare held n f0.type ((cs.drop f0.offset).take (P.cellsOf f0.type))=some y0/\DataW.trod enc P w base spare held n f1.type ((cs.drop f1.offset).take (P.cellsOf f1.type))=some y1/\DataW.trod enc P w base spare held n f2.type ((cs.drop f2.offset).take (P.cellsOf f2.type))=some y2/\DataW.trod enc P w base spare held n f3.type ((cs.drop f3.offset).take (P.cellsOf f3.type))=some y3/\DataW.trod enc P w base spare held n f4.type ((cs.drop f4.offset).take (P.cellsOf f4.type))=some y4/\DataW.trod enc P w base spare held n f5.type ((cs.drop f5.offset).take (P.cellsOf f5.type))=some y5/\DataW.trod enc P w base spare held n f6.type ((cs.drop f6.offset).take (P.cellsOf f6.type))=some y6:=by
 obtain ⟨xs,n,_,rfl,hl,hlen,hf⟩:=DataW.trod_struct ht h
 match xs,hlen with
 | [y0,y1,y2,y3,y4,y5,y6],_=>exact ⟨y0,y1,y2,y3,y4,y5,y6,n,by simp,hl,by simpa using hf 0 f0 rfl,by simpa using hf 1 f1 rfl,by simpa using hf 2 f2 rfl,by simpa using hf 3 f3 rfl,by simpa using hf 4 f4 rfl,by simpa using hf 5 f5 rfl,by simpa using hf 6 f6 rfl⟩
theorem zm4 {α:Type} {l:List α} (h:l.length=8):∃v0 v1 v2 v3 v4 v5 v6 v7,l= [v0,v1,v2,v3,v4,v5,v6,v7] :=by
 match l,h with
 | [v0,v1,v2,v3,v4,v5,v6,v7],_=>exact ⟨v0,v1,v2,v3,v4,v5,v6,v7,rfl⟩
theorem zgk {H:Type} {enc:TypeId×Value->H} {P:Program} {w:World} {base:Nat} {spare:Nat->Bool} {held:Bool} {t:TypeId} {f0 f1 f2 f3 f4 f5 f6 f7:Field} {fuel:Nat} {cs:List Value} {x:DataW H×List MemPlace} (ht:P.underlying t=some (.struct #[f0,f1,f2,f3,f4,f5,f6,f7])) (h:DataW.trod enc P w base spare held fuel t cs=some x):
 ∃(y0 y1 y2 y3 y4 y5 y6 y7:DataW H×List MemPlace) (n:Nat),x.1= .agg [y0.1,y1.1,y2.1,y3.1,y4.1,y5.1,y6.1,y7.1] /\cs.length=P.cellsOf t/\DataW.trod enc P w base spare held n f0.type ((cs.drop f0.offset).take (P.cellsOf f0.type))=some y0/\DataW.trod enc P w base spare held n f1.type ((cs.drop f1.offset).take (P.cellsOf f1.type))=some y1/\DataW.trod enc P w base spare held n f2.type ((cs.drop f2.offset).take (P.cellsOf f2.type))=some y2/\DataW.trod enc P w base spare held n f3.type ((cs.drop f3.offset).take (P.cellsOf f3.type))=some y3/\DataW.trod enc P w base spare held n f4.type ((cs.drop f4.offset).take (P.cellsOf f4.type))=some y4/\DataW.trod enc P w base spare held n f5.type ((cs.drop f5.offset).take (P.cellsOf f5.type))=some y5/\DataW.trod enc P w base spare held n f6.type ((cs.drop f6.offset).take (P.cellsOf f6.type))=some y6/\DataW.trod enc P w base spare held n f7.type ((cs.drop f7.offset).take (P.cellsOf f7.type))=some y7:=by
 obtain ⟨xs,n,_,rfl,hl,hlen,hf⟩:=DataW.trod_struct ht h
 match xs,hlen with
 | [y0,y1,y2,y3,y4,y5,y6,y7],_=>exact ⟨y0,y1,y2,y3,y4,y5,y6,y7,n,by simp,hl,by simpa using hf 0 f0 rfl,by simpa using hf 1 f1 rfl,by simpa using hf 2 f2 rfl,by simpa using hf 3 f3 rfl,by simpa using hf 4 f4 rfl,by simpa using hf 5 f5 rfl,by simpa using hf 6 f6 rfl,by simpa using hf 7 f7 rfl⟩
def bacells (c:BA):List Value:= [.int .u8 c.k, .slice c.pa c.pl c.pc, .string c.key, .int .i64 c.i, .int .i64 c.j, .int .i64 c.n, .string c.s, .slice c.va c.vl c.vc]
end Go.Proofs.YtfoahkbnheijcaaGreatDoor
