/-
  Contracts of the functions that the law reaches: What add, field, list, text (the.
-/
import Derived.Test.YtfoahkbnheijcaaDoorCq29
import Derived.Test.YtfoahkbnheijcaaDoorCq31
import Derived.Test.YtfoahkbnheijcaaDoorCq32
namespace Go.Proofs.YtfoahkbnheijcaaDoor
open Go.RowKit
set_option maxHeartbeats 8000000
def MidPost (base:Nat) (W3:World) (B:Nat) (cc:CC) (y:V) (e:Ending) (w':World):Prop:=
 e= .returned (.tuple #[])/\∃d':VC,BC w' B (wcells d' cc)/\IsVal w' w'.heap.size y d'/\Below base W3 w'
structure Mid (w0 W2 W3:World) (base B:Nat) (x:V) (d:VC) (cc:CC) (xv:V):Prop where
 whole:Whole W2 base x d
 next:Below W2.heap.size W2 W3
 box:BC W3 B (wcells d cc)
 B2:W2.heap.size<=B
 b0:w0.heap.size<=base
 b1:base<=W2.heap.size
 low:Below w0.heap.size w0 W2
 xv:IsVal w0 w0.heap.size xv cc.v
theorem Whole.isVal {w:World} {base:Nat} {x:V} {d:VC} (h:Whole w base x d):IsVal w w.heap.size x d:=h.sepI.isVal.sub (Zn _ _ _)
theorem IsVal.parts {w:World} {B:Nat} {x:V} {d:VC} (h:IsVal w B x d):x.kd=d.k/\x.nm=d.n/\x.str=d.s/\d.Bnd/\IsVals w B x.ls d.la d.ll d.lc/\IsFields w B x.os d.oa d.ol d.oc:=by
 obtain ⟨kx,nx,sx,lx,ox,rfl⟩:=x.eta
 obtain ⟨e1,e2,e3,hbd,hl,ho⟩:=h.lists
 subst e1 e2 e3
 exact ⟨rfl,rfl,rfl,hbd,hl,ho⟩
theorem Mid.seen {w0 W2 W3 W:World} {base B:Nat} {x:V} {d:VC} {cc:CC} {xv:V} (h:Mid w0 W2 W3 base B x d cc xv) (hb:Below W2.heap.size W2 W):IsVal W W.heap.size x d:=(Whole.isVal h.whole).later_ hb
theorem Mid.seenv {w0 W2 W3 W:World} {base B:Nat} {x:V} {d:VC} {cc:CC} {xv:V} (h:Mid w0 W2 W3 base B x d cc xv) (hb:Below W2.heap.size W2 W):IsVal W W.heap.size xv cc.v:=h.xv.later_ (h.low.trans (hb.mono (Nat.le_trans h.b0 h.b1)))
theorem zmt (w0 W2 W3:World) (base B:Nat) (x:V) (d:VC) (p:List St) (cc:CC) (xv:V) (h:Mid w0 W2 W3 base B x d cc xv) (hk:cc.k=1):
 Calls Tryd.prog 32 #[.pointer (some ⟨B,0,none⟩)] W3 (MidPost base W3 B cc (doneP x ⟨cc.k,p,cc.key,cc.i,cc.j,cc.n,xv,cc.s⟩)):=by
 refine (zmb W3 B d cc h.box).mono ?_
 rintro e w' ⟨rfl,W,hb,rfl⟩
 have hb2:Below W2.heap.size W2 (W.setCell ⟨B,1,none⟩ (.int .i64 (wrap64 (d.n+cc.n)))):=(h.next.trans (hb.mono h.next.size)).set_ h.B2
 have hx:=h.seen hb2
 have hB:=(h.box.keep hb h.box.lt).set (i:=1) (x:= .int .i64 (wrap64 (d.n+cc.n))) (by simp [wcells,vcells])
 obtain ⟨e1,e2,e3,hbd,hl,ho⟩:=hx.parts
 refine ⟨rfl,⟨d.k,wrap64 (d.n+cc.n),d.s,d.la,d.ll,d.lc,d.oa,d.ol,d.oc⟩,hB, ?_,(hb.mono (Nat.le_trans h.b1 h.next.size)).set_ (Nat.le_trans h.b1 h.B2)⟩
 rw [doneP,if_pos hk,e1,e2,e3]
 exact Yg hbd.k0 hbd.k1 (K8 _) (zab _) hbd.s1 hl ho
theorem zhi (w0 W2 W3:World) (base B:Nat) (x:V) (d:VC) (p:List St) (cc:CC) (xv:V) (h:Mid w0 W2 W3 base B x d cc xv) (hk:cc.k=8∨cc.k=9) (hcb:cc.Bnd) (hs:d.s.size<=1000000000000) (hcs:d.s.size+d.s.size+cc.s.size<=140737488355328) (hc:tCheck x.str cc.k cc.i cc.n=0):
 Calls Tryd.prog 35 #[.pointer (some ⟨B,0,none⟩)] W3 (MidPost base W3 B cc (doneP x ⟨cc.k,p,cc.key,cc.i,cc.j,cc.n,xv,cc.s⟩)):=by
 have hstr:x.str=d.s:=(Yz (Whole.isVal h.whole)).1
 rw [hstr] at hc
 refine (zjq W3 B d cc h.box hcb hs hc).mono ?_
 rintro e w' ⟨rfl,W,hb,rfl⟩
 have htz:(textDo d.s cc.k cc.i cc.n cc.s).size<=140737488355328:=by have:=zda d.s cc.k cc.i cc.n cc.s;omega
 have hb2:Below W2.heap.size W2 (W.setCell ⟨B,2,none⟩ (.string (textDo d.s cc.k cc.i cc.n cc.s))):=(h.next.trans (hb.mono h.next.size)).set_ h.B2
 have hx:=h.seen hb2
 have hB:=(h.box.keep hb h.box.lt).set (i:=2) (x:= .string (textDo d.s cc.k cc.i cc.n cc.s)) (by simp [wcells,vcells])
 obtain ⟨e1,e2,e3,hbd,hl,ho⟩:=hx.parts
 refine ⟨rfl,⟨d.k,d.n,textDo d.s cc.k cc.i cc.n cc.s,d.la,d.ll,d.lc,d.oa,d.ol,d.oc⟩,hB, ?_,(hb.mono (Nat.le_trans h.b1 h.next.size)).set_ (Nat.le_trans h.b1 h.B2)⟩
 rw [doneP,if_neg (by dsimp only;omega),if_neg (by dsimp only;omega),if_pos hk,e1,e2,e3]
 exact Yg hbd.k0 hbd.k1 hbd.n0 hbd.n1 htz hl ho
theorem zi7 (w0 W2 W3:World) (base B:Nat) (x:V) (d:VC) (p:List St) (cc:CC) (xv:V) (h:Mid w0 W2 W3 base B x d cc xv) (hk:4<=cc.k/\cc.k<=7) (hfew:x.ls.length<=100000000) (hc:lCheck x.ls.length cc.k cc.i cc.j=0):
 Calls Tryd.prog 34 #[.pointer (some ⟨B,0,none⟩)] W3 (MidPost base W3 B cc (doneP x ⟨cc.k,p,cc.key,cc.i,cc.j,cc.n,xv,cc.s⟩)):=by
 obtain ⟨_,_,_,_,hl3,_⟩:=(h.seen h.next).parts
 refine (zkw W3 B d cc x.ls xv h.box ?_ hfew (h.seenv h.next) hc).mono ?_
 .exact hl3
 rintro e w' ⟨rfl,W,a,n,c,hb,rfl,hI⟩
 have hb2:Below W2.heap.size W2 (W.setCell ⟨B,3,none⟩ (.slice a n c)):=(h.next.trans (hb.mono h.next.size)).set_ h.B2
 have hx:=h.seen hb2
 have hB:=(h.box.keep hb h.box.lt).set (i:=3) (x:= .slice a n c) (by simp [wcells,vcells])
 obtain ⟨e1,e2,e3,hbd,hl,ho⟩:=hx.parts
 refine ⟨rfl,⟨d.k,d.n,d.s,a,n,c,d.oa,d.ol,d.oc⟩,hB, ?_,(hb.mono (Nat.le_trans h.b1 h.next.size)).set_ (Nat.le_trans h.b1 h.B2)⟩
 rw [doneP,if_neg (by dsimp only;omega),if_neg (by dsimp only;omega),if_neg (by dsimp only;omega),e1,e2]
 have e3':x.str=d.s:=e3
 rw [e3']
 have hst:RStep W (W.setCell ⟨B,3,none⟩ (.slice a n c)) B:=RStep.self
 exact Yg hbd.k0 hbd.k1 hbd.n0 hbd.n1 hbd.s1 ((IsVals.sub (fun b o u hb h'=>by
  obtain ⟨hs,hc⟩:=Zy h'
  exact hst.cell hc (by have:=h.box.lt;omega)) hI).more hst.size) ho
theorem zif (w0 W2 W3:World) (base B:Nat) (x:V) (d:VC) (p:List St) (cc:CC) (xv:V) (h:Mid w0 W2 W3 base B x d cc xv) (hk:cc.k=2∨cc.k=3) (hfew:x.ls.length<=100000000/\x.os.length<=100000000) (hr:rising x.os=true) (hks:cc.key.size<=140737488355328) (hc:cc.k=3->fieldIs x.os cc.key=true):
 Calls Tryd.prog 33 #[.pointer (some ⟨B,0,none⟩)] W3 (MidPost base W3 B cc (doneP x ⟨cc.k,p,cc.key,cc.i,cc.j,cc.n,xv,cc.s⟩)):=by
 have hS:∀k,base<=k->k<W2.heap.size->base<=k/\k≠B:=fun k h1 h2=>⟨h1,by have:=h.B2;omega⟩
 obtain ⟨co,hF2⟩:=FRow.of (S:=fun k=>base<=k/\k≠B) h.whole rfl hS
 have hL2:=h.whole.lists hS (by omega)
 have hne:(Value.slice d.oa d.ol d.oc).ownBlock≠some B:=fun e=>by have:=(hF2.own.lt _ e).2;have:=h.B2;omega
 have hF3:=hF2.later h.next
 obtain ⟨_,_,_,_,_,ho3⟩:=(h.seen h.next).parts
 have key:∀e w',WFPost W3 B base d cc (newF x.os cc.key xv (cc.k==3)) e w'->MidPost base W3 B cc (doneP x ⟨cc.k,p,cc.key,cc.i,cc.j,cc.n,xv,cc.s⟩) e w':=by
  rintro e w' ⟨rfl,a,n,c,hB,hI,hg⟩
  refine ⟨rfl,⟨d.k,d.n,d.s,d.la,d.ll,d.lc,a,n,c⟩,hB, ?_,hg.low (Nat.le_trans h.b1 h.next.size) (Nat.le_trans h.b1 h.B2) (fun k hk=>(hF2.own.lt k hk).1)⟩
  obtain ⟨_,_,_,hbd,_,_⟩:=(Whole.isVal h.whole).parts
  have hl1:=IsVals.sub (Zd (S':=fun _=>True) (w':=w') fun k hk hl=>⟨trivial,(hg.block k (Nat.lt_of_lt_of_le hl h.next.size) hk.1.2 (fun e=>hk.2 e.symm)).trans (h.next.block k hl)⟩) hL2
  have hl:IsVals w' w'.heap.size x.ls d.la d.ll d.lc:=(IsVals.sub (Zn _ _ _) hl1).more (Nat.le_trans h.next.size hg.size)
  have ho:=IsFields.sub (Zn _ _ _) hI
  have he:=h.whole.1
  rw [<-Jo hr] at ho
  rw [doneP,if_neg (by dsimp only;omega),if_pos hk]
  have e1:x.kd=d.k:=by rw [he];rfl
  have e2:x.nm=d.n:=by rw [he];rfl
  have e3:x.str=d.s:=by rw [he];rfl
  rw [e1,e2,e3]
  exact Yg hbd.k0 hbd.k1 hbd.n0 hbd.n1 hbd.s1 hl ho
 have hw0:Below w0.heap.size w0 W3:=h.low.trans (h.next.mono (Nat.le_trans h.b0 h.b1))
 have hbB:base<=B:=Nat.le_trans h.b1 h.B2
 rcases hk with hk|hk
 .rw [hk] at key
  cases hi:fieldIs x.os cc.key with
  |true=>exact (zid w0 W3 B base d cc x xv co h.box hw0 h.b0 hbB ho3 hF3 hne h.xv hk hi hfew.2 hks).mono fun e w' hp=>by rw [hk];exact key e w' hp
  |false=>exact (zgv w0 W3 B base d cc x xv co h.box hw0 h.b0 hbB ho3 hF3 hne h.xv hk hi hfew.2 hks).mono fun e w' hp=>by rw [hk];exact key e w' hp
 .rw [hk] at key
  exact (zfr w0 W3 B base d cc x xv co h.box hw0 h.b0 hbB ho3 hF3 hne h.xv hk (hc hk) hfew.2 hks).mono fun e w' hp=>by rw [hk];exact key e w' hp
def asksK (k:Int):Int:=if k=1 then 2 else if k=2∨k=3 then 5 else if k=8∨k=9 then 3 else 4
theorem zh8 (x:V) (k i j n:Int) (key:ByteArray):kindsP x k i j n key=if x.kd≠asksK k then 31 else if x.kd=4 then lCheck x.ls.length k i j else if x.kd=3 then tCheck x.str k i n else if k=3/\fieldIs x.os key=false then 33 else 0:=by
 unfold kindsP asksK
 by_cases h1:k=1
 .rw [if_pos h1,if_pos h1]
  by_cases h:x.kd≠2
  .rw [if_pos h,if_pos h]
  .rw [if_neg h,if_neg h,if_neg (by omega),if_neg (by omega),if_neg (by omega)]
 .rw [if_neg h1,if_neg h1]
  by_cases h2:k=2∨k=3
  .rw [if_pos h2,if_pos h2]
   by_cases h:x.kd≠5
   .rw [if_pos h,if_pos h]
   .rw [if_neg h,if_neg h,if_neg (show ¬x.kd=4 by omega),if_neg (show ¬x.kd=3 by omega)]
  .rw [if_neg h2,if_neg h2]
   by_cases h3:k=8∨k=9
   .rw [if_pos h3,if_pos h3]
    by_cases h:x.kd≠3
    .rw [if_pos h,if_pos h]
    .rw [if_neg h,if_neg h,if_neg (show ¬x.kd=4 by omega),if_pos (show x.kd=3 by omega)]
   .rw [if_neg h3,if_neg h3]
    by_cases h:x.kd≠4
    .rw [if_pos h,if_pos h]
    .rw [if_neg h,if_neg h,if_pos (show x.kd=4 by omega)]
theorem zij (k:Int):asksK k=2∨asksK k=5∨asksK k=3∨asksK k=4:=by
 unfold asksK;split
 .exact .inl rfl
 .split
  .exact .inr (.inl rfl)
  .split
   .exact .inr (.inr (.inl rfl))
   .exact .inr (.inr (.inr rfl))
set_option maxRecDepth 100000 in
theorem ziu (w:World) (cc:CC):
 Calls Tryd.prog 74 #[.agg #[.int .u8 cc.k, .slice cc.pa cc.pl cc.pc, .string cc.key, .int .i64 cc.i, .int .i64 cc.j, .int .i64 cc.n, .int .u8 cc.v.k, .int .i64 cc.v.n, .string cc.v.s, .slice cc.v.la cc.v.ll cc.v.lc, .slice cc.v.oa cc.v.ol cc.v.oc, .string cc.s]] w fun e w'=>e= .returned (.int .u8 (asksK cc.k))/\Below w.heap.size w w':=by
 have HBX:=qh (BC.start w #[.int .u8 cc.k, .slice cc.pa cc.pl cc.pc, .string cc.key, .int .i64 cc.i, .int .i64 cc.j, .int .i64 cc.n, .int .u8 cc.v.k, .int .i64 cc.v.n, .string cc.v.s, .slice cc.v.la cc.v.ll cc.v.lc, .slice cc.v.oa cc.v.ol cc.v.oc, .string cc.s] 34)
 have HAL:=qh ((Below.refl _ _).alloc (Nat.le_refl _) (.cells #[.int .u8 cc.k, .slice cc.pa cc.pl cc.pc, .string cc.key, .int .i64 cc.i, .int .i64 cc.j, .int .i64 cc.n, .int .u8 cc.v.k, .int .i64 cc.v.n, .string cc.v.s, .slice cc.v.la cc.v.ll cc.v.lc, .slice cc.v.oa cc.v.ol cc.v.oc, .string cc.s] 34):Below w.heap.size w _)
 obtain ⟨R,hR⟩:∃R,asksK cc.k=R:=⟨_,rfl⟩
 rw [hR]
 obtain ⟨ck,hck⟩:∃ck,cc.k=ck:=⟨_,rfl⟩
 rw [hck] at HBX HAL hR ⊢
 have HR:=qh hR
 clear hck hR
 by_cases e1:ck=1
 .cases e1
  obtain rfl:R=2:=by rw [<-HR.out];rfl
  go_enter Tryd.func74,Tryd.ntmps74
  go_wp2_with fail
  go_returns
  exact ⟨rfl,HAL.out⟩
 have f1:(ck==1)=false:=by simp [e1]
 by_cases e2:ck=2
 .cases e2
  obtain rfl:R=5:=by rw [<-HR.out];rfl
  go_enter Tryd.func74,Tryd.ntmps74
  go_wp2_with fail
  go_returns
  exact ⟨rfl,HAL.out⟩
 have f2:(ck==2)=false:=by simp [e2]
 by_cases e3:ck=3
 .cases e3
  obtain rfl:R=5:=by rw [<-HR.out];rfl
  go_enter Tryd.func74,Tryd.ntmps74
  go_wp2_with fail
  go_returns
  exact ⟨rfl,HAL.out⟩
 have f3:(ck==3)=false:=by simp [e3]
 by_cases e8:ck=8
 .cases e8
  obtain rfl:R=3:=by rw [<-HR.out];rfl
  go_enter Tryd.func74,Tryd.ntmps74
  go_wp2_with fail
  go_returns
  exact ⟨rfl,HAL.out⟩
 have f8:(ck==8)=false:=by simp [e8]
 by_cases e9:ck=9
 .cases e9
  obtain rfl:R=3:=by rw [<-HR.out];rfl
  go_enter Tryd.func74,Tryd.ntmps74
  go_wp2_with fail
  go_returns
  exact ⟨rfl,HAL.out⟩
 have f9:(ck==9)=false:=by simp [e9]
 obtain rfl:R=4:=by rw [<-HR.out,asksK,if_neg e1,if_neg (by omega),if_neg (by omega)]
 go_enter Tryd.func74,Tryd.ntmps74
 go_wp2_with fail
 go_returns
 exact ⟨rfl,HAL.out⟩
set_option maxRecDepth 100000 in
theorem zj6 (w:World) (vk vn:Int) (vs:ByteArray) (la:Option Addr) (ll lc:Nat) (oa:Option Addr) (ol oc:Nat) (v:V) (hv:IsVal w w.heap.size v ⟨vk,vn,vs,la,ll,lc,oa,ol,oc⟩) (hs:vs.size<=1000000000000) (cc:CC) (hcb:cc.Bnd):
 Calls Tryd.prog 37 #[.agg #[.int .u8 vk, .int .i64 vn, .string vs, .slice la ll lc, .slice oa ol oc], .agg #[.int .u8 cc.k, .slice cc.pa cc.pl cc.pc, .string cc.key, .int .i64 cc.i, .int .i64 cc.j, .int .i64 cc.n, .int .u8 cc.v.k, .int .i64 cc.v.n, .string cc.v.s, .slice cc.v.la cc.v.ll cc.v.lc, .slice cc.v.oa cc.v.ol cc.v.oc, .string cc.s]] w fun e w'=>e= .returned (.int .u16 (kindsP v cc.k cc.i cc.j cc.n cc.key))/\Below w.heap.size w w':=by
 obtain ⟨k',n',s',l,o,rfl⟩:=v.eta
 obtain ⟨e1,e2,e3,hbd,hvl,hvo⟩:=hv.lists
 dsimp only at e1 e2 e3 hvl hvo
 subst e1 e2 e3
 have k1:=hvl.few;have k2:=hvl.max;have k3:=hvo.few;have k4:=hvo.max
 obtain ⟨R,hR⟩:∃R,kindsP (.mk vk vn vs l o) cc.k cc.i cc.j cc.n cc.key=R:=⟨_,rfl⟩
 rw [hR]
 rw [zh8] at hR
 change (if vk≠asksK cc.k then (31:Int) else if vk=4 then lCheck l.length cc.k cc.i cc.j else if vk=3 then tCheck vs cc.k cc.i cc.n else if cc.k=3/\fieldIs o cc.key=false then 33 else 0)=R at hR
 have hll:l.length=ll:=by have:=hvl.len;omega
 rw [hll] at hR
 have HAS:Hid (∀W,Calls Tryd.prog 74 #[.agg #[.int .u8 cc.k, .slice cc.pa cc.pl cc.pc, .string cc.key, .int .i64 cc.i, .int .i64 cc.j, .int .i64 cc.n, .int .u8 cc.v.k, .int .i64 cc.v.n, .string cc.v.s, .slice cc.v.la cc.v.ll cc.v.lc, .slice cc.v.oa cc.v.ol cc.v.oc, .string cc.s]] W fun e w'=>e= .returned (.int .u8 (asksK cc.k))/\Below W.heap.size W w'):=fun W=>ziu W cc
 have HSQ:Hid (∀W,Calls Tryd.prog 75 #[.int .i64 ll, .agg #[.int .u8 cc.k, .slice cc.pa cc.pl cc.pc, .string cc.key, .int .i64 cc.i, .int .i64 cc.j, .int .i64 cc.n, .int .u8 cc.v.k, .int .i64 cc.v.n, .string cc.v.s, .slice cc.v.la cc.v.ll cc.v.lc, .slice cc.v.oa cc.v.ol cc.v.oc, .string cc.s]] W fun e w'=>e= .returned (.int .u16 (lCheck ll cc.k cc.i cc.j))/\Below W.heap.size W w'):=fun W=>Qe W ll (by omega) cc
 have HTC:Hid (∀W,Calls Tryd.prog 76 #[.string vs, .agg #[.int .u8 cc.k, .slice cc.pa cc.pl cc.pc, .string cc.key, .int .i64 cc.i, .int .i64 cc.j, .int .i64 cc.n, .int .u8 cc.v.k, .int .i64 cc.v.n, .string cc.v.s, .slice cc.v.la cc.v.ll cc.v.lc, .slice cc.v.oa cc.v.ol cc.v.oc, .string cc.s]] W fun e w'=>e= .returned (.int .u16 (tCheck vs cc.k cc.i cc.n))/\Below W.heap.size W w'):=fun W=>za9 W vs cc hcb hs
 have HFD:Hid (∀W,Below w.heap.size w W->Calls Tryd.prog 68 #[.agg #[.int .u8 vk, .int .i64 vn, .string vs, .slice la ll lc, .slice oa ol oc], .string cc.key] W fun e w'=>e= .returned (.tuple #[.int .i64 (fieldK o cc.key:Int), .bool (fieldIs o cc.key)])/\Below W.heap.size W w'):=fun W hW=>X7 W o cc.key ⟨vk,vn,vs,la,ll,lc,oa,ol,oc⟩ (hvo.later_ hW)
 obtain ⟨LC,hLC⟩:∃LC,lCheck ll cc.k cc.i cc.j=LC:=⟨_,rfl⟩
 obtain ⟨TC,hTC⟩:∃TC,tCheck vs cc.k cc.i cc.n=TC:=⟨_,rfl⟩
 obtain ⟨is,his⟩:∃is,fieldIs o cc.key=is:=⟨_,rfl⟩
 obtain ⟨fk,hfk⟩:∃fk,fieldK o cc.key=fk:=⟨_,rfl⟩
 have hor:=zij cc.k
 obtain ⟨A,hA⟩:∃A,asksK cc.k=A:=⟨_,rfl⟩
 rw [hLC] at HSQ hR
 rw [hTC] at HTC hR
 rw [his] at HFD hR
 rw [hfk] at HFD
 rw [hA] at HAS hR hor
 have HB:=qh (KBk.start w ⟨vk,vn,vs,la,ll,lc,oa,ol,oc⟩ cc 31 34)
 have HBD:=qh (HB.out.next (Zf _) (by simp))
 have HR:=qh hR
 clear hR hLC hTC his hfk hA hll hv hbd hvl hvo hs hcb
 by_cases ev:vk=A
 .cases ev
  have h34:vk=3∨vk=4∨(vk≠3/\vk≠4):=by omega
  rcases h34 with rfl|rfl|⟨n3,n4⟩
  .obtain rfl:R=TC:=by rw [<-HR.out];rfl
   go_enter Tryd.func37,Tryd.ntmps37
   go_wp2_with fail
   go_region_with (go_simp;go_at_call 74;(with_reducible refine (HAS.out _).mono ?_);rintro e w4 ⟨rfl,hb4⟩;have B4:=HBD.out.next hb4 (by simp);have v0:=B4.v.at_ 0 _ rfl;have v1:=B4.v.at_ 1 _ rfl;have v2:=B4.v.at_ 2 _ rfl;have v3:=B4.v.at_ 3 _ rfl;have v4:=B4.v.at_ 4 _ rfl;have b0:=B4.c.at_ 0 _ rfl;have b1:=B4.c.at_ 1 _ rfl;have b2:=B4.c.at_ 2 _ rfl;have b3:=B4.c.at_ 3 _ rfl;have b4:=B4.c.at_ 4 _ rfl;have b5:=B4.c.at_ 5 _ rfl;have b6:=B4.c.at_ 6 _ rfl;have b7:=B4.c.at_ 7 _ rfl;have b8:=B4.c.at_ 8 _ rfl;have b9:=B4.c.at_ 9 _ rfl;have b10:=B4.c.at_ 10 _ rfl;have b11:=B4.c.at_ 11 _ rfl;have z0:=B4.v.lt;have z1:=B4.c.lt;have HB4:=qh B4;clear hb4 B4)
   all_goals (go_wp2_with fail;refine (HTC.out _).mono ?_;rintro e w5 ⟨rfl,hb5⟩;go_wp2_with fail;go_returns;exact ⟨rfl,HB4.out.below.trans (hb5.mono HB4.out.below.size)⟩)
  .obtain rfl:R=LC:=by rw [<-HR.out];rfl
   go_enter Tryd.func37,Tryd.ntmps37
   go_wp2_with fail
   go_region_with (go_simp;go_at_call 74;(with_reducible refine (HAS.out _).mono ?_);rintro e w4 ⟨rfl,hb4⟩;have B4:=HBD.out.next hb4 (by simp);have v0:=B4.v.at_ 0 _ rfl;have v1:=B4.v.at_ 1 _ rfl;have v2:=B4.v.at_ 2 _ rfl;have v3:=B4.v.at_ 3 _ rfl;have v4:=B4.v.at_ 4 _ rfl;have b0:=B4.c.at_ 0 _ rfl;have b1:=B4.c.at_ 1 _ rfl;have b2:=B4.c.at_ 2 _ rfl;have b3:=B4.c.at_ 3 _ rfl;have b4:=B4.c.at_ 4 _ rfl;have b5:=B4.c.at_ 5 _ rfl;have b6:=B4.c.at_ 6 _ rfl;have b7:=B4.c.at_ 7 _ rfl;have b8:=B4.c.at_ 8 _ rfl;have b9:=B4.c.at_ 9 _ rfl;have b10:=B4.c.at_ 10 _ rfl;have b11:=B4.c.at_ 11 _ rfl;have z0:=B4.v.lt;have z1:=B4.c.lt;have HB4:=qh B4;clear hb4 B4)
   all_goals (go_wp2_with fail;refine (HSQ.out _).mono ?_;rintro e w5 ⟨rfl,hb5⟩;go_wp2_with fail;go_returns;exact ⟨rfl,HB4.out.below.trans (hb5.mono HB4.out.below.size)⟩)
  .have hR2:(if cc.k=3/\is=false then (33:Int) else 0)=R:=by have h:=HR.out;rwa [if_neg (fun h=>h rfl),if_neg n4,if_neg n3] at h
   have g3:(vk==3)=false:=by simp [n3]
   have g4:(vk==4)=false:=by simp [n4]
   have HR2:=qh hR2
   clear HR hR2 n3 n4 hor
   by_cases e3:cc.k=3
   .have f3:(cc.k==3)=true:=by simp [e3]
    cases is with
    | false=>
      obtain rfl:R=33:=by rw [<-HR2.out,if_pos ⟨e3,rfl⟩]
      clear e3
      go_enter Tryd.func37,Tryd.ntmps37
      go_wp2_with fail
      go_region_with (go_simp;go_at_call 74;(with_reducible refine (HAS.out _).mono ?_);rintro e w4 ⟨rfl,hb4⟩;have B4:=HBD.out.next hb4 (by simp);have v0:=B4.v.at_ 0 _ rfl;have v1:=B4.v.at_ 1 _ rfl;have v2:=B4.v.at_ 2 _ rfl;have v3:=B4.v.at_ 3 _ rfl;have v4:=B4.v.at_ 4 _ rfl;have b0:=B4.c.at_ 0 _ rfl;have b1:=B4.c.at_ 1 _ rfl;have b2:=B4.c.at_ 2 _ rfl;have b3:=B4.c.at_ 3 _ rfl;have b4:=B4.c.at_ 4 _ rfl;have b5:=B4.c.at_ 5 _ rfl;have b6:=B4.c.at_ 6 _ rfl;have b7:=B4.c.at_ 7 _ rfl;have b8:=B4.c.at_ 8 _ rfl;have b9:=B4.c.at_ 9 _ rfl;have b10:=B4.c.at_ 10 _ rfl;have b11:=B4.c.at_ 11 _ rfl;have z0:=B4.v.lt;have z1:=B4.c.lt;have HB4:=qh B4;clear hb4 B4)
      all_goals (go_wp2_with fail;refine (HFD.out _ HB4.out.below).mono ?_;rintro e w5 ⟨rfl,hb5⟩;have B5:=HB4.out.next hb5 (by omega);clear v0 v1 v2 v3 v4 b0 b1 b2 b3 b4 b5 b6 b7 b8 b9 b10 b11 z0 z1;have v0:=B5.v.at_ 0 _ rfl;have v1:=B5.v.at_ 1 _ rfl;have v2:=B5.v.at_ 2 _ rfl;have v3:=B5.v.at_ 3 _ rfl;have v4:=B5.v.at_ 4 _ rfl;have b0:=B5.c.at_ 0 _ rfl;have b1:=B5.c.at_ 1 _ rfl;have b2:=B5.c.at_ 2 _ rfl;have b3:=B5.c.at_ 3 _ rfl;have b4:=B5.c.at_ 4 _ rfl;have b5:=B5.c.at_ 5 _ rfl;have b6:=B5.c.at_ 6 _ rfl;have b7:=B5.c.at_ 7 _ rfl;have b8:=B5.c.at_ 8 _ rfl;have b9:=B5.c.at_ 9 _ rfl;have b10:=B5.c.at_ 10 _ rfl;have b11:=B5.c.at_ 11 _ rfl;have z0:=B5.v.lt;have z1:=B5.c.lt;have HB5:=qh B5;clear hb5 B5;go_wp2_with fail;go_returns;exact ⟨rfl,HB5.out.below⟩)
    | true=>
      obtain rfl:R=0:=by rw [<-HR2.out,if_neg (by simp)]
      clear e3
      go_enter Tryd.func37,Tryd.ntmps37
      go_wp2_with fail
      go_region_with (go_simp;go_at_call 74;(with_reducible refine (HAS.out _).mono ?_);rintro e w4 ⟨rfl,hb4⟩;have B4:=HBD.out.next hb4 (by simp);have v0:=B4.v.at_ 0 _ rfl;have v1:=B4.v.at_ 1 _ rfl;have v2:=B4.v.at_ 2 _ rfl;have v3:=B4.v.at_ 3 _ rfl;have v4:=B4.v.at_ 4 _ rfl;have b0:=B4.c.at_ 0 _ rfl;have b1:=B4.c.at_ 1 _ rfl;have b2:=B4.c.at_ 2 _ rfl;have b3:=B4.c.at_ 3 _ rfl;have b4:=B4.c.at_ 4 _ rfl;have b5:=B4.c.at_ 5 _ rfl;have b6:=B4.c.at_ 6 _ rfl;have b7:=B4.c.at_ 7 _ rfl;have b8:=B4.c.at_ 8 _ rfl;have b9:=B4.c.at_ 9 _ rfl;have b10:=B4.c.at_ 10 _ rfl;have b11:=B4.c.at_ 11 _ rfl;have z0:=B4.v.lt;have z1:=B4.c.lt;have HB4:=qh B4;clear hb4 B4)
      all_goals (go_wp2_with fail;refine (HFD.out _ HB4.out.below).mono ?_;rintro e w5 ⟨rfl,hb5⟩;have B5:=HB4.out.next hb5 (by omega);clear v0 v1 v2 v3 v4 b0 b1 b2 b3 b4 b5 b6 b7 b8 b9 b10 b11 z0 z1;have v0:=B5.v.at_ 0 _ rfl;have v1:=B5.v.at_ 1 _ rfl;have v2:=B5.v.at_ 2 _ rfl;have v3:=B5.v.at_ 3 _ rfl;have v4:=B5.v.at_ 4 _ rfl;have b0:=B5.c.at_ 0 _ rfl;have b1:=B5.c.at_ 1 _ rfl;have b2:=B5.c.at_ 2 _ rfl;have b3:=B5.c.at_ 3 _ rfl;have b4:=B5.c.at_ 4 _ rfl;have b5:=B5.c.at_ 5 _ rfl;have b6:=B5.c.at_ 6 _ rfl;have b7:=B5.c.at_ 7 _ rfl;have b8:=B5.c.at_ 8 _ rfl;have b9:=B5.c.at_ 9 _ rfl;have b10:=B5.c.at_ 10 _ rfl;have b11:=B5.c.at_ 11 _ rfl;have z0:=B5.v.lt;have z1:=B5.c.lt;have HB5:=qh B5;clear hb5 B5;go_wp2_with fail;go_returns;exact ⟨rfl,HB5.out.below⟩)
   .have f3:(cc.k==3)=false:=by simp [e3]
    obtain rfl:R=0:=by rw [<-HR2.out,if_neg (fun h=>e3 h.1)]
    clear e3
    go_enter Tryd.func37,Tryd.ntmps37
    go_wp2_with fail
    go_region_with (go_simp;go_at_call 74;(with_reducible refine (HAS.out _).mono ?_);rintro e w4 ⟨rfl,hb4⟩;have B4:=HBD.out.next hb4 (by simp);have v0:=B4.v.at_ 0 _ rfl;have v1:=B4.v.at_ 1 _ rfl;have v2:=B4.v.at_ 2 _ rfl;have v3:=B4.v.at_ 3 _ rfl;have v4:=B4.v.at_ 4 _ rfl;have b0:=B4.c.at_ 0 _ rfl;have b1:=B4.c.at_ 1 _ rfl;have b2:=B4.c.at_ 2 _ rfl;have b3:=B4.c.at_ 3 _ rfl;have b4:=B4.c.at_ 4 _ rfl;have b5:=B4.c.at_ 5 _ rfl;have b6:=B4.c.at_ 6 _ rfl;have b7:=B4.c.at_ 7 _ rfl;have b8:=B4.c.at_ 8 _ rfl;have b9:=B4.c.at_ 9 _ rfl;have b10:=B4.c.at_ 10 _ rfl;have b11:=B4.c.at_ 11 _ rfl;have z0:=B4.v.lt;have z1:=B4.c.lt;have HB4:=qh B4;clear hb4 B4)
    all_goals (go_wp2_with fail;refine (HFD.out _ HB4.out.below).mono ?_;rintro e w5 ⟨rfl,hb5⟩;have B5:=HB4.out.next hb5 (by omega);clear v0 v1 v2 v3 v4 b0 b1 b2 b3 b4 b5 b6 b7 b8 b9 b10 b11 z0 z1;have v0:=B5.v.at_ 0 _ rfl;have v1:=B5.v.at_ 1 _ rfl;have v2:=B5.v.at_ 2 _ rfl;have v3:=B5.v.at_ 3 _ rfl;have v4:=B5.v.at_ 4 _ rfl;have b0:=B5.c.at_ 0 _ rfl;have b1:=B5.c.at_ 1 _ rfl;have b2:=B5.c.at_ 2 _ rfl;have b3:=B5.c.at_ 3 _ rfl;have b4:=B5.c.at_ 4 _ rfl;have b5:=B5.c.at_ 5 _ rfl;have b6:=B5.c.at_ 6 _ rfl;have b7:=B5.c.at_ 7 _ rfl;have b8:=B5.c.at_ 8 _ rfl;have b9:=B5.c.at_ 9 _ rfl;have b10:=B5.c.at_ 10 _ rfl;have b11:=B5.c.at_ 11 _ rfl;have z0:=B5.v.lt;have z1:=B5.c.lt;have HB5:=qh B5;clear hb5 B5;go_wp2_with fail;go_returns;exact ⟨rfl,HB5.out.below⟩)
 .have fv:(vk !=A)=true:=by simp [ev]
  obtain rfl:R=31:=by rw [<-HR.out,if_pos ev]
  go_enter Tryd.func37,Tryd.ntmps37
  go_wp2_with fail
  go_region_with (go_simp;go_at_call 74;(with_reducible refine (HAS.out _).mono ?_);rintro e w4 ⟨rfl,hb4⟩;have B4:=HBD.out.next hb4 (by simp);have v0:=B4.v.at_ 0 _ rfl;have v1:=B4.v.at_ 1 _ rfl;have v2:=B4.v.at_ 2 _ rfl;have v3:=B4.v.at_ 3 _ rfl;have v4:=B4.v.at_ 4 _ rfl;have b0:=B4.c.at_ 0 _ rfl;have b1:=B4.c.at_ 1 _ rfl;have b2:=B4.c.at_ 2 _ rfl;have b3:=B4.c.at_ 3 _ rfl;have b4:=B4.c.at_ 4 _ rfl;have b5:=B4.c.at_ 5 _ rfl;have b6:=B4.c.at_ 6 _ rfl;have b7:=B4.c.at_ 7 _ rfl;have b8:=B4.c.at_ 8 _ rfl;have b9:=B4.c.at_ 9 _ rfl;have b10:=B4.c.at_ 10 _ rfl;have b11:=B4.c.at_ 11 _ rfl;have z0:=B4.v.lt;have z1:=B4.c.lt;have HB4:=qh B4;clear hb4 B4)
  all_goals (go_wp2_with fail;go_returns;exact ⟨rfl,HB4.out.below⟩)
theorem PGetPost.gen {w:World} {v:V} {p:List St} {e:Ending} {w':World} (h:PGetPost w v p e w'):∃(d:VC) (er:Int),e= .returned (.tuple #[.agg #[.int .u8 d.k, .int .i64 d.n, .string d.s, .slice d.la d.ll d.lc, .slice d.oa d.ol d.oc], .int .u16 er])/\Hid ((getP v p=none/\er=30)∨∃x,getP v p=some x/\er=0/\Whole w' w.heap.size x d)/\Below w.heap.size w w':=by
 obtain ⟨hb,⟨rfl,hn⟩|⟨x,d,rfl,hg,hW⟩⟩:=h
 .exact ⟨vzero,30,rfl,qh (.inl ⟨hn,rfl⟩),hb⟩
 .exact ⟨d,0,rfl,qh (.inr ⟨x,hg,rfl,hW⟩),hb⟩
set_option maxRecDepth 100000 in
theorem Xc (w:World) (vk vn:Int) (vs:ByteArray) (la:Option Addr) (ll lc:Nat) (oa:Option Addr) (ol oc:Nat) (v:V) (hv:IsVal w w.heap.size v ⟨vk,vn,vs,la,ll,lc,oa,ol,oc⟩) (hw:v.weight<=1000000000000) (p:List St) (xv:V) (cc:CC) (hcb:cc.Bnd) (hp:IsSteps w w.heap.size p cc.pa cc.pl cc.pc) (hxv:IsVal w w.heap.size xv cc.v) (hxw:xv.weight<=4611686018427387904) (hT:Tabs w):
 Calls Tryd.prog 13 #[.agg #[.int .u8 vk, .int .i64 vn, .string vs, .slice la ll lc, .slice oa ol oc], .agg #[.int .u8 cc.k, .slice cc.pa cc.pl cc.pc, .string cc.key, .int .i64 cc.i, .int .i64 cc.j, .int .i64 cc.n, .int .u8 cc.v.k, .int .i64 cc.v.n, .string cc.v.s, .slice cc.v.la cc.v.ll cc.v.lc, .slice cc.v.oa cc.v.ol cc.v.oc, .string cc.s]] w fun e w'=>e= .returned (.int .u16 (checkP v ⟨cc.k,p,cc.key,cc.i,cc.j,cc.n,xv,cc.s⟩))/\Below w.heap.size w w':=by
 have HSD:Hid (∀W,Below w.heap.size w W->Calls Tryd.prog 14 #[.agg #[.int .u8 cc.k, .slice cc.pa cc.pl cc.pc, .string cc.key, .int .i64 cc.i, .int .i64 cc.j, .int .i64 cc.n, .int .u8 cc.v.k, .int .i64 cc.v.n, .string cc.v.s, .slice cc.v.la cc.v.ll cc.v.lc, .slice cc.v.oa cc.v.ol cc.v.oc, .string cc.s]] W fun e w'=>e= .returned (.bool (cmSound ⟨cc.k,p,cc.key,cc.i,cc.j,cc.n,xv,cc.s⟩))/\Below W.heap.size W w'):=fun W hW=>zc8 _ W (hT.below hW) cc (.mk cc p xv hcb (hp.later_ hW) (hxv.later_ hW)) (by show xv.weight<=_;omega)
 have HGT:Hid (∀W,Below w.heap.size w W->Calls Tryd.prog 31 #[.agg #[.int .u8 vk, .int .i64 vn, .string vs, .slice la ll lc, .slice oa ol oc], .slice cc.pa cc.pl cc.pc] W (PGetPost W v p)):=fun W hW=>Qn W v ⟨vk,vn,vs,la,ll,lc,oa,ol,oc⟩ p cc.pa cc.pl cc.pc (hv.later_ hW) (hp.later_ hW)
 have HKD:Hid (∀W x (d:VC),Below w.heap.size w W->IsVal W W.heap.size x d->getP v p=some x->Calls Tryd.prog 37 #[.agg #[.int .u8 d.k, .int .i64 d.n, .string d.s, .slice d.la d.ll d.lc, .slice d.oa d.ol d.oc], .agg #[.int .u8 cc.k, .slice cc.pa cc.pl cc.pc, .string cc.key, .int .i64 cc.i, .int .i64 cc.j, .int .i64 cc.n, .int .u8 cc.v.k, .int .i64 cc.v.n, .string cc.v.s, .slice cc.v.la cc.v.ll cc.v.lc, .slice cc.v.oa cc.v.ol cc.v.oc, .string cc.s]] W fun e w'=>e= .returned (.int .u16 (kindsP x cc.k cc.i cc.j cc.n cc.key))/\Below W.heap.size W w'):=fun W x d hW hI hg=>by
  have h1:=Z7 p hg
  have h2:=x.str_weight.1
  have h3:=(Yz hI).1
  exact zj6 W d.k d.n d.s d.la d.ll d.lc d.oa d.ol d.oc x hI (by rw [<-h3];omega) cc hcb
 obtain ⟨sd,hsd⟩:∃sd,cmSound ⟨cc.k,p,cc.key,cc.i,cc.j,cc.n,xv,cc.s⟩=sd:=⟨_,rfl⟩
 rw [hsd] at HSD
 obtain ⟨R,hR⟩:∃R,checkP v ⟨cc.k,p,cc.key,cc.i,cc.j,cc.n,xv,cc.s⟩=R:=⟨_,rfl⟩
 rw [hR]
 simp only [checkP,hsd] at hR
 have HR:=qh hR
 have HB:=qh (KBk.start w ⟨vk,vn,vs,la,ll,lc,oa,ol,oc⟩ cc 31 34)
 clear hR hsd hv hp hxv hxw hw hT hcb
 go_enter Tryd.func13,Tryd.ntmps13
 go_wp2_with fail
 refine (HSD.out _ HB.out.below).mono ?_
 rintro e W ⟨rfl,hb1⟩
 have B:=HB.out.next hb1 (by simp)
 have v0:=B.v.at_ 0 _ rfl;have v1:=B.v.at_ 1 _ rfl;have v2:=B.v.at_ 2 _ rfl;have v3:=B.v.at_ 3 _ rfl;have v4:=B.v.at_ 4 _ rfl
 have b0:=B.c.at_ 0 _ rfl;have b1:=B.c.at_ 1 _ rfl;have b2:=B.c.at_ 2 _ rfl;have b3:=B.c.at_ 3 _ rfl;have b4:=B.c.at_ 4 _ rfl;have b5:=B.c.at_ 5 _ rfl;have b6:=B.c.at_ 6 _ rfl;have b7:=B.c.at_ 7 _ rfl;have b8:=B.c.at_ 8 _ rfl;have b9:=B.c.at_ 9 _ rfl;have b10:=B.c.at_ 10 _ rfl;have b11:=B.c.at_ 11 _ rfl
 have z0:=B.v.lt;have z1:=B.c.lt
 have HBW:=qh B
 clear B hb1
 cases sd with
 | false=>
   obtain rfl:R=60:=by rw [<-HR.out];rfl
   go_wp2_with fail
   go_returns
   exact ⟨rfl,HBW.out.below⟩
 | true=>
   go_wp2_with fail
   refine (HGT.out _ HBW.out.below).mono ?_
   rintro e W2 h2
   obtain ⟨d,er,rfl,hrel,hb2⟩:=PGetPost.gen h2
   clear h2
   have B2:=HBW.out.next hb2 (Nat.succ_le_of_lt z1)
   clear v0 v1 v2 v3 v4 b0 b1 b2 b3 b4 b5 b6 b7 b8 b9 b10 b11
   have v0:=B2.v.at_ 0 _ rfl;have v1:=B2.v.at_ 1 _ rfl;have v2:=B2.v.at_ 2 _ rfl;have v3:=B2.v.at_ 3 _ rfl;have v4:=B2.v.at_ 4 _ rfl
   have b0:=B2.c.at_ 0 _ rfl;have b1:=B2.c.at_ 1 _ rfl;have b2:=B2.c.at_ 2 _ rfl;have b3:=B2.c.at_ 3 _ rfl;have b4:=B2.c.at_ 4 _ rfl;have b5:=B2.c.at_ 5 _ rfl;have b6:=B2.c.at_ 6 _ rfl;have b7:=B2.c.at_ 7 _ rfl;have b8:=B2.c.at_ 8 _ rfl;have b9:=B2.c.at_ 9 _ rfl;have b10:=B2.c.at_ 10 _ rfl;have b11:=B2.c.at_ 11 _ rfl
   have z0:=B2.v.lt;have z1:=B2.c.lt
   have hbl2:=B2.below
   have HB2:=qh (hbl2.alloc hbl2.size (.cells #[.int .u8 d.k, .int .i64 d.n, .string d.s, .slice d.la d.ll d.lc, .slice d.oa d.ol d.oc] 31))
   clear hb2 B2
   rcases hrel.out with ⟨hg,rfl⟩|⟨x,hg,rfl,hI⟩
   .obtain rfl:R=30:=by rw [<-HR.out,hg];rfl
    clear hg hbl2
    go_wp2_with fail
    go_returns
    exact ⟨rfl,HB2.out⟩
   .have HK:Hid (Calls Tryd.prog 37 #[.agg #[.int .u8 d.k, .int .i64 d.n, .string d.s, .slice d.la d.ll d.lc, .slice d.oa d.ol d.oc], .agg #[.int .u8 cc.k, .slice cc.pa cc.pl cc.pc, .string cc.key, .int .i64 cc.i, .int .i64 cc.j, .int .i64 cc.n, .int .u8 cc.v.k, .int .i64 cc.v.n, .string cc.v.s, .slice cc.v.la cc.v.ll cc.v.lc, .slice cc.v.oa cc.v.ol cc.v.oc, .string cc.s]] (W2.alloc (.cells #[.int .u8 d.k, .int .i64 d.n, .string d.s, .slice d.la d.ll d.lc, .slice d.oa d.ol d.oc] 31)) fun e w'=>e= .returned (.int .u16 (kindsP x cc.k cc.i cc.j cc.n cc.key))/\Below (W2.alloc (.cells #[.int .u8 d.k, .int .i64 d.n, .string d.s, .slice d.la d.ll d.lc, .slice d.oa d.ol d.oc] 31)).heap.size (W2.alloc (.cells #[.int .u8 d.k, .int .i64 d.n, .string d.s, .slice d.la d.ll d.lc, .slice d.oa d.ol d.oc] 31)) w'):=HKD.out _ x d HB2.out ((hI.sepI.isVal.sub (Zn _ _ _)).later_ ((Below.refl _ _).alloc (Nat.le_refl _) _)) hg
    obtain rfl:R=kindsP x cc.k cc.i cc.j cc.n cc.key:=by rw [<-HR.out,hg];rfl
    clear hg hI hrel hbl2
    go_wp2_with fail
    refine HK.out.mono ?_
    rintro e W3 ⟨rfl,hb3⟩
    go_wp2_with fail
    go_returns
    exact ⟨rfl,HB2.out.trans (hb3.mono HB2.out.size)⟩
end Go.Proofs.YtfoahkbnheijcaaDoor
