/-
  Contracts of the functions that the law reaches: conciliatorlaw06.Aim: what stands in memory while it runs. Entries as they are given: what stands in memory. conciliatorlaw06.Comp: a component as it is given. conciliatorlaw06.Aim: components that may be done to a value, one behind the other. conciliatorlaw10.Entry: what stands in memory while it runs. conciliatorlaw10.Entry: an entry, as it is given or such that it may be done. Heavy: some number. law10.Heavy: some number. Entries: code.Sound and conciliatorref10.Sound.
-/
import Derived.Test.YtgcfhkceejcliaaGreatDoorEnc11
import Derived.Deep.CutBlock
import Derived.Deep.LoopGhost
import Derived.BigQuiet
namespace Go.Proofs.YtgcfhkceejcliaaGreatDoor
open Go.RowKit
theorem ginfoCm:(Tryz.prog.info? 63).map (fun i=>(i.zero,i.size,i.bytes))=some (some (.agg #[.int .u8 0, .slice none 0 0, .string { data:= #[] }, .int .i64 0, .int .i64 0, .int .i64 0, .int .u8 0, .int .i64 0, .string { data:= #[] }, .slice none 0 0, .slice none 0 0, .string { data:= #[] }]),12,168):=by kernel_rfl
structure ActAt (w:World) (b o:Nat) (c:AC):Prop where
  c0:w.cell? ⟨b,o,none⟩=some (.slice c.pa c.pl c.pc)
  c1:w.cell? ⟨b,o+1,none⟩=some (.int .u8 c.k)
  c2:w.cell? ⟨b,o+2,none⟩=some (.int .i64 c.i)
  c3:w.cell? ⟨b,o+3,none⟩=some (.int .i64 c.j)
  c4:w.cell? ⟨b,o+4,none⟩=some (.int .i64 c.n)
  c5:w.cell? ⟨b,o+5,none⟩=some (.string c.s)
  c6:w.cell? ⟨b,o+6,none⟩=some (.slice c.va c.vl c.vc)
theorem ActAt.keep {w w':World} {B b o:Nat} {c:AC} (h:ActAt w b o c) (hb:Below B w w') (hB:b<B):ActAt w' b o c:=
  ⟨keep_cell hb h.c0 hB,keep_cell hb h.c1 hB,keep_cell hb h.c2 hB,keep_cell hb h.c3 hB,keep_cell hb h.c4 hB,keep_cell hb h.c5 hB,keep_cell hb h.c6 hB⟩
theorem IsAct.keep {w w':World} {B:Nat} {x:Ac} {c:AC} (h:IsAct w B x c) (hb:Below B w w'):IsAct w' B x c:=by
  cases h with
  |mk c p v hbd hp hv=>exact .mk c p v hbd (hp.keep hb) (hv.keep hb)
theorem IsB.more6 {w:World} {B B':Nat} {a:Option Addr} {n c:Nat} {bs:List UInt8} (h:IsB w B a n c bs) (hB:B≤B'):IsB w B' a n c bs:=by
  obtain ⟨h1,h2,h3,b,o,h5,h6⟩:=h
  exact ⟨h1,h2,h3,b,o,fun h=>⟨(h5 h).1,Nat.lt_of_lt_of_le (h5 h).2 hB⟩,h6⟩
theorem IsAct.more {w:World} {B B':Nat} {x:Ac} {c:AC} (h:IsAct w B x c) (hB:B≤B'):IsAct w B' x c:=by
  cases h with
  |mk c p v hbd hp hv=>exact .mk c p v hbd (hp.more6 hB) (hv.more hB)
structure IsActs (w:World) (B:Nat) (l:List Ac) (a:Option Addr) (n c:Nat):Prop where
  len:n=l.length
  cap:n≤c
  max:c≤9223372036854775807
  at_:∃b o,∃f:Nat→AC,(0<n→a=some ⟨b,o,none⟩∧b<B)∧∀i (h:i<l.length),ActAt w b (o+i*7) (f i)∧IsAct w B l[i] (f i)
theorem IsActs.keep {w w':World} {B:Nat} {l:List Ac} {a:Option Addr} {n c:Nat} (h:IsActs w B l a n c) (hb:Below B w w'):IsActs w' B l a n c:=by
  obtain ⟨h1,h2,h3,b,o,f,h5,h6⟩:=h
  exact ⟨h1,h2,h3,b,o,f,h5,fun i hi=>⟨(h6 i hi).1.keep hb (h5 (by omega)).2,(h6 i hi).2.keep hb⟩⟩
theorem IsActs.later_ {w w':World} {l:List Ac} {a:Option Addr} {n c:Nat} (h:IsActs w w.heap.size l a n c) (hb:Below w.heap.size w w'):IsActs w' w'.heap.size l a n c:=by
  obtain ⟨h1,h2,h3,b,o,f,h5,h6⟩:=h.keep hb
  exact ⟨h1,h2,h3,b,o,f,fun hn=>⟨(h5 hn).1,Nat.lt_of_lt_of_le (h5 hn).2 hb.size⟩,fun i hi=>⟨(h6 i hi).1,(h6 i hi).2.more hb.size⟩⟩
theorem IsActs.get {w:World} {B:Nat} {l:List Ac} {a:Option Addr} {n c k:Nat} (h:IsActs w B l a n c) (hk:k<n):
    ∃b o,∃f:AC,∃hp:k<l.length,a=some ⟨b,o,none⟩∧b<B∧ActAt w b (o+k*7) f∧IsAct w B l[k] f:=by
  obtain ⟨h1,h2,h3,b,o,f,h5,h6⟩:=h
  exact ⟨b,o,f k,by omega,(h5 (by omega)).1,(h5 (by omega)).2,(h6 k (by omega)).1,(h6 k (by omega)).2⟩
def OneRes (z:Nat) (r:Option Cm) (nn:Int) (W:World) (cc:CC):Prop:=match r with
  |some x=>nn=1∧IsComp (only (fun b=>z≤b) W) W.heap.size x cc
  |none=>nn=0
theorem IsComp.more6 {w:World} {B B':Nat} {x:Cm} {c:CC} (h:IsComp w B x c) (hB:B≤B'):IsComp w B' x c:=by
  cases h with
  |mk c p v hbd hp hv=>exact .mk c p v hbd (hp.more hB) (hv.more hB)
theorem isComp_S {W W':World} {S S':Nat→Prop} {B:Nat} {x:Cm} {c:CC} (h:IsComp (only S W) B x c) (hB:B=W.heap.size) (hz:W.heap.size≤W'.heap.size) (hs:∀k,S k→k<W.heap.size→S' k∧W'.heap[k]? =W.heap[k]?):IsComp (only S' W') W'.heap.size x c:=by
  subst hB;exact (h.sub (shows_step hs)).more6 hz
theorem OneRes.step {z z':Nat} {r:Option Cm} {nn:Int} {W W':World} {cc:CC} (h:OneRes z r nn W cc) (hz:z'≤z) (hs:W.heap.size≤W'.heap.size) (hb:∀k,z≤k→k<W.heap.size→W'.heap[k]? =W.heap[k]?):OneRes z' r nn W' cc:=by
  cases r with
  |none=>exact h
  |some x=>exact ⟨h.1,isComp_S h.2 rfl hs fun k hk hl=>⟨Nat.le_trans hz hk,hb k hk hl⟩⟩
theorem OnePost.any {w w':World} {r:Option Cm} {e:Ending} (h:OnePost w r e w'):∃(cc:CC) (nn:Int),e= .returned (.tuple #[.agg #[.int .u8 cc.k, .slice cc.pa cc.pl cc.pc, .string cc.key, .int .i64 cc.i, .int .i64 cc.j, .int .i64 cc.n, .int .u8 cc.v.k, .int .i64 cc.v.n, .string cc.v.s, .slice cc.v.la cc.v.ll cc.v.lc, .slice cc.v.oa cc.v.ol cc.v.oc, .string cc.s], .int .i64 nn])∧OneRes w.heap.size r nn w' cc∧Below w.heap.size w w':=by
  obtain ⟨⟨cc,hm⟩,hb⟩:=h
  cases r with
  |none=>exact ⟨cc,0,hm,rfl,hb⟩
  |some x=>exact ⟨cc,1,hm.1,⟨rfl,hm.2⟩,hb⟩
theorem filled1A {w w4:World} {r:Option Cm} {nn:Int} {z:Nat} (h:Below w.heap.size w.drew w4) (hz:w.heap.size≤w4.heap.size) (cc:CC) (t:TypeId) (ho:OneRes z r nn w4 cc) (hzz:w.heap.size≤z):BC (w4.alloc (.cells #[.int .u8 cc.k, .slice cc.pa cc.pl cc.pc, .string cc.key, .int .i64 cc.i, .int .i64 cc.j, .int .i64 cc.n, .int .u8 cc.v.k, .int .i64 cc.v.n, .string cc.v.s, .slice cc.v.la cc.v.ll cc.v.lc, .slice cc.v.oa cc.v.ol cc.v.oc, .string cc.s] t)) w4.heap.size (ccells cc)∧Below w.heap.size w.drew (w4.alloc (.cells #[.int .u8 cc.k, .slice cc.pa cc.pl cc.pc, .string cc.key, .int .i64 cc.i, .int .i64 cc.j, .int .i64 cc.n, .int .u8 cc.v.k, .int .i64 cc.v.n, .string cc.v.s, .slice cc.v.la cc.v.ll cc.v.lc, .slice cc.v.oa cc.v.ol cc.v.oc, .string cc.s] t))∧w.heap.size≤w4.heap.size∧OneRes w.heap.size r nn (w4.alloc (.cells #[.int .u8 cc.k, .slice cc.pa cc.pl cc.pc, .string cc.key, .int .i64 cc.i, .int .i64 cc.j, .int .i64 cc.n, .int .u8 cc.v.k, .int .i64 cc.v.n, .string cc.v.s, .slice cc.v.la cc.v.ll cc.v.lc, .slice cc.v.oa cc.v.ol cc.v.oc, .string cc.s] t)) cc:=by
  have hal:Below w4.heap.size w4 (w4.alloc (.cells #[.int .u8 cc.k, .slice cc.pa cc.pl cc.pc, .string cc.key, .int .i64 cc.i, .int .i64 cc.j, .int .i64 cc.n, .int .u8 cc.v.k, .int .i64 cc.v.n, .string cc.v.s, .slice cc.v.la cc.v.ll cc.v.lc, .slice cc.v.oa cc.v.ol cc.v.oc, .string cc.s] t)):=(Below.refl _ _).alloc (Nat.le_refl _) _
  exact ⟨BC.start w4 #[.int .u8 cc.k, .slice cc.pa cc.pl cc.pc, .string cc.key, .int .i64 cc.i, .int .i64 cc.j, .int .i64 cc.n, .int .u8 cc.v.k, .int .i64 cc.v.n, .string cc.v.s, .slice cc.v.la cc.v.ll cc.v.lc, .slice cc.v.oa cc.v.ol cc.v.oc, .string cc.s] t,h.alloc hz _,hz,ho.step hzz hal.size fun k _ hl=>hal.block k hl⟩
theorem filled2A {w w4:World} {r:Option Cm} {nn:Int} {z:Nat} (h:Below w.heap.size w.drew w4) (cc:CC) (x:BC w4 w.heap.size [.int .u8 0, .slice none 0 0, .string { data:= #[] }, .int .i64 0, .int .i64 0, .int .i64 0, .int .u8 0, .int .i64 0, .string { data:= #[] }, .slice none 0 0, .slice none 0 0, .string { data:= #[] }]) (ho:OneRes z r nn w4 cc) (hzz:w.heap.size+1≤z):BC ((((((((((((w4.setCell ⟨w.heap.size,0,none⟩ (.int .u8 cc.k)).setCell ⟨w.heap.size,1,none⟩ (.slice cc.pa cc.pl cc.pc)).setCell ⟨w.heap.size,2,none⟩ (.string cc.key)).setCell ⟨w.heap.size,3,none⟩ (.int .i64 cc.i)).setCell ⟨w.heap.size,4,none⟩ (.int .i64 cc.j)).setCell ⟨w.heap.size,5,none⟩ (.int .i64 cc.n)).setCell ⟨w.heap.size,6,none⟩ (.int .u8 cc.v.k)).setCell ⟨w.heap.size,7,none⟩ (.int .i64 cc.v.n)).setCell ⟨w.heap.size,8,none⟩ (.string cc.v.s)).setCell ⟨w.heap.size,9,none⟩ (.slice cc.v.la cc.v.ll cc.v.lc)).setCell ⟨w.heap.size,10,none⟩ (.slice cc.v.oa cc.v.ol cc.v.oc)).setCell ⟨w.heap.size,11,none⟩ (.string cc.s)) w.heap.size (ccells cc)∧Below w.heap.size w.drew ((((((((((((w4.setCell ⟨w.heap.size,0,none⟩ (.int .u8 cc.k)).setCell ⟨w.heap.size,1,none⟩ (.slice cc.pa cc.pl cc.pc)).setCell ⟨w.heap.size,2,none⟩ (.string cc.key)).setCell ⟨w.heap.size,3,none⟩ (.int .i64 cc.i)).setCell ⟨w.heap.size,4,none⟩ (.int .i64 cc.j)).setCell ⟨w.heap.size,5,none⟩ (.int .i64 cc.n)).setCell ⟨w.heap.size,6,none⟩ (.int .u8 cc.v.k)).setCell ⟨w.heap.size,7,none⟩ (.int .i64 cc.v.n)).setCell ⟨w.heap.size,8,none⟩ (.string cc.v.s)).setCell ⟨w.heap.size,9,none⟩ (.slice cc.v.la cc.v.ll cc.v.lc)).setCell ⟨w.heap.size,10,none⟩ (.slice cc.v.oa cc.v.ol cc.v.oc)).setCell ⟨w.heap.size,11,none⟩ (.string cc.s))∧w.heap.size≤w.heap.size∧OneRes w.heap.size r nn ((((((((((((w4.setCell ⟨w.heap.size,0,none⟩ (.int .u8 cc.k)).setCell ⟨w.heap.size,1,none⟩ (.slice cc.pa cc.pl cc.pc)).setCell ⟨w.heap.size,2,none⟩ (.string cc.key)).setCell ⟨w.heap.size,3,none⟩ (.int .i64 cc.i)).setCell ⟨w.heap.size,4,none⟩ (.int .i64 cc.j)).setCell ⟨w.heap.size,5,none⟩ (.int .i64 cc.n)).setCell ⟨w.heap.size,6,none⟩ (.int .u8 cc.v.k)).setCell ⟨w.heap.size,7,none⟩ (.int .i64 cc.v.n)).setCell ⟨w.heap.size,8,none⟩ (.string cc.v.s)).setCell ⟨w.heap.size,9,none⟩ (.slice cc.v.la cc.v.ll cc.v.lc)).setCell ⟨w.heap.size,10,none⟩ (.slice cc.v.oa cc.v.ol cc.v.oc)).setCell ⟨w.heap.size,11,none⟩ (.string cc.s)) cc:=by
  have st:=setC_st w4 w.heap.size cc
  exact ⟨bc_storeC (c0:=czero) x cc,Below.setC h (Nat.le_refl _) cc,Nat.le_refl _,ho.step (by omega) st.size fun k hk hl=>st.block k hl (by omega)⟩
structure AH (w wr:World) (v0:V) (l:List Ac) (j:Nat) (x:V) (cx:VC) (u:Value) (xs:List Cm) (cs:List CC):Prop where
  rd:xs++aimP x (l.drop j)=aimP v0 l
  cen:cs.length=xs.length
  few:xs.length≤j
  wt:x.weight≤20000+20100*j
  box:BC wr w.heap.size (vcells cx)
  val:IsVal (only (fun k=>k≠w.heap.size∧some k≠u.ownBlock) wr) wr.heap.size x cx
  row:RowC wr (w.heap.size+1) u xs cs
  below:Below w.heap.size w wr
theorem AH.start {w:World} {v0:V} {c:VC} {t:TypeId} (l:List Ac) (hv:IsVal w w.heap.size v0 c) (hw:v0.weight≤20000):AH w (w.alloc (.cells #[.int .u8 c.k, .int .i64 c.n, .string c.s, .slice c.la c.ll c.lc, .slice c.oa c.ol c.oc] t)) v0 l 0 v0 c (.slice none 0 0) [] [] :=by
  have hal:Below w.heap.size w (w.alloc (.cells #[.int .u8 c.k, .int .i64 c.n, .string c.s, .slice c.la c.ll c.lc, .slice c.oa c.ol c.oc] t)):=(Below.refl _ _).alloc (Nat.le_refl _) _
  exact ⟨rfl,rfl,Nat.le_refl _,by omega,BC.start _ _ _,(hv.sub fun b o u hb hc=>only_cell' ⟨by omega,by simp [Value.ownBlock]⟩ ((World.cell?_of_block (hal.block b hb)).trans hc)).more hal.size,Row.nil _ _ _ _ _,hal⟩
theorem AH.skip {w wr W:World} {v0:V} {l:List Ac} {j:Nat} {x:V} {cx:VC} {u:Value} {xs:List Cm} {cs:List CC} (h:AH w wr v0 l j x cx u xs cs) (hb:Below wr.heap.size wr W) (hrd:aimP x (l.drop j)=aimP x (l.drop (j+1))):AH w W v0 l (j+1) x cx u xs cs:=
  ⟨by rw [←hrd];exact h.rd,h.cen,by have:=h.few;omega,by have:=h.wt;omega,h.box.keep hb h.box.lt,isVal_S h.val rfl hb.size fun k hk hl=>⟨hk,hb.block k hl⟩,h.row.later (PC.closed _ _) (.of_below w.heap.size hb) (by omega),h.below.trans (hb.mono h.below.size)⟩
structure AM (w wr W:World) (x y:V) (cm:Cm) (cy:VC) (cc:CC) (u:Value) (xs:List Cm) (cs:List CC):Prop where
  box:BC W w.heap.size (vcells cy)
  val:IsVal (only (fun k=>wr.heap.size≤k) W) W.heap.size y cy
  cmp:IsComp (only (fun k=>wr.heap.size≤k) W) W.heap.size cm cc
  row:RowC W (w.heap.size+1) u xs cs
  below:Below w.heap.size w W
theorem AH.mid {w wr W5 W6:World} {v0:V} {l:List Ac} {j:Nat} {x y:V} {cx cy:VC} {u:Value} {xs:List Cm} {cs:List CC} {cm:Cm} {cc:CC} (h:AH w wr v0 l j x cx u xs cs) (hb:Below wr.heap.size wr W5) (hc:IsComp (only (fun k=>wr.heap.size≤k) W5) W5.heap.size cm cc) (hb6:Below W5.heap.size W5 W6) (hy:IsVal (only (fun k=>W5.heap.size≤k) W6) W6.heap.size y cy) (o:Obj):
    AM w wr ((setV W6 w.heap.size 0 cy).alloc o) x y cm cy cc u xs cs:=by
  have st:=setV_step W6 w.heap.size 0 cy
  have hal:Below (setV W6 w.heap.size 0 cy).heap.size (setV W6 w.heap.size 0 cy) ((setV W6 w.heap.size 0 cy).alloc o):=(Below.refl _ _).alloc (Nat.le_refl _) _
  have hlo:=h.box.lt
  have hz1:=hb.size;have hz2:=hb6.size;have hz3:=st.size;have hz4:=hal.size
  have hbA:Below wr.heap.size wr W6:=hb.trans (hb6.mono hz1)
  have sA:RStep W6 ((setV W6 w.heap.size 0 cy).alloc o) w.heap.size:=st.trans (RStep.of_below _ hal)
  refine ⟨(bc_store (h.box.keep hbA hlo) cy).keep hal (by omega),isVal_S hy rfl sA.size fun k hk hl=>⟨by omega,sA.block k hl (by omega)⟩,isComp_S hc rfl (Nat.le_trans hz2 sA.size) fun k hk hl=>⟨hk,(sA.block k (by omega) (by omega)).trans (hb6.block k hl)⟩,(h.row.later (PC.closed _ _) (.of_below w.heap.size hbA) (by omega)).later (PC.closed _ _) sA (by omega),(Below.set5' (h.below.trans (hbA.mono (by omega))) (Nat.le_refl _) _ _ _ _ _).trans (hal.mono (by omega))⟩
theorem wt_up {a b j:Nat} (h:a≤20000+20100*j) (hw:b≤a+20100):b≤20000+20100*(j+1):=by
  rw [Nat.mul_succ, ←Nat.add_assoc];exact Nat.le_trans hw (Nat.add_le_add_right h 20100)
theorem AH.round {w wr w7 w9:World} {v0:V} {l:List Ac} {j:Nat} {x y:V} {cx cy:VC} {a:Option Addr} {m c:Nat} {xs:List Cm} {cs:List CC} {cm:Cm} {cc:CC} {g cap:Nat} {t:TypeId}
    (h:AH w wr v0 l j x cx (.slice a m c) xs cs) (hm:AM w wr w7 x y cm cy cc (.slice a m c) xs cs) (hz:wr.heap.size≤w7.heap.size) (hrd:aimP x (l.drop j)=cm::aimP y (l.drop (j+1))) (hw:y.weight≤x.weight+20100)
    (hown:w9.ownsRow (w.heap.size+1) 63 12 (.slice (some ⟨g,0,none⟩) (xs.length+1) cap) (xs.length+1) (cs.flatMap ccells++ccells cc)) (hg:(w7.alloc (.cells #[.int .u8 cc.k, .slice cc.pa cc.pl cc.pc, .string cc.key, .int .i64 cc.i, .int .i64 cc.j, .int .i64 cc.n, .int .u8 cc.v.k, .int .i64 cc.v.n, .string cc.v.s, .slice cc.v.la cc.v.ll cc.v.lc, .slice cc.v.oa cc.v.ol cc.v.oc, .string cc.s] t)).grownBy w9 (Value.slice a m c).ownBlock)
    (hat:(Value.slice a m c).ownBlock=some g∨g=w7.heap.size+1):
    AH w w9 v0 l (j+1) y cy (.slice (some ⟨g,0,none⟩) (xs.length+1) cap) (xs++ [cm]) (cs++ [cc]):=by
  have hrlt:∀b,(Value.slice a m c).ownBlock=some b→w.heap.size+1≤b∧b<wr.heap.size:=h.row.lt
  have hba:Below w7.heap.size w7 (w7.alloc (.cells #[.int .u8 cc.k, .slice cc.pa cc.pl cc.pc, .string cc.key, .int .i64 cc.i, .int .i64 cc.j, .int .i64 cc.n, .int .u8 cc.v.k, .int .i64 cc.v.n, .string cc.v.s, .slice cc.v.la cc.v.ll cc.v.lc, .slice cc.v.oa cc.v.ol cc.v.oc, .string cc.s] t)):=(Below.refl _ _).alloc (Nat.le_refl _) _
  have hgb:Below (w.heap.size+1) (w7.alloc (.cells #[.int .u8 cc.k, .slice cc.pa cc.pl cc.pc, .string cc.key, .int .i64 cc.i, .int .i64 cc.j, .int .i64 cc.n, .int .u8 cc.v.k, .int .i64 cc.v.n, .string cc.v.s, .slice cc.v.la cc.v.ll cc.v.lc, .slice cc.v.oa cc.v.ol cc.v.oc, .string cc.s] t)) w9:=grown_below hg (fun b hb=>(hrlt b hb).1) (by rw [World.size_alloc];have:=h.box.lt;omega)
  have hlt:=h.box.lt
  have hb79:Below (w.heap.size+1) w7 w9:=(hba.mono (by omega)).trans hgb
  obtain ⟨s1,s2⟩:=PC.snoc (l:=xs) (cs:=cs) h.cen cm cc
  have hnew:PC (xs++ [cm]) (cs++ [cc]) (only (Free (w.heap.size+1) (.slice a m c)) w7) w7.heap.size xs.length:=s1 _ _ (hm.cmp.sub (shows_step fun b hb _=>⟨⟨by omega,fun e=>by have:=(hrlt b e.symm).2;omega⟩,rfl⟩))
  have hpush:=Row.push (PC.closed (xs++ [cm]) (cs++ [cc])) hm.row hba hg (u':= .slice (some ⟨g,0,none⟩) (xs.length+1) cap) (news:=ccells cc) hown (by
    rcases hat with e|e
    · left;rw [e];rfl
    · right;intro b hb;have:g=b:=by simpa [Value.ownBlock] using hb
      omega) hnew s2
  refine ⟨?_,by simp [h.cen],by rw [List.length_append,List.length_singleton];have:=h.few;omega,wt_up h.wt hw,hm.box.keep hb79 (by omega), ?_, ?_,hm.below.trans (hb79.mono (by omega))⟩
  · rw [←h.rd,hrd,List.append_assoc];rfl
  · refine isVal_S hm.val rfl hb79.size fun k hk hl=>⟨⟨by omega,fun e=> ?_⟩, ?_⟩
    · have e2:k=g:=by simpa [Value.ownBlock] using e
      rcases hat with e3|e3
      · have:=(hrlt g e3).2;omega
      · omega
    · refine (hg.block k (by simp;omega) fun e=> ?_).trans (hba.block k hl)
      have:=(hrlt k e.symm).2;omega
  · show Row _ _ _ _ _ _ _ _
    rw [flat_snoc,List.length_append,List.length_singleton]
    exact hpush
theorem news_comp (w:World) (d:CC) (t:TypeId):∀j u,(ccells d)[j]? =some u→(w.alloc (.cells #[.int .u8 d.k, .slice d.pa d.pl d.pc, .string d.key, .int .i64 d.i, .int .i64 d.j, .int .i64 d.n, .int .u8 d.v.k, .int .i64 d.v.n, .string d.v.s, .slice d.v.la d.v.ll d.v.lc, .slice d.v.oa d.v.ol d.v.oc, .string d.s] t)).cell? ((⟨w.heap.size,0,none⟩:Addr).add j)=some u:=
  World.news_of_block (t:=t) (fr:=(0,0)) (heap_alloc_new w (.cells #[.int .u8 d.k, .slice d.pa d.pl d.pc, .string d.key, .int .i64 d.i, .int .i64 d.j, .int .i64 d.n, .int .u8 d.v.k, .int .i64 d.v.n, .string d.v.s, .slice d.v.la d.v.ll d.v.lc, .slice d.v.oa d.v.ol d.v.oc, .string d.s] t))
def AimPost (w:World) (l:List Cm) (e:Ending) (w':World):Prop:=
  (∃a n c,e= .returned (.slice a n c)∧IsComps (only (fun b=>w.heap.size≤b) w') w'.heap.size l a n c)∧Below w.heap.size w w'
end Go.Proofs.YtgcfhkceejcliaaGreatDoor
namespace Go.Proofs.YtgcfhkceejcliaaGreatDoor
open Go.RowKit
structure Ba where
  k:Int
  path:List St
  key:ByteArray
  i:Int
  j:Int
  n:Int
  s:ByteArray
  v:List Tk
structure BA where
  k:Int
  pa:Option Addr
  pl:Nat
  pc:Nat
  key:ByteArray
  i:Int
  j:Int
  n:Int
  s:ByteArray
  va:Option Addr
  vl:Nat
  vc:Nat
structure BA.Bnd (c:BA):Prop where
  k0:0≤c.k
  k1:c.k<256
  i0: -9223372036854775808≤c.i
  i1:c.i≤9223372036854775807
  j0: -9223372036854775808≤c.j
  j1:c.j≤9223372036854775807
  n0: -9223372036854775808≤c.n
  n1:c.n≤9223372036854775807
  key1:c.key.size≤140737488355328
  s1:c.s.size≤140737488355328
structure BareAt (w:World) (b o:Nat) (c:BA):Prop where
  c0:w.cell? ⟨b,o,none⟩=some (.int .u8 c.k)
  c1:w.cell? ⟨b,o+1,none⟩=some (.slice c.pa c.pl c.pc)
  c2:w.cell? ⟨b,o+2,none⟩=some (.string c.key)
  c3:w.cell? ⟨b,o+3,none⟩=some (.int .i64 c.i)
  c4:w.cell? ⟨b,o+4,none⟩=some (.int .i64 c.j)
  c5:w.cell? ⟨b,o+5,none⟩=some (.int .i64 c.n)
  c6:w.cell? ⟨b,o+6,none⟩=some (.string c.s)
  c7:w.cell? ⟨b,o+7,none⟩=some (.slice c.va c.vl c.vc)
theorem BareAt.keep {w w':World} {B b o:Nat} {c:BA} (h:BareAt w b o c) (hb:Below B w w') (hB:b<B):BareAt w' b o c:=
  ⟨keep_cell hb h.c0 hB,keep_cell hb h.c1 hB,keep_cell hb h.c2 hB,keep_cell hb h.c3 hB,keep_cell hb h.c4 hB,keep_cell hb h.c5 hB,keep_cell hb h.c6 hB,keep_cell hb h.c7 hB⟩
inductive IsBare (w:World) (B:Nat):Ba→BA→Prop
  |mk (c:BA) (p:List St) (v:List Tk) (hb:c.Bnd) (hp:IsSteps w B p c.pa c.pl c.pc) (hv:IsToks w B v c.va c.vl c.vc):IsBare w B ⟨c.k,p,c.key,c.i,c.j,c.n,c.s,v⟩ c
theorem IsBare.keep {w w':World} {B:Nat} {x:Ba} {c:BA} (h:IsBare w B x c) (hb:Below B w w'):IsBare w' B x c:=by
  cases h with
  |mk c p v hbd hp hv=>exact .mk c p v hbd (hp.keep hb) (hv.keep hb)
structure IsBares (w:World) (B:Nat) (l:List Ba) (a:Option Addr) (n c:Nat):Prop where
  len:n=l.length
  cap:n≤c
  max:c≤9223372036854775807
  at_:∃b o,∃f:Nat→BA,(0<n→a=some ⟨b,o,none⟩∧b<B)∧∀i (h:i<l.length),BareAt w b (o+i*8) (f i)∧IsBare w B l[i] (f i)
theorem IsBares.keep {w w':World} {B:Nat} {l:List Ba} {a:Option Addr} {n c:Nat} (h:IsBares w B l a n c) (hb:Below B w w'):IsBares w' B l a n c:=by
  obtain ⟨h1,h2,h3,b,o,f,h5,h6⟩:=h
  exact ⟨h1,h2,h3,b,o,f,h5,fun i hi=>⟨(h6 i hi).1.keep hb (h5 (by omega)).2,(h6 i hi).2.keep hb⟩⟩
theorem IsBares.get {w:World} {B:Nat} {l:List Ba} {a:Option Addr} {n c k:Nat} (h:IsBares w B l a n c) (hk:k<n):
    ∃b o,∃f:BA,∃hp:k<l.length,a=some ⟨b,o,none⟩∧b<B∧BareAt w b (o+k*8) f∧IsBare w B l[k] f:=by
  obtain ⟨h1,h2,h3,b,o,f,h5,h6⟩:=h
  exact ⟨b,o,f k,by omega,(h5 (by omega)).1,(h5 (by omega)).2,(h6 k (by omega)).1,(h6 k (by omega)).2⟩
structure Rc where
  k:Int
  src:Int
  seq:Int
  v:List Tk
  op:List Ba
  acts:List Ac
  snd:Bool
structure RC where
  k:Int
  src:Int
  seq:Int
  va:Option Addr
  vl:Nat
  vc:Nat
  oa:Option Addr
  ol:Nat
  oc:Nat
  aa:Option Addr
  al:Nat
  ac:Nat
  snd:Bool
structure RC.Bnd (c:RC):Prop where
  k0:0≤c.k
  k1:c.k<256
  src0:0≤c.src
  src1:c.src<4294967296
  seq0:0≤c.seq
  seq1:c.seq<4294967296
def rcells (c:RC):List Value:= [.int .u8 c.k, .int .u32 c.src, .int .u32 c.seq, .slice c.va c.vl c.vc, .slice c.oa c.ol c.oc, .slice c.aa c.al c.ac, .bool c.snd]
inductive IsRec (w:World) (B:Nat):Rc→RC→Prop
  |mk (c:RC) (v:List Tk) (o:List Ba) (a:List Ac) (hb:c.Bnd) (hv:IsToks w B v c.va c.vl c.vc) (ho:IsBares w B o c.oa c.ol c.oc) (ha:IsActs w B a c.aa c.al c.ac):IsRec w B ⟨c.k,c.src,c.seq,v,o,a,c.snd⟩ c
theorem IsRec.keep {w w':World} {B:Nat} {x:Rc} {c:RC} (h:IsRec w B x c) (hb:Below B w w'):IsRec w' B x c:=by
  cases h with
  |mk c v o a hbd hv ho ha=>exact .mk c v o a hbd (hv.keep hb) (ho.keep hb) (ha.keep hb)
noncomputable def compP (b:Ba):Cm:=⟨b.k,b.path,b.key,b.i,b.j,b.n,(rawP 20 (b.v.take 60)).1,b.s⟩
noncomputable def entryP (r:Rc):En:=
  if r.snd=true then
    (if r.k % 3=0 then ⟨1,r.src,r.seq,(oneP 6 (r.v.take 60)).1, []⟩
    else if r.k % 3=1 then ⟨2,r.src,r.seq,V.none,aimP (oneP 6 (r.v.take 60)).1 (r.acts.take 20)⟩
    else ⟨3,r.src,r.seq,V.none, []⟩)
  else ⟨r.k,r.src,r.seq,(rawP 20 (r.v.take 60)).1,(r.op.take 20).map compP⟩
structure RowG (T:TypeId) (sz:Nat) (S:Nat→Prop) (w:World) (base:Nat) (u:Value) (n:Nat) (cells:List Value) (P:World→Nat→Nat→Prop):Prop where
  own:w.ownsRow base T sz u n cells
  els:∀i,i<n→P (only (fun k=>S k∧some k≠u.ownBlock) w) w.heap.size i
theorem RowG.later {T:TypeId} {sz:Nat} {S:Nat→Prop} {w w':World} {base rb:Nat} {u:Value} {n:Nat} {cells:List Value} {P:World→Nat→Nat→Prop} (hP:Closed P) (h:RowG T sz S w base u n cells P) (s:RStep w w' rb) (hr:rb<base) (hS:¬S rb):RowG T sz S w' base u n cells P:=by
  refine ⟨h.own.kept (row:=some rb) ⟨s.os,s.tape,s.output,s.size,fun k hk hne=>s.block k hk (fun e=>hne (by rw [e]))⟩ ?_,fun i hi=>hP _ _ _ _ i (shows_step fun k hk hlt=>⟨hk,s.block k hlt (fun e=>hS (e ▸ hk.1))⟩) s.size (h.els i hi)⟩
  cases hu:u.ownBlock with
  |none=>simp
  | some k=>
    have:=(h.own.lt k hu).1
    right;intro e;injection e with e;omega
theorem RowG.push {T:TypeId} {sz:Nat} {S:Nat→Prop} {w w0 w1:World} {base:Nat} {u u':Value} {n:Nat} {cells news:List Value} {P P':World→Nat→Nat→Prop} (hP':Closed P') (h:RowG T sz S w base u n cells P)
    (hb:Below w.heap.size w w0) (hg:w0.grownBy w1 u.ownBlock) (hown:w1.ownsRow base T sz u' (n+1) (cells++news)) (hat:u'.ownBlock=u.ownBlock∨∀k,u'.ownBlock=some k→w.heap.size≤k)
    (hnew:P' (only (fun k=>S k∧some k≠u.ownBlock) w) w.heap.size n) (hold:∀W B i,i<n→P W B i→P' W B i):RowG T sz S w1 base u' (n+1) (cells++news) P':=by
  have hsz:w.heap.size≤w1.heap.size:=Nat.le_trans hb.size hg.size
  refine ⟨hown,fun i hi=> ?_⟩
  have hs:Shows (only (fun k=>S k∧some k≠u.ownBlock) w) (only (fun k=>S k∧some k≠u'.ownBlock) w1) w.heap.size:=by
    refine shows_step fun k hk hlt=>⟨⟨hk.1,fun e=> ?_⟩, ?_⟩
    · rcases hat with e2|e2
      · exact hk.2 (e.trans e2)
      · have:=e2 k e.symm;omega
    · rw [hg.block k (Nat.lt_of_lt_of_le hlt hb.size) hk.2,hb.block k hlt]
  by_cases hin:i=n
  · subst hin;exact hP' _ _ _ _ _ hs hsz hnew
  · exact hP' _ _ _ _ _ hs hsz (hold _ _ _ (by omega) (h.els i (by omega)))
theorem RowG.comps {S:Nat→Prop} {w:World} {base:Nat} {l:List Cm} {cs:List CC} {a:Option Addr} {n cap:Nat} (h:RowG 63 12 S w base (.slice a n cap) l.length (cs.flatMap ccells) (PC l cs)) (hl:cs.length=l.length) (hfew:l.length≤1466015503701) {S':Nat→Prop} (hS:∀k,S k→S' k) (hS2:∀k,base≤k→S' k):
    IsComps (only S' w) w.heap.size l a n cap:=by
  have hown:=h.own
  have hcl:∀g,(Value.slice a n cap).ownBlock=some g→∀j x,(cs.flatMap ccells)[j]? =some x→w.cell? ((⟨g,0,none⟩:Addr).add j)=some x:=fun g hg=>hown.cells hg
  have hlt:=hown.lt
  rcases hown.2 with ⟨e,hn⟩|⟨g,cap',cur,e,hbg,hg,hnc,hcm,hcs,htake⟩
  · injection e with e1 e2 e3;subst e1 e2 e3
    have:l= [] :=List.length_eq_zero_iff.1 hn
    subst this
    exact .nil _ _
  · injection e with e1 e2 e3;subst e1 e2 e3
    refine ⟨rfl,hnc,by simpa [maxLen] using hcm,hfew,g,0,fun i=>cs.getD i czero,fun _=>⟨rfl,(hlt g rfl).2⟩,fun i hi=>⟨?_,(h.els i hi hi).sub (shows_step fun k hk _=>⟨hS k hk.1,rfl⟩)⟩⟩
    have hi':i<cs.length:=by omega
    have hc:∀t x,t<12→(ccells cs[i])[t]? =some x→(only S' w).cell? ⟨g,0+i*12+t,none⟩=some x:=fun t x ht hx=>by
      rw [Nat.zero_add]
      refine only_cell' (hS2 g hbg) ?_
      have:=hcl g rfl (i*12+t) x ((flat_get ccells 12 (fun _=>rfl) cs i t hi' ht).trans hx)
      rw [add_at,Nat.zero_add] at this;exact this
    have he:cs.getD i czero=cs[i] :=by simp [List.getD_eq_getElem?_getD,hi']
    simp only [he]
    exact ⟨hc 0 _ (by omega) rfl,hc 1 _ (by omega) rfl,hc 2 _ (by omega) rfl,hc 3 _ (by omega) rfl,hc 4 _ (by omega) rfl,hc 5 _ (by omega) rfl,⟨hc 6 _ (by omega) rfl,hc 7 _ (by omega) rfl,hc 8 _ (by omega) rfl,hc 9 _ (by omega) rfl,hc 10 _ (by omega) rfl⟩,hc 11 _ (by omega) rfl⟩
end Go.Proofs.YtgcfhkceejcliaaGreatDoor
namespace Go.Proofs.YtgcfhkceejcliaaGreatDoor
open Go.RowKit
theorem two_boxes (w:World) (a1 a2:Array Value) (t1 t2:TypeId):BC ((w.alloc (.cells a1 t1)).alloc (.cells a2 t2)) w.heap.size a1.toList∧BC ((w.alloc (.cells a1 t1)).alloc (.cells a2 t2)) (w.heap.size+1) a2.toList∧Below w.heap.size w ((w.alloc (.cells a1 t1)).alloc (.cells a2 t2))∧((w.alloc (.cells a1 t1)).alloc (.cells a2 t2)).heap.size=w.heap.size+1+1:=by
  have b1:Below w.heap.size w (w.alloc (.cells a1 t1)):=(Below.refl _ _).alloc (Nat.le_refl _) _
  have b2:Below (w.alloc (.cells a1 t1)).heap.size (w.alloc (.cells a1 t1)) ((w.alloc (.cells a1 t1)).alloc (.cells a2 t2)):=(Below.refl _ _).alloc (Nat.le_refl _) _
  have c2:=BC.start (w.alloc (.cells a1 t1)) a2 t2
  rw [World.size_alloc] at c2
  exact ⟨(BC.start w a1 t1).keep b2 (by simp),c2,b1.trans (b2.mono (by simp)),by simp⟩
theorem results_craw {tmps:Array Value} {W:World} {b:Nat} {d:CC} (ht:tmps[2]? =some (.pointer (some ⟨b,0,none⟩))) (h:BC W b (ccells d)):
    (results Tryz.f19 tmps).run Tryz.prog W= .ok (.agg #[.int .u8 d.k, .slice d.pa d.pl d.pc, .string d.key, .int .i64 d.i, .int .i64 d.j, .int .i64 d.n, .int .u8 d.v.k, .int .i64 d.v.n, .string d.v.s, .slice d.v.la d.v.ll d.v.lc, .slice d.v.oa d.v.ol d.v.oc, .string d.s]) W:=by
  obtain ⟨r0,r1,r2,r3,r4,r5,r6,r7,r8,r9,r10,r11⟩:=row12 h.at_
  simp [results,Tryz.results19,go_sem,ht,r0,r1,r2,r3,r4,r5,r6,r7,r8,r9,r10,r11]
theorem isSteps_part {w:World} {B0:Nat} {Q:Nat→Prop} {p:List St} {a:Option Addr} {n c:Nat} (h:IsSteps w B0 p a n c):IsSteps (only (fun k=>k<B0∨Q k) w) B0 p a n c:=
  h.sub fun _ _ _ hb hc=>only_cell' (.inl hb) hc
def CompPost (w:World) (B0:Nat) (x:Cm) (e:Ending) (w':World):Prop:=
  (∃cc:CC,e= .returned (.agg #[.int .u8 cc.k, .slice cc.pa cc.pl cc.pc, .string cc.key, .int .i64 cc.i, .int .i64 cc.j, .int .i64 cc.n, .int .u8 cc.v.k, .int .i64 cc.v.n, .string cc.v.s, .slice cc.v.la cc.v.ll cc.v.lc, .slice cc.v.oa cc.v.ol cc.v.oc, .string cc.s])∧IsComp (only (fun k=>k<B0∨w.heap.size≤k) w') w'.heap.size x cc)∧Below w.heap.size w w'
set_option maxHeartbeats 8000000 in
set_option maxRecDepth 100000 in
theorem compRaw_any (w:World) (B0:Nat) (hB0:B0≤w.heap.size) (c:BA) (x:Ba) (h:IsBare w B0 x c):
    Calls Tryz.prog 19 #[.agg #[.int .u8 c.k, .slice c.pa c.pl c.pc, .string c.key, .int .i64 c.i, .int .i64 c.j, .int .i64 c.n, .string c.s, .slice c.va c.vl c.vc]] w (CompPost w B0 (compP x)):=by
  cases h with
  |mk _ p v hbd hp hv=>
  obtain ⟨R,hR⟩:∃R,CompPost w B0 (compP ⟨c.k,p,c.key,c.i,c.j,c.n,c.s,v⟩)=R:=⟨_,rfl⟩
  rw [hR]
  have HR:=Lib.hid hR
  obtain ⟨wr,hwr⟩:∃wr,((w.alloc (.cells #[.int .u8 c.k, .slice c.pa c.pl c.pc, .string c.key, .int .i64 c.i, .int .i64 c.j, .int .i64 c.n, .string c.s, .slice c.va c.vl c.vc] 54)).alloc (.cells #[.int .u8 0, .slice none 0 0, .string { data:= #[] }, .int .i64 0, .int .i64 0, .int .i64 0, .int .u8 0, .int .i64 0, .string { data:= #[] }, .slice none 0 0, .slice none 0 0, .string { data:= #[] }] 63))=wr:=⟨_,rfl⟩
  obtain ⟨d1,d2,hb,hz⟩:=two_boxes w #[.int .u8 c.k, .slice c.pa c.pl c.pc, .string c.key, .int .i64 c.i, .int .i64 c.j, .int .i64 c.n, .string c.s, .slice c.va c.vl c.vc] #[.int .u8 0, .slice none 0 0, .string { data:= #[] }, .int .i64 0, .int .i64 0, .int .i64 0, .int .u8 0, .int .i64 0, .string { data:= #[] }, .slice none 0 0, .slice none 0 0, .string { data:= #[] }] 54 63
  rw [hwr] at d1 d2 hb hz
  have HRW:Hid (∀W,Below wr.heap.size wr.drew W→Calls Tryz.prog 16 #[.slice c.va c.vl c.vc] W fun e w'=>(∃cv:VC,e= .returned (.agg #[.int .u8 cv.k, .int .i64 cv.n, .string cv.s, .slice cv.la cv.ll cv.lc, .slice cv.oa cv.ol cv.oc])∧IsVal (only (fun b=>W.heap.size≤b) w') w'.heap.size (rawP 20 (v.take 60)).1 cv)∧Below W.heap.size W w'):=fun W hW=>rawF_own W v _ _ _ ((hv.more hB0).later_ ((hb.trans ((drew_below wr).mono (by omega))).trans (hW.mono (by omega))))
  have HFB:Hid (∀W,Below (w.heap.size+1) wr.drew W→W.cell? ⟨w.heap.size,0,none⟩=some (.int .u8 c.k)∧W.cell? ⟨w.heap.size,1,none⟩=some (.slice c.pa c.pl c.pc)∧W.cell? ⟨w.heap.size,2,none⟩=some (.string c.key)∧W.cell? ⟨w.heap.size,3,none⟩=some (.int .i64 c.i)∧W.cell? ⟨w.heap.size,4,none⟩=some (.int .i64 c.j)∧W.cell? ⟨w.heap.size,5,none⟩=some (.int .i64 c.n)∧W.cell? ⟨w.heap.size,6,none⟩=some (.string c.s)∧W.cell? ⟨w.heap.size,7,none⟩=some (.slice c.va c.vl c.vc)):=by
    intro W hW
    have hk:∀o u,wr.cell? ⟨w.heap.size,o,none⟩=some u→W.cell? ⟨w.heap.size,o,none⟩=some u:=fun o u h=>keep_cell hW (keep_cell (drew_below wr) h (by omega)) (by omega)
    exact ⟨hk _ _ (d1.at_ 0 _ rfl),hk _ _ (d1.at_ 1 _ rfl),hk _ _ (d1.at_ 2 _ rfl),hk _ _ (d1.at_ 3 _ rfl),hk _ _ (d1.at_ 4 _ rfl),hk _ _ (d1.at_ 5 _ rfl),hk _ _ (d1.at_ 6 _ rfl),hk _ _ (d1.at_ 7 _ rfl)⟩
  have HD2:=Lib.hid (show BC wr.drew (w.heap.size+1) (ccells czero) from d2.keep (drew_below wr) (by omega))
  have HB:=Lib.hid hb
  have zs:w.heap.size<wr.heap.size:=by omega
  have zt:w.heap.size+1<wr.heap.size:=by omega
  have HZ:=Lib.hid hz
  have HP:=Lib.hid hp
  have HBD:=Lib.hid hbd
  have HWR:=Lib.hid hwr
  clear hwr d1 d2 hb hz hv hp hbd hR
  go_enter Tryz.func19,Tryz.ntmps19
  generalize hQ0:bodyPost _ _ _=Q0
  have HQ:=Lib.hid hQ0
  clear hQ0
  go_upto_region 1 with fail
  rw [HWR.out]
  clear HWR
  go_wp2_with fail
  refine wp_region_noPanic ?_
  go_region_held_law (fun W=>W.cell? ⟨w.heap.size,0,none⟩=some (.int .u8 c.k)∧W.cell? ⟨w.heap.size,1,none⟩=some (.slice c.pa c.pl c.pc)∧W.cell? ⟨w.heap.size,2,none⟩=some (.string c.key)∧W.cell? ⟨w.heap.size,3,none⟩=some (.int .i64 c.i)∧W.cell? ⟨w.heap.size,4,none⟩=some (.int .i64 c.j)∧W.cell? ⟨w.heap.size,5,none⟩=some (.int .i64 c.n)∧W.cell? ⟨w.heap.size,6,none⟩=some (.string c.s)∧W.cell? ⟨w.heap.size,7,none⟩=some (.slice c.va c.vl c.vc))
    ((refine HFB.out _ ?_;(first|(with_reducible exact bl4)|(with_reducible exact Below.refl _ _)|(with_reducible exact Below.setC bl4 (Nat.le_refl _) ⟨c.k,c.pa,c.pl,c.pc,c.key,c.i,c.j,c.n,cv,c.s⟩))))
    (first|(go_at_call 16;(with_reducible refine (HRW.out _ (Below.refl _ _)).mono ?_);rintro e w4 ⟨⟨cv,rfl,hI⟩,hb4⟩;have HI:=Lib.hid hI;clear hI;have HB4:=Lib.hid hb4;have bl4:Below (w.heap.size+1) wr.drew w4:=hb4.mono (Nat.le_of_lt zt);clear hb4;have XB:=HD2.out.keep HB4.out zt;obtain ⟨xc0,xc1,xc2,xc3,xc4,xc5,xc6,xc7,xc8,xc9,xc10,xc11⟩:=row12 XB.at_;have xg0:=XB.fr 0;have xg1:=XB.fr 1;have xg2:=XB.fr 2;have xg3:=XB.fr 3;have xg4:=XB.fr 4;have xg5:=XB.fr 5;have xg6:=XB.fr 6;have xg7:=XB.fr 7;have xg8:=XB.fr 8;have xg9:=XB.fr 9;have xg10:=XB.fr 10;have xg11:=XB.fr 11;have xl:=XB.lt))
  all_goals
    refine NoPanic.normal ?_
    have HXB:=Lib.hid XB
    clear XB
    go_wp2_with fail
    rw [←HQ.out, ←HR.out]
    have st:=setC_st w4 (w.heap.size+1) ⟨c.k,c.pa,c.pl,c.pc,c.key,c.i,c.j,c.n,cv,c.s⟩
    have hbW:Below w.heap.size w w4:=(HB.out.trans ((drew_below wr).mono (Nat.le_of_lt zs))).trans (HB4.out.mono (Nat.le_of_lt zs))
    have hq:=HBD.out
    have hzz:wr.heap.size≤w4.heap.size:=HB4.out.size
    refine ⟨rfl,_,results_craw rfl (bc_storeC (c0:=czero) HXB.out ⟨c.k,c.pa,c.pl,c.pc,c.key,c.i,c.j,c.n,cv,c.s⟩),⟨⟨c.k,c.pa,c.pl,c.pc,c.key,c.i,c.j,c.n,cv,c.s⟩,rfl, ?_⟩,Below.setC hbW (by omega) ⟨c.k,c.pa,c.pl,c.pc,c.key,c.i,c.j,c.n,cv,c.s⟩⟩
    refine .mk ⟨c.k,c.pa,c.pl,c.pc,c.key,c.i,c.j,c.n,cv,c.s⟩ p _ ⟨hq.k0,hq.k1,hq.i0,hq.i1,hq.j0,hq.j1,hq.n0,hq.n1,hq.key1,hq.s1⟩ ?_ ?_
    · have h1:IsSteps (setC w4 (w.heap.size+1) ⟨c.k,c.pa,c.pl,c.pc,c.key,c.i,c.j,c.n,cv,c.s⟩) B0 p c.pa c.pl c.pc:=HP.out.keep ((Below.setC hbW (by omega) ⟨c.k,c.pa,c.pl,c.pc,c.key,c.i,c.j,c.n,cv,c.s⟩).mono hB0)
      have hz2:=st.size
      exact (isSteps_part h1).more (Nat.le_trans (by omega) hz2)
    · exact isVal_S HI.out rfl st.size fun k hk hl=>⟨.inr (by have:=hk;simp at this;omega),st.block k hl (by have:=hk;simp at this;omega)⟩
end Go.Proofs.YtgcfhkceejcliaaGreatDoor
namespace Go.Proofs.YtgcfhkceejcliaaGreatDoor
open Go.RowKit
set_option maxHeartbeats 16000000 in
set_option maxRecDepth 100000 in
theorem aim_any (w:World) (vk vn:Int) (vs:ByteArray) (la:Option Addr) (ll lc:Nat) (oa:Option Addr) (ol oc:Nat) (v:V) (hv:IsVal w w.heap.size v ⟨vk,vn,vs,la,ll,lc,oa,ol,oc⟩) (hw:v.weight≤20000) (l:List Ac) (a:Option Addr) (n c:Nat) (hl:IsActs w w.heap.size l a n c) (hT:Tabs w):
    Calls Tryz.prog 18 #[.agg #[.int .u8 vk, .int .i64 vn, .string vs, .slice la ll lc, .slice oa ol oc], .slice a n c] w (AimPost w (aimP v (l.take 20))):=by
  obtain ⟨i0,hi0,hz0,hz1,hz2⟩:=info_parts ginfoCm
  have hmax:=hl.max;have hcap:=hl.cap
  have HLN:=Lib.hid hl.len
  have HAC:=Lib.hid hl
  obtain ⟨R,hR⟩:∃R,AimPost w (aimP v (l.take 20))=R:=⟨_,rfl⟩
  rw [hR]
  have HR:=Lib.hid hR
  have HS:=Lib.hid (AH.start (t:=33) (l.take 20) hv hw)
  have HT:=Lib.hid hT
  clear hl hv hR hT
  go_enter Tryz.func18,Tryz.ntmps18
  go_wp2_with fail
  go_loopg [5,6,7,8,9,10] 20 (fun gh u i _ _ _ _ wr=>∃(j:Nat) (x:V) (cx:VC) (ua:Option Addr) (m uc:Nat) (xs:List Cm) (cs:List CC),j≤n∧j≤20∧gh=20 - j∧i= .int .i64 j∧u= .slice ua m uc∧m=xs.length∧AH w wr v (l.take 20) j x cx (.slice ua m uc) xs cs)
  case atStart=>exact ⟨0,v,_,none,0,0, [], [],Nat.zero_le _,Nat.zero_le _,rfl,rfl,rfl,rfl,HS.out⟩
  case round =>
    obtain ⟨j,x,cx,ua,m,uc,xs,cs,hj,hj8,rfl,rfl,rfl,hmx,L⟩:=hrel
    obtain ⟨v0,v1,v2,v3,v4⟩:=row5 L.box.at_
    have zs:=L.box.lt
    have hfx:=L.few
    have HL:=Lib.hid L
    have HMX:=Lib.hid hmx
    clear L hmx
    by_cases hcont:j<n∧j<20
    · obtain ⟨hlt,hlt8⟩:=hcont
      obtain ⟨b,q,f,hpl,rfl,hbB,hat,hia⟩:=HAC.out.get hlt
      have hat2:=hat.keep HL.out.below hbB
      obtain ⟨act,hact⟩:∃y,l[j] =y:=⟨_,rfl⟩
      rw [hact] at hia
      have hdr:(l.take 20).drop j=act::(l.take 20).drop (j+1):=by
        have h8:j<(l.take 20).length:=by rw [List.length_take];omega
        rw [List.drop_eq_getElem_cons h8,List.getElem_take,hact]
      have HDR:=Lib.hid hdr
      have hbw:b<wr.heap.size:=World.block_lt_of_cell? wr _ hat2.c0
      have hzb:=HL.out.below.size
      obtain ⟨r,hr⟩:∃r,oneC x act=r:=⟨_,rfl⟩
      have HRR:=Lib.hid hr
      have hwx:x.weight≤20000+20100*20:=Nat.le_trans HL.out.wt (by omega)
      have hval:IsVal wr wr.heap.size x cx:=HL.out.val.sub (shows_only _ _ _)
      have HC:Hid (∀W,Below wr.heap.size wr.drew W→Calls Tryz.prog 42 #[.agg #[.int .u8 cx.k, .int .i64 cx.n, .string cx.s, .slice cx.la cx.ll cx.lc, .slice cx.oa cx.ol cx.oc], .agg #[.slice f.pa f.pl f.pc, .int .u8 f.k, .int .i64 f.i, .int .i64 f.j, .int .i64 f.n, .string f.s, .slice f.va f.vl f.vc]] W (OnePost W r)):=fun W hW=>by
        have hbW:Below wr.heap.size wr W:=(drew_below wr).trans hW
        rw [←hr]
        exact one6_any W cx.k cx.n cx.s cx.la cx.ll cx.lc cx.oa cx.ol cx.oc x (hval.later_ hbW) (by omega) f act ((hia.keep (HL.out.below.trans (hbW.mono hzb))).more (Nat.le_trans hzb hbW.size))
      have HFB:Hid (∀W,Below wr.heap.size wr.drew W→W.cell? ⟨w.heap.size,0,none⟩=some (.int .u8 cx.k)∧W.cell? ⟨w.heap.size,1,none⟩=some (.int .i64 cx.n)∧W.cell? ⟨w.heap.size,2,none⟩=some (.string cx.s)∧W.cell? ⟨w.heap.size,3,none⟩=some (.slice cx.la cx.ll cx.lc)∧W.cell? ⟨w.heap.size,4,none⟩=some (.slice cx.oa cx.ol cx.oc)∧W.cell? ⟨b,q+j*7,none⟩=some (.slice f.pa f.pl f.pc)∧W.cell? ⟨b,q+j*7+1,none⟩=some (.int .u8 f.k)∧W.cell? ⟨b,q+j*7+2,none⟩=some (.int .i64 f.i)∧W.cell? ⟨b,q+j*7+3,none⟩=some (.int .i64 f.j)∧W.cell? ⟨b,q+j*7+4,none⟩=some (.int .i64 f.n)∧W.cell? ⟨b,q+j*7+5,none⟩=some (.string f.s)∧W.cell? ⟨b,q+j*7+6,none⟩=some (.slice f.va f.vl f.vc)):=by
        intro W hW
        have hk:∀b o u,b<wr.heap.size→wr.cell? ⟨b,o,none⟩=some u→W.cell? ⟨b,o,none⟩=some u:=fun b o u hb h=>keep_cell hW (keep_cell (drew_below wr) h hb) hb
        exact ⟨hk _ _ _ zs v0,hk _ _ _ zs v1,hk _ _ _ zs v2,hk _ _ _ zs v3,hk _ _ _ zs v4,hk _ _ _ hbw hat2.c0,hk _ _ _ hbw hat2.c1,hk _ _ _ hbw hat2.c2,hk _ _ _ hbw hat2.c3,hk _ _ _ hbw hat2.c4,hk _ _ _ hbw hat2.c5,hk _ _ _ hbw hat2.c6⟩
      have HVAL:=Lib.hid hval
      have HWX:=Lib.hid hwx
      clear hat hat2 hia hact hdr hr hwx hval
      go_upto_region 5 with fail
      go_cut [7,8] from 11 to 44 (fun c7 c8 wx=>∃(yb:Nat) (cc:CC) (nn:Int),c7= .pointer (some ⟨yb,0,none⟩)∧c8= .int .i64 nn∧BC wx yb (ccells cc)∧Below wr.heap.size wr.drew wx∧wr.heap.size≤yb∧Hid (OneRes wr.heap.size r nn wx cc))
      case first=>
        go_wp2_with fail
        refine wp_region_noPanic ?_
        go_region_held_law (fun W=>W.cell? ⟨w.heap.size,0,none⟩=some (.int .u8 cx.k)∧W.cell? ⟨w.heap.size,1,none⟩=some (.int .i64 cx.n)∧W.cell? ⟨w.heap.size,2,none⟩=some (.string cx.s)∧W.cell? ⟨w.heap.size,3,none⟩=some (.slice cx.la cx.ll cx.lc)∧W.cell? ⟨w.heap.size,4,none⟩=some (.slice cx.oa cx.ol cx.oc)∧W.cell? ⟨b,q+j*7,none⟩=some (.slice f.pa f.pl f.pc)∧W.cell? ⟨b,q+j*7+1,none⟩=some (.int .u8 f.k)∧W.cell? ⟨b,q+j*7+2,none⟩=some (.int .i64 f.i)∧W.cell? ⟨b,q+j*7+3,none⟩=some (.int .i64 f.j)∧W.cell? ⟨b,q+j*7+4,none⟩=some (.int .i64 f.n)∧W.cell? ⟨b,q+j*7+5,none⟩=some (.string f.s)∧W.cell? ⟨b,q+j*7+6,none⟩=some (.slice f.va f.vl f.vc))
          ((refine HFB.out _ ?_;(first|(with_reducible exact bl4)|(with_reducible exact Below.refl _ _)|(with_reducible exact below_draw_alloc _ _)|(with_reducible exact Below.alloc bl4 bz4 _)|(with_reducible exact Below.setC bl4 (Nat.le_refl _) cc))))
          (first
            |(go_at_call 42;(with_reducible refine (HC.out _ (Below.refl _ _)).mono ?_);rintro e w4 h4;obtain ⟨cc,nn,rfl,ho,hb4⟩:=h4.any;clear h4;have HO:=Lib.hid ho;clear ho;have bl4:Below wr.heap.size wr.drew w4:=hb4;have bz4:wr.heap.size≤w4.heap.size:=hb4.size)
            |(go_at_call 42;(with_reducible refine (HC.out _ (below_draw_alloc _ _)).mono ?_);rintro e w4 h4;obtain ⟨cc,nn,rfl,ho,hb4⟩:=h4.any;clear h4;have HO:=Lib.hid ho;clear ho;have bl4:Below wr.heap.size wr.drew w4:=(below_draw_alloc _ _).trans (hb4.mono (by simp));have bz4:wr.heap.size≤w4.heap.size:=bl4.size;have XB:=bc_new_drew hb4;obtain ⟨xc0,xc1,xc2,xc3,xc4,xc5,xc6,xc7,xc8,xc9,xc10,xc11⟩:=row12 XB.at_;have xg0:=XB.fr 0;have xg1:=XB.fr 1;have xg2:=XB.fr 2;have xg3:=XB.fr 3;have xg4:=XB.fr 4;have xg5:=XB.fr 5;have xg6:=XB.fr 6;have xg7:=XB.fr 7;have xg8:=XB.fr 8;have xg9:=XB.fr 9;have xg10:=XB.fr 10;have xg11:=XB.fr 11;have xl:=XB.lt))
        all_goals
          (first
            |(with_reducible refine gen_world (P:=fun W=>BC W w4.heap.size (ccells cc)∧Below wr.heap.size wr.drew W∧wr.heap.size≤w4.heap.size∧OneRes wr.heap.size r nn W cc) (filled1A bl4 bz4 cc _ HO.out (Nat.le_refl _)) ?_)
            |(with_reducible refine gen_world (P:=fun W=>BC W wr.heap.size (ccells cc)∧Below wr.heap.size wr.drew W∧wr.heap.size≤wr.heap.size∧OneRes wr.heap.size r nn W cc) (filled2A bl4 cc XB HO.out (by simp)) ?_))
          rintro W ⟨hbc,hbW,hyb,ho⟩
          have HO2:=Lib.hid ho
          clear ho
          go_wp2_with fail
          go_meet
          exact ⟨_,cc,nn,rfl,rfl,hbc,hbW,hyb,HO2⟩
      case rest=>
        clear v0 v1 v2 v3 v4
        obtain ⟨yb,cc,nn,rfl,rfl,Y,hb5,hyb,HO⟩:=hcut
        have hbw5:Below wr.heap.size wr wc:=(drew_below wr).trans hb5
        have LB:=HL.out.box.keep hbw5 zs
        obtain ⟨v0,v1,v2,v3,v4⟩:=row5 LB.at_
        have vf0:=LB.fr 0;have vf1:=LB.fr 1;have vf2:=LB.fr 2;have vf3:=LB.fr 3;have vf4:=LB.fr 4
        have zs5:=LB.lt
        have HB5:=Lib.hid hbw5
        clear LB hb5 hbw5
        cases r with
        | none=>
          obtain rfl:nn=0:=HO.out
          have hrd:aimP x ((l.take 20).drop j)=aimP x ((l.take 20).drop (j+1)):=by rw [HDR.out,aimP,HRR.out]
          have HSK:=Lib.hid (HL.out.skip HB5.out hrd)
          clear hrd Y
          go_wp2_with fail
          go_roundg (20 - (j+1))
          case measure=>omega
          case rel=>exact ⟨j+1,x,cx,ua,m,uc,xs,cs,by omega,by omega,rfl,by go_num,rfl,HMX.out,HSK.out⟩
        | some cm=>
          obtain ⟨hn1,hcm⟩:=HO.out
          subst hn1
          have hsm:=oneC_small HRR.out
          have hzc:=HB5.out.size
          obtain ⟨z,hz⟩:∃z,doP x cm=z:=⟨_,rfl⟩
          have HDO:Hid (Calls Tryz.prog 43 #[.agg #[.int .u8 cx.k, .int .i64 cx.n, .string cx.s, .slice cx.la cx.ll cx.lc, .slice cx.oa cx.ol cx.oc], .agg #[.int .u8 cc.k, .slice cc.pa cc.pl cc.pc, .string cc.key, .int .i64 cc.i, .int .i64 cc.j, .int .i64 cc.n, .int .u8 cc.v.k, .int .i64 cc.v.n, .string cc.v.s, .slice cc.v.la cc.v.ll cc.v.lc, .slice cc.v.oa cc.v.ol cc.v.oc, .string cc.s]] wc (DoPost wc z)):=by
            rw [←hz]
            cases hcm with
            | mk _ p xv hbd hp hxv=>
              have h1:=hsm.sv;have h2:=hsm.ss
              dsimp only at h1 h2
              exact do06_any wc cx.k cx.n cx.s cx.la cx.ll cx.lc cx.oa cx.ol cx.oc x (HVAL.out.later_ HB5.out) (by have:=HWX.out;omega) p xv cc hbd (hp.sub (shows_only _ _ _)) (hxv.sub (shows_only _ _ _)) (by omega) (by omega) (HT.out.below (HL.out.below.trans (HB5.out.mono hzb)))
          have HCM:=Lib.hid hcm
          have HZ:=Lib.hid hz
          obtain ⟨y0,y1,y2,y3,y4,y5,y6,y7,y8,y9,y10,y11⟩:=row12 Y.at_
          have zy:=Y.lt
          have HY:=Lib.hid Y
          obtain ⟨y,er⟩:=z
          clear hsm hcm hz Y
          go_wp2_with fail
          refine HDO.out.mono ?_
          rintro e w6 ⟨⟨d,rfl,hI6⟩,hb6⟩
          have hz56:=hb6.size
          have LB:=(HL.out.box.keep HB5.out zs).keep hb6 (by omega)
          have Y:=HY.out.keep hb6 zy
          clear v0 v1 v2 v3 v4 vf0 vf1 vf2 vf3 vf4 y0 y1 y2 y3 y4 y5 y6 y7 y8 y9 y10 y11
          obtain ⟨v0,v1,v2,v3,v4⟩:=row5 LB.at_
          have vf0:=LB.fr 0;have vf1:=LB.fr 1;have vf2:=LB.fr 2;have vf3:=LB.fr 3;have vf4:=LB.fr 4
          obtain ⟨y0,y1,y2,y3,y4,y5,y6,y7,y8,y9,y10,y11⟩:=row12 Y.at_
          have zs6:=LB.lt;have zy6:=Y.lt
          have HI6:=Lib.hid hI6
          have HB6:=Lib.hid hb6
          have HY6:=Lib.hid Y
          clear LB Y hI6 hb6
          dsimp only at HI6
          have hal:Below w6.heap.size w6 (w6.alloc (.cells #[.int .u8 d.k, .int .i64 d.n, .string d.s, .slice d.la d.ll d.lc, .slice d.oa d.ol d.oc] 33)):=(Below.refl _ _).alloc (Nat.le_refl _) _
          have HAL:=Lib.hid hal
          clear hal
          by_cases he:er=0
          · subst he
            have hrd:aimP x ((l.take 20).drop j)=cm::aimP y ((l.take 20).drop (j+1)):=by
              rw [HDR.out,aimP,HRR.out];dsimp only;rw [HZ.out,if_pos rfl]
            have hwy:y.weight≤x.weight+20100:=by
              have:=aim_step HRR.out (by rw [HZ.out]);rw [HZ.out] at this;exact this
            have hm:=AH.mid HL.out HB5.out HCM.out HB6.out HI6.out (.cells #[.int .u8 d.k, .int .i64 d.n, .string d.s, .slice d.la d.ll d.lc, .slice d.oa d.ol d.oc] 33)
            have HM:=Lib.hid hm
            have HRD:=Lib.hid hrd
            have HWY:=Lib.hid hwy
            have hal7:Below (setV w6 w.heap.size 0 d).heap.size (setV w6 w.heap.size 0 d) ((setV w6 w.heap.size 0 d).alloc (.cells #[.int .u8 d.k, .int .i64 d.n, .string d.s, .slice d.la d.ll d.lc, .slice d.oa d.ol d.oc] 33)):=(Below.refl _ _).alloc (Nat.le_refl _) _
            have hst7:=setV_step w6 w.heap.size 0 d
            have hY7:=(HY6.out.next hst7 (by omega)).keep hal7 (Nat.lt_of_lt_of_le zy6 hst7.size)
            have hz7:wr.heap.size≤((setV w6 w.heap.size 0 d).alloc (.cells #[.int .u8 d.k, .int .i64 d.n, .string d.s, .slice d.la d.ll d.lc, .slice d.oa d.ol d.oc] 33)).heap.size:=by have:=hst7.size;have:=hal7.size;omega
            have HY7:=Lib.hid hY7
            have HZ7:=Lib.hid hz7
            clear hm hrd hwy hY7 hz7 hal7 hst7
            obtain ⟨rfl⟩:m=xs.length:=HMX.out
            go_upto_region 10 with fail
            generalize hw7:World.alloc _ _=w7
            have hm7:AM w wr w7 x y cm d cc (.slice ua xs.length uc) xs cs:=by rw [←hw7];exact HM.out
            have Y:BC w7 yb (ccells cc):=by rw [←hw7];exact HY7.out
            have hz7:wr.heap.size≤w7.heap.size:=by rw [←hw7];exact HZ7.out
            clear hw7 v0 v1 v2 v3 v4 vf0 vf1 vf2 vf3 vf4 y0 y1 y2 y3 y4 y5 y6 y7 y8 y9 y10 y11
            obtain ⟨y0,y1,y2,y3,y4,y5,y6,y7,y8,y9,y10,y11⟩:=row12 Y.at_
            have zy7:=Y.lt
            have hown:=hm7.row.own
            have HM7:=Lib.hid hm7
            clear hm7 Y
            go_wp2_with (at_builtin;refine wpList_append_lies _ rfl (.tmp 41) (.tmp 43) 34 (by rfl) (w.heap.size+1) 63 i0 _ 12 168 Tryz.underlying34 hi0 hz0 hz1 hz2 rfl (by omega) (.slice ua xs.length uc) xs.length (cs.flatMap ccells) (by rfl) (hown.alloc _) ⟨w7.heap.size,0,none⟩ 1 1 (ccells cc) (by rfl) (by rfl) (news_comp w7 cc _) (by simp [ccells,Value.oneCell']) (by omega) (by unfold maxLen;omega) (by omega) (by first|omega|(simp;omega)) (w7.heap.size+1) (by simp) ?_;intro g cap w9 hown9 hgrow9 hat9 hlt9)
            go_roundg (20 - (j+1))
            case measure=>omega
            case rel=>exact ⟨j+1,y,d,some ⟨g,0,none⟩,xs.length+1,cap,xs++ [cm],cs++ [cc],by omega,by omega,rfl,by go_num,rfl,by simp,HL.out.round HM7.out hz7 HRD.out HWY.out hown9 hgrow9 hat9⟩
          · have hne:(er==0)=false:=by simp [he]
            have hrd:aimP x ((l.take 20).drop j)=aimP x ((l.take 20).drop (j+1)):=by
              rw [HDR.out,aimP,HRR.out];dsimp only;rw [HZ.out,if_neg he]
            have HSK:=Lib.hid (HL.out.skip (HB5.out.trans ((HB6.out.trans (HAL.out.mono hz56)).mono hzc)) hrd)
            clear hrd
            go_wp2_with fail
            go_roundg (20 - (j+1))
            case measure=>omega
            case rel=>exact ⟨j+1,x,cx,ua,m,uc,xs,cs,by omega,by omega,rfl,by go_num,rfl,HMX.out,HSK.out⟩
    · have hdr:(l.take 20).drop j= [] :=by
        apply List.drop_eq_nil_of_le
        rw [List.length_take, ←HLN.out];omega
      have hrd:=HL.out.rd
      rw [hdr,aimP,List.append_nil] at hrd
      have HRD:=Lib.hid hrd
      have hex:¬j<n∨(j<n∧¬j<20):=by omega
      clear hrd hdr hcont
      rcases hex with hq|⟨hq,hq8⟩
      all_goals
        go_wp2_with fail
        rw [←HR.out, ←HRD.out,HMX.out]
        exact ⟨⟨_,_,_,rfl,RowC.comps (by rw [←HMX.out];exact HL.out.row) HL.out.cen (by omega) (by omega)⟩,HL.out.below⟩
end Go.Proofs.YtgcfhkceejcliaaGreatDoor
namespace Go.Proofs.YtgcfhkceejcliaaGreatDoor
open Go.RowKit
def setE (W:World) (b:Nat) (d:EC):World:=(((((((((W.setCell ⟨b,0,none⟩ (.int .u8 d.k)).setCell ⟨b,1,none⟩ (.int .u32 d.src)).setCell ⟨b,2,none⟩ (.int .u32 d.seq)).setCell ⟨b,3,none⟩ (.int .u8 d.v.k)).setCell ⟨b,4,none⟩ (.int .i64 d.v.n)).setCell ⟨b,5,none⟩ (.string d.v.s)).setCell ⟨b,6,none⟩ (.slice d.v.la d.v.ll d.v.lc)).setCell ⟨b,7,none⟩ (.slice d.v.oa d.v.ol d.v.oc)).setCell ⟨b,8,none⟩ (.slice d.oa d.ol d.oc))
theorem setE_st (W:World) (b:Nat) (d:EC):RStep W (setE W b d) b:=((((((((RStep.self.trans RStep.self).trans RStep.self).trans RStep.self).trans RStep.self).trans RStep.self).trans RStep.self).trans RStep.self).trans RStep.self)
theorem bc_storeE {W:World} {b:Nat} {c0:EC} (h:BC W b (ecells c0)) (d:EC):BC (setE W b d) b (ecells d):=
  (((((((((h.set (i:=0) (x:= .int .u8 d.k) (by simp [ecells])).set (i:=1) (x:= .int .u32 d.src) (by simp [ecells])).set (i:=2) (x:= .int .u32 d.seq) (by simp [ecells])).set (i:=3) (x:= .int .u8 d.v.k) (by simp [ecells])).set (i:=4) (x:= .int .i64 d.v.n) (by simp [ecells])).set (i:=5) (x:= .string d.v.s) (by simp [ecells])).set (i:=6) (x:= .slice d.v.la d.v.ll d.v.lc) (by simp [ecells])).set (i:=7) (x:= .slice d.v.oa d.v.ol d.v.oc) (by simp [ecells])).set (i:=8) (x:= .slice d.oa d.ol d.oc) (by simp [ecells]))
theorem _root_.Go.RowKit.Below.setE {B b:Nat} {a W:World} (h:Below B a W) (hb:B≤b) (d:EC):Below B a (((((((((W.setCell ⟨b,0,none⟩ (.int .u8 d.k)).setCell ⟨b,1,none⟩ (.int .u32 d.src)).setCell ⟨b,2,none⟩ (.int .u32 d.seq)).setCell ⟨b,3,none⟩ (.int .u8 d.v.k)).setCell ⟨b,4,none⟩ (.int .i64 d.v.n)).setCell ⟨b,5,none⟩ (.string d.v.s)).setCell ⟨b,6,none⟩ (.slice d.v.la d.v.ll d.v.lc)).setCell ⟨b,7,none⟩ (.slice d.v.oa d.v.ol d.v.oc)).setCell ⟨b,8,none⟩ (.slice d.oa d.ol d.oc)):=
  (((((((((h.set_ hb).set_ hb).set_ hb).set_ hb).set_ hb).set_ hb).set_ hb).set_ hb).set_ hb)
theorem bc_storeEV {W:World} {b:Nat} {c0:EC} (h:BC W b (ecells c0)) (x:VC):BC (setV W b 3 x) b (ecells { c0 with v:=x }):=
  (((((h.set (i:=3) (x:= .int .u8 x.k) (by simp [ecells])).set (i:=4) (x:= .int .i64 x.n) (by simp [ecells])).set (i:=5) (x:= .string x.s) (by simp [ecells])).set (i:=6) (x:= .slice x.la x.ll x.lc) (by simp [ecells])).set (i:=7) (x:= .slice x.oa x.ol x.oc) (by simp [ecells]))
theorem results_ent10 {tmps:Array Value} {W:World} {b:Nat} {d:EC} (ht:tmps[2]? =some (.pointer (some ⟨b,0,none⟩))) (h:BC W b (ecells d)):
    (results Tryz.f7 tmps).run Tryz.prog W= .ok (.agg #[.int .u8 d.k, .int .u32 d.src, .int .u32 d.seq, .int .u8 d.v.k, .int .i64 d.v.n, .string d.v.s, .slice d.v.la d.v.ll d.v.lc, .slice d.v.oa d.v.ol d.v.oc, .slice d.oa d.ol d.oc]) W:=by
  obtain ⟨r0,r1,r2,r3,r4,r5,r6,r7,r8⟩:=row9 h.at_
  simp [results,Tryz.results7,go_sem,ht,r0,r1,r2,r3,r4,r5,r6,r7,r8]
def EntryPost (w:World) (x:En) (e:Ending) (w':World):Prop:=
  (∃d:EC,e= .returned (.agg #[.int .u8 d.k, .int .u32 d.src, .int .u32 d.seq, .int .u8 d.v.k, .int .i64 d.v.n, .string d.v.s, .slice d.v.la d.v.ll d.v.lc, .slice d.v.oa d.v.ol d.v.oc, .slice d.oa d.ol d.oc])∧IsEntry w' w'.heap.size x d)∧Below w.heap.size w w'
theorem filled1E {w w4:World} {y:V} {z:Nat} (h:Below w.heap.size w.drew w4) (hz:w.heap.size≤w4.heap.size) (d:EC) (t:TypeId) (hv:IsVal (only (fun b=>z≤b) w4) w4.heap.size y d.v) (hzz:w.heap.size≤z):BC (w4.alloc (.cells #[.int .u8 d.k, .int .u32 d.src, .int .u32 d.seq, .int .u8 d.v.k, .int .i64 d.v.n, .string d.v.s, .slice d.v.la d.v.ll d.v.lc, .slice d.v.oa d.v.ol d.v.oc, .slice d.oa d.ol d.oc] t)) w4.heap.size (ecells d)∧Below w.heap.size w.drew (w4.alloc (.cells #[.int .u8 d.k, .int .u32 d.src, .int .u32 d.seq, .int .u8 d.v.k, .int .i64 d.v.n, .string d.v.s, .slice d.v.la d.v.ll d.v.lc, .slice d.v.oa d.v.ol d.v.oc, .slice d.oa d.ol d.oc] t))∧w.heap.size≤w4.heap.size∧IsVal (only (fun b=>w.heap.size≤b∧b≠w4.heap.size) (w4.alloc (.cells #[.int .u8 d.k, .int .u32 d.src, .int .u32 d.seq, .int .u8 d.v.k, .int .i64 d.v.n, .string d.v.s, .slice d.v.la d.v.ll d.v.lc, .slice d.v.oa d.v.ol d.v.oc, .slice d.oa d.ol d.oc] t))) (w4.alloc (.cells #[.int .u8 d.k, .int .u32 d.src, .int .u32 d.seq, .int .u8 d.v.k, .int .i64 d.v.n, .string d.v.s, .slice d.v.la d.v.ll d.v.lc, .slice d.v.oa d.v.ol d.v.oc, .slice d.oa d.ol d.oc] t)).heap.size y d.v:=by
  have hal:Below w4.heap.size w4 (w4.alloc (.cells #[.int .u8 d.k, .int .u32 d.src, .int .u32 d.seq, .int .u8 d.v.k, .int .i64 d.v.n, .string d.v.s, .slice d.v.la d.v.ll d.v.lc, .slice d.v.oa d.v.ol d.v.oc, .slice d.oa d.ol d.oc] t)):=(Below.refl _ _).alloc (Nat.le_refl _) _
  exact ⟨BC.start w4 #[.int .u8 d.k, .int .u32 d.src, .int .u32 d.seq, .int .u8 d.v.k, .int .i64 d.v.n, .string d.v.s, .slice d.v.la d.v.ll d.v.lc, .slice d.v.oa d.v.ol d.v.oc, .slice d.oa d.ol d.oc] t,h.alloc hz _,hz,isVal_S hv rfl hal.size fun k hk hl=>⟨⟨Nat.le_trans hzz hk,by omega⟩,hal.block k hl⟩⟩
theorem filled2E0 {w w4:World} {y:V} {z:Nat} (h:Below w.heap.size w.drew w4) (d:EC) (x:BC w4 w.heap.size [.int .u8 0, .int .u32 0, .int .u32 0, .int .u8 0, .int .i64 0, .string { data:= #[] }, .slice none 0 0, .slice none 0 0, .slice none 0 0]) (hv:IsVal (only (fun b=>z≤b) w4) w4.heap.size y d.v) (hzz:w.heap.size+1≤z):BC (setE w4 w.heap.size d) w.heap.size (ecells d)∧Below w.heap.size w.drew (setE w4 w.heap.size d)∧w.heap.size≤w.heap.size∧IsVal (only (fun b=>w.heap.size≤b∧b≠w.heap.size) (setE w4 w.heap.size d)) (setE w4 w.heap.size d).heap.size y d.v:=by
  have st:=setE_st w4 w.heap.size d
  exact ⟨bc_storeE (c0:=ezero) x d,Below.setE h (Nat.le_refl _) d,Nat.le_refl _,isVal_S hv rfl st.size fun k hk hl=>have hk':z≤k:=hk;⟨⟨by omega,by omega⟩,st.block k hl (by omega)⟩⟩
theorem filled2E {w w4:World} {y:V} {z:Nat} (h:Below w.heap.size w.drew w4) (d:EC) (x:BC w4 w.heap.size [.int .u8 0, .int .u32 0, .int .u32 0, .int .u8 0, .int .i64 0, .string { data:= #[] }, .slice none 0 0, .slice none 0 0, .slice none 0 0]) (hv:IsVal (only (fun b=>z≤b) w4) w4.heap.size y d.v) (hzz:w.heap.size+1≤z):BC (((((((((w4.setCell ⟨w.heap.size,0,none⟩ (.int .u8 d.k)).setCell ⟨w.heap.size,1,none⟩ (.int .u32 d.src)).setCell ⟨w.heap.size,2,none⟩ (.int .u32 d.seq)).setCell ⟨w.heap.size,3,none⟩ (.int .u8 d.v.k)).setCell ⟨w.heap.size,4,none⟩ (.int .i64 d.v.n)).setCell ⟨w.heap.size,5,none⟩ (.string d.v.s)).setCell ⟨w.heap.size,6,none⟩ (.slice d.v.la d.v.ll d.v.lc)).setCell ⟨w.heap.size,7,none⟩ (.slice d.v.oa d.v.ol d.v.oc)).setCell ⟨w.heap.size,8,none⟩ (.slice d.oa d.ol d.oc)) w.heap.size (ecells d)∧Below w.heap.size w.drew (((((((((w4.setCell ⟨w.heap.size,0,none⟩ (.int .u8 d.k)).setCell ⟨w.heap.size,1,none⟩ (.int .u32 d.src)).setCell ⟨w.heap.size,2,none⟩ (.int .u32 d.seq)).setCell ⟨w.heap.size,3,none⟩ (.int .u8 d.v.k)).setCell ⟨w.heap.size,4,none⟩ (.int .i64 d.v.n)).setCell ⟨w.heap.size,5,none⟩ (.string d.v.s)).setCell ⟨w.heap.size,6,none⟩ (.slice d.v.la d.v.ll d.v.lc)).setCell ⟨w.heap.size,7,none⟩ (.slice d.v.oa d.v.ol d.v.oc)).setCell ⟨w.heap.size,8,none⟩ (.slice d.oa d.ol d.oc))∧w.heap.size≤w.heap.size∧IsVal (only (fun b=>w.heap.size≤b∧b≠w.heap.size) (((((((((w4.setCell ⟨w.heap.size,0,none⟩ (.int .u8 d.k)).setCell ⟨w.heap.size,1,none⟩ (.int .u32 d.src)).setCell ⟨w.heap.size,2,none⟩ (.int .u32 d.seq)).setCell ⟨w.heap.size,3,none⟩ (.int .u8 d.v.k)).setCell ⟨w.heap.size,4,none⟩ (.int .i64 d.v.n)).setCell ⟨w.heap.size,5,none⟩ (.string d.v.s)).setCell ⟨w.heap.size,6,none⟩ (.slice d.v.la d.v.ll d.v.lc)).setCell ⟨w.heap.size,7,none⟩ (.slice d.v.oa d.v.ol d.v.oc)).setCell ⟨w.heap.size,8,none⟩ (.slice d.oa d.ol d.oc))) (((((((((w4.setCell ⟨w.heap.size,0,none⟩ (.int .u8 d.k)).setCell ⟨w.heap.size,1,none⟩ (.int .u32 d.src)).setCell ⟨w.heap.size,2,none⟩ (.int .u32 d.seq)).setCell ⟨w.heap.size,3,none⟩ (.int .u8 d.v.k)).setCell ⟨w.heap.size,4,none⟩ (.int .i64 d.v.n)).setCell ⟨w.heap.size,5,none⟩ (.string d.v.s)).setCell ⟨w.heap.size,6,none⟩ (.slice d.v.la d.v.ll d.v.lc)).setCell ⟨w.heap.size,7,none⟩ (.slice d.v.oa d.v.ol d.v.oc)).setCell ⟨w.heap.size,8,none⟩ (.slice d.oa d.ol d.oc)).heap.size y d.v:=
  filled2E0 h d x hv hzz
theorem ent10_leave {w W:World} {d:EC} {v:V} {l:List Cm} {A:Act} (hr:BC W (w.heap.size+1) (ecells ezero)) (hv:IsVal (only (fun b=>b≠w.heap.size+1) W) W.heap.size v d.v) (ho:IsComps (only (fun b=>b≠w.heap.size+1) W) W.heap.size l d.oa d.ol d.oc) (hb:Below w.heap.size w W) (hd:d.Bnd) (ht:A.tmps[2]? =some (.pointer (some ⟨w.heap.size+1,0,none⟩))) (hA:A.defers= []):
    bodyPost Tryz.prog Tryz.f7 (EntryPost w ⟨d.k,d.src,d.seq,v,l⟩) .ret A (setE W (w.heap.size+1) d):=by
  have st:=setE_st W (w.heap.size+1) d
  refine ⟨hA,_,results_ent10 ht (bc_storeE hr d),⟨d,rfl, ?_⟩,Below.setE hb (by omega) d⟩
  have h1:Shows (only (fun b=>b≠w.heap.size+1) W) (setE W (w.heap.size+1) d) W.heap.size:=by
    generalize setE W (w.heap.size+1) d=W' at st
    intro b o u hb hc
    obtain ⟨hs,hc⟩:=only_cell hc
    exact (World.cell?_of_block (w':=W') (w:=W) (by exact st.block b hb hs)).trans hc
  exact .mk d v l hd ((hv.sub h1).more st.size) ((ho.sub h1).more st.size)
structure EH (w wr:World) (yb:Nat) (c:RC) (d:EC) (v:V) (j:Nat) (xs:List Cm) (cs:List CC):Prop where
  len:xs.length=j
  cen:cs.length=j
  r:BC wr w.heap.size (rcells c)
  res:BC wr (w.heap.size+1) (ecells ezero)
  box:BC wr yb (ecells d)
  val:IsVal (only (fun k=>(k≠yb∧k≠w.heap.size+1)∧some k≠(Value.slice d.oa d.ol d.oc).ownBlock) wr) wr.heap.size v d.v
  row:RowG 63 12 (fun k=>k≠yb∧k≠w.heap.size+1) wr (yb+1) (.slice d.oa d.ol d.oc) xs.length (cs.flatMap ccells) (PC xs cs)
  lo:w.heap.size+2≤yb
  below:Below w.heap.size w wr
theorem EH.start {w W:World} {yb:Nat} {c:RC} {d:EC} {v:V} (hr:BC W w.heap.size (rcells c)) (hs:BC W (w.heap.size+1) (ecells ezero)) (hb:BC W yb (ecells d)) (hv:IsVal (only (fun k=>w.heap.size+2≤k∧k≠yb) W) W.heap.size v d.v) (hlo:w.heap.size+2≤yb) (hbl:Below w.heap.size w W) (e1:d.oa=none) (e2:d.ol=0) (e3:d.oc=0):EH w W yb c d v 0 [] [] :=by
  obtain ⟨dk,ds,dq,dv,oa,ol,oc⟩:=d
  dsimp only at e1 e2 e3
  subst e1 e2 e3
  refine ⟨rfl,rfl,hr,hs,hb,isVal_S hv rfl (Nat.le_refl _) fun k hk hl=>⟨⟨⟨hk.2,by omega⟩,by simp [Value.ownBlock]⟩,rfl⟩,⟨⟨by simp, .inl ⟨rfl,rfl⟩⟩,fun i h=>absurd h (by simp)⟩,hlo,hbl⟩
theorem EH.round {w wr w4 w5:World} {yb:Nat} {c:RC} {d:EC} {v:V} {j:Nat} {xs:List Cm} {cs:List CC} {x:Cm} {cx:CC} {g cap:Nat} {t:TypeId} {a:Option Addr} {m uc:Nat} (h:EH w wr yb c d v j xs cs) (e1:d.oa=a) (e2:d.ol=m) (e3:d.oc=uc) (hb4:Below wr.heap.size wr.drew w4) (hI:IsComp (only (fun k=>k<w.heap.size∨wr.heap.size≤k) w4) w4.heap.size x cx)
    (hown:w5.ownsRow (yb+1) 63 12 (.slice (some ⟨g,0,none⟩) (j+1) cap) (j+1) (cs.flatMap ccells++ccells cx)) (hg:(w4.alloc (.cells #[.int .u8 cx.k, .slice cx.pa cx.pl cx.pc, .string cx.key, .int .i64 cx.i, .int .i64 cx.j, .int .i64 cx.n, .int .u8 cx.v.k, .int .i64 cx.v.n, .string cx.v.s, .slice cx.v.la cx.v.ll cx.v.lc, .slice cx.v.oa cx.v.ol cx.v.oc, .string cx.s] t)).grownBy w5 (Value.slice a m uc).ownBlock)
    (hat:(Value.slice a m uc).ownBlock=some g∨g=w4.heap.size+1):
    EH w (w5.setCell ⟨yb,8,none⟩ (.slice (some ⟨g,0,none⟩) (j+1) cap)) yb c { d with oa:=some ⟨g,0,none⟩,ol:=j+1,oc:=cap } v (j+1) (xs++ [x]) (cs++ [cx]):=by
  have hlo:=h.lo
  have hyl:=h.box.lt
  subst e1 e2 e3
  have hb4':Below wr.heap.size wr w4:=(drew_below wr).trans hb4
  have hz4:=hb4'.size
  have hrlt:∀b,(Value.slice d.oa d.ol d.oc).ownBlock=some b→yb+1≤b∧b<wr.heap.size:=h.row.own.lt
  have hba:Below w4.heap.size w4 (w4.alloc (.cells #[.int .u8 cx.k, .slice cx.pa cx.pl cx.pc, .string cx.key, .int .i64 cx.i, .int .i64 cx.j, .int .i64 cx.n, .int .u8 cx.v.k, .int .i64 cx.v.n, .string cx.v.s, .slice cx.v.la cx.v.ll cx.v.lc, .slice cx.v.oa cx.v.ol cx.v.oc, .string cx.s] t)):=(Below.refl _ _).alloc (Nat.le_refl _) _
  have hgb:Below (yb+1) (w4.alloc (.cells #[.int .u8 cx.k, .slice cx.pa cx.pl cx.pc, .string cx.key, .int .i64 cx.i, .int .i64 cx.j, .int .i64 cx.n, .int .u8 cx.v.k, .int .i64 cx.v.n, .string cx.v.s, .slice cx.v.la cx.v.ll cx.v.lc, .slice cx.v.oa cx.v.ol cx.v.oc, .string cx.s] t)) w5:=grown_below hg (fun b hb=>(hrlt b hb).1) (by rw [World.size_alloc];omega)
  have hb45:Below (yb+1) w4 w5:=(hba.mono (by omega)).trans hgb
  have hb5:Below (yb+1) wr w5:=(hb4'.mono (by omega)).trans hb45
  have hrow:=h.row.later (rb:=yb) (PC.closed xs cs) (.of_below _ hb4') (by omega) (fun hk=>hk.1 rfl)
  obtain ⟨s1,s2⟩:=PC.snoc (l:=xs) (cs:=cs) (by rw [h.len,h.cen]) x cx
  have hnew:PC (xs++ [x]) (cs++ [cx]) (only (fun k=>(k≠yb∧k≠w.heap.size+1)∧some k≠(Value.slice d.oa d.ol d.oc).ownBlock) w4) w4.heap.size xs.length:=s1 _ _ (hI.sub (shows_step fun b hb _=>⟨⟨⟨by omega,by omega⟩,fun e=>by have:=hrlt b e.symm;omega⟩,rfl⟩))
  have hpush:=RowG.push (PC.closed (xs++ [x]) (cs++ [cx])) hrow hba hg (u':= .slice (some ⟨g,0,none⟩) (j+1) cap) (news:=ccells cx) (by rw [h.len];exact hown) (by
    rcases hat with e|e
    · left;rw [e];rfl
    · right;intro b hb;have:g=b:=by simpa [Value.ownBlock] using hb
      omega) hnew s2
  have hr2:RowG 63 12 (fun k=>k≠yb∧k≠w.heap.size+1) w5 (yb+1) (.slice (some ⟨g,0,none⟩) (j+1) cap) (xs++ [x]).length ((cs++ [cx]).flatMap ccells) (PC (xs++ [x]) (cs++ [cx])):=by
    rw [flat_snoc,List.length_append,List.length_singleton]
    exact hpush
  have st:RStep w5 (w5.setCell ⟨yb,8,none⟩ (.slice (some ⟨g,0,none⟩) (j+1) cap)) yb:=RStep.self
  refine ⟨by simp [h.len],by simp [h.cen],(h.r.keep hb5 (by omega)).far (by omega),(h.res.keep hb5 (by omega)).far (by omega),(h.box.keep hb5 (by omega)).set (i:=8) (x:= .slice (some ⟨g,0,none⟩) (j+1) cap) (by simp [ecells]), ?_,hr2.later (PC.closed _ _) st (by omega) (fun hk=>hk.1 rfl),hlo,(h.below.trans (hb5.mono (by omega))).set_ (by omega)⟩
  refine isVal_S h.val rfl (Nat.le_trans hb5.size st.size) fun k hk hl=>⟨⟨hk.1,fun e=> ?_⟩, ?_⟩
  · have e2:k=g:=by simpa [Value.ownBlock] using e
    rcases hat with e3|e3
    · exact hk.2 (by rw [e2,e3])
    · omega
  · refine (st.block k (Nat.lt_of_lt_of_le hl hb5.size) hk.1.1).trans ((hg.block k (by rw [World.size_alloc];omega) hk.2).trans ((hba.block k (by omega)).trans (hb4'.block k hl)))
end Go.Proofs.YtgcfhkceejcliaaGreatDoor
namespace Go.Proofs.YtgcfhkceejcliaaGreatDoor
open Go.RowKit
theorem below_of_drew {w W:World} (h:Below w.heap.size w.drew W):Below w.heap.size w W:=(drew_below w).trans h
set_option maxHeartbeats 32000000 in
set_option maxRecDepth 100000 in
theorem ent10_any (w:World) (c:RC) (x:Rc) (h:IsRec w w.heap.size x c) (hT:Tabs w):
    Calls Tryz.prog 7 #[.agg #[.int .u8 c.k, .int .u32 c.src, .int .u32 c.seq, .slice c.va c.vl c.vc, .slice c.oa c.ol c.oc, .slice c.aa c.al c.ac, .bool c.snd]] w (EntryPost w (entryP x)):=by
  obtain ⟨i0,hi0,hz0,hz1,hz2⟩:=info_parts ginfoCm
  cases h with
  |mk _ tl bs acs hbd hv ho ha=>
  obtain ⟨R,hR⟩:∃R,EntryPost w (entryP ⟨c.k,c.src,c.seq,tl,bs,acs,c.snd⟩)=R:=⟨_,rfl⟩
  rw [hR]
  have HR:=Lib.hid hR
  obtain ⟨wb,hwr⟩:∃wb,((w.alloc (.cells #[.int .u8 c.k, .int .u32 c.src, .int .u32 c.seq, .slice c.va c.vl c.vc, .slice c.oa c.ol c.oc, .slice c.aa c.al c.ac, .bool c.snd] 27)).alloc (.cells #[.int .u8 0, .int .u32 0, .int .u32 0, .int .u8 0, .int .i64 0, .string { data:= #[] }, .slice none 0 0, .slice none 0 0, .slice none 0 0] 36))=wb:=⟨_,rfl⟩
  obtain ⟨d1,d2,hb,hz⟩:=two_boxes w #[.int .u8 c.k, .int .u32 c.src, .int .u32 c.seq, .slice c.va c.vl c.vc, .slice c.oa c.ol c.oc, .slice c.aa c.al c.ac, .bool c.snd] #[.int .u8 0, .int .u32 0, .int .u32 0, .int .u8 0, .int .i64 0, .string { data:= #[] }, .slice none 0 0, .slice none 0 0, .slice none 0 0] 27 36
  rw [hwr] at d1 d2 hb hz
  have HRW:Hid (∀W,Below wb.heap.size wb.drew W→Calls Tryz.prog 16 #[.slice c.va c.vl c.vc] W fun e w'=>(∃cv:VC,e= .returned (.agg #[.int .u8 cv.k, .int .i64 cv.n, .string cv.s, .slice cv.la cv.ll cv.lc, .slice cv.oa cv.ol cv.oc])∧IsVal (only (fun b=>W.heap.size≤b) w') w'.heap.size (rawP 20 (tl.take 60)).1 cv)∧Below W.heap.size W w'):=fun W hW=>rawF_own W tl _ _ _ (hv.later_ ((hb.trans ((drew_below wb).mono (by omega))).trans (hW.mono (by omega))))
  have HBD:Hid (∀W,Below w.heap.size w W→Calls Tryz.prog 17 #[.slice c.va c.vl c.vc] W fun e w'=>(∃cv:VC,e= .returned (.agg #[.int .u8 cv.k, .int .i64 cv.n, .string cv.s, .slice cv.la cv.ll cv.lc, .slice cv.oa cv.ol cv.oc])∧IsVal (only (fun b=>W.heap.size≤b) w') w'.heap.size (oneP 6 (tl.take 60)).1 cv)∧Below W.heap.size W w'):=fun W hW=>build_own W tl _ _ _ (hv.later_ hW)
  have HAM:Hid (∀W (cv:VC),Below w.heap.size w W→IsVal W W.heap.size (oneP 6 (tl.take 60)).1 cv→Calls Tryz.prog 18 #[.agg #[.int .u8 cv.k, .int .i64 cv.n, .string cv.s, .slice cv.la cv.ll cv.lc, .slice cv.oa cv.ol cv.oc], .slice c.aa c.al c.ac] W (AimPost W (aimP (oneP 6 (tl.take 60)).1 (acs.take 20)))):=fun W cv hW hI=>aim_any W _ _ _ _ _ _ _ _ _ _ hI (build_light tl).2.1 acs _ _ _ (ha.later_ hW) (hT.below hW)
  have HFB:Hid (∀W,Below wb.heap.size wb.drew W→W.cell? ⟨w.heap.size,0,none⟩=some (.int .u8 c.k)∧W.cell? ⟨w.heap.size,1,none⟩=some (.int .u32 c.src)∧W.cell? ⟨w.heap.size,2,none⟩=some (.int .u32 c.seq)∧W.cell? ⟨w.heap.size,3,none⟩=some (.slice c.va c.vl c.vc)):=by
    intro W hW
    have hk:∀o u,wb.cell? ⟨w.heap.size,o,none⟩=some u→W.cell? ⟨w.heap.size,o,none⟩=some u:=fun o u h=>keep_cell hW (keep_cell (drew_below wb) h (by omega)) (show w.heap.size<wb.heap.size by omega)
    exact ⟨hk _ _ (d1.at_ 0 _ rfl),hk _ _ (d1.at_ 1 _ rfl),hk _ _ (d1.at_ 2 _ rfl),hk _ _ (d1.at_ 3 _ rfl)⟩
  have HD1:=Lib.hid (show BC wb w.heap.size (rcells c) from d1)
  have HD2:=Lib.hid (show BC wb (w.heap.size+1) (ecells ezero) from d2)
  have HB:=Lib.hid hb
  have hzl:w.heap.size+2≤wb.heap.size:=by omega
  have HOB:=Lib.hid ho
  have HBN:=Lib.hid hbd
  have HWR:=Lib.hid hwr
  have k0:=hbd.k0
  have hocap:=ho.cap;have homax:=ho.max
  clear hwr d1 d2 hb hz hv ho ha hbd hR hT
  go_enter Tryz.func7,Tryz.ntmps7
  generalize hQ0:bodyPost _ _ _=Q0
  have HQ:=Lib.hid hQ0
  clear hQ0
  go_upto_region 1 with fail
  rw [HWR.out]
  clear HWR
  go_cut [3] from 5 to 14 (fun c3 wx=>∃(yb:Nat) (cv:VC),c3= .pointer (some ⟨yb,0,none⟩)∧BC wx yb (ecells ⟨c.k,c.src,c.seq,cv,none,0,0⟩)∧Below wb.heap.size wb.drew wx∧wb.heap.size≤yb∧Hid (IsVal (only (fun b=>wb.heap.size≤b∧b≠yb) wx) wx.heap.size (rawP 20 (tl.take 60)).1 cv))
  case first=>
    go_wp2_with fail
    refine wp_region_noPanic ?_
    go_region_held_law (fun W=>W.cell? ⟨w.heap.size,0,none⟩=some (.int .u8 c.k)∧W.cell? ⟨w.heap.size,1,none⟩=some (.int .u32 c.src)∧W.cell? ⟨w.heap.size,2,none⟩=some (.int .u32 c.seq)∧W.cell? ⟨w.heap.size,3,none⟩=some (.slice c.va c.vl c.vc))
      ((refine HFB.out _ ?_;(first|(with_reducible exact bl4)|(with_reducible exact Below.refl _ _)|(with_reducible exact below_draw_alloc _ _)|(with_reducible exact Below.alloc bl4 bz4 _)|(with_reducible exact Below.setE bl4 (Nat.le_refl _) ⟨c.k,c.src,c.seq,cv,none,0,0⟩))))
      (first
        |(go_at_call 16;(with_reducible refine (HRW.out _ (Below.refl _ _)).mono ?_);rintro e w4 ⟨⟨cv,rfl,hI⟩,hb4⟩;have HI:=Lib.hid hI;clear hI;have bl4:Below wb.heap.size wb.drew w4:=hb4;have bz4:wb.heap.size≤w4.heap.size:=hb4.size)
        |(go_at_call 16;(with_reducible refine (HRW.out _ (below_draw_alloc _ _)).mono ?_);rintro e w4 ⟨⟨cv,rfl,hI⟩,hb4⟩;have HI:=Lib.hid hI;clear hI;have bl4:Below wb.heap.size wb.drew w4:=(below_draw_alloc _ _).trans (hb4.mono (by simp));have bz4:wb.heap.size≤w4.heap.size:=bl4.size;have XB:=bc_new_drew hb4;obtain ⟨xc0,xc1,xc2,xc3,xc4,xc5,xc6,xc7,xc8⟩:=row9 XB.at_;have xg0:=XB.fr 0;have xg1:=XB.fr 1;have xg2:=XB.fr 2;have xg3:=XB.fr 3;have xg4:=XB.fr 4;have xg5:=XB.fr 5;have xg6:=XB.fr 6;have xg7:=XB.fr 7;have xg8:=XB.fr 8;have xl:=XB.lt))
    all_goals
      (first
        |(with_reducible refine gen_world (P:=fun W=>BC W w4.heap.size (ecells ⟨c.k,c.src,c.seq,cv,none,0,0⟩)∧Below wb.heap.size wb.drew W∧wb.heap.size≤w4.heap.size∧IsVal (only (fun b=>wb.heap.size≤b∧b≠w4.heap.size) W) W.heap.size (rawP 20 (tl.take 60)).1 cv) (filled1E bl4 bz4 ⟨c.k,c.src,c.seq,cv,none,0,0⟩ _ HI.out (Nat.le_refl _)) ?_)
        |(with_reducible refine gen_world (P:=fun W=>BC W wb.heap.size (ecells ⟨c.k,c.src,c.seq,cv,none,0,0⟩)∧Below wb.heap.size wb.drew W∧wb.heap.size≤wb.heap.size∧IsVal (only (fun b=>wb.heap.size≤b∧b≠wb.heap.size) W) W.heap.size (rawP 20 (tl.take 60)).1 cv) (filled2E bl4 ⟨c.k,c.src,c.seq,cv,none,0,0⟩ XB HI.out (by simp)) ?_))
      rintro W ⟨hbc,hbW,hyb,hI⟩
      have HI2:=Lib.hid hI
      clear hI
      go_wp2_with fail
      go_meet
      exact ⟨_,cv,rfl,hbc,hbW,hyb,HI2⟩
  case rest=>
  obtain ⟨yb,cv,rfl,Y,hb5,hyb,HI⟩:=hcut
  have hbw:=below_of_drew hb5
  have E1:=HD1.out.keep hbw (show w.heap.size<wb.heap.size by omega)
  have E2:=HD2.out.keep hbw (show w.heap.size+1<wb.heap.size by omega)
  have hIV:IsVal (only (fun k=>w.heap.size+2≤k∧k≠yb) wc) wc.heap.size (rawP 20 (tl.take 60)).1 cv:=isVal_S HI.out rfl (Nat.le_refl _) fun k hk _=>⟨⟨by have:=hk.1;omega,hk.2⟩,rfl⟩
  have hBW:Below w.heap.size w wc:=HB.out.trans (hbw.mono (by omega))
  obtain ⟨sn,hsn⟩:∃sn,c.snd=sn:=⟨_,rfl⟩
  cases sn with
  | false =>
    have hx:entryP ⟨c.k,c.src,c.seq,tl,bs,acs,c.snd⟩=⟨c.k,c.src,c.seq,(rawP 20 (tl.take 60)).1,(bs.take 20).map compP⟩:=by rw [entryP,if_neg (by rw [hsn];simp)]
    have HX:=Lib.hid hx
    have HE:=Lib.hid (EH.start E1 E2 Y hIV (by omega) hBW rfl rfl rfl)
    have q0:=E1.at_ 0 _ rfl;have q1:=E1.at_ 1 _ rfl;have q2:=E1.at_ 2 _ rfl;have q3:=E1.at_ 3 _ rfl;have q4:=E1.at_ 4 _ rfl;have q5:=E1.at_ 5 _ rfl;have q6:=E1.at_ 6 _ rfl
    rw [hsn] at q6
    have z1:=E1.lt
    clear E1 E2 Y hIV hbw hb5 hx hsn HI hBW
    go_upto_block 0 with fail
    clear q0 q1 q2 q3 q4 q5 q6
    go_wp2_with fail
    go_loopg [4] 20 (fun gh i wx=>∃(j:Nat) (ua:Option Addr) (m uc:Nat) (xs:List Cm) (cs:List CC),j≤c.ol∧j≤20∧gh=20 - j∧i= .int .i64 j∧Hid (m=j)∧Hid (xs=(bs.take j).map compP)∧EH w wx yb c ⟨c.k,c.src,c.seq,cv,ua,m,uc⟩ (rawP 20 (tl.take 60)).1 j xs cs)
    case atStart=>exact ⟨0,none,0,0, [], [],Nat.zero_le _,Nat.zero_le _,rfl,rfl,Lib.hid rfl,Lib.hid rfl,HE.out⟩
    case round=>
      obtain ⟨j,ua,m,uc,xs,cs,hj,hj20,rfl,rfl,HM,HXS,L⟩:=hrel
      have q4:=L.r.at_ 4 _ rfl
      have z1:=L.r.lt
      have HL:=Lib.hid L
      clear L
      by_cases hcont:j<c.ol∧j<20
      · obtain ⟨hlt,hlt20⟩:=hcont
        obtain ⟨b,q,f,hpl,hoa,hbB,hat,hia⟩:=HOB.out.get hlt
        have hat2:=hat.keep HL.out.below hbB
        have hbw:b<wr.heap.size:=World.block_lt_of_cell? wr _ hat2.c0
        have hzb:=HL.out.below.size
        obtain ⟨xb,hxb⟩:∃y,bs[j] =y:=⟨_,rfl⟩
        rw [hxb] at hia
        rw [hoa] at q4
        have hnx:xs++ [compP xb] =(bs.take (j+1)).map compP:=by rw [HXS.out,List.take_succ_eq_append_getElem hpl,List.map_append,hxb];rfl
        have HNX:=Lib.hid hnx
        have p0:=hat2.c0;have p1:=hat2.c1;have p2:=hat2.c2;have p3:=hat2.c3;have p4:=hat2.c4;have p5:=hat2.c5;have p6:=hat2.c6;have p7:=hat2.c7
        have HC3:Hid (∀W,Below wr.heap.size wr.drew W→Calls Tryz.prog 19 #[.agg #[.int .u8 f.k, .slice f.pa f.pl f.pc, .string f.key, .int .i64 f.i, .int .i64 f.j, .int .i64 f.n, .string f.s, .slice f.va f.vl f.vc]] W (CompPost W w.heap.size (compP xb))):=fun W hW=>compRaw_any W w.heap.size (Nat.le_trans hzb hW.size) f xb (hia.keep (HL.out.below.trans ((below_of_drew hW).mono hzb)))
        have HMM:Hid (m=j):=HM
        have hq4:=HL.out.box.at_ 8 _ rfl
        have hfr4:=HL.out.box.fr 8
        have hyl:=HL.out.box.lt
        have hlo:=HL.out.lo
        have hrlt:∀g,(Value.slice ua m uc).ownBlock=some g→w.heap.size+1≤g:=fun g hg=>by have:=(HL.out.row.own.lt g hg).1;omega
        have HEX:Hid (∀W,Below wr.heap.size wr.drew W→W.ownsRow (yb+1) 63 12 (.slice ua m uc) j (cs.flatMap ccells)∧BC W yb (ecells ⟨c.k,c.src,c.seq,cv,ua,m,uc⟩)):=fun W hW=>by
          have ho:=(HL.out.row.later (rb:=yb) (PC.closed _ _) (.of_below _ (below_of_drew hW)) (by omega) (fun hk=>hk.1 rfl)).own
          rw [HL.out.len] at ho
          exact ⟨ho,HL.out.box.keep (below_of_drew hW) hyl⟩
        have hyw:w.heap.size+1≤yb:=by omega
        have HOA:=Lib.hid hoa
        clear hat hat2 hia hxb hnx hoa HX HE HD1 HD2 HB HRW HBD HAM HFB
        go_wp2_with fail
        refine wp_region_noPanic ?_
        go_region_law
          (first
            |(go_simp;go_at_call 19;(with_reducible refine (HC3.out _ (Below.refl _ _)).mono ?_);rintro e w4 ⟨⟨cx,rfl,hI4⟩,hb4⟩;have HI4:=Lib.hid hI4;clear hI4;have HB4:=Lib.hid hb4;have bz4:w.heap.size+1≤w4.heap.size:=Nat.le_trans (Nat.succ_le_of_lt z1) hb4.size;have bw4:wr.heap.size≤w4.heap.size:=hb4.size;have bl4:Below (w.heap.size+1) wr.drew w4:=hb4.mono (Nat.succ_le_of_lt z1);obtain ⟨ho4,E4⟩:=HEX.out w4 hb4;clear hb4;have ye8:=E4.at_ 8 _ rfl;have yf8:=E4.fr 8;have yl4:=E4.lt)
            |(refine step_append_lies _ (by rfl) _ _ _ (by rfl) (yb+1) 63 i0 _ 12 168 (by kernel_rfl) hi0 hz0 hz1 hz2 rfl (by omega) (.slice ua m uc) j (cs.flatMap ccells) (by rfl) (ho4.alloc _) ⟨w4.heap.size,0,none⟩ 1 1 (ccells cx) (by rfl) (by rfl) (news_comp w4 cx _) (by simp [ccells,Value.oneCell']) (by omega) (by unfold maxLen;omega) (by omega) (by simp;omega) (w4.heap.size+1) (by simp) ?_;intro g cap w5 hown5 hgrow5 hat5 hlt5;have HG5:=Lib.hid hgrow5;have hgb5:Below (w.heap.size+1) w4 w5:=((Below.refl _ _).alloc bz4 _).trans (grown_below hgrow5 hrlt (by rw [World.size_alloc];omega));have bl5:Below (w.heap.size+1) wr.drew w5:=bl4.trans hgb5;have E5:=E4.keep ((((Below.refl _ _).alloc (Nat.le_refl _) _).mono (Nat.succ_le_of_lt yl4)).trans (grown_below hgrow5 (fun g hg=>(HL.out.row.own.lt g hg).1) (by rw [World.size_alloc];omega))) (Nat.lt_succ_self _);have yg8:=E5.at_ 8 _ rfl;have yh8:=E5.fr 8;have yl5:=E5.lt;clear hgrow5 hgb5))
        all_goals
          refine NoPanic.normal ?_
          go_wp2_with fail
          go_roundg (20 - (j+1))
          case measure=>omega
          case rel=>exact ⟨j+1,some ⟨g,0,none⟩,j+1,cap,xs++ [compP xb],cs++ [cx],by omega,by omega,rfl,by go_num,Lib.hid rfl,HNX,HL.out.round rfl rfl rfl HB4.out HI4.out hown5 HG5.out hat5⟩
      · have htk:(bs.take j).map compP=(bs.take 20).map compP:=by
          have hl:=HOB.out.len
          by_cases h20:j=20
          · rw [h20]
          · rw [List.take_of_length_le (by omega),List.take_of_length_le (by omega)]
        have hxs:=HXS.out
        rw [htk] at hxs
        have HXX:=Lib.hid hxs
        have hex:¬j<c.ol∨(j<c.ol∧¬j<20):=by omega
        obtain ⟨s0,s1,s2,s3,s4,s5,s6,s7,s8⟩:=row9 HL.out.res.at_
        have sf0:=HL.out.res.fr 0;have sf1:=HL.out.res.fr 1;have sf2:=HL.out.res.fr 2;have sf3:=HL.out.res.fr 3;have sf4:=HL.out.res.fr 4;have sf5:=HL.out.res.fr 5;have sf6:=HL.out.res.fr 6;have sf7:=HL.out.res.fr 7;have sf8:=HL.out.res.fr 8
        obtain ⟨y0,y1,y2,y3,y4,y5,y6,y7,y8⟩:=row9 HL.out.box.at_
        have zr2:=HL.out.res.lt;have zy2:=HL.out.box.lt
        clear htk hxs hcont HE HD1 HD2 HB HRW HBD HAM HFB
        rcases hex with hq|⟨hq,hq8⟩
        all_goals
          go_wp2_with fail
          rw [←HQ.out, ←HR.out,HX.out, ←HXX.out]
          have hbn:=HBN.out
          have hlo:=HL.out.lo
          exact ent10_leave (W:=wr) (d:=⟨c.k,c.src,c.seq,cv,ua,m,uc⟩) HL.out.res (isVal_S HL.out.val rfl (Nat.le_refl _) fun k hk _=>⟨hk.1.2,rfl⟩) (RowG.comps (S:=fun k=>k≠yb∧k≠w.heap.size+1) (S':=fun k=>k≠w.heap.size+1) HL.out.row (by rw [HL.out.cen,HL.out.len]) (by rw [HL.out.len];omega) (fun k hk=>hk.2) (fun k hk=>by omega)) HL.out.below ⟨hbn.k0,hbn.k1,hbn.src0,hbn.src1,hbn.seq0,hbn.seq1⟩ rfl rfl
  | true =>
    have Y5:=Y
    obtain ⟨y0,y1,y2,y3,y4,y5,y6,y7,y8⟩:=row9 Y5.at_;have f0:=Y5.fr 0;have f1:=Y5.fr 1;have f2:=Y5.fr 2;have f3:=Y5.fr 3;have f4:=Y5.fr 4;have f5:=Y5.fr 5;have f6:=Y5.fr 6;have f7:=Y5.fr 7;have f8:=Y5.fr 8
    have q0:=E1.at_ 0 _ rfl;have q6:=E1.at_ 6 _ rfl
    rw [hsn] at q6
    have z1:=E1.lt;have zy:=Y.lt;have zr:=E2.lt
    have hd1:0≤c.k % 3:=Int.emod_nonneg _ (by omega)
    have hd2:c.k % 3<3:=Int.emod_lt_of_pos _ (by omega)
    have HY:=Lib.hid Y;have HE1:=Lib.hid E1;have HE2:=Lib.hid E2;have HBW:=Lib.hid hBW;have HSN:=Lib.hid hsn
    have HBB:=Lib.hid hbw
    clear Y5 Y E1 E2 hIV HI hbw hb5 hBW hsn
    go_upto_region 5 with fail
    generalize hw6:World.setCell _ _ _=w6
    have Y6:BC w6 yb (ecells ⟨1+c.k % 3,c.src,c.seq,vzero,none,0,0⟩):=by rw [←hw6];exact bc_storeEV (c0:=⟨1+c.k % 3,c.src,c.seq,cv,none,0,0⟩) (HY.out.set (i:=0) (x:= .int .u8 (1+c.k % 3)) (by simp [ecells])) vzero
    have R6:BC w6 w.heap.size (rcells c):=by rw [←hw6];exact (((((HE1.out.far (by omega)).far (by omega)).far (by omega)).far (by omega)).far (by omega)).far (by omega)
    have S6:BC w6 (w.heap.size+1) (ecells ezero):=by rw [←hw6];exact (((((HE2.out.far (by omega)).far (by omega)).far (by omega)).far (by omega)).far (by omega)).far (by omega)
    have hb6:Below w.heap.size w w6:=by rw [←hw6];exact (((((HBW.out.set_ (by omega)).set_ (by omega)).set_ (by omega)).set_ (by omega)).set_ (by omega)).set_ (by omega)
    clear hw6 y0 y1 y2 y3 y4 y5 y6 y7 y8 f0 f1 f2 f3 f4 f5 f6 f7 f8 q0 q6 z1 zy zr
    obtain ⟨kk,hkk⟩:∃kk,1+c.k % 3=kk:=⟨_,rfl⟩
    rw [hkk] at Y6
    obtain ⟨y0,y1,y2,y3,y4,y5,y6,y7,y8⟩:=row9 Y6.at_
    have f0:=Y6.fr 0;have f1:=Y6.fr 1;have f2:=Y6.fr 2;have f3:=Y6.fr 3;have f4:=Y6.fr 4;have f5:=Y6.fr 5;have f6:=Y6.fr 6;have f7:=Y6.fr 7;have f8:=Y6.fr 8
    have q0:=R6.at_ 0 _ rfl;have q1:=R6.at_ 1 _ rfl;have q2:=R6.at_ 2 _ rfl;have q3:=R6.at_ 3 _ rfl;have q4:=R6.at_ 4 _ rfl;have q5:=R6.at_ 5 _ rfl;have q6:=R6.at_ 6 _ rfl
    obtain ⟨s0,s1,s2,s3,s4,s5,s6,s7,s8⟩:=row9 S6.at_
    have sf0:=S6.fr 0;have sf1:=S6.fr 1;have sf2:=S6.fr 2;have sf3:=S6.fr 3;have sf4:=S6.fr 4;have sf5:=S6.fr 5;have sf6:=S6.fr 6;have sf7:=S6.fr 7;have sf8:=S6.fr 8
    have zr:=R6.lt;have zs:=S6.lt;have zy:=Y6.lt
    have HY6:=Lib.hid Y6;have HR6:=Lib.hid R6;have HS6:=Lib.hid S6;have HB6:=Lib.hid hb6
    have hcase:(kk=1∧c.k % 3=0)∨(kk=2∧c.k % 3=1)∨(kk=3∧c.k % 3=2):=by omega
    clear Y6 R6 S6 hb6 hkk hd1 hd2 HRW HFB HD1 HD2 HB HY HE1 HE2 HBW HBB
    rcases hcase with ⟨rfl,hm⟩|⟨rfl,hm⟩|⟨rfl,hm⟩
    · have hx:entryP ⟨c.k,c.src,c.seq,tl,bs,acs,c.snd⟩=⟨1,c.src,c.seq,(oneP 6 (tl.take 60)).1, []⟩:=by rw [entryP,if_pos HSN.out,if_pos hm]
      have HX:=Lib.hid hx
      clear hx hm
      go_wp2_with fail
      refine (HBD.out w6 HB6.out).mono ?_
      rintro e w7 ⟨⟨cv2,rfl,hI7⟩,hb7⟩
      have Y7:=HY6.out.keep hb7 zy
      have S7:=HS6.out.keep hb7 zs
      clear y0 f0 s0 sf0 y1 f1 s1 sf1 y2 f2 s2 sf2 y3 f3 s3 sf3 y4 f4 s4 sf4 y5 f5 s5 sf5 y6 f6 s6 sf6 y7 f7 s7 sf7 y8 f8 s8 sf8
      obtain ⟨y0,y1,y2,y3,y4,y5,y6,y7,y8⟩:=row9 Y7.at_;have f0:=Y7.fr 0;have f1:=Y7.fr 1;have f2:=Y7.fr 2;have f3:=Y7.fr 3;have f4:=Y7.fr 4;have f5:=Y7.fr 5;have f6:=Y7.fr 6;have f7:=Y7.fr 7;have f8:=Y7.fr 8
      obtain ⟨s0,s1,s2,s3,s4,s5,s6,s7,s8⟩:=row9 S7.at_;have sf0:=S7.fr 0;have sf1:=S7.fr 1;have sf2:=S7.fr 2;have sf3:=S7.fr 3;have sf4:=S7.fr 4;have sf5:=S7.fr 5;have sf6:=S7.fr 6;have sf7:=S7.fr 7;have sf8:=S7.fr 8
      have zy7:=Y7.lt;have zs7:=S7.lt
      have st:=setV_step w7 yb 3 cv2
      have hv7:IsVal (only (fun b=>b≠w.heap.size+1) (setV w7 yb 3 cv2)) (setV w7 yb 3 cv2).heap.size (oneP 6 (tl.take 60)).1 cv2:=isVal_S hI7 rfl st.size fun k hk hl=>⟨by omega,st.block k hl (by omega)⟩
      have hb7':Below w.heap.size w (setV w7 yb 3 cv2):=(HB6.out.trans (hb7.mono HB6.out.size)).trans ((st.below (by omega)).mono (by omega))
      have HS7:=Lib.hid (S7.next st (by omega))
      have HV7:=Lib.hid hv7;have HB7:=Lib.hid hb7'
      clear Y7 S7 st hv7 hb7' hI7 hb7
      go_wp2_with fail
      rw [←HQ.out, ←HR.out,HX.out]
      have hbn:=HBN.out
      exact ent10_leave (W:=setV w7 yb 3 cv2) (d:=⟨1,c.src,c.seq,cv2,none,0,0⟩) HS7.out HV7.out (.nil _ _) HB7.out ⟨by show (0:Int)≤1;omega,by show (1:Int)<256;omega,hbn.src0,hbn.src1,hbn.seq0,hbn.seq1⟩ rfl rfl
    · have hx:entryP ⟨c.k,c.src,c.seq,tl,bs,acs,c.snd⟩=⟨2,c.src,c.seq,V.none,aimP (oneP 6 (tl.take 60)).1 (acs.take 20)⟩:=by rw [entryP,if_pos HSN.out,if_neg (by rw [hm];decide),if_pos hm]
      have HX:=Lib.hid hx
      clear hx hm
      go_wp2_with fail
      have HFB8:Hid (∀W,Below (w.heap.size+1) w6.drew W→W.cell? ⟨w.heap.size,3,none⟩=some (.slice c.va c.vl c.vc)∧W.cell? ⟨w.heap.size,5,none⟩=some (.slice c.aa c.al c.ac)):=by
        intro W hW
        have hk:∀o u,w6.cell? ⟨w.heap.size,o,none⟩=some u→W.cell? ⟨w.heap.size,o,none⟩=some u:=fun o u h=>keep_cell hW (keep_cell (drew_below w6) h zr) (by omega)
        exact ⟨hk _ _ q3,hk _ _ q5⟩
      have hbd6:Below w.heap.size w w6.drew:=HB6.out.trans ((drew_below w6).mono (by omega))
      have HBD6:=Lib.hid hbd6
      have HYD:=Lib.hid (HY6.out.keep (drew_below w6) zy)
      have HSD:=Lib.hid (HS6.out.keep (drew_below w6) zs)
      have hyw:w.heap.size+1≤yb:=by omega
      clear hbd6
      clear y0 f0 s0 sf0 y1 f1 s1 sf1 y2 f2 s2 sf2 y3 f3 s3 sf3 y4 f4 s4 sf4 y5 f5 s5 sf5 y6 f6 s6 sf6 y7 f7 s7 sf7 y8 f8 s8 sf8
      refine wp_region_noPanic ?_
      go_region_held_law (fun W=>W.cell? ⟨w.heap.size,3,none⟩=some (.slice c.va c.vl c.vc)∧W.cell? ⟨w.heap.size,5,none⟩=some (.slice c.aa c.al c.ac))
        ((refine HFB8.out _ ?_;(first|(with_reducible exact Below.refl _ _)|(with_reducible exact bl8)|(with_reducible exact bl7)|(with_reducible exact Below.set_ bl8 hyw))))
        (first
          |(go_at_call 17;(with_reducible refine (HBD.out _ HBD6.out).mono ?_);rintro e w7 ⟨⟨cv2,rfl,hI7⟩,hb7⟩;have HI7:=Lib.hid hI7;have HB7:=Lib.hid hb7;have bl7:Below (w.heap.size+1) w6.drew w7:=hb7.mono (Nat.succ_le_of_lt zr);clear hI7 hb7)
          |(go_at_call 18;(with_reducible refine (HAM.out _ cv2 (HBD6.out.trans (HB7.out.mono HBD6.out.size)) (HI7.out.sub (shows_only _ _ _))).mono ?_);rintro e w8 ⟨⟨aa,an,acp,rfl,hI8⟩,hb8⟩;have HI8:=Lib.hid hI8;have HB8:=Lib.hid hb8;have hz78:w6.heap.size≤w7.heap.size:=HB7.out.size;have bl8:Below (w.heap.size+1) w6.drew w8:=bl7.trans (hb8.mono (Nat.le_trans (Nat.succ_le_of_lt zr) hz78));clear hI8 hb8;have Y8:=(HYD.out.keep HB7.out zy).keep HB8.out (Nat.lt_of_lt_of_le zy hz78);have S8:=(HSD.out.keep HB7.out zs).keep HB8.out (Nat.lt_of_lt_of_le zs hz78);obtain ⟨y0,y1,y2,y3,y4,y5,y6,y7,y8⟩:=row9 Y8.at_;have f0:=Y8.fr 0;have f1:=Y8.fr 1;have f2:=Y8.fr 2;have f3:=Y8.fr 3;have f4:=Y8.fr 4;have f5:=Y8.fr 5;have f6:=Y8.fr 6;have f7:=Y8.fr 7;have f8:=Y8.fr 8;obtain ⟨s0,s1,s2,s3,s4,s5,s6,s7,s8⟩:=row9 S8.at_;have sf0:=S8.fr 0;have sf1:=S8.fr 1;have sf2:=S8.fr 2;have sf3:=S8.fr 3;have sf4:=S8.fr 4;have sf5:=S8.fr 5;have sf6:=S8.fr 6;have sf7:=S8.fr 7;have sf8:=S8.fr 8;have zy8:=Y8.lt;have zs8:=S8.lt;have HY8:=Lib.hid Y8;have HS8:=Lib.hid S8;clear Y8 S8))
      all_goals
        refine NoPanic.normal ?_
        have st:RStep w8 (w8.setCell ⟨yb,8,none⟩ (.slice aa an acp)) yb:=RStep.self
        have hb8:Below w.heap.size w w8:=(HBD6.out.trans (HB7.out.mono HBD6.out.size)).trans (HB8.out.mono (Nat.le_trans HBD6.out.size HB7.out.size))
        have hz67:yb<w7.heap.size:=Nat.lt_of_lt_of_le zy HB7.out.size
        have ho8:IsComps (only (fun b=>b≠w.heap.size+1) (w8.setCell ⟨yb,8,none⟩ (.slice aa an acp))) (w8.setCell ⟨yb,8,none⟩ (.slice aa an acp)).heap.size (aimP (oneP 6 (tl.take 60)).1 (acs.take 20)) aa an acp:=(HI8.out.sub (shows_step fun k hk hl=>⟨by omega,st.block k hl (by omega)⟩)).more st.size
        have HO8:=Lib.hid ho8
        have HB9:=Lib.hid (hb8.trans ((st.below (by omega)).mono (by omega)))
        have HS9:=Lib.hid (HS8.out.next st (by omega))
        clear ho8 hb8 st
        go_wp2_with fail
        rw [←HQ.out, ←HR.out,HX.out]
        have hbn:=HBN.out
        exact ent10_leave (W:=w8.setCell ⟨yb,8,none⟩ (.slice aa an acp)) (d:=⟨2,c.src,c.seq,vzero,aa,an,acp⟩) HS9.out (isVal_none _ _) HO8.out HB9.out ⟨by show (0:Int)≤2;omega,by show (2:Int)<256;omega,hbn.src0,hbn.src1,hbn.seq0,hbn.seq1⟩ rfl rfl
    · have hx:entryP ⟨c.k,c.src,c.seq,tl,bs,acs,c.snd⟩=⟨3,c.src,c.seq,V.none, []⟩:=by rw [entryP,if_pos HSN.out,if_neg (by rw [hm];decide),if_neg (by rw [hm];decide)]
      have HX:=Lib.hid hx
      clear hx hm
      go_wp2_with fail
      rw [←HQ.out, ←HR.out,HX.out]
      have hbn:=HBN.out
      exact ent10_leave (W:=w6) (d:=⟨3,c.src,c.seq,vzero,none,0,0⟩) HS6.out (isVal_none _ _) (.nil _ _) HB6.out ⟨by show (0:Int)≤3;omega,by show (3:Int)<256;omega,hbn.src0,hbn.src1,hbn.seq0,hbn.seq1⟩ rfl rfl
end Go.Proofs.YtgcfhkceejcliaaGreatDoor
namespace Go.Proofs.YtgcfhkceejcliaaGreatDoor
open Go.RowKit
def SomeInt (w:World) (e:Ending) (w':World):Prop:=(∃z:Int,e= .returned (.int .i64 z))∧Below w.heap.size w w'
theorem IsAct.toks {w:World} {B:Nat} {x:Ac} {c:AC} (h:IsAct w B x c):IsToks w B x.v c.va c.vl c.vc:=by
  cases h with
  |mk c p v hb hp hv=>exact hv
set_option maxHeartbeats 8000000 in
set_option maxRecDepth 100000 in
theorem heavy06_any (w:World) (l:List Ac) (a:Option Addr) (n c:Nat) (hl:IsActs w w.heap.size l a n c):
    Calls Tryz.prog 13 #[.slice a n c] w (SomeInt w):=by
  have hmax:=hl.max;have hcap:=hl.cap
  have HL:=Lib.hid hl
  clear hl
  obtain ⟨R,hR⟩:∃R,SomeInt w=R:=⟨_,rfl⟩
  rw [hR]
  have HR:=Lib.hid hR
  clear hR
  go_enter Tryz.func13,Tryz.ntmps13
  go_wp2_with fail
  go_loopg [3,4,5] n (fun gh z i _ wr=>∃(x:Int) (j:Nat),j≤n∧gh=n - j∧z= .int .i64 x∧i= .int .i64 j∧Below w.heap.size w wr)
  case atStart=>exact ⟨0,0,Nat.zero_le _,rfl,rfl,rfl,Below.refl _ _⟩
  case round=>
    obtain ⟨x,j,hj,rfl,rfl,rfl,hbl⟩:=hrel
    obtain ⟨w1,hw1⟩:∃w1,w1=wr:=⟨_,rfl⟩
    subst hw1
    have HBL:=Lib.hid hbl
    clear hbl
    by_cases hlt:j<n
    · obtain ⟨b,q,f,hpl,rfl,hbB,hat,hia⟩:=HL.out.get hlt
      have hat1:=hat.keep HBL.out hbB
      have s0:=hat1.c0;have s5:=hat1.c5;have s6:=hat1.c6
      have hv:=hia.toks
      have HV:=Lib.hid hv
      have hvm:=hv.max;have hvc:=hv.cap
      have HAT:=Lib.hid hat
      have hbw:b<w1.heap.size:=World.block_lt_of_cell? w1 _ s0
      clear hat hat1 hia hv
      go_wp2_with fail
      go_quiet (fail)
      go_wp2_with fail
      go_loopg [3,5] f.vl (fun gh z k wr=>∃(x:Int) (t:Nat),t≤f.vl∧gh=f.vl - t∧z= .int .i64 x∧k= .int .i64 t∧Below w.heap.size w wr)
      case atStart=>exact ⟨_,0,Nat.zero_le _,rfl,rfl,rfl,HBL.out.trans ((below_drewN _ _).mono HBL.out.size)⟩
      case round=>
        obtain ⟨y,t,ht,rfl,rfl,rfl,hbl⟩:=hrel
        have hat1:=HAT.out.keep hbl hbB
        clear s0 s5 s6 hbw
        have s6:=hat1.c6
        have hbw:b<wr.heap.size:=World.block_lt_of_cell? wr _ s6
        have HBL2:=Lib.hid hbl
        clear hat1 hbl
        by_cases htl:t<f.vl
        · obtain ⟨b2,q2,hp2,hva,hb2,htk,_⟩:=HV.out.get htl
          have htk1:=htk.keep HBL2.out hb2
          have t2:=htk1.c2
          rw [hva] at s6
          have hb2w:b2<wr.heap.size:=World.block_lt_of_cell? wr _ t2
          clear htk htk1 hva
          go_wp2_with fail
          go_roundg (f.vl - (t+1))
          case measure=>omega
          case rel=>exact ⟨_,t+1,by omega,rfl,rfl,by go_num,HBL2.out⟩
        · go_wp2_with fail
          go_roundg (n - (j+1))
          case measure=>omega
          case rel=>exact ⟨_,j+1,by omega,rfl,rfl,by go_num,HBL2.out⟩
    · go_wp2_with fail
      rw [←HR.out]
      exact ⟨⟨_,rfl⟩,HBL.out⟩
end Go.Proofs.YtgcfhkceejcliaaGreatDoor
namespace Go.Proofs.YtgcfhkceejcliaaGreatDoor
open Go.RowKit
theorem IsBare.toks {w:World} {B:Nat} {x:Ba} {c:BA} (h:IsBare w B x c):IsToks w B x.v c.va c.vl c.vc:=by
  cases h with
  |mk c p v hb hp hv=>exact hv
theorem IsBare.steps {w:World} {B:Nat} {x:Ba} {c:BA} (h:IsBare w B x c):IsSteps w B x.path c.pa c.pl c.pc:=by
  cases h with
  |mk c p v hb hp hv=>exact hp
set_option maxHeartbeats 16000000 in
set_option maxRecDepth 100000 in
theorem heavy10_any (w:World) (c:RC) (x:Rc) (h:IsRec w w.heap.size x c):
    Calls Tryz.prog 5 #[.agg #[.int .u8 c.k, .int .u32 c.src, .int .u32 c.seq, .slice c.va c.vl c.vc, .slice c.oa c.ol c.oc, .slice c.aa c.al c.ac, .bool c.snd]] w (SomeInt w):=by
  cases h with
  |mk _ tl bs acs hbd hv ho ha=>
  obtain ⟨R,hR⟩:∃R,SomeInt w=R:=⟨_,rfl⟩
  rw [hR]
  have HR:=Lib.hid hR
  have hal:Below w.heap.size w (w.alloc (.cells #[.int .u8 c.k, .int .u32 c.src, .int .u32 c.seq, .slice c.va c.vl c.vc, .slice c.oa c.ol c.oc, .slice c.aa c.al c.ac, .bool c.snd] 27)):=(Below.refl _ _).alloc (Nat.le_refl _) _
  have HD:=Lib.hid (show BC (w.alloc (.cells #[.int .u8 c.k, .int .u32 c.src, .int .u32 c.seq, .slice c.va c.vl c.vc, .slice c.oa c.ol c.oc, .slice c.aa c.al c.ac, .bool c.snd] 27)) w.heap.size (rcells c) from BC.start w #[.int .u8 c.k, .int .u32 c.src, .int .u32 c.seq, .slice c.va c.vl c.vc, .slice c.oa c.ol c.oc, .slice c.aa c.al c.ac, .bool c.snd] 27)
  have HAL:=Lib.hid hal
  have HH:Hid (∀W,Below w.heap.size w W→Calls Tryz.prog 13 #[.slice c.aa c.al c.ac] W (SomeInt W)):=fun W hW=>heavy06_any W acs _ _ _ (ha.later_ hW)
  have m1:=hv.max;have m2:=hv.cap;have m3:=ho.max;have m4:=ho.cap
  have HV:=Lib.hid hv;have HO:=Lib.hid ho
  clear hR hal hv ho ha hbd
  go_enter Tryz.func5,Tryz.ntmps5
  go_wp2_with fail
  refine (HH.out _ HAL.out).mono ?_
  rintro e w1 ⟨⟨z0,rfl⟩,hb1⟩
  have D:=HD.out.keep hb1 (by simp)
  have hbw:Below w.heap.size w w1:=HAL.out.trans (hb1.mono (by simp))
  have HB:=Lib.hid hbw
  have HD1:=Lib.hid D
  have HV1:=Lib.hid (HV.out.keep hbw)
  have HO1:=Lib.hid (HO.out.keep hbw)
  have zs:w.heap.size<w1.heap.size:=D.lt
  clear hb1 hbw D
  go_upto_block 0 with fail
  go_wp2_with fail
  go_loopg [3,4] c.vl (fun gh z i wr=>∃(x:Int) (j:Nat),j≤c.vl∧gh=c.vl - j∧z= .int .i64 x∧i= .int .i64 j∧Below w1.heap.size w1 wr)
  case atStart=>exact ⟨z0,0,Nat.zero_le _,rfl,rfl,rfl,Below.refl _ _⟩
  case round =>
    obtain ⟨y,j,hj,rfl,rfl,rfl,hbl⟩:=hrel
    obtain ⟨wu,hwu⟩:∃wu,wu=wr:=⟨_,rfl⟩
    subst hwu
    have D:=HD1.out.keep hbl zs
    have q3:=D.at_ 3 _ rfl;have q4:=D.at_ 4 _ rfl
    have zu:=D.lt
    have HBL:=Lib.hid hbl
    clear hbl D
    by_cases hlt:j<c.vl
    · obtain ⟨b2,q2,hp2,hva,hb2,htk,_⟩:=HV1.out.get hlt
      have htk1:=htk.keep HBL.out (by omega)
      have t2:=htk1.c2
      rw [hva] at q3
      have hb2w:b2<wu.heap.size:=World.block_lt_of_cell? wu _ t2
      clear htk htk1 hva
      go_wp2_with fail
      go_roundg (c.vl - (j+1))
      case measure=>omega
      case rel=>exact ⟨_,j+1,by omega,rfl,rfl,by go_num,HBL.out⟩
    · skip
      go_wp2_with fail
      go_loopg [3,5,6,7] c.ol (fun gh z i _ _ wr=>∃(x:Int) (j:Nat),j≤c.ol∧gh=c.ol - j∧z= .int .i64 x∧i= .int .i64 j∧Below w1.heap.size w1 wr)
      case atStart=>exact ⟨_,0,Nat.zero_le _,rfl,rfl,rfl,HBL.out⟩
      case round =>
        obtain ⟨y,j,hj,rfl,rfl,rfl,hbl⟩:=hrel
        obtain ⟨wv,hwv⟩:∃wv,wv=wr:=⟨_,rfl⟩
        subst hwv
        have D:=HD1.out.keep hbl zs
        have q4:=D.at_ 4 _ rfl
        have zu:=D.lt
        have HBL:=Lib.hid hbl
        clear hbl D
        by_cases hlt:j<c.ol
        · obtain ⟨b,q,f,hpl,hoa,hbB,hat,hia⟩:=HO1.out.get hlt
          have hat1:=hat.keep HBL.out (by omega)
          have s1:=hat1.c1;have s2:=hat1.c2;have s6:=hat1.c6;have s7:=hat1.c7
          have hbw:b<wv.heap.size:=World.block_lt_of_cell? wv _ s1
          have hst:=hia.steps;have hvv:=hia.toks
          have n1:=hst.max;have n2:=hst.cap;have n3:=hvv.max;have n4:=hvv.cap
          rw [hoa] at q4
          have HOA:=Lib.hid hoa
          have HST:=Lib.hid hst;have HVV:=Lib.hid hvv;have HAT:=Lib.hid hat
          clear hat hat1 hia hst hvv hoa
          go_wp2_with fail
          go_quiet (fail)
          have hbq:∀k,Below w1.heap.size w1 (wv.drewN k):=fun k=>HBL.out.trans ((below_drewN wv k).mono HBL.out.size)
          have HBQ:=Lib.hid hbq
          clear hbq
          go_wp2_with fail
          go_loopg [3,6] f.pl (fun gh z i wr=>∃(x:Int) (k:Nat),k≤f.pl∧gh=f.pl - k∧z= .int .i64 x∧i= .int .i64 k∧Below w1.heap.size w1 wr)
          case atStart=>exact ⟨_,0,Nat.zero_le _,rfl,rfl,rfl,HBQ.out _⟩
          case round=>
            obtain ⟨y2,k,hk,rfl,rfl,rfl,hbl⟩:=hrel
            obtain ⟨wx,hwx⟩:∃wx,wx=wr:=⟨_,rfl⟩
            subst hwx
            have D:=HD1.out.keep hbl zs
            have q4:=D.at_ 4 _ rfl
            rw [HOA.out] at q4
            have zu:=D.lt
            have hat1:=HAT.out.keep hbl (by omega)
            have s1:=hat1.c1;have s7:=hat1.c7
            have hbw:b<wx.heap.size:=World.block_lt_of_cell? wx _ s1
            have HBL3:=Lib.hid hbl
            clear hbl D hat1
            by_cases hkl:k<f.pl
            · obtain ⟨b3,q3,hp3,hpa,hb3,hsp,_⟩:=HST.out.get hkl
              have hsp1:=hsp.keep HBL3.out (by omega)
              have u2:=hsp1.c2
              rw [hpa] at s1
              have hb3w:b3<wx.heap.size:=World.block_lt_of_cell? wx _ u2
              clear hsp hsp1 hpa
              go_wp2_with fail
              go_roundg (f.pl - (k+1))
              case measure=>omega
              case rel=>exact ⟨_,k+1,by omega,rfl,rfl,by go_num,HBL3.out⟩
            · skip
              go_wp2_with fail
              go_loopg [3,7] f.vl (fun gh z i wr=>∃(x:Int) (t:Nat),t≤f.vl∧gh=f.vl - t∧z= .int .i64 x∧i= .int .i64 t∧Below w1.heap.size w1 wr)
              case atStart=>exact ⟨_,0,Nat.zero_le _,rfl,rfl,rfl,HBL3.out⟩
              case round=>
                obtain ⟨y3,t,ht,rfl,rfl,rfl,hbl⟩:=hrel
                have D:=HD1.out.keep hbl zs
                have q4:=D.at_ 4 _ rfl
                rw [HOA.out] at q4
                have zw:=D.lt
                have hat1:=HAT.out.keep hbl (by omega)
                have s7:=hat1.c7
                have hbw2:b<wr.heap.size:=World.block_lt_of_cell? wr _ s7
                have HBL4:=Lib.hid hbl
                clear hbl D hat1
                by_cases htl:t<f.vl
                · obtain ⟨b4,q5,hp4,hva,hb4,htk,_⟩:=HVV.out.get htl
                  have htk1:=htk.keep HBL4.out (by omega)
                  have t2:=htk1.c2
                  rw [hva] at s7
                  have hb4w:b4<wr.heap.size:=World.block_lt_of_cell? wr _ t2
                  clear htk htk1 hva
                  go_wp2_with fail
                  go_roundg (f.vl - (t+1))
                  case measure=>omega
                  case rel=>exact ⟨_,t+1,by omega,rfl,rfl,by go_num,HBL4.out⟩
                · go_wp2_with fail
                  go_roundg (c.ol - (j+1))
                  case measure=>omega
                  case rel=>exact ⟨_,j+1,by omega,rfl,rfl,by go_num,HBL4.out⟩
        · go_wp2_with fail
          rw [←HR.out]
          exact ⟨⟨_,rfl⟩,HB.out.trans (HBL.out.mono HB.out.size)⟩
end Go.Proofs.YtgcfhkceejcliaaGreatDoor
namespace Go.Proofs.YtgcfhkceejcliaaGreatDoor
open Go.RowKit
noncomputable def enSound (e:En):Bool:=
  if e.k=1 then lightB e.v && (e.op.length==0)
  else if e.k=2 then eqv e.v V.none && decide (e.op.length≤200) && !e.op.any (fun x=> !cmSound x)
  else if e.k=3 then eqv e.v V.none && (e.op.length==0)
  else false
def En.small (e:En):Prop:=e.v.weight≤4611686018427387904∧∀x ∈ e.op,x.v.weight≤4611686018427387904
structure Boxed1E (w W:World) (c:EC):Prop where
  at_:EntryAt W w.heap.size 0 c
  below:Below w.heap.size w W
  size:w.heap.size+1≤W.heap.size
theorem Boxed1E.step {w W W':World} {c:EC} (h:Boxed1E w W c) (hb:Below W.heap.size W W'):Boxed1E w W' c:=
  ⟨h.at_.keep hb (by have:=h.size;omega),h.below.trans (hb.mono (by have:=h.size;omega)),by have:=h.size;have:=hb.size;omega⟩
theorem Boxed1E.next {w W W1 W2:World} {B:Nat} {c:EC} (h:Boxed1E w W c) (hb:Below B W1 W2) (hW:Below W.heap.size W W1) (hB:B=W1.heap.size):Boxed1E w W2 c:=by
  subst hB;exact (h.step hW).step hb
theorem boxed1E_start (w:World) (c:EC) (t:TypeId):Boxed1E w (w.alloc (.cells #[.int .u8 c.k, .int .u32 c.src, .int .u32 c.seq, .int .u8 c.v.k, .int .i64 c.v.n, .string c.v.s, .slice c.v.la c.v.ll c.v.lc, .slice c.v.oa c.v.ol c.v.oc, .slice c.oa c.ol c.oc] t)) c:=
  ⟨⟨cells_new _ _ _ _ _ rfl,cells_new _ _ _ _ _ rfl,cells_new _ _ _ _ _ rfl,⟨cells_new _ _ _ _ _ rfl,cells_new _ _ _ _ _ rfl,cells_new _ _ _ _ _ rfl,cells_new _ _ _ _ _ rfl,cells_new _ _ _ _ _ rfl⟩,cells_new _ _ _ _ _ rfl⟩,(Below.refl _ _).alloc (Nat.le_refl _) _,by simp⟩
set_option maxHeartbeats 4000000 in
set_option maxRecDepth 100000 in
theorem enSound_any (x:En) (w:World) (hT:Tabs w) (c:EC) (hx:IsEntry w w.heap.size x c) (hs:x.small):
    Calls Tryz.prog 10 #[.agg #[.int .u8 c.k, .int .u32 c.src, .int .u32 c.seq, .int .u8 c.v.k, .int .i64 c.v.n, .string c.v.s, .slice c.v.la c.v.ll c.v.lc, .slice c.v.oa c.v.ol c.v.oc, .slice c.oa c.ol c.oc]] w fun e w'=>e= .returned (.bool (enSound x))∧Below w.heap.size w w':=by
  cases hx with
  |mk c v l hbd hv ho=>
  obtain ⟨hs1,hs2⟩:=hs
  dsimp only at hs1 hs2
  obtain ⟨vn,hvn⟩:∃vn,eqv v V.none=vn:=⟨_,rfl⟩
  obtain ⟨li,hli⟩:∃li,lightB v=li:=⟨_,rfl⟩
  obtain ⟨al,hal⟩:∃al,l.any (fun x=> !cmSound x)=al:=⟨_,rfl⟩
  have HLn:=Lib.hid ho.len
  have k1:=ho.few;have k2:=ho.max;have k3:=ho.cap
  have hR2:enSound ⟨c.k,c.src,c.seq,v,l⟩=(if c.k=1 then li && (c.ol==0) else if c.k=2 then vn && decide (c.ol≤200) && !al else if c.k=3 then vn && (c.ol==0) else false):=by
    rw [enSound,hvn,hli,hal, ←HLn.out]
  have HR:=Lib.hid hR2
  have HVN:Hid (Behind w 29 #[.agg #[.int .u8 c.v.k, .int .i64 c.v.n, .string c.v.s, .slice c.v.la c.v.ll c.v.lc, .slice c.v.oa c.v.ol c.v.oc], .agg #[.int .u8 0, .int .i64 0, .string { data:= #[] }, .slice none 0 0, .slice none 0 0]] (.bool vn)):=fun W hW=>by rw [←hvn];exact valSame_any v V.none W c.v VC.none (hv.later_ hW) (isVal_none _ _)
  have HLI:Hid (Behind w 30 #[.agg #[.int .u8 c.v.k, .int .i64 c.v.n, .string c.v.s, .slice c.v.la c.v.ll c.v.lc, .slice c.v.oa c.v.ol c.v.oc]] (.bool li)):=fun W hW=>by rw [←hli];exact light_any v W (hT.below hW) c.v (hv.later_ hW) hs1
  have HCO:Hid (Behind w 31 #[.slice c.oa c.ol c.oc, .func (.func 32) #[] #[]] (.bool al)):=fun W hW=>by
    rw [←hal]
    exact containsComp_any l W c.oa c.ol c.oc (ho.later_ hW) (fun x=> !cmSound x) 32 (enters_of Tryz.func32 (by kernel_rfl) rfl) (fun x d W' hx hW' hd=>compBad_any x W' (hT.below (hW.trans (hW'.mono hW.size))) d hd (hs2 x hx))
  have bx:=boxed1E_start w c 36
  clear hvn hli hR2 hv hbd
  by_cases e1:c.k=1
  · have f1:(c.k==1)=true:=by simp [e1]
    have hR3:enSound ⟨c.k,c.src,c.seq,v,l⟩=(li && (c.ol==0)):=by rw [HR.out,if_pos e1]
    have HR:=Lib.hid hR3
    clear e1 hR3 hT hs2 ho hal
    go_enter Tryz.func10,Tryz.ntmps10
    cases li with
    | false=>
      go_wp2_with (first|(go_at_call 29;(with_reducible refine (Behind.at_ (HVN.out) ?_).mono ?_);(focus (have:=bx.below;have:=bx.size;go_grown));rintro e w1 ⟨rfl,hb1⟩;replace bx:=bx.next hb1 (by go_grown) rfl;have zs:w.heap.size<w1.heap.size:=bx.size;have z0:=bx.at_.c0;have y0:=bx.at_.c3.c0;have y1:=bx.at_.c3.c1;have y2:=bx.at_.c3.c2;have y3:=bx.at_.c3.c3;have y4:=bx.at_.c3.c4;have z8:=bx.at_.c8)|(go_at_call 30;(with_reducible refine (Behind.at_ (HLI.out) ?_).mono ?_);(focus (have:=bx.below;have:=bx.size;go_grown));rintro e w1 ⟨rfl,hb1⟩;replace bx:=bx.next hb1 (by go_grown) rfl;have zs:w.heap.size<w1.heap.size:=bx.size;have z0:=bx.at_.c0;have y0:=bx.at_.c3.c0;have y1:=bx.at_.c3.c1;have y2:=bx.at_.c3.c2;have y3:=bx.at_.c3.c3;have y4:=bx.at_.c3.c4;have z8:=bx.at_.c8));go_ret;exact ⟨ret_bool (by first|(rw [HR.out];done)|(rw [HR.out];simp [*];done)|(rw [HR.out];simp [*];try omega)),by have:=bx.below;have:=bx.size;go_grown⟩
    | true=>
      by_cases hn:c.ol=0
      · have f2:((c.ol:Int)==0)=true:=by simp [hn]
        have f4:(c.ol==0)=true:=by simp [hn]
        clear hn
        go_wp2_with (first|(go_at_call 29;(with_reducible refine (Behind.at_ (HVN.out) ?_).mono ?_);(focus (have:=bx.below;have:=bx.size;go_grown));rintro e w1 ⟨rfl,hb1⟩;replace bx:=bx.next hb1 (by go_grown) rfl;have zs:w.heap.size<w1.heap.size:=bx.size;have z0:=bx.at_.c0;have y0:=bx.at_.c3.c0;have y1:=bx.at_.c3.c1;have y2:=bx.at_.c3.c2;have y3:=bx.at_.c3.c3;have y4:=bx.at_.c3.c4;have z8:=bx.at_.c8)|(go_at_call 30;(with_reducible refine (Behind.at_ (HLI.out) ?_).mono ?_);(focus (have:=bx.below;have:=bx.size;go_grown));rintro e w1 ⟨rfl,hb1⟩;replace bx:=bx.next hb1 (by go_grown) rfl;have zs:w.heap.size<w1.heap.size:=bx.size;have z0:=bx.at_.c0;have y0:=bx.at_.c3.c0;have y1:=bx.at_.c3.c1;have y2:=bx.at_.c3.c2;have y3:=bx.at_.c3.c3;have y4:=bx.at_.c3.c4;have z8:=bx.at_.c8));go_ret;exact ⟨ret_bool (by first|(rw [HR.out];done)|(rw [HR.out];simp [*];done)|(rw [HR.out];simp [*];try omega)),by have:=bx.below;have:=bx.size;go_grown⟩
      · have f2:((c.ol:Int)==0)=false:=by simp [hn]
        have f4:(c.ol==0)=false:=by simp [hn]
        clear hn
        go_wp2_with (first|(go_at_call 29;(with_reducible refine (Behind.at_ (HVN.out) ?_).mono ?_);(focus (have:=bx.below;have:=bx.size;go_grown));rintro e w1 ⟨rfl,hb1⟩;replace bx:=bx.next hb1 (by go_grown) rfl;have zs:w.heap.size<w1.heap.size:=bx.size;have z0:=bx.at_.c0;have y0:=bx.at_.c3.c0;have y1:=bx.at_.c3.c1;have y2:=bx.at_.c3.c2;have y3:=bx.at_.c3.c3;have y4:=bx.at_.c3.c4;have z8:=bx.at_.c8)|(go_at_call 30;(with_reducible refine (Behind.at_ (HLI.out) ?_).mono ?_);(focus (have:=bx.below;have:=bx.size;go_grown));rintro e w1 ⟨rfl,hb1⟩;replace bx:=bx.next hb1 (by go_grown) rfl;have zs:w.heap.size<w1.heap.size:=bx.size;have z0:=bx.at_.c0;have y0:=bx.at_.c3.c0;have y1:=bx.at_.c3.c1;have y2:=bx.at_.c3.c2;have y3:=bx.at_.c3.c3;have y4:=bx.at_.c3.c4;have z8:=bx.at_.c8));go_ret;exact ⟨ret_bool (by first|(rw [HR.out];done)|(rw [HR.out];simp [*];done)|(rw [HR.out];simp [*];try omega)),by have:=bx.below;have:=bx.size;go_grown⟩
  have f1:(c.k==1)=false:=by simp [e1]
  by_cases e2:c.k=2
  · have f2:(c.k==2)=true:=by simp [e2]
    have hR3:enSound ⟨c.k,c.src,c.seq,v,l⟩=(vn && decide (c.ol≤200) && !al):=by rw [HR.out,if_neg e1,if_pos e2]
    have HR:=Lib.hid hR3
    clear e1 e2 hR3
    clear hT hs2 ho hal
    go_enter Tryz.func10,Tryz.ntmps10
    cases vn with
    |false=>go_wp2_with (go_at_call 29;(with_reducible refine (Behind.at_ (HVN.out) ?_).mono ?_);(focus (have:=bx.below;have:=bx.size;go_grown));rintro e w1 ⟨rfl,hb1⟩;replace bx:=bx.next hb1 (by go_grown) rfl;have zs:w.heap.size<w1.heap.size:=bx.size;have z0:=bx.at_.c0;have y0:=bx.at_.c3.c0;have y1:=bx.at_.c3.c1;have y2:=bx.at_.c3.c2;have y3:=bx.at_.c3.c3;have y4:=bx.at_.c3.c4;have z8:=bx.at_.c8);go_ret;exact ⟨ret_bool (by first|(rw [HR.out];done)|(rw [HR.out];simp [*];done)|(rw [HR.out];simp [*];try omega)),by have:=bx.below;have:=bx.size;go_grown⟩
    | true=>
      by_cases hn:c.ol≤200
      case neg=>
        have f3:((c.ol:Int)≤200)=False:=by simp;omega
        go_wp2_with (go_at_call 29;(with_reducible refine (Behind.at_ (HVN.out) ?_).mono ?_);(focus (have:=bx.below;have:=bx.size;go_grown));rintro e w1 ⟨rfl,hb1⟩;replace bx:=bx.next hb1 (by go_grown) rfl;have zs:w.heap.size<w1.heap.size:=bx.size;have z0:=bx.at_.c0;have y0:=bx.at_.c3.c0;have y1:=bx.at_.c3.c1;have y2:=bx.at_.c3.c2;have y3:=bx.at_.c3.c3;have y4:=bx.at_.c3.c4;have z8:=bx.at_.c8);go_ret;exact ⟨ret_bool (by first|(rw [HR.out];done)|(rw [HR.out];simp [*];done)|(rw [HR.out];simp [*];try omega)),by have:=bx.below;have:=bx.size;go_grown⟩
      have f3:((c.ol:Int)≤200)=True:=by simp;omega
      go_wp2_with (first|(go_at_call 29;(with_reducible refine (Behind.at_ (HVN.out) ?_).mono ?_);(focus (have:=bx.below;have:=bx.size;go_grown));rintro e w1 ⟨rfl,hb1⟩;replace bx:=bx.next hb1 (by go_grown) rfl;have zs:w.heap.size<w1.heap.size:=bx.size;have z0:=bx.at_.c0;have y0:=bx.at_.c3.c0;have y1:=bx.at_.c3.c1;have y2:=bx.at_.c3.c2;have y3:=bx.at_.c3.c3;have y4:=bx.at_.c3.c4;have z8:=bx.at_.c8)|(go_at_call 31;(with_reducible refine (Behind.at_ (HCO.out) ?_).mono ?_);(focus (have:=bx.below;have:=bx.size;go_grown));rintro e w1 ⟨rfl,hb1⟩;replace bx:=bx.next hb1 (by go_grown) rfl;have zs:w.heap.size<w1.heap.size:=bx.size;have z0:=bx.at_.c0;have y0:=bx.at_.c3.c0;have y1:=bx.at_.c3.c1;have y2:=bx.at_.c3.c2;have y3:=bx.at_.c3.c3;have y4:=bx.at_.c3.c4;have z8:=bx.at_.c8))
      go_ret;exact ⟨ret_bool (by first|(rw [HR.out];done)|(rw [HR.out];simp [*];done)|(rw [HR.out];simp [*];try omega)),by have:=bx.below;have:=bx.size;go_grown⟩
  have f2:(c.k==2)=false:=by simp [e2]
  by_cases e3:c.k=3
  · have f3:(c.k==3)=true:=by simp [e3]
    have hR3:enSound ⟨c.k,c.src,c.seq,v,l⟩=(vn && (c.ol==0)):=by rw [HR.out,if_neg e1,if_neg e2,if_pos e3]
    have HR:=Lib.hid hR3
    clear e1 e2 e3 hR3 hT hs2 ho hal
    go_enter Tryz.func10,Tryz.ntmps10
    cases vn with
    |false=>go_wp2_with (go_at_call 29;(with_reducible refine (Behind.at_ (HVN.out) ?_).mono ?_);(focus (have:=bx.below;have:=bx.size;go_grown));rintro e w1 ⟨rfl,hb1⟩;replace bx:=bx.next hb1 (by go_grown) rfl;have zs:w.heap.size<w1.heap.size:=bx.size;have z0:=bx.at_.c0;have y0:=bx.at_.c3.c0;have y1:=bx.at_.c3.c1;have y2:=bx.at_.c3.c2;have y3:=bx.at_.c3.c3;have y4:=bx.at_.c3.c4;have z8:=bx.at_.c8);go_ret;exact ⟨ret_bool (by first|(rw [HR.out];done)|(rw [HR.out];simp [*];done)|(rw [HR.out];simp [*];try omega)),by have:=bx.below;have:=bx.size;go_grown⟩
    | true=>
      by_cases hn:c.ol=0
      · have f2:((c.ol:Int)==0)=true:=by simp [hn]
        have f4:(c.ol==0)=true:=by simp [hn]
        clear hn
        go_wp2_with (go_at_call 29;(with_reducible refine (Behind.at_ (HVN.out) ?_).mono ?_);(focus (have:=bx.below;have:=bx.size;go_grown));rintro e w1 ⟨rfl,hb1⟩;replace bx:=bx.next hb1 (by go_grown) rfl;have zs:w.heap.size<w1.heap.size:=bx.size;have z0:=bx.at_.c0;have y0:=bx.at_.c3.c0;have y1:=bx.at_.c3.c1;have y2:=bx.at_.c3.c2;have y3:=bx.at_.c3.c3;have y4:=bx.at_.c3.c4;have z8:=bx.at_.c8);go_ret;exact ⟨ret_bool (by first|(rw [HR.out];done)|(rw [HR.out];simp [*];done)|(rw [HR.out];simp [*];try omega)),by have:=bx.below;have:=bx.size;go_grown⟩
      · have f2:((c.ol:Int)==0)=false:=by simp [hn]
        have f4:(c.ol==0)=false:=by simp [hn]
        clear hn
        go_wp2_with (go_at_call 29;(with_reducible refine (Behind.at_ (HVN.out) ?_).mono ?_);(focus (have:=bx.below;have:=bx.size;go_grown));rintro e w1 ⟨rfl,hb1⟩;replace bx:=bx.next hb1 (by go_grown) rfl;have zs:w.heap.size<w1.heap.size:=bx.size;have z0:=bx.at_.c0;have y0:=bx.at_.c3.c0;have y1:=bx.at_.c3.c1;have y2:=bx.at_.c3.c2;have y3:=bx.at_.c3.c3;have y4:=bx.at_.c3.c4;have z8:=bx.at_.c8);go_ret;exact ⟨ret_bool (by first|(rw [HR.out];done)|(rw [HR.out];simp [*];done)|(rw [HR.out];simp [*];try omega)),by have:=bx.below;have:=bx.size;go_grown⟩
  have f3:(c.k==3)=false:=by simp [e3]
  have hR3:enSound ⟨c.k,c.src,c.seq,v,l⟩=false:=by rw [HR.out,if_neg e1,if_neg e2,if_neg e3]
  have HR:=Lib.hid hR3
  clear e1 e2 e3 hR3 hT hs2 ho hal
  go_enter Tryz.func10,Tryz.ntmps10
  go_wp2_with (go_at_call 29;(with_reducible refine (Behind.at_ (HVN.out) ?_).mono ?_);(focus (have:=bx.below;have:=bx.size;go_grown));rintro e w1 ⟨rfl,hb1⟩;replace bx:=bx.next hb1 (by go_grown) rfl;have zs:w.heap.size<w1.heap.size:=bx.size;have z0:=bx.at_.c0;have y0:=bx.at_.c3.c0;have y1:=bx.at_.c3.c1;have y2:=bx.at_.c3.c2;have y3:=bx.at_.c3.c3;have y4:=bx.at_.c3.c4;have z8:=bx.at_.c8);go_ret;exact ⟨ret_bool (by first|(rw [HR.out];done)|(rw [HR.out];simp [*];done)|(rw [HR.out];simp [*];try omega)),by have:=bx.below;have:=bx.size;go_grown⟩
set_option maxHeartbeats 4000000 in
set_option maxRecDepth 100000 in
theorem refEnSound_any (x:En) (w:World) (hT:Tabs w) (c:EC) (hx:IsEntry w w.heap.size x c) (hs:x.small):
    Calls Tryz.prog 11 #[.agg #[.int .u8 c.k, .int .u32 c.src, .int .u32 c.seq, .int .u8 c.v.k, .int .i64 c.v.n, .string c.v.s, .slice c.v.la c.v.ll c.v.lc, .slice c.v.oa c.v.ol c.v.oc, .slice c.oa c.ol c.oc]] w fun e w'=>e= .returned (.bool (enSound x))∧Below w.heap.size w w':=by
  cases hx with
  |mk c v l hbd hv ho=>
  obtain ⟨hs1,hs2⟩:=hs
  dsimp only at hs1 hs2
  obtain ⟨vn,hvn⟩:∃vn,eqv v V.none=vn:=⟨_,rfl⟩
  obtain ⟨li,hli⟩:∃li,lightB v=li:=⟨_,rfl⟩
  obtain ⟨al,hal⟩:∃al,l.any (fun x=> !cmSound x)=al:=⟨_,rfl⟩
  have HLn:=Lib.hid ho.len
  have k1:=ho.few;have k2:=ho.max;have k3:=ho.cap
  have hR2:enSound ⟨c.k,c.src,c.seq,v,l⟩=(if c.k=1 then li && (c.ol==0) else if c.k=2 then vn && decide (c.ol≤200) && !al else if c.k=3 then vn && (c.ol==0) else false):=by
    rw [enSound,hvn,hli,hal, ←HLn.out]
  have HR:=Lib.hid hR2
  have HVN:Hid (Behind w 34 #[.agg #[.int .u8 c.v.k, .int .i64 c.v.n, .string c.v.s, .slice c.v.la c.v.ll c.v.lc, .slice c.v.oa c.v.ol c.v.oc], .agg #[.int .u8 0, .int .i64 0, .string { data:= #[] }, .slice none 0 0, .slice none 0 0]] (.bool vn)):=fun W hW=>by rw [←hvn];exact refSame_any v V.none W c.v VC.none (hv.later_ hW) (isVal_none _ _)
  have HLI:Hid (Behind w 35 #[.agg #[.int .u8 c.v.k, .int .i64 c.v.n, .string c.v.s, .slice c.v.la c.v.ll c.v.lc, .slice c.v.oa c.v.ol c.v.oc]] (.bool li)):=fun W hW=>by rw [←hli];exact refLight_any v W (hT.below hW) c.v (hv.later_ hW) hs1
  have bx:=boxed1E_start w c 36
  clear hvn hli hR2 hv hbd
  by_cases e1:c.k=1
  · have f1:(c.k==1)=true:=by simp [e1]
    have hR3:enSound ⟨c.k,c.src,c.seq,v,l⟩=(li && (c.ol==0)):=by rw [HR.out,if_pos e1]
    have HR:=Lib.hid hR3
    clear e1 hR3 hT hs2 ho hal
    go_enter Tryz.func11,Tryz.ntmps11
    cases li with
    | false=>
      go_wp2_with (first|(go_at_call 34;(with_reducible refine (Behind.at_ (HVN.out) ?_).mono ?_);(focus (have:=bx.below;have:=bx.size;go_grown));rintro e w1 ⟨rfl,hb1⟩;replace bx:=bx.next hb1 (by go_grown) rfl;have zs:w.heap.size<w1.heap.size:=bx.size;have z0:=bx.at_.c0;have y0:=bx.at_.c3.c0;have y1:=bx.at_.c3.c1;have y2:=bx.at_.c3.c2;have y3:=bx.at_.c3.c3;have y4:=bx.at_.c3.c4;have z8:=bx.at_.c8)|(go_at_call 35;(with_reducible refine (Behind.at_ (HLI.out) ?_).mono ?_);(focus (have:=bx.below;have:=bx.size;go_grown));rintro e w1 ⟨rfl,hb1⟩;replace bx:=bx.next hb1 (by go_grown) rfl;have zs:w.heap.size<w1.heap.size:=bx.size;have z0:=bx.at_.c0;have y0:=bx.at_.c3.c0;have y1:=bx.at_.c3.c1;have y2:=bx.at_.c3.c2;have y3:=bx.at_.c3.c3;have y4:=bx.at_.c3.c4;have z8:=bx.at_.c8));go_ret;exact ⟨ret_bool (by first|(rw [HR.out];done)|(rw [HR.out];simp [*];done)|(rw [HR.out];simp [*];try omega)),by have:=bx.below;have:=bx.size;go_grown⟩
    | true=>
      by_cases hn:c.ol=0
      · have f2:((c.ol:Int)==0)=true:=by simp [hn]
        have f4:(c.ol==0)=true:=by simp [hn]
        clear hn
        go_wp2_with (first|(go_at_call 34;(with_reducible refine (Behind.at_ (HVN.out) ?_).mono ?_);(focus (have:=bx.below;have:=bx.size;go_grown));rintro e w1 ⟨rfl,hb1⟩;replace bx:=bx.next hb1 (by go_grown) rfl;have zs:w.heap.size<w1.heap.size:=bx.size;have z0:=bx.at_.c0;have y0:=bx.at_.c3.c0;have y1:=bx.at_.c3.c1;have y2:=bx.at_.c3.c2;have y3:=bx.at_.c3.c3;have y4:=bx.at_.c3.c4;have z8:=bx.at_.c8)|(go_at_call 35;(with_reducible refine (Behind.at_ (HLI.out) ?_).mono ?_);(focus (have:=bx.below;have:=bx.size;go_grown));rintro e w1 ⟨rfl,hb1⟩;replace bx:=bx.next hb1 (by go_grown) rfl;have zs:w.heap.size<w1.heap.size:=bx.size;have z0:=bx.at_.c0;have y0:=bx.at_.c3.c0;have y1:=bx.at_.c3.c1;have y2:=bx.at_.c3.c2;have y3:=bx.at_.c3.c3;have y4:=bx.at_.c3.c4;have z8:=bx.at_.c8));go_ret;exact ⟨ret_bool (by first|(rw [HR.out];done)|(rw [HR.out];simp [*];done)|(rw [HR.out];simp [*];try omega)),by have:=bx.below;have:=bx.size;go_grown⟩
      · have f2:((c.ol:Int)==0)=false:=by simp [hn]
        have f4:(c.ol==0)=false:=by simp [hn]
        clear hn
        go_wp2_with (first|(go_at_call 34;(with_reducible refine (Behind.at_ (HVN.out) ?_).mono ?_);(focus (have:=bx.below;have:=bx.size;go_grown));rintro e w1 ⟨rfl,hb1⟩;replace bx:=bx.next hb1 (by go_grown) rfl;have zs:w.heap.size<w1.heap.size:=bx.size;have z0:=bx.at_.c0;have y0:=bx.at_.c3.c0;have y1:=bx.at_.c3.c1;have y2:=bx.at_.c3.c2;have y3:=bx.at_.c3.c3;have y4:=bx.at_.c3.c4;have z8:=bx.at_.c8)|(go_at_call 35;(with_reducible refine (Behind.at_ (HLI.out) ?_).mono ?_);(focus (have:=bx.below;have:=bx.size;go_grown));rintro e w1 ⟨rfl,hb1⟩;replace bx:=bx.next hb1 (by go_grown) rfl;have zs:w.heap.size<w1.heap.size:=bx.size;have z0:=bx.at_.c0;have y0:=bx.at_.c3.c0;have y1:=bx.at_.c3.c1;have y2:=bx.at_.c3.c2;have y3:=bx.at_.c3.c3;have y4:=bx.at_.c3.c4;have z8:=bx.at_.c8));go_ret;exact ⟨ret_bool (by first|(rw [HR.out];done)|(rw [HR.out];simp [*];done)|(rw [HR.out];simp [*];try omega)),by have:=bx.below;have:=bx.size;go_grown⟩
  have f1:(c.k==1)=false:=by simp [e1]
  by_cases e2:c.k=2
  · have f2 :(c.k==2)=true:=by simp [e2]
    have hR3:enSound ⟨c.k,c.src,c.seq,v,l⟩=(vn && decide (c.ol≤200) && !al):=by rw [HR.out,if_neg e1,if_pos e2]
    have HR:=Lib.hid hR3
    clear e1 e2 hR3
    have HAL:=Lib.hid hal
    clear hal
    go_enter Tryz.func11,Tryz.ntmps11
    go_wp2_with (first|(go_at_call 34;(with_reducible refine (Behind.at_ (HVN.out) ?_).mono ?_);(focus (have:=bx.below;have:=bx.size;go_grown));rintro e w1 ⟨rfl,hb1⟩;replace bx:=bx.next hb1 (by go_grown) rfl;have zs:w.heap.size<w1.heap.size:=bx.size;have z0:=bx.at_.c0;have y0:=bx.at_.c3.c0;have y1:=bx.at_.c3.c1;have y2:=bx.at_.c3.c2;have y3:=bx.at_.c3.c3;have y4:=bx.at_.c3.c4;have z8:=bx.at_.c8))
    go_loopw [4] (fun i wr=>∃k:Nat,k≤c.ol∧i= .int .i64 k∧Hid (∀j,j<k→∀hj:j<l.length,(!cmSound l[j])=false)∧Boxed1E w wr c) (fun i _=>c.ol - (intOf i).toNat)
    case atStart=>exact ⟨0,Nat.zero_le _,rfl,fun j hj=>by omega,bx⟩
    case round=>
      clear y0 y1 y2 y3 y4 z0 z8 zs hb1 bx
      obtain ⟨k,hk,rfl,HJ,bx⟩:=hrel
      have z8:=bx.at_.c8
      by_cases hlt:k<c.ol
      · obtain ⟨b,o,d,kl,ho2,hb,x1,xb⟩:=ho.get hlt
        rw [ho2] at z8
        have x1:=x1.keep bx.below hb
        have r0:=x1.c0;have r1:=x1.c1;have r2:=x1.c2;have r3:=x1.c3;have r4:=x1.c4;have r5:=x1.c5;have r6:=x1.c6.c0;have r7:=x1.c7;have r8:=x1.c8;have r9:=x1.c9;have r10:=x1.c10;have r11:=x1.c11
        have HC:Hid (Calls Tryz.prog 36 #[.agg #[.int .u8 d.k, .slice d.pa d.pl d.pc, .string d.key, .int .i64 d.i, .int .i64 d.j, .int .i64 d.n, .int .u8 d.v.k, .int .i64 d.v.n, .string d.v.s, .slice d.v.la d.v.ll d.v.lc, .slice d.v.oa d.v.ol d.v.oc, .string d.s]] wr fun e w'=>e= .returned (.bool (cmSound l[k]))∧Below wr.heap.size wr w'):=ref06Sound_any l[k] wr (hT.below bx.below) d (xb.later_ bx.below) (hs2 _ (List.getElem_mem kl))
        clear x1 xb
        generalize hx:cmSound l[k] =bs at HC
        have HX:=Lib.hid hx
        clear hx
        have HO:=Lib.hid ho
        have HO2:=Lib.hid ho2
        clear ho ho2 hT
        cases bs with
        | false=>
          go_wp2_with (go_at_call 36;refine (HC.out).mono ?_;rintro e w1 ⟨rfl,hb1⟩)
          go_ret
          exact ⟨ret_bool (by rw [HR.out, ←HAL.out,any_hit (p:=fun x=> !cmSound x) kl (by rw [HX.out];rfl)];simp),(bx.step hb1).below⟩
        | true=>
          go_wp2_with (go_at_call 36;refine (HC.out).mono ?_;rintro e w1 ⟨rfl,hb1⟩)
          go_roundw
          case rel=>exact ⟨k+1,by omega,by go_num,none_step (p:=fun x=> !cmSound x) HJ kl (by rw [HX.out];rfl),bx.step hb1⟩
          case measure=>simp [intOf];omega
      · have HA2:Hid (al=false):=by rw [←HAL.out];exact any_none (n:=c.ol) HLn.out (fun j hj hl=>HJ.out j (by omega) hl)
        clear ho hT
        have y:=bx.size
        cases vn with
        | false=>
          go_wp2_with fail
          go_ret
          exact ⟨ret_bool (by rw [HR.out];simp),bx.below⟩
        | true=>
          by_cases hn:c.ol≤200
          · have f3:((c.ol:Int)≤200)=True:=by simp;omega
            go_wp2_with fail
            go_ret
            exact ⟨ret_bool (by rw [HR.out,HA2.out];simp [hn]),bx.below⟩
          · have f3:((c.ol:Int)≤200)=False:=by simp;omega
            go_wp2_with fail
            go_ret
            exact ⟨ret_bool (by rw [HR.out,HA2.out];simp [hn]),bx.below⟩
  have f2:(c.k==2)=false:=by simp [e2]
  by_cases e3:c.k=3
  · have f3:(c.k==3)=true:=by simp [e3]
    have hR3:enSound ⟨c.k,c.src,c.seq,v,l⟩=(vn && (c.ol==0)):=by rw [HR.out,if_neg e1,if_neg e2,if_pos e3]
    have HR:=Lib.hid hR3
    clear e1 e2 e3 hR3 hT hs2 ho hal
    go_enter Tryz.func11,Tryz.ntmps11
    cases vn with
    |false=>go_wp2_with (go_at_call 34;(with_reducible refine (Behind.at_ (HVN.out) ?_).mono ?_);(focus (have:=bx.below;have:=bx.size;go_grown));rintro e w1 ⟨rfl,hb1⟩;replace bx:=bx.next hb1 (by go_grown) rfl;have zs:w.heap.size<w1.heap.size:=bx.size;have z0:=bx.at_.c0;have y0:=bx.at_.c3.c0;have y1:=bx.at_.c3.c1;have y2:=bx.at_.c3.c2;have y3:=bx.at_.c3.c3;have y4:=bx.at_.c3.c4;have z8:=bx.at_.c8);go_ret;exact ⟨ret_bool (by first|(rw [HR.out];done)|(rw [HR.out];simp [*];done)|(rw [HR.out];simp [*];try omega)),by have:=bx.below;have:=bx.size;go_grown⟩
    | true=>
      by_cases hn:c.ol=0
      · have f2:((c.ol:Int)==0)=true:=by simp [hn]
        have f4:(c.ol==0)=true:=by simp [hn]
        clear hn
        go_wp2_with (go_at_call 34;(with_reducible refine (Behind.at_ (HVN.out) ?_).mono ?_);(focus (have:=bx.below;have:=bx.size;go_grown));rintro e w1 ⟨rfl,hb1⟩;replace bx:=bx.next hb1 (by go_grown) rfl;have zs:w.heap.size<w1.heap.size:=bx.size;have z0:=bx.at_.c0;have y0:=bx.at_.c3.c0;have y1:=bx.at_.c3.c1;have y2:=bx.at_.c3.c2;have y3:=bx.at_.c3.c3;have y4:=bx.at_.c3.c4;have z8:=bx.at_.c8);go_ret;exact ⟨ret_bool (by first|(rw [HR.out];done)|(rw [HR.out];simp [*];done)|(rw [HR.out];simp [*];try omega)),by have:=bx.below;have:=bx.size;go_grown⟩
      · have f2:((c.ol:Int)==0)=false:=by simp [hn]
        have f4:(c.ol==0)=false:=by simp [hn]
        clear hn
        go_wp2_with (go_at_call 34;(with_reducible refine (Behind.at_ (HVN.out) ?_).mono ?_);(focus (have:=bx.below;have:=bx.size;go_grown));rintro e w1 ⟨rfl,hb1⟩;replace bx:=bx.next hb1 (by go_grown) rfl;have zs:w.heap.size<w1.heap.size:=bx.size;have z0:=bx.at_.c0;have y0:=bx.at_.c3.c0;have y1:=bx.at_.c3.c1;have y2:=bx.at_.c3.c2;have y3:=bx.at_.c3.c3;have y4:=bx.at_.c3.c4;have z8:=bx.at_.c8);go_ret;exact ⟨ret_bool (by first|(rw [HR.out];done)|(rw [HR.out];simp [*];done)|(rw [HR.out];simp [*];try omega)),by have:=bx.below;have:=bx.size;go_grown⟩
  have f3:(c.k==3)=false:=by simp [e3]
  have hR3:enSound ⟨c.k,c.src,c.seq,v,l⟩=false:=by rw [HR.out,if_neg e1,if_neg e2,if_neg e3]
  have HR:=Lib.hid hR3
  clear e1 e2 e3 hR3 hT hs2 ho hal
  go_enter Tryz.func11,Tryz.ntmps11
  go_wp2_with (go_at_call 34;(with_reducible refine (Behind.at_ (HVN.out) ?_).mono ?_);(focus (have:=bx.below;have:=bx.size;go_grown));rintro e w1 ⟨rfl,hb1⟩;replace bx:=bx.next hb1 (by go_grown) rfl;have zs:w.heap.size<w1.heap.size:=bx.size;have z0:=bx.at_.c0;have y0:=bx.at_.c3.c0;have y1:=bx.at_.c3.c1;have y2:=bx.at_.c3.c2;have y3:=bx.at_.c3.c3;have y4:=bx.at_.c3.c4;have z8:=bx.at_.c8);go_ret;exact ⟨ret_bool (by first|(rw [HR.out];done)|(rw [HR.out];simp [*];done)|(rw [HR.out];simp [*];try omega)),by have:=bx.below;have:=bx.size;go_grown⟩
end Go.Proofs.YtgcfhkceejcliaaGreatDoor
