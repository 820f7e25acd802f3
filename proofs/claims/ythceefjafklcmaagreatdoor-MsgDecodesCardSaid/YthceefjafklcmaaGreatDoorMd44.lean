/-
  Contracts of the functions that the law reaches: The reference's Back and Decode: what stands in memory while they run. The reference's Decode: what stands in memory while it runs. The reference's Decode. The reference's Back.
-/
import Derived.Test.YthceefjafklcmaaGreatDoorMd24
import Derived.Test.YthceefjafklcmaaGreatDoorMd41
import Derived.Test.YthceefjafklcmaaGreatDoorMd25
import Derived.Test.YthceefjafklcmaaGreatDoorMd7
import Derived.Test.YthceefjafklcmaaGreatDoorMd27
import Derived.Test.YthceefjafklcmaaGreatDoorMd20
namespace Go.Proofs.YthceefjafklcmaaGreatDoor
open Go.RowKit
structure DB (w W:World) (s:RS) (cs:List Value):Prop where
  rr:RR W (w.heap.size+1) s
  res:BC W w.heap.size cs
  below:Below w.heap.size w W
  size:w.heap.size+2≤W.heap.size
theorem DB.start (w:World) (bs:List UInt8) (a:Option Addr) (n c:Nat) (h:IsB w w.heap.size a n c bs) (cs:Array Value) (t1 t2:TypeId):DB w ((w.alloc (.cells cs t1)).alloc (.cells #[.slice a n c, .bool false] t2)) (bs,false) cs.toList:=by
  obtain ⟨w1,hw1⟩:∃w1,w.alloc (.cells cs t1)=w1:=⟨_,rfl⟩
  have s1:w1.heap.size=w.heap.size+1:=by rw [←hw1,World.size_alloc]
  have b1:Below w.heap.size w w1:=by rw [←hw1];exact (Below.refl _ _).alloc (Nat.le_refl _) _
  have c1:BC w1 w.heap.size cs.toList:=by rw [←hw1];exact BC.start w cs t1
  rw [hw1]
  have b2:Below w1.heap.size w1 (w1.alloc (.cells #[.slice a n c, .bool false] t2)):=(Below.refl _ _).alloc (Nat.le_refl _) _
  have hB:Below w.heap.size w (w1.alloc (.cells #[.slice a n c, .bool false] t2)):=b1.trans (b2.mono (by omega))
  refine ⟨⟨⟨a,n,c, ?_,(h.keep hB).more (by omega)⟩, ?_, ?_, ?_⟩,c1.keep b2 (by omega),hB,by rw [World.size_alloc,s1];omega⟩
  · rw [←s1];exact cells_new w1 _ t2 0 _ rfl
  · rw [←s1];exact cells_new w1 _ t2 1 _ rfl
  · rw [←s1];exact frozen_new w1 _ t2 0
  · rw [←s1];exact frozen_new w1 _ t2 1
theorem DB.next {w W W':World} {s s':RS} {cs:List Value} (h:DB w W s cs) (hs:RStep W W' (w.heap.size+1)) (hR:RR W' (w.heap.size+1) s'):DB w W' s' cs:=
  ⟨hR,h.res.next hs (by omega),h.below.trans ((hs.below (by have:=h.size;omega)).mono (by omega)),Nat.le_trans h.size hs.size⟩
theorem DB.behind {w W W':World} {s:RS} {cs:List Value} (h:DB w W s cs) (hb:Below W.heap.size W W'):DB w W' s cs:=
  h.next (.of_below _ hb) (h.rr.of_below hb)
theorem DB.set {w W:World} {s:RS} {cs:List Value} {b o:Nat} {x:Value} (h:DB w W s cs) (hb:w.heap.size+1<b):DB w (W.setCell ⟨b,o,none⟩ x) s cs:=
  ⟨h.rr.setNew hb,h.res.far (by omega),h.below.trans ⟨rfl,rfl,rfl,by simp,fun k hk=>heap_setCell_other _ _ _ _ (show k≠b by omega)⟩,by simpa using h.size⟩
theorem refEncode_e (sd:Bool) (w:World) (c:EC) (x:En) (hx:IsEntry w w.heap.size x c) (HS:Hid (∀W,Below w.heap.size w W→Calls Tryz.prog 31 #[.agg #[.int .u8 c.k, .int .u32 c.src, .int .u32 c.seq, .int .u8 c.v.k, .int .i64 c.v.n, .string c.v.s, .slice c.v.la c.v.ll c.v.lc, .slice c.v.oa c.v.ol c.v.oc, .slice c.oa c.ol c.oc]] W fun e w'=>e= .returned (.bool sd)∧Below W.heap.size W w')) (hsz:(encE x).length≤70368744177664):
    Calls Tryz.prog 49 #[.agg #[.int .u8 c.k, .int .u32 c.src, .int .u32 c.seq, .int .u8 c.v.k, .int .i64 c.v.n, .string c.v.s, .slice c.v.la c.v.ll c.v.lc, .slice c.v.oa c.v.ol c.v.oc, .slice c.oa c.ol c.oc]] w fun e w'=>(∃a n cc,e= .returned (.tuple #[.slice a n cc, .int .i64 (outN sd (encE x))])∧IsB w' w'.heap.size a n cc (outB sd (encE x)))∧Below w.heap.size w w':=by
  cases hx with
  | mk c v l hb hv ho=>
    obtain ⟨k,src,seq,⟨vk,vn,vs,vla,vll,vlc,voa,vol,voc⟩,oa,ol,oc⟩:=c
    exact refEncode_of sd w k src seq vk vn vs vla vll vlc voa vol voc oa ol oc v l hb.k0 hb.k1 hb.s0 hb.s1 hb.q0 hb.q1 hv ho HS (fun _=>hsz)
theorem refValue_v (sd:Bool) (w:World) (c:VC) (x:V) (hx:IsVal w w.heap.size x c) (HS:Hid (∀W,Below w.heap.size w W→Calls Tryz.prog 52 #[.agg #[.int .u8 c.k, .int .i64 c.n, .string c.s, .slice c.la c.ll c.lc, .slice c.oa c.ol c.oc]] W fun e w'=>e= .returned (.bool sd)∧Below W.heap.size W w')) (hsz:(encV x).length≤70368744177664):
    Calls Tryz.prog 50 #[.agg #[.int .u8 c.k, .int .i64 c.n, .string c.s, .slice c.la c.ll c.lc, .slice c.oa c.ol c.oc]] w fun e w'=>(∃a n cc,e= .returned (.tuple #[.slice a n cc, .int .i64 (outN sd (encV x))])∧IsB w' w'.heap.size a n cc (outB sd (encV x)))∧Below w.heap.size w w':=
  refValue_of sd w c.k c.n c.s c.la c.ll c.lc c.oa c.ol c.oc x hx HS hsz
def DVPost (w:World) (v:V) (e:Int) (ee:Ending) (w':World):Prop:=
  (∃c:VC,ee= .returned (.tuple #[.agg #[.int .u8 c.k, .int .i64 c.n, .string c.s, .slice c.la c.ll c.lc, .slice c.oa c.ol c.oc], .int .i64 e])∧IsVal (only (fun b=>w.heap.size≤b) w') w'.heap.size v c)∧Below w.heap.size w w'
theorem results_dV {tmps:Array Value} {W:World} {b:Nat} {c:VC} {x:Value} (ht:tmps[2]? =some (.pointer (some ⟨b,0,none⟩))) (ht':tmps[3]? =some x) (h:BC W b [.int .u8 c.k, .int .i64 c.n, .string c.s, .slice c.la c.ll c.lc, .slice c.oa c.ol c.oc]):
    (results Tryz.f27 tmps).run Tryz.prog W= .ok (.tuple #[.agg #[.int .u8 c.k, .int .i64 c.n, .string c.s, .slice c.la c.ll c.lc, .slice c.oa c.ol c.oc],x]) W:=by
  obtain ⟨r0,r1,r2,r3,r4⟩:=row5 h.at_
  simp [results,Tryz.results27,go_sem,ht,ht',r0,r1,r2,r3,r4]
theorem dV_leave {w W:World} {c:VC} {v:V} {e:Int} {a:Act} (h:BC W w.heap.size [.int .u8 c.k, .int .i64 c.n, .string c.s, .slice c.la c.ll c.lc, .slice c.oa c.ol c.oc]) (hb:Below w.heap.size w W) (hv:IsVal (only (fun b=>w.heap.size≤b) W) W.heap.size v c) (hd:a.defers= []) (ht:a.tmps[2]? =some (.pointer (some ⟨w.heap.size,0,none⟩))) (ht':a.tmps[3]? =some (.int .i64 e)):
    bodyPost Tryz.prog Tryz.f27 (DVPost w v e) .ret a W:=
  ⟨hd,_,results_dV ht ht' h,⟨c,rfl,hv⟩,hb⟩
theorem dV_stored {w W:World} {s:RS} {z0 z1 z2 z3 z4:Value} (h:DB w W s [z0,z1,z2,z3,z4]) (c:VC):BC ((((((W.setCell ⟨w.heap.size,0,none⟩ (.int .u8 c.k)).setCell ⟨w.heap.size,1,none⟩ (.int .i64 c.n)).setCell ⟨w.heap.size,2,none⟩ (.string c.s)).setCell ⟨w.heap.size,3,none⟩ (.slice c.la c.ll c.lc)).setCell ⟨w.heap.size,4,none⟩ (.slice c.oa c.ol c.oc))) w.heap.size [.int .u8 c.k, .int .i64 c.n, .string c.s, .slice c.la c.ll c.lc, .slice c.oa c.ol c.oc] ∧Below w.heap.size w ((((((W.setCell ⟨w.heap.size,0,none⟩ (.int .u8 c.k)).setCell ⟨w.heap.size,1,none⟩ (.int .i64 c.n)).setCell ⟨w.heap.size,2,none⟩ (.string c.s)).setCell ⟨w.heap.size,3,none⟩ (.slice c.la c.ll c.lc)).setCell ⟨w.heap.size,4,none⟩ (.slice c.oa c.ol c.oc)))∧RStep W ((((((W.setCell ⟨w.heap.size,0,none⟩ (.int .u8 c.k)).setCell ⟨w.heap.size,1,none⟩ (.int .i64 c.n)).setCell ⟨w.heap.size,2,none⟩ (.string c.s)).setCell ⟨w.heap.size,3,none⟩ (.slice c.la c.ll c.lc)).setCell ⟨w.heap.size,4,none⟩ (.slice c.oa c.ol c.oc))) w.heap.size:=by
  have s1:RStep W ((((((W.setCell ⟨w.heap.size,0,none⟩ (.int .u8 c.k)).setCell ⟨w.heap.size,1,none⟩ (.int .i64 c.n)).setCell ⟨w.heap.size,2,none⟩ (.string c.s)).setCell ⟨w.heap.size,3,none⟩ (.slice c.la c.ll c.lc)).setCell ⟨w.heap.size,4,none⟩ (.slice c.oa c.ol c.oc))) w.heap.size:=(((RStep.self.trans RStep.self).trans RStep.self).trans RStep.self).trans RStep.self
  exact ⟨(((((h.res.set (i:=0) (x:= .int .u8 c.k) (by simp)).set (i:=1) (x:= .int .i64 c.n) (by simp)).set (i:=2) (x:= .string c.s) (by simp)).set (i:=3) (x:= .slice c.la c.ll c.lc) (by simp)).set (i:=4) (x:= .slice c.oa c.ol c.oc) (by simp)),h.below.trans (s1.below (by have:=h.size;omega)),s1⟩
def DEPost (w:World) (v:En) (e:Int) (ee:Ending) (w':World):Prop:=
  (∃c:EC,ee= .returned (.tuple #[.agg #[.int .u8 c.k, .int .u32 c.src, .int .u32 c.seq, .int .u8 c.v.k, .int .i64 c.v.n, .string c.v.s, .slice c.v.la c.v.ll c.v.lc, .slice c.v.oa c.v.ol c.v.oc, .slice c.oa c.ol c.oc], .int .i64 e])∧IsEntry (only (fun b=>w.heap.size≤b) w') w'.heap.size v c)∧Below w.heap.size w w'
theorem results_dE {tmps:Array Value} {W:World} {b:Nat} {c:EC} {x:Value} (ht:tmps[2]? =some (.pointer (some ⟨b,0,none⟩))) (ht':tmps[3]? =some x) (h:BC W b [.int .u8 c.k, .int .u32 c.src, .int .u32 c.seq, .int .u8 c.v.k, .int .i64 c.v.n, .string c.v.s, .slice c.v.la c.v.ll c.v.lc, .slice c.v.oa c.v.ol c.v.oc, .slice c.oa c.ol c.oc]):
    (results Tryz.f26 tmps).run Tryz.prog W= .ok (.tuple #[.agg #[.int .u8 c.k, .int .u32 c.src, .int .u32 c.seq, .int .u8 c.v.k, .int .i64 c.v.n, .string c.v.s, .slice c.v.la c.v.ll c.v.lc, .slice c.v.oa c.v.ol c.v.oc, .slice c.oa c.ol c.oc],x]) W:=by
  obtain ⟨r0,r1,r2,r3,r4,r5,r6,r7,r8⟩:=row9 h.at_
  simp [results,Tryz.results26,go_sem,ht,ht',r0,r1,r2,r3,r4,r5,r6,r7,r8]
theorem dE_leave {w W:World} {c:EC} {v:En} {e:Int} {a:Act} (h:BC W w.heap.size [.int .u8 c.k, .int .u32 c.src, .int .u32 c.seq, .int .u8 c.v.k, .int .i64 c.v.n, .string c.v.s, .slice c.v.la c.v.ll c.v.lc, .slice c.v.oa c.v.ol c.v.oc, .slice c.oa c.ol c.oc]) (hb:Below w.heap.size w W) (hv:IsEntry (only (fun b=>w.heap.size≤b) W) W.heap.size v c) (hd:a.defers= []) (ht:a.tmps[2]? =some (.pointer (some ⟨w.heap.size,0,none⟩))) (ht':a.tmps[3]? =some (.int .i64 e)):
    bodyPost Tryz.prog Tryz.f26 (DEPost w v e) .ret a W:=
  ⟨hd,_,results_dE ht ht' h,⟨c,rfl,hv⟩,hb⟩
theorem dE_stored {w W:World} {s:RS} {z0 z1 z2 z3 z4 z5 z6 z7 z8:Value} (h:DB w W s [z0,z1,z2,z3,z4,z5,z6,z7,z8]) (c:EC):BC ((((((((((W.setCell ⟨w.heap.size,0,none⟩ (.int .u8 c.k)).setCell ⟨w.heap.size,1,none⟩ (.int .u32 c.src)).setCell ⟨w.heap.size,2,none⟩ (.int .u32 c.seq)).setCell ⟨w.heap.size,3,none⟩ (.int .u8 c.v.k)).setCell ⟨w.heap.size,4,none⟩ (.int .i64 c.v.n)).setCell ⟨w.heap.size,5,none⟩ (.string c.v.s)).setCell ⟨w.heap.size,6,none⟩ (.slice c.v.la c.v.ll c.v.lc)).setCell ⟨w.heap.size,7,none⟩ (.slice c.v.oa c.v.ol c.v.oc)).setCell ⟨w.heap.size,8,none⟩ (.slice c.oa c.ol c.oc))) w.heap.size [.int .u8 c.k, .int .u32 c.src, .int .u32 c.seq, .int .u8 c.v.k, .int .i64 c.v.n, .string c.v.s, .slice c.v.la c.v.ll c.v.lc, .slice c.v.oa c.v.ol c.v.oc, .slice c.oa c.ol c.oc] ∧Below w.heap.size w ((((((((((W.setCell ⟨w.heap.size,0,none⟩ (.int .u8 c.k)).setCell ⟨w.heap.size,1,none⟩ (.int .u32 c.src)).setCell ⟨w.heap.size,2,none⟩ (.int .u32 c.seq)).setCell ⟨w.heap.size,3,none⟩ (.int .u8 c.v.k)).setCell ⟨w.heap.size,4,none⟩ (.int .i64 c.v.n)).setCell ⟨w.heap.size,5,none⟩ (.string c.v.s)).setCell ⟨w.heap.size,6,none⟩ (.slice c.v.la c.v.ll c.v.lc)).setCell ⟨w.heap.size,7,none⟩ (.slice c.v.oa c.v.ol c.v.oc)).setCell ⟨w.heap.size,8,none⟩ (.slice c.oa c.ol c.oc)))∧RStep W ((((((((((W.setCell ⟨w.heap.size,0,none⟩ (.int .u8 c.k)).setCell ⟨w.heap.size,1,none⟩ (.int .u32 c.src)).setCell ⟨w.heap.size,2,none⟩ (.int .u32 c.seq)).setCell ⟨w.heap.size,3,none⟩ (.int .u8 c.v.k)).setCell ⟨w.heap.size,4,none⟩ (.int .i64 c.v.n)).setCell ⟨w.heap.size,5,none⟩ (.string c.v.s)).setCell ⟨w.heap.size,6,none⟩ (.slice c.v.la c.v.ll c.v.lc)).setCell ⟨w.heap.size,7,none⟩ (.slice c.v.oa c.v.ol c.v.oc)).setCell ⟨w.heap.size,8,none⟩ (.slice c.oa c.ol c.oc))) w.heap.size:=by
  have s1:RStep W ((((((((((W.setCell ⟨w.heap.size,0,none⟩ (.int .u8 c.k)).setCell ⟨w.heap.size,1,none⟩ (.int .u32 c.src)).setCell ⟨w.heap.size,2,none⟩ (.int .u32 c.seq)).setCell ⟨w.heap.size,3,none⟩ (.int .u8 c.v.k)).setCell ⟨w.heap.size,4,none⟩ (.int .i64 c.v.n)).setCell ⟨w.heap.size,5,none⟩ (.string c.v.s)).setCell ⟨w.heap.size,6,none⟩ (.slice c.v.la c.v.ll c.v.lc)).setCell ⟨w.heap.size,7,none⟩ (.slice c.v.oa c.v.ol c.v.oc)).setCell ⟨w.heap.size,8,none⟩ (.slice c.oa c.ol c.oc))) w.heap.size:=(((((((RStep.self.trans RStep.self).trans RStep.self).trans RStep.self).trans RStep.self).trans RStep.self).trans RStep.self).trans RStep.self).trans RStep.self
  exact ⟨(((((((((h.res.set (i:=0) (x:= .int .u8 c.k) (by simp)).set (i:=1) (x:= .int .u32 c.src) (by simp)).set (i:=2) (x:= .int .u32 c.seq) (by simp)).set (i:=3) (x:= .int .u8 c.v.k) (by simp)).set (i:=4) (x:= .int .i64 c.v.n) (by simp)).set (i:=5) (x:= .string c.v.s) (by simp)).set (i:=6) (x:= .slice c.v.la c.v.ll c.v.lc) (by simp)).set (i:=7) (x:= .slice c.v.oa c.v.ol c.v.oc) (by simp)).set (i:=8) (x:= .slice c.oa c.ol c.oc) (by simp)),h.below.trans (s1.below (by have:=h.size;omega)),s1⟩
end Go.Proofs.YthceefjafklcmaaGreatDoor
namespace Go.Proofs.YthceefjafklcmaaGreatDoor
open Go.RowKit
theorem DB.below_ {w W W':World} {s:RS} {cs:List Value} {B:Nat} (h:DB w W s cs) (hb:Below B W W') (hB:w.heap.size+2≤B):DB w W' s cs:=
  ⟨h.rr.below hb (by omega),h.res.keep hb (by omega),h.below.trans (hb.mono (by omega)),Nat.le_trans h.size hb.size⟩
theorem DB.far {w W W':World} {s:RS} {cs:List Value} {b:Nat} (h:DB w W s cs) (hs:RStep W W' b) (hb:w.heap.size+2≤b) (hl:b≤W.heap.size):DB w W' s cs:=
  h.below_ (hs.below hl) hb
structure DL (w wr:World) (eb:Nat) (kd sr sq:Nat) (s0:RS) (j:Nat) (a:Option Addr) (m c:Nat) (xs:List Cm) (cs:List CC) (sj:RS):Prop where
  rd:fL fC j s0=(xs,sj)
  len:xs.length=j
  cen:cs.length=j
  box:DB w wr sj (ecells ezero)
  vb_:BC wr eb (ecells ⟨kd,sr,sq,vzero,a,m,c⟩)
  row:RowC wr (eb+1) (.slice a m c) xs cs
  lo:w.heap.size+2≤eb
theorem DL.round {w wr w4 w5:World} {eb kd sr sq:Nat} {s0:RS} {j:Nat} {a:Option Addr} {m c:Nat} {xs:List Cm} {cs:List CC} {sj s2:RS} {x:Cm} {cx:CC} {g cap:Nat} {t:TypeId}
    (h:DL w wr eb kd sr sq s0 j a m c xs cs sj) (hb0:sj.2=false) (hx:fC sj=(x,s2)) (hS:RStep wr.drew w4 (w.heap.size+1)) (hI:IsComp (only (fun b=>wr.drew.heap.size≤b) w4) w4.heap.size x cx) (hR:RR w4 (w.heap.size+1) s2)
    (hown:w5.ownsRow (eb+1) 97 12 (.slice (some ⟨g,0,none⟩) (j+1) cap) (j+1) (cs.flatMap ccells++ccells cx)) (hg:(w4.alloc (.cells #[.int .u8 cx.k, .slice cx.pa cx.pl cx.pc, .string cx.key, .int .i64 cx.i, .int .i64 cx.j, .int .i64 cx.n, .int .u8 cx.v.k, .int .i64 cx.v.n, .string cx.v.s, .slice cx.v.la cx.v.ll cx.v.lc, .slice cx.v.oa cx.v.ol cx.v.oc, .string cx.s] t)).grownBy w5 (Value.slice a m c).ownBlock)
    (hat:(Value.slice a m c).ownBlock=some g∨g=w4.heap.size+1):
    DL w (w5.setCell ⟨eb,8,none⟩ (.slice (some ⟨g,0,none⟩) (j+1) cap)) eb kd sr sq s0 (j+1) (some ⟨g,0,none⟩) (j+1) cap (xs++ [x]) (cs++ [cx]) s2:=by
  have hlo:=h.lo
  have hdz:wr.drew.heap.size=wr.heap.size:=rfl
  have hb1:=drew_below wr
  have hrow:=(h.row.later (PC.closed xs cs) (.of_below (w.heap.size+1) hb1) (by omega)).later (PC.closed xs cs) hS (by omega)
  have hrlt:∀b,(Value.slice a m c).ownBlock=some b→eb+1≤b∧b<wr.heap.size:=h.row.lt
  have hba:Below w4.heap.size w4 (w4.alloc (.cells #[.int .u8 cx.k, .slice cx.pa cx.pl cx.pc, .string cx.key, .int .i64 cx.i, .int .i64 cx.j, .int .i64 cx.n, .int .u8 cx.v.k, .int .i64 cx.v.n, .string cx.v.s, .slice cx.v.la cx.v.ll cx.v.lc, .slice cx.v.oa cx.v.ol cx.v.oc, .string cx.s] t)):=(Below.refl _ _).alloc (Nat.le_refl _) _
  have hsz4:wr.heap.size≤w4.heap.size:=hS.size
  have hclt:=h.vb_.lt
  have hgb:Below (eb+1) (w4.alloc (.cells #[.int .u8 cx.k, .slice cx.pa cx.pl cx.pc, .string cx.key, .int .i64 cx.i, .int .i64 cx.j, .int .i64 cx.n, .int .u8 cx.v.k, .int .i64 cx.v.n, .string cx.v.s, .slice cx.v.la cx.v.ll cx.v.lc, .slice cx.v.oa cx.v.ol cx.v.oc, .string cx.s] t)) w5:=grown_below hg (fun b hb=>(hrlt b hb).1) (by simp;omega)
  have hb45:Below (eb+1) w4 w5:=(hba.mono (by omega)).trans hgb
  obtain ⟨s1,s2'⟩:=PC.snoc (l:=xs) (cs:=cs) (by rw [h.len,h.cen]) x cx
  have hnew:PC (xs++ [x]) (cs++ [cx]) (only (Free (eb+1) (.slice a m c)) w4) w4.heap.size xs.length:=s1 _ _ (hI.sub (shows_step fun b hb _=>⟨⟨by rw [hdz] at hb;omega,fun e=>by have:=(hrlt b e.symm).2;rw [hdz] at hb;omega⟩,rfl⟩))
  have hpush:=Row.push (PC.closed (xs++ [x]) (cs++ [cx])) hrow hba hg (u':= .slice (some ⟨g,0,none⟩) (j+1) cap) (news:=ccells cx) (by rw [h.len];exact hown) (by
    rcases hat with e|e
    · left;rw [e];rfl
    · right;intro b hb;have:g=b:=by simpa [Value.ownBlock] using hb
      omega) hnew s2'
  have hbox:=((h.box.behind hb1).next hS hR).below_ hb45 (by omega)
  have hvb:=((h.vb_.keep hb1 hclt).next hS (by omega)).keep hb45 (by omega)
  refine ⟨?_,by simp [h.len],by simp [h.cen],hbox.set (by omega),hvb.set (i:=8) (x:= .slice (some ⟨g,0,none⟩) (j+1) cap) (by simp [ecells]), ?_,hlo⟩
  · rw [fL_step (by rw [h.rd];exact hb0),h.rd];simp only [hx]
  · have hr2:RowC w5 (eb+1) (.slice (some ⟨g,0,none⟩) (j+1) cap) (xs++ [x]) (cs++ [cx]):=by
      show Row _ _ _ _ _ _ _ _
      rw [flat_snoc,List.length_append,List.length_singleton]
      exact hpush
    exact hr2.set (PC.closed _ _) (by omega)
structure DE (w W:World) (eb:Nat) (s:RS) (v:V) (l:List Cm) (c:EC):Prop where
  box:DB w W s (ecells ezero)
  cel:BC W eb (ecells c)
  val:IsVal (only (fun b=>eb+1≤b) W) W.heap.size v c.v
  ops:IsComps (only (fun b=>eb+1≤b) W) W.heap.size l c.oa c.ol c.oc
  lo:w.heap.size+2≤eb
theorem isComps_none (W:World) (B:Nat):IsComps W B [] none 0 0:=IsComps.nil _ _
theorem DE.next {w W W':World} {eb:Nat} {s s':RS} {v:V} {l:List Cm} {c:EC} (h:DE w W eb s v l c) (hs:RStep W W' (w.heap.size+1)) (hR:RR W' (w.heap.size+1) s'):DE w W' eb s' v l c:=by
  have hlo:=h.lo
  exact ⟨h.box.next hs hR,h.cel.next hs (by omega),isVal_far h.val hs (by omega),isComps_far h.ops hs (by omega),hlo⟩
theorem DE.set {w W W':World} {eb:Nat} {s:RS} {v:V} {l:List Cm} {c c':EC} (h:DE w W eb s v l c) (hs:RStep W W' eb) (hbox:BC W' eb (ecells c')) (e1:c'.v=c.v) (e2:c'.oa=c.oa) (e3:c'.ol=c.ol) (e4:c'.oc=c.oc):DE w W' eb s v l c':=by
  have hlo:=h.lo
  refine ⟨h.box.far hs (by omega) (Nat.le_of_lt h.cel.lt),hbox, ?_, ?_,hlo⟩
  · rw [e1];exact isVal_far h.val hs (by omega)
  · rw [e2,e3,e4];exact isComps_far h.ops hs (by omega)
theorem DE.value {w W W' W2:World} {eb:Nat} {s s':RS} {v v':V} {l:List Cm} {c c':EC} (h:DE w W eb s v l c) (hs:RStep W W' (w.heap.size+1)) (hR:RR W' (w.heap.size+1) s') (hv:IsVal (only (fun b=>W.heap.size≤b) W') W'.heap.size v' c'.v) (s2:RStep W' W2 eb) (hbox:BC W2 eb (ecells c')) (e2:c'.oa=c.oa) (e3:c'.ol=c.ol) (e4:c'.oc=c.oc):DE w W2 eb s' v' l c':=by
  have hlo:=h.lo
  have hcl:=h.cel.lt
  have h1:=h.next hs hR
  refine ⟨h1.box.far s2 (by omega) (Nat.le_of_lt h1.cel.lt),hbox, ?_, ?_,hlo⟩
  · exact isVal_far (hv.sub (shows_step fun k hk _=>⟨by omega,rfl⟩)) s2 (by omega)
  · rw [e2,e3,e4];exact isComps_far h1.ops s2 (by omega)
theorem DE.entry {w W:World} {eb:Nat} {s:RS} {v:V} {l:List Cm} {c:EC} {x:En} (h:DE w W eb s v l c) (hb:c.Bnd) (hx:(⟨c.k,c.src,c.seq,v,l⟩:En)=x):IsEntry (only (fun b=>w.heap.size+2≤b) W) W.heap.size x c:=by
  subst hx
  have hlo:=h.lo
  exact .mk c v l hb (h.val.sub (shows_step fun k hk _=>⟨by omega,rfl⟩)) (h.ops.sub (shows_step fun k hk _=>⟨by omega,rfl⟩))
theorem DL.de {w wr:World} {eb kd sr sq:Nat} {s0:RS} {j:Nat} {a:Option Addr} {m c:Nat} {xs:List Cm} {cs:List CC} {sj:RS} (h:DL w wr eb kd sr sq s0 j a m c xs cs sj) (hfew:j≤1466015503701):DE w wr eb sj V.none xs ⟨kd,sr,sq,vzero,a,m,c⟩:=
  ⟨h.box,h.vb_,isVal_none _ _,h.row.comps (by rw [h.len,h.cen]) (Nat.le_refl _) (by rw [h.len];exact hfew),h.lo⟩
theorem u32_id (k:Nat) (h:k<4294967296):IntKind.u32.wrap (k:Int)=k:=by simp [IntKind.wrap,IntKind.bits,IntKind.signed];omega
def DOut (sd:Bool) (x:En) (s1:RS) (bs:List UInt8) (v:En) (e:Int):Prop:=
  (s1.2=true∧v=En.none∧e=100)∨(s1.2=false∧outN sd (encE x)≠0∧v=En.none∧e=100)∨
  (s1.2=false∧outN sd (encE x)=0∧eqBs (outB sd (encE x)) bs=false∧v=En.none∧e=100)∨(s1.2=false∧outN sd (encE x)=0∧outB sd (encE x)=bs∧x=v∧e=0)
end Go.Proofs.YthceefjafklcmaaGreatDoor
namespace Go.Proofs.YthceefjafklcmaaGreatDoor
open Go.RowKit
set_option maxHeartbeats 2000000 in
set_option maxRecDepth 100000 in
theorem dE_long (w:World) (a:Option Addr) (n c:Nat) (bs:List UInt8) (h:IsB w w.heap.size a n c bs) (hn:60000<bs.length):
    Calls Tryz.prog 26 #[.slice a n c] w (DEPost w En.none 3):=by
  have hnn:=h.len
  have hn2:60000<n:=by omega
  clear h hnn hn
  go_enter Tryz.func26,Tryz.ntmps26
  generalize hQ0:bodyPost _ _ _=Q0
  have HQ:=Lib.hid hQ0
  clear hQ0
  go_wp2_with fail
  rw [←HQ.out]
  exact dE_leave (c:=ezero) (BC.start w #[.int .u8 0, .int .u32 0, .int .u32 0, .int .u8 0, .int .i64 0, .string { data:= #[] }, .slice none 0 0, .slice none 0 0, .slice none 0 0] _) ((Below.refl _ _).alloc (Nat.le_refl _) _) (isEntry_none _ _) rfl rfl rfl
set_option maxHeartbeats 32000000 in
set_option maxRecDepth 100000 in
theorem dE_all (w:World) (a:Option Addr) (n c:Nat) (bs:List UInt8) (h:IsB w w.heap.size a n c bs) (hn:bs.length≤60000) (x:En) (s1:RS) (hx:fE (bs,false)=(x,s1)) (sd:Bool) (hsz:s1.2=false→(encE x).length≤70368744177664)
    (hlv:s1.2=false→Hid (∀W5,Below w.heap.size w W5→∀cv:EC,IsEntry W5 W5.heap.size x cv→Hid (∀W,Below W5.heap.size W5 W→Calls Tryz.prog 31 #[.agg #[.int .u8 cv.k, .int .u32 cv.src, .int .u32 cv.seq, .int .u8 cv.v.k, .int .i64 cv.v.n, .string cv.v.s, .slice cv.v.la cv.v.ll cv.v.lc, .slice cv.v.oa cv.v.ol cv.v.oc, .slice cv.oa cv.ol cv.oc]] W fun e w'=>e= .returned (.bool sd)∧Below W.heap.size W w'))) (v:En) (e:Int) (hout:DOut sd x s1 bs v e):
    Calls Tryz.prog 26 #[.slice a n c] w (DEPost w v e):=by
  obtain ⟨i0,hi0,hz0,hz1,hz2⟩:=info_parts ginfoC
  have hnn:=h.len
  have hn2:¬60000<n:=by omega
  have HI:=Lib.hid h
  have HLV:=Lib.hid hlv
  have HSZ:=Lib.hid hsz
  have HO:=Lib.hid hout
  have HD:=Lib.hid (DB.start w bs a n c h #[.int .u8 0, .int .u32 0, .int .u32 0, .int .u8 0, .int .i64 0, .string { data:= #[] }, .slice none 0 0, .slice none 0 0, .slice none 0 0] 31 92)
  obtain ⟨⟨kd,q1⟩,h1⟩:∃p,fN 1 (bs,false)=p:=⟨_,rfl⟩
  obtain ⟨⟨sr,q2⟩,h2⟩:∃p,fN 4 q1=p:=⟨_,rfl⟩
  obtain ⟨⟨sq,q3⟩,h3⟩:∃p,fN 4 q2=p:=⟨_,rfl⟩
  rw [fE] at hx
  simp only [fB,h1,h2,h3] at hx
  have hk1:kd<256:=by have:=fN_lt 1 (bs,false);rw [h1] at this;exact this
  have hs1:sr<4294967296:=by have:=fN_lt 4 q1;rw [h2] at this;exact this
  have hq1:sq<4294967296:=by have:=fN_lt 4 q2;rw [h3] at this;exact this
  have hu:=u8_id kd hk1
  have hu2:=u32_id sr hs1
  have hu3:=u32_id sq hq1
  have H1:=Lib.hid h1
  have H2:=Lib.hid h2
  have H3:=Lib.hid h3
  have HX:=Lib.hid hx
  clear h hnn hn hlv hsz hout h1 h2 h3 hx
  go_enter Tryz.func26,Tryz.ntmps26
  generalize hQ0:bodyPost _ _ _=Q0
  have HQ:=Lib.hid hQ0
  clear hQ0
  go_wp2_with (go_at_call 45;(with_reducible refine (numberR1 _ (w.heap.size+1) (bs,false) HD.out.rr H1.out).mono ?_);rintro e w1 ⟨rfl,hR1,hS1⟩;have D1:=HD.out.next hS1 hR1;have zs1:w.heap.size+1<w1.heap.size:=(by have:=D1.size;omega))
  have DE1:DE w (w1.alloc (.cells #[.int .u8 kd, .int .u32 0, .int .u32 0, .int .u8 0, .int .i64 0, .string { data:= #[] }, .slice none 0 0, .slice none 0 0, .slice none 0 0] 31)) w1.heap.size q1 V.none [] ⟨kd,0,0,vzero,none,0,0⟩:=
    ⟨D1.behind ((Below.refl _ _).alloc (Nat.le_refl _) _),BC.start w1 _ _,isVal_none _ _,isComps_none _ _,D1.size⟩
  refine (numberR4 _ (w.heap.size+1) q1 DE1.box.rr H2.out).mono ?_
  rintro e w2 ⟨rfl,hR2,hS2⟩
  have DE2:=DE1.next hS2 hR2
  obtain ⟨eb,heb⟩:∃eb,w1.heap.size=eb:=⟨_,rfl⟩
  rw [heb] at DE2 zs1 ⊢
  have p1:=DE2.cel.fr 1;have y1:=DE2.cel.at_ 1 _ rfl
  clear D1 DE1 hS2 hR2 hS1 hR1 heb
  go_wp2_with fail
  have DE3:DE w (w2.setCell ⟨eb,1,none⟩ (.int .u32 sr)) eb q2 V.none [] ⟨kd,sr,0,vzero,none,0,0⟩:=DE2.set RStep.self (DE2.cel.set (i:=1) (x:= .int .u32 sr) (by simp [ecells])) rfl rfl rfl rfl
  refine (numberR4 _ (w.heap.size+1) q2 DE3.box.rr H3.out).mono ?_
  rintro e w3 ⟨rfl,hR3,hS3⟩
  have DE4:=DE3.next hS3 hR3
  have p2:=DE4.cel.fr 2
  obtain ⟨y0,y1,y2,y3,y4,y5,y6,y7,y8⟩:=BC.cells9 DE4.cel
  have zs3:=DE4.cel.lt
  have DE5:DE w (w3.setCell ⟨eb,2,none⟩ (.int .u32 sq)) eb q3 V.none [] ⟨kd,sr,sq,vzero,none,0,0⟩:=DE4.set RStep.self (DE4.cel.set (i:=2) (x:= .int .u32 sq) (by simp [ecells])) rfl rfl rfl rfl
  clear DE2 DE3 hS3 hR3
  by_cases e1:kd=1
  case pos=>
    have f1:((kd:Int)==1)=true:=by subst e1;rfl
    have f2:((kd:Int)==2)=false:=by subst e1;rfl
    have hx:=HX.out
    rw [if_pos e1] at hx
    obtain ⟨⟨v1,b9,d9⟩,h4⟩:∃p,fV 18 q3=p:=⟨_,rfl⟩
    rw [h4] at hx
    injection hx with hf1 hf2
    subst hf2
    have H4:=Lib.hid h4
    clear h4 HX e1 DE4
    go_wp2_with fail
    obtain ⟨W3,hW3⟩:∃W3,w3.setCell ⟨eb,2,none⟩ (.int .u32 sq)=W3:=⟨_,rfl⟩
    rw [hW3] at DE5 ⊢
    clear hW3 zs3 p2 y0 y1 y2 y3 y4 y5 y6 y7 y8
    refine (valueR0 W3 (w.heap.size+1) q3 DE5.box.rr H4.out).mono ?_
    rintro e w4 ⟨cv,rfl,hS4,hI4,hR4⟩
    have DE6:=DE5.next hS4 hR4
    have p3:=DE6.cel.fr 3;have p4:=DE6.cel.fr 4;have p5:=DE6.cel.fr 5;have p6:=DE6.cel.fr 6;have p7:=DE6.cel.fr 7
    obtain ⟨y0,y1,y2,y3,y4,y5,y6,y7,y8⟩:=BC.cells9 DE6.cel
    obtain ⟨o0,g0,o1,g1,o2,g2,o3,g3,o4,g4,o5,g5,o6,g6,o7,g7,o8,g8⟩:=BC.both9 DE6.box.res
    have zs4:=DE6.cel.lt
    have hlo4:=DE6.lo
    have DE7:DE w (((((w4.setCell ⟨eb,3,none⟩ (.int .u8 cv.k)).setCell ⟨eb,4,none⟩ (.int .i64 cv.n)).setCell ⟨eb,5,none⟩ (.string cv.s)).setCell ⟨eb,6,none⟩ (.slice cv.la cv.ll cv.lc)).setCell ⟨eb,7,none⟩ (.slice cv.oa cv.ol cv.oc)) eb (b9,d9) v1 [] ⟨kd,sr,sq,cv,none,0,0⟩:=DE5.value hS4 hR4 hI4 ((((RStep.self.trans RStep.self).trans RStep.self).trans RStep.self).trans RStep.self) (((((DE6.cel.set (i:=3) (x:= .int .u8 cv.k) (by simp [ecells])).set (i:=4) (x:= .int .i64 cv.n) (by simp [ecells])).set (i:=5) (x:= .string cv.s) (by simp [ecells])).set (i:=6) (x:= .slice cv.la cv.ll cv.lc) (by simp [ecells])).set (i:=7) (x:= .slice cv.oa cv.ol cv.oc) (by simp [ecells])) rfl rfl rfl
    rcases HO.out with ⟨hb,rfl,rfl⟩|⟨hb,hN,rfl,rfl⟩|⟨hb,hN,hE,rfl,rfl⟩|⟨hb,hN,hE,rfl,rfl⟩
    · replace hb:d9=true:=hb
      subst hb
      have bb:w4.cell? ⟨w.heap.size+1,1,none⟩=some (.bool true):=DE6.box.rr.bad
      have zs9:w.heap.size+1<w4.heap.size:=by omega
      go_wp2_with fail
      rw [←HQ.out]
      have ST:=dE_stored DE7.box ezero
      exact dE_leave (c:=ezero) ST.1 ST.2.1 (isEntry_none _ _) rfl rfl rfl
    · replace hb:d9=false:=hb
      subst hb
      have HLX:=HLV.out rfl
      have HSX:=HSZ.out rfl
      obtain ⟨en,hen⟩:∃en,encE x=en:=⟨_,rfl⟩
      have HEN:=Lib.hid hen
      obtain ⟨N,hNN⟩:∃N,outN sd en=N:=⟨_,rfl⟩
      have HN:=Lib.hid hNN
      rw [hen,hNN] at hN
      have fN1:(N==0)=false:=by simpa using hN
      have fN2:(N !=0)=true:=by simpa using hN
      have fN3:decide (N=0)=false:=by simpa using hN
      clear hNN hen
      have bb:w4.cell? ⟨w.heap.size+1,1,none⟩=some (.bool false):=DE6.box.rr.bad
      have zs9:w.heap.size+1<w4.heap.size:=by omega
      go_wp2_with fail
      have hvx:=(DE7.entry (c:=⟨kd,sr,sq,cv,none,0,0⟩) ⟨by show (0:Int)≤(kd:Int);omega,by show (kd:Int)<256;omega,by show (0:Int)≤(sr:Int);omega,by show (sr:Int)<4294967296;omega,by show (0:Int)≤(sq:Int);omega,by show (sq:Int)<4294967296;omega⟩ hf1).sub (shows_only _ _ _)
      refine (refEncode_e sd _ ⟨kd,sr,sq,cv,none,0,0⟩ x hvx (HLX.out _ DE7.box.below _ hvx) HSX).mono ?_
      rw [HEN.out]
      rintro e w5 ⟨⟨ra,rn,rc,rfl,hIc⟩,hb5⟩
      have D5:=DE7.next (.of_below _ hb5) (DE7.box.rr.of_below hb5)
      obtain ⟨y0,y1,y2,y3,y4,y5,y6,y7,y8⟩:=BC.cells9 D5.cel
      obtain ⟨o0,g0,o1,g1,o2,g2,o3,g3,o4,g4,o5,g5,o6,g6,o7,g7,o8,g8⟩:=BC.both9 D5.box.res
      have HI5:=Lib.hid (D5.entry (c:=⟨kd,sr,sq,cv,none,0,0⟩) ⟨by show (0:Int)≤(kd:Int);omega,by show (kd:Int)<256;omega,by show (0:Int)≤(sr:Int);omega,by show (sr:Int)<4294967296;omega,by show (0:Int)≤(sq:Int);omega,by show (sq:Int)<4294967296;omega⟩ hf1)
      have k2:=conv_isB (HI.out.keep D5.box.below)
      rw [HN.out]
      have k1:=conv_isB hIc
      have hlo5:=D5.lo
      have zs5:=D5.cel.lt
      have HD5:=Lib.hid D5
      clear D5 hvx hb5 hIc
      go_wp2_with fail
      rw [←HQ.out]
      have ST:=dE_stored HD5.out.box ezero
      exact dE_leave (c:=ezero) ST.1 ST.2.1 (isEntry_none _ _) rfl rfl rfl
    · replace hb:d9=false:=hb
      subst hb
      have HLX:=HLV.out rfl
      have HSX:=HSZ.out rfl
      obtain ⟨en,hen⟩:∃en,encE x=en:=⟨_,rfl⟩
      have HEN:=Lib.hid hen
      rw [hen] at hN hE
      have HN:=Lib.hid hN
      obtain ⟨SA,hSA⟩:∃SA,(⟨(outB sd en).toArray⟩:ByteArray)=SA:=⟨_,rfl⟩
      obtain ⟨SQ,hSQ⟩:∃SQ,(⟨bs.toArray⟩:ByteArray)=SQ:=⟨_,rfl⟩
      have hne:SA≠SQ:=by
        intro e;rw [←hSA, ←hSQ] at e
        rw [eqBs,(bytes_inj.1 e)] at hE;simp at hE
      have fS:(SA.toList==SQ.toList)=false:=by
        have:SA.toList≠SQ.toList:=by
          intro e
          rw [ByteArray.toList_eq,ByteArray.toList_eq] at e
          apply hne
          cases SA;cases SQ
          simpa using e
        simpa using this
      have HSA:=Lib.hid hSA
      have HSQ:=Lib.hid hSQ
      clear hen hN hE hSA hSQ
      have bb:w4.cell? ⟨w.heap.size+1,1,none⟩=some (.bool false):=DE6.box.rr.bad
      have zs9:w.heap.size+1<w4.heap.size:=by omega
      go_wp2_with fail
      have hvx:=(DE7.entry (c:=⟨kd,sr,sq,cv,none,0,0⟩) ⟨by show (0:Int)≤(kd:Int);omega,by show (kd:Int)<256;omega,by show (0:Int)≤(sr:Int);omega,by show (sr:Int)<4294967296;omega,by show (0:Int)≤(sq:Int);omega,by show (sq:Int)<4294967296;omega⟩ hf1).sub (shows_only _ _ _)
      refine (refEncode_e sd _ ⟨kd,sr,sq,cv,none,0,0⟩ x hvx (HLX.out _ DE7.box.below _ hvx) HSX).mono ?_
      rw [HEN.out]
      rintro e w5 ⟨⟨ra,rn,rc,rfl,hIc⟩,hb5⟩
      have D5:=DE7.next (.of_below _ hb5) (DE7.box.rr.of_below hb5)
      obtain ⟨y0,y1,y2,y3,y4,y5,y6,y7,y8⟩:=BC.cells9 D5.cel
      obtain ⟨o0,g0,o1,g1,o2,g2,o3,g3,o4,g4,o5,g5,o6,g6,o7,g7,o8,g8⟩:=BC.both9 D5.box.res
      have HI5:=Lib.hid (D5.entry (c:=⟨kd,sr,sq,cv,none,0,0⟩) ⟨by show (0:Int)≤(kd:Int);omega,by show (kd:Int)<256;omega,by show (0:Int)≤(sr:Int);omega,by show (sr:Int)<4294967296;omega,by show (0:Int)≤(sq:Int);omega,by show (sq:Int)<4294967296;omega⟩ hf1)
      have k2:=conv_isB (HI.out.keep D5.box.below)
      rw [HN.out]
      have k1:(convert 22 9 (.slice ra rn rc)).run Tryz.prog w5= .ok (.string SA) w5:=by rw [←HSA.out];exact conv_isB hIc
      rw [HSQ.out] at k2
      have hlo5:=D5.lo
      have zs5:=D5.cel.lt
      have HD5:=Lib.hid D5
      clear D5 hvx hb5 hIc
      go_wp2_with fail
      rw [←HQ.out]
      have ST:=dE_stored HD5.out.box ezero
      exact dE_leave (c:=ezero) ST.1 ST.2.1 (isEntry_none _ _) rfl rfl rfl
    · replace hb:d9=false:=hb
      subst hb
      have HLX:=HLV.out rfl
      have HSX:=HSZ.out rfl
      obtain ⟨en,hen⟩:∃en,encE x=en:=⟨_,rfl⟩
      have HEN:=Lib.hid hen
      rw [hen] at hN hE
      have HN:=Lib.hid hN
      have HE:=Lib.hid hE
      clear hen hN hE
      have bb:w4.cell? ⟨w.heap.size+1,1,none⟩=some (.bool false):=DE6.box.rr.bad
      have zs9:w.heap.size+1<w4.heap.size:=by omega
      go_wp2_with fail
      have hvx:=(DE7.entry (c:=⟨kd,sr,sq,cv,none,0,0⟩) ⟨by show (0:Int)≤(kd:Int);omega,by show (kd:Int)<256;omega,by show (0:Int)≤(sr:Int);omega,by show (sr:Int)<4294967296;omega,by show (0:Int)≤(sq:Int);omega,by show (sq:Int)<4294967296;omega⟩ hf1).sub (shows_only _ _ _)
      refine (refEncode_e sd _ ⟨kd,sr,sq,cv,none,0,0⟩ x hvx (HLX.out _ DE7.box.below _ hvx) HSX).mono ?_
      rw [HEN.out]
      rintro e w5 ⟨⟨ra,rn,rc,rfl,hIc⟩,hb5⟩
      have D5:=DE7.next (.of_below _ hb5) (DE7.box.rr.of_below hb5)
      obtain ⟨y0,y1,y2,y3,y4,y5,y6,y7,y8⟩:=BC.cells9 D5.cel
      obtain ⟨o0,g0,o1,g1,o2,g2,o3,g3,o4,g4,o5,g5,o6,g6,o7,g7,o8,g8⟩:=BC.both9 D5.box.res
      have HI5:=Lib.hid (D5.entry (c:=⟨kd,sr,sq,cv,none,0,0⟩) ⟨by show (0:Int)≤(kd:Int);omega,by show (kd:Int)<256;omega,by show (0:Int)≤(sr:Int);omega,by show (sr:Int)<4294967296;omega,by show (0:Int)≤(sq:Int);omega,by show (sq:Int)<4294967296;omega⟩ hf1)
      have k2:=conv_isB (HI.out.keep D5.box.below)
      rw [HN.out]
      rw [HE.out] at hIc
      have k1:=conv_isB hIc
      have hlo5:=D5.lo
      have zs5:=D5.cel.lt
      have HD5:=Lib.hid D5
      clear D5 hvx hb5 hIc
      go_wp2_with fail
      rw [←HQ.out]
      have ST:=dE_stored HD5.out.box ⟨kd,sr,sq,cv,none,0,0⟩
      exact dE_leave (c:=⟨kd,sr,sq,cv,none,0,0⟩) ST.1 ST.2.1 ((isEntry_far HI5.out ST.2.2 (by omega)).sub (shows_step fun k hk _=>⟨Nat.le_trans (by omega) hk,rfl⟩)) rfl rfl rfl
  case neg=>
  have f1:((kd:Int)==1)=false:=by simp;omega
  by_cases e2:kd=2
  case pos =>
    have f2:((kd:Int)==2)=true:=by subst e2;rfl
    have hx:=HX.out
    rw [if_neg e1,if_pos e2] at hx
    obtain ⟨⟨n2,q4⟩,h4⟩:∃p,fM 4 q3=p:=⟨_,rfl⟩
    rw [h4] at hx
    dsimp only at hx
    obtain ⟨⟨l,s9⟩,h5⟩:∃p,fL fC n2 q4=p:=⟨_,rfl⟩
    rw [h5] at hx
    injection hx with hf1 hf2
    subst hf2
    have hn4:n2<4294967296:=by have:=(fM_lt 4 q3).1;rw [h4] at this;exact Nat.lt_of_lt_of_le this (by decide)
    have H4:=Lib.hid h4
    have H5:=Lib.hid h5
    clear h4 h5 HX e1 e2 DE4
    go_wp2_with fail
    obtain ⟨W3,hW3⟩:∃W3,w3.setCell ⟨eb,2,none⟩ (.int .u32 sq)=W3:=⟨_,rfl⟩
    rw [hW3] at DE5 ⊢
    clear hW3 zs3 p2 y0 y1 y2 y3 y4 y5 y6 y7 y8
    refine (manyR4 W3 (w.heap.size+1) q3 DE5.box.rr H4.out).mono ?_
    rintro e w4 ⟨rfl,hR4,hS4⟩
    have DE6:=DE5.next hS4 hR4
    have DL0:DL w w4 eb kd sr sq q4 0 none 0 0 [] [] q4:=⟨rfl,rfl,rfl,DE6.box,DE6.cel,Row.nil _ _ _ _ _,DE6.lo⟩
    clear DE5 DE6 hR4 hS4
    go_wp2_with fail
    go_loopw [7] (fun i wr=>∃(j:Nat) (a:Option Addr) (m c:Nat) (xs:List Cm) (cs:List CC) (sj:RS),j≤n2∧i= .int .i64 j∧DL w wr eb kd sr sq q4 j a m c xs cs sj) (fun i _=>n2 - (intOf i).toNat)
    case atStart=>exact ⟨0,none,0,0, [], [],q4,Nat.zero_le _,rfl,DL0⟩
    case round=>
      clear DL0
      obtain ⟨j,a',m,c',xs,cs,⟨b9,d9⟩,hj,rfl,L⟩:=hrel
      have bb:=L.box.rr.bad
      have hvlt:=L.vb_.lt
      have hlo:=L.lo
      have zs4:w.heap.size+1<wr.heap.size:=by omega
      by_cases hlt2:j<n2
      · cases d9 with
        | true=>
          replace bb:wr.cell? ⟨w.heap.size+1,1,none⟩=some (.bool true):=bb
          have hs:=fL_stop (f:=fC) (j:=j) (n:=n2) (s:=q4) (by rw [L.rd]) (by omega)
          rw [H5.out,L.rd] at hs
          injection hs with hs1 hs2
          subst hs1 hs2
          have D8:=L.de (by omega)
          clear L
          rcases HO.out with ⟨hb,rfl,rfl⟩|⟨hb,hN,rfl,rfl⟩|⟨hb,hN,hE,rfl,rfl⟩|⟨hb,hN,hE,rfl,rfl⟩
          · obtain ⟨y0,y1,y2,y3,y4,y5,y6,y7,y8⟩:=BC.cells9 D8.cel
            obtain ⟨o0,g0,o1,g1,o2,g2,o3,g3,o4,g4,o5,g5,o6,g6,o7,g7,o8,g8⟩:=BC.both9 D8.box.res
            have bb:wr.cell? ⟨w.heap.size+1,1,none⟩=some (.bool true):=D8.box.rr.bad
            go_wp2_with fail
            rw [←HQ.out]
            have ST:=dE_stored D8.box ezero
            exact dE_leave (c:=ezero) ST.1 ST.2.1 (isEntry_none _ _) rfl rfl rfl
          · cases hb
          · cases hb
          · cases hb
        | false=>
          replace bb:wr.cell? ⟨w.heap.size+1,1,none⟩=some (.bool false):=bb
          obtain ⟨⟨z,s5⟩,hz⟩:∃p,fC (b9,false)=p:=⟨_,rfl⟩
          have y8:=L.vb_.at_ 8 _ rfl
          have p8:=L.vb_.fr 8
          have HO2:Hid (∀W,RStep wr.drew W (w.heap.size+1)→W.ownsRow (eb+1) 97 12 (.slice a' m c') j (cs.flatMap ccells)∧W.cell? ⟨eb,8,none⟩=some (.slice a' m c')∧W.frozen? ⟨eb,8,none⟩=false∧eb<W.heap.size):=by
            intro W hW
            have ho:=((L.row.later (PC.closed xs cs) (.of_below (w.heap.size+1) (drew_below wr)) (by omega)).later (PC.closed xs cs) hW (by omega)).own
            rw [L.len] at ho
            exact ⟨ho,hW.cell (w:=wr.drew) y8 (by omega),(hW.frozen (w:=wr.drew) hvlt (by omega)).trans p8,Nat.lt_of_lt_of_le hvlt hW.size⟩
          have hne:(Value.slice a' m c').ownBlock≠some eb:=fun e=>by have:=(L.row.lt _ e).1;omega
          have HC:=Lib.hid (compR_any wr.drew (w.heap.size+1) (b9,false) (L.box.behind (drew_below wr)).rr hz)
          have HFX:=Lib.hid hz
          have LL:=Lib.hid L
          clear hz L
          go_wp2_with fail
          refine wp_region_noPanic ?_
          go_region_law
            (first
              |(go_simp;go_at_call 48;refine (HC.out).mono ?_;rintro e w4 ⟨hS4,⟨cx,rfl,hI4⟩,hR4⟩;obtain ⟨ho4,hc4,hf4,hv4⟩:=HO2.out w4 hS4)
              |(refine step_append_lies _ (by rfl) _ _ _ (by rfl) (eb+1) 97 i0 _ 12 168 (by kernel_rfl) hi0 hz0 hz1 hz2 rfl (by omega) (.slice a' m c') j (cs.flatMap ccells) (by rfl) (ho4.alloc _) ⟨w4.heap.size,0,none⟩ 1 1 (ccells cx) (by rfl) (by rfl) (World.news_of_block (t:=97) (fr:=(0,0)) (heap_alloc_new w4 _)) (by simp [ccells,Value.oneCell']) (by omega) (by unfold maxLen;omega) (by omega) (by simp;omega) (w4.heap.size+1) (by simp) ?_;intro g cap w5 hown5 hgrow5 hat5 hlt5;have hc5:w5.cell? ⟨eb,8,none⟩=some (.slice a' m c'):=(hgrow5.cell_far ⟨eb,8,none⟩ (by simp;omega) (Ne.symm hne)).trans (keep_cell ((Below.refl _ _).alloc (Nat.le_refl _) _) hc4 hv4);have hf5:w5.frozen? ⟨eb,8,none⟩=false:=(hgrow5.frozen_far ⟨eb,8,none⟩ (by simp;omega) (Ne.symm hne)).trans ((((Below.refl _ _).alloc (Nat.le_refl _) _:Below w4.heap.size w4 (w4.alloc _)).frozen (p:=⟨eb,8,none⟩) hv4).trans hf4)))
          all_goals
            refine NoPanic.normal ?_
            go_wp2_with fail
            go_roundw
            case rel=>exact ⟨j+1,some ⟨g,0,none⟩,j+1,cap,xs++ [z],cs++ [cx],s5,by omega,by go_num,LL.out.round rfl HFX.out hS4 hI4 hR4 hown5 hgrow5 hat5⟩
            case measure=>simp [intOf];omega
      · have hjn:j=n2:=by omega
        subst hjn
        have hs:=L.rd
        rw [H5.out] at hs
        injection hs with hs1 hs2
        subst hs1 hs2
        have D8:=L.de (by omega)
        clear L
        rcases HO.out with ⟨hb,rfl,rfl⟩|⟨hb,hN,rfl,rfl⟩|⟨hb,hN,hE,rfl,rfl⟩|⟨hb,hN,hE,rfl,rfl⟩
        · replace hb:d9=true:=hb
          subst hb
          obtain ⟨y0,y1,y2,y3,y4,y5,y6,y7,y8⟩:=BC.cells9 D8.cel
          obtain ⟨o0,g0,o1,g1,o2,g2,o3,g3,o4,g4,o5,g5,o6,g6,o7,g7,o8,g8⟩:=BC.both9 D8.box.res
          have bb:wr.cell? ⟨w.heap.size+1,1,none⟩=some (.bool true):=D8.box.rr.bad
          go_wp2_with fail
          rw [←HQ.out]
          have ST:=dE_stored D8.box ezero
          exact dE_leave (c:=ezero) ST.1 ST.2.1 (isEntry_none _ _) rfl rfl rfl
        · replace hb:d9=false:=hb
          subst hb
          have HLX:=HLV.out rfl
          have HSX:=HSZ.out rfl
          obtain ⟨en,hen⟩:∃en,encE x=en:=⟨_,rfl⟩
          have HEN:=Lib.hid hen
          obtain ⟨N,hNN⟩:∃N,outN sd en=N:=⟨_,rfl⟩
          have HN:=Lib.hid hNN
          rw [hen,hNN] at hN
          have fN1:(N==0)=false:=by simpa using hN
          have fN2:(N !=0)=true:=by simpa using hN
          have fN3:decide (N=0)=false:=by simpa using hN
          clear hNN hen
          obtain ⟨y0,y1,y2,y3,y4,y5,y6,y7,y8⟩:=BC.cells9 D8.cel
          obtain ⟨o0,g0,o1,g1,o2,g2,o3,g3,o4,g4,o5,g5,o6,g6,o7,g7,o8,g8⟩:=BC.both9 D8.box.res
          have bb:wr.cell? ⟨w.heap.size+1,1,none⟩=some (.bool false):=D8.box.rr.bad
          go_wp2_with fail
          have hvx:=(D8.entry (c:=⟨kd,sr,sq,vzero,a',m,c'⟩) ⟨by show (0:Int)≤(kd:Int);omega,by show (kd:Int)<256;omega,by show (0:Int)≤(sr:Int);omega,by show (sr:Int)<4294967296;omega,by show (0:Int)≤(sq:Int);omega,by show (sq:Int)<4294967296;omega⟩ hf1).sub (shows_only _ _ _)
          refine (refEncode_e sd _ ⟨kd,sr,sq,vzero,a',m,c'⟩ x hvx (HLX.out _ D8.box.below _ hvx) HSX).mono ?_
          rw [HEN.out]
          rintro e w5 ⟨⟨ra,rn,rc,rfl,hIc⟩,hb5⟩
          have D5:=D8.next (.of_below _ hb5) (D8.box.rr.of_below hb5)
          obtain ⟨y0,y1,y2,y3,y4,y5,y6,y7,y8⟩:=BC.cells9 D5.cel
          obtain ⟨o0,g0,o1,g1,o2,g2,o3,g3,o4,g4,o5,g5,o6,g6,o7,g7,o8,g8⟩:=BC.both9 D5.box.res
          have HI5:=Lib.hid (D5.entry (c:=⟨kd,sr,sq,vzero,a',m,c'⟩) ⟨by show (0:Int)≤(kd:Int);omega,by show (kd:Int)<256;omega,by show (0:Int)≤(sr:Int);omega,by show (sr:Int)<4294967296;omega,by show (0:Int)≤(sq:Int);omega,by show (sq:Int)<4294967296;omega⟩ hf1)
          have k2:=conv_isB (HI.out.keep D5.box.below)
          rw [HN.out]
          have k1:=conv_isB hIc
          have hlo5:=D5.lo
          have zs5:=D5.cel.lt
          have HD5:=Lib.hid D5
          clear D5 hvx hb5 hIc
          go_wp2_with fail
          rw [←HQ.out]
          have ST:=dE_stored HD5.out.box ezero
          exact dE_leave (c:=ezero) ST.1 ST.2.1 (isEntry_none _ _) rfl rfl rfl
        · replace hb:d9=false:=hb
          subst hb
          have HLX:=HLV.out rfl
          have HSX:=HSZ.out rfl
          obtain ⟨en,hen⟩:∃en,encE x=en:=⟨_,rfl⟩
          have HEN:=Lib.hid hen
          rw [hen] at hN hE
          have HN:=Lib.hid hN
          obtain ⟨SA,hSA⟩:∃SA,(⟨(outB sd en).toArray⟩:ByteArray)=SA:=⟨_,rfl⟩
          obtain ⟨SQ,hSQ⟩:∃SQ,(⟨bs.toArray⟩:ByteArray)=SQ:=⟨_,rfl⟩
          have hne:SA≠SQ:=by
            intro e;rw [←hSA, ←hSQ] at e
            rw [eqBs,(bytes_inj.1 e)] at hE;simp at hE
          have fS:(SA.toList==SQ.toList)=false:=by
            have:SA.toList≠SQ.toList:=by
              intro e
              rw [ByteArray.toList_eq,ByteArray.toList_eq] at e
              apply hne
              cases SA;cases SQ
              simpa using e
            simpa using this
          have HSA:=Lib.hid hSA
          have HSQ:=Lib.hid hSQ
          clear hen hN hE hSA hSQ
          obtain ⟨y0,y1,y2,y3,y4,y5,y6,y7,y8⟩:=BC.cells9 D8.cel
          obtain ⟨o0,g0,o1,g1,o2,g2,o3,g3,o4,g4,o5,g5,o6,g6,o7,g7,o8,g8⟩:=BC.both9 D8.box.res
          have bb:wr.cell? ⟨w.heap.size+1,1,none⟩=some (.bool false):=D8.box.rr.bad
          go_wp2_with fail
          have hvx:=(D8.entry (c:=⟨kd,sr,sq,vzero,a',m,c'⟩) ⟨by show (0:Int)≤(kd:Int);omega,by show (kd:Int)<256;omega,by show (0:Int)≤(sr:Int);omega,by show (sr:Int)<4294967296;omega,by show (0:Int)≤(sq:Int);omega,by show (sq:Int)<4294967296;omega⟩ hf1).sub (shows_only _ _ _)
          refine (refEncode_e sd _ ⟨kd,sr,sq,vzero,a',m,c'⟩ x hvx (HLX.out _ D8.box.below _ hvx) HSX).mono ?_
          rw [HEN.out]
          rintro e w5 ⟨⟨ra,rn,rc,rfl,hIc⟩,hb5⟩
          have D5:=D8.next (.of_below _ hb5) (D8.box.rr.of_below hb5)
          obtain ⟨y0,y1,y2,y3,y4,y5,y6,y7,y8⟩:=BC.cells9 D5.cel
          obtain ⟨o0,g0,o1,g1,o2,g2,o3,g3,o4,g4,o5,g5,o6,g6,o7,g7,o8,g8⟩:=BC.both9 D5.box.res
          have HI5:=Lib.hid (D5.entry (c:=⟨kd,sr,sq,vzero,a',m,c'⟩) ⟨by show (0:Int)≤(kd:Int);omega,by show (kd:Int)<256;omega,by show (0:Int)≤(sr:Int);omega,by show (sr:Int)<4294967296;omega,by show (0:Int)≤(sq:Int);omega,by show (sq:Int)<4294967296;omega⟩ hf1)
          have k2:=conv_isB (HI.out.keep D5.box.below)
          rw [HN.out]
          have k1:(convert 22 9 (.slice ra rn rc)).run Tryz.prog w5= .ok (.string SA) w5:=by rw [←HSA.out];exact conv_isB hIc
          rw [HSQ.out] at k2
          have hlo5:=D5.lo
          have zs5:=D5.cel.lt
          have HD5:=Lib.hid D5
          clear D5 hvx hb5 hIc
          go_wp2_with fail
          rw [←HQ.out]
          have ST:=dE_stored HD5.out.box ezero
          exact dE_leave (c:=ezero) ST.1 ST.2.1 (isEntry_none _ _) rfl rfl rfl
        · replace hb:d9=false:=hb
          subst hb
          have HLX:=HLV.out rfl
          have HSX:=HSZ.out rfl
          obtain ⟨en,hen⟩:∃en,encE x=en:=⟨_,rfl⟩
          have HEN:=Lib.hid hen
          rw [hen] at hN hE
          have HN:=Lib.hid hN
          have HE:=Lib.hid hE
          clear hen hN hE
          obtain ⟨y0,y1,y2,y3,y4,y5,y6,y7,y8⟩:=BC.cells9 D8.cel
          obtain ⟨o0,g0,o1,g1,o2,g2,o3,g3,o4,g4,o5,g5,o6,g6,o7,g7,o8,g8⟩:=BC.both9 D8.box.res
          have bb:wr.cell? ⟨w.heap.size+1,1,none⟩=some (.bool false):=D8.box.rr.bad
          go_wp2_with fail
          have hvx:=(D8.entry (c:=⟨kd,sr,sq,vzero,a',m,c'⟩) ⟨by show (0:Int)≤(kd:Int);omega,by show (kd:Int)<256;omega,by show (0:Int)≤(sr:Int);omega,by show (sr:Int)<4294967296;omega,by show (0:Int)≤(sq:Int);omega,by show (sq:Int)<4294967296;omega⟩ hf1).sub (shows_only _ _ _)
          refine (refEncode_e sd _ ⟨kd,sr,sq,vzero,a',m,c'⟩ x hvx (HLX.out _ D8.box.below _ hvx) HSX).mono ?_
          rw [HEN.out]
          rintro e w5 ⟨⟨ra,rn,rc,rfl,hIc⟩,hb5⟩
          have D5:=D8.next (.of_below _ hb5) (D8.box.rr.of_below hb5)
          obtain ⟨y0,y1,y2,y3,y4,y5,y6,y7,y8⟩:=BC.cells9 D5.cel
          obtain ⟨o0,g0,o1,g1,o2,g2,o3,g3,o4,g4,o5,g5,o6,g6,o7,g7,o8,g8⟩:=BC.both9 D5.box.res
          have HI5:=Lib.hid (D5.entry (c:=⟨kd,sr,sq,vzero,a',m,c'⟩) ⟨by show (0:Int)≤(kd:Int);omega,by show (kd:Int)<256;omega,by show (0:Int)≤(sr:Int);omega,by show (sr:Int)<4294967296;omega,by show (0:Int)≤(sq:Int);omega,by show (sq:Int)<4294967296;omega⟩ hf1)
          have k2:=conv_isB (HI.out.keep D5.box.below)
          rw [HN.out]
          rw [HE.out] at hIc
          have k1:=conv_isB hIc
          have hlo5:=D5.lo
          have zs5:=D5.cel.lt
          have HD5:=Lib.hid D5
          clear D5 hvx hb5 hIc
          go_wp2_with fail
          rw [←HQ.out]
          have ST:=dE_stored HD5.out.box ⟨kd,sr,sq,vzero,a',m,c'⟩
          exact dE_leave (c:=⟨kd,sr,sq,vzero,a',m,c'⟩) ST.1 ST.2.1 ((isEntry_far HI5.out ST.2.2 (by omega)).sub (shows_step fun k hk _=>⟨Nat.le_trans (by omega) hk,rfl⟩)) rfl rfl rfl
  case neg=>
  have f2:((kd:Int)==2)=false:=by simp;omega
  have hx:=HX.out
  rw [if_neg e1,if_neg e2] at hx
  injection hx with hf1 hf2
  subst hf2
  obtain ⟨b9,d9⟩:=q3
  clear HX e1 e2
  obtain ⟨o0,g0,o1,g1,o2,g2,o3,g3,o4,g4,o5,g5,o6,g6,o7,g7,o8,g8⟩:=BC.both9 DE4.box.res
  have hlo4:=DE4.lo
  rcases HO.out with ⟨hb,rfl,rfl⟩|⟨hb,hN,rfl,rfl⟩|⟨hb,hN,hE,rfl,rfl⟩|⟨hb,hN,hE,rfl,rfl⟩
  · replace hb:d9=true:=hb
    subst hb
    have bb:w3.cell? ⟨w.heap.size+1,1,none⟩=some (.bool true):=DE4.box.rr.bad
    have zs9:w.heap.size+1<w3.heap.size:=by omega
    go_wp2_with fail
    rw [←HQ.out]
    have ST:=dE_stored DE5.box ezero
    exact dE_leave (c:=ezero) ST.1 ST.2.1 (isEntry_none _ _) rfl rfl rfl
  · replace hb:d9=false:=hb
    subst hb
    have HLX:=HLV.out rfl
    have HSX:=HSZ.out rfl
    obtain ⟨en,hen⟩:∃en,encE x=en:=⟨_,rfl⟩
    have HEN:=Lib.hid hen
    obtain ⟨N,hNN⟩:∃N,outN sd en=N:=⟨_,rfl⟩
    have HN:=Lib.hid hNN
    rw [hen,hNN] at hN
    have fN1:(N==0)=false:=by simpa using hN
    have fN2:(N !=0)=true:=by simpa using hN
    have fN3:decide (N=0)=false:=by simpa using hN
    clear hNN hen
    have bb:w3.cell? ⟨w.heap.size+1,1,none⟩=some (.bool false):=DE4.box.rr.bad
    have zs9:w.heap.size+1<w3.heap.size:=by omega
    go_wp2_with fail
    have hvx:=(DE5.entry (c:=⟨kd,sr,sq,vzero,none,0,0⟩) ⟨by show (0:Int)≤(kd:Int);omega,by show (kd:Int)<256;omega,by show (0:Int)≤(sr:Int);omega,by show (sr:Int)<4294967296;omega,by show (0:Int)≤(sq:Int);omega,by show (sq:Int)<4294967296;omega⟩ hf1).sub (shows_only _ _ _)
    refine (refEncode_e sd _ ⟨kd,sr,sq,vzero,none,0,0⟩ x hvx (HLX.out _ DE5.box.below _ hvx) HSX).mono ?_
    rw [HEN.out]
    rintro e w5 ⟨⟨ra,rn,rc,rfl,hIc⟩,hb5⟩
    have D5:=DE5.next (.of_below _ hb5) (DE5.box.rr.of_below hb5)
    obtain ⟨y0,y1,y2,y3,y4,y5,y6,y7,y8⟩:=BC.cells9 D5.cel
    obtain ⟨o0,g0,o1,g1,o2,g2,o3,g3,o4,g4,o5,g5,o6,g6,o7,g7,o8,g8⟩:=BC.both9 D5.box.res
    have HI5:=Lib.hid (D5.entry (c:=⟨kd,sr,sq,vzero,none,0,0⟩) ⟨by show (0:Int)≤(kd:Int);omega,by show (kd:Int)<256;omega,by show (0:Int)≤(sr:Int);omega,by show (sr:Int)<4294967296;omega,by show (0:Int)≤(sq:Int);omega,by show (sq:Int)<4294967296;omega⟩ hf1)
    have k2:=conv_isB (HI.out.keep D5.box.below)
    rw [HN.out]
    have k1:=conv_isB hIc
    have hlo5:=D5.lo
    have zs5:=D5.cel.lt
    have HD5:=Lib.hid D5
    clear D5 hvx hb5 hIc
    go_wp2_with fail
    rw [←HQ.out]
    have ST:=dE_stored HD5.out.box ezero
    exact dE_leave (c:=ezero) ST.1 ST.2.1 (isEntry_none _ _) rfl rfl rfl
  · replace hb:d9=false:=hb
    subst hb
    have HLX:=HLV.out rfl
    have HSX:=HSZ.out rfl
    obtain ⟨en,hen⟩:∃en,encE x=en:=⟨_,rfl⟩
    have HEN:=Lib.hid hen
    rw [hen] at hN hE
    have HN:=Lib.hid hN
    obtain ⟨SA,hSA⟩:∃SA,(⟨(outB sd en).toArray⟩:ByteArray)=SA:=⟨_,rfl⟩
    obtain ⟨SQ,hSQ⟩:∃SQ,(⟨bs.toArray⟩:ByteArray)=SQ:=⟨_,rfl⟩
    have hne:SA≠SQ:=by
      intro e;rw [←hSA, ←hSQ] at e
      rw [eqBs,(bytes_inj.1 e)] at hE;simp at hE
    have fS:(SA.toList==SQ.toList)=false:=by
      have:SA.toList≠SQ.toList:=by
        intro e
        rw [ByteArray.toList_eq,ByteArray.toList_eq] at e
        apply hne
        cases SA;cases SQ
        simpa using e
      simpa using this
    have HSA:=Lib.hid hSA
    have HSQ:=Lib.hid hSQ
    clear hen hN hE hSA hSQ
    have bb:w3.cell? ⟨w.heap.size+1,1,none⟩=some (.bool false):=DE4.box.rr.bad
    have zs9:w.heap.size+1<w3.heap.size:=by omega
    go_wp2_with fail
    have hvx:=(DE5.entry (c:=⟨kd,sr,sq,vzero,none,0,0⟩) ⟨by show (0:Int)≤(kd:Int);omega,by show (kd:Int)<256;omega,by show (0:Int)≤(sr:Int);omega,by show (sr:Int)<4294967296;omega,by show (0:Int)≤(sq:Int);omega,by show (sq:Int)<4294967296;omega⟩ hf1).sub (shows_only _ _ _)
    refine (refEncode_e sd _ ⟨kd,sr,sq,vzero,none,0,0⟩ x hvx (HLX.out _ DE5.box.below _ hvx) HSX).mono ?_
    rw [HEN.out]
    rintro e w5 ⟨⟨ra,rn,rc,rfl,hIc⟩,hb5⟩
    have D5:=DE5.next (.of_below _ hb5) (DE5.box.rr.of_below hb5)
    obtain ⟨y0,y1,y2,y3,y4,y5,y6,y7,y8⟩:=BC.cells9 D5.cel
    obtain ⟨o0,g0,o1,g1,o2,g2,o3,g3,o4,g4,o5,g5,o6,g6,o7,g7,o8,g8⟩:=BC.both9 D5.box.res
    have HI5:=Lib.hid (D5.entry (c:=⟨kd,sr,sq,vzero,none,0,0⟩) ⟨by show (0:Int)≤(kd:Int);omega,by show (kd:Int)<256;omega,by show (0:Int)≤(sr:Int);omega,by show (sr:Int)<4294967296;omega,by show (0:Int)≤(sq:Int);omega,by show (sq:Int)<4294967296;omega⟩ hf1)
    have k2:=conv_isB (HI.out.keep D5.box.below)
    rw [HN.out]
    have k1:(convert 22 9 (.slice ra rn rc)).run Tryz.prog w5= .ok (.string SA) w5:=by rw [←HSA.out];exact conv_isB hIc
    rw [HSQ.out] at k2
    have hlo5:=D5.lo
    have zs5:=D5.cel.lt
    have HD5:=Lib.hid D5
    clear D5 hvx hb5 hIc
    go_wp2_with fail
    rw [←HQ.out]
    have ST:=dE_stored HD5.out.box ezero
    exact dE_leave (c:=ezero) ST.1 ST.2.1 (isEntry_none _ _) rfl rfl rfl
  · replace hb:d9=false:=hb
    subst hb
    have HLX:=HLV.out rfl
    have HSX:=HSZ.out rfl
    obtain ⟨en,hen⟩:∃en,encE x=en:=⟨_,rfl⟩
    have HEN:=Lib.hid hen
    rw [hen] at hN hE
    have HN:=Lib.hid hN
    have HE:=Lib.hid hE
    clear hen hN hE
    have bb:w3.cell? ⟨w.heap.size+1,1,none⟩=some (.bool false):=DE4.box.rr.bad
    have zs9:w.heap.size+1<w3.heap.size:=by omega
    go_wp2_with fail
    have hvx:=(DE5.entry (c:=⟨kd,sr,sq,vzero,none,0,0⟩) ⟨by show (0:Int)≤(kd:Int);omega,by show (kd:Int)<256;omega,by show (0:Int)≤(sr:Int);omega,by show (sr:Int)<4294967296;omega,by show (0:Int)≤(sq:Int);omega,by show (sq:Int)<4294967296;omega⟩ hf1).sub (shows_only _ _ _)
    refine (refEncode_e sd _ ⟨kd,sr,sq,vzero,none,0,0⟩ x hvx (HLX.out _ DE5.box.below _ hvx) HSX).mono ?_
    rw [HEN.out]
    rintro e w5 ⟨⟨ra,rn,rc,rfl,hIc⟩,hb5⟩
    have D5:=DE5.next (.of_below _ hb5) (DE5.box.rr.of_below hb5)
    obtain ⟨y0,y1,y2,y3,y4,y5,y6,y7,y8⟩:=BC.cells9 D5.cel
    obtain ⟨o0,g0,o1,g1,o2,g2,o3,g3,o4,g4,o5,g5,o6,g6,o7,g7,o8,g8⟩:=BC.both9 D5.box.res
    have HI5:=Lib.hid (D5.entry (c:=⟨kd,sr,sq,vzero,none,0,0⟩) ⟨by show (0:Int)≤(kd:Int);omega,by show (kd:Int)<256;omega,by show (0:Int)≤(sr:Int);omega,by show (sr:Int)<4294967296;omega,by show (0:Int)≤(sq:Int);omega,by show (sq:Int)<4294967296;omega⟩ hf1)
    have k2:=conv_isB (HI.out.keep D5.box.below)
    rw [HN.out]
    rw [HE.out] at hIc
    have k1:=conv_isB hIc
    have hlo5:=D5.lo
    have zs5:=D5.cel.lt
    have HD5:=Lib.hid D5
    clear D5 hvx hb5 hIc
    go_wp2_with fail
    rw [←HQ.out]
    have ST:=dE_stored HD5.out.box ⟨kd,sr,sq,vzero,none,0,0⟩
    exact dE_leave (c:=⟨kd,sr,sq,vzero,none,0,0⟩) ST.1 ST.2.1 ((isEntry_far HI5.out ST.2.2 (by omega)).sub (shows_step fun k hk _=>⟨Nat.le_trans (by omega) hk,rfl⟩)) rfl rfl rfl
theorem dE_new (w:World) (hT:Tabs w) (a:Option Addr) (n c:Nat) (bs:List UInt8) (h:IsB w w.heap.size a n c bs) (hmax:bs.length≤281474976710656) {v:En} {e:Int} (hout:backE bs=(v,e)):
    Calls Tryz.prog 26 #[.slice a n c] w (DEPost w v e):=by
  rw [backE] at hout
  by_cases hl:60000<bs.length
  · rw [if_pos hl] at hout
    injection hout with h1 h2;subst h1 h2
    exact dE_long w a n c bs h hl
  rw [if_neg hl] at hout
  cases hr:rdE bs with
  | none=>
    rw [hr] at hout
    injection hout with h1 h2;subst h1 h2
    obtain ⟨⟨x,s1⟩,hx⟩:∃p,fE (bs,false)=p:=⟨_,rfl⟩
    have hb:s1.2=true:=by have:=rel_E.no bs hr;rw [hx] at this;exact this
    exact dE_all w a n c bs h (by omega) x s1 hx false (fun g=>by rw [hb] at g;cases g) (fun g=>by rw [hb] at g;cases g) _ _ (.inl ⟨hb,rfl,rfl⟩)
  | some p=>
    obtain ⟨x,r⟩:=p
    rw [hr] at hout
    replace hout:(if outN (enSound x) (encE x)=0 then (if eqBs (outB (enSound x) (encE x)) bs=true then (x,(0:Int)) else (En.none,100)) else (En.none,100))=(v,e):=hout
    have hx:=rel_E.ok bs x r hr
    obtain ⟨hlen,hwt,hws⟩:=rdE_len hr
    refine dE_all w a n c bs h (by omega) x _ hx (enSound x) (fun _=>by omega) (fun _ W5 hb cv hv W hW=>refEnSound_any x W ((hT.below hb).below hW) cv (hv.later_ hW) ⟨by omega,fun y hy=>by have:=hws y hy;omega⟩) v e ?_
    by_cases h0:outN (enSound x) (encE x)=0
    · rw [if_pos h0] at hout
      cases he:eqBs (outB (enSound x) (encE x)) bs with
      | true=>
        rw [if_pos he] at hout
        injection hout with h1 h2
        exact .inr (.inr (.inr ⟨rfl,h0,by simpa [eqBs] using he,h1,h2.symm⟩))
      | false=>
        rw [if_neg (by rw [he];simp)] at hout
        injection hout with h1 h2
        exact .inr (.inr (.inl ⟨rfl,h0,he,h1.symm,h2.symm⟩))
    · rw [if_neg h0] at hout
      injection hout with h1 h2
      exact .inr (.inl ⟨rfl,h0,h1.symm,h2.symm⟩)
end Go.Proofs.YthceefjafklcmaaGreatDoor
namespace Go.Proofs.YthceefjafklcmaaGreatDoor
open Go.RowKit
set_option maxHeartbeats 2000000 in
set_option maxRecDepth 100000 in
theorem dV_long (w:World) (a:Option Addr) (n c:Nat) (bs:List UInt8) (h:IsB w w.heap.size a n c bs) (hn:60000<bs.length):
    Calls Tryz.prog 27 #[.slice a n c] w (DVPost w V.none 3):=by
  have hnn:=h.len
  have hn2:60000<n:=by omega
  clear h hnn hn
  go_enter Tryz.func27,Tryz.ntmps27
  generalize hQ0:bodyPost _ _ _=Q0
  have HQ:=Lib.hid hQ0
  clear hQ0
  go_wp2_with fail
  rw [←HQ.out]
  exact dV_leave (c:=vzero) (BC.start w #[.int .u8 0, .int .i64 0, .string { data:= #[] }, .slice none 0 0, .slice none 0 0] _) ((Below.refl _ _).alloc (Nat.le_refl _) _) (isVal_none _ _) rfl rfl rfl
set_option maxHeartbeats 4000000 in
set_option maxRecDepth 100000 in
theorem dV_bad (w:World) (a:Option Addr) (n c:Nat) (bs:List UInt8) (h:IsB w w.heap.size a n c bs) (hn:bs.length≤60000) (x:V) (s1:RS) (hx:fV 18 (bs,false)=(x,s1)) (hb:s1.2=true):
    Calls Tryz.prog 27 #[.slice a n c] w (DVPost w V.none 100):=by
  have hnn:=h.len
  have hn2:¬60000<n:=by omega
  have HD:=Lib.hid (DB.start w bs a n c h #[.int .u8 0, .int .i64 0, .string { data:= #[] }, .slice none 0 0, .slice none 0 0] 28 92)
  obtain ⟨b1,bd⟩:=s1
  replace hb:bd=true:=hb
  subst hb
  clear h hnn hn
  go_enter Tryz.func27,Tryz.ntmps27
  generalize hQ0:bodyPost _ _ _=Q0
  have HQ:=Lib.hid hQ0
  clear hQ0
  go_wp2_with (go_at_call 46;refine (valueR0 _ (w.heap.size+1) (bs,false) HD.out.rr hx).mono ?_;rintro e w3 ⟨cv,rfl,hS3,hI3,hR3⟩;have D:=HD.out.next hS3 hR3;have bb:w3.cell? ⟨w.heap.size+1,1,none⟩=some (.bool true):=D.rr.bad;have zs3:w.heap.size+1<w3.heap.size:=(by have:=D.size;omega);have zs4:w.heap.size<w3.heap.size:=(by omega);have o0:=D.res.at_ 0 _ rfl;have g0:=D.res.fr 0;have o1:=D.res.at_ 1 _ rfl;have g1:=D.res.fr 1;have o2:=D.res.at_ 2 _ rfl;have g2:=D.res.fr 2;have o3:=D.res.at_ 3 _ rfl;have g3:=D.res.fr 3;have o4:=D.res.at_ 4 _ rfl;have g4:=D.res.fr 4;have HDD:=Lib.hid D;have HI3:=Lib.hid (hI3.sub (shows_step (S':=fun b=>w.heap.size+2≤b) (w':=w3) fun k hk _=>⟨by have:w.heap.size+2≤_:=HD.out.size;omega,rfl⟩));clear D hI3 hR3)
  rw [←HQ.out]
  have ST:=dV_stored HDD.out vzero
  exact dV_leave (c:=vzero) (ST.1.keep ((Below.refl _ _).alloc (Nat.le_refl _) _) ST.1.lt) (ST.2.1.alloc ST.2.1.size _) (isVal_none _ _) rfl rfl rfl
set_option maxHeartbeats 8000000 in
set_option maxRecDepth 100000 in
theorem dV_err (w:World) (a:Option Addr) (n c:Nat) (bs:List UInt8) (h:IsB w w.heap.size a n c bs) (hn:bs.length≤60000) (x:V) (r:List UInt8) (hx:fV 18 (bs,false)=(x,(r,false))) (hsz:(encV x).length≤70368744177664) (sd:Bool)
    (HLV:Hid (∀W5,Below w.heap.size w W5→∀cv:VC,IsVal W5 W5.heap.size x cv→Hid (∀W,Below W5.heap.size W5 W→Calls Tryz.prog 52 #[.agg #[.int .u8 cv.k, .int .i64 cv.n, .string cv.s, .slice cv.la cv.ll cv.lc, .slice cv.oa cv.ol cv.oc]] W fun e w'=>e= .returned (.bool sd)∧Below W.heap.size W w'))) (hbad:outN sd (encV x)≠0):
    Calls Tryz.prog 27 #[.slice a n c] w (DVPost w V.none 100):=by
  have hnn:=h.len
  have hn2:¬60000<n:=by omega
  have HI:=Lib.hid h
  obtain ⟨en,hen⟩:∃en,encV x=en:=⟨_,rfl⟩
  have HEN:=Lib.hid hen
  obtain ⟨N,hN⟩:∃N,outN sd en=N:=⟨_,rfl⟩
  have HN:=Lib.hid hN
  rw [hen,hN] at hbad
  have fN:(N==0)=false:=by simpa using hbad
  have fN2:(N !=0)=true:=by simpa using hbad
  have fN3:decide (N=0)=false:=by simpa using hbad
  clear hN hen
  have HD:=Lib.hid (DB.start w bs a n c h #[.int .u8 0, .int .i64 0, .string { data:= #[] }, .slice none 0 0, .slice none 0 0] 28 92)
  clear h hnn hn
  go_enter Tryz.func27,Tryz.ntmps27
  generalize hQ0:bodyPost _ _ _=Q0
  have HQ:=Lib.hid hQ0
  clear hQ0
  go_wp2_with (go_at_call 46;refine (valueR0 _ (w.heap.size+1) (bs,false) HD.out.rr hx).mono ?_;rintro e w3 ⟨cv,rfl,hS3,hI3,hR3⟩;have D:=HD.out.next hS3 hR3;have bb:w3.cell? ⟨w.heap.size+1,1,none⟩=some (.bool false):=D.rr.bad;have zs3:w.heap.size+1<w3.heap.size:=(by have:=D.size;omega);have zs4:w.heap.size<w3.heap.size:=(by omega);have o0:=D.res.at_ 0 _ rfl;have g0:=D.res.fr 0;have o1:=D.res.at_ 1 _ rfl;have g1:=D.res.fr 1;have o2:=D.res.at_ 2 _ rfl;have g2:=D.res.fr 2;have o3:=D.res.at_ 3 _ rfl;have g3:=D.res.fr 3;have o4:=D.res.at_ 4 _ rfl;have g4:=D.res.fr 4;have HDD:=Lib.hid D;have HI3:=Lib.hid (hI3.sub (shows_step (S':=fun b=>w.heap.size+2≤b) (w':=w3) fun k hk _=>⟨by have:w.heap.size+2≤_:=HD.out.size;omega,rfl⟩));clear D hI3 hR3)
  have hal:Below w3.heap.size w3 (w3.alloc (.cells #[.int .u8 cv.k, .int .i64 cv.n, .string cv.s, .slice cv.la cv.ll cv.lc, .slice cv.oa cv.ol cv.oc] 28)):=(Below.refl _ _).alloc (Nat.le_refl _) _
  have hvx:IsVal (w3.alloc (.cells #[.int .u8 cv.k, .int .i64 cv.n, .string cv.s, .slice cv.la cv.ll cv.lc, .slice cv.oa cv.ol cv.oc] 28)) (w3.alloc (.cells #[.int .u8 cv.k, .int .i64 cv.n, .string cv.s, .slice cv.la cv.ll cv.lc, .slice cv.oa cv.ol cv.oc] 28)).heap.size x cv:=(HI3.out.sub (shows_only _ _ _)).later_ hal
  have hbl:=HDD.out.below.trans (hal.mono (by omega))
  refine (refValue_v sd _ cv x hvx (HLV.out _ hbl cv hvx) hsz).mono ?_
  rw [HEN.out]
  rintro e w5 ⟨⟨ra,rn,rc,rfl,hIc⟩,hb5⟩
  have b35:Below w3.heap.size w3 w5:=hal.trans (hb5.mono (by simp))
  have D:=HDD.out.behind b35
  have o0:=D.res.at_ 0 _ rfl;have g0:=D.res.fr 0;have o1:=D.res.at_ 1 _ rfl;have g1:=D.res.fr 1;have o2:=D.res.at_ 2 _ rfl;have g2:=D.res.fr 2;have o3:=D.res.at_ 3 _ rfl;have g3:=D.res.fr 3;have o4:=D.res.at_ 4 _ rfl;have g4:=D.res.fr 4
  have PB:=(BC.start w3 #[.int .u8 cv.k, .int .i64 cv.n, .string cv.s, .slice cv.la cv.ll cv.lc, .slice cv.oa cv.ol cv.oc] 28).keep hb5 (by simp)
  obtain ⟨p0,p1,p2,p3,p4⟩:=row5 PB.at_
  have zs5:w3.heap.size<w5.heap.size:=Nat.lt_of_lt_of_le (by simp) hb5.size
  have HI5:=Lib.hid (isVal_far HI3.out (RStep.of_below w.heap.size b35) (by omega))
  have k2:=conv_isB (HI.out.keep D.below)
  rw [HN.out]
  have HD5:=Lib.hid D
  clear D PB hal hvx hbl b35 hb5 hIc
  go_wp2_with fail
  rw [←HQ.out]
  have ST:=dV_stored HD5.out vzero
  exact dV_leave (c:=vzero) ST.1 ST.2.1 (isVal_none _ _) rfl rfl rfl
set_option maxHeartbeats 8000000 in
set_option maxRecDepth 100000 in
theorem dV_neq (w:World) (a:Option Addr) (n c:Nat) (bs:List UInt8) (h:IsB w w.heap.size a n c bs) (hn:bs.length≤60000) (x:V) (r:List UInt8) (hx:fV 18 (bs,false)=(x,(r,false))) (hsz:(encV x).length≤70368744177664) (sd:Bool)
    (HLV:Hid (∀W5,Below w.heap.size w W5→∀cv:VC,IsVal W5 W5.heap.size x cv→Hid (∀W,Below W5.heap.size W5 W→Calls Tryz.prog 52 #[.agg #[.int .u8 cv.k, .int .i64 cv.n, .string cv.s, .slice cv.la cv.ll cv.lc, .slice cv.oa cv.ol cv.oc]] W fun e w'=>e= .returned (.bool sd)∧Below W.heap.size W w'))) (hok:outN sd (encV x)=0) (heq:eqBs (outB sd (encV x)) bs=false):
    Calls Tryz.prog 27 #[.slice a n c] w (DVPost w V.none 100):=by
  have hnn:=h.len
  have hn2:¬60000<n:=by omega
  have HI:=Lib.hid h
  obtain ⟨en,hen⟩:∃en,encV x=en:=⟨_,rfl⟩
  have HEN:=Lib.hid hen
  rw [hen] at hok heq
  have HN:=Lib.hid hok
  obtain ⟨SA,hSA⟩:∃SA,(⟨(outB sd en).toArray⟩:ByteArray)=SA:=⟨_,rfl⟩
  obtain ⟨SQ,hSQ⟩:∃SQ,(⟨bs.toArray⟩:ByteArray)=SQ:=⟨_,rfl⟩
  have hne:SA≠SQ:=by
    intro e;rw [←hSA, ←hSQ] at e
    rw [eqBs,(bytes_inj.1 e)] at heq;simp at heq
  have fS3:decide (SA=SQ)=false:=by simpa using hne
  have fS:(SA.toList==SQ.toList)=false:=by
    have:SA.toList≠SQ.toList:=by
      intro e
      rw [ByteArray.toList_eq,ByteArray.toList_eq] at e
      apply hne
      cases SA;cases SQ
      simpa using e
    simpa using this
  have HSA:=Lib.hid hSA
  have HSQ:=Lib.hid hSQ
  clear hen hok heq hSA hSQ
  have HD:=Lib.hid (DB.start w bs a n c h #[.int .u8 0, .int .i64 0, .string { data:= #[] }, .slice none 0 0, .slice none 0 0] 28 92)
  clear h hnn hn
  go_enter Tryz.func27,Tryz.ntmps27
  generalize hQ0:bodyPost _ _ _=Q0
  have HQ:=Lib.hid hQ0
  clear hQ0
  go_wp2_with (go_at_call 46;refine (valueR0 _ (w.heap.size+1) (bs,false) HD.out.rr hx).mono ?_;rintro e w3 ⟨cv,rfl,hS3,hI3,hR3⟩;have D:=HD.out.next hS3 hR3;have bb:w3.cell? ⟨w.heap.size+1,1,none⟩=some (.bool false):=D.rr.bad;have zs3:w.heap.size+1<w3.heap.size:=(by have:=D.size;omega);have zs4:w.heap.size<w3.heap.size:=(by omega);have o0:=D.res.at_ 0 _ rfl;have g0:=D.res.fr 0;have o1:=D.res.at_ 1 _ rfl;have g1:=D.res.fr 1;have o2:=D.res.at_ 2 _ rfl;have g2:=D.res.fr 2;have o3:=D.res.at_ 3 _ rfl;have g3:=D.res.fr 3;have o4:=D.res.at_ 4 _ rfl;have g4:=D.res.fr 4;have HDD:=Lib.hid D;have HI3:=Lib.hid (hI3.sub (shows_step (S':=fun b=>w.heap.size+2≤b) (w':=w3) fun k hk _=>⟨by have:w.heap.size+2≤_:=HD.out.size;omega,rfl⟩));clear D hI3 hR3)
  have hal:Below w3.heap.size w3 (w3.alloc (.cells #[.int .u8 cv.k, .int .i64 cv.n, .string cv.s, .slice cv.la cv.ll cv.lc, .slice cv.oa cv.ol cv.oc] 28)):=(Below.refl _ _).alloc (Nat.le_refl _) _
  have hvx:IsVal (w3.alloc (.cells #[.int .u8 cv.k, .int .i64 cv.n, .string cv.s, .slice cv.la cv.ll cv.lc, .slice cv.oa cv.ol cv.oc] 28)) (w3.alloc (.cells #[.int .u8 cv.k, .int .i64 cv.n, .string cv.s, .slice cv.la cv.ll cv.lc, .slice cv.oa cv.ol cv.oc] 28)).heap.size x cv:=(HI3.out.sub (shows_only _ _ _)).later_ hal
  have hbl:=HDD.out.below.trans (hal.mono (by omega))
  refine (refValue_v sd _ cv x hvx (HLV.out _ hbl cv hvx) hsz).mono ?_
  rw [HEN.out]
  rintro e w5 ⟨⟨ra,rn,rc,rfl,hIc⟩,hb5⟩
  have b35:Below w3.heap.size w3 w5:=hal.trans (hb5.mono (by simp))
  have D:=HDD.out.behind b35
  have o0:=D.res.at_ 0 _ rfl;have g0:=D.res.fr 0;have o1:=D.res.at_ 1 _ rfl;have g1:=D.res.fr 1;have o2:=D.res.at_ 2 _ rfl;have g2:=D.res.fr 2;have o3:=D.res.at_ 3 _ rfl;have g3:=D.res.fr 3;have o4:=D.res.at_ 4 _ rfl;have g4:=D.res.fr 4
  have PB:=(BC.start w3 #[.int .u8 cv.k, .int .i64 cv.n, .string cv.s, .slice cv.la cv.ll cv.lc, .slice cv.oa cv.ol cv.oc] 28).keep hb5 (by simp)
  obtain ⟨p0,p1,p2,p3,p4⟩:=row5 PB.at_
  have zs5:w3.heap.size<w5.heap.size:=Nat.lt_of_lt_of_le (by simp) hb5.size
  have HI5:=Lib.hid (isVal_far HI3.out (RStep.of_below w.heap.size b35) (by omega))
  have k2:=conv_isB (HI.out.keep D.below)
  rw [HN.out]
  have k1:(convert 22 9 (.slice ra rn rc)).run Tryz.prog w5= .ok (.string SA) w5:=by rw [←HSA.out];exact conv_isB hIc
  rw [HSQ.out] at k2
  have HD5:=Lib.hid D
  clear D PB hal hvx hbl b35 hb5 hIc
  go_wp2_with fail
  rw [←HQ.out]
  have ST:=dV_stored HD5.out vzero
  exact dV_leave (c:=vzero) ST.1 ST.2.1 (isVal_none _ _) rfl rfl rfl
set_option maxHeartbeats 8000000 in
set_option maxRecDepth 100000 in
theorem dV_eq (w:World) (a:Option Addr) (n c:Nat) (bs:List UInt8) (h:IsB w w.heap.size a n c bs) (hn:bs.length≤60000) (x:V) (r:List UInt8) (hx:fV 18 (bs,false)=(x,(r,false))) (hsz:(encV x).length≤70368744177664) (sd:Bool)
    (HLV:Hid (∀W5,Below w.heap.size w W5→∀cv:VC,IsVal W5 W5.heap.size x cv→Hid (∀W,Below W5.heap.size W5 W→Calls Tryz.prog 52 #[.agg #[.int .u8 cv.k, .int .i64 cv.n, .string cv.s, .slice cv.la cv.ll cv.lc, .slice cv.oa cv.ol cv.oc]] W fun e w'=>e= .returned (.bool sd)∧Below W.heap.size W w'))) (hok:outN sd (encV x)=0) (heq:outB sd (encV x)=bs):
    Calls Tryz.prog 27 #[.slice a n c] w (DVPost w x 0):=by
  have hnn:=h.len
  have hn2:¬60000<n:=by omega
  have HI:=Lib.hid h
  obtain ⟨en,hen⟩:∃en,encV x=en:=⟨_,rfl⟩
  have HEN:=Lib.hid hen
  rw [hen] at hok heq
  have HN:=Lib.hid hok
  have HE:=Lib.hid heq
  clear hen hok heq
  have HD:=Lib.hid (DB.start w bs a n c h #[.int .u8 0, .int .i64 0, .string { data:= #[] }, .slice none 0 0, .slice none 0 0] 28 92)
  clear h hnn hn
  go_enter Tryz.func27,Tryz.ntmps27
  generalize hQ0:bodyPost _ _ _=Q0
  have HQ:=Lib.hid hQ0
  clear hQ0
  go_wp2_with (go_at_call 46;refine (valueR0 _ (w.heap.size+1) (bs,false) HD.out.rr hx).mono ?_;rintro e w3 ⟨cv,rfl,hS3,hI3,hR3⟩;have D:=HD.out.next hS3 hR3;have bb:w3.cell? ⟨w.heap.size+1,1,none⟩=some (.bool false):=D.rr.bad;have zs3:w.heap.size+1<w3.heap.size:=(by have:=D.size;omega);have zs4:w.heap.size<w3.heap.size:=(by omega);have o0:=D.res.at_ 0 _ rfl;have g0:=D.res.fr 0;have o1:=D.res.at_ 1 _ rfl;have g1:=D.res.fr 1;have o2:=D.res.at_ 2 _ rfl;have g2:=D.res.fr 2;have o3:=D.res.at_ 3 _ rfl;have g3:=D.res.fr 3;have o4:=D.res.at_ 4 _ rfl;have g4:=D.res.fr 4;have HDD:=Lib.hid D;have HI3:=Lib.hid (hI3.sub (shows_step (S':=fun b=>w.heap.size+2≤b) (w':=w3) fun k hk _=>⟨by have:w.heap.size+2≤_:=HD.out.size;omega,rfl⟩));clear D hI3 hR3)
  have hal:Below w3.heap.size w3 (w3.alloc (.cells #[.int .u8 cv.k, .int .i64 cv.n, .string cv.s, .slice cv.la cv.ll cv.lc, .slice cv.oa cv.ol cv.oc] 28)):=(Below.refl _ _).alloc (Nat.le_refl _) _
  have hvx:IsVal (w3.alloc (.cells #[.int .u8 cv.k, .int .i64 cv.n, .string cv.s, .slice cv.la cv.ll cv.lc, .slice cv.oa cv.ol cv.oc] 28)) (w3.alloc (.cells #[.int .u8 cv.k, .int .i64 cv.n, .string cv.s, .slice cv.la cv.ll cv.lc, .slice cv.oa cv.ol cv.oc] 28)).heap.size x cv:=(HI3.out.sub (shows_only _ _ _)).later_ hal
  have hbl:=HDD.out.below.trans (hal.mono (by omega))
  refine (refValue_v sd _ cv x hvx (HLV.out _ hbl cv hvx) hsz).mono ?_
  rw [HEN.out]
  rintro e w5 ⟨⟨ra,rn,rc,rfl,hIc⟩,hb5⟩
  have b35:Below w3.heap.size w3 w5:=hal.trans (hb5.mono (by simp))
  have D:=HDD.out.behind b35
  have o0:=D.res.at_ 0 _ rfl;have g0:=D.res.fr 0;have o1:=D.res.at_ 1 _ rfl;have g1:=D.res.fr 1;have o2:=D.res.at_ 2 _ rfl;have g2:=D.res.fr 2;have o3:=D.res.at_ 3 _ rfl;have g3:=D.res.fr 3;have o4:=D.res.at_ 4 _ rfl;have g4:=D.res.fr 4
  have PB:=(BC.start w3 #[.int .u8 cv.k, .int .i64 cv.n, .string cv.s, .slice cv.la cv.ll cv.lc, .slice cv.oa cv.ol cv.oc] 28).keep hb5 (by simp)
  obtain ⟨p0,p1,p2,p3,p4⟩:=row5 PB.at_
  have zs5:w3.heap.size<w5.heap.size:=Nat.lt_of_lt_of_le (by simp) hb5.size
  have HI5:=Lib.hid (isVal_far HI3.out (RStep.of_below w.heap.size b35) (by omega))
  have k2:=conv_isB (HI.out.keep D.below)
  rw [HN.out]
  rw [HE.out] at hIc
  have k1:=conv_isB hIc
  have HD5:=Lib.hid D
  clear D PB hal hvx hbl b35 hb5 hIc
  go_wp2_with fail
  rw [←HQ.out]
  have ST:=dV_stored HD5.out cv
  exact dV_leave (c:=cv) ST.1 ST.2.1 ((isVal_far HI5.out ST.2.2 (by omega)).sub (shows_step fun k hk _=>⟨Nat.le_trans (by omega) hk,rfl⟩)) rfl rfl rfl
theorem dV_new (w:World) (hT:Tabs w) (a:Option Addr) (n c:Nat) (bs:List UInt8) (h:IsB w w.heap.size a n c bs) (hmax:bs.length≤281474976710656) {v:V} {e:Int} (hout:backR bs=(v,e)):
    Calls Tryz.prog 27 #[.slice a n c] w (DVPost w v e):=by
  rw [backR] at hout
  by_cases hl:60000<bs.length
  · rw [if_pos hl] at hout
    injection hout with h1 h2;subst h1 h2
    exact dV_long w a n c bs h hl
  rw [if_neg hl] at hout
  cases hr:rdV 18 bs with
  | none=>
    rw [hr] at hout
    injection hout with h1 h2;subst h1 h2
    obtain ⟨⟨x,s1⟩,hx⟩:∃p,fV 18 (bs,false)=p:=⟨_,rfl⟩
    exact dV_bad w a n c bs h (by omega) x s1 hx (by have:=(rel_V 18).no bs hr;rw [hx] at this;exact this)
  | some p=>
    obtain ⟨x,r⟩:=p
    rw [hr] at hout
    replace hout:(if outN (lightB x) (encV x)=0 then (if eqBs (outB (lightB x) (encV x)) bs=true then (x,(0:Int)) else (V.none,100)) else (V.none,100))=(v,e):=hout
    have hx:=(rel_V 18).ok bs x r hr
    obtain ⟨hlen,hwt⟩:=rdV_len 18 bs x r hr
    have hsz:(encV x).length≤70368744177664:=by omega
    have HLV:Hid (∀W5,Below w.heap.size w W5→∀cv:VC,IsVal W5 W5.heap.size x cv→Hid (∀W,Below W5.heap.size W5 W→Calls Tryz.prog 52 #[.agg #[.int .u8 cv.k, .int .i64 cv.n, .string cv.s, .slice cv.la cv.ll cv.lc, .slice cv.oa cv.ol cv.oc]] W fun e w'=>e= .returned (.bool (lightB x))∧Below W.heap.size W w')):=fun W5 hb cv hv W hW=>refLight_any x W ((hT.below hb).below hW) cv (hv.later_ hW) (by omega)
    by_cases h0:outN (lightB x) (encV x)=0
    · rw [if_pos h0] at hout
      cases he:eqBs (outB (lightB x) (encV x)) bs with
      | true=>
        rw [if_pos he] at hout
        injection hout with h1 h2;subst h1 h2
        exact dV_eq w a n c bs h (by omega) x r hx hsz _ HLV h0 (by simpa [eqBs] using he)
      | false=>
        rw [if_neg (by rw [he];simp)] at hout
        injection hout with h1 h2;subst h1 h2
        exact dV_neq w a n c bs h (by omega) x r hx hsz _ HLV h0 he
    · rw [if_neg h0] at hout
      injection hout with h1 h2;subst h1 h2
      exact dV_err w a n c bs h (by omega) x r hx hsz _ HLV h0
end Go.Proofs.YthceefjafklcmaaGreatDoor
