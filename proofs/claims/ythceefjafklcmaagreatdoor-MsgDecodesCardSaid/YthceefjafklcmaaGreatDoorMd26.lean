/-
  Contracts of the functions that the law reaches: The reference's Reader.comp: what stands in memory while it runs.
-/
import Derived.Test.YthceefjafklcmaaGreatDoorMd24
import Derived.Test.YthceefjafklcmaaGreatDoorMd15
namespace Go.Proofs.YthceefjafklcmaaGreatDoor
open Go.RowKit
def fRest (kd:Int) (p:List St) (s:RS):Cm×RS:=
  fB (fIf (hasB (saysB kd) 75) .empty fT s) fun key s=>fB (fIf (hasB (saysB kd) 73) 0 fI s) fun i s=>fB (fIf (hasB (saysB kd) 74) 0 fI s) fun j s=>
  fB (fIf (hasB (saysB kd) 78) 0 fI s) fun m s=>fB (fIf (hasB (saysB kd) 86) V.none (fV 18) s) fun v s=>fB (fIf (hasB (saysB kd) 83) .empty fT s) fun t s=>
  (⟨kd,p,key,i,j,m,v,t⟩,s)
theorem fC_eq (s:RS):fC s=fRest (fN 1 s).1 (fL fS (fM 1 (fN 1 s).2).1 (fM 1 (fN 1 s).2).2).1 (fL fS (fM 1 (fN 1 s).2).1 (fM 1 (fN 1 s).2).2).2:=rfl
theorem fS_bnd {s s':RS} {x:St} (h:fS s=(x,s')):x.Bnd:=by
  unfold fS at h
  split at h
  · injection h with h1 h2;subst h1
    exact ⟨i64_lo _,i64_hi _,(by decide:ByteArray.empty.size≤140737488355328)⟩
  · injection h with h1 h2;subst h1
    exact ⟨(by decide:(-9223372036854775808:Int)≤0),(by decide:(0:Int)≤9223372036854775807),fT_size _⟩
structure QP (w wr:World) (rb cb:Nat) (kd:Nat) (s0:RS) (j:Nat) (a:Option Addr) (m c:Nat) (xs:List St) (sj sc:RS):Prop where
  rd:fL fS j s0=(xs,sj)
  len:xs.length=j
  bnd:∀s ∈ xs,s.Bnd
  box:QB w wr rb sc (ccells czero)
  vb_:BC wr cb (ccells ⟨kd,a,m,c, .empty,0,0,0,vzero, .empty⟩)
  row:RowS wr (cb+1) (.slice a m c) xs
  lo:w.heap.size+1≤cb
theorem QP.next {w wr w3:World} {rb cb:Nat} {kd:Nat} {s0:RS} {j:Nat} {a:Option Addr} {m c:Nat} {xs:List St} {sj sc s3:RS} (h:QP w wr rb cb kd s0 j a m c xs sj sc) (hS:RStep wr w3 rb) (hR:RR w3 rb s3):QP w w3 rb cb kd s0 j a m c xs sj s3:=by
  have hlo:=h.lo
  have hlt:=h.box.lt
  exact ⟨h.rd,h.len,h.bnd,h.box.next hS hR,h.vb_.next hS (by omega),h.row.later PT.closed hS (by omega),hlo⟩
theorem QP.round {w wr w4 w5:World} {rb cb:Nat} {kd:Nat} {s0:RS} {j:Nat} {a:Option Addr} {m c:Nat} {xs:List St} {sj s3 s2:RS} {x:St} {g cap:Nat} {t:TypeId}
    (h:QP w wr rb cb kd s0 j a m c xs sj s3) (hb0:sj.2=false) (hx:fS sj=(x,s2)) (hS:RStep wr.drew w4 rb) (hR:RR w4 rb s2)
    (hown:w5.ownsRow (cb+1) 129 3 (.slice (some ⟨g,0,none⟩) (j+1) cap) (j+1) (xs.flatMap scells++scells x)) (hg:(w4.alloc (.cells #[.bool x.list, .int .i64 x.i, .string x.key] t)).grownBy w5 (Value.slice a m c).ownBlock)
    (hat:(Value.slice a m c).ownBlock=some g∨g=w4.heap.size+1):
    QP w (w5.setCell ⟨cb,1,none⟩ (.slice (some ⟨g,0,none⟩) (j+1) cap)) rb cb kd s0 (j+1) (some ⟨g,0,none⟩) (j+1) cap (xs++ [x]) s2 s2:=by
  have hlo:=h.lo
  have hlt:=h.box.lt
  have hdz:wr.drew.heap.size=wr.heap.size:=rfl
  have hb1:=drew_below wr
  have hrow:=(h.row.later PT.closed (.of_below rb hb1) (by omega)).later PT.closed hS (by omega)
  have hrlt:∀b,(Value.slice a m c).ownBlock=some b→cb+1≤b∧b<wr.heap.size:=h.row.lt
  have hba:Below w4.heap.size w4 (w4.alloc (.cells #[.bool x.list, .int .i64 x.i, .string x.key] t)):=(Below.refl _ _).alloc (Nat.le_refl _) _
  have hsz4:wr.heap.size≤w4.heap.size:=hS.size
  have hclt:=h.vb_.lt
  have hgb:Below (cb+1) (w4.alloc (.cells #[.bool x.list, .int .i64 x.i, .string x.key] t)) w5:=grown_below hg (fun b hb=>(hrlt b hb).1) (by simp;omega)
  have hb45:Below (cb+1) w4 w5:=(hba.mono (by omega)).trans hgb
  have hpush:=Row.push PT.closed hrow hba hg (u':= .slice (some ⟨g,0,none⟩) (j+1) cap) (news:=scells x) (by rw [h.len];exact hown) (by
    rcases hat with e|e
    · left;rw [e];rfl
    · right;intro b hb;have:g=b:=by simpa [Value.ownBlock] using hb
      omega) (trivial:PT _ _ _) (fun _ _ _ _ _=>trivial)
  have hbox:=((h.box.behind hb1).next hS hR).below (hb45.mono (by omega))
  have hvb:=((h.vb_.keep hb1 hclt).next hS (by omega)).keep hb45 (by omega)
  refine ⟨?_,by simp [h.len],fun s hs=> ?_,hbox.set (by omega),hvb.set (i:=1) (x:= .slice (some ⟨g,0,none⟩) (j+1) cap) (by simp [ccells]), ?_,hlo⟩
  · rw [fL_step (by rw [h.rd];exact hb0),h.rd];simp only [hx]
  · rcases List.mem_append.1 hs with h1|h1
    · exact h.bnd s h1
    · rw [List.mem_singleton.1 h1];exact fS_bnd hx
  · have hr2:RowS w5 (cb+1) (.slice (some ⟨g,0,none⟩) (j+1) cap) (xs++ [x]):=by
      show Row _ _ _ _ _ _ _ _
      rw [flat_snoc,List.length_append,List.length_singleton]
      exact hpush
    exact hr2.set PT.closed (by omega)
def QCPost (w:World) (rb:Nat) (x:Cm) (s:RS) (e:Ending) (w':World):Prop:=
  RStep w w' rb∧(∃c:CC,e= .returned (.agg #[.int .u8 c.k, .slice c.pa c.pl c.pc, .string c.key, .int .i64 c.i, .int .i64 c.j, .int .i64 c.n, .int .u8 c.v.k, .int .i64 c.v.n, .string c.v.s, .slice c.v.la c.v.ll c.v.lc, .slice c.v.oa c.v.ol c.v.oc, .string c.s])∧IsComp (only (fun b=>w.heap.size≤b) w') w'.heap.size x c)∧RR w' rb s
structure QC (w W:World) (rb cb:Nat) (s:RS) (p:List St) (v:V) (c:CC):Prop where
  box:QB w W rb s (ccells czero)
  cel:BC W cb (ccells c)
  stp:IsSteps (only (fun b=>cb+1≤b) W) W.heap.size p c.pa c.pl c.pc
  val:IsVal (only (fun b=>cb+1≤b) W) W.heap.size v c.v
  lo:w.heap.size+1≤cb
theorem QC.next {w W W':World} {rb cb:Nat} {s s':RS} {p:List St} {v:V} {c:CC} (h:QC w W rb cb s p v c) (hs:RStep W W' rb) (hR:RR W' rb s'):QC w W' rb cb s' p v c:=by
  have hlo:=h.lo;have hlt:=h.box.lt
  exact ⟨h.box.next hs hR,h.cel.next hs (by omega),isSteps_far h.stp hs (by omega),isVal_far h.val hs (by omega),hlo⟩
theorem QC.behind {w W W':World} {rb cb:Nat} {s:RS} {p:List St} {v:V} {c:CC} (h:QC w W rb cb s p v c) (hb:Below W.heap.size W W'):QC w W' rb cb s p v c:=
  h.next (.of_below rb hb) (h.box.rr.of_below hb)
theorem QC.start {w wr:World} {rb cb:Nat} {kd:Nat} {s0:RS} {j:Nat} {a:Option Addr} {m c:Nat} {xs:List St} {sj sc:RS} (h:QP w wr rb cb kd s0 j a m c xs sj sc) (hfew:j≤1466015503701):QC w wr rb cb sc xs V.none ⟨kd,a,m,c, .empty,0,0,0,vzero, .empty⟩:=
  ⟨h.box,h.vb_,h.row.steps (Nat.le_refl _) h.bnd (by rw [h.len];exact hfew),isVal_none _ _,h.lo⟩
theorem QB.far {w W W':World} {rb cb:Nat} {s:RS} {cs:List Value} (h:QB w W rb s cs) (hs:RStep W W' cb) (hc:w.heap.size<cb) (hl:cb<W.heap.size):QB w W' rb s cs:=
  h.below ((hs.below (Nat.le_of_lt hl)).mono (by omega))
theorem QC.set1 {w W W':World} {rb cb:Nat} {s:RS} {p:List St} {v:V} {c c':CC} (h:QC w W rb cb s p v c) (hs:RStep W W' cb) (hbox:BC W' cb (ccells c')) (e1:c'.pa=c.pa) (e2:c'.pl=c.pl) (e3:c'.pc=c.pc) (e4:c'.v=c.v):QC w W' rb cb s p v c':=by
  have hlo:=h.lo
  refine ⟨h.box.far hs (by omega) h.cel.lt,hbox, ?_, ?_,hlo⟩
  · rw [e1,e2,e3];exact isSteps_far h.stp hs (by omega)
  · rw [e4];exact isVal_far h.val hs (by omega)
theorem QC.value {w W W' W2:World} {rb cb:Nat} {s s':RS} {p:List St} {v v':V} {c c':CC} (h:QC w W rb cb s p v c) (hs:RStep W W' rb) (hR:RR W' rb s') (hv:IsVal (only (fun b=>W.heap.size≤b) W') W'.heap.size v' c'.v) (s2:RStep W' W2 cb) (hbox:BC W2 cb (ccells c')) (e1:c'.pa=c.pa) (e2:c'.pl=c.pl) (e3:c'.pc=c.pc):QC w W2 rb cb s' p v' c':=by
  have hlo:=h.lo
  have hcl:=h.cel.lt
  have h1:=h.next hs hR
  refine ⟨h1.box.far s2 (by omega) h1.cel.lt,hbox, ?_, ?_,hlo⟩
  · rw [e1,e2,e3];exact isSteps_far h1.stp s2 (by omega)
  · exact isVal_far ((hv.sub (shows_step fun k hk hl=>⟨by omega,rfl⟩))) s2 (by omega)
theorem results_compR {tmps:Array Value} {W:World} {b:Nat} {c:CC} (ht:tmps[2]? =some (.pointer (some ⟨b,0,none⟩))) (h:BC W b (ccells c)):(results Tryz.f48 tmps).run Tryz.prog W= .ok (.agg #[.int .u8 c.k, .slice c.pa c.pl c.pc, .string c.key, .int .i64 c.i, .int .i64 c.j, .int .i64 c.n, .int .u8 c.v.k, .int .i64 c.v.n, .string c.v.s, .slice c.v.la c.v.ll c.v.lc, .slice c.v.oa c.v.ol c.v.oc, .string c.s]) W:=by
  have h0:=h.at_ 0 _ rfl
  have h1:=h.at_ 1 _ rfl
  have h2:=h.at_ 2 _ rfl
  have h3:=h.at_ 3 _ rfl
  have h4:=h.at_ 4 _ rfl
  have h5:=h.at_ 5 _ rfl
  have h6:=h.at_ 6 _ rfl
  have h7:=h.at_ 7 _ rfl
  have h8:=h.at_ 8 _ rfl
  have h9:=h.at_ 9 _ rfl
  have h10:=h.at_ 10 _ rfl
  have h11:=h.at_ 11 _ rfl
  simp [results,Tryz.results48,go_sem,ht,h0,h1,h2,h3,h4,h5,h6,h7,h8,h9,h10,h11]
theorem QC.leave {w W:World} {rb cb:Nat} {s:RS} {p:List St} {v:V} {c:CC} {x:Cm} {a:Act} (h:QC w W rb cb s p v c) (hb:c.Bnd) (hx:x=⟨c.k,p,c.key,c.i,c.j,c.n,v,c.s⟩) (hd:a.defers= []) (ht:a.tmps[2]? =some (.pointer (some ⟨w.heap.size,0,none⟩))):
    bodyPost Tryz.prog Tryz.f48 (QCPost w rb x s) .ret a ((((((((((((W.setCell ⟨w.heap.size,0,none⟩ (.int .u8 c.k)).setCell ⟨w.heap.size,1,none⟩ (.slice c.pa c.pl c.pc)).setCell ⟨w.heap.size,2,none⟩ (.string c.key)).setCell ⟨w.heap.size,3,none⟩ (.int .i64 c.i)).setCell ⟨w.heap.size,4,none⟩ (.int .i64 c.j)).setCell ⟨w.heap.size,5,none⟩ (.int .i64 c.n)).setCell ⟨w.heap.size,6,none⟩ (.int .u8 c.v.k)).setCell ⟨w.heap.size,7,none⟩ (.int .i64 c.v.n)).setCell ⟨w.heap.size,8,none⟩ (.string c.v.s)).setCell ⟨w.heap.size,9,none⟩ (.slice c.v.la c.v.ll c.v.lc)).setCell ⟨w.heap.size,10,none⟩ (.slice c.v.oa c.v.ol c.v.oc)).setCell ⟨w.heap.size,11,none⟩ (.string c.s)):=by
  have hlo:=h.lo;have hlt:=h.box.lt
  have hs:RStep W ((((((((((((W.setCell ⟨w.heap.size,0,none⟩ (.int .u8 c.k)).setCell ⟨w.heap.size,1,none⟩ (.slice c.pa c.pl c.pc)).setCell ⟨w.heap.size,2,none⟩ (.string c.key)).setCell ⟨w.heap.size,3,none⟩ (.int .i64 c.i)).setCell ⟨w.heap.size,4,none⟩ (.int .i64 c.j)).setCell ⟨w.heap.size,5,none⟩ (.int .i64 c.n)).setCell ⟨w.heap.size,6,none⟩ (.int .u8 c.v.k)).setCell ⟨w.heap.size,7,none⟩ (.int .i64 c.v.n)).setCell ⟨w.heap.size,8,none⟩ (.string c.v.s)).setCell ⟨w.heap.size,9,none⟩ (.slice c.v.la c.v.ll c.v.lc)).setCell ⟨w.heap.size,10,none⟩ (.slice c.v.oa c.v.ol c.v.oc)).setCell ⟨w.heap.size,11,none⟩ (.string c.s)) w.heap.size:=(((((((((((RStep.self.trans RStep.self).trans RStep.self).trans RStep.self).trans RStep.self).trans RStep.self).trans RStep.self).trans RStep.self).trans RStep.self).trans RStep.self).trans RStep.self).trans RStep.self)
  have hbc:BC ((((((((((((W.setCell ⟨w.heap.size,0,none⟩ (.int .u8 c.k)).setCell ⟨w.heap.size,1,none⟩ (.slice c.pa c.pl c.pc)).setCell ⟨w.heap.size,2,none⟩ (.string c.key)).setCell ⟨w.heap.size,3,none⟩ (.int .i64 c.i)).setCell ⟨w.heap.size,4,none⟩ (.int .i64 c.j)).setCell ⟨w.heap.size,5,none⟩ (.int .i64 c.n)).setCell ⟨w.heap.size,6,none⟩ (.int .u8 c.v.k)).setCell ⟨w.heap.size,7,none⟩ (.int .i64 c.v.n)).setCell ⟨w.heap.size,8,none⟩ (.string c.v.s)).setCell ⟨w.heap.size,9,none⟩ (.slice c.v.la c.v.ll c.v.lc)).setCell ⟨w.heap.size,10,none⟩ (.slice c.v.oa c.v.ol c.v.oc)).setCell ⟨w.heap.size,11,none⟩ (.string c.s)) w.heap.size (ccells c):=((((((((((((h.box.res.set (i:=0) (x:= .int .u8 c.k) (by simp [ccells])).set (i:=1) (x:= .slice c.pa c.pl c.pc) (by simp [ccells])).set (i:=2) (x:= .string c.key) (by simp [ccells])).set (i:=3) (x:= .int .i64 c.i) (by simp [ccells])).set (i:=4) (x:= .int .i64 c.j) (by simp [ccells])).set (i:=5) (x:= .int .i64 c.n) (by simp [ccells])).set (i:=6) (x:= .int .u8 c.v.k) (by simp [ccells])).set (i:=7) (x:= .int .i64 c.v.n) (by simp [ccells])).set (i:=8) (x:= .string c.v.s) (by simp [ccells])).set (i:=9) (x:= .slice c.v.la c.v.ll c.v.lc) (by simp [ccells])).set (i:=10) (x:= .slice c.v.oa c.v.ol c.v.oc) (by simp [ccells])).set (i:=11) (x:= .string c.s) (by simp [ccells]))
  have hst:RStep w ((((((((((((W.setCell ⟨w.heap.size,0,none⟩ (.int .u8 c.k)).setCell ⟨w.heap.size,1,none⟩ (.slice c.pa c.pl c.pc)).setCell ⟨w.heap.size,2,none⟩ (.string c.key)).setCell ⟨w.heap.size,3,none⟩ (.int .i64 c.i)).setCell ⟨w.heap.size,4,none⟩ (.int .i64 c.j)).setCell ⟨w.heap.size,5,none⟩ (.int .i64 c.n)).setCell ⟨w.heap.size,6,none⟩ (.int .u8 c.v.k)).setCell ⟨w.heap.size,7,none⟩ (.int .i64 c.v.n)).setCell ⟨w.heap.size,8,none⟩ (.string c.v.s)).setCell ⟨w.heap.size,9,none⟩ (.slice c.v.la c.v.ll c.v.lc)).setCell ⟨w.heap.size,10,none⟩ (.slice c.v.oa c.v.ol c.v.oc)).setCell ⟨w.heap.size,11,none⟩ (.string c.s)) rb:=⟨hs.os.trans h.box.st.os,hs.tape.trans h.box.st.tape,hs.output.trans h.box.st.output,Nat.le_trans h.box.st.size hs.size,fun k hk hr=>(hs.block k (Nat.lt_of_lt_of_le hk h.box.st.size) (by omega)).trans (h.box.st.block k hk hr)⟩
  have hstp:=isSteps_far h.stp hs (by omega)
  have hval:=isVal_far h.val hs (by omega)
  refine ⟨hd,_,results_compR ht hbc,hst,⟨c,rfl, ?_⟩,h.box.rr.below (hs.below (by have:=h.box.res.lt;omega)) hlt⟩
  subst hx
  exact .mk c p v hb (hstp.sub (shows_step fun k hk _=>⟨by omega,rfl⟩)) (hval.sub (shows_step fun k hk _=>⟨by omega,rfl⟩))
end Go.Proofs.YthceefjafklcmaaGreatDoor
