/-
  Contracts of the functions that the law reaches: reader.comp: what stands in memory while it runs. reader.entry: what stands in memory while it runs. val.Weight: of a value in memory it is the plain function's answer. val.Deep: of a value in memory it is the plain function's answer.
-/
import Derived.Test.YtgcfhkceejcliaaGreatDoorAp6
import Derived.Test.YtgcfhkceejcliaaGreatDoorAp2
namespace Go.Proofs.YtgcfhkceejcliaaGreatDoor
open Go.RowKit
def scells (s:St):List Value:= [.bool s.list, .int .i64 s.i, .string s.key]
def czero:CC:=⟨0,none,0,0, .empty,0,0,0,vzero, .empty⟩
def ccells (c:CC):List Value:= [.int .u8 c.k, .slice c.pa c.pl c.pc, .string c.key, .int .i64 c.i, .int .i64 c.j, .int .i64 c.n, .int .u8 c.v.k, .int .i64 c.v.n, .string c.v.s, .slice c.v.la c.v.ll c.v.lc, .slice c.v.oa c.v.ol c.v.oc, .string c.s]
def PT:World→Nat→Nat→Prop:=fun _ _ _=>True
theorem PT.closed:Closed PT:=fun _ _ _ _ _ _ _ _=>trivial
abbrev RowS (w:World) (base:Nat) (u:Value) (l:List St):Prop:=Row 56 3 w base u l.length (l.flatMap scells) PT
theorem RowS.steps {w:World} {base lo:Nat} {l:List St} {a:Option Addr} {n cap:Nat} (h:RowS w base (.slice a n cap) l) (hlo:lo≤base) (hb:∀s ∈ l,s.Bnd) (hfew:l.length≤1466015503701):
    IsSteps (only (fun b=>lo≤b) w) w.heap.size l a n cap:=by
  obtain ⟨h1,_⟩:=Row.shows PT.closed h hlo
  have hown:=h.own
  have hlt:=h.lt
  rcases hown.2 with ⟨e,hn⟩|⟨g,cap',cur,e,hbg,hg,hnc,hcm,hcs,htake⟩
  · injection e with e1 e2 e3;subst e1 e2 e3
    have:l= [] :=List.length_eq_zero_iff.1 hn
    subst this
    exact .nil _ _
  · injection e with e1 e2 e3;subst e1 e2 e3
    refine ⟨rfl,hnc,by simpa [maxLen] using hcm,hfew,g,0,fun _=>⟨rfl,(hlt g rfl).2⟩,fun i hi=>⟨?_,hb _ (List.getElem_mem hi)⟩⟩
    have hc:∀t x,t<3→(scells l[i])[t]? =some x→(only (fun b=>lo≤b) w).cell? ⟨g,0+i*3+t,none⟩=some x:=fun t x ht hx=>by
      rw [Nat.zero_add]
      exact h1 g rfl (i*3+t) x ((flat_get scells 3 (fun _=>rfl) l i t hi ht).trans hx)
    exact ⟨hc 0 _ (by omega) rfl,hc 1 _ (by omega) rfl,hc 2 _ (by omega) rfl⟩
structure LS (w wr:World) (rb cb:Nat) (d:Int) (kd:Nat) (q:List UInt8) (j:Nat) (a:Option Addr) (m c:Nat) (xs:List St) (rj:List UInt8):Prop where
  rd:rdL (fun x=>rdS x) j q=some (xs,rj)
  len:xs.length=j
  bnd:∀s ∈ xs,s.Bnd
  rdr:Rdr wr rb rj d
  st:RStep w wr rb
  res:BC wr w.heap.size (ccells czero)
  box:BC wr cb (ccells ⟨kd,a,m,c, .empty,0,0,0,vzero, .empty⟩)
  row:RowS wr (cb+1) (.slice a m c) xs
  lo:w.heap.size+1≤cb
  lt:rb<w.heap.size
theorem LS.round {w wr w4 w5:World} {rb cb:Nat} {d:Int} {kd:Nat} {q:List UInt8} {j:Nat} {a:Option Addr} {m c:Nat} {xs:List St} {rj r2:List UInt8} {x:St} {g cap:Nat} {t:TypeId}
    (h:LS w wr rb cb d kd q j a m c xs rj) (hx:rdS rj=some (x,r2)) (hS:RStep wr.drew w4 rb) (hR:Rdr w4 rb r2 d)
    (hown:w5.ownsRow (cb+1) 56 3 (.slice (some ⟨g,0,none⟩) (j+1) cap) (j+1) (xs.flatMap scells++scells x)) (hg:(w4.alloc (.cells #[.bool x.list, .int .i64 x.i, .string x.key] t)).grownBy w5 (Value.slice a m c).ownBlock)
    (hat:(Value.slice a m c).ownBlock=some g∨g=w4.heap.size+1):
    LS w (w5.setCell ⟨cb,1,none⟩ (.slice (some ⟨g,0,none⟩) (j+1) cap)) rb cb d kd q (j+1) (some ⟨g,0,none⟩) (j+1) cap (xs++ [x]) r2:=by
  have hlo:=h.lo
  have hlt:=h.lt
  have hdz:wr.drew.heap.size=wr.heap.size:=rfl
  have hb1:=drew_below wr
  have hrow:=(h.row.later PT.closed (.of_below rb hb1) (by omega)).later PT.closed hS (by omega)
  have hrlt:∀b,(Value.slice a m c).ownBlock=some b→cb+1≤b∧b<wr.heap.size:=h.row.lt
  have hba:Below w4.heap.size w4 (w4.alloc (.cells #[.bool x.list, .int .i64 x.i, .string x.key] t)):=(Below.refl _ _).alloc (Nat.le_refl _) _
  have hsz4:wr.heap.size≤w4.heap.size:=hS.size
  have hclt:=h.box.lt
  have hgb:Below (cb+1) (w4.alloc (.cells #[.bool x.list, .int .i64 x.i, .string x.key] t)) w5:=grown_below hg (fun b hb=>(hrlt b hb).1) (by simp;omega)
  have hb45:Below (cb+1) w4 w5:=(hba.mono (by omega)).trans hgb
  have hpush:=Row.push PT.closed hrow hba hg (u':= .slice (some ⟨g,0,none⟩) (j+1) cap) (news:=scells x) (by rw [h.len];exact hown) (by
    rcases hat with e|e
    · left;rw [e];rfl
    · right;intro b hb;have:g=b:=by simpa [Value.ownBlock] using hb
      omega) (trivial:PT _ _ _) (fun _ _ _ _ _=>trivial)
  have hres:=((h.res.keep hb1 (by omega)).next hS (by omega)).keep hb45 (by omega)
  have hbox:=((h.box.keep hb1 hclt).next hS (by omega)).keep hb45 (by omega)
  have hst:RStep w w5 rb:=by
    have h1:RStep w w4 rb:=(h.st.trans (.of_below rb hb1)).trans hS
    exact ⟨hb45.os.trans h1.os,hb45.tape.trans h1.tape,hb45.output.trans h1.output,Nat.le_trans h1.size hb45.size,fun k hk hr=>(hb45.block k (by omega)).trans (h1.block k hk hr)⟩
  refine ⟨?_,by simp [h.len],fun s hs=> ?_,(hR.below hb45 (by omega)).setNew (by omega),hst.setNew (by omega),hres.far (by omega),hbox.set (i:=1) (x:= .slice (some ⟨g,0,none⟩) (j+1) cap) (by simp [ccells]), ?_,hlo,hlt⟩
  · rw [rdL,h.rd];simp only [Option.bind_some,hx]
  · rcases List.mem_append.1 hs with h1|h1
    · exact h.bnd s h1
    · rw [List.mem_singleton.1 h1];exact rdS_bnd hx
  · have hr2:RowS w5 (cb+1) (.slice (some ⟨g,0,none⟩) (j+1) cap) (xs++ [x]):=by
      show Row _ _ _ _ _ _ _ _
      rw [flat_snoc,List.length_append,List.length_singleton]
      exact hpush
    exact hr2.set PT.closed (by omega)
def RCPost (w:World) (rb:Nat) (d:Int) (r:Option (Cm×List UInt8)) (e:Ending) (w':World):Prop:=
  RStep w w' rb∧match r with
    |some (x,r)=>(∃c:CC,e= .returned (.agg #[.int .u8 c.k, .slice c.pa c.pl c.pc, .string c.key, .int .i64 c.i, .int .i64 c.j, .int .i64 c.n, .int .u8 c.v.k, .int .i64 c.v.n, .string c.v.s, .slice c.v.la c.v.ll c.v.lc, .slice c.v.oa c.v.ol c.v.oc, .string c.s])∧IsComp (only (fun b=>w.heap.size≤b) w') w'.heap.size x c)∧Rdr w' rb r d
    |none=>e= .panicked [short] ∧∃bs',Rdr w' rb bs' d
structure CB (w W:World) (rb cb:Nat) (d:Int) (r:List UInt8) (p:List St) (v:V) (c:CC):Prop where
  rdr:Rdr W rb r d
  st:RStep w W rb
  res:BC W w.heap.size (ccells czero)
  box:BC W cb (ccells c)
  stp:IsSteps (only (fun b=>cb+1≤b) W) W.heap.size p c.pa c.pl c.pc
  val:IsVal (only (fun b=>cb+1≤b) W) W.heap.size v c.v
  lo:w.heap.size+1≤cb
  lt:rb<w.heap.size
theorem isSteps_far {W W':World} {b base:Nat} {p:List St} {a:Option Addr} {n c:Nat} (h:IsSteps (only (fun k=>base≤k) W) W.heap.size p a n c) (s:RStep W W' b) (hb:b<base):IsSteps (only (fun k=>base≤k) W') W'.heap.size p a n c:=
  (h.sub (shows_step fun k hk hl=>⟨hk,s.block k hl (by omega)⟩)).more s.size
theorem CB.next {w W W':World} {rb cb:Nat} {d:Int} {r r':List UInt8} {p:List St} {v:V} {c:CC} (h:CB w W rb cb d r p v c) (s:RStep W W' rb) (hR:Rdr W' rb r' d):CB w W' rb cb d r' p v c:=by
  have hlo:=h.lo;have hlt:=h.lt
  exact ⟨hR,h.st.trans s,h.res.next s (by omega),h.box.next s (by omega),isSteps_far h.stp s (by omega),isVal_far h.val s (by omega),hlo,hlt⟩
theorem CB.start {w wr:World} {rb cb:Nat} {d:Int} {kd:Nat} {q:List UInt8} {j:Nat} {a:Option Addr} {m c:Nat} {xs:List St} {rj:List UInt8} (h:LS w wr rb cb d kd q j a m c xs rj) (hfew:j≤1466015503701):CB w wr rb cb d rj xs V.none ⟨kd,a,m,c, .empty,0,0,0,vzero, .empty⟩:=
  ⟨h.rdr,h.st,h.res,h.box,h.row.steps (Nat.le_refl _) h.bnd (by rw [h.len];exact hfew),isVal_none _ _,h.lo,h.lt⟩
theorem CB.value {w W W' W2:World} {rb cb:Nat} {d:Int} {r r':List UInt8} {p:List St} {v v':V} {c c':CC} (h:CB w W rb cb d r p v c) (s:RStep W W' rb) (hR:Rdr W' rb r' d) (hv:IsVal (only (fun b=>W.heap.size≤b) W') W'.heap.size v' c'.v) (s2:RStep W' W2 cb) (hbox:BC W2 cb (ccells c')) (e1:c'.pa=c.pa) (e2:c'.pl=c.pl) (e3:c'.pc=c.pc):CB w W2 rb cb d r' p v' c':=by
  have hlo:=h.lo;have hlt:=h.lt
  have hcl:=h.box.lt
  have h1:=h.next s hR
  have hst:RStep w W2 rb:=⟨s2.os.trans h1.st.os,s2.tape.trans h1.st.tape,s2.output.trans h1.st.output,Nat.le_trans h1.st.size s2.size,fun k hk hr=>(s2.block k (Nat.lt_of_lt_of_le hk h1.st.size) (by omega)).trans (h1.st.block k hk hr)⟩
  refine ⟨h1.rdr.below (s2.below (Nat.le_of_lt h1.box.lt)) (by omega),hst,h1.res.next s2 (by omega),hbox, ?_, ?_,hlo,hlt⟩
  · rw [e1,e2,e3];exact isSteps_far h1.stp s2 (by omega)
  · exact isVal_far ((hv.sub (shows_step fun k hk hl=>⟨by omega,rfl⟩))) s2 (by omega)
theorem results_comp {tmps:Array Value} {W:World} {b:Nat} {c:CC} (ht:tmps[2]? =some (.pointer (some ⟨b,0,none⟩))) (h:BC W b (ccells c)):(results Tryz.f74 tmps).run Tryz.prog W= .ok (.agg #[.int .u8 c.k, .slice c.pa c.pl c.pc, .string c.key, .int .i64 c.i, .int .i64 c.j, .int .i64 c.n, .int .u8 c.v.k, .int .i64 c.v.n, .string c.v.s, .slice c.v.la c.v.ll c.v.lc, .slice c.v.oa c.v.ol c.v.oc, .string c.s]) W:=by
  have h0:=h.at_ 0 _ rfl
  have h1:=h.at_ 1 _ rfl
  have h2:=h.at_ 2 _ rfl
  have h3:=h.at_ 3 _ rfl
  have h4:=h.at_ 4 _ rfl
  have h5:=h.at_ 5 _ rfl
  have h6:=h.at_ 6 _ rfl
  have h7:=h.at_ 7 _ rfl
  have h8:=h.at_ 8 _ rfl
  have h9:=h.at_ 9 _ rfl
  have h10:=h.at_ 10 _ rfl
  have h11:=h.at_ 11 _ rfl
  simp [results,Tryz.results74,go_sem,ht,h0,h1,h2,h3,h4,h5,h6,h7,h8,h9,h10,h11]
theorem CB.leave {w W:World} {rb cb:Nat} {d:Int} {r:List UInt8} {p:List St} {v:V} {c:CC} {x:Cm} {a:Act} (h:CB w W rb cb d r p v c) (hb:c.Bnd) (hx:x=⟨c.k,p,c.key,c.i,c.j,c.n,v,c.s⟩) (hd:a.defers= []) (ht:a.tmps[2]? =some (.pointer (some ⟨w.heap.size,0,none⟩))):
    bodyPost Tryz.prog Tryz.f74 (RCPost w rb d (some (x,r))) .ret a ((((((((((((W.setCell ⟨w.heap.size,0,none⟩ (.int .u8 c.k)).setCell ⟨w.heap.size,1,none⟩ (.slice c.pa c.pl c.pc)).setCell ⟨w.heap.size,2,none⟩ (.string c.key)).setCell ⟨w.heap.size,3,none⟩ (.int .i64 c.i)).setCell ⟨w.heap.size,4,none⟩ (.int .i64 c.j)).setCell ⟨w.heap.size,5,none⟩ (.int .i64 c.n)).setCell ⟨w.heap.size,6,none⟩ (.int .u8 c.v.k)).setCell ⟨w.heap.size,7,none⟩ (.int .i64 c.v.n)).setCell ⟨w.heap.size,8,none⟩ (.string c.v.s)).setCell ⟨w.heap.size,9,none⟩ (.slice c.v.la c.v.ll c.v.lc)).setCell ⟨w.heap.size,10,none⟩ (.slice c.v.oa c.v.ol c.v.oc)).setCell ⟨w.heap.size,11,none⟩ (.string c.s)):=by
  have hlo:=h.lo;have hlt:=h.lt
  have hs:RStep W ((((((((((((W.setCell ⟨w.heap.size,0,none⟩ (.int .u8 c.k)).setCell ⟨w.heap.size,1,none⟩ (.slice c.pa c.pl c.pc)).setCell ⟨w.heap.size,2,none⟩ (.string c.key)).setCell ⟨w.heap.size,3,none⟩ (.int .i64 c.i)).setCell ⟨w.heap.size,4,none⟩ (.int .i64 c.j)).setCell ⟨w.heap.size,5,none⟩ (.int .i64 c.n)).setCell ⟨w.heap.size,6,none⟩ (.int .u8 c.v.k)).setCell ⟨w.heap.size,7,none⟩ (.int .i64 c.v.n)).setCell ⟨w.heap.size,8,none⟩ (.string c.v.s)).setCell ⟨w.heap.size,9,none⟩ (.slice c.v.la c.v.ll c.v.lc)).setCell ⟨w.heap.size,10,none⟩ (.slice c.v.oa c.v.ol c.v.oc)).setCell ⟨w.heap.size,11,none⟩ (.string c.s)) w.heap.size:=(((((((((((RStep.self.trans RStep.self).trans RStep.self).trans RStep.self).trans RStep.self).trans RStep.self).trans RStep.self).trans RStep.self).trans RStep.self).trans RStep.self).trans RStep.self).trans RStep.self)
  have hbc:BC ((((((((((((W.setCell ⟨w.heap.size,0,none⟩ (.int .u8 c.k)).setCell ⟨w.heap.size,1,none⟩ (.slice c.pa c.pl c.pc)).setCell ⟨w.heap.size,2,none⟩ (.string c.key)).setCell ⟨w.heap.size,3,none⟩ (.int .i64 c.i)).setCell ⟨w.heap.size,4,none⟩ (.int .i64 c.j)).setCell ⟨w.heap.size,5,none⟩ (.int .i64 c.n)).setCell ⟨w.heap.size,6,none⟩ (.int .u8 c.v.k)).setCell ⟨w.heap.size,7,none⟩ (.int .i64 c.v.n)).setCell ⟨w.heap.size,8,none⟩ (.string c.v.s)).setCell ⟨w.heap.size,9,none⟩ (.slice c.v.la c.v.ll c.v.lc)).setCell ⟨w.heap.size,10,none⟩ (.slice c.v.oa c.v.ol c.v.oc)).setCell ⟨w.heap.size,11,none⟩ (.string c.s)) w.heap.size (ccells c):=((((((((((((h.res.set (i:=0) (x:= .int .u8 c.k) (by simp [ccells])).set (i:=1) (x:= .slice c.pa c.pl c.pc) (by simp [ccells])).set (i:=2) (x:= .string c.key) (by simp [ccells])).set (i:=3) (x:= .int .i64 c.i) (by simp [ccells])).set (i:=4) (x:= .int .i64 c.j) (by simp [ccells])).set (i:=5) (x:= .int .i64 c.n) (by simp [ccells])).set (i:=6) (x:= .int .u8 c.v.k) (by simp [ccells])).set (i:=7) (x:= .int .i64 c.v.n) (by simp [ccells])).set (i:=8) (x:= .string c.v.s) (by simp [ccells])).set (i:=9) (x:= .slice c.v.la c.v.ll c.v.lc) (by simp [ccells])).set (i:=10) (x:= .slice c.v.oa c.v.ol c.v.oc) (by simp [ccells])).set (i:=11) (x:= .string c.s) (by simp [ccells]))
  have hst:RStep w ((((((((((((W.setCell ⟨w.heap.size,0,none⟩ (.int .u8 c.k)).setCell ⟨w.heap.size,1,none⟩ (.slice c.pa c.pl c.pc)).setCell ⟨w.heap.size,2,none⟩ (.string c.key)).setCell ⟨w.heap.size,3,none⟩ (.int .i64 c.i)).setCell ⟨w.heap.size,4,none⟩ (.int .i64 c.j)).setCell ⟨w.heap.size,5,none⟩ (.int .i64 c.n)).setCell ⟨w.heap.size,6,none⟩ (.int .u8 c.v.k)).setCell ⟨w.heap.size,7,none⟩ (.int .i64 c.v.n)).setCell ⟨w.heap.size,8,none⟩ (.string c.v.s)).setCell ⟨w.heap.size,9,none⟩ (.slice c.v.la c.v.ll c.v.lc)).setCell ⟨w.heap.size,10,none⟩ (.slice c.v.oa c.v.ol c.v.oc)).setCell ⟨w.heap.size,11,none⟩ (.string c.s)) rb:=⟨hs.os.trans h.st.os,hs.tape.trans h.st.tape,hs.output.trans h.st.output,Nat.le_trans h.st.size hs.size,fun k hk hr=>(hs.block k (Nat.lt_of_lt_of_le hk h.st.size) (by omega)).trans (h.st.block k hk hr)⟩
  have hstp:=isSteps_far h.stp hs (by omega)
  have hval:=isVal_far h.val hs (by omega)
  refine ⟨hd,_,results_comp ht hbc,hst,⟨c,rfl, ?_⟩,h.rdr.below (hs.below (by have:=h.res.lt;omega)) hlt⟩
  subst hx
  exact .mk c p v hb (hstp.sub (shows_step fun k hk _=>⟨by omega,rfl⟩)) (hval.sub (shows_step fun k hk _=>⟨by omega,rfl⟩))
end Go.Proofs.YtgcfhkceejcliaaGreatDoor
namespace Go.Proofs.YtgcfhkceejcliaaGreatDoor
open Go.RowKit
def ezero:EC:=⟨0,0,0,vzero,none,0,0⟩
def ecells (c:EC):List Value:= [.int .u8 c.k, .int .u32 c.src, .int .u32 c.seq, .int .u8 c.v.k, .int .i64 c.v.n, .string c.v.s, .slice c.v.la c.v.ll c.v.lc, .slice c.v.oa c.v.ol c.v.oc, .slice c.oa c.ol c.oc]
def PC (l:List Cm) (cs:List CC):World→Nat→Nat→Prop:=fun W B i=>∀h:i<l.length,IsComp W B l[i] (cs.getD i czero)
theorem PC.closed (l:List Cm) (cs:List CC):Closed (PC l cs):=fun _ _ _ _ _ hs hB h hi=>((h hi).sub hs).more hB
theorem PC.snoc {l:List Cm} {cs:List CC} (hl:cs.length=l.length) (x:Cm) (c:CC):(∀W B,IsComp W B x c→PC (l++ [x]) (cs++ [c]) W B l.length)∧∀W B i,i<l.length→PC l cs W B i→PC (l++ [x]) (cs++ [c]) W B i:=by
  constructor
  · intro W B h hi
    simpa [List.getD_eq_getElem?_getD, ←hl] using h
  · intro W B i hi h hi2
    have h:=h hi
    have e:(cs++ [c]).getD i czero=cs.getD i czero:=by simp [List.getD_eq_getElem?_getD,List.getElem?_append_left (show i<cs.length by omega)]
    rw [List.getElem_append_left hi,e]
    exact h
abbrev RowC (w:World) (base:Nat) (u:Value) (l:List Cm) (cs:List CC):Prop:=Row 63 12 w base u l.length (cs.flatMap ccells) (PC l cs)
theorem RowC.comps {w:World} {base lo:Nat} {l:List Cm} {cs:List CC} {a:Option Addr} {n cap:Nat} (h:RowC w base (.slice a n cap) l cs) (hl:cs.length=l.length) (hlo:lo≤base) (hfew:l.length≤1466015503701):
    IsComps (only (fun b=>lo≤b) w) w.heap.size l a n cap:=by
  obtain ⟨h1,h2⟩:=Row.shows (PC.closed l cs) h hlo
  have hown:=h.own
  have hlt:=h.lt
  rcases hown.2 with ⟨e,hn⟩|⟨g,cap',cur,e,hbg,hg,hnc,hcm,hcs,htake⟩
  · injection e with e1 e2 e3;subst e1 e2 e3
    have:l= [] :=List.length_eq_zero_iff.1 hn
    subst this
    exact .nil _ _
  · injection e with e1 e2 e3;subst e1 e2 e3
    refine ⟨rfl,hnc,by simpa [maxLen] using hcm,hfew,g,0,fun i=>cs.getD i czero,fun _=>⟨rfl,(hlt g rfl).2⟩,fun i hi=>⟨?_,h2 i hi hi⟩⟩
    have hi':i<cs.length:=by omega
    have hc:∀t x,t<12→(ccells cs[i])[t]? =some x→(only (fun b=>lo≤b) w).cell? ⟨g,0+i*12+t,none⟩=some x:=fun t x ht hx=>by
      rw [Nat.zero_add]
      exact h1 g rfl (i*12+t) x ((flat_get ccells 12 (fun _=>rfl) cs i t hi' ht).trans hx)
    have he:cs.getD i czero=cs[i] :=by simp [List.getD_eq_getElem?_getD,hi']
    simp only [he]
    exact ⟨hc 0 _ (by omega) rfl,hc 1 _ (by omega) rfl,hc 2 _ (by omega) rfl,hc 3 _ (by omega) rfl,hc 4 _ (by omega) rfl,hc 5 _ (by omega) rfl,⟨hc 6 _ (by omega) rfl,hc 7 _ (by omega) rfl,hc 8 _ (by omega) rfl,hc 9 _ (by omega) rfl,hc 10 _ (by omega) rfl⟩,hc 11 _ (by omega) rfl⟩
structure LE (w wr:World) (rb eb:Nat) (kd sr sq:Nat) (q:List UInt8) (j:Nat) (a:Option Addr) (m c:Nat) (xs:List Cm) (cs:List CC) (rj:List UInt8):Prop where
  rd:rdL (fun x=>rdC x) j q=some (xs,rj)
  len:xs.length=j
  cen:cs.length=j
  rdr:Rdr wr rb rj 0
  st:RStep w wr rb
  res:BC wr w.heap.size (ecells ezero)
  box:BC wr eb (ecells ⟨kd,sr,sq,vzero,a,m,c⟩)
  row:RowC wr (eb+1) (.slice a m c) xs cs
  lo:w.heap.size+1≤eb
  lt:rb<w.heap.size
theorem LE.round {w wr w4 w5:World} {rb eb kd sr sq:Nat} {q:List UInt8} {j:Nat} {a:Option Addr} {m c:Nat} {xs:List Cm} {cs:List CC} {rj r2:List UInt8} {x:Cm} {cx:CC} {g cap:Nat} {t:TypeId}
    (h:LE w wr rb eb kd sr sq q j a m c xs cs rj) (hx:rdC rj=some (x,r2)) (hS:RStep wr.drew w4 rb) (hI:IsComp (only (fun b=>wr.drew.heap.size≤b) w4) w4.heap.size x cx) (hR:Rdr w4 rb r2 0)
    (hown:w5.ownsRow (eb+1) 63 12 (.slice (some ⟨g,0,none⟩) (j+1) cap) (j+1) (cs.flatMap ccells++ccells cx)) (hg:(w4.alloc (.cells #[.int .u8 cx.k, .slice cx.pa cx.pl cx.pc, .string cx.key, .int .i64 cx.i, .int .i64 cx.j, .int .i64 cx.n, .int .u8 cx.v.k, .int .i64 cx.v.n, .string cx.v.s, .slice cx.v.la cx.v.ll cx.v.lc, .slice cx.v.oa cx.v.ol cx.v.oc, .string cx.s] t)).grownBy w5 (Value.slice a m c).ownBlock)
    (hat:(Value.slice a m c).ownBlock=some g∨g=w4.heap.size+1):
    LE w (w5.setCell ⟨eb,8,none⟩ (.slice (some ⟨g,0,none⟩) (j+1) cap)) rb eb kd sr sq q (j+1) (some ⟨g,0,none⟩) (j+1) cap (xs++ [x]) (cs++ [cx]) r2:=by
  have hlo:=h.lo
  have hlt:=h.lt
  have hdz:wr.drew.heap.size=wr.heap.size:=rfl
  have hb1:=drew_below wr
  have hrow:=(h.row.later (PC.closed xs cs) (.of_below rb hb1) (by omega)).later (PC.closed xs cs) hS (by omega)
  have hrlt:∀b,(Value.slice a m c).ownBlock=some b→eb+1≤b∧b<wr.heap.size:=h.row.lt
  have hba:Below w4.heap.size w4 (w4.alloc (.cells #[.int .u8 cx.k, .slice cx.pa cx.pl cx.pc, .string cx.key, .int .i64 cx.i, .int .i64 cx.j, .int .i64 cx.n, .int .u8 cx.v.k, .int .i64 cx.v.n, .string cx.v.s, .slice cx.v.la cx.v.ll cx.v.lc, .slice cx.v.oa cx.v.ol cx.v.oc, .string cx.s] t)):=(Below.refl _ _).alloc (Nat.le_refl _) _
  have hsz4:wr.heap.size≤w4.heap.size:=hS.size
  have hclt:=h.box.lt
  have hgb:Below (eb+1) (w4.alloc (.cells #[.int .u8 cx.k, .slice cx.pa cx.pl cx.pc, .string cx.key, .int .i64 cx.i, .int .i64 cx.j, .int .i64 cx.n, .int .u8 cx.v.k, .int .i64 cx.v.n, .string cx.v.s, .slice cx.v.la cx.v.ll cx.v.lc, .slice cx.v.oa cx.v.ol cx.v.oc, .string cx.s] t)) w5:=grown_below hg (fun b hb=>(hrlt b hb).1) (by simp;omega)
  have hb45:Below (eb+1) w4 w5:=(hba.mono (by omega)).trans hgb
  obtain ⟨s1,s2⟩:=PC.snoc (l:=xs) (cs:=cs) (by rw [h.len,h.cen]) x cx
  have hnew:PC (xs++ [x]) (cs++ [cx]) (only (Free (eb+1) (.slice a m c)) w4) w4.heap.size xs.length:=s1 _ _ (hI.sub (shows_step fun b hb _=>⟨⟨by rw [hdz] at hb;omega,fun e=>by have:=(hrlt b e.symm).2;rw [hdz] at hb;omega⟩,rfl⟩))
  have hpush:=Row.push (PC.closed (xs++ [x]) (cs++ [cx])) hrow hba hg (u':= .slice (some ⟨g,0,none⟩) (j+1) cap) (news:=ccells cx) (by rw [h.len];exact hown) (by
    rcases hat with e|e
    · left;rw [e];rfl
    · right;intro b hb;have:g=b:=by simpa [Value.ownBlock] using hb
      omega) hnew s2
  have hres:=((h.res.keep hb1 (by omega)).next hS (by omega)).keep hb45 (by omega)
  have hbox:=((h.box.keep hb1 hclt).next hS (by omega)).keep hb45 (by omega)
  have hst:RStep w w5 rb:=by
    have h1:RStep w w4 rb:=(h.st.trans (.of_below rb hb1)).trans hS
    exact ⟨hb45.os.trans h1.os,hb45.tape.trans h1.tape,hb45.output.trans h1.output,Nat.le_trans h1.size hb45.size,fun k hk hr=>(hb45.block k (by omega)).trans (h1.block k hk hr)⟩
  refine ⟨?_,by simp [h.len],by simp [h.cen],(hR.below hb45 (by omega)).setNew (by omega),hst.setNew (by omega),hres.far (by omega),hbox.set (i:=8) (x:= .slice (some ⟨g,0,none⟩) (j+1) cap) (by simp [ecells]), ?_,hlo,hlt⟩
  · rw [rdL,h.rd];simp only [Option.bind_some,hx]
  · have hr2:RowC w5 (eb+1) (.slice (some ⟨g,0,none⟩) (j+1) cap) (xs++ [x]) (cs++ [cx]):=by
      show Row _ _ _ _ _ _ _ _
      rw [flat_snoc,List.length_append,List.length_singleton]
      exact hpush
    exact hr2.set (PC.closed _ _) (by omega)
def REPost (w:World) (rb:Nat) (r:Option (En×List UInt8)) (e:Ending) (w':World):Prop:=
  RStep w w' rb∧match r with
    |some (x,r)=>(∃c:EC,e= .returned (.agg #[.int .u8 c.k, .int .u32 c.src, .int .u32 c.seq, .int .u8 c.v.k, .int .i64 c.v.n, .string c.v.s, .slice c.v.la c.v.ll c.v.lc, .slice c.v.oa c.v.ol c.v.oc, .slice c.oa c.ol c.oc])∧IsEntry (only (fun b=>w.heap.size≤b) w') w'.heap.size x c)∧Rdr w' rb r 0
    |none=>e= .panicked [short] ∧∃bs',Rdr w' rb bs' 0
structure EB (w W:World) (rb eb:Nat) (r:List UInt8) (v:V) (l:List Cm) (c:EC):Prop where
  rdr:Rdr W rb r 0
  st:RStep w W rb
  res:BC W w.heap.size (ecells ezero)
  box:BC W eb (ecells c)
  val:IsVal (only (fun b=>eb+1≤b) W) W.heap.size v c.v
  ops:IsComps (only (fun b=>eb+1≤b) W) W.heap.size l c.oa c.ol c.oc
  lo:w.heap.size+1≤eb
  lt:rb<w.heap.size
theorem isComps_far {W W':World} {b base:Nat} {l:List Cm} {a:Option Addr} {n c:Nat} (h:IsComps (only (fun k=>base≤k) W) W.heap.size l a n c) (s:RStep W W' b) (hb:b<base):IsComps (only (fun k=>base≤k) W') W'.heap.size l a n c:=
  (h.sub (shows_step fun k hk hl=>⟨hk,s.block k hl (by omega)⟩)).more s.size
theorem results_entry {tmps:Array Value} {W:World} {b:Nat} {c:EC} (ht:tmps[2]? =some (.pointer (some ⟨b,0,none⟩))) (h:BC W b (ecells c)):(results Tryz.f39 tmps).run Tryz.prog W= .ok (.agg #[.int .u8 c.k, .int .u32 c.src, .int .u32 c.seq, .int .u8 c.v.k, .int .i64 c.v.n, .string c.v.s, .slice c.v.la c.v.ll c.v.lc, .slice c.v.oa c.v.ol c.v.oc, .slice c.oa c.ol c.oc]) W:=by
  have h0:=h.at_ 0 _ rfl
  have h1:=h.at_ 1 _ rfl
  have h2:=h.at_ 2 _ rfl
  have h3:=h.at_ 3 _ rfl
  have h4:=h.at_ 4 _ rfl
  have h5:=h.at_ 5 _ rfl
  have h6:=h.at_ 6 _ rfl
  have h7:=h.at_ 7 _ rfl
  have h8:=h.at_ 8 _ rfl
  simp [results,Tryz.results39,go_sem,ht,h0,h1,h2,h3,h4,h5,h6,h7,h8]
theorem EB.leave {w W:World} {rb eb:Nat} {r:List UInt8} {v:V} {l:List Cm} {c:EC} {x:En} {a:Act} (h:EB w W rb eb r v l c) (hb:c.Bnd) (hx:x=⟨c.k,c.src,c.seq,v,l⟩) (hd:a.defers= []) (ht:a.tmps[2]? =some (.pointer (some ⟨w.heap.size,0,none⟩))):
    bodyPost Tryz.prog Tryz.f39 (REPost w rb (some (x,r))) .ret a (((((((((W.setCell ⟨w.heap.size,0,none⟩ (.int .u8 c.k)).setCell ⟨w.heap.size,1,none⟩ (.int .u32 c.src)).setCell ⟨w.heap.size,2,none⟩ (.int .u32 c.seq)).setCell ⟨w.heap.size,3,none⟩ (.int .u8 c.v.k)).setCell ⟨w.heap.size,4,none⟩ (.int .i64 c.v.n)).setCell ⟨w.heap.size,5,none⟩ (.string c.v.s)).setCell ⟨w.heap.size,6,none⟩ (.slice c.v.la c.v.ll c.v.lc)).setCell ⟨w.heap.size,7,none⟩ (.slice c.v.oa c.v.ol c.v.oc)).setCell ⟨w.heap.size,8,none⟩ (.slice c.oa c.ol c.oc)):=by
  have hlo:=h.lo;have hlt:=h.lt
  have hs:RStep W (((((((((W.setCell ⟨w.heap.size,0,none⟩ (.int .u8 c.k)).setCell ⟨w.heap.size,1,none⟩ (.int .u32 c.src)).setCell ⟨w.heap.size,2,none⟩ (.int .u32 c.seq)).setCell ⟨w.heap.size,3,none⟩ (.int .u8 c.v.k)).setCell ⟨w.heap.size,4,none⟩ (.int .i64 c.v.n)).setCell ⟨w.heap.size,5,none⟩ (.string c.v.s)).setCell ⟨w.heap.size,6,none⟩ (.slice c.v.la c.v.ll c.v.lc)).setCell ⟨w.heap.size,7,none⟩ (.slice c.v.oa c.v.ol c.v.oc)).setCell ⟨w.heap.size,8,none⟩ (.slice c.oa c.ol c.oc)) w.heap.size:=((((((((RStep.self.trans RStep.self).trans RStep.self).trans RStep.self).trans RStep.self).trans RStep.self).trans RStep.self).trans RStep.self).trans RStep.self)
  have hbc:BC (((((((((W.setCell ⟨w.heap.size,0,none⟩ (.int .u8 c.k)).setCell ⟨w.heap.size,1,none⟩ (.int .u32 c.src)).setCell ⟨w.heap.size,2,none⟩ (.int .u32 c.seq)).setCell ⟨w.heap.size,3,none⟩ (.int .u8 c.v.k)).setCell ⟨w.heap.size,4,none⟩ (.int .i64 c.v.n)).setCell ⟨w.heap.size,5,none⟩ (.string c.v.s)).setCell ⟨w.heap.size,6,none⟩ (.slice c.v.la c.v.ll c.v.lc)).setCell ⟨w.heap.size,7,none⟩ (.slice c.v.oa c.v.ol c.v.oc)).setCell ⟨w.heap.size,8,none⟩ (.slice c.oa c.ol c.oc)) w.heap.size (ecells c):=(((((((((h.res.set (i:=0) (x:= .int .u8 c.k) (by simp [ecells])).set (i:=1) (x:= .int .u32 c.src) (by simp [ecells])).set (i:=2) (x:= .int .u32 c.seq) (by simp [ecells])).set (i:=3) (x:= .int .u8 c.v.k) (by simp [ecells])).set (i:=4) (x:= .int .i64 c.v.n) (by simp [ecells])).set (i:=5) (x:= .string c.v.s) (by simp [ecells])).set (i:=6) (x:= .slice c.v.la c.v.ll c.v.lc) (by simp [ecells])).set (i:=7) (x:= .slice c.v.oa c.v.ol c.v.oc) (by simp [ecells])).set (i:=8) (x:= .slice c.oa c.ol c.oc) (by simp [ecells]))
  have hst:RStep w (((((((((W.setCell ⟨w.heap.size,0,none⟩ (.int .u8 c.k)).setCell ⟨w.heap.size,1,none⟩ (.int .u32 c.src)).setCell ⟨w.heap.size,2,none⟩ (.int .u32 c.seq)).setCell ⟨w.heap.size,3,none⟩ (.int .u8 c.v.k)).setCell ⟨w.heap.size,4,none⟩ (.int .i64 c.v.n)).setCell ⟨w.heap.size,5,none⟩ (.string c.v.s)).setCell ⟨w.heap.size,6,none⟩ (.slice c.v.la c.v.ll c.v.lc)).setCell ⟨w.heap.size,7,none⟩ (.slice c.v.oa c.v.ol c.v.oc)).setCell ⟨w.heap.size,8,none⟩ (.slice c.oa c.ol c.oc)) rb:=⟨hs.os.trans h.st.os,hs.tape.trans h.st.tape,hs.output.trans h.st.output,Nat.le_trans h.st.size hs.size,fun k hk hr=>(hs.block k (Nat.lt_of_lt_of_le hk h.st.size) (by omega)).trans (h.st.block k hk hr)⟩
  have hops:=isComps_far h.ops hs (by omega)
  have hval:=isVal_far h.val hs (by omega)
  refine ⟨hd,_,results_entry ht hbc,hst,⟨c,rfl, ?_⟩,h.rdr.below (hs.below (by have:=h.res.lt;omega)) hlt⟩
  subst hx
  exact .mk c v l hb (hval.sub (shows_step fun k hk _=>⟨by omega,rfl⟩)) (hops.sub (shows_step fun k hk _=>⟨by omega,rfl⟩))
theorem LE.eb {w wr:World} {rb eb kd sr sq:Nat} {q:List UInt8} {j:Nat} {a:Option Addr} {m c:Nat} {xs:List Cm} {cs:List CC} {rj:List UInt8} (h:LE w wr rb eb kd sr sq q j a m c xs cs rj) (hfew:j≤1466015503701):EB w wr rb eb rj V.none xs ⟨kd,sr,sq,vzero,a,m,c⟩:=
  ⟨h.rdr,h.st,h.res,h.box,isVal_none _ _,h.row.comps (by rw [h.len,h.cen]) (Nat.le_refl _) (by rw [h.len];exact hfew),h.lo,h.lt⟩
end Go.Proofs.YtgcfhkceejcliaaGreatDoor
namespace Go.Proofs.YtgcfhkceejcliaaGreatDoor
open Go.RowKit Go.Shelf
attribute [local go_sem] Oper.semAt_some
def VWeight (v:V):Prop:=v.weight≤4611686018427387904→∀(w:World) (c:VC),IsVal w w.heap.size v c→
    Calls Tryz.prog 55 #[.agg #[.int .u8 c.k, .int .i64 c.n, .string c.s, .slice c.la c.ll c.lc, .slice c.oa c.ol c.oc]] w fun e w'=>e= .returned (.int .i64 v.weight)∧Below w.heap.size w w'
theorem ValAt.own {β:Type} (b o:Nat) (c:β→VC):Own (fun (x:β) W=>ValAt W b o (c x)):=
  fun _ _ _ _ hs hg hr=>⟨cell_kept hs.c0 hg hr,cell_kept hs.c1 hg hr,cell_kept hs.c2 hg hr,cell_kept hs.c3 hg hr,cell_kept hs.c4 hg hr⟩
theorem keepsOthers_below {W W':World} (h:Below W.heap.size W W'):KeepsOthers W W':=
  ⟨h.size,fun k _ hk _=>(h.block k (Array.getElem?_eq_some_iff.1 hk).1).trans hk⟩
theorem kids_snoc {w:World} {P:V→Prop} (pre:List (Kid w P)) (x:Kid w P):weightO ((pre++ [x]).map Kid.pair)=weightO (pre.map Kid.pair)+(x.kk.size+x.v.weight):=by
  rw [List.map_append,weightO_append];simp [weightO,weightF_eq,Kid.pair]
theorem wsum (d a b c:Int) (hd:d=a+(b+c)):wrap64 d=IntKind.i64.wrap (wrap64 a+IntKind.i64.wrap (b+c)):=by
  subst hd
  simp only [IntKind.wrap_i64,wrap64]
  omega
theorem wrap64_small {x:Int} (h0: -9223372036854775808≤x) (h1:x≤9223372036854775807):wrap64 x=x:=by unfold wrap64;omega
theorem pairs_weight (l:List V) (o:List (ByteArray×V)):weightO (pairs l o)=weightL l+weightO o:=by
  unfold pairs
  rw [weightO_append]
  congr 1
  induction l with
  |nil=>rfl
  |cons v r ih=>simp only [List.map_cons,weightO,weightF_eq,weightL,ih];simp [ByteArray.size]
set_option maxHeartbeats 4000000 in
set_option maxRecDepth 100000 in
theorem valWeight_any (a:V):VWeight a:=by
  induction a using V.ind with
  |h k n s l o ihl iho=>
  intro hw w c ha
  obtain ⟨rfl,rfl,rfl,cbd,hl,ho⟩:=ha.lists
  have hw0:1+c.s.size+weightL l+weightO o≤4611686018427387904:=by simpa only [V.weight] using hw
  obtain ⟨ks,hks,hpr⟩:=kids_of w (fun v=>VWeight v∧v.weight≤4611686018427387904) l o c hl ho
    (fun v hv=>⟨ihl v hv,by obtain ⟨i,hi,rfl⟩:=List.getElem_of_mem hv;have:=weightL_mem l i hi;omega⟩)
    (fun f hf=>⟨iho f hf,by obtain ⟨i,hi,rfl⟩:=List.getElem_of_mem hf;have:=weightO_mem o i hi;omega⟩)
  clear ihl iho ha hl ho
  have c5:=cbd.s1
  refine callsIn_wide (n:=3)|>.1 ?_
  refine callsIn_of_wp_marks Tryz.func55 rfl trivial ?_ rfl
  simp only [Tryz.ntmps55,List.size_toArray,List.length_cons,List.length_nil,Nat.reduceAdd,Nat.reduceSub,Array.replicate_succ,Array.replicate_zero,List.push_toArray,List.append_toArray,List.nil_append,List.cons_append]
  gi_wp2_with (refine ⟨trivial, ?_⟩;gi_at_call 89;refine (within_in _ _ trivial rfl c _).mono ?_;rintro e w' ⟨rfl,rfl⟩)
  obtain ⟨W0,hW0⟩:∃W0,(((w.alloc (.cells #[.int .u8 c.k, .int .i64 c.n, .string c.s, .slice c.la c.ll c.lc, .slice c.oa c.ol c.oc] 33)).alloc (.cells #[.int .i64 (1+(c.s.size:Int))] 3)).alloc (.cells #[.int .u8 c.k, .int .i64 c.n, .string c.s, .slice c.la c.ll c.lc, .slice c.oa c.ol c.oc] 33))=W0:=⟨_,rfl⟩
  have hB0:Below w.heap.size w W0:=by rw [←hW0];exact (((Below.refl _ _).alloc (Nat.le_refl _) _).alloc (by simp) _).alloc (by simp;omega) _
  have hsz:W0.heap.size=w.heap.size+3:=by rw [←hW0];simp
  have hbx:ValAt W0 (w.heap.size+1+1) 0 c:=by
    rw [←hW0]
    have h:=valAt_new ((w.alloc (.cells #[.int .u8 c.k, .int .i64 c.n, .string c.s, .slice c.la c.ll c.lc, .slice c.oa c.ol c.oc] 33)).alloc (.cells #[.int .i64 (1+(c.s.size:Int))] 3)) c 33
    simp only [World.size_alloc] at h
    exact h
  have hn:Boxed W0 (w.heap.size+1) 3 (.int .i64 (1+(c.s.size:Int))):=by
    rw [←hW0]
    have h:=Boxed.new (w.alloc (.cells #[.int .u8 c.k, .int .i64 c.n, .string c.s, .slice c.la c.ll c.lc, .slice c.oa c.ol c.oc] 33)) 3 (.int .i64 (1+(c.s.size:Int)))
    rw [World.size_alloc] at h
    exact h.alloc _
  rw [hW0]
  clear hW0
  refine wpIn_rangeFunc_ownH (α:=Kid w (fun v=>VWeight v∧v.weight≤4611686018427387904)) rfl (by omega) (gf:=111) (lb:= #[.pointer (some ⟨w.heap.size+1+1,0,none⟩)]) rfl trivial (enters_of Tryz.func111 (by kernel_rfl) rfl)
    (within_stops Fence.wide 2 trivial rfl (by omega) w (fun v=>VWeight v∧v.weight≤4611686018427387904) (w.heap.size+1+1) c cbd ks W0 w.heap.size (by omega) (by omega) hbx (hks.keep (.of_below_any hB0))) keepAt_t (keepAt_b (by omega) (by omega)) (Below.refl _ _) (fun _=>rfl)
    (fun pre W=>(Boxed W (w.heap.size+1) 3 (.int .i64 (wrap64 ((1+c.s.size+weightO (pre.map Kid.pair):Nat):Int))))∧Below w.heap.size w W∧W0.heap.size≤W.heap.size)
    (fun _ _ _=>False)
    (OwnFrom.and (Own.from (boxed_own _ _ _) _) (OwnFrom.and (ownFrom_below (Nat.le_refl _) (by omega)) (fun _ _ _ _ hs hg _=>Nat.le_trans hs hg.size)))
    (fun _ _ _ _ _ hs _ _=>hs)
    ⟨by simp only [List.map_nil,weightO,Nat.add_zero];rw [wrap64_small (by omega) (by omega)];simp only [Int.natCast_add,Int.natCast_one];exact hn,hB0,Nat.le_refl _⟩
    (fun x a' W=>∃Bx,W0.heap.size≤Bx∧ValAt W Bx 0 x.kv∧a'= { tmps:= #[.agg #[.int .u8 c.k, .int .i64 c.n, .string c.s, .slice c.la c.ll c.lc, .slice c.oa c.ol c.oc], .pointer (some ⟨w.heap.size,0,none⟩), .int .i64 0, .pointer (some ⟨w.heap.size+1,0,none⟩), .string x.kk, .pointer (some ⟨Bx,0,none⟩), .pointer (some ⟨w.heap.size,2,none⟩), .string c.s, .int .i64 (c.s.size:Int), .int .i64 (1+(c.s.size:Int)), .agg #[.int .u8 c.k, .int .i64 c.n, .string c.s, .slice c.la c.ll c.lc, .slice c.oa c.ol c.oc], .func (.func 111) #[] #[.pointer (some ⟨w.heap.size+1+1,0,none⟩)], .string x.kk, .agg #[.int .u8 x.kv.k, .int .i64 x.kv.n, .string x.kv.s, .slice x.kv.la x.kv.ll x.kv.lc, .slice x.kv.oa x.kv.ol x.kv.oc],undef,undef,undef,undef,undef,undef,undef,undef],defers:= [] })
    (fun x a' _ X Y row hs hg hr=>by
      obtain ⟨Bx,h1,h2,h3⟩:=hs
      exact ⟨Bx,h1,ValAt.own (β:=Unit) Bx 0 (fun _=>x.kv) () X Y row h2 hg (fun r e=>(hr r e).2),h3⟩)
    ?assign ?body ?done ?stop
  case assign=>
    rintro l pre x W K ⟨bS1,hB1,hz1⟩ hK
    dsimp only [Kid.encs]
    gi_wp2
    exact hK _ _ ((KeepsOthers.alloc _ _).from _) (KeepAt.alloc W _ (by omega) (by omega)) ⟨bS1.alloc _,hB1.alloc hB1.size _,by simp;omega⟩ ⟨W.heap.size,hz1,valAt_new W x.kv _,rfl⟩
  case body=>
    rintro l pre x a' W hl _ ⟨bS1,hB1,hz1⟩ ⟨Bx,hBx,vX,rfl⟩ hlt
    have cS:=bS1.cell
    have fS:=bS1.frozen
    have r0:W.cell? ⟨Bx,0,none⟩=some (.int .u8 x.kv.k):=vX.c0
    have r1:W.cell? ⟨Bx,1,none⟩=some (.int .i64 x.kv.n):=vX.c1
    have r2:W.cell? ⟨Bx,2,none⟩=some (.string x.kv.s):=vX.c2
    have r3:W.cell? ⟨Bx,3,none⟩=some (.slice x.kv.la x.kv.ll x.kv.lc):=vX.c3
    have r4:W.cell? ⟨Bx,4,none⟩=some (.slice x.kv.oa x.kv.ol x.kv.oc):=vX.c4
    have hmx:Tryz.prog.follows .mixedOrders=true:=by kernel_rfl
    have hcal:=fun (W':World) (h:Below w.heap.size w W')=>x.p.1 x.p.2 W' x.kv (x.is.later_ h)
    have HC:=Lib.hid hcal
    clear hcal vX
    gi_wp2
    gi_region_with_o (refine ⟨trivial, ?_⟩;gi_at_call 55;refine (CallsIn.inRound l (callsIn_wide.2 (HC.out _ hB1.drew))).mono ?_;rintro e w' ⟨rfl,hb⟩;have cS':=(hb.cell (p:=⟨w.heap.size+1,0,none⟩) (by exact bS1.lt)).trans cS;have fS':=(hb.frozen (p:=⟨w.heap.size+1,0,none⟩) (by exact bS1.lt)).trans fS)
    all_goals gi_wp2
    all_goals
      have hb':=(Below.refl W.heap.size W).drew.trans hb
      have hbx':Boxed w' (w.heap.size+1) 3 _:=(hb'.block _ bS1.lt).trans bS1
      exact ⟨((keepsOthers_below hb').trans (KeepsOthers.setCell _ _ _)).from _,(KeepAt.of_below hb' (by omega) (by omega)).trans (KeepAt.setCell _ _ (by simp) (by simp)),by rw [num_eq (wsum ((1+c.s.size+weightO (List.map Kid.pair (pre++ [x])):Nat):Int) (1+(c.s.size:Int)+(weightO (List.map Kid.pair pre):Int)) x.kk.size x.v.weight (by rw [kids_snoc];omega))];exact hbx'.set _,(hB1.on hb' hB1.size).setCell (by simp) _,by have:=hb'.size;simp [World.setCell];omega⟩
  case done=>
    rintro D ys W hD rfl ⟨bS,hB,hz1⟩ hK
    have cS:=bS.cell
    gi_wp2
    refine ⟨by simp, .inl ⟨_,_,rfl,run_takeDeferred hK, ?_⟩⟩
    refine ⟨_,results_tmp (t:=2) rfl _ _ _, ?_,hB.trans ((Below.refl _ _).grown (grownBy_putObj' _ D _) hB.size (fun k e=>by cases e;omega))⟩
    show Ending.returned (.int .i64 (wrap64 (1+(c.s.size:Int)+(weightO (pairs l o):Nat))))=_
    exact ret_int (by simp only [pairs_weight,V.weight];rw [wrap64_small (by omega) (by omega)];omega)
  case stop=>
    rintro D c' pre W _ _ h _
    exact h.elim
end Go.Proofs.YtgcfhkceejcliaaGreatDoor
namespace Go.Proofs.YtgcfhkceejcliaaGreatDoor
open Go.RowKit Go.Shelf
attribute [local go_sem] Oper.semAt_some
def VDeep (v:V):Prop:=v.weight≤4611686018427387904→∀(w:World) (c:VC),IsVal w w.heap.size v c→
    Calls Tryz.prog 54 #[.agg #[.int .u8 c.k, .int .i64 c.n, .string c.s, .slice c.la c.ll c.lc, .slice c.oa c.ol c.oc]] w fun e w'=>e= .returned (.int .i64 v.deep)∧Below w.heap.size w w'
theorem kids_deep {w:World} {P:V→Prop} (pre:List (Kid w P)) (x:Kid w P):((deepO ((pre++ [x]).map Kid.pair):Nat):Int)=max ((deepO (pre.map Kid.pair):Nat):Int) ((x.v.deep:Int)+1):=by
  rw [List.map_append,deepO_append];simp only [List.map_cons,List.map_nil,deepO,deepF_eq,Kid.pair];omega
theorem pairs_deep (l:List V) (o:List (ByteArray×V)):deepO (pairs l o)=max (deepL l) (deepO o):=by
  unfold pairs
  rw [deepO_append]
  congr 1
  induction l with
  |nil=>rfl
  |cons v r ih=>simp only [List.map_cons,deepO,deepF_eq,deepL,ih]
set_option maxHeartbeats 4000000 in
set_option maxRecDepth 100000 in
theorem valDeep_any (a:V):VDeep a:=by
  induction a using V.ind with
  |h k n s l o ihl iho=>
  intro hw w c ha
  obtain ⟨rfl,rfl,rfl,cbd,hl,ho⟩:=ha.lists
  have hw0:1+c.s.size+weightL l+weightO o≤4611686018427387904:=by simpa only [V.weight] using hw
  obtain ⟨ks,hks,hpr⟩:=kids_of w (fun v=>VDeep v∧v.weight≤4611686018427387904) l o c hl ho
    (fun v hv=>⟨ihl v hv,by obtain ⟨i,hi,rfl⟩:=List.getElem_of_mem hv;have:=weightL_mem l i hi;omega⟩)
    (fun f hf=>⟨iho f hf,by obtain ⟨i,hi,rfl⟩:=List.getElem_of_mem hf;have:=weightO_mem o i hi;omega⟩)
  clear ihl iho ha hl ho
  have c5:=cbd.s1
  refine callsIn_wide (n:=3)|>.1 ?_
  refine callsIn_of_wp_marks Tryz.func54 rfl trivial ?_ rfl
  simp only [Tryz.ntmps54,List.size_toArray,List.length_cons,List.length_nil,Nat.reduceAdd,Nat.reduceSub,Array.replicate_succ,Array.replicate_zero,List.push_toArray,List.append_toArray,List.nil_append,List.cons_append]
  gi_wp2_with (refine ⟨trivial, ?_⟩;gi_at_call 89;refine (within_in _ _ trivial rfl c _).mono ?_;rintro e w' ⟨rfl,rfl⟩)
  obtain ⟨W0,hW0⟩:∃W0,(((w.alloc (.cells #[.int .u8 c.k, .int .i64 c.n, .string c.s, .slice c.la c.ll c.lc, .slice c.oa c.ol c.oc] 33)).alloc (.cells #[.int .i64 0] 3)).alloc (.cells #[.int .u8 c.k, .int .i64 c.n, .string c.s, .slice c.la c.ll c.lc, .slice c.oa c.ol c.oc] 33))=W0:=⟨_,rfl⟩
  have hB0:Below w.heap.size w W0:=by rw [←hW0];exact (((Below.refl _ _).alloc (Nat.le_refl _) _).alloc (by simp) _).alloc (by simp;omega) _
  have hsz:W0.heap.size=w.heap.size+3:=by rw [←hW0];simp
  have hbx:ValAt W0 (w.heap.size+1+1) 0 c:=by
    rw [←hW0]
    have h:=valAt_new ((w.alloc (.cells #[.int .u8 c.k, .int .i64 c.n, .string c.s, .slice c.la c.ll c.lc, .slice c.oa c.ol c.oc] 33)).alloc (.cells #[.int .i64 0] 3)) c 33
    simp only [World.size_alloc] at h
    exact h
  have hn:Boxed W0 (w.heap.size+1) 3 (.int .i64 0):=by
    rw [←hW0]
    have h:=Boxed.new (w.alloc (.cells #[.int .u8 c.k, .int .i64 c.n, .string c.s, .slice c.la c.ll c.lc, .slice c.oa c.ol c.oc] 33)) 3 (.int .i64 0)
    rw [World.size_alloc] at h
    exact h.alloc _
  rw [hW0]
  clear hW0
  refine wpIn_rangeFunc_ownH (α:=Kid w (fun v=>VDeep v∧v.weight≤4611686018427387904)) rfl (by omega) (gf:=111) (lb:= #[.pointer (some ⟨w.heap.size+1+1,0,none⟩)]) rfl trivial (enters_of Tryz.func111 (by kernel_rfl) rfl)
    (within_stops Fence.wide 2 trivial rfl (by omega) w (fun v=>VDeep v∧v.weight≤4611686018427387904) (w.heap.size+1+1) c cbd ks W0 w.heap.size (by omega) (by omega) hbx (hks.keep (.of_below_any hB0))) keepAt_t (keepAt_b (by omega) (by omega)) (Below.refl _ _) (fun _=>rfl)
    (fun pre W=>(Boxed W (w.heap.size+1) 3 (.int .i64 ((deepO (pre.map Kid.pair):Nat):Int)))∧Below w.heap.size w W∧W0.heap.size≤W.heap.size)
    (fun _ _ _=>False)
    (OwnFrom.and (Own.from (boxed_own _ _ _) _) (OwnFrom.and (ownFrom_below (Nat.le_refl _) (by omega)) (fun _ _ _ _ hs hg _=>Nat.le_trans hs hg.size)))
    (fun _ _ _ _ _ hs _ _=>hs)
    ⟨by simp only [List.map_nil,deepO];exact hn,hB0,Nat.le_refl _⟩
    (fun x a' W=>∃Bx,W0.heap.size≤Bx∧ValAt W Bx 0 x.kv∧a'= { tmps:= #[.agg #[.int .u8 c.k, .int .i64 c.n, .string c.s, .slice c.la c.ll c.lc, .slice c.oa c.ol c.oc], .pointer (some ⟨w.heap.size,0,none⟩), .int .i64 0, .pointer (some ⟨w.heap.size+1,0,none⟩),undef, .pointer (some ⟨Bx,0,none⟩), .agg #[.int .u8 c.k, .int .i64 c.n, .string c.s, .slice c.la c.ll c.lc, .slice c.oa c.ol c.oc], .func (.func 111) #[] #[.pointer (some ⟨w.heap.size+1+1,0,none⟩)], .string x.kk, .agg #[.int .u8 x.kv.k, .int .i64 x.kv.n, .string x.kv.s, .slice x.kv.la x.kv.ll x.kv.lc, .slice x.kv.oa x.kv.ol x.kv.oc],undef,undef,undef,undef,undef,undef],defers:= [] })
    (fun x a' _ X Y row hs hg hr=>by
      obtain ⟨Bx,h1,h2,h3⟩:=hs
      exact ⟨Bx,h1,ValAt.own (β:=Unit) Bx 0 (fun _=>x.kv) () X Y row h2 hg (fun r e=>(hr r e).2),h3⟩)
    ?assign ?body ?done ?stop
  case assign=>
    rintro l pre x W K ⟨bS1,hB1,hz1⟩ hK
    dsimp only [Kid.encs]
    gi_wp2
    exact hK _ _ ((KeepsOthers.alloc _ _).from _) (KeepAt.alloc W _ (by omega) (by omega)) ⟨bS1.alloc _,hB1.alloc hB1.size _,by simp;omega⟩ ⟨W.heap.size,hz1,valAt_new W x.kv _,rfl⟩
  case body=>
    rintro l pre x a' W hl _ ⟨bS1,hB1,hz1⟩ ⟨Bx,hBx,vX,rfl⟩ hlt
    have cS:=bS1.cell
    have fS:=bS1.frozen
    have r0:W.cell? ⟨Bx,0,none⟩=some (.int .u8 x.kv.k):=vX.c0
    have r1:W.cell? ⟨Bx,1,none⟩=some (.int .i64 x.kv.n):=vX.c1
    have r2:W.cell? ⟨Bx,2,none⟩=some (.string x.kv.s):=vX.c2
    have r3:W.cell? ⟨Bx,3,none⟩=some (.slice x.kv.la x.kv.ll x.kv.lc):=vX.c3
    have r4:W.cell? ⟨Bx,4,none⟩=some (.slice x.kv.oa x.kv.ol x.kv.oc):=vX.c4
    have hmx:Tryz.prog.follows .mixedOrders=true:=by kernel_rfl
    have hcal:=fun (W':World) (h:Below w.heap.size w W')=>x.p.1 x.p.2 W' x.kv (x.is.later_ h)
    have HC:=Lib.hid hcal
    clear hcal vX
    have hd1:=V.deep_lt x.v
    have hd2:=x.p.2
    have e1:IntKind.i64.wrap ((x.v.deep:Int)+1)=(x.v.deep:Int)+1:=IntWalk.i64_in _ (by omega)
    gi_wp2
    gi_region_with_o (refine ⟨trivial, ?_⟩;gi_at_call 54;refine (CallsIn.inRound l (callsIn_wide.2 (HC.out _ hB1.drew))).mono ?_;rintro e w' ⟨rfl,hb⟩;have cS':=(hb.cell (p:=⟨w.heap.size+1,0,none⟩) (by exact bS1.lt)).trans cS;have fS':=(hb.frozen (p:=⟨w.heap.size+1,0,none⟩) (by exact bS1.lt)).trans fS)
    all_goals gi_wp2
    all_goals
      have hb':=(Below.refl W.heap.size W).drew.trans hb
      have hbx':Boxed w' (w.heap.size+1) 3 _:=(hb'.block _ bS1.lt).trans bS1
      exact ⟨((keepsOthers_below hb').trans (KeepsOthers.setCell _ _ _)).from _,(KeepAt.of_below hb' (by omega) (by omega)).trans (KeepAt.setCell _ _ (by simp) (by simp)),by first|(rw [num_eq (show ((deepO ((pre++ [x]).map Kid.pair):Nat):Int)=((deepO (pre.map Kid.pair):Nat):Int) from by rw [kids_deep];omega)];exact hbx'.set _)|(rw [num_eq (show ((deepO ((pre++ [x]).map Kid.pair):Nat):Int)=(x.v.deep:Int)+1 from by rw [kids_deep];omega)];exact hbx'.set _),(hB1.on hb' hB1.size).setCell (by simp) _,by have:=hb'.size;simp [World.setCell];omega⟩
  case done=>
    rintro D ys W hD rfl ⟨bS,hB,hz1⟩ hK
    have cS:=bS.cell
    gi_wp2
    refine ⟨by simp, .inl ⟨_,_,rfl,run_takeDeferred hK, ?_⟩⟩
    refine ⟨_,results_tmp (t:=2) rfl _ _ _, ?_,hB.trans ((Below.refl _ _).grown (grownBy_putObj' _ D _) hB.size (fun k e=>by cases e;omega))⟩
    show Ending.returned (.int .i64 ((deepO (pairs l o):Nat):Int))=_
    exact ret_int (by simp only [pairs_deep,V.deep])
  case stop=>
    rintro D c' pre W _ _ h _
    exact h.elim
end Go.Proofs.YtgcfhkceejcliaaGreatDoor
