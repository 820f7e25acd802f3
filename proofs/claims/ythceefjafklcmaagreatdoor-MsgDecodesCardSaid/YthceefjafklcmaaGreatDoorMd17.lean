/-
  Contracts of the functions that the law reaches: reader.entry: what stands in memory while it runs. whole: its own blocks. Bytes behind bytes in a row of their own: of a slice, of a text. reader.value's loop over an object's fields: what stands at the head of a round.
-/
import Derived.Test.YthceefjafklcmaaGreatDoorMd15
import Derived.Test.YthceefjafklcmaaGreatDoorMd16
import Derived.Test.YthceefjafklcmaaGreatDoorMd5
import Derived.Test.YthceefjafklcmaaGreatDoorMd14
import Derived.Lib.AppendStr
namespace Go.Proofs.YthceefjafklcmaaGreatDoor
open Go.RowKit
def ezero:EC:=⟨0,0,0,vzero,none,0,0⟩
def ecells (c:EC):List Value:= [.int .u8 c.k, .int .u32 c.src, .int .u32 c.seq, .int .u8 c.v.k, .int .i64 c.v.n, .string c.v.s, .slice c.v.la c.v.ll c.v.lc, .slice c.v.oa c.v.ol c.v.oc, .slice c.oa c.ol c.oc]
def PC (l:List Cm) (cs:List CC):World→Nat→Nat→Prop:=fun W B i=>∀h:i<l.length,IsComp W B l[i] (cs.getD i czero)
theorem PC.closed (l:List Cm) (cs:List CC):Closed (PC l cs):=fun _ _ _ _ _ hs hB h hi=>((h hi).sub hs).more hB
theorem PC.snoc {l:List Cm} {cs:List CC} (hl:cs.length=l.length) (x:Cm) (c:CC):(∀W B,IsComp W B x c→PC (l++ [x]) (cs++ [c]) W B l.length)∧∀W B i,i<l.length→PC l cs W B i→PC (l++ [x]) (cs++ [c]) W B i:=by
  constructor
  · intro W B h hi
    simpa [List.getD_eq_getElem?_getD, ←hl] using h
  · intro W B i hi h hi2
    have h:=h hi
    have e:(cs++ [c]).getD i czero=cs.getD i czero:=by simp [List.getD_eq_getElem?_getD,List.getElem?_append_left (show i<cs.length by omega)]
    rw [List.getElem_append_left hi,e]
    exact h
abbrev RowC (w:World) (base:Nat) (u:Value) (l:List Cm) (cs:List CC):Prop:=Row 97 12 w base u l.length (cs.flatMap ccells) (PC l cs)
theorem RowC.comps {w:World} {base lo:Nat} {l:List Cm} {cs:List CC} {a:Option Addr} {n cap:Nat} (h:RowC w base (.slice a n cap) l cs) (hl:cs.length=l.length) (hlo:lo≤base) (hfew:l.length≤1466015503701):
    IsComps (only (fun b=>lo≤b) w) w.heap.size l a n cap:=by
  obtain ⟨h1,h2⟩:=Row.shows (PC.closed l cs) h hlo
  have hown:=h.own
  have hlt:=h.lt
  rcases hown.2 with ⟨e,hn⟩|⟨g,cap',cur,e,hbg,hg,hnc,hcm,hcs,htake⟩
  · injection e with e1 e2 e3;subst e1 e2 e3
    have:l= [] :=List.length_eq_zero_iff.1 hn
    subst this
    exact .nil _ _
  · injection e with e1 e2 e3;subst e1 e2 e3
    refine ⟨rfl,hnc,by simpa [maxLen] using hcm,hfew,g,0,fun i=>cs.getD i czero,fun _=>⟨rfl,(hlt g rfl).2⟩,fun i hi=>⟨?_,h2 i hi hi⟩⟩
    have hi':i<cs.length:=by omega
    have hc:∀t x,t<12→(ccells cs[i])[t]? =some x→(only (fun b=>lo≤b) w).cell? ⟨g,0+i*12+t,none⟩=some x:=fun t x ht hx=>by
      rw [Nat.zero_add]
      exact h1 g rfl (i*12+t) x ((flat_get ccells 12 (fun _=>rfl) cs i t hi' ht).trans hx)
    have he:cs.getD i czero=cs[i] :=by simp [List.getD_eq_getElem?_getD,hi']
    simp only [he]
    exact ⟨hc 0 _ (by omega) rfl,hc 1 _ (by omega) rfl,hc 2 _ (by omega) rfl,hc 3 _ (by omega) rfl,hc 4 _ (by omega) rfl,hc 5 _ (by omega) rfl,⟨hc 6 _ (by omega) rfl,hc 7 _ (by omega) rfl,hc 8 _ (by omega) rfl,hc 9 _ (by omega) rfl,hc 10 _ (by omega) rfl⟩,hc 11 _ (by omega) rfl⟩
structure LE (w wr:World) (rb eb:Nat) (kd sr sq:Nat) (q:List UInt8) (j:Nat) (a:Option Addr) (m c:Nat) (xs:List Cm) (cs:List CC) (rj:List UInt8):Prop where
  rd:rdL (fun x=>rdC x) j q=some (xs,rj)
  len:xs.length=j
  cen:cs.length=j
  rdr:Rdr wr rb rj 0
  st:RStep w wr rb
  res:BC wr w.heap.size (ecells ezero)
  box:BC wr eb (ecells ⟨kd,sr,sq,vzero,a,m,c⟩)
  row:RowC wr (eb+1) (.slice a m c) xs cs
  lo:w.heap.size+1≤eb
  lt:rb<w.heap.size
theorem LE.round {w wr w4 w5:World} {rb eb kd sr sq:Nat} {q:List UInt8} {j:Nat} {a:Option Addr} {m c:Nat} {xs:List Cm} {cs:List CC} {rj r2:List UInt8} {x:Cm} {cx:CC} {g cap:Nat} {t:TypeId}
    (h:LE w wr rb eb kd sr sq q j a m c xs cs rj) (hx:rdC rj=some (x,r2)) (hS:RStep wr.drew w4 rb) (hI:IsComp (only (fun b=>wr.drew.heap.size≤b) w4) w4.heap.size x cx) (hR:Rdr w4 rb r2 0)
    (hown:w5.ownsRow (eb+1) 97 12 (.slice (some ⟨g,0,none⟩) (j+1) cap) (j+1) (cs.flatMap ccells++ccells cx)) (hg:(w4.alloc (.cells #[.int .u8 cx.k, .slice cx.pa cx.pl cx.pc, .string cx.key, .int .i64 cx.i, .int .i64 cx.j, .int .i64 cx.n, .int .u8 cx.v.k, .int .i64 cx.v.n, .string cx.v.s, .slice cx.v.la cx.v.ll cx.v.lc, .slice cx.v.oa cx.v.ol cx.v.oc, .string cx.s] t)).grownBy w5 (Value.slice a m c).ownBlock)
    (hat:(Value.slice a m c).ownBlock=some g∨g=w4.heap.size+1):
    LE w (w5.setCell ⟨eb,8,none⟩ (.slice (some ⟨g,0,none⟩) (j+1) cap)) rb eb kd sr sq q (j+1) (some ⟨g,0,none⟩) (j+1) cap (xs++ [x]) (cs++ [cx]) r2:=by
  have hlo:=h.lo
  have hlt:=h.lt
  have hdz:wr.drew.heap.size=wr.heap.size:=rfl
  have hb1:=drew_below wr
  have hrow:=(h.row.later (PC.closed xs cs) (.of_below rb hb1) (by omega)).later (PC.closed xs cs) hS (by omega)
  have hrlt:∀b,(Value.slice a m c).ownBlock=some b→eb+1≤b∧b<wr.heap.size:=h.row.lt
  have hba:Below w4.heap.size w4 (w4.alloc (.cells #[.int .u8 cx.k, .slice cx.pa cx.pl cx.pc, .string cx.key, .int .i64 cx.i, .int .i64 cx.j, .int .i64 cx.n, .int .u8 cx.v.k, .int .i64 cx.v.n, .string cx.v.s, .slice cx.v.la cx.v.ll cx.v.lc, .slice cx.v.oa cx.v.ol cx.v.oc, .string cx.s] t)):=(Below.refl _ _).alloc (Nat.le_refl _) _
  have hsz4:wr.heap.size≤w4.heap.size:=hS.size
  have hclt:=h.box.lt
  have hgb:Below (eb+1) (w4.alloc (.cells #[.int .u8 cx.k, .slice cx.pa cx.pl cx.pc, .string cx.key, .int .i64 cx.i, .int .i64 cx.j, .int .i64 cx.n, .int .u8 cx.v.k, .int .i64 cx.v.n, .string cx.v.s, .slice cx.v.la cx.v.ll cx.v.lc, .slice cx.v.oa cx.v.ol cx.v.oc, .string cx.s] t)) w5:=grown_below hg (fun b hb=>(hrlt b hb).1) (by simp;omega)
  have hb45:Below (eb+1) w4 w5:=(hba.mono (by omega)).trans hgb
  obtain ⟨s1,s2⟩:=PC.snoc (l:=xs) (cs:=cs) (by rw [h.len,h.cen]) x cx
  have hnew:PC (xs++ [x]) (cs++ [cx]) (only (Free (eb+1) (.slice a m c)) w4) w4.heap.size xs.length:=s1 _ _ (hI.sub (shows_step fun b hb _=>⟨⟨by rw [hdz] at hb;omega,fun e=>by have:=(hrlt b e.symm).2;rw [hdz] at hb;omega⟩,rfl⟩))
  have hpush:=Row.push (PC.closed (xs++ [x]) (cs++ [cx])) hrow hba hg (u':= .slice (some ⟨g,0,none⟩) (j+1) cap) (news:=ccells cx) (by rw [h.len];exact hown) (by
    rcases hat with e|e
    · left;rw [e];rfl
    · right;intro b hb;have:g=b:=by simpa [Value.ownBlock] using hb
      omega) hnew s2
  have hres:=((h.res.keep hb1 (by omega)).next hS (by omega)).keep hb45 (by omega)
  have hbox:=((h.box.keep hb1 hclt).next hS (by omega)).keep hb45 (by omega)
  have hst:RStep w w5 rb:=by
    have h1:RStep w w4 rb:=(h.st.trans (.of_below rb hb1)).trans hS
    exact ⟨hb45.os.trans h1.os,hb45.tape.trans h1.tape,hb45.output.trans h1.output,Nat.le_trans h1.size hb45.size,fun k hk hr=>(hb45.block k (by omega)).trans (h1.block k hk hr)⟩
  refine ⟨?_,by simp [h.len],by simp [h.cen],(hR.below hb45 (by omega)).setNew (by omega),hst.setNew (by omega),hres.far (by omega),hbox.set (i:=8) (x:= .slice (some ⟨g,0,none⟩) (j+1) cap) (by simp [ecells]), ?_,hlo,hlt⟩
  · rw [rdL,h.rd];simp only [Option.bind_some,hx]
  · have hr2:RowC w5 (eb+1) (.slice (some ⟨g,0,none⟩) (j+1) cap) (xs++ [x]) (cs++ [cx]):=by
      show Row _ _ _ _ _ _ _ _
      rw [flat_snoc,List.length_append,List.length_singleton]
      exact hpush
    exact hr2.set (PC.closed _ _) (by omega)
def REPost (w:World) (rb:Nat) (r:Option (En×List UInt8)) (e:Ending) (w':World):Prop:=
  RStep w w' rb∧match r with
    |some (x,r)=>(∃c:EC,e= .returned (.agg #[.int .u8 c.k, .int .u32 c.src, .int .u32 c.seq, .int .u8 c.v.k, .int .i64 c.v.n, .string c.v.s, .slice c.v.la c.v.ll c.v.lc, .slice c.v.oa c.v.ol c.v.oc, .slice c.oa c.ol c.oc])∧IsEntry (only (fun b=>w.heap.size≤b) w') w'.heap.size x c)∧Rdr w' rb r 0
    |none=>e= .panicked [short] ∧∃bs',Rdr w' rb bs' 0
structure EB (w W:World) (rb eb:Nat) (r:List UInt8) (v:V) (l:List Cm) (c:EC):Prop where
  rdr:Rdr W rb r 0
  st:RStep w W rb
  res:BC W w.heap.size (ecells ezero)
  box:BC W eb (ecells c)
  val:IsVal (only (fun b=>eb+1≤b) W) W.heap.size v c.v
  ops:IsComps (only (fun b=>eb+1≤b) W) W.heap.size l c.oa c.ol c.oc
  lo:w.heap.size+1≤eb
  lt:rb<w.heap.size
theorem isComps_far {W W':World} {b base:Nat} {l:List Cm} {a:Option Addr} {n c:Nat} (h:IsComps (only (fun k=>base≤k) W) W.heap.size l a n c) (s:RStep W W' b) (hb:b<base):IsComps (only (fun k=>base≤k) W') W'.heap.size l a n c:=
  (h.sub (shows_step fun k hk hl=>⟨hk,s.block k hl (by omega)⟩)).more s.size
theorem results_entry {tmps:Array Value} {W:World} {b:Nat} {c:EC} (ht:tmps[2]? =some (.pointer (some ⟨b,0,none⟩))) (h:BC W b (ecells c)):(results Tryz.f42 tmps).run Tryz.prog W= .ok (.agg #[.int .u8 c.k, .int .u32 c.src, .int .u32 c.seq, .int .u8 c.v.k, .int .i64 c.v.n, .string c.v.s, .slice c.v.la c.v.ll c.v.lc, .slice c.v.oa c.v.ol c.v.oc, .slice c.oa c.ol c.oc]) W:=by
  have h0:=h.at_ 0 _ rfl
  have h1:=h.at_ 1 _ rfl
  have h2:=h.at_ 2 _ rfl
  have h3:=h.at_ 3 _ rfl
  have h4:=h.at_ 4 _ rfl
  have h5:=h.at_ 5 _ rfl
  have h6:=h.at_ 6 _ rfl
  have h7:=h.at_ 7 _ rfl
  have h8:=h.at_ 8 _ rfl
  simp [results,Tryz.results42,go_sem,ht,h0,h1,h2,h3,h4,h5,h6,h7,h8]
theorem EB.leave {w W:World} {rb eb:Nat} {r:List UInt8} {v:V} {l:List Cm} {c:EC} {x:En} {a:Act} (h:EB w W rb eb r v l c) (hb:c.Bnd) (hx:x=⟨c.k,c.src,c.seq,v,l⟩) (hd:a.defers= []) (ht:a.tmps[2]? =some (.pointer (some ⟨w.heap.size,0,none⟩))):
    bodyPost Tryz.prog Tryz.f42 (REPost w rb (some (x,r))) .ret a (((((((((W.setCell ⟨w.heap.size,0,none⟩ (.int .u8 c.k)).setCell ⟨w.heap.size,1,none⟩ (.int .u32 c.src)).setCell ⟨w.heap.size,2,none⟩ (.int .u32 c.seq)).setCell ⟨w.heap.size,3,none⟩ (.int .u8 c.v.k)).setCell ⟨w.heap.size,4,none⟩ (.int .i64 c.v.n)).setCell ⟨w.heap.size,5,none⟩ (.string c.v.s)).setCell ⟨w.heap.size,6,none⟩ (.slice c.v.la c.v.ll c.v.lc)).setCell ⟨w.heap.size,7,none⟩ (.slice c.v.oa c.v.ol c.v.oc)).setCell ⟨w.heap.size,8,none⟩ (.slice c.oa c.ol c.oc)):=by
  have hlo:=h.lo;have hlt:=h.lt
  have hs:RStep W (((((((((W.setCell ⟨w.heap.size,0,none⟩ (.int .u8 c.k)).setCell ⟨w.heap.size,1,none⟩ (.int .u32 c.src)).setCell ⟨w.heap.size,2,none⟩ (.int .u32 c.seq)).setCell ⟨w.heap.size,3,none⟩ (.int .u8 c.v.k)).setCell ⟨w.heap.size,4,none⟩ (.int .i64 c.v.n)).setCell ⟨w.heap.size,5,none⟩ (.string c.v.s)).setCell ⟨w.heap.size,6,none⟩ (.slice c.v.la c.v.ll c.v.lc)).setCell ⟨w.heap.size,7,none⟩ (.slice c.v.oa c.v.ol c.v.oc)).setCell ⟨w.heap.size,8,none⟩ (.slice c.oa c.ol c.oc)) w.heap.size:=((((((((RStep.self.trans RStep.self).trans RStep.self).trans RStep.self).trans RStep.self).trans RStep.self).trans RStep.self).trans RStep.self).trans RStep.self)
  have hbc:BC (((((((((W.setCell ⟨w.heap.size,0,none⟩ (.int .u8 c.k)).setCell ⟨w.heap.size,1,none⟩ (.int .u32 c.src)).setCell ⟨w.heap.size,2,none⟩ (.int .u32 c.seq)).setCell ⟨w.heap.size,3,none⟩ (.int .u8 c.v.k)).setCell ⟨w.heap.size,4,none⟩ (.int .i64 c.v.n)).setCell ⟨w.heap.size,5,none⟩ (.string c.v.s)).setCell ⟨w.heap.size,6,none⟩ (.slice c.v.la c.v.ll c.v.lc)).setCell ⟨w.heap.size,7,none⟩ (.slice c.v.oa c.v.ol c.v.oc)).setCell ⟨w.heap.size,8,none⟩ (.slice c.oa c.ol c.oc)) w.heap.size (ecells c):=(((((((((h.res.set (i:=0) (x:= .int .u8 c.k) (by simp [ecells])).set (i:=1) (x:= .int .u32 c.src) (by simp [ecells])).set (i:=2) (x:= .int .u32 c.seq) (by simp [ecells])).set (i:=3) (x:= .int .u8 c.v.k) (by simp [ecells])).set (i:=4) (x:= .int .i64 c.v.n) (by simp [ecells])).set (i:=5) (x:= .string c.v.s) (by simp [ecells])).set (i:=6) (x:= .slice c.v.la c.v.ll c.v.lc) (by simp [ecells])).set (i:=7) (x:= .slice c.v.oa c.v.ol c.v.oc) (by simp [ecells])).set (i:=8) (x:= .slice c.oa c.ol c.oc) (by simp [ecells]))
  have hst:RStep w (((((((((W.setCell ⟨w.heap.size,0,none⟩ (.int .u8 c.k)).setCell ⟨w.heap.size,1,none⟩ (.int .u32 c.src)).setCell ⟨w.heap.size,2,none⟩ (.int .u32 c.seq)).setCell ⟨w.heap.size,3,none⟩ (.int .u8 c.v.k)).setCell ⟨w.heap.size,4,none⟩ (.int .i64 c.v.n)).setCell ⟨w.heap.size,5,none⟩ (.string c.v.s)).setCell ⟨w.heap.size,6,none⟩ (.slice c.v.la c.v.ll c.v.lc)).setCell ⟨w.heap.size,7,none⟩ (.slice c.v.oa c.v.ol c.v.oc)).setCell ⟨w.heap.size,8,none⟩ (.slice c.oa c.ol c.oc)) rb:=⟨hs.os.trans h.st.os,hs.tape.trans h.st.tape,hs.output.trans h.st.output,Nat.le_trans h.st.size hs.size,fun k hk hr=>(hs.block k (Nat.lt_of_lt_of_le hk h.st.size) (by omega)).trans (h.st.block k hk hr)⟩
  have hops:=isComps_far h.ops hs (by omega)
  have hval:=isVal_far h.val hs (by omega)
  refine ⟨hd,_,results_entry ht hbc,hst,⟨c,rfl, ?_⟩,h.rdr.below (hs.below (by have:=h.res.lt;omega)) hlt⟩
  subst hx
  exact .mk c v l hb (hval.sub (shows_step fun k hk _=>⟨by omega,rfl⟩)) (hops.sub (shows_step fun k hk _=>⟨by omega,rfl⟩))
theorem LE.eb {w wr:World} {rb eb kd sr sq:Nat} {q:List UInt8} {j:Nat} {a:Option Addr} {m c:Nat} {xs:List Cm} {cs:List CC} {rj:List UInt8} (h:LE w wr rb eb kd sr sq q j a m c xs cs rj) (hfew:j≤1466015503701):EB w wr rb eb rj V.none xs ⟨kd,sr,sq,vzero,a,m,c⟩:=
  ⟨h.rdr,h.st,h.res,h.box,isVal_none _ _,h.row.comps (by rw [h.len,h.cen]) (Nat.le_refl _) (by rw [h.len];exact hfew),h.lo,h.lt⟩
end Go.Proofs.YthceefjafklcmaaGreatDoor
namespace Go.Proofs.YthceefjafklcmaaGreatDoor
open Go.RowKit
theorem RStep.src {W W':World} {rb:Nat} (_:RStep W W' rb):W=W:=rfl
def vz:List Value:= [.int .u8 0, .int .i64 0, .string { data:= #[] }, .slice none 0 0, .slice none 0 0]
def ez:List Value:= [.int .u8 0, .int .u32 0, .int .u32 0, .int .u8 0, .int .i64 0, .string { data:= #[] }, .slice none 0 0, .slice none 0 0, .slice none 0 0]
def En.none:En:=⟨0,0,0,V.none, []⟩
theorem isEntry_none (w:World) (B:Nat):IsEntry w B En.none ezero:=
  .mk ezero V.none [] ⟨by decide,by decide,by decide,by decide,by decide,by decide⟩ (isVal_none _ _) (IsComps.nil _ _)
theorem isEntry_far {W W':World} {b base:Nat} {x:En} {c:EC} (h:IsEntry (only (fun k=>base≤k) W) W.heap.size x c) (s:RStep W W' b) (hb:b<base):IsEntry (only (fun k=>base≤k) W') W'.heap.size x c:=
  (h.sub (shows_step fun k hk hl=>⟨hk,s.block k hl (by omega)⟩)).more s.size
structure WH (w W:World) (z cs:List Value) (x:Value):Prop where
  out:BC W w.heap.size cs
  err:BC W (w.heap.size+1) [x]
  non:BC W (w.heap.size+2) z
  below:Below w.heap.size w W
theorem WH.start (w:World) (z:List Value) (bs:List UInt8) (a:Option Addr) (n c:Nat) (h:IsB w w.heap.size a n c bs) (t1 t2 t3 t4:TypeId) (W:World) (hW:W=(((w.alloc (.cells z.toArray t1)).alloc (.cells #[.int .u16 0] t2)).alloc (.cells z.toArray t3)).alloc (.cells #[.slice a n c, .int .i64 0] t4)):
    WH w W z z (.int .u16 0)∧Rdr W (w.heap.size+3) bs 0∧W.heap.size=w.heap.size+4:=by
  obtain ⟨w1,hw1⟩:∃w1,w.alloc (.cells z.toArray t1)=w1:=⟨_,rfl⟩
  have s1:w1.heap.size=w.heap.size+1:=by rw [←hw1,World.size_alloc]
  have b1:Below w.heap.size w w1:=by rw [←hw1];exact (Below.refl _ _).alloc (Nat.le_refl _) _
  have c1:BC w1 w.heap.size z:=by rw [←hw1];exact BC.start w z.toArray t1
  rw [hw1] at hW
  obtain ⟨w2,hw2⟩:∃w2,w1.alloc (.cells #[.int .u16 0] t2)=w2:=⟨_,rfl⟩
  have s2:w2.heap.size=w.heap.size+2:=by rw [←hw2,World.size_alloc,s1]
  have b2:Below w1.heap.size w1 w2:=by rw [←hw2];exact (Below.refl _ _).alloc (Nat.le_refl _) _
  have c2:BC w2 (w.heap.size+1) [.int .u16 0] :=by rw [←hw2, ←s1];exact BC.start w1 #[.int .u16 0] t2
  rw [hw2] at hW
  obtain ⟨w3,hw3⟩:∃w3,w2.alloc (.cells z.toArray t3)=w3:=⟨_,rfl⟩
  have s3:w3.heap.size=w.heap.size+3:=by rw [←hw3,World.size_alloc,s2]
  have b3:Below w2.heap.size w2 w3:=by rw [←hw3];exact (Below.refl _ _).alloc (Nat.le_refl _) _
  have c3:BC w3 (w.heap.size+2) z:=by rw [←hw3, ←s2];exact BC.start w2 z.toArray t3
  rw [hw3] at hW
  subst hW
  have b4:Below w3.heap.size w3 (w3.alloc (.cells #[.slice a n c, .int .i64 0] t4)):=(Below.refl _ _).alloc (Nat.le_refl _) _
  have hB:Below w.heap.size w (w3.alloc (.cells #[.slice a n c, .int .i64 0] t4)):=((b1.trans (b2.mono (by omega))).trans (b3.mono (by omega))).trans (b4.mono (by omega))
  refine ⟨⟨((c1.keep b2 (by omega)).keep b3 (by omega)).keep b4 (by omega),(c2.keep b3 (by omega)).keep b4 (by omega),c3.keep b4 (by omega),hB⟩,⟨⟨a,n,c, ?_,(h.keep hB).more (by omega)⟩, ?_, ?_, ?_⟩,by rw [World.size_alloc,s3]⟩
  · rw [←s3];exact cells_new w3 _ t4 0 _ rfl
  · rw [←s3];exact cells_new w3 _ t4 1 _ rfl
  · rw [←s3];exact frozen_new w3 _ t4 0
  · rw [←s3];exact frozen_new w3 _ t4 1
theorem WH.next {w W W':World} {z cs:List Value} {x:Value} (h:WH w W z cs x) (hb:Below W.heap.size W W'):WH w W' z cs x:=
  ⟨h.out.keep hb h.out.lt,h.err.keep hb h.err.lt,h.non.keep hb h.non.lt,h.below.trans (hb.mono (Nat.le_of_lt h.out.lt))⟩
theorem WH.read {w W W':World} {z cs:List Value} {x:Value} (h:WH w W z cs x) (hs:RStep W W' (w.heap.size+3)) (hz:w.heap.size+4≤W.heap.size):WH w W' z cs x:=
  ⟨h.out.next hs (by omega),h.err.next hs (by omega),h.non.next hs (by omega),h.below.trans ((hs.below (by omega)).mono (by omega))⟩
theorem WH.setErr {w W:World} {z cs:List Value} {x y:Value} (h:WH w W z cs x):WH w (W.setCell ⟨w.heap.size+1,0,none⟩ y) z cs y:=by
  have s1:RStep W (W.setCell ⟨w.heap.size+1,0,none⟩ y) (w.heap.size+1):=RStep.self
  have hlt:=h.err.lt
  exact ⟨h.out.far (by omega),h.err.set (i:=0) (x:=y) (by simp),h.non.far (by omega),h.below.trans ((s1.below (by omega)).mono (by omega))⟩
end Go.Proofs.YthceefjafklcmaaGreatDoor
namespace Go.Proofs.YthceefjafklcmaaGreatDoor
open Go.RowKit
theorem run_append_zero {P:Program} (w:World) (base:Nat) (t ty e:TypeId) (i:TypeInfo) (size:Nat) (ht:P.underlying t=some (.slice e)) (hi:P.info? e=some i)
    (v:Value) (n:Nat) (xs:List Value) (hown:w.ownsRow base e size v n xs) (a1:Option Addr) (c1:Nat):
    (Builtin.append_ #[t,t] ty #[v, .slice a1 0 c1]).run P w= .ok v w:=by
  rcases hown.2 with ⟨rfl,rfl⟩|⟨g,cap,cur,rfl,hbg,hg,hnc,hcm,hcs,htake⟩
  · cases a1<;>simp [Builtin.append_,run_underlying ht,sizeOf,typeInfo,hi,Builtin.lenOf,Builtin.firstCells,loadCells,loadCellsFrom]
  · cases a1<;>simp [Builtin.append_,run_underlying ht,sizeOf,typeInfo,hi,Builtin.lenOf,Builtin.firstCells,storeCells,hnc,loadCells,loadCellsFrom]
theorem wp_catB {ops:Array Oper} {rest:List Oper} {o:Oper} {a:Act} {Q:Exit→Act→World→Prop} {w:World} (hgd:o.guard=none) (s x:Operand)
    (ho:o.op= .call { callee:= .builtin .append,args:= #[s,x],argTypes:= #[22,22] }) (B B':Nat) (a0:Option Addr) (n0 c0:Nat) (bs:List UInt8) (a1:Option Addr) (n1 c1:Nat) (cs:List UInt8)
    (hs:a.eval s= .slice a0 n0 c0) (hx:a.eval x= .slice a1 n1 c1) (h0:OwnB w B a0 n0 c0 bs) (h1:IsB w B' a1 n1 c1 cs) (hB:B≤w.heap.size) (hsz:bs.length+cs.length≤140737488355328)
    (h:∀a' n' c' w',OwnB w' B a' n' c' (bs++cs)→Below B w w'→wpList Tryz.prog ops Q rest (a.put o.dst (.slice a' n' c')) w'):wpList Tryz.prog ops Q (o::rest) a w:=by
  obtain ⟨i0,hi0,hz0,hz1,hz2⟩:=info_parts ginfo8
  obtain ⟨e0,g0⟩:=h0
  obtain ⟨k1,k2,k3,b,q,k4,k5⟩:=h1
  have hlt:=g0.lt
  by_cases hn:n1=0
  · subst hn
    have:cs= [] :=List.length_eq_zero_iff.1 k1.symm
    subst this
    refine wpList_plain hgd fun _ hK=> ?_
    have hr:=run_append_zero (P:=Tryz.prog) w B 22 o.type 5 i0 1 Tryz.underlying22 hi0 _ n0 _ g0 a1 c1
    unfold Oper.wp execOp
    simp only [ho,resolve,invoke,builtin,Sem.run_bind,Sem.run_pure,Result.andThen_ok,List.map_toArray,List.map_cons,List.map_nil,hs,hx,hr]
    exact hK _ _ (h a0 n0 c0 w ⟨by simp [e0],by simpa using g0⟩ (Below.refl _ _))
  · obtain ⟨rfl,hb⟩:=k4 (by omega)
    refine wpList_append_own w hgd s x _ ho B 5 i0 _ 1 1 Tryz.underlying22 hi0 hz0 hz1 hz2 rfl (by omega) _ n0 _ hs g0 ⟨b,q,none⟩ n1 c1 (outs cs) hx (by rw [outs_length,k1];omega) (fun j u hj=> ?_) (fun u hu=> ?_) (by unfold maxLen;omega) (by omega) hB fun v' w' h2 h3 h4=> ?_
    · rw [add_at]
      have hj2:j<cs.length:=by have:=(List.getElem?_eq_some_iff.1 hj).1;rwa [outs_length] at this
      have:=k5 j hj2
      simp [outs,hj2] at hj
      rw [this,hj]
    · simp [outs] at hu
      obtain ⟨_,_,rfl⟩:=hu
      rfl
    · rcases h2.2 with ⟨rfl,hq⟩|⟨g,cap,cur,rfl,_⟩
      · exfalso;omega
      · exact h _ _ _ _ ⟨by simp [e0,k1],by rw [outs_append];exact h2⟩ (grown_below h3 (fun k hk=>(hlt k hk).1) hB)
theorem wp_catS {ops:Array Oper} {rest:List Oper} {o:Oper} {a:Act} {Q:Exit→Act→World→Prop} {w:World} (hgd:o.guard=none) (s x:Operand)
    (ho:o.op= .call { callee:= .builtin .append,args:= #[s,x],argTypes:= #[22,9] }) (B:Nat) (a0:Option Addr) (n0 c0:Nat) (bs:List UInt8) (t:ByteArray)
    (hs:a.eval s= .slice a0 n0 c0) (hx:a.eval x= .string t) (h0:OwnB w B a0 n0 c0 bs) (hB:B≤w.heap.size) (hsz:bs.length+t.size≤140737488355328)
    (h:∀a' n' c' w',OwnB w' B a' n' c' (bs++t.data.toList)→Below B w w'→wpList Tryz.prog ops Q rest (a.put o.dst (.slice a' n' c')) w'):wpList Tryz.prog ops Q (o::rest) a w:=by
  obtain ⟨i0,hi0,hz0,hz1,hz2⟩:=info_parts ginfo8
  obtain ⟨e0,g0⟩:=h0
  have hlt:=g0.lt
  have ht:t.data.toList.length=t.size:=Array.length_toList
  refine Lib.wpList_append_own_string w hgd s x _ _ ho B 5 i0 Tryz.underlying22 Tryz.underlying9 hi0 hz0 hz1 hz2 _ n0 _ hs g0 t hx (by unfold maxLen;omega) (by omega) hB fun v' w' h2 h3 h4=> ?_
  obtain ⟨ao,c,rfl⟩:=owns_slice h2
  rw [outs_str] at h2
  exact h _ _ _ _ ⟨by rw [List.length_append,ht,e0],h2⟩ (grown_below h3 (fun k hk=>(hlt k hk).1) hB)
end Go.Proofs.YthceefjafklcmaaGreatDoor
namespace Go.Proofs.YthceefjafklcmaaGreatDoor
open Go.RowKit
structure LF (w wr:World) (rb vb:Nat) (d:Int) (k:Nat) (kd:Nat) (q:List UInt8) (j:Nat) (a:Option Addr) (m c:Nat) (xs:List (ByteArray×V)) (cs:List (ByteArray×VC)) (rj rc:List UInt8):Prop where
  rd:rdL (fun x=>(rdT x).bind fun y=>(rdV k y.2).bind fun z=>some ((y.1,z.1),z.2)) j q=some (xs,rj)
  len:xs.length=j
  cen:cs.length=j
  box:RB w wr rb rc (d+1) vzero
  vb_:VB wr vb ⟨kd,0, .empty,none,0,0,a,m,c⟩
  row:RowF wr (vb+1) (.slice a m c) xs cs
  lo:w.heap.size+2≤vb
theorem LF.round {w wr w4 w5:World} {rb vb:Nat} {d:Int} {k kd:Nat} {q:List UInt8} {j:Nat} {a:Option Addr} {m c:Nat} {xs:List (ByteArray×V)} {cs:List (ByteArray×VC)} {rj r3 r2:List UInt8} {sk:ByteArray} {x:V} {cx:VC} {g cap:Nat} {t:TypeId}
    (h:LF w wr rb vb d k kd q j a m c xs cs rj r3) (ht:rdT rj=some (sk,r3)) (hx:rdV k r3=some (x,r2)) (hS:RStep wr.drew w4 rb) (hI:IsVal (only (fun b=>wr.drew.heap.size≤b) w4) w4.heap.size x cx) (hR:Rdr w4 rb r2 (d+1))
    (hown:w5.ownsRow (vb+1) 80 6 (.slice (some ⟨g,0,none⟩) (j+1) cap) (j+1) (cs.flatMap fcells++fcells (sk,cx))) (hg:(w4.alloc (.cells #[.string sk, .int .u8 cx.k, .int .i64 cx.n, .string cx.s, .slice cx.la cx.ll cx.lc, .slice cx.oa cx.ol cx.oc] t)).grownBy w5 (Value.slice a m c).ownBlock)
    (hat:(Value.slice a m c).ownBlock=some g∨g=w4.heap.size+1):
    LF w (w5.setCell ⟨vb,4,none⟩ (.slice (some ⟨g,0,none⟩) (j+1) cap)) rb vb d k kd q (j+1) (some ⟨g,0,none⟩) (j+1) cap (xs++ [(sk,x)]) (cs++ [(sk,cx)]) r2 r2:=by
  have hlo:=h.lo
  have hlt:=h.box.lt
  have hdz:wr.drew.heap.size=wr.heap.size:=rfl
  have hb1:=drew_below wr
  have hrow:=(h.row.later (PF.closed xs cs) (.of_below rb hb1) (by omega)).later (PF.closed xs cs) hS (by omega)
  have hrlt:∀b,(Value.slice a m c).ownBlock=some b→vb+1≤b∧b<wr.heap.size:=h.row.lt
  have hba:Below w4.heap.size w4 (w4.alloc (.cells #[.string sk, .int .u8 cx.k, .int .i64 cx.n, .string cx.s, .slice cx.la cx.ll cx.lc, .slice cx.oa cx.ol cx.oc] t)):=(Below.refl _ _).alloc (Nat.le_refl _) _
  have hsz4:wr.heap.size≤w4.heap.size:=hS.size
  have hvlt:=h.vb_.lt
  have hgb:Below (vb+1) (w4.alloc (.cells #[.string sk, .int .u8 cx.k, .int .i64 cx.n, .string cx.s, .slice cx.la cx.ll cx.lc, .slice cx.oa cx.ol cx.oc] t)) w5:=grown_below hg (fun b hb=>(hrlt b hb).1) (by simp;omega)
  have hb45:Below (vb+1) w4 w5:=(hba.mono (by omega)).trans hgb
  obtain ⟨s1,s2⟩:=PF.snoc (l:=xs) (cs:=cs) (by rw [h.len,h.cen]) sk (rdT_size ht) x cx
  have hnew:PF (xs++ [(sk,x)]) (cs++ [(sk,cx)]) (only (Free (vb+1) (.slice a m c)) w4) w4.heap.size xs.length:=s1 _ _ (hI.sub (shows_step fun b hb _=>⟨⟨by rw [hdz] at hb;omega,fun e=>by have:=(hrlt b e.symm).2;rw [hdz] at hb;omega⟩,rfl⟩))
  have hpush:=Row.push (PF.closed (xs++ [(sk,x)]) (cs++ [(sk,cx)])) hrow hba hg (u':= .slice (some ⟨g,0,none⟩) (j+1) cap) (news:=fcells (sk,cx)) (by rw [h.len];exact hown) (by
    rcases hat with e|e
    · left;rw [e];rfl
    · right;intro b hb;have:g=b:=by simpa [Value.ownBlock] using hb
      omega) hnew s2
  have hbox:=((h.box.behind hb1).next hS hR).below (hb45.mono (by omega))
  have hvb:=((h.vb_.keep hb1 hvlt).next hS (by omega)).keep hb45 (by omega)
  refine ⟨?_,by simp [h.len],by simp [h.cen],hbox.set (by omega),hvb.setO _ _ _, ?_,hlo⟩
  · rw [rdL,h.rd];simp only [Option.bind_some,ht,hx]
  · have hr2:RowF w5 (vb+1) (.slice (some ⟨g,0,none⟩) (j+1) cap) (xs++ [(sk,x)]) (cs++ [(sk,cx)]):=by
      show Row _ _ _ _ _ _ _ _
      rw [flat_snoc,List.length_append,List.length_singleton]
      exact hpush
    exact hr2.set (PF.closed _ _) (by omega)
theorem LF.text {w wr w3:World} {rb vb:Nat} {d:Int} {k kd:Nat} {q:List UInt8} {j:Nat} {a:Option Addr} {m c:Nat} {xs:List (ByteArray×V)} {cs:List (ByteArray×VC)} {rj rc r3:List UInt8} (h:LF w wr rb vb d k kd q j a m c xs cs rj rc) (hS:RStep wr w3 rb) (hR:Rdr w3 rb r3 (d+1)):LF w w3 rb vb d k kd q j a m c xs cs rj r3:=by
  have hlo:=h.lo
  have hlt:=h.box.lt
  exact ⟨h.rd,h.len,h.cen,h.box.next hS hR,h.vb_.next hS (by omega),h.row.later (PF.closed xs cs) hS (by omega),hlo⟩
end Go.Proofs.YthceefjafklcmaaGreatDoor
