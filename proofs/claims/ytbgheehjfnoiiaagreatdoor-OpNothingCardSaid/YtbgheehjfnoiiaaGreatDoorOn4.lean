/-
  Contracts of the functions that the law reaches: reader.value: what stands in memory.
-/
import Derived.Test.YtbgheehjfnoiiaaGreatDoorOn3
import Derived.Laws.AppendOwn
import Derived.Laws.CopyRow
import Derived.Laws.CopyOwn
import Derived.Laws.OwnMore
import Derived.Lib.Walk
namespace Go.Proofs.YtbgheehjfnoiiaaGreatDoor
open Go.RowKit
set_option maxHeartbeats 4000000
theorem RStep.frozen {w w':World} {rb:Nat} (h:RStep w w' rb) {b o:Nat} (hl:b<w.heap.size) (hb:b≠rb):w'.frozen? ⟨b,o,none⟩=w.frozen? ⟨b,o,none⟩:=
 World.frozen?_of_block (h.block b hl hb)
theorem Qc (W:World) (B:Nat) (k n:Int) (s:ByteArray) (hk0:0<=k) (hk1:k<256) (hn0: -9223372036854775808<=n) (hn1:n<=9223372036854775807) (hs:s.size<=140737488355328):IsVal W B (.mk k n s [] []) ⟨k,n,s,none,0,0,none,0,0⟩:=
 .mk ⟨k,n,s,none,0,0,none,0,0⟩ [] [] (fun _=>vzero) (fun _=>vzero) 0 0 0 0 ⟨hk0,hk1,hn0,hn1,hs,(by decide:(0:Nat)<=0),(by decide:(0:Nat)<=9223372036854775807),(by decide:(0:Nat)<=1466015503701),(by decide:(0:Nat)<=0),(by decide:(0:Nat)<=9223372036854775807),(by decide:(0:Nat)<=1466015503701)⟩ rfl rfl (fun h=>by cases h) (fun h=>by cases h) (fun i h=>by cases h) (fun i h=>by cases h) (fun i h=>by cases h) (fun i h=>by cases h)
theorem zc4 (x:Int): -9223372036854775808<=wrap64 x:=by unfold wrap64;omega
theorem zay (x:Int):wrap64 x<=9223372036854775807:=by unfold wrap64;omega
theorem Zj {w w':World} {row:Option Nat} {B:Nat} (hg:w.grownBy w' row) (hr:∀k,row=some k->B<=k) (hB:B<=w.heap.size):Below B w w':=
 ⟨hg.os,hg.tape,hg.output,hg.size,fun k hk=>hg.block k (by omega) (fun e=>by have:=hr k e.symm;omega)⟩
theorem Zf (w:World):uB w w.drew:=(Below.refl _ _).drew
theorem RStep.self {W:World} {b o:Nat} {x:Value} :RStep W (W.setCell ⟨b,o,none⟩ x) b:=⟨rfl,rfl,rfl,by simp,fun k hk hr=>heap_setCell_other _ _ _ _ hr⟩
theorem Zm {W W':World} {b base:Nat} {x:V} {c:VC} (h:IsVal (only (fun k=>base<=k) W) W.heap.size x c) (s:RStep W W' b) (hb:b<base):IsVal (only (fun k=>base<=k) W') W'.heap.size x c:=
 (h.sub (Ze fun k hk hl=>⟨hk,s.block k hl (by omega)⟩)).more s.size
structure BC (W:World) (b:Nat) (cs:List Value):Prop where
 at_:∀j x,cs[j]? =some x->W.cell? ⟨b,j,none⟩=some x
 fr:∀j,W.frozen? ⟨b,j,none⟩=false
 lt:b<W.heap.size
theorem BC.start (w:World) (cs:Array Value) (t:TypeId):BC (w.alloc (.cells cs t)) w.heap.size cs.toList:=
 ⟨fun j x hj=>Zq w cs t j x (by rw [<-hj];simp),fun j=>zfv w cs t j,by simp⟩
theorem BC.next {W W':World} {b rb:Nat} {cs:List Value} (h:BC W b cs) (s:RStep W W' rb) (hb:b≠rb):BC W' b cs:=
 ⟨fun j x hj=>s.cell (h.at_ j x hj) hb,fun j=>(s.frozen h.lt hb).trans (h.fr j),Nat.lt_of_lt_of_le h.lt s.size⟩
theorem BC.keep {W W':World} {b B:Nat} {cs:List Value} (h:BC W b cs) (hb:Below B W W') (hB:b<B):BC W' b cs:=
 ⟨fun j x hj=>Zb hb (h.at_ j x hj) hB,fun j=>(hb.frozen (p:=⟨b,j,none⟩) hB).trans (h.fr j),Nat.lt_of_lt_of_le h.lt hb.size⟩
theorem BC.set {W:World} {b i:Nat} {x:Value} {cs:List Value} (h:BC W b cs) (hi:i<cs.length):BC (W.setCell ⟨b,i,none⟩ x) b (cs.set i x):=by
 refine ⟨fun j y hj=> ?_,fun j=>by simpa using h.fr j,by simpa using h.lt⟩
 by_cases e:i=j
 .subst e
  rw [List.getElem?_set_self hi] at hj
  injection hj with hj
  subst hj
  exact World.cell?_setCell_same _ _ _ (h.at_ i cs[i] (by simp [hi]))
 .rw [List.getElem?_set_ne e] at hj
  rw [World.cell?_setCell_other]
  .exact h.at_ j y hj
  .intro e2;injection e2 with _ e3;exact e (by first|exact e3|exact e3.symm)
theorem BC.far {W:World} {b b' o:Nat} {x:Value} {cs:List Value} (h:BC W b cs) (hb:b≠b'):BC (W.setCell ⟨b',o,none⟩ x) b cs:=
 h.next RStep.self hb
theorem Z9:(Tryz.prog.info? 29).map (fun i=>(i.zero,i.size,i.bytes))=some (some (.agg #[.int .u8 0, .int .i64 0, .string { data:= #[] }, .slice none 0 0, .slice none 0 0]),5,80):=by kernel_rfl
theorem Ya:(Tryz.prog.info? 62).map (fun i=>(i.zero,i.size,i.bytes))=some (some (.agg #[.string { data:= #[] }, .int .u8 0, .int .i64 0, .string { data:= #[] }, .slice none 0 0, .slice none 0 0]),6,96):=by kernel_rfl
def V.kd:V->Int
 | .mk k _ _ _ _=>k
def V.nm:V->Int
 | .mk _ n _ _ _=>n
def V.ls:V->List V
 | .mk _ _ _ l _=>l
def V.os:V->List (ByteArray×V)
 | .mk _ _ _ _ o=>o
theorem V.eta (v:V):∃k n s l o,v= .mk k n s l o:=by cases v;exact ⟨_,_,_,_,_,rfl⟩
def Free2 (base:Nat) (u uo:Value):Nat->Prop:=fun k=>base<=k/\some k≠u.ownBlock/\some k≠uo.ownBlock
structure OwnRow (w:World) (base:Nat) (a:Option Addr) (n c:Nat) (cells:List Value):Prop where
 cap:n<=c
 max:c<=9223372036854775807
 none_:n=0->a=none->c=0
 row:0<n∨a≠none->∃g,a=some ⟨g,0,none⟩/\base<=g/\BC w g cells
theorem OwnRow.of {w:World} {base base':Nat} {T:TypeId} {sz:Nat} {u:Value} {n:Nat} {cells:List Value} (h:w.ownsRow base T sz u n cells) (hB:base'<=base):∃a c,u= .slice a n c/\OwnRow w base' a n c cells:=by
 have hcl:∀g,u.ownBlock=some g->∀j x,cells[j]? =some x->w.cell? ((⟨g,0,none⟩:Addr).add j)=some x:=fun g hg=>h.cells hg
 have hl:=h.1
 rcases h.2 with ⟨rfl,rfl⟩|⟨g,cap,cur,rfl,h1,h2,h3,h4,h5,h6⟩
 .exact ⟨none,0,rfl,Nat.le_refl _,by omega,fun _ _=>rfl,fun h=>by rcases h with h|h<;>simp at h⟩
 .refine ⟨_,cap,rfl,h3,by simpa [maxLen] using h4,fun _ h=>(by cases h),fun _=>⟨g,rfl,Nat.le_trans hB h1,fun j x hj=> ?_,fun j=> ?_, ?_⟩⟩
  .have:=hcl g rfl j x hj
   rwa [Zv,Nat.zero_add] at this
  .simp [World.frozen?,h2]
  .exact (Array.getElem?_eq_some_iff.1 h2).1
structure Fresh (w:World) (base:Nat) (l:List V) (o:List (ByteArray×V)) (a:Option Addr) (n c:Nat) (a':Option Addr) (n' c':Nat) (cl:List VC) (co:List (ByteArray×VC)):Prop where
 len:n=l.length
 len':n'=o.length
 ll:cl.length=l.length
 lo:co.length=o.length
 few:l.length<=1466015503701
 few':o.length<=1466015503701
 ownL:OwnRow w base a n c (cl.flatMap vcells)
 ownO:OwnRow w base a' n' c' (co.flatMap fcells)
 ne:∀g,(Value.slice a n c).ownBlock=some g->(Value.slice a' n' c').ownBlock≠some g
 lv:∀i,i<l.length->PV l cl (only (Free2 base (.slice a n c) (.slice a' n' c')) w) w.heap.size i
 ov:∀i,i<o.length->PF o co (only (Free2 base (.slice a n c) (.slice a' n' c')) w) w.heap.size i
theorem Yp {W:World} {g:Nat} {cl:List VC} (h:BC W g (cl.flatMap vcells)) {i:Nat} (hi:i<cl.length):ValAt W g (i*5) cl[i] :=by
 have hc:∀t x,t<5->(vcells cl[i])[t]? =some x->W.cell? ⟨g,i*5+t,none⟩=some x:=fun t x ht hx=>h.at_ _ _ ((Y0 vcells 5 (fun _=>rfl) cl i t hi ht).trans hx)
 exact ⟨hc 0 _ (by omega) rfl,hc 1 _ (by omega) rfl,hc 2 _ (by omega) rfl,hc 3 _ (by omega) rfl,hc 4 _ (by omega) rfl⟩
theorem Z3 {W:World} {g:Nat} {co:List (ByteArray×VC)} (h:BC W g (co.flatMap fcells)) {i:Nat} (hi:i<co.length):W.cell? ⟨g,i*6,none⟩=some (.string co[i].1)/\ValAt W g (i*6+1) co[i].2:=by
 have hc:∀t x,t<6->(fcells co[i])[t]? =some x->W.cell? ⟨g,i*6+t,none⟩=some x:=fun t x ht hx=>h.at_ _ _ ((Y0 fcells 6 (fun _=>rfl) co i t hi ht).trans hx)
 exact ⟨hc 0 _ (by omega) rfl,hc 1 _ (by omega) rfl,hc 2 _ (by omega) rfl,hc 3 _ (by omega) rfl,hc 4 _ (by omega) rfl,hc 5 _ (by omega) rfl⟩
theorem X0 {w:World} {B:Nat} {k n:Int} {s:ByteArray} {l:List V} {o:List (ByteArray×V)} {a:Option Addr} {m c:Nat} {a':Option Addr} {m' c':Nat} {cl:List VC} {co:List (ByteArray×VC)}
 (hk0:0<=k) (hk1:k<256) (hn0: -9223372036854775808<=n) (hn1:n<=9223372036854775807) (hs:s.size<=140737488355328)
 (hl:m=l.length) (hl':m'=o.length) (ll:cl.length=l.length) (lo:co.length=o.length) (few:l.length<=1466015503701) (few':o.length<=1466015503701)
 (c1:m<=c) (c2:c<=9223372036854775807) (c1':m'<=c') (c2':c'<=9223372036854775807)
 (ha:0<m->∃g,a=some ⟨g,0,none⟩/\g<B/\∀i (hi:i<cl.length),ValAt w g (i*5) cl[i])
 (ha':0<m'->∃g,a'=some ⟨g,0,none⟩/\g<B/\∀i (hi:i<co.length),w.cell? ⟨g,i*6,none⟩=some (.string co[i].1)/\ValAt w g (i*6+1) co[i].2)
 (lv:∀i,i<l.length->PV l cl w B i) (ov:∀i,i<o.length->PF o co w B i):IsVal w B (.mk k n s l o) ⟨k,n,s,a,m,c,a',m',c'⟩:=by
 obtain ⟨lb,hlb⟩:∃lb,0<m->a=some ⟨lb,0,none⟩/\lb<B/\∀i (hi:i<cl.length),ValAt w lb (i*5) cl[i] :=by
  by_cases h:0<m
  .obtain ⟨g,hg⟩:=ha h;exact ⟨g,fun _=>hg⟩
  .exact ⟨0,fun h'=>absurd h' h⟩
 obtain ⟨ob,hob⟩:∃ob,0<m'->a'=some ⟨ob,0,none⟩/\ob<B/\∀i (hi:i<co.length),w.cell? ⟨ob,i*6,none⟩=some (.string co[i].1)/\ValAt w ob (i*6+1) co[i].2:=by
  by_cases h:0<m'
  .obtain ⟨g,hg⟩:=ha' h;exact ⟨g,fun _=>hg⟩
  .exact ⟨0,fun h'=>absurd h' h⟩
 refine .mk ⟨k,n,s,a,m,c,a',m',c'⟩ l o (fun i=>cl.getD i vzero) (fun i=>(co.getD i fzero).2) lb 0 ob 0 ⟨hk0,hk1,hn0,hn1,hs,c1,c2,by show m<=_;omega,c1',c2',by show m'<=_;omega⟩ hl hl' (fun h=>⟨(hlb h).1,(hlb h).2.1⟩) (fun h=>⟨(hob h).1,(hob h).2.1⟩) (fun i hi=> ?_) (fun i hi=>lv i hi hi) (fun i hi=> ?_) (fun i hi=>(ov i hi hi).2.2)
 .have he:cl.getD i vzero=cl[i]'(by omega):=by simp [List.getD_eq_getElem?_getD,show i<cl.length by omega]
  simp only [he,Nat.zero_add]
  exact (hlb (by omega)).2.2 i (by omega)
 .have he:co.getD i fzero=co[i]'(by omega):=by simp [List.getD_eq_getElem?_getD,show i<co.length by omega]
  obtain ⟨p1,p2,p3⟩:=ov i hi hi
  obtain ⟨q1,q2⟩:=(hob (by omega)).2.2 i (by omega)
  rw [he] at p1
  simp only [he,Nat.zero_add]
  exact ⟨by rw [<-p1];exact q1,p2,q2⟩
theorem Yh {P:Nat->Prop} {w:World} {b o:Nat} {c:VC} (hb:P b) (h:ValAt w b o c):ValAt (only P w) b o c:=⟨Z0 hb h.c0,Z0 hb h.c1,Z0 hb h.c2,Z0 hb h.c3,Z0 hb h.c4⟩
theorem Fresh.val {w:World} {base:Nat} {l:List V} {o:List (ByteArray×V)} {a:Option Addr} {m c:Nat} {a':Option Addr} {m' c':Nat} {cl:List VC} {co:List (ByteArray×VC)} (h:Fresh w base l o a m c a' m' c' cl co)
 {k n:Int} {s:ByteArray} (hk0:0<=k) (hk1:k<256) (hn0: -9223372036854775808<=n) (hn1:n<=9223372036854775807) (hs:s.size<=140737488355328):IsVal (only (fun b=>base<=b) w) w.heap.size (.mk k n s l o) ⟨k,n,s,a,m,c,a',m',c'⟩:=by
 have hsh:Shows (only (Free2 base (.slice a m c) (.slice a' m' c')) w) (only (fun b=>base<=b) w) w.heap.size:=Ze fun k hk _=>⟨hk.1,rfl⟩
 refine X0 hk0 hk1 hn0 hn1 hs h.len h.len' h.ll h.lo h.few h.few' h.ownL.cap h.ownL.max h.ownO.cap h.ownO.max (fun hp=> ?_) (fun hp=> ?_) (fun i hi=>PV.closed _ _ _ _ _ _ i hsh (Nat.le_refl _) (h.lv i hi)) (fun i hi=>PF.closed _ _ _ _ _ _ i hsh (Nat.le_refl _) (h.ov i hi))
 .obtain ⟨g,e,hg,hbc⟩:=h.ownL.row (.inl hp)
  exact ⟨g,e,hbc.lt,fun i hi=>Yh hg (Yp hbc hi)⟩
 .obtain ⟨g,e,hg,hbc⟩:=h.ownO.row (.inl hp)
  exact ⟨g,e,hbc.lt,fun i hi=>⟨Z0 hg (Z3 hbc hi).1,Yh hg (Z3 hbc hi).2⟩⟩
def V.setL:V->Nat->V->V
 | .mk k n s l o,i,z=> .mk k n s (l.set i z) o
def putO (o:List (ByteArray×V)) (i:Nat) (z:V):List (ByteArray×V):=o.set i ((o.getD i (.empty,V.none)).1,z)
def V.setO:V->Nat->V->V
 | .mk k n s l o,i,z=> .mk k n s l (putO o i z)
def setV (W:World) (g o:Nat) (c:VC):World:=((((W.setCell ⟨g,o,none⟩ (.int .u8 c.k)).setCell ⟨g,o+1,none⟩ (.int .i64 c.n)).setCell ⟨g,o+2,none⟩ (.string c.s)).setCell ⟨g,o+3,none⟩ (.slice c.la c.ll c.lc)).setCell ⟨g,o+4,none⟩ (.slice c.oa c.ol c.oc)
theorem Zi (W:World) (g o:Nat) (c:VC):RStep W (setV W g o c) g:=(((RStep.self.trans RStep.self).trans RStep.self).trans RStep.self).trans RStep.self
theorem Zy {W:World} {b:Nat} {c0:VC} (h:BC W b (vcells c0)) (c:VC):BC (setV W b 0 c) b (vcells c):=
 ((((h.set (i:=0) (x:= .int .u8 c.k) (by simp [vcells])).set (i:=1) (x:= .int .i64 c.n) (by simp [vcells])).set (i:=2) (x:= .string c.s) (by simp [vcells])).set (i:=3) (x:= .slice c.la c.ll c.lc) (by simp [vcells])).set (i:=4) (x:= .slice c.oa c.ol c.oc) (by simp [vcells])
theorem zai (cl:List VC) (k:Nat) (hk:k<cl.length) (z:VC):(((((cl.flatMap vcells).set (k*5) (.int .u8 z.k)).set (k*5+1) (.int .i64 z.n)).set (k*5+2) (.string z.s)).set (k*5+3) (.slice z.la z.ll z.lc)).set (k*5+4) (.slice z.oa z.ol z.oc)=(cl.set k z).flatMap vcells:=by
 induction cl generalizing k with
 |nil=>cases hk
 | cons c r ih=>
   cases k with
   |zero=>simp [vcells]
   | succ k=>
     have e:∀t,(k+1)*5+t=(vcells c).length+(k*5+t):=fun t=>by show _=5+_;omega
     have e0:(k+1)*5=(vcells c).length+(k*5):=by show _=5+_;omega
     rw [e 1,e 2,e 3,e 4,e0]
     simp only [List.flatMap_cons,List.set_cons_succ]
     rw [<-ih k (by simpa using hk)]
     simp only [List.set_append_right _ _ (Nat.le_add_right _ _),Nat.add_sub_cancel_left]
theorem zad (co:List (ByteArray×VC)) (k:Nat) (hk:k<co.length) (z:VC):(((((co.flatMap fcells).set (k*6+1) (.int .u8 z.k)).set (k*6+1+1) (.int .i64 z.n)).set (k*6+1+2) (.string z.s)).set (k*6+1+3) (.slice z.la z.ll z.lc)).set (k*6+1+4) (.slice z.oa z.ol z.oc)=(co.set k (co[k].1,z)).flatMap fcells:=by
 induction co generalizing k with
 |nil=>cases hk
 | cons c r ih=>
   cases k with
   |zero=>simp [fcells]
   | succ k=>
     have e:∀t,(k+1)*6+1+t=(fcells c).length+(k*6+1+t):=fun t=>by show _=6+_;omega
     have e0:(k+1)*6+1=(fcells c).length+(k*6+1):=by show _=6+_;omega
     rw [e 1,e 2,e 3,e 4,e0]
     simp only [List.flatMap_cons,List.set_cons_succ,List.getElem_cons_succ]
     rw [<-ih k (by simpa using hk)]
     simp only [List.set_append_right _ _ (Nat.le_add_right _ _),Nat.add_sub_cancel_left]
theorem zlx {W:World} {g:Nat} {cl:List VC} (h:BC W g (cl.flatMap vcells)) {k:Nat} (hk:k<cl.length) (z:VC):BC (setV W g (k*5) z) g ((cl.set k z).flatMap vcells):=by
 have hl:(cl.flatMap vcells).length=cl.length*5:=Zk vcells 5 (fun _=>rfl) cl
 rw [<-zai cl k hk z]
 exact ((((h.set (by omega)).set (by simp only [List.length_set];omega)).set (by simp only [List.length_set];omega)).set (by simp only [List.length_set];omega)).set (by simp only [List.length_set];omega)
theorem zf3 {W:World} {g:Nat} {co:List (ByteArray×VC)} (h:BC W g (co.flatMap fcells)) {k:Nat} (hk:k<co.length) (z:VC):BC (setV W g (k*6+1) z) g ((co.set k (co[k].1,z)).flatMap fcells):=by
 have hl:(co.flatMap fcells).length=co.length*6:=Zk fcells 6 (fun _=>rfl) co
 rw [<-zad co k hk z]
 exact ((((h.set (by omega)).set (by simp only [List.length_set];omega)).set (by simp only [List.length_set];omega)).set (by simp only [List.length_set];omega)).set (by simp only [List.length_set];omega)
theorem Ju {a:Option Addr} {n c g:Nat} (e:a=some ⟨g,0,none⟩):(Value.slice a n c).ownBlock=some g:=by subst e;rfl
theorem PV.set {l:List V} {cl:List VC} {W:World} {B:Nat} (hl:cl.length=l.length) (h:∀i,i<l.length->PV l cl W B i) {z:V} {cz:VC} (hz:IsVal W B z cz) (k:Nat):∀i,i<(l.set k z).length->PV (l.set k z) (cl.set k cz) W B i:=by
 intro i hi hi2
 rw [List.length_set] at hi
 rw [List.getD_eq_getElem?_getD]
 by_cases e:k=i
 .subst e
  rw [List.getElem?_set_self (by omega),List.getElem_set_self]
  exact hz
 .rw [List.getElem?_set_ne e,List.getElem_set_ne e, <-List.getD_eq_getElem?_getD]
  exact h i hi hi
theorem PF.put {o:List (ByteArray×V)} {co:List (ByteArray×VC)} {W:World} {B:Nat} (h:∀i,i<o.length->PF o co W B i) {z:V} {cz:VC} (hz:IsVal W B z cz) (k:Nat) (hk:k<co.length):∀i,i<(putO o k z).length->PF (putO o k z) (co.set k (co[k].1,cz)) W B i:=by
 intro i hi hi2
 unfold putO at hi hi2 ⊢
 rw [List.length_set] at hi
 rw [List.getD_eq_getElem?_getD]
 by_cases e:k=i
 .subst e
  rw [List.getElem?_set_self (by omega)]
  simp only [List.getElem_set_self]
  obtain ⟨p1,p2,_⟩:=h k hi hi
  have he:co.getD k fzero=co[k] :=by simp [List.getD_eq_getElem?_getD,hk]
  have he2:o.getD k (.empty,V.none)=o[k] :=by simp [List.getD_eq_getElem?_getD,hi]
  rw [he] at p1
  rw [he2]
  exact ⟨p1,p2,hz⟩
 .rw [List.getElem?_set_ne e, <-List.getD_eq_getElem?_getD]
  simp only [List.getElem_set_ne e]
  exact h i hi hi
theorem Ki (o:List (ByteArray×V)) (k:Nat) (z:V):(putO o k z).length=o.length:=List.length_set
section
variable {w:World} {base base':Nat} {l:List V} {o:List (ByteArray×V)} {a:Option Addr} {m c:Nat} {a':Option Addr} {m' c':Nat} {cl:List VC} {co:List (ByteArray×VC)}
theorem Fresh.setL (h:Fresh w base l o a m c a' m' c' cl co) (hB:base'<=base) {kk:Nat} (hkk:kk<l.length) {z:V} {cz:VC} {g:Nat} (hg:a=some ⟨g,0,none⟩)
 (hz:IsVal (only (fun b=>base'<=b/\b≠g) w) w.heap.size z cz) {k n:Int} {s:ByteArray} (hk0:0<=k) (hk1:k<256) (hn0: -9223372036854775808<=n) (hn1:n<=9223372036854775807) (hs:s.size<=140737488355328):
 IsVal (only (fun b=>base'<=b) (setV w g (kk*5) cz)) (setV w g (kk*5) cz).heap.size (.mk k n s (l.set kk z) o) ⟨k,n,s,a,m,c,a',m',c'⟩:=by
 obtain ⟨g',e,hgb,hbc⟩:=h.ownL.row (.inr (by rw [hg];simp))
 obtain rfl:g=g':=by rw [hg] at e;injection e with e;injection e
 have st:=Zi w g (kk*5) cz
 have hu:(Value.slice a m c).ownBlock=some g:=Ju hg
 have hsh:Shows (only (Free2 base (.slice a m c) (.slice a' m' c')) w) (only (fun b=>base'<=b) (setV w g (kk*5) cz)) w.heap.size:=Ze fun q hq hl=>⟨Nat.le_trans hB hq.1,st.block q hl (fun e=>hq.2.1 (by rw [e,hu]))⟩
 have hsz:Shows (only (fun b=>base'<=b/\b≠g) w) (only (fun b=>base'<=b) (setV w g (kk*5) cz)) w.heap.size:=Ze fun q hq hl=>⟨hq.1,st.block q hl hq.2⟩
 refine X0 hk0 hk1 hn0 hn1 hs (by rw [List.length_set];exact h.len) h.len' (cl:=cl.set kk cz) (co:=co) (by simp [h.ll]) h.lo (by rw [List.length_set];exact h.few) h.few' h.ownL.cap h.ownL.max h.ownO.cap h.ownO.max (fun hp=> ?_) (fun hp=> ?_) (PV.set h.ll (fun i hi=>PV.closed _ _ _ _ _ _ i hsh st.size (h.lv i hi)) ((hz.sub hsz).more st.size) kk) (fun i hi=>PF.closed _ _ _ _ _ _ i hsh st.size (h.ov i hi))
 .exact ⟨g,hg,Nat.lt_of_lt_of_le hbc.lt st.size,fun i hi=>Yh (Nat.le_trans hB hgb) (Yp (zlx hbc (by rw [h.ll];exact hkk) cz) hi)⟩
 .obtain ⟨q,e,hq,hbo⟩:=h.ownO.row (.inl hp)
  have hne:q≠g:=fun e2=>h.ne g hu (by rw [Ju e,e2])
  have hbo':=hbo.next st hne
  exact ⟨q,e,hbo'.lt,fun i hi=>⟨Z0 (Nat.le_trans hB hq) (Z3 hbo' hi).1,Yh (Nat.le_trans hB hq) (Z3 hbo' hi).2⟩⟩
theorem Fresh.setO (h:Fresh w base l o a m c a' m' c' cl co) (hB:base'<=base) {kk:Nat} (hkk:kk<o.length) {z:V} {cz:VC} {g:Nat} (hg:a'=some ⟨g,0,none⟩)
 (hz:IsVal (only (fun b=>base'<=b/\b≠g) w) w.heap.size z cz) {k n:Int} {s:ByteArray} (hk0:0<=k) (hk1:k<256) (hn0: -9223372036854775808<=n) (hn1:n<=9223372036854775807) (hs:s.size<=140737488355328):
 IsVal (only (fun b=>base'<=b) (setV w g (kk*6+1) cz)) (setV w g (kk*6+1) cz).heap.size (.mk k n s l (putO o kk z)) ⟨k,n,s,a,m,c,a',m',c'⟩:=by
 obtain ⟨g',e,hgb,hbc⟩:=h.ownO.row (.inr (by rw [hg];simp))
 obtain rfl:g=g':=by rw [hg] at e;injection e with e;injection e
 have st:=Zi w g (kk*6+1) cz
 have hu:(Value.slice a' m' c').ownBlock=some g:=Ju hg
 have hsh:Shows (only (Free2 base (.slice a m c) (.slice a' m' c')) w) (only (fun b=>base'<=b) (setV w g (kk*6+1) cz)) w.heap.size:=Ze fun q hq hl=>⟨Nat.le_trans hB hq.1,st.block q hl (fun e=>hq.2.2 (by rw [e,hu]))⟩
 have hsz:Shows (only (fun b=>base'<=b/\b≠g) w) (only (fun b=>base'<=b) (setV w g (kk*6+1) cz)) w.heap.size:=Ze fun q hq hl=>⟨hq.1,st.block q hl hq.2⟩
 refine X0 hk0 hk1 hn0 hn1 hs h.len (by rw [Ki];exact h.len') (cl:=cl) (co:=co.set kk ((co[kk]'(by rw [h.lo];exact hkk)).1,cz)) h.ll (by rw [Ki];simp [h.lo]) h.few (by rw [Ki];exact h.few') h.ownL.cap h.ownL.max h.ownO.cap h.ownO.max (fun hp=> ?_) (fun hp=> ?_) (fun i hi=>PV.closed _ _ _ _ _ _ i hsh st.size (h.lv i hi)) (PF.put (fun i hi=>PF.closed _ _ _ _ _ _ i hsh st.size (h.ov i hi)) ((hz.sub hsz).more st.size) kk (by rw [h.lo];exact hkk))
 .obtain ⟨q,e,hq,hbo⟩:=h.ownL.row (.inl hp)
  have hne:q≠g:=fun e2=>h.ne q (Ju e) (by rw [hu,e2])
  have hbo':=hbo.next st hne
  exact ⟨q,e,hbo'.lt,fun i hi=>Yh (Nat.le_trans hB hq) (Yp hbo' hi)⟩
 .have hb2:=zf3 hbc (k:=kk) (by rw [h.lo];exact hkk) cz
  exact ⟨g,hg,hb2.lt,fun i hi=>⟨Z0 (Nat.le_trans hB hgb) (Z3 hb2 hi).1,Yh (Nat.le_trans hB hgb) (Z3 hb2 hi).2⟩⟩
end
structure Tk where
 k:Int
 n:Int
 s:ByteArray
 m:Int
structure Tk.Bnd (t:Tk):Prop where
 k0:0<=t.k
 k1:t.k<256
 n0: -9223372036854775808<=t.n
 n1:t.n<=9223372036854775807
 s1:t.s.size<=140737488355328
 m0:0<=t.m
 m1:t.m<256
structure TkAt (w:World) (b o:Nat) (t:Tk):Prop where
 c0:w.cell? ⟨b,o,none⟩=some (.int .u8 t.k)
 c1:w.cell? ⟨b,o+1,none⟩=some (.int .i64 t.n)
 c2:w.cell? ⟨b,o+2,none⟩=some (.string t.s)
 c3:w.cell? ⟨b,o+3,none⟩=some (.int .u8 t.m)
theorem TkAt.keep {w w':World} {B b o:Nat} {t:Tk} (h:TkAt w b o t) (hb:Below B w w') (hB:b<B):TkAt w' b o t:=
 ⟨Zb hb h.c0 hB,Zb hb h.c1 hB,Zb hb h.c2 hB,Zb hb h.c3 hB⟩
structure IsToks (w:World) (B:Nat) (l:List Tk) (a:Option Addr) (n c:Nat):Prop where
 len:n=l.length
 cap:n<=c
 max:c<=9223372036854775807
 at_:∃b o,(0<n->a=some ⟨b,o,none⟩/\b<B)/\∀i (h:i<l.length),TkAt w b (o+i*4) l[i] /\l[i].Bnd
theorem IsToks.keep {w w':World} {B:Nat} {l:List Tk} {a:Option Addr} {n c:Nat} (h:IsToks w B l a n c) (hb:Below B w w'):IsToks w' B l a n c:=by
 obtain ⟨h1,h2,h3,b,o,h5,h6⟩:=h
 exact ⟨h1,h2,h3,b,o,h5,fun i hi=>⟨(h6 i hi).1.keep hb (h5 (by omega)).2,(h6 i hi).2⟩⟩
theorem IsToks.more {w:World} {B B':Nat} {l:List Tk} {a:Option Addr} {n c:Nat} (h:IsToks w B l a n c) (hB:B<=B'):IsToks w B' l a n c:=by
 obtain ⟨h1,h2,h3,b,o,h5,h6⟩:=h
 exact ⟨h1,h2,h3,b,o,fun hn=>⟨(h5 hn).1,Nat.lt_of_lt_of_le (h5 hn).2 hB⟩,h6⟩
theorem IsToks.later_ {w w':World} {l:List Tk} {a:Option Addr} {n c:Nat} (h:IsToks w w.heap.size l a n c) (hb:uB w w'):IsToks w' w'.heap.size l a n c:=(h.keep hb).more hb.size
theorem IsToks.get {w:World} {B:Nat} {l:List Tk} {a:Option Addr} {n c:Nat} (h:IsToks w B l a n c) {k:Nat} (hk:k<n):
 ∃b o,∃hp:k<l.length,a=some ⟨b,o,none⟩/\b<B/\TkAt w b (o+k*4) l[k] /\l[k].Bnd:=by
 obtain ⟨h1,h2,h3,b,o,h5,h6⟩:=h
 exact ⟨b,o,by omega,(h5 (by omega)).1,(h5 (by omega)).2,h6 k (by omega)⟩
theorem IsToks.drop {w:World} {B:Nat} {l:List Tk} {a:Option Addr} {n c:Nat} (h:IsToks w B l a n c) (k:Nat) (hk:k<=n):IsToks w B (l.drop k) (a.map (fun x=>x.add (k*4))) (n - k) (c - k):=by
 obtain ⟨h1,h2,h3,b,o,h5,h6⟩:=h
 refine ⟨by rw [List.length_drop];omega,by omega,by omega,b,o+k*4,fun hn=> ?_,fun i hi=> ?_⟩
 .obtain ⟨e,hb⟩:=h5 (by omega)
  exact ⟨by rw [e,Option.map_some,Zv],hb⟩
 .rw [List.length_drop] at hi
  have:=h6 (k+i) (by omega)
  rw [List.getElem_drop,show o+k*4+i*4=o+(k+i)*4 by rw [Nat.add_mul];omega];exact this
theorem IsToks.none_left {w:World} {B:Nat} {l:List Tk} {a a':Option Addr} {n c:Nat} (h:IsToks w B l a n c) (hn:n=0):IsToks w B l a' 0 0:=by
 obtain ⟨h1,h2,h3,b,o,h5,h6⟩:=h
 exact ⟨by omega,by omega,by omega,b,o,fun h=>by omega,h6⟩
theorem IsToks.take {w:World} {B:Nat} {l:List Tk} {a:Option Addr} {n c:Nat} (h:IsToks w B l a n c) (k:Nat) (hk:k<=n):IsToks w B (l.take k) a k c:=by
 obtain ⟨h1,h2,h3,b,o,h5,h6⟩:=h
 refine ⟨by rw [List.length_take];omega,by omega,h3,b,o,fun hn=>h5 (by omega),fun i hi=> ?_⟩
 rw [List.length_take] at hi
 rw [List.getElem_take];exact h6 i (by omega)
def V.str:V->ByteArray
 | .mk _ _ s _ _=>s
def fR (f:List Tk->V×Nat) (l:List Tk):Nat->List V×Nat×Bool
 |0=>([],1,false)
 | i+1=>if (fR f l i).2.2=true then fR f l i else if (f (l.drop (fR f l i).2.1)).2=0 then ((fR f l i).1,(fR f l i).2.1,true)
   else ((fR f l i).1++ [(f (l.drop (fR f l i).2.1)).1],(fR f l i).2.1+(f (l.drop (fR f l i).2.1)).2,false)
theorem Xj {w:World} {B:Nat} {v:V} {c:VC} (h:IsVal w B v c):v.str=c.s/\c.s.size<=140737488355328:=by
 cases h with
 |mk c l o cl co lb lo ob oo hbd=>exact ⟨rfl,hbd.s1⟩
structure QR (w wr:World) (t:Tk) (c:VC):Prop where
 res:BC wr w.heap.size [.int .u8 0, .int .i64 0, .string { data:= #[] }, .slice none 0 0, .slice none 0 0]
 tok:BC wr (w.heap.size+1) [.int .u8 t.k, .int .i64 t.n, .string t.s, .int .u8 t.m]
 val:BC wr (w.heap.size+2) (vcells c)
 below:Below w.heap.size w wr
theorem QR.next {w wr W:World} {t:Tk} {c:VC} (h:QR w wr t c) (hb:uB wr W):QR w W t c:=
 ⟨h.res.keep hb h.res.lt,h.tok.keep hb h.tok.lt,h.val.keep hb h.val.lt,h.below.trans (hb.mono (Nat.le_of_lt h.res.lt))⟩
theorem QR.below_ {w wr W:World} {t:Tk} {c:VC} (h:QR w wr t c) {B:Nat} (hb:Below B wr W) (hB:w.heap.size+3<=B):QR w W t c:=
 ⟨h.res.keep hb (by omega),h.tok.keep hb (by omega),h.val.keep hb (by omega),h.below.trans (hb.mono (by omega))⟩
def RawPost (w:World) (r:V×Nat) (e:Ending) (w':World):Prop:=
 (∃c:VC,e= .returned (.tuple #[.agg #[.int .u8 c.k, .int .i64 c.n, .string c.s, .slice c.la c.ll c.lc, .slice c.oa c.ol c.oc], .int .i64 (r.2:Int)])/\IsVal (only (fun b=>w.heap.size<=b) w') w'.heap.size r.1 c)/\Below w.heap.size w w'
theorem QR.stored {w W:World} {t:Tk} {c0:VC} (h:QR w W t c0) (c:VC):BC (((((W.setCell ⟨w.heap.size,0,none⟩ (.int .u8 c.k)).setCell ⟨w.heap.size,1,none⟩ (.int .i64 c.n)).setCell ⟨w.heap.size,2,none⟩ (.string c.s)).setCell ⟨w.heap.size,3,none⟩ (.slice c.la c.ll c.lc)).setCell ⟨w.heap.size,4,none⟩ (.slice c.oa c.ol c.oc)) w.heap.size (vcells c)/\uB w (((((W.setCell ⟨w.heap.size,0,none⟩ (.int .u8 c.k)).setCell ⟨w.heap.size,1,none⟩ (.int .i64 c.n)).setCell ⟨w.heap.size,2,none⟩ (.string c.s)).setCell ⟨w.heap.size,3,none⟩ (.slice c.la c.ll c.lc)).setCell ⟨w.heap.size,4,none⟩ (.slice c.oa c.ol c.oc))/\RStep W (((((W.setCell ⟨w.heap.size,0,none⟩ (.int .u8 c.k)).setCell ⟨w.heap.size,1,none⟩ (.int .i64 c.n)).setCell ⟨w.heap.size,2,none⟩ (.string c.s)).setCell ⟨w.heap.size,3,none⟩ (.slice c.la c.ll c.lc)).setCell ⟨w.heap.size,4,none⟩ (.slice c.oa c.ol c.oc)) w.heap.size:=by
 delta uB
 have s1:RStep W (((((W.setCell ⟨w.heap.size,0,none⟩ (.int .u8 c.k)).setCell ⟨w.heap.size,1,none⟩ (.int .i64 c.n)).setCell ⟨w.heap.size,2,none⟩ (.string c.s)).setCell ⟨w.heap.size,3,none⟩ (.slice c.la c.ll c.lc)).setCell ⟨w.heap.size,4,none⟩ (.slice c.oa c.ol c.oc)) w.heap.size:=(((RStep.self.trans RStep.self).trans RStep.self).trans RStep.self).trans RStep.self
 refine ⟨((((h.res.set (i:=0) (x:= .int .u8 c.k) (by simp)).set (i:=1) (x:= .int .i64 c.n) (by simp)).set (i:=2) (x:= .string c.s) (by simp)).set (i:=3) (x:= .slice c.la c.ll c.lc) (by simp)).set (i:=4) (x:= .slice c.oa c.ol c.oc) (by simp),h.below.trans (s1.below (Nat.le_of_lt h.res.lt)),s1⟩
def fld (xs:List V):List (ByteArray×V):=xs.map fun x=>(x.str,x)
def low (b:UInt8):UInt8:=UInt8.ofNat (b.toNat % 128)
def plainL (l:List UInt8):List UInt8:=(l.take 40).map low
def plainS (s:ByteArray):ByteArray:=⟨(plainL s.data.toList).toArray⟩
set_option maxRecDepth 100000 in
theorem Qy {w:World} {B:Nat} {v:Value} {bs:List UInt8} (ho:w.ownsRow B 5 1 v bs.length (outs bs)):∃a n c,v= .slice a n c/\IsB w w.heap.size a n c bs:=by
 have hc:=fun g hg=>ho.cells (g:=g) hg
 have hlt:=ho.lt
 rcases ho.2 with ⟨rfl,hn⟩|⟨g,cap,cur,rfl,_,hg,hnc,hcm,_,_⟩
 .have:bs= [] :=List.length_eq_zero_iff.1 hn
  subst this
  exact ⟨none,0,0,rfl, .nil _ _⟩
 .refine ⟨_,_,_,rfl,rfl,hnc,by simpa [maxLen] using hcm,g,0,fun _=>⟨rfl,(hlt g rfl).2⟩,fun i hi=> ?_⟩
  have:=hc g rfl i (.int .u8 (bs[i].toNat:Int)) (by simp [outs,hi])
  rw [Zv] at this;exact this
theorem K6 (l:List UInt8) (j:Nat) (h:j<l.length):(l.take (j+1)).map low=(l.take j).map low++ [low l[j]] :=by
 rw [Z2 l j h,List.map_append];rfl
theorem za3 (b:UInt8):(((low b).toNat:Nat):Int)=(b.toNat:Int) % 128:=by
 have h:(low b).toNat=b.toNat % 128:=by
  unfold low
  rw [UInt8.toNat_ofNat']
  omega
 rw [h];omega
structure PH (w wr:World) (s:ByteArray) (j:Nat) (u:Value):Prop where
 own:wr.ownsRow w.heap.size 5 1 u j (outs ((s.data.toList.take j).map low))
 below:Below w.heap.size w wr
set_option maxRecDepth 100000 in
theorem zan (w:World) (s:ByteArray) (hs:s.size<=140737488355328):
 uP 55 #[.string s] w fun e w'=>e= .returned (.string (plainS s))/\uB w w':=by
 delta uB uP
 obtain ⟨i0,hi0,hz0,hz1,hz2⟩:=info_parts zcz
 have hsz:s.data.toList.length=s.size:=Array.length_toList
 have HS:=qh hsz
 clear hsz
 go_enter Tryz.func55,Tryz.ntmps55
 go_wp2_with fail
 go_loopw [3,4] (fun u i wr=>∃(j:Nat) (a:Option Addr) (m c:Nat),j<=40/\j<=s.size/\i= .int .i64 j/\u= .slice a m c/\PH w wr s j (.slice a m c)) (fun _ i _=>40 - (intOf i).toNat)
 case atStart=>exact ⟨0,none,0,0,by omega,Nat.zero_le _,rfl,rfl,⟨⟨by simp [outs], .inl ⟨rfl,rfl⟩⟩,Below.refl _ _⟩⟩
 case round=>
  obtain ⟨j,a,m,c,hj,hj2,rfl,rfl,L⟩:=hrel
  have hlen:=HS.out
  by_cases h1:j<s.size
  .by_cases h2:j<40
   .have hgb:s.data.toList[j]'(by omega)=s[j]'h1:=by simp [ByteArray.getElem_eq_getElem_data]
    have hsn:=K6 s.data.toList j (by omega)
    rw [hgb] at hsn
    have HSN:=qh hsn
    have hrlt:∀b,(Value.slice a m c).ownBlock=some b->w.heap.size<=b/\b<wr.heap.size:=L.own.lt
    have hb:=L.below.size
    have LL:=qh L
    have ho:=L.own
    clear hsn hgb L
    go_wp2_with (at_builtin;refine wpList_append_lies _ rfl (.tmp 15) (.tmp 20) 68 (by rfl) w.heap.size 5 i0 _ 1 1 Tryz.underlying68 hi0 hz0 hz1 hz2 rfl (by omega) (.slice a m c) j (outs ((s.data.toList.take j).map low)) (by rfl) (ho.alloc _) ⟨wr.heap.size,0,none⟩ 1 1 [.int .u8 ((s[j]'h1).toNat % 128:Int)] (by rfl) (by rfl) (World.news_of_block (cs:= #[.int .u8 ((s[j]'h1).toNat % 128:Int)]) (t:=5) (fr:=(0,0)) (heap_alloc_new wr _)) (by simp [Value.oneCell']) (by omega) (by unfold maxLen;omega) (by omega) (by simp;omega) (wr.heap.size+1) (by simp) ?_;intro g cap w7 hown7 hgrow7 hat7 hlt7)
    go_roundw
    case rel=>
     refine ⟨j+1,some ⟨g,0,none⟩,j+1,cap,by omega,by omega,by go_num,rfl,⟨?_, ?_⟩⟩
     .rw [HSN.out,zbd]
      have e:outs [low (s[j]'h1)] = [.int .u8 ((s[j]'h1).toNat % 128:Int)] :=by simp [outs,za3]
      rw [e];exact hown7
     .exact (LL.out.below.trans (((Below.refl _ _).alloc (Nat.le_refl _) _).mono hb)).trans (Zj hgrow7 (fun k hk=>(hrlt k hk).1) (by simp;omega))
    case measure=>simp [intOf];omega
   .obtain ⟨a2,n2,c2,hv2,hI⟩:=Qy (bs:=(s.data.toList.take j).map low) (by rw [List.length_map,List.length_take,Nat.min_eq_left (by omega)];exact L.own)
    injection hv2 with h3 h4 h5;subst h3 h4 h5
    have hcv:=Jh hI
    have LL:=qh L
    have hp:((s.data.toList.take j).map low)=plainL s.data.toList:=by rw [plainL,show j=40 by omega]
    rw [hp] at hcv
    clear hI L hp
    go_wp2_with fail
    go_returns
    exact ⟨rfl,LL.out.below⟩
  .obtain ⟨a2,n2,c2,hv2,hI⟩:=Qy (bs:=(s.data.toList.take j).map low) (by rw [List.length_map,List.length_take,Nat.min_eq_left (by omega)];exact L.own)
   injection hv2 with h3 h4 h5;subst h3 h4 h5
   have hcv:=Jh hI
   have LL:=qh L
   have hp:((s.data.toList.take j).map low)=plainL s.data.toList:=by rw [plainL,List.take_of_length_le (by omega),List.take_of_length_le (by omega)]
   rw [hp] at hcv
   clear hI L hp
   go_wp2_with fail
   go_returns
   exact ⟨rfl,LL.out.below⟩
def fieldK (o:List (ByteArray×V)) (key:ByteArray):Nat:=(o.takeWhile fun f=>Op.bytesLess f.1.toList key.toList).length
def fieldIs (o:List (ByteArray×V)) (key:ByteArray):Bool:=match o[fieldK o key]? with
 |some f=>f.1.toList==key.toList
 |none=>false
theorem Q5 (o:List (ByteArray×V)) (key:ByteArray) (j:Nat) (h:∀i (hi:i<o.length),i<j->Op.bytesLess (o[i]'hi).1.toList key.toList=true) (hj:j<=o.length) (he:j=o.length∨∃hi:j<o.length,Op.bytesLess (o[j]'hi).1.toList key.toList=false):fieldK o key=j:=by
 unfold fieldK
 induction o generalizing j with
 |nil=>simp at hj;subst hj;rfl
 | cons f o ih=>
   cases j with
   | zero=>
     rcases he with he|⟨hi,he⟩
     .simp at he
     .simp only [List.getElem_cons_zero] at he
      simp [he]
   | succ j=>
     have h0:=h 0 (by simp) (by omega)
     simp only [List.getElem_cons_zero] at h0
     have:=ih j (fun i hi hij=>by have:=h (i+1) (by simpa using hi) (by omega);simpa using this) (by simpa using hj) (by
      rcases he with he|⟨hi,he⟩
      .left;simpa using he
      .right;exact ⟨by simpa using hi,by simpa using he⟩)
     simp [h0,this]
theorem Z7 {B:Nat} {a w:World} (h:Below B a w) (n:Nat):Below B a (w.drewN n):=h.trans ⟨rfl,rfl,rfl,Nat.le_refl _,fun _ _=>rfl⟩
set_option maxRecDepth 100000 in
theorem Yj (w:World) (o:List (ByteArray×V)) (key:ByteArray) (k n:Int) (s:ByteArray) (la:Option Addr) (ll lc:Nat) (oa:Option Addr) (ol oc:Nat) (h:IsFields w w.heap.size o oa ol oc):
 uP 103 #[.agg (uU k n s la ll lc oa ol oc), .string key] w fun e w'=>e= .returned (.tuple #[.int .i64 (fieldK o key:Int), .bool (fieldIs o key)])/\uB w w':=by
 delta uU uB uP
 have hlen:=h.len
 have HI:=qh h
 have HL:=qh hlen
 have k1:=h.max;have k2:=h.few
 have HB0:=qh (BC.start w (uU k n s la ll lc oa ol oc) 29)
 clear h hlen
 go_enter Tryz.func103,Tryz.ntmps103
 go_wp2_with fail
 go_loopw [6] (fun i wr=>BC wr w.heap.size [.int .u8 k, .int .i64 n, .string s, .slice la ll lc, .slice oa ol oc] /\uB w wr/\∃j:Nat,j<=ol/\i= .int .i64 j/\Hid (∀i (hi:i<o.length),i<j->Op.bytesLess (o[i]'hi).1.toList key.toList=true)) (fun i _=>ol - (intOf i).toNat)
 case atStart=>exact ⟨HB0.out,(Below.refl _ _).alloc (Nat.le_refl _) _,0,Nat.zero_le _,rfl,qh (fun i hi hj=>by omega)⟩
 case round=>
  obtain ⟨hbc,hbl,j,hj,rfl,hall⟩:=hrel
  have c4:=hbc.at_ 4 _ rfl
  have zs:=hbc.lt
  have HBC:=qh hbc
  have HBL:=qh hbl
  by_cases hlt:j<ol
  .obtain ⟨b,o',f,hp,rfl,hbB,hkey,hks,_⟩:=(HI.out.keep hbl).get hlt
   have hbw:b<wr.heap.size:=World.block_lt_of_cell? wr _ hkey
   obtain ⟨lb,hlb⟩:∃lb,Op.bytesLess (o[j]'hp).1.toList key.toList=lb:=⟨_,rfl⟩
   cases lb with
   | true=>
     have HLB:=qh hlb
     clear hbc hbl
     go_wp2_with fail
     go_roundw
     case rel=>exact ⟨HBC.out,HBL.out,j+1,by omega,by go_num,qh (fun i hi hij=>by
      by_cases e:i=j
      .subst e;exact HLB.out
      .exact hall.out i hi (by omega))⟩
     case measure=>simp [intOf];omega
   | false=>
     obtain ⟨eb,heb⟩:∃eb,((o[j]'hp).1.toList==key.toList)=eb:=⟨_,rfl⟩
     have hk:fieldK o key=j:=Q5 o key j hall.out (by omega) (.inr ⟨hp,hlb⟩)
     have hi:fieldIs o key=eb:=by
      rw [fieldIs,hk,List.getElem?_eq_getElem hp];exact heb
     have HK:=qh hk
     have HII:=qh hi
     clear hbc hbl hk hi
     go_wp2_with fail
     go_quiet (fail)
     go_wp2_with fail
     go_returns
     exact ⟨by rw [HK.out,HII.out];rfl,Z7 HBL.out _⟩
  .have hj2:j=ol:=by omega
   subst hj2
   have hk:fieldK o key=j:=Q5 o key j hall.out (by rw [HL.out];exact Nat.le_refl _) (.inl HL.out)
   have hi:fieldIs o key=false:=by
    rw [fieldIs,hk,List.getElem?_eq_none (by rw [HL.out];exact Nat.le_refl _)]
   have HK:=qh hk
   have HII:=qh hi
   clear hbc hbl hk hi
   go_wp2_with fail
   go_quiet (fail)
   go_wp2_with fail
   go_returns
   exact ⟨by rw [HK.out,HII.out];rfl,Z7 HBL.out _⟩
def withF (o:List (ByteArray×V)) (key:ByteArray) (x:V):List (ByteArray×V):=o.take (fieldK o key)++(key,x)::o.drop (if fieldIs o key=true then fieldK o key+1 else fieldK o key)
theorem Yo (o:List (ByteArray×V)) (key:ByteArray):fieldK o key<=o.length:=(List.takeWhile_sublist _).length_le
theorem Xg {o:List (ByteArray×V)} {key:ByteArray} (h:fieldIs o key=true):fieldK o key<o.length:=by
 unfold fieldIs at h
 by_cases hq:fieldK o key<o.length
 .exact hq
 .rw [List.getElem?_eq_none (by omega)] at h;cases h
theorem IsFields.cells {w:World} {B:Nat} {o:List (ByteArray×V)} {a:Option Addr} {n c:Nat} (h:IsFields w B o a n c):
 ∃(cs:List (ByteArray×VC)) (b off:Nat),cs.length=o.length/\(0<n->a=some ⟨b,off,none⟩/\b<B)/\(∀j u,(cs.flatMap fcells)[j]? =some u->w.cell? ⟨b,off+j,none⟩=some u)/\∀i,i<o.length->PF o cs w B i:=by
 obtain ⟨h1,h2,h3,h4,b,off,f,h5,h6⟩:=h
 have hlen:((List.range o.length).map fun i=>((o.getD i (.empty,V.none)).1,f i)).length=o.length:=by simp
 have hget:∀i (hi:i<o.length),((List.range o.length).map fun i=>((o.getD i (.empty,V.none)).1,f i))[i]? =some (o[i].1,f i):=by
  intro i hi
  simp [hi,List.getD_eq_getElem?_getD]
 refine ⟨(List.range o.length).map fun i=>((o.getD i (.empty,V.none)).1,f i),b,off,hlen,h5,fun j u hj=> ?_,fun i hi h=> ?_⟩
 .have hjl:j<o.length*6:=by
   have:=(List.getElem?_eq_some_iff.1 hj).1
   rw [Zk fcells 6 (fun _=>rfl),hlen] at this
   exact this
  have hi:j / 6<o.length:=by omega
  have hd:j=j / 6*6+j % 6:=by omega
  rw [hd,Y0 fcells 6 (fun _=>rfl) _ (j / 6) (j % 6) (by rw [hlen];exact hi) (by omega)] at hj
  have he:((List.range o.length).map fun i=>((o.getD i (.empty,V.none)).1,f i))[j / 6]'(by rw [hlen];exact hi)=(o[j / 6].1,f (j / 6)):=by
   have:=hget (j / 6) hi
   rw [List.getElem?_eq_getElem (by rw [hlen];exact hi)] at this
   exact Option.some.inj this
  rw [he] at hj
  obtain ⟨g1,g2,g3,g4⟩:=h6 (j / 6) hi
  have hm:j % 6<6:=by omega
  rw [hd, <-Nat.add_assoc]
  obtain ⟨m,hmm⟩:∃m,j % 6=m:=⟨_,rfl⟩
  rw [hmm] at hj hm ⊢
  match m,hm with
  |0,_=>rw [<-hj];exact g1
  |1,_=>rw [<-hj];exact g3.c0
  |2,_=>rw [<-hj];exact g3.c1
  |3,_=>rw [<-hj];exact g3.c2
  |4,_=>rw [<-hj];exact g3.c3
  |5,_=>rw [<-hj];exact g3.c4
 .obtain ⟨g1,g2,g3,g4⟩:=h6 i hi
  have he:((List.range o.length).map fun i=>((o.getD i (.empty,V.none)).1,f i)).getD i fzero=(o[i].1,f i):=by
   rw [List.getD_eq_getElem?_getD,hget i hi];rfl
  rw [he]
  exact ⟨rfl,g2,g4⟩
theorem X7 {w:World} {B0 B1:Nat} {v:Value} {l:List (ByteArray×V)} {cs:List (ByteArray×VC)} (hown:w.ownsRow B1 62 6 v l.length (cs.flatMap fcells)) (hB:B0<=B1) (hl:cs.length=l.length) (hels:∀i,i<l.length->PF l cs (only (Free B0 v) w) w.heap.size i) (hfew:l.length<=1466015503701):
 ∃a n c,v= .slice a n c/\IsFields (only (fun b=>B0<=b) w) w.heap.size l a n c/\(a=none->c=0):=by
 have hown2:w.ownsRow B0 62 6 v l.length (cs.flatMap fcells):=by
  refine ⟨hown.1, ?_⟩
  rcases hown.2 with h|⟨g,cap,cur,h1,h2,h3⟩
  .exact .inl h
  .exact .inr ⟨g,cap,cur,h1,Nat.le_trans hB h2,h3⟩
 have hv:∃a n c,v= .slice a n c/\(a=none->c=0):=by
  rcases hown.2 with ⟨h,_⟩|⟨g,cap,cur,h1,_⟩
  .exact ⟨_,_,_,h,fun _=>rfl⟩
  .exact ⟨_,_,_,h1,fun h=>by cases h⟩
 obtain ⟨a,n,c,rfl,hz⟩:=hv
 have hrow:RowF w B0 (.slice a n c) l cs:=⟨hown2,hels⟩
 have:=(RowF.val hrow (lo:=B0) hl (Nat.le_refl _) 5 (by omega) (by omega) hfew).lists
 exact ⟨a,n,c,rfl,this.2.2.2.2.2,hz⟩
def WithPost (w:World) (B0:Nat) (l:List (ByteArray×V)) (e:Ending) (w':World):Prop:=
 (∃a n c,e= .returned (.slice a n c)/\IsFields (only (fun b=>B0<=b) w') w'.heap.size l a n c/\(a=none->c=0))/\Below w.heap.size w w'
def scells (s:St):List Value:= [.bool s.list, .int .i64 s.i, .string s.key]
def czero:CC:=⟨0,none,0,0, .empty,0,0,0,vzero, .empty⟩
def ccells (c:CC):List Value:= [.int .u8 c.k, .slice c.pa c.pl c.pc, .string c.key, .int .i64 c.i, .int .i64 c.j, .int .i64 c.n, .int .u8 c.v.k, .int .i64 c.v.n, .string c.v.s, .slice c.v.la c.v.ll c.v.lc, .slice c.v.oa c.v.ol c.v.oc, .string c.s]
theorem Xb {P:Program} (w:World) (dT sT ty elem:TypeId) (sz:Nat) (g o dLen dCap:Nat) (a:Addr) (sLen sCap:Nat) (cur:Array Value) (t:TypeId) (cs:List Value)
 (hu:P.underlying dT=some (.slice elem)) (hs:(P.info? elem).map (·.size)=some sz)
 (hg:w.heap[g]? =some (.cells cur t (0,0))) (m:Nat) (hm:Nat.min sLen dLen=m) (hn:cs.length=m*sz)
 (hsrc:∀j v,cs[j]? =some v->w.cell? (a.add j)=some v) (hfit:o+cs.length<=cur.size) (h1:∀v ∈ cs,v.oneCell'=true):
 (Builtin.copy_ #[dT,sT] ty #[.slice (some ⟨g,o,none⟩) dLen dCap, .slice (some a) sLen sCap]).run P w=
  .ok (goInt m) (w.setRow g (cur.toList.take o++cs++cur.toList.drop (o+cs.length)).toArray):=by
 have hl:=run_loadCells_list (P:=P) w a cs hsrc
 have hst:=run_storeCells_at P g o t cs 0 cur w hg (by simpa using hfit) h1
 cases hq:P.info? elem with
 |none=>simp [hq] at hs
 | some i=>
   have hi:i.size=sz:=by simpa [hq] using hs
   simp [Builtin.copy_,run_underlying hu,Builtin.lenOf,Builtin.firstCells,sizeOf,typeInfo,hq,hi,hm, <-hn,hl,hst]
theorem zab {α:Type} (L x:List α) (p r:Nat) (hp:p<=r) (hr:r+x.length<=L.length):
 (((L.take (p+x.length)++(L.take r).drop p++L.drop (r+x.length)).take p++x++(L.take (p+x.length)++(L.take r).drop p++L.drop (r+x.length)).drop (p+x.length)).take (r+x.length))=(L.take r).take p++x++(L.take r).drop p:=by
 have h1:(L.take (p+x.length)++(L.take r).drop p++L.drop (r+x.length)).take p=L.take p:=by
  rw [List.append_assoc,List.take_append_of_le_length (by rw [List.length_take];omega),List.take_take]
  congr 1;omega
 have h2:(L.take (p+x.length)++(L.take r).drop p++L.drop (r+x.length)).drop (p+x.length)=(L.take r).drop p++L.drop (r+x.length):=by
  rw [List.append_assoc,List.drop_append_of_le_length (by rw [List.length_take];omega),List.drop_eq_nil_of_le (by rw [List.length_take];omega),List.nil_append]
 rw [h1,h2, <-List.append_assoc,List.take_left' (by simp;omega),List.take_take,Nat.min_eq_left hp]
theorem zby {α:Type} (R x xs:List α) (p:Nat) (hp:p<=xs.length) (hR:R.take p=xs.take p) (hl:xs.length+x.length<=R.length):
 (((R.take p++x++R.drop (p+x.length)).take (p+x.length)++xs.drop p++(R.take p++x++R.drop (p+x.length)).drop (p+x.length+(xs.drop p).length)).take (xs.length+x.length))=xs.take p++x++xs.drop p:=by
 have h1:(R.take p++x++R.drop (p+x.length)).take (p+x.length)=xs.take p++x:=by
  rw [List.take_left' (by simp;omega),hR]
 rw [h1,List.take_left' (by simp;omega)]
def RowPost (w:World) (base:Nat) (T:TypeId) (sz:Nat) (v:Value) (n:Nat) (ys:List Value) (e:Ending) (w':World):Prop:=
 ∃v',e= .returned v'/\w'.ownsRow base T sz v' n ys/\w.grownBy w' v.ownBlock/\(v'.ownBlock=v.ownBlock∨v'.ownBlock=some w.heap.size)
end Go.Proofs.YtbgheehjfnoiiaaGreatDoor
