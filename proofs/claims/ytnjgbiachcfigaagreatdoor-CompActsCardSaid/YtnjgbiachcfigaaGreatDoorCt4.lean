/-
  Contracts of the functions that the law reaches: reader.value: what stands in memory.
-/
import Derived.Test.YtnjgbiachcfigaaGreatDoorCt3
namespace Go.Proofs.YtnjgbiachcfigaaGreatDoor
open Go.RowKit
theorem RStep.frozen {w w':World} {rb:Nat} (h:RStep w w' rb) {b o:Nat} (hl:b<w.heap.size) (hb:b≠rb):w'.frozen? ⟨b,o,none⟩=w.frozen? ⟨b,o,none⟩:=
 World.frozen?_of_block (h.block b hl hb)
theorem X8 (W:World) (B:Nat) (k n:Int) (s:ByteArray) (hk0:0<=k) (hk1:k<256) (hn0: -9223372036854775808<=n) (hn1:n<=9223372036854775807) (hs:s.size<=140737488355328):IsVal W B (.mk k n s [] []) ⟨k,n,s,none,0,0,none,0,0⟩:=
 .mk ⟨k,n,s,none,0,0,none,0,0⟩ [] [] (fun _=>vzero) (fun _=>vzero) 0 0 0 0 ⟨hk0,hk1,hn0,hn1,hs,(by decide:(0:Nat)<=0),(by decide:(0:Nat)<=9223372036854775807),(by decide:(0:Nat)<=1466015503701),(by decide:(0:Nat)<=0),(by decide:(0:Nat)<=9223372036854775807),(by decide:(0:Nat)<=1466015503701)⟩ rfl rfl (fun h=>by cases h) (fun h=>by cases h) (fun i h=>by cases h) (fun i h=>by cases h) (fun i h=>by cases h) (fun i h=>by cases h)
theorem zbo (x:Int): -9223372036854775808<=wrap64 x:=by unfold wrap64;omega
theorem Kr (x:Int):wrap64 x<=9223372036854775807:=by unfold wrap64;omega
theorem Zj {w w':World} {row:Option Nat} {B:Nat} (hg:w.grownBy w' row) (hr:∀k,row=some k->B<=k) (hB:B<=w.heap.size):Below B w w':=
 ⟨hg.os,hg.tape,hg.output,hg.size,fun k hk=>hg.block k (by omega) (fun e=>by have:=hr k e.symm;omega)⟩
theorem Zf (w:World):Below w.heap.size w w.drew:=(Below.refl _ _).drew
theorem RStep.self {W:World} {b o:Nat} {x:Value} :RStep W (W.setCell ⟨b,o,none⟩ x) b:=⟨rfl,rfl,rfl,by simp,fun k hk hr=>heap_setCell_other _ _ _ _ hr⟩
theorem Zm {W W':World} {b base:Nat} {x:V} {c:VC} (h:IsVal (only (fun k=>base<=k) W) W.heap.size x c) (s:RStep W W' b) (hb:b<base):IsVal (only (fun k=>base<=k) W') W'.heap.size x c:=
 (h.sub (Ze fun k hk hl=>⟨hk,s.block k hl (by omega)⟩)).more s.size
structure BC (W:World) (b:Nat) (cs:List Value):Prop where
 at_:∀j x,cs[j]? =some x->W.cell? ⟨b,j,none⟩=some x
 fr:∀j,W.frozen? ⟨b,j,none⟩=false
 lt:b<W.heap.size
theorem BC.start (w:World) (cs:Array Value) (t:TypeId):BC (w.alloc (.cells cs t)) w.heap.size cs.toList:=
 ⟨fun j x hj=>Zo w cs t j x (by rw [<-hj];simp),fun j=>zdk w cs t j,by simp⟩
theorem BC.next {W W':World} {b rb:Nat} {cs:List Value} (h:BC W b cs) (s:RStep W W' rb) (hb:b≠rb):BC W' b cs:=
 ⟨fun j x hj=>s.cell (h.at_ j x hj) hb,fun j=>(s.frozen h.lt hb).trans (h.fr j),Nat.lt_of_lt_of_le h.lt s.size⟩
theorem BC.keep {W W':World} {b B:Nat} {cs:List Value} (h:BC W b cs) (hb:Below B W W') (hB:b<B):BC W' b cs:=
 ⟨fun j x hj=>Zb hb (h.at_ j x hj) hB,fun j=>(hb.frozen (p:=⟨b,j,none⟩) hB).trans (h.fr j),Nat.lt_of_lt_of_le h.lt hb.size⟩
theorem BC.set {W:World} {b i:Nat} {x:Value} {cs:List Value} (h:BC W b cs) (hi:i<cs.length):BC (W.setCell ⟨b,i,none⟩ x) b (cs.set i x):=by
 refine ⟨fun j y hj=> ?_,fun j=>by simpa using h.fr j,by simpa using h.lt⟩
 by_cases e:i=j
 .subst e
  rw [List.getElem?_set_self hi] at hj
  injection hj with hj
  subst hj
  exact World.cell?_setCell_same _ _ _ (h.at_ i cs[i] (by simp [hi]))
 .rw [List.getElem?_set_ne e] at hj
  rw [World.cell?_setCell_other]
  .exact h.at_ j y hj
  .intro e2;injection e2 with _ e3;exact e (by first|exact e3|exact e3.symm)
theorem BC.far {W:World} {b b' o:Nat} {x:Value} {cs:List Value} (h:BC W b cs) (hb:b≠b'):BC (W.setCell ⟨b',o,none⟩ x) b cs:=
 h.next RStep.self hb
theorem Yc:(Tryz.prog.info? 36).map (fun i=>(i.zero,i.size,i.bytes))=some (some (.agg #[.int .u8 0, .int .i64 0, .string { data:= #[] }, .slice none 0 0, .slice none 0 0]),5,80):=by kernel_rfl
theorem Ya:(Tryz.prog.info? 75).map (fun i=>(i.zero,i.size,i.bytes))=some (some (.agg #[.string { data:= #[] }, .int .u8 0, .int .i64 0, .string { data:= #[] }, .slice none 0 0, .slice none 0 0]),6,96):=by kernel_rfl
def V.kd:V->Int
 | .mk k _ _ _ _=>k
def V.nm:V->Int
 | .mk _ n _ _ _=>n
def V.ls:V->List V
 | .mk _ _ _ l _=>l
def V.os:V->List (ByteArray×V)
 | .mk _ _ _ _ o=>o
theorem V.eta (v:V):∃k n s l o,v= .mk k n s l o:=by cases v;exact ⟨_,_,_,_,_,rfl⟩
def Free2 (base:Nat) (u uo:Value):Nat->Prop:=fun k=>base<=k/\some k≠u.ownBlock/\some k≠uo.ownBlock
structure OwnRow (w:World) (base:Nat) (a:Option Addr) (n c:Nat) (cells:List Value):Prop where
 cap:n<=c
 max:c<=9223372036854775807
 none_:n=0->a=none->c=0
 row:0<n∨a≠none->∃g,a=some ⟨g,0,none⟩/\base<=g/\BC w g cells
theorem OwnRow.of {w:World} {base base':Nat} {T:TypeId} {sz:Nat} {u:Value} {n:Nat} {cells:List Value} (h:w.ownsRow base T sz u n cells) (hB:base'<=base):∃a c,u= .slice a n c/\OwnRow w base' a n c cells:=by
 have hcl:∀g,u.ownBlock=some g->∀j x,cells[j]? =some x->w.cell? ((⟨g,0,none⟩:Addr).add j)=some x:=fun g hg=>h.cells hg
 have hl:=h.1
 rcases h.2 with ⟨rfl,rfl⟩|⟨g,cap,cur,rfl,h1,h2,h3,h4,h5,h6⟩
 .exact ⟨none,0,rfl,Nat.le_refl _,by omega,fun _ _=>rfl,fun h=>by rcases h with h|h<;>simp at h⟩
 .refine ⟨_,cap,rfl,h3,by simpa [maxLen] using h4,fun _ h=>(by cases h),fun _=>⟨g,rfl,Nat.le_trans hB h1,fun j x hj=> ?_,fun j=> ?_, ?_⟩⟩
  .have:=hcl g rfl j x hj
   rwa [Zt,Nat.zero_add] at this
  .simp [World.frozen?,h2]
  .exact (Array.getElem?_eq_some_iff.1 h2).1
structure Fresh (w:World) (base:Nat) (l:List V) (o:List (ByteArray×V)) (a:Option Addr) (n c:Nat) (a':Option Addr) (n' c':Nat) (cl:List VC) (co:List (ByteArray×VC)):Prop where
 len:n=l.length
 len':n'=o.length
 ll:cl.length=l.length
 lo:co.length=o.length
 few:l.length<=1466015503701
 few':o.length<=1466015503701
 ownL:OwnRow w base a n c (cl.flatMap vcells)
 ownO:OwnRow w base a' n' c' (co.flatMap fcells)
 ne:∀g,(Value.slice a n c).ownBlock=some g->(Value.slice a' n' c').ownBlock≠some g
 lv:∀i,i<l.length->PV l cl (only (Free2 base (.slice a n c) (.slice a' n' c')) w) w.heap.size i
 ov:∀i,i<o.length->PF o co (only (Free2 base (.slice a n c) (.slice a' n' c')) w) w.heap.size i
theorem Yo {W:World} {g:Nat} {cl:List VC} (h:BC W g (cl.flatMap vcells)) {i:Nat} (hi:i<cl.length):ValAt W g (i*5) cl[i] :=by
 have hc:∀t x,t<5->(vcells cl[i])[t]? =some x->W.cell? ⟨g,i*5+t,none⟩=some x:=fun t x ht hx=>h.at_ _ _ ((Xh vcells 5 (fun _=>rfl) cl i t hi ht).trans hx)
 exact ⟨hc 0 _ (by omega) rfl,hc 1 _ (by omega) rfl,hc 2 _ (by omega) rfl,hc 3 _ (by omega) rfl,hc 4 _ (by omega) rfl⟩
theorem Z2 {W:World} {g:Nat} {co:List (ByteArray×VC)} (h:BC W g (co.flatMap fcells)) {i:Nat} (hi:i<co.length):W.cell? ⟨g,i*6,none⟩=some (.string co[i].1)/\ValAt W g (i*6+1) co[i].2:=by
 have hc:∀t x,t<6->(fcells co[i])[t]? =some x->W.cell? ⟨g,i*6+t,none⟩=some x:=fun t x ht hx=>h.at_ _ _ ((Xh fcells 6 (fun _=>rfl) co i t hi ht).trans hx)
 exact ⟨hc 0 _ (by omega) rfl,hc 1 _ (by omega) rfl,hc 2 _ (by omega) rfl,hc 3 _ (by omega) rfl,hc 4 _ (by omega) rfl,hc 5 _ (by omega) rfl⟩
theorem Xq {w:World} {B:Nat} {k n:Int} {s:ByteArray} {l:List V} {o:List (ByteArray×V)} {a:Option Addr} {m c:Nat} {a':Option Addr} {m' c':Nat} {cl:List VC} {co:List (ByteArray×VC)}
 (hk0:0<=k) (hk1:k<256) (hn0: -9223372036854775808<=n) (hn1:n<=9223372036854775807) (hs:s.size<=140737488355328)
 (hl:m=l.length) (hl':m'=o.length) (ll:cl.length=l.length) (lo:co.length=o.length) (few:l.length<=1466015503701) (few':o.length<=1466015503701)
 (c1:m<=c) (c2:c<=9223372036854775807) (c1':m'<=c') (c2':c'<=9223372036854775807)
 (ha:0<m->∃g,a=some ⟨g,0,none⟩/\g<B/\∀i (hi:i<cl.length),ValAt w g (i*5) cl[i])
 (ha':0<m'->∃g,a'=some ⟨g,0,none⟩/\g<B/\∀i (hi:i<co.length),w.cell? ⟨g,i*6,none⟩=some (.string co[i].1)/\ValAt w g (i*6+1) co[i].2)
 (lv:∀i,i<l.length->PV l cl w B i) (ov:∀i,i<o.length->PF o co w B i):IsVal w B (.mk k n s l o) ⟨k,n,s,a,m,c,a',m',c'⟩:=by
 obtain ⟨lb,hlb⟩:∃lb,0<m->a=some ⟨lb,0,none⟩/\lb<B/\∀i (hi:i<cl.length),ValAt w lb (i*5) cl[i] :=by
  by_cases h:0<m
  .obtain ⟨g,hg⟩:=ha h;exact ⟨g,fun _=>hg⟩
  .exact ⟨0,fun h'=>absurd h' h⟩
 obtain ⟨ob,hob⟩:∃ob,0<m'->a'=some ⟨ob,0,none⟩/\ob<B/\∀i (hi:i<co.length),w.cell? ⟨ob,i*6,none⟩=some (.string co[i].1)/\ValAt w ob (i*6+1) co[i].2:=by
  by_cases h:0<m'
  .obtain ⟨g,hg⟩:=ha' h;exact ⟨g,fun _=>hg⟩
  .exact ⟨0,fun h'=>absurd h' h⟩
 refine .mk ⟨k,n,s,a,m,c,a',m',c'⟩ l o (fun i=>cl.getD i vzero) (fun i=>(co.getD i fzero).2) lb 0 ob 0 ⟨hk0,hk1,hn0,hn1,hs,c1,c2,by show m<=_;omega,c1',c2',by show m'<=_;omega⟩ hl hl' (fun h=>⟨(hlb h).1,(hlb h).2.1⟩) (fun h=>⟨(hob h).1,(hob h).2.1⟩) (fun i hi=> ?_) (fun i hi=>lv i hi hi) (fun i hi=> ?_) (fun i hi=>(ov i hi hi).2.2)
 .have he:cl.getD i vzero=cl[i]'(by omega):=by simp [List.getD_eq_getElem?_getD,show i<cl.length by omega]
  simp only [he,Nat.zero_add]
  exact (hlb (by omega)).2.2 i (by omega)
 .have he:co.getD i fzero=co[i]'(by omega):=by simp [List.getD_eq_getElem?_getD,show i<co.length by omega]
  obtain ⟨p1,p2,p3⟩:=ov i hi hi
  obtain ⟨q1,q2⟩:=(hob (by omega)).2.2 i (by omega)
  rw [he] at p1
  simp only [he,Nat.zero_add]
  exact ⟨by rw [<-p1];exact q1,p2,q2⟩
theorem Yd {P:Nat->Prop} {w:World} {b o:Nat} {c:VC} (hb:P b) (h:ValAt w b o c):ValAt (only P w) b o c:=⟨Z3 hb h.c0,Z3 hb h.c1,Z3 hb h.c2,Z3 hb h.c3,Z3 hb h.c4⟩
theorem Fresh.val {w:World} {base:Nat} {l:List V} {o:List (ByteArray×V)} {a:Option Addr} {m c:Nat} {a':Option Addr} {m' c':Nat} {cl:List VC} {co:List (ByteArray×VC)} (h:Fresh w base l o a m c a' m' c' cl co)
 {k n:Int} {s:ByteArray} (hk0:0<=k) (hk1:k<256) (hn0: -9223372036854775808<=n) (hn1:n<=9223372036854775807) (hs:s.size<=140737488355328):IsVal (only (fun b=>base<=b) w) w.heap.size (.mk k n s l o) ⟨k,n,s,a,m,c,a',m',c'⟩:=by
 have hsh:Shows (only (Free2 base (.slice a m c) (.slice a' m' c')) w) (only (fun b=>base<=b) w) w.heap.size:=Ze fun k hk _=>⟨hk.1,rfl⟩
 refine Xq hk0 hk1 hn0 hn1 hs h.len h.len' h.ll h.lo h.few h.few' h.ownL.cap h.ownL.max h.ownO.cap h.ownO.max (fun hp=> ?_) (fun hp=> ?_) (fun i hi=>PV.closed _ _ _ _ _ _ i hsh (Nat.le_refl _) (h.lv i hi)) (fun i hi=>PF.closed _ _ _ _ _ _ i hsh (Nat.le_refl _) (h.ov i hi))
 .obtain ⟨g,e,hg,hbc⟩:=h.ownL.row (.inl hp)
  exact ⟨g,e,hbc.lt,fun i hi=>Yd hg (Yo hbc hi)⟩
 .obtain ⟨g,e,hg,hbc⟩:=h.ownO.row (.inl hp)
  exact ⟨g,e,hbc.lt,fun i hi=>⟨Z3 hg (Z2 hbc hi).1,Yd hg (Z2 hbc hi).2⟩⟩
def V.setL:V->Nat->V->V
 | .mk k n s l o,i,z=> .mk k n s (l.set i z) o
def putO (o:List (ByteArray×V)) (i:Nat) (z:V):List (ByteArray×V):=o.set i ((o.getD i (.empty,V.none)).1,z)
def V.setO:V->Nat->V->V
 | .mk k n s l o,i,z=> .mk k n s l (putO o i z)
def setV (W:World) (g o:Nat) (c:VC):World:=((((W.setCell ⟨g,o,none⟩ (.int .u8 c.k)).setCell ⟨g,o+1,none⟩ (.int .i64 c.n)).setCell ⟨g,o+2,none⟩ (.string c.s)).setCell ⟨g,o+3,none⟩ (.slice c.la c.ll c.lc)).setCell ⟨g,o+4,none⟩ (.slice c.oa c.ol c.oc)
theorem Zi (W:World) (g o:Nat) (c:VC):RStep W (setV W g o c) g:=(((RStep.self.trans RStep.self).trans RStep.self).trans RStep.self).trans RStep.self
theorem Zz {W:World} {b:Nat} {c0:VC} (h:BC W b (vcells c0)) (c:VC):BC (setV W b 0 c) b (vcells c):=
 ((((h.set (i:=0) (x:= .int .u8 c.k) (by simp [vcells])).set (i:=1) (x:= .int .i64 c.n) (by simp [vcells])).set (i:=2) (x:= .string c.s) (by simp [vcells])).set (i:=3) (x:= .slice c.la c.ll c.lc) (by simp [vcells])).set (i:=4) (x:= .slice c.oa c.ol c.oc) (by simp [vcells])
theorem zab (cl:List VC) (k:Nat) (hk:k<cl.length) (z:VC):(((((cl.flatMap vcells).set (k*5) (.int .u8 z.k)).set (k*5+1) (.int .i64 z.n)).set (k*5+2) (.string z.s)).set (k*5+3) (.slice z.la z.ll z.lc)).set (k*5+4) (.slice z.oa z.ol z.oc)=(cl.set k z).flatMap vcells:=by
 induction cl generalizing k with
 |nil=>cases hk
 | cons c r ih=>
   cases k with
   |zero=>simp [vcells]
   | succ k=>
     have e:∀t,(k+1)*5+t=(vcells c).length+(k*5+t):=fun t=>by show _=5+_;omega
     have e0:(k+1)*5=(vcells c).length+(k*5):=by show _=5+_;omega
     rw [e 1,e 2,e 3,e 4,e0]
     simp only [List.flatMap_cons,List.set_cons_succ]
     rw [<-ih k (by simpa using hk)]
     simp only [List.set_append_right _ _ (Nat.le_add_right _ _),Nat.add_sub_cancel_left]
theorem Kv (co:List (ByteArray×VC)) (k:Nat) (hk:k<co.length) (z:VC):(((((co.flatMap fcells).set (k*6+1) (.int .u8 z.k)).set (k*6+1+1) (.int .i64 z.n)).set (k*6+1+2) (.string z.s)).set (k*6+1+3) (.slice z.la z.ll z.lc)).set (k*6+1+4) (.slice z.oa z.ol z.oc)=(co.set k (co[k].1,z)).flatMap fcells:=by
 induction co generalizing k with
 |nil=>cases hk
 | cons c r ih=>
   cases k with
   |zero=>simp [fcells]
   | succ k=>
     have e:∀t,(k+1)*6+1+t=(fcells c).length+(k*6+1+t):=fun t=>by show _=6+_;omega
     have e0:(k+1)*6+1=(fcells c).length+(k*6+1):=by show _=6+_;omega
     rw [e 1,e 2,e 3,e 4,e0]
     simp only [List.flatMap_cons,List.set_cons_succ,List.getElem_cons_succ]
     rw [<-ih k (by simpa using hk)]
     simp only [List.set_append_right _ _ (Nat.le_add_right _ _),Nat.add_sub_cancel_left]
theorem zfe {W:World} {g:Nat} {cl:List VC} (h:BC W g (cl.flatMap vcells)) {k:Nat} (hk:k<cl.length) (z:VC):BC (setV W g (k*5) z) g ((cl.set k z).flatMap vcells):=by
 have hl:(cl.flatMap vcells).length=cl.length*5:=Zl vcells 5 (fun _=>rfl) cl
 rw [<-zab cl k hk z]
 exact ((((h.set (by omega)).set (by simp only [List.length_set];omega)).set (by simp only [List.length_set];omega)).set (by simp only [List.length_set];omega)).set (by simp only [List.length_set];omega)
theorem zgn {W:World} {g:Nat} {co:List (ByteArray×VC)} (h:BC W g (co.flatMap fcells)) {k:Nat} (hk:k<co.length) (z:VC):BC (setV W g (k*6+1) z) g ((co.set k (co[k].1,z)).flatMap fcells):=by
 have hl:(co.flatMap fcells).length=co.length*6:=Zl fcells 6 (fun _=>rfl) co
 rw [<-Kv co k hk z]
 exact ((((h.set (by omega)).set (by simp only [List.length_set];omega)).set (by simp only [List.length_set];omega)).set (by simp only [List.length_set];omega)).set (by simp only [List.length_set];omega)
theorem Q7 {a:Option Addr} {n c g:Nat} (e:a=some ⟨g,0,none⟩):(Value.slice a n c).ownBlock=some g:=by subst e;rfl
theorem PV.set {l:List V} {cl:List VC} {W:World} {B:Nat} (hl:cl.length=l.length) (h:∀i,i<l.length->PV l cl W B i) {z:V} {cz:VC} (hz:IsVal W B z cz) (k:Nat):∀i,i<(l.set k z).length->PV (l.set k z) (cl.set k cz) W B i:=by
 intro i hi hi2
 rw [List.length_set] at hi
 rw [List.getD_eq_getElem?_getD]
 by_cases e:k=i
 .subst e
  rw [List.getElem?_set_self (by omega),List.getElem_set_self]
  exact hz
 .rw [List.getElem?_set_ne e,List.getElem_set_ne e, <-List.getD_eq_getElem?_getD]
  exact h i hi hi
theorem PF.put {o:List (ByteArray×V)} {co:List (ByteArray×VC)} {W:World} {B:Nat} (h:∀i,i<o.length->PF o co W B i) {z:V} {cz:VC} (hz:IsVal W B z cz) (k:Nat) (hk:k<co.length):∀i,i<(putO o k z).length->PF (putO o k z) (co.set k (co[k].1,cz)) W B i:=by
 intro i hi hi2
 unfold putO at hi hi2 ⊢
 rw [List.length_set] at hi
 rw [List.getD_eq_getElem?_getD]
 by_cases e:k=i
 .subst e
  rw [List.getElem?_set_self (by omega)]
  simp only [List.getElem_set_self]
  obtain ⟨p1,p2,_⟩:=h k hi hi
  have he:co.getD k fzero=co[k] :=by simp [List.getD_eq_getElem?_getD,hk]
  have he2:o.getD k (.empty,V.none)=o[k] :=by simp [List.getD_eq_getElem?_getD,hi]
  rw [he] at p1
  rw [he2]
  exact ⟨p1,p2,hz⟩
 .rw [List.getElem?_set_ne e, <-List.getD_eq_getElem?_getD]
  simp only [List.getElem_set_ne e]
  exact h i hi hi
theorem J3 (o:List (ByteArray×V)) (k:Nat) (z:V):(putO o k z).length=o.length:=List.length_set
section
variable {w:World} {base base':Nat} {l:List V} {o:List (ByteArray×V)} {a:Option Addr} {m c:Nat} {a':Option Addr} {m' c':Nat} {cl:List VC} {co:List (ByteArray×VC)}
theorem Fresh.setL (h:Fresh w base l o a m c a' m' c' cl co) (hB:base'<=base) {kk:Nat} (hkk:kk<l.length) {z:V} {cz:VC} {g:Nat} (hg:a=some ⟨g,0,none⟩)
 (hz:IsVal (only (fun b=>base'<=b/\b≠g) w) w.heap.size z cz) {k n:Int} {s:ByteArray} (hk0:0<=k) (hk1:k<256) (hn0: -9223372036854775808<=n) (hn1:n<=9223372036854775807) (hs:s.size<=140737488355328):
 IsVal (only (fun b=>base'<=b) (setV w g (kk*5) cz)) (setV w g (kk*5) cz).heap.size (.mk k n s (l.set kk z) o) ⟨k,n,s,a,m,c,a',m',c'⟩:=by
 obtain ⟨g',e,hgb,hbc⟩:=h.ownL.row (.inr (by rw [hg];simp))
 obtain rfl:g=g':=by rw [hg] at e;injection e with e;injection e
 have st:=Zi w g (kk*5) cz
 have hu:(Value.slice a m c).ownBlock=some g:=Q7 hg
 have hsh:Shows (only (Free2 base (.slice a m c) (.slice a' m' c')) w) (only (fun b=>base'<=b) (setV w g (kk*5) cz)) w.heap.size:=Ze fun q hq hl=>⟨Nat.le_trans hB hq.1,st.block q hl (fun e=>hq.2.1 (by rw [e,hu]))⟩
 have hsz:Shows (only (fun b=>base'<=b/\b≠g) w) (only (fun b=>base'<=b) (setV w g (kk*5) cz)) w.heap.size:=Ze fun q hq hl=>⟨hq.1,st.block q hl hq.2⟩
 refine Xq hk0 hk1 hn0 hn1 hs (by rw [List.length_set];exact h.len) h.len' (cl:=cl.set kk cz) (co:=co) (by simp [h.ll]) h.lo (by rw [List.length_set];exact h.few) h.few' h.ownL.cap h.ownL.max h.ownO.cap h.ownO.max (fun hp=> ?_) (fun hp=> ?_) (PV.set h.ll (fun i hi=>PV.closed _ _ _ _ _ _ i hsh st.size (h.lv i hi)) ((hz.sub hsz).more st.size) kk) (fun i hi=>PF.closed _ _ _ _ _ _ i hsh st.size (h.ov i hi))
 .exact ⟨g,hg,Nat.lt_of_lt_of_le hbc.lt st.size,fun i hi=>Yd (Nat.le_trans hB hgb) (Yo (zfe hbc (by rw [h.ll];exact hkk) cz) hi)⟩
 .obtain ⟨q,e,hq,hbo⟩:=h.ownO.row (.inl hp)
  have hne:q≠g:=fun e2=>h.ne g hu (by rw [Q7 e,e2])
  have hbo':=hbo.next st hne
  exact ⟨q,e,hbo'.lt,fun i hi=>⟨Z3 (Nat.le_trans hB hq) (Z2 hbo' hi).1,Yd (Nat.le_trans hB hq) (Z2 hbo' hi).2⟩⟩
theorem Fresh.setO (h:Fresh w base l o a m c a' m' c' cl co) (hB:base'<=base) {kk:Nat} (hkk:kk<o.length) {z:V} {cz:VC} {g:Nat} (hg:a'=some ⟨g,0,none⟩)
 (hz:IsVal (only (fun b=>base'<=b/\b≠g) w) w.heap.size z cz) {k n:Int} {s:ByteArray} (hk0:0<=k) (hk1:k<256) (hn0: -9223372036854775808<=n) (hn1:n<=9223372036854775807) (hs:s.size<=140737488355328):
 IsVal (only (fun b=>base'<=b) (setV w g (kk*6+1) cz)) (setV w g (kk*6+1) cz).heap.size (.mk k n s l (putO o kk z)) ⟨k,n,s,a,m,c,a',m',c'⟩:=by
 obtain ⟨g',e,hgb,hbc⟩:=h.ownO.row (.inr (by rw [hg];simp))
 obtain rfl:g=g':=by rw [hg] at e;injection e with e;injection e
 have st:=Zi w g (kk*6+1) cz
 have hu:(Value.slice a' m' c').ownBlock=some g:=Q7 hg
 have hsh:Shows (only (Free2 base (.slice a m c) (.slice a' m' c')) w) (only (fun b=>base'<=b) (setV w g (kk*6+1) cz)) w.heap.size:=Ze fun q hq hl=>⟨Nat.le_trans hB hq.1,st.block q hl (fun e=>hq.2.2 (by rw [e,hu]))⟩
 have hsz:Shows (only (fun b=>base'<=b/\b≠g) w) (only (fun b=>base'<=b) (setV w g (kk*6+1) cz)) w.heap.size:=Ze fun q hq hl=>⟨hq.1,st.block q hl hq.2⟩
 refine Xq hk0 hk1 hn0 hn1 hs h.len (by rw [J3];exact h.len') (cl:=cl) (co:=co.set kk ((co[kk]'(by rw [h.lo];exact hkk)).1,cz)) h.ll (by rw [J3];simp [h.lo]) h.few (by rw [J3];exact h.few') h.ownL.cap h.ownL.max h.ownO.cap h.ownO.max (fun hp=> ?_) (fun hp=> ?_) (fun i hi=>PV.closed _ _ _ _ _ _ i hsh st.size (h.lv i hi)) (PF.put (fun i hi=>PF.closed _ _ _ _ _ _ i hsh st.size (h.ov i hi)) ((hz.sub hsz).more st.size) kk (by rw [h.lo];exact hkk))
 .obtain ⟨q,e,hq,hbo⟩:=h.ownL.row (.inl hp)
  have hne:q≠g:=fun e2=>h.ne q (Q7 e) (by rw [hu,e2])
  have hbo':=hbo.next st hne
  exact ⟨q,e,hbo'.lt,fun i hi=>Yd (Nat.le_trans hB hq) (Yo hbo' hi)⟩
 .have hb2:=zgn hbc (k:=kk) (by rw [h.lo];exact hkk) cz
  exact ⟨g,hg,hb2.lt,fun i hi=>⟨Z3 (Nat.le_trans hB hgb) (Z2 hb2 hi).1,Yd (Nat.le_trans hB hgb) (Z2 hb2 hi).2⟩⟩
end
structure Tk where
 k:Int
 n:Int
 s:ByteArray
 m:Int
structure Tk.Bnd (t:Tk):Prop where
 k0:0<=t.k
 k1:t.k<256
 n0: -9223372036854775808<=t.n
 n1:t.n<=9223372036854775807
 s1:t.s.size<=140737488355328
 m0:0<=t.m
 m1:t.m<256
structure TkAt (w:World) (b o:Nat) (t:Tk):Prop where
 c0:w.cell? ⟨b,o,none⟩=some (.int .u8 t.k)
 c1:w.cell? ⟨b,o+1,none⟩=some (.int .i64 t.n)
 c2:w.cell? ⟨b,o+2,none⟩=some (.string t.s)
 c3:w.cell? ⟨b,o+3,none⟩=some (.int .u8 t.m)
theorem TkAt.keep {w w':World} {B b o:Nat} {t:Tk} (h:TkAt w b o t) (hb:Below B w w') (hB:b<B):TkAt w' b o t:=
 ⟨Zb hb h.c0 hB,Zb hb h.c1 hB,Zb hb h.c2 hB,Zb hb h.c3 hB⟩
structure IsToks (w:World) (B:Nat) (l:List Tk) (a:Option Addr) (n c:Nat):Prop where
 len:n=l.length
 cap:n<=c
 max:c<=9223372036854775807
 at_:∃b o,(0<n->a=some ⟨b,o,none⟩/\b<B)/\∀i (h:i<l.length),TkAt w b (o+i*4) l[i] /\l[i].Bnd
theorem IsToks.keep {w w':World} {B:Nat} {l:List Tk} {a:Option Addr} {n c:Nat} (h:IsToks w B l a n c) (hb:Below B w w'):IsToks w' B l a n c:=by
 obtain ⟨h1,h2,h3,b,o,h5,h6⟩:=h
 exact ⟨h1,h2,h3,b,o,h5,fun i hi=>⟨(h6 i hi).1.keep hb (h5 (by omega)).2,(h6 i hi).2⟩⟩
theorem IsToks.more {w:World} {B B':Nat} {l:List Tk} {a:Option Addr} {n c:Nat} (h:IsToks w B l a n c) (hB:B<=B'):IsToks w B' l a n c:=by
 obtain ⟨h1,h2,h3,b,o,h5,h6⟩:=h
 exact ⟨h1,h2,h3,b,o,fun hn=>⟨(h5 hn).1,Nat.lt_of_lt_of_le (h5 hn).2 hB⟩,h6⟩
theorem IsToks.later_ {w w':World} {l:List Tk} {a:Option Addr} {n c:Nat} (h:IsToks w w.heap.size l a n c) (hb:Below w.heap.size w w'):IsToks w' w'.heap.size l a n c:=(h.keep hb).more hb.size
theorem IsToks.get {w:World} {B:Nat} {l:List Tk} {a:Option Addr} {n c:Nat} (h:IsToks w B l a n c) {k:Nat} (hk:k<n):
 ∃b o,∃hp:k<l.length,a=some ⟨b,o,none⟩/\b<B/\TkAt w b (o+k*4) l[k] /\l[k].Bnd:=by
 obtain ⟨h1,h2,h3,b,o,h5,h6⟩:=h
 exact ⟨b,o,by omega,(h5 (by omega)).1,(h5 (by omega)).2,h6 k (by omega)⟩
theorem IsToks.drop {w:World} {B:Nat} {l:List Tk} {a:Option Addr} {n c:Nat} (h:IsToks w B l a n c) (k:Nat) (hk:k<=n):IsToks w B (l.drop k) (a.map (fun x=>x.add (k*4))) (n - k) (c - k):=by
 obtain ⟨h1,h2,h3,b,o,h5,h6⟩:=h
 refine ⟨by rw [List.length_drop];omega,by omega,by omega,b,o+k*4,fun hn=> ?_,fun i hi=> ?_⟩
 .obtain ⟨e,hb⟩:=h5 (by omega)
  exact ⟨by rw [e,Option.map_some,Zt],hb⟩
 .rw [List.length_drop] at hi
  have:=h6 (k+i) (by omega)
  rw [List.getElem_drop,show o+k*4+i*4=o+(k+i)*4 by rw [Nat.add_mul];omega];exact this
theorem IsToks.none_left {w:World} {B:Nat} {l:List Tk} {a a':Option Addr} {n c:Nat} (h:IsToks w B l a n c) (hn:n=0):IsToks w B l a' 0 0:=by
 obtain ⟨h1,h2,h3,b,o,h5,h6⟩:=h
 exact ⟨by omega,by omega,by omega,b,o,fun h=>by omega,h6⟩
theorem IsToks.take {w:World} {B:Nat} {l:List Tk} {a:Option Addr} {n c:Nat} (h:IsToks w B l a n c) (k:Nat) (hk:k<=n):IsToks w B (l.take k) a k c:=by
 obtain ⟨h1,h2,h3,b,o,h5,h6⟩:=h
 refine ⟨by rw [List.length_take];omega,by omega,h3,b,o,fun hn=>h5 (by omega),fun i hi=> ?_⟩
 rw [List.length_take] at hi
 rw [List.getElem_take];exact h6 i (by omega)
def V.str:V->ByteArray
 | .mk _ _ s _ _=>s
def fR (f:List Tk->V×Nat) (l:List Tk):Nat->List V×Nat×Bool
 |0=>([],1,false)
 | i+1=>if (fR f l i).2.2=true then fR f l i else if (f (l.drop (fR f l i).2.1)).2=0 then ((fR f l i).1,(fR f l i).2.1,true)
   else ((fR f l i).1++ [(f (l.drop (fR f l i).2.1)).1],(fR f l i).2.1+(f (l.drop (fR f l i).2.1)).2,false)
end Go.Proofs.YtnjgbiachcfigaaGreatDoor
