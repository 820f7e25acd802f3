/-
  Contracts of the functions that the law reaches: A value whose list and object lie in.
-/
import Derived.Test.YtfoahkbnheijcaaGreatDoorMa6
namespace Go.Proofs.YtfoahkbnheijcaaGreatDoor
open Go.RowKit
def V.kd:V->Int
 | .mk k _ _ _ _=>k
def V.nm:V->Int
 | .mk _ n _ _ _=>n
def V.ls:V->List V
 | .mk _ _ _ l _=>l
def V.os:V->List (ByteArray×V)
 | .mk _ _ _ _ o=>o
theorem V.eta (v:V):∃k n s l o,v= .mk k n s l o:=by cases v;exact ⟨_,_,_,_,_,rfl⟩
def Free2 (base:Nat) (u uo:Value):Nat->Prop:=fun k=>base<=k/\some k≠u.ownBlock/\some k≠uo.ownBlock
structure OwnRow (w:World) (base:Nat) (a:Option Addr) (n c:Nat) (cells:List Value):Prop where
 cap:n<=c
 max:c<=9223372036854775807
 none_:n=0->a=none->c=0
 row:0<n∨a≠none->∃g,a=some ⟨g,0,none⟩/\base<=g/\BC w g cells
theorem OwnRow.of {w:World} {base base':Nat} {T:TypeId} {sz:Nat} {u:Value} {n:Nat} {cells:List Value} (h:w.ownsRow base T sz u n cells) (hB:base'<=base):∃a c,u= .slice a n c/\OwnRow w base' a n c cells:=by
 have hcl:∀g,u.ownBlock=some g->∀j x,cells[j]? =some x->w.cell? ((⟨g,0,none⟩:Addr).add j)=some x:=fun g hg=>h.cells hg
 have hl:=h.1
 rcases h.2 with ⟨rfl,rfl⟩|⟨g,cap,cur,rfl,h1,h2,h3,h4,h5,h6⟩
 .exact ⟨none,0,rfl,Nat.le_refl _,by omega,fun _ _=>rfl,fun h=>by rcases h with h|h<;>simp at h⟩
 .refine ⟨_,cap,rfl,h3,by simpa [maxLen] using h4,fun _ h=>(by cases h),fun _=>⟨g,rfl,Nat.le_trans hB h1,fun j x hj=> ?_,fun j=> ?_, ?_⟩⟩
  .have:=hcl g rfl j x hj
   rwa [Zs,Nat.zero_add] at this
  .simp [World.frozen?,h2]
  .exact (Array.getElem?_eq_some_iff.1 h2).1
structure Fresh (w:World) (base:Nat) (l:List V) (o:List (ByteArray×V)) (a:Option Addr) (n c:Nat) (a':Option Addr) (n' c':Nat) (cl:List VC) (co:List (ByteArray×VC)):Prop where
 len:n=l.length
 len':n'=o.length
 ll:cl.length=l.length
 lo:co.length=o.length
 few:l.length<=1466015503701
 few':o.length<=1466015503701
 ownL:OwnRow w base a n c (cl.flatMap vcells)
 ownO:OwnRow w base a' n' c' (co.flatMap fcells)
 ne:∀g,(Value.slice a n c).ownBlock=some g->(Value.slice a' n' c').ownBlock≠some g
 lv:∀i,i<l.length->PV l cl (only (Free2 base (.slice a n c) (.slice a' n' c')) w) w.heap.size i
 ov:∀i,i<o.length->PF o co (only (Free2 base (.slice a n c) (.slice a' n' c')) w) w.heap.size i
theorem Xy {W:World} {g:Nat} {cl:List VC} (h:BC W g (cl.flatMap vcells)) {i:Nat} (hi:i<cl.length):ValAt W g (i*5) cl[i] :=by
 have hc:∀t x,t<5->(vcells cl[i])[t]? =some x->W.cell? ⟨g,i*5+t,none⟩=some x:=fun t x ht hx=>h.at_ _ _ ((Xl vcells 5 (fun _=>rfl) cl i t hi ht).trans hx)
 exact ⟨hc 0 _ (by omega) rfl,hc 1 _ (by omega) rfl,hc 2 _ (by omega) rfl,hc 3 _ (by omega) rfl,hc 4 _ (by omega) rfl⟩
theorem Yn {W:World} {g:Nat} {co:List (ByteArray×VC)} (h:BC W g (co.flatMap fcells)) {i:Nat} (hi:i<co.length):W.cell? ⟨g,i*6,none⟩=some (.string co[i].1)/\ValAt W g (i*6+1) co[i].2:=by
 have hc:∀t x,t<6->(fcells co[i])[t]? =some x->W.cell? ⟨g,i*6+t,none⟩=some x:=fun t x ht hx=>h.at_ _ _ ((Xl fcells 6 (fun _=>rfl) co i t hi ht).trans hx)
 exact ⟨hc 0 _ (by omega) rfl,hc 1 _ (by omega) rfl,hc 2 _ (by omega) rfl,hc 3 _ (by omega) rfl,hc 4 _ (by omega) rfl,hc 5 _ (by omega) rfl⟩
theorem zae {w:World} {B:Nat} {k n:Int} {s:ByteArray} {l:List V} {o:List (ByteArray×V)} {a:Option Addr} {m c:Nat} {a':Option Addr} {m' c':Nat} {cl:List VC} {co:List (ByteArray×VC)}
 (hk0:0<=k) (hk1:k<256) (hn0: -9223372036854775808<=n) (hn1:n<=9223372036854775807) (hs:s.size<=140737488355328)
 (hl:m=l.length) (hl':m'=o.length) (ll:cl.length=l.length) (lo:co.length=o.length) (few:l.length<=1466015503701) (few':o.length<=1466015503701)
 (c1:m<=c) (c2:c<=9223372036854775807) (c1':m'<=c') (c2':c'<=9223372036854775807)
 (ha:0<m->∃g,a=some ⟨g,0,none⟩/\g<B/\∀i (hi:i<cl.length),ValAt w g (i*5) cl[i])
 (ha':0<m'->∃g,a'=some ⟨g,0,none⟩/\g<B/\∀i (hi:i<co.length),w.cell? ⟨g,i*6,none⟩=some (.string co[i].1)/\ValAt w g (i*6+1) co[i].2)
 (lv:∀i,i<l.length->PV l cl w B i) (ov:∀i,i<o.length->PF o co w B i):IsVal w B (.mk k n s l o) ⟨k,n,s,a,m,c,a',m',c'⟩:=by
 obtain ⟨lb,hlb⟩:∃lb,0<m->a=some ⟨lb,0,none⟩/\lb<B/\∀i (hi:i<cl.length),ValAt w lb (i*5) cl[i] :=by
  by_cases h:0<m
  .obtain ⟨g,hg⟩:=ha h;exact ⟨g,fun _=>hg⟩
  .exact ⟨0,fun h'=>absurd h' h⟩
 obtain ⟨ob,hob⟩:∃ob,0<m'->a'=some ⟨ob,0,none⟩/\ob<B/\∀i (hi:i<co.length),w.cell? ⟨ob,i*6,none⟩=some (.string co[i].1)/\ValAt w ob (i*6+1) co[i].2:=by
  by_cases h:0<m'
  .obtain ⟨g,hg⟩:=ha' h;exact ⟨g,fun _=>hg⟩
  .exact ⟨0,fun h'=>absurd h' h⟩
 refine .mk ⟨k,n,s,a,m,c,a',m',c'⟩ l o (fun i=>cl.getD i vzero) (fun i=>(co.getD i fzero).2) lb 0 ob 0 ⟨hk0,hk1,hn0,hn1,hs,c1,c2,by show m<=_;omega,c1',c2',by show m'<=_;omega⟩ hl hl' (fun h=>⟨(hlb h).1,(hlb h).2.1⟩) (fun h=>⟨(hob h).1,(hob h).2.1⟩) (fun i hi=> ?_) (fun i hi=>lv i hi hi) (fun i hi=> ?_) (fun i hi=>(ov i hi hi).2.2)
 .have he:cl.getD i vzero=cl[i]'(by omega):=by simp [List.getD_eq_getElem?_getD,show i<cl.length by omega]
  simp only [he,Nat.zero_add]
  exact (hlb (by omega)).2.2 i (by omega)
 .have he:co.getD i fzero=co[i]'(by omega):=by simp [List.getD_eq_getElem?_getD,show i<co.length by omega]
  obtain ⟨p1,p2,p3⟩:=ov i hi hi
  obtain ⟨q1,q2⟩:=(hob (by omega)).2.2 i (by omega)
  rw [he] at p1
  simp only [he,Nat.zero_add]
  exact ⟨by rw [<-p1];exact q1,p2,q2⟩
theorem Xr {P:Nat->Prop} {w:World} {b o:Nat} {c:VC} (hb:P b) (h:ValAt w b o c):ValAt (only P w) b o c:=⟨Z4 hb h.c0,Z4 hb h.c1,Z4 hb h.c2,Z4 hb h.c3,Z4 hb h.c4⟩
theorem Fresh.val {w:World} {base:Nat} {l:List V} {o:List (ByteArray×V)} {a:Option Addr} {m c:Nat} {a':Option Addr} {m' c':Nat} {cl:List VC} {co:List (ByteArray×VC)} (h:Fresh w base l o a m c a' m' c' cl co)
 {k n:Int} {s:ByteArray} (hk0:0<=k) (hk1:k<256) (hn0: -9223372036854775808<=n) (hn1:n<=9223372036854775807) (hs:s.size<=140737488355328):IsVal (only (fun b=>base<=b) w) w.heap.size (.mk k n s l o) ⟨k,n,s,a,m,c,a',m',c'⟩:=by
 have hsh:Shows (only (Free2 base (.slice a m c) (.slice a' m' c')) w) (only (fun b=>base<=b) w) w.heap.size:=Zf fun k hk _=>⟨hk.1,rfl⟩
 refine zae hk0 hk1 hn0 hn1 hs h.len h.len' h.ll h.lo h.few h.few' h.ownL.cap h.ownL.max h.ownO.cap h.ownO.max (fun hp=> ?_) (fun hp=> ?_) (fun i hi=>PV.closed _ _ _ _ _ _ i hsh (Nat.le_refl _) (h.lv i hi)) (fun i hi=>PF.closed _ _ _ _ _ _ i hsh (Nat.le_refl _) (h.ov i hi))
 .obtain ⟨g,e,hg,hbc⟩:=h.ownL.row (.inl hp)
  exact ⟨g,e,hbc.lt,fun i hi=>Xr hg (Xy hbc hi)⟩
 .obtain ⟨g,e,hg,hbc⟩:=h.ownO.row (.inl hp)
  exact ⟨g,e,hbc.lt,fun i hi=>⟨Z4 hg (Yn hbc hi).1,Xr hg (Yn hbc hi).2⟩⟩
def V.setL:V->Nat->V->V
 | .mk k n s l o,i,z=> .mk k n s (l.set i z) o
def putO (o:List (ByteArray×V)) (i:Nat) (z:V):List (ByteArray×V):=o.set i ((o.getD i (.empty,V.none)).1,z)
def V.setO:V->Nat->V->V
 | .mk k n s l o,i,z=> .mk k n s l (putO o i z)
def setV (W:World) (g o:Nat) (c:VC):World:=((((W.setCell ⟨g,o,none⟩ (.int .u8 c.k)).setCell ⟨g,o+1,none⟩ (.int .i64 c.n)).setCell ⟨g,o+2,none⟩ (.string c.s)).setCell ⟨g,o+3,none⟩ (.slice c.la c.ll c.lc)).setCell ⟨g,o+4,none⟩ (.slice c.oa c.ol c.oc)
theorem Zm (W:World) (g o:Nat) (c:VC):RStep W (setV W g o c) g:=(((RStep.self.trans RStep.self).trans RStep.self).trans RStep.self).trans RStep.self
theorem Yu {W:World} {b:Nat} {c0:VC} (h:BC W b (vcells c0)) (c:VC):BC (setV W b 0 c) b (vcells c):=
 ((((h.set (i:=0) (x:= .int .u8 c.k) (by simp [vcells])).set (i:=1) (x:= .int .i64 c.n) (by simp [vcells])).set (i:=2) (x:= .string c.s) (by simp [vcells])).set (i:=3) (x:= .slice c.la c.ll c.lc) (by simp [vcells])).set (i:=4) (x:= .slice c.oa c.ol c.oc) (by simp [vcells])
theorem zfk (cl:List VC) (k:Nat) (hk:k<cl.length) (z:VC):(((((cl.flatMap vcells).set (k*5) (.int .u8 z.k)).set (k*5+1) (.int .i64 z.n)).set (k*5+2) (.string z.s)).set (k*5+3) (.slice z.la z.ll z.lc)).set (k*5+4) (.slice z.oa z.ol z.oc)=(cl.set k z).flatMap vcells:=by
 induction cl generalizing k with
 |nil=>cases hk
 | cons c r ih=>
   cases k with
   |zero=>simp [vcells]
   | succ k=>
     have e:∀t,(k+1)*5+t=(vcells c).length+(k*5+t):=fun t=>by show _=5+_;omega
     have e0:(k+1)*5=(vcells c).length+(k*5):=by show _=5+_;omega
     rw [e 1,e 2,e 3,e 4,e0]
     simp only [List.flatMap_cons,List.set_cons_succ]
     rw [<-ih k (by simpa using hk)]
     simp only [List.set_append_right _ _ (Nat.le_add_right _ _),Nat.add_sub_cancel_left]
theorem zj4 (co:List (ByteArray×VC)) (k:Nat) (hk:k<co.length) (z:VC):(((((co.flatMap fcells).set (k*6+1) (.int .u8 z.k)).set (k*6+1+1) (.int .i64 z.n)).set (k*6+1+2) (.string z.s)).set (k*6+1+3) (.slice z.la z.ll z.lc)).set (k*6+1+4) (.slice z.oa z.ol z.oc)=(co.set k (co[k].1,z)).flatMap fcells:=by
 induction co generalizing k with
 |nil=>cases hk
 | cons c r ih=>
   cases k with
   |zero=>simp [fcells]
   | succ k=>
     have e:∀t,(k+1)*6+1+t=(fcells c).length+(k*6+1+t):=fun t=>by show _=6+_;omega
     have e0:(k+1)*6+1=(fcells c).length+(k*6+1):=by show _=6+_;omega
     rw [e 1,e 2,e 3,e 4,e0]
     simp only [List.flatMap_cons,List.set_cons_succ,List.getElem_cons_succ]
     rw [<-ih k (by simpa using hk)]
     simp only [List.set_append_right _ _ (Nat.le_add_right _ _),Nat.add_sub_cancel_left]
theorem zj3 {W:World} {g:Nat} {cl:List VC} (h:BC W g (cl.flatMap vcells)) {k:Nat} (hk:k<cl.length) (z:VC):BC (setV W g (k*5) z) g ((cl.set k z).flatMap vcells):=by
 have hl:(cl.flatMap vcells).length=cl.length*5:=Zn vcells 5 (fun _=>rfl) cl
 rw [<-zfk cl k hk z]
 exact ((((h.set (by omega)).set (by simp only [List.length_set];omega)).set (by simp only [List.length_set];omega)).set (by simp only [List.length_set];omega)).set (by simp only [List.length_set];omega)
theorem zfu {W:World} {g:Nat} {co:List (ByteArray×VC)} (h:BC W g (co.flatMap fcells)) {k:Nat} (hk:k<co.length) (z:VC):BC (setV W g (k*6+1) z) g ((co.set k (co[k].1,z)).flatMap fcells):=by
 have hl:(co.flatMap fcells).length=co.length*6:=Zn fcells 6 (fun _=>rfl) co
 rw [<-zj4 co k hk z]
 exact ((((h.set (by omega)).set (by simp only [List.length_set];omega)).set (by simp only [List.length_set];omega)).set (by simp only [List.length_set];omega)).set (by simp only [List.length_set];omega)
theorem Kv {a:Option Addr} {n c g:Nat} (e:a=some ⟨g,0,none⟩):(Value.slice a n c).ownBlock=some g:=by subst e;rfl
theorem PV.set {l:List V} {cl:List VC} {W:World} {B:Nat} (hl:cl.length=l.length) (h:∀i,i<l.length->PV l cl W B i) {z:V} {cz:VC} (hz:IsVal W B z cz) (k:Nat):∀i,i<(l.set k z).length->PV (l.set k z) (cl.set k cz) W B i:=by
 intro i hi hi2
 rw [List.length_set] at hi
 rw [List.getD_eq_getElem?_getD]
 by_cases e:k=i
 .subst e
  rw [List.getElem?_set_self (by omega),List.getElem_set_self]
  exact hz
 .rw [List.getElem?_set_ne e,List.getElem_set_ne e, <-List.getD_eq_getElem?_getD]
  exact h i hi hi
theorem PF.put {o:List (ByteArray×V)} {co:List (ByteArray×VC)} {W:World} {B:Nat} (h:∀i,i<o.length->PF o co W B i) {z:V} {cz:VC} (hz:IsVal W B z cz) (k:Nat) (hk:k<co.length):∀i,i<(putO o k z).length->PF (putO o k z) (co.set k (co[k].1,cz)) W B i:=by
 intro i hi hi2
 unfold putO at hi hi2 ⊢
 rw [List.length_set] at hi
 rw [List.getD_eq_getElem?_getD]
 by_cases e:k=i
 .subst e
  rw [List.getElem?_set_self (by omega)]
  simp only [List.getElem_set_self]
  obtain ⟨p1,p2,_⟩:=h k hi hi
  have he:co.getD k fzero=co[k] :=by simp [List.getD_eq_getElem?_getD,hk]
  have he2:o.getD k (.empty,V.none)=o[k] :=by simp [List.getD_eq_getElem?_getD,hi]
  rw [he] at p1
  rw [he2]
  exact ⟨p1,p2,hz⟩
 .rw [List.getElem?_set_ne e, <-List.getD_eq_getElem?_getD]
  simp only [List.getElem_set_ne e]
  exact h i hi hi
theorem zbq (o:List (ByteArray×V)) (k:Nat) (z:V):(putO o k z).length=o.length:=List.length_set
section
variable {w:World} {base base':Nat} {l:List V} {o:List (ByteArray×V)} {a:Option Addr} {m c:Nat} {a':Option Addr} {m' c':Nat} {cl:List VC} {co:List (ByteArray×VC)}
theorem Fresh.setL (h:Fresh w base l o a m c a' m' c' cl co) (hB:base'<=base) {kk:Nat} (hkk:kk<l.length) {z:V} {cz:VC} {g:Nat} (hg:a=some ⟨g,0,none⟩)
 (hz:IsVal (only (fun b=>base'<=b/\b≠g) w) w.heap.size z cz) {k n:Int} {s:ByteArray} (hk0:0<=k) (hk1:k<256) (hn0: -9223372036854775808<=n) (hn1:n<=9223372036854775807) (hs:s.size<=140737488355328):
 IsVal (only (fun b=>base'<=b) (setV w g (kk*5) cz)) (setV w g (kk*5) cz).heap.size (.mk k n s (l.set kk z) o) ⟨k,n,s,a,m,c,a',m',c'⟩:=by
 obtain ⟨g',e,hgb,hbc⟩:=h.ownL.row (.inr (by rw [hg];simp))
 obtain rfl:g=g':=by rw [hg] at e;injection e with e;injection e
 have st:=Zm w g (kk*5) cz
 have hu:(Value.slice a m c).ownBlock=some g:=Kv hg
 have hsh:Shows (only (Free2 base (.slice a m c) (.slice a' m' c')) w) (only (fun b=>base'<=b) (setV w g (kk*5) cz)) w.heap.size:=Zf fun q hq hl=>⟨Nat.le_trans hB hq.1,st.block q hl (fun e=>hq.2.1 (by rw [e,hu]))⟩
 have hsz:Shows (only (fun b=>base'<=b/\b≠g) w) (only (fun b=>base'<=b) (setV w g (kk*5) cz)) w.heap.size:=Zf fun q hq hl=>⟨hq.1,st.block q hl hq.2⟩
 refine zae hk0 hk1 hn0 hn1 hs (by rw [List.length_set];exact h.len) h.len' (cl:=cl.set kk cz) (co:=co) (by simp [h.ll]) h.lo (by rw [List.length_set];exact h.few) h.few' h.ownL.cap h.ownL.max h.ownO.cap h.ownO.max (fun hp=> ?_) (fun hp=> ?_) (PV.set h.ll (fun i hi=>PV.closed _ _ _ _ _ _ i hsh st.size (h.lv i hi)) ((hz.sub hsz).more st.size) kk) (fun i hi=>PF.closed _ _ _ _ _ _ i hsh st.size (h.ov i hi))
 .exact ⟨g,hg,Nat.lt_of_lt_of_le hbc.lt st.size,fun i hi=>Xr (Nat.le_trans hB hgb) (Xy (zj3 hbc (by rw [h.ll];exact hkk) cz) hi)⟩
 .obtain ⟨q,e,hq,hbo⟩:=h.ownO.row (.inl hp)
  have hne:q≠g:=fun e2=>h.ne g hu (by rw [Kv e,e2])
  have hbo':=hbo.next st hne
  exact ⟨q,e,hbo'.lt,fun i hi=>⟨Z4 (Nat.le_trans hB hq) (Yn hbo' hi).1,Xr (Nat.le_trans hB hq) (Yn hbo' hi).2⟩⟩
theorem Fresh.setO (h:Fresh w base l o a m c a' m' c' cl co) (hB:base'<=base) {kk:Nat} (hkk:kk<o.length) {z:V} {cz:VC} {g:Nat} (hg:a'=some ⟨g,0,none⟩)
 (hz:IsVal (only (fun b=>base'<=b/\b≠g) w) w.heap.size z cz) {k n:Int} {s:ByteArray} (hk0:0<=k) (hk1:k<256) (hn0: -9223372036854775808<=n) (hn1:n<=9223372036854775807) (hs:s.size<=140737488355328):
 IsVal (only (fun b=>base'<=b) (setV w g (kk*6+1) cz)) (setV w g (kk*6+1) cz).heap.size (.mk k n s l (putO o kk z)) ⟨k,n,s,a,m,c,a',m',c'⟩:=by
 obtain ⟨g',e,hgb,hbc⟩:=h.ownO.row (.inr (by rw [hg];simp))
 obtain rfl:g=g':=by rw [hg] at e;injection e with e;injection e
 have st:=Zm w g (kk*6+1) cz
 have hu:(Value.slice a' m' c').ownBlock=some g:=Kv hg
 have hsh:Shows (only (Free2 base (.slice a m c) (.slice a' m' c')) w) (only (fun b=>base'<=b) (setV w g (kk*6+1) cz)) w.heap.size:=Zf fun q hq hl=>⟨Nat.le_trans hB hq.1,st.block q hl (fun e=>hq.2.2 (by rw [e,hu]))⟩
 have hsz:Shows (only (fun b=>base'<=b/\b≠g) w) (only (fun b=>base'<=b) (setV w g (kk*6+1) cz)) w.heap.size:=Zf fun q hq hl=>⟨hq.1,st.block q hl hq.2⟩
 refine zae hk0 hk1 hn0 hn1 hs h.len (by rw [zbq];exact h.len') (cl:=cl) (co:=co.set kk ((co[kk]'(by rw [h.lo];exact hkk)).1,cz)) h.ll (by rw [zbq];simp [h.lo]) h.few (by rw [zbq];exact h.few') h.ownL.cap h.ownL.max h.ownO.cap h.ownO.max (fun hp=> ?_) (fun hp=> ?_) (fun i hi=>PV.closed _ _ _ _ _ _ i hsh st.size (h.lv i hi)) (PF.put (fun i hi=>PF.closed _ _ _ _ _ _ i hsh st.size (h.ov i hi)) ((hz.sub hsz).more st.size) kk (by rw [h.lo];exact hkk))
 .obtain ⟨q,e,hq,hbo⟩:=h.ownL.row (.inl hp)
  have hne:q≠g:=fun e2=>h.ne q (Kv e) (by rw [hu,e2])
  have hbo':=hbo.next st hne
  exact ⟨q,e,hbo'.lt,fun i hi=>Xr (Nat.le_trans hB hq) (Xy hbo' hi)⟩
 .have hb2:=zfu hbc (k:=kk) (by rw [h.lo];exact hkk) cz
  exact ⟨g,hg,hb2.lt,fun i hi=>⟨Z4 (Nat.le_trans hB hgb) (Yn hb2 hi).1,Xr (Nat.le_trans hB hgb) (Yn hb2 hi).2⟩⟩
end
structure Tk where
 k:Int
 n:Int
 s:ByteArray
 m:Int
structure Tk.Bnd (t:Tk):Prop where
 k0:0<=t.k
 k1:t.k<256
 n0: -9223372036854775808<=t.n
 n1:t.n<=9223372036854775807
 s1:t.s.size<=140737488355328
 m0:0<=t.m
 m1:t.m<256
structure TkAt (w:World) (b o:Nat) (t:Tk):Prop where
 c0:w.cell? ⟨b,o,none⟩=some (.int .u8 t.k)
 c1:w.cell? ⟨b,o+1,none⟩=some (.int .i64 t.n)
 c2:w.cell? ⟨b,o+2,none⟩=some (.string t.s)
 c3:w.cell? ⟨b,o+3,none⟩=some (.int .u8 t.m)
theorem TkAt.keep {w w':World} {B b o:Nat} {t:Tk} (h:TkAt w b o t) (hb:Below B w w') (hB:b<B):TkAt w' b o t:=
 ⟨Zd hb h.c0 hB,Zd hb h.c1 hB,Zd hb h.c2 hB,Zd hb h.c3 hB⟩
structure IsToks (w:World) (B:Nat) (l:List Tk) (a:Option Addr) (n c:Nat):Prop where
 len:n=l.length
 cap:n<=c
 max:c<=9223372036854775807
 at_:∃b o,(0<n->a=some ⟨b,o,none⟩/\b<B)/\∀i (h:i<l.length),TkAt w b (o+i*4) l[i] /\l[i].Bnd
theorem IsToks.keep {w w':World} {B:Nat} {l:List Tk} {a:Option Addr} {n c:Nat} (h:IsToks w B l a n c) (hb:Below B w w'):IsToks w' B l a n c:=by
 obtain ⟨h1,h2,h3,b,o,h5,h6⟩:=h
 exact ⟨h1,h2,h3,b,o,h5,fun i hi=>⟨(h6 i hi).1.keep hb (h5 (by omega)).2,(h6 i hi).2⟩⟩
theorem IsToks.more {w:World} {B B':Nat} {l:List Tk} {a:Option Addr} {n c:Nat} (h:IsToks w B l a n c) (hB:B<=B'):IsToks w B' l a n c:=by
 obtain ⟨h1,h2,h3,b,o,h5,h6⟩:=h
 exact ⟨h1,h2,h3,b,o,fun hn=>⟨(h5 hn).1,Nat.lt_of_lt_of_le (h5 hn).2 hB⟩,h6⟩
theorem IsToks.later_ {w w':World} {l:List Tk} {a:Option Addr} {n c:Nat} (h:IsToks w w.heap.size l a n c) (hb:Below w.heap.size w w'):IsToks w' w'.heap.size l a n c:=(h.keep hb).more hb.size
theorem IsToks.get {w:World} {B:Nat} {l:List Tk} {a:Option Addr} {n c:Nat} (h:IsToks w B l a n c) {k:Nat} (hk:k<n):
 ∃b o,∃hp:k<l.length,a=some ⟨b,o,none⟩/\b<B/\TkAt w b (o+k*4) l[k] /\l[k].Bnd:=by
 obtain ⟨h1,h2,h3,b,o,h5,h6⟩:=h
 exact ⟨b,o,by omega,(h5 (by omega)).1,(h5 (by omega)).2,h6 k (by omega)⟩
theorem IsToks.drop {w:World} {B:Nat} {l:List Tk} {a:Option Addr} {n c:Nat} (h:IsToks w B l a n c) (k:Nat) (hk:k<=n):IsToks w B (l.drop k) (a.map (fun x=>x.add (k*4))) (n - k) (c - k):=by
 obtain ⟨h1,h2,h3,b,o,h5,h6⟩:=h
 refine ⟨by rw [List.length_drop];omega,by omega,by omega,b,o+k*4,fun hn=> ?_,fun i hi=> ?_⟩
 .obtain ⟨e,hb⟩:=h5 (by omega)
  exact ⟨by rw [e,Option.map_some,Zs],hb⟩
 .rw [List.length_drop] at hi
  have:=h6 (k+i) (by omega)
  rw [List.getElem_drop,show o+k*4+i*4=o+(k+i)*4 by rw [Nat.add_mul];omega];exact this
theorem IsToks.none_left {w:World} {B:Nat} {l:List Tk} {a a':Option Addr} {n c:Nat} (h:IsToks w B l a n c) (hn:n=0):IsToks w B l a' 0 0:=by
 obtain ⟨h1,h2,h3,b,o,h5,h6⟩:=h
 exact ⟨by omega,by omega,by omega,b,o,fun h=>by omega,h6⟩
theorem IsToks.take {w:World} {B:Nat} {l:List Tk} {a:Option Addr} {n c:Nat} (h:IsToks w B l a n c) (k:Nat) (hk:k<=n):IsToks w B (l.take k) a k c:=by
 obtain ⟨h1,h2,h3,b,o,h5,h6⟩:=h
 refine ⟨by rw [List.length_take];omega,by omega,h3,b,o,fun hn=>h5 (by omega),fun i hi=> ?_⟩
 rw [List.length_take] at hi
 rw [List.getElem_take];exact h6 i (by omega)
def V.str:V->ByteArray
 | .mk _ _ s _ _=>s
def fR (f:List Tk->V×Nat) (l:List Tk):Nat->List V×Nat×Bool
 |0=>([],1,false)
 | i+1=>if (fR f l i).2.2=true then fR f l i else if (f (l.drop (fR f l i).2.1)).2=0 then ((fR f l i).1,(fR f l i).2.1,true)
   else ((fR f l i).1++ [(f (l.drop (fR f l i).2.1)).1],(fR f l i).2.1+(f (l.drop (fR f l i).2.1)).2,false)
def rawV (t:Tk) (xs:List V):V:=if t.k % 2=0 then .mk t.k t.n t.s xs [] else .mk t.k t.n t.s [] (xs.map fun x=>(x.str,x))
def rawP:Nat->List Tk->V×Nat
 |_, [] =>(V.none,0)
 |0,t::_=>(.mk t.k t.n t.s [] [],1)
 |d+1,t::r=>(rawV t (fR (rawP d) (t::r) (t.m % 4).toNat).1,(fR (rawP d) (t::r) (t.m % 4).toNat).2.1)
theorem J2 {f:List Tk->V×Nat} {l:List Tk} {j n:Nat} (h:(fR f l j).2.2=true) (hj:j<=n):fR f l n=fR f l j:=by
 induction n with
 | zero => have:j=0:=by omega
           subst this;rfl
 | succ n ih=>
   by_cases hi:j=n+1
   .subst hi;rfl
   .have:=ih (by omega)
    rw [fR,this,if_pos h]
theorem zar {f:List Tk->V×Nat} (hf:∀l,(f l).2<=l.length) {l:List Tk} (hl:1<=l.length) (j:Nat):1<=(fR f l j).2.1/\(fR f l j).2.1<=l.length/\(fR f l j).1.length+1<=(fR f l j).2.1:=by
 induction j with
 |zero=>exact ⟨Nat.le_refl _,hl,Nat.le_refl _⟩
 | succ j ih=>
   rw [fR]
   split
   .exact ih
   .split
    .exact ih
    .rename_i h1 h2
     have:=hf (l.drop (fR f l j).2.1)
     rw [List.length_drop] at this
     have h3:1<=(f (l.drop (fR f l j).2.1)).2:=by omega
     refine ⟨by dsimp only;omega,by dsimp only;omega,by dsimp only;rw [List.length_append,List.length_singleton];omega⟩
theorem Jd (d:Nat):∀l,(rawP d l).2<=l.length:=by
 induction d with
 | zero=>
   intro l
   cases l with
   |nil=>simp [rawP]
   |cons t r=>simp [rawP]
 | succ d ih=>
   intro l
   cases l with
   |nil=>simp [rawP]
   |cons t r=>rw [rawP];exact (zar ih (by simp) _).2.1
theorem Qo {w:World} {B:Nat} {k:Int} {l:List V} {o:List (ByteArray×V)} {c:VC} (h:IsVal w B (.mk k 0 .empty l o) c) (n:Int) (s:ByteArray) (hn0: -9223372036854775808<=n) (hn1:n<=9223372036854775807) (hs:s.size<=140737488355328):IsVal w B (.mk k n s l o) ⟨c.k,n,s,c.la,c.ll,c.lc,c.oa,c.ol,c.oc⟩:=by
 obtain ⟨v,hv⟩:∃v,(V.mk k 0 .empty l o)=v:=⟨_,rfl⟩
 rw [hv] at h
 cases h with
 | mk c l2 o2 cl co lb lo ob oo hbd hl ho hla hoa hlc hlv hoc hov=>
   injection hv with e1 e2 e3 e4 e5
   subst e4 e5
   rw [e1]
   exact .mk ⟨c.k,n,s,c.la,c.ll,c.lc,c.oa,c.ol,c.oc⟩ l o cl co lb lo ob oo ⟨hbd.k0,hbd.k1,hn0,hn1,hs,hbd.l1,hbd.l2,hbd.l3,hbd.o1,hbd.o2,hbd.o3⟩ hl ho hla hoa hlc hlv hoc hov
theorem zas {w:World} {B:Nat} {v:V} {c:VC} (h:IsVal w B v c):v.str=c.s/\c.s.size<=140737488355328:=by
 cases h with
 |mk c l o cl co lb lo ob oo hbd=>exact ⟨rfl,hbd.s1⟩
structure QR (w wr:World) (t:Tk) (c:VC):Prop where
 res:BC wr w.heap.size [.int .u8 0, .int .i64 0, .string { data:= #[] }, .slice none 0 0, .slice none 0 0]
 tok:BC wr (w.heap.size+1) [.int .u8 t.k, .int .i64 t.n, .string t.s, .int .u8 t.m]
 val:BC wr (w.heap.size+2) (vcells c)
 below:Below w.heap.size w wr
theorem QR.next {w wr W:World} {t:Tk} {c:VC} (h:QR w wr t c) (hb:Below wr.heap.size wr W):QR w W t c:=
 ⟨h.res.keep hb h.res.lt,h.tok.keep hb h.tok.lt,h.val.keep hb h.val.lt,h.below.trans (hb.mono (Nat.le_of_lt h.res.lt))⟩
theorem QR.below_ {w wr W:World} {t:Tk} {c:VC} (h:QR w wr t c) {B:Nat} (hb:Below B wr W) (hB:w.heap.size+3<=B):QR w W t c:=
 ⟨h.res.keep hb (by omega),h.tok.keep hb (by omega),h.val.keep hb (by omega),h.below.trans (hb.mono (by omega))⟩
theorem QR.start (w:World) (t:Tk) (t1 t2 t3:TypeId) (W:World) (hW:W=((w.alloc (.cells #[.int .u8 0, .int .i64 0, .string { data:= #[] }, .slice none 0 0, .slice none 0 0] t1)).alloc (.cells #[.int .u8 t.k, .int .i64 t.n, .string t.s, .int .u8 t.m] t2)).alloc (.cells #[.int .u8 t.k, .int .i64 t.n, .string t.s, .slice none 0 0, .slice none 0 0] t3)):
 QR w W t ⟨t.k,t.n,t.s,none,0,0,none,0,0⟩/\W.heap.size=w.heap.size+3:=by
 obtain ⟨w1,hw1⟩:∃w1,w.alloc (.cells #[.int .u8 0, .int .i64 0, .string { data:= #[] }, .slice none 0 0, .slice none 0 0] t1)=w1:=⟨_,rfl⟩
 have s1:w1.heap.size=w.heap.size+1:=by rw [<-hw1,World.size_alloc]
 have b1:Below w.heap.size w w1:=by rw [<-hw1];exact (Below.refl _ _).alloc (Nat.le_refl _) _
 have c1:BC w1 w.heap.size [.int .u8 0, .int .i64 0, .string { data:= #[] }, .slice none 0 0, .slice none 0 0] :=by rw [<-hw1];exact BC.start w #[.int .u8 0, .int .i64 0, .string { data:= #[] }, .slice none 0 0, .slice none 0 0] t1
 rw [hw1] at hW
 obtain ⟨w2,hw2⟩:∃w2,w1.alloc (.cells #[.int .u8 t.k, .int .i64 t.n, .string t.s, .int .u8 t.m] t2)=w2:=⟨_,rfl⟩
 have s2:w2.heap.size=w.heap.size+2:=by rw [<-hw2,World.size_alloc,s1]
 have b2:Below w1.heap.size w1 w2:=by rw [<-hw2];exact (Below.refl _ _).alloc (Nat.le_refl _) _
 have c2:=BC.start w1 #[.int .u8 t.k, .int .i64 t.n, .string t.s, .int .u8 t.m] t2
 rw [hw2,s1] at c2
 rw [hw2] at hW
 subst hW
 have b3:Below w2.heap.size w2 (w2.alloc (.cells #[.int .u8 t.k, .int .i64 t.n, .string t.s, .slice none 0 0, .slice none 0 0] t3)):=(Below.refl _ _).alloc (Nat.le_refl _) _
 have c3:=BC.start w2 #[.int .u8 t.k, .int .i64 t.n, .string t.s, .slice none 0 0, .slice none 0 0] t3
 rw [s2] at c3
 exact ⟨⟨(c1.keep b2 (by omega)).keep b3 (by omega),c2.keep b3 (by omega),c3,(b1.trans (b2.mono (by omega))).trans (b3.mono (by omega))⟩,by rw [World.size_alloc,s2]⟩
def RawPost (w:World) (r:V×Nat) (e:Ending) (w':World):Prop:=
 (∃c:VC,e= .returned (.tuple #[.agg #[.int .u8 c.k, .int .i64 c.n, .string c.s, .slice c.la c.ll c.lc, .slice c.oa c.ol c.oc], .int .i64 (r.2:Int)])/\IsVal (only (fun b=>w.heap.size<=b) w') w'.heap.size r.1 c)/\Below w.heap.size w w'
theorem zqg {tmps:Array Value} {W:World} {b:Nat} {c:VC} {x:Value} (ht:tmps[4]? =some (.pointer (some ⟨b,0,none⟩))) (ht':tmps[5]? =some x) (h:BC W b (vcells c)):
 (results Tryz.f94 tmps).run Tryz.prog W= .ok (.tuple #[.agg #[.int .u8 c.k, .int .i64 c.n, .string c.s, .slice c.la c.ll c.lc, .slice c.oa c.ol c.oc],x]) W:=by
 obtain ⟨r0,r1,r2,r3,r4⟩:=(⟨h.at_ 0 _ rfl,h.at_ 1 _ rfl,h.at_ 2 _ rfl,h.at_ 3 _ rfl,h.at_ 4 _ rfl⟩:W.cell? ⟨b,0,none⟩=some (.int .u8 c.k)/\W.cell? ⟨b,1,none⟩=some (.int .i64 c.n)/\W.cell? ⟨b,2,none⟩=some (.string c.s)/\W.cell? ⟨b,3,none⟩=some (.slice c.la c.ll c.lc)/\W.cell? ⟨b,4,none⟩=some (.slice c.oa c.ol c.oc))
 simp [results,Tryz.results94,go_sem,ht,ht',r0,r1,r2,r3,r4]
theorem Xj {w W:World} {c:VC} {r:V×Nat} {a:Act} (h:BC W w.heap.size (vcells c)) (hb:Below w.heap.size w W) (hv:IsVal (only (fun b=>w.heap.size<=b) W) W.heap.size r.1 c) (hd:a.defers= []) (ht:a.tmps[4]? =some (.pointer (some ⟨w.heap.size,0,none⟩))) (ht':a.tmps[5]? =some (.int .i64 (r.2:Int))):
 bodyPost Tryz.prog Tryz.f94 (RawPost w r) .ret a W:=
 ⟨hd,_,zqg ht ht' h,⟨c,rfl,hv⟩,hb⟩
theorem QR.stored {w W:World} {t:Tk} {c0:VC} (h:QR w W t c0) (c:VC):BC (((((W.setCell ⟨w.heap.size,0,none⟩ (.int .u8 c.k)).setCell ⟨w.heap.size,1,none⟩ (.int .i64 c.n)).setCell ⟨w.heap.size,2,none⟩ (.string c.s)).setCell ⟨w.heap.size,3,none⟩ (.slice c.la c.ll c.lc)).setCell ⟨w.heap.size,4,none⟩ (.slice c.oa c.ol c.oc)) w.heap.size (vcells c)/\Below w.heap.size w (((((W.setCell ⟨w.heap.size,0,none⟩ (.int .u8 c.k)).setCell ⟨w.heap.size,1,none⟩ (.int .i64 c.n)).setCell ⟨w.heap.size,2,none⟩ (.string c.s)).setCell ⟨w.heap.size,3,none⟩ (.slice c.la c.ll c.lc)).setCell ⟨w.heap.size,4,none⟩ (.slice c.oa c.ol c.oc))/\RStep W (((((W.setCell ⟨w.heap.size,0,none⟩ (.int .u8 c.k)).setCell ⟨w.heap.size,1,none⟩ (.int .i64 c.n)).setCell ⟨w.heap.size,2,none⟩ (.string c.s)).setCell ⟨w.heap.size,3,none⟩ (.slice c.la c.ll c.lc)).setCell ⟨w.heap.size,4,none⟩ (.slice c.oa c.ol c.oc)) w.heap.size:=by
 have s1:RStep W (((((W.setCell ⟨w.heap.size,0,none⟩ (.int .u8 c.k)).setCell ⟨w.heap.size,1,none⟩ (.int .i64 c.n)).setCell ⟨w.heap.size,2,none⟩ (.string c.s)).setCell ⟨w.heap.size,3,none⟩ (.slice c.la c.ll c.lc)).setCell ⟨w.heap.size,4,none⟩ (.slice c.oa c.ol c.oc)) w.heap.size:=(((RStep.self.trans RStep.self).trans RStep.self).trans RStep.self).trans RStep.self
 refine ⟨((((h.res.set (i:=0) (x:= .int .u8 c.k) (by simp)).set (i:=1) (x:= .int .i64 c.n) (by simp)).set (i:=2) (x:= .string c.s) (by simp)).set (i:=3) (x:= .slice c.la c.ll c.lc) (by simp)).set (i:=4) (x:= .slice c.oa c.ol c.oc) (by simp),h.below.trans (s1.below (Nat.le_of_lt h.res.lt)),s1⟩
structure RLL (w wr:World) (d:Nat) (l:List Tk) (t:Tk) (j:Nat) (a:Option Addr) (m c:Nat) (xs:List V) (cs:List VC) (u:Nat):Prop where
 rd:fR (rawP d) l j=(xs,u,false)
 len:xs.length=j
 cen:cs.length=j
 box:QR w wr t ⟨t.k,t.n,t.s,a,m,c,none,0,0⟩
 row:RowV wr (w.heap.size+3) (.slice a m c) xs cs
theorem RLL.round {w wr w4 w6 w7:World} {d:Nat} {l:List Tk} {t:Tk} {j:Nat} {a:Option Addr} {m c:Nat} {xs:List V} {cs:List VC} {u:Nat} {x:V} {q:Nat} {cx:VC} {g cap:Nat}
 (h:RLL w wr d l t j a m c xs cs u) (hx:rawP d (l.drop u)=(x,q)) (hq:q≠0) (hb4:Below wr.heap.size wr w4) (hI:IsVal (only (fun b=>wr.heap.size<=b) w4) w4.heap.size x cx) (hb6:Below w4.heap.size w4 w6)
 (hown:w7.ownsRow (w.heap.size+3) 41 5 (.slice (some ⟨g,0,none⟩) (j+1) cap) (j+1) (cs.flatMap vcells++vcells cx)) (hg:w6.grownBy w7 (Value.slice a m c).ownBlock)
 (hat:(Value.slice a m c).ownBlock=some g∨w4.heap.size<=g):
 RLL w (w7.setCell ⟨w.heap.size+2,3,none⟩ (.slice (some ⟨g,0,none⟩) (j+1) cap)) d l t (j+1) (some ⟨g,0,none⟩) (j+1) cap (xs++ [x]) (cs++ [cx]) (u+q):=by
 have hrow:=h.row.later (PV.closed xs cs) (.of_below 0 hb4) (by omega)
 have hrlt:∀b,(Value.slice a m c).ownBlock=some b->w.heap.size+3<=b/\b<wr.heap.size:=h.row.lt
 have hsz:=h.box.val.lt
 have hsz4:=hb4.size
 have hsz6:=hb6.size
 have hgb:Below (w.heap.size+3) w6 w7:=Zi hg (fun b hb=>(hrlt b hb).1) (by omega)
 have hb67:Below (w.heap.size+3) w4 w7:=(hb6.mono (by omega)).trans hgb
 obtain ⟨s1,s2⟩:=PV.snoc (l:=xs) (cs:=cs) (by rw [h.len,h.cen]) x cx
 have hnew:PV (xs++ [x]) (cs++ [cx]) (only (Free (w.heap.size+3) (.slice a m c)) w4) w4.heap.size xs.length:=s1 _ _ (hI.sub (Zf fun b hb _=>⟨⟨by omega,fun e=>by have:=(hrlt b e.symm).2;omega⟩,rfl⟩))
 have hpush:=Row.push (PV.closed (xs++ [x]) (cs++ [cx])) hrow hb6 hg (u':= .slice (some ⟨g,0,none⟩) (j+1) cap) (news:=vcells cx) (by rw [h.len];exact hown) (by
  rcases hat with e|e
  .left;rw [e];rfl
  .right;intro b hb;have:g=b:=by simpa [Value.ownBlock] using hb
   omega) hnew s2
 have hbox:=(h.box.next hb4).below_ hb67 (Nat.le_refl _)
 refine ⟨?_,by simp [h.len],by simp [h.cen], ?_, ?_⟩
 .rw [fR,if_neg (by rw [h.rd];simp),h.rd]
  dsimp only
  rw [hx,if_neg hq]
 .exact ⟨hbox.res.far (by omega),hbox.tok.far (by omega),hbox.val.set (i:=3) (x:= .slice (some ⟨g,0,none⟩) (j+1) cap) (by simp [vcells]),hbox.below.trans ((RStep.self (b:=w.heap.size+2) (o:=3)).below (by have:=hbox.val.lt;omega)|>.mono (by omega))⟩
 .have hr2:RowV w7 (w.heap.size+3) (.slice (some ⟨g,0,none⟩) (j+1) cap) (xs++ [x]) (cs++ [cx]):=by
   show Row _ _ _ _ _ _ _ _
   rw [Xb,List.length_append,List.length_singleton]
   exact hpush
  exact hr2.set (PV.closed (xs++ [x]) (cs++ [cx])) (by omega)
def fld (xs:List V):List (ByteArray×V):=xs.map fun x=>(x.str,x)
def fldc (cs:List VC):List (ByteArray×VC):=cs.map fun c=>(c.s,c)
theorem zha (xs:List V) (x:V):fld (xs++ [x])=fld xs++ [(x.str,x)] :=by simp [fld]
theorem zjv (cs:List VC) (c:VC):fldc (cs++ [c])=fldc cs++ [(c.s,c)] :=by simp [fldc]
structure RLO (w wr:World) (d:Nat) (l:List Tk) (t:Tk) (j:Nat) (a:Option Addr) (m c:Nat) (xs:List V) (cs:List VC) (u:Nat):Prop where
 rd:fR (rawP d) l j=(xs,u,false)
 len:xs.length=j
 cen:cs.length=j
 box:QR w wr t ⟨t.k,t.n,t.s,none,0,0,a,m,c⟩
 row:RowF wr (w.heap.size+3) (.slice a m c) (fld xs) (fldc cs)
theorem RLO.round {w wr w4 w6 w7:World} {d:Nat} {l:List Tk} {t:Tk} {j:Nat} {a:Option Addr} {m c:Nat} {xs:List V} {cs:List VC} {u:Nat} {x:V} {q:Nat} {cx:VC} {g cap:Nat}
 (h:RLO w wr d l t j a m c xs cs u) (hx:rawP d (l.drop u)=(x,q)) (hq:q≠0) (hb4:Below wr.heap.size wr w4) (hI:IsVal (only (fun b=>wr.heap.size<=b) w4) w4.heap.size x cx) (hb6:Below w4.heap.size w4 w6)
 (hown:w7.ownsRow (w.heap.size+3) 98 6 (.slice (some ⟨g,0,none⟩) (j+1) cap) (j+1) ((fldc cs).flatMap fcells++fcells (cx.s,cx))) (hg:w6.grownBy w7 (Value.slice a m c).ownBlock)
 (hat:(Value.slice a m c).ownBlock=some g∨w4.heap.size<=g):
 RLO w (w7.setCell ⟨w.heap.size+2,4,none⟩ (.slice (some ⟨g,0,none⟩) (j+1) cap)) d l t (j+1) (some ⟨g,0,none⟩) (j+1) cap (xs++ [x]) (cs++ [cx]) (u+q):=by
 have hrow:=h.row.later (PF.closed (fld xs) (fldc cs)) (.of_below 0 hb4) (by omega)
 have hrlt:∀b,(Value.slice a m c).ownBlock=some b->w.heap.size+3<=b/\b<wr.heap.size:=h.row.lt
 have hsz:=h.box.val.lt
 have hsz4:=hb4.size
 have hsz6:=hb6.size
 have hgb:Below (w.heap.size+3) w6 w7:=Zi hg (fun b hb=>(hrlt b hb).1) (by omega)
 have hb67:Below (w.heap.size+3) w4 w7:=(hb6.mono (by omega)).trans hgb
 obtain ⟨s1,s2⟩:=PF.snoc (l:=fld xs) (cs:=fldc cs) (by simp [fld,fldc,h.len,h.cen]) cx.s (zas hI).2 x cx
 have hnew:PF (fld xs++ [(cx.s,x)]) (fldc cs++ [(cx.s,cx)]) (only (Free (w.heap.size+3) (.slice a m c)) w4) w4.heap.size (fld xs).length:=s1 _ _ (hI.sub (Zf fun b hb _=>⟨⟨by omega,fun e=>by have:=(hrlt b e.symm).2;omega⟩,rfl⟩))
 have hpush:=Row.push (PF.closed (fld xs++ [(cx.s,x)]) (fldc cs++ [(cx.s,cx)])) hrow hb6 hg (u':= .slice (some ⟨g,0,none⟩) (j+1) cap) (news:=fcells (cx.s,cx)) (by rw [show (fld xs).length=j by simp [fld,h.len]];exact hown) (by
  rcases hat with e|e
  .left;rw [e];rfl
  .right;intro b hb;have:g=b:=by simpa [Value.ownBlock] using hb
   omega) hnew s2
 have hbox:=(h.box.next hb4).below_ hb67 (Nat.le_refl _)
 refine ⟨?_,by simp [h.len],by simp [h.cen], ?_, ?_⟩
 .rw [fR,if_neg (by rw [h.rd];simp),h.rd]
  dsimp only
  rw [hx,if_neg hq]
 .exact ⟨hbox.res.far (by omega),hbox.tok.far (by omega),hbox.val.set (i:=4) (x:= .slice (some ⟨g,0,none⟩) (j+1) cap) (by simp [vcells]),hbox.below.trans ((RStep.self (b:=w.heap.size+2) (o:=4)).below (by have:=hbox.val.lt;omega)|>.mono (by omega))⟩
 .have hr2:RowF w7 (w.heap.size+3) (.slice (some ⟨g,0,none⟩) (j+1) cap) (fld (xs++ [x])) (fldc (cs++ [cx])):=by
   show Row _ _ _ _ _ _ _ _
   rw [zha,zjv,(zas hI).1,Xb,List.length_append,List.length_singleton]
   exact hpush
  exact hr2.set (PF.closed _ _) (by omega)
end Go.Proofs.YtfoahkbnheijcaaGreatDoor
