/-
  Contracts of the functions that the law reaches: Append of nil. Lists of values that are.
-/
import Derived.Test.YtfoahkbnheijcaaDoorCq8
namespace Go.Proofs.YtfoahkbnheijcaaDoor
open Go.RowKit
set_option maxHeartbeats 8000000
theorem zj1 {P:Program} (w:World) (base:Nat) (t ty e:TypeId) (i:TypeInfo) (size:Nat) (ht:P.underlying t=some (.slice e)) (hi:P.info? e=some i)
 (v:Value) (n:Nat) (xs:List Value) (hown:w.ownsRow base e size v n xs):
 (Builtin.append_ #[t,t] ty #[v, .slice none 0 0]).run P w= .ok v w:=by
 rcases hown.2 with ⟨rfl,rfl⟩|⟨g,cap,cur,rfl,hbg,hg,hnc,hcm,hcs,htake⟩
 .simp [Builtin.append_,run_underlying ht,sizeOf,typeInfo,hi,Builtin.lenOf,Builtin.firstCells]
 .simp [Builtin.append_,run_underlying ht,sizeOf,typeInfo,hi,Builtin.lenOf,Builtin.firstCells,storeCells,hnc]
theorem Km {P:Program} (w:World) {ops:Array Oper} {rest:List Oper} {o:Oper} {a:Act} {Q:Exit->Act->World->Prop} (hgd:o.guard=none) (s x:Operand) (t:TypeId)
 (ho:o.op= .call { callee:= .builtin .append,args:= #[s,x],argTypes:= #[t,t] })
 (base:Nat) (e:TypeId) (i:TypeInfo) (size:Nat) (ht:P.underlying t=some (.slice e)) (hi:P.info? e=some i)
 (v:Value) (n:Nat) (xs:List Value) (hs:a.eval s=v) (hown:w.ownsRow base e size v n xs)
 (hx:a.eval x= .slice none 0 0)
 (h:wpList P ops Q rest (a.put o.dst v) w):wpList P ops Q (o::rest) a w:=
 wpList_plain hgd fun _ hK=>by
  have hr:=zj1 (P:=P) w base t o.type e i size ht hi v n xs hown
  unfold Oper.wp execOp
  simp only [ho,resolve,invoke,builtin,Sem.run_bind,Sem.run_pure,Result.andThen_ok,List.map_toArray,List.map_cons,List.map_nil,hs,hx,hr]
  exact hK _ _ h
def insL {α:Type} (l:List α) (i:Nat) (x:α):List α:=l.take i++x::l.drop i
def remL {α:Type} (l:List α) (i:Nat):List α:=l.take i++l.drop (i+1)
structure Piece (w:World) (a:Option Addr) (m c:Nat) (cells:List Value):Prop where
 nil:a=none->m=0/\c=0/\cells= []
 get:∀ad,a=some ad->∀j u,cells[j]? =some u->w.cell? (ad.add j)=some u
theorem Z0 {P:Program} (w:World) {ops:Array Oper} {rest:List Oper} {o:Oper} {a:Act} {Q:Exit->Act->World->Prop} (hgd:o.guard=none) (s x:Operand) (t:TypeId)
 (ho:o.op= .call { callee:= .builtin .append,args:= #[s,x],argTypes:= #[t,t] })
 (base:Nat) (e:TypeId) (i:TypeInfo) (z:Value) (size bytes:Nat) (ht:P.underlying t=some (.slice e)) (hi:P.info? e=some i) (hz:i.zero=some z)
 (hsize:i.size=size) (hby:i.bytes=bytes) (hzs:z.cells.size=size) (hsz:0<size)
 (v:Value) (n:Nat) (xs:List Value) (hs:a.eval s=v) (hown:w.ownsRow base e size v n xs)
 (sa:Option Addr) (m c:Nat) (news:List Value) (hx:a.eval x= .slice sa m c) (hp:Piece w sa m c news) (hl:news.length=m*size) (h1:∀u ∈ news,u.oneCell'=true)
 (h63:n+m<=maxLen) (hbytes:(n+m)*bytes<=140737488355328) (hbase:base<=w.heap.size)
 (h:∀v' w',w'.ownsRow base e size v' (n+m) (xs++news)->w.grownBy w' v.ownBlock->wpList P ops Q rest (a.put o.dst v') w'):wpList P ops Q (o::rest) a w:=by
 cases sa with
 | none=>
   obtain ⟨rfl,rfl,rfl⟩:=hp.nil rfl
   refine Km w hgd s x t ho base e i size ht hi v n xs hs hown hx ?_
   exact h v w (by simpa using hown) ⟨rfl,rfl,rfl,Nat.le_refl _,fun _ _ _=>rfl⟩
 | some ad=>
   exact wpList_append_own w hgd s x t ho base e i z size bytes ht hi hz hsize hby hzs hsz v n xs hs hown ad m c news hx hl (hp.get ad rfl) h1 h63 hbytes hbase fun v' w' h2 h3 _=>h v' w' h2 h3
theorem Z3 (cs:List VC):∀u ∈ cs.flatMap vcells,u.oneCell'=true:=by
 intro u hu
 obtain ⟨c,_,hc⟩:=List.mem_flatMap.1 hu
 simp [vcells] at hc
 rcases hc with rfl|rfl|rfl|rfl|rfl<;>rfl
theorem PV.append {l1 l2:List V} {c1 c2:List VC} {W:World} {B:Nat} (hl:c1.length=l1.length) (h1:∀i,i<l1.length->PV l1 c1 W B i) (h2:∀i,i<l2.length->PV l2 c2 W B i):∀i,i<(l1++l2).length->PV (l1++l2) (c1++c2) W B i:=by
 intro i _ hi
 rw [List.getD_eq_getElem?_getD]
 by_cases e:i<l1.length
 .rw [List.getElem?_append_left (by omega),List.getElem_append_left e, <-List.getD_eq_getElem?_getD]
  exact h1 i e e
 .rw [List.length_append] at hi
  rw [List.getElem?_append_right (by omega),List.getElem_append_right (by omega),hl, <-List.getD_eq_getElem?_getD]
  exact h2 (i - l1.length) (by omega) (by omega)
theorem PV.take {l:List V} {cs:List VC} {W:World} {B:Nat} (h:∀i,i<l.length->PV l cs W B i) (k:Nat):∀i,i<(l.take k).length->PV (l.take k) (cs.take k) W B i:=by
 intro i _ hi
 rw [List.length_take] at hi
 rw [List.getD_eq_getElem?_getD,List.getElem?_take_of_lt (by omega),List.getElem_take, <-List.getD_eq_getElem?_getD]
 exact h i (by omega) (by omega)
theorem PV.drop {l:List V} {cs:List VC} {W:World} {B:Nat} (h:∀i,i<l.length->PV l cs W B i) (k:Nat):∀i,i<(l.drop k).length->PV (l.drop k) (cs.drop k) W B i:=by
 intro i _ hi
 rw [List.length_drop] at hi
 rw [List.getD_eq_getElem?_getD,List.getElem?_drop,List.getElem_drop, <-List.getD_eq_getElem?_getD]
 exact h (k+i) (by omega) (by omega)
theorem PV.cons {l:List V} {cs:List VC} {W:World} {B:Nat} {x:V} {cx:VC} (hx:IsVal W B x cx) (h:∀i,i<l.length->PV l cs W B i):∀i,i<(x::l).length->PV (x::l) (cx::cs) W B i:=by
 intro i _ hi
 cases i with
 |zero=>exact hx
 |succ i=>exact h i (by simpa using hi) (by simpa using hi)
theorem zm5 {cs:List VC} {k j:Nat} {u:Value} (h:((cs.take k).flatMap vcells)[j]? =some u):(cs.flatMap vcells)[j]? =some u:=by
 have e:cs.flatMap vcells=(cs.take k).flatMap vcells++(cs.drop k).flatMap vcells:=by rw [<-List.flatMap_append,List.take_append_drop]
 rw [e,List.getElem?_append_left (List.getElem?_eq_some_iff.1 h).1];exact h
theorem zhr {cs:List VC} {k j:Nat} {u:Value} (hk:k<=cs.length) (h:((cs.drop k).flatMap vcells)[j]? =some u):(cs.flatMap vcells)[k*5+j]? =some u:=by
 have e:cs.flatMap vcells=(cs.take k).flatMap vcells++(cs.drop k).flatMap vcells:=by rw [<-List.flatMap_append,List.take_append_drop]
 have hl:((cs.take k).flatMap vcells).length=k*5:=by rw [Zo vcells 5 (fun _=>rfl),List.length_take,Nat.min_eq_left hk]
 rw [e,List.getElem?_append_right (by omega),hl,Nat.add_sub_cancel_left];exact h
theorem IsVals.cells {w:World} {B:Nat} {l:List V} {a:Option Addr} {n c:Nat} (h:IsVals w B l a n c):
 ∃cs:List VC,cs.length=l.length/\(∀b off,a=some ⟨b,off,none⟩->0<n->b<B/\∀j u,(cs.flatMap vcells)[j]? =some u->w.cell? ⟨b,off+j,none⟩=some u)/\∀i,i<l.length->PV l cs w B i:=by
 obtain ⟨h1,h2,h3,h4,b,off,f,h5,h6⟩:=h
 have hget:∀i (_:i<l.length),((List.range l.length).map f)[i]? =some (f i):=by
  intro i hi
  simp [hi]
 refine ⟨(List.range l.length).map f,by simp,fun b' off' e hn=> ?_,fun i hi h=> ?_⟩
 .obtain ⟨e2,hb⟩:=h5 hn
  rw [e] at e2
  injection e2 with e2;injection e2 with e2 e3
  subst e2 e3
  refine ⟨hb,fun j u hj=> ?_⟩
  have hjl:j<l.length*5:=by
   have:=(List.getElem?_eq_some_iff.1 hj).1
   rw [Zo vcells 5 (fun _=>rfl)] at this
   simpa using this
  have hi:j / 5<l.length:=by omega
  have hd:j=j / 5*5+j % 5:=by omega
  have hm:j % 5<5:=by omega
  rw [hd,Xm vcells 5 (fun _=>rfl) _ (j / 5) (j % 5) (by simpa using hi) hm] at hj
  have he:((List.range l.length).map f)[j / 5]'(by simpa using hi)=f (j / 5):=by simp
  rw [he] at hj
  obtain ⟨g1,g2⟩:=h6 (j / 5) hi
  rw [hd, <-Nat.add_assoc]
  obtain ⟨m,hmm⟩:∃m,j % 5=m:=⟨_,rfl⟩
  rw [hmm] at hj hm ⊢
  match m,hm with
  |0,_=>rw [<-hj];exact g1.c0
  |1,_=>rw [<-hj];exact g1.c1
  |2,_=>rw [<-hj];exact g1.c2
  |3,_=>rw [<-hj];exact g1.c3
  |4,_=>rw [<-hj];exact g1.c4
 .rw [List.getD_eq_getElem?_getD,hget i hi]
  exact (h6 i hi).2
def Neat2 (a:Option Addr) (c:Nat):Prop:=(a=none/\c=0)∨∃b off,a=some ⟨b,off,none⟩
theorem Xv {w:World} {B0 B1:Nat} {v:Value} {l:List V} {cs:List VC} (hown:w.ownsRow B1 31 5 v l.length (cs.flatMap vcells)) (hB:B0<=B1) (hl:cs.length=l.length) (hels:∀i,i<l.length->PV l cs (only (Free B0 v) w) w.heap.size i) (hfew:l.length<=1466015503701):
 ∃a n c,v= .slice a n c/\IsVals (only (fun b=>B0<=b) w) w.heap.size l a n c/\Neat2 a c:=by
 have hown2:w.ownsRow B0 31 5 v l.length (cs.flatMap vcells):=by
  refine ⟨hown.1, ?_⟩
  rcases hown.2 with h|⟨g,cap,cur,h1,h2,h3⟩
  .exact .inl h
  .exact .inr ⟨g,cap,cur,h1,Nat.le_trans hB h2,h3⟩
 have hv:∃a n c,v= .slice a n c/\Neat2 a c:=by
  rcases hown.2 with ⟨h,_⟩|⟨g,cap,cur,h1,_⟩
  .exact ⟨_,_,_,h, .inl ⟨rfl,rfl⟩⟩
  .exact ⟨_,_,_,h1, .inr ⟨g,0,rfl⟩⟩
 obtain ⟨a,n,c,rfl,hz⟩:=hv
 have hrow:RowV w B0 (.slice a n c) l cs:=⟨hown2,hels⟩
 have:=(RowV.val hrow (lo:=B0) hl (Nat.le_refl _) 4 (by omega) (by omega) hfew).lists
 exact ⟨a,n,c,rfl,this.2.2.2.2.1,hz⟩
def ListPost (w:World) (B0:Nat) (l:List V) (e:Ending) (w':World):Prop:=
 (∃a n c,e= .returned (.slice a n c)/\IsVals (only (fun b=>B0<=b) w') w'.heap.size l a n c/\Neat2 a c)/\Below w.heap.size w w'
theorem Kw (w:World) (cx:VC) (t:TypeId):Piece (w.alloc (.cells #[.int .u8 cx.k, .int .i64 cx.n, .string cx.s, .slice cx.la cx.ll cx.lc, .slice cx.oa cx.ol cx.oc] t)) (some ⟨w.heap.size,0,none⟩) 1 1 (vcells cx):=
 ⟨fun h=>by (cases h),fun ad h=>by
  injection h with h
  subst h
  exact World.news_of_block (t:=t) (fr:=(0,0)) (heap_alloc_new w (.cells #[.int .u8 cx.k, .int .i64 cx.n, .string cx.s, .slice cx.la cx.ll cx.lc, .slice cx.oa cx.ol cx.oc] t))⟩
theorem Qy {w W:World} {B0:Nat} {l:List V} {a:Option Addr} {n c:Nat} {cs:List VC} (hcl:cs.length=l.length) (hln:n=l.length) (hz:a=none->c=0) (ha:0<n->∃b off,a=some ⟨b,off,none⟩) (hc:∀b off,a=some ⟨b,off,none⟩->0<n->b<w.heap.size/\∀j u,(cs.flatMap vcells)[j]? =some u->(only (fun k=>B0<=k) w).cell? ⟨b,off+j,none⟩=some u) (hW:Below w.heap.size w W) (i:Nat):Piece W a (if n=0 then 0 else min i n) c ((cs.take i).flatMap vcells):=by
 refine ⟨fun h=> ?_,fun ad h j u hj=> ?_⟩
 .have hn:n=0:=by
   by_cases e:0<n
   .obtain ⟨b,off,e2⟩:=ha e;rw [h] at e2;cases e2
   .omega
  have:cs= [] :=List.eq_nil_of_length_eq_zero (by omega)
  subst this
  exact ⟨by rw [if_pos hn],hz h,by simp⟩
 .have hn:0<n:=by
   have:=(List.getElem?_eq_some_iff.1 hj).1
   rw [Zo vcells 5 (fun _=>rfl),List.length_take] at this
   omega
  obtain ⟨b,off,e⟩:=ha hn
  rw [h] at e
  injection e with e
  subst e
  obtain ⟨hb,hcell⟩:=hc b off h hn
  rw [Zq]
  exact Zb hW (Zy (hcell j u (zm5 hj))).2 hb
theorem za7 {w W:World} {B0:Nat} {l:List V} {b off:Nat} {n:Nat} {cs:List VC} (hcl:cs.length=l.length) (hln:n=l.length) (hc:∀b' off',some (⟨b,off,none⟩:Addr)=some ⟨b',off',none⟩->0<n->b'<w.heap.size/\∀j u,(cs.flatMap vcells)[j]? =some u->(only (fun k=>B0<=k) w).cell? ⟨b',off'+j,none⟩=some u) (hW:Below w.heap.size w W) (i:Nat) (hi:i<=n) (m c':Nat):Piece W (some ⟨b,off+i*5,none⟩) m c' ((cs.drop i).flatMap vcells):=by
 refine ⟨fun h=>by (cases h),fun ad h j u hj=> ?_⟩
 injection h with h
 subst h
 have hn:0<n:=by
  have:=(List.getElem?_eq_some_iff.1 hj).1
  rw [Zo vcells 5 (fun _=>rfl),List.length_drop] at this
  omega
 obtain ⟨hb,hcell⟩:=hc b off rfl hn
 rw [Zq,Nat.add_assoc]
 exact Zb hW (Zy (hcell _ u (zhr (by omega) hj))).2 hb
theorem zcy (w:World) (ad:Addr) (m c:Nat):Piece w (some ad) m c [] :=⟨fun h=>by (cases h),fun _ _ j u hj=>by simp at hj⟩
set_option maxRecDepth 100000 in
theorem zml (w:World) (B0:Nat) (hB0:B0<=w.heap.size) (l:List V) (a:Option Addr) (hab:a=none) (n c:Nat) (hl:IsVals (only (fun k=>B0<=k) w) w.heap.size l a n c) (hz:a=none->c=0) (i:Nat) (hi:i<=n) (x:V) (cx:VC) (hx:IsVal (only (fun k=>B0<=k) w) w.heap.size x cx) (hfew:n<=1000000000):
 Calls Tryd.prog 93 #[.slice a n c, .int .i64 i, .agg #[.int .u8 cx.k, .int .i64 cx.n, .string cx.s, .slice cx.la cx.ll cx.lc, .slice cx.oa cx.ol cx.oc]] w (ListPost w B0 (insL l i x)):=by
 obtain ⟨i0,hi0,hz0,hz1,hz2⟩:=info_parts Z8
 have hlen:=hl.len
 have hcap:=hl.cap
 have hmax:=hl.max
 have ha:=hl.at_
 obtain ⟨cs,hcl,hcell,hpv⟩:=hl.cells
 have ha2:0<n->∃b off,a=some ⟨b,off,none⟩:=fun h=>by
  obtain ⟨b,off,_,e,_⟩:=ha
  exact ⟨b,off,(e h).1⟩
 have HP1:Hid (∀W,Below w.heap.size w W->Piece W a i c ((cs.take i).flatMap vcells)):=fun W hW=>by
  have:=Qy hcl hlen hz ha2 hcell hW i
  have e:(if n=0 then 0 else min i n)=i:=by split<;>omega
  rwa [e] at this
 obtain ⟨XA,hXA⟩:∃XA,(cs.take i).flatMap vcells=XA:=⟨_,rfl⟩
 have hla:XA.length=i*5:=by rw [<-hXA,Zo vcells 5 (fun _=>rfl),List.length_take,Nat.min_eq_left (by omega)]
 have HA1:Hid (∀u ∈ XA,u.oneCell'=true):=by unfold Hid;rw [<-hXA];exact Z3 _
 obtain ⟨XB,hXB⟩:∃XB,(cs.drop (i)).flatMap vcells=XB:=⟨_,rfl⟩
 have hlb:XB.length=(n - (i))*5:=by rw [<-hXB,Zo vcells 5 (fun _=>rfl),List.length_drop,hcl, <-hlen]
 have HB1:Hid (∀u ∈ XB,u.oneCell'=true):=by unfold Hid;rw [<-hXB];exact Z3 _
 have hc0:c=0:=hz hab
 have hn0:n=0:=by omega
 have hi00:i=0:=by omega
 have hXBn:XB= [] :=List.eq_nil_of_length_eq_zero (by omega)
 have HP3:Hid (∀W,Below w.heap.size w W->Piece W none 0 0 XB):=fun W _=>⟨fun _=>⟨rfl,rfl,hXBn⟩,fun _ h=>by (cases h)⟩
 rw [hXA] at HP1
 have HBX:=qh (BC.start w #[.int .u8 cx.k, .int .i64 cx.n, .string cx.s, .slice cx.la cx.ll cx.lc, .slice cx.oa cx.ol cx.oc] 31)
 have HAL:=qh ((Below.refl _ _).alloc (Nat.le_refl _) (.cells #[.int .u8 cx.k, .int .i64 cx.n, .string cx.s, .slice cx.la cx.ll cx.lc, .slice cx.oa cx.ol cx.oc] 31):Below w.heap.size w _)
 have HX:=qh hx
 have HPV:=qh hpv
 have HCL:=qh hcl
 have HLEN:=qh hlen
 have HXA:=qh hXA
 have HXB:=qh hXB
 obtain ⟨R,hR⟩:∃R,ListPost w B0 (insL l i x)=R:=⟨_,rfl⟩
 rw [hR]
 have HR:=qh hR
 have ho1:(w.alloc (.cells #[.int .u8 cx.k, .int .i64 cx.n, .string cx.s, .slice cx.la cx.ll cx.lc, .slice cx.oa cx.ol cx.oc] 31)).ownsRow (w.heap.size+1) 31 5 (.slice none 0 0) 0 [] :=⟨rfl, .inl ⟨rfl,rfl⟩⟩
 clear hl ha hcl hcell hpv hlen ha2 hXA hXB hx hR hz
 subst hab
 subst hc0 hn0 hi00
 go_enter Tryd.func93,Tryd.ntmps93
 go_wp2_with (first
  |(at_builtin;refine Z0 _ rfl (.tmp 8) (.tmp 11) 28 (by rfl) (w.heap.size+1) 31 i0 _ 5 80 Tryd.underlying28 hi0 hz0 hz1 hz2 rfl (by omega) (.slice none 0 0) 0 [] (by rfl) ho1 none 0 0 XA (by rfl) (HP1.out _ HAL.out) hla HA1.out (by unfold maxLen;omega) (by omega) (by simp) ?_;intro v1 w2 hown1 hgrow1;have b12:Below (w.heap.size+1) (w.alloc _) w2:=Zj hgrow1 (fun k hk=>by simp [Value.ownBlock] at hk) (by simp);have BX2:=HBX.out.keep b12 (by omega);obtain ⟨x0,x1,x2,x3,x4⟩:=row5 BX2.at_;have zs2:=BX2.lt;have HBL2:=qh (HAL.out.trans (b12.mono (by omega)));have hrl:∀g,v1.ownBlock=some g->w.heap.size+1<=g/\g<w2.heap.size:=hown1.lt;have ho2:=hown1.alloc (.cells #[.int .u8 cx.k, .int .i64 cx.n, .string cx.s, .slice cx.la cx.ll cx.lc, .slice cx.oa cx.ol cx.oc] 31);clear hown1 hgrow1 BX2 b12)
  |(at_builtin;refine Z0 _ rfl (.tmp 13) (.tmp 15) 28 (by rfl) (w.heap.size+1) 31 i0 _ 5 80 Tryd.underlying28 hi0 hz0 hz1 hz2 rfl (by omega) v1 (0+0) ([] ++XA) (by rfl) ho2 (some ⟨w2.heap.size,0,none⟩) 1 1 (vcells cx) (by rfl) (Kw w2 cx _) (by rfl) (by simp [vcells,Value.oneCell']) (by unfold maxLen;omega) (by omega) (by simp;omega) ?_;intro v2 w4 hown2 hgrow2;have b24:Below (w.heap.size+1) w2 w4:=(((Below.refl w2.heap.size w2).alloc (Nat.le_refl _) (.cells #[.int .u8 cx.k, .int .i64 cx.n, .string cx.s, .slice cx.la cx.ll cx.lc, .slice cx.oa cx.ol cx.oc] 31)).mono (by omega)).trans (Zj hgrow2 (fun k hk=>(hrl k hk).1) (by simp;omega));have HBL4:=qh (HBL2.out.trans (b24.mono (by omega)));have zs4:w.heap.size<w4.heap.size:=Nat.lt_of_lt_of_le zs2 b24.size;have hrl2:∀g,v2.ownBlock=some g->w.heap.size+1<=g/\g<w4.heap.size:=hown2.lt;have HO2:=qh hown2;clear hgrow2 b24 hown2)
  |(at_builtin;refine Z0 _ rfl (.tmp 17) (.tmp 20) 28 (by rfl) (w.heap.size+1) 31 i0 _ 5 80 Tryd.underlying28 hi0 hz0 hz1 hz2 rfl (by omega) v2 (0+0+1) ([] ++XA++vcells cx) (by rfl) HO2.out none 0 0 XB (by rfl) (HP3.out _ HBL4.out) (by omega) HB1.out (by unfold maxLen;omega) (by omega) (by omega) ?_;intro v3 w5 hown3 hgrow3;have b45:Below (w.heap.size+1) w4 w5:=Zj hgrow3 (fun k hk=>(hrl2 k hk).1) (by omega);have HBL5:=qh (HBL4.out.trans (b45.mono (by omega)));have HO3:=qh hown3;clear hgrow3 b45 hown3))
 rw [<-HR.out]
 have hcat: [] ++XA++vcells cx++XB=(insL cs 0 cx).flatMap vcells:=by rw [<-HXA.out, <-HXB.out];simp [insL]
 have hll:(insL l 0 x).length=0+0+1+0:=by
  rw [insL,List.length_append,List.length_cons,List.length_drop,List.length_take, <-HLEN.out];omega
 have hown:=HO3.out
 rw [hcat, <-hll] at hown
 have hlt3:=hown.lt
 have hsh:Shows (only (fun k=>B0<=k) w) (only (Free B0 v3) w5) w.heap.size:=Zd fun q hq hl=>⟨⟨hq,fun e=>by have:=(hlt3 q e.symm).1;omega⟩,HBL5.out.block q hl⟩
 have hpv:∀k,k<l.length->PV l cs (only (Free B0 v3) w5) w5.heap.size k:=fun k hk=>PV.closed l cs _ _ _ _ k hsh HBL5.out.size (HPV.out k hk)
 obtain ⟨a,n,c,hv,hf,hz⟩:=Xv (B0:=B0) (B1:=w.heap.size+1) hown (by omega) (by rw [insL,insL,List.length_append,List.length_append,List.length_cons,List.length_cons,List.length_take,List.length_take,List.length_drop,List.length_drop,HCL.out])
  (PV.append (by rw [List.length_take,List.length_take,HCL.out]) (PV.take hpv 0) (PV.cons ((HX.out.sub hsh).more HBL5.out.size) (PV.drop hpv 0))) (by rw [hll];omega)
 exact ⟨⟨a,n,c,by rw [hv],hf,hz⟩,HBL5.out⟩
set_option maxRecDepth 100000 in
theorem zez (w:World) (B0:Nat) (hB0:B0<=w.heap.size) (l:List V) (a:Option Addr) (b off:Nat) (hab:a=(some ⟨b,off,none⟩)) (n c:Nat) (hl:IsVals (only (fun k=>B0<=k) w) w.heap.size l a n c) (hz:a=none->c=0) (i:Nat) (hi:i<=n) (x:V) (cx:VC) (hx:IsVal (only (fun k=>B0<=k) w) w.heap.size x cx) (hfew:n<=1000000000) (hic:i=c):
 Calls Tryd.prog 93 #[.slice a n c, .int .i64 i, .agg #[.int .u8 cx.k, .int .i64 cx.n, .string cx.s, .slice cx.la cx.ll cx.lc, .slice cx.oa cx.ol cx.oc]] w (ListPost w B0 (insL l i x)):=by
 obtain ⟨i0,hi0,hz0,hz1,hz2⟩:=info_parts Z8
 have hlen:=hl.len
 have hcap:=hl.cap
 have hmax:=hl.max
 have ha:=hl.at_
 obtain ⟨cs,hcl,hcell,hpv⟩:=hl.cells
 have ha2:0<n->∃b off,a=some ⟨b,off,none⟩:=fun h=>by
  obtain ⟨b,off,_,e,_⟩:=ha
  exact ⟨b,off,(e h).1⟩
 have HP1:Hid (∀W,Below w.heap.size w W->Piece W a i c ((cs.take i).flatMap vcells)):=fun W hW=>by
  have:=Qy hcl hlen hz ha2 hcell hW i
  have e:(if n=0 then 0 else min i n)=i:=by split<;>omega
  rwa [e] at this
 obtain ⟨XA,hXA⟩:∃XA,(cs.take i).flatMap vcells=XA:=⟨_,rfl⟩
 have hla:XA.length=i*5:=by rw [<-hXA,Zo vcells 5 (fun _=>rfl),List.length_take,Nat.min_eq_left (by omega)]
 have HA1:Hid (∀u ∈ XA,u.oneCell'=true):=by unfold Hid;rw [<-hXA];exact Z3 _
 obtain ⟨XB,hXB⟩:∃XB,(cs.drop (i)).flatMap vcells=XB:=⟨_,rfl⟩
 have hlb:XB.length=(n - (i))*5:=by rw [<-hXB,Zo vcells 5 (fun _=>rfl),List.length_drop,hcl, <-hlen]
 have HB1:Hid (∀u ∈ XB,u.oneCell'=true):=by unfold Hid;rw [<-hXB];exact Z3 _
 have hni:n - i=0:=by omega
 have hXBn:XB= [] :=List.eq_nil_of_length_eq_zero (by omega)
 have HP3:Hid (∀W,Below w.heap.size w W->Piece W (some ⟨b,off,none⟩) 0 0 XB):=fun W _=>by rw [hXBn];exact zcy W _ _ _
 rw [hXA] at HP1
 have HBX:=qh (BC.start w #[.int .u8 cx.k, .int .i64 cx.n, .string cx.s, .slice cx.la cx.ll cx.lc, .slice cx.oa cx.ol cx.oc] 31)
 have HAL:=qh ((Below.refl _ _).alloc (Nat.le_refl _) (.cells #[.int .u8 cx.k, .int .i64 cx.n, .string cx.s, .slice cx.la cx.ll cx.lc, .slice cx.oa cx.ol cx.oc] 31):Below w.heap.size w _)
 have HX:=qh hx
 have HPV:=qh hpv
 have HCL:=qh hcl
 have HLEN:=qh hlen
 have HXA:=qh hXA
 have HXB:=qh hXB
 obtain ⟨R,hR⟩:∃R,ListPost w B0 (insL l i x)=R:=⟨_,rfl⟩
 rw [hR]
 have HR:=qh hR
 have ho1:(w.alloc (.cells #[.int .u8 cx.k, .int .i64 cx.n, .string cx.s, .slice cx.la cx.ll cx.lc, .slice cx.oa cx.ol cx.oc] 31)).ownsRow (w.heap.size+1) 31 5 (.slice none 0 0) 0 [] :=⟨rfl, .inl ⟨rfl,rfl⟩⟩
 clear hl ha hcl hcell hpv hlen ha2 hXA hXB hx hR hz
 subst hab
 cases hic
 go_enter Tryd.func93,Tryd.ntmps93
 go_wp2_with (first
  |(at_builtin;refine Z0 _ rfl (.tmp 8) (.tmp 11) 28 (by rfl) (w.heap.size+1) 31 i0 _ 5 80 Tryd.underlying28 hi0 hz0 hz1 hz2 rfl (by omega) (.slice none 0 0) 0 [] (by rfl) ho1 (some ⟨b,off,none⟩) c c XA (by rfl) (HP1.out _ HAL.out) hla HA1.out (by unfold maxLen;omega) (by omega) (by simp) ?_;intro v1 w2 hown1 hgrow1;have b12:Below (w.heap.size+1) (w.alloc _) w2:=Zj hgrow1 (fun k hk=>by simp [Value.ownBlock] at hk) (by simp);have BX2:=HBX.out.keep b12 (by omega);obtain ⟨x0,x1,x2,x3,x4⟩:=row5 BX2.at_;have zs2:=BX2.lt;have HBL2:=qh (HAL.out.trans (b12.mono (by omega)));have hrl:∀g,v1.ownBlock=some g->w.heap.size+1<=g/\g<w2.heap.size:=hown1.lt;have ho2:=hown1.alloc (.cells #[.int .u8 cx.k, .int .i64 cx.n, .string cx.s, .slice cx.la cx.ll cx.lc, .slice cx.oa cx.ol cx.oc] 31);clear hown1 hgrow1 BX2 b12)
  |(at_builtin;refine Z0 _ rfl (.tmp 13) (.tmp 15) 28 (by rfl) (w.heap.size+1) 31 i0 _ 5 80 Tryd.underlying28 hi0 hz0 hz1 hz2 rfl (by omega) v1 (0+c) ([] ++XA) (by rfl) ho2 (some ⟨w2.heap.size,0,none⟩) 1 1 (vcells cx) (by rfl) (Kw w2 cx _) (by rfl) (by simp [vcells,Value.oneCell']) (by unfold maxLen;omega) (by omega) (by simp;omega) ?_;intro v2 w4 hown2 hgrow2;have b24:Below (w.heap.size+1) w2 w4:=(((Below.refl w2.heap.size w2).alloc (Nat.le_refl _) (.cells #[.int .u8 cx.k, .int .i64 cx.n, .string cx.s, .slice cx.la cx.ll cx.lc, .slice cx.oa cx.ol cx.oc] 31)).mono (by omega)).trans (Zj hgrow2 (fun k hk=>(hrl k hk).1) (by simp;omega));have HBL4:=qh (HBL2.out.trans (b24.mono (by omega)));have zs4:w.heap.size<w4.heap.size:=Nat.lt_of_lt_of_le zs2 b24.size;have hrl2:∀g,v2.ownBlock=some g->w.heap.size+1<=g/\g<w4.heap.size:=hown2.lt;have HO2:=qh hown2;clear hgrow2 b24 hown2)
  |(at_builtin;refine Z0 _ rfl (.tmp 17) (.tmp 20) 28 (by rfl) (w.heap.size+1) 31 i0 _ 5 80 Tryd.underlying28 hi0 hz0 hz1 hz2 rfl (by omega) v2 (0+c+1) ([] ++XA++vcells cx) (by rfl) HO2.out (some ⟨b,off,none⟩) 0 0 XB (by rfl) (HP3.out _ HBL4.out) (by omega) HB1.out (by unfold maxLen;omega) (by omega) (by omega) ?_;intro v3 w5 hown3 hgrow3;have b45:Below (w.heap.size+1) w4 w5:=Zj hgrow3 (fun k hk=>(hrl2 k hk).1) (by omega);have HBL5:=qh (HBL4.out.trans (b45.mono (by omega)));have HO3:=qh hown3;clear hgrow3 b45 hown3))
 rw [<-HR.out]
 have hcat: [] ++XA++vcells cx++XB=(insL cs c cx).flatMap vcells:=by rw [<-HXA.out, <-HXB.out];simp [insL]
 have hll:(insL l c x).length=0+c+1+0:=by
  rw [insL,List.length_append,List.length_cons,List.length_drop,List.length_take, <-HLEN.out];omega
 have hown:=HO3.out
 rw [hcat, <-hll] at hown
 have hlt3:=hown.lt
 have hsh:Shows (only (fun k=>B0<=k) w) (only (Free B0 v3) w5) w.heap.size:=Zd fun q hq hl=>⟨⟨hq,fun e=>by have:=(hlt3 q e.symm).1;omega⟩,HBL5.out.block q hl⟩
 have hpv:∀k,k<l.length->PV l cs (only (Free B0 v3) w5) w5.heap.size k:=fun k hk=>PV.closed l cs _ _ _ _ k hsh HBL5.out.size (HPV.out k hk)
 obtain ⟨a,n,c,hv,hf,hz⟩:=Xv (B0:=B0) (B1:=w.heap.size+1) hown (by omega) (by rw [insL,insL,List.length_append,List.length_append,List.length_cons,List.length_cons,List.length_take,List.length_take,List.length_drop,List.length_drop,HCL.out])
  (PV.append (by rw [List.length_take,List.length_take,HCL.out]) (PV.take hpv c) (PV.cons ((HX.out.sub hsh).more HBL5.out.size) (PV.drop hpv c))) (by rw [hll];omega)
 exact ⟨⟨a,n,c,by rw [hv],hf,hz⟩,HBL5.out⟩
set_option maxRecDepth 100000 in
theorem zhk (w:World) (B0:Nat) (hB0:B0<=w.heap.size) (l:List V) (a:Option Addr) (b off:Nat) (hab:a=(some ⟨b,off,none⟩)) (n c:Nat) (hl:IsVals (only (fun k=>B0<=k) w) w.heap.size l a n c) (hz:a=none->c=0) (i:Nat) (hi:i<=n) (x:V) (cx:VC) (hx:IsVal (only (fun k=>B0<=k) w) w.heap.size x cx) (hfew:n<=1000000000) (hic:i<c):
 Calls Tryd.prog 93 #[.slice a n c, .int .i64 i, .agg #[.int .u8 cx.k, .int .i64 cx.n, .string cx.s, .slice cx.la cx.ll cx.lc, .slice cx.oa cx.ol cx.oc]] w (ListPost w B0 (insL l i x)):=by
 obtain ⟨i0,hi0,hz0,hz1,hz2⟩:=info_parts Z8
 have hlen:=hl.len
 have hcap:=hl.cap
 have hmax:=hl.max
 have ha:=hl.at_
 obtain ⟨cs,hcl,hcell,hpv⟩:=hl.cells
 have ha2:0<n->∃b off,a=some ⟨b,off,none⟩:=fun h=>by
  obtain ⟨b,off,_,e,_⟩:=ha
  exact ⟨b,off,(e h).1⟩
 have HP1:Hid (∀W,Below w.heap.size w W->Piece W a i c ((cs.take i).flatMap vcells)):=fun W hW=>by
  have:=Qy hcl hlen hz ha2 hcell hW i
  have e:(if n=0 then 0 else min i n)=i:=by split<;>omega
  rwa [e] at this
 obtain ⟨XA,hXA⟩:∃XA,(cs.take i).flatMap vcells=XA:=⟨_,rfl⟩
 have hla:XA.length=i*5:=by rw [<-hXA,Zo vcells 5 (fun _=>rfl),List.length_take,Nat.min_eq_left (by omega)]
 have HA1:Hid (∀u ∈ XA,u.oneCell'=true):=by unfold Hid;rw [<-hXA];exact Z3 _
 obtain ⟨XB,hXB⟩:∃XB,(cs.drop (i)).flatMap vcells=XB:=⟨_,rfl⟩
 have hlb:XB.length=(n - (i))*5:=by rw [<-hXB,Zo vcells 5 (fun _=>rfl),List.length_drop,hcl, <-hlen]
 have HB1:Hid (∀u ∈ XB,u.oneCell'=true):=by unfold Hid;rw [<-hXB];exact Z3 _
 have HP3:Hid (∀W,Below w.heap.size w W->Piece W (some ⟨b,off+i*5,none⟩) (n - i) (c - i) XB):=fun W hW=>by rw [<-hXB];subst hab;exact za7 hcl hlen hcell hW i hi _ _
 rw [hXA] at HP1
 have HBX:=qh (BC.start w #[.int .u8 cx.k, .int .i64 cx.n, .string cx.s, .slice cx.la cx.ll cx.lc, .slice cx.oa cx.ol cx.oc] 31)
 have HAL:=qh ((Below.refl _ _).alloc (Nat.le_refl _) (.cells #[.int .u8 cx.k, .int .i64 cx.n, .string cx.s, .slice cx.la cx.ll cx.lc, .slice cx.oa cx.ol cx.oc] 31):Below w.heap.size w _)
 have HX:=qh hx
 have HPV:=qh hpv
 have HCL:=qh hcl
 have HLEN:=qh hlen
 have HXA:=qh hXA
 have HXB:=qh hXB
 obtain ⟨R,hR⟩:∃R,ListPost w B0 (insL l i x)=R:=⟨_,rfl⟩
 rw [hR]
 have HR:=qh hR
 have ho1:(w.alloc (.cells #[.int .u8 cx.k, .int .i64 cx.n, .string cx.s, .slice cx.la cx.ll cx.lc, .slice cx.oa cx.ol cx.oc] 31)).ownsRow (w.heap.size+1) 31 5 (.slice none 0 0) 0 [] :=⟨rfl, .inl ⟨rfl,rfl⟩⟩
 clear hl ha hcl hcell hpv hlen ha2 hXA hXB hx hR hz
 subst hab
 go_enter Tryd.func93,Tryd.ntmps93
 go_wp2_with (first
  |(at_builtin;refine Z0 _ rfl (.tmp 8) (.tmp 11) 28 (by rfl) (w.heap.size+1) 31 i0 _ 5 80 Tryd.underlying28 hi0 hz0 hz1 hz2 rfl (by omega) (.slice none 0 0) 0 [] (by rfl) ho1 (some ⟨b,off,none⟩) i c XA (by rfl) (HP1.out _ HAL.out) hla HA1.out (by unfold maxLen;omega) (by omega) (by simp) ?_;intro v1 w2 hown1 hgrow1;have b12:Below (w.heap.size+1) (w.alloc _) w2:=Zj hgrow1 (fun k hk=>by simp [Value.ownBlock] at hk) (by simp);have BX2:=HBX.out.keep b12 (by omega);obtain ⟨x0,x1,x2,x3,x4⟩:=row5 BX2.at_;have zs2:=BX2.lt;have HBL2:=qh (HAL.out.trans (b12.mono (by omega)));have hrl:∀g,v1.ownBlock=some g->w.heap.size+1<=g/\g<w2.heap.size:=hown1.lt;have ho2:=hown1.alloc (.cells #[.int .u8 cx.k, .int .i64 cx.n, .string cx.s, .slice cx.la cx.ll cx.lc, .slice cx.oa cx.ol cx.oc] 31);clear hown1 hgrow1 BX2 b12)
  |(at_builtin;refine Z0 _ rfl (.tmp 13) (.tmp 15) 28 (by rfl) (w.heap.size+1) 31 i0 _ 5 80 Tryd.underlying28 hi0 hz0 hz1 hz2 rfl (by omega) v1 (0+i) ([] ++XA) (by rfl) ho2 (some ⟨w2.heap.size,0,none⟩) 1 1 (vcells cx) (by rfl) (Kw w2 cx _) (by rfl) (by simp [vcells,Value.oneCell']) (by unfold maxLen;omega) (by omega) (by simp;omega) ?_;intro v2 w4 hown2 hgrow2;have b24:Below (w.heap.size+1) w2 w4:=(((Below.refl w2.heap.size w2).alloc (Nat.le_refl _) (.cells #[.int .u8 cx.k, .int .i64 cx.n, .string cx.s, .slice cx.la cx.ll cx.lc, .slice cx.oa cx.ol cx.oc] 31)).mono (by omega)).trans (Zj hgrow2 (fun k hk=>(hrl k hk).1) (by simp;omega));have HBL4:=qh (HBL2.out.trans (b24.mono (by omega)));have zs4:w.heap.size<w4.heap.size:=Nat.lt_of_lt_of_le zs2 b24.size;have hrl2:∀g,v2.ownBlock=some g->w.heap.size+1<=g/\g<w4.heap.size:=hown2.lt;have HO2:=qh hown2;clear hgrow2 b24 hown2)
  |(at_builtin;refine Z0 _ rfl (.tmp 17) (.tmp 20) 28 (by rfl) (w.heap.size+1) 31 i0 _ 5 80 Tryd.underlying28 hi0 hz0 hz1 hz2 rfl (by omega) v2 (0+i+1) ([] ++XA++vcells cx) (by rfl) HO2.out (some ⟨b,off+i*5,none⟩) (n - i) (c - i) XB (by rfl) (HP3.out _ HBL4.out) (by omega) HB1.out (by unfold maxLen;omega) (by omega) (by omega) ?_;intro v3 w5 hown3 hgrow3;have b45:Below (w.heap.size+1) w4 w5:=Zj hgrow3 (fun k hk=>(hrl2 k hk).1) (by omega);have HBL5:=qh (HBL4.out.trans (b45.mono (by omega)));have HO3:=qh hown3;clear hgrow3 b45 hown3))
 rw [<-HR.out]
 have hcat: [] ++XA++vcells cx++XB=(insL cs i cx).flatMap vcells:=by rw [<-HXA.out, <-HXB.out];simp [insL]
 have hll:(insL l i x).length=0+i+1+(n - i):=by
  rw [insL,List.length_append,List.length_cons,List.length_drop,List.length_take, <-HLEN.out];omega
 have hown:=HO3.out
 rw [hcat, <-hll] at hown
 have hlt3:=hown.lt
 have hsh:Shows (only (fun k=>B0<=k) w) (only (Free B0 v3) w5) w.heap.size:=Zd fun q hq hl=>⟨⟨hq,fun e=>by have:=(hlt3 q e.symm).1;omega⟩,HBL5.out.block q hl⟩
 have hpv:∀k,k<l.length->PV l cs (only (Free B0 v3) w5) w5.heap.size k:=fun k hk=>PV.closed l cs _ _ _ _ k hsh HBL5.out.size (HPV.out k hk)
 obtain ⟨a,n,c,hv,hf,hz⟩:=Xv (B0:=B0) (B1:=w.heap.size+1) hown (by omega) (by rw [insL,insL,List.length_append,List.length_append,List.length_cons,List.length_cons,List.length_take,List.length_take,List.length_drop,List.length_drop,HCL.out])
  (PV.append (by rw [List.length_take,List.length_take,HCL.out]) (PV.take hpv i) (PV.cons ((HX.out.sub hsh).more HBL5.out.size) (PV.drop hpv i))) (by rw [hll];omega)
 exact ⟨⟨a,n,c,by rw [hv],hf,hz⟩,HBL5.out⟩
theorem zak (w:World) (B0:Nat) (hB0:B0<=w.heap.size) (l:List V) (a:Option Addr) (n c:Nat) (hl:IsVals (only (fun k=>B0<=k) w) w.heap.size l a n c) (hz:Neat2 a c) (i:Nat) (hi:i<=n) (x:V) (xk xn:Int) (xs:ByteArray) (xa:Option Addr) (xl xc:Nat) (ya:Option Addr) (yl yc:Nat) (hx:IsVal (only (fun k=>B0<=k) w) w.heap.size x ⟨xk,xn,xs,xa,xl,xc,ya,yl,yc⟩) (hfew:n<=1000000000):
 Calls Tryd.prog 93 #[.slice a n c, .int .i64 i, .agg #[.int .u8 xk, .int .i64 xn, .string xs, .slice xa xl xc, .slice ya yl yc]] w (ListPost w B0 (insL l i x)):=by
 have hcap:=hl.cap
 rcases hz with ⟨ha,hc⟩|⟨b,off,ha⟩
 .exact zml w B0 hB0 l a ha n c hl (fun _=>hc) i hi x ⟨xk,xn,xs,xa,xl,xc,ya,yl,yc⟩ hx hfew
 .by_cases hic:i=c
  .exact zez w B0 hB0 l a b off ha n c hl (fun h=>by rw [ha] at h;cases h) i hi x ⟨xk,xn,xs,xa,xl,xc,ya,yl,yc⟩ hx hfew hic
  .exact zhk w B0 hB0 l a b off ha n c hl (fun h=>by rw [ha] at h;cases h) i hi x ⟨xk,xn,xs,xa,xl,xc,ya,yl,yc⟩ hx hfew (by omega)
set_option maxRecDepth 100000 in
theorem zi3 (w:World) (B0:Nat) (hB0:B0<=w.heap.size) (l:List V) (a:Option Addr) (b off:Nat) (hab:a=some ⟨b,off,none⟩) (n c:Nat) (hl:IsVals (only (fun k=>B0<=k) w) w.heap.size l a n c) (hz:a=none->c=0) (i:Nat) (hi:i<n) (hfew:n<=1000000000) (hic:i+1=c):
 Calls Tryd.prog 94 #[.slice a n c, .int .i64 i] w (ListPost w B0 (remL l i)):=by
 have hwr:IntKind.i64.wrap ((i:Int)+1)=((i+1:Nat):Int):=by rw [IntWalk.i64_in _ (by omega)];omega
 obtain ⟨i0,hi0,hz0,hz1,hz2⟩:=info_parts Z8
 have hlen:=hl.len
 have hcap:=hl.cap
 have hmax:=hl.max
 have ha:=hl.at_
 obtain ⟨cs,hcl,hcell,hpv⟩:=hl.cells
 have ha2:0<n->∃b off,a=some ⟨b,off,none⟩:=fun h=>by
  obtain ⟨b,off,_,e,_⟩:=ha
  exact ⟨b,off,(e h).1⟩
 have HP1:Hid (∀W,Below w.heap.size w W->Piece W a i c ((cs.take i).flatMap vcells)):=fun W hW=>by
  have:=Qy hcl hlen hz ha2 hcell hW i
  have e:(if n=0 then 0 else min i n)=i:=by split<;>omega
  rwa [e] at this
 obtain ⟨XA,hXA⟩:∃XA,(cs.take i).flatMap vcells=XA:=⟨_,rfl⟩
 have hla:XA.length=i*5:=by rw [<-hXA,Zo vcells 5 (fun _=>rfl),List.length_take,Nat.min_eq_left (by omega)]
 have HA1:Hid (∀u ∈ XA,u.oneCell'=true):=by unfold Hid;rw [<-hXA];exact Z3 _
 obtain ⟨XB,hXB⟩:∃XB,(cs.drop (i+1)).flatMap vcells=XB:=⟨_,rfl⟩
 have hlb:XB.length=(n - (i+1))*5:=by rw [<-hXB,Zo vcells 5 (fun _=>rfl),List.length_drop,hcl, <-hlen]
 have HB1:Hid (∀u ∈ XB,u.oneCell'=true):=by unfold Hid;rw [<-hXB];exact Z3 _
 have hni:n - (i+1)=0:=by omega
 have hXBn:XB= [] :=List.eq_nil_of_length_eq_zero (by omega)
 have HP3:Hid (∀W,Below w.heap.size w W->Piece W (some ⟨b,off,none⟩) 0 0 XB):=fun W _=>by rw [hXBn];exact zcy W _ _ _
 rw [hXA] at HP1
 have HPV:=qh hpv
 have HCL:=qh hcl
 have HLEN:=qh hlen
 have HXA:=qh hXA
 have HXB:=qh hXB
 obtain ⟨R,hR⟩:∃R,ListPost w B0 (remL l i)=R:=⟨_,rfl⟩
 rw [hR]
 have HR:=qh hR
 have ho1:w.ownsRow w.heap.size 31 5 (.slice none 0 0) 0 [] :=⟨rfl, .inl ⟨rfl,rfl⟩⟩
 clear hl ha hcl hcell hpv hlen ha2 hXA hXB hR hz
 subst hab
 cases hic
 go_enter Tryd.func94,Tryd.ntmps94
 go_wp2_with (first
  |(at_builtin;refine Z0 _ rfl (.tmp 6) (.tmp 9) 28 (by rfl) w.heap.size 31 i0 _ 5 80 Tryd.underlying28 hi0 hz0 hz1 hz2 rfl (by omega) (.slice none 0 0) 0 [] (by rfl) ho1 (some ⟨b,off,none⟩) i (i+1) XA (by rfl) (HP1.out _ (Below.refl _ _)) hla HA1.out (by unfold maxLen;omega) (by omega) (Nat.le_refl _) ?_;intro v1 w2 hown1 hgrow1;have b12:Below w.heap.size w w2:=Zj hgrow1 (fun k hk=>by simp [Value.ownBlock] at hk) (Nat.le_refl _);have HBL2:=qh b12;have zs2:=b12.size;have hrl:∀g,v1.ownBlock=some g->w.heap.size<=g/\g<w2.heap.size:=hown1.lt;have HO1:=qh hown1;clear hown1 hgrow1 b12)
  |(at_builtin;refine Z0 _ rfl (.tmp 11) (.tmp 15) 28 (by rfl) w.heap.size 31 i0 _ 5 80 Tryd.underlying28 hi0 hz0 hz1 hz2 rfl (by omega) v1 (0+i) ([] ++XA) (by rfl) HO1.out (some ⟨b,off,none⟩) 0 0 XB (by rfl) (HP3.out _ HBL2.out) (by omega) HB1.out (by unfold maxLen;omega) (by omega) (by omega) ?_;intro v3 w5 hown3 hgrow3;have b45:Below w.heap.size w2 w5:=Zj hgrow3 (fun k hk=>(hrl k hk).1) (by omega);have HBL5:=qh (HBL2.out.trans b45);have HO3:=qh hown3;clear hgrow3 b45 hown3))
 rw [<-HR.out]
 have hcat: [] ++XA++XB=(remL cs i).flatMap vcells:=by rw [<-HXA.out, <-HXB.out];simp [remL]
 have hll:(remL l i).length=0+i+0:=by
  rw [remL,List.length_append,List.length_drop,List.length_take, <-HLEN.out];omega
 have hown:=HO3.out
 rw [hcat, <-hll] at hown
 have hlt3:=hown.lt
 have hsh:Shows (only (fun k=>B0<=k) w) (only (Free B0 v3) w5) w.heap.size:=Zd fun q hq hl=>⟨⟨hq,fun e=>by have:=(hlt3 q e.symm).1;omega⟩,HBL5.out.block q hl⟩
 have hpv:∀k,k<l.length->PV l cs (only (Free B0 v3) w5) w5.heap.size k:=fun k hk=>PV.closed l cs _ _ _ _ k hsh HBL5.out.size (HPV.out k hk)
 obtain ⟨a,n,c,hv,hf,hz⟩:=Xv (B0:=B0) (B1:=w.heap.size) hown (by omega) (by rw [remL,remL,List.length_append,List.length_append,List.length_take,List.length_take,List.length_drop,List.length_drop,HCL.out])
  (PV.append (by rw [List.length_take,List.length_take,HCL.out]) (PV.take hpv i) (PV.drop hpv (i+1))) (by rw [hll];omega)
 exact ⟨⟨a,n,c,by rw [hv];rfl,hf,hz⟩,HBL5.out⟩
set_option maxRecDepth 100000 in
theorem zmw (w:World) (B0:Nat) (hB0:B0<=w.heap.size) (l:List V) (a:Option Addr) (b off:Nat) (hab:a=some ⟨b,off,none⟩) (n c:Nat) (hl:IsVals (only (fun k=>B0<=k) w) w.heap.size l a n c) (hz:a=none->c=0) (i:Nat) (hi:i<n) (hfew:n<=1000000000) (hic:i+1<c):
 Calls Tryd.prog 94 #[.slice a n c, .int .i64 i] w (ListPost w B0 (remL l i)):=by
 have hwr:IntKind.i64.wrap ((i:Int)+1)=((i+1:Nat):Int):=by rw [IntWalk.i64_in _ (by omega)];omega
 obtain ⟨i0,hi0,hz0,hz1,hz2⟩:=info_parts Z8
 have hlen:=hl.len
 have hcap:=hl.cap
 have hmax:=hl.max
 have ha:=hl.at_
 obtain ⟨cs,hcl,hcell,hpv⟩:=hl.cells
 have ha2:0<n->∃b off,a=some ⟨b,off,none⟩:=fun h=>by
  obtain ⟨b,off,_,e,_⟩:=ha
  exact ⟨b,off,(e h).1⟩
 have HP1:Hid (∀W,Below w.heap.size w W->Piece W a i c ((cs.take i).flatMap vcells)):=fun W hW=>by
  have:=Qy hcl hlen hz ha2 hcell hW i
  have e:(if n=0 then 0 else min i n)=i:=by split<;>omega
  rwa [e] at this
 obtain ⟨XA,hXA⟩:∃XA,(cs.take i).flatMap vcells=XA:=⟨_,rfl⟩
 have hla:XA.length=i*5:=by rw [<-hXA,Zo vcells 5 (fun _=>rfl),List.length_take,Nat.min_eq_left (by omega)]
 have HA1:Hid (∀u ∈ XA,u.oneCell'=true):=by unfold Hid;rw [<-hXA];exact Z3 _
 obtain ⟨XB,hXB⟩:∃XB,(cs.drop (i+1)).flatMap vcells=XB:=⟨_,rfl⟩
 have hlb:XB.length=(n - (i+1))*5:=by rw [<-hXB,Zo vcells 5 (fun _=>rfl),List.length_drop,hcl, <-hlen]
 have HB1:Hid (∀u ∈ XB,u.oneCell'=true):=by unfold Hid;rw [<-hXB];exact Z3 _
 have HP3:Hid (∀W,Below w.heap.size w W->Piece W (some ⟨b,off+(i+1)*5,none⟩) (n - (i+1)) (c - (i+1)) XB):=fun W hW=>by rw [<-hXB];subst hab;exact za7 hcl hlen hcell hW (i+1) (by omega) _ _
 rw [hXA] at HP1
 have HPV:=qh hpv
 have HCL:=qh hcl
 have HLEN:=qh hlen
 have HXA:=qh hXA
 have HXB:=qh hXB
 obtain ⟨R,hR⟩:∃R,ListPost w B0 (remL l i)=R:=⟨_,rfl⟩
 rw [hR]
 have HR:=qh hR
 have ho1:w.ownsRow w.heap.size 31 5 (.slice none 0 0) 0 [] :=⟨rfl, .inl ⟨rfl,rfl⟩⟩
 clear hl ha hcl hcell hpv hlen ha2 hXA hXB hR hz
 subst hab
 go_enter Tryd.func94,Tryd.ntmps94
 go_wp2_with (first
  |(at_builtin;refine Z0 _ rfl (.tmp 6) (.tmp 9) 28 (by rfl) w.heap.size 31 i0 _ 5 80 Tryd.underlying28 hi0 hz0 hz1 hz2 rfl (by omega) (.slice none 0 0) 0 [] (by rfl) ho1 (some ⟨b,off,none⟩) i c XA (by rfl) (HP1.out _ (Below.refl _ _)) hla HA1.out (by unfold maxLen;omega) (by omega) (Nat.le_refl _) ?_;intro v1 w2 hown1 hgrow1;have b12:Below w.heap.size w w2:=Zj hgrow1 (fun k hk=>by simp [Value.ownBlock] at hk) (Nat.le_refl _);have HBL2:=qh b12;have zs2:=b12.size;have hrl:∀g,v1.ownBlock=some g->w.heap.size<=g/\g<w2.heap.size:=hown1.lt;have HO1:=qh hown1;clear hown1 hgrow1 b12)
  |(at_builtin;refine Z0 _ rfl (.tmp 11) (.tmp 15) 28 (by rfl) w.heap.size 31 i0 _ 5 80 Tryd.underlying28 hi0 hz0 hz1 hz2 rfl (by omega) v1 (0+i) ([] ++XA) (by rfl) HO1.out (some ⟨b,off+(i+1)*5,none⟩) (n - (i+1)) (c - (i+1)) XB (by rfl) (HP3.out _ HBL2.out) (by omega) HB1.out (by unfold maxLen;omega) (by omega) (by omega) ?_;intro v3 w5 hown3 hgrow3;have b45:Below w.heap.size w2 w5:=Zj hgrow3 (fun k hk=>(hrl k hk).1) (by omega);have HBL5:=qh (HBL2.out.trans b45);have HO3:=qh hown3;clear hgrow3 b45 hown3))
 rw [<-HR.out]
 have hcat: [] ++XA++XB=(remL cs i).flatMap vcells:=by rw [<-HXA.out, <-HXB.out];simp [remL]
 have hll:(remL l i).length=0+i+(n - (i+1)):=by
  rw [remL,List.length_append,List.length_drop,List.length_take, <-HLEN.out];omega
 have hown:=HO3.out
 rw [hcat, <-hll] at hown
 have hlt3:=hown.lt
 have hsh:Shows (only (fun k=>B0<=k) w) (only (Free B0 v3) w5) w.heap.size:=Zd fun q hq hl=>⟨⟨hq,fun e=>by have:=(hlt3 q e.symm).1;omega⟩,HBL5.out.block q hl⟩
 have hpv:∀k,k<l.length->PV l cs (only (Free B0 v3) w5) w5.heap.size k:=fun k hk=>PV.closed l cs _ _ _ _ k hsh HBL5.out.size (HPV.out k hk)
 obtain ⟨a,n,c,hv,hf,hz⟩:=Xv (B0:=B0) (B1:=w.heap.size) hown (by omega) (by rw [remL,remL,List.length_append,List.length_append,List.length_take,List.length_take,List.length_drop,List.length_drop,HCL.out])
  (PV.append (by rw [List.length_take,List.length_take,HCL.out]) (PV.take hpv i) (PV.drop hpv (i+1))) (by rw [hll];omega)
 exact ⟨⟨a,n,c,by rw [hv];rfl,hf,hz⟩,HBL5.out⟩
theorem zbu (w:World) (B0:Nat) (hB0:B0<=w.heap.size) (l:List V) (a:Option Addr) (n c:Nat) (hl:IsVals (only (fun k=>B0<=k) w) w.heap.size l a n c) (i:Nat) (hi:i<n) (hfew:n<=1000000000):
 Calls Tryd.prog 94 #[.slice a n c, .int .i64 i] w (ListPost w B0 (remL l i)):=by
 have hcap:=hl.cap
 obtain ⟨b,off,_,h5,_⟩:=hl.at_
 obtain ⟨ha,_⟩:=h5 (by omega)
 by_cases hic:i+1=c
 .exact zi3 w B0 hB0 l a b off ha n c hl (fun h=>by rw [ha] at h;cases h) i hi hfew hic
 .exact zmw w B0 hB0 l a b off ha n c hl (fun h=>by rw [ha] at h;cases h) i hi hfew (by omega)
end Go.Proofs.YtfoahkbnheijcaaDoor
