/-
  Contracts of the functions that the law reaches: reader.value's deferred call, and how.
-/
import Derived.Test.YtfoahkbnheijcaaGreatDoorMa5
namespace Go.Proofs.YtfoahkbnheijcaaGreatDoor
open Go.RowKit
theorem Xl {α:Type} (f:α->List Value) (m:Nat) (hf:∀x,(f x).length=m):∀(l:List α) (i t:Nat) (hi:i<l.length),t<m->(l.flatMap f)[i*m+t]? =(f l[i])[t]? :=by
 intro l
 induction l with
 |nil=>intro i t hi;cases hi
 | cons x l ih=>
   intro i t hi ht
   cases i with
   | zero=>
     simp only [List.flatMap_cons,Nat.zero_mul,Nat.zero_add,List.getElem_cons_zero]
     rw [List.getElem?_append_left (by rw [hf];exact ht)]
   | succ i=>
     have e:(i+1)*m+t=(f x).length+(i*m+t):=by rw [hf,Nat.add_mul];omega
     simp only [List.flatMap_cons,List.getElem_cons_succ]
     rw [e,List.getElem?_append_right (by omega),Nat.add_sub_cancel_left]
     exact ih i t (by simpa using hi) ht
theorem Zn {α:Type} (f:α->List Value) (m:Nat) (hf:∀x,(f x).length=m) (l:List α):(l.flatMap f).length=l.length*m:=by
 induction l with
 |nil=>simp
 |cons x l ih=>simp only [List.flatMap_cons,List.length_append,hf,ih,List.length_cons,Nat.add_mul];omega
theorem Xb {α:Type} (f:α->List Value) (l:List α) (x:α):(l++ [x]).flatMap f=l.flatMap f++f x:=by simp
def Closed (P:World->Nat->Nat->Prop):Prop:=∀W W' B B' i,Shows W W' B->B<=B'->P W B i->P W' B' i
def Free (base:Nat) (u:Value):Nat->Prop:=fun k=>base<=k/\some k≠u.ownBlock
structure Row (T:TypeId) (sz:Nat) (w:World) (base:Nat) (u:Value) (n:Nat) (cells:List Value) (P:World->Nat->Nat->Prop):Prop where
 own:w.ownsRow base T sz u n cells
 els:∀i,i<n->P (only (Free base u) w) w.heap.size i
theorem Row.nil (T:TypeId) (sz:Nat) (w:World) (base:Nat) (P:World->Nat->Nat->Prop):Row T sz w base (.slice none 0 0) 0 [] P:=
 ⟨⟨by simp, .inl ⟨rfl,rfl⟩⟩,fun i h=>by omega⟩
theorem Row.lt {T:TypeId} {sz:Nat} {w:World} {base:Nat} {u:Value} {n:Nat} {cells:List Value} {P:World->Nat->Nat->Prop} (h:Row T sz w base u n cells P):∀k,u.ownBlock=some k->base<=k/\k<w.heap.size:=h.own.lt
theorem Row.later {T:TypeId} {sz:Nat} {w w':World} {base rb:Nat} {u:Value} {n:Nat} {cells:List Value} {P:World->Nat->Nat->Prop} (hP:Closed P) (h:Row T sz w base u n cells P) (s:RStep w w' rb) (hr:rb<base):Row T sz w' base u n cells P:=by
 refine ⟨h.own.kept (row:=some rb) ⟨s.os,s.tape,s.output,s.size,fun k hk hne=>s.block k hk (fun e=>hne (by rw [e]))⟩ ?_,fun i hi=>hP _ _ _ _ i (Zf fun k hk hlt=>⟨hk,s.block k hlt ?_⟩) s.size (h.els i hi)⟩
 .cases hu:u.ownBlock with
  |none=>simp
  | some k=>
    have:=(h.lt k hu).1
    right;intro e;injection e with e;omega
 .have:=hk.1;omega
theorem Row.set {T:TypeId} {sz:Nat} {w:World} {base b o:Nat} {u x:Value} {n:Nat} {cells:List Value} {P:World->Nat->Nat->Prop} (hP:Closed P) (h:Row T sz w base u n cells P) (hb:b<base):Row T sz (w.setCell ⟨b,o,none⟩ x) base u n cells P:=
 h.later hP (rb:=b) ⟨rfl,rfl,rfl,by simp,fun k hk hr=>heap_setCell_other _ _ _ _ hr⟩ hb
theorem Row.push {T:TypeId} {sz:Nat} {w w0 w1:World} {base:Nat} {u u':Value} {n:Nat} {cells news:List Value} {P P':World->Nat->Nat->Prop} (hP':Closed P') (h:Row T sz w base u n cells P)
 (hb:Below w.heap.size w w0) (hg:w0.grownBy w1 u.ownBlock) (hown:w1.ownsRow base T sz u' (n+1) (cells++news)) (hat:u'.ownBlock=u.ownBlock∨∀k,u'.ownBlock=some k->w.heap.size<=k)
 (hnew:P' (only (Free base u) w) w.heap.size n) (hold:∀W B i,i<n->P W B i->P' W B i):Row T sz w1 base u' (n+1) (cells++news) P':=by
 have hsz:w.heap.size<=w1.heap.size:=Nat.le_trans hb.size hg.size
 refine ⟨hown,fun i hi=> ?_⟩
 have hs:Shows (only (Free base u) w) (only (Free base u') w1) w.heap.size:=by
  refine Zf fun k hk hlt=>⟨⟨hk.1,fun e=> ?_⟩, ?_⟩
  .rcases hat with e2|e2
   .exact hk.2 (e.trans e2)
   .have:=e2 k e.symm;omega
  .rw [hg.block k (Nat.lt_of_lt_of_le hlt hb.size) hk.2,hb.block k hlt]
 by_cases hin:i=n
 .subst hin;exact hP' _ _ _ _ _ hs hsz hnew
 .exact hP' _ _ _ _ _ hs hsz (hold _ _ _ (by omega) (h.els i (by omega)))
theorem Row.shows {T:TypeId} {sz:Nat} {w:World} {base lo:Nat} {u:Value} {n:Nat} {cells:List Value} {P:World->Nat->Nat->Prop} (hP:Closed P) (h:Row T sz w base u n cells P) (hlo:lo<=base):
 (∀g,u.ownBlock=some g->∀j x,cells[j]? =some x->(only (fun k=>lo<=k) w).cell? ⟨g,j,none⟩=some x)/\∀i,i<n->P (only (fun k=>lo<=k) w) w.heap.size i:=by
 refine ⟨fun g hg j x hx=>Z4 (show lo<=g by have:=(h.lt g hg).1;omega) ?_,fun i hi=>hP _ _ _ _ i (Zf fun k hk _=>⟨by have:=hk.1;omega,rfl⟩) (Nat.le_refl _) (h.els i hi)⟩
 have:=h.own.cells hg j x hx
 rw [Zs,Nat.zero_add] at this;exact this
def vcells (c:VC):List Value:= [.int .u8 c.k, .int .i64 c.n, .string c.s, .slice c.la c.ll c.lc, .slice c.oa c.ol c.oc]
def vzero:VC:=⟨0,0, .empty,none,0,0,none,0,0⟩
def PV (l:List V) (cs:List VC):World->Nat->Nat->Prop:=fun W B i=>∀h:i<l.length,IsVal W B l[i] (cs.getD i vzero)
theorem PV.closed (l:List V) (cs:List VC):Closed (PV l cs):=fun _ _ _ _ _ hs hB h hi=>((h hi).sub hs).more hB
theorem PV.snoc {l:List V} {cs:List VC} (hl:cs.length=l.length) (x:V) (c:VC):(∀W B,IsVal W B x c->PV (l++ [x]) (cs++ [c]) W B l.length)/\∀W B i,i<l.length->PV l cs W B i->PV (l++ [x]) (cs++ [c]) W B i:=by
 constructor
 .intro W B h hi
  simpa [List.getD_eq_getElem?_getD, <-hl] using h
 .intro W B i hi h hi2
  have h:=h hi
  have e:(cs++ [c]).getD i vzero=cs.getD i vzero:=by simp [List.getD_eq_getElem?_getD,List.getElem?_append_left (show i<cs.length by omega)]
  rw [List.getElem_append_left hi,e]
  exact h
abbrev RowV (w:World) (base:Nat) (u:Value) (l:List V) (cs:List VC):Prop:=Row 41 5 w base u l.length (cs.flatMap vcells) (PV l cs)
theorem RowV.val {w:World} {base lo:Nat} {l:List V} {cs:List VC} {a:Option Addr} {n cap:Nat} (h:RowV w base (.slice a n cap) l cs) (hl:cs.length=l.length) (hlo:lo<=base) (k:Int) (hk0:0<=k) (hk1:k<256) (hfew:l.length<=1466015503701):
 IsVal (only (fun b=>lo<=b) w) w.heap.size (.mk k 0 .empty l []) ⟨k,0, .empty,a,n,cap,none,0,0⟩:=by
 obtain ⟨h1,h2⟩:=Row.shows (PV.closed l cs) h hlo
 have hown:=h.own
 have hlt:=h.lt
 have hbd:∀n cap:Nat,n<=cap->cap<=9223372036854775807->n<=1466015503701->(⟨k,0, .empty,a,n,cap,none,0,0⟩:VC).Bnd:=fun n cap e1 e2 e3=>⟨hk0,hk1,(by decide:(-9223372036854775808:Int)<=0),(by decide:(0:Int)<=9223372036854775807),(by decide:ByteArray.empty.size<=140737488355328),e1,e2,e3,(by decide:(0:Nat)<=0),(by decide:(0:Nat)<=9223372036854775807),(by decide:(0:Nat)<=1466015503701)⟩
 rcases hown.2 with ⟨e,hn⟩|⟨g,cap',cur,e,hbg,hg,hnc,hcm,hcs,htake⟩
 .injection e with e1 e2 e3;subst e1 e2 e3
  have:l= [] :=List.length_eq_zero_iff.1 hn
  subst this
  exact .mk ⟨k,0, .empty,none,0,0,none,0,0⟩ [] [] (fun _=>vzero) (fun _=>vzero) 0 0 0 0 (hbd 0 0 (by omega) (by omega) (by omega)) rfl rfl (fun h=>by cases h) (fun h=>by cases h) (fun i h=>by cases h) (fun i h=>by cases h) (fun i h=>by cases h) (fun i h=>by cases h)
 .injection e with e1 e2 e3;subst e1 e2 e3
  refine .mk ⟨k,0, .empty,some ⟨g,0,none⟩,l.length,cap,none,0,0⟩ l [] (fun i=>cs.getD i vzero) (fun _=>vzero) g 0 0 0 (hbd _ _ hnc (by simpa [maxLen] using hcm) hfew) rfl rfl (fun _=>⟨rfl,(hlt g rfl).2⟩) (fun h=>by cases h) (fun i hi=> ?_) (fun i hi=>h2 i hi hi) (fun i h=>by cases h) (fun i h=>by cases h)
  have hi':i<cs.length:=by omega
  have hc:∀t x,t<5->(vcells cs[i])[t]? =some x->(only (fun b=>lo<=b) w).cell? ⟨g,0+i*5+t,none⟩=some x:=fun t x ht hx=>by
   rw [Nat.zero_add]
   exact h1 g rfl (i*5+t) x ((Xl vcells 5 (fun _=>rfl) cs i t hi' ht).trans hx)
  have he:cs.getD i vzero=cs[i] :=by simp [List.getD_eq_getElem?_getD,hi']
  simp only [he]
  exact ⟨hc 0 _ (by omega) rfl,hc 1 _ (by omega) rfl,hc 2 _ (by omega) rfl,hc 3 _ (by omega) rfl,hc 4 _ (by omega) rfl⟩
def fcells (c:ByteArray×VC):List Value:= [.string c.1, .int .u8 c.2.k, .int .i64 c.2.n, .string c.2.s, .slice c.2.la c.2.ll c.2.lc, .slice c.2.oa c.2.ol c.2.oc]
def fzero:ByteArray×VC:=(.empty,vzero)
def PF (l:List (ByteArray×V)) (cs:List (ByteArray×VC)):World->Nat->Nat->Prop:=fun W B i=>∀h:i<l.length,(cs.getD i fzero).1=l[i].1/\l[i].1.size<=140737488355328/\IsVal W B l[i].2 (cs.getD i fzero).2
theorem PF.closed (l:List (ByteArray×V)) (cs:List (ByteArray×VC)):Closed (PF l cs):=fun _ _ _ _ _ hs hB h hi=>⟨(h hi).1,(h hi).2.1,((h hi).2.2.sub hs).more hB⟩
theorem PF.snoc {l:List (ByteArray×V)} {cs:List (ByteArray×VC)} (hl:cs.length=l.length) (s:ByteArray) (hs:s.size<=140737488355328) (x:V) (c:VC):(∀W B,IsVal W B x c->PF (l++ [(s,x)]) (cs++ [(s,c)]) W B l.length)/\∀W B i,i<l.length->PF l cs W B i->PF (l++ [(s,x)]) (cs++ [(s,c)]) W B i:=by
 constructor
 .intro W B h hi
  have e1:(l++ [(s,x)])[l.length]'hi=(s,x):=by simp
  have e2:(cs++ [(s,c)]).getD l.length fzero=(s,c):=by simp [List.getD_eq_getElem?_getD, <-hl]
  rw [e1,e2];exact ⟨rfl,hs,h⟩
 .intro W B i hi h hi2
  have h:=h hi
  have e:(cs++ [(s,c)]).getD i fzero=cs.getD i fzero:=by simp [List.getD_eq_getElem?_getD,List.getElem?_append_left (show i<cs.length by omega)]
  rw [List.getElem_append_left hi,e]
  exact h
abbrev RowF (w:World) (base:Nat) (u:Value) (l:List (ByteArray×V)) (cs:List (ByteArray×VC)):Prop:=Row 98 6 w base u l.length (cs.flatMap fcells) (PF l cs)
theorem RowF.val {w:World} {base lo:Nat} {l:List (ByteArray×V)} {cs:List (ByteArray×VC)} {a:Option Addr} {n cap:Nat} (h:RowF w base (.slice a n cap) l cs) (hl:cs.length=l.length) (hlo:lo<=base) (k:Int) (hk0:0<=k) (hk1:k<256) (hfew:l.length<=1466015503701):
 IsVal (only (fun b=>lo<=b) w) w.heap.size (.mk k 0 .empty [] l) ⟨k,0, .empty,none,0,0,a,n,cap⟩:=by
 obtain ⟨h1,h2⟩:=Row.shows (PF.closed l cs) h hlo
 have hown:=h.own
 have hlt:=h.lt
 have hbd:∀n cap:Nat,n<=cap->cap<=9223372036854775807->n<=1466015503701->(⟨k,0, .empty,none,0,0,a,n,cap⟩:VC).Bnd:=fun n cap e1 e2 e3=>⟨hk0,hk1,(by decide:(-9223372036854775808:Int)<=0),(by decide:(0:Int)<=9223372036854775807),(by decide:ByteArray.empty.size<=140737488355328),(by decide:(0:Nat)<=0),(by decide:(0:Nat)<=9223372036854775807),(by decide:(0:Nat)<=1466015503701),e1,e2,e3⟩
 rcases hown.2 with ⟨e,hn⟩|⟨g,cap',cur,e,hbg,hg,hnc,hcm,hcs,htake⟩
 .injection e with e1 e2 e3;subst e1 e2 e3
  have:l= [] :=List.length_eq_zero_iff.1 hn
  subst this
  exact .mk ⟨k,0, .empty,none,0,0,none,0,0⟩ [] [] (fun _=>vzero) (fun _=>vzero) 0 0 0 0 (hbd 0 0 (by omega) (by omega) (by omega)) rfl rfl (fun h=>by cases h) (fun h=>by cases h) (fun i h=>by cases h) (fun i h=>by cases h) (fun i h=>by cases h) (fun i h=>by cases h)
 .injection e with e1 e2 e3;subst e1 e2 e3
  refine .mk ⟨k,0, .empty,none,0,0,some ⟨g,0,none⟩,l.length,cap⟩ [] l (fun _=>vzero) (fun i=>(cs.getD i fzero).2) 0 0 g 0 (hbd _ _ hnc (by simpa [maxLen] using hcm) hfew) rfl rfl (fun h=>by cases h) (fun _=>⟨rfl,(hlt g rfl).2⟩) (fun i h=>by cases h) (fun i h=>by cases h) (fun i hi=> ?_) (fun i hi=>(h2 i hi hi).2.2)
  have hi':i<cs.length:=by omega
  have hc:∀t x,t<6->(fcells cs[i])[t]? =some x->(only (fun b=>lo<=b) w).cell? ⟨g,0+i*6+t,none⟩=some x:=fun t x ht hx=>by
   rw [Nat.zero_add]
   exact h1 g rfl (i*6+t) x ((Xl fcells 6 (fun _=>rfl) cs i t hi' ht).trans hx)
  have he:cs.getD i fzero=cs[i] :=by simp [List.getD_eq_getElem?_getD,hi']
  obtain ⟨p1,p2,_⟩:=h2 i hi hi
  rw [he] at p1
  simp only [he]
  exact ⟨by rw [<-p1];exact hc 0 _ (by omega) rfl,p2,hc 1 _ (by omega) rfl,hc 2 _ (by omega) rfl,hc 3 _ (by omega) rfl,hc 4 _ (by omega) rfl,hc 5 _ (by omega) rfl⟩
theorem RStep.frozen {w w':World} {rb:Nat} (h:RStep w w' rb) {b o:Nat} (hl:b<w.heap.size) (hb:b≠rb):w'.frozen? ⟨b,o,none⟩=w.frozen? ⟨b,o,none⟩:=
 World.frozen?_of_block (h.block b hl hb)
theorem Qf (W:World) (B:Nat) (k n:Int) (s:ByteArray) (hk0:0<=k) (hk1:k<256) (hn0: -9223372036854775808<=n) (hn1:n<=9223372036854775807) (hs:s.size<=140737488355328):IsVal W B (.mk k n s [] []) ⟨k,n,s,none,0,0,none,0,0⟩:=
 .mk ⟨k,n,s,none,0,0,none,0,0⟩ [] [] (fun _=>vzero) (fun _=>vzero) 0 0 0 0 ⟨hk0,hk1,hn0,hn1,hs,(by decide:(0:Nat)<=0),(by decide:(0:Nat)<=9223372036854775807),(by decide:(0:Nat)<=1466015503701),(by decide:(0:Nat)<=0),(by decide:(0:Nat)<=9223372036854775807),(by decide:(0:Nat)<=1466015503701)⟩ rfl rfl (fun h=>by cases h) (fun h=>by cases h) (fun i h=>by cases h) (fun i h=>by cases h) (fun i h=>by cases h) (fun i h=>by cases h)
theorem zlk (x:Int): -9223372036854775808<=wrap64 x:=by unfold wrap64;omega
theorem zgo (x:Int):wrap64 x<=9223372036854775807:=by unfold wrap64;omega
theorem zd3 {k n:Nat} {bs r:List UInt8} (hr:rdM k bs=some (n,r)):rdN k bs=some (n,r)/\n<=r.length:=by
 unfold rdM at hr
 cases h:rdN k bs with
 |none=>rw [h] at hr;cases hr
 | some p=>
   rw [h] at hr
   simp only [Option.bind_some] at hr
   split at hr
   .injection hr with hr;subst hr;exact ⟨rfl,by assumption⟩
   .cases hr
theorem zg5 {bs r:List UInt8} {s:ByteArray} (hr:rdT bs=some (s,r)):∃n q,rdM 4 bs=some (n,q)/\s=⟨(q.take n).toArray⟩/\r=q.drop n:=by
 unfold rdT at hr
 cases h:rdM 4 bs with
 |none=>rw [h] at hr;cases hr
 | some p=>
   obtain ⟨n,q⟩:=p
   rw [h] at hr
   simp only [Option.bind_some] at hr
   injection hr with hr;injection hr with h1 h2
   exact ⟨n,q,rfl,h1.symm,h2.symm⟩
theorem Zi {w w':World} {row:Option Nat} {B:Nat} (hg:w.grownBy w' row) (hr:∀k,row=some k->B<=k) (hB:B<=w.heap.size):Below B w w':=
 ⟨hg.os,hg.tape,hg.output,hg.size,fun k hk=>hg.block k (by omega) (fun e=>by have:=hr k e.symm;omega)⟩
theorem Zj (w:World):Below w.heap.size w w.drew:=(Below.refl _ _).drew
theorem RStep.self {W:World} {b o:Nat} {x:Value} :RStep W (W.setCell ⟨b,o,none⟩ x) b:=⟨rfl,rfl,rfl,by simp,fun k hk hr=>heap_setCell_other _ _ _ _ hr⟩
theorem Zl {W W':World} {b base:Nat} {x:V} {c:VC} (h:IsVal (only (fun k=>base<=k) W) W.heap.size x c) (s:RStep W W' b) (hb:b<base):IsVal (only (fun k=>base<=k) W') W'.heap.size x c:=
 (h.sub (Zf fun k hk hl=>⟨hk,s.block k hl (by omega)⟩)).more s.size
structure BC (W:World) (b:Nat) (cs:List Value):Prop where
 at_:∀j x,cs[j]? =some x->W.cell? ⟨b,j,none⟩=some x
 fr:∀j,W.frozen? ⟨b,j,none⟩=false
 lt:b<W.heap.size
theorem BC.start (w:World) (cs:Array Value) (t:TypeId):BC (w.alloc (.cells cs t)) w.heap.size cs.toList:=
 ⟨fun j x hj=>Zk w cs t j x (by rw [<-hj];simp),fun j=>zck w cs t j,by simp⟩
theorem BC.next {W W':World} {b rb:Nat} {cs:List Value} (h:BC W b cs) (s:RStep W W' rb) (hb:b≠rb):BC W' b cs:=
 ⟨fun j x hj=>s.cell (h.at_ j x hj) hb,fun j=>(s.frozen h.lt hb).trans (h.fr j),Nat.lt_of_lt_of_le h.lt s.size⟩
theorem BC.keep {W W':World} {b B:Nat} {cs:List Value} (h:BC W b cs) (hb:Below B W W') (hB:b<B):BC W' b cs:=
 ⟨fun j x hj=>Zd hb (h.at_ j x hj) hB,fun j=>(hb.frozen (p:=⟨b,j,none⟩) hB).trans (h.fr j),Nat.lt_of_lt_of_le h.lt hb.size⟩
theorem BC.set {W:World} {b i:Nat} {x:Value} {cs:List Value} (h:BC W b cs) (hi:i<cs.length):BC (W.setCell ⟨b,i,none⟩ x) b (cs.set i x):=by
 refine ⟨fun j y hj=> ?_,fun j=>by simpa using h.fr j,by simpa using h.lt⟩
 by_cases e:i=j
 .subst e
  rw [List.getElem?_set_self hi] at hj
  injection hj with hj
  subst hj
  exact World.cell?_setCell_same _ _ _ (h.at_ i cs[i] (by simp [hi]))
 .rw [List.getElem?_set_ne e] at hj
  rw [World.cell?_setCell_other]
  .exact h.at_ j y hj
  .intro e2;injection e2 with _ e3;exact e (by first|exact e3|exact e3.symm)
theorem BC.far {W:World} {b b' o:Nat} {x:Value} {cs:List Value} (h:BC W b cs) (hb:b≠b'):BC (W.setCell ⟨b',o,none⟩ x) b cs:=
 h.next RStep.self hb
theorem Xn:(Tryz.prog.info? 41).map (fun i=>(i.zero,i.size,i.bytes))=some (some (.agg #[.int .u8 0, .int .i64 0, .string { data:= #[] }, .slice none 0 0, .slice none 0 0]),5,80):=by kernel_rfl
theorem Xa:(Tryz.prog.info? 98).map (fun i=>(i.zero,i.size,i.bytes))=some (some (.agg #[.string { data:= #[] }, .int .u8 0, .int .i64 0, .string { data:= #[] }, .slice none 0 0, .slice none 0 0]),6,96):=by kernel_rfl
end Go.Proofs.YtfoahkbnheijcaaGreatDoor
