/-
  Contracts of the functions that the law reaches: Rows that are being built, of what lies in new memory. reader.value: what stands in memory while it runs.
-/
import Derived.Test.YthceefjafklcmaaGreatDoorMd12
namespace Go.Proofs.YthceefjafklcmaaGreatDoor
open Go.RowKit
theorem flat_get {α:Type} (f:α→List Value) (m:Nat) (hf:∀x,(f x).length=m):∀(l:List α) (i t:Nat) (hi:i<l.length),t<m→(l.flatMap f)[i*m+t]? =(f l[i])[t]? :=by
  intro l
  induction l with
  |nil=>intro i t hi;cases hi
  | cons x l ih=>
    intro i t hi ht
    cases i with
    | zero=>
      simp only [List.flatMap_cons,Nat.zero_mul,Nat.zero_add,List.getElem_cons_zero]
      rw [List.getElem?_append_left (by rw [hf];exact ht)]
    | succ i=>
      have e:(i+1)*m+t=(f x).length+(i*m+t):=by rw [hf,Nat.add_mul];omega
      simp only [List.flatMap_cons,List.getElem_cons_succ]
      rw [e,List.getElem?_append_right (by omega),Nat.add_sub_cancel_left]
      exact ih i t (by simpa using hi) ht
theorem flat_snoc {α:Type} (f:α→List Value) (l:List α) (x:α):(l++ [x]).flatMap f=l.flatMap f++f x:=by simp
def Closed (P:World→Nat→Nat→Prop):Prop:=∀W W' B B' i,Shows W W' B→B≤B'→P W B i→P W' B' i
def Free (base:Nat) (u:Value):Nat→Prop:=fun k=>base≤k∧some k≠u.ownBlock
structure Row (T:TypeId) (sz:Nat) (w:World) (base:Nat) (u:Value) (n:Nat) (cells:List Value) (P:World→Nat→Nat→Prop):Prop where
  own:w.ownsRow base T sz u n cells
  els:∀i,i<n→P (only (Free base u) w) w.heap.size i
theorem Row.nil (T:TypeId) (sz:Nat) (w:World) (base:Nat) (P:World→Nat→Nat→Prop):Row T sz w base (.slice none 0 0) 0 [] P:=
  ⟨⟨by simp, .inl ⟨rfl,rfl⟩⟩,fun i h=>by omega⟩
theorem Row.lt {T:TypeId} {sz:Nat} {w:World} {base:Nat} {u:Value} {n:Nat} {cells:List Value} {P:World→Nat→Nat→Prop} (h:Row T sz w base u n cells P):∀k,u.ownBlock=some k→base≤k∧k<w.heap.size:=h.own.lt
theorem Row.later {T:TypeId} {sz:Nat} {w w':World} {base rb:Nat} {u:Value} {n:Nat} {cells:List Value} {P:World→Nat→Nat→Prop} (hP:Closed P) (h:Row T sz w base u n cells P) (s:RStep w w' rb) (hr:rb<base):Row T sz w' base u n cells P:=by
  refine ⟨h.own.kept (row:=some rb) ⟨s.os,s.tape,s.output,s.size,fun k hk hne=>s.block k hk (fun e=>hne (by rw [e]))⟩ ?_,fun i hi=>hP _ _ _ _ i (shows_step fun k hk hlt=>⟨hk,s.block k hlt ?_⟩) s.size (h.els i hi)⟩
  · cases hu:u.ownBlock with
    |none=>simp
    | some k=>
      have:=(h.lt k hu).1
      right;intro e;injection e with e;omega
  · have:=hk.1;omega
theorem Row.set {T:TypeId} {sz:Nat} {w:World} {base b o:Nat} {u x:Value} {n:Nat} {cells:List Value} {P:World→Nat→Nat→Prop} (hP:Closed P) (h:Row T sz w base u n cells P) (hb:b<base):Row T sz (w.setCell ⟨b,o,none⟩ x) base u n cells P:=
  h.later hP (rb:=b) ⟨rfl,rfl,rfl,by simp,fun k hk hr=>heap_setCell_other _ _ _ _ hr⟩ hb
theorem Row.push {T:TypeId} {sz:Nat} {w w0 w1:World} {base:Nat} {u u':Value} {n:Nat} {cells news:List Value} {P P':World→Nat→Nat→Prop} (hP':Closed P') (h:Row T sz w base u n cells P)
    (hb:Below w.heap.size w w0) (hg:w0.grownBy w1 u.ownBlock) (hown:w1.ownsRow base T sz u' (n+1) (cells++news)) (hat:u'.ownBlock=u.ownBlock∨∀k,u'.ownBlock=some k→w.heap.size≤k)
    (hnew:P' (only (Free base u) w) w.heap.size n) (hold:∀W B i,i<n→P W B i→P' W B i):Row T sz w1 base u' (n+1) (cells++news) P':=by
  have hsz:w.heap.size≤w1.heap.size:=Nat.le_trans hb.size hg.size
  refine ⟨hown,fun i hi=> ?_⟩
  have hs:Shows (only (Free base u) w) (only (Free base u') w1) w.heap.size:=by
    refine shows_step fun k hk hlt=>⟨⟨hk.1,fun e=> ?_⟩, ?_⟩
    · rcases hat with e2|e2
      · exact hk.2 (e.trans e2)
      · have:=e2 k e.symm;omega
    · rw [hg.block k (Nat.lt_of_lt_of_le hlt hb.size) hk.2,hb.block k hlt]
  by_cases hin:i=n
  · subst hin;exact hP' _ _ _ _ _ hs hsz hnew
  · exact hP' _ _ _ _ _ hs hsz (hold _ _ _ (by omega) (h.els i (by omega)))
theorem Row.shows {T:TypeId} {sz:Nat} {w:World} {base lo:Nat} {u:Value} {n:Nat} {cells:List Value} {P:World→Nat→Nat→Prop} (hP:Closed P) (h:Row T sz w base u n cells P) (hlo:lo≤base):
    (∀g,u.ownBlock=some g→∀j x,cells[j]? =some x→(only (fun k=>lo≤k) w).cell? ⟨g,j,none⟩=some x)∧∀i,i<n→P (only (fun k=>lo≤k) w) w.heap.size i:=by
  refine ⟨fun g hg j x hx=>only_cell' (show lo≤g by have:=(h.lt g hg).1;omega) ?_,fun i hi=>hP _ _ _ _ i (shows_step fun k hk _=>⟨by have:=hk.1;omega,rfl⟩) (Nat.le_refl _) (h.els i hi)⟩
  have:=h.own.cells hg j x hx
  rw [add_at,Nat.zero_add] at this;exact this
def vcells (c:VC):List Value:= [.int .u8 c.k, .int .i64 c.n, .string c.s, .slice c.la c.ll c.lc, .slice c.oa c.ol c.oc]
def vzero:VC:=⟨0,0, .empty,none,0,0,none,0,0⟩
def PV (l:List V) (cs:List VC):World→Nat→Nat→Prop:=fun W B i=>∀h:i<l.length,IsVal W B l[i] (cs.getD i vzero)
theorem PV.closed (l:List V) (cs:List VC):Closed (PV l cs):=fun _ _ _ _ _ hs hB h hi=>((h hi).sub hs).more hB
theorem PV.snoc {l:List V} {cs:List VC} (hl:cs.length=l.length) (x:V) (c:VC):(∀W B,IsVal W B x c→PV (l++ [x]) (cs++ [c]) W B l.length)∧∀W B i,i<l.length→PV l cs W B i→PV (l++ [x]) (cs++ [c]) W B i:=by
  constructor
  · intro W B h hi
    simpa [List.getD_eq_getElem?_getD, ←hl] using h
  · intro W B i hi h hi2
    have h:=h hi
    have e:(cs++ [c]).getD i vzero=cs.getD i vzero:=by simp [List.getD_eq_getElem?_getD,List.getElem?_append_left (show i<cs.length by omega)]
    rw [List.getElem_append_left hi,e]
    exact h
abbrev RowV (w:World) (base:Nat) (u:Value) (l:List V) (cs:List VC):Prop:=Row 28 5 w base u l.length (cs.flatMap vcells) (PV l cs)
theorem RowV.val {w:World} {base lo:Nat} {l:List V} {cs:List VC} {a:Option Addr} {n cap:Nat} (h:RowV w base (.slice a n cap) l cs) (hl:cs.length=l.length) (hlo:lo≤base) (k:Int) (hk0:0≤k) (hk1:k<256) (hfew:l.length≤1466015503701):
    IsVal (only (fun b=>lo≤b) w) w.heap.size (.mk k 0 .empty l []) ⟨k,0, .empty,a,n,cap,none,0,0⟩:=by
  obtain ⟨h1,h2⟩:=Row.shows (PV.closed l cs) h hlo
  have hown:=h.own
  have hlt:=h.lt
  have hbd:∀n cap:Nat,n≤cap→cap≤9223372036854775807→n≤1466015503701→(⟨k,0, .empty,a,n,cap,none,0,0⟩:VC).Bnd:=fun n cap e1 e2 e3=>⟨hk0,hk1,(by decide:(-9223372036854775808:Int)≤0),(by decide:(0:Int)≤9223372036854775807),(by decide:ByteArray.empty.size≤140737488355328),e1,e2,e3,(by decide:(0:Nat)≤0),(by decide:(0:Nat)≤9223372036854775807),(by decide:(0:Nat)≤1466015503701)⟩
  rcases hown.2 with ⟨e,hn⟩|⟨g,cap',cur,e,hbg,hg,hnc,hcm,hcs,htake⟩
  · injection e with e1 e2 e3;subst e1 e2 e3
    have:l= [] :=List.length_eq_zero_iff.1 hn
    subst this
    exact .mk ⟨k,0, .empty,none,0,0,none,0,0⟩ [] [] (fun _=>vzero) (fun _=>vzero) 0 0 0 0 (hbd 0 0 (by omega) (by omega) (by omega)) rfl rfl (fun h=>by cases h) (fun h=>by cases h) (fun i h=>by cases h) (fun i h=>by cases h) (fun i h=>by cases h) (fun i h=>by cases h)
  · injection e with e1 e2 e3;subst e1 e2 e3
    refine .mk ⟨k,0, .empty,some ⟨g,0,none⟩,l.length,cap,none,0,0⟩ l [] (fun i=>cs.getD i vzero) (fun _=>vzero) g 0 0 0 (hbd _ _ hnc (by simpa [maxLen] using hcm) hfew) rfl rfl (fun _=>⟨rfl,(hlt g rfl).2⟩) (fun h=>by cases h) (fun i hi=> ?_) (fun i hi=>h2 i hi hi) (fun i h=>by cases h) (fun i h=>by cases h)
    have hi':i<cs.length:=by omega
    have hc:∀t x,t<5→(vcells cs[i])[t]? =some x→(only (fun b=>lo≤b) w).cell? ⟨g,0+i*5+t,none⟩=some x:=fun t x ht hx=>by
      rw [Nat.zero_add]
      exact h1 g rfl (i*5+t) x ((flat_get vcells 5 (fun _=>rfl) cs i t hi' ht).trans hx)
    have he:cs.getD i vzero=cs[i] :=by simp [List.getD_eq_getElem?_getD,hi']
    simp only [he]
    exact ⟨hc 0 _ (by omega) rfl,hc 1 _ (by omega) rfl,hc 2 _ (by omega) rfl,hc 3 _ (by omega) rfl,hc 4 _ (by omega) rfl⟩
def fcells (c:ByteArray×VC):List Value:= [.string c.1, .int .u8 c.2.k, .int .i64 c.2.n, .string c.2.s, .slice c.2.la c.2.ll c.2.lc, .slice c.2.oa c.2.ol c.2.oc]
def fzero:ByteArray×VC:=(.empty,vzero)
def PF (l:List (ByteArray×V)) (cs:List (ByteArray×VC)):World→Nat→Nat→Prop:=fun W B i=>∀h:i<l.length,(cs.getD i fzero).1=l[i].1∧l[i].1.size≤140737488355328∧IsVal W B l[i].2 (cs.getD i fzero).2
theorem PF.closed (l:List (ByteArray×V)) (cs:List (ByteArray×VC)):Closed (PF l cs):=fun _ _ _ _ _ hs hB h hi=>⟨(h hi).1,(h hi).2.1,((h hi).2.2.sub hs).more hB⟩
theorem PF.snoc {l:List (ByteArray×V)} {cs:List (ByteArray×VC)} (hl:cs.length=l.length) (s:ByteArray) (hs:s.size≤140737488355328) (x:V) (c:VC):(∀W B,IsVal W B x c→PF (l++ [(s,x)]) (cs++ [(s,c)]) W B l.length)∧∀W B i,i<l.length→PF l cs W B i→PF (l++ [(s,x)]) (cs++ [(s,c)]) W B i:=by
  constructor
  · intro W B h hi
    have e1:(l++ [(s,x)])[l.length]'hi=(s,x):=by simp
    have e2:(cs++ [(s,c)]).getD l.length fzero=(s,c):=by simp [List.getD_eq_getElem?_getD, ←hl]
    rw [e1,e2];exact ⟨rfl,hs,h⟩
  · intro W B i hi h hi2
    have h:=h hi
    have e:(cs++ [(s,c)]).getD i fzero=cs.getD i fzero:=by simp [List.getD_eq_getElem?_getD,List.getElem?_append_left (show i<cs.length by omega)]
    rw [List.getElem_append_left hi,e]
    exact h
abbrev RowF (w:World) (base:Nat) (u:Value) (l:List (ByteArray×V)) (cs:List (ByteArray×VC)):Prop:=Row 80 6 w base u l.length (cs.flatMap fcells) (PF l cs)
theorem RowF.val {w:World} {base lo:Nat} {l:List (ByteArray×V)} {cs:List (ByteArray×VC)} {a:Option Addr} {n cap:Nat} (h:RowF w base (.slice a n cap) l cs) (hl:cs.length=l.length) (hlo:lo≤base) (k:Int) (hk0:0≤k) (hk1:k<256) (hfew:l.length≤1466015503701):
    IsVal (only (fun b=>lo≤b) w) w.heap.size (.mk k 0 .empty [] l) ⟨k,0, .empty,none,0,0,a,n,cap⟩:=by
  obtain ⟨h1,h2⟩:=Row.shows (PF.closed l cs) h hlo
  have hown:=h.own
  have hlt:=h.lt
  have hbd:∀n cap:Nat,n≤cap→cap≤9223372036854775807→n≤1466015503701→(⟨k,0, .empty,none,0,0,a,n,cap⟩:VC).Bnd:=fun n cap e1 e2 e3=>⟨hk0,hk1,(by decide:(-9223372036854775808:Int)≤0),(by decide:(0:Int)≤9223372036854775807),(by decide:ByteArray.empty.size≤140737488355328),(by decide:(0:Nat)≤0),(by decide:(0:Nat)≤9223372036854775807),(by decide:(0:Nat)≤1466015503701),e1,e2,e3⟩
  rcases hown.2 with ⟨e,hn⟩|⟨g,cap',cur,e,hbg,hg,hnc,hcm,hcs,htake⟩
  · injection e with e1 e2 e3;subst e1 e2 e3
    have:l= [] :=List.length_eq_zero_iff.1 hn
    subst this
    exact .mk ⟨k,0, .empty,none,0,0,none,0,0⟩ [] [] (fun _=>vzero) (fun _=>vzero) 0 0 0 0 (hbd 0 0 (by omega) (by omega) (by omega)) rfl rfl (fun h=>by cases h) (fun h=>by cases h) (fun i h=>by cases h) (fun i h=>by cases h) (fun i h=>by cases h) (fun i h=>by cases h)
  · injection e with e1 e2 e3;subst e1 e2 e3
    refine .mk ⟨k,0, .empty,none,0,0,some ⟨g,0,none⟩,l.length,cap⟩ [] l (fun _=>vzero) (fun i=>(cs.getD i fzero).2) 0 0 g 0 (hbd _ _ hnc (by simpa [maxLen] using hcm) hfew) rfl rfl (fun h=>by cases h) (fun _=>⟨rfl,(hlt g rfl).2⟩) (fun i h=>by cases h) (fun i h=>by cases h) (fun i hi=> ?_) (fun i hi=>(h2 i hi hi).2.2)
    have hi':i<cs.length:=by omega
    have hc:∀t x,t<6→(fcells cs[i])[t]? =some x→(only (fun b=>lo≤b) w).cell? ⟨g,0+i*6+t,none⟩=some x:=fun t x ht hx=>by
      rw [Nat.zero_add]
      exact h1 g rfl (i*6+t) x ((flat_get fcells 6 (fun _=>rfl) cs i t hi' ht).trans hx)
    have he:cs.getD i fzero=cs[i] :=by simp [List.getD_eq_getElem?_getD,hi']
    obtain ⟨p1,p2,_⟩:=h2 i hi hi
    rw [he] at p1
    simp only [he]
    exact ⟨by rw [←p1];exact hc 0 _ (by omega) rfl,p2,hc 1 _ (by omega) rfl,hc 2 _ (by omega) rfl,hc 3 _ (by omega) rfl,hc 4 _ (by omega) rfl,hc 5 _ (by omega) rfl⟩
end Go.Proofs.YthceefjafklcmaaGreatDoor
namespace Go.Proofs.YthceefjafklcmaaGreatDoor
open Go.RowKit
theorem RStep.frozen {w w':World} {rb:Nat} (h:RStep w w' rb) {b o:Nat} (hl:b<w.heap.size) (hb:b≠rb):w'.frozen? ⟨b,o,none⟩=w.frozen? ⟨b,o,none⟩:=
  World.frozen?_of_block (h.block b hl hb)
theorem RStep.setNew {w W:World} {rb b o:Nat} {x:Value} (h:RStep w W rb) (hb:w.heap.size≤b):RStep w (W.setCell ⟨b,o,none⟩ x) rb:=
  ⟨h.os,h.tape,h.output,by simpa using h.size,fun k hk hr=>(heap_setCell_other _ _ _ _ (show k≠b by omega)).trans (h.block k hk hr)⟩
theorem Rdr.setNew {W:World} {rb b o:Nat} {x:Value} {bs:List UInt8} {d:Int} (h:Rdr W rb bs d) (hb:rb<b):Rdr (W.setCell ⟨b,o,none⟩ x) rb bs d:=by
  obtain ⟨⟨a,n,c,h0,hI⟩,h1,h2,h3⟩:=h
  have hb':Below b W (W.setCell ⟨b,o,none⟩ x):=⟨rfl,rfl,rfl,by simp,fun k hk=>heap_setCell_other _ _ _ _ (show k≠b by omega)⟩
  exact ⟨⟨a,n,c,keep_cell hb' h0 hb,hI.keep (hb'.mono (Nat.le_of_lt hb))⟩,keep_cell hb' h1 hb,by simpa using h2,by simpa using h3⟩
structure RB (w W:World) (rb:Nat) (bs:List UInt8) (d:Int) (c:VC):Prop where
  rdr:Rdr W rb bs d
  st:RStep w W rb
  box:W.cell? ⟨w.heap.size,0,none⟩=some (.pointer (some ⟨rb,0,none⟩))
  res:ValAt W (w.heap.size+1) 0 c
  frz:∀j,j<5→W.frozen? ⟨w.heap.size+1,j,none⟩=false
  lt:rb<w.heap.size
  size:w.heap.size+2≤W.heap.size
theorem RB.next {w W W':World} {rb:Nat} {bs bs':List UInt8} {d:Int} {c:VC} (h:RB w W rb bs d c) (s:RStep W W' rb) (hR:Rdr W' rb bs' d):RB w W' rb bs' d c:=by
  have hlt:=h.lt;have hsz:=h.size
  refine ⟨hR,h.st.trans s,s.cell h.box (by omega),⟨s.cell h.res.c0 (by omega),s.cell h.res.c1 (by omega),s.cell h.res.c2 (by omega),s.cell h.res.c3 (by omega),s.cell h.res.c4 (by omega)⟩,fun j hj=>(s.frozen (by omega) (by omega)).trans (h.frz j hj),hlt,Nat.le_trans hsz s.size⟩
theorem RB.behind {w W W':World} {rb:Nat} {bs:List UInt8} {d:Int} {c:VC} (h:RB w W rb bs d c) (hb:Below W.heap.size W W'):RB w W' rb bs d c:=h.next (.of_below rb hb) (h.rdr.of_below hb)
theorem RB.set {w W:World} {rb b o:Nat} {x:Value} {bs:List UInt8} {d:Int} {c:VC} (h:RB w W rb bs d c) (hb:w.heap.size+1<b):RB w (W.setCell ⟨b,o,none⟩ x) rb bs d c:=by
  have hlt:=h.lt
  have hb':Below b W (W.setCell ⟨b,o,none⟩ x):=⟨rfl,rfl,rfl,by simp,fun k hk=>heap_setCell_other _ _ _ _ (show k≠b by omega)⟩
  exact ⟨h.rdr.setNew (by omega),h.st.setNew (by omega),keep_cell hb' h.box (by omega),h.res.keep hb' hb,fun j hj=>by simpa using h.frz j hj,hlt,by simpa using h.size⟩
theorem RB.start {w:World} {rb:Nat} {bs:List UInt8} {d d':Int} (h:Rdr w rb bs d) (t1 t2:TypeId):
    RB w (((w.setCell ⟨rb,1,none⟩ (.int .i64 d')).alloc (.cells #[.pointer (some ⟨rb,0,none⟩)] t1)).alloc (.cells #[.int .u8 0, .int .i64 0, .string { data:= #[] }, .slice none 0 0, .slice none 0 0] t2)) rb bs d' vzero:=by
  obtain ⟨hR,hS⟩:=h.setDeep (d':=d')
  obtain ⟨w0,hw0⟩:∃w0,w.setCell ⟨rb,1,none⟩ (.int .i64 d')=w0:=⟨_,rfl⟩
  have hsz:w.heap.size=w0.heap.size:=by rw [←hw0];simp
  rw [hw0] at hR hS ⊢
  obtain ⟨w1,hw1⟩:∃w1,w0.alloc (.cells #[.pointer (some ⟨rb,0,none⟩)] t1)=w1:=⟨_,rfl⟩
  have b1:Below w0.heap.size w0 w1:=by rw [←hw1];exact (Below.refl _ _).alloc (Nat.le_refl _) _
  have hs1:w1.heap.size=w.heap.size+1:=by rw [←hw1,World.size_alloc,hsz]
  have hc:=cells_new w0 #[.pointer (some ⟨rb,0,none⟩)] t1 0 _ rfl
  rw [hw1] at hc ⊢
  have b2:Below w1.heap.size w1 (w1.alloc (.cells #[.int .u8 0, .int .i64 0, .string { data:= #[] }, .slice none 0 0, .slice none 0 0] t2)):=(Below.refl _ _).alloc (Nat.le_refl _) _
  have hn:=cells_new w1 #[.int .u8 0, .int .i64 0, .string { data:= #[] }, .slice none 0 0, .slice none 0 0] t2
  have hlt:=h.lt
  refine ⟨(hR.of_below b1).of_below b2,hS.trans ((RStep.of_below rb b1).trans (.of_below rb b2)), ?_, ?_,fun j hj=> ?_,hlt,by rw [World.size_alloc,hs1];omega⟩
  · exact keep_cell b2 (by rw [hsz];exact hc) (by rw [hs1];omega)
  · rw [←hs1];exact ⟨hn 0 _ rfl,hn 1 _ rfl,hn 2 _ rfl,hn 3 _ rfl,hn 4 _ rfl⟩
  · rw [←hs1];exact frozen_new w1 _ t2 j
structure VB (W:World) (vb:Nat) (c:VC):Prop where
  at_:ValAt W vb 0 c
  fr:∀j,W.frozen? ⟨vb,j,none⟩=false
theorem VB.lt {W:World} {vb:Nat} {c:VC} (h:VB W vb c):vb<W.heap.size:=World.block_lt_of_cell? W _ h.at_.c0
theorem VB.next {W W':World} {vb rb:Nat} {c:VC} (h:VB W vb c) (s:RStep W W' rb) (hv:vb≠rb):VB W' vb c:=
  ⟨⟨s.cell h.at_.c0 hv,s.cell h.at_.c1 hv,s.cell h.at_.c2 hv,s.cell h.at_.c3 hv,s.cell h.at_.c4 hv⟩,fun j=>(s.frozen h.lt hv).trans (h.fr j)⟩
theorem VB.start (w:World) (c:VC) (t:TypeId):VB (w.alloc (.cells #[.int .u8 c.k, .int .i64 c.n, .string c.s, .slice c.la c.ll c.lc, .slice c.oa c.ol c.oc] t)) w.heap.size c:=
  ⟨valAt_new w c t,fun j=>frozen_new w _ t j⟩
theorem valAt_stored {W:World} {b:Nat} {c0:VC} (h:ValAt W b 0 c0) (c:VC):
    ValAt (((((W.setCell ⟨b,0,none⟩ (.int .u8 c.k)).setCell ⟨b,1,none⟩ (.int .i64 c.n)).setCell ⟨b,2,none⟩ (.string c.s)).setCell ⟨b,3,none⟩ (.slice c.la c.ll c.lc)).setCell ⟨b,4,none⟩ (.slice c.oa c.ol c.oc)) b 0 c:=by
  have g0:=h.c0
  have g1:W.cell? ⟨b,1,none⟩=_:=h.c1
  have g2:W.cell? ⟨b,2,none⟩=_:=h.c2
  have g3:W.cell? ⟨b,3,none⟩=_:=h.c3
  have g4:W.cell? ⟨b,4,none⟩=_:=h.c4
  constructor<;>simp [go_sem,g0,g1,g2,g3,g4]
theorem RB.store {w W:World} {rb:Nat} {bs:List UInt8} {d:Int} {c0:VC} (h:RB w W rb bs d c0) (c:VC):
    RB w (((((W.setCell ⟨w.heap.size+1,0,none⟩ (.int .u8 c.k)).setCell ⟨w.heap.size+1,1,none⟩ (.int .i64 c.n)).setCell ⟨w.heap.size+1,2,none⟩ (.string c.s)).setCell ⟨w.heap.size+1,3,none⟩ (.slice c.la c.ll c.lc)).setCell ⟨w.heap.size+1,4,none⟩ (.slice c.oa c.ol c.oc)) rb bs d c:=by
  have hlt:=h.lt
  have hn:w.heap.size≤w.heap.size+1:=by omega
  have hr:rb<w.heap.size+1:=by omega
  refine ⟨((((h.rdr.setNew hr).setNew hr).setNew hr).setNew hr).setNew hr,((((h.st.setNew hn).setNew hn).setNew hn).setNew hn).setNew hn, ?_,valAt_stored h.res c,fun j hj=>by simpa using h.frz j hj,hlt,by simpa using h.size⟩
  simp [go_sem,h.box]
theorem isVal_leaf (W:World) (B:Nat) (k n:Int) (s:ByteArray) (hk0:0≤k) (hk1:k<256) (hn0: -9223372036854775808≤n) (hn1:n≤9223372036854775807) (hs:s.size≤140737488355328):IsVal W B (.mk k n s [] []) ⟨k,n,s,none,0,0,none,0,0⟩:=
  .mk ⟨k,n,s,none,0,0,none,0,0⟩ [] [] (fun _=>vzero) (fun _=>vzero) 0 0 0 0 ⟨hk0,hk1,hn0,hn1,hs,(by decide:(0:Nat)≤0),(by decide:(0:Nat)≤9223372036854775807),(by decide:(0:Nat)≤1466015503701),(by decide:(0:Nat)≤0),(by decide:(0:Nat)≤9223372036854775807),(by decide:(0:Nat)≤1466015503701)⟩ rfl rfl (fun h=>by cases h) (fun h=>by cases h) (fun i h=>by cases h) (fun i h=>by cases h) (fun i h=>by cases h) (fun i h=>by cases h)
def RVPost (w:World) (rb:Nat) (d:Int) (r:Option (V×List UInt8)) (e:Ending) (w':World):Prop:=
  RStep w w' rb∧match r with
    |some (x,r)=>(∃c:VC,e= .returned (.agg #[.int .u8 c.k, .int .i64 c.n, .string c.s, .slice c.la c.ll c.lc, .slice c.oa c.ol c.oc])∧IsVal (only (fun b=>w.heap.size≤b) w') w'.heap.size x c)∧Rdr w' rb r d
    |none=>e= .panicked [short] ∧∃bs',Rdr w' rb bs' d
theorem RB.leave {w W:World} {rb base:Nat} {r:List UInt8} {d:Int} {c:VC} {x:V} {tmps:Array Value} (h:RB w W rb r (d+1) c) (hx:IsVal (only (fun b=>base≤b) W) W.heap.size x c) (hb:w.heap.size≤base) (hd:0≤d) (hd2:d≤100) (ht:tmps[2]? =some (.pointer (some ⟨w.heap.size+1,0,none⟩))):
    Leaves Tryz.prog Tryz.f44 tmps (RVPost w rb d (some (x,r))) [{ target:= .fn (.func 75) #[.pointer (some ⟨w.heap.size,0,none⟩)],args:= #[] }] .returning W:=by
  have hlt:=h.lt
  refine door_ret h.box h.rdr hd hd2 ht h.res (by omega) fun hR hS=>⟨h.st.trans hS,⟨c,rfl, ?_⟩,hR⟩
  exact (hx.sub (shows_step fun k hk hl=>⟨by omega,hS.block k hl (by omega)⟩)).more hS.size
theorem RB.panic {w W:World} {rb:Nat} {r:List UInt8} {d:Int} {c:VC} {tmps:Array Value} (h:RB w W rb r (d+1) c) (hd:0≤d) (hd2:d≤100):
    Leaves Tryz.prog Tryz.f44 tmps (RVPost w rb d none) [{ target:= .fn (.func 75) #[.pointer (some ⟨w.heap.size,0,none⟩)],args:= #[] }] (.panicking [short]) W:=
  door_panic h.box h.rdr hd hd2 fun hR hS=>⟨h.st.trans hS,rfl,r,hR⟩
end Go.Proofs.YthceefjafklcmaaGreatDoor
