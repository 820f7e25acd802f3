/-
  Contracts of the functions that the law reaches: Ways into a value, in plain Lean..
-/
import Derived.Test.YtnjgbiachcfigaaGreatDoorIa5
namespace Go.Proofs.YtnjgbiachcfigaaGreatDoor
open Go.RowKit
set_option maxHeartbeats 8000000
def stepP (v:V) (s:St):Option (V×Nat):=
 if s.list=true then (if v.kd=4/\0<=s.i/\s.i<v.ls.length then some (v.ls.getD s.i.toNat V.none,s.i.toNat) else none)
 else if v.kd=5/\fieldIs v.os s.key=true then some ((v.os.getD (fieldK v.os s.key) (.empty,V.none)).2,fieldK v.os s.key) else none
def getP:V->List St->Option V
 |v, [] =>some v
 | v,s::r=>match stepP v s with
   |none=>none
   |some q=>getP q.1 r
def putP:V->List St->V->Option V
 |_, [],x=>some x
 | v,s::r,x=>match stepP v s with
   |none=>none
   | some q=>match putP q.1 r x with
     |none=>none
     |some z=>some (if s.list=true then v.setL q.2 z else v.setO q.2 z)
theorem Xm {v:V} {s:St} {x:V} {k:Nat} (h:stepP v s=some (x,k)):
 (s.list=true/\v.kd=4/\(k:Int)=s.i/\∃hk:k<v.ls.length,v.ls[k] =x)∨(s.list=false/\v.kd=5/\k=fieldK v.os s.key/\∃hk:k<v.os.length,v.os[k].2=x):=by
 unfold stepP at h
 by_cases hl:s.list=true
 .rw [if_pos hl] at h
  split at h
  .rename_i hc
   injection h with h;injection h with h1 h2
   have hk:k<v.ls.length:=by omega
   refine .inl ⟨hl,hc.1,by omega,hk, ?_⟩
   subst h2
   rw [<-h1]
   simp [List.getD_eq_getElem?_getD,hk]
  .cases h
 .rw [if_neg hl] at h
  split at h
  .rename_i hc
   injection h with h;injection h with h1 h2
   have hk:k<v.os.length:=by rw [<-h2];exact Ys hc.2
   refine .inr ⟨by simpa using hl,hc.1,h2.symm,hk, ?_⟩
   subst h2
   rw [<-h1]
   simp [List.getD_eq_getElem?_getD,hk]
  .cases h
def CopyPost (w:World) (k n:Int) (s:ByteArray) (l:List V) (o:List (ByteArray×V)) (e:Ending) (w':World):Prop:=
 (∃a m c a' m' c' cl co,e= .returned (.agg #[.int .u8 k, .int .i64 n, .string s, .slice a m c, .slice a' m' c'])/\Fresh w' w.heap.size l o a m c a' m' c' cl co)/\Below w.heap.size w w'
structure CL1 (w wr:World) (c0:VC) (l:List V) (j:Nat) (a:Option Addr) (m c:Nat) (xs:List V) (cs:List VC):Prop where
 rd:l.take j=xs
 len:xs.length=j
 cen:cs.length=j
 box:BC wr w.heap.size (vcells c0)
 res:BC wr (w.heap.size+1) (vcells vzero)
 below:Below w.heap.size w wr
 row:RowV wr (w.heap.size+2) (.slice a m c) xs cs
theorem CL1.round {w wr w4 w6 w7:World} {c0:VC} {l:List V} {j:Nat} {a:Option Addr} {m c:Nat} {xs:List V} {cs:List VC} {x:V} {cx:VC} {g cap:Nat}
 (h:CL1 w wr c0 l j a m c xs cs) (hj:j<l.length) (hx:l[j] =x) (hb4:uB wr w4) (hI:IsVal (only (fun b=>wr.heap.size<=b) w4) w4.heap.size x cx) (hb6:uB w4 w6)
 (hown:w7.ownsRow (w.heap.size+2) 36 5 (.slice (some ⟨g,0,none⟩) (j+1) cap) (j+1) (cs.flatMap vcells++vcells cx)) (hg:w6.grownBy w7 (Value.slice a m c).ownBlock)
 (hat:(Value.slice a m c).ownBlock=some g∨w4.heap.size<=g):
 CL1 w w7 c0 l (j+1) (some ⟨g,0,none⟩) (j+1) cap (xs++ [x]) (cs++ [cx]):=by
 have hrow:=h.row.later (PV.closed xs cs) (.of_below 0 hb4) (by omega)
 have hrlt:∀b,(Value.slice a m c).ownBlock=some b->w.heap.size+2<=b/\b<wr.heap.size:=h.row.lt
 have hsz:=h.box.lt
 have hsr:=h.res.lt
 have hsz4:=hb4.size
 have hsz6:=hb6.size
 have hgb:Below (w.heap.size+2) w6 w7:=Zi hg (fun b hb=>(hrlt b hb).1) (by omega)
 have hb67:Below (w.heap.size+2) w4 w7:=(hb6.mono (by omega)).trans hgb
 obtain ⟨s1,s2⟩:=PV.snoc (l:=xs) (cs:=cs) (by rw [h.len,h.cen]) x cx
 have hnew:PV (xs++ [x]) (cs++ [cx]) (only (Free (w.heap.size+2) (.slice a m c)) w4) w4.heap.size xs.length:=s1 _ _ (hI.sub (Zd fun b hb _=>⟨⟨by omega,fun e=>by have:=(hrlt b e.symm).2;omega⟩,rfl⟩))
 have hpush:=Row.push (PV.closed (xs++ [x]) (cs++ [cx])) hrow hb6 hg (u':= .slice (some ⟨g,0,none⟩) (j+1) cap) (news:=vcells cx) (by rw [h.len];exact hown) (by
  rcases hat with e|e
  .left;rw [e];rfl
  .right;intro b hb;have:g=b:=by simpa [Value.ownBlock] using hb
   omega) hnew s2
 refine ⟨?_,by simp [h.len],by simp [h.cen],(h.box.keep hb4 (by omega)).keep hb67 (by omega),(h.res.keep hb4 (by omega)).keep hb67 (by omega),(h.below.trans (hb4.mono (by omega))).trans (hb67.mono (by omega)), ?_⟩
 .rw [Z6 l j hj,h.rd,hx]
 .show Row _ _ _ _ _ _ _ _
  rw [Xd,List.length_append,List.length_singleton]
  exact hpush
structure CL2 (w1 wr:World) (o:List (ByteArray×V)) (j:Nat) (a:Option Addr) (m c:Nat) (xs:List (ByteArray×V)) (cs:List (ByteArray×VC)):Prop where
 rd:o.take j=xs
 len:xs.length=j
 cen:cs.length=j
 pos:0<w1.heap.size
 below:Below w1.heap.size w1 wr
 row:RowF wr w1.heap.size (.slice a m c) xs cs
theorem CL2.round {w1 wr w4 w6 w7:World} {o:List (ByteArray×V)} {j:Nat} {a:Option Addr} {m c:Nat} {xs:List (ByteArray×V)} {cs:List (ByteArray×VC)} {sk:ByteArray} {x:V} {cx:VC} {g cap:Nat}
 (h:CL2 w1 wr o j a m c xs cs) (hj:j<o.length) (hk:o[j].1=sk) (hx:o[j].2=x) (hks:sk.size<=140737488355328) (hb4:uB wr w4) (hI:IsVal (only (fun b=>wr.heap.size<=b) w4) w4.heap.size x cx) (hb6:uB w4 w6)
 (hown:w7.ownsRow w1.heap.size 75 6 (.slice (some ⟨g,0,none⟩) (j+1) cap) (j+1) (cs.flatMap fcells++fcells (sk,cx))) (hg:w6.grownBy w7 (Value.slice a m c).ownBlock)
 (hat:(Value.slice a m c).ownBlock=some g∨w4.heap.size<=g):
 CL2 w1 w7 o (j+1) (some ⟨g,0,none⟩) (j+1) cap (xs++ [(sk,x)]) (cs++ [(sk,cx)]):=by
 have hsz:=h.below.size
 have hrow:=h.row.later (rb:=0) (PF.closed xs cs) (.of_below _ hb4) h.pos
 have hrlt:∀b,(Value.slice a m c).ownBlock=some b->w1.heap.size<=b/\b<wr.heap.size:=h.row.lt
 have hsz4:=hb4.size
 have hsz6:=hb6.size
 have hgb:Below w1.heap.size w6 w7:=Zi hg (fun b hb=>(hrlt b hb).1) (by omega)
 have hb67:Below w1.heap.size w4 w7:=(hb6.mono (by omega)).trans hgb
 obtain ⟨s1,s2⟩:=PF.snoc (l:=xs) (cs:=cs) (by rw [h.len,h.cen]) sk hks x cx
 have hnew:PF (xs++ [(sk,x)]) (cs++ [(sk,cx)]) (only (Free w1.heap.size (.slice a m c)) w4) w4.heap.size xs.length:=s1 _ _ (hI.sub (Zd fun b hb _=>⟨⟨by omega,fun e=>by have:=(hrlt b e.symm).2;omega⟩,rfl⟩))
 have hpush:=Row.push (PF.closed (xs++ [(sk,x)]) (cs++ [(sk,cx)])) hrow hb6 hg (u':= .slice (some ⟨g,0,none⟩) (j+1) cap) (news:=fcells (sk,cx)) (by rw [h.len];exact hown) (by
  rcases hat with e|e
  .left;rw [e];rfl
  .right;intro b hb;have:g=b:=by simpa [Value.ownBlock] using hb
   omega) hnew s2
 refine ⟨?_,by simp [h.len],by simp [h.cen],h.pos,(h.below.trans (hb4.mono (by omega))).trans hb67, ?_⟩
 .rw [Z6 o j hj,h.rd, <-hk, <-hx]
 .show Row _ _ _ _ _ _ _ _
  rw [Xd,List.length_append,List.length_singleton]
  exact hpush
theorem CL2.behind {w1 wr W:World} {o:List (ByteArray×V)} {j:Nat} {a:Option Addr} {m c:Nat} {xs:List (ByteArray×V)} {cs:List (ByteArray×VC)} (h:CL2 w1 wr o j a m c xs cs) (hb:uB wr W):CL2 w1 W o j a m c xs cs:=
 ⟨h.rd,h.len,h.cen,h.pos,h.below.trans (hb.mono h.below.size),h.row.later (rb:=0) (PF.closed xs cs) (.of_below _ hb) h.pos⟩
theorem zha {w w1 wr W:World} {c0:VC} {l:List V} {o:List (ByteArray×V)} {j j':Nat} {a:Option Addr} {m c:Nat} {xs:List V} {cs:List VC} {a':Option Addr} {m' c':Nat} {xs':List (ByteArray×V)} {cs':List (ByteArray×VC)}
 (h1:CL1 w w1 c0 l j a m c xs cs) (h2:CL2 w1 wr o j' a' m' c' xs' cs') (hj:l.length<=j) (hj':o.length<=j') (few:l.length<=1466015503701) (few':o.length<=1466015503701) (hWs:wr.heap.size<=W.heap.size) (hWb:∀k,k<wr.heap.size->k≠w.heap.size->k≠w.heap.size+1->W.heap[k]? =wr.heap[k]?):Fresh W w.heap.size l o a m c a' m' c' cs cs':=by
 have e1:xs=l:=by rw [<-h1.rd,List.take_of_length_le hj]
 have e2:xs'=o:=by rw [<-h2.rd,List.take_of_length_le hj']
 have hl:=h1.len
 have hl':=h2.len
 have hc:=h1.cen
 have hc':=h2.cen
 subst e1 e2
 have hsz:=h1.box.lt
 have hsr:=h1.res.lt
 have hlt1:∀b,(Value.slice a m c).ownBlock=some b->w.heap.size+2<=b/\b<w1.heap.size:=h1.row.lt
 have hlt2:∀b,(Value.slice a' m' c').ownBlock=some b->w1.heap.size<=b/\b<wr.heap.size:=h2.row.lt
 have hszr:=h2.below.size
 have hkeep:∀k,k<w1.heap.size->w.heap.size+2<=k->W.heap[k]? =w1.heap[k]? :=fun k hk hne=>(hWb k (by omega) (by omega) (by omega)).trans (h2.below.block k hk)
 have o1:W.ownsRow (w.heap.size+2) 36 5 (.slice a m c) xs.length (cs.flatMap vcells):=by
  refine ⟨h1.row.own.1, ?_⟩
  rcases h1.row.own.2 with hn|⟨g,cap,cur,e,hb,hg,rest⟩
  .exact .inl hn
  .have hgl:=(hlt1 g (by rw [e];rfl)).2
   exact .inr ⟨g,cap,cur,e,hb,(hkeep g hgl hb).trans hg,rest⟩
 have o2:W.ownsRow w1.heap.size 75 6 (.slice a' m' c') xs'.length (cs'.flatMap fcells):=by
  refine ⟨h2.row.own.1, ?_⟩
  rcases h2.row.own.2 with hn|⟨g,cap,cur,e,hb,hg,rest⟩
  .exact .inl hn
  .have hgl:=(hlt2 g (by rw [e];rfl)).2
   exact .inr ⟨g,cap,cur,e,hb,(hWb g hgl (by omega) (by omega)).trans hg,rest⟩
 obtain ⟨_,_,q1,r1⟩:=OwnRow.of (base':=w.heap.size) o1 (by omega)
 obtain ⟨_,_,q2,r2⟩:=OwnRow.of (base':=w.heap.size) o2 (by omega)
 injection q1 with z1 z2 z3
 injection q2 with z1' z2' z3'
 subst z1 z2 z3 z1' z2' z3'
 refine ⟨rfl,rfl,by omega,by omega,few,few',r1,r2,fun g e1 e2=> ?_,fun i hi=>PV.closed _ _ _ _ _ _ i (Zd fun k hk hlt=>⟨⟨by have:=hk.1;omega,hk.2,fun e=>by have:=(hlt2 k e.symm).1;omega⟩,hkeep k hlt hk.1⟩) (Nat.le_trans hszr hWs) (h1.row.els i hi),fun i hi=>PF.closed _ _ _ _ _ _ i (Zd fun k hk hlt=>⟨⟨by have:=hk.1;omega,fun e=>by have:=(hlt1 k e.symm).2;have:=hk.1;omega,hk.2⟩,hWb k hlt (by have:=hk.1;omega) (by have:=hk.1;omega)⟩) hWs (h2.row.els i hi)⟩
 have:=(hlt1 g e1).2;have:=(hlt2 g e2).1;omega
theorem zem {P:Program} (w:World) (base:Nat) (t ty e:TypeId) (i:TypeInfo) (size:Nat) (ht:P.underlying t=some (.slice e)) (hi:P.info? e=some i)
 (v:Value) (n:Nat) (xs:List Value) (hown:w.ownsRow base e size v n xs):
 (Builtin.append_ #[t,t] ty #[v, .slice none 0 0]).run P w= .ok v w:=by
 rcases hown.2 with ⟨rfl,rfl⟩|⟨g,cap,cur,rfl,hbg,hg,hnc,hcm,hcs,htake⟩
 .simp [Builtin.append_,run_underlying ht,sizeOf,typeInfo,hi,Builtin.lenOf,Builtin.firstCells]
 .simp [Builtin.append_,run_underlying ht,sizeOf,typeInfo,hi,Builtin.lenOf,Builtin.firstCells,storeCells,hnc]
theorem Kc {P:Program} (w:World) {ops:Array Oper} {rest:List Oper} {o:Oper} {a:Act} {Q:Exit->Act->World->Prop} (hgd:o.guard=none) (s x:Operand) (t:TypeId)
 (ho:o.op= .call { callee:= .builtin .append,args:= #[s,x],argTypes:= #[t,t] })
 (base:Nat) (e:TypeId) (i:TypeInfo) (size:Nat) (ht:P.underlying t=some (.slice e)) (hi:P.info? e=some i)
 (v:Value) (n:Nat) (xs:List Value) (hs:a.eval s=v) (hown:w.ownsRow base e size v n xs)
 (hx:a.eval x= .slice none 0 0)
 (h:wpList P ops Q rest (a.put o.dst v) w):wpList P ops Q (o::rest) a w:=
 wpList_plain hgd fun _ hK=>by
  have hr:=zem (P:=P) w base t o.type e i size ht hi v n xs hown
  unfold Oper.wp execOp
  simp only [ho,resolve,invoke,builtin,Sem.run_bind,Sem.run_pure,Result.andThen_ok,List.map_toArray,List.map_cons,List.map_nil,hs,hx,hr]
  exact hK _ _ h
set_option maxRecDepth 100000 in
theorem zj0 (w:World) (B0:Nat) (hB0:B0<=w.heap.size) (key:ByteArray) (hks:key.size<=140737488355328) (x:V) (cx:VC) (hx:IsVal (only (fun k=>B0<=k) w) w.heap.size x cx):
 uP 72 #[.slice none 0 0, .string key, .agg (uV cx)] w (WithPost w B0 (withF [] key x)):=by
 delta uV uP
 obtain ⟨i0,hi0,hz0,hz1,hz2⟩:=info_parts Yi
 have HF:Hid (∀W,uB w W->uP 75 #[.agg (uU 0 0 { data:= #[] } none 0 0 none 0 0), .string key] W fun e w'=>e= .returned (.tuple #[.int .i64 0, .bool false])/\uB W w'):=by
  intro W hW
  exact Yb W [] key 0 0 { data:= #[] } none 0 0 none 0 0 ⟨rfl,by omega,by omega,by omega,0,0,fun _=>vzero,fun h=>absurd h (by omega),fun i h=>absurd h (by simp)⟩
 have HBX:=qh (BC.start w (uV cx) 36)
 have HAL:=qh ((Below.refl _ _).alloc (Nat.le_refl _) (.cells (uV cx) 36):uB w _)
 have HX:=qh hx
 obtain ⟨R,hR⟩:∃R,WithPost w B0 (withF [] key x)=R:=⟨_,rfl⟩
 rw [hR]
 have HR:=qh hR
 clear hx hR
 go_enter Tryz.func72,Tryz.ntmps72
 go_wp2_with fail
 refine (HF.out _ HAL.out).mono ?_
 rintro e w1 ⟨rfl,hb1⟩
 have BX2:=HBX.out.keep hb1 (by simp)
 obtain ⟨x0,x1,x2,x3,x4⟩:=row5 BX2.at_
 have zs2:w.heap.size<w1.heap.size:=BX2.lt
 have HBL1:=qh (HAL.out.trans (hb1.mono (by simp)))
 have ho2:(w1.alloc (.cells #[.string key, .int .u8 cx.k, .int .i64 cx.n, .string cx.s, .slice cx.la cx.ll cx.lc, .slice cx.oa cx.ol cx.oc] 75)).ownsRow (w.heap.size+1) 75 6 (.slice none 0 0) 0 [] :=⟨rfl, .inl ⟨rfl,rfl⟩⟩
 have hnw:∀j u,(fcells (key,cx))[j]? =some u->(w1.alloc (.cells #[.string key, .int .u8 cx.k, .int .i64 cx.n, .string cx.s, .slice cx.la cx.ll cx.lc, .slice cx.oa cx.ol cx.oc] 75)).cell? ((⟨w1.heap.size,0,none⟩:Addr).add j)=some u:=World.news_of_block (t:=75) (fr:=(0,0)) (heap_alloc_new w1 (.cells #[.string key, .int .u8 cx.k, .int .i64 cx.n, .string cx.s, .slice cx.la cx.ll cx.lc, .slice cx.oa cx.ol cx.oc] 75))
 have HNW:=qh hnw
 clear hb1 BX2 hnw
 have ho1:w1.ownsRow (w.heap.size+1) 75 6 (.slice none 0 0) 0 [] :=⟨rfl, .inl ⟨rfl,rfl⟩⟩
 go_wp2_with (first
  |(at_builtin;refine Kc _ rfl (.tmp 17) (.tmp 20) 34 (by rfl) (w.heap.size+1) 75 i0 6 Tryz.underlying34 hi0 (.slice none 0 0) 0 [] (by rfl) ho1 (by rfl) ?_)
  |(at_builtin;refine wpList_append_own _ rfl (.tmp 22) (.tmp 26) 34 (by rfl) (w.heap.size+1) 75 i0 _ 6 96 Tryz.underlying34 hi0 hz0 hz1 hz2 rfl (by omega) (.slice none 0 0) 0 [] (by rfl) ho2 ⟨w1.heap.size,0,none⟩ 1 1 (fcells (key,cx)) (by rfl) (by rfl) HNW.out (Xp key cx) (by unfold maxLen;omega) (by omega) (by simp;omega) ?_;intro v2 w4 hown2 hgrow2 _;have b24:Below (w.heap.size+1) w1 w4:=(((Below.refl w1.heap.size w1).alloc (Nat.le_refl _) (.cells #[.string key, .int .u8 cx.k, .int .i64 cx.n, .string cx.s, .slice cx.la cx.ll cx.lc, .slice cx.oa cx.ol cx.oc] 75)).mono (by omega)).trans (Zi hgrow2 (fun k hk=>by simp [Value.ownBlock] at hk) (by simp;omega));have HBL4:=qh (HBL1.out.trans (b24.mono (by omega)));have zs4:w.heap.size<w4.heap.size:=Nat.lt_of_lt_of_le zs2 b24.size;have HO2:=qh hown2;clear hgrow2 b24 hown2)
  |(at_builtin;refine Kc _ rfl (.tmp 31) (.tmp 34) 34 (by rfl) (w.heap.size+1) 75 i0 6 Tryz.underlying34 hi0 v2 (0+1) ([] ++fcells (key,cx)) (by rfl) HO2.out (by rfl) ?_))
 rw [<-HR.out]
 have hown:=HO2.out
 have hcat: [] ++fcells (key,cx)= [(key,cx)].flatMap fcells:=by simp
 rw [hcat] at hown
 have hlt3:=hown.lt
 have hsh:Shows (only (fun k=>B0<=k) w) (only (Free B0 v2) w4) w.heap.size:=Zd fun q hq hl=>⟨⟨hq,fun e=>by have:=(hlt3 q e.symm).1;omega⟩,HBL4.out.block q hl⟩
 obtain ⟨a,n,c,hv,hf,hz⟩:=Qq (l:= [(key,x)]) (B0:=B0) (B1:=w.heap.size+1) hown (by omega) rfl
  (fun i _ hi=>by
   obtain rfl:i=0:=by simpa using hi
   exact ⟨rfl,hks,(HX.out.sub hsh).more HBL4.out.size⟩) (by simp)
 exact ⟨⟨a,n,c,by rw [hv],hf,hz⟩,HBL4.out⟩
set_option maxRecDepth 100000 in
theorem ziw (w:World) (B0:Nat) (hB0:B0<=w.heap.size) (o:List (ByteArray×V)) (b off ol oc:Nat) (ho:IsFields (only (fun k=>B0<=k) w) w.heap.size o (some ⟨b,off,none⟩) ol oc) (key:ByteArray) (hks:key.size<=140737488355328) (x:V) (cx:VC) (hx:IsVal (only (fun k=>B0<=k) w) w.heap.size x cx) (hpos:0<ol) (hfew:ol<=1000000) (his:fieldIs o key=true) (hke:fieldK o key+1<oc):
 uP 72 #[.slice (some ⟨b,off,none⟩) ol oc, .string key, .agg (uV cx)] w (WithPost w B0 (withF o key x)):=by
 delta uV uP
 obtain ⟨i0,hi0,hz0,hz1,hz2⟩:=info_parts Yi
 have hlen:=ho.len
 have hcap:=ho.cap
 have hmax:=ho.max
 obtain ⟨cs,b2,off2,hcl,hab,hcell,hpf⟩:=ho.cells
 have HCELL:Hid (∀W,uB w W->∀j u,(cs.flatMap fcells)[j]? =some u->W.cell? ⟨b,off+j,none⟩=some u):=by
  intro W hW j u hj
  have hjl:=(List.getElem?_eq_some_iff.1 hj).1
  rw [Zk fcells 6 (fun _=>rfl),hcl, <-hlen] at hjl
  obtain ⟨e,hb2⟩:=hab (by omega)
  injection e with e;injection e with e1 e2
  subst e1 e2
  exact Zb hW (Z8 (hcell j u hj)).2 hb2
 obtain ⟨k,hk⟩:∃k,fieldK o key=k:=⟨_,rfl⟩
 rw [hk] at hke
 have hkl:k<=ol:=by rw [<-hk,hlen];exact Yz o key
 have hkl2:k<ol:=by rw [<-hk,hlen];exact Ys his
 have hkc:k<=cs.length:=by rw [hcl, <-hlen];exact hkl
 have hkc2:k+1<=cs.length:=by rw [hcl, <-hlen];omega
 have HF:Hid (∀W,uB w W->uP 75 #[.agg (uU 0 0 { data:= #[] } none 0 0 (some ⟨b,off,none⟩) ol oc), .string key] W fun e w'=>e= .returned (.tuple #[.int .i64 (k:Int), .bool true])/\uB W w'):=by
  intro W hW
  have hof:IsFields W W.heap.size o (some ⟨b,off,none⟩) ol oc:=(IsFields.keep (IsFields.sub (Zl (fun k=>B0<=k) w _) ho) hW).more hW.size
  have:=Yb W o key 0 0 { data:= #[] } none 0 0 (some ⟨b,off,none⟩) ol oc hof
  rw [hk,his] at this;exact this
 have hwf:withF o key x=o.take k++(key,x)::o.drop (k+1):=by rw [withF,his,hk];rfl
 rw [hwf]
 have HBX:=qh (BC.start w (uV cx) 36)
 have HAL:=qh ((Below.refl _ _).alloc (Nat.le_refl _) (.cells (uV cx) 36):uB w _)
 have HX:=qh hx
 have HPF:=qh hpf
 have HCL:=qh hcl
 have HLEN:=qh hlen
 obtain ⟨R,hR⟩:∃R,WithPost w B0 (o.take k++(key,x)::o.drop (k+1))=R:=⟨_,rfl⟩
 rw [hR]
 have HR:=qh hR
 obtain ⟨XA,hXA⟩:∃XA,(cs.take k).flatMap fcells=XA:=⟨_,rfl⟩
 obtain ⟨XB,hXB⟩:∃XB,(cs.drop (k+1)).flatMap fcells=XB:=⟨_,rfl⟩
 have hla:XA.length=k*6:=by rw [<-hXA,Zk fcells 6 (fun _=>rfl),List.length_take,Nat.min_eq_left hkc]
 have hlb:XB.length=(ol - (k+1))*6:=by rw [<-hXB,Zk fcells 6 (fun _=>rfl),List.length_drop,hcl, <-hlen]
 have HA1:Hid (∀u ∈ XA,u.oneCell'=true):=by unfold Hid;rw [<-hXA];exact Y0 _
 have HB1:Hid (∀u ∈ XB,u.oneCell'=true):=by unfold Hid;rw [<-hXB];exact Y0 _
 have HCA:Hid (∀W,uB w W->∀j u,XA[j]? =some u->W.cell? ((⟨b,off,none⟩:Addr).add j)=some u):=by
  intro W hW j u hj
  rw [<-hXA] at hj
  rw [Z0];exact HCELL.out W hW j u (Jt hj)
 have HCB:Hid (∀W,uB w W->∀j u,XB[j]? =some u->W.cell? ((⟨b,off+(k+1)*6,none⟩:Addr).add j)=some u):=by
  intro W hW j u hj
  rw [<-hXB] at hj
  rw [Z0,Nat.add_assoc];exact HCELL.out W hW _ u (Q1 hkc2 hj)
 have HXA:=qh hXA
 have HXB:=qh hXB
 clear ho hab hcell hk his hx hpf hcl hlen hwf hR hXA hXB hkc hkc2
 go_enter Tryz.func72,Tryz.ntmps72
 go_wp2_with fail
 refine (HF.out _ HAL.out).mono ?_
 rintro e w1 ⟨rfl,hb1⟩
 have bl1:=HAL.out.trans (hb1.mono (by simp))
 have HBX1:=qh (HBX.out.keep hb1 (by simp))
 have zs1:w.heap.size<w1.heap.size:=HBX1.out.lt
 have HBL1:=qh bl1
 have ho1:w1.ownsRow (w.heap.size+1) 75 6 (.slice none 0 0) 0 [] :=⟨rfl, .inl ⟨rfl,rfl⟩⟩
 clear hb1 bl1
 go_wp2_with (first
  |(at_builtin;refine wpList_append_own _ rfl (.tmp 17) (.tmp 20) 34 (by rfl) (w.heap.size+1) 75 i0 _ 6 96 Tryz.underlying34 hi0 hz0 hz1 hz2 rfl (by omega) (.slice none 0 0) 0 [] (by rfl) ho1 ⟨b,off,none⟩ k oc XA (by rfl) hla (HCA.out _ HBL1.out) HA1.out (by unfold maxLen;omega) (by omega) (by omega) ?_;intro v1 w2 hown1 hgrow1 _;have b12:Below (w.heap.size+1) w1 w2:=Zi hgrow1 (fun k hk=>by simp [Value.ownBlock] at hk) (by omega);have BX2:=HBX1.out.keep b12 (by omega);obtain ⟨x0,x1,x2,x3,x4⟩:=row5 BX2.at_;have zs2:=BX2.lt;have HBL2:=qh (HBL1.out.trans (b12.mono (by omega)));have HO1:=qh hown1;have hrl:∀g,v1.ownBlock=some g->w.heap.size+1<=g/\g<w2.heap.size:=hown1.lt;have ho2:=hown1.alloc (.cells #[.string key, .int .u8 cx.k, .int .i64 cx.n, .string cx.s, .slice cx.la cx.ll cx.lc, .slice cx.oa cx.ol cx.oc] 75);have hnw:∀j u,(fcells (key,cx))[j]? =some u->(w2.alloc (.cells #[.string key, .int .u8 cx.k, .int .i64 cx.n, .string cx.s, .slice cx.la cx.ll cx.lc, .slice cx.oa cx.ol cx.oc] 75)).cell? ((⟨w2.heap.size,0,none⟩:Addr).add j)=some u:=World.news_of_block (t:=75) (fr:=(0,0)) (heap_alloc_new w2 (.cells #[.string key, .int .u8 cx.k, .int .i64 cx.n, .string cx.s, .slice cx.la cx.ll cx.lc, .slice cx.oa cx.ol cx.oc] 75));have HNW:=qh hnw;clear hnw hown1 hgrow1 BX2 b12)
  |(at_builtin;refine wpList_append_own _ rfl (.tmp 22) (.tmp 26) 34 (by rfl) (w.heap.size+1) 75 i0 _ 6 96 Tryz.underlying34 hi0 hz0 hz1 hz2 rfl (by omega) v1 (0+k) ([] ++XA) (by rfl) ho2 ⟨w2.heap.size,0,none⟩ 1 1 (fcells (key,cx)) (by rfl) (by rfl) HNW.out (Xp key cx) (by unfold maxLen;omega) (by omega) (by simp;omega) ?_;intro v2 w4 hown2 hgrow2 _;have b24:Below (w.heap.size+1) w2 w4:=(((Below.refl w2.heap.size w2).alloc (Nat.le_refl _) (.cells #[.string key, .int .u8 cx.k, .int .i64 cx.n, .string cx.s, .slice cx.la cx.ll cx.lc, .slice cx.oa cx.ol cx.oc] 75)).mono (by omega)).trans (Zi hgrow2 (fun k hk=>(hrl k hk).1) (by simp;omega));have HBL4:=qh (HBL2.out.trans (b24.mono (by omega)));have zs4:w.heap.size<w4.heap.size:=Nat.lt_of_lt_of_le zs2 b24.size;have hrl2:∀g,v2.ownBlock=some g->w.heap.size+1<=g/\g<w4.heap.size:=hown2.lt;have HO2:=qh hown2;clear hgrow2 b24 hown2)
  |(at_builtin;refine wpList_append_own _ rfl (.tmp 31) (.tmp 34) 34 (by rfl) (w.heap.size+1) 75 i0 _ 6 96 Tryz.underlying34 hi0 hz0 hz1 hz2 rfl (by omega) v2 (0+k+1) ([] ++XA++fcells (key,cx)) (by rfl) HO2.out ⟨b,off+(k+1)*6,none⟩ (ol - (k+1)) (oc - (k+1)) XB (by rfl) (by omega) (HCB.out _ HBL4.out) HB1.out (by unfold maxLen;omega) (by omega) (by omega) ?_;intro v3 w5 hown3 hgrow3 _;have b45:Below (w.heap.size+1) w4 w5:=Zi hgrow3 (fun k hk=>(hrl2 k hk).1) (by omega);have HBL5:=qh (HBL4.out.trans (b45.mono (by omega)));have HO3:=qh hown3;clear hgrow3 b45 hown3))
 rw [<-HR.out]
 have hcat: [] ++XA++fcells (key,cx)++XB=(cs.take k++(key,cx)::cs.drop (k+1)).flatMap fcells:=by rw [<-HXA.out, <-HXB.out];simp
 have hll:(o.take k++(key,x)::o.drop (k+1)).length=0+k+1+(ol - (k+1)):=by
  rw [List.length_append,List.length_cons,List.length_drop,List.length_take, <-HLEN.out,Nat.min_eq_left hkl];omega
 have hown:=HO3.out
 rw [hcat, <-hll] at hown
 have hlt3:=hown.lt
 have hsh:Shows (only (fun k=>B0<=k) w) (only (Free B0 v3) w5) w.heap.size:=Zd fun q hq hl=>⟨⟨hq,fun e=>by have:=(hlt3 q e.symm).1;omega⟩,HBL5.out.block q hl⟩
 obtain ⟨a,n,c,hv,hf,hz⟩:=Qq (B0:=B0) (B1:=w.heap.size+1) hown (by omega) (by rw [List.length_append,List.length_append,List.length_cons,List.length_cons,List.length_drop,List.length_drop,List.length_take,List.length_take,HCL.out])
  (PF.with_ HCL.out (fun i hi=>PF.closed o cs _ _ _ _ i hsh HBL5.out.size (HPF.out i hi)) ((HX.out.sub hsh).more HBL5.out.size) hks (by rw [<-HLEN.out];exact hkl) (by rw [<-HLEN.out];omega)) (by rw [hll];omega)
 exact ⟨⟨a,n,c,by rw [hv],hf,hz⟩,HBL5.out⟩
set_option maxRecDepth 100000 in
theorem zg0 (w:World) (B0:Nat) (hB0:B0<=w.heap.size) (o:List (ByteArray×V)) (b off ol oc:Nat) (ho:IsFields (only (fun k=>B0<=k) w) w.heap.size o (some ⟨b,off,none⟩) ol oc) (key:ByteArray) (hks:key.size<=140737488355328) (x:V) (cx:VC) (hx:IsVal (only (fun k=>B0<=k) w) w.heap.size x cx) (hpos:0<ol) (hfew:ol<=1000000) (his:fieldIs o key=true) (hke:fieldK o key+1=oc):
 uP 72 #[.slice (some ⟨b,off,none⟩) ol oc, .string key, .agg (uV cx)] w (WithPost w B0 (withF o key x)):=by
 delta uV uP
 obtain ⟨i0,hi0,hz0,hz1,hz2⟩:=info_parts Yi
 have hlen:=ho.len
 have hcap:=ho.cap
 have hmax:=ho.max
 obtain ⟨cs,b2,off2,hcl,hab,hcell,hpf⟩:=ho.cells
 have HCELL:Hid (∀W,uB w W->∀j u,(cs.flatMap fcells)[j]? =some u->W.cell? ⟨b,off+j,none⟩=some u):=by
  intro W hW j u hj
  have hjl:=(List.getElem?_eq_some_iff.1 hj).1
  rw [Zk fcells 6 (fun _=>rfl),hcl, <-hlen] at hjl
  obtain ⟨e,hb2⟩:=hab (by omega)
  injection e with e;injection e with e1 e2
  subst e1 e2
  exact Zb hW (Z8 (hcell j u hj)).2 hb2
 obtain ⟨k,hk⟩:∃k,fieldK o key=k:=⟨_,rfl⟩
 rw [hk] at hke
 have hkl:k<=ol:=by rw [<-hk,hlen];exact Yz o key
 have hkl2:k<ol:=by rw [<-hk,hlen];exact Ys his
 have hkc:k<=cs.length:=by rw [hcl, <-hlen];exact hkl
 have hkc2:k+1<=cs.length:=by rw [hcl, <-hlen];omega
 have HF:Hid (∀W,uB w W->uP 75 #[.agg (uU 0 0 { data:= #[] } none 0 0 (some ⟨b,off,none⟩) ol oc), .string key] W fun e w'=>e= .returned (.tuple #[.int .i64 (k:Int), .bool true])/\uB W w'):=by
  intro W hW
  have hof:IsFields W W.heap.size o (some ⟨b,off,none⟩) ol oc:=(IsFields.keep (IsFields.sub (Zl (fun k=>B0<=k) w _) ho) hW).more hW.size
  have:=Yb W o key 0 0 { data:= #[] } none 0 0 (some ⟨b,off,none⟩) ol oc hof
  rw [hk,his] at this;exact this
 have hwf:withF o key x=o.take k++(key,x)::o.drop (k+1):=by rw [withF,his,hk];rfl
 rw [hwf]
 have HBX:=qh (BC.start w (uV cx) 36)
 have HAL:=qh ((Below.refl _ _).alloc (Nat.le_refl _) (.cells (uV cx) 36):uB w _)
 have HX:=qh hx
 have HPF:=qh hpf
 have HCL:=qh hcl
 have HLEN:=qh hlen
 obtain ⟨R,hR⟩:∃R,WithPost w B0 (o.take k++(key,x)::o.drop (k+1))=R:=⟨_,rfl⟩
 rw [hR]
 have HR:=qh hR
 obtain ⟨XA,hXA⟩:∃XA,(cs.take k).flatMap fcells=XA:=⟨_,rfl⟩
 obtain ⟨XB,hXB⟩:∃XB,(cs.drop (k+1)).flatMap fcells=XB:=⟨_,rfl⟩
 have hla:XA.length=k*6:=by rw [<-hXA,Zk fcells 6 (fun _=>rfl),List.length_take,Nat.min_eq_left hkc]
 have hlb:XB.length=(ol - (k+1))*6:=by rw [<-hXB,Zk fcells 6 (fun _=>rfl),List.length_drop,hcl, <-hlen]
 have HA1:Hid (∀u ∈ XA,u.oneCell'=true):=by unfold Hid;rw [<-hXA];exact Y0 _
 have HB1:Hid (∀u ∈ XB,u.oneCell'=true):=by unfold Hid;rw [<-hXB];exact Y0 _
 have HCA:Hid (∀W,uB w W->∀j u,XA[j]? =some u->W.cell? ((⟨b,off,none⟩:Addr).add j)=some u):=by
  intro W hW j u hj
  rw [<-hXA] at hj
  rw [Z0];exact HCELL.out W hW j u (Jt hj)
 have HCB:Hid (∀W,uB w W->∀j u,XB[j]? =some u->W.cell? ((⟨b,off+(k+1)*6,none⟩:Addr).add j)=some u):=by
  intro W hW j u hj
  rw [<-hXB] at hj
  rw [Z0,Nat.add_assoc];exact HCELL.out W hW _ u (Q1 hkc2 hj)
 have HXA:=qh hXA
 have HXB:=qh hXB
 clear ho hab hcell hk his hx hpf hcl hlen hwf hR hXA hXB hkc hkc2
 have hol:ol=k+1:=by omega
 have hoc:oc=k+1:=by omega
 cases hol;cases hoc
 go_enter Tryz.func72,Tryz.ntmps72
 go_wp2_with fail
 refine (HF.out _ HAL.out).mono ?_
 rintro e w1 ⟨rfl,hb1⟩
 have bl1:=HAL.out.trans (hb1.mono (by simp))
 have HBX1:=qh (HBX.out.keep hb1 (by simp))
 have zs1:w.heap.size<w1.heap.size:=HBX1.out.lt
 have HBL1:=qh bl1
 have ho1:w1.ownsRow (w.heap.size+1) 75 6 (.slice none 0 0) 0 [] :=⟨rfl, .inl ⟨rfl,rfl⟩⟩
 clear hb1 bl1
 go_wp2_with (first
  |(at_builtin;refine wpList_append_own _ rfl (.tmp 17) (.tmp 20) 34 (by rfl) (w.heap.size+1) 75 i0 _ 6 96 Tryz.underlying34 hi0 hz0 hz1 hz2 rfl (by omega) (.slice none 0 0) 0 [] (by rfl) ho1 ⟨b,off,none⟩ k (k+1) XA (by rfl) hla (HCA.out _ HBL1.out) HA1.out (by unfold maxLen;omega) (by omega) (by omega) ?_;intro v1 w2 hown1 hgrow1 _;have b12:Below (w.heap.size+1) w1 w2:=Zi hgrow1 (fun k hk=>by simp [Value.ownBlock] at hk) (by omega);have BX2:=HBX1.out.keep b12 (by omega);obtain ⟨x0,x1,x2,x3,x4⟩:=row5 BX2.at_;have zs2:=BX2.lt;have HBL2:=qh (HBL1.out.trans (b12.mono (by omega)));have HO1:=qh hown1;have hrl:∀g,v1.ownBlock=some g->w.heap.size+1<=g/\g<w2.heap.size:=hown1.lt;have ho2:=hown1.alloc (.cells #[.string key, .int .u8 cx.k, .int .i64 cx.n, .string cx.s, .slice cx.la cx.ll cx.lc, .slice cx.oa cx.ol cx.oc] 75);have hnw:∀j u,(fcells (key,cx))[j]? =some u->(w2.alloc (.cells #[.string key, .int .u8 cx.k, .int .i64 cx.n, .string cx.s, .slice cx.la cx.ll cx.lc, .slice cx.oa cx.ol cx.oc] 75)).cell? ((⟨w2.heap.size,0,none⟩:Addr).add j)=some u:=World.news_of_block (t:=75) (fr:=(0,0)) (heap_alloc_new w2 (.cells #[.string key, .int .u8 cx.k, .int .i64 cx.n, .string cx.s, .slice cx.la cx.ll cx.lc, .slice cx.oa cx.ol cx.oc] 75));have HNW:=qh hnw;clear hnw hown1 hgrow1 BX2 b12)
  |(at_builtin;refine wpList_append_own _ rfl (.tmp 22) (.tmp 26) 34 (by rfl) (w.heap.size+1) 75 i0 _ 6 96 Tryz.underlying34 hi0 hz0 hz1 hz2 rfl (by omega) v1 (0+k) ([] ++XA) (by rfl) ho2 ⟨w2.heap.size,0,none⟩ 1 1 (fcells (key,cx)) (by rfl) (by rfl) HNW.out (Xp key cx) (by unfold maxLen;omega) (by omega) (by simp;omega) ?_;intro v2 w4 hown2 hgrow2 _;have b24:Below (w.heap.size+1) w2 w4:=(((Below.refl w2.heap.size w2).alloc (Nat.le_refl _) (.cells #[.string key, .int .u8 cx.k, .int .i64 cx.n, .string cx.s, .slice cx.la cx.ll cx.lc, .slice cx.oa cx.ol cx.oc] 75)).mono (by omega)).trans (Zi hgrow2 (fun k hk=>(hrl k hk).1) (by simp;omega));have HBL4:=qh (HBL2.out.trans (b24.mono (by omega)));have zs4:w.heap.size<w4.heap.size:=Nat.lt_of_lt_of_le zs2 b24.size;have hrl2:∀g,v2.ownBlock=some g->w.heap.size+1<=g/\g<w4.heap.size:=hown2.lt;have HO2:=qh hown2;clear hgrow2 b24 hown2)
  |(at_builtin;refine wpList_append_own _ rfl (.tmp 31) (.tmp 34) 34 (by rfl) (w.heap.size+1) 75 i0 _ 6 96 Tryz.underlying34 hi0 hz0 hz1 hz2 rfl (by omega) v2 (0+k+1) ([] ++XA++fcells (key,cx)) (by rfl) HO2.out ⟨b,off,none⟩ 0 0 XB (by rfl) (by omega) (fun j u hj=>by rw [List.getElem?_eq_none (by omega)] at hj;cases hj) HB1.out (by unfold maxLen;omega) (by omega) (by omega) ?_;intro v3 w5 hown3 hgrow3 _;have b45:Below (w.heap.size+1) w4 w5:=Zi hgrow3 (fun k hk=>(hrl2 k hk).1) (by omega);have HBL5:=qh (HBL4.out.trans (b45.mono (by omega)));have HO3:=qh hown3;clear hgrow3 b45 hown3))
 rw [<-HR.out]
 have hcat: [] ++XA++fcells (key,cx)++XB=(cs.take k++(key,cx)::cs.drop (k+1)).flatMap fcells:=by rw [<-HXA.out, <-HXB.out];simp
 have hll:(o.take k++(key,x)::o.drop (k+1)).length=0+k+1+0:=by
  rw [List.length_append,List.length_cons,List.length_drop,List.length_take, <-HLEN.out,Nat.min_eq_left hkl];omega
 have hown:=HO3.out
 rw [hcat, <-hll] at hown
 have hlt3:=hown.lt
 have hsh:Shows (only (fun k=>B0<=k) w) (only (Free B0 v3) w5) w.heap.size:=Zd fun q hq hl=>⟨⟨hq,fun e=>by have:=(hlt3 q e.symm).1;omega⟩,HBL5.out.block q hl⟩
 obtain ⟨a,n,c,hv,hf,hz⟩:=Qq (B0:=B0) (B1:=w.heap.size+1) hown (by omega) (by rw [List.length_append,List.length_append,List.length_cons,List.length_cons,List.length_drop,List.length_drop,List.length_take,List.length_take,HCL.out])
  (PF.with_ HCL.out (fun i hi=>PF.closed o cs _ _ _ _ i hsh HBL5.out.size (HPF.out i hi)) ((HX.out.sub hsh).more HBL5.out.size) hks (by rw [<-HLEN.out];exact hkl) (by rw [<-HLEN.out];omega)) (by rw [hll];omega)
 exact ⟨⟨a,n,c,by rw [hv],hf,hz⟩,HBL5.out⟩
end Go.Proofs.YtnjgbiachcfigaaGreatDoor
