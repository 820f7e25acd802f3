/- Walks. -/
import Derived.Test.YtbgheehjfnoiiaaGreatDoorIu4
import Derived.Deep.RegionHeldLaw
namespace Go.Proofs.YtbgheehjfnoiiaaGreatDoor
open Go.RowKit
set_option maxRecDepth 100000
set_option maxHeartbeats 8000000
def stepP (v:V) (s:St):Option (V×Nat):=
 if s.list=true then (if v.kd=4/\0<=s.i/\s.i<v.ls.length then some (v.ls.getD s.i.toNat V.none,s.i.toNat) else none)
 else if v.kd=5/\fieldIs v.os s.key=true then some ((v.os.getD (fieldK v.os s.key) (.empty,V.none)).2,fieldK v.os s.key) else none
def getP:V->List St->Option V
 |v, [] =>some v
 | v,s::r=>match stepP v s with
   |none=>none
   |some q=>getP q.1 r
def putP:V->List St->V->Option V
 |_, [],x=>some x
 | v,s::r,x=>match stepP v s with
   |none=>none
   | some q=>match putP q.1 r x with
     |none=>none
     |some z=>some (if s.list=true then v.setL q.2 z else v.setO q.2 z)
theorem Y7 {v:V} {s:St} {x:V} {k:Nat} (h:stepP v s=some (x,k)):
 (s.list=true/\v.kd=4/\(k:Int)=s.i/\∃hk:k<v.ls.length,v.ls[k] =x)∨(s.list=false/\v.kd=5/\k=fieldK v.os s.key/\∃hk:k<v.os.length,v.os[k].2=x):=by
 unfold stepP at h;by_cases hl:s.list=true
 .rw [if_pos hl] at h;split at h
  .rename_i hc;injection h with h;injection h with h1 h2;have hk:k<v.ls.length:=by omega
   refine .inl ⟨hl,hc.1,by omega,hk, ?_⟩;subst h2;rw [<-h1];simp [List.getD_eq_getElem?_getD,hk]
  .cases h
 .rw [if_neg hl] at h;split at h
  .rename_i hc;injection h with h;injection h with h1 h2;have hk:k<v.os.length:=by rw [<-h2];exact Yf hc.2
   refine .inr ⟨by simpa using hl,hc.1,h2.symm,hk, ?_⟩;subst h2;rw [<-h1];simp [List.getD_eq_getElem?_getD,hk]
  .cases h
def CopyPost (w:World) (k n:Int) (s:ByteArray) (l:List V) (o:List (ByteArray×V)) (e:Ending) (w':World):Prop:=
 (∃a m c a' m' c' cl co,e= .returned (.agg #[.int .u8 k, .int .i64 n, .string s, .slice a m c, .slice a' m' c'])/\Fresh w' w.heap.size l o a m c a' m' c' cl co)/\Below w.heap.size w w'
structure CL1 (w wr:World) (c0:VC) (l:List V) (j:Nat) (a:Option Addr) (m c:Nat) (xs:List V) (cs:List VC):Prop where
 rd:l.take j=xs
 len:xs.length=j
 cen:cs.length=j
 box:BC wr w.heap.size (vcells c0)
 res:BC wr (w.heap.size+1) (vcells vzero)
 below:Below w.heap.size w wr
 row:RowV wr (w.heap.size+2) (.slice a m c) xs cs
theorem CL1.round {w wr w4 w6 w7:World} {c0:VC} {l:List V} {j:Nat} {a:Option Addr} {m c:Nat} {xs:List V} {cs:List VC} {x:V} {cx:VC} {g cap:Nat}
 (h:CL1 w wr c0 l j a m c xs cs) (hj:j<l.length) (hx:l[j] =x) (hb4:uB wr w4) (hI:IsVal (only (fun b=>wr.heap.size<=b) w4) w4.heap.size x cx) (hb6:uB w4 w6)
 (hown:w7.ownsRow (w.heap.size+2) 29 5 (.slice (some ⟨g,0,none⟩) (j+1) cap) (j+1) (cs.flatMap vcells++vcells cx)) (hg:w6.grownBy w7 (Value.slice a m c).ownBlock)
 (hat:(Value.slice a m c).ownBlock=some g∨w4.heap.size<=g):
 CL1 w w7 c0 l (j+1) (some ⟨g,0,none⟩) (j+1) cap (xs++ [x]) (cs++ [cx]):=by
 have hrow:=h.row.later (PV.closed xs cs) (.of_below 0 hb4) (by omega);have hrlt:∀b,(Value.slice a m c).ownBlock=some b->w.heap.size+2<=b/\b<wr.heap.size:=h.row.lt;have hsz:=h.box.lt;have hsr:=h.res.lt;have hsz4:=hb4.size;have hsz6:=hb6.size;have hgb:Below (w.heap.size+2) w6 w7:=Zi hg (fun b hb=>(hrlt b hb).1) (by omega);have hb67:Below (w.heap.size+2) w4 w7:=(hb6.mono (by omega)).trans hgb;obtain ⟨s1,s2⟩:=PV.snoc (l:=xs) (cs:=cs) (by rw [h.len,h.cen]) x cx;have hnew:PV (xs++ [x]) (cs++ [cx]) (only (Free (w.heap.size+2) (.slice a m c)) w4) w4.heap.size xs.length:=s1 _ _ (hI.sub (Zc fun b hb _=>⟨⟨by omega,fun e=>by have:=(hrlt b e.symm).2;omega⟩,rfl⟩));have hpush:=Row.push (PV.closed (xs++ [x]) (cs++ [cx])) hrow hb6 hg (u':= .slice (some ⟨g,0,none⟩) (j+1) cap) (news:=vcells cx) (by rw [h.len];exact hown) (by
  rcases hat with e|e
  .left;rw [e];rfl
  .right;intro b hb;have:g=b:=by simpa [Value.ownBlock] using hb
   omega) hnew s2
 refine ⟨?_,by simp [h.len],by simp [h.cen],(h.box.keep hb4 (by omega)).keep hb67 (by omega),(h.res.keep hb4 (by omega)).keep hb67 (by omega),(h.below.trans (hb4.mono (by omega))).trans (hb67.mono (by omega)), ?_⟩
 .rw [Z6 l j hj,h.rd,hx]
 .show Row _ _ _ _ _ _ _ _;rw [Yr,zze,List.length_singleton];exact hpush
structure CL2 (w1 wr:World) (o:List (ByteArray×V)) (j:Nat) (a:Option Addr) (m c:Nat) (xs:List (ByteArray×V)) (cs:List (ByteArray×VC)):Prop where
 rd:o.take j=xs
 len:xs.length=j
 cen:cs.length=j
 pos:0<w1.heap.size
 below:Below w1.heap.size w1 wr
 row:RowF wr w1.heap.size (.slice a m c) xs cs
theorem CL2.round {w1 wr w4 w6 w7:World} {o:List (ByteArray×V)} {j:Nat} {a:Option Addr} {m c:Nat} {xs:List (ByteArray×V)} {cs:List (ByteArray×VC)} {sk:ByteArray} {x:V} {cx:VC} {g cap:Nat}
 (h:CL2 w1 wr o j a m c xs cs) (hj:j<o.length) (hk:o[j].1=sk) (hx:o[j].2=x) (hks:sk.size<=140737488355328) (hb4:uB wr w4) (hI:IsVal (only (fun b=>wr.heap.size<=b) w4) w4.heap.size x cx) (hb6:uB w4 w6)
 (hown:w7.ownsRow w1.heap.size 62 6 (.slice (some ⟨g,0,none⟩) (j+1) cap) (j+1) (cs.flatMap fcells++fcells (sk,cx))) (hg:w6.grownBy w7 (Value.slice a m c).ownBlock)
 (hat:(Value.slice a m c).ownBlock=some g∨w4.heap.size<=g):
 CL2 w1 w7 o (j+1) (some ⟨g,0,none⟩) (j+1) cap (xs++ [(sk,x)]) (cs++ [(sk,cx)]):=by
 have hsz:=h.below.size;have hrow:=h.row.later (rb:=0) (PF.closed xs cs) (.of_below _ hb4) h.pos;have hrlt:∀b,(Value.slice a m c).ownBlock=some b->w1.heap.size<=b/\b<wr.heap.size:=h.row.lt;have hsz4:=hb4.size;have hsz6:=hb6.size;have hgb:Below w1.heap.size w6 w7:=Zi hg (fun b hb=>(hrlt b hb).1) (by omega);have hb67:Below w1.heap.size w4 w7:=(hb6.mono (by omega)).trans hgb;obtain ⟨s1,s2⟩:=PF.snoc (l:=xs) (cs:=cs) (by rw [h.len,h.cen]) sk hks x cx;have hnew:PF (xs++ [(sk,x)]) (cs++ [(sk,cx)]) (only (Free w1.heap.size (.slice a m c)) w4) w4.heap.size xs.length:=s1 _ _ (hI.sub (Zc fun b hb _=>⟨⟨by omega,fun e=>by have:=(hrlt b e.symm).2;omega⟩,rfl⟩));have hpush:=Row.push (PF.closed (xs++ [(sk,x)]) (cs++ [(sk,cx)])) hrow hb6 hg (u':= .slice (some ⟨g,0,none⟩) (j+1) cap) (news:=fcells (sk,cx)) (by rw [h.len];exact hown) (by
  rcases hat with e|e
  .left;rw [e];rfl
  .right;intro b hb;have:g=b:=by simpa [Value.ownBlock] using hb
   omega) hnew s2
 refine ⟨?_,by simp [h.len],by simp [h.cen],h.pos,(h.below.trans (hb4.mono (by omega))).trans hb67, ?_⟩
 .rw [Z6 o j hj,h.rd, <-hk, <-hx]
 .show Row _ _ _ _ _ _ _ _;rw [Yr,zze,List.length_singleton];exact hpush
theorem CL2.behind {w1 wr W:World} {o:List (ByteArray×V)} {j:Nat} {a:Option Addr} {m c:Nat} {xs:List (ByteArray×V)} {cs:List (ByteArray×VC)} (h:CL2 w1 wr o j a m c xs cs) (hb:uB wr W):CL2 w1 W o j a m c xs cs:=
 ⟨h.rd,h.len,h.cen,h.pos,h.below.trans (hb.mono h.below.size),h.row.later (rb:=0) (PF.closed xs cs) (.of_below _ hb) h.pos⟩
theorem ziu {w w1 wr W:World} {c0:VC} {l:List V} {o:List (ByteArray×V)} {j j':Nat} {a:Option Addr} {m c:Nat} {xs:List V} {cs:List VC} {a':Option Addr} {m' c':Nat} {xs':List (ByteArray×V)} {cs':List (ByteArray×VC)}
 (h1:CL1 w w1 c0 l j a m c xs cs) (h2:CL2 w1 wr o j' a' m' c' xs' cs') (hj:l.length<=j) (hj':o.length<=j') (few:l.length<=1466015503701) (few':o.length<=1466015503701) (hWs:wr.heap.size<=W.heap.size) (hWb:∀k,k<wr.heap.size->k≠w.heap.size->k≠w.heap.size+1->W.heap[k]? =wr.heap[k]?):Fresh W w.heap.size l o a m c a' m' c' cs cs':=by
 have e1:xs=l:=by rw [<-h1.rd,List.take_of_length_le hj]
 have e2:xs'=o:=by rw [<-h2.rd,List.take_of_length_le hj']
 have hl:=h1.len;have hl':=h2.len;have hc:=h1.cen;have hc':=h2.cen;subst e1 e2;have hsz:=h1.box.lt;have hsr:=h1.res.lt;have hlt1:∀b,(Value.slice a m c).ownBlock=some b->w.heap.size+2<=b/\b<w1.heap.size:=h1.row.lt;have hlt2:∀b,(Value.slice a' m' c').ownBlock=some b->w1.heap.size<=b/\b<wr.heap.size:=h2.row.lt;have hszr:=h2.below.size;have hkeep:∀k,k<w1.heap.size->w.heap.size+2<=k->W.heap[k]? =w1.heap[k]? :=fun k hk hne=>(hWb k (by omega) (by omega) (by omega)).trans (h2.below.block k hk);have o1:W.ownsRow (w.heap.size+2) 29 5 (.slice a m c) xs.length (cs.flatMap vcells):=by
  refine ⟨h1.row.own.1, ?_⟩;rcases h1.row.own.2 with hn|⟨g,cap,cur,e,hb,hg,rest⟩
  .exact .inl hn
  .have hgl:=(hlt1 g (by rw [e];rfl)).2;exact .inr ⟨g,cap,cur,e,hb,(hkeep g hgl hb).trans hg,rest⟩
 have o2:W.ownsRow w1.heap.size 62 6 (.slice a' m' c') xs'.length (cs'.flatMap fcells):=by
  refine ⟨h2.row.own.1, ?_⟩;rcases h2.row.own.2 with hn|⟨g,cap,cur,e,hb,hg,rest⟩
  .exact .inl hn
  .have hgl:=(hlt2 g (by rw [e];rfl)).2;exact .inr ⟨g,cap,cur,e,hb,(hWb g hgl (by omega) (by omega)).trans hg,rest⟩
 obtain ⟨_,_,q1,r1⟩:=OwnRow.of (base':=w.heap.size) o1 (by omega);obtain ⟨_,_,q2,r2⟩:=OwnRow.of (base':=w.heap.size) o2 (by omega);injection q1 with z1 z2 z3;injection q2 with z1' z2' z3';subst z1 z2 z3 z1' z2' z3';refine ⟨rfl,rfl,by omega,by omega,few,few',r1,r2,fun g e1 e2=> ?_,fun i hi=>PV.closed _ _ _ _ _ _ i (Zc fun k hk hlt=>⟨⟨by have:=hk.1;omega,hk.2,fun e=>by have:=(hlt2 k e.symm).1;omega⟩,hkeep k hlt hk.1⟩) (zzl hszr hWs) (h1.row.els i hi),fun i hi=>PF.closed _ _ _ _ _ _ i (Zc fun k hk hlt=>⟨⟨by have:=hk.1;omega,fun e=>by have:=(hlt1 k e.symm).2;have:=hk.1;omega,hk.2⟩,hWb k hlt (by have:=hk.1;omega) (by have:=hk.1;omega)⟩) hWs (h2.row.els i hi)⟩;have:=(hlt1 g e1).2;have:=(hlt2 g e2).1;omega
def StepPost (w0:World) (B0:Nat) (w:World) (r:Option (V×Nat)) (e:Ending) (w':World):Prop:=
 (match r with
  |some q=>∃c:VC,e= .returned (.tuple #[.agg #[.int .u8 c.k, .int .i64 c.n, .string c.s, .slice c.la c.ll c.lc, .slice c.oa c.ol c.oc], .int .i64 (q.2:Int), .int .i64 0])/\IsVal w0 B0 q.1 c
  |none=>e= .returned (.tuple #[.agg #[.int .u8 0, .int .i64 0, .string { data:= #[] }, .slice none 0 0, .slice none 0 0], .int .i64 0, .int .i64 30]))/\Below w.heap.size w w'
theorem zcw {tmps:Array Value} {W:World} {b:Nat} {c:VC} {x y:Value} (ht:tmps[4]? =some (.pointer (some ⟨b,0,none⟩))) (hx:tmps[5]? =some x) (hy:tmps[6]? =some y) (h:BC W b (vcells c)):
 (results Tryz.f104 tmps).run Tryz.prog W= .ok (.tuple #[.agg #[.int .u8 c.k, .int .i64 c.n, .string c.s, .slice c.la c.ll c.lc, .slice c.oa c.ol c.oc],x,y]) W:=by
 obtain ⟨r0,r1,r2,r3,r4⟩:=(⟨h.at_ 0 _ rfl,h.at_ 1 _ rfl,h.at_ 2 _ rfl,h.at_ 3 _ rfl,h.at_ 4 _ rfl⟩:W.cell? ⟨b,0,none⟩=some (.int .u8 c.k)/\W.cell? ⟨b,1,none⟩=some (.int .i64 c.n)/\W.cell? ⟨b,2,none⟩=some (.string c.s)/\W.cell? ⟨b,3,none⟩=some (.slice c.la c.ll c.lc)/\W.cell? ⟨b,4,none⟩=some (.slice c.oa c.ol c.oc));simp [results,Tryz.results104,go_sem,ht,hx,hy,r0,r1,r2,r3,r4]
theorem Qn {w0:World} {B0:Nat} {w W:World} {x:Act} (h:BC W (w.heap.size+1+1) (vcells vzero)) (hb:uB w W) (hd:x.defers= []) (ht:x.tmps[4]? =some (.pointer (some ⟨w.heap.size+1+1,0,none⟩))) (hx:x.tmps[5]? =some (.int .i64 0)) (hy:x.tmps[6]? =some (.int .i64 30)):
 bodyPost Tryz.prog Tryz.f104 (StepPost w0 B0 w none) .ret x W:=⟨hd,_,zcw ht hx hy h,rfl,hb⟩
theorem zbi {w0:World} {B0:Nat} {w W:World} {x:Act} {c:VC} {v:V} {k:Nat} (h:BC W (w.heap.size+1+1) (vcells c)) (hv:IsVal w0 B0 v c) (hb:uB w W) (hd:x.defers= []) (ht:x.tmps[4]? =some (.pointer (some ⟨w.heap.size+1+1,0,none⟩))) (hx:x.tmps[5]? =some (.int .i64 (k:Int))) (hy:x.tmps[6]? =some (.int .i64 0)):
 bodyPost Tryz.prog Tryz.f104 (StepPost w0 B0 w (some (v,k))) .ret x W:=⟨hd,_,zcw ht hx hy h,⟨c,rfl,hv⟩,hb⟩
structure SB (w W:World) (c:VC) (s:St):Prop where
 v:BC W w.heap.size (vcells c)
 s:BC W (w.heap.size+1) [.bool s.list, .int .i64 s.i, .string s.key]
 r:BC W (w.heap.size+1+1) (vcells vzero)
 below:Below w.heap.size w W
theorem SB.start (w:World) (c:VC) (s:St) (t1 t2 t3:TypeId):SB w (((w.alloc (.cells #[.int .u8 c.k, .int .i64 c.n, .string c.s, .slice c.la c.ll c.lc, .slice c.oa c.ol c.oc] t1)).alloc (.cells #[.bool s.list, .int .i64 s.i, .string s.key] t2)).alloc (.cells #[.int .u8 0, .int .i64 0, .string { data:= #[] }, .slice none 0 0, .slice none 0 0] t3)) c s:=by
 obtain ⟨w1,hw1⟩:∃w1,w.alloc (.cells (uV c) t1)=w1:=⟨_,rfl⟩;have s1:w1.heap.size=w.heap.size+1:=by rw [<-hw1,zzk]
 have b1:uB w w1:=by rw [<-hw1];exact (zzc _ _).alloc (zza _) _
 have c1:BC w1 w.heap.size (vcells c):=by rw [<-hw1];exact BC.start w (uV c) t1
 rw [hw1];obtain ⟨w2,hw2⟩:∃w2,w1.alloc (.cells #[.bool s.list, .int .i64 s.i, .string s.key] t2)=w2:=⟨_,rfl⟩;have s2:w2.heap.size=w.heap.size+1+1:=by rw [<-hw2,zzk,s1]
 have b2:uB w1 w2:=by rw [<-hw2];exact (zzc _ _).alloc (zza _) _
 have c2:=BC.start w1 #[.bool s.list, .int .i64 s.i, .string s.key] t2;rw [hw2,s1] at c2;rw [hw2];have b3:uB w2 (w2.alloc (.cells (uU 0 0 { data:= #[] } none 0 0 none 0 0) t3)):=(zzc _ _).alloc (zza _) _;have c3:=BC.start w2 (uU 0 0 { data:= #[] } none 0 0 none 0 0) t3;rw [s2] at c3;exact ⟨(c1.keep b2 (by omega)).keep b3 (by omega),c2.keep b3 (by omega),c3,(b1.trans (b2.mono (by omega))).trans (b3.mono (by omega))⟩
theorem SB.next {w W W':World} {c:VC} {s:St} (h:SB w W c s) (hb:uB W W'):SB w W' c s:=
 ⟨h.v.keep hb h.v.lt,h.s.keep hb h.s.lt,h.r.keep hb h.r.lt,h.below.trans (hb.mono (Nat.le_of_lt h.v.lt))⟩
theorem SB.stored {w W:World} {c:VC} {s:St} (h:SB w W c s) (d:VC):BC (((((W.setCell ⟨w.heap.size+1+1,0,none⟩ (.int .u8 d.k)).setCell ⟨w.heap.size+1+1,1,none⟩ (.int .i64 d.n)).setCell ⟨w.heap.size+1+1,2,none⟩ (.string d.s)).setCell ⟨w.heap.size+1+1,3,none⟩ (.slice d.la d.ll d.lc)).setCell ⟨w.heap.size+1+1,4,none⟩ (.slice d.oa d.ol d.oc)) (w.heap.size+1+1) (vcells d)/\uB w (((((W.setCell ⟨w.heap.size+1+1,0,none⟩ (.int .u8 d.k)).setCell ⟨w.heap.size+1+1,1,none⟩ (.int .i64 d.n)).setCell ⟨w.heap.size+1+1,2,none⟩ (.string d.s)).setCell ⟨w.heap.size+1+1,3,none⟩ (.slice d.la d.ll d.lc)).setCell ⟨w.heap.size+1+1,4,none⟩ (.slice d.oa d.ol d.oc)):=
 ⟨Zx h.r d,h.below.trans ((Zh W (w.heap.size+1+1) 0 d).below (Nat.le_of_lt h.r.lt)|>.mono (by omega))⟩
theorem zhf (w:World) (vk vn:Int) (vs:ByteArray) (la:Option Addr) (ll lc:Nat) (oa:Option Addr) (ol oc:Nat) (v:V) (w0:World) (B0:Nat) (hb0:Below B0 w0 w) (hB0:B0<=w.heap.size) (hv:IsVal w0 B0 v ⟨vk,vn,vs,la,ll,lc,oa,ol,oc⟩) (s:St) (hs:s.Bnd) (hl:s.list=true):
 uP 104 #[.agg (uU vk vn vs la ll lc oa ol oc), .agg #[.bool s.list, .int .i64 s.i, .string s.key]] w (StepPost w0 B0 w (stepP v s)):=by
 delta uU uP;obtain ⟨sl,si,sk⟩:=s;dsimp only at hl hs ⊢;subst hl;have hi0:=hs.i0;have hi1:=hs.i1;dsimp only at hi0 hi1;obtain ⟨k',n',s',l,o,rfl⟩:=v.eta;obtain ⟨ek,en,es,hbd,hvl,hvo⟩:=hv.lists;dsimp only at ek en es hbd hvl hvo;subst ek en es;have k1:=hvl.few;have k2:=hvl.max;have k3:=hvo.few;have k4:=hvo.max;have HL:=qh hvl;have HO:=qh hvo;have HLN:=qh hvl.len;have HON:=qh hvo.len;have HB:=qh (SB.start w ⟨vk,vn,vs,la,ll,lc,oa,ol,oc⟩ ⟨true,si,sk⟩ 29 82 29);obtain ⟨R,hR⟩:∃R,stepP (.mk vk vn vs l o) ⟨true,si,sk⟩=R:=⟨_,rfl⟩;rw [hR];clear hvl hvo hv hs hbd;by_cases h4:vk=4
 case neg=>
  have f0:(vk !=4)=true:=by simp [h4]
  obtain rfl:R=none:=by rw [<-hR];simp [stepP,V.kd];intro h;omega
  clear hR;go_enter Tryz.func104,Tryz.ntmps104
  generalize hQ0:bodyPost _ _ _=Q0;have HQ:=qh hQ0;clear hQ0;go_wp2_with fail;rw [<-HQ.out];exact Qn HB.out.r HB.out.below rfl rfl rfl rfl
 case pos=>
  cases h4
  by_cases h5:si<0
  .obtain rfl:R=none:=by rw [<-hR];simp [stepP];omega
   clear hR;go_enter Tryz.func104,Tryz.ntmps104
   generalize hQ0:bodyPost _ _ _=Q0;have HQ:=qh hQ0;clear hQ0;go_wp2_with fail;rw [<-HQ.out];exact Qn HB.out.r HB.out.below rfl rfl rfl rfl
  .by_cases h6:(ll:Int)<=si
   .obtain rfl:R=none:=by rw [<-hR];simp [stepP,V.ls,V.kd];have:=HLN.out;omega
    clear hR;go_enter Tryz.func104,Tryz.ntmps104
    generalize hQ0:bodyPost _ _ _=Q0;have HQ:=qh hQ0;clear hQ0;go_wp2_with fail;rw [<-HQ.out];exact Qn HB.out.r HB.out.below rfl rfl rfl rfl
   .obtain ⟨j,rfl⟩:∃j:Nat,si=j:=⟨si.toNat,by omega⟩;have hj:j<ll:=by omega
    obtain ⟨b,q,f,hp,rfl,hbB,hvf,hI⟩:=HL.out.get hj;have hvf:=hvf.keep hb0 hbB;have c0:=hvf.c0;have c1:=hvf.c1;have c2:=hvf.c2;have c3:=hvf.c3;have c4:=hvf.c4;have hbw:b<w.heap.size:=zzj hbB hB0;obtain rfl:R=some (l[j],j):=by rw [<-hR];simp [stepP,V.ls,V.kd,hp]
    have HI:=qh hI;clear hR hI hvf;go_enter Tryz.func104,Tryz.ntmps104
    generalize hQ0:bodyPost _ _ _=Q0;have HQ:=qh hQ0;clear hQ0;go_wp2_with fail;have B:=HB.out;obtain ⟨W,hW⟩:∃W,(((w.alloc (.cells (uU 4 vn vs (some ⟨b,q,none⟩) ll lc oa ol oc) 29)).alloc (.cells #[.bool true, .int .i64 j, .string sk] 82)).alloc (.cells (uU 0 0 { data:= #[] } none 0 0 none 0 0) 29))=W:=⟨_,rfl⟩;rw [hW] at B ⊢;clear HB;obtain ⟨v0,v1,v2,v3,v4⟩:=row5 B.v.at_;have s0:=B.s.at_ 0 _ rfl;have s1:=B.s.at_ 1 _ rfl;have s2:=B.s.at_ 2 _ rfl;obtain ⟨r0,r1,r2,r3,r4⟩:=row5 B.r.at_;have f0:=B.r.fr 0;have f1:=B.r.fr 1;have f2:=B.r.fr 2;have f3:=B.r.fr 3;have f4:=B.r.fr 4;have zs0:=B.v.lt;have zs1:=B.s.lt;have zs2:=B.r.lt;have hkp:∀o u,w.cell? ⟨b,o,none⟩=some u->b<w.heap.size->W.cell? ⟨b,o,none⟩=some u:=fun o u h hb=>Zb B.below h hb;have c0:=hkp _ _ c0 hbw;have c1:=hkp _ _ c1 hbw;have c2:=hkp _ _ c2 hbw;have c3:=hkp _ _ c3 hbw;have c4:=hkp _ _ c4 hbw;have hbw:b<W.heap.size:=by have:=B.below.size;omega
    have HBB:=qh B;clear B hkp
    go_region
    go_wp2_with fail;rw [<-HQ.out]
    have ST:=HBB.out.stored f;exact zbi (k:=j) (ST.1.keep (Zf _) ST.1.lt) HI.out ST.2.drew rfl rfl rfl rfl
theorem znu (w:World) (vk vn:Int) (vs:ByteArray) (la:Option Addr) (ll lc:Nat) (oa:Option Addr) (ol oc:Nat) (v:V) (w0:World) (B0:Nat) (hb0:Below B0 w0 w) (hB0:B0<=w.heap.size) (hv:IsVal w0 B0 v ⟨vk,vn,vs,la,ll,lc,oa,ol,oc⟩) (s:St) (hs:s.Bnd) (hl:s.list=false):
 uP 104 #[.agg (uU vk vn vs la ll lc oa ol oc), .agg #[.bool s.list, .int .i64 s.i, .string s.key]] w (StepPost w0 B0 w (stepP v s)):=by
 delta uU uP;obtain ⟨sl,si,sk⟩:=s;dsimp only at hl hs ⊢;subst hl;have hi0:=hs.i0;have hi1:=hs.i1;dsimp only at hi0 hi1;obtain ⟨k',n',s',l,o,rfl⟩:=v.eta;obtain ⟨ek,en,es,hbd,hvl,hvo⟩:=hv.lists;dsimp only at ek en es hbd hvl hvo;subst ek en es;have k1:=hvl.few;have k2:=hvl.max;have k3:=hvo.few;have k4:=hvo.max;have HL:=qh hvl;have HO:=qh hvo;have HLN:=qh hvl.len;have HON:=qh hvo.len;have HB:=qh (SB.start w ⟨vk,vn,vs,la,ll,lc,oa,ol,oc⟩ ⟨false,si,sk⟩ 29 82 29);obtain ⟨R,hR⟩:∃R,stepP (.mk vk vn vs l o) ⟨false,si,sk⟩=R:=⟨_,rfl⟩;rw [hR];clear hvl hvo hv hs hbd;have HF:Hid (∀W,uB w W->uP 103 #[.agg (uU vk vn vs la ll lc oa ol oc), .string sk] W fun e w'=>e= .returned (.tuple #[.int .i64 (fieldK o sk:Int), .bool (fieldIs o sk)])/\uB W w'):=fun W hW=>Yu W o sk vk vn vs la ll lc oa ol oc (((HO.out.keep hb0).more hB0).later_ hW);obtain ⟨K,hK⟩:∃K,fieldK o sk=K:=⟨_,rfl⟩;obtain ⟨is,hi⟩:∃is,fieldIs o sk=is:=⟨_,rfl⟩;rw [hK,hi] at HF;by_cases h4:vk=5
 case neg=>
  have f0:(vk !=5)=true:=by simp [h4]
  clear hK hi;obtain rfl:R=none:=by rw [<-hR];simp [stepP,V.kd,h4]
  clear hR;go_enter Tryz.func104,Tryz.ntmps104
  generalize hQ0:bodyPost _ _ _=Q0;have HQ:=qh hQ0;clear hQ0;go_wp2_with fail;refine (HF.out _ HB.out.below).mono ?_;rintro e W ⟨rfl,hb1⟩;have B:=HB.out.next hb1;obtain ⟨v0,v1,v2,v3,v4⟩:=row5 B.v.at_;have s0:=B.s.at_ 0 _ rfl;have s1:=B.s.at_ 1 _ rfl;have s2:=B.s.at_ 2 _ rfl;obtain ⟨r0,r1,r2,r3,r4⟩:=row5 B.r.at_;have f0:=B.r.fr 0;have f1:=B.r.fr 1;have f2:=B.r.fr 2;have f3:=B.r.fr 3;have f4:=B.r.fr 4;have zs0:=B.v.lt;have zs1:=B.s.lt;have zs2:=B.r.lt;have HBB:=qh B;clear B hb1;go_wp2_with fail;rw [<-HQ.out];have ST:=HBB.out.stored ⟨0,0, { data:= #[] },none,0,0,none,0,0⟩;exact Qn ST.1 ST.2 rfl rfl rfl rfl
 case pos=>
  cases h4
  cases is with
  | false=>
    clear hK;obtain rfl:R=none:=by rw [<-hR];simp [stepP,V.os,hi]
    clear hR hi;go_enter Tryz.func104,Tryz.ntmps104
    generalize hQ0:bodyPost _ _ _=Q0;have HQ:=qh hQ0;clear hQ0;go_wp2_with fail;refine (HF.out _ HB.out.below).mono ?_;rintro e W ⟨rfl,hb1⟩;have B:=HB.out.next hb1;obtain ⟨v0,v1,v2,v3,v4⟩:=row5 B.v.at_;have s0:=B.s.at_ 0 _ rfl;have s1:=B.s.at_ 1 _ rfl;have s2:=B.s.at_ 2 _ rfl;obtain ⟨r0,r1,r2,r3,r4⟩:=row5 B.r.at_;have f0:=B.r.fr 0;have f1:=B.r.fr 1;have f2:=B.r.fr 2;have f3:=B.r.fr 3;have f4:=B.r.fr 4;have zs0:=B.v.lt;have zs1:=B.s.lt;have zs2:=B.r.lt;have HBB:=qh B;clear B hb1;go_wp2_with fail;rw [<-HQ.out];have ST:=HBB.out.stored ⟨0,0, { data:= #[] },none,0,0,none,0,0⟩;exact Qn ST.1 ST.2 rfl rfl rfl rfl
  | true=>
    have hj:K<ol:=by have:=Yf hi;rw [hK, <-HON.out] at this;exact this
    obtain ⟨b,q,f,hp,rfl,hbB,_,_,hvf,hI⟩:=HO.out.get hj;obtain rfl:R=some (o[K].2,K):=by rw [<-hR];simp [stepP,V.kd,V.os,hK,hi,hp]
    have HI:=qh hI;have HVF:=qh hvf;clear hR hI hvf hK hi;go_enter Tryz.func104,Tryz.ntmps104
    generalize hQ0:bodyPost _ _ _=Q0;have HQ:=qh hQ0;clear hQ0;go_wp2_with fail;refine (HF.out _ HB.out.below).mono ?_;rintro e W ⟨rfl,hb1⟩;have B:=HB.out.next hb1;obtain ⟨v0,v1,v2,v3,v4⟩:=row5 B.v.at_;have s0:=B.s.at_ 0 _ rfl;have s1:=B.s.at_ 1 _ rfl;have s2:=B.s.at_ 2 _ rfl;obtain ⟨r0,r1,r2,r3,r4⟩:=row5 B.r.at_;have f0:=B.r.fr 0;have f1:=B.r.fr 1;have f2:=B.r.fr 2;have f3:=B.r.fr 3;have f4:=B.r.fr 4;have zs0:=B.v.lt;have zs1:=B.s.lt;have zs2:=B.r.lt;have hbw:b<w.heap.size:=zzj hbB hB0;have hvf:=((HVF.out.keep hb0 hbB).keep HB.out.below hbw).keep hb1 (by have:=HB.out.below.size;omega);have c0:=hvf.c0;have c1:=hvf.c1;have c2:=hvf.c2;have c3:=hvf.c3;have c4:=hvf.c4;have hbw:b<W.heap.size:=zzi W _ c0;have HBB:=qh B;clear B hb1 hvf;go_wp2_with fail;rw [<-HQ.out];have ST:=HBB.out.stored f;exact zbi (k:=K) ST.1 HI.out ST.2 rfl rfl rfl rfl
theorem zae (w:World) (vk vn:Int) (vs:ByteArray) (la:Option Addr) (ll lc:Nat) (oa:Option Addr) (ol oc:Nat) (v:V) (w0:World) (B0:Nat) (hb0:Below B0 w0 w) (hB0:B0<=w.heap.size) (hv:IsVal w0 B0 v ⟨vk,vn,vs,la,ll,lc,oa,ol,oc⟩) (s:St) (hs:s.Bnd):
 uP 104 #[.agg (uU vk vn vs la ll lc oa ol oc), .agg #[.bool s.list, .int .i64 s.i, .string s.key]] w (StepPost w0 B0 w (stepP v s)):=by
 delta uU uP
 cases hl:s.list with
 |true=>have:=zhf w vk vn vs la ll lc oa ol oc v w0 B0 hb0 hB0 hv s hs hl;rw [hl] at this;exact this
 |false=>have:=znu w vk vn vs la ll lc oa ol oc v w0 B0 hb0 hB0 hv s hs hl;rw [hl] at this;exact this
def NewVal (w:World) (x:V) (e:Ending) (w':World):Prop:=
 (∃c:VC,e= .returned (.agg #[.int .u8 c.k, .int .i64 c.n, .string c.s, .slice c.la c.ll c.lc, .slice c.oa c.ol c.oc])/\IsVal (only (fun b=>w.heap.size<=b) w') w'.heap.size x c)/\Below w.heap.size w w'
def CopyIH (x:V):Prop:=∀(W:World) (c:VC),IsVal W W.heap.size x c->Calls Tryz.prog 37 #[.agg #[.int .u8 c.k, .int .i64 c.n, .string c.s, .slice c.la c.ll c.lc, .slice c.oa c.ol c.oc]] W (NewVal W x)
theorem CL.start (w:World) (c0:VC) (t1 t2:TypeId) (l:List V):CL1 w ((w.alloc (.cells #[.int .u8 c0.k, .int .i64 c0.n, .string c0.s, .slice c0.la c0.ll c0.lc, .slice c0.oa c0.ol c0.oc] t1)).alloc (.cells #[.int .u8 0, .int .i64 0, .string { data:= #[] }, .slice none 0 0, .slice none 0 0] t2)) c0 l 0 none 0 0 [] [] :=by refine ⟨rfl,rfl,rfl,(BC.start w (uV c0) t1).keep ((zzc _ _).alloc (zza _) _) (by simp), ?_,((zzc _ _).alloc (zza _) _).alloc (by simp) _,Row.nil _ _ _ _ _⟩;have:=BC.start (w.alloc (.cells (uV c0) t1)) #[.int .u8 0, .int .i64 0, .string { data:= #[] }, .slice none 0 0, .slice none 0 0] t2;rw [zzk] at this;exact this
theorem zna {tmps:Array Value} {W:World} {b:Nat} {c:VC} (ht:tmps[2]? =some (.pointer (some ⟨b,0,none⟩))) (h:BC W b (vcells c)):
 (results Tryz.f37 tmps).run Tryz.prog W= .ok (.agg #[.int .u8 c.k, .int .i64 c.n, .string c.s, .slice c.la c.ll c.lc, .slice c.oa c.ol c.oc]) W:=by
 obtain ⟨r0,r1,r2,r3,r4⟩:=(⟨h.at_ 0 _ rfl,h.at_ 1 _ rfl,h.at_ 2 _ rfl,h.at_ 3 _ rfl,h.at_ 4 _ rfl⟩:W.cell? ⟨b,0,none⟩=some (.int .u8 c.k)/\W.cell? ⟨b,1,none⟩=some (.int .i64 c.n)/\W.cell? ⟨b,2,none⟩=some (.string c.s)/\W.cell? ⟨b,3,none⟩=some (.slice c.la c.ll c.lc)/\W.cell? ⟨b,4,none⟩=some (.slice c.oa c.ol c.oc));simp [results,Tryz.results37,go_sem,ht,r0,r1,r2,r3,r4]
theorem zow {w W:World} {k n:Int} {s:ByteArray} {l:List V} {o:List (ByteArray×V)} {a:Option Addr} {m c:Nat} {a':Option Addr} {m' c':Nat} {cl:List VC} {co:List (ByteArray×VC)} {x:Act}
 (h:BC W (w.heap.size+1) (vcells ⟨k,n,s,a,m,c,a',m',c'⟩)) (hf:Fresh W w.heap.size l o a m c a' m' c' cl co) (hb:uB w W) (hd:x.defers= []) (ht:x.tmps[2]? =some (.pointer (some ⟨w.heap.size+1,0,none⟩))):
 bodyPost Tryz.prog Tryz.f37 (CopyPost w k n s l o) .ret x W:=
 ⟨hd,_,zna ht h,⟨_,_,_,_,_,_,_,_,rfl,hf⟩,hb⟩
theorem zd2 (l:List V) (o:List (ByteArray×V)) (IHl:∀x ∈ l,CopyIH x) (IHo:∀x ∈ o,CopyIH x.2) (w:World) (k n:Int) (s:ByteArray) (la:Option Addr) (ll lc:Nat) (oa:Option Addr) (ol oc:Nat) (h1:IsVals w w.heap.size l la ll lc) (h2:IsFields w w.heap.size o oa ol oc):
 uP 37 #[.agg (uU k n s la ll lc oa ol oc)] w (CopyPost w k n s l o):=by
 delta uU uP;obtain ⟨i0,hi0,hz0,hz1,hz2⟩:=info_parts Yo;obtain ⟨j0,hj0,hy0,hy1,hy2⟩:=info_parts Yn;have k1:=h1.few;have k2:=h1.max;have k3:=h2.few;have k4:=h2.max;have HLN:=qh h1.len;have HON:=qh h2.len;have HL:=qh h1;have HO:=qh h2;have HIL:=qh IHl;have HIO:=qh IHo;have HST:=qh (CL.start w ⟨k,n,s,la,ll,lc,oa,ol,oc⟩ 29 29 l);clear h1 h2 IHl IHo;go_enter Tryz.func37,Tryz.ntmps37
 generalize hQ0:bodyPost _ _ _=Q0;have HQ:=qh hQ0;clear hQ0;go_wp2_with fail
 go_loopw [3,4] (fun u i wr=>∃(j:Nat) (a:Option Addr) (m c:Nat) (xs:List V) (cs:List VC),j<=ll/\i= .int .i64 j/\u= .slice a m c/\CL1 w wr ⟨k,n,s,la,ll,lc,oa,ol,oc⟩ l j a m c xs cs) (fun _ i _=>ll - (intOf i).toNat)
 case atStart=>exact ⟨0,none,0,0, [], [],Nat.zero_le _,rfl,rfl,HST.out⟩
 case round =>
  obtain ⟨j,a,m,c,xs,cs,hj,rfl,rfl,L⟩:=hrel;obtain ⟨b0,b1,b2,b3,b4⟩:=row5 L.box.at_;have g0:=L.box.fr 3;have g1:=L.box.fr 4;have zs0:=L.box.lt;have zs1:=L.res.lt;by_cases hlt:j<ll
  .obtain ⟨b,q,f,hp,rfl,hbB,hv,hI⟩:=(HL.out.keep L.below).get hlt;have c0:=hv.c0;have c1:=hv.c1;have c2:=hv.c2;have c3:=hv.c3;have c4:=hv.c4;have hbw:b<wr.heap.size:=zzi wr _ c0;have HC:Hid (uP 37 #[.agg (uV f)] wr (NewVal wr l[j])):=HIL.out l[j] (List.getElem_mem hp) wr f (hI.more L.below.size);have LL:=qh L;clear L hv hI;go_wp2_with fail;refine HC.out.mono ?_;rintro e w4 ⟨⟨cx,rfl,hI4⟩,hb4⟩;have L:=LL.out;have hrow:RowV w4 (w.heap.size+2) (.slice a m c) xs cs:=L.row.later (PV.closed xs cs) (.of_below 0 hb4) (by omega);have ho4:=hrow.own;rw [L.len] at ho4;have hsz4:=hb4.size;have HI4:=qh hI4;have HB4:=qh hb4;clear L hrow hI4 hb4;go_wp2_with (at_builtin;refine wpList_append_lies _ rfl (.tmp 14) (.tmp 21) 26 (by rfl) (w.heap.size+2) 29 i0 _ 5 80 Tryz.underlying26 hi0 hz0 hz1 hz2 rfl (by omega) (.slice a m c) j (cs.flatMap vcells) (by rfl) (ho4.alloc _) ⟨w4.heap.size,0,none⟩ 1 1 (vcells cx) (by rfl) (by rfl) (World.news_of_block (t:=29) (fr:=(0,0)) (heap_alloc_new w4 (.cells (uV cx) 29))) (by simp [vcells,Value.oneCell']) (by omega) (by unfold maxLen;omega) (by omega) (by simp;omega) (w4.heap.size+1) (by simp) ?_;intro g cap w7 hown7 hgrow7 hat7 hlt7)
   go_roundw
   case rel=>exact ⟨j+1,some ⟨g,0,none⟩,j+1,cap,xs++ [l[j]],cs++ [cx],by omega,by go_num,rfl,LL.out.round hp rfl HB4.out HI4.out ((zzc _ _).alloc (zza _) _) hown7 hgrow7 (hat7.imp_right fun e=>by omega)⟩
   case measure=>simp [intOf];omega
  .have hjn:j=ll:=by omega
   subst hjn;obtain ⟨w1,hw1⟩:∃w1,w1=wr:=⟨_,rfl⟩;subst hw1;have LL:=qh L;clear L;go_wp2_with fail
   go_loopw [5,6] (fun u i wr=>∃(i':Nat) (a':Option Addr) (m' c':Nat) (xs':List (ByteArray×V)) (cs':List (ByteArray×VC)),i'<=ol/\i= .int .i64 i'/\u= .slice a' m' c'/\CL2 w1 wr o i' a' m' c' xs' cs') (fun _ i _=>ol - (intOf i).toNat)
   case atStart=>exact ⟨0,none,0,0, [], [],Nat.zero_le _,rfl,rfl,⟨rfl,rfl,rfl,by omega,zzc _ _,Row.nil _ _ _ _ _⟩⟩
   case round=>
    obtain ⟨i',a',m',c',xs',cs',hi',rfl,rfl,L⟩:=hrel;have zs9:=LL.out.below.size;have zs8:=LL.out.box.lt;have zt9:=L.below.size;have BX:=LL.out.box.keep L.below zs0;have BR:=LL.out.res.keep L.below zs1;obtain ⟨b0,b1,b2,b3,b4⟩:=row5 BX.at_;obtain ⟨r0,r1,r2,r3,r4⟩:=row5 BR.at_;have g0:=BX.fr 3;have g1:=BX.fr 4;have f0:=BR.fr 0;have f1:=BR.fr 1;have f2:=BR.fr 2;have f3:=BR.fr 3;have f4:=BR.fr 4;have zs0:=BX.lt;have zs1:=BR.lt;have HBX:=qh BX;have HBR:=qh BR;clear BX BR;by_cases hlt:i'<ol
    .obtain ⟨b,q,f,hp,rfl,hbB,hkey,hks,hv,hI⟩:=((HO.out.keep LL.out.below).keep (L.below.mono zs9)).get hlt;have c0:=hv.c0;have c1:=hv.c1;have c2:=hv.c2;have c3:=hv.c3;have c4:=hv.c4;have hbw:b<wr.heap.size:=zzi wr _ hkey;obtain ⟨sk,hsk⟩:∃sk,o[i'].1=sk:=⟨_,rfl⟩;rw [hsk] at hkey hks;have HSK:=qh hsk;have HC:Hid (uP 37 #[.agg (uV f)] wr.drew (NewVal wr.drew o[i'].2)):=HIO.out o[i'] (List.getElem_mem hp) wr.drew f ((hI.keep ((Zf wr).mono (by omega))).more (by show w.heap.size<=wr.heap.size;omega));have HFO:Hid (∀W,Below wr.drew.heap.size wr.drew W->W.ownsRow w1.heap.size 62 6 (.slice a' m' c') i' (cs'.flatMap fcells)/\wr.heap.size<=W.heap.size):=by intro W hW;have ho:=((L.row.later (rb:=0) (PF.closed xs' cs') (.of_below _ (Zf wr)) (by omega)).later (rb:=0) (PF.closed xs' cs') (.of_below _ hW) (by omega)).own;rw [L.len] at ho;exact ⟨ho,hW.size⟩
     have HFB:Hid (∀W,Below w1.heap.size wr.drew W->W.cell? ⟨w.heap.size,4,none⟩=some (.slice (some ⟨b,q,none⟩) ol oc)/\W.cell? ⟨b,q+i'*6,none⟩=some (.string sk)/\W.cell? ⟨b,q+i'*6+1,none⟩=some (.int .u8 f.k)/\W.cell? ⟨b,q+i'*6+1+1,none⟩=some (.int .i64 f.n)/\W.cell? ⟨b,q+i'*6+1+2,none⟩=some (.string f.s)/\W.cell? ⟨b,q+i'*6+1+3,none⟩=some (.slice f.la f.ll f.lc)/\W.cell? ⟨b,q+i'*6+1+4,none⟩=some (.slice f.oa f.ol f.oc)):=by intro W hW;have hk:∀b o u,b<w1.heap.size->wr.cell? ⟨b,o,none⟩=some u->W.cell? ⟨b,o,none⟩=some u:=fun b o u hb h=>Zb hW (Zb (Zf wr) h (by omega)) hb;exact ⟨hk _ _ _ zs8 b4,hk _ _ _ (by omega) hkey,hk _ _ _ (by omega) c0,hk _ _ _ (by omega) c1,hk _ _ _ (by omega) c2,hk _ _ _ (by omega) c3,hk _ _ _ (by omega) c4⟩
     have hrlt:∀g,(Value.slice a' m' c').ownBlock=some g->w1.heap.size<=g:=fun g hg=>(L.row.lt g hg).1;have LM:=qh L;clear L hv hI hsk;go_wp2_with fail;refine wp_region_noPanic ?_;go_region_held_law (fun W=>W.cell? ⟨w.heap.size,4,none⟩=some (.slice (some ⟨b,q,none⟩) ol oc)/\W.cell? ⟨b,q+i'*6,none⟩=some (.string sk)/\W.cell? ⟨b,q+i'*6+1,none⟩=some (.int .u8 f.k)/\W.cell? ⟨b,q+i'*6+1+1,none⟩=some (.int .i64 f.n)/\W.cell? ⟨b,q+i'*6+1+2,none⟩=some (.string f.s)/\W.cell? ⟨b,q+i'*6+1+3,none⟩=some (.slice f.la f.ll f.lc)/\W.cell? ⟨b,q+i'*6+1+4,none⟩=some (.slice f.oa f.ol f.oc))
      (first|exact HFB.out _ (zzc _ _)|exact HFB.out _ (hb4.mono zt9)|exact HFB.out _ ((hb4.mono zt9).alloc (zzl zt9 hb4.size) _)|exact HFB.out _ hb5)
      (first
       |(go_at_call 37;refine (HC.out).mono ?_;rintro e w4 ⟨⟨cx,rfl,hI4⟩,hb4⟩;obtain ⟨ho4,hz4⟩:=HFO.out w4 hb4)
       |(refine step_append_lies _ (by rfl) _ _ _ (by rfl) w1.heap.size 62 j0 _ 6 96 (by kernel_rfl) hj0 hy0 hy1 hy2 rfl (by omega) (.slice a' m' c') i' (cs'.flatMap fcells) (by rfl) (ho4.alloc _) ⟨w4.heap.size,0,none⟩ 1 1 (fcells (sk,cx)) (by rfl) (by rfl) (World.news_of_block (t:=62) (fr:=(0,0)) (heap_alloc_new w4 _)) (by simp [fcells,Value.oneCell']) (by omega) (by unfold maxLen;omega) (by omega) (by simp;omega) (w4.heap.size+1) (by simp) ?_;intro g cap w5 hown5 hgrow5 hat5 hlt5;have hb5:=((hb4.mono zt9).alloc (zzl zt9 hb4.size) _).trans (Zi hgrow5 hrlt (by simp;omega))))
     all_goals
      refine NoPanic.normal ?_;go_wp2_with fail;go_roundw
      case rel=>exact ⟨i'+1,some ⟨g,0,none⟩,i'+1,cap,xs'++ [(sk,o[i'].2)],cs'++ [(sk,cx)],by omega,by go_num,rfl,(LM.out.behind (Zf wr)).round hp HSK.out rfl hks hb4 hI4 ((zzc _ _).alloc (zza _) _) hown5 hgrow5 (hat5.imp_right fun e=>by omega)⟩
      case measure=>simp [intOf];omega
    .have hin:i'=ol:=by omega
     subst hin;have LM:=qh L;clear L;go_wp2_with fail;rw [<-HQ.out];have W1:=RStep.self (W:=wr) (b:=w.heap.size) (o:=3) (x:= .slice a m c);have W2:=W1.trans (RStep.self (o:=4) (x:= .slice a' m' c'));have W3:=Zh ((wr.setCell ⟨w.heap.size,3,none⟩ (.slice a m c)).setCell ⟨w.heap.size,4,none⟩ (.slice a' m' c')) (w.heap.size+1) 0 ⟨k,n,s,a,m,c,a',m',c'⟩;have hbw:uB w wr:=LL.out.below.trans (LM.out.below.mono zs9);have hfin:=Zx ((HBR.out.far (o:=3) (x:= .slice a m c) (show w.heap.size+1≠w.heap.size by omega)).far (o:=4) (x:= .slice a' m' c') (show w.heap.size+1≠w.heap.size by omega)) ⟨k,n,s,a,m,c,a',m',c'⟩;exact zow hfin (ziu LL.out LM.out (by rw [<-HLN.out];omega) (by rw [<-HON.out];omega) (by rw [<-HLN.out];omega) (by rw [<-HON.out];omega) (zzl W2.size W3.size) (fun q hq h1 h2=>(W3.block q (zzj hq W2.size) h2).trans (W2.block q hq h1))) ((hbw.trans (W2.below (by omega)|>.mono (by omega))).trans (W3.below (by have:=W2.size;omega)|>.mono (by omega))) rfl rfl
theorem Fresh.new {w:World} {v:V} {c0:VC} (h:IsVal w w.heap.size v c0) {e:Ending} {w':World} (hc:CopyPost w c0.k c0.n c0.s v.ls v.os e w'):NewVal w v e w':=by obtain ⟨k,n,s,l,o,rfl⟩:=v.eta;obtain ⟨rfl,rfl,rfl,hb,_,_⟩:=h.lists;obtain ⟨⟨a,m,c,a',m',c',cl,co,rfl,hf⟩,hbl⟩:=hc;exact ⟨⟨⟨c0.k,c0.n,c0.s,a,m,c,a',m',c'⟩,rfl,hf.val hb.k0 hb.k1 hb.n0 hb.n1 hb.s1⟩,hbl⟩
theorem Ym (v:V):CopyIH v:=by
 induction v using V.ind with
 | h k n s l o ihl iho=>intro W c h;obtain ⟨rfl,rfl,rfl,hb,h1,h2⟩:=h.lists;exact (zd2 l o ihl iho W c.k c.n c.s c.la c.ll c.lc c.oa c.ol c.oc h1 h2).mono fun e w' hc=>Fresh.new h hc
theorem zap (w:World) (v:V) (vk vn:Int) (vs:ByteArray) (la:Option Addr) (ll lc:Nat) (oa:Option Addr) (ol oc:Nat) (h:IsVal w w.heap.size v ⟨vk,vn,vs,la,ll,lc,oa,ol,oc⟩):
 uP 37 #[.agg (uU vk vn vs la ll lc oa ol oc)] w (CopyPost w vk vn vs v.ls v.os):=by
 delta uU uP;obtain ⟨k,n,s,l,o,rfl⟩:=v.eta;obtain ⟨_,_,_,_,h1,h2⟩:=h.lists;exact zd2 l o (fun x _=>Ym x) (fun x _=>Ym x.2) w vk vn vs la ll lc oa ol oc h1 h2
theorem zfm {P:Program} (w:World) (base:Nat) (t ty e:TypeId) (i:TypeInfo) (size:Nat) (ht:P.underlying t=some (.slice e)) (hi:P.info? e=some i)
 (v:Value) (n:Nat) (xs:List Value) (hown:w.ownsRow base e size v n xs):
 (Builtin.append_ #[t,t] ty #[v, .slice none 0 0]).run P w= .ok v w:=by
 rcases hown.2 with ⟨rfl,rfl⟩|⟨g,cap,cur,rfl,hbg,hg,hnc,hcm,hcs,htake⟩
 .simp [Builtin.append_,run_underlying ht,sizeOf,typeInfo,hi,Builtin.lenOf,Builtin.firstCells]
 .simp [Builtin.append_,run_underlying ht,sizeOf,typeInfo,hi,Builtin.lenOf,Builtin.firstCells,storeCells,hnc]
theorem zar {P:Program} (w:World) {ops:Array Oper} {rest:List Oper} {o:Oper} {a:Act} {Q:Exit->Act->World->Prop} (hgd:o.guard=none) (s x:Operand) (t:TypeId)
 (ho:o.op= .call { callee:= .builtin .append,args:= #[s,x],argTypes:= #[t,t] })
 (base:Nat) (e:TypeId) (i:TypeInfo) (size:Nat) (ht:P.underlying t=some (.slice e)) (hi:P.info? e=some i)
 (v:Value) (n:Nat) (xs:List Value) (hs:a.eval s=v) (hown:w.ownsRow base e size v n xs)
 (hx:a.eval x= .slice none 0 0)
 (h:wpList P ops Q rest (a.put o.dst v) w):wpList P ops Q (o::rest) a w:=
 wpList_plain hgd fun _ hK=>by have hr:=zfm (P:=P) w base t o.type e i size ht hi v n xs hown;unfold Oper.wp execOp;simp only [ho,resolve,invoke,builtin,Sem.run_bind,Sem.run_pure,Result.andThen_ok,List.map_toArray,List.map_cons,List.map_nil,hs,hx,hr];exact hK _ _ h
theorem zh0 (w:World) (B0:Nat) (hB0:B0<=w.heap.size) (key:ByteArray) (hks:key.size<=140737488355328) (x:V) (cx:VC) (hx:IsVal (only (fun k=>B0<=k) w) w.heap.size x cx):
 uP 56 #[.slice none 0 0, .string key, .agg (uV cx)] w (WithPost w B0 (withF [] key x)):=by
 delta uV uP;obtain ⟨i0,hi0,hz0,hz1,hz2⟩:=info_parts Yn;have HF:Hid (∀W,uB w W->uP 103 #[.agg (uU 0 0 { data:= #[] } none 0 0 none 0 0), .string key] W fun e w'=>e= .returned (.tuple #[.int .i64 0, .bool false])/\uB W w'):=by intro W hW;exact Yu W [] key 0 0 { data:= #[] } none 0 0 none 0 0 ⟨rfl,by omega,by omega,by omega,0,0,fun _=>vzero,fun h=>absurd h (by omega),fun i h=>absurd h (by simp)⟩
 have HBX:=qh (BC.start w (uV cx) 29);have HAL:=qh ((zzc _ _).alloc (zza _) (.cells (uV cx) 29):uB w _);have HX:=qh hx;obtain ⟨R,hR⟩:∃R,WithPost w B0 (withF [] key x)=R:=⟨_,rfl⟩;rw [hR];have HR:=qh hR;clear hx hR;go_enter Tryz.func56,Tryz.ntmps56
 go_wp2_with fail;refine (HF.out _ HAL.out).mono ?_
 rintro e w1 ⟨rfl,hb1⟩;have BX2:=HBX.out.keep hb1 (by simp);obtain ⟨x0,x1,x2,x3,x4⟩:=row5 BX2.at_;have zs2:w.heap.size<w1.heap.size:=BX2.lt;have HBL1:=qh (HAL.out.trans (hb1.mono (by simp)));have ho2:(w1.alloc (.cells #[.string key, .int .u8 cx.k, .int .i64 cx.n, .string cx.s, .slice cx.la cx.ll cx.lc, .slice cx.oa cx.ol cx.oc] 62)).ownsRow (w.heap.size+1) 62 6 (.slice none 0 0) 0 [] :=⟨rfl, .inl ⟨rfl,rfl⟩⟩;have hnw:∀j u,(fcells (key,cx))[j]? =some u->(w1.alloc (.cells #[.string key, .int .u8 cx.k, .int .i64 cx.n, .string cx.s, .slice cx.la cx.ll cx.lc, .slice cx.oa cx.ol cx.oc] 62)).cell? ((⟨w1.heap.size,0,none⟩:Addr).add j)=some u:=World.news_of_block (t:=62) (fr:=(0,0)) (heap_alloc_new w1 (.cells #[.string key, .int .u8 cx.k, .int .i64 cx.n, .string cx.s, .slice cx.la cx.ll cx.lc, .slice cx.oa cx.ol cx.oc] 62));have HNW:=qh hnw;clear hb1 BX2 hnw;have ho1:w1.ownsRow (w.heap.size+1) 62 6 (.slice none 0 0) 0 [] :=⟨rfl, .inl ⟨rfl,rfl⟩⟩;go_wp2_with (first
  |(at_builtin;refine zar _ rfl (.tmp 17) (.tmp 20) 27 (by rfl) (w.heap.size+1) 62 i0 6 Tryz.underlying27 hi0 (.slice none 0 0) 0 [] (by rfl) ho1 (by rfl) ?_)
  |(at_builtin;refine wpList_append_own _ rfl (.tmp 22) (.tmp 26) 27 (by rfl) (w.heap.size+1) 62 i0 _ 6 96 Tryz.underlying27 hi0 hz0 hz1 hz2 rfl (by omega) (.slice none 0 0) 0 [] (by rfl) ho2 ⟨w1.heap.size,0,none⟩ 1 1 (fcells (key,cx)) (by rfl) (by rfl) HNW.out (Xz key cx) (by unfold maxLen;omega) (by omega) (by simp;omega) ?_;intro v2 w4 hown2 hgrow2 _;have b24:Below (w.heap.size+1) w1 w4:=(((zzc w1.heap.size w1).alloc (zza _) (.cells #[.string key, .int .u8 cx.k, .int .i64 cx.n, .string cx.s, .slice cx.la cx.ll cx.lc, .slice cx.oa cx.ol cx.oc] 62)).mono (by omega)).trans (Zi hgrow2 (fun k hk=>by simp [Value.ownBlock] at hk) (by simp;omega));have HBL4:=qh (HBL1.out.trans (b24.mono (by omega)));have zs4:w.heap.size<w4.heap.size:=zzj zs2 b24.size;have HO2:=qh hown2;clear hgrow2 b24 hown2)
  |(at_builtin;refine zar _ rfl (.tmp 31) (.tmp 34) 27 (by rfl) (w.heap.size+1) 62 i0 6 Tryz.underlying27 hi0 v2 (0+1) ([] ++fcells (key,cx)) (by rfl) HO2.out (by rfl) ?_))
 rw [<-HR.out];have hown:=HO2.out;have hcat: [] ++fcells (key,cx)= [(key,cx)].flatMap fcells:=by simp
 rw [hcat] at hown;have hlt3:=hown.lt;have hsh:Shows (only (fun k=>B0<=k) w) (only (Free B0 v2) w4) w.heap.size:=Zc fun q hq hl=>⟨⟨hq,fun e=>by have:=(hlt3 q e.symm).1;omega⟩,HBL4.out.block q hl⟩;obtain ⟨a,n,c,hv,hf,hz⟩:=Q9 (l:= [(key,x)]) (B0:=B0) (B1:=w.heap.size+1) hown (by omega) rfl
  (fun i _ hi=>by
   obtain rfl:i=0:=by simpa using hi
   exact ⟨rfl,hks,(HX.out.sub hsh).more HBL4.out.size⟩) (by simp)
 exact ⟨⟨a,n,c,by rw [hv],hf,hz⟩,HBL4.out⟩
theorem zg8 (w:World) (B0:Nat) (hB0:B0<=w.heap.size) (o:List (ByteArray×V)) (b off ol oc:Nat) (ho:IsFields (only (fun k=>B0<=k) w) w.heap.size o (some ⟨b,off,none⟩) ol oc) (key:ByteArray) (hks:key.size<=140737488355328) (x:V) (cx:VC) (hx:IsVal (only (fun k=>B0<=k) w) w.heap.size x cx) (hpos:0<ol) (hfew:ol<=1000000) (his:fieldIs o key=true) (hke:fieldK o key+1<oc):
 uP 56 #[.slice (some ⟨b,off,none⟩) ol oc, .string key, .agg (uV cx)] w (WithPost w B0 (withF o key x)):=by
 delta uV uP;obtain ⟨i0,hi0,hz0,hz1,hz2⟩:=info_parts Yn;have hlen:=ho.len;have hcap:=ho.cap;have hmax:=ho.max;obtain ⟨cs,b2,off2,hcl,hab,hcell,hpf⟩:=ho.cells;have HCELL:Hid (∀W,uB w W->∀j u,(cs.flatMap fcells)[j]? =some u->W.cell? ⟨b,off+j,none⟩=some u):=by intro W hW j u hj;have hjl:=(List.getElem?_eq_some_iff.1 hj).1;rw [Zk fcells 6 (fun _=>rfl),hcl, <-hlen] at hjl;obtain ⟨e,hb2⟩:=hab (by omega);injection e with e;injection e with e1 e2;subst e1 e2;exact Zb hW (Z7 (hcell j u hj)).2 hb2
 obtain ⟨k,hk⟩:∃k,fieldK o key=k:=⟨_,rfl⟩;rw [hk] at hke;have hkl:k<=ol:=by rw [<-hk,hlen];exact Yb o key
 have hkl2:k<ol:=by rw [<-hk,hlen];exact Yf his
 have hkc:k<=cs.length:=by rw [hcl, <-hlen];exact hkl
 have hkc2:k+1<=cs.length:=by rw [hcl, <-hlen];omega
 have HF:Hid (∀W,uB w W->uP 103 #[.agg (uU 0 0 { data:= #[] } none 0 0 (some ⟨b,off,none⟩) ol oc), .string key] W fun e w'=>e= .returned (.tuple #[.int .i64 (k:Int), .bool true])/\uB W w'):=by intro W hW;have hof:IsFields W W.heap.size o (some ⟨b,off,none⟩) ol oc:=(IsFields.keep (IsFields.sub (Zl (fun k=>B0<=k) w _) ho) hW).more hW.size;have:=Yu W o key 0 0 { data:= #[] } none 0 0 (some ⟨b,off,none⟩) ol oc hof;rw [hk,his] at this;exact this
 have hwf:withF o key x=o.take k++(key,x)::o.drop (k+1):=by rw [withF,his,hk];rfl
 rw [hwf];have HBX:=qh (BC.start w (uV cx) 29);have HAL:=qh ((zzc _ _).alloc (zza _) (.cells (uV cx) 29):uB w _);have HX:=qh hx;have HPF:=qh hpf;have HCL:=qh hcl;have HLEN:=qh hlen;obtain ⟨R,hR⟩:∃R,WithPost w B0 (o.take k++(key,x)::o.drop (k+1))=R:=⟨_,rfl⟩;rw [hR];have HR:=qh hR;obtain ⟨XA,hXA⟩:∃XA,(cs.take k).flatMap fcells=XA:=⟨_,rfl⟩;obtain ⟨XB,hXB⟩:∃XB,(cs.drop (k+1)).flatMap fcells=XB:=⟨_,rfl⟩;have hla:XA.length=k*6:=by rw [<-hXA,Zk fcells 6 (fun _=>rfl),zzd,Nat.min_eq_left hkc]
 have hlb:XB.length=(ol - (k+1))*6:=by rw [<-hXB,Zk fcells 6 (fun _=>rfl),zzf,hcl, <-hlen]
 have HA1:Hid (∀u ∈ XA,u.oneCell'=true):=by unfold Hid;rw [<-hXA];exact Y6 _
 have HB1:Hid (∀u ∈ XB,u.oneCell'=true):=by unfold Hid;rw [<-hXB];exact Y6 _
 have HCA:Hid (∀W,uB w W->∀j u,XA[j]? =some u->W.cell? ((⟨b,off,none⟩:Addr).add j)=some u):=by intro W hW j u hj;rw [<-hXA] at hj;rw [Zz];exact HCELL.out W hW j u (Kh hj)
 have HCB:Hid (∀W,uB w W->∀j u,XB[j]? =some u->W.cell? ((⟨b,off+(k+1)*6,none⟩:Addr).add j)=some u):=by intro W hW j u hj;rw [<-hXB] at hj;rw [Zz,Nat.add_assoc];exact HCELL.out W hW _ u (Ko hkc2 hj)
 have HXA:=qh hXA;have HXB:=qh hXB;clear ho hab hcell hk his hx hpf hcl hlen hwf hR hXA hXB hkc hkc2;go_enter Tryz.func56,Tryz.ntmps56
 go_wp2_with fail;refine (HF.out _ HAL.out).mono ?_
 rintro e w1 ⟨rfl,hb1⟩;have bl1:=HAL.out.trans (hb1.mono (by simp));have HBX1:=qh (HBX.out.keep hb1 (by simp));have zs1:w.heap.size<w1.heap.size:=HBX1.out.lt;have HBL1:=qh bl1;have ho1:w1.ownsRow (w.heap.size+1) 62 6 (.slice none 0 0) 0 [] :=⟨rfl, .inl ⟨rfl,rfl⟩⟩;clear hb1 bl1;go_wp2_with (first
  |(at_builtin;refine wpList_append_own _ rfl (.tmp 17) (.tmp 20) 27 (by rfl) (w.heap.size+1) 62 i0 _ 6 96 Tryz.underlying27 hi0 hz0 hz1 hz2 rfl (by omega) (.slice none 0 0) 0 [] (by rfl) ho1 ⟨b,off,none⟩ k oc XA (by rfl) hla (HCA.out _ HBL1.out) HA1.out (by unfold maxLen;omega) (by omega) (by omega) ?_;intro v1 w2 hown1 hgrow1 _;have b12:Below (w.heap.size+1) w1 w2:=Zi hgrow1 (fun k hk=>by simp [Value.ownBlock] at hk) (by omega);have BX2:=HBX1.out.keep b12 (by omega);obtain ⟨x0,x1,x2,x3,x4⟩:=row5 BX2.at_;have zs2:=BX2.lt;have HBL2:=qh (HBL1.out.trans (b12.mono (by omega)));have HO1:=qh hown1;have hrl:∀g,v1.ownBlock=some g->w.heap.size+1<=g/\g<w2.heap.size:=hown1.lt;have ho2:=hown1.alloc (.cells #[.string key, .int .u8 cx.k, .int .i64 cx.n, .string cx.s, .slice cx.la cx.ll cx.lc, .slice cx.oa cx.ol cx.oc] 62);have hnw:∀j u,(fcells (key,cx))[j]? =some u->(w2.alloc (.cells #[.string key, .int .u8 cx.k, .int .i64 cx.n, .string cx.s, .slice cx.la cx.ll cx.lc, .slice cx.oa cx.ol cx.oc] 62)).cell? ((⟨w2.heap.size,0,none⟩:Addr).add j)=some u:=World.news_of_block (t:=62) (fr:=(0,0)) (heap_alloc_new w2 (.cells #[.string key, .int .u8 cx.k, .int .i64 cx.n, .string cx.s, .slice cx.la cx.ll cx.lc, .slice cx.oa cx.ol cx.oc] 62));have HNW:=qh hnw;clear hnw hown1 hgrow1 BX2 b12)
  |(at_builtin;refine wpList_append_own _ rfl (.tmp 22) (.tmp 26) 27 (by rfl) (w.heap.size+1) 62 i0 _ 6 96 Tryz.underlying27 hi0 hz0 hz1 hz2 rfl (by omega) v1 (0+k) ([] ++XA) (by rfl) ho2 ⟨w2.heap.size,0,none⟩ 1 1 (fcells (key,cx)) (by rfl) (by rfl) HNW.out (Xz key cx) (by unfold maxLen;omega) (by omega) (by simp;omega) ?_;intro v2 w4 hown2 hgrow2 _;have b24:Below (w.heap.size+1) w2 w4:=(((zzc w2.heap.size w2).alloc (zza _) (.cells #[.string key, .int .u8 cx.k, .int .i64 cx.n, .string cx.s, .slice cx.la cx.ll cx.lc, .slice cx.oa cx.ol cx.oc] 62)).mono (by omega)).trans (Zi hgrow2 (fun k hk=>(hrl k hk).1) (by simp;omega));have HBL4:=qh (HBL2.out.trans (b24.mono (by omega)));have zs4:w.heap.size<w4.heap.size:=zzj zs2 b24.size;have hrl2:∀g,v2.ownBlock=some g->w.heap.size+1<=g/\g<w4.heap.size:=hown2.lt;have HO2:=qh hown2;clear hgrow2 b24 hown2)
  |(at_builtin;refine wpList_append_own _ rfl (.tmp 31) (.tmp 34) 27 (by rfl) (w.heap.size+1) 62 i0 _ 6 96 Tryz.underlying27 hi0 hz0 hz1 hz2 rfl (by omega) v2 (0+k+1) ([] ++XA++fcells (key,cx)) (by rfl) HO2.out ⟨b,off+(k+1)*6,none⟩ (ol - (k+1)) (oc - (k+1)) XB (by rfl) (by omega) (HCB.out _ HBL4.out) HB1.out (by unfold maxLen;omega) (by omega) (by omega) ?_;intro v3 w5 hown3 hgrow3 _;have b45:Below (w.heap.size+1) w4 w5:=Zi hgrow3 (fun k hk=>(hrl2 k hk).1) (by omega);have HBL5:=qh (HBL4.out.trans (b45.mono (by omega)));have HO3:=qh hown3;clear hgrow3 b45 hown3))
 rw [<-HR.out];have hcat: [] ++XA++fcells (key,cx)++XB=(cs.take k++(key,cx)::cs.drop (k+1)).flatMap fcells:=by rw [<-HXA.out, <-HXB.out];simp
 have hll:(o.take k++(key,x)::o.drop (k+1)).length=0+k+1+(ol - (k+1)):=by rw [zze,List.length_cons,zzf,zzd, <-HLEN.out,Nat.min_eq_left hkl];omega
 have hown:=HO3.out;rw [hcat, <-hll] at hown;have hlt3:=hown.lt;have hsh:Shows (only (fun k=>B0<=k) w) (only (Free B0 v3) w5) w.heap.size:=Zc fun q hq hl=>⟨⟨hq,fun e=>by have:=(hlt3 q e.symm).1;omega⟩,HBL5.out.block q hl⟩;obtain ⟨a,n,c,hv,hf,hz⟩:=Q9 (B0:=B0) (B1:=w.heap.size+1) hown (by omega) (by rw [zze,zze,List.length_cons,List.length_cons,zzf,zzf,zzd,zzd,HCL.out])
  (PF.with_ HCL.out (fun i hi=>PF.closed o cs _ _ _ _ i hsh HBL5.out.size (HPF.out i hi)) ((HX.out.sub hsh).more HBL5.out.size) hks (by rw [<-HLEN.out];exact hkl) (by rw [<-HLEN.out];omega)) (by rw [hll];omega)
 exact ⟨⟨a,n,c,by rw [hv],hf,hz⟩,HBL5.out⟩
theorem zir (w:World) (B0:Nat) (hB0:B0<=w.heap.size) (o:List (ByteArray×V)) (b off ol oc:Nat) (ho:IsFields (only (fun k=>B0<=k) w) w.heap.size o (some ⟨b,off,none⟩) ol oc) (key:ByteArray) (hks:key.size<=140737488355328) (x:V) (cx:VC) (hx:IsVal (only (fun k=>B0<=k) w) w.heap.size x cx) (hpos:0<ol) (hfew:ol<=1000000) (his:fieldIs o key=true) (hke:fieldK o key+1=oc):
 uP 56 #[.slice (some ⟨b,off,none⟩) ol oc, .string key, .agg (uV cx)] w (WithPost w B0 (withF o key x)):=by
 delta uV uP;obtain ⟨i0,hi0,hz0,hz1,hz2⟩:=info_parts Yn;have hlen:=ho.len;have hcap:=ho.cap;have hmax:=ho.max;obtain ⟨cs,b2,off2,hcl,hab,hcell,hpf⟩:=ho.cells;have HCELL:Hid (∀W,uB w W->∀j u,(cs.flatMap fcells)[j]? =some u->W.cell? ⟨b,off+j,none⟩=some u):=by intro W hW j u hj;have hjl:=(List.getElem?_eq_some_iff.1 hj).1;rw [Zk fcells 6 (fun _=>rfl),hcl, <-hlen] at hjl;obtain ⟨e,hb2⟩:=hab (by omega);injection e with e;injection e with e1 e2;subst e1 e2;exact Zb hW (Z7 (hcell j u hj)).2 hb2
 obtain ⟨k,hk⟩:∃k,fieldK o key=k:=⟨_,rfl⟩;rw [hk] at hke;have hkl:k<=ol:=by rw [<-hk,hlen];exact Yb o key
 have hkl2:k<ol:=by rw [<-hk,hlen];exact Yf his
 have hkc:k<=cs.length:=by rw [hcl, <-hlen];exact hkl
 have hkc2:k+1<=cs.length:=by rw [hcl, <-hlen];omega
 have HF:Hid (∀W,uB w W->uP 103 #[.agg (uU 0 0 { data:= #[] } none 0 0 (some ⟨b,off,none⟩) ol oc), .string key] W fun e w'=>e= .returned (.tuple #[.int .i64 (k:Int), .bool true])/\uB W w'):=by intro W hW;have hof:IsFields W W.heap.size o (some ⟨b,off,none⟩) ol oc:=(IsFields.keep (IsFields.sub (Zl (fun k=>B0<=k) w _) ho) hW).more hW.size;have:=Yu W o key 0 0 { data:= #[] } none 0 0 (some ⟨b,off,none⟩) ol oc hof;rw [hk,his] at this;exact this
 have hwf:withF o key x=o.take k++(key,x)::o.drop (k+1):=by rw [withF,his,hk];rfl
 rw [hwf];have HBX:=qh (BC.start w (uV cx) 29);have HAL:=qh ((zzc _ _).alloc (zza _) (.cells (uV cx) 29):uB w _);have HX:=qh hx;have HPF:=qh hpf;have HCL:=qh hcl;have HLEN:=qh hlen;obtain ⟨R,hR⟩:∃R,WithPost w B0 (o.take k++(key,x)::o.drop (k+1))=R:=⟨_,rfl⟩;rw [hR];have HR:=qh hR;obtain ⟨XA,hXA⟩:∃XA,(cs.take k).flatMap fcells=XA:=⟨_,rfl⟩;obtain ⟨XB,hXB⟩:∃XB,(cs.drop (k+1)).flatMap fcells=XB:=⟨_,rfl⟩;have hla:XA.length=k*6:=by rw [<-hXA,Zk fcells 6 (fun _=>rfl),zzd,Nat.min_eq_left hkc]
 have hlb:XB.length=(ol - (k+1))*6:=by rw [<-hXB,Zk fcells 6 (fun _=>rfl),zzf,hcl, <-hlen]
 have HA1:Hid (∀u ∈ XA,u.oneCell'=true):=by unfold Hid;rw [<-hXA];exact Y6 _
 have HB1:Hid (∀u ∈ XB,u.oneCell'=true):=by unfold Hid;rw [<-hXB];exact Y6 _
 have HCA:Hid (∀W,uB w W->∀j u,XA[j]? =some u->W.cell? ((⟨b,off,none⟩:Addr).add j)=some u):=by intro W hW j u hj;rw [<-hXA] at hj;rw [Zz];exact HCELL.out W hW j u (Kh hj)
 have HCB:Hid (∀W,uB w W->∀j u,XB[j]? =some u->W.cell? ((⟨b,off+(k+1)*6,none⟩:Addr).add j)=some u):=by intro W hW j u hj;rw [<-hXB] at hj;rw [Zz,Nat.add_assoc];exact HCELL.out W hW _ u (Ko hkc2 hj)
 have HXA:=qh hXA;have HXB:=qh hXB;clear ho hab hcell hk his hx hpf hcl hlen hwf hR hXA hXB hkc hkc2;have hol:ol=k+1:=by omega
 have hoc:oc=k+1:=by omega
 cases hol;cases hoc
 go_enter Tryz.func56,Tryz.ntmps56
 go_wp2_with fail;refine (HF.out _ HAL.out).mono ?_
 rintro e w1 ⟨rfl,hb1⟩;have bl1:=HAL.out.trans (hb1.mono (by simp));have HBX1:=qh (HBX.out.keep hb1 (by simp));have zs1:w.heap.size<w1.heap.size:=HBX1.out.lt;have HBL1:=qh bl1;have ho1:w1.ownsRow (w.heap.size+1) 62 6 (.slice none 0 0) 0 [] :=⟨rfl, .inl ⟨rfl,rfl⟩⟩;clear hb1 bl1;go_wp2_with (first
  |(at_builtin;refine wpList_append_own _ rfl (.tmp 17) (.tmp 20) 27 (by rfl) (w.heap.size+1) 62 i0 _ 6 96 Tryz.underlying27 hi0 hz0 hz1 hz2 rfl (by omega) (.slice none 0 0) 0 [] (by rfl) ho1 ⟨b,off,none⟩ k (k+1) XA (by rfl) hla (HCA.out _ HBL1.out) HA1.out (by unfold maxLen;omega) (by omega) (by omega) ?_;intro v1 w2 hown1 hgrow1 _;have b12:Below (w.heap.size+1) w1 w2:=Zi hgrow1 (fun k hk=>by simp [Value.ownBlock] at hk) (by omega);have BX2:=HBX1.out.keep b12 (by omega);obtain ⟨x0,x1,x2,x3,x4⟩:=row5 BX2.at_;have zs2:=BX2.lt;have HBL2:=qh (HBL1.out.trans (b12.mono (by omega)));have HO1:=qh hown1;have hrl:∀g,v1.ownBlock=some g->w.heap.size+1<=g/\g<w2.heap.size:=hown1.lt;have ho2:=hown1.alloc (.cells #[.string key, .int .u8 cx.k, .int .i64 cx.n, .string cx.s, .slice cx.la cx.ll cx.lc, .slice cx.oa cx.ol cx.oc] 62);have hnw:∀j u,(fcells (key,cx))[j]? =some u->(w2.alloc (.cells #[.string key, .int .u8 cx.k, .int .i64 cx.n, .string cx.s, .slice cx.la cx.ll cx.lc, .slice cx.oa cx.ol cx.oc] 62)).cell? ((⟨w2.heap.size,0,none⟩:Addr).add j)=some u:=World.news_of_block (t:=62) (fr:=(0,0)) (heap_alloc_new w2 (.cells #[.string key, .int .u8 cx.k, .int .i64 cx.n, .string cx.s, .slice cx.la cx.ll cx.lc, .slice cx.oa cx.ol cx.oc] 62));have HNW:=qh hnw;clear hnw hown1 hgrow1 BX2 b12)
  |(at_builtin;refine wpList_append_own _ rfl (.tmp 22) (.tmp 26) 27 (by rfl) (w.heap.size+1) 62 i0 _ 6 96 Tryz.underlying27 hi0 hz0 hz1 hz2 rfl (by omega) v1 (0+k) ([] ++XA) (by rfl) ho2 ⟨w2.heap.size,0,none⟩ 1 1 (fcells (key,cx)) (by rfl) (by rfl) HNW.out (Xz key cx) (by unfold maxLen;omega) (by omega) (by simp;omega) ?_;intro v2 w4 hown2 hgrow2 _;have b24:Below (w.heap.size+1) w2 w4:=(((zzc w2.heap.size w2).alloc (zza _) (.cells #[.string key, .int .u8 cx.k, .int .i64 cx.n, .string cx.s, .slice cx.la cx.ll cx.lc, .slice cx.oa cx.ol cx.oc] 62)).mono (by omega)).trans (Zi hgrow2 (fun k hk=>(hrl k hk).1) (by simp;omega));have HBL4:=qh (HBL2.out.trans (b24.mono (by omega)));have zs4:w.heap.size<w4.heap.size:=zzj zs2 b24.size;have hrl2:∀g,v2.ownBlock=some g->w.heap.size+1<=g/\g<w4.heap.size:=hown2.lt;have HO2:=qh hown2;clear hgrow2 b24 hown2)
  |(at_builtin;refine wpList_append_own _ rfl (.tmp 31) (.tmp 34) 27 (by rfl) (w.heap.size+1) 62 i0 _ 6 96 Tryz.underlying27 hi0 hz0 hz1 hz2 rfl (by omega) v2 (0+k+1) ([] ++XA++fcells (key,cx)) (by rfl) HO2.out ⟨b,off,none⟩ 0 0 XB (by rfl) (by omega) (fun j u hj=>by rw [List.getElem?_eq_none (by omega)] at hj;cases hj) HB1.out (by unfold maxLen;omega) (by omega) (by omega) ?_;intro v3 w5 hown3 hgrow3 _;have b45:Below (w.heap.size+1) w4 w5:=Zi hgrow3 (fun k hk=>(hrl2 k hk).1) (by omega);have HBL5:=qh (HBL4.out.trans (b45.mono (by omega)));have HO3:=qh hown3;clear hgrow3 b45 hown3))
 rw [<-HR.out];have hcat: [] ++XA++fcells (key,cx)++XB=(cs.take k++(key,cx)::cs.drop (k+1)).flatMap fcells:=by rw [<-HXA.out, <-HXB.out];simp
 have hll:(o.take k++(key,x)::o.drop (k+1)).length=0+k+1+0:=by rw [zze,List.length_cons,zzf,zzd, <-HLEN.out,Nat.min_eq_left hkl];omega
 have hown:=HO3.out;rw [hcat, <-hll] at hown;have hlt3:=hown.lt;have hsh:Shows (only (fun k=>B0<=k) w) (only (Free B0 v3) w5) w.heap.size:=Zc fun q hq hl=>⟨⟨hq,fun e=>by have:=(hlt3 q e.symm).1;omega⟩,HBL5.out.block q hl⟩;obtain ⟨a,n,c,hv,hf,hz⟩:=Q9 (B0:=B0) (B1:=w.heap.size+1) hown (by omega) (by rw [zze,zze,List.length_cons,List.length_cons,zzf,zzf,zzd,zzd,HCL.out])
  (PF.with_ HCL.out (fun i hi=>PF.closed o cs _ _ _ _ i hsh HBL5.out.size (HPF.out i hi)) ((HX.out.sub hsh).more HBL5.out.size) hks (by rw [<-HLEN.out];exact hkl) (by rw [<-HLEN.out];omega)) (by rw [hll];omega)
 exact ⟨⟨a,n,c,by rw [hv],hf,hz⟩,HBL5.out⟩
end Go.Proofs.YtbgheehjfnoiiaaGreatDoor
