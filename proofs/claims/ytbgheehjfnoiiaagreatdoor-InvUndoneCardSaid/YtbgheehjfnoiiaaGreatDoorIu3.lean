/- Walks. -/
import Derived.Test.YtbgheehjfnoiiaaGreatDoorIu2
import Derived.Laws.CopyRow
import Derived.Laws.CopyOwn
import Derived.Laws.OwnMore
import Derived.Lib.Walk
namespace Go.Proofs.YtbgheehjfnoiiaaGreatDoor
open Go.RowKit
set_option maxRecDepth 100000
set_option maxHeartbeats 4000000
theorem RStep.frozen {w w':World} {rb:Nat} (h:RStep w w' rb) {b o:Nat} (hl:b<w.heap.size) (hb:b≠rb):w'.frozen? ⟨b,o,none⟩=w.frozen? ⟨b,o,none⟩:=
 World.frozen?_of_block (h.block b hl hb)
theorem Q2 (W:World) (B:Nat) (k n:Int) (s:ByteArray) (hk0:0<=k) (hk1:k<256) (hn0: -9223372036854775808<=n) (hn1:n<=9223372036854775807) (hs:s.size<=140737488355328):IsVal W B (.mk k n s [] []) ⟨k,n,s,none,0,0,none,0,0⟩:=
 .mk ⟨k,n,s,none,0,0,none,0,0⟩ [] [] (fun _=>vzero) (fun _=>vzero) 0 0 0 0 ⟨hk0,hk1,hn0,hn1,hs,(by decide:(0:Nat)<=0),(by decide:(0:Nat)<=9223372036854775807),(by decide:(0:Nat)<=1466015503701),(by decide:(0:Nat)<=0),(by decide:(0:Nat)<=9223372036854775807),(by decide:(0:Nat)<=1466015503701)⟩ rfl rfl (fun h=>by cases h) (fun h=>by cases h) (fun i h=>by cases h) (fun i h=>by cases h) (fun i h=>by cases h) (fun i h=>by cases h)
theorem Ku (x:Int): -9223372036854775808<=wrap64 x:=by unfold wrap64;omega
theorem Kx (x:Int):wrap64 x<=9223372036854775807:=by unfold wrap64;omega
theorem Zi {w w':World} {row:Option Nat} {B:Nat} (hg:w.grownBy w' row) (hr:∀k,row=some k->B<=k) (hB:B<=w.heap.size):Below B w w':=
 ⟨hg.os,hg.tape,hg.output,hg.size,fun k hk=>hg.block k (by omega) (fun e=>by have:=hr k e.symm;omega)⟩
theorem Zf (w:World):uB w w.drew:=(zzc _ _).drew
theorem RStep.self {W:World} {b o:Nat} {x:Value} :RStep W (W.setCell ⟨b,o,none⟩ x) b:=⟨rfl,rfl,rfl,by simp,fun k hk hr=>heap_setCell_other _ _ _ _ hr⟩
theorem Zm {W W':World} {b base:Nat} {x:V} {c:VC} (h:IsVal (only (fun k=>base<=k) W) W.heap.size x c) (s:RStep W W' b) (hb:b<base):IsVal (only (fun k=>base<=k) W') W'.heap.size x c:=
 (h.sub (Zc fun k hk hl=>⟨hk,s.block k hl (by omega)⟩)).more s.size
structure BC (W:World) (b:Nat) (cs:List Value):Prop where
 at_:∀j x,cs[j]? =some x->W.cell? ⟨b,j,none⟩=some x
 fr:∀j,W.frozen? ⟨b,j,none⟩=false
 lt:b<W.heap.size
theorem BC.start (w:World) (cs:Array Value) (t:TypeId):BC (w.alloc (.cells cs t)) w.heap.size cs.toList:=
 ⟨fun j x hj=>Zs w cs t j x (by rw [<-hj];simp),fun j=>zpb w cs t j,by simp⟩
theorem BC.next {W W':World} {b rb:Nat} {cs:List Value} (h:BC W b cs) (s:RStep W W' rb) (hb:b≠rb):BC W' b cs:=
 ⟨fun j x hj=>s.cell (h.at_ j x hj) hb,fun j=>(s.frozen h.lt hb).trans (h.fr j),zzj h.lt s.size⟩
theorem BC.keep {W W':World} {b B:Nat} {cs:List Value} (h:BC W b cs) (hb:Below B W W') (hB:b<B):BC W' b cs:=
 ⟨fun j x hj=>Zb hb (h.at_ j x hj) hB,fun j=>(hb.frozen (p:=⟨b,j,none⟩) hB).trans (h.fr j),zzj h.lt hb.size⟩
theorem BC.set {W:World} {b i:Nat} {x:Value} {cs:List Value} (h:BC W b cs) (hi:i<cs.length):BC (W.setCell ⟨b,i,none⟩ x) b (cs.set i x):=by
 refine ⟨fun j y hj=> ?_,fun j=>by simpa using h.fr j,by simpa using h.lt⟩;by_cases e:i=j
 .subst e;rw [List.getElem?_set_self hi] at hj;injection hj with hj;subst hj;exact World.cell?_setCell_same _ _ _ (h.at_ i cs[i] (by simp [hi]))
 .rw [List.getElem?_set_ne e] at hj;rw [World.cell?_setCell_other]
  .exact h.at_ j y hj
  .intro e2;injection e2 with _ e3;exact e (by first|exact e3|exact e3.symm)
theorem BC.far {W:World} {b b' o:Nat} {x:Value} {cs:List Value} (h:BC W b cs) (hb:b≠b'):BC (W.setCell ⟨b',o,none⟩ x) b cs:=
 h.next RStep.self hb
theorem Yo:(Tryz.prog.info? 29).map (fun i=>(i.zero,i.size,i.bytes))=some (some (.agg #[.int .u8 0, .int .i64 0, .string { data:= #[] }, .slice none 0 0, .slice none 0 0]),5,80):=by kernel_rfl
theorem Yn:(Tryz.prog.info? 62).map (fun i=>(i.zero,i.size,i.bytes))=some (some (.agg #[.string { data:= #[] }, .int .u8 0, .int .i64 0, .string { data:= #[] }, .slice none 0 0, .slice none 0 0]),6,96):=by kernel_rfl
def V.kd:V->Int
 | .mk k _ _ _ _=>k
def V.nm:V->Int
 | .mk _ n _ _ _=>n
def V.ls:V->List V
 | .mk _ _ _ l _=>l
def V.os:V->List (ByteArray×V)
 | .mk _ _ _ _ o=>o
theorem V.eta (v:V):∃k n s l o,v= .mk k n s l o:=by cases v;exact ⟨_,_,_,_,_,rfl⟩
def Free2 (base:Nat) (u uo:Value):Nat->Prop:=fun k=>base<=k/\some k≠u.ownBlock/\some k≠uo.ownBlock
structure OwnRow (w:World) (base:Nat) (a:Option Addr) (n c:Nat) (cells:List Value):Prop where
 cap:n<=c
 max:c<=9223372036854775807
 none_:n=0->a=none->c=0
 row:0<n∨a≠none->∃g,a=some ⟨g,0,none⟩/\base<=g/\BC w g cells
theorem OwnRow.of {w:World} {base base':Nat} {T:TypeId} {sz:Nat} {u:Value} {n:Nat} {cells:List Value} (h:w.ownsRow base T sz u n cells) (hB:base'<=base):∃a c,u= .slice a n c/\OwnRow w base' a n c cells:=by
 have hcl:∀g,u.ownBlock=some g->∀j x,cells[j]? =some x->w.cell? ((⟨g,0,none⟩:Addr).add j)=some x:=fun g hg=>h.cells hg;have hl:=h.1;rcases h.2 with ⟨rfl,rfl⟩|⟨g,cap,cur,rfl,h1,h2,h3,h4,h5,h6⟩
 .exact ⟨none,0,rfl,zza _,by omega,fun _ _=>rfl,fun h=>by rcases h with h|h<;>simp at h⟩
 .refine ⟨_,cap,rfl,h3,by simpa [maxLen] using h4,fun _ h=>(by cases h),fun _=>⟨g,rfl,zzl hB h1,fun j x hj=> ?_,fun j=> ?_, ?_⟩⟩
  .have:=hcl g rfl j x hj
   rwa [Zz,Nat.zero_add] at this
  .simp [World.frozen?,h2]
  .exact (Array.getElem?_eq_some_iff.1 h2).1
structure Fresh (w:World) (base:Nat) (l:List V) (o:List (ByteArray×V)) (a:Option Addr) (n c:Nat) (a':Option Addr) (n' c':Nat) (cl:List VC) (co:List (ByteArray×VC)):Prop where
 len:n=l.length
 len':n'=o.length
 ll:cl.length=l.length
 lo:co.length=o.length
 few:l.length<=1466015503701
 few':o.length<=1466015503701
 ownL:OwnRow w base a n c (cl.flatMap vcells)
 ownO:OwnRow w base a' n' c' (co.flatMap fcells)
 ne:∀g,(Value.slice a n c).ownBlock=some g->(Value.slice a' n' c').ownBlock≠some g
 lv:∀i,i<l.length->PV l cl (only (Free2 base (.slice a n c) (.slice a' n' c')) w) w.heap.size i
 ov:∀i,i<o.length->PF o co (only (Free2 base (.slice a n c) (.slice a' n' c')) w) w.heap.size i
theorem Y2 {W:World} {g:Nat} {cl:List VC} (h:BC W g (cl.flatMap vcells)) {i:Nat} (hi:i<cl.length):ValAt W g (i*5) cl[i] :=by have hc:∀t x,t<5->(vcells cl[i])[t]? =some x->W.cell? ⟨g,i*5+t,none⟩=some x:=fun t x ht hx=>h.at_ _ _ ((Yx vcells 5 (fun _=>rfl) cl i t hi ht).trans hx);exact ⟨hc 0 _ (by omega) rfl,hc 1 _ (by omega) rfl,hc 2 _ (by omega) rfl,hc 3 _ (by omega) rfl,hc 4 _ (by omega) rfl⟩
theorem Yc {W:World} {g:Nat} {co:List (ByteArray×VC)} (h:BC W g (co.flatMap fcells)) {i:Nat} (hi:i<co.length):W.cell? ⟨g,i*6,none⟩=some (.string co[i].1)/\ValAt W g (i*6+1) co[i].2:=by have hc:∀t x,t<6->(fcells co[i])[t]? =some x->W.cell? ⟨g,i*6+t,none⟩=some x:=fun t x ht hx=>h.at_ _ _ ((Yx fcells 6 (fun _=>rfl) co i t hi ht).trans hx);exact ⟨hc 0 _ (by omega) rfl,hc 1 _ (by omega) rfl,hc 2 _ (by omega) rfl,hc 3 _ (by omega) rfl,hc 4 _ (by omega) rfl,hc 5 _ (by omega) rfl⟩
theorem Ql {w:World} {B:Nat} {k n:Int} {s:ByteArray} {l:List V} {o:List (ByteArray×V)} {a:Option Addr} {m c:Nat} {a':Option Addr} {m' c':Nat} {cl:List VC} {co:List (ByteArray×VC)}
 (hk0:0<=k) (hk1:k<256) (hn0: -9223372036854775808<=n) (hn1:n<=9223372036854775807) (hs:s.size<=140737488355328)
 (hl:m=l.length) (hl':m'=o.length) (ll:cl.length=l.length) (lo:co.length=o.length) (few:l.length<=1466015503701) (few':o.length<=1466015503701)
 (c1:m<=c) (c2:c<=9223372036854775807) (c1':m'<=c') (c2':c'<=9223372036854775807)
 (ha:0<m->∃g,a=some ⟨g,0,none⟩/\g<B/\∀i (hi:i<cl.length),ValAt w g (i*5) cl[i])
 (ha':0<m'->∃g,a'=some ⟨g,0,none⟩/\g<B/\∀i (hi:i<co.length),w.cell? ⟨g,i*6,none⟩=some (.string co[i].1)/\ValAt w g (i*6+1) co[i].2)
 (lv:∀i,i<l.length->PV l cl w B i) (ov:∀i,i<o.length->PF o co w B i):IsVal w B (.mk k n s l o) ⟨k,n,s,a,m,c,a',m',c'⟩:=by
 obtain ⟨lb,hlb⟩:∃lb,0<m->a=some ⟨lb,0,none⟩/\lb<B/\∀i (hi:i<cl.length),ValAt w lb (i*5) cl[i] :=by
  by_cases h:0<m
  .obtain ⟨g,hg⟩:=ha h;exact ⟨g,fun _=>hg⟩
  .exact ⟨0,fun h'=>absurd h' h⟩
 obtain ⟨ob,hob⟩:∃ob,0<m'->a'=some ⟨ob,0,none⟩/\ob<B/\∀i (hi:i<co.length),w.cell? ⟨ob,i*6,none⟩=some (.string co[i].1)/\ValAt w ob (i*6+1) co[i].2:=by
  by_cases h:0<m'
  .obtain ⟨g,hg⟩:=ha' h;exact ⟨g,fun _=>hg⟩
  .exact ⟨0,fun h'=>absurd h' h⟩
 refine .mk ⟨k,n,s,a,m,c,a',m',c'⟩ l o (fun i=>cl.getD i vzero) (fun i=>(co.getD i fzero).2) lb 0 ob 0 ⟨hk0,hk1,hn0,hn1,hs,c1,c2,by show m<=_;omega,c1',c2',by show m'<=_;omega⟩ hl hl' (fun h=>⟨(hlb h).1,(hlb h).2.1⟩) (fun h=>⟨(hob h).1,(hob h).2.1⟩) (fun i hi=> ?_) (fun i hi=>lv i hi hi) (fun i hi=> ?_) (fun i hi=>(ov i hi hi).2.2)
 .have he:cl.getD i vzero=cl[i]'(by omega):=by simp [List.getD_eq_getElem?_getD,show i<cl.length by omega]
  simp only [he,Nat.zero_add];exact (hlb (by omega)).2.2 i (by omega)
 .have he:co.getD i fzero=co[i]'(by omega):=by simp [List.getD_eq_getElem?_getD,show i<co.length by omega]
  obtain ⟨p1,p2,p3⟩:=ov i hi hi;obtain ⟨q1,q2⟩:=(hob (by omega)).2.2 i (by omega);rw [he] at p1;simp only [he,Nat.zero_add];exact ⟨by rw [<-p1];exact q1,p2,q2⟩
theorem Yq {P:Nat->Prop} {w:World} {b o:Nat} {c:VC} (hb:P b) (h:ValAt w b o c):ValAt (only P w) b o c:=⟨Z2 hb h.c0,Z2 hb h.c1,Z2 hb h.c2,Z2 hb h.c3,Z2 hb h.c4⟩
theorem Fresh.val {w:World} {base:Nat} {l:List V} {o:List (ByteArray×V)} {a:Option Addr} {m c:Nat} {a':Option Addr} {m' c':Nat} {cl:List VC} {co:List (ByteArray×VC)} (h:Fresh w base l o a m c a' m' c' cl co)
 {k n:Int} {s:ByteArray} (hk0:0<=k) (hk1:k<256) (hn0: -9223372036854775808<=n) (hn1:n<=9223372036854775807) (hs:s.size<=140737488355328):IsVal (only (fun b=>base<=b) w) w.heap.size (.mk k n s l o) ⟨k,n,s,a,m,c,a',m',c'⟩:=by
 have hsh:Shows (only (Free2 base (.slice a m c) (.slice a' m' c')) w) (only (fun b=>base<=b) w) w.heap.size:=Zc fun k hk _=>⟨hk.1,rfl⟩;refine Ql hk0 hk1 hn0 hn1 hs h.len h.len' h.ll h.lo h.few h.few' h.ownL.cap h.ownL.max h.ownO.cap h.ownO.max (fun hp=> ?_) (fun hp=> ?_) (fun i hi=>PV.closed _ _ _ _ _ _ i hsh (zza _) (h.lv i hi)) (fun i hi=>PF.closed _ _ _ _ _ _ i hsh (zza _) (h.ov i hi))
 .obtain ⟨g,e,hg,hbc⟩:=h.ownL.row (.inl hp);exact ⟨g,e,hbc.lt,fun i hi=>Yq hg (Y2 hbc hi)⟩
 .obtain ⟨g,e,hg,hbc⟩:=h.ownO.row (.inl hp);exact ⟨g,e,hbc.lt,fun i hi=>⟨Z2 hg (Yc hbc hi).1,Yq hg (Yc hbc hi).2⟩⟩
structure Tk where
 k:Int
 n:Int
 s:ByteArray
 m:Int
structure Tk.Bnd (t:Tk):Prop where
 k0:0<=t.k
 k1:t.k<256
 n0: -9223372036854775808<=t.n
 n1:t.n<=9223372036854775807
 s1:t.s.size<=140737488355328
 m0:0<=t.m
 m1:t.m<256
structure TkAt (w:World) (b o:Nat) (t:Tk):Prop where
 c0:w.cell? ⟨b,o,none⟩=some (.int .u8 t.k)
 c1:w.cell? ⟨b,o+1,none⟩=some (.int .i64 t.n)
 c2:w.cell? ⟨b,o+2,none⟩=some (.string t.s)
 c3:w.cell? ⟨b,o+3,none⟩=some (.int .u8 t.m)
theorem TkAt.keep {w w':World} {B b o:Nat} {t:Tk} (h:TkAt w b o t) (hb:Below B w w') (hB:b<B):TkAt w' b o t:=
 ⟨Zb hb h.c0 hB,Zb hb h.c1 hB,Zb hb h.c2 hB,Zb hb h.c3 hB⟩
structure IsToks (w:World) (B:Nat) (l:List Tk) (a:Option Addr) (n c:Nat):Prop where
 len:n=l.length
 cap:n<=c
 max:c<=9223372036854775807
 at_:∃b o,(0<n->a=some ⟨b,o,none⟩/\b<B)/\∀i (h:i<l.length),TkAt w b (o+i*4) l[i] /\l[i].Bnd
theorem IsToks.keep {w w':World} {B:Nat} {l:List Tk} {a:Option Addr} {n c:Nat} (h:IsToks w B l a n c) (hb:Below B w w'):IsToks w' B l a n c:=by obtain ⟨h1,h2,h3,b,o,h5,h6⟩:=h;exact ⟨h1,h2,h3,b,o,h5,fun i hi=>⟨(h6 i hi).1.keep hb (h5 (by omega)).2,(h6 i hi).2⟩⟩
theorem IsToks.more {w:World} {B B':Nat} {l:List Tk} {a:Option Addr} {n c:Nat} (h:IsToks w B l a n c) (hB:B<=B'):IsToks w B' l a n c:=by obtain ⟨h1,h2,h3,b,o,h5,h6⟩:=h;exact ⟨h1,h2,h3,b,o,fun hn=>⟨(h5 hn).1,zzj (h5 hn).2 hB⟩,h6⟩
theorem IsToks.later_ {w w':World} {l:List Tk} {a:Option Addr} {n c:Nat} (h:IsToks w w.heap.size l a n c) (hb:uB w w'):IsToks w' w'.heap.size l a n c:=(h.keep hb).more hb.size
theorem IsToks.get {w:World} {B:Nat} {l:List Tk} {a:Option Addr} {n c:Nat} (h:IsToks w B l a n c) {k:Nat} (hk:k<n):
 ∃b o,∃hp:k<l.length,a=some ⟨b,o,none⟩/\b<B/\TkAt w b (o+k*4) l[k] /\l[k].Bnd:=by
 obtain ⟨h1,h2,h3,b,o,h5,h6⟩:=h;exact ⟨b,o,by omega,(h5 (by omega)).1,(h5 (by omega)).2,h6 k (by omega)⟩
theorem IsToks.drop {w:World} {B:Nat} {l:List Tk} {a:Option Addr} {n c:Nat} (h:IsToks w B l a n c) (k:Nat) (hk:k<=n):IsToks w B (l.drop k) (a.map (fun x=>x.add (k*4))) (n - k) (c - k):=by
 obtain ⟨h1,h2,h3,b,o,h5,h6⟩:=h;refine ⟨by rw [zzf];omega,by omega,by omega,b,o+k*4,fun hn=> ?_,fun i hi=> ?_⟩
 .obtain ⟨e,hb⟩:=h5 (by omega);exact ⟨by rw [e,Option.map_some,Zz],hb⟩
 .rw [zzf] at hi;have:=h6 (k+i) (by omega);rw [List.getElem_drop,show o+k*4+i*4=o+(k+i)*4 by rw [Nat.add_mul];omega];exact this
theorem IsToks.none_left {w:World} {B:Nat} {l:List Tk} {a a':Option Addr} {n c:Nat} (h:IsToks w B l a n c) (hn:n=0):IsToks w B l a' 0 0:=by obtain ⟨h1,h2,h3,b,o,h5,h6⟩:=h;exact ⟨by omega,by omega,by omega,b,o,fun h=>by omega,h6⟩
theorem IsToks.take {w:World} {B:Nat} {l:List Tk} {a:Option Addr} {n c:Nat} (h:IsToks w B l a n c) (k:Nat) (hk:k<=n):IsToks w B (l.take k) a k c:=by obtain ⟨h1,h2,h3,b,o,h5,h6⟩:=h;refine ⟨by rw [zzd];omega,by omega,h3,b,o,fun hn=>h5 (by omega),fun i hi=> ?_⟩;rw [zzd] at hi;rw [List.getElem_take];exact h6 i (by omega)
def V.str:V->ByteArray
 | .mk _ _ s _ _=>s
def fR (f:List Tk->V×Nat) (l:List Tk):Nat->List V×Nat×Bool
 |0=>([],1,false)
 | i+1=>if (fR f l i).2.2=true then fR f l i else if (f (l.drop (fR f l i).2.1)).2=0 then ((fR f l i).1,(fR f l i).2.1,true)
   else ((fR f l i).1++ [(f (l.drop (fR f l i).2.1)).1],(fR f l i).2.1+(f (l.drop (fR f l i).2.1)).2,false)
theorem X1 {w:World} {B:Nat} {v:V} {c:VC} (h:IsVal w B v c):v.str=c.s/\c.s.size<=140737488355328:=by
 cases h with
 |mk c l o cl co lb lo ob oo hbd=>exact ⟨rfl,hbd.s1⟩
structure QR (w wr:World) (t:Tk) (c:VC):Prop where
 res:BC wr w.heap.size [.int .u8 0, .int .i64 0, .string { data:= #[] }, .slice none 0 0, .slice none 0 0]
 tok:BC wr (w.heap.size+1) [.int .u8 t.k, .int .i64 t.n, .string t.s, .int .u8 t.m]
 val:BC wr (w.heap.size+2) (vcells c)
 below:Below w.heap.size w wr
theorem QR.next {w wr W:World} {t:Tk} {c:VC} (h:QR w wr t c) (hb:uB wr W):QR w W t c:=
 ⟨h.res.keep hb h.res.lt,h.tok.keep hb h.tok.lt,h.val.keep hb h.val.lt,h.below.trans (hb.mono (Nat.le_of_lt h.res.lt))⟩
theorem QR.below_ {w wr W:World} {t:Tk} {c:VC} (h:QR w wr t c) {B:Nat} (hb:Below B wr W) (hB:w.heap.size+3<=B):QR w W t c:=
 ⟨h.res.keep hb (by omega),h.tok.keep hb (by omega),h.val.keep hb (by omega),h.below.trans (hb.mono (by omega))⟩
def RawPost (w:World) (r:V×Nat) (e:Ending) (w':World):Prop:=
 (∃c:VC,e= .returned (.tuple #[.agg #[.int .u8 c.k, .int .i64 c.n, .string c.s, .slice c.la c.ll c.lc, .slice c.oa c.ol c.oc], .int .i64 (r.2:Int)])/\IsVal (only (fun b=>w.heap.size<=b) w') w'.heap.size r.1 c)/\Below w.heap.size w w'
theorem QR.stored {w W:World} {t:Tk} {c0:VC} (h:QR w W t c0) (c:VC):BC (((((W.setCell ⟨w.heap.size,0,none⟩ (.int .u8 c.k)).setCell ⟨w.heap.size,1,none⟩ (.int .i64 c.n)).setCell ⟨w.heap.size,2,none⟩ (.string c.s)).setCell ⟨w.heap.size,3,none⟩ (.slice c.la c.ll c.lc)).setCell ⟨w.heap.size,4,none⟩ (.slice c.oa c.ol c.oc)) w.heap.size (vcells c)/\uB w (((((W.setCell ⟨w.heap.size,0,none⟩ (.int .u8 c.k)).setCell ⟨w.heap.size,1,none⟩ (.int .i64 c.n)).setCell ⟨w.heap.size,2,none⟩ (.string c.s)).setCell ⟨w.heap.size,3,none⟩ (.slice c.la c.ll c.lc)).setCell ⟨w.heap.size,4,none⟩ (.slice c.oa c.ol c.oc))/\RStep W (((((W.setCell ⟨w.heap.size,0,none⟩ (.int .u8 c.k)).setCell ⟨w.heap.size,1,none⟩ (.int .i64 c.n)).setCell ⟨w.heap.size,2,none⟩ (.string c.s)).setCell ⟨w.heap.size,3,none⟩ (.slice c.la c.ll c.lc)).setCell ⟨w.heap.size,4,none⟩ (.slice c.oa c.ol c.oc)) w.heap.size:=by delta uB;have s1:RStep W (((((W.setCell ⟨w.heap.size,0,none⟩ (.int .u8 c.k)).setCell ⟨w.heap.size,1,none⟩ (.int .i64 c.n)).setCell ⟨w.heap.size,2,none⟩ (.string c.s)).setCell ⟨w.heap.size,3,none⟩ (.slice c.la c.ll c.lc)).setCell ⟨w.heap.size,4,none⟩ (.slice c.oa c.ol c.oc)) w.heap.size:=(((RStep.self.trans RStep.self).trans RStep.self).trans RStep.self).trans RStep.self;refine ⟨((((h.res.set (i:=0) (x:= .int .u8 c.k) (by simp)).set (i:=1) (x:= .int .i64 c.n) (by simp)).set (i:=2) (x:= .string c.s) (by simp)).set (i:=3) (x:= .slice c.la c.ll c.lc) (by simp)).set (i:=4) (x:= .slice c.oa c.ol c.oc) (by simp),h.below.trans (s1.below (Nat.le_of_lt h.res.lt)),s1⟩
def fld (xs:List V):List (ByteArray×V):=xs.map fun x=>(x.str,x)
def low (b:UInt8):UInt8:=UInt8.ofNat (b.toNat % 128)
def plainL (l:List UInt8):List UInt8:=(l.take 40).map low
def plainS (s:ByteArray):ByteArray:=⟨(plainL s.data.toList).toArray⟩
theorem Jz {w:World} {B:Nat} {v:Value} {bs:List UInt8} (ho:w.ownsRow B 5 1 v bs.length (outs bs)):∃a n c,v= .slice a n c/\IsB w w.heap.size a n c bs:=by
 have hc:=fun g hg=>ho.cells (g:=g) hg;have hlt:=ho.lt;rcases ho.2 with ⟨rfl,hn⟩|⟨g,cap,cur,rfl,_,hg,hnc,hcm,_,_⟩
 .have:bs= [] :=List.length_eq_zero_iff.1 hn;subst this;exact ⟨none,0,0,rfl, .nil _ _⟩
 .refine ⟨_,_,_,rfl,rfl,hnc,by simpa [maxLen] using hcm,g,0,fun _=>⟨rfl,(hlt g rfl).2⟩,fun i hi=> ?_⟩;have:=hc g rfl i (.int .u8 (bs[i].toNat:Int)) (by simp [outs,hi]);rw [Zz] at this;exact this
theorem zck (l:List UInt8) (j:Nat) (h:j<l.length):(l.take (j+1)).map low=(l.take j).map low++ [low l[j]] :=by rw [Z6 l j h,List.map_append];rfl
theorem zfi (b:UInt8):(((low b).toNat:Nat):Int)=(b.toNat:Int) % 128:=by
 have h:(low b).toNat=b.toNat % 128:=by unfold low;rw [UInt8.toNat_ofNat'];omega
 rw [h];omega
structure PH (w wr:World) (s:ByteArray) (j:Nat) (u:Value):Prop where
 own:wr.ownsRow w.heap.size 5 1 u j (outs ((s.data.toList.take j).map low))
 below:Below w.heap.size w wr
theorem zek (w:World) (s:ByteArray) (hs:s.size<=140737488355328):
 uP 55 #[.string s] w fun e w'=>e= .returned (.string (plainS s))/\uB w w':=by
 delta uB uP;obtain ⟨i0,hi0,hz0,hz1,hz2⟩:=info_parts zbx;have hsz:s.data.toList.length=s.size:=Array.length_toList;have HS:=qh hsz;clear hsz;go_enter Tryz.func55,Tryz.ntmps55
 go_wp2_with fail
 go_loopw [3,4] (fun u i wr=>∃(j:Nat) (a:Option Addr) (m c:Nat),j<=40/\j<=s.size/\i= .int .i64 j/\u= .slice a m c/\PH w wr s j (.slice a m c)) (fun _ i _=>40 - (intOf i).toNat)
 case atStart=>exact ⟨0,none,0,0,by omega,Nat.zero_le _,rfl,rfl,⟨⟨by simp [outs], .inl ⟨rfl,rfl⟩⟩,zzc _ _⟩⟩
 case round=>
  obtain ⟨j,a,m,c,hj,hj2,rfl,rfl,L⟩:=hrel;have hlen:=HS.out;by_cases h1:j<s.size
  .by_cases h2:j<40
   .have hgb:s.data.toList[j]'(by omega)=s[j]'h1:=by simp [ByteArray.getElem_eq_getElem_data]
    have hsn:=zck s.data.toList j (by omega);rw [hgb] at hsn;have HSN:=qh hsn;have hrlt:∀b,(Value.slice a m c).ownBlock=some b->w.heap.size<=b/\b<wr.heap.size:=L.own.lt;have hb:=L.below.size;have LL:=qh L;have ho:=L.own;clear hsn hgb L;go_wp2_with (at_builtin;refine wpList_append_lies _ rfl (.tmp 15) (.tmp 20) 68 (by rfl) w.heap.size 5 i0 _ 1 1 Tryz.underlying68 hi0 hz0 hz1 hz2 rfl (by omega) (.slice a m c) j (outs ((s.data.toList.take j).map low)) (by rfl) (ho.alloc _) ⟨wr.heap.size,0,none⟩ 1 1 [.int .u8 ((s[j]'h1).toNat % 128:Int)] (by rfl) (by rfl) (World.news_of_block (cs:= #[.int .u8 ((s[j]'h1).toNat % 128:Int)]) (t:=5) (fr:=(0,0)) (heap_alloc_new wr _)) (by simp [Value.oneCell']) (by omega) (by unfold maxLen;omega) (by omega) (by simp;omega) (wr.heap.size+1) (by simp) ?_;intro g cap w7 hown7 hgrow7 hat7 hlt7)
    go_roundw
    case rel=>
     refine ⟨j+1,some ⟨g,0,none⟩,j+1,cap,by omega,by omega,by go_num,rfl,⟨?_, ?_⟩⟩
     .rw [HSN.out,ze3];have e:outs [low (s[j]'h1)] = [.int .u8 ((s[j]'h1).toNat % 128:Int)] :=by simp [outs,zfi]
      rw [e];exact hown7
     .exact (LL.out.below.trans (((zzc _ _).alloc (zza _) _).mono hb)).trans (Zi hgrow7 (fun k hk=>(hrlt k hk).1) (by simp;omega))
    case measure=>simp [intOf];omega
   .obtain ⟨a2,n2,c2,hv2,hI⟩:=Jz (bs:=(s.data.toList.take j).map low) (by rw [List.length_map,zzd,Nat.min_eq_left (by omega)];exact L.own);injection hv2 with h3 h4 h5;subst h3 h4 h5;have hcv:=Jr hI;have LL:=qh L;have hp:((s.data.toList.take j).map low)=plainL s.data.toList:=by rw [plainL,show j=40 by omega]
    rw [hp] at hcv;clear hI L hp;go_wp2_with fail;go_returns;exact ⟨rfl,LL.out.below⟩
  .obtain ⟨a2,n2,c2,hv2,hI⟩:=Jz (bs:=(s.data.toList.take j).map low) (by rw [List.length_map,zzd,Nat.min_eq_left (by omega)];exact L.own);injection hv2 with h3 h4 h5;subst h3 h4 h5;have hcv:=Jr hI;have LL:=qh L;have hp:((s.data.toList.take j).map low)=plainL s.data.toList:=by rw [plainL,List.take_of_length_le (by omega),List.take_of_length_le (by omega)]
   rw [hp] at hcv;clear hI L hp;go_wp2_with fail;go_returns;exact ⟨rfl,LL.out.below⟩
def scells (s:St):List Value:= [.bool s.list, .int .i64 s.i, .string s.key]
def czero:CC:=⟨0,none,0,0, .empty,0,0,0,vzero, .empty⟩
def ccells (c:CC):List Value:= [.int .u8 c.k, .slice c.pa c.pl c.pc, .string c.key, .int .i64 c.i, .int .i64 c.j, .int .i64 c.n, .int .u8 c.v.k, .int .i64 c.v.n, .string c.v.s, .slice c.v.la c.v.ll c.v.lc, .slice c.v.oa c.v.ol c.v.oc, .string c.s]
theorem Xy {P:Program} (w:World) (dT sT ty elem:TypeId) (sz:Nat) (g o dLen dCap:Nat) (a:Addr) (sLen sCap:Nat) (cur:Array Value) (t:TypeId) (cs:List Value)
 (hu:P.underlying dT=some (.slice elem)) (hs:(P.info? elem).map (·.size)=some sz)
 (hg:w.heap[g]? =some (.cells cur t (0,0))) (m:Nat) (hm:Nat.min sLen dLen=m) (hn:cs.length=m*sz)
 (hsrc:∀j v,cs[j]? =some v->w.cell? (a.add j)=some v) (hfit:o+cs.length<=cur.size) (h1:∀v ∈ cs,v.oneCell'=true):
 (Builtin.copy_ #[dT,sT] ty #[.slice (some ⟨g,o,none⟩) dLen dCap, .slice (some a) sLen sCap]).run P w=
  .ok (goInt m) (w.setRow g (cur.toList.take o++cs++cur.toList.drop (o+cs.length)).toArray):=by
 have hl:=run_loadCells_list (P:=P) w a cs hsrc;have hst:=run_storeCells_at P g o t cs 0 cur w hg (by simpa using hfit) h1
 cases hq:P.info? elem with
 |none=>simp [hq] at hs
 | some i=>
   have hi:i.size=sz:=by simpa [hq] using hs
   simp [Builtin.copy_,run_underlying hu,Builtin.lenOf,Builtin.firstCells,sizeOf,typeInfo,hq,hi,hm, <-hn,hl,hst]
theorem zc9 {α:Type} (L x:List α) (p r:Nat) (hp:p<=r) (hr:r+x.length<=L.length):
 (((L.take (p+x.length)++(L.take r).drop p++L.drop (r+x.length)).take p++x++(L.take (p+x.length)++(L.take r).drop p++L.drop (r+x.length)).drop (p+x.length)).take (r+x.length))=(L.take r).take p++x++(L.take r).drop p:=by
 have h1:(L.take (p+x.length)++(L.take r).drop p++L.drop (r+x.length)).take p=L.take p:=by
  rw [List.append_assoc,List.take_append_of_le_length (by rw [zzd];omega),List.take_take]
  congr 1;omega
 have h2:(L.take (p+x.length)++(L.take r).drop p++L.drop (r+x.length)).drop (p+x.length)=(L.take r).drop p++L.drop (r+x.length):=by rw [List.append_assoc,List.drop_append_of_le_length (by rw [zzd];omega),List.drop_eq_nil_of_le (by rw [zzd];omega),List.nil_append]
 rw [h1,h2, <-List.append_assoc,List.take_left' (by simp;omega),List.take_take,Nat.min_eq_left hp]
theorem zcp {α:Type} (R x xs:List α) (p:Nat) (hp:p<=xs.length) (hR:R.take p=xs.take p) (hl:xs.length+x.length<=R.length):
 (((R.take p++x++R.drop (p+x.length)).take (p+x.length)++xs.drop p++(R.take p++x++R.drop (p+x.length)).drop (p+x.length+(xs.drop p).length)).take (xs.length+x.length))=xs.take p++x++xs.drop p:=by
 have h1:(R.take p++x++R.drop (p+x.length)).take (p+x.length)=xs.take p++x:=by rw [List.take_left' (by simp;omega),hR]
 rw [h1,List.take_left' (by simp;omega)]
def RowPost (w:World) (base:Nat) (T:TypeId) (sz:Nat) (v:Value) (n:Nat) (ys:List Value) (e:Ending) (w':World):Prop:=
 ∃v',e= .returned v'/\w'.ownsRow base T sz v' n ys/\w.grownBy w' v.ownBlock/\(v'.ownBlock=v.ownBlock∨v'.ownBlock=some w.heap.size)
end Go.Proofs.YtbgheehjfnoiiaaGreatDoor
