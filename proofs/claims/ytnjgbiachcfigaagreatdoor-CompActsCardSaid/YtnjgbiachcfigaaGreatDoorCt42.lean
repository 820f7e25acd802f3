/-
  Contracts of the functions that the law reaches: conciliatorlaw06.One: what stands in.
-/
import Derived.Test.YtnjgbiachcfigaaGreatDoorCt39
namespace Go.Proofs.YtnjgbiachcfigaaGreatDoor
open Go.RowKit
def sliceN:Value->Nat
 | .slice _ n _=>n
 |_=>0
theorem IsSteps.take {w:World} {B:Nat} {l:List St} {a:Option Addr} {n c:Nat} (h:IsSteps w B l a n c) (k:Nat) (hk:k<=n):IsSteps w B (l.take k) a k c:=by
 obtain ⟨h1,h2,h3,h4,b,o,h5,h6⟩:=h
 refine ⟨by rw [List.length_take];omega,by omega,h3,by omega,b,o,fun hn=>h5 (by omega),fun i hi=> ?_⟩
 rw [List.length_take] at hi
 rw [List.getElem_take];exact h6 i (by omega)
theorem Q2 {W W':World} {S S':Nat->Prop} {B:Nat} {p:List St} {a:Option Addr} {n c:Nat} (h:IsSteps (only S W) B p a n c) (hB:B=W.heap.size) (hz:W.heap.size<=W'.heap.size) (hs:∀k,S k->k<W.heap.size->S' k/\W'.heap[k]? =W.heap[k]?):IsSteps (only S' W') W'.heap.size p a n c:=by
 subst hB;exact (h.sub (Ze hs)).more hz
theorem X1 {W W':World} {S S':Nat->Prop} {B:Nat} {x:V} {c:VC} (h:IsVal (only S W) B x c) (hB:B=W.heap.size) (hz:W.heap.size<=W'.heap.size) (hs:∀k,S k->k<W.heap.size->S' k/\W'.heap[k]? =W.heap[k]?):IsVal (only S' W') W'.heap.size x c:=by
 subst hB;exact (h.sub (Ze hs)).more hz
theorem GetPost.any {w w':World} {r:Option V} {e:Ending} (h:GetPost w r e w'):∃(c:VC) (i:Int),e= .returned (.tuple #[.agg #[.int .u8 c.k, .int .i64 c.n, .string c.s, .slice c.la c.ll c.lc, .slice c.oa c.ol c.oc], .int .i64 i])/\IsVal (only (fun b=>w.heap.size<=b) w') w'.heap.size (r.getD V.none) c/\Below w.heap.size w w':=by
 obtain ⟨h1,h2⟩:=h
 cases r with
 |none=>exact ⟨vzero,30,h1,Zx _ _,h2⟩
 |some x=>obtain ⟨c,e,hI⟩:=h1;exact ⟨c,0,e,hI,h2⟩
structure OH (w wr:World) (c:VC) (a:AC) (xb:Nat) (x:V) (cx:VC):Prop where
 v:BC wr w.heap.size (vcells c)
 a:BC wr (w.heap.size+1) (acells a)
 r:BC wr (w.heap.size+1+1) (ccells czero)
 bx:BC wr xb (vcells cx)
 val:IsVal (only (fun b=>b≠xb) wr) wr.heap.size x cx
 lo:w.heap.size+3<=xb
 below:Below w.heap.size w wr
structure OH0 (w W:World) (c:VC) (a:AC):Prop where
 v:BC W w.heap.size (vcells c)
 a:BC W (w.heap.size+1) (acells a)
 r:BC W (w.heap.size+1+1) (ccells czero)
 below:Below w.heap.size w W
theorem OH0.next {w W W':World} {c:VC} {a:AC} {B:Nat} (h:OH0 w W c a) (hb:Below B W W') (hB:w.heap.size+3<=B):OH0 w W' c a:=
 ⟨h.v.keep hb (by omega),h.a.keep hb (by omega),h.r.keep hb (by omega),h.below.trans (hb.mono (by omega))⟩
theorem OH0.start (w:World) (x:VC) (a:AC) (t1 t2 t3:TypeId):OH0 w (((w.alloc (.cells #[.int .u8 x.k, .int .i64 x.n, .string x.s, .slice x.la x.ll x.lc, .slice x.oa x.ol x.oc] t1)).alloc (.cells #[.slice a.pa a.pl a.pc, .int .u8 a.k, .int .i64 a.i, .int .i64 a.j, .int .i64 a.n, .string a.s, .slice a.va a.vl a.vc] t2)).alloc (.cells #[.int .u8 0, .slice none 0 0, .string { data:= #[] }, .int .i64 0, .int .i64 0, .int .i64 0, .int .u8 0, .int .i64 0, .string { data:= #[] }, .slice none 0 0, .slice none 0 0, .string { data:= #[] }] t3)) x a:=by
 obtain ⟨w1,hw1⟩:∃w1,w.alloc (.cells #[.int .u8 x.k, .int .i64 x.n, .string x.s, .slice x.la x.ll x.lc, .slice x.oa x.ol x.oc] t1)=w1:=⟨_,rfl⟩
 have s1:w1.heap.size=w.heap.size+1:=by rw [<-hw1,World.size_alloc]
 have b1:Below w.heap.size w w1:=by rw [<-hw1];exact (Below.refl _ _).alloc (Nat.le_refl _) _
 have c1:BC w1 w.heap.size (vcells x):=by rw [<-hw1];exact BC.start w #[.int .u8 x.k, .int .i64 x.n, .string x.s, .slice x.la x.ll x.lc, .slice x.oa x.ol x.oc] t1
 rw [hw1]
 obtain ⟨w2,hw2⟩:∃w2,w1.alloc (.cells #[.slice a.pa a.pl a.pc, .int .u8 a.k, .int .i64 a.i, .int .i64 a.j, .int .i64 a.n, .string a.s, .slice a.va a.vl a.vc] t2)=w2:=⟨_,rfl⟩
 have s2:w2.heap.size=w.heap.size+1+1:=by rw [<-hw2,World.size_alloc,s1]
 have b2:Below w1.heap.size w1 w2:=by rw [<-hw2];exact (Below.refl _ _).alloc (Nat.le_refl _) _
 have c2:=BC.start w1 #[.slice a.pa a.pl a.pc, .int .u8 a.k, .int .i64 a.i, .int .i64 a.j, .int .i64 a.n, .string a.s, .slice a.va a.vl a.vc] t2
 rw [hw2,s1] at c2
 rw [hw2]
 have b3:Below w2.heap.size w2 (w2.alloc (.cells #[.int .u8 0, .slice none 0 0, .string { data:= #[] }, .int .i64 0, .int .i64 0, .int .i64 0, .int .u8 0, .int .i64 0, .string { data:= #[] }, .slice none 0 0, .slice none 0 0, .string { data:= #[] }] t3)):=(Below.refl _ _).alloc (Nat.le_refl _) _
 have c3:=BC.start w2 #[.int .u8 0, .slice none 0 0, .string { data:= #[] }, .int .i64 0, .int .i64 0, .int .i64 0, .int .u8 0, .int .i64 0, .string { data:= #[] }, .slice none 0 0, .slice none 0 0, .string { data:= #[] }] t3
 rw [s2] at c3
 exact ⟨(c1.keep b2 (by omega)).keep b3 (by omega),c2.keep b3 (by omega),c3,(b1.trans (b2.mono (by omega))).trans (b3.mono (by omega))⟩
theorem OH.start {w W W':World} {c:VC} {a:AC} {x:V} {cx:VC} {t:TypeId} (h:OH0 w W c a) (hz:w.heap.size+3<=W.heap.size) (hI:IsVal (only (fun b=>W.heap.size<=b) W') W'.heap.size x cx) (hb:Below W.heap.size W W'):OH w (W'.alloc (.cells #[.int .u8 cx.k, .int .i64 cx.n, .string cx.s, .slice cx.la cx.ll cx.lc, .slice cx.oa cx.ol cx.oc] t)) c a W'.heap.size x cx:=by
 have h1:=h.next hb hz
 have hb2:Below W'.heap.size W' (W'.alloc (.cells #[.int .u8 cx.k, .int .i64 cx.n, .string cx.s, .slice cx.la cx.ll cx.lc, .slice cx.oa cx.ol cx.oc] t)):=(Below.refl _ _).alloc (Nat.le_refl _) _
 have h2:=h1.next hb2 (by have:=hb.size;omega)
 exact ⟨h2.v,h2.a,h2.r,BC.start _ _ _,X1 hI rfl hb2.size fun k _ hl=>⟨by omega,hb2.block k hl⟩,by have:=hb.size;omega,h2.below⟩
theorem OH.next {w W W':World} {c:VC} {a:AC} {xb:Nat} {x:V} {cx:VC} (h:OH w W c a xb x cx) (hb:Below W.heap.size W W'):OH w W' c a xb x cx:=
 ⟨h.v.keep hb h.v.lt,h.a.keep hb h.a.lt,h.r.keep hb h.r.lt,h.bx.keep hb h.bx.lt,X1 h.val rfl hb.size fun k hk hl=>⟨hk,hb.block k hl⟩,h.lo,h.below.trans (hb.mono h.below.size)⟩
theorem OH.round {w W W':World} {c:VC} {a:AC} {xb:Nat} {x y:V} {cx cy:VC} (h:OH w W c a xb x cx) (hb:Below W.heap.size W W') (hI:IsVal (only (fun b=>W.heap.size<=b) W') W'.heap.size y cy):OH w (setV W' xb 0 cy) c a xb y cy:=by
 have h1:=h.next hb
 have hl:=h.lo
 have hxl:=h.bx.lt
 have st:=Zi W' xb 0 cy
 exact ⟨h1.v.next st (by omega),h1.a.next st (by omega),h1.r.next st (by omega),Zz h1.bx cy,X1 hI rfl st.size fun k hk hl=>⟨by omega,st.block k hl (by omega)⟩,hl,Below.set5' h1.below (by omega) _ _ _ _ _⟩
def setC (W:World) (b:Nat) (d:CC):World:=((((((((((((W.setCell ⟨b,0,none⟩ (.int .u8 d.k)).setCell ⟨b,1,none⟩ (.slice d.pa d.pl d.pc)).setCell ⟨b,2,none⟩ (.string d.key)).setCell ⟨b,3,none⟩ (.int .i64 d.i)).setCell ⟨b,4,none⟩ (.int .i64 d.j)).setCell ⟨b,5,none⟩ (.int .i64 d.n)).setCell ⟨b,6,none⟩ (.int .u8 d.v.k)).setCell ⟨b,7,none⟩ (.int .i64 d.v.n)).setCell ⟨b,8,none⟩ (.string d.v.s)).setCell ⟨b,9,none⟩ (.slice d.v.la d.v.ll d.v.lc)).setCell ⟨b,10,none⟩ (.slice d.v.oa d.v.ol d.v.oc)).setCell ⟨b,11,none⟩ (.string d.s))
theorem zbx (W:World) (b:Nat) (d:CC):RStep W (setC W b d) b:=Y4 W b d
def OnePost (w:World) (r:Option Cm) (e:Ending) (w':World):Prop:=
 (∃cc:CC,match r with
   |some x=>e= .returned (.tuple #[.agg #[.int .u8 cc.k, .slice cc.pa cc.pl cc.pc, .string cc.key, .int .i64 cc.i, .int .i64 cc.j, .int .i64 cc.n, .int .u8 cc.v.k, .int .i64 cc.v.n, .string cc.v.s, .slice cc.v.la cc.v.ll cc.v.lc, .slice cc.v.oa cc.v.ol cc.v.oc, .string cc.s], .int .i64 1])/\IsComp (only (fun b=>w.heap.size<=b) w') w'.heap.size x cc
   |none=>e= .returned (.tuple #[.agg #[.int .u8 cc.k, .slice cc.pa cc.pl cc.pc, .string cc.key, .int .i64 cc.i, .int .i64 cc.j, .int .i64 cc.n, .int .u8 cc.v.k, .int .i64 cc.v.n, .string cc.v.s, .slice cc.v.la cc.v.ll cc.v.lc, .slice cc.v.oa cc.v.ol cc.v.oc, .string cc.s], .int .i64 0]))/\Below w.heap.size w w'
theorem za8 {tmps:Array Value} {W:World} {b:Nat} {d:CC} {y:Value} (ht:tmps[4]? =some (.pointer (some ⟨b,0,none⟩))) (hy:tmps[5]? =some y) (h:BC W b (ccells d)):
 (results Tryz.f14 tmps).run Tryz.prog W= .ok (.tuple #[.agg #[.int .u8 d.k, .slice d.pa d.pl d.pc, .string d.key, .int .i64 d.i, .int .i64 d.j, .int .i64 d.n, .int .u8 d.v.k, .int .i64 d.v.n, .string d.v.s, .slice d.v.la d.v.ll d.v.lc, .slice d.v.oa d.v.ol d.v.oc, .string d.s],y]) W:=by
 obtain ⟨r0,r1,r2,r3,r4,r5,r6,r7,r8,r9,r10,r11⟩:=row12 h.at_
 simp [results,Tryz.results14,go_sem,ht,hy,r0,r1,r2,r3,r4,r5,r6,r7,r8,r9,r10,r11]
theorem zdt {w W:World} {d:CC} {p:List St} {x:V} {A:Act} (hr:BC W (w.heap.size+1+1) (ccells czero)) (hp:IsSteps (only (fun b=>w.heap.size+3<=b) W) W.heap.size p d.pa d.pl d.pc) (hx:IsVal (only (fun b=>w.heap.size+3<=b) W) W.heap.size x d.v) (hb:Below w.heap.size w W) (hd:d.Bnd) (ht:A.tmps[4]? =some (.pointer (some ⟨w.heap.size+1+1,0,none⟩))) (hy:A.tmps[5]? =some (.int .i64 1)) (hA:A.defers= []):
 bodyPost Tryz.prog Tryz.f14 (OnePost w (some (cmOf p x d))) .ret A (setC W (w.heap.size+1+1) d):=by
 have st:=zbx W (w.heap.size+1+1) d
 refine ⟨hA,_,za8 ht hy (Zy hr d),⟨d,rfl, ?_⟩,Below.setC hb (by omega) d⟩
 exact .mk d p x hd (Q2 hp rfl st.size fun k hk hl=>⟨by omega,st.block k hl (by omega)⟩) (X1 hx rfl st.size fun k hk hl=>⟨by omega,st.block k hl (by omega)⟩)
theorem zjs {w W:World} {d:CC} {A:Act} (hr:BC W (w.heap.size+1+1) (ccells czero)) (hb:Below w.heap.size w W) (ht:A.tmps[4]? =some (.pointer (some ⟨w.heap.size+1+1,0,none⟩))) (hy:A.tmps[5]? =some (.int .i64 0)) (hA:A.defers= []):
 bodyPost Tryz.prog Tryz.f14 (OnePost w none) .ret A (setC W (w.heap.size+1+1) d):=
 ⟨hA,_,za8 ht hy (Zy hr d),⟨d,rfl⟩,Below.setC hb (by omega) d⟩
theorem IsB.later6 {w w':World} {a:Option Addr} {n c:Nat} {bs:List UInt8} (h:IsB w w.heap.size a n c bs) (hb:Below w.heap.size w w'):IsB w' w'.heap.size a n c bs:=by
 obtain ⟨h1,h2,h3,b,o,h5,h6⟩:=h.keep hb
 exact ⟨h1,h2,h3,b,o,fun h=>⟨(h5 h).1,Nat.lt_of_lt_of_le (h5 h).2 hb.size⟩,h6⟩
theorem zfz {w:World} {B:Nat} {v:V} {c:VC} (h:IsVal w B v c):v.kd=c.k:=by
 obtain ⟨k,n,s,l,o,rfl⟩:=v.eta
 exact h.lists.1.symm
def pathC (pa:Option Addr) (k pc:Nat):CC:=⟨0,pa,k,pc, .empty,0,0,0,vzero, .empty⟩
theorem Qn:ByteArray.empty.size<=140737488355328:=by decide
theorem Kl (pa:Option Addr) (k pc:Nat):(pathC pa k pc).Bnd:=
 ⟨by simp [pathC],by simp [pathC],by simp [pathC],by simp [pathC],by simp [pathC],by simp [pathC],by simp [pathC],by simp [pathC],Qn,Qn⟩
theorem Xr (x:Int) (n:Nat) (hn:n<=1466015503701) (h0:0<n):0<=max x 0 % (n:Int)/\max x 0 % (n:Int)<n:=⟨Int.emod_nonneg _ (by omega),Int.emod_lt_of_pos _ (by omega)⟩
theorem zh2 {n:Nat} (hn:n<=1000000000000) {a:AC} {c:CC} (hc:c.Bnd):(textA n a c).Bnd:=by
 obtain ⟨k0,k1,i0,i1,j0,j1,n0,n1,ks,ss⟩:=hc
 unfold textA
 split
 .rename_i h
  have hi:=Xr a.i n (by omega) h.1
  have hj0:0<=max a.j 0 % ((n:Int) - max a.i 0 % n):=Int.emod_nonneg _ (by omega)
  have hj1:max a.j 0 % ((n:Int) - max a.i 0 % n)<(n:Int) - max a.i 0 % n:=Int.emod_lt_of_pos _ (by omega)
  exact ⟨by dsimp only;omega,by dsimp only;omega,by dsimp only;omega,by dsimp only;omega,j0,j1,by dsimp only;omega,by dsimp only;omega,ks,Qn⟩
 .have hi:=Xr a.i (n+1) (by omega) (by omega)
  push_cast at hi
  have h1:=Yr a.s
  refine ⟨by dsimp only;omega,by dsimp only;omega,by dsimp only;omega,by dsimp only;omega,j0,j1,n0,n1,ks, ?_⟩
  show ({ data:= #[120] } ++plainS a.s:ByteArray).size<=_
  rw [ByteArray.size_append]
  have:({ data:= #[120] } :ByteArray).size=1:=rfl
  omega
theorem zk0 {n:Nat} {k:Int} :4<=listK n k/\listK n k<=7:=by
 unfold listK;split<;>omega
theorem zj9 {n:Nat} (hn:n<=1466015503700) {a:AC} {c:CC} (hc:c.Bnd) (cv:VC):(listA n a c cv).Bnd:=by
 obtain ⟨k0,k1,i0,i1,j0,j1,n0,n1,ks,ss⟩:=hc
 have hk:=zk0 (n:=n) (k:=a.k)
 unfold listA
 have hi: -9223372036854775808<=(if listK n a.k=4 then max a.i 0 % ((n:Int)+1) else max a.i 0 % n)/\(if listK n a.k=4 then max a.i 0 % ((n:Int)+1) else max a.i 0 % n)<=9223372036854775807:=by
  split
  .have:=Xr a.i (n+1) (by omega) (by omega);push_cast at this;omega
  .rename_i h
   have hn0:0<n:=by
    rcases Nat.eq_zero_or_pos n with h0|h0
    .exact absurd (by rw [listK,if_pos h0]) h
    .exact h0
   have:=Xr a.i n (by omega) hn0;omega
 have hj: -9223372036854775808<=(if listK n a.k=7 then max a.j 0 % (n:Int) else c.j)/\(if listK n a.k=7 then max a.j 0 % (n:Int) else c.j)<=9223372036854775807:=by
  split
  .rename_i h
   have hn0:0<n:=by
    rcases Nat.eq_zero_or_pos n with h0|h0
    .rw [listK,if_pos h0] at h;omega
    .exact h0
   have:=Xr a.j n (by omega) hn0;omega
  .exact ⟨j0,j1⟩
 exact ⟨by dsimp only;omega,by dsimp only;omega,hi.1,hi.2,hj.1,hj.2,n0,n1,ks,ss⟩
theorem zix {w:World} {B:Nat} {o:List (ByteArray×V)} {oa:Option Addr} {ol oc:Nat} (ho:IsFields w B o oa ol oc) {a:AC} {c:CC} (hc:c.Bnd) (cv:VC):(fieldA o a c cv).Bnd:=by
 obtain ⟨k0,k1,i0,i1,j0,j1,n0,n1,ks,ss⟩:=hc
 have hp:=Yr a.s
 have hk:(fieldKey o a).size<=140737488355328:=by
  unfold fieldKey
  split
  .rename_i h
   have hi:=Xr a.i o.length (by have:=ho.few;have:=ho.len;omega) h.1
   have hlt:(max a.i 0 % (o.length:Int)).toNat<ol:=by rw [ho.len];omega
   obtain ⟨_,_,_,hq,_,_,_,hs,_,_⟩:=ho.get hlt
   simp only [List.getD_eq_getElem?_getD,List.getElem?_eq_getElem hq,Option.getD_some]
   exact hs
  .omega
 unfold fieldA
 refine ⟨?_, ?_,i0,i1,j0,j1,n0,n1,hk,ss⟩
 .dsimp only;split<;>omega
 .dsimp only;split<;>omega
structure FXB (w W:World) (c:CC) (a:AC) (x:VC):Prop where
 c:BC W w.heap.size (ccells c)
 a:BC W (w.heap.size+1) (acells a)
 x:BC W (w.heap.size+1+1) (vcells x)
 r:BC W (w.heap.size+1+1+1) (ccells czero)
 below:Below w.heap.size w W
theorem FXB.start (w:World) (c:CC) (a:AC) (x:VC) (t1 t2 t3 t4:TypeId):FXB w ((((w.alloc (.cells #[.int .u8 c.k, .slice c.pa c.pl c.pc, .string c.key, .int .i64 c.i, .int .i64 c.j, .int .i64 c.n, .int .u8 c.v.k, .int .i64 c.v.n, .string c.v.s, .slice c.v.la c.v.ll c.v.lc, .slice c.v.oa c.v.ol c.v.oc, .string c.s] t1)).alloc (.cells #[.slice a.pa a.pl a.pc, .int .u8 a.k, .int .i64 a.i, .int .i64 a.j, .int .i64 a.n, .string a.s, .slice a.va a.vl a.vc] t2)).alloc (.cells #[.int .u8 x.k, .int .i64 x.n, .string x.s, .slice x.la x.ll x.lc, .slice x.oa x.ol x.oc] t3)).alloc (.cells #[.int .u8 0, .slice none 0 0, .string { data:= #[] }, .int .i64 0, .int .i64 0, .int .i64 0, .int .u8 0, .int .i64 0, .string { data:= #[] }, .slice none 0 0, .slice none 0 0, .string { data:= #[] }] t4)) c a x:=by
 obtain ⟨w1,hw1⟩:∃w1,w.alloc (.cells #[.int .u8 c.k, .slice c.pa c.pl c.pc, .string c.key, .int .i64 c.i, .int .i64 c.j, .int .i64 c.n, .int .u8 c.v.k, .int .i64 c.v.n, .string c.v.s, .slice c.v.la c.v.ll c.v.lc, .slice c.v.oa c.v.ol c.v.oc, .string c.s] t1)=w1:=⟨_,rfl⟩
 have s1:w1.heap.size=w.heap.size+1:=by rw [<-hw1,World.size_alloc]
 have b1:Below w.heap.size w w1:=by rw [<-hw1];exact (Below.refl _ _).alloc (Nat.le_refl _) _
 have c1:BC w1 w.heap.size (ccells c):=by rw [<-hw1];exact BC.start w #[.int .u8 c.k, .slice c.pa c.pl c.pc, .string c.key, .int .i64 c.i, .int .i64 c.j, .int .i64 c.n, .int .u8 c.v.k, .int .i64 c.v.n, .string c.v.s, .slice c.v.la c.v.ll c.v.lc, .slice c.v.oa c.v.ol c.v.oc, .string c.s] t1
 rw [hw1]
 obtain ⟨w2,hw2⟩:∃w2,w1.alloc (.cells #[.slice a.pa a.pl a.pc, .int .u8 a.k, .int .i64 a.i, .int .i64 a.j, .int .i64 a.n, .string a.s, .slice a.va a.vl a.vc] t2)=w2:=⟨_,rfl⟩
 have s2:w2.heap.size=w.heap.size+1+1:=by rw [<-hw2,World.size_alloc,s1]
 have b2:Below w1.heap.size w1 w2:=by rw [<-hw2];exact (Below.refl _ _).alloc (Nat.le_refl _) _
 have c2:=BC.start w1 #[.slice a.pa a.pl a.pc, .int .u8 a.k, .int .i64 a.i, .int .i64 a.j, .int .i64 a.n, .string a.s, .slice a.va a.vl a.vc] t2
 rw [hw2,s1] at c2
 rw [hw2]
 obtain ⟨w3,hw3⟩:∃w3,w2.alloc (.cells #[.int .u8 x.k, .int .i64 x.n, .string x.s, .slice x.la x.ll x.lc, .slice x.oa x.ol x.oc] t3)=w3:=⟨_,rfl⟩
 have s3:w3.heap.size=w.heap.size+1+1+1:=by rw [<-hw3,World.size_alloc,s2]
 have b3:Below w2.heap.size w2 w3:=by rw [<-hw3];exact (Below.refl _ _).alloc (Nat.le_refl _) _
 have c3:=BC.start w2 #[.int .u8 x.k, .int .i64 x.n, .string x.s, .slice x.la x.ll x.lc, .slice x.oa x.ol x.oc] t3
 rw [hw3,s2] at c3
 rw [hw3]
 have b4:Below w3.heap.size w3 (w3.alloc (.cells #[.int .u8 0, .slice none 0 0, .string { data:= #[] }, .int .i64 0, .int .i64 0, .int .i64 0, .int .u8 0, .int .i64 0, .string { data:= #[] }, .slice none 0 0, .slice none 0 0, .string { data:= #[] }] t4)):=(Below.refl _ _).alloc (Nat.le_refl _) _
 have c4:=BC.start w3 #[.int .u8 0, .slice none 0 0, .string { data:= #[] }, .int .i64 0, .int .i64 0, .int .i64 0, .int .u8 0, .int .i64 0, .string { data:= #[] }, .slice none 0 0, .slice none 0 0, .string { data:= #[] }] t4
 rw [s3] at c4
 exact ⟨((c1.keep b2 (by omega)).keep b3 (by omega)).keep b4 (by omega),(c2.keep b3 (by omega)).keep b4 (by omega),c3.keep b4 (by omega),c4,((b1.trans (b2.mono (by omega))).trans (b3.mono (by omega))).trans (b4.mono (by omega))⟩
theorem FXB.next {w W W':World} {c:CC} {a:AC} {x:VC} {B:Nat} (h:FXB w W c a x) (hb:Below B W W') (hB:w.heap.size+4<=B):FXB w W' c a x:=
 ⟨h.c.keep hb (by omega),h.a.keep hb (by omega),h.x.keep hb (by omega),h.r.keep hb (by omega),h.below.trans (hb.mono (by omega))⟩
theorem FXB.key {w W:World} {c:CC} {a:AC} {x:VC} (h:FXB w W c a x) (s:ByteArray):FXB w (W.setCell ⟨w.heap.size,2,none⟩ (.string s)) { c with key:=s } a x:=
 ⟨h.c.set (i:=2) (x:= .string s) (by simp [ccells]),h.a.far (by omega),h.x.far (by omega),h.r.far (by omega),h.below.set_ (Nat.le_refl _)⟩
theorem FXB.facts {w W:World} {c:CC} {a:AC} {x:VC} (B:FXB w W c a x):W.cell? ⟨w.heap.size,0,none⟩=some (.int .u8 c.k)/\W.cell? ⟨w.heap.size,1,none⟩=some (.slice c.pa c.pl c.pc)/\W.cell? ⟨w.heap.size,2,none⟩=some (.string c.key)/\W.cell? ⟨w.heap.size,3,none⟩=some (.int .i64 c.i)/\W.cell? ⟨w.heap.size,4,none⟩=some (.int .i64 c.j)/\W.cell? ⟨w.heap.size,5,none⟩=some (.int .i64 c.n)/\W.cell? ⟨w.heap.size,6,none⟩=some (.int .u8 c.v.k)/\W.cell? ⟨w.heap.size,7,none⟩=some (.int .i64 c.v.n)/\W.cell? ⟨w.heap.size,8,none⟩=some (.string c.v.s)/\W.cell? ⟨w.heap.size,9,none⟩=some (.slice c.v.la c.v.ll c.v.lc)/\W.cell? ⟨w.heap.size,10,none⟩=some (.slice c.v.oa c.v.ol c.v.oc)/\W.cell? ⟨w.heap.size,11,none⟩=some (.string c.s)/\W.cell? ⟨w.heap.size+1,0,none⟩=some (.slice a.pa a.pl a.pc)/\W.cell? ⟨w.heap.size+1,1,none⟩=some (.int .u8 a.k)/\W.cell? ⟨w.heap.size+1,2,none⟩=some (.int .i64 a.i)/\W.cell? ⟨w.heap.size+1,3,none⟩=some (.int .i64 a.j)/\W.cell? ⟨w.heap.size+1,4,none⟩=some (.int .i64 a.n)/\W.cell? ⟨w.heap.size+1,5,none⟩=some (.string a.s)/\W.cell? ⟨w.heap.size+1,6,none⟩=some (.slice a.va a.vl a.vc)/\W.cell? ⟨w.heap.size+1+1,0,none⟩=some (.int .u8 x.k)/\W.cell? ⟨w.heap.size+1+1,1,none⟩=some (.int .i64 x.n)/\W.cell? ⟨w.heap.size+1+1,2,none⟩=some (.string x.s)/\W.cell? ⟨w.heap.size+1+1,3,none⟩=some (.slice x.la x.ll x.lc)/\W.cell? ⟨w.heap.size+1+1,4,none⟩=some (.slice x.oa x.ol x.oc)/\W.cell? ⟨w.heap.size+1+1+1,0,none⟩=some (.int .u8 0)/\W.cell? ⟨w.heap.size+1+1+1,1,none⟩=some (.slice none 0 0)/\W.cell? ⟨w.heap.size+1+1+1,2,none⟩=some (.string { data:= #[] })/\W.cell? ⟨w.heap.size+1+1+1,3,none⟩=some (.int .i64 0)/\W.cell? ⟨w.heap.size+1+1+1,4,none⟩=some (.int .i64 0)/\W.cell? ⟨w.heap.size+1+1+1,5,none⟩=some (.int .i64 0)/\W.cell? ⟨w.heap.size+1+1+1,6,none⟩=some (.int .u8 0)/\W.cell? ⟨w.heap.size+1+1+1,7,none⟩=some (.int .i64 0)/\W.cell? ⟨w.heap.size+1+1+1,8,none⟩=some (.string { data:= #[] })/\W.cell? ⟨w.heap.size+1+1+1,9,none⟩=some (.slice none 0 0)/\W.cell? ⟨w.heap.size+1+1+1,10,none⟩=some (.slice none 0 0)/\W.cell? ⟨w.heap.size+1+1+1,11,none⟩=some (.string { data:= #[] })/\W.frozen? ⟨w.heap.size,0,none⟩=false/\W.frozen? ⟨w.heap.size,1,none⟩=false/\W.frozen? ⟨w.heap.size,2,none⟩=false/\W.frozen? ⟨w.heap.size,3,none⟩=false/\W.frozen? ⟨w.heap.size,4,none⟩=false/\W.frozen? ⟨w.heap.size,5,none⟩=false/\W.frozen? ⟨w.heap.size,6,none⟩=false/\W.frozen? ⟨w.heap.size,7,none⟩=false/\W.frozen? ⟨w.heap.size,8,none⟩=false/\W.frozen? ⟨w.heap.size,9,none⟩=false/\W.frozen? ⟨w.heap.size,10,none⟩=false/\W.frozen? ⟨w.heap.size,11,none⟩=false/\W.frozen? ⟨w.heap.size+1+1+1,0,none⟩=false/\W.frozen? ⟨w.heap.size+1+1+1,1,none⟩=false/\W.frozen? ⟨w.heap.size+1+1+1,2,none⟩=false/\W.frozen? ⟨w.heap.size+1+1+1,3,none⟩=false/\W.frozen? ⟨w.heap.size+1+1+1,4,none⟩=false/\W.frozen? ⟨w.heap.size+1+1+1,5,none⟩=false/\W.frozen? ⟨w.heap.size+1+1+1,6,none⟩=false/\W.frozen? ⟨w.heap.size+1+1+1,7,none⟩=false/\W.frozen? ⟨w.heap.size+1+1+1,8,none⟩=false/\W.frozen? ⟨w.heap.size+1+1+1,9,none⟩=false/\W.frozen? ⟨w.heap.size+1+1+1,10,none⟩=false/\W.frozen? ⟨w.heap.size+1+1+1,11,none⟩=false/\w.heap.size<W.heap.size/\w.heap.size+1<W.heap.size/\w.heap.size+1+1<W.heap.size/\w.heap.size+1+1+1<W.heap.size:=
 ⟨B.c.at_ 0 _ rfl,B.c.at_ 1 _ rfl,B.c.at_ 2 _ rfl,B.c.at_ 3 _ rfl,B.c.at_ 4 _ rfl,B.c.at_ 5 _ rfl,B.c.at_ 6 _ rfl,B.c.at_ 7 _ rfl,B.c.at_ 8 _ rfl,B.c.at_ 9 _ rfl,B.c.at_ 10 _ rfl,B.c.at_ 11 _ rfl,B.a.at_ 0 _ rfl,B.a.at_ 1 _ rfl,B.a.at_ 2 _ rfl,B.a.at_ 3 _ rfl,B.a.at_ 4 _ rfl,B.a.at_ 5 _ rfl,B.a.at_ 6 _ rfl,B.x.at_ 0 _ rfl,B.x.at_ 1 _ rfl,B.x.at_ 2 _ rfl,B.x.at_ 3 _ rfl,B.x.at_ 4 _ rfl,B.r.at_ 0 _ rfl,B.r.at_ 1 _ rfl,B.r.at_ 2 _ rfl,B.r.at_ 3 _ rfl,B.r.at_ 4 _ rfl,B.r.at_ 5 _ rfl,B.r.at_ 6 _ rfl,B.r.at_ 7 _ rfl,B.r.at_ 8 _ rfl,B.r.at_ 9 _ rfl,B.r.at_ 10 _ rfl,B.r.at_ 11 _ rfl,B.c.fr 0,B.c.fr 1,B.c.fr 2,B.c.fr 3,B.c.fr 4,B.c.fr 5,B.c.fr 6,B.c.fr 7,B.c.fr 8,B.c.fr 9,B.c.fr 10,B.c.fr 11,B.r.fr 0,B.r.fr 1,B.r.fr 2,B.r.fr 3,B.r.fr 4,B.r.fr 5,B.r.fr 6,B.r.fr 7,B.r.fr 8,B.r.fr 9,B.r.fr 10,B.r.fr 11,B.c.lt,B.a.lt,B.x.lt,B.r.lt⟩
end Go.Proofs.YtnjgbiachcfigaaGreatDoor
