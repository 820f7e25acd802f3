/-
  Contracts of the functions that the law reaches: conciliatorlaw06.One: what stands in.
-/
import Derived.Test.YtnjgbiachcfigaaGreatDoorIw24
namespace Go.Proofs.YtnjgbiachcfigaaGreatDoor
open Go.RowKit
set_option maxHeartbeats 16000000
theorem OH0.start (w:World) (x:VC) (a:AC) (t1 t2 t3:TypeId):OH0 w (((w.alloc (.cells #[.int .u8 x.k, .int .i64 x.n, .string x.s, .slice x.la x.ll x.lc, .slice x.oa x.ol x.oc] t1)).alloc (.cells #[.slice a.pa a.pl a.pc, .int .u8 a.k, .int .i64 a.i, .int .i64 a.j, .int .i64 a.n, .string a.s, .slice a.va a.vl a.vc] t2)).alloc (.cells #[.int .u8 0, .slice none 0 0, .string { data:= #[] }, .int .i64 0, .int .i64 0, .int .i64 0, .int .u8 0, .int .i64 0, .string { data:= #[] }, .slice none 0 0, .slice none 0 0, .string { data:= #[] }] t3)) x a:=by
 obtain ⟨w1,hw1⟩:∃w1,w.alloc (.cells (uV x) t1)=w1:=⟨_,rfl⟩
 have s1:w1.heap.size=w.heap.size+1:=by rw [<-hw1,World.size_alloc]
 have b1:uB w w1:=by rw [<-hw1];exact (Below.refl _ _).alloc (Nat.le_refl _) _
 have c1:BC w1 w.heap.size (vcells x):=by rw [<-hw1];exact BC.start w (uV x) t1
 rw [hw1]
 obtain ⟨w2,hw2⟩:∃w2,w1.alloc (.cells (uA a) t2)=w2:=⟨_,rfl⟩
 have s2:w2.heap.size=w.heap.size+1+1:=by rw [<-hw2,World.size_alloc,s1]
 have b2:uB w1 w2:=by rw [<-hw2];exact (Below.refl _ _).alloc (Nat.le_refl _) _
 have c2:=BC.start w1 (uA a) t2
 rw [hw2,s1] at c2
 rw [hw2]
 have b3:uB w2 (w2.alloc (.cells #[.int .u8 0, .slice none 0 0, .string { data:= #[] }, .int .i64 0, .int .i64 0, .int .i64 0, .int .u8 0, .int .i64 0, .string { data:= #[] }, .slice none 0 0, .slice none 0 0, .string { data:= #[] }] t3)):=(Below.refl _ _).alloc (Nat.le_refl _) _
 have c3:=BC.start w2 #[.int .u8 0, .slice none 0 0, .string { data:= #[] }, .int .i64 0, .int .i64 0, .int .i64 0, .int .u8 0, .int .i64 0, .string { data:= #[] }, .slice none 0 0, .slice none 0 0, .string { data:= #[] }] t3
 rw [s2] at c3
 exact ⟨(c1.keep b2 (by omega)).keep b3 (by omega),c2.keep b3 (by omega),c3,(b1.trans (b2.mono (by omega))).trans (b3.mono (by omega))⟩
theorem OH.start {w W W':World} {c:VC} {a:AC} {x:V} {cx:VC} {t:TypeId} (h:OH0 w W c a) (hz:w.heap.size+3<=W.heap.size) (hI:IsVal (only (fun b=>W.heap.size<=b) W') W'.heap.size x cx) (hb:uB W W'):OH w (W'.alloc (.cells #[.int .u8 cx.k, .int .i64 cx.n, .string cx.s, .slice cx.la cx.ll cx.lc, .slice cx.oa cx.ol cx.oc] t)) c a W'.heap.size x cx:=by
 have h1:=h.next hb hz
 have hb2:uB W' (W'.alloc (.cells (uV cx) t)):=(Below.refl _ _).alloc (Nat.le_refl _) _
 have h2:=h1.next hb2 (by have:=hb.size;omega)
 exact ⟨h2.v,h2.a,h2.r,BC.start _ _ _,Z2 hI rfl hb2.size fun k _ hl=>⟨by omega,hb2.block k hl⟩,by have:=hb.size;omega,h2.below⟩
theorem OH.next {w W W':World} {c:VC} {a:AC} {xb:Nat} {x:V} {cx:VC} (h:OH w W c a xb x cx) (hb:uB W W'):OH w W' c a xb x cx:=
 ⟨h.v.keep hb h.v.lt,h.a.keep hb h.a.lt,h.r.keep hb h.r.lt,h.bx.keep hb h.bx.lt,Z2 h.val rfl hb.size fun k hk hl=>⟨hk,hb.block k hl⟩,h.lo,h.below.trans (hb.mono h.below.size)⟩
theorem OH.round {w W W':World} {c:VC} {a:AC} {xb:Nat} {x y:V} {cx cy:VC} (h:OH w W c a xb x cx) (hb:uB W W') (hI:IsVal (only (fun b=>W.heap.size<=b) W') W'.heap.size y cy):OH w (setV W' xb 0 cy) c a xb y cy:=by
 have h1:=h.next hb
 have hl:=h.lo
 have hxl:=h.bx.lt
 have st:=Zi W' xb 0 cy
 exact ⟨h1.v.next st (by omega),h1.a.next st (by omega),h1.r.next st (by omega),Z5 h1.bx cy,Z2 hI rfl st.size fun k hk hl=>⟨by omega,st.block k hl (by omega)⟩,hl,Below.set5' h1.below (by omega) _ _ _ _ _⟩
def OnePost (w:World) (r:Option Cm) (e:Ending) (w':World):Prop:=
 (∃cc:CC,match r with
   |some x=>e= .returned (.tuple #[.agg #[.int .u8 cc.k, .slice cc.pa cc.pl cc.pc, .string cc.key, .int .i64 cc.i, .int .i64 cc.j, .int .i64 cc.n, .int .u8 cc.v.k, .int .i64 cc.v.n, .string cc.v.s, .slice cc.v.la cc.v.ll cc.v.lc, .slice cc.v.oa cc.v.ol cc.v.oc, .string cc.s], .int .i64 1])/\IsComp (only (fun b=>w.heap.size<=b) w') w'.heap.size x cc
   |none=>e= .returned (.tuple #[.agg #[.int .u8 cc.k, .slice cc.pa cc.pl cc.pc, .string cc.key, .int .i64 cc.i, .int .i64 cc.j, .int .i64 cc.n, .int .u8 cc.v.k, .int .i64 cc.v.n, .string cc.v.s, .slice cc.v.la cc.v.ll cc.v.lc, .slice cc.v.oa cc.v.ol cc.v.oc, .string cc.s], .int .i64 0])/\∃x:Cm,x.v.weight<=1/\x.s.size=0/\IsComp (only (fun b=>w.heap.size<=b) w') w'.heap.size x cc)/\Below w.heap.size w w'
theorem zcr {tmps:Array Value} {W:World} {b:Nat} {d:CC} {y:Value} (ht:tmps[4]? =some (.pointer (some ⟨b,0,none⟩))) (hy:tmps[5]? =some y) (h:BC W b (ccells d)):
 (results Tryz.f14 tmps).run Tryz.prog W= .ok (.tuple #[.agg #[.int .u8 d.k, .slice d.pa d.pl d.pc, .string d.key, .int .i64 d.i, .int .i64 d.j, .int .i64 d.n, .int .u8 d.v.k, .int .i64 d.v.n, .string d.v.s, .slice d.v.la d.v.ll d.v.lc, .slice d.v.oa d.v.ol d.v.oc, .string d.s],y]) W:=by
 obtain ⟨r0,r1,r2,r3,r4,r5,r6,r7,r8,r9,r10,r11⟩:=row12 h.at_
 simp [results,Tryz.results14,go_sem,ht,hy,r0,r1,r2,r3,r4,r5,r6,r7,r8,r9,r10,r11]
theorem zo4 {w W:World} {d:CC} {p:List St} {x:V} {A:Act} (hr:BC W (w.heap.size+1+1) (ccells czero)) (hp:IsSteps (only (fun b=>w.heap.size+3<=b) W) W.heap.size p d.pa d.pl d.pc) (hx:IsVal (only (fun b=>w.heap.size+3<=b) W) W.heap.size x d.v) (hb:uB w W) (hd:d.Bnd) (ht:A.tmps[4]? =some (.pointer (some ⟨w.heap.size+1+1,0,none⟩))) (hy:A.tmps[5]? =some (.int .i64 1)) (hA:A.defers= []):
 bodyPost Tryz.prog Tryz.f14 (OnePost w (some (cmOf p x d))) .ret A (setC W (w.heap.size+1+1) d):=by
 have st:=Yk W (w.heap.size+1+1) d
 refine ⟨hA,_,zcr ht hy (Zp hr d),⟨d,rfl, ?_⟩,Below.setC hb (by omega) d⟩
 exact .mk d p x hd (Qk hp rfl st.size fun k hk hl=>⟨by omega,st.block k hl (by omega)⟩) (Z2 hx rfl st.size fun k hk hl=>⟨by omega,st.block k hl (by omega)⟩)
theorem zl2 {w W:World} {d:CC} {p:List St} {A:Act} (hr:BC W (w.heap.size+1+1) (ccells czero)) (hp:IsSteps (only (fun b=>w.heap.size+3<=b) W) W.heap.size p d.pa d.pl d.pc) (hx:IsVal (only (fun b=>w.heap.size+3<=b) W) W.heap.size V.none d.v) (hd:d.Bnd) (hs:d.s.size=0) (hb:uB w W) (ht:A.tmps[4]? =some (.pointer (some ⟨w.heap.size+1+1,0,none⟩))) (hy:A.tmps[5]? =some (.int .i64 0)) (hA:A.defers= []):
 bodyPost Tryz.prog Tryz.f14 (OnePost w none) .ret A (setC W (w.heap.size+1+1) d):=by
 have st:=Yk W (w.heap.size+1+1) d
 refine ⟨hA,_,zcr ht hy (Zp hr d),⟨d,rfl,cmOf p V.none d,by simp [cmOf,V.none,V.weight,weightL,weightO],hs, ?_⟩,Below.setC hb (by omega) d⟩
 exact .mk d p V.none hd (Qk hp rfl st.size fun k hk hl=>⟨by omega,st.block k hl (by omega)⟩) (Z2 hx rfl st.size fun k hk hl=>⟨by omega,st.block k hl (by omega)⟩)
theorem IsB.later6 {w w':World} {a:Option Addr} {n c:Nat} {bs:List UInt8} (h:IsB w w.heap.size a n c bs) (hb:uB w w'):IsB w' w'.heap.size a n c bs:=by
 obtain ⟨h1,h2,h3,b,o,h5,h6⟩:=h.keep hb
 exact ⟨h1,h2,h3,b,o,fun h=>⟨(h5 h).1,Nat.lt_of_lt_of_le (h5 h).2 hb.size⟩,h6⟩
theorem zk4 {w:World} {B:Nat} {v:V} {c:VC} (h:IsVal w B v c):v.kd=c.k:=by
 obtain ⟨k,n,s,l,o,rfl⟩:=v.eta
 exact h.lists.1.symm
def pathC (pa:Option Addr) (k pc:Nat):CC:=⟨0,pa,k,pc, .empty,0,0,0,vzero, .empty⟩
theorem Jl:ByteArray.empty.size<=140737488355328:=by decide
theorem J1 (pa:Option Addr) (k pc:Nat):(pathC pa k pc).Bnd:=
 ⟨by simp [pathC],by simp [pathC],by simp [pathC],by simp [pathC],by simp [pathC],by simp [pathC],by simp [pathC],by simp [pathC],Jl,Jl⟩
theorem Qz (x:Int) (n:Nat) (hn:n<=1466015503701) (h0:0<n):0<=max x 0 % (n:Int)/\max x 0 % (n:Int)<n:=⟨Int.emod_nonneg _ (by omega),Int.emod_lt_of_pos _ (by omega)⟩
theorem zgr {n:Nat} (hn:n<=1000000000000) {a:AC} {c:CC} (hc:c.Bnd):(textA n a c).Bnd:=by
 obtain ⟨k0,k1,i0,i1,j0,j1,n0,n1,ks,ss⟩:=hc
 unfold textA
 split
 .rename_i h
  have hi:=Qz a.i n (by omega) h.1
  have hj0:0<=max a.j 0 % ((n:Int) - max a.i 0 % n):=Int.emod_nonneg _ (by omega)
  have hj1:max a.j 0 % ((n:Int) - max a.i 0 % n)<(n:Int) - max a.i 0 % n:=Int.emod_lt_of_pos _ (by omega)
  exact ⟨by dsimp only;omega,by dsimp only;omega,by dsimp only;omega,by dsimp only;omega,j0,j1,by dsimp only;omega,by dsimp only;omega,ks,Jl⟩
 .have hi:=Qz a.i (n+1) (by omega) (by omega)
  push_cast at hi
  have h1:=Xb a.s
  refine ⟨by dsimp only;omega,by dsimp only;omega,by dsimp only;omega,by dsimp only;omega,j0,j1,n0,n1,ks, ?_⟩
  show ({ data:= #[120] } ++plainS a.s:ByteArray).size<=_
  rw [ByteArray.size_append]
  have:({ data:= #[120] } :ByteArray).size=1:=rfl
  omega
theorem zqv {n:Nat} {k:Int} :4<=listK n k/\listK n k<=7:=by
 unfold listK;split<;>omega
theorem zho {n:Nat} (hn:n<=1466015503700) {a:AC} {c:CC} (hc:c.Bnd) (cv:VC):(listA n a c cv).Bnd:=by
 obtain ⟨k0,k1,i0,i1,j0,j1,n0,n1,ks,ss⟩:=hc
 have hk:=zqv (n:=n) (k:=a.k)
 unfold listA
 have hi: -9223372036854775808<=(if listK n a.k=4 then max a.i 0 % ((n:Int)+1) else max a.i 0 % n)/\(if listK n a.k=4 then max a.i 0 % ((n:Int)+1) else max a.i 0 % n)<=9223372036854775807:=by
  split
  .have:=Qz a.i (n+1) (by omega) (by omega);push_cast at this;omega
  .rename_i h
   have hn0:0<n:=by
    rcases Nat.eq_zero_or_pos n with h0|h0
    .exact absurd (by rw [listK,if_pos h0]) h
    .exact h0
   have:=Qz a.i n (by omega) hn0;omega
 have hj: -9223372036854775808<=(if listK n a.k=7 then max a.j 0 % (n:Int) else c.j)/\(if listK n a.k=7 then max a.j 0 % (n:Int) else c.j)<=9223372036854775807:=by
  split
  .rename_i h
   have hn0:0<n:=by
    rcases Nat.eq_zero_or_pos n with h0|h0
    .rw [listK,if_pos h0] at h;omega
    .exact h0
   have:=Qz a.j n (by omega) hn0;omega
  .exact ⟨j0,j1⟩
 exact ⟨by dsimp only;omega,by dsimp only;omega,hi.1,hi.2,hj.1,hj.2,n0,n1,ks,ss⟩
theorem zpa {w:World} {B:Nat} {o:List (ByteArray×V)} {oa:Option Addr} {ol oc:Nat} (ho:IsFields w B o oa ol oc) {a:AC} {c:CC} (hc:c.Bnd) (cv:VC):(fieldA o a c cv).Bnd:=by
 obtain ⟨k0,k1,i0,i1,j0,j1,n0,n1,ks,ss⟩:=hc
 have hp:=Xb a.s
 have hk:(fieldKey o a).size<=140737488355328:=by
  unfold fieldKey
  split
  .rename_i h
   have hi:=Qz a.i o.length (by have:=ho.few;have:=ho.len;omega) h.1
   have hlt:(max a.i 0 % (o.length:Int)).toNat<ol:=by rw [ho.len];omega
   obtain ⟨_,_,_,hq,_,_,_,hs,_,_⟩:=ho.get hlt
   simp only [List.getD_eq_getElem?_getD,List.getElem?_eq_getElem hq,Option.getD_some]
   exact hs
  .omega
 unfold fieldA
 refine ⟨?_, ?_,i0,i1,j0,j1,n0,n1,hk,ss⟩
 .dsimp only;split<;>omega
 .dsimp only;split<;>omega
structure FXB (w W:World) (c:CC) (a:AC) (x:VC):Prop where
 c:BC W w.heap.size (ccells c)
 a:BC W (w.heap.size+1) (acells a)
 x:BC W (w.heap.size+1+1) (vcells x)
 r:BC W (w.heap.size+1+1+1) (ccells czero)
 below:Below w.heap.size w W
theorem FXB.start (w:World) (c:CC) (a:AC) (x:VC) (t1 t2 t3 t4:TypeId):FXB w ((((w.alloc (.cells #[.int .u8 c.k, .slice c.pa c.pl c.pc, .string c.key, .int .i64 c.i, .int .i64 c.j, .int .i64 c.n, .int .u8 c.v.k, .int .i64 c.v.n, .string c.v.s, .slice c.v.la c.v.ll c.v.lc, .slice c.v.oa c.v.ol c.v.oc, .string c.s] t1)).alloc (.cells #[.slice a.pa a.pl a.pc, .int .u8 a.k, .int .i64 a.i, .int .i64 a.j, .int .i64 a.n, .string a.s, .slice a.va a.vl a.vc] t2)).alloc (.cells #[.int .u8 x.k, .int .i64 x.n, .string x.s, .slice x.la x.ll x.lc, .slice x.oa x.ol x.oc] t3)).alloc (.cells #[.int .u8 0, .slice none 0 0, .string { data:= #[] }, .int .i64 0, .int .i64 0, .int .i64 0, .int .u8 0, .int .i64 0, .string { data:= #[] }, .slice none 0 0, .slice none 0 0, .string { data:= #[] }] t4)) c a x:=by
 obtain ⟨w1,hw1⟩:∃w1,w.alloc (.cells (uC c) t1)=w1:=⟨_,rfl⟩
 have s1:w1.heap.size=w.heap.size+1:=by rw [<-hw1,World.size_alloc]
 have b1:uB w w1:=by rw [<-hw1];exact (Below.refl _ _).alloc (Nat.le_refl _) _
 have c1:BC w1 w.heap.size (ccells c):=by rw [<-hw1];exact BC.start w (uC c) t1
 rw [hw1]
 obtain ⟨w2,hw2⟩:∃w2,w1.alloc (.cells (uA a) t2)=w2:=⟨_,rfl⟩
 have s2:w2.heap.size=w.heap.size+1+1:=by rw [<-hw2,World.size_alloc,s1]
 have b2:uB w1 w2:=by rw [<-hw2];exact (Below.refl _ _).alloc (Nat.le_refl _) _
 have c2:=BC.start w1 (uA a) t2
 rw [hw2,s1] at c2
 rw [hw2]
 obtain ⟨w3,hw3⟩:∃w3,w2.alloc (.cells (uV x) t3)=w3:=⟨_,rfl⟩
 have s3:w3.heap.size=w.heap.size+1+1+1:=by rw [<-hw3,World.size_alloc,s2]
 have b3:uB w2 w3:=by rw [<-hw3];exact (Below.refl _ _).alloc (Nat.le_refl _) _
 have c3:=BC.start w2 (uV x) t3
 rw [hw3,s2] at c3
 rw [hw3]
 have b4:uB w3 (w3.alloc (.cells #[.int .u8 0, .slice none 0 0, .string { data:= #[] }, .int .i64 0, .int .i64 0, .int .i64 0, .int .u8 0, .int .i64 0, .string { data:= #[] }, .slice none 0 0, .slice none 0 0, .string { data:= #[] }] t4)):=(Below.refl _ _).alloc (Nat.le_refl _) _
 have c4:=BC.start w3 #[.int .u8 0, .slice none 0 0, .string { data:= #[] }, .int .i64 0, .int .i64 0, .int .i64 0, .int .u8 0, .int .i64 0, .string { data:= #[] }, .slice none 0 0, .slice none 0 0, .string { data:= #[] }] t4
 rw [s3] at c4
 exact ⟨((c1.keep b2 (by omega)).keep b3 (by omega)).keep b4 (by omega),(c2.keep b3 (by omega)).keep b4 (by omega),c3.keep b4 (by omega),c4,((b1.trans (b2.mono (by omega))).trans (b3.mono (by omega))).trans (b4.mono (by omega))⟩
theorem FXB.next {w W W':World} {c:CC} {a:AC} {x:VC} {B:Nat} (h:FXB w W c a x) (hb:Below B W W') (hB:w.heap.size+4<=B):FXB w W' c a x:=
 ⟨h.c.keep hb (by omega),h.a.keep hb (by omega),h.x.keep hb (by omega),h.r.keep hb (by omega),h.below.trans (hb.mono (by omega))⟩
theorem FXB.key {w W:World} {c:CC} {a:AC} {x:VC} (h:FXB w W c a x) (s:ByteArray):FXB w (W.setCell ⟨w.heap.size,2,none⟩ (.string s)) { c with key:=s } a x:=
 ⟨h.c.set (i:=2) (x:= .string s) (by simp [ccells]),h.a.far (by omega),h.x.far (by omega),h.r.far (by omega),h.below.set_ (Nat.le_refl _)⟩
theorem FXB.facts {w W:World} {c:CC} {a:AC} {x:VC} (B:FXB w W c a x):W.cell? ⟨w.heap.size,0,none⟩=some (.int .u8 c.k)/\W.cell? ⟨w.heap.size,1,none⟩=some (.slice c.pa c.pl c.pc)/\W.cell? ⟨w.heap.size,2,none⟩=some (.string c.key)/\W.cell? ⟨w.heap.size,3,none⟩=some (.int .i64 c.i)/\W.cell? ⟨w.heap.size,4,none⟩=some (.int .i64 c.j)/\W.cell? ⟨w.heap.size,5,none⟩=some (.int .i64 c.n)/\W.cell? ⟨w.heap.size,6,none⟩=some (.int .u8 c.v.k)/\W.cell? ⟨w.heap.size,7,none⟩=some (.int .i64 c.v.n)/\W.cell? ⟨w.heap.size,8,none⟩=some (.string c.v.s)/\W.cell? ⟨w.heap.size,9,none⟩=some (.slice c.v.la c.v.ll c.v.lc)/\W.cell? ⟨w.heap.size,10,none⟩=some (.slice c.v.oa c.v.ol c.v.oc)/\W.cell? ⟨w.heap.size,11,none⟩=some (.string c.s)/\W.cell? ⟨w.heap.size+1,0,none⟩=some (.slice a.pa a.pl a.pc)/\W.cell? ⟨w.heap.size+1,1,none⟩=some (.int .u8 a.k)/\W.cell? ⟨w.heap.size+1,2,none⟩=some (.int .i64 a.i)/\W.cell? ⟨w.heap.size+1,3,none⟩=some (.int .i64 a.j)/\W.cell? ⟨w.heap.size+1,4,none⟩=some (.int .i64 a.n)/\W.cell? ⟨w.heap.size+1,5,none⟩=some (.string a.s)/\W.cell? ⟨w.heap.size+1,6,none⟩=some (.slice a.va a.vl a.vc)/\W.cell? ⟨w.heap.size+1+1,0,none⟩=some (.int .u8 x.k)/\W.cell? ⟨w.heap.size+1+1,1,none⟩=some (.int .i64 x.n)/\W.cell? ⟨w.heap.size+1+1,2,none⟩=some (.string x.s)/\W.cell? ⟨w.heap.size+1+1,3,none⟩=some (.slice x.la x.ll x.lc)/\W.cell? ⟨w.heap.size+1+1,4,none⟩=some (.slice x.oa x.ol x.oc)/\W.cell? ⟨w.heap.size+1+1+1,0,none⟩=some (.int .u8 0)/\W.cell? ⟨w.heap.size+1+1+1,1,none⟩=some (.slice none 0 0)/\W.cell? ⟨w.heap.size+1+1+1,2,none⟩=some (.string { data:= #[] })/\W.cell? ⟨w.heap.size+1+1+1,3,none⟩=some (.int .i64 0)/\W.cell? ⟨w.heap.size+1+1+1,4,none⟩=some (.int .i64 0)/\W.cell? ⟨w.heap.size+1+1+1,5,none⟩=some (.int .i64 0)/\W.cell? ⟨w.heap.size+1+1+1,6,none⟩=some (.int .u8 0)/\W.cell? ⟨w.heap.size+1+1+1,7,none⟩=some (.int .i64 0)/\W.cell? ⟨w.heap.size+1+1+1,8,none⟩=some (.string { data:= #[] })/\W.cell? ⟨w.heap.size+1+1+1,9,none⟩=some (.slice none 0 0)/\W.cell? ⟨w.heap.size+1+1+1,10,none⟩=some (.slice none 0 0)/\W.cell? ⟨w.heap.size+1+1+1,11,none⟩=some (.string { data:= #[] })/\W.frozen? ⟨w.heap.size,0,none⟩=false/\W.frozen? ⟨w.heap.size,1,none⟩=false/\W.frozen? ⟨w.heap.size,2,none⟩=false/\W.frozen? ⟨w.heap.size,3,none⟩=false/\W.frozen? ⟨w.heap.size,4,none⟩=false/\W.frozen? ⟨w.heap.size,5,none⟩=false/\W.frozen? ⟨w.heap.size,6,none⟩=false/\W.frozen? ⟨w.heap.size,7,none⟩=false/\W.frozen? ⟨w.heap.size,8,none⟩=false/\W.frozen? ⟨w.heap.size,9,none⟩=false/\W.frozen? ⟨w.heap.size,10,none⟩=false/\W.frozen? ⟨w.heap.size,11,none⟩=false/\W.frozen? ⟨w.heap.size+1+1+1,0,none⟩=false/\W.frozen? ⟨w.heap.size+1+1+1,1,none⟩=false/\W.frozen? ⟨w.heap.size+1+1+1,2,none⟩=false/\W.frozen? ⟨w.heap.size+1+1+1,3,none⟩=false/\W.frozen? ⟨w.heap.size+1+1+1,4,none⟩=false/\W.frozen? ⟨w.heap.size+1+1+1,5,none⟩=false/\W.frozen? ⟨w.heap.size+1+1+1,6,none⟩=false/\W.frozen? ⟨w.heap.size+1+1+1,7,none⟩=false/\W.frozen? ⟨w.heap.size+1+1+1,8,none⟩=false/\W.frozen? ⟨w.heap.size+1+1+1,9,none⟩=false/\W.frozen? ⟨w.heap.size+1+1+1,10,none⟩=false/\W.frozen? ⟨w.heap.size+1+1+1,11,none⟩=false/\w.heap.size<W.heap.size/\w.heap.size+1<W.heap.size/\w.heap.size+1+1<W.heap.size/\w.heap.size+1+1+1<W.heap.size:=
 ⟨B.c.at_ 0 _ rfl,B.c.at_ 1 _ rfl,B.c.at_ 2 _ rfl,B.c.at_ 3 _ rfl,B.c.at_ 4 _ rfl,B.c.at_ 5 _ rfl,B.c.at_ 6 _ rfl,B.c.at_ 7 _ rfl,B.c.at_ 8 _ rfl,B.c.at_ 9 _ rfl,B.c.at_ 10 _ rfl,B.c.at_ 11 _ rfl,B.a.at_ 0 _ rfl,B.a.at_ 1 _ rfl,B.a.at_ 2 _ rfl,B.a.at_ 3 _ rfl,B.a.at_ 4 _ rfl,B.a.at_ 5 _ rfl,B.a.at_ 6 _ rfl,B.x.at_ 0 _ rfl,B.x.at_ 1 _ rfl,B.x.at_ 2 _ rfl,B.x.at_ 3 _ rfl,B.x.at_ 4 _ rfl,B.r.at_ 0 _ rfl,B.r.at_ 1 _ rfl,B.r.at_ 2 _ rfl,B.r.at_ 3 _ rfl,B.r.at_ 4 _ rfl,B.r.at_ 5 _ rfl,B.r.at_ 6 _ rfl,B.r.at_ 7 _ rfl,B.r.at_ 8 _ rfl,B.r.at_ 9 _ rfl,B.r.at_ 10 _ rfl,B.r.at_ 11 _ rfl,B.c.fr 0,B.c.fr 1,B.c.fr 2,B.c.fr 3,B.c.fr 4,B.c.fr 5,B.c.fr 6,B.c.fr 7,B.c.fr 8,B.c.fr 9,B.c.fr 10,B.c.fr 11,B.r.fr 0,B.r.fr 1,B.r.fr 2,B.r.fr 3,B.r.fr 4,B.r.fr 5,B.r.fr 6,B.r.fr 7,B.r.fr 8,B.r.fr 9,B.r.fr 10,B.r.fr 11,B.c.lt,B.a.lt,B.x.lt,B.r.lt⟩
theorem Qh {tmps:Array Value} {W:World} {b:Nat} {d:CC} (ht:tmps[6]? =some (.pointer (some ⟨b,0,none⟩))) (h:BC W b (ccells d)):
 (results Tryz.f41 tmps).run Tryz.prog W= .ok (.agg #[.int .u8 d.k, .slice d.pa d.pl d.pc, .string d.key, .int .i64 d.i, .int .i64 d.j, .int .i64 d.n, .int .u8 d.v.k, .int .i64 d.v.n, .string d.v.s, .slice d.v.la d.v.ll d.v.lc, .slice d.v.oa d.v.ol d.v.oc, .string d.s]) W:=by
 obtain ⟨r0,r1,r2,r3,r4,r5,r6,r7,r8,r9,r10,r11⟩:=row12 h.at_
 simp [results,Tryz.results41,go_sem,ht,r0,r1,r2,r3,r4,r5,r6,r7,r8,r9,r10,r11]
def FieldAPost (w:World) (o:List (ByteArray×V)) (a:AC) (c:CC) (l:List Tk) (e:Ending) (w':World):Prop:=
 (∃cv:VC,e= .returned (.agg #[.int .u8 (fieldA o a c cv).k, .slice (fieldA o a c cv).pa (fieldA o a c cv).pl (fieldA o a c cv).pc, .string (fieldA o a c cv).key, .int .i64 (fieldA o a c cv).i, .int .i64 (fieldA o a c cv).j, .int .i64 (fieldA o a c cv).n, .int .u8 (fieldA o a c cv).v.k, .int .i64 (fieldA o a c cv).v.n, .string (fieldA o a c cv).v.s, .slice (fieldA o a c cv).v.la (fieldA o a c cv).v.ll (fieldA o a c cv).v.lc, .slice (fieldA o a c cv).v.oa (fieldA o a c cv).v.ol (fieldA o a c cv).v.oc, .string (fieldA o a c cv).s])/\IsVal (only (fun b=>w.heap.size<=b) w') w'.heap.size (fieldV o a l) cv)/\Below w.heap.size w w'
set_option maxRecDepth 100000 in
theorem zo5 (w:World) (c:CC) (hcv:c.v=vzero) (a:AC) (ha:a.Bnd) (x:VC) (o:List (ByteArray×V)) (hx:IsFields w w.heap.size o x.oa x.ol x.oc) (l:List Tk) (hv:IsToks w w.heap.size l a.va a.vl a.vc) (hp:¬(0<x.ol/\0<a.k % 3)) (hB:fieldB o a=true):
 uP 41 #[.agg #[.int .u8 c.k, .slice c.pa c.pl c.pc, .string c.key, .int .i64 c.i, .int .i64 c.j, .int .i64 c.n, .int .u8 c.v.k, .int .i64 c.v.n, .string c.v.s, .slice c.v.la c.v.ll c.v.lc, .slice c.v.oa c.v.ol c.v.oc, .string c.s], .agg #[.slice a.pa a.pl a.pc, .int .u8 a.k, .int .i64 a.i, .int .i64 a.j, .int .i64 a.n, .string a.s, .slice a.va a.vl a.vc], .agg #[.int .u8 x.k, .int .i64 x.n, .string x.s, .slice x.la x.ll x.lc, .slice x.oa x.ol x.oc]] w (FieldAPost w o a c l):=by
 delta uP
 have HBD:Hid (∀W,uB w W->uP 13 #[.slice a.va a.vl a.vc] W fun e w'=>(∃cv:VC,e= .returned (.agg #[.int .u8 cv.k, .int .i64 cv.n, .string cv.s, .slice cv.la cv.ll cv.lc, .slice cv.oa cv.ol cv.oc])/\IsVal (only (fun b=>W.heap.size<=b) w') w'.heap.size (oneP 6 (l.take 60)).1 cv)/\uB W w'):=fun W hW=>Yf W l _ _ _ (hv.later_ hW)
 have HPL:Hid (∀W,uP 74 #[.string a.s] W fun e w'=>e= .returned (.string (plainS a.s))/\uB W w'):=fun W=>X5 W a.s ha.s1
 obtain ⟨ps,hps⟩:∃ps,plainS a.s=ps:=⟨_,rfl⟩
 rw [hps] at HPL
 obtain ⟨key,hkey⟩:∃key,fieldKey o a=key:=⟨_,rfl⟩
 have HFI:Hid (∀W,uB w W->uP 75 #[.agg #[.int .u8 x.k, .int .i64 x.n, .string x.s, .slice x.la x.ll x.lc, .slice x.oa x.ol x.oc], .string key] W fun e w'=>e= .returned (.tuple #[.int .i64 (fieldK o key:Int), .bool (fieldIs o key)])/\uB W w'):=fun W hW=>Yi W o key _ _ _ _ _ _ _ _ _ (hx.later_ hW)
 obtain ⟨fk,hfk⟩:∃fk,fieldK o key=fk:=⟨_,rfl⟩
 obtain ⟨ib,hib⟩:∃ib,fieldIs o key=ib:=⟨_,rfl⟩
 rw [hfk,hib] at HFI
 have hA:fieldA o a c=fun cv=> { c with k:=3,key:=key,v:=cv } :=by funext cv;rw [fieldA,hB,hkey];simp
 have hV:fieldV o a l=V.none:=by rw [fieldV,hB];simp
 have hB2:ib=true/\a.k % 2=0:=by
  rw [fieldB,hkey,hib] at hB
  simpa using hB
 have HA:=qh hA;have HV:=qh hV;have HCV:=qh hcv
 obtain ⟨PP,hPP⟩:∃PP,FieldAPost w o a c l=PP:=⟨_,rfl⟩
 have HPP:=qh hPP
 rw [hPP]
 have HB:=qh (FXB.start w { c with k:=2 } a x 39 25 36 39)
 have hmx:=hx.max;have hfw:=hx.few;have hcp:=hx.cap
 have HLEN:=qh hx.len
 have i0:=ha.i0;have i1:=ha.i1;have k0:=ha.k0
 have HX:=qh hx
 have hks:key=ps:=by rw [<-hkey,fieldKey, <-HLEN.out,if_neg hp,hps]
 subst hks
 clear hps hkey
 clear hPP hA hV hcv hfk hib hB ha hv hx
 go_enter Tryz.func41,Tryz.ntmps41
 generalize hQ0:bodyPost _ _ _=Q0
 have HQ:=qh hQ0
 clear hQ0
 go_wp2_with fail
 refine (HPL.out _).mono ?_
 rintro e w1 ⟨rfl,hb1⟩
 have B:=HB.out.next hb1 (by simp)
 obtain ⟨b0,b1,b2,b3,b4,b5,b6,b7,b8,b9,b10,b11,a0,a1,a2,a3,a4,a5,a6,x0,x1,x2,x3,x4,r0,r1,r2,r3,r4,r5,r6,r7,r8,r9,r10,r11,bf0,bf1,bf2,bf3,bf4,bf5,bf6,bf7,bf8,bf9,bf10,bf11,rf0,rf1,rf2,rf3,rf4,rf5,rf6,rf7,rf8,rf9,rf10,rf11,z0,z1,z2,z3⟩:=B.facts
 have HB1:=qh B
 clear B hb1
 have HBB:=qh (HB1.out.key key)
 have HKEYB:=qh HBB.out.below
 go_wp2_with fail
 all_goals
  refine (HFI.out _ HKEYB.out).mono ?_
  rintro e w3 ⟨rfl,hb3⟩
  have B:=HBB.out.next hb3 (by first|omega|(simp;omega))
  obtain ⟨b0,b1,b2,b3,b4,b5,b6,b7,b8,b9,b10,b11,a0,a1,a2,a3,a4,a5,a6,x0,x1,x2,x3,x4,r0,r1,r2,r3,r4,r5,r6,r7,r8,r9,r10,r11,bf0,bf1,bf2,bf3,bf4,bf5,bf6,bf7,bf8,bf9,bf10,bf11,rf0,rf1,rf2,rf3,rf4,rf5,rf6,rf7,rf8,rf9,rf10,rf11,z0,z1,z2,z3⟩:=B.facts
  have HBW:=qh B
  clear B hb3
  obtain ⟨rfl,hk2⟩:=hB2
  have h2:=Zp (HBW.out.r.far (o:=0) (x:= .int .u8 3) (show w.heap.size+1+1+1≠w.heap.size by omega)) { c with k:=3,key:=key }
  have h3:=Below.setC (HBW.out.below.set_ (o:=0) (x:= .int .u8 3) (Nat.le_refl _)) (show w.heap.size<=w.heap.size+1+1+1 by omega) { c with k:=3,key:=key }
  dsimp only at h2 h3
  have H2:=qh h2
  have H3:=qh h3
  clear h2 h3
  go_wp2_with fail
  rw [<-HQ.out]
  generalize hA:({ tmps:=_,defers:=_ } :Act)=A
  have h4:A.tmps[6]? =some (.pointer (some ⟨w.heap.size+1+1+1,0,none⟩)):=by rw [<-hA];rfl
  have h5:A.defers= [] :=by rw [<-hA]
  clear hA
  rw [<-HPP.out]
  refine ⟨h5,_,Qh h4 H2.out, ?_⟩
  exact ⟨⟨c.v,by rw [HA.out],by rw [HV.out,HCV.out];exact Zq _ _⟩,H3.out⟩
set_option maxRecDepth 100000 in
theorem zjw (w:World) (c:CC) (hcv:c.v=vzero) (a:AC) (ha:a.Bnd) (x:VC) (o:List (ByteArray×V)) (hx:IsFields w w.heap.size o x.oa x.ol x.oc) (l:List Tk) (hv:IsToks w w.heap.size l a.va a.vl a.vc) (hp:¬(0<x.ol/\0<a.k % 3)) (hB:fieldB o a=false):
 uP 41 #[.agg #[.int .u8 c.k, .slice c.pa c.pl c.pc, .string c.key, .int .i64 c.i, .int .i64 c.j, .int .i64 c.n, .int .u8 c.v.k, .int .i64 c.v.n, .string c.v.s, .slice c.v.la c.v.ll c.v.lc, .slice c.v.oa c.v.ol c.v.oc, .string c.s], .agg #[.slice a.pa a.pl a.pc, .int .u8 a.k, .int .i64 a.i, .int .i64 a.j, .int .i64 a.n, .string a.s, .slice a.va a.vl a.vc], .agg #[.int .u8 x.k, .int .i64 x.n, .string x.s, .slice x.la x.ll x.lc, .slice x.oa x.ol x.oc]] w (FieldAPost w o a c l):=by
 delta uP
 have HBD:Hid (∀W,uB w W->uP 13 #[.slice a.va a.vl a.vc] W fun e w'=>(∃cv:VC,e= .returned (.agg #[.int .u8 cv.k, .int .i64 cv.n, .string cv.s, .slice cv.la cv.ll cv.lc, .slice cv.oa cv.ol cv.oc])/\IsVal (only (fun b=>W.heap.size<=b) w') w'.heap.size (oneP 6 (l.take 60)).1 cv)/\uB W w'):=fun W hW=>Yf W l _ _ _ (hv.later_ hW)
 have HPL:Hid (∀W,uP 74 #[.string a.s] W fun e w'=>e= .returned (.string (plainS a.s))/\uB W w'):=fun W=>X5 W a.s ha.s1
 obtain ⟨ps,hps⟩:∃ps,plainS a.s=ps:=⟨_,rfl⟩
 rw [hps] at HPL
 obtain ⟨key,hkey⟩:∃key,fieldKey o a=key:=⟨_,rfl⟩
 have HFI:Hid (∀W,uB w W->uP 75 #[.agg #[.int .u8 x.k, .int .i64 x.n, .string x.s, .slice x.la x.ll x.lc, .slice x.oa x.ol x.oc], .string key] W fun e w'=>e= .returned (.tuple #[.int .i64 (fieldK o key:Int), .bool (fieldIs o key)])/\uB W w'):=fun W hW=>Yi W o key _ _ _ _ _ _ _ _ _ (hx.later_ hW)
 obtain ⟨fk,hfk⟩:∃fk,fieldK o key=fk:=⟨_,rfl⟩
 obtain ⟨ib,hib⟩:∃ib,fieldIs o key=ib:=⟨_,rfl⟩
 rw [hfk,hib] at HFI
 have hA:fieldA o a c=fun cv=> { c with k:=2,key:=key,v:=cv } :=by funext cv;rw [fieldA,hB,hkey];simp
 have hV:fieldV o a l=(oneP 6 (l.take 60)).1:=by rw [fieldV,hB];simp
 have hB2:ib=false∨¬a.k % 2=0:=by
  rw [fieldB,hkey,hib] at hB
  cases ib<;>simp at hB ⊢;omega
 have HA:=qh hA;have HV:=qh hV;have HCV:=qh hcv
 obtain ⟨PP,hPP⟩:∃PP,FieldAPost w o a c l=PP:=⟨_,rfl⟩
 have HPP:=qh hPP
 rw [hPP]
 have HB:=qh (FXB.start w { c with k:=2 } a x 39 25 36 39)
 have hmx:=hx.max;have hfw:=hx.few;have hcp:=hx.cap
 have HLEN:=qh hx.len
 have i0:=ha.i0;have i1:=ha.i1;have k0:=ha.k0
 have HX:=qh hx
 have hks:key=ps:=by rw [<-hkey,fieldKey, <-HLEN.out,if_neg hp,hps]
 subst hks
 clear hps hkey
 clear hPP hA hV hcv hfk hib hB ha hv hx
 go_enter Tryz.func41,Tryz.ntmps41
 generalize hQ0:bodyPost _ _ _=Q0
 have HQ:=qh hQ0
 clear hQ0
 go_wp2_with fail
 refine (HPL.out _).mono ?_
 rintro e w1 ⟨rfl,hb1⟩
 have B:=HB.out.next hb1 (by simp)
 obtain ⟨b0,b1,b2,b3,b4,b5,b6,b7,b8,b9,b10,b11,a0,a1,a2,a3,a4,a5,a6,x0,x1,x2,x3,x4,r0,r1,r2,r3,r4,r5,r6,r7,r8,r9,r10,r11,bf0,bf1,bf2,bf3,bf4,bf5,bf6,bf7,bf8,bf9,bf10,bf11,rf0,rf1,rf2,rf3,rf4,rf5,rf6,rf7,rf8,rf9,rf10,rf11,z0,z1,z2,z3⟩:=B.facts
 have HB1:=qh B
 clear B hb1
 have HBB:=qh (HB1.out.key key)
 have HKEYB:=qh HBB.out.below
 go_wp2_with fail
 all_goals
  refine (HFI.out _ HKEYB.out).mono ?_
  rintro e w3 ⟨rfl,hb3⟩
  have B:=HBB.out.next hb3 (by first|omega|(simp;omega))
  obtain ⟨b0,b1,b2,b3,b4,b5,b6,b7,b8,b9,b10,b11,a0,a1,a2,a3,a4,a5,a6,x0,x1,x2,x3,x4,r0,r1,r2,r3,r4,r5,r6,r7,r8,r9,r10,r11,bf0,bf1,bf2,bf3,bf4,bf5,bf6,bf7,bf8,bf9,bf10,bf11,rf0,rf1,rf2,rf3,rf4,rf5,rf6,rf7,rf8,rf9,rf10,rf11,z0,z1,z2,z3⟩:=B.facts
  have HBW:=qh B
  clear B hb3
  rcases hB2 with rfl|hk2
  .   go_wp2_with fail
      refine (HBD.out _ HBW.out.below).mono ?_
      rintro e w4 ⟨⟨cv,rfl,hv1⟩,hb1⟩
      have B:=HBW.out.next hb1 (by omega)
      clear HBW b0 b1 b2 b3 b4 b5 b6 b7 b8 b9 b10 b11 a0 a1 a2 a3 a4 a5 a6 x0 x1 x2 x3 x4 r0 r1 r2 r3 r4 r5 r6 r7 r8 r9 r10 r11 bf0 bf1 bf2 bf3 bf4 bf5 bf6 bf7 bf8 bf9 bf10 bf11 rf0 rf1 rf2 rf3 rf4 rf5 rf6 rf7 rf8 rf9 rf10 rf11
      obtain ⟨b0,b1,b2,b3,b4,b5,b6,b7,b8,b9,b10,b11,a0,a1,a2,a3,a4,a5,a6,x0,x1,x2,x3,x4,r0,r1,r2,r3,r4,r5,r6,r7,r8,r9,r10,r11,bf0,bf1,bf2,bf3,bf4,bf5,bf6,bf7,bf8,bf9,bf10,bf11,rf0,rf1,rf2,rf3,rf4,rf5,rf6,rf7,rf8,rf9,rf10,rf11,z0,z1,z2,z3⟩:=B.facts
      have HBW:=qh B
      have hz4:=hb1.size
      have hv2:=Zm (Zm hv1 (Zi w4 w.heap.size 6 cv) (by omega)) (Xz _ (w.heap.size+1+1+1) { c with k:=2,key:=key,v:=cv }) (by omega)
      have h2:=Zp (((((HBW.out.r.far (o:=6) (x:= .int .u8 cv.k) (show w.heap.size+1+1+1≠w.heap.size by omega)).far (o:=7) (x:= .int .i64 cv.n) (show w.heap.size+1+1+1≠w.heap.size by omega)).far (o:=8) (x:= .string cv.s) (show w.heap.size+1+1+1≠w.heap.size by omega)).far (o:=9) (x:= .slice cv.la cv.ll cv.lc) (show w.heap.size+1+1+1≠w.heap.size by omega)).far (o:=10) (x:= .slice cv.oa cv.ol cv.oc) (show w.heap.size+1+1+1≠w.heap.size by omega)) { c with k:=2,key:=key,v:=cv }
      have h3:=Below.setC (((((HBW.out.below.set_ (o:=6) (x:= .int .u8 cv.k) (Nat.le_refl _)).set_ (o:=7) (x:= .int .i64 cv.n) (Nat.le_refl _)).set_ (o:=8) (x:= .string cv.s) (Nat.le_refl _)).set_ (o:=9) (x:= .slice cv.la cv.ll cv.lc) (Nat.le_refl _)).set_ (o:=10) (x:= .slice cv.oa cv.ol cv.oc) (Nat.le_refl _)) (show w.heap.size<=w.heap.size+1+1+1 by omega) { c with k:=2,key:=key,v:=cv }
      dsimp only at h2 h3 hv2
      have H2:=qh h2
      have H3:=qh h3
      have HV2:=qh hv2
      clear h2 h3 hv1 hv2 B hb1
      go_wp2_with fail
      rw [<-HQ.out]
      generalize hA:({ tmps:=_,defers:=_ } :Act)=A
      have h4:A.tmps[6]? =some (.pointer (some ⟨w.heap.size+1+1+1,0,none⟩)):=by rw [<-hA];rfl
      have h5:A.defers= [] :=by rw [<-hA]
      clear hA
      rw [<-HPP.out]
      refine ⟨h5,_,Qh h4 H2.out, ?_⟩
      exact ⟨⟨cv,by rw [HA.out],by rw [HV.out];exact HV2.out.sub (Zd fun k hk _=>⟨by omega,rfl⟩)⟩,H3.out⟩
  .cases ib with
   |false=> ?_
   |true=> ?_
   all_goals
       go_wp2_with fail
       refine (HBD.out _ HBW.out.below).mono ?_
       rintro e w4 ⟨⟨cv,rfl,hv1⟩,hb1⟩
       have B:=HBW.out.next hb1 (by omega)
       clear HBW b0 b1 b2 b3 b4 b5 b6 b7 b8 b9 b10 b11 a0 a1 a2 a3 a4 a5 a6 x0 x1 x2 x3 x4 r0 r1 r2 r3 r4 r5 r6 r7 r8 r9 r10 r11 bf0 bf1 bf2 bf3 bf4 bf5 bf6 bf7 bf8 bf9 bf10 bf11 rf0 rf1 rf2 rf3 rf4 rf5 rf6 rf7 rf8 rf9 rf10 rf11
       obtain ⟨b0,b1,b2,b3,b4,b5,b6,b7,b8,b9,b10,b11,a0,a1,a2,a3,a4,a5,a6,x0,x1,x2,x3,x4,r0,r1,r2,r3,r4,r5,r6,r7,r8,r9,r10,r11,bf0,bf1,bf2,bf3,bf4,bf5,bf6,bf7,bf8,bf9,bf10,bf11,rf0,rf1,rf2,rf3,rf4,rf5,rf6,rf7,rf8,rf9,rf10,rf11,z0,z1,z2,z3⟩:=B.facts
       have HBW:=qh B
       have hz4:=hb1.size
       have hv2:=Zm (Zm hv1 (Zi w4 w.heap.size 6 cv) (by omega)) (Xz _ (w.heap.size+1+1+1) { c with k:=2,key:=key,v:=cv }) (by omega)
       have h2:=Zp (((((HBW.out.r.far (o:=6) (x:= .int .u8 cv.k) (show w.heap.size+1+1+1≠w.heap.size by omega)).far (o:=7) (x:= .int .i64 cv.n) (show w.heap.size+1+1+1≠w.heap.size by omega)).far (o:=8) (x:= .string cv.s) (show w.heap.size+1+1+1≠w.heap.size by omega)).far (o:=9) (x:= .slice cv.la cv.ll cv.lc) (show w.heap.size+1+1+1≠w.heap.size by omega)).far (o:=10) (x:= .slice cv.oa cv.ol cv.oc) (show w.heap.size+1+1+1≠w.heap.size by omega)) { c with k:=2,key:=key,v:=cv }
       have h3:=Below.setC (((((HBW.out.below.set_ (o:=6) (x:= .int .u8 cv.k) (Nat.le_refl _)).set_ (o:=7) (x:= .int .i64 cv.n) (Nat.le_refl _)).set_ (o:=8) (x:= .string cv.s) (Nat.le_refl _)).set_ (o:=9) (x:= .slice cv.la cv.ll cv.lc) (Nat.le_refl _)).set_ (o:=10) (x:= .slice cv.oa cv.ol cv.oc) (Nat.le_refl _)) (show w.heap.size<=w.heap.size+1+1+1 by omega) { c with k:=2,key:=key,v:=cv }
       dsimp only at h2 h3 hv2
       have H2:=qh h2
       have H3:=qh h3
       have HV2:=qh hv2
       clear h2 h3 hv1 hv2 B hb1
       go_wp2_with fail
       rw [<-HQ.out]
       generalize hA:({ tmps:=_,defers:=_ } :Act)=A
       have h4:A.tmps[6]? =some (.pointer (some ⟨w.heap.size+1+1+1,0,none⟩)):=by rw [<-hA];rfl
       have h5:A.defers= [] :=by rw [<-hA]
       clear hA
       rw [<-HPP.out]
       refine ⟨h5,_,Qh h4 H2.out, ?_⟩
       exact ⟨⟨cv,by rw [HA.out],by rw [HV.out];exact HV2.out.sub (Zd fun k hk _=>⟨by omega,rfl⟩)⟩,H3.out⟩
set_option maxRecDepth 100000 in
theorem zhm (w:World) (c:CC) (hcv:c.v=vzero) (a:AC) (ha:a.Bnd) (x:VC) (o:List (ByteArray×V)) (hx:IsFields w w.heap.size o x.oa x.ol x.oc) (l:List Tk) (hv:IsToks w w.heap.size l a.va a.vl a.vc) (hp1:0<x.ol) (hp2:0<a.k % 3) (hB:fieldB o a=true):
 uP 41 #[.agg #[.int .u8 c.k, .slice c.pa c.pl c.pc, .string c.key, .int .i64 c.i, .int .i64 c.j, .int .i64 c.n, .int .u8 c.v.k, .int .i64 c.v.n, .string c.v.s, .slice c.v.la c.v.ll c.v.lc, .slice c.v.oa c.v.ol c.v.oc, .string c.s], .agg #[.slice a.pa a.pl a.pc, .int .u8 a.k, .int .i64 a.i, .int .i64 a.j, .int .i64 a.n, .string a.s, .slice a.va a.vl a.vc], .agg #[.int .u8 x.k, .int .i64 x.n, .string x.s, .slice x.la x.ll x.lc, .slice x.oa x.ol x.oc]] w (FieldAPost w o a c l):=by
 delta uP
 have HBD:Hid (∀W,uB w W->uP 13 #[.slice a.va a.vl a.vc] W fun e w'=>(∃cv:VC,e= .returned (.agg #[.int .u8 cv.k, .int .i64 cv.n, .string cv.s, .slice cv.la cv.ll cv.lc, .slice cv.oa cv.ol cv.oc])/\IsVal (only (fun b=>W.heap.size<=b) w') w'.heap.size (oneP 6 (l.take 60)).1 cv)/\uB W w'):=fun W hW=>Yf W l _ _ _ (hv.later_ hW)
 have HPL:Hid (∀W,uP 74 #[.string a.s] W fun e w'=>e= .returned (.string (plainS a.s))/\uB W w'):=fun W=>X5 W a.s ha.s1
 obtain ⟨ps,hps⟩:∃ps,plainS a.s=ps:=⟨_,rfl⟩
 rw [hps] at HPL
 obtain ⟨key,hkey⟩:∃key,fieldKey o a=key:=⟨_,rfl⟩
 have HFI:Hid (∀W,uB w W->uP 75 #[.agg #[.int .u8 x.k, .int .i64 x.n, .string x.s, .slice x.la x.ll x.lc, .slice x.oa x.ol x.oc], .string key] W fun e w'=>e= .returned (.tuple #[.int .i64 (fieldK o key:Int), .bool (fieldIs o key)])/\uB W w'):=fun W hW=>Yi W o key _ _ _ _ _ _ _ _ _ (hx.later_ hW)
 obtain ⟨fk,hfk⟩:∃fk,fieldK o key=fk:=⟨_,rfl⟩
 obtain ⟨ib,hib⟩:∃ib,fieldIs o key=ib:=⟨_,rfl⟩
 rw [hfk,hib] at HFI
 have hA:fieldA o a c=fun cv=> { c with k:=3,key:=key,v:=cv } :=by funext cv;rw [fieldA,hB,hkey];simp
 have hV:fieldV o a l=V.none:=by rw [fieldV,hB];simp
 have hB2:ib=true/\a.k % 2=0:=by
  rw [fieldB,hkey,hib] at hB
  simpa using hB
 have HA:=qh hA;have HV:=qh hV;have HCV:=qh hcv
 obtain ⟨PP,hPP⟩:∃PP,FieldAPost w o a c l=PP:=⟨_,rfl⟩
 have HPP:=qh hPP
 rw [hPP]
 have HB:=qh (FXB.start w { c with k:=2 } a x 39 25 36 39)
 have hmx:=hx.max;have hfw:=hx.few;have hcp:=hx.cap
 have HLEN:=qh hx.len
 have i0:=ha.i0;have i1:=ha.i1;have k0:=ha.k0
 have HX:=qh hx
 obtain ⟨I,hI⟩:∃I:Nat,max a.i 0 % (x.ol:Int)=I:=⟨(max a.i 0 % (x.ol:Int)).toNat,by have:=Int.emod_nonneg (max a.i 0) (show (x.ol:Int)≠0 by omega);omega⟩
 have hIl:I<x.ol:=by have:=Int.emod_lt_of_pos (max a.i 0) (show (0:Int)<x.ol by omega);omega
 obtain ⟨ob,oo,fv,hIo,exa,hob,kc,kcs,kva,kvi⟩:=hx.get hIl
 have hkc:o[I].1=key:=by
  rw [<-hkey,fieldKey, <-HLEN.out,if_pos ⟨hp1,hp2⟩,hI]
  simp [List.getD_eq_getElem?_getD,hIo]
 rw [hkc] at kc
 have HEXA:=qh exa
 clear hkc hkey hps kcs kva kvi hIo exa
 clear hPP hA hV hcv hfk hib hB ha hv hx
 go_enter Tryz.func41,Tryz.ntmps41
 generalize hQ0:bodyPost _ _ _=Q0
 have HQ:=qh hQ0
 clear hQ0
 go_wp2_with fail
 refine (HPL.out _).mono ?_
 rintro e w1 ⟨rfl,hb1⟩
 have B:=HB.out.next hb1 (by simp)
 obtain ⟨b0,b1,b2,b3,b4,b5,b6,b7,b8,b9,b10,b11,a0,a1,a2,a3,a4,a5,a6,x0,x1,x2,x3,x4,r0,r1,r2,r3,r4,r5,r6,r7,r8,r9,r10,r11,bf0,bf1,bf2,bf3,bf4,bf5,bf6,bf7,bf8,bf9,bf10,bf11,rf0,rf1,rf2,rf3,rf4,rf5,rf6,rf7,rf8,rf9,rf10,rf11,z0,z1,z2,z3⟩:=B.facts
 have HB1:=qh B
 clear B hb1
 go_wp2_with fail
 have hbb:=HB1.out.key ps
 generalize hw2:w1.setCell ⟨w.heap.size,2,none⟩ (.string ps)=w2 at hbb ⊢
 clear hw2
 clear b0 b1 b2 b3 b4 b5 b6 b7 b8 b9 b10 b11 a0 a1 a2 a3 a4 a5 a6 x0 x1 x2 x3 x4 r0 r1 r2 r3 r4 r5 r6 r7 r8 r9 r10 r11 bf0 bf1 bf2 bf3 bf4 bf5 bf6 bf7 bf8 bf9 bf10 bf11 rf0 rf1 rf2 rf3 rf4 rf5 rf6 rf7 rf8 rf9 rf10 rf11
 obtain ⟨b0,b1,b2,b3,b4,b5,b6,b7,b8,b9,b10,b11,a0,a1,a2,a3,a4,a5,a6,x0,x1,x2,x3,x4,r0,r1,r2,r3,r4,r5,r6,r7,r8,r9,r10,r11,bf0,bf1,bf2,bf3,bf4,bf5,bf6,bf7,bf8,bf9,bf10,bf11,rf0,rf1,rf2,rf3,rf4,rf5,rf6,rf7,rf8,rf9,rf10,rf11,z0,z1,z2,z3⟩:=hbb.facts
 have kc2:=Za hbb.below kc hob
 rw [HEXA.out] at x4
 have hob2:ob<w2.heap.size:=by have:=hbb.below.size;omega
 have hbk:=(hbb.key key).next (Zf _) (by simp;omega)
 clear hbb
 go_region
 generalize hw4:(w2.setCell ⟨w.heap.size,2,none⟩ (.string key)).drew=w4 at hbk ⊢
 clear hw4 x4 kc2 hob2
 clear b0 b1 b2 b3 b4 b5 b6 b7 b8 b9 b10 b11 a0 a1 a2 a3 a4 a5 a6 x0 x1 x2 x3 r0 r1 r2 r3 r4 r5 r6 r7 r8 r9 r10 r11 bf0 bf1 bf2 bf3 bf4 bf5 bf6 bf7 bf8 bf9 bf10 bf11 rf0 rf1 rf2 rf3 rf4 rf5 rf6 rf7 rf8 rf9 rf10 rf11
 obtain ⟨b0,b1,b2,b3,b4,b5,b6,b7,b8,b9,b10,b11,a0,a1,a2,a3,a4,a5,a6,x0,x1,x2,x3,x4,r0,r1,r2,r3,r4,r5,r6,r7,r8,r9,r10,r11,bf0,bf1,bf2,bf3,bf4,bf5,bf6,bf7,bf8,bf9,bf10,bf11,rf0,rf1,rf2,rf3,rf4,rf5,rf6,rf7,rf8,rf9,rf10,rf11,z0,z1,z2,z3⟩:=hbk.facts
 have HBB:=qh hbk
 have HKEYB:=qh hbk.below
 clear hbk
 go_wp2_with fail
 all_goals
  refine (HFI.out _ HKEYB.out).mono ?_
  rintro e w3 ⟨rfl,hb3⟩
  have B:=HBB.out.next hb3 (by first|omega|(simp;omega))
  obtain ⟨b0,b1,b2,b3,b4,b5,b6,b7,b8,b9,b10,b11,a0,a1,a2,a3,a4,a5,a6,x0,x1,x2,x3,x4,r0,r1,r2,r3,r4,r5,r6,r7,r8,r9,r10,r11,bf0,bf1,bf2,bf3,bf4,bf5,bf6,bf7,bf8,bf9,bf10,bf11,rf0,rf1,rf2,rf3,rf4,rf5,rf6,rf7,rf8,rf9,rf10,rf11,z0,z1,z2,z3⟩:=B.facts
  have HBW:=qh B
  clear B hb3
  obtain ⟨rfl,hk2⟩:=hB2
  have h2:=Zp (HBW.out.r.far (o:=0) (x:= .int .u8 3) (show w.heap.size+1+1+1≠w.heap.size by omega)) { c with k:=3,key:=key }
  have h3:=Below.setC (HBW.out.below.set_ (o:=0) (x:= .int .u8 3) (Nat.le_refl _)) (show w.heap.size<=w.heap.size+1+1+1 by omega) { c with k:=3,key:=key }
  dsimp only at h2 h3
  have H2:=qh h2
  have H3:=qh h3
  clear h2 h3
  go_wp2_with fail
  rw [<-HQ.out]
  generalize hA:({ tmps:=_,defers:=_ } :Act)=A
  have h4:A.tmps[6]? =some (.pointer (some ⟨w.heap.size+1+1+1,0,none⟩)):=by rw [<-hA];rfl
  have h5:A.defers= [] :=by rw [<-hA]
  clear hA
  rw [<-HPP.out]
  refine ⟨h5,_,Qh h4 H2.out, ?_⟩
  exact ⟨⟨c.v,by rw [HA.out],by rw [HV.out,HCV.out];exact Zq _ _⟩,H3.out⟩
set_option maxRecDepth 100000 in
theorem zo0 (w:World) (c:CC) (hcv:c.v=vzero) (a:AC) (ha:a.Bnd) (x:VC) (o:List (ByteArray×V)) (hx:IsFields w w.heap.size o x.oa x.ol x.oc) (l:List Tk) (hv:IsToks w w.heap.size l a.va a.vl a.vc) (hp1:0<x.ol) (hp2:0<a.k % 3) (hB:fieldB o a=false):
 uP 41 #[.agg #[.int .u8 c.k, .slice c.pa c.pl c.pc, .string c.key, .int .i64 c.i, .int .i64 c.j, .int .i64 c.n, .int .u8 c.v.k, .int .i64 c.v.n, .string c.v.s, .slice c.v.la c.v.ll c.v.lc, .slice c.v.oa c.v.ol c.v.oc, .string c.s], .agg #[.slice a.pa a.pl a.pc, .int .u8 a.k, .int .i64 a.i, .int .i64 a.j, .int .i64 a.n, .string a.s, .slice a.va a.vl a.vc], .agg #[.int .u8 x.k, .int .i64 x.n, .string x.s, .slice x.la x.ll x.lc, .slice x.oa x.ol x.oc]] w (FieldAPost w o a c l):=by
 delta uP
 have HBD:Hid (∀W,uB w W->uP 13 #[.slice a.va a.vl a.vc] W fun e w'=>(∃cv:VC,e= .returned (.agg #[.int .u8 cv.k, .int .i64 cv.n, .string cv.s, .slice cv.la cv.ll cv.lc, .slice cv.oa cv.ol cv.oc])/\IsVal (only (fun b=>W.heap.size<=b) w') w'.heap.size (oneP 6 (l.take 60)).1 cv)/\uB W w'):=fun W hW=>Yf W l _ _ _ (hv.later_ hW)
 have HPL:Hid (∀W,uP 74 #[.string a.s] W fun e w'=>e= .returned (.string (plainS a.s))/\uB W w'):=fun W=>X5 W a.s ha.s1
 obtain ⟨ps,hps⟩:∃ps,plainS a.s=ps:=⟨_,rfl⟩
 rw [hps] at HPL
 obtain ⟨key,hkey⟩:∃key,fieldKey o a=key:=⟨_,rfl⟩
 have HFI:Hid (∀W,uB w W->uP 75 #[.agg #[.int .u8 x.k, .int .i64 x.n, .string x.s, .slice x.la x.ll x.lc, .slice x.oa x.ol x.oc], .string key] W fun e w'=>e= .returned (.tuple #[.int .i64 (fieldK o key:Int), .bool (fieldIs o key)])/\uB W w'):=fun W hW=>Yi W o key _ _ _ _ _ _ _ _ _ (hx.later_ hW)
 obtain ⟨fk,hfk⟩:∃fk,fieldK o key=fk:=⟨_,rfl⟩
 obtain ⟨ib,hib⟩:∃ib,fieldIs o key=ib:=⟨_,rfl⟩
 rw [hfk,hib] at HFI
 have hA:fieldA o a c=fun cv=> { c with k:=2,key:=key,v:=cv } :=by funext cv;rw [fieldA,hB,hkey];simp
 have hV:fieldV o a l=(oneP 6 (l.take 60)).1:=by rw [fieldV,hB];simp
 have hB2:ib=false∨¬a.k % 2=0:=by
  rw [fieldB,hkey,hib] at hB
  cases ib<;>simp at hB ⊢;omega
 have HA:=qh hA;have HV:=qh hV;have HCV:=qh hcv
 obtain ⟨PP,hPP⟩:∃PP,FieldAPost w o a c l=PP:=⟨_,rfl⟩
 have HPP:=qh hPP
 rw [hPP]
 have HB:=qh (FXB.start w { c with k:=2 } a x 39 25 36 39)
 have hmx:=hx.max;have hfw:=hx.few;have hcp:=hx.cap
 have HLEN:=qh hx.len
 have i0:=ha.i0;have i1:=ha.i1;have k0:=ha.k0
 have HX:=qh hx
 obtain ⟨I,hI⟩:∃I:Nat,max a.i 0 % (x.ol:Int)=I:=⟨(max a.i 0 % (x.ol:Int)).toNat,by have:=Int.emod_nonneg (max a.i 0) (show (x.ol:Int)≠0 by omega);omega⟩
 have hIl:I<x.ol:=by have:=Int.emod_lt_of_pos (max a.i 0) (show (0:Int)<x.ol by omega);omega
 obtain ⟨ob,oo,fv,hIo,exa,hob,kc,kcs,kva,kvi⟩:=hx.get hIl
 have hkc:o[I].1=key:=by
  rw [<-hkey,fieldKey, <-HLEN.out,if_pos ⟨hp1,hp2⟩,hI]
  simp [List.getD_eq_getElem?_getD,hIo]
 rw [hkc] at kc
 have HEXA:=qh exa
 clear hkc hkey hps kcs kva kvi hIo exa
 clear hPP hA hV hcv hfk hib hB ha hv hx
 go_enter Tryz.func41,Tryz.ntmps41
 generalize hQ0:bodyPost _ _ _=Q0
 have HQ:=qh hQ0
 clear hQ0
 go_wp2_with fail
 refine (HPL.out _).mono ?_
 rintro e w1 ⟨rfl,hb1⟩
 have B:=HB.out.next hb1 (by simp)
 obtain ⟨b0,b1,b2,b3,b4,b5,b6,b7,b8,b9,b10,b11,a0,a1,a2,a3,a4,a5,a6,x0,x1,x2,x3,x4,r0,r1,r2,r3,r4,r5,r6,r7,r8,r9,r10,r11,bf0,bf1,bf2,bf3,bf4,bf5,bf6,bf7,bf8,bf9,bf10,bf11,rf0,rf1,rf2,rf3,rf4,rf5,rf6,rf7,rf8,rf9,rf10,rf11,z0,z1,z2,z3⟩:=B.facts
 have HB1:=qh B
 clear B hb1
 go_wp2_with fail
 have hbb:=HB1.out.key ps
 generalize hw2:w1.setCell ⟨w.heap.size,2,none⟩ (.string ps)=w2 at hbb ⊢
 clear hw2
 clear b0 b1 b2 b3 b4 b5 b6 b7 b8 b9 b10 b11 a0 a1 a2 a3 a4 a5 a6 x0 x1 x2 x3 x4 r0 r1 r2 r3 r4 r5 r6 r7 r8 r9 r10 r11 bf0 bf1 bf2 bf3 bf4 bf5 bf6 bf7 bf8 bf9 bf10 bf11 rf0 rf1 rf2 rf3 rf4 rf5 rf6 rf7 rf8 rf9 rf10 rf11
 obtain ⟨b0,b1,b2,b3,b4,b5,b6,b7,b8,b9,b10,b11,a0,a1,a2,a3,a4,a5,a6,x0,x1,x2,x3,x4,r0,r1,r2,r3,r4,r5,r6,r7,r8,r9,r10,r11,bf0,bf1,bf2,bf3,bf4,bf5,bf6,bf7,bf8,bf9,bf10,bf11,rf0,rf1,rf2,rf3,rf4,rf5,rf6,rf7,rf8,rf9,rf10,rf11,z0,z1,z2,z3⟩:=hbb.facts
 have kc2:=Za hbb.below kc hob
 rw [HEXA.out] at x4
 have hob2:ob<w2.heap.size:=by have:=hbb.below.size;omega
 have hbk:=(hbb.key key).next (Zf _) (by simp;omega)
 clear hbb
 go_region
 generalize hw4:(w2.setCell ⟨w.heap.size,2,none⟩ (.string key)).drew=w4 at hbk ⊢
 clear hw4 x4 kc2 hob2
 clear b0 b1 b2 b3 b4 b5 b6 b7 b8 b9 b10 b11 a0 a1 a2 a3 a4 a5 a6 x0 x1 x2 x3 r0 r1 r2 r3 r4 r5 r6 r7 r8 r9 r10 r11 bf0 bf1 bf2 bf3 bf4 bf5 bf6 bf7 bf8 bf9 bf10 bf11 rf0 rf1 rf2 rf3 rf4 rf5 rf6 rf7 rf8 rf9 rf10 rf11
 obtain ⟨b0,b1,b2,b3,b4,b5,b6,b7,b8,b9,b10,b11,a0,a1,a2,a3,a4,a5,a6,x0,x1,x2,x3,x4,r0,r1,r2,r3,r4,r5,r6,r7,r8,r9,r10,r11,bf0,bf1,bf2,bf3,bf4,bf5,bf6,bf7,bf8,bf9,bf10,bf11,rf0,rf1,rf2,rf3,rf4,rf5,rf6,rf7,rf8,rf9,rf10,rf11,z0,z1,z2,z3⟩:=hbk.facts
 have HBB:=qh hbk
 have HKEYB:=qh hbk.below
 clear hbk
 go_wp2_with fail
 all_goals
  refine (HFI.out _ HKEYB.out).mono ?_
  rintro e w3 ⟨rfl,hb3⟩
  have B:=HBB.out.next hb3 (by first|omega|(simp;omega))
  obtain ⟨b0,b1,b2,b3,b4,b5,b6,b7,b8,b9,b10,b11,a0,a1,a2,a3,a4,a5,a6,x0,x1,x2,x3,x4,r0,r1,r2,r3,r4,r5,r6,r7,r8,r9,r10,r11,bf0,bf1,bf2,bf3,bf4,bf5,bf6,bf7,bf8,bf9,bf10,bf11,rf0,rf1,rf2,rf3,rf4,rf5,rf6,rf7,rf8,rf9,rf10,rf11,z0,z1,z2,z3⟩:=B.facts
  have HBW:=qh B
  clear B hb3
  rcases hB2 with rfl|hk2
  .   go_wp2_with fail
      refine (HBD.out _ HBW.out.below).mono ?_
      rintro e w4 ⟨⟨cv,rfl,hv1⟩,hb1⟩
      have B:=HBW.out.next hb1 (by omega)
      clear HBW b0 b1 b2 b3 b4 b5 b6 b7 b8 b9 b10 b11 a0 a1 a2 a3 a4 a5 a6 x0 x1 x2 x3 x4 r0 r1 r2 r3 r4 r5 r6 r7 r8 r9 r10 r11 bf0 bf1 bf2 bf3 bf4 bf5 bf6 bf7 bf8 bf9 bf10 bf11 rf0 rf1 rf2 rf3 rf4 rf5 rf6 rf7 rf8 rf9 rf10 rf11
      obtain ⟨b0,b1,b2,b3,b4,b5,b6,b7,b8,b9,b10,b11,a0,a1,a2,a3,a4,a5,a6,x0,x1,x2,x3,x4,r0,r1,r2,r3,r4,r5,r6,r7,r8,r9,r10,r11,bf0,bf1,bf2,bf3,bf4,bf5,bf6,bf7,bf8,bf9,bf10,bf11,rf0,rf1,rf2,rf3,rf4,rf5,rf6,rf7,rf8,rf9,rf10,rf11,z0,z1,z2,z3⟩:=B.facts
      have HBW:=qh B
      have hz4:=hb1.size
      have hv2:=Zm (Zm hv1 (Zi w4 w.heap.size 6 cv) (by omega)) (Xz _ (w.heap.size+1+1+1) { c with k:=2,key:=key,v:=cv }) (by omega)
      have h2:=Zp (((((HBW.out.r.far (o:=6) (x:= .int .u8 cv.k) (show w.heap.size+1+1+1≠w.heap.size by omega)).far (o:=7) (x:= .int .i64 cv.n) (show w.heap.size+1+1+1≠w.heap.size by omega)).far (o:=8) (x:= .string cv.s) (show w.heap.size+1+1+1≠w.heap.size by omega)).far (o:=9) (x:= .slice cv.la cv.ll cv.lc) (show w.heap.size+1+1+1≠w.heap.size by omega)).far (o:=10) (x:= .slice cv.oa cv.ol cv.oc) (show w.heap.size+1+1+1≠w.heap.size by omega)) { c with k:=2,key:=key,v:=cv }
      have h3:=Below.setC (((((HBW.out.below.set_ (o:=6) (x:= .int .u8 cv.k) (Nat.le_refl _)).set_ (o:=7) (x:= .int .i64 cv.n) (Nat.le_refl _)).set_ (o:=8) (x:= .string cv.s) (Nat.le_refl _)).set_ (o:=9) (x:= .slice cv.la cv.ll cv.lc) (Nat.le_refl _)).set_ (o:=10) (x:= .slice cv.oa cv.ol cv.oc) (Nat.le_refl _)) (show w.heap.size<=w.heap.size+1+1+1 by omega) { c with k:=2,key:=key,v:=cv }
      dsimp only at h2 h3 hv2
      have H2:=qh h2
      have H3:=qh h3
      have HV2:=qh hv2
      clear h2 h3 hv1 hv2 B hb1
      go_wp2_with fail
      rw [<-HQ.out]
      generalize hA:({ tmps:=_,defers:=_ } :Act)=A
      have h4:A.tmps[6]? =some (.pointer (some ⟨w.heap.size+1+1+1,0,none⟩)):=by rw [<-hA];rfl
      have h5:A.defers= [] :=by rw [<-hA]
      clear hA
      rw [<-HPP.out]
      refine ⟨h5,_,Qh h4 H2.out, ?_⟩
      exact ⟨⟨cv,by rw [HA.out],by rw [HV.out];exact HV2.out.sub (Zd fun k hk _=>⟨by omega,rfl⟩)⟩,H3.out⟩
  .cases ib with
   |false=> ?_
   |true=> ?_
   all_goals
       go_wp2_with fail
       refine (HBD.out _ HBW.out.below).mono ?_
       rintro e w4 ⟨⟨cv,rfl,hv1⟩,hb1⟩
       have B:=HBW.out.next hb1 (by omega)
       clear HBW b0 b1 b2 b3 b4 b5 b6 b7 b8 b9 b10 b11 a0 a1 a2 a3 a4 a5 a6 x0 x1 x2 x3 x4 r0 r1 r2 r3 r4 r5 r6 r7 r8 r9 r10 r11 bf0 bf1 bf2 bf3 bf4 bf5 bf6 bf7 bf8 bf9 bf10 bf11 rf0 rf1 rf2 rf3 rf4 rf5 rf6 rf7 rf8 rf9 rf10 rf11
       obtain ⟨b0,b1,b2,b3,b4,b5,b6,b7,b8,b9,b10,b11,a0,a1,a2,a3,a4,a5,a6,x0,x1,x2,x3,x4,r0,r1,r2,r3,r4,r5,r6,r7,r8,r9,r10,r11,bf0,bf1,bf2,bf3,bf4,bf5,bf6,bf7,bf8,bf9,bf10,bf11,rf0,rf1,rf2,rf3,rf4,rf5,rf6,rf7,rf8,rf9,rf10,rf11,z0,z1,z2,z3⟩:=B.facts
       have HBW:=qh B
       have hz4:=hb1.size
       have hv2:=Zm (Zm hv1 (Zi w4 w.heap.size 6 cv) (by omega)) (Xz _ (w.heap.size+1+1+1) { c with k:=2,key:=key,v:=cv }) (by omega)
       have h2:=Zp (((((HBW.out.r.far (o:=6) (x:= .int .u8 cv.k) (show w.heap.size+1+1+1≠w.heap.size by omega)).far (o:=7) (x:= .int .i64 cv.n) (show w.heap.size+1+1+1≠w.heap.size by omega)).far (o:=8) (x:= .string cv.s) (show w.heap.size+1+1+1≠w.heap.size by omega)).far (o:=9) (x:= .slice cv.la cv.ll cv.lc) (show w.heap.size+1+1+1≠w.heap.size by omega)).far (o:=10) (x:= .slice cv.oa cv.ol cv.oc) (show w.heap.size+1+1+1≠w.heap.size by omega)) { c with k:=2,key:=key,v:=cv }
       have h3:=Below.setC (((((HBW.out.below.set_ (o:=6) (x:= .int .u8 cv.k) (Nat.le_refl _)).set_ (o:=7) (x:= .int .i64 cv.n) (Nat.le_refl _)).set_ (o:=8) (x:= .string cv.s) (Nat.le_refl _)).set_ (o:=9) (x:= .slice cv.la cv.ll cv.lc) (Nat.le_refl _)).set_ (o:=10) (x:= .slice cv.oa cv.ol cv.oc) (Nat.le_refl _)) (show w.heap.size<=w.heap.size+1+1+1 by omega) { c with k:=2,key:=key,v:=cv }
       dsimp only at h2 h3 hv2
       have H2:=qh h2
       have H3:=qh h3
       have HV2:=qh hv2
       clear h2 h3 hv1 hv2 B hb1
       go_wp2_with fail
       rw [<-HQ.out]
       generalize hA:({ tmps:=_,defers:=_ } :Act)=A
       have h4:A.tmps[6]? =some (.pointer (some ⟨w.heap.size+1+1+1,0,none⟩)):=by rw [<-hA];rfl
       have h5:A.defers= [] :=by rw [<-hA]
       clear hA
       rw [<-HPP.out]
       refine ⟨h5,_,Qh h4 H2.out, ?_⟩
       exact ⟨⟨cv,by rw [HA.out],by rw [HV.out];exact HV2.out.sub (Zd fun k hk _=>⟨by omega,rfl⟩)⟩,H3.out⟩
theorem zl1 (w:World) (c:CC) (hcv:c.v=vzero) (a:AC) (ha:a.Bnd) (x:VC) (o:List (ByteArray×V)) (hx:IsFields w w.heap.size o x.oa x.ol x.oc) (l:List Tk) (hv:IsToks w w.heap.size l a.va a.vl a.vc):
 uP 41 #[.agg #[.int .u8 c.k, .slice c.pa c.pl c.pc, .string c.key, .int .i64 c.i, .int .i64 c.j, .int .i64 c.n, .int .u8 c.v.k, .int .i64 c.v.n, .string c.v.s, .slice c.v.la c.v.ll c.v.lc, .slice c.v.oa c.v.ol c.v.oc, .string c.s], .agg #[.slice a.pa a.pl a.pc, .int .u8 a.k, .int .i64 a.i, .int .i64 a.j, .int .i64 a.n, .string a.s, .slice a.va a.vl a.vc], .agg #[.int .u8 x.k, .int .i64 x.n, .string x.s, .slice x.la x.ll x.lc, .slice x.oa x.ol x.oc]] w (FieldAPost w o a c l):=by
 delta uP
 have k0:=ha.k0
 by_cases hp:0<x.ol/\0<a.k % 3
 .cases hB:fieldB o a with
  |true=>exact zhm w c hcv a ha x o hx l hv hp.1 hp.2 hB
  |false=>exact zo0 w c hcv a ha x o hx l hv hp.1 hp.2 hB
 .cases hB:fieldB o a with
  |true=>exact zo5 w c hcv a ha x o hx l hv hp hB
  |false=>exact zjw w c hcv a ha x o hx l hv hp hB
structure OZ (w w1 W:World) (R:Option Cm) (p:List St) (pa:Option Addr) (k pc yb:Nat):Prop where
 box:∃(d:CC) (x:V),R=some (cmOf p x d)/\d.pa=pa/\d.pl=k/\d.pc=pc/\d.Bnd/\BC W yb (ccells d)/\IsVal (only (fun b=>w.heap.size+3<=b) W) W.heap.size x d.v
 r:BC W (w.heap.size+1+1) (ccells czero)
 below:Below w.heap.size w W
 b1:Below w1.heap.size w1 W
theorem OZ.store {w w1 W5:World} {R:Option Cm} {p:List St} {pa:Option Addr} {k pc yb:Nat} {d c0:CC} {x:V} (hR:R=some (cmOf p x d)) (e1:d.pa=pa) (e2:d.pl=k) (e3:d.pc=pc) (hd:d.Bnd) (hc:BC W5 yb (ccells c0)) (hyb:w1.heap.size<=yb) (hlo:w.heap.size+3<=w1.heap.size) (hv:IsVal (only (fun b=>yb+1<=b) W5) W5.heap.size x d.v) (hr:BC W5 (w.heap.size+1+1) (ccells czero)) (hb:uB w W5) (hb1:uB w1 W5):OZ w w1 (setC W5 yb d) R p pa k pc yb:=by
 have st:=Yk W5 yb d
 exact ⟨⟨d,x,hR,e1,e2,e3,hd,Zp hc d,Z2 hv rfl st.size fun k hk hl=>⟨by omega,st.block k hl (by omega)⟩⟩,hr.next st (by omega),Below.setC hb (by omega) d,Below.setC hb1 (by omega) d⟩
theorem zlh (n:Nat) (a:AC) (c:CC):(textA n a c).pa=c.pa/\(textA n a c).pl=c.pl/\(textA n a c).pc=c.pc/\(textA n a c).v=c.v:=by
 unfold textA;split<;>exact ⟨rfl,rfl,rfl,rfl⟩
theorem zp7 (n:Nat) (a:AC) (bs:List UInt8) (tl:List Tk) (p:List St) (x:V) (pa:Option Addr) (k pc:Nat):cmOf p x (textA n (Ac.bare ⟨bs,a.k,a.i,a.j,a.n,a.s,tl⟩) czero)=cmOf p x (textA n a (pathC pa k pc)):=by
 unfold textA
 by_cases h:0<n/\a.k % 2=0
 .rw [if_pos h,if_pos (show 0<n/\(Ac.bare ⟨bs,a.k,a.i,a.j,a.n,a.s,tl⟩).k % 2=0 from h)];rfl
 .rw [if_neg h,if_neg (show ¬(0<n/\(Ac.bare ⟨bs,a.k,a.i,a.j,a.n,a.s,tl⟩).k % 2=0) from h)];rfl
theorem zh0 (n:Nat) (a:AC) (bs:List UInt8) (tl:List Tk) (p:List St) (x:V) (pa:Option Addr) (k pc:Nat) (cv:VC):cmOf p x (listA n (Ac.bare ⟨bs,a.k,a.i,a.j,a.n,a.s,tl⟩) czero vzero)=cmOf p x (listA n a (pathC pa k pc) cv):=rfl
theorem zmt (o:List (ByteArray×V)) (a:AC) (bs:List UInt8) (tl:List Tk) (p:List St) (x:V) (pa:Option Addr) (k pc:Nat) (cv:VC):cmOf p x (fieldA o (Ac.bare ⟨bs,a.k,a.i,a.j,a.n,a.s,tl⟩) czero vzero)=cmOf p x (fieldA o a (pathC pa k pc) cv):=rfl
theorem zk9 (v:V) (p:List St):(xAt v p).weight<=v.weight:=by
 unfold xAt
 have h1:1<=v.weight:=by cases v;simp only [V.weight];omega
 cases h:getP v p with
 |none=>show V.none.weight<=_;rw [Jd];exact h1
 |some x=>exact Zz p h
end Go.Proofs.YtnjgbiachcfigaaGreatDoor
