/-
  Contracts of the functions that the law reaches: conciliatorlaw06.text: what is done to a.
-/
import Derived.Test.YtnjgbiachcfigaaGreatDoorCt38
namespace Go.Proofs.YtnjgbiachcfigaaGreatDoor
open Go.RowKit
set_option maxHeartbeats 8000000
def textA (n:Nat) (a:AC) (c:CC):CC:=
 if 0<n/\a.k % 2=0 then { c with k:=9,i:=max a.i 0 % n,s:= .empty,n:=1+max a.j 0 % ((n:Int) - max a.i 0 % n) }
 else { c with k:=8,i:=max a.i 0 % ((n:Int)+1),s:= { data:= #[120] } ++plainS a.s }
theorem Kj {tmps:Array Value} {W:World} {b:Nat} {d:CC} (ht:tmps[6]? =some (.pointer (some ⟨b,0,none⟩))) (h:BC W b (ccells d)):
 (results Tryz.f39 tmps).run Tryz.prog W= .ok (.agg #[.int .u8 d.k, .slice d.pa d.pl d.pc, .string d.key, .int .i64 d.i, .int .i64 d.j, .int .i64 d.n, .int .u8 d.v.k, .int .i64 d.v.n, .string d.v.s, .slice d.v.la d.v.ll d.v.lc, .slice d.v.oa d.v.ol d.v.oc, .string d.s]) W:=by
 obtain ⟨r0,r1,r2,r3,r4,r5,r6,r7,r8,r9,r10,r11⟩:=row12 h.at_
 simp [results,Tryz.results39,go_sem,ht,r0,r1,r2,r3,r4,r5,r6,r7,r8,r9,r10,r11]
set_option maxRecDepth 100000 in
theorem zd4 (w:World) (c:CC) (a:AC) (ha:a.Bnd):
 Calls Tryz.prog 39 #[.agg #[.int .u8 c.k, .slice c.pa c.pl c.pc, .string c.key, .int .i64 c.i, .int .i64 c.j, .int .i64 c.n, .int .u8 c.v.k, .int .i64 c.v.n, .string c.v.s, .slice c.v.la c.v.ll c.v.lc, .slice c.v.oa c.v.ol c.v.oc, .string c.s], .agg #[.slice a.pa a.pl a.pc, .int .u8 a.k, .int .i64 a.i, .int .i64 a.j, .int .i64 a.n, .string a.s, .slice a.va a.vl a.vc], .int .i64 0] w fun e w'=>e= .returned (.agg #[.int .u8 (textA 0 a c).k, .slice (textA 0 a c).pa (textA 0 a c).pl (textA 0 a c).pc, .string (textA 0 a c).key, .int .i64 (textA 0 a c).i, .int .i64 (textA 0 a c).j, .int .i64 (textA 0 a c).n, .int .u8 (textA 0 a c).v.k, .int .i64 (textA 0 a c).v.n, .string (textA 0 a c).v.s, .slice (textA 0 a c).v.la (textA 0 a c).v.ll (textA 0 a c).v.lc, .slice (textA 0 a c).v.oa (textA 0 a c).v.ol (textA 0 a c).v.oc, .string (textA 0 a c).s])/\Below w.heap.size w w':=by
 have HPL:Hid (∀W,Calls Tryz.prog 74 #[.string a.s] W fun e w'=>e= .returned (.string (plainS a.s))/\Below W.heap.size W w'):=fun W=>Xe W a.s ha.s1
 obtain ⟨ps,hps⟩:∃ps,plainS a.s=ps:=⟨_,rfl⟩
 have hpz:ps.size<=40:=by rw [<-hps];exact Yr _
 rw [hps] at HPL
 have HB:=qh (AB.start w { c with k:=8,i:=0 } a 39 25 39)
 obtain ⟨D,hD⟩:∃D,textA 0 a c=D:=⟨_,rfl⟩
 rw [hD]
 have HD:=qh hD
 have HPS:=qh hps
 have i0:=ha.i0;have i1:=ha.i1;have j0:=ha.j0;have j1:=ha.j1;have k0:=ha.k0
 clear hps hD ha
 go_enter Tryz.func39,Tryz.ntmps39
 generalize hQ0:bodyPost _ _ _=Q0
 have HQ:=qh hQ0
 clear hQ0
 go_wp2_with fail
 refine (HPL.out _).mono ?_
 rintro e w1 ⟨rfl,hb1⟩
 have B:=HB.out.next hb1 (by simp)
 obtain ⟨b0,b1,b2,b3,b4,b5,b6,b7,b8,b9,b10,b11,a0,a1,a2,a3,a4,a5,a6,r0,r1,r2,r3,r4,r5,r6,r7,r8,r9,r10,r11,bf0,bf1,bf2,bf3,bf4,bf5,bf6,bf7,bf8,bf9,bf10,bf11,rf0,rf1,rf2,rf3,rf4,rf5,rf6,rf7,rf8,rf9,rf10,rf11,z0,z1,z2⟩:=B.facts
 have HBW:=qh B
 have hq1:¬(9223372036854775807<1+ps.size):=by omega
 clear B hb1
 have h2:=Zy (HBW.out.r.far (o:=11) (x:= .string ({ data:= #[120] } ++ps)) (show w.heap.size+1+1≠w.heap.size by omega)) { c with k:=8,i:=0,s:= { data:= #[120] } ++ps }
 have h3:=Below.setC (HBW.out.below.set_ (o:=11) (x:= .string ({ data:= #[120] } ++ps)) (Nat.le_refl _)) (show w.heap.size<=w.heap.size+1+1 by omega) { c with k:=8,i:=0,s:= { data:= #[120] } ++ps }
 dsimp only at h2 h3
 have H2:=qh h2
 have H3:=qh h3
 clear h2 h3
 go_wp2_with fail
 obtain rfl:D= { c with k:=8,i:=0,s:= { data:= #[120] } ++ps } :=by rw [<-HD.out,textA,if_neg (by omega),HPS.out];simp
 rw [<-HQ.out]
 generalize hA:({ tmps:=_,defers:=_ } :Act)=A
 have h4:A.tmps[6]? =some (.pointer (some ⟨w.heap.size+1+1,0,none⟩)):=by rw [<-hA];rfl
 have h5:A.defers= [] :=by rw [<-hA]
 clear hA
 exact ⟨h5,_,Kj h4 H2.out,rfl,H3.out⟩
set_option maxRecDepth 100000 in
theorem zgg (w:World) (c:CC) (a:AC) (ha:a.Bnd) (n:Nat) (hn:n<=1000000000000) (hn0:0<n) (hk:¬a.k % 2=0):
 Calls Tryz.prog 39 #[.agg #[.int .u8 c.k, .slice c.pa c.pl c.pc, .string c.key, .int .i64 c.i, .int .i64 c.j, .int .i64 c.n, .int .u8 c.v.k, .int .i64 c.v.n, .string c.v.s, .slice c.v.la c.v.ll c.v.lc, .slice c.v.oa c.v.ol c.v.oc, .string c.s], .agg #[.slice a.pa a.pl a.pc, .int .u8 a.k, .int .i64 a.i, .int .i64 a.j, .int .i64 a.n, .string a.s, .slice a.va a.vl a.vc], .int .i64 n] w fun e w'=>e= .returned (.agg #[.int .u8 (textA n a c).k, .slice (textA n a c).pa (textA n a c).pl (textA n a c).pc, .string (textA n a c).key, .int .i64 (textA n a c).i, .int .i64 (textA n a c).j, .int .i64 (textA n a c).n, .int .u8 (textA n a c).v.k, .int .i64 (textA n a c).v.n, .string (textA n a c).v.s, .slice (textA n a c).v.la (textA n a c).v.ll (textA n a c).v.lc, .slice (textA n a c).v.oa (textA n a c).v.ol (textA n a c).v.oc, .string (textA n a c).s])/\Below w.heap.size w w':=by
 have HPL:Hid (∀W,Calls Tryz.prog 74 #[.string a.s] W fun e w'=>e= .returned (.string (plainS a.s))/\Below W.heap.size W w'):=fun W=>Xe W a.s ha.s1
 obtain ⟨ps,hps⟩:∃ps,plainS a.s=ps:=⟨_,rfl⟩
 have hpz:ps.size<=40:=by rw [<-hps];exact Yr _
 rw [hps] at HPL
 have HB:=qh (AB.start w { c with k:=8,i:=max a.i 0 % ((n:Int)+1) } a 39 25 39)
 obtain ⟨D,hD⟩:∃D,textA n a c=D:=⟨_,rfl⟩
 rw [hD]
 have HD:=qh hD
 have HPS:=qh hps
 have i0:=ha.i0;have i1:=ha.i1;have j0:=ha.j0;have j1:=ha.j1;have k0:=ha.k0
 clear hps hD ha
 go_enter Tryz.func39,Tryz.ntmps39
 generalize hQ0:bodyPost _ _ _=Q0
 have HQ:=qh hQ0
 clear hQ0
 go_wp2_with fail
 refine (HPL.out _).mono ?_
 rintro e w1 ⟨rfl,hb1⟩
 have B:=HB.out.next hb1 (by simp)
 obtain ⟨b0,b1,b2,b3,b4,b5,b6,b7,b8,b9,b10,b11,a0,a1,a2,a3,a4,a5,a6,r0,r1,r2,r3,r4,r5,r6,r7,r8,r9,r10,r11,bf0,bf1,bf2,bf3,bf4,bf5,bf6,bf7,bf8,bf9,bf10,bf11,rf0,rf1,rf2,rf3,rf4,rf5,rf6,rf7,rf8,rf9,rf10,rf11,z0,z1,z2⟩:=B.facts
 have HBW:=qh B
 have hq1:¬(9223372036854775807<1+ps.size):=by omega
 clear B hb1
 have h2:=Zy (HBW.out.r.far (o:=11) (x:= .string ({ data:= #[120] } ++ps)) (show w.heap.size+1+1≠w.heap.size by omega)) { c with k:=8,i:=max a.i 0 % ((n:Int)+1),s:= { data:= #[120] } ++ps }
 have h3:=Below.setC (HBW.out.below.set_ (o:=11) (x:= .string ({ data:= #[120] } ++ps)) (Nat.le_refl _)) (show w.heap.size<=w.heap.size+1+1 by omega) { c with k:=8,i:=max a.i 0 % ((n:Int)+1),s:= { data:= #[120] } ++ps }
 dsimp only at h2 h3
 have H2:=qh h2
 have H3:=qh h3
 clear h2 h3
 go_wp2_with fail
 obtain rfl:D= { c with k:=8,i:=max a.i 0 % ((n:Int)+1),s:= { data:= #[120] } ++ps } :=by rw [<-HD.out,textA,if_neg (by omega),HPS.out]
 rw [<-HQ.out]
 generalize hA:({ tmps:=_,defers:=_ } :Act)=A
 have h4:A.tmps[6]? =some (.pointer (some ⟨w.heap.size+1+1,0,none⟩)):=by rw [<-hA];rfl
 have h5:A.defers= [] :=by rw [<-hA]
 clear hA
 exact ⟨h5,_,Kj h4 H2.out,rfl,H3.out⟩
set_option maxRecDepth 100000 in
theorem ziv (w:World) (c:CC) (a:AC) (ha:a.Bnd) (n:Nat) (hn:n<=1000000000000) (hn0:0<n) (hk:a.k % 2=0):
 Calls Tryz.prog 39 #[.agg #[.int .u8 c.k, .slice c.pa c.pl c.pc, .string c.key, .int .i64 c.i, .int .i64 c.j, .int .i64 c.n, .int .u8 c.v.k, .int .i64 c.v.n, .string c.v.s, .slice c.v.la c.v.ll c.v.lc, .slice c.v.oa c.v.ol c.v.oc, .string c.s], .agg #[.slice a.pa a.pl a.pc, .int .u8 a.k, .int .i64 a.i, .int .i64 a.j, .int .i64 a.n, .string a.s, .slice a.va a.vl a.vc], .int .i64 n] w fun e w'=>e= .returned (.agg #[.int .u8 (textA n a c).k, .slice (textA n a c).pa (textA n a c).pl (textA n a c).pc, .string (textA n a c).key, .int .i64 (textA n a c).i, .int .i64 (textA n a c).j, .int .i64 (textA n a c).n, .int .u8 (textA n a c).v.k, .int .i64 (textA n a c).v.n, .string (textA n a c).v.s, .slice (textA n a c).v.la (textA n a c).v.ll (textA n a c).v.lc, .slice (textA n a c).v.oa (textA n a c).v.ol (textA n a c).v.oc, .string (textA n a c).s])/\Below w.heap.size w w':=by
 have HPL:Hid (∀W,Calls Tryz.prog 74 #[.string a.s] W fun e w'=>e= .returned (.string (plainS a.s))/\Below W.heap.size W w'):=fun W=>Xe W a.s ha.s1
 obtain ⟨ps,hps⟩:∃ps,plainS a.s=ps:=⟨_,rfl⟩
 have hpz:ps.size<=40:=by rw [<-hps];exact Yr _
 rw [hps] at HPL
 have HB:=qh (AB.start w { c with k:=8,i:=max a.i 0 % ((n:Int)+1) } a 39 25 39)
 obtain ⟨D,hD⟩:∃D,textA n a c=D:=⟨_,rfl⟩
 rw [hD]
 have HD:=qh hD
 have HPS:=qh hps
 have i0:=ha.i0;have i1:=ha.i1;have j0:=ha.j0;have j1:=ha.j1;have k0:=ha.k0
 clear hps hD ha
 go_enter Tryz.func39,Tryz.ntmps39
 generalize hQ0:bodyPost _ _ _=Q0
 have HQ:=qh hQ0
 clear hQ0
 go_wp2_with fail
 refine (HPL.out _).mono ?_
 rintro e w1 ⟨rfl,hb1⟩
 have B:=HB.out.next hb1 (by simp)
 obtain ⟨b0,b1,b2,b3,b4,b5,b6,b7,b8,b9,b10,b11,a0,a1,a2,a3,a4,a5,a6,r0,r1,r2,r3,r4,r5,r6,r7,r8,r9,r10,r11,bf0,bf1,bf2,bf3,bf4,bf5,bf6,bf7,bf8,bf9,bf10,bf11,rf0,rf1,rf2,rf3,rf4,rf5,rf6,rf7,rf8,rf9,rf10,rf11,z0,z1,z2⟩:=B.facts
 have HBW:=qh B
 have hq1:¬(9223372036854775807<1+ps.size):=by omega
 clear B hb1
 have hI0:0<=max a.i 0 % (n:Int):=Int.emod_nonneg _ (by omega)
 have hI1:max a.i 0 % (n:Int)<n:=Int.emod_lt_of_pos _ (by omega)
 have hJ0:0<=max a.j 0 % ((n:Int) - max a.i 0 % n):=Int.emod_nonneg _ (by omega)
 have hJ1:max a.j 0 % ((n:Int) - max a.i 0 % n)<(n:Int) - max a.i 0 % n:=Int.emod_lt_of_pos _ (by omega)
 have h2:=Zy (((((HBW.out.r.far (o:=11) (x:= .string ({ data:= #[120] } ++ps)) (show w.heap.size+1+1≠w.heap.size by omega)).far (o:=0) (x:= .int .u8 9) (show w.heap.size+1+1≠w.heap.size by omega)).far (o:=11) (x:= .string { data:= #[] }) (show w.heap.size+1+1≠w.heap.size by omega)).far (o:=3) (x:= .int .i64 (max a.i 0 % n)) (show w.heap.size+1+1≠w.heap.size by omega)).far (o:=5) (x:= .int .i64 (1+max a.j 0 % ((n:Int) - max a.i 0 % n))) (show w.heap.size+1+1≠w.heap.size by omega)) { c with k:=9,i:=max a.i 0 % n,s:= { data:= #[] },n:=1+max a.j 0 % ((n:Int) - max a.i 0 % n) }
 have h3:=Below.setC (((((HBW.out.below.set_ (o:=11) (x:= .string ({ data:= #[120] } ++ps)) (Nat.le_refl _)).set_ (o:=0) (x:= .int .u8 9) (Nat.le_refl _)).set_ (o:=11) (x:= .string { data:= #[] }) (Nat.le_refl _)).set_ (o:=3) (x:= .int .i64 (max a.i 0 % n)) (Nat.le_refl _)).set_ (o:=5) (x:= .int .i64 (1+max a.j 0 % ((n:Int) - max a.i 0 % n))) (Nat.le_refl _)) (show w.heap.size<=w.heap.size+1+1 by omega) { c with k:=9,i:=max a.i 0 % n,s:= { data:= #[] },n:=1+max a.j 0 % ((n:Int) - max a.i 0 % n) }
 dsimp only at h2 h3
 have H2:=qh h2
 have H3:=qh h3
 clear h2 h3
 go_wp2_with fail
 obtain rfl:D= { c with k:=9,i:=max a.i 0 % n,s:= .empty,n:=1+max a.j 0 % ((n:Int) - max a.i 0 % n) } :=by rw [<-HD.out,textA,if_pos ⟨hn0,hk⟩]
 rw [<-HQ.out]
 generalize hA:({ tmps:=_,defers:=_ } :Act)=A
 have h4:A.tmps[6]? =some (.pointer (some ⟨w.heap.size+1+1,0,none⟩)):=by rw [<-hA];rfl
 have h5:A.defers= [] :=by rw [<-hA]
 clear hA
 exact ⟨h5,_,Kj h4 H2.out,rfl,H3.out⟩
theorem zfy (w:World) (c:CC) (a:AC) (ha:a.Bnd) (n:Nat) (hn:n<=1000000000000):
 Calls Tryz.prog 39 #[.agg #[.int .u8 c.k, .slice c.pa c.pl c.pc, .string c.key, .int .i64 c.i, .int .i64 c.j, .int .i64 c.n, .int .u8 c.v.k, .int .i64 c.v.n, .string c.v.s, .slice c.v.la c.v.ll c.v.lc, .slice c.v.oa c.v.ol c.v.oc, .string c.s], .agg #[.slice a.pa a.pl a.pc, .int .u8 a.k, .int .i64 a.i, .int .i64 a.j, .int .i64 a.n, .string a.s, .slice a.va a.vl a.vc], .int .i64 n] w fun e w'=>e= .returned (.agg #[.int .u8 (textA n a c).k, .slice (textA n a c).pa (textA n a c).pl (textA n a c).pc, .string (textA n a c).key, .int .i64 (textA n a c).i, .int .i64 (textA n a c).j, .int .i64 (textA n a c).n, .int .u8 (textA n a c).v.k, .int .i64 (textA n a c).v.n, .string (textA n a c).v.s, .slice (textA n a c).v.la (textA n a c).v.ll (textA n a c).v.lc, .slice (textA n a c).v.oa (textA n a c).v.ol (textA n a c).v.oc, .string (textA n a c).s])/\Below w.heap.size w w':=by
 by_cases hn0:0<n
 .by_cases hk:a.k % 2=0
  .exact ziv w c a ha n hn hn0 hk
  .exact zgg w c a ha n hn hn0 hk
 .obtain rfl:n=0:=by omega
  exact zd4 w c a ha
def xAt (v:V) (p:List St):V:=(getP v p).getD V.none
def trimN (v:V) (p:List St):Nat->Nat
 |0=>0
 |n+1=>if (xAt v (p.take (n+1))).kd<2 then trimN v p n else n+1
def wayP (v:V) (bs:List UInt8):List St:=(walkP v (bs.take 8)).take 5
def aimPath (v:V) (bs:List UInt8):List St:=(wayP v bs).take (trimN v (wayP v bs) (wayP v bs).length)
noncomputable def fieldKey (o:List (ByteArray×V)) (a:AC):ByteArray:=if 0<o.length/\0<a.k % 3 then (o.getD (max a.i 0 % o.length).toNat (.empty,V.none)).1 else plainS a.s
noncomputable def fieldB (o:List (ByteArray×V)) (a:AC):Bool:=fieldIs o (fieldKey o a) && decide (a.k % 2=0)
noncomputable def fieldA (o:List (ByteArray×V)) (a:AC) (c:CC) (cv:VC):CC:= { c with k:=if fieldB o a=true then 3 else 2,key:=fieldKey o a,v:=cv }
noncomputable def fieldV (o:List (ByteArray×V)) (a:AC) (l:List Tk):V:=if fieldB o a=true then V.none else (oneP 6 (l.take 60)).1
def Ac.bare (a:Ac):AC:=⟨none,0,0,a.k,a.i,a.j,a.n,a.s,none,0,0⟩
def cmOf (p:List St) (v:V) (d:CC):Cm:=⟨d.k,p,d.key,d.i,d.j,d.n,v,d.s⟩
noncomputable def oneX (x:V) (p:List St) (a:Ac):Option Cm:=
 if x.kd=2 then some ⟨1,p, .empty,0,0,a.n,V.none, .empty⟩
 else if x.kd=3 then some (cmOf p V.none (textA x.str.size a.bare czero))
 else if x.kd=4 then some (cmOf p (listV x.ls.length a.k a.v) (listA x.ls.length a.bare czero vzero))
 else if x.kd=5 then some (cmOf p (fieldV x.os a.bare a.v) (fieldA x.os a.bare czero vzero))
 else none
noncomputable def oneC (v:V) (a:Ac):Option Cm:=oneX (xAt v (aimPath v a.path)) (aimPath v a.path) a
theorem Xf:V.none.weight=1:=by simp [V.none,V.weight,weightL,weightO]
structure Small (v:V) (c:Cm):Prop where
 sv:c.v.weight<=20000
 ss:c.s.size<=41
 sp:c.path.length<=5
 sk:c.key.size<=40∨∀x,getP v c.path=some x->∃f ∈ x.os,f.1=c.key
theorem zkv {v:V} {a:Ac} {c:Cm} (h:oneC v a=some c):Small v c:=by
 have hpl:(aimPath v a.path).length<=5:=by unfold aimPath wayP;rw [List.length_take,List.length_take];omega
 unfold oneC at h
 obtain ⟨p,hp⟩:∃p,aimPath v a.path=p:=⟨_,rfl⟩
 rw [hp] at h hpl
 have hps:=Yr a.s
 have hb:=(Jn a.v).2.1
 have hn:=Xf
 unfold oneX at h
 split at h
 .injection h with h;subst h
  exact ⟨by dsimp only;omega,Nat.zero_le _,hpl, .inl (Nat.zero_le _)⟩
 .split at h
  .injection h with h;subst h
   unfold textA
   split
   .exact ⟨by show V.none.weight<=_;omega,Nat.zero_le _,hpl, .inl (Nat.zero_le _)⟩
   .refine ⟨by show V.none.weight<=_;omega, ?_,hpl, .inl (Nat.zero_le _)⟩
    show ({ data:= #[120] } ++plainS a.s:ByteArray).size<=41
    rw [ByteArray.size_append]
    have:({ data:= #[120] } :ByteArray).size=1:=rfl
    omega
  .split at h
   .injection h with h;subst h
    refine ⟨?_,Nat.zero_le _,hpl, .inl (Nat.zero_le _)⟩
    show (listV _ _ _).weight<=_
    unfold listV
    split<;>omega
   .split at h
    .injection h with h;subst h
     refine ⟨?_,Nat.zero_le _,hpl, ?_⟩
     .show (fieldV _ _ _).weight<=_
      unfold fieldV
      split<;>omega
     .show (fieldKey _ _).size<=40∨∀x,getP v p=some x->∃f ∈ x.os,f.1=fieldKey _ _
      unfold fieldKey
      split
      .rename_i hc
       right
       intro x hx
       have hxx:xAt v p=x:=by rw [xAt,hx];rfl
       rw [hxx] at hc ⊢
       have hlt:(max a.bare.i 0 % (x.os.length:Int)).toNat<x.os.length:=by
        have h1:=Int.emod_nonneg (max a.bare.i 0) (show (x.os.length:Int)≠0 by omega)
        have h2:=Int.emod_lt_of_pos (max a.bare.i 0) (show (0:Int)<x.os.length by omega)
        omega
       refine ⟨x.os[(max a.bare.i 0 % (x.os.length:Int)).toNat]'hlt,List.getElem_mem _, ?_⟩
       simp only [List.getD_eq_getElem?_getD,List.getElem?_eq_getElem hlt,Option.getD_some]
      .left;exact hps
    .cases h
theorem zev {n b0 b1 b2 b3 r k:Nat} (h:Lib.decodeN n b0 b1 b2 b3=(r,k)) (hn:1<=n):k<=n:=by
 unfold Lib.decodeN at h
 repeat' split at h
 all_goals (simp only [Prod.mk.injEq] at h;omega)
theorem zew {n m b0 b1 b2 b3 c1 c2 c3 r k:Nat} (h:Lib.decodeN n b0 b1 b2 b3=(r,k)) (hv:¬(r=65533/\k=1)) (hm:k<=m) (e1:2<=k->c1=b1) (e2:3<=k->c2=b2) (e3:4<=k->c3=b3):Lib.decodeN m b0 c1 c2 c3=(r,k):=by
 unfold Lib.decodeN at h ⊢
 by_cases h0:b0<128
 .rw [if_pos h0] at h ⊢;exact h
 rw [if_neg h0] at h ⊢
 by_cases h1:b0 / 32=6/\(1<n/\b1 / 64=2)
 .rw [if_pos h1] at h
  split at h
  .rename_i hq
   obtain ⟨rfl,rfl⟩:=Prod.mk.inj h
   obtain rfl:=e1 (by omega)
   rw [if_pos ⟨h1.1,by omega,h1.2.2⟩,if_pos hq]
  .obtain ⟨rfl,rfl⟩:=Prod.mk.inj h
   exact absurd ⟨rfl,rfl⟩ hv
 rw [if_neg h1] at h
 by_cases h2:b0 / 16=14/\(1<n/\b1 / 64=2)/\(2<n/\b2 / 64=2)
 .rw [if_pos h2] at h
  split at h
  .rename_i hq
   obtain ⟨rfl,rfl⟩:=Prod.mk.inj h
   obtain rfl:=e1 (by omega)
   obtain rfl:=e2 (by omega)
   rw [if_neg (by omega),if_pos ⟨h2.1,⟨by omega,h2.2.1.2⟩,by omega,h2.2.2.2⟩,if_pos hq]
  .obtain ⟨rfl,rfl⟩:=Prod.mk.inj h
   exact absurd ⟨rfl,rfl⟩ hv
 rw [if_neg h2] at h
 by_cases h3:b0 / 8=30/\(1<n/\b1 / 64=2)/\(2<n/\b2 / 64=2)/\(3<n/\b3 / 64=2)
 .rw [if_pos h3] at h
  split at h
  .rename_i hq
   obtain ⟨rfl,rfl⟩:=Prod.mk.inj h
   obtain rfl:=e1 (by omega)
   obtain rfl:=e2 (by omega)
   obtain rfl:=e3 (by omega)
   rw [if_neg (by omega),if_neg (by omega),if_pos ⟨h3.1,⟨by omega,h3.2.1.2⟩,⟨by omega,h3.2.2.1.2⟩,by omega,h3.2.2.2.2⟩,if_pos hq]
  .obtain ⟨rfl,rfl⟩:=Prod.mk.inj h
   exact absurd ⟨rfl,rfl⟩ hv
 rw [if_neg h3] at h
 obtain ⟨rfl,rfl⟩:=Prod.mk.inj h
 exact absurd ⟨rfl,rfl⟩ hv
theorem zcu {l:List UInt8} (h:l≠ []):(Lib.decodeL l).2<=l.length:=by
 have h0:0<l.length:=List.length_pos_iff.2 h
 rw [Lib.decodeL_N]
 exact zev (Prod.eta _).symm h0
theorem zbz {l m:List UInt8} (hv:¬((Lib.decodeL l).1=65533/\(Lib.decodeL l).2=1)) (hm:(Lib.decodeL l).2<=m.length) (h:∀i,i<(Lib.decodeL l).2->m.getD i 0=l.getD i 0):Lib.decodeL m=Lib.decodeL l:=by
 have hw:=Lib.decodeL_width l
 obtain ⟨r,hr⟩:∃r,(Lib.decodeL l).1=r:=⟨_,rfl⟩
 obtain ⟨k,hk⟩:∃k,(Lib.decodeL l).2=k:=⟨_,rfl⟩
 have hd:Lib.decodeL l=(r,k):=by rw [<-hr, <-hk]
 rw [hr,hk] at hv
 rw [hk] at hm h hw
 rw [hd]
 rw [Lib.decodeL_N] at hd ⊢
 rw [h 0 (by omega)]
 exact zew hd hv hm (fun hq=>by rw [h 1 (by omega)]) (fun hq=>by rw [h 2 (by omega)]) (fun hq=>by rw [h 3 (by omega)])
theorem Q6:∀(n:Nat) (a b:List UInt8),a.length<=n->Lib.validD a=true->Lib.validD (a++b)=Lib.validD b:=by
 intro n
 induction n with
 |zero=>intro a b ha _;obtain rfl:a= [] :=List.length_eq_zero_iff.1 (by omega);rfl
 | succ n ih=>
   intro a b ha hv
   by_cases hne:a= []
   .subst hne;rfl
   have hw:=Lib.decodeL_width a
   have hf:=zcu hne
   rw [Lib.validD_step a hne] at hv
   by_cases hbad:(Lib.decodeL a).1=65533/\(Lib.decodeL a).2=1
   .rw [if_pos hbad] at hv;cases hv
   rw [if_neg hbad] at hv
   have e:Lib.decodeL (a++b)=Lib.decodeL a:=zbz hbad (by rw [List.length_append];omega) fun i hi=>by
    rw [List.getD_eq_getElem?_getD,List.getD_eq_getElem?_getD,List.getElem?_append_left (by omega)]
   rw [Lib.validD_step (a++b) (by simp [hne]),e,if_neg hbad,List.drop_append_of_le_length hf]
   exact ih _ b (by rw [List.length_drop];omega) hv
theorem zez (f:Nat):∀(i:Nat) (l:List UInt8),Lib.validD l=true->∀p ∈ cutsP f i l,Lib.validD (l.take (p - i))=true/\Lib.validD (l.drop (p - i))=true:=by
 induction f with
 |zero=>intro i l _ p hp;simp [cutsP] at hp
 | succ f ih=>
   intro i l hv p hp
   rw [cutsP] at hp
   by_cases hne:l= []
   .rw [if_pos hne] at hp;simp at hp
   rw [if_neg hne] at hp
   have hw:=Lib.decodeL_width l
   have hf:=zcu hne
   rcases List.mem_cons.1 hp with rfl|hp
   .rw [Nat.sub_self];exact ⟨rfl,hv⟩
   .have hr:=zan f _ _ p hp
    rw [Lib.validD_step l hne] at hv
    by_cases hbad:(Lib.decodeL l).1=65533/\(Lib.decodeL l).2=1
    .rw [if_pos hbad] at hv;cases hv
    rw [if_neg hbad] at hv
    obtain ⟨h1,h2⟩:=ih _ _ hv p hp
    have e0:p - i=(Lib.decodeL l).2+(p - (i+(Lib.decodeL l).2)):=by omega
    refine ⟨?_,by rw [e0, <-List.drop_drop];exact h2⟩
    have hk:Lib.validD (l.take (Lib.decodeL l).2)=true:=by
     have e:Lib.decodeL (l.take (Lib.decodeL l).2)=Lib.decodeL l:=zbz hbad (by rw [List.length_take];omega) fun j hj=>by
      rw [List.getD_eq_getElem?_getD,List.getD_eq_getElem?_getD,List.getElem?_take_of_lt hj]
     rw [Lib.validD_step _ (fun h=>by
      have:=congrArg List.length h
      rw [List.length_take,List.length_nil] at this
      have h0:0<l.length:=List.length_pos_iff.2 hne
      omega),e,if_neg hbad,List.drop_eq_nil_of_le (by rw [List.length_take];omega)]
     rfl
    rw [e0,List.take_add,Q6 _ _ _ (Nat.le_refl _) hk]
    exact h1
theorem za7 (s:ByteArray) {i:Nat} (h:i<=textN s):(cuts s).getD i 0 ∈ cuts s:=by
 have h0:=(Xp s).1
 unfold textN at h
 rw [List.getD_eq_getElem?_getD,List.getElem?_eq_getElem (by omega)]
 exact List.getElem_mem _
theorem zby {s:ByteArray} (hv:Lib.validD s.data.toList=true) {p:Nat} (hp:p ∈ cuts s):Lib.validD (s.data.toList.take p)=true/\Lib.validD (s.data.toList.drop p)=true:=by
 unfold cuts at hp
 rcases List.mem_append.1 hp with hp|hp
 .have:=zez s.size 0 s.data.toList hv p hp
  rwa [Nat.sub_zero] at this
 .rw [List.mem_singleton] at hp
  subst hp
  rw [List.take_of_length_le (by simp),List.drop_eq_nil_of_le (by simp)]
  exact ⟨hv,rfl⟩
theorem za9 (s:ByteArray) (i j:Nat):(s.extract i j).data.toList=(s.data.toList.take j).drop i:=by
 simp [ByteArray.data_extract,List.drop_take]
theorem zdy {s cs:ByteArray} {k i n:Int} (hv:Lib.validD s.data.toList=true) (hc:Lib.validD cs.data.toList=true) (h:tCheck s k i n=0):Lib.validD (textDo s k i n cs).data.toList=true:=by
 obtain ⟨hk,h0,h1⟩:=J4 h
 have hm:(cuts s).getD i.toNat 0 ∈ cuts s:=za7 s (by omega)
 have e1:∀p,(s.extract 0 p).data.toList=s.data.toList.take p:=fun p=>by rw [za9];rfl
 have e2:∀p,(s.extract p s.size).data.toList=s.data.toList.drop p:=fun p=>by rw [za9,List.take_of_length_le (by simp)]
 obtain ⟨v1,v2⟩:=zby hv hm
 unfold textDo
 split
 .rw [ByteArray.data_append,ByteArray.data_append,Array.toList_append,Array.toList_append,List.append_assoc,e1,e2,Q6 _ _ _ (Nat.le_refl _) v1,Q6 _ _ _ (Nat.le_refl _) hc]
  exact v2
 .have hm2:(cuts s).getD (i+n).toNat 0 ∈ cuts s:=za7 s (by omega)
  rw [ByteArray.data_append,Array.toList_append,e1,e2,Q6 _ _ _ (Nat.le_refl _) v1]
  exact (zby hv hm2).2
theorem Zs {k n:Int} {s:ByteArray} {l:List V} {o:List (ByteArray×V)} :V.sound (.mk k n s l o)=true↔plainB k n s l.length o.length=true/\rising o=true/\(∀v ∈ l,v.sound=true)/\(∀f ∈ o,Lib.validD f.1.data.toList=true/\f.2.sound=true):=by
 simp only [V.sound,Bool.and_eq_true,Jd,Jb,and_assoc]
theorem X5:V.none.sound=true:=by simp [V.none,V.sound,soundL,soundO,rising,plainB,ByteArray.toList_eq]
theorem zbs {v:V} {s:St} {x:V} {k:Nat} (hv:v.sound=true) (h:stepP v s=some (x,k)):x.sound=true:=by
 obtain ⟨kk,n,t,l,o,rfl⟩:=v.eta
 obtain ⟨_,_,h3,h4⟩:=Zs.1 hv
 rcases Xd h with ⟨_,_,_,hk,rfl⟩|⟨_,_,_,hk,rfl⟩
 .exact h3 _ (List.getElem_mem (l:=l) hk)
 .exact (h4 _ (List.getElem_mem (l:=o) hk)).2
theorem Jq (p:List St):∀ {v x:V},v.sound=true->getP v p=some x->x.sound=true:=by
 induction p with
 |nil=>intro v x hv h;injection h with h;exact h ▸ hv
 | cons s r ih=>
   intro v x hv h
   unfold getP at h
   cases hs:stepP v s with
   |none=>rw [hs] at h;cases h
   | some q=>
     obtain ⟨y,k⟩:=q
     rw [hs] at h
     exact ih (zbs hv hs) h
theorem zgh {v z:V} {i:Nat} (hv:v.sound=true) (hz:z.sound=true):(v.setL i z).sound=true:=by
 obtain ⟨kk,n,t,l,o,rfl⟩:=v.eta
 obtain ⟨h1,h2,h3,h4⟩:=Zs.1 hv
 refine Zs.2 ⟨by rw [List.length_set];exact h1,h2,fun x hx=> ?_,h4⟩
 rcases List.mem_or_eq_of_mem_set hx with h|h
 .exact h3 x h
 .exact h ▸ hz
theorem zfl {v z:V} {i:Nat} (hv:v.sound=true) (hz:z.sound=true):(v.setO i z).sound=true:=by
 obtain ⟨kk,n,t,l,o,rfl⟩:=v.eta
 obtain ⟨h1,h2,h3,h4⟩:=Zs.1 hv
 have hlen:(putO o i z).length=o.length:=by rw [putO,List.length_set]
 have hkey:∀(j:Nat) (a:ByteArray×V),(putO o i z)[j]? =some a->∃b:ByteArray×V,o[j]? =some b/\b.1=a.1:=by
  intro j a ha
  have hj:j<o.length:=by rw [<-hlen];exact (List.getElem?_eq_some_iff.1 ha).1
  by_cases e:i=j
  .subst e
   rw [putO,List.getElem?_set_self hj] at ha
   injection ha with ha
   refine ⟨o[i],List.getElem?_eq_getElem hj, ?_⟩
   rw [<-ha,List.getD_eq_getElem?_getD,List.getElem?_eq_getElem hj];rfl
  .rw [putO,List.getElem?_set_ne e] at ha
   exact ⟨a,ha,rfl⟩
 refine Zs.2 ⟨by rw [hlen];exact h1,Xj.2 fun j a b ha hb=> ?_,h3,fun f hf=> ?_⟩
 .obtain ⟨a',ha',ea⟩:=hkey j a ha
  obtain ⟨b',hb',eb⟩:=hkey (j+1) b hb
  rw [<-ea, <-eb]
  exact Xj.1 h2 j a' b' ha' hb'
 .unfold putO at hf
  by_cases hi:i<o.length
  .rcases List.mem_or_eq_of_mem_set hf with h|h
   .exact h4 f h
   .subst h
    refine ⟨?_,hz⟩
    rw [List.getD_eq_getElem?_getD,List.getElem?_eq_getElem hi]
    exact (h4 _ (List.getElem_mem hi)).1
  .rw [List.set_eq_of_length_le (by omega)] at hf
   exact h4 f hf
theorem zfb (p:List St):∀ {v x w:V},v.sound=true->x.sound=true->putP v p x=some w->w.sound=true:=by
 induction p with
 |nil=>intro v x w _ hx h;injection h with h;exact h ▸ hx
 | cons s r ih=>
   intro v x w hv hx h
   unfold putP at h
   cases hs:stepP v s with
   |none=>rw [hs] at h;cases h
   | some q=>
     obtain ⟨y,k⟩:=q
     rw [hs] at h
     dsimp only at h
     cases hp:putP y r x with
     |none=>rw [hp] at h;cases h
     | some z=>
       rw [hp] at h
       dsimp only at h
       injection h with h
       have hz:=ih (zbs hv hs) hx hp
       split at h
       .exact h ▸ zgh hv hz
       .exact h ▸ zfl hv hz
theorem zdh {o:List (ByteArray×V)} (h:rising o=true) (i:Nat) (hi:i<o.length):rising (o.take i++o.drop (i+1))=true:=by
 have hg:=Xj.1 h
 have l1:(o.take i).length=i:=by rw [List.length_take];omega
 have e1:∀j,j<i->(o.take i++o.drop (i+1))[j]? =o[j]? :=fun j hj=>by rw [List.getElem?_append_left (by omega),List.getElem?_take_of_lt hj]
 have e2:∀j,i<=j->(o.take i++o.drop (i+1))[j]? =o[j+1]? :=fun j hj=>by rw [List.getElem?_append_right (by omega),l1,List.getElem?_drop,show i+1+(j - i)=j+1 by omega]
 refine Xj.2 fun j a b ha hb=> ?_
 by_cases c1:j+1<i
 .rw [e1 j (by omega)] at ha;rw [e1 _ c1] at hb;exact hg j a b ha hb
 .by_cases c2:j+1=i
  .rw [e1 j (by omega)] at ha;rw [e2 _ (by omega),c2] at hb
   have hm:o[i]? =some o[i] :=List.getElem?_eq_getElem hi
   have h1:=hg j a o[i] ha (by rw [c2];exact hm)
   exact Jt h1 (hg i o[i] b hm hb)
  .rw [e2 j (by omega)] at ha;rw [e2 _ (by omega)] at hb;exact hg (j+1) a b ha hb
theorem zfj {o:List (ByteArray×V)} (key:ByteArray) (x:V) (d:Bool) (h:rising o=true):rising (newF o key x d)=true:=by
 unfold newF
 split
 .unfold remF
  by_cases e:fieldIs o key=true
  .rw [if_pos e];exact zdh h _ (Yu e)
  .rw [if_neg e,List.take_append_drop];exact h
 .exact zak key x h
theorem zi8 {o:List (ByteArray×V)} {key:ByteArray} {x:V} {d:Bool} {f:ByteArray×V} (h:f ∈ newF o key x d):f ∈ o∨(d=false/\f=(key,x)):=by
 unfold newF at h
 cases d with
 | true=>
   rw [if_pos rfl,remF] at h
   rcases List.mem_append.1 h with h|h
   .exact .inl (List.mem_of_mem_take h)
   .exact .inl (List.mem_of_mem_drop h)
 | false=>
   rw [if_neg (by simp)] at h
   rcases J5 h with h|h
   .exact .inl h
   .exact .inr ⟨rfl,h⟩
theorem zeg {x:Cm} (h:cmSound x=true):Lib.validD x.key.data.toList=true/\Lib.validD x.s.data.toList=true/\x.v.sound=true:=by
 unfold cmSound at h
 simp only [Bool.and_eq_true] at h
 exact ⟨h.1.1.1.1.1.1.1.1.2,h.1.1.1.1.1.1.1.2,h.1.1.2⟩
theorem ziw {x:V} {c:Cm} (hx:x.sound=true) (hc:cmSound c=true) (hk:kindsP x c.k c.i c.j c.n c.key=0):(doneP x c).sound=true:=by
 obtain ⟨hkey,hs,hv⟩:=zeg hc
 obtain ⟨kk,n,t,l,o,rfl⟩:=x.eta
 obtain ⟨h1,h2,h3,h4⟩:=Zs.1 hx
 unfold doneP
 unfold kindsP at hk
 by_cases c1:c.k=1
 .rw [if_pos c1] at hk ⊢
  have hkd:kk=2:=by
   by_cases e:kk=2
   .exact e
   .rw [if_pos (show (V.mk kk n t l o).kd≠2 from e)] at hk;omega
  subst hkd
  exact Zs.2 ⟨show plainB 2 (wrap64 (n+c.n)) t l.length o.length=true by simpa [plainB] using h1,h2,h3,h4⟩
 rw [if_neg c1] at hk ⊢
 by_cases c2:c.k=2∨c.k=3
 .rw [if_pos c2] at hk ⊢
  have hkd:kk=5:=by
   by_cases e:kk=5
   .exact e
   .rw [if_pos (show (V.mk kk n t l o).kd≠5 from e)] at hk;omega
  subst hkd
  refine Zs.2 ⟨show plainB 5 n t l.length (fieldsDo o c.key c.v (c.k==3)).length=true by simpa [plainB] using h1, ?_,h3,fun f hf=> ?_⟩
  .show rising (fieldsDo o c.key c.v (c.k==3))=true
   rw [Q3 h2];exact zfj _ _ _ h2
  .have hf:f ∈ fieldsDo o c.key c.v (c.k==3):=hf
   rw [Q3 h2] at hf
   rcases zi8 hf with hf|⟨_,rfl⟩
   .exact h4 f hf
   .exact ⟨hkey,hv⟩
 rw [if_neg c2] at hk ⊢
 by_cases c3:c.k=8∨c.k=9
 .rw [if_pos c3] at hk ⊢
  have hkd:kk=3:=by
   by_cases e:kk=3
   .exact e
   .rw [if_pos (show (V.mk kk n t l o).kd≠3 from e)] at hk;omega
  subst hkd
  rw [if_neg (show ¬(V.mk 3 n t l o).kd≠3 from fun h=>h rfl)] at hk
  have h1':((n=0/\Lib.validD t.data.toList=true)/\l= [])/\o= [] :=by simpa [plainB] using h1
  obtain ⟨⟨⟨a1,a2⟩,a3⟩,a4⟩:=h1'
  have ht:=zdy a2 hs hk
  refine Zs.2 ⟨?_,h2,h3,h4⟩
  subst a1 a3 a4
  show plainB 3 0 (textDo t c.k c.i c.n c.s) 0 0=true
  simpa [plainB] using ht
 rw [if_neg c3] at hk ⊢
 have hkd:kk=4:=by
  by_cases e:kk=4
  .exact e
  .rw [if_pos (show (V.mk kk n t l o).kd≠4 from e)] at hk;omega
 subst hkd
 refine Zs.2 ⟨show plainB 4 n t (listDo l c.k c.i c.j c.v).length o.length=true by simpa [plainB] using h1,h2,fun y hy=> ?_,h4⟩
 have hm : ∀y ∈ listDo l c.k c.i c.j c.v,y ∈ l∨y=c.v∨y=V.none:=by
  have hr:∀y ∈ remL l c.i.toNat,y ∈ l:=by
   intro y hy
   unfold remL at hy
   rcases List.mem_append.1 hy with h|h
   .exact List.mem_of_mem_take h
   .exact List.mem_of_mem_drop h
  have hi:∀ {q:List V} {m:Nat} {z y:V},y ∈ insL q m z->y ∈ q∨y=z:=by
   intro q m z y hy
   unfold insL at hy
   rcases List.mem_append.1 hy with h|h
   .exact .inl (List.mem_of_mem_take h)
   .rcases List.mem_cons.1 h with h|h
    .exact .inr h
    .exact .inl (List.mem_of_mem_drop h)
  intro y hy
  unfold listDo at hy
  split at hy
  .rcases hi hy with h|h
   .exact .inl h
   .exact .inr (.inl h)
  .split at hy
   .exact .inl (hr y hy)
   .split at hy
    .rcases List.mem_or_eq_of_mem_set hy with h|h
     .exact .inl h
     .exact .inr (.inl h)
    .rcases hi hy with h|h
     .exact .inl (hr y h)
     .rw [List.getD_eq_getElem?_getD] at h
      cases hq:l[c.i.toNat]? with
      |none=>rw [hq] at h;exact .inr (.inr h)
      |some z=>rw [hq] at h;exact .inl (h ▸ List.mem_of_getElem? hq)
 rcases hm y hy with h|h|h
 .exact h3 y h
 .exact h ▸ hv
 .exact h ▸ X5
theorem zki {v:V} {c:Cm} (hv:v.sound=true):(doP v c).1.sound=true:=by
 unfold doP
 split
 .rename_i he
  obtain ⟨hs,x,hg,hk⟩:=Z8 he
  simp only [hg]
  obtain ⟨z,hz⟩:=Ys c.path hg (doneP x c)
  rw [hz]
  exact zfb c.path hv (ziw (Jq c.path hv hg) hs hk) hz
 .exact X5
end Go.Proofs.YtnjgbiachcfigaaGreatDoor
