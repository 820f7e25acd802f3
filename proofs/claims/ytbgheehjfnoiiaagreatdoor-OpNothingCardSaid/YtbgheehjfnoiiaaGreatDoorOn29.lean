/-
  Contracts of the functions that the law reaches: conciliatorlaw06.text: what is done to a.
-/
import Derived.Test.YtbgheehjfnoiiaaGreatDoorOn27
namespace Go.Proofs.YtbgheehjfnoiiaaGreatDoor
open Go.RowKit
set_option maxHeartbeats 8000000
def textA (n:Nat) (a:AC) (c:CC):CC:=
 if 0<n/\a.k % 2=0 then { c with k:=9,i:=max a.i 0 % n,s:= .empty,n:=1+max a.j 0 % ((n:Int) - max a.i 0 % n) }
 else { c with k:=8,i:=max a.i 0 % ((n:Int)+1),s:= { data:= #[120] } ++plainS a.s }
theorem Kq {tmps:Array Value} {W:World} {b:Nat} {d:CC} (ht:tmps[6]? =some (.pointer (some ⟨b,0,none⟩))) (h:BC W b (ccells d)):
 (results Tryz.f59 tmps).run Tryz.prog W= .ok (.agg #[.int .u8 d.k, .slice d.pa d.pl d.pc, .string d.key, .int .i64 d.i, .int .i64 d.j, .int .i64 d.n, .int .u8 d.v.k, .int .i64 d.v.n, .string d.v.s, .slice d.v.la d.v.ll d.v.lc, .slice d.v.oa d.v.ol d.v.oc, .string d.s]) W:=by
 obtain ⟨r0,r1,r2,r3,r4,r5,r6,r7,r8,r9,r10,r11⟩:=row12 h.at_
 simp [results,Tryz.results59,go_sem,ht,r0,r1,r2,r3,r4,r5,r6,r7,r8,r9,r10,r11]
set_option maxRecDepth 100000 in
theorem zgp (w:World) (c:CC) (a:AC) (ha:a.Bnd):
 uP 59 #[.agg (uC c), .agg (uA a), .int .i64 0] w fun e w'=>e= .returned (.agg #[.int .u8 (textA 0 a c).k, .slice (textA 0 a c).pa (textA 0 a c).pl (textA 0 a c).pc, .string (textA 0 a c).key, .int .i64 (textA 0 a c).i, .int .i64 (textA 0 a c).j, .int .i64 (textA 0 a c).n, .int .u8 (textA 0 a c).v.k, .int .i64 (textA 0 a c).v.n, .string (textA 0 a c).v.s, .slice (textA 0 a c).v.la (textA 0 a c).v.ll (textA 0 a c).v.lc, .slice (textA 0 a c).v.oa (textA 0 a c).v.ol (textA 0 a c).v.oc, .string (textA 0 a c).s])/\uB w w':=by
 delta uC uA uB uP
 have HPL:Hid (∀W,uP 105 #[.string a.s] W fun e w'=>e= .returned (.string (plainS a.s))/\uB W w'):=fun W=>Xi W a.s ha.s1
 obtain ⟨ps,hps⟩:∃ps,plainS a.s=ps:=⟨_,rfl⟩
 have hpz:ps.size<=40:=by rw [<-hps];exact Y5 _
 rw [hps] at HPL
 have HB:=qh (AB.start w { c with k:=8,i:=0 } a 54 70 54)
 obtain ⟨D,hD⟩:∃D,textA 0 a c=D:=⟨_,rfl⟩
 rw [hD]
 have HD:=qh hD
 have HPS:=qh hps
 have i0:=ha.i0;have i1:=ha.i1;have j0:=ha.j0;have j1:=ha.j1;have k0:=ha.k0
 clear hps hD ha
 go_enter Tryz.func59,Tryz.ntmps59
 generalize hQ0:bodyPost _ _ _=Q0
 have HQ:=qh hQ0
 clear hQ0
 go_wp2_with fail
 refine (HPL.out _).mono ?_
 rintro e w1 ⟨rfl,hb1⟩
 have B:=HB.out.next hb1 (by simp)
 obtain ⟨b0,b1,b2,b3,b4,b5,b6,b7,b8,b9,b10,b11,a0,a1,a2,a3,a4,a5,a6,r0,r1,r2,r3,r4,r5,r6,r7,r8,r9,r10,r11,bf0,bf1,bf2,bf3,bf4,bf5,bf6,bf7,bf8,bf9,bf10,bf11,rf0,rf1,rf2,rf3,rf4,rf5,rf6,rf7,rf8,rf9,rf10,rf11,z0,z1,z2⟩:=B.facts
 have HBW:=qh B
 have hq1:¬(9223372036854775807<1+ps.size):=by omega
 clear B hb1
 have h2:=Zt (HBW.out.r.far (o:=11) (x:= .string ({ data:= #[120] } ++ps)) (show w.heap.size+1+1≠w.heap.size by omega)) { c with k:=8,i:=0,s:= { data:= #[120] } ++ps }
 have h3:=Below.setC (HBW.out.below.set_ (o:=11) (x:= .string ({ data:= #[120] } ++ps)) (Nat.le_refl _)) (show w.heap.size<=w.heap.size+1+1 by omega) { c with k:=8,i:=0,s:= { data:= #[120] } ++ps }
 dsimp only at h2 h3
 have H2:=qh h2
 have H3:=qh h3
 clear h2 h3
 go_wp2_with fail
 obtain rfl:D= { c with k:=8,i:=0,s:= { data:= #[120] } ++ps } :=by rw [<-HD.out,textA,if_neg (by omega),HPS.out];simp
 rw [<-HQ.out]
 generalize hA:({ tmps:=_,defers:=_ } :Act)=A
 have h4:A.tmps[6]? =some (.pointer (some ⟨w.heap.size+1+1,0,none⟩)):=by rw [<-hA];rfl
 have h5:A.defers= [] :=by rw [<-hA]
 clear hA
 exact ⟨h5,_,Kq h4 H2.out,rfl,H3.out⟩
set_option maxRecDepth 100000 in
theorem zd6 (w:World) (c:CC) (a:AC) (ha:a.Bnd) (n:Nat) (hn:n<=1000000000000) (hn0:0<n) (hk:¬a.k % 2=0):
 uP 59 #[.agg (uC c), .agg (uA a), .int .i64 n] w fun e w'=>e= .returned (.agg #[.int .u8 (textA n a c).k, .slice (textA n a c).pa (textA n a c).pl (textA n a c).pc, .string (textA n a c).key, .int .i64 (textA n a c).i, .int .i64 (textA n a c).j, .int .i64 (textA n a c).n, .int .u8 (textA n a c).v.k, .int .i64 (textA n a c).v.n, .string (textA n a c).v.s, .slice (textA n a c).v.la (textA n a c).v.ll (textA n a c).v.lc, .slice (textA n a c).v.oa (textA n a c).v.ol (textA n a c).v.oc, .string (textA n a c).s])/\uB w w':=by
 delta uC uA uB uP
 have HPL:Hid (∀W,uP 105 #[.string a.s] W fun e w'=>e= .returned (.string (plainS a.s))/\uB W w'):=fun W=>Xi W a.s ha.s1
 obtain ⟨ps,hps⟩:∃ps,plainS a.s=ps:=⟨_,rfl⟩
 have hpz:ps.size<=40:=by rw [<-hps];exact Y5 _
 rw [hps] at HPL
 have HB:=qh (AB.start w { c with k:=8,i:=max a.i 0 % ((n:Int)+1) } a 54 70 54)
 obtain ⟨D,hD⟩:∃D,textA n a c=D:=⟨_,rfl⟩
 rw [hD]
 have HD:=qh hD
 have HPS:=qh hps
 have i0:=ha.i0;have i1:=ha.i1;have j0:=ha.j0;have j1:=ha.j1;have k0:=ha.k0
 clear hps hD ha
 go_enter Tryz.func59,Tryz.ntmps59
 generalize hQ0:bodyPost _ _ _=Q0
 have HQ:=qh hQ0
 clear hQ0
 go_wp2_with fail
 refine (HPL.out _).mono ?_
 rintro e w1 ⟨rfl,hb1⟩
 have B:=HB.out.next hb1 (by simp)
 obtain ⟨b0,b1,b2,b3,b4,b5,b6,b7,b8,b9,b10,b11,a0,a1,a2,a3,a4,a5,a6,r0,r1,r2,r3,r4,r5,r6,r7,r8,r9,r10,r11,bf0,bf1,bf2,bf3,bf4,bf5,bf6,bf7,bf8,bf9,bf10,bf11,rf0,rf1,rf2,rf3,rf4,rf5,rf6,rf7,rf8,rf9,rf10,rf11,z0,z1,z2⟩:=B.facts
 have HBW:=qh B
 have hq1:¬(9223372036854775807<1+ps.size):=by omega
 clear B hb1
 have h2:=Zt (HBW.out.r.far (o:=11) (x:= .string ({ data:= #[120] } ++ps)) (show w.heap.size+1+1≠w.heap.size by omega)) { c with k:=8,i:=max a.i 0 % ((n:Int)+1),s:= { data:= #[120] } ++ps }
 have h3:=Below.setC (HBW.out.below.set_ (o:=11) (x:= .string ({ data:= #[120] } ++ps)) (Nat.le_refl _)) (show w.heap.size<=w.heap.size+1+1 by omega) { c with k:=8,i:=max a.i 0 % ((n:Int)+1),s:= { data:= #[120] } ++ps }
 dsimp only at h2 h3
 have H2:=qh h2
 have H3:=qh h3
 clear h2 h3
 go_wp2_with fail
 obtain rfl:D= { c with k:=8,i:=max a.i 0 % ((n:Int)+1),s:= { data:= #[120] } ++ps } :=by rw [<-HD.out,textA,if_neg (by omega),HPS.out]
 rw [<-HQ.out]
 generalize hA:({ tmps:=_,defers:=_ } :Act)=A
 have h4:A.tmps[6]? =some (.pointer (some ⟨w.heap.size+1+1,0,none⟩)):=by rw [<-hA];rfl
 have h5:A.defers= [] :=by rw [<-hA]
 clear hA
 exact ⟨h5,_,Kq h4 H2.out,rfl,H3.out⟩
set_option maxRecDepth 100000 in
theorem zmt (w:World) (c:CC) (a:AC) (ha:a.Bnd) (n:Nat) (hn:n<=1000000000000) (hn0:0<n) (hk:a.k % 2=0):
 uP 59 #[.agg (uC c), .agg (uA a), .int .i64 n] w fun e w'=>e= .returned (.agg #[.int .u8 (textA n a c).k, .slice (textA n a c).pa (textA n a c).pl (textA n a c).pc, .string (textA n a c).key, .int .i64 (textA n a c).i, .int .i64 (textA n a c).j, .int .i64 (textA n a c).n, .int .u8 (textA n a c).v.k, .int .i64 (textA n a c).v.n, .string (textA n a c).v.s, .slice (textA n a c).v.la (textA n a c).v.ll (textA n a c).v.lc, .slice (textA n a c).v.oa (textA n a c).v.ol (textA n a c).v.oc, .string (textA n a c).s])/\uB w w':=by
 delta uC uA uB uP
 have HPL:Hid (∀W,uP 105 #[.string a.s] W fun e w'=>e= .returned (.string (plainS a.s))/\uB W w'):=fun W=>Xi W a.s ha.s1
 obtain ⟨ps,hps⟩:∃ps,plainS a.s=ps:=⟨_,rfl⟩
 have hpz:ps.size<=40:=by rw [<-hps];exact Y5 _
 rw [hps] at HPL
 have HB:=qh (AB.start w { c with k:=8,i:=max a.i 0 % ((n:Int)+1) } a 54 70 54)
 obtain ⟨D,hD⟩:∃D,textA n a c=D:=⟨_,rfl⟩
 rw [hD]
 have HD:=qh hD
 have HPS:=qh hps
 have i0:=ha.i0;have i1:=ha.i1;have j0:=ha.j0;have j1:=ha.j1;have k0:=ha.k0
 clear hps hD ha
 go_enter Tryz.func59,Tryz.ntmps59
 generalize hQ0:bodyPost _ _ _=Q0
 have HQ:=qh hQ0
 clear hQ0
 go_wp2_with fail
 refine (HPL.out _).mono ?_
 rintro e w1 ⟨rfl,hb1⟩
 have B:=HB.out.next hb1 (by simp)
 obtain ⟨b0,b1,b2,b3,b4,b5,b6,b7,b8,b9,b10,b11,a0,a1,a2,a3,a4,a5,a6,r0,r1,r2,r3,r4,r5,r6,r7,r8,r9,r10,r11,bf0,bf1,bf2,bf3,bf4,bf5,bf6,bf7,bf8,bf9,bf10,bf11,rf0,rf1,rf2,rf3,rf4,rf5,rf6,rf7,rf8,rf9,rf10,rf11,z0,z1,z2⟩:=B.facts
 have HBW:=qh B
 have hq1:¬(9223372036854775807<1+ps.size):=by omega
 clear B hb1
 have hI0:0<=max a.i 0 % (n:Int):=Int.emod_nonneg _ (by omega)
 have hI1:max a.i 0 % (n:Int)<n:=Int.emod_lt_of_pos _ (by omega)
 have hJ0:0<=max a.j 0 % ((n:Int) - max a.i 0 % n):=Int.emod_nonneg _ (by omega)
 have hJ1:max a.j 0 % ((n:Int) - max a.i 0 % n)<(n:Int) - max a.i 0 % n:=Int.emod_lt_of_pos _ (by omega)
 have h2:=Zt (((((HBW.out.r.far (o:=11) (x:= .string ({ data:= #[120] } ++ps)) (show w.heap.size+1+1≠w.heap.size by omega)).far (o:=0) (x:= .int .u8 9) (show w.heap.size+1+1≠w.heap.size by omega)).far (o:=11) (x:= .string { data:= #[] }) (show w.heap.size+1+1≠w.heap.size by omega)).far (o:=3) (x:= .int .i64 (max a.i 0 % n)) (show w.heap.size+1+1≠w.heap.size by omega)).far (o:=5) (x:= .int .i64 (1+max a.j 0 % ((n:Int) - max a.i 0 % n))) (show w.heap.size+1+1≠w.heap.size by omega)) { c with k:=9,i:=max a.i 0 % n,s:= { data:= #[] },n:=1+max a.j 0 % ((n:Int) - max a.i 0 % n) }
 have h3:=Below.setC (((((HBW.out.below.set_ (o:=11) (x:= .string ({ data:= #[120] } ++ps)) (Nat.le_refl _)).set_ (o:=0) (x:= .int .u8 9) (Nat.le_refl _)).set_ (o:=11) (x:= .string { data:= #[] }) (Nat.le_refl _)).set_ (o:=3) (x:= .int .i64 (max a.i 0 % n)) (Nat.le_refl _)).set_ (o:=5) (x:= .int .i64 (1+max a.j 0 % ((n:Int) - max a.i 0 % n))) (Nat.le_refl _)) (show w.heap.size<=w.heap.size+1+1 by omega) { c with k:=9,i:=max a.i 0 % n,s:= { data:= #[] },n:=1+max a.j 0 % ((n:Int) - max a.i 0 % n) }
 dsimp only at h2 h3
 have H2:=qh h2
 have H3:=qh h3
 clear h2 h3
 go_wp2_with fail
 obtain rfl:D= { c with k:=9,i:=max a.i 0 % n,s:= .empty,n:=1+max a.j 0 % ((n:Int) - max a.i 0 % n) } :=by rw [<-HD.out,textA,if_pos ⟨hn0,hk⟩]
 rw [<-HQ.out]
 generalize hA:({ tmps:=_,defers:=_ } :Act)=A
 have h4:A.tmps[6]? =some (.pointer (some ⟨w.heap.size+1+1,0,none⟩)):=by rw [<-hA];rfl
 have h5:A.defers= [] :=by rw [<-hA]
 clear hA
 exact ⟨h5,_,Kq h4 H2.out,rfl,H3.out⟩
theorem zl4 (w:World) (c:CC) (a:AC) (ha:a.Bnd) (n:Nat) (hn:n<=1000000000000):
 uP 59 #[.agg (uC c), .agg (uA a), .int .i64 n] w fun e w'=>e= .returned (.agg #[.int .u8 (textA n a c).k, .slice (textA n a c).pa (textA n a c).pl (textA n a c).pc, .string (textA n a c).key, .int .i64 (textA n a c).i, .int .i64 (textA n a c).j, .int .i64 (textA n a c).n, .int .u8 (textA n a c).v.k, .int .i64 (textA n a c).v.n, .string (textA n a c).v.s, .slice (textA n a c).v.la (textA n a c).v.ll (textA n a c).v.lc, .slice (textA n a c).v.oa (textA n a c).v.ol (textA n a c).v.oc, .string (textA n a c).s])/\uB w w':=by
 delta uC uA uB uP
 by_cases hn0:0<n
 .by_cases hk:a.k % 2=0
  .exact zmt w c a ha n hn hn0 hk
  .exact zd6 w c a ha n hn hn0 hk
 .obtain rfl:n=0:=by omega
  exact zgp w c a ha
set_option maxRecDepth 100000 in
theorem zen (w:World) (vk vn:Int) (vs:ByteArray) (la:Option Addr) (ll lc:Nat) (oa:Option Addr) (ol oc:Nat) (v:V) (hv:IsVal w w.heap.size v ⟨vk,vn,vs,la,ll,lc,oa,ol,oc⟩) (hw:v.weight<=100000000) (p:List St) (xv:V) (cc:CC) (hcb:cc.Bnd) (hp:IsSteps w w.heap.size p cc.pa cc.pl cc.pc) (hxv:IsVal w w.heap.size xv cc.v) (hxw:xv.weight<=4611686018427387904) (hcs:∀y,getP v p=some y->y.str.size+y.str.size+cc.s.size<=140737488355328) (hT:Tabs w) (he:checkP v ⟨cc.k,p,cc.key,cc.i,cc.j,cc.n,xv,cc.s⟩=0) (hk:cc.k=8∨cc.k=9):
 uP 33 #[.agg #[.int .u8 vk, .int .i64 vn, .string vs, .slice la ll lc, .slice oa ol oc], .agg #[.int .u8 cc.k, .slice cc.pa cc.pl cc.pc, .string cc.key, .int .i64 cc.i, .int .i64 cc.j, .int .i64 cc.n, .int .u8 cc.v.k, .int .i64 cc.v.n, .string cc.v.s, .slice cc.v.la cc.v.ll cc.v.lc, .slice cc.v.oa cc.v.ol cc.v.oc, .string cc.s]] w (DoPost w (doP v ⟨cc.k,p,cc.key,cc.i,cc.j,cc.n,xv,cc.s⟩)):=by
 delta uP
 obtain ⟨_,x,hg,hkd⟩:=Yl he
 dsimp only at hg hkd
 have hxw2:=Z6 p hg
 have hcx:=hcs x hg
 have HCK:Hid (∀W,uB w W->uP 62 #[.agg #[.int .u8 vk, .int .i64 vn, .string vs, .slice la ll lc, .slice oa ol oc], .agg #[.int .u8 cc.k, .slice cc.pa cc.pl cc.pc, .string cc.key, .int .i64 cc.i, .int .i64 cc.j, .int .i64 cc.n, .int .u8 cc.v.k, .int .i64 cc.v.n, .string cc.v.s, .slice cc.v.la cc.v.ll cc.v.lc, .slice cc.v.oa cc.v.ol cc.v.oc, .string cc.s]] W fun e w'=>e= .returned (.int .i64 0)/\uB W w'):=fun W hW=>by
  have:=Qq W vk vn vs la ll lc oa ol oc v (hv.later_ hW) (by omega) p xv cc hcb (hp.later_ hW) (hxv.later_ hW) (by omega) (hT.below hW)
  rw [he] at this;exact this
 have HGT:Hid (∀W,uB w W->uP 58 #[.agg #[.int .u8 vk, .int .i64 vn, .string vs, .slice la ll lc, .slice oa ol oc], .slice cc.pa cc.pl cc.pc] W (GetPost W (some x))):=fun W hW=>by rw [<-hg];exact Xt W vk vn vs la ll lc oa ol oc v (hv.later_ hW) p cc.pa cc.pl cc.pc (hp.later_ hW)
 have HPT:Hid (∀(W:World) (y:V) (k n:Int) (s:ByteArray) (a:Option Addr) (m c:Nat) (a':Option Addr) (m' c':Nat),uB w W->IsVal W W.heap.size y ⟨k,n,s,a,m,c,a',m',c'⟩->uP 66 #[.agg #[.int .u8 vk, .int .i64 vn, .string vs, .slice la ll lc, .slice oa ol oc], .slice cc.pa cc.pl cc.pc, .agg #[.int .u8 k, .int .i64 n, .string s, .slice a m c, .slice a' m' c']] W (GetPost W (putP v p y))):=fun W y k n s a m c a' m' c' hW hy=>Jp y k n s a m c a' m' c' p W vk vn vs la ll lc oa ol oc v (hv.later_ hW) cc.pa cc.pl cc.pc (hp.later_ hW) hy
 have hdo:doP v ⟨cc.k,p,cc.key,cc.i,cc.j,cc.n,xv,cc.s⟩=doneQ (putP v p (doneP x ⟨cc.k,p,cc.key,cc.i,cc.j,cc.n,xv,cc.s⟩)):=Ym he hg
 rw [hdo]
 have HB:=qh (DB.start w ⟨vk,vn,vs,la,ll,lc,oa,ol,oc⟩ cc 29 54 29)
 have HTT:=qh hT
 have HXV:=qh hxv
 have HCB:=qh hcb
 have HKD:=qh hkd
 have hsw:=x.str_weight
 obtain ⟨kx,nx,sx,lx,ox,rfl⟩:=x.eta
 dsimp only [V.str,V.ls,V.os] at hsw
 dsimp only [V.str] at hcx
 obtain ⟨Y,hY⟩:∃Y,doneP (.mk kx nx sx lx ox) ⟨cc.k,p,cc.key,cc.i,cc.j,cc.n,xv,cc.s⟩=Y:=⟨_,rfl⟩
 rw [hY]
 obtain ⟨z,hPR⟩:=Y6 p hg Y
 rw [hPR,Y4]
 have HY:=qh hY
 have HPR:=qh hPR
 clear hv hp hxv hT hcb hdo hY hPR he hg hkd
 rcases hk with hk|hk
 all_goals
  have HK:=qh hk
  clear hk
  go_enter Tryz.func33,Tryz.ntmps33
  generalize hQ0:bodyPost _ _ _=Q0
  have HQ:=qh hQ0
  clear hQ0
  go_wp2_with fail
  refine (HCK.out _ HB.out.below).mono ?_
  rintro e W ⟨rfl,hb1⟩
  have B:=HB.out.next hb1 (by simp)
  obtain ⟨v0,v1,v2,v3,v4⟩:=row5 B.v.at_
  obtain ⟨b0,b1,b2,b3,b4,b5,b6,b7,b8,b9,b10,b11⟩:=row12 B.c.at_
  obtain ⟨r0,r1,r2,r3,r4⟩:=row5 B.r.at_
  have f0:=B.r.fr 0;have f1:=B.r.fr 1;have f2:=B.r.fr 2;have f3:=B.r.fr 3;have f4:=B.r.fr 4
  have z0:=B.v.lt;have z1:=B.c.lt;have z2:=B.r.lt
  have HBW:=qh B
  clear B hb1
  go_wp2_with fail
  refine (HGT.out _ HBW.out.below).mono ?_
  rintro e W2 ⟨⟨d,rfl,hI⟩,hb2⟩
  have B2:=HBW.out.next hb2 (Nat.succ_le_of_lt z2)
  obtain ⟨e1,e2,e3,hbd,hl,ho⟩:=hI.lists
  subst e1 e2 e3
  clear v0 v1 v2 v3 v4 r0 r1 r2 r3 r4 f0 f1 f2 f3 f4 b0 b1 b2 b3 b4 b5 b6 b7 b8 b9 b10 b11
  obtain ⟨v0,v1,v2,v3,v4⟩:=row5 B2.v.at_
  obtain ⟨b0,b1,b2,b3,b4,b5,b6,b7,b8,b9,b10,b11⟩:=row12 B2.c.at_
  obtain ⟨r0,r1,r2,r3,r4⟩:=row5 B2.r.at_
  have f0:=B2.r.fr 0;have f1:=B2.r.fr 1;have f2:=B2.r.fr 2;have f3:=B2.r.fr 3;have f4:=B2.r.fr 4
  have z0:=B2.v.lt;have z1:=B2.c.lt;have z2:=B2.r.lt
  have zW:=HBW.out.below.size
  have zW2:=hb2.size
  have z22:=B2.r.lt
  have HB2:=qh B2
  have HI:=qh hI
  have HBD:=qh hbd
  have HL:=qh hl
  have HO:=qh ho
  have HAL:=qh (((Below.refl _ _).alloc (Nat.le_refl _) (.cells #[.int .u8 d.k, .int .i64 d.n, .string d.s, .slice d.la d.ll d.lc, .slice d.oa d.ol d.oc] 29)):uB W2 _)
  clear B2 hI hbd hl ho hb2
  rw [HK.out] at b0
  have hts:d.s.size<=1000000000000:=by have:=hsw.1;omega
  have htc:tCheck d.s cc.k cc.i cc.n=0:=by
   have hk:=HKD.out
   rw [kindsP,if_neg (by have:=HK.out;omega),if_neg (by have:=HK.out;omega),if_pos (by have:=HK.out;omega)] at hk
   split at hk
   .omega
   .exact hk
  obtain ⟨TD,hTD⟩:∃TD,textDo d.s cc.k cc.i cc.n cc.s=TD:=⟨_,rfl⟩
  have htz:TD.size<=140737488355328:=by
   rw [<-hTD]
   have:=zch d.s cc.k cc.i cc.n cc.s
   omega
  have HFL:Hid (uP 64 #[.string d.s, .agg #[.int .u8 cc.k, .slice cc.pa cc.pl cc.pc, .string cc.key, .int .i64 cc.i, .int .i64 cc.j, .int .i64 cc.n, .int .u8 cc.v.k, .int .i64 cc.v.n, .string cc.v.s, .slice cc.v.la cc.v.ll cc.v.lc, .slice cc.v.oa cc.v.ol cc.v.oc, .string cc.s]] (W2.alloc (.cells #[.int .u8 d.k, .int .i64 d.n, .string d.s, .slice d.la d.ll d.lc, .slice d.oa d.ol d.oc] 29)) fun e w'=>e= .returned (.tuple #[.string TD, .int .i64 0])/\uB (W2.alloc (.cells #[.int .u8 d.k, .int .i64 d.n, .string d.s, .slice d.la d.ll d.lc, .slice d.oa d.ol d.oc] 29)) w'):=by
   have hb3:=HB2.out.below.trans (HAL.out.mono HB2.out.below.size)
   rw [<-hTD]
   exact zdw (W2.alloc (.cells #[.int .u8 d.k, .int .i64 d.n, .string d.s, .slice d.la d.ll d.lc, .slice d.oa d.ol d.oc] 29)) d.s cc HCB.out hts (HTT.out.below hb3) htc
  have HTD:=qh hTD
  clear hTD htc
  rw [HK.out] at HFL
  go_wp2_with fail
  refine HFL.out.mono ?_
  rintro e w4 ⟨rfl,hb4⟩
  have hbw4:uB W2 w4:=HAL.out.trans (hb4.mono (by simp))
  have B4:=HB2.out.next hbw4 (Nat.succ_le_of_lt z2)
  have X4:BC w4 W2.heap.size (vcells d):=(BC.start W2 #[.int .u8 d.k, .int .i64 d.n, .string d.s, .slice d.la d.ll d.lc, .slice d.oa d.ol d.oc] 29).keep hb4 (by simp)
  obtain ⟨x0,x1,x2,x3,x4⟩:=row5 X4.at_
  have xf0:=X4.fr 2;have xf1:=X4.fr 3;have xf2:=X4.fr 4
  have xlt:=X4.lt
  clear v0 v1 v2 v3 v4 r0 r1 r2 r3 r4 f0 f1 f2 f3 f4 b0 b1 b2 b3 b4 b5 b6 b7 b8 b9 b10 b11
  obtain ⟨v0,v1,v2,v3,v4⟩:=row5 B4.v.at_
  obtain ⟨b0,b1,b2,b3,b4,b5,b6,b7,b8,b9,b10,b11⟩:=row12 B4.c.at_
  obtain ⟨r0,r1,r2,r3,r4⟩:=row5 B4.r.at_
  have f0:=B4.r.fr 0;have f1:=B4.r.fr 1;have f2:=B4.r.fr 2;have f3:=B4.r.fr 3;have f4:=B4.r.fr 4
  have z0:=B4.v.lt;have z1:=B4.c.lt;have z2:=B4.r.lt
  have HBW4:=qh hbw4
  clear B4 X4 hb4 hbw4
  go_wp2_with fail
  have hbl4:uB W2 (w4.setCell ⟨W2.heap.size,2,none⟩ (.string TD)):=HBW4.out.set_ (Nat.le_refl _)
  have hx4:=(HI.out.sub (Zl _ _ _)).later_ hbl4
  obtain ⟨_,_,_,_,hl4,ho4⟩:=hx4.lists
  have HB4:=qh (HB2.out.next hbl4 (Nat.succ_le_of_lt z22))
  have HCALL:Hid (uP 66 #[.agg #[.int .u8 vk, .int .i64 vn, .string vs, .slice la ll lc, .slice oa ol oc], .slice cc.pa cc.pl cc.pc, .agg #[.int .u8 d.k, .int .i64 d.n, .string TD, .slice d.la d.ll d.lc, .slice d.oa d.ol d.oc]] (w4.setCell ⟨W2.heap.size,2,none⟩ (.string TD)) (GetPost (w4.setCell ⟨W2.heap.size,2,none⟩ (.string TD)) (some z))):=by
   have:=HPT.out (w4.setCell ⟨W2.heap.size,2,none⟩ (.string TD)) Y d.k d.n TD d.la d.ll d.lc d.oa d.ol d.oc HB4.out.below (by
    have hYe:Y= .mk d.k d.n TD lx ox:=by
     rw [<-HY.out,doneP,if_neg (by have:=HK.out;dsimp only;omega),if_neg (by have:=HK.out;dsimp only;omega),if_pos (by have:=HK.out;dsimp only;omega), <-HTD.out];rfl
    rw [hYe]
    exact Xh HBD.out.k0 HBD.out.k1 HBD.out.n0 HBD.out.n1 htz hl4 ho4)
   rw [HPR.out] at this;exact this
  clear hx4 hl4 ho4
  refine HCALL.out.mono ?_
  rintro e W6 ⟨⟨d6,rfl,hz⟩,hb6⟩
  have B6:=HB4.out.next hb6 (Nat.succ_le_of_lt HB4.out.r.lt)
  clear v0 v1 v2 v3 v4 r0 r1 r2 r3 r4 f0 f1 f2 f3 f4 b0 b1 b2 b3 b4 b5 b6 b7 b8 b9 b10 b11
  obtain ⟨v0,v1,v2,v3,v4⟩:=row5 B6.v.at_
  obtain ⟨b0,b1,b2,b3,b4,b5,b6,b7,b8,b9,b10,b11⟩:=row12 B6.c.at_
  obtain ⟨r0,r1,r2,r3,r4⟩:=row5 B6.r.at_
  have f0:=B6.r.fr 0;have f1:=B6.r.fr 1;have f2:=B6.r.fr 2;have f3:=B6.r.fr 3;have f4:=B6.r.fr 4
  have z0:=B6.v.lt;have z1:=B6.c.lt;have z2:=B6.r.lt
  have HB6:=qh B6
  have hz4:=HB4.out.below.size
  have hz5:=HB4.out.r.lt
  have HZ:=qh hz
  clear B6 hb6 hz
  go_wp2_with fail
  rw [<-HQ.out]
  have ST:=HB6.out.result d6
  have hst:=Zi W6 (w.heap.size+1+1) 0 d6
  exact X9 (r:=(z,0)) ST.1 ((Zm (base:=w.heap.size+1+1+1) (HZ.out.sub (Ze fun k hk _=>⟨Nat.le_trans (Nat.succ_le_of_lt hz5) hk,rfl⟩)) hst (by omega)).sub (Ze fun k hk _=>⟨by omega,rfl⟩)) ST.2 rfl rfl rfl
end Go.Proofs.YtbgheehjfnoiiaaGreatDoor
