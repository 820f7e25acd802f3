/-
  Contracts of the functions that the law reaches: conciliatorlaw06.list: what is done to a.
-/
import Derived.Test.YtbgheehjfnoiiaaGreatDoorOn28
import Derived.Test.YtbgheehjfnoiiaaGreatDoorOn29
namespace Go.Proofs.YtbgheehjfnoiiaaGreatDoor
open Go.RowKit
set_option maxHeartbeats 8000000
theorem Qh {tmps:Array Value} {W:World} {b:Nat} {d:CC} (ht:tmps[6]? =some (.pointer (some ⟨b,0,none⟩))) (h:BC W b (ccells d)):
 (results Tryz.f60 tmps).run Tryz.prog W= .ok (.agg #[.int .u8 d.k, .slice d.pa d.pl d.pc, .string d.key, .int .i64 d.i, .int .i64 d.j, .int .i64 d.n, .int .u8 d.v.k, .int .i64 d.v.n, .string d.v.s, .slice d.v.la d.v.ll d.v.lc, .slice d.v.oa d.v.ol d.v.oc, .string d.s]) W:=by
 obtain ⟨r0,r1,r2,r3,r4,r5,r6,r7,r8,r9,r10,r11⟩:=row12 h.at_
 simp [results,Tryz.results60,go_sem,ht,r0,r1,r2,r3,r4,r5,r6,r7,r8,r9,r10,r11]
theorem Xf (W:World) (b:Nat) (d:CC):RStep W ((((((((((((W.setCell ⟨b,0,none⟩ (.int .u8 d.k)).setCell ⟨b,1,none⟩ (.slice d.pa d.pl d.pc)).setCell ⟨b,2,none⟩ (.string d.key)).setCell ⟨b,3,none⟩ (.int .i64 d.i)).setCell ⟨b,4,none⟩ (.int .i64 d.j)).setCell ⟨b,5,none⟩ (.int .i64 d.n)).setCell ⟨b,6,none⟩ (.int .u8 d.v.k)).setCell ⟨b,7,none⟩ (.int .i64 d.v.n)).setCell ⟨b,8,none⟩ (.string d.v.s)).setCell ⟨b,9,none⟩ (.slice d.v.la d.v.ll d.v.lc)).setCell ⟨b,10,none⟩ (.slice d.v.oa d.v.ol d.v.oc)).setCell ⟨b,11,none⟩ (.string d.s)) b:=(((((((((((RStep.self.trans RStep.self).trans RStep.self).trans RStep.self).trans RStep.self).trans RStep.self).trans RStep.self).trans RStep.self).trans RStep.self).trans RStep.self).trans RStep.self).trans RStep.self)
def listK (n:Nat) (k:Int):Int:=if n=0 then 4 else 4+k % 4
def listA (n:Nat) (a:AC) (c:CC) (cv:VC):CC:=
 { c with k:=listK n a.k,i:=if listK n a.k=4 then max a.i 0 % ((n:Int)+1) else max a.i 0 % n,j:=if listK n a.k=7 then max a.j 0 % n else c.j,v:=cv }
noncomputable def listV (n:Nat) (k:Int) (l:List Tk):V:=if listK n k=4∨listK n k=6 then (oneP 6 (l.take 60)).1 else V.none
def ListAPost (w:World) (n:Nat) (a:AC) (c:CC) (l:List Tk) (e:Ending) (w':World):Prop:=
 (∃cv:VC,e= .returned (.agg #[.int .u8 (listA n a c cv).k, .slice (listA n a c cv).pa (listA n a c cv).pl (listA n a c cv).pc, .string (listA n a c cv).key, .int .i64 (listA n a c cv).i, .int .i64 (listA n a c cv).j, .int .i64 (listA n a c cv).n, .int .u8 (listA n a c cv).v.k, .int .i64 (listA n a c cv).v.n, .string (listA n a c cv).v.s, .slice (listA n a c cv).v.la (listA n a c cv).v.ll (listA n a c cv).v.lc, .slice (listA n a c cv).v.oa (listA n a c cv).v.ol (listA n a c cv).v.oc, .string (listA n a c cv).s])/\IsVal (only (fun b=>w.heap.size<=b) w') w'.heap.size (listV n a.k l) cv)/\Below w.heap.size w w'
set_option maxRecDepth 100000 in
theorem zin (w:World) (c:CC) (hcv:c.v=vzero) (a:AC) (ha:a.Bnd) (l:List Tk) (hv:IsToks w w.heap.size l a.va a.vl a.vc):
 uP 60 #[.agg (uC c), .agg (uA a), .int .i64 0] w (ListAPost w 0 a c l):=by
 delta uC uA uP
 have HBD:Hid (∀W,uB w W->uP 12 #[.slice a.va a.vl a.vc] W fun e w'=>(∃cv:VC,e= .returned (.agg #[.int .u8 cv.k, .int .i64 cv.n, .string cv.s, .slice cv.la cv.ll cv.lc, .slice cv.oa cv.ol cv.oc])/\IsVal (only (fun b=>W.heap.size<=b) w') w'.heap.size (oneP 6 (l.take 60)).1 cv)/\uB W w'):=fun W hW=>Ys W l _ _ _ (hv.later_ hW)
 have HB:=qh (AB.start w { c with k:=4,i:=0 } a 54 70 54)
 have hK:listK 0 a.k=4:=by simp [listK]
 have hA:listA 0 a c=fun cv=> { c with k:=4,i:=0,v:=cv } :=by funext cv;rw [listA,hK];simp
 have hV:listV 0 a.k l=(oneP 6 (l.take 60)).1:=by rw [listV,hK];simp
 obtain ⟨PP,hPP⟩:∃PP,ListAPost w 0 a c l=PP:=⟨_,rfl⟩
 have HPP:=qh hPP
 have HA:=qh hA;have HV:=qh hV;have HCV:=qh hcv
 rw [hPP]
 have i0:=ha.i0;have i1:=ha.i1;have j0:=ha.j0;have j1:=ha.j1;have k0:=ha.k0
 clear hPP hA hV hcv hK ha hv
 go_enter Tryz.func60,Tryz.ntmps60
 generalize hQ0:bodyPost _ _ _=Q0
 have HQ:=qh hQ0
 clear hQ0
 go_wp2_with fail
 refine (HBD.out _ HB.out.below).mono ?_
 rintro e w1 ⟨⟨cv,rfl,hv1⟩,hb1⟩
 have B:=HB.out.next hb1 (by simp)
 obtain ⟨b0,b1,b2,b3,b4,b5,b6,b7,b8,b9,b10,b11,a0,a1,a2,a3,a4,a5,a6,r0,r1,r2,r3,r4,r5,r6,r7,r8,r9,r10,r11,bf0,bf1,bf2,bf3,bf4,bf5,bf6,bf7,bf8,bf9,bf10,bf11,rf0,rf1,rf2,rf3,rf4,rf5,rf6,rf7,rf8,rf9,rf10,rf11,z0,z1,z2⟩:=B.facts
 have HBW:=qh B
 have hz1:w.heap.size+1+1+1<=w1.heap.size:=by omega
 have hv2:=Zm (Zm hv1 (Zi w1 w.heap.size 6 cv) (by simp;try omega)) (Xf _ (w.heap.size+1+1) { c with k:=4,i:=0,v:=cv }) (by simp)
 have h2:=Zt (((((HBW.out.r.far (o:=6) (x:= .int .u8 cv.k) (show w.heap.size+1+1≠w.heap.size by omega)).far (o:=7) (x:= .int .i64 cv.n) (show w.heap.size+1+1≠w.heap.size by omega)).far (o:=8) (x:= .string cv.s) (show w.heap.size+1+1≠w.heap.size by omega)).far (o:=9) (x:= .slice cv.la cv.ll cv.lc) (show w.heap.size+1+1≠w.heap.size by omega)).far (o:=10) (x:= .slice cv.oa cv.ol cv.oc) (show w.heap.size+1+1≠w.heap.size by omega)) { c with k:=4,i:=0,v:=cv }
 have h3:=Below.setC (((((HBW.out.below.set_ (o:=6) (x:= .int .u8 cv.k) (Nat.le_refl _)).set_ (o:=7) (x:= .int .i64 cv.n) (Nat.le_refl _)).set_ (o:=8) (x:= .string cv.s) (Nat.le_refl _)).set_ (o:=9) (x:= .slice cv.la cv.ll cv.lc) (Nat.le_refl _)).set_ (o:=10) (x:= .slice cv.oa cv.ol cv.oc) (Nat.le_refl _)) (show w.heap.size<=w.heap.size+1+1 by omega) { c with k:=4,i:=0,v:=cv }
 dsimp only at h2 h3 hv2
 have H2:=qh h2
 have H3:=qh h3
 have HV2:=qh hv2
 clear h2 h3 hv1 hv2 B hb1
 go_wp2_with fail
 rw [<-HQ.out]
 generalize hA:({ tmps:=_,defers:=_ } :Act)=A
 have h4:A.tmps[6]? =some (.pointer (some ⟨w.heap.size+1+1,0,none⟩)):=by rw [<-hA];rfl
 have h5:A.defers= [] :=by rw [<-hA]
 clear hA
 rw [<-HPP.out]
 refine ⟨h5,_,Qh h4 H2.out, ?_⟩
 exact ⟨⟨cv,by rw [HA.out],by rw [HV.out];exact HV2.out.sub (Ze fun k hk _=>⟨by simp at hk;omega,rfl⟩)⟩,H3.out⟩
set_option maxRecDepth 100000 in
theorem zg2 (w:World) (c:CC) (hcv:c.v=vzero) (a:AC) (ha:a.Bnd) (n:Nat) (hn:n<=1466015503701) (hn0:0<n) (hk:a.k % 4=0) (l:List Tk) (hv:IsToks w w.heap.size l a.va a.vl a.vc):
 uP 60 #[.agg (uC c), .agg (uA a), .int .i64 n] w (ListAPost w n a c l):=by
 delta uC uA uP
 have HBD:Hid (∀W,uB w W->uP 12 #[.slice a.va a.vl a.vc] W fun e w'=>(∃cv:VC,e= .returned (.agg #[.int .u8 cv.k, .int .i64 cv.n, .string cv.s, .slice cv.la cv.ll cv.lc, .slice cv.oa cv.ol cv.oc])/\IsVal (only (fun b=>W.heap.size<=b) w') w'.heap.size (oneP 6 (l.take 60)).1 cv)/\uB W w'):=fun W hW=>Ys W l _ _ _ (hv.later_ hW)
 have HB:=qh (AB.start w { c with k:=4,i:=max a.i 0 % ((n:Int)+1) } a 54 70 54)
 have hK:listK n a.k=4:=by rw [listK,if_neg (by omega)];omega
 have hA:listA n a c=fun cv=> { c with k:=4,i:=max a.i 0 % ((n:Int)+1),v:=cv } :=by funext cv;rw [listA,hK];simp
 have hV:listV n a.k l=(oneP 6 (l.take 60)).1:=by rw [listV,hK];simp
 obtain ⟨PP,hPP⟩:∃PP,ListAPost w n a c l=PP:=⟨_,rfl⟩
 have HPP:=qh hPP
 have HA:=qh hA;have HV:=qh hV;have HCV:=qh hcv
 rw [hPP]
 have i0:=ha.i0;have i1:=ha.i1;have j0:=ha.j0;have j1:=ha.j1;have k0:=ha.k0
 clear hPP hA hV hcv hK ha hv
 have hI0:0<=max a.i 0 % (n:Int):=Int.emod_nonneg _ (by omega)
 have hI1:max a.i 0 % (n:Int)<n:=Int.emod_lt_of_pos _ (by omega)
 have hJ0:0<=max a.j 0 % (n:Int):=Int.emod_nonneg _ (by omega)
 have hJ1:max a.j 0 % (n:Int)<n:=Int.emod_lt_of_pos _ (by omega)
 go_enter Tryz.func60,Tryz.ntmps60
 generalize hQ0:bodyPost _ _ _=Q0
 have HQ:=qh hQ0
 clear hQ0
 go_wp2_with fail
 refine (HBD.out _ HB.out.below).mono ?_
 rintro e w1 ⟨⟨cv,rfl,hv1⟩,hb1⟩
 have B:=HB.out.next hb1 (by simp)
 obtain ⟨b0,b1,b2,b3,b4,b5,b6,b7,b8,b9,b10,b11,a0,a1,a2,a3,a4,a5,a6,r0,r1,r2,r3,r4,r5,r6,r7,r8,r9,r10,r11,bf0,bf1,bf2,bf3,bf4,bf5,bf6,bf7,bf8,bf9,bf10,bf11,rf0,rf1,rf2,rf3,rf4,rf5,rf6,rf7,rf8,rf9,rf10,rf11,z0,z1,z2⟩:=B.facts
 have HBW:=qh B
 have hz1:w.heap.size+1+1+1<=w1.heap.size:=by omega
 have hv2:=Zm (Zm hv1 (Zi w1 w.heap.size 6 cv) (by simp;try omega)) (Xf _ (w.heap.size+1+1) { c with k:=4,i:=max a.i 0 % ((n:Int)+1),v:=cv }) (by simp)
 have h2:=Zt (((((HBW.out.r.far (o:=6) (x:= .int .u8 cv.k) (show w.heap.size+1+1≠w.heap.size by omega)).far (o:=7) (x:= .int .i64 cv.n) (show w.heap.size+1+1≠w.heap.size by omega)).far (o:=8) (x:= .string cv.s) (show w.heap.size+1+1≠w.heap.size by omega)).far (o:=9) (x:= .slice cv.la cv.ll cv.lc) (show w.heap.size+1+1≠w.heap.size by omega)).far (o:=10) (x:= .slice cv.oa cv.ol cv.oc) (show w.heap.size+1+1≠w.heap.size by omega)) { c with k:=4,i:=max a.i 0 % ((n:Int)+1),v:=cv }
 have h3:=Below.setC (((((HBW.out.below.set_ (o:=6) (x:= .int .u8 cv.k) (Nat.le_refl _)).set_ (o:=7) (x:= .int .i64 cv.n) (Nat.le_refl _)).set_ (o:=8) (x:= .string cv.s) (Nat.le_refl _)).set_ (o:=9) (x:= .slice cv.la cv.ll cv.lc) (Nat.le_refl _)).set_ (o:=10) (x:= .slice cv.oa cv.ol cv.oc) (Nat.le_refl _)) (show w.heap.size<=w.heap.size+1+1 by omega) { c with k:=4,i:=max a.i 0 % ((n:Int)+1),v:=cv }
 dsimp only at h2 h3 hv2
 have H2:=qh h2
 have H3:=qh h3
 have HV2:=qh hv2
 clear h2 h3 hv1 hv2 B hb1
 go_wp2_with fail
 rw [<-HQ.out]
 generalize hA:({ tmps:=_,defers:=_ } :Act)=A
 have h4:A.tmps[6]? =some (.pointer (some ⟨w.heap.size+1+1,0,none⟩)):=by rw [<-hA];rfl
 have h5:A.defers= [] :=by rw [<-hA]
 clear hA
 rw [<-HPP.out]
 refine ⟨h5,_,Qh h4 H2.out, ?_⟩
 exact ⟨⟨cv,by rw [HA.out],by rw [HV.out];exact HV2.out.sub (Ze fun k hk _=>⟨by simp at hk;omega,rfl⟩)⟩,H3.out⟩
set_option maxRecDepth 100000 in
theorem zjo (w:World) (c:CC) (hcv:c.v=vzero) (a:AC) (ha:a.Bnd) (n:Nat) (hn:n<=1466015503701) (hn0:0<n) (hk:a.k % 4=1) (l:List Tk) (hv:IsToks w w.heap.size l a.va a.vl a.vc):
 uP 60 #[.agg (uC c), .agg (uA a), .int .i64 n] w (ListAPost w n a c l):=by
 delta uC uA uP
 have HBD:Hid (∀W,uB w W->uP 12 #[.slice a.va a.vl a.vc] W fun e w'=>(∃cv:VC,e= .returned (.agg #[.int .u8 cv.k, .int .i64 cv.n, .string cv.s, .slice cv.la cv.ll cv.lc, .slice cv.oa cv.ol cv.oc])/\IsVal (only (fun b=>W.heap.size<=b) w') w'.heap.size (oneP 6 (l.take 60)).1 cv)/\uB W w'):=fun W hW=>Ys W l _ _ _ (hv.later_ hW)
 have HB:=qh (AB.startd w { c with k:=5,i:=max a.i 0 % (n:Int) } a { c with k:=5,i:=max a.i 0 % (n:Int) } 54 70 54)
 have hK:listK n a.k=5:=by rw [listK,if_neg (by omega)];omega
 have hA:listA n a c=fun cv=> { c with k:=5,i:=max a.i 0 % (n:Int),v:=cv } :=by funext cv;rw [listA,hK];simp
 have hV:listV n a.k l=V.none:=by rw [listV,hK];simp
 obtain ⟨PP,hPP⟩:∃PP,ListAPost w n a c l=PP:=⟨_,rfl⟩
 have HPP:=qh hPP
 have HA:=qh hA;have HV:=qh hV;have HCV:=qh hcv
 rw [hPP]
 have i0:=ha.i0;have i1:=ha.i1;have j0:=ha.j0;have j1:=ha.j1;have k0:=ha.k0
 clear hPP hA hV hcv hK ha hv
 have hI0:0<=max a.i 0 % (n:Int):=Int.emod_nonneg _ (by omega)
 have hI1:max a.i 0 % (n:Int)<n:=Int.emod_lt_of_pos _ (by omega)
 have hJ0:0<=max a.j 0 % (n:Int):=Int.emod_nonneg _ (by omega)
 have hJ1:max a.j 0 % (n:Int)<n:=Int.emod_lt_of_pos _ (by omega)
 go_enter Tryz.func60,Tryz.ntmps60
 generalize hQ0:bodyPost _ _ _=Q0
 have HQ:=qh hQ0
 clear hQ0
 go_wp2_with fail
 have H2:=qh HB.out.r
 have H3:=qh HB.out.below
 rw [<-HQ.out]
 generalize hA:({ tmps:=_,defers:=_ } :Act)=A
 have h4:A.tmps[6]? =some (.pointer (some ⟨w.heap.size+1+1,0,none⟩)):=by rw [<-hA];rfl
 have h5:A.defers= [] :=by rw [<-hA]
 clear hA
 rw [<-HPP.out]
 refine ⟨h5,_,Qh h4 H2.out, ?_⟩
 exact ⟨⟨c.v,by rw [HA.out],by rw [HV.out,HCV.out];exact Zw _ _⟩,H3.out⟩
set_option maxRecDepth 100000 in
theorem zlq (w:World) (c:CC) (hcv:c.v=vzero) (a:AC) (ha:a.Bnd) (n:Nat) (hn:n<=1466015503701) (hn0:0<n) (hk:a.k % 4=2) (l:List Tk) (hv:IsToks w w.heap.size l a.va a.vl a.vc):
 uP 60 #[.agg (uC c), .agg (uA a), .int .i64 n] w (ListAPost w n a c l):=by
 delta uC uA uP
 have HBD:Hid (∀W,uB w W->uP 12 #[.slice a.va a.vl a.vc] W fun e w'=>(∃cv:VC,e= .returned (.agg #[.int .u8 cv.k, .int .i64 cv.n, .string cv.s, .slice cv.la cv.ll cv.lc, .slice cv.oa cv.ol cv.oc])/\IsVal (only (fun b=>W.heap.size<=b) w') w'.heap.size (oneP 6 (l.take 60)).1 cv)/\uB W w'):=fun W hW=>Ys W l _ _ _ (hv.later_ hW)
 have HB:=qh (AB.start w { c with k:=6,i:=max a.i 0 % (n:Int) } a 54 70 54)
 have hK:listK n a.k=6:=by rw [listK,if_neg (by omega)];omega
 have hA:listA n a c=fun cv=> { c with k:=6,i:=max a.i 0 % (n:Int),v:=cv } :=by funext cv;rw [listA,hK];simp
 have hV:listV n a.k l=(oneP 6 (l.take 60)).1:=by rw [listV,hK];simp
 obtain ⟨PP,hPP⟩:∃PP,ListAPost w n a c l=PP:=⟨_,rfl⟩
 have HPP:=qh hPP
 have HA:=qh hA;have HV:=qh hV;have HCV:=qh hcv
 rw [hPP]
 have i0:=ha.i0;have i1:=ha.i1;have j0:=ha.j0;have j1:=ha.j1;have k0:=ha.k0
 clear hPP hA hV hcv hK ha hv
 have hI0:0<=max a.i 0 % (n:Int):=Int.emod_nonneg _ (by omega)
 have hI1:max a.i 0 % (n:Int)<n:=Int.emod_lt_of_pos _ (by omega)
 have hJ0:0<=max a.j 0 % (n:Int):=Int.emod_nonneg _ (by omega)
 have hJ1:max a.j 0 % (n:Int)<n:=Int.emod_lt_of_pos _ (by omega)
 go_enter Tryz.func60,Tryz.ntmps60
 generalize hQ0:bodyPost _ _ _=Q0
 have HQ:=qh hQ0
 clear hQ0
 go_wp2_with fail
 refine (HBD.out _ HB.out.below).mono ?_
 rintro e w1 ⟨⟨cv,rfl,hv1⟩,hb1⟩
 have B:=HB.out.next hb1 (by simp)
 obtain ⟨b0,b1,b2,b3,b4,b5,b6,b7,b8,b9,b10,b11,a0,a1,a2,a3,a4,a5,a6,r0,r1,r2,r3,r4,r5,r6,r7,r8,r9,r10,r11,bf0,bf1,bf2,bf3,bf4,bf5,bf6,bf7,bf8,bf9,bf10,bf11,rf0,rf1,rf2,rf3,rf4,rf5,rf6,rf7,rf8,rf9,rf10,rf11,z0,z1,z2⟩:=B.facts
 have HBW:=qh B
 have hz1:w.heap.size+1+1+1<=w1.heap.size:=by omega
 have hv2:=Zm (Zm hv1 (Zi w1 w.heap.size 6 cv) (by simp;try omega)) (Xf _ (w.heap.size+1+1) { c with k:=6,i:=max a.i 0 % (n:Int),v:=cv }) (by simp)
 have h2:=Zt (((((HBW.out.r.far (o:=6) (x:= .int .u8 cv.k) (show w.heap.size+1+1≠w.heap.size by omega)).far (o:=7) (x:= .int .i64 cv.n) (show w.heap.size+1+1≠w.heap.size by omega)).far (o:=8) (x:= .string cv.s) (show w.heap.size+1+1≠w.heap.size by omega)).far (o:=9) (x:= .slice cv.la cv.ll cv.lc) (show w.heap.size+1+1≠w.heap.size by omega)).far (o:=10) (x:= .slice cv.oa cv.ol cv.oc) (show w.heap.size+1+1≠w.heap.size by omega)) { c with k:=6,i:=max a.i 0 % (n:Int),v:=cv }
 have h3:=Below.setC (((((HBW.out.below.set_ (o:=6) (x:= .int .u8 cv.k) (Nat.le_refl _)).set_ (o:=7) (x:= .int .i64 cv.n) (Nat.le_refl _)).set_ (o:=8) (x:= .string cv.s) (Nat.le_refl _)).set_ (o:=9) (x:= .slice cv.la cv.ll cv.lc) (Nat.le_refl _)).set_ (o:=10) (x:= .slice cv.oa cv.ol cv.oc) (Nat.le_refl _)) (show w.heap.size<=w.heap.size+1+1 by omega) { c with k:=6,i:=max a.i 0 % (n:Int),v:=cv }
 dsimp only at h2 h3 hv2
 have H2:=qh h2
 have H3:=qh h3
 have HV2:=qh hv2
 clear h2 h3 hv1 hv2 B hb1
 go_wp2_with fail
 rw [<-HQ.out]
 generalize hA:({ tmps:=_,defers:=_ } :Act)=A
 have h4:A.tmps[6]? =some (.pointer (some ⟨w.heap.size+1+1,0,none⟩)):=by rw [<-hA];rfl
 have h5:A.defers= [] :=by rw [<-hA]
 clear hA
 rw [<-HPP.out]
 refine ⟨h5,_,Qh h4 H2.out, ?_⟩
 exact ⟨⟨cv,by rw [HA.out],by rw [HV.out];exact HV2.out.sub (Ze fun k hk _=>⟨by simp at hk;omega,rfl⟩)⟩,H3.out⟩
set_option maxRecDepth 100000 in
theorem zk4 (w:World) (c:CC) (hcv:c.v=vzero) (a:AC) (ha:a.Bnd) (n:Nat) (hn:n<=1466015503701) (hn0:0<n) (hk:a.k % 4=3) (l:List Tk) (hv:IsToks w w.heap.size l a.va a.vl a.vc):
 uP 60 #[.agg (uC c), .agg (uA a), .int .i64 n] w (ListAPost w n a c l):=by
 delta uC uA uP
 have HBD:Hid (∀W,uB w W->uP 12 #[.slice a.va a.vl a.vc] W fun e w'=>(∃cv:VC,e= .returned (.agg #[.int .u8 cv.k, .int .i64 cv.n, .string cv.s, .slice cv.la cv.ll cv.lc, .slice cv.oa cv.ol cv.oc])/\IsVal (only (fun b=>W.heap.size<=b) w') w'.heap.size (oneP 6 (l.take 60)).1 cv)/\uB W w'):=fun W hW=>Ys W l _ _ _ (hv.later_ hW)
 have HB:=qh (AB.startd w { c with k:=7,i:=max a.i 0 % (n:Int),j:=max a.j 0 % (n:Int) } a { c with k:=7,i:=max a.i 0 % (n:Int),j:=max a.j 0 % (n:Int) } 54 70 54)
 have hK:listK n a.k=7:=by rw [listK,if_neg (by omega)];omega
 have hA:listA n a c=fun cv=> { c with k:=7,i:=max a.i 0 % (n:Int),j:=max a.j 0 % (n:Int),v:=cv } :=by funext cv;rw [listA,hK];simp
 have hV:listV n a.k l=V.none:=by rw [listV,hK];simp
 obtain ⟨PP,hPP⟩:∃PP,ListAPost w n a c l=PP:=⟨_,rfl⟩
 have HPP:=qh hPP
 have HA:=qh hA;have HV:=qh hV;have HCV:=qh hcv
 rw [hPP]
 have i0:=ha.i0;have i1:=ha.i1;have j0:=ha.j0;have j1:=ha.j1;have k0:=ha.k0
 clear hPP hA hV hcv hK ha hv
 have hI0:0<=max a.i 0 % (n:Int):=Int.emod_nonneg _ (by omega)
 have hI1:max a.i 0 % (n:Int)<n:=Int.emod_lt_of_pos _ (by omega)
 have hJ0:0<=max a.j 0 % (n:Int):=Int.emod_nonneg _ (by omega)
 have hJ1:max a.j 0 % (n:Int)<n:=Int.emod_lt_of_pos _ (by omega)
 go_enter Tryz.func60,Tryz.ntmps60
 generalize hQ0:bodyPost _ _ _=Q0
 have HQ:=qh hQ0
 clear hQ0
 go_wp2_with fail
 have H2:=qh HB.out.r
 have H3:=qh HB.out.below
 rw [<-HQ.out]
 generalize hA:({ tmps:=_,defers:=_ } :Act)=A
 have h4:A.tmps[6]? =some (.pointer (some ⟨w.heap.size+1+1,0,none⟩)):=by rw [<-hA];rfl
 have h5:A.defers= [] :=by rw [<-hA]
 clear hA
 rw [<-HPP.out]
 refine ⟨h5,_,Qh h4 H2.out, ?_⟩
 exact ⟨⟨c.v,by rw [HA.out],by rw [HV.out,HCV.out];exact Zw _ _⟩,H3.out⟩
theorem zid (w:World) (c:CC) (hcv:c.v=vzero) (a:AC) (ha:a.Bnd) (n:Nat) (hn:n<=1466015503701) (l:List Tk) (hv:IsToks w w.heap.size l a.va a.vl a.vc):
 uP 60 #[.agg (uC c), .agg (uA a), .int .i64 n] w (ListAPost w n a c l):=by
 delta uC uA uP
 by_cases hn0:0<n
 .have h4:a.k % 4=0∨a.k % 4=1∨a.k % 4=2∨a.k % 4=3:=by omega
  rcases h4 with h|h|h|h
  .exact zg2 w c hcv a ha n hn hn0 h l hv
  .exact zjo w c hcv a ha n hn hn0 h l hv
  .exact zlq w c hcv a ha n hn hn0 h l hv
  .exact zk4 w c hcv a ha n hn hn0 h l hv
 .obtain rfl:n=0:=by omega
  exact zin w c hcv a ha l hv
theorem zm1 {x:V} {c:Cm} {K:Nat} (hs:cmSound c=true) (hk:kindsP x c.k c.i c.j c.n c.key=0) (hK:c.key.size<=K∨∃f ∈ x.os,f.1=c.key):(doneP x c).weight<=x.weight+c.v.weight+K+c.s.size:=by
 have hr:=J8 hs
 obtain ⟨k,n,t,l,o,rfl⟩:=x.eta
 unfold doneP
 unfold kindsP at hk
 by_cases e1:c.k=1
 .rw [if_pos e1];simp only [V.weight,V.str,V.ls,V.os];omega
 .rw [if_neg e1]
  rw [if_neg e1] at hk
  by_cases e2:c.k=2∨c.k=3
  .rw [if_pos e2]
   have:=zkg o c.key c.v (c.k==3) K hK
   simp only [V.weight,V.str,V.ls,V.os];omega
  .rw [if_neg e2]
   rw [if_neg e2] at hk
   by_cases e3:c.k=8∨c.k=9
   .rw [if_pos e3]
    rw [if_pos e3] at hk
    have ht:tCheck t c.k c.i c.n=0:=by
     split at hk
     .omega
     .exact hk
    have:=zjc (cs:=c.s) ht
    simp only [V.weight,V.str,V.ls,V.os];omega
   .rw [if_neg e3]
    rw [if_neg e3] at hk
    have hl:lCheck l.length c.k c.i c.j=0:=by
     split at hk
     .omega
     .exact hk
    obtain ⟨h1,h2,h3,h4,h5,h6⟩:=Yi hl
    have:=ziq l c.k c.i c.j c.v (fun h=>by have:=h5 h.1;omega)
    simp only [V.weight,V.str,V.ls,V.os];omega
theorem zk0 {v:V} {c:Cm} {K:Nat} (h:(doP v c).2=0) (hK:c.key.size<=K∨∀x,getP v c.path=some x->∃f ∈ x.os,f.1=c.key):(doP v c).1.weight<=v.weight+c.v.weight+K+c.s.size:=by
 by_cases he:checkP v c=0
 .obtain ⟨hs,x,hg,hk⟩:=Yl he
  obtain ⟨z,hz⟩:=Y6 c.path hg (doneP x c)
  rw [Ym he hg,hz,Y4]
  have h1:=zdp c.path hg hz
  have h2:=zm1 hs hk (hK.imp id fun h=>h x hg)
  dsimp only
  omega
 .rw [doP,if_neg he] at h
  exact absurd h he
def xAt (v:V) (p:List St):V:=(getP v p).getD V.none
def trimN (v:V) (p:List St):Nat->Nat
 |0=>0
 |n+1=>if (xAt v (p.take (n+1))).kd<2 then trimN v p n else n+1
def wayP (v:V) (bs:List UInt8):List St:=(walkP v (bs.take 8)).take 5
def aimPath (v:V) (bs:List UInt8):List St:=(wayP v bs).take (trimN v (wayP v bs) (wayP v bs).length)
noncomputable def fieldKey (o:List (ByteArray×V)) (a:AC):ByteArray:=if 0<o.length/\0<a.k % 3 then (o.getD (max a.i 0 % o.length).toNat (.empty,V.none)).1 else plainS a.s
noncomputable def fieldB (o:List (ByteArray×V)) (a:AC):Bool:=fieldIs o (fieldKey o a) && decide (a.k % 2=0)
noncomputable def fieldA (o:List (ByteArray×V)) (a:AC) (c:CC) (cv:VC):CC:= { c with k:=if fieldB o a=true then 3 else 2,key:=fieldKey o a,v:=cv }
noncomputable def fieldV (o:List (ByteArray×V)) (a:AC) (l:List Tk):V:=if fieldB o a=true then V.none else (oneP 6 (l.take 60)).1
def Ac.bare (a:Ac):AC:=⟨none,0,0,a.k,a.i,a.j,a.n,a.s,none,0,0⟩
def cmOf (p:List St) (v:V) (d:CC):Cm:=⟨d.k,p,d.key,d.i,d.j,d.n,v,d.s⟩
noncomputable def oneX (x:V) (p:List St) (a:Ac):Option Cm:=
 if x.kd=2 then some ⟨1,p, .empty,0,0,a.n,V.none, .empty⟩
 else if x.kd=3 then some (cmOf p V.none (textA x.str.size a.bare czero))
 else if x.kd=4 then some (cmOf p (listV x.ls.length a.k a.v) (listA x.ls.length a.bare czero vzero))
 else if x.kd=5 then some (cmOf p (fieldV x.os a.bare a.v) (fieldA x.os a.bare czero vzero))
 else none
noncomputable def oneC (v:V) (a:Ac):Option Cm:=oneX (xAt v (aimPath v a.path)) (aimPath v a.path) a
noncomputable def aimP:V->List Ac->List Cm
 |_, [] => []
 | v,a::r=>match oneC v a with
   |none=>aimP v r
   |some c=>if (doP v c).2=0 then c::aimP (doP v c).1 r else aimP v r
theorem Kz:V.none.weight=1:=by simp [V.none,V.weight,weightL,weightO]
structure Small (v:V) (c:Cm):Prop where
 sv:c.v.weight<=20000
 ss:c.s.size<=41
 sp:c.path.length<=5
 sk:c.key.size<=40∨∀x,getP v c.path=some x->∃f ∈ x.os,f.1=c.key
theorem zdc {v:V} {a:Ac} {c:Cm} (h:oneC v a=some c):Small v c:=by
 have hpl:(aimPath v a.path).length<=5:=by unfold aimPath wayP;rw [List.length_take,List.length_take];omega
 unfold oneC at h
 obtain ⟨p,hp⟩:∃p,aimPath v a.path=p:=⟨_,rfl⟩
 rw [hp] at h hpl
 have hps:=Y5 a.s
 have hb:=(Kr a.v).2.1
 have hn:=Kz
 unfold oneX at h
 split at h
 .injection h with h;subst h
  exact ⟨by dsimp only;omega,Nat.zero_le _,hpl, .inl (Nat.zero_le _)⟩
 .split at h
  .injection h with h;subst h
   unfold textA
   split
   .exact ⟨by show V.none.weight<=_;omega,Nat.zero_le _,hpl, .inl (Nat.zero_le _)⟩
   .refine ⟨by show V.none.weight<=_;omega, ?_,hpl, .inl (Nat.zero_le _)⟩
    show ({ data:= #[120] } ++plainS a.s:ByteArray).size<=41
    rw [ByteArray.size_append]
    have:({ data:= #[120] } :ByteArray).size=1:=rfl
    omega
  .split at h
   .injection h with h;subst h
    refine ⟨?_,Nat.zero_le _,hpl, .inl (Nat.zero_le _)⟩
    show (listV _ _ _).weight<=_
    unfold listV
    split<;>omega
   .split at h
    .injection h with h;subst h
     refine ⟨?_,Nat.zero_le _,hpl, ?_⟩
     .show (fieldV _ _ _).weight<=_
      unfold fieldV
      split<;>omega
     .show (fieldKey _ _).size<=40∨∀x,getP v p=some x->∃f ∈ x.os,f.1=fieldKey _ _
      unfold fieldKey
      split
      .rename_i hc
       right
       intro x hx
       have hxx:xAt v p=x:=by rw [xAt,hx];rfl
       rw [hxx] at hc ⊢
       have hlt:(max a.bare.i 0 % (x.os.length:Int)).toNat<x.os.length:=by
        have h1:=Int.emod_nonneg (max a.bare.i 0) (show (x.os.length:Int)≠0 by omega)
        have h2:=Int.emod_lt_of_pos (max a.bare.i 0) (show (0:Int)<x.os.length by omega)
        omega
       refine ⟨x.os[(max a.bare.i 0 % (x.os.length:Int)).toNat]'hlt,List.getElem_mem _, ?_⟩
       simp only [List.getD_eq_getElem?_getD,List.getElem?_eq_getElem hlt,Option.getD_some]
      .left;exact hps
    .cases h
theorem zkb {v:V} {a:Ac} {c:Cm} (h:oneC v a=some c) (hd:(doP v c).2=0):(doP v c).1.weight<=v.weight+20100:=by
 have hs:=zdc h
 have h1:=hs.sv;have h2:=hs.ss
 have:=zk0 hd hs.sk
 omega
theorem zgj (l:List Ac):∀v,(aimP v l).length<=l.length:=by
 induction l with
 |nil=>intro v;simp [aimP]
 | cons a r ih=>
   intro v
   unfold aimP
   split
   .have:=ih v;rw [List.length_cons];omega
   .rename_i c _
    split
    .have:=ih (doP v c).1;simp only [List.length_cons];omega
    .have:=ih v;rw [List.length_cons];omega
end Go.Proofs.YtbgheehjfnoiiaaGreatDoor
