/- Walks. -/
import Derived.Test.YtbgheehjfnoiiaaGreatDoorIu27
namespace Go.Proofs.YtbgheehjfnoiiaaGreatDoor
open Go.RowKit
set_option maxRecDepth 100000
set_option maxHeartbeats 8000000
theorem Jg {tmps:Array Value} {W:World} {b:Nat} {d:CC} (ht:tmps[6]? =some (.pointer (some ⟨b,0,none⟩))) (h:BC W b (ccells d)):
 (results Tryz.f60 tmps).run Tryz.prog W= .ok (.agg #[.int .u8 d.k, .slice d.pa d.pl d.pc, .string d.key, .int .i64 d.i, .int .i64 d.j, .int .i64 d.n, .int .u8 d.v.k, .int .i64 d.v.n, .string d.v.s, .slice d.v.la d.v.ll d.v.lc, .slice d.v.oa d.v.ol d.v.oc, .string d.s]) W:=by
 obtain ⟨r0,r1,r2,r3,r4,r5,r6,r7,r8,r9,r10,r11⟩:=row12 h.at_;simp [results,Tryz.results60,go_sem,ht,r0,r1,r2,r3,r4,r5,r6,r7,r8,r9,r10,r11]
theorem Xu (W:World) (b:Nat) (d:CC):RStep W ((((((((((((W.setCell ⟨b,0,none⟩ (.int .u8 d.k)).setCell ⟨b,1,none⟩ (.slice d.pa d.pl d.pc)).setCell ⟨b,2,none⟩ (.string d.key)).setCell ⟨b,3,none⟩ (.int .i64 d.i)).setCell ⟨b,4,none⟩ (.int .i64 d.j)).setCell ⟨b,5,none⟩ (.int .i64 d.n)).setCell ⟨b,6,none⟩ (.int .u8 d.v.k)).setCell ⟨b,7,none⟩ (.int .i64 d.v.n)).setCell ⟨b,8,none⟩ (.string d.v.s)).setCell ⟨b,9,none⟩ (.slice d.v.la d.v.ll d.v.lc)).setCell ⟨b,10,none⟩ (.slice d.v.oa d.v.ol d.v.oc)).setCell ⟨b,11,none⟩ (.string d.s)) b:=(((((((((((RStep.self.trans RStep.self).trans RStep.self).trans RStep.self).trans RStep.self).trans RStep.self).trans RStep.self).trans RStep.self).trans RStep.self).trans RStep.self).trans RStep.self).trans RStep.self)
def listK (n:Nat) (k:Int):Int:=if n=0 then 4 else 4+k % 4
def listA (n:Nat) (a:AC) (c:CC) (cv:VC):CC:=
 { c with k:=listK n a.k,i:=if listK n a.k=4 then max a.i 0 % ((n:Int)+1) else max a.i 0 % n,j:=if listK n a.k=7 then max a.j 0 % n else c.j,v:=cv }
noncomputable def listV (n:Nat) (k:Int) (l:List Tk):V:=if listK n k=4∨listK n k=6 then (oneP 6 (l.take 60)).1 else V.none
def ListAPost (w:World) (n:Nat) (a:AC) (c:CC) (l:List Tk) (e:Ending) (w':World):Prop:=
 (∃cv:VC,e= .returned (.agg #[.int .u8 (listA n a c cv).k, .slice (listA n a c cv).pa (listA n a c cv).pl (listA n a c cv).pc, .string (listA n a c cv).key, .int .i64 (listA n a c cv).i, .int .i64 (listA n a c cv).j, .int .i64 (listA n a c cv).n, .int .u8 (listA n a c cv).v.k, .int .i64 (listA n a c cv).v.n, .string (listA n a c cv).v.s, .slice (listA n a c cv).v.la (listA n a c cv).v.ll (listA n a c cv).v.lc, .slice (listA n a c cv).v.oa (listA n a c cv).v.ol (listA n a c cv).v.oc, .string (listA n a c cv).s])/\IsVal (only (fun b=>w.heap.size<=b) w') w'.heap.size (listV n a.k l) cv)/\Below w.heap.size w w'
theorem zl0 (w:World) (c:CC) (hcv:c.v=vzero) (a:AC) (ha:a.Bnd) (l:List Tk) (hv:IsToks w w.heap.size l a.va a.vl a.vc):
 uP 60 #[.agg (uC c), .agg (uA a), .int .i64 0] w (ListAPost w 0 a c l):=by
 delta uC uA uP;have HBD:Hid (∀W,uB w W->uP 12 #[.slice a.va a.vl a.vc] W fun e w'=>(∃cv:VC,e= .returned (.agg #[.int .u8 cv.k, .int .i64 cv.n, .string cv.s, .slice cv.la cv.ll cv.lc, .slice cv.oa cv.ol cv.oc])/\IsVal (only (fun b=>W.heap.size<=b) w') w'.heap.size (oneP 6 (l.take 60)).1 cv)/\uB W w'):=fun W hW=>Yz W l _ _ _ (hv.later_ hW);have HB:=qh (AB.start w { c with k:=4,i:=0 } a 54 70 54);have hK:listK 0 a.k=4:=by simp [listK]
 have hA:listA 0 a c=fun cv=> { c with k:=4,i:=0,v:=cv } :=by funext cv;rw [listA,hK];simp
 have hV:listV 0 a.k l=(oneP 6 (l.take 60)).1:=by rw [listV,hK];simp
 obtain ⟨PP,hPP⟩:∃PP,ListAPost w 0 a c l=PP:=⟨_,rfl⟩;have HPP:=qh hPP;have HA:=qh hA;have HV:=qh hV;have HCV:=qh hcv;rw [hPP];have i0:=ha.i0;have i1:=ha.i1;have j0:=ha.j0;have j1:=ha.j1;have k0:=ha.k0;clear hPP hA hV hcv hK ha hv;go_enter Tryz.func60,Tryz.ntmps60
 generalize hQ0:bodyPost _ _ _=Q0;have HQ:=qh hQ0;clear hQ0;go_wp2_with fail;refine (HBD.out _ HB.out.below).mono ?_;rintro e w1 ⟨⟨cv,rfl,hv1⟩,hb1⟩;have B:=HB.out.next hb1 (by simp);obtain ⟨b0,b1,b2,b3,b4,b5,b6,b7,b8,b9,b10,b11,a0,a1,a2,a3,a4,a5,a6,r0,r1,r2,r3,r4,r5,r6,r7,r8,r9,r10,r11,bf0,bf1,bf2,bf3,bf4,bf5,bf6,bf7,bf8,bf9,bf10,bf11,rf0,rf1,rf2,rf3,rf4,rf5,rf6,rf7,rf8,rf9,rf10,rf11,z0,z1,z2⟩:=B.facts;have HBW:=qh B;have hz1:w.heap.size+1+1+1<=w1.heap.size:=by omega
 have hv2:=Zm (Zm hv1 (Zh w1 w.heap.size 6 cv) (by simp;try omega)) (Xu _ (w.heap.size+1+1) { c with k:=4,i:=0,v:=cv }) (by simp);have h2:=Zp (((((HBW.out.r.far (o:=6) (x:= .int .u8 cv.k) (show w.heap.size+1+1≠w.heap.size by omega)).far (o:=7) (x:= .int .i64 cv.n) (show w.heap.size+1+1≠w.heap.size by omega)).far (o:=8) (x:= .string cv.s) (show w.heap.size+1+1≠w.heap.size by omega)).far (o:=9) (x:= .slice cv.la cv.ll cv.lc) (show w.heap.size+1+1≠w.heap.size by omega)).far (o:=10) (x:= .slice cv.oa cv.ol cv.oc) (show w.heap.size+1+1≠w.heap.size by omega)) { c with k:=4,i:=0,v:=cv };have h3:=Below.setC (((((HBW.out.below.set_ (o:=6) (x:= .int .u8 cv.k) (zza _)).set_ (o:=7) (x:= .int .i64 cv.n) (zza _)).set_ (o:=8) (x:= .string cv.s) (zza _)).set_ (o:=9) (x:= .slice cv.la cv.ll cv.lc) (zza _)).set_ (o:=10) (x:= .slice cv.oa cv.ol cv.oc) (zza _)) (show w.heap.size<=w.heap.size+1+1 by omega) { c with k:=4,i:=0,v:=cv };dsimp only at h2 h3 hv2;have H2:=qh h2;have H3:=qh h3;have HV2:=qh hv2;clear h2 h3 hv1 hv2 B hb1;go_wp2_with fail;rw [<-HQ.out];generalize hA:({ tmps:=_,defers:=_ } :Act)=A;have h4:A.tmps[6]? =some (.pointer (some ⟨w.heap.size+1+1,0,none⟩)):=by rw [<-hA];rfl
 have h5:A.defers= [] :=by rw [<-hA]
 clear hA;rw [<-HPP.out];refine ⟨h5,_,Jg h4 H2.out, ?_⟩;exact ⟨⟨cv,by rw [HA.out],by rw [HV.out];exact HV2.out.sub (Zc fun k hk _=>⟨by simp at hk;omega,rfl⟩)⟩,H3.out⟩
theorem zo3 (w:World) (c:CC) (hcv:c.v=vzero) (a:AC) (ha:a.Bnd) (n:Nat) (hn:n<=1466015503701) (hn0:0<n) (hk:a.k % 4=0) (l:List Tk) (hv:IsToks w w.heap.size l a.va a.vl a.vc):
 uP 60 #[.agg (uC c), .agg (uA a), .int .i64 n] w (ListAPost w n a c l):=by
 delta uC uA uP;have HBD:Hid (∀W,uB w W->uP 12 #[.slice a.va a.vl a.vc] W fun e w'=>(∃cv:VC,e= .returned (.agg #[.int .u8 cv.k, .int .i64 cv.n, .string cv.s, .slice cv.la cv.ll cv.lc, .slice cv.oa cv.ol cv.oc])/\IsVal (only (fun b=>W.heap.size<=b) w') w'.heap.size (oneP 6 (l.take 60)).1 cv)/\uB W w'):=fun W hW=>Yz W l _ _ _ (hv.later_ hW);have HB:=qh (AB.start w { c with k:=4,i:=max a.i 0 % ((n:Int)+1) } a 54 70 54);have hK:listK n a.k=4:=by rw [listK,if_neg (by omega)];omega
 have hA:listA n a c=fun cv=> { c with k:=4,i:=max a.i 0 % ((n:Int)+1),v:=cv } :=by funext cv;rw [listA,hK];simp
 have hV:listV n a.k l=(oneP 6 (l.take 60)).1:=by rw [listV,hK];simp
 obtain ⟨PP,hPP⟩:∃PP,ListAPost w n a c l=PP:=⟨_,rfl⟩;have HPP:=qh hPP;have HA:=qh hA;have HV:=qh hV;have HCV:=qh hcv;rw [hPP];have i0:=ha.i0;have i1:=ha.i1;have j0:=ha.j0;have j1:=ha.j1;have k0:=ha.k0;clear hPP hA hV hcv hK ha hv;have hI0:0<=max a.i 0 % (n:Int):=Int.emod_nonneg _ (by omega);have hI1:max a.i 0 % (n:Int)<n:=Int.emod_lt_of_pos _ (by omega);have hJ0:0<=max a.j 0 % (n:Int):=Int.emod_nonneg _ (by omega);have hJ1:max a.j 0 % (n:Int)<n:=Int.emod_lt_of_pos _ (by omega);go_enter Tryz.func60,Tryz.ntmps60
 generalize hQ0:bodyPost _ _ _=Q0;have HQ:=qh hQ0;clear hQ0;go_wp2_with fail;refine (HBD.out _ HB.out.below).mono ?_;rintro e w1 ⟨⟨cv,rfl,hv1⟩,hb1⟩;have B:=HB.out.next hb1 (by simp);obtain ⟨b0,b1,b2,b3,b4,b5,b6,b7,b8,b9,b10,b11,a0,a1,a2,a3,a4,a5,a6,r0,r1,r2,r3,r4,r5,r6,r7,r8,r9,r10,r11,bf0,bf1,bf2,bf3,bf4,bf5,bf6,bf7,bf8,bf9,bf10,bf11,rf0,rf1,rf2,rf3,rf4,rf5,rf6,rf7,rf8,rf9,rf10,rf11,z0,z1,z2⟩:=B.facts;have HBW:=qh B;have hz1:w.heap.size+1+1+1<=w1.heap.size:=by omega
 have hv2:=Zm (Zm hv1 (Zh w1 w.heap.size 6 cv) (by simp;try omega)) (Xu _ (w.heap.size+1+1) { c with k:=4,i:=max a.i 0 % ((n:Int)+1),v:=cv }) (by simp);have h2:=Zp (((((HBW.out.r.far (o:=6) (x:= .int .u8 cv.k) (show w.heap.size+1+1≠w.heap.size by omega)).far (o:=7) (x:= .int .i64 cv.n) (show w.heap.size+1+1≠w.heap.size by omega)).far (o:=8) (x:= .string cv.s) (show w.heap.size+1+1≠w.heap.size by omega)).far (o:=9) (x:= .slice cv.la cv.ll cv.lc) (show w.heap.size+1+1≠w.heap.size by omega)).far (o:=10) (x:= .slice cv.oa cv.ol cv.oc) (show w.heap.size+1+1≠w.heap.size by omega)) { c with k:=4,i:=max a.i 0 % ((n:Int)+1),v:=cv };have h3:=Below.setC (((((HBW.out.below.set_ (o:=6) (x:= .int .u8 cv.k) (zza _)).set_ (o:=7) (x:= .int .i64 cv.n) (zza _)).set_ (o:=8) (x:= .string cv.s) (zza _)).set_ (o:=9) (x:= .slice cv.la cv.ll cv.lc) (zza _)).set_ (o:=10) (x:= .slice cv.oa cv.ol cv.oc) (zza _)) (show w.heap.size<=w.heap.size+1+1 by omega) { c with k:=4,i:=max a.i 0 % ((n:Int)+1),v:=cv };dsimp only at h2 h3 hv2;have H2:=qh h2;have H3:=qh h3;have HV2:=qh hv2;clear h2 h3 hv1 hv2 B hb1;go_wp2_with fail;rw [<-HQ.out];generalize hA:({ tmps:=_,defers:=_ } :Act)=A;have h4:A.tmps[6]? =some (.pointer (some ⟨w.heap.size+1+1,0,none⟩)):=by rw [<-hA];rfl
 have h5:A.defers= [] :=by rw [<-hA]
 clear hA;rw [<-HPP.out];refine ⟨h5,_,Jg h4 H2.out, ?_⟩;exact ⟨⟨cv,by rw [HA.out],by rw [HV.out];exact HV2.out.sub (Zc fun k hk _=>⟨by simp at hk;omega,rfl⟩)⟩,H3.out⟩
theorem zmc (w:World) (c:CC) (hcv:c.v=vzero) (a:AC) (ha:a.Bnd) (n:Nat) (hn:n<=1466015503701) (hn0:0<n) (hk:a.k % 4=1) (l:List Tk) (hv:IsToks w w.heap.size l a.va a.vl a.vc):
 uP 60 #[.agg (uC c), .agg (uA a), .int .i64 n] w (ListAPost w n a c l):=by
 delta uC uA uP;have HBD:Hid (∀W,uB w W->uP 12 #[.slice a.va a.vl a.vc] W fun e w'=>(∃cv:VC,e= .returned (.agg #[.int .u8 cv.k, .int .i64 cv.n, .string cv.s, .slice cv.la cv.ll cv.lc, .slice cv.oa cv.ol cv.oc])/\IsVal (only (fun b=>W.heap.size<=b) w') w'.heap.size (oneP 6 (l.take 60)).1 cv)/\uB W w'):=fun W hW=>Yz W l _ _ _ (hv.later_ hW);have HB:=qh (AB.startd w { c with k:=5,i:=max a.i 0 % (n:Int) } a { c with k:=5,i:=max a.i 0 % (n:Int) } 54 70 54);have hK:listK n a.k=5:=by rw [listK,if_neg (by omega)];omega
 have hA:listA n a c=fun cv=> { c with k:=5,i:=max a.i 0 % (n:Int),v:=cv } :=by funext cv;rw [listA,hK];simp
 have hV:listV n a.k l=V.none:=by rw [listV,hK];simp
 obtain ⟨PP,hPP⟩:∃PP,ListAPost w n a c l=PP:=⟨_,rfl⟩;have HPP:=qh hPP;have HA:=qh hA;have HV:=qh hV;have HCV:=qh hcv;rw [hPP];have i0:=ha.i0;have i1:=ha.i1;have j0:=ha.j0;have j1:=ha.j1;have k0:=ha.k0;clear hPP hA hV hcv hK ha hv;have hI0:0<=max a.i 0 % (n:Int):=Int.emod_nonneg _ (by omega);have hI1:max a.i 0 % (n:Int)<n:=Int.emod_lt_of_pos _ (by omega);have hJ0:0<=max a.j 0 % (n:Int):=Int.emod_nonneg _ (by omega);have hJ1:max a.j 0 % (n:Int)<n:=Int.emod_lt_of_pos _ (by omega);go_enter Tryz.func60,Tryz.ntmps60
 generalize hQ0:bodyPost _ _ _=Q0;have HQ:=qh hQ0;clear hQ0;go_wp2_with fail;have H2:=qh HB.out.r;have H3:=qh HB.out.below;rw [<-HQ.out];generalize hA:({ tmps:=_,defers:=_ } :Act)=A;have h4:A.tmps[6]? =some (.pointer (some ⟨w.heap.size+1+1,0,none⟩)):=by rw [<-hA];rfl
 have h5:A.defers= [] :=by rw [<-hA]
 clear hA;rw [<-HPP.out];refine ⟨h5,_,Jg h4 H2.out, ?_⟩;exact ⟨⟨c.v,by rw [HA.out],by rw [HV.out,HCV.out];exact Zr _ _⟩,H3.out⟩
theorem zpw (w:World) (c:CC) (hcv:c.v=vzero) (a:AC) (ha:a.Bnd) (n:Nat) (hn:n<=1466015503701) (hn0:0<n) (hk:a.k % 4=2) (l:List Tk) (hv:IsToks w w.heap.size l a.va a.vl a.vc):
 uP 60 #[.agg (uC c), .agg (uA a), .int .i64 n] w (ListAPost w n a c l):=by
 delta uC uA uP;have HBD:Hid (∀W,uB w W->uP 12 #[.slice a.va a.vl a.vc] W fun e w'=>(∃cv:VC,e= .returned (.agg #[.int .u8 cv.k, .int .i64 cv.n, .string cv.s, .slice cv.la cv.ll cv.lc, .slice cv.oa cv.ol cv.oc])/\IsVal (only (fun b=>W.heap.size<=b) w') w'.heap.size (oneP 6 (l.take 60)).1 cv)/\uB W w'):=fun W hW=>Yz W l _ _ _ (hv.later_ hW);have HB:=qh (AB.start w { c with k:=6,i:=max a.i 0 % (n:Int) } a 54 70 54);have hK:listK n a.k=6:=by rw [listK,if_neg (by omega)];omega
 have hA:listA n a c=fun cv=> { c with k:=6,i:=max a.i 0 % (n:Int),v:=cv } :=by funext cv;rw [listA,hK];simp
 have hV:listV n a.k l=(oneP 6 (l.take 60)).1:=by rw [listV,hK];simp
 obtain ⟨PP,hPP⟩:∃PP,ListAPost w n a c l=PP:=⟨_,rfl⟩;have HPP:=qh hPP;have HA:=qh hA;have HV:=qh hV;have HCV:=qh hcv;rw [hPP];have i0:=ha.i0;have i1:=ha.i1;have j0:=ha.j0;have j1:=ha.j1;have k0:=ha.k0;clear hPP hA hV hcv hK ha hv;have hI0:0<=max a.i 0 % (n:Int):=Int.emod_nonneg _ (by omega);have hI1:max a.i 0 % (n:Int)<n:=Int.emod_lt_of_pos _ (by omega);have hJ0:0<=max a.j 0 % (n:Int):=Int.emod_nonneg _ (by omega);have hJ1:max a.j 0 % (n:Int)<n:=Int.emod_lt_of_pos _ (by omega);go_enter Tryz.func60,Tryz.ntmps60
 generalize hQ0:bodyPost _ _ _=Q0;have HQ:=qh hQ0;clear hQ0;go_wp2_with fail;refine (HBD.out _ HB.out.below).mono ?_;rintro e w1 ⟨⟨cv,rfl,hv1⟩,hb1⟩;have B:=HB.out.next hb1 (by simp);obtain ⟨b0,b1,b2,b3,b4,b5,b6,b7,b8,b9,b10,b11,a0,a1,a2,a3,a4,a5,a6,r0,r1,r2,r3,r4,r5,r6,r7,r8,r9,r10,r11,bf0,bf1,bf2,bf3,bf4,bf5,bf6,bf7,bf8,bf9,bf10,bf11,rf0,rf1,rf2,rf3,rf4,rf5,rf6,rf7,rf8,rf9,rf10,rf11,z0,z1,z2⟩:=B.facts;have HBW:=qh B;have hz1:w.heap.size+1+1+1<=w1.heap.size:=by omega
 have hv2:=Zm (Zm hv1 (Zh w1 w.heap.size 6 cv) (by simp;try omega)) (Xu _ (w.heap.size+1+1) { c with k:=6,i:=max a.i 0 % (n:Int),v:=cv }) (by simp);have h2:=Zp (((((HBW.out.r.far (o:=6) (x:= .int .u8 cv.k) (show w.heap.size+1+1≠w.heap.size by omega)).far (o:=7) (x:= .int .i64 cv.n) (show w.heap.size+1+1≠w.heap.size by omega)).far (o:=8) (x:= .string cv.s) (show w.heap.size+1+1≠w.heap.size by omega)).far (o:=9) (x:= .slice cv.la cv.ll cv.lc) (show w.heap.size+1+1≠w.heap.size by omega)).far (o:=10) (x:= .slice cv.oa cv.ol cv.oc) (show w.heap.size+1+1≠w.heap.size by omega)) { c with k:=6,i:=max a.i 0 % (n:Int),v:=cv };have h3:=Below.setC (((((HBW.out.below.set_ (o:=6) (x:= .int .u8 cv.k) (zza _)).set_ (o:=7) (x:= .int .i64 cv.n) (zza _)).set_ (o:=8) (x:= .string cv.s) (zza _)).set_ (o:=9) (x:= .slice cv.la cv.ll cv.lc) (zza _)).set_ (o:=10) (x:= .slice cv.oa cv.ol cv.oc) (zza _)) (show w.heap.size<=w.heap.size+1+1 by omega) { c with k:=6,i:=max a.i 0 % (n:Int),v:=cv };dsimp only at h2 h3 hv2;have H2:=qh h2;have H3:=qh h3;have HV2:=qh hv2;clear h2 h3 hv1 hv2 B hb1;go_wp2_with fail;rw [<-HQ.out];generalize hA:({ tmps:=_,defers:=_ } :Act)=A;have h4:A.tmps[6]? =some (.pointer (some ⟨w.heap.size+1+1,0,none⟩)):=by rw [<-hA];rfl
 have h5:A.defers= [] :=by rw [<-hA]
 clear hA;rw [<-HPP.out];refine ⟨h5,_,Jg h4 H2.out, ?_⟩;exact ⟨⟨cv,by rw [HA.out],by rw [HV.out];exact HV2.out.sub (Zc fun k hk _=>⟨by simp at hk;omega,rfl⟩)⟩,H3.out⟩
theorem zj1 (w:World) (c:CC) (hcv:c.v=vzero) (a:AC) (ha:a.Bnd) (n:Nat) (hn:n<=1466015503701) (hn0:0<n) (hk:a.k % 4=3) (l:List Tk) (hv:IsToks w w.heap.size l a.va a.vl a.vc):
 uP 60 #[.agg (uC c), .agg (uA a), .int .i64 n] w (ListAPost w n a c l):=by
 delta uC uA uP;have HBD:Hid (∀W,uB w W->uP 12 #[.slice a.va a.vl a.vc] W fun e w'=>(∃cv:VC,e= .returned (.agg #[.int .u8 cv.k, .int .i64 cv.n, .string cv.s, .slice cv.la cv.ll cv.lc, .slice cv.oa cv.ol cv.oc])/\IsVal (only (fun b=>W.heap.size<=b) w') w'.heap.size (oneP 6 (l.take 60)).1 cv)/\uB W w'):=fun W hW=>Yz W l _ _ _ (hv.later_ hW);have HB:=qh (AB.startd w { c with k:=7,i:=max a.i 0 % (n:Int),j:=max a.j 0 % (n:Int) } a { c with k:=7,i:=max a.i 0 % (n:Int),j:=max a.j 0 % (n:Int) } 54 70 54);have hK:listK n a.k=7:=by rw [listK,if_neg (by omega)];omega
 have hA:listA n a c=fun cv=> { c with k:=7,i:=max a.i 0 % (n:Int),j:=max a.j 0 % (n:Int),v:=cv } :=by funext cv;rw [listA,hK];simp
 have hV:listV n a.k l=V.none:=by rw [listV,hK];simp
 obtain ⟨PP,hPP⟩:∃PP,ListAPost w n a c l=PP:=⟨_,rfl⟩;have HPP:=qh hPP;have HA:=qh hA;have HV:=qh hV;have HCV:=qh hcv;rw [hPP];have i0:=ha.i0;have i1:=ha.i1;have j0:=ha.j0;have j1:=ha.j1;have k0:=ha.k0;clear hPP hA hV hcv hK ha hv;have hI0:0<=max a.i 0 % (n:Int):=Int.emod_nonneg _ (by omega);have hI1:max a.i 0 % (n:Int)<n:=Int.emod_lt_of_pos _ (by omega);have hJ0:0<=max a.j 0 % (n:Int):=Int.emod_nonneg _ (by omega);have hJ1:max a.j 0 % (n:Int)<n:=Int.emod_lt_of_pos _ (by omega);go_enter Tryz.func60,Tryz.ntmps60
 generalize hQ0:bodyPost _ _ _=Q0;have HQ:=qh hQ0;clear hQ0;go_wp2_with fail;have H2:=qh HB.out.r;have H3:=qh HB.out.below;rw [<-HQ.out];generalize hA:({ tmps:=_,defers:=_ } :Act)=A;have h4:A.tmps[6]? =some (.pointer (some ⟨w.heap.size+1+1,0,none⟩)):=by rw [<-hA];rfl
 have h5:A.defers= [] :=by rw [<-hA]
 clear hA;rw [<-HPP.out];refine ⟨h5,_,Jg h4 H2.out, ?_⟩;exact ⟨⟨c.v,by rw [HA.out],by rw [HV.out,HCV.out];exact Zr _ _⟩,H3.out⟩
theorem zox (w:World) (c:CC) (hcv:c.v=vzero) (a:AC) (ha:a.Bnd) (n:Nat) (hn:n<=1466015503701) (l:List Tk) (hv:IsToks w w.heap.size l a.va a.vl a.vc):
 uP 60 #[.agg (uC c), .agg (uA a), .int .i64 n] w (ListAPost w n a c l):=by
 delta uC uA uP;by_cases hn0:0<n
 .have h4:a.k % 4=0∨a.k % 4=1∨a.k % 4=2∨a.k % 4=3:=by omega
  rcases h4 with h|h|h|h
  .exact zo3 w c hcv a ha n hn hn0 h l hv
  .exact zmc w c hcv a ha n hn hn0 h l hv
  .exact zpw w c hcv a ha n hn hn0 h l hv
  .exact zj1 w c hcv a ha n hn hn0 h l hv
 .obtain rfl:n=0:=by omega
  exact zl0 w c hcv a ha l hv
def textA (n:Nat) (a:AC) (c:CC):CC:=
 if 0<n/\a.k % 2=0 then { c with k:=9,i:=max a.i 0 % n,s:= .empty,n:=1+max a.j 0 % ((n:Int) - max a.i 0 % n) }
 else { c with k:=8,i:=max a.i 0 % ((n:Int)+1),s:= { data:= #[120] } ++plainS a.s }
theorem Kq {tmps:Array Value} {W:World} {b:Nat} {d:CC} (ht:tmps[6]? =some (.pointer (some ⟨b,0,none⟩))) (h:BC W b (ccells d)):
 (results Tryz.f59 tmps).run Tryz.prog W= .ok (.agg #[.int .u8 d.k, .slice d.pa d.pl d.pc, .string d.key, .int .i64 d.i, .int .i64 d.j, .int .i64 d.n, .int .u8 d.v.k, .int .i64 d.v.n, .string d.v.s, .slice d.v.la d.v.ll d.v.lc, .slice d.v.oa d.v.ol d.v.oc, .string d.s]) W:=by
 obtain ⟨r0,r1,r2,r3,r4,r5,r6,r7,r8,r9,r10,r11⟩:=row12 h.at_;simp [results,Tryz.results59,go_sem,ht,r0,r1,r2,r3,r4,r5,r6,r7,r8,r9,r10,r11]
theorem zi0 (w:World) (c:CC) (a:AC) (ha:a.Bnd):
 uP 59 #[.agg (uC c), .agg (uA a), .int .i64 0] w fun e w'=>e= .returned (.agg #[.int .u8 (textA 0 a c).k, .slice (textA 0 a c).pa (textA 0 a c).pl (textA 0 a c).pc, .string (textA 0 a c).key, .int .i64 (textA 0 a c).i, .int .i64 (textA 0 a c).j, .int .i64 (textA 0 a c).n, .int .u8 (textA 0 a c).v.k, .int .i64 (textA 0 a c).v.n, .string (textA 0 a c).v.s, .slice (textA 0 a c).v.la (textA 0 a c).v.ll (textA 0 a c).v.lc, .slice (textA 0 a c).v.oa (textA 0 a c).v.ol (textA 0 a c).v.oc, .string (textA 0 a c).s])/\uB w w':=by
 delta uC uA uB uP;have HPL:Hid (∀W,uP 105 #[.string a.s] W fun e w'=>e= .returned (.string (plainS a.s))/\uB W w'):=fun W=>X2 W a.s ha.s1;obtain ⟨ps,hps⟩:∃ps,plainS a.s=ps:=⟨_,rfl⟩;have hpz:ps.size<=40:=by rw [<-hps];exact Xl _
 rw [hps] at HPL;have HB:=qh (AB.start w { c with k:=8,i:=0 } a 54 70 54);obtain ⟨D,hD⟩:∃D,textA 0 a c=D:=⟨_,rfl⟩;rw [hD];have HD:=qh hD;have HPS:=qh hps;have i0:=ha.i0;have i1:=ha.i1;have j0:=ha.j0;have j1:=ha.j1;have k0:=ha.k0;clear hps hD ha;go_enter Tryz.func59,Tryz.ntmps59
 generalize hQ0:bodyPost _ _ _=Q0;have HQ:=qh hQ0;clear hQ0;go_wp2_with fail;refine (HPL.out _).mono ?_;rintro e w1 ⟨rfl,hb1⟩;have B:=HB.out.next hb1 (by simp);obtain ⟨b0,b1,b2,b3,b4,b5,b6,b7,b8,b9,b10,b11,a0,a1,a2,a3,a4,a5,a6,r0,r1,r2,r3,r4,r5,r6,r7,r8,r9,r10,r11,bf0,bf1,bf2,bf3,bf4,bf5,bf6,bf7,bf8,bf9,bf10,bf11,rf0,rf1,rf2,rf3,rf4,rf5,rf6,rf7,rf8,rf9,rf10,rf11,z0,z1,z2⟩:=B.facts;have HBW:=qh B;have hq1:¬(9223372036854775807<1+ps.size):=by omega
 clear B hb1;have h2:=Zp (HBW.out.r.far (o:=11) (x:= .string ({ data:= #[120] } ++ps)) (show w.heap.size+1+1≠w.heap.size by omega)) { c with k:=8,i:=0,s:= { data:= #[120] } ++ps };have h3:=Below.setC (HBW.out.below.set_ (o:=11) (x:= .string ({ data:= #[120] } ++ps)) (zza _)) (show w.heap.size<=w.heap.size+1+1 by omega) { c with k:=8,i:=0,s:= { data:= #[120] } ++ps };dsimp only at h2 h3;have H2:=qh h2;have H3:=qh h3;clear h2 h3;go_wp2_with fail;obtain rfl:D= { c with k:=8,i:=0,s:= { data:= #[120] } ++ps } :=by rw [<-HD.out,textA,if_neg (by omega),HPS.out];simp
 rw [<-HQ.out];generalize hA:({ tmps:=_,defers:=_ } :Act)=A;have h4:A.tmps[6]? =some (.pointer (some ⟨w.heap.size+1+1,0,none⟩)):=by rw [<-hA];rfl
 have h5:A.defers= [] :=by rw [<-hA]
 clear hA;exact ⟨h5,_,Kq h4 H2.out,rfl,H3.out⟩
theorem zhn (w:World) (c:CC) (a:AC) (ha:a.Bnd) (n:Nat) (hn:n<=1000000000000) (hn0:0<n) (hk:¬a.k % 2=0):
 uP 59 #[.agg (uC c), .agg (uA a), .int .i64 n] w fun e w'=>e= .returned (.agg #[.int .u8 (textA n a c).k, .slice (textA n a c).pa (textA n a c).pl (textA n a c).pc, .string (textA n a c).key, .int .i64 (textA n a c).i, .int .i64 (textA n a c).j, .int .i64 (textA n a c).n, .int .u8 (textA n a c).v.k, .int .i64 (textA n a c).v.n, .string (textA n a c).v.s, .slice (textA n a c).v.la (textA n a c).v.ll (textA n a c).v.lc, .slice (textA n a c).v.oa (textA n a c).v.ol (textA n a c).v.oc, .string (textA n a c).s])/\uB w w':=by
 delta uC uA uB uP;have HPL:Hid (∀W,uP 105 #[.string a.s] W fun e w'=>e= .returned (.string (plainS a.s))/\uB W w'):=fun W=>X2 W a.s ha.s1;obtain ⟨ps,hps⟩:∃ps,plainS a.s=ps:=⟨_,rfl⟩;have hpz:ps.size<=40:=by rw [<-hps];exact Xl _
 rw [hps] at HPL;have HB:=qh (AB.start w { c with k:=8,i:=max a.i 0 % ((n:Int)+1) } a 54 70 54);obtain ⟨D,hD⟩:∃D,textA n a c=D:=⟨_,rfl⟩;rw [hD];have HD:=qh hD;have HPS:=qh hps;have i0:=ha.i0;have i1:=ha.i1;have j0:=ha.j0;have j1:=ha.j1;have k0:=ha.k0;clear hps hD ha;go_enter Tryz.func59,Tryz.ntmps59
 generalize hQ0:bodyPost _ _ _=Q0;have HQ:=qh hQ0;clear hQ0;go_wp2_with fail;refine (HPL.out _).mono ?_;rintro e w1 ⟨rfl,hb1⟩;have B:=HB.out.next hb1 (by simp);obtain ⟨b0,b1,b2,b3,b4,b5,b6,b7,b8,b9,b10,b11,a0,a1,a2,a3,a4,a5,a6,r0,r1,r2,r3,r4,r5,r6,r7,r8,r9,r10,r11,bf0,bf1,bf2,bf3,bf4,bf5,bf6,bf7,bf8,bf9,bf10,bf11,rf0,rf1,rf2,rf3,rf4,rf5,rf6,rf7,rf8,rf9,rf10,rf11,z0,z1,z2⟩:=B.facts;have HBW:=qh B;have hq1:¬(9223372036854775807<1+ps.size):=by omega
 clear B hb1;have h2:=Zp (HBW.out.r.far (o:=11) (x:= .string ({ data:= #[120] } ++ps)) (show w.heap.size+1+1≠w.heap.size by omega)) { c with k:=8,i:=max a.i 0 % ((n:Int)+1),s:= { data:= #[120] } ++ps };have h3:=Below.setC (HBW.out.below.set_ (o:=11) (x:= .string ({ data:= #[120] } ++ps)) (zza _)) (show w.heap.size<=w.heap.size+1+1 by omega) { c with k:=8,i:=max a.i 0 % ((n:Int)+1),s:= { data:= #[120] } ++ps };dsimp only at h2 h3;have H2:=qh h2;have H3:=qh h3;clear h2 h3;go_wp2_with fail;obtain rfl:D= { c with k:=8,i:=max a.i 0 % ((n:Int)+1),s:= { data:= #[120] } ++ps } :=by rw [<-HD.out,textA,if_neg (by omega),HPS.out]
 rw [<-HQ.out];generalize hA:({ tmps:=_,defers:=_ } :Act)=A;have h4:A.tmps[6]? =some (.pointer (some ⟨w.heap.size+1+1,0,none⟩)):=by rw [<-hA];rfl
 have h5:A.defers= [] :=by rw [<-hA]
 clear hA;exact ⟨h5,_,Kq h4 H2.out,rfl,H3.out⟩
theorem zqf (w:World) (c:CC) (a:AC) (ha:a.Bnd) (n:Nat) (hn:n<=1000000000000) (hn0:0<n) (hk:a.k % 2=0):
 uP 59 #[.agg (uC c), .agg (uA a), .int .i64 n] w fun e w'=>e= .returned (.agg #[.int .u8 (textA n a c).k, .slice (textA n a c).pa (textA n a c).pl (textA n a c).pc, .string (textA n a c).key, .int .i64 (textA n a c).i, .int .i64 (textA n a c).j, .int .i64 (textA n a c).n, .int .u8 (textA n a c).v.k, .int .i64 (textA n a c).v.n, .string (textA n a c).v.s, .slice (textA n a c).v.la (textA n a c).v.ll (textA n a c).v.lc, .slice (textA n a c).v.oa (textA n a c).v.ol (textA n a c).v.oc, .string (textA n a c).s])/\uB w w':=by
 delta uC uA uB uP;have HPL:Hid (∀W,uP 105 #[.string a.s] W fun e w'=>e= .returned (.string (plainS a.s))/\uB W w'):=fun W=>X2 W a.s ha.s1;obtain ⟨ps,hps⟩:∃ps,plainS a.s=ps:=⟨_,rfl⟩;have hpz:ps.size<=40:=by rw [<-hps];exact Xl _
 rw [hps] at HPL;have HB:=qh (AB.start w { c with k:=8,i:=max a.i 0 % ((n:Int)+1) } a 54 70 54);obtain ⟨D,hD⟩:∃D,textA n a c=D:=⟨_,rfl⟩;rw [hD];have HD:=qh hD;have HPS:=qh hps;have i0:=ha.i0;have i1:=ha.i1;have j0:=ha.j0;have j1:=ha.j1;have k0:=ha.k0;clear hps hD ha;go_enter Tryz.func59,Tryz.ntmps59
 generalize hQ0:bodyPost _ _ _=Q0;have HQ:=qh hQ0;clear hQ0;go_wp2_with fail;refine (HPL.out _).mono ?_;rintro e w1 ⟨rfl,hb1⟩;have B:=HB.out.next hb1 (by simp);obtain ⟨b0,b1,b2,b3,b4,b5,b6,b7,b8,b9,b10,b11,a0,a1,a2,a3,a4,a5,a6,r0,r1,r2,r3,r4,r5,r6,r7,r8,r9,r10,r11,bf0,bf1,bf2,bf3,bf4,bf5,bf6,bf7,bf8,bf9,bf10,bf11,rf0,rf1,rf2,rf3,rf4,rf5,rf6,rf7,rf8,rf9,rf10,rf11,z0,z1,z2⟩:=B.facts;have HBW:=qh B;have hq1:¬(9223372036854775807<1+ps.size):=by omega
 clear B hb1;have hI0:0<=max a.i 0 % (n:Int):=Int.emod_nonneg _ (by omega);have hI1:max a.i 0 % (n:Int)<n:=Int.emod_lt_of_pos _ (by omega);have hJ0:0<=max a.j 0 % ((n:Int) - max a.i 0 % n):=Int.emod_nonneg _ (by omega);have hJ1:max a.j 0 % ((n:Int) - max a.i 0 % n)<(n:Int) - max a.i 0 % n:=Int.emod_lt_of_pos _ (by omega);have h2:=Zp (((((HBW.out.r.far (o:=11) (x:= .string ({ data:= #[120] } ++ps)) (show w.heap.size+1+1≠w.heap.size by omega)).far (o:=0) (x:= .int .u8 9) (show w.heap.size+1+1≠w.heap.size by omega)).far (o:=11) (x:= .string { data:= #[] }) (show w.heap.size+1+1≠w.heap.size by omega)).far (o:=3) (x:= .int .i64 (max a.i 0 % n)) (show w.heap.size+1+1≠w.heap.size by omega)).far (o:=5) (x:= .int .i64 (1+max a.j 0 % ((n:Int) - max a.i 0 % n))) (show w.heap.size+1+1≠w.heap.size by omega)) { c with k:=9,i:=max a.i 0 % n,s:= { data:= #[] },n:=1+max a.j 0 % ((n:Int) - max a.i 0 % n) };have h3:=Below.setC (((((HBW.out.below.set_ (o:=11) (x:= .string ({ data:= #[120] } ++ps)) (zza _)).set_ (o:=0) (x:= .int .u8 9) (zza _)).set_ (o:=11) (x:= .string { data:= #[] }) (zza _)).set_ (o:=3) (x:= .int .i64 (max a.i 0 % n)) (zza _)).set_ (o:=5) (x:= .int .i64 (1+max a.j 0 % ((n:Int) - max a.i 0 % n))) (zza _)) (show w.heap.size<=w.heap.size+1+1 by omega) { c with k:=9,i:=max a.i 0 % n,s:= { data:= #[] },n:=1+max a.j 0 % ((n:Int) - max a.i 0 % n) };dsimp only at h2 h3;have H2:=qh h2;have H3:=qh h3;clear h2 h3;go_wp2_with fail;obtain rfl:D= { c with k:=9,i:=max a.i 0 % n,s:= .empty,n:=1+max a.j 0 % ((n:Int) - max a.i 0 % n) } :=by rw [<-HD.out,textA,if_pos ⟨hn0,hk⟩]
 rw [<-HQ.out];generalize hA:({ tmps:=_,defers:=_ } :Act)=A;have h4:A.tmps[6]? =some (.pointer (some ⟨w.heap.size+1+1,0,none⟩)):=by rw [<-hA];rfl
 have h5:A.defers= [] :=by rw [<-hA]
 clear hA;exact ⟨h5,_,Kq h4 H2.out,rfl,H3.out⟩
theorem zf3 (w:World) (c:CC) (a:AC) (ha:a.Bnd) (n:Nat) (hn:n<=1000000000000):
 uP 59 #[.agg (uC c), .agg (uA a), .int .i64 n] w fun e w'=>e= .returned (.agg #[.int .u8 (textA n a c).k, .slice (textA n a c).pa (textA n a c).pl (textA n a c).pc, .string (textA n a c).key, .int .i64 (textA n a c).i, .int .i64 (textA n a c).j, .int .i64 (textA n a c).n, .int .u8 (textA n a c).v.k, .int .i64 (textA n a c).v.n, .string (textA n a c).v.s, .slice (textA n a c).v.la (textA n a c).v.ll (textA n a c).v.lc, .slice (textA n a c).v.oa (textA n a c).v.ol (textA n a c).v.oc, .string (textA n a c).s])/\uB w w':=by
 delta uC uA uB uP;by_cases hn0:0<n
 .by_cases hk:a.k % 2=0
  .exact zqf w c a ha n hn hn0 hk
  .exact zhn w c a ha n hn hn0 hk
 .obtain rfl:n=0:=by omega
  exact zi0 w c a ha
theorem zoj {x:V} {c:Cm} {K:Nat} (hs:cmSound c=true) (hk:kindsP x c.k c.i c.j c.n c.key=0) (hK:c.key.size<=K∨∃f ∈ x.os,f.1=c.key):(doneP x c).weight<=x.weight+c.v.weight+K+c.s.size:=by
 have hr:=Qv hs;obtain ⟨k,n,t,l,o,rfl⟩:=x.eta;unfold doneP;unfold kindsP at hk;by_cases e1:c.k=1
 .rw [if_pos e1];simp only [V.weight,V.str,V.ls,V.os];omega
 .rw [if_neg e1];rw [if_neg e1] at hk;by_cases e2:c.k=2∨c.k=3
  .rw [if_pos e2];have:=znw o c.key c.v (c.k==3) K hK;simp only [V.weight,V.str,V.ls,V.os];omega
  .rw [if_neg e2];rw [if_neg e2] at hk;by_cases e3:c.k=8∨c.k=9
   .rw [if_pos e3];rw [if_pos e3] at hk;have ht:tCheck t c.k c.i c.n=0:=by
     split at hk
     .omega
     .exact hk
    have:=zk6 (cs:=c.s) ht;simp only [V.weight,V.str,V.ls,V.os];omega
   .rw [if_neg e3];rw [if_neg e3] at hk;have hl:lCheck l.length c.k c.i c.j=0:=by
     split at hk
     .omega
     .exact hk
    obtain ⟨h1,h2,h3,h4,h5,h6⟩:=Yj hl;have:=znt l c.k c.i c.j c.v (fun h=>by have:=h5 h.1;omega);simp only [V.weight,V.str,V.ls,V.os];omega
theorem zhe {v:V} {c:Cm} {K:Nat} (h:(doP v c).2=0) (hK:c.key.size<=K∨∀x,getP v c.path=some x->∃f ∈ x.os,f.1=c.key):(doP v c).1.weight<=v.weight+c.v.weight+K+c.s.size:=by
 by_cases he:checkP v c=0
 .obtain ⟨hs,x,hg,hk⟩:=Zw he;obtain ⟨z,hz⟩:=Ya c.path hg (doneP x c);rw [Yh he hg,hz,Ys];have h1:=zgi c.path hg hz;have h2:=zoj hs hk (hK.imp id fun h=>h x hg);dsimp only;omega
 .rw [doP,if_neg he] at h;exact absurd h he
def xAt (v:V) (p:List St):V:=(getP v p).getD V.none
def trimN (v:V) (p:List St):Nat->Nat
 |0=>0
 |n+1=>if (xAt v (p.take (n+1))).kd<2 then trimN v p n else n+1
def wayP (v:V) (bs:List UInt8):List St:=(walkP v (bs.take 8)).take 5
def aimPath (v:V) (bs:List UInt8):List St:=(wayP v bs).take (trimN v (wayP v bs) (wayP v bs).length)
noncomputable def fieldKey (o:List (ByteArray×V)) (a:AC):ByteArray:=if 0<o.length/\0<a.k % 3 then (o.getD (max a.i 0 % o.length).toNat (.empty,V.none)).1 else plainS a.s
noncomputable def fieldB (o:List (ByteArray×V)) (a:AC):Bool:=fieldIs o (fieldKey o a) && decide (a.k % 2=0)
noncomputable def fieldA (o:List (ByteArray×V)) (a:AC) (c:CC) (cv:VC):CC:= { c with k:=if fieldB o a=true then 3 else 2,key:=fieldKey o a,v:=cv }
noncomputable def fieldV (o:List (ByteArray×V)) (a:AC) (l:List Tk):V:=if fieldB o a=true then V.none else (oneP 6 (l.take 60)).1
def Ac.bare (a:Ac):AC:=⟨none,0,0,a.k,a.i,a.j,a.n,a.s,none,0,0⟩
def cmOf (p:List St) (v:V) (d:CC):Cm:=⟨d.k,p,d.key,d.i,d.j,d.n,v,d.s⟩
noncomputable def oneX (x:V) (p:List St) (a:Ac):Option Cm:=
 if x.kd=2 then some ⟨1,p, .empty,0,0,a.n,V.none, .empty⟩
 else if x.kd=3 then some (cmOf p V.none (textA x.str.size a.bare czero))
 else if x.kd=4 then some (cmOf p (listV x.ls.length a.k a.v) (listA x.ls.length a.bare czero vzero))
 else if x.kd=5 then some (cmOf p (fieldV x.os a.bare a.v) (fieldA x.os a.bare czero vzero))
 else none
noncomputable def oneC (v:V) (a:Ac):Option Cm:=oneX (xAt v (aimPath v a.path)) (aimPath v a.path) a
noncomputable def aimP:V->List Ac->List Cm
 |_, [] => []
 | v,a::r=>match oneC v a with
   |none=>aimP v r
   |some c=>if (doP v c).2=0 then c::aimP (doP v c).1 r else aimP v r
theorem Kd:V.none.weight=1:=by simp [V.none,V.weight,weightL,weightO]
structure Small (v:V) (c:Cm):Prop where
 sv:c.v.weight<=20000
 ss:c.s.size<=41
 sp:c.path.length<=5
 sk:c.key.size<=40∨∀x,getP v c.path=some x->∃f ∈ x.os,f.1=c.key
theorem Jh {v:V} {a:Ac} {c:Cm} (h:oneC v a=some c):Small v c:=by
 have hpl:(aimPath v a.path).length<=5:=by unfold aimPath wayP;rw [zzd,zzd];omega
 unfold oneC at h;obtain ⟨p,hp⟩:∃p,aimPath v a.path=p:=⟨_,rfl⟩;rw [hp] at h hpl;have hps:=Xl a.s;have hb:=(za8 a.v).2.1;have hn:=Kd;unfold oneX at h;split at h
 .injection h with h;subst h;exact ⟨by dsimp only;omega,Nat.zero_le _,hpl, .inl (Nat.zero_le _)⟩
 .split at h
  .injection h with h;subst h;unfold textA;split
   .exact ⟨by show V.none.weight<=_;omega,Nat.zero_le _,hpl, .inl (Nat.zero_le _)⟩
   .refine ⟨by show V.none.weight<=_;omega, ?_,hpl, .inl (Nat.zero_le _)⟩;show ({ data:= #[120] } ++plainS a.s:ByteArray).size<=41;rw [ByteArray.size_append];have:({ data:= #[120] } :ByteArray).size=1:=rfl;omega
  .split at h
   .injection h with h;subst h;refine ⟨?_,Nat.zero_le _,hpl, .inl (Nat.zero_le _)⟩;show (listV _ _ _).weight<=_;unfold listV;split<;>omega
   .split at h
    .injection h with h;subst h;refine ⟨?_,Nat.zero_le _,hpl, ?_⟩
     .show (fieldV _ _ _).weight<=_;unfold fieldV;split<;>omega
     .show (fieldKey _ _).size<=40∨∀x,getP v p=some x->∃f ∈ x.os,f.1=fieldKey _ _;unfold fieldKey;split
      .rename_i hc;right;intro x hx;have hxx:xAt v p=x:=by rw [xAt,hx];rfl
       rw [hxx] at hc ⊢;have hlt:(max a.bare.i 0 % (x.os.length:Int)).toNat<x.os.length:=by have h1:=Int.emod_nonneg (max a.bare.i 0) (show (x.os.length:Int)≠0 by omega);have h2:=Int.emod_lt_of_pos (max a.bare.i 0) (show (0:Int)<x.os.length by omega);omega
       refine ⟨x.os[(max a.bare.i 0 % (x.os.length:Int)).toNat]'hlt,List.getElem_mem _, ?_⟩;simp only [zzb,zzg hlt,Option.getD_some]
      .left;exact hps
    .cases h
theorem zb2 {v:V} {a:Ac} {c:Cm} (h:oneC v a=some c) (hd:(doP v c).2=0):(doP v c).1.weight<=v.weight+20100:=by have hs:=Jh h;have h1:=hs.sv;have h2:=hs.ss;have:=zhe hd hs.sk;omega
theorem zfp (l:List Ac):∀v,(aimP v l).length<=l.length:=by
 induction l with
 |nil=>intro v;simp [aimP]
 | cons a r ih=>
   intro v;unfold aimP;split
   .have:=ih v;rw [List.length_cons];omega
   .rename_i c _;split
    .have:=ih (doP v c).1;simp only [List.length_cons];omega
    .have:=ih v;rw [List.length_cons];omega
theorem zkd (w:World) (vk vn:Int) (vs:ByteArray) (la:Option Addr) (ll lc:Nat) (oa:Option Addr) (ol oc:Nat) (v:V) (hv:IsVal w w.heap.size v ⟨vk,vn,vs,la,ll,lc,oa,ol,oc⟩) (hw:v.weight<=100000000) (p:List St) (xv:V) (cc:CC) (hcb:cc.Bnd) (hp:IsSteps w w.heap.size p cc.pa cc.pl cc.pc) (hxv:IsVal w w.heap.size xv cc.v) (hxw:xv.weight<=4611686018427387904) (hcs:∀y,getP v p=some y->y.str.size+y.str.size+cc.s.size<=140737488355328) (hT:Tabs w) (he:checkP v ⟨cc.k,p,cc.key,cc.i,cc.j,cc.n,xv,cc.s⟩=0) (hk:cc.k=8∨cc.k=9):
 uP 33 #[.agg #[.int .u8 vk, .int .i64 vn, .string vs, .slice la ll lc, .slice oa ol oc], .agg #[.int .u8 cc.k, .slice cc.pa cc.pl cc.pc, .string cc.key, .int .i64 cc.i, .int .i64 cc.j, .int .i64 cc.n, .int .u8 cc.v.k, .int .i64 cc.v.n, .string cc.v.s, .slice cc.v.la cc.v.ll cc.v.lc, .slice cc.v.oa cc.v.ol cc.v.oc, .string cc.s]] w (DoPost w (doP v ⟨cc.k,p,cc.key,cc.i,cc.j,cc.n,xv,cc.s⟩)):=by
 delta uP;obtain ⟨_,x,hg,hkd⟩:=Zw he;dsimp only at hg hkd;have hxw2:=Z0 p hg;have hcx:=hcs x hg;have HCK:Hid (∀W,uB w W->uP 62 #[.agg #[.int .u8 vk, .int .i64 vn, .string vs, .slice la ll lc, .slice oa ol oc], .agg #[.int .u8 cc.k, .slice cc.pa cc.pl cc.pc, .string cc.key, .int .i64 cc.i, .int .i64 cc.j, .int .i64 cc.n, .int .u8 cc.v.k, .int .i64 cc.v.n, .string cc.v.s, .slice cc.v.la cc.v.ll cc.v.lc, .slice cc.v.oa cc.v.ol cc.v.oc, .string cc.s]] W fun e w'=>e= .returned (.int .i64 0)/\uB W w'):=fun W hW=>by have:=Qs W vk vn vs la ll lc oa ol oc v (hv.later_ hW) (by omega) p xv cc hcb (hp.later_ hW) (hxv.later_ hW) (by omega) (hT.below hW);rw [he] at this;exact this
 have HGT:Hid (∀W,uB w W->uP 58 #[.agg #[.int .u8 vk, .int .i64 vn, .string vs, .slice la ll lc, .slice oa ol oc], .slice cc.pa cc.pl cc.pc] W (GetPost W (some x))):=fun W hW=>by rw [<-hg];exact X8 W vk vn vs la ll lc oa ol oc v (hv.later_ hW) p cc.pa cc.pl cc.pc (hp.later_ hW)
 have HPT:Hid (∀(W:World) (y:V) (k n:Int) (s:ByteArray) (a:Option Addr) (m c:Nat) (a':Option Addr) (m' c':Nat),uB w W->IsVal W W.heap.size y ⟨k,n,s,a,m,c,a',m',c'⟩->uP 66 #[.agg #[.int .u8 vk, .int .i64 vn, .string vs, .slice la ll lc, .slice oa ol oc], .slice cc.pa cc.pl cc.pc, .agg #[.int .u8 k, .int .i64 n, .string s, .slice a m c, .slice a' m' c']] W (GetPost W (putP v p y))):=fun W y k n s a m c a' m' c' hW hy=>J4 y k n s a m c a' m' c' p W vk vn vs la ll lc oa ol oc v (hv.later_ hW) cc.pa cc.pl cc.pc (hp.later_ hW) hy;have hdo:doP v ⟨cc.k,p,cc.key,cc.i,cc.j,cc.n,xv,cc.s⟩=doneQ (putP v p (doneP x ⟨cc.k,p,cc.key,cc.i,cc.j,cc.n,xv,cc.s⟩)):=Yh he hg;rw [hdo];have HB:=qh (DB.start w ⟨vk,vn,vs,la,ll,lc,oa,ol,oc⟩ cc 29 54 29);have HTT:=qh hT;have HXV:=qh hxv;have HCB:=qh hcb;have HKD:=qh hkd;have hsw:=x.str_weight;obtain ⟨kx,nx,sx,lx,ox,rfl⟩:=x.eta;dsimp only [V.str,V.ls,V.os] at hsw;dsimp only [V.str] at hcx;obtain ⟨Y,hY⟩:∃Y,doneP (.mk kx nx sx lx ox) ⟨cc.k,p,cc.key,cc.i,cc.j,cc.n,xv,cc.s⟩=Y:=⟨_,rfl⟩;rw [hY];obtain ⟨z,hPR⟩:=Ya p hg Y;rw [hPR,Ys];have HY:=qh hY;have HPR:=qh hPR;clear hv hp hxv hT hcb hdo hY hPR he hg hkd;rcases hk with hk|hk;all_goals
  have HK:=qh hk;clear hk;go_enter Tryz.func33,Tryz.ntmps33
  generalize hQ0:bodyPost _ _ _=Q0;have HQ:=qh hQ0;clear hQ0;go_wp2_with fail;refine (HCK.out _ HB.out.below).mono ?_;rintro e W ⟨rfl,hb1⟩;have B:=HB.out.next hb1 (by simp);obtain ⟨v0,v1,v2,v3,v4⟩:=row5 B.v.at_;obtain ⟨b0,b1,b2,b3,b4,b5,b6,b7,b8,b9,b10,b11⟩:=row12 B.c.at_;obtain ⟨r0,r1,r2,r3,r4⟩:=row5 B.r.at_;have f0:=B.r.fr 0;have f1:=B.r.fr 1;have f2:=B.r.fr 2;have f3:=B.r.fr 3;have f4:=B.r.fr 4;have z0:=B.v.lt;have z1:=B.c.lt;have z2:=B.r.lt;have HBW:=qh B;clear B hb1;go_wp2_with fail;refine (HGT.out _ HBW.out.below).mono ?_;rintro e W2 ⟨⟨d,rfl,hI⟩,hb2⟩;have B2:=HBW.out.next hb2 (Nat.succ_le_of_lt z2);obtain ⟨e1,e2,e3,hbd,hl,ho⟩:=hI.lists;subst e1 e2 e3;clear v0 v1 v2 v3 v4 r0 r1 r2 r3 r4 f0 f1 f2 f3 f4 b0 b1 b2 b3 b4 b5 b6 b7 b8 b9 b10 b11;obtain ⟨v0,v1,v2,v3,v4⟩:=row5 B2.v.at_;obtain ⟨b0,b1,b2,b3,b4,b5,b6,b7,b8,b9,b10,b11⟩:=row12 B2.c.at_;obtain ⟨r0,r1,r2,r3,r4⟩:=row5 B2.r.at_;have f0:=B2.r.fr 0;have f1:=B2.r.fr 1;have f2:=B2.r.fr 2;have f3:=B2.r.fr 3;have f4:=B2.r.fr 4;have z0:=B2.v.lt;have z1:=B2.c.lt;have z2:=B2.r.lt;have zW:=HBW.out.below.size;have zW2:=hb2.size;have z22:=B2.r.lt;have HB2:=qh B2;have HI:=qh hI;have HBD:=qh hbd;have HL:=qh hl;have HO:=qh ho;have HAL:=qh (((zzc _ _).alloc (zza _) (.cells #[.int .u8 d.k, .int .i64 d.n, .string d.s, .slice d.la d.ll d.lc, .slice d.oa d.ol d.oc] 29)):uB W2 _);clear B2 hI hbd hl ho hb2;rw [HK.out] at b0;have hts:d.s.size<=1000000000000:=by have:=hsw.1;omega
  have htc:tCheck d.s cc.k cc.i cc.n=0:=by
   have hk:=HKD.out;rw [kindsP,if_neg (by have:=HK.out;omega),if_neg (by have:=HK.out;omega),if_pos (by have:=HK.out;omega)] at hk;split at hk
   .omega
   .exact hk
  obtain ⟨TD,hTD⟩:∃TD,textDo d.s cc.k cc.i cc.n cc.s=TD:=⟨_,rfl⟩;have htz:TD.size<=140737488355328:=by rw [<-hTD];have:=zbt d.s cc.k cc.i cc.n cc.s;omega
  have HFL:Hid (uP 64 #[.string d.s, .agg #[.int .u8 cc.k, .slice cc.pa cc.pl cc.pc, .string cc.key, .int .i64 cc.i, .int .i64 cc.j, .int .i64 cc.n, .int .u8 cc.v.k, .int .i64 cc.v.n, .string cc.v.s, .slice cc.v.la cc.v.ll cc.v.lc, .slice cc.v.oa cc.v.ol cc.v.oc, .string cc.s]] (W2.alloc (.cells #[.int .u8 d.k, .int .i64 d.n, .string d.s, .slice d.la d.ll d.lc, .slice d.oa d.ol d.oc] 29)) fun e w'=>e= .returned (.tuple #[.string TD, .int .i64 0])/\uB (W2.alloc (.cells #[.int .u8 d.k, .int .i64 d.n, .string d.s, .slice d.la d.ll d.lc, .slice d.oa d.ol d.oc] 29)) w'):=by have hb3:=HB2.out.below.trans (HAL.out.mono HB2.out.below.size);rw [<-hTD];exact zhz (W2.alloc (.cells #[.int .u8 d.k, .int .i64 d.n, .string d.s, .slice d.la d.ll d.lc, .slice d.oa d.ol d.oc] 29)) d.s cc HCB.out hts (HTT.out.below hb3) htc
  have HTD:=qh hTD;clear hTD htc;rw [HK.out] at HFL;go_wp2_with fail;refine HFL.out.mono ?_;rintro e w4 ⟨rfl,hb4⟩;have hbw4:uB W2 w4:=HAL.out.trans (hb4.mono (by simp));have B4:=HB2.out.next hbw4 (Nat.succ_le_of_lt z2);have X4:BC w4 W2.heap.size (vcells d):=(BC.start W2 #[.int .u8 d.k, .int .i64 d.n, .string d.s, .slice d.la d.ll d.lc, .slice d.oa d.ol d.oc] 29).keep hb4 (by simp);obtain ⟨x0,x1,x2,x3,x4⟩:=row5 X4.at_;have xf0:=X4.fr 2;have xf1:=X4.fr 3;have xf2:=X4.fr 4;have xlt:=X4.lt;clear v0 v1 v2 v3 v4 r0 r1 r2 r3 r4 f0 f1 f2 f3 f4 b0 b1 b2 b3 b4 b5 b6 b7 b8 b9 b10 b11;obtain ⟨v0,v1,v2,v3,v4⟩:=row5 B4.v.at_;obtain ⟨b0,b1,b2,b3,b4,b5,b6,b7,b8,b9,b10,b11⟩:=row12 B4.c.at_;obtain ⟨r0,r1,r2,r3,r4⟩:=row5 B4.r.at_;have f0:=B4.r.fr 0;have f1:=B4.r.fr 1;have f2:=B4.r.fr 2;have f3:=B4.r.fr 3;have f4:=B4.r.fr 4;have z0:=B4.v.lt;have z1:=B4.c.lt;have z2:=B4.r.lt;have HBW4:=qh hbw4;clear B4 X4 hb4 hbw4;go_wp2_with fail;have hbl4:uB W2 (w4.setCell ⟨W2.heap.size,2,none⟩ (.string TD)):=HBW4.out.set_ (zza _);have hx4:=(HI.out.sub (Zl _ _ _)).later_ hbl4;obtain ⟨_,_,_,_,hl4,ho4⟩:=hx4.lists;have HB4:=qh (HB2.out.next hbl4 (Nat.succ_le_of_lt z22));have HCALL:Hid (uP 66 #[.agg #[.int .u8 vk, .int .i64 vn, .string vs, .slice la ll lc, .slice oa ol oc], .slice cc.pa cc.pl cc.pc, .agg #[.int .u8 d.k, .int .i64 d.n, .string TD, .slice d.la d.ll d.lc, .slice d.oa d.ol d.oc]] (w4.setCell ⟨W2.heap.size,2,none⟩ (.string TD)) (GetPost (w4.setCell ⟨W2.heap.size,2,none⟩ (.string TD)) (some z))):=by
   have:=HPT.out (w4.setCell ⟨W2.heap.size,2,none⟩ (.string TD)) Y d.k d.n TD d.la d.ll d.lc d.oa d.ol d.oc HB4.out.below (by
    have hYe:Y= .mk d.k d.n TD lx ox:=by rw [<-HY.out,doneP,if_neg (by have:=HK.out;dsimp only;omega),if_neg (by have:=HK.out;dsimp only;omega),if_pos (by have:=HK.out;dsimp only;omega), <-HTD.out];rfl
    rw [hYe];exact Y9 HBD.out.k0 HBD.out.k1 HBD.out.n0 HBD.out.n1 htz hl4 ho4)
   rw [HPR.out] at this;exact this
  clear hx4 hl4 ho4;refine HCALL.out.mono ?_;rintro e W6 ⟨⟨d6,rfl,hz⟩,hb6⟩;have B6:=HB4.out.next hb6 (Nat.succ_le_of_lt HB4.out.r.lt);clear v0 v1 v2 v3 v4 r0 r1 r2 r3 r4 f0 f1 f2 f3 f4 b0 b1 b2 b3 b4 b5 b6 b7 b8 b9 b10 b11;obtain ⟨v0,v1,v2,v3,v4⟩:=row5 B6.v.at_;obtain ⟨b0,b1,b2,b3,b4,b5,b6,b7,b8,b9,b10,b11⟩:=row12 B6.c.at_;obtain ⟨r0,r1,r2,r3,r4⟩:=row5 B6.r.at_;have f0:=B6.r.fr 0;have f1:=B6.r.fr 1;have f2:=B6.r.fr 2;have f3:=B6.r.fr 3;have f4:=B6.r.fr 4;have z0:=B6.v.lt;have z1:=B6.c.lt;have z2:=B6.r.lt;have HB6:=qh B6;have hz4:=HB4.out.below.size;have hz5:=HB4.out.r.lt;have HZ:=qh hz;clear B6 hb6 hz;go_wp2_with fail;rw [<-HQ.out];have ST:=HB6.out.result d6;have hst:=Zh W6 (w.heap.size+1+1) 0 d6;exact Q1 (r:=(z,0)) ST.1 ((Zm (base:=w.heap.size+1+1+1) (HZ.out.sub (Zc fun k hk _=>⟨zzl (Nat.succ_le_of_lt hz5) hk,rfl⟩)) hst (by omega)).sub (Zc fun k hk _=>⟨by omega,rfl⟩)) ST.2 rfl rfl rfl
end Go.Proofs.YtbgheehjfnoiiaaGreatDoor
