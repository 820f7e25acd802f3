/-
  Contracts of the functions that the law reaches: conciliatorlaw06.field: what is done to.
-/
import Derived.Test.YtbgheehjfnoiiaaGreatDoorOn30
namespace Go.Proofs.YtbgheehjfnoiiaaGreatDoor
open Go.RowKit
set_option maxHeartbeats 16000000
theorem Xy {tmps:Array Value} {W:World} {b:Nat} {d:CC} (ht:tmps[6]? =some (.pointer (some ⟨b,0,none⟩))) (h:BC W b (ccells d)):
 (results Tryz.f61 tmps).run Tryz.prog W= .ok (.agg #[.int .u8 d.k, .slice d.pa d.pl d.pc, .string d.key, .int .i64 d.i, .int .i64 d.j, .int .i64 d.n, .int .u8 d.v.k, .int .i64 d.v.n, .string d.v.s, .slice d.v.la d.v.ll d.v.lc, .slice d.v.oa d.v.ol d.v.oc, .string d.s]) W:=by
 obtain ⟨r0,r1,r2,r3,r4,r5,r6,r7,r8,r9,r10,r11⟩:=row12 h.at_
 simp [results,Tryz.results61,go_sem,ht,r0,r1,r2,r3,r4,r5,r6,r7,r8,r9,r10,r11]
def FieldAPost (w:World) (o:List (ByteArray×V)) (a:AC) (c:CC) (l:List Tk) (e:Ending) (w':World):Prop:=
 (∃cv:VC,e= .returned (.agg #[.int .u8 (fieldA o a c cv).k, .slice (fieldA o a c cv).pa (fieldA o a c cv).pl (fieldA o a c cv).pc, .string (fieldA o a c cv).key, .int .i64 (fieldA o a c cv).i, .int .i64 (fieldA o a c cv).j, .int .i64 (fieldA o a c cv).n, .int .u8 (fieldA o a c cv).v.k, .int .i64 (fieldA o a c cv).v.n, .string (fieldA o a c cv).v.s, .slice (fieldA o a c cv).v.la (fieldA o a c cv).v.ll (fieldA o a c cv).v.lc, .slice (fieldA o a c cv).v.oa (fieldA o a c cv).v.ol (fieldA o a c cv).v.oc, .string (fieldA o a c cv).s])/\IsVal (only (fun b=>w.heap.size<=b) w') w'.heap.size (fieldV o a l) cv)/\Below w.heap.size w w'
set_option maxRecDepth 100000 in
theorem zki (w:World) (c:CC) (hcv:c.v=vzero) (a:AC) (ha:a.Bnd) (x:VC) (o:List (ByteArray×V)) (hx:IsFields w w.heap.size o x.oa x.ol x.oc) (l:List Tk) (hv:IsToks w w.heap.size l a.va a.vl a.vc) (hp:¬(0<x.ol/\0<a.k % 3)) (hB:fieldB o a=true):
 uP 61 #[.agg (uC c), .agg (uA a), .agg (uV x)] w (FieldAPost w o a c l):=by
 delta uV uC uA uP
 have HBD:Hid (∀W,uB w W->uP 12 #[.slice a.va a.vl a.vc] W fun e w'=>(∃cv:VC,e= .returned (.agg #[.int .u8 cv.k, .int .i64 cv.n, .string cv.s, .slice cv.la cv.ll cv.lc, .slice cv.oa cv.ol cv.oc])/\IsVal (only (fun b=>W.heap.size<=b) w') w'.heap.size (oneP 6 (l.take 60)).1 cv)/\uB W w'):=fun W hW=>Ys W l _ _ _ (hv.later_ hW)
 have HPL:Hid (∀W,uP 105 #[.string a.s] W fun e w'=>e= .returned (.string (plainS a.s))/\uB W w'):=fun W=>Xi W a.s ha.s1
 obtain ⟨ps,hps⟩:∃ps,plainS a.s=ps:=⟨_,rfl⟩
 rw [hps] at HPL
 obtain ⟨key,hkey⟩:∃key,fieldKey o a=key:=⟨_,rfl⟩
 have HFI:Hid (∀W,uB w W->uP 103 #[.agg (uV x), .string key] W fun e w'=>e= .returned (.tuple #[.int .i64 (fieldK o key:Int), .bool (fieldIs o key)])/\uB W w'):=fun W hW=>Yj W o key _ _ _ _ _ _ _ _ _ (hx.later_ hW)
 obtain ⟨fk,hfk⟩:∃fk,fieldK o key=fk:=⟨_,rfl⟩
 obtain ⟨ib,hib⟩:∃ib,fieldIs o key=ib:=⟨_,rfl⟩
 rw [hfk,hib] at HFI
 have hA:fieldA o a c=fun cv=> { c with k:=3,key:=key,v:=cv } :=by funext cv;rw [fieldA,hB,hkey];simp
 have hV:fieldV o a l=V.none:=by rw [fieldV,hB];simp
 have hB2:ib=true/\a.k % 2=0:=by
  rw [fieldB,hkey,hib] at hB
  simpa using hB
 have HA:=qh hA;have HV:=qh hV;have HCV:=qh hcv
 obtain ⟨PP,hPP⟩:∃PP,FieldAPost w o a c l=PP:=⟨_,rfl⟩
 have HPP:=qh hPP
 rw [hPP]
 have HB:=qh (FXB.start w { c with k:=2 } a x 54 70 29 54)
 have hmx:=hx.max;have hfw:=hx.few;have hcp:=hx.cap
 have HLEN:=qh hx.len
 have i0:=ha.i0;have i1:=ha.i1;have k0:=ha.k0
 have HX:=qh hx
 have hks:key=ps:=by rw [<-hkey,fieldKey, <-HLEN.out,if_neg hp,hps]
 subst hks
 clear hps hkey
 clear hPP hA hV hcv hfk hib hB ha hv hx
 go_enter Tryz.func61,Tryz.ntmps61
 generalize hQ0:bodyPost _ _ _=Q0
 have HQ:=qh hQ0
 clear hQ0
 go_wp2_with fail
 refine (HPL.out _).mono ?_
 rintro e w1 ⟨rfl,hb1⟩
 have B:=HB.out.next hb1 (by simp)
 obtain ⟨b0,b1,b2,b3,b4,b5,b6,b7,b8,b9,b10,b11,a0,a1,a2,a3,a4,a5,a6,x0,x1,x2,x3,x4,r0,r1,r2,r3,r4,r5,r6,r7,r8,r9,r10,r11,bf0,bf1,bf2,bf3,bf4,bf5,bf6,bf7,bf8,bf9,bf10,bf11,rf0,rf1,rf2,rf3,rf4,rf5,rf6,rf7,rf8,rf9,rf10,rf11,z0,z1,z2,z3⟩:=B.facts
 have HB1:=qh B
 clear B hb1
 have HBB:=qh (HB1.out.key key)
 have HKEYB:=qh HBB.out.below
 go_wp2_with fail
 all_goals
  refine (HFI.out _ HKEYB.out).mono ?_
  rintro e w3 ⟨rfl,hb3⟩
  have B:=HBB.out.next hb3 (by first|omega|(simp;omega))
  obtain ⟨b0,b1,b2,b3,b4,b5,b6,b7,b8,b9,b10,b11,a0,a1,a2,a3,a4,a5,a6,x0,x1,x2,x3,x4,r0,r1,r2,r3,r4,r5,r6,r7,r8,r9,r10,r11,bf0,bf1,bf2,bf3,bf4,bf5,bf6,bf7,bf8,bf9,bf10,bf11,rf0,rf1,rf2,rf3,rf4,rf5,rf6,rf7,rf8,rf9,rf10,rf11,z0,z1,z2,z3⟩:=B.facts
  have HBW:=qh B
  clear B hb3
  obtain ⟨rfl,hk2⟩:=hB2
  have h2:=Zt (HBW.out.r.far (o:=0) (x:= .int .u8 3) (show w.heap.size+1+1+1≠w.heap.size by omega)) { c with k:=3,key:=key }
  have h3:=Below.setC (HBW.out.below.set_ (o:=0) (x:= .int .u8 3) (Nat.le_refl _)) (show w.heap.size<=w.heap.size+1+1+1 by omega) { c with k:=3,key:=key }
  dsimp only at h2 h3
  have H2:=qh h2
  have H3:=qh h3
  clear h2 h3
  go_wp2_with fail
  rw [<-HQ.out]
  generalize hA:({ tmps:=_,defers:=_ } :Act)=A
  have h4:A.tmps[6]? =some (.pointer (some ⟨w.heap.size+1+1+1,0,none⟩)):=by rw [<-hA];rfl
  have h5:A.defers= [] :=by rw [<-hA]
  clear hA
  rw [<-HPP.out]
  refine ⟨h5,_,Xy h4 H2.out, ?_⟩
  exact ⟨⟨c.v,by rw [HA.out],by rw [HV.out,HCV.out];exact Zw _ _⟩,H3.out⟩
set_option maxRecDepth 100000 in
theorem zlh (w:World) (c:CC) (hcv:c.v=vzero) (a:AC) (ha:a.Bnd) (x:VC) (o:List (ByteArray×V)) (hx:IsFields w w.heap.size o x.oa x.ol x.oc) (l:List Tk) (hv:IsToks w w.heap.size l a.va a.vl a.vc) (hp:¬(0<x.ol/\0<a.k % 3)) (hB:fieldB o a=false):
 uP 61 #[.agg (uC c), .agg (uA a), .agg (uV x)] w (FieldAPost w o a c l):=by
 delta uV uC uA uP
 have HBD:Hid (∀W,uB w W->uP 12 #[.slice a.va a.vl a.vc] W fun e w'=>(∃cv:VC,e= .returned (.agg #[.int .u8 cv.k, .int .i64 cv.n, .string cv.s, .slice cv.la cv.ll cv.lc, .slice cv.oa cv.ol cv.oc])/\IsVal (only (fun b=>W.heap.size<=b) w') w'.heap.size (oneP 6 (l.take 60)).1 cv)/\uB W w'):=fun W hW=>Ys W l _ _ _ (hv.later_ hW)
 have HPL:Hid (∀W,uP 105 #[.string a.s] W fun e w'=>e= .returned (.string (plainS a.s))/\uB W w'):=fun W=>Xi W a.s ha.s1
 obtain ⟨ps,hps⟩:∃ps,plainS a.s=ps:=⟨_,rfl⟩
 rw [hps] at HPL
 obtain ⟨key,hkey⟩:∃key,fieldKey o a=key:=⟨_,rfl⟩
 have HFI:Hid (∀W,uB w W->uP 103 #[.agg (uV x), .string key] W fun e w'=>e= .returned (.tuple #[.int .i64 (fieldK o key:Int), .bool (fieldIs o key)])/\uB W w'):=fun W hW=>Yj W o key _ _ _ _ _ _ _ _ _ (hx.later_ hW)
 obtain ⟨fk,hfk⟩:∃fk,fieldK o key=fk:=⟨_,rfl⟩
 obtain ⟨ib,hib⟩:∃ib,fieldIs o key=ib:=⟨_,rfl⟩
 rw [hfk,hib] at HFI
 have hA:fieldA o a c=fun cv=> { c with k:=2,key:=key,v:=cv } :=by funext cv;rw [fieldA,hB,hkey];simp
 have hV:fieldV o a l=(oneP 6 (l.take 60)).1:=by rw [fieldV,hB];simp
 have hB2:ib=false∨¬a.k % 2=0:=by
  rw [fieldB,hkey,hib] at hB
  cases ib<;>simp at hB ⊢;omega
 have HA:=qh hA;have HV:=qh hV;have HCV:=qh hcv
 obtain ⟨PP,hPP⟩:∃PP,FieldAPost w o a c l=PP:=⟨_,rfl⟩
 have HPP:=qh hPP
 rw [hPP]
 have HB:=qh (FXB.start w { c with k:=2 } a x 54 70 29 54)
 have hmx:=hx.max;have hfw:=hx.few;have hcp:=hx.cap
 have HLEN:=qh hx.len
 have i0:=ha.i0;have i1:=ha.i1;have k0:=ha.k0
 have HX:=qh hx
 have hks:key=ps:=by rw [<-hkey,fieldKey, <-HLEN.out,if_neg hp,hps]
 subst hks
 clear hps hkey
 clear hPP hA hV hcv hfk hib hB ha hv hx
 go_enter Tryz.func61,Tryz.ntmps61
 generalize hQ0:bodyPost _ _ _=Q0
 have HQ:=qh hQ0
 clear hQ0
 go_wp2_with fail
 refine (HPL.out _).mono ?_
 rintro e w1 ⟨rfl,hb1⟩
 have B:=HB.out.next hb1 (by simp)
 obtain ⟨b0,b1,b2,b3,b4,b5,b6,b7,b8,b9,b10,b11,a0,a1,a2,a3,a4,a5,a6,x0,x1,x2,x3,x4,r0,r1,r2,r3,r4,r5,r6,r7,r8,r9,r10,r11,bf0,bf1,bf2,bf3,bf4,bf5,bf6,bf7,bf8,bf9,bf10,bf11,rf0,rf1,rf2,rf3,rf4,rf5,rf6,rf7,rf8,rf9,rf10,rf11,z0,z1,z2,z3⟩:=B.facts
 have HB1:=qh B
 clear B hb1
 have HBB:=qh (HB1.out.key key)
 have HKEYB:=qh HBB.out.below
 go_wp2_with fail
 all_goals
  refine (HFI.out _ HKEYB.out).mono ?_
  rintro e w3 ⟨rfl,hb3⟩
  have B:=HBB.out.next hb3 (by first|omega|(simp;omega))
  obtain ⟨b0,b1,b2,b3,b4,b5,b6,b7,b8,b9,b10,b11,a0,a1,a2,a3,a4,a5,a6,x0,x1,x2,x3,x4,r0,r1,r2,r3,r4,r5,r6,r7,r8,r9,r10,r11,bf0,bf1,bf2,bf3,bf4,bf5,bf6,bf7,bf8,bf9,bf10,bf11,rf0,rf1,rf2,rf3,rf4,rf5,rf6,rf7,rf8,rf9,rf10,rf11,z0,z1,z2,z3⟩:=B.facts
  have HBW:=qh B
  clear B hb3
  rcases hB2 with rfl|hk2
  .   go_wp2_with fail
      refine (HBD.out _ HBW.out.below).mono ?_
      rintro e w4 ⟨⟨cv,rfl,hv1⟩,hb1⟩
      have B:=HBW.out.next hb1 (by omega)
      clear HBW b0 b1 b2 b3 b4 b5 b6 b7 b8 b9 b10 b11 a0 a1 a2 a3 a4 a5 a6 x0 x1 x2 x3 x4 r0 r1 r2 r3 r4 r5 r6 r7 r8 r9 r10 r11 bf0 bf1 bf2 bf3 bf4 bf5 bf6 bf7 bf8 bf9 bf10 bf11 rf0 rf1 rf2 rf3 rf4 rf5 rf6 rf7 rf8 rf9 rf10 rf11
      obtain ⟨b0,b1,b2,b3,b4,b5,b6,b7,b8,b9,b10,b11,a0,a1,a2,a3,a4,a5,a6,x0,x1,x2,x3,x4,r0,r1,r2,r3,r4,r5,r6,r7,r8,r9,r10,r11,bf0,bf1,bf2,bf3,bf4,bf5,bf6,bf7,bf8,bf9,bf10,bf11,rf0,rf1,rf2,rf3,rf4,rf5,rf6,rf7,rf8,rf9,rf10,rf11,z0,z1,z2,z3⟩:=B.facts
      have HBW:=qh B
      have hz4:=hb1.size
      have hv2:=Zm (Zm hv1 (Zi w4 w.heap.size 6 cv) (by omega)) (Xf _ (w.heap.size+1+1+1) { c with k:=2,key:=key,v:=cv }) (by omega)
      have h2:=Zt (((((HBW.out.r.far (o:=6) (x:= .int .u8 cv.k) (show w.heap.size+1+1+1≠w.heap.size by omega)).far (o:=7) (x:= .int .i64 cv.n) (show w.heap.size+1+1+1≠w.heap.size by omega)).far (o:=8) (x:= .string cv.s) (show w.heap.size+1+1+1≠w.heap.size by omega)).far (o:=9) (x:= .slice cv.la cv.ll cv.lc) (show w.heap.size+1+1+1≠w.heap.size by omega)).far (o:=10) (x:= .slice cv.oa cv.ol cv.oc) (show w.heap.size+1+1+1≠w.heap.size by omega)) { c with k:=2,key:=key,v:=cv }
      have h3:=Below.setC (((((HBW.out.below.set_ (o:=6) (x:= .int .u8 cv.k) (Nat.le_refl _)).set_ (o:=7) (x:= .int .i64 cv.n) (Nat.le_refl _)).set_ (o:=8) (x:= .string cv.s) (Nat.le_refl _)).set_ (o:=9) (x:= .slice cv.la cv.ll cv.lc) (Nat.le_refl _)).set_ (o:=10) (x:= .slice cv.oa cv.ol cv.oc) (Nat.le_refl _)) (show w.heap.size<=w.heap.size+1+1+1 by omega) { c with k:=2,key:=key,v:=cv }
      dsimp only at h2 h3 hv2
      have H2:=qh h2
      have H3:=qh h3
      have HV2:=qh hv2
      clear h2 h3 hv1 hv2 B hb1
      go_wp2_with fail
      rw [<-HQ.out]
      generalize hA:({ tmps:=_,defers:=_ } :Act)=A
      have h4:A.tmps[6]? =some (.pointer (some ⟨w.heap.size+1+1+1,0,none⟩)):=by rw [<-hA];rfl
      have h5:A.defers= [] :=by rw [<-hA]
      clear hA
      rw [<-HPP.out]
      refine ⟨h5,_,Xy h4 H2.out, ?_⟩
      exact ⟨⟨cv,by rw [HA.out],by rw [HV.out];exact HV2.out.sub (Ze fun k hk _=>⟨by omega,rfl⟩)⟩,H3.out⟩
  .cases ib with
   |false=> ?_
   |true=> ?_
   all_goals
       go_wp2_with fail
       refine (HBD.out _ HBW.out.below).mono ?_
       rintro e w4 ⟨⟨cv,rfl,hv1⟩,hb1⟩
       have B:=HBW.out.next hb1 (by omega)
       clear HBW b0 b1 b2 b3 b4 b5 b6 b7 b8 b9 b10 b11 a0 a1 a2 a3 a4 a5 a6 x0 x1 x2 x3 x4 r0 r1 r2 r3 r4 r5 r6 r7 r8 r9 r10 r11 bf0 bf1 bf2 bf3 bf4 bf5 bf6 bf7 bf8 bf9 bf10 bf11 rf0 rf1 rf2 rf3 rf4 rf5 rf6 rf7 rf8 rf9 rf10 rf11
       obtain ⟨b0,b1,b2,b3,b4,b5,b6,b7,b8,b9,b10,b11,a0,a1,a2,a3,a4,a5,a6,x0,x1,x2,x3,x4,r0,r1,r2,r3,r4,r5,r6,r7,r8,r9,r10,r11,bf0,bf1,bf2,bf3,bf4,bf5,bf6,bf7,bf8,bf9,bf10,bf11,rf0,rf1,rf2,rf3,rf4,rf5,rf6,rf7,rf8,rf9,rf10,rf11,z0,z1,z2,z3⟩:=B.facts
       have HBW:=qh B
       have hz4:=hb1.size
       have hv2:=Zm (Zm hv1 (Zi w4 w.heap.size 6 cv) (by omega)) (Xf _ (w.heap.size+1+1+1) { c with k:=2,key:=key,v:=cv }) (by omega)
       have h2:=Zt (((((HBW.out.r.far (o:=6) (x:= .int .u8 cv.k) (show w.heap.size+1+1+1≠w.heap.size by omega)).far (o:=7) (x:= .int .i64 cv.n) (show w.heap.size+1+1+1≠w.heap.size by omega)).far (o:=8) (x:= .string cv.s) (show w.heap.size+1+1+1≠w.heap.size by omega)).far (o:=9) (x:= .slice cv.la cv.ll cv.lc) (show w.heap.size+1+1+1≠w.heap.size by omega)).far (o:=10) (x:= .slice cv.oa cv.ol cv.oc) (show w.heap.size+1+1+1≠w.heap.size by omega)) { c with k:=2,key:=key,v:=cv }
       have h3:=Below.setC (((((HBW.out.below.set_ (o:=6) (x:= .int .u8 cv.k) (Nat.le_refl _)).set_ (o:=7) (x:= .int .i64 cv.n) (Nat.le_refl _)).set_ (o:=8) (x:= .string cv.s) (Nat.le_refl _)).set_ (o:=9) (x:= .slice cv.la cv.ll cv.lc) (Nat.le_refl _)).set_ (o:=10) (x:= .slice cv.oa cv.ol cv.oc) (Nat.le_refl _)) (show w.heap.size<=w.heap.size+1+1+1 by omega) { c with k:=2,key:=key,v:=cv }
       dsimp only at h2 h3 hv2
       have H2:=qh h2
       have H3:=qh h3
       have HV2:=qh hv2
       clear h2 h3 hv1 hv2 B hb1
       go_wp2_with fail
       rw [<-HQ.out]
       generalize hA:({ tmps:=_,defers:=_ } :Act)=A
       have h4:A.tmps[6]? =some (.pointer (some ⟨w.heap.size+1+1+1,0,none⟩)):=by rw [<-hA];rfl
       have h5:A.defers= [] :=by rw [<-hA]
       clear hA
       rw [<-HPP.out]
       refine ⟨h5,_,Xy h4 H2.out, ?_⟩
       exact ⟨⟨cv,by rw [HA.out],by rw [HV.out];exact HV2.out.sub (Ze fun k hk _=>⟨by omega,rfl⟩)⟩,H3.out⟩
set_option maxRecDepth 100000 in
theorem zld (w:World) (c:CC) (hcv:c.v=vzero) (a:AC) (ha:a.Bnd) (x:VC) (o:List (ByteArray×V)) (hx:IsFields w w.heap.size o x.oa x.ol x.oc) (l:List Tk) (hv:IsToks w w.heap.size l a.va a.vl a.vc) (hp1:0<x.ol) (hp2:0<a.k % 3) (hB:fieldB o a=true):
 uP 61 #[.agg (uC c), .agg (uA a), .agg (uV x)] w (FieldAPost w o a c l):=by
 delta uV uC uA uP
 have HBD:Hid (∀W,uB w W->uP 12 #[.slice a.va a.vl a.vc] W fun e w'=>(∃cv:VC,e= .returned (.agg #[.int .u8 cv.k, .int .i64 cv.n, .string cv.s, .slice cv.la cv.ll cv.lc, .slice cv.oa cv.ol cv.oc])/\IsVal (only (fun b=>W.heap.size<=b) w') w'.heap.size (oneP 6 (l.take 60)).1 cv)/\uB W w'):=fun W hW=>Ys W l _ _ _ (hv.later_ hW)
 have HPL:Hid (∀W,uP 105 #[.string a.s] W fun e w'=>e= .returned (.string (plainS a.s))/\uB W w'):=fun W=>Xi W a.s ha.s1
 obtain ⟨ps,hps⟩:∃ps,plainS a.s=ps:=⟨_,rfl⟩
 rw [hps] at HPL
 obtain ⟨key,hkey⟩:∃key,fieldKey o a=key:=⟨_,rfl⟩
 have HFI:Hid (∀W,uB w W->uP 103 #[.agg (uV x), .string key] W fun e w'=>e= .returned (.tuple #[.int .i64 (fieldK o key:Int), .bool (fieldIs o key)])/\uB W w'):=fun W hW=>Yj W o key _ _ _ _ _ _ _ _ _ (hx.later_ hW)
 obtain ⟨fk,hfk⟩:∃fk,fieldK o key=fk:=⟨_,rfl⟩
 obtain ⟨ib,hib⟩:∃ib,fieldIs o key=ib:=⟨_,rfl⟩
 rw [hfk,hib] at HFI
 have hA:fieldA o a c=fun cv=> { c with k:=3,key:=key,v:=cv } :=by funext cv;rw [fieldA,hB,hkey];simp
 have hV:fieldV o a l=V.none:=by rw [fieldV,hB];simp
 have hB2:ib=true/\a.k % 2=0:=by
  rw [fieldB,hkey,hib] at hB
  simpa using hB
 have HA:=qh hA;have HV:=qh hV;have HCV:=qh hcv
 obtain ⟨PP,hPP⟩:∃PP,FieldAPost w o a c l=PP:=⟨_,rfl⟩
 have HPP:=qh hPP
 rw [hPP]
 have HB:=qh (FXB.start w { c with k:=2 } a x 54 70 29 54)
 have hmx:=hx.max;have hfw:=hx.few;have hcp:=hx.cap
 have HLEN:=qh hx.len
 have i0:=ha.i0;have i1:=ha.i1;have k0:=ha.k0
 have HX:=qh hx
 obtain ⟨I,hI⟩:∃I:Nat,max a.i 0 % (x.ol:Int)=I:=⟨(max a.i 0 % (x.ol:Int)).toNat,by have:=Int.emod_nonneg (max a.i 0) (show (x.ol:Int)≠0 by omega);omega⟩
 have hIl:I<x.ol:=by have:=Int.emod_lt_of_pos (max a.i 0) (show (0:Int)<x.ol by omega);omega
 obtain ⟨ob,oo,fv,hIo,exa,hob,kc,kcs,kva,kvi⟩:=hx.get hIl
 have hkc:o[I].1=key:=by
  rw [<-hkey,fieldKey, <-HLEN.out,if_pos ⟨hp1,hp2⟩,hI]
  simp [List.getD_eq_getElem?_getD,hIo]
 rw [hkc] at kc
 have HEXA:=qh exa
 clear hkc hkey hps kcs kva kvi hIo exa
 clear hPP hA hV hcv hfk hib hB ha hv hx
 go_enter Tryz.func61,Tryz.ntmps61
 generalize hQ0:bodyPost _ _ _=Q0
 have HQ:=qh hQ0
 clear hQ0
 go_wp2_with fail
 refine (HPL.out _).mono ?_
 rintro e w1 ⟨rfl,hb1⟩
 have B:=HB.out.next hb1 (by simp)
 obtain ⟨b0,b1,b2,b3,b4,b5,b6,b7,b8,b9,b10,b11,a0,a1,a2,a3,a4,a5,a6,x0,x1,x2,x3,x4,r0,r1,r2,r3,r4,r5,r6,r7,r8,r9,r10,r11,bf0,bf1,bf2,bf3,bf4,bf5,bf6,bf7,bf8,bf9,bf10,bf11,rf0,rf1,rf2,rf3,rf4,rf5,rf6,rf7,rf8,rf9,rf10,rf11,z0,z1,z2,z3⟩:=B.facts
 have HB1:=qh B
 clear B hb1
 go_wp2_with fail
 have hbb:=HB1.out.key ps
 generalize hw2:w1.setCell ⟨w.heap.size,2,none⟩ (.string ps)=w2 at hbb ⊢
 clear hw2
 clear b0 b1 b2 b3 b4 b5 b6 b7 b8 b9 b10 b11 a0 a1 a2 a3 a4 a5 a6 x0 x1 x2 x3 x4 r0 r1 r2 r3 r4 r5 r6 r7 r8 r9 r10 r11 bf0 bf1 bf2 bf3 bf4 bf5 bf6 bf7 bf8 bf9 bf10 bf11 rf0 rf1 rf2 rf3 rf4 rf5 rf6 rf7 rf8 rf9 rf10 rf11
 obtain ⟨b0,b1,b2,b3,b4,b5,b6,b7,b8,b9,b10,b11,a0,a1,a2,a3,a4,a5,a6,x0,x1,x2,x3,x4,r0,r1,r2,r3,r4,r5,r6,r7,r8,r9,r10,r11,bf0,bf1,bf2,bf3,bf4,bf5,bf6,bf7,bf8,bf9,bf10,bf11,rf0,rf1,rf2,rf3,rf4,rf5,rf6,rf7,rf8,rf9,rf10,rf11,z0,z1,z2,z3⟩:=hbb.facts
 have kc2:=Zb hbb.below kc hob
 rw [HEXA.out] at x4
 have hob2:ob<w2.heap.size:=by have:=hbb.below.size;omega
 have hbk:=(hbb.key key).next (Zf _) (by simp;omega)
 clear hbb
 go_region
 generalize hw4:(w2.setCell ⟨w.heap.size,2,none⟩ (.string key)).drew=w4 at hbk ⊢
 clear hw4 x4 kc2 hob2
 clear b0 b1 b2 b3 b4 b5 b6 b7 b8 b9 b10 b11 a0 a1 a2 a3 a4 a5 a6 x0 x1 x2 x3 r0 r1 r2 r3 r4 r5 r6 r7 r8 r9 r10 r11 bf0 bf1 bf2 bf3 bf4 bf5 bf6 bf7 bf8 bf9 bf10 bf11 rf0 rf1 rf2 rf3 rf4 rf5 rf6 rf7 rf8 rf9 rf10 rf11
 obtain ⟨b0,b1,b2,b3,b4,b5,b6,b7,b8,b9,b10,b11,a0,a1,a2,a3,a4,a5,a6,x0,x1,x2,x3,x4,r0,r1,r2,r3,r4,r5,r6,r7,r8,r9,r10,r11,bf0,bf1,bf2,bf3,bf4,bf5,bf6,bf7,bf8,bf9,bf10,bf11,rf0,rf1,rf2,rf3,rf4,rf5,rf6,rf7,rf8,rf9,rf10,rf11,z0,z1,z2,z3⟩:=hbk.facts
 have HBB:=qh hbk
 have HKEYB:=qh hbk.below
 clear hbk
 go_wp2_with fail
 all_goals
  refine (HFI.out _ HKEYB.out).mono ?_
  rintro e w3 ⟨rfl,hb3⟩
  have B:=HBB.out.next hb3 (by first|omega|(simp;omega))
  obtain ⟨b0,b1,b2,b3,b4,b5,b6,b7,b8,b9,b10,b11,a0,a1,a2,a3,a4,a5,a6,x0,x1,x2,x3,x4,r0,r1,r2,r3,r4,r5,r6,r7,r8,r9,r10,r11,bf0,bf1,bf2,bf3,bf4,bf5,bf6,bf7,bf8,bf9,bf10,bf11,rf0,rf1,rf2,rf3,rf4,rf5,rf6,rf7,rf8,rf9,rf10,rf11,z0,z1,z2,z3⟩:=B.facts
  have HBW:=qh B
  clear B hb3
  obtain ⟨rfl,hk2⟩:=hB2
  have h2:=Zt (HBW.out.r.far (o:=0) (x:= .int .u8 3) (show w.heap.size+1+1+1≠w.heap.size by omega)) { c with k:=3,key:=key }
  have h3:=Below.setC (HBW.out.below.set_ (o:=0) (x:= .int .u8 3) (Nat.le_refl _)) (show w.heap.size<=w.heap.size+1+1+1 by omega) { c with k:=3,key:=key }
  dsimp only at h2 h3
  have H2:=qh h2
  have H3:=qh h3
  clear h2 h3
  go_wp2_with fail
  rw [<-HQ.out]
  generalize hA:({ tmps:=_,defers:=_ } :Act)=A
  have h4:A.tmps[6]? =some (.pointer (some ⟨w.heap.size+1+1+1,0,none⟩)):=by rw [<-hA];rfl
  have h5:A.defers= [] :=by rw [<-hA]
  clear hA
  rw [<-HPP.out]
  refine ⟨h5,_,Xy h4 H2.out, ?_⟩
  exact ⟨⟨c.v,by rw [HA.out],by rw [HV.out,HCV.out];exact Zw _ _⟩,H3.out⟩
set_option maxRecDepth 100000 in
theorem znb (w:World) (c:CC) (hcv:c.v=vzero) (a:AC) (ha:a.Bnd) (x:VC) (o:List (ByteArray×V)) (hx:IsFields w w.heap.size o x.oa x.ol x.oc) (l:List Tk) (hv:IsToks w w.heap.size l a.va a.vl a.vc) (hp1:0<x.ol) (hp2:0<a.k % 3) (hB:fieldB o a=false):
 uP 61 #[.agg (uC c), .agg (uA a), .agg (uV x)] w (FieldAPost w o a c l):=by
 delta uV uC uA uP
 have HBD:Hid (∀W,uB w W->uP 12 #[.slice a.va a.vl a.vc] W fun e w'=>(∃cv:VC,e= .returned (.agg #[.int .u8 cv.k, .int .i64 cv.n, .string cv.s, .slice cv.la cv.ll cv.lc, .slice cv.oa cv.ol cv.oc])/\IsVal (only (fun b=>W.heap.size<=b) w') w'.heap.size (oneP 6 (l.take 60)).1 cv)/\uB W w'):=fun W hW=>Ys W l _ _ _ (hv.later_ hW)
 have HPL:Hid (∀W,uP 105 #[.string a.s] W fun e w'=>e= .returned (.string (plainS a.s))/\uB W w'):=fun W=>Xi W a.s ha.s1
 obtain ⟨ps,hps⟩:∃ps,plainS a.s=ps:=⟨_,rfl⟩
 rw [hps] at HPL
 obtain ⟨key,hkey⟩:∃key,fieldKey o a=key:=⟨_,rfl⟩
 have HFI:Hid (∀W,uB w W->uP 103 #[.agg (uV x), .string key] W fun e w'=>e= .returned (.tuple #[.int .i64 (fieldK o key:Int), .bool (fieldIs o key)])/\uB W w'):=fun W hW=>Yj W o key _ _ _ _ _ _ _ _ _ (hx.later_ hW)
 obtain ⟨fk,hfk⟩:∃fk,fieldK o key=fk:=⟨_,rfl⟩
 obtain ⟨ib,hib⟩:∃ib,fieldIs o key=ib:=⟨_,rfl⟩
 rw [hfk,hib] at HFI
 have hA:fieldA o a c=fun cv=> { c with k:=2,key:=key,v:=cv } :=by funext cv;rw [fieldA,hB,hkey];simp
 have hV:fieldV o a l=(oneP 6 (l.take 60)).1:=by rw [fieldV,hB];simp
 have hB2:ib=false∨¬a.k % 2=0:=by
  rw [fieldB,hkey,hib] at hB
  cases ib<;>simp at hB ⊢;omega
 have HA:=qh hA;have HV:=qh hV;have HCV:=qh hcv
 obtain ⟨PP,hPP⟩:∃PP,FieldAPost w o a c l=PP:=⟨_,rfl⟩
 have HPP:=qh hPP
 rw [hPP]
 have HB:=qh (FXB.start w { c with k:=2 } a x 54 70 29 54)
 have hmx:=hx.max;have hfw:=hx.few;have hcp:=hx.cap
 have HLEN:=qh hx.len
 have i0:=ha.i0;have i1:=ha.i1;have k0:=ha.k0
 have HX:=qh hx
 obtain ⟨I,hI⟩:∃I:Nat,max a.i 0 % (x.ol:Int)=I:=⟨(max a.i 0 % (x.ol:Int)).toNat,by have:=Int.emod_nonneg (max a.i 0) (show (x.ol:Int)≠0 by omega);omega⟩
 have hIl:I<x.ol:=by have:=Int.emod_lt_of_pos (max a.i 0) (show (0:Int)<x.ol by omega);omega
 obtain ⟨ob,oo,fv,hIo,exa,hob,kc,kcs,kva,kvi⟩:=hx.get hIl
 have hkc:o[I].1=key:=by
  rw [<-hkey,fieldKey, <-HLEN.out,if_pos ⟨hp1,hp2⟩,hI]
  simp [List.getD_eq_getElem?_getD,hIo]
 rw [hkc] at kc
 have HEXA:=qh exa
 clear hkc hkey hps kcs kva kvi hIo exa
 clear hPP hA hV hcv hfk hib hB ha hv hx
 go_enter Tryz.func61,Tryz.ntmps61
 generalize hQ0:bodyPost _ _ _=Q0
 have HQ:=qh hQ0
 clear hQ0
 go_wp2_with fail
 refine (HPL.out _).mono ?_
 rintro e w1 ⟨rfl,hb1⟩
 have B:=HB.out.next hb1 (by simp)
 obtain ⟨b0,b1,b2,b3,b4,b5,b6,b7,b8,b9,b10,b11,a0,a1,a2,a3,a4,a5,a6,x0,x1,x2,x3,x4,r0,r1,r2,r3,r4,r5,r6,r7,r8,r9,r10,r11,bf0,bf1,bf2,bf3,bf4,bf5,bf6,bf7,bf8,bf9,bf10,bf11,rf0,rf1,rf2,rf3,rf4,rf5,rf6,rf7,rf8,rf9,rf10,rf11,z0,z1,z2,z3⟩:=B.facts
 have HB1:=qh B
 clear B hb1
 go_wp2_with fail
 have hbb:=HB1.out.key ps
 generalize hw2:w1.setCell ⟨w.heap.size,2,none⟩ (.string ps)=w2 at hbb ⊢
 clear hw2
 clear b0 b1 b2 b3 b4 b5 b6 b7 b8 b9 b10 b11 a0 a1 a2 a3 a4 a5 a6 x0 x1 x2 x3 x4 r0 r1 r2 r3 r4 r5 r6 r7 r8 r9 r10 r11 bf0 bf1 bf2 bf3 bf4 bf5 bf6 bf7 bf8 bf9 bf10 bf11 rf0 rf1 rf2 rf3 rf4 rf5 rf6 rf7 rf8 rf9 rf10 rf11
 obtain ⟨b0,b1,b2,b3,b4,b5,b6,b7,b8,b9,b10,b11,a0,a1,a2,a3,a4,a5,a6,x0,x1,x2,x3,x4,r0,r1,r2,r3,r4,r5,r6,r7,r8,r9,r10,r11,bf0,bf1,bf2,bf3,bf4,bf5,bf6,bf7,bf8,bf9,bf10,bf11,rf0,rf1,rf2,rf3,rf4,rf5,rf6,rf7,rf8,rf9,rf10,rf11,z0,z1,z2,z3⟩:=hbb.facts
 have kc2:=Zb hbb.below kc hob
 rw [HEXA.out] at x4
 have hob2:ob<w2.heap.size:=by have:=hbb.below.size;omega
 have hbk:=(hbb.key key).next (Zf _) (by simp;omega)
 clear hbb
 go_region
 generalize hw4:(w2.setCell ⟨w.heap.size,2,none⟩ (.string key)).drew=w4 at hbk ⊢
 clear hw4 x4 kc2 hob2
 clear b0 b1 b2 b3 b4 b5 b6 b7 b8 b9 b10 b11 a0 a1 a2 a3 a4 a5 a6 x0 x1 x2 x3 r0 r1 r2 r3 r4 r5 r6 r7 r8 r9 r10 r11 bf0 bf1 bf2 bf3 bf4 bf5 bf6 bf7 bf8 bf9 bf10 bf11 rf0 rf1 rf2 rf3 rf4 rf5 rf6 rf7 rf8 rf9 rf10 rf11
 obtain ⟨b0,b1,b2,b3,b4,b5,b6,b7,b8,b9,b10,b11,a0,a1,a2,a3,a4,a5,a6,x0,x1,x2,x3,x4,r0,r1,r2,r3,r4,r5,r6,r7,r8,r9,r10,r11,bf0,bf1,bf2,bf3,bf4,bf5,bf6,bf7,bf8,bf9,bf10,bf11,rf0,rf1,rf2,rf3,rf4,rf5,rf6,rf7,rf8,rf9,rf10,rf11,z0,z1,z2,z3⟩:=hbk.facts
 have HBB:=qh hbk
 have HKEYB:=qh hbk.below
 clear hbk
 go_wp2_with fail
 all_goals
  refine (HFI.out _ HKEYB.out).mono ?_
  rintro e w3 ⟨rfl,hb3⟩
  have B:=HBB.out.next hb3 (by first|omega|(simp;omega))
  obtain ⟨b0,b1,b2,b3,b4,b5,b6,b7,b8,b9,b10,b11,a0,a1,a2,a3,a4,a5,a6,x0,x1,x2,x3,x4,r0,r1,r2,r3,r4,r5,r6,r7,r8,r9,r10,r11,bf0,bf1,bf2,bf3,bf4,bf5,bf6,bf7,bf8,bf9,bf10,bf11,rf0,rf1,rf2,rf3,rf4,rf5,rf6,rf7,rf8,rf9,rf10,rf11,z0,z1,z2,z3⟩:=B.facts
  have HBW:=qh B
  clear B hb3
  rcases hB2 with rfl|hk2
  .   go_wp2_with fail
      refine (HBD.out _ HBW.out.below).mono ?_
      rintro e w4 ⟨⟨cv,rfl,hv1⟩,hb1⟩
      have B:=HBW.out.next hb1 (by omega)
      clear HBW b0 b1 b2 b3 b4 b5 b6 b7 b8 b9 b10 b11 a0 a1 a2 a3 a4 a5 a6 x0 x1 x2 x3 x4 r0 r1 r2 r3 r4 r5 r6 r7 r8 r9 r10 r11 bf0 bf1 bf2 bf3 bf4 bf5 bf6 bf7 bf8 bf9 bf10 bf11 rf0 rf1 rf2 rf3 rf4 rf5 rf6 rf7 rf8 rf9 rf10 rf11
      obtain ⟨b0,b1,b2,b3,b4,b5,b6,b7,b8,b9,b10,b11,a0,a1,a2,a3,a4,a5,a6,x0,x1,x2,x3,x4,r0,r1,r2,r3,r4,r5,r6,r7,r8,r9,r10,r11,bf0,bf1,bf2,bf3,bf4,bf5,bf6,bf7,bf8,bf9,bf10,bf11,rf0,rf1,rf2,rf3,rf4,rf5,rf6,rf7,rf8,rf9,rf10,rf11,z0,z1,z2,z3⟩:=B.facts
      have HBW:=qh B
      have hz4:=hb1.size
      have hv2:=Zm (Zm hv1 (Zi w4 w.heap.size 6 cv) (by omega)) (Xf _ (w.heap.size+1+1+1) { c with k:=2,key:=key,v:=cv }) (by omega)
      have h2:=Zt (((((HBW.out.r.far (o:=6) (x:= .int .u8 cv.k) (show w.heap.size+1+1+1≠w.heap.size by omega)).far (o:=7) (x:= .int .i64 cv.n) (show w.heap.size+1+1+1≠w.heap.size by omega)).far (o:=8) (x:= .string cv.s) (show w.heap.size+1+1+1≠w.heap.size by omega)).far (o:=9) (x:= .slice cv.la cv.ll cv.lc) (show w.heap.size+1+1+1≠w.heap.size by omega)).far (o:=10) (x:= .slice cv.oa cv.ol cv.oc) (show w.heap.size+1+1+1≠w.heap.size by omega)) { c with k:=2,key:=key,v:=cv }
      have h3:=Below.setC (((((HBW.out.below.set_ (o:=6) (x:= .int .u8 cv.k) (Nat.le_refl _)).set_ (o:=7) (x:= .int .i64 cv.n) (Nat.le_refl _)).set_ (o:=8) (x:= .string cv.s) (Nat.le_refl _)).set_ (o:=9) (x:= .slice cv.la cv.ll cv.lc) (Nat.le_refl _)).set_ (o:=10) (x:= .slice cv.oa cv.ol cv.oc) (Nat.le_refl _)) (show w.heap.size<=w.heap.size+1+1+1 by omega) { c with k:=2,key:=key,v:=cv }
      dsimp only at h2 h3 hv2
      have H2:=qh h2
      have H3:=qh h3
      have HV2:=qh hv2
      clear h2 h3 hv1 hv2 B hb1
      go_wp2_with fail
      rw [<-HQ.out]
      generalize hA:({ tmps:=_,defers:=_ } :Act)=A
      have h4:A.tmps[6]? =some (.pointer (some ⟨w.heap.size+1+1+1,0,none⟩)):=by rw [<-hA];rfl
      have h5:A.defers= [] :=by rw [<-hA]
      clear hA
      rw [<-HPP.out]
      refine ⟨h5,_,Xy h4 H2.out, ?_⟩
      exact ⟨⟨cv,by rw [HA.out],by rw [HV.out];exact HV2.out.sub (Ze fun k hk _=>⟨by omega,rfl⟩)⟩,H3.out⟩
  .cases ib with
   |false=> ?_
   |true=> ?_
   all_goals
       go_wp2_with fail
       refine (HBD.out _ HBW.out.below).mono ?_
       rintro e w4 ⟨⟨cv,rfl,hv1⟩,hb1⟩
       have B:=HBW.out.next hb1 (by omega)
       clear HBW b0 b1 b2 b3 b4 b5 b6 b7 b8 b9 b10 b11 a0 a1 a2 a3 a4 a5 a6 x0 x1 x2 x3 x4 r0 r1 r2 r3 r4 r5 r6 r7 r8 r9 r10 r11 bf0 bf1 bf2 bf3 bf4 bf5 bf6 bf7 bf8 bf9 bf10 bf11 rf0 rf1 rf2 rf3 rf4 rf5 rf6 rf7 rf8 rf9 rf10 rf11
       obtain ⟨b0,b1,b2,b3,b4,b5,b6,b7,b8,b9,b10,b11,a0,a1,a2,a3,a4,a5,a6,x0,x1,x2,x3,x4,r0,r1,r2,r3,r4,r5,r6,r7,r8,r9,r10,r11,bf0,bf1,bf2,bf3,bf4,bf5,bf6,bf7,bf8,bf9,bf10,bf11,rf0,rf1,rf2,rf3,rf4,rf5,rf6,rf7,rf8,rf9,rf10,rf11,z0,z1,z2,z3⟩:=B.facts
       have HBW:=qh B
       have hz4:=hb1.size
       have hv2:=Zm (Zm hv1 (Zi w4 w.heap.size 6 cv) (by omega)) (Xf _ (w.heap.size+1+1+1) { c with k:=2,key:=key,v:=cv }) (by omega)
       have h2:=Zt (((((HBW.out.r.far (o:=6) (x:= .int .u8 cv.k) (show w.heap.size+1+1+1≠w.heap.size by omega)).far (o:=7) (x:= .int .i64 cv.n) (show w.heap.size+1+1+1≠w.heap.size by omega)).far (o:=8) (x:= .string cv.s) (show w.heap.size+1+1+1≠w.heap.size by omega)).far (o:=9) (x:= .slice cv.la cv.ll cv.lc) (show w.heap.size+1+1+1≠w.heap.size by omega)).far (o:=10) (x:= .slice cv.oa cv.ol cv.oc) (show w.heap.size+1+1+1≠w.heap.size by omega)) { c with k:=2,key:=key,v:=cv }
       have h3:=Below.setC (((((HBW.out.below.set_ (o:=6) (x:= .int .u8 cv.k) (Nat.le_refl _)).set_ (o:=7) (x:= .int .i64 cv.n) (Nat.le_refl _)).set_ (o:=8) (x:= .string cv.s) (Nat.le_refl _)).set_ (o:=9) (x:= .slice cv.la cv.ll cv.lc) (Nat.le_refl _)).set_ (o:=10) (x:= .slice cv.oa cv.ol cv.oc) (Nat.le_refl _)) (show w.heap.size<=w.heap.size+1+1+1 by omega) { c with k:=2,key:=key,v:=cv }
       dsimp only at h2 h3 hv2
       have H2:=qh h2
       have H3:=qh h3
       have HV2:=qh hv2
       clear h2 h3 hv1 hv2 B hb1
       go_wp2_with fail
       rw [<-HQ.out]
       generalize hA:({ tmps:=_,defers:=_ } :Act)=A
       have h4:A.tmps[6]? =some (.pointer (some ⟨w.heap.size+1+1+1,0,none⟩)):=by rw [<-hA];rfl
       have h5:A.defers= [] :=by rw [<-hA]
       clear hA
       rw [<-HPP.out]
       refine ⟨h5,_,Xy h4 H2.out, ?_⟩
       exact ⟨⟨cv,by rw [HA.out],by rw [HV.out];exact HV2.out.sub (Ze fun k hk _=>⟨by omega,rfl⟩)⟩,H3.out⟩
theorem zfg (w:World) (c:CC) (hcv:c.v=vzero) (a:AC) (ha:a.Bnd) (x:VC) (o:List (ByteArray×V)) (hx:IsFields w w.heap.size o x.oa x.ol x.oc) (l:List Tk) (hv:IsToks w w.heap.size l a.va a.vl a.vc):
 uP 61 #[.agg (uC c), .agg (uA a), .agg (uV x)] w (FieldAPost w o a c l):=by
 delta uV uC uA uP
 have k0:=ha.k0
 by_cases hp:0<x.ol/\0<a.k % 3
 .cases hB:fieldB o a with
  |true=>exact zld w c hcv a ha x o hx l hv hp.1 hp.2 hB
  |false=>exact znb w c hcv a ha x o hx l hv hp.1 hp.2 hB
 .cases hB:fieldB o a with
  |true=>exact zki w c hcv a ha x o hx l hv hp hB
  |false=>exact zlh w c hcv a ha x o hx l hv hp hB
end Go.Proofs.YtbgheehjfnoiiaaGreatDoor
