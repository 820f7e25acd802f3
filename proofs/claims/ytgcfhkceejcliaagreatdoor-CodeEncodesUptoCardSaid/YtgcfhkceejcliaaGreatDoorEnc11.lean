/-
  Contracts of the functions that the law reaches: conciliatorlaw06.text: what is done to a text. What may be done to a value, one behind the other, in plain Lean. conciliatorlaw06.One: what stands in memory while it runs. What may be done to a value: bounds of what stands in memory. The boxes of what may be done to an object. conciliatorlaw06.field: what is done to an object. conciliatorlaw06.One: a component that may be done to a value. conciliatorref06.Do: an object. conciliatorref06.Do: a text. conciliatorref06.Do: a list. conciliatorref06.Do: any.
-/
import Derived.Test.YtgcfhkceejcliaaGreatDoorEnc10
import Derived.Deep.CutBlock
namespace Go.Proofs.YtgcfhkceejcliaaGreatDoor
open Go.RowKit
def textA (n:Nat) (a:AC) (c:CC):CC:=
  if 0<n∧a.k % 2=0 then { c with k:=9,i:=max a.i 0 % n,s:= .empty,n:=1+max a.j 0 % ((n:Int) - max a.i 0 % n) }
  else { c with k:=8,i:=max a.i 0 % ((n:Int)+1),s:= { data:= #[120] } ++plainS a.s }
theorem results_atext {tmps:Array Value} {W:World} {b:Nat} {d:CC} (ht:tmps[6]? =some (.pointer (some ⟨b,0,none⟩))) (h:BC W b (ccells d)):
    (results Tryz.f79 tmps).run Tryz.prog W= .ok (.agg #[.int .u8 d.k, .slice d.pa d.pl d.pc, .string d.key, .int .i64 d.i, .int .i64 d.j, .int .i64 d.n, .int .u8 d.v.k, .int .i64 d.v.n, .string d.v.s, .slice d.v.la d.v.ll d.v.lc, .slice d.v.oa d.v.ol d.v.oc, .string d.s]) W:=by
  obtain ⟨r0,r1,r2,r3,r4,r5,r6,r7,r8,r9,r10,r11⟩:=row12 h.at_
  simp [results,Tryz.results79,go_sem,ht,r0,r1,r2,r3,r4,r5,r6,r7,r8,r9,r10,r11]
set_option maxHeartbeats 8000000 in
set_option maxRecDepth 100000 in
theorem atext_zero (w:World) (c:CC) (a:AC) (ha:a.Bnd):
    Calls Tryz.prog 79 #[.agg #[.int .u8 c.k, .slice c.pa c.pl c.pc, .string c.key, .int .i64 c.i, .int .i64 c.j, .int .i64 c.n, .int .u8 c.v.k, .int .i64 c.v.n, .string c.v.s, .slice c.v.la c.v.ll c.v.lc, .slice c.v.oa c.v.ol c.v.oc, .string c.s], .agg #[.slice a.pa a.pl a.pc, .int .u8 a.k, .int .i64 a.i, .int .i64 a.j, .int .i64 a.n, .string a.s, .slice a.va a.vl a.vc], .int .i64 0] w fun e w'=>e= .returned (.agg #[.int .u8 (textA 0 a c).k, .slice (textA 0 a c).pa (textA 0 a c).pl (textA 0 a c).pc, .string (textA 0 a c).key, .int .i64 (textA 0 a c).i, .int .i64 (textA 0 a c).j, .int .i64 (textA 0 a c).n, .int .u8 (textA 0 a c).v.k, .int .i64 (textA 0 a c).v.n, .string (textA 0 a c).v.s, .slice (textA 0 a c).v.la (textA 0 a c).v.ll (textA 0 a c).v.lc, .slice (textA 0 a c).v.oa (textA 0 a c).v.ol (textA 0 a c).v.oc, .string (textA 0 a c).s])∧Below w.heap.size w w':=by
  have HPL:Hid (∀W,Calls Tryz.prog 104 #[.string a.s] W fun e w'=>e= .returned (.string (plainS a.s))∧Below W.heap.size W w'):=fun W=>plain6_any W a.s ha.s1
  obtain ⟨ps,hps⟩:∃ps,plainS a.s=ps:=⟨_,rfl⟩
  have hpz:ps.size≤40:=by rw [←hps];exact plainS_size _
  rw [hps] at HPL
  have HB:=Lib.hid (AB.start w { c with k:=8,i:=0 } a 63 85 63)
  obtain ⟨D,hD⟩:∃D,textA 0 a c=D:=⟨_,rfl⟩
  rw [hD]
  have HD:=Lib.hid hD
  have HPS:=Lib.hid hps
  have i0:=ha.i0;have i1:=ha.i1;have j0:=ha.j0;have j1:=ha.j1;have k0:=ha.k0
  clear hps hD ha
  go_enter Tryz.func79,Tryz.ntmps79
  generalize hQ0:bodyPost _ _ _=Q0
  have HQ:=Lib.hid hQ0
  clear hQ0
  go_wp2_with fail
  refine (HPL.out _).mono ?_
  rintro e w1 ⟨rfl,hb1⟩
  have B:=HB.out.next hb1 (by simp)
  obtain ⟨b0,b1,b2,b3,b4,b5,b6,b7,b8,b9,b10,b11,a0,a1,a2,a3,a4,a5,a6,r0,r1,r2,r3,r4,r5,r6,r7,r8,r9,r10,r11,bf0,bf1,bf2,bf3,bf4,bf5,bf6,bf7,bf8,bf9,bf10,bf11,rf0,rf1,rf2,rf3,rf4,rf5,rf6,rf7,rf8,rf9,rf10,rf11,z0,z1,z2⟩:=B.facts
  have HBW:=Lib.hid B
  have hq1:¬(9223372036854775807<1+ps.size):=by omega
  clear B hb1
  have h2:=bc_storeC (HBW.out.r.far (o:=11) (x:= .string ({ data:= #[120] } ++ps)) (show w.heap.size+1+1≠w.heap.size by omega)) { c with k:=8,i:=0,s:= { data:= #[120] } ++ps }
  have h3:=Below.setC (HBW.out.below.set_ (o:=11) (x:= .string ({ data:= #[120] } ++ps)) (Nat.le_refl _)) (show w.heap.size≤w.heap.size+1+1 by omega) { c with k:=8,i:=0,s:= { data:= #[120] } ++ps }
  dsimp only at h2 h3
  have H2:=Lib.hid h2
  have H3:=Lib.hid h3
  clear h2 h3
  go_wp2_with fail
  obtain rfl:D= { c with k:=8,i:=0,s:= { data:= #[120] } ++ps } :=by rw [←HD.out,textA,if_neg (by omega),HPS.out];simp
  rw [←HQ.out]
  generalize hA:({ tmps:=_,defers:=_ } :Act)=A
  have h4:A.tmps[6]? =some (.pointer (some ⟨w.heap.size+1+1,0,none⟩)):=by rw [←hA];rfl
  have h5:A.defers= [] :=by rw [←hA]
  clear hA
  exact ⟨h5,_,results_atext h4 H2.out,rfl,H3.out⟩
set_option maxHeartbeats 8000000 in
set_option maxRecDepth 100000 in
theorem atext_odd (w:World) (c:CC) (a:AC) (ha:a.Bnd) (n:Nat) (hn:n≤1000000000000) (hn0:0<n) (hk:¬a.k % 2=0):
    Calls Tryz.prog 79 #[.agg #[.int .u8 c.k, .slice c.pa c.pl c.pc, .string c.key, .int .i64 c.i, .int .i64 c.j, .int .i64 c.n, .int .u8 c.v.k, .int .i64 c.v.n, .string c.v.s, .slice c.v.la c.v.ll c.v.lc, .slice c.v.oa c.v.ol c.v.oc, .string c.s], .agg #[.slice a.pa a.pl a.pc, .int .u8 a.k, .int .i64 a.i, .int .i64 a.j, .int .i64 a.n, .string a.s, .slice a.va a.vl a.vc], .int .i64 n] w fun e w'=>e= .returned (.agg #[.int .u8 (textA n a c).k, .slice (textA n a c).pa (textA n a c).pl (textA n a c).pc, .string (textA n a c).key, .int .i64 (textA n a c).i, .int .i64 (textA n a c).j, .int .i64 (textA n a c).n, .int .u8 (textA n a c).v.k, .int .i64 (textA n a c).v.n, .string (textA n a c).v.s, .slice (textA n a c).v.la (textA n a c).v.ll (textA n a c).v.lc, .slice (textA n a c).v.oa (textA n a c).v.ol (textA n a c).v.oc, .string (textA n a c).s])∧Below w.heap.size w w':=by
  have HPL:Hid (∀W,Calls Tryz.prog 104 #[.string a.s] W fun e w'=>e= .returned (.string (plainS a.s))∧Below W.heap.size W w'):=fun W=>plain6_any W a.s ha.s1
  obtain ⟨ps,hps⟩:∃ps,plainS a.s=ps:=⟨_,rfl⟩
  have hpz:ps.size≤40:=by rw [←hps];exact plainS_size _
  rw [hps] at HPL
  have HB:=Lib.hid (AB.start w { c with k:=8,i:=max a.i 0 % ((n:Int)+1) } a 63 85 63)
  obtain ⟨D,hD⟩:∃D,textA n a c=D:=⟨_,rfl⟩
  rw [hD]
  have HD:=Lib.hid hD
  have HPS:=Lib.hid hps
  have i0:=ha.i0;have i1:=ha.i1;have j0:=ha.j0;have j1:=ha.j1;have k0:=ha.k0
  clear hps hD ha
  go_enter Tryz.func79,Tryz.ntmps79
  generalize hQ0:bodyPost _ _ _=Q0
  have HQ:=Lib.hid hQ0
  clear hQ0
  go_wp2_with fail
  refine (HPL.out _).mono ?_
  rintro e w1 ⟨rfl,hb1⟩
  have B:=HB.out.next hb1 (by simp)
  obtain ⟨b0,b1,b2,b3,b4,b5,b6,b7,b8,b9,b10,b11,a0,a1,a2,a3,a4,a5,a6,r0,r1,r2,r3,r4,r5,r6,r7,r8,r9,r10,r11,bf0,bf1,bf2,bf3,bf4,bf5,bf6,bf7,bf8,bf9,bf10,bf11,rf0,rf1,rf2,rf3,rf4,rf5,rf6,rf7,rf8,rf9,rf10,rf11,z0,z1,z2⟩:=B.facts
  have HBW:=Lib.hid B
  have hq1:¬(9223372036854775807<1+ps.size):=by omega
  clear B hb1
  have h2:=bc_storeC (HBW.out.r.far (o:=11) (x:= .string ({ data:= #[120] } ++ps)) (show w.heap.size+1+1≠w.heap.size by omega)) { c with k:=8,i:=max a.i 0 % ((n:Int)+1),s:= { data:= #[120] } ++ps }
  have h3:=Below.setC (HBW.out.below.set_ (o:=11) (x:= .string ({ data:= #[120] } ++ps)) (Nat.le_refl _)) (show w.heap.size≤w.heap.size+1+1 by omega) { c with k:=8,i:=max a.i 0 % ((n:Int)+1),s:= { data:= #[120] } ++ps }
  dsimp only at h2 h3
  have H2:=Lib.hid h2
  have H3:=Lib.hid h3
  clear h2 h3
  go_wp2_with fail
  obtain rfl:D= { c with k:=8,i:=max a.i 0 % ((n:Int)+1),s:= { data:= #[120] } ++ps } :=by rw [←HD.out,textA,if_neg (by omega),HPS.out]
  rw [←HQ.out]
  generalize hA:({ tmps:=_,defers:=_ } :Act)=A
  have h4:A.tmps[6]? =some (.pointer (some ⟨w.heap.size+1+1,0,none⟩)):=by rw [←hA];rfl
  have h5:A.defers= [] :=by rw [←hA]
  clear hA
  exact ⟨h5,_,results_atext h4 H2.out,rfl,H3.out⟩
set_option maxHeartbeats 8000000 in
set_option maxRecDepth 100000 in
theorem atext_even (w:World) (c:CC) (a:AC) (ha:a.Bnd) (n:Nat) (hn:n≤1000000000000) (hn0:0<n) (hk:a.k % 2=0):
    Calls Tryz.prog 79 #[.agg #[.int .u8 c.k, .slice c.pa c.pl c.pc, .string c.key, .int .i64 c.i, .int .i64 c.j, .int .i64 c.n, .int .u8 c.v.k, .int .i64 c.v.n, .string c.v.s, .slice c.v.la c.v.ll c.v.lc, .slice c.v.oa c.v.ol c.v.oc, .string c.s], .agg #[.slice a.pa a.pl a.pc, .int .u8 a.k, .int .i64 a.i, .int .i64 a.j, .int .i64 a.n, .string a.s, .slice a.va a.vl a.vc], .int .i64 n] w fun e w'=>e= .returned (.agg #[.int .u8 (textA n a c).k, .slice (textA n a c).pa (textA n a c).pl (textA n a c).pc, .string (textA n a c).key, .int .i64 (textA n a c).i, .int .i64 (textA n a c).j, .int .i64 (textA n a c).n, .int .u8 (textA n a c).v.k, .int .i64 (textA n a c).v.n, .string (textA n a c).v.s, .slice (textA n a c).v.la (textA n a c).v.ll (textA n a c).v.lc, .slice (textA n a c).v.oa (textA n a c).v.ol (textA n a c).v.oc, .string (textA n a c).s])∧Below w.heap.size w w':=by
  have HPL:Hid (∀W,Calls Tryz.prog 104 #[.string a.s] W fun e w'=>e= .returned (.string (plainS a.s))∧Below W.heap.size W w'):=fun W=>plain6_any W a.s ha.s1
  obtain ⟨ps,hps⟩:∃ps,plainS a.s=ps:=⟨_,rfl⟩
  have hpz:ps.size≤40:=by rw [←hps];exact plainS_size _
  rw [hps] at HPL
  have HB:=Lib.hid (AB.start w { c with k:=8,i:=max a.i 0 % ((n:Int)+1) } a 63 85 63)
  obtain ⟨D,hD⟩:∃D,textA n a c=D:=⟨_,rfl⟩
  rw [hD]
  have HD:=Lib.hid hD
  have HPS:=Lib.hid hps
  have i0:=ha.i0;have i1:=ha.i1;have j0:=ha.j0;have j1:=ha.j1;have k0:=ha.k0
  clear hps hD ha
  go_enter Tryz.func79,Tryz.ntmps79
  generalize hQ0:bodyPost _ _ _=Q0
  have HQ:=Lib.hid hQ0
  clear hQ0
  go_wp2_with fail
  refine (HPL.out _).mono ?_
  rintro e w1 ⟨rfl,hb1⟩
  have B:=HB.out.next hb1 (by simp)
  obtain ⟨b0,b1,b2,b3,b4,b5,b6,b7,b8,b9,b10,b11,a0,a1,a2,a3,a4,a5,a6,r0,r1,r2,r3,r4,r5,r6,r7,r8,r9,r10,r11,bf0,bf1,bf2,bf3,bf4,bf5,bf6,bf7,bf8,bf9,bf10,bf11,rf0,rf1,rf2,rf3,rf4,rf5,rf6,rf7,rf8,rf9,rf10,rf11,z0,z1,z2⟩:=B.facts
  have HBW:=Lib.hid B
  have hq1:¬(9223372036854775807<1+ps.size):=by omega
  clear B hb1
  have hI0:0≤max a.i 0 % (n:Int):=Int.emod_nonneg _ (by omega)
  have hI1:max a.i 0 % (n:Int)<n:=Int.emod_lt_of_pos _ (by omega)
  have hJ0:0≤max a.j 0 % ((n:Int) - max a.i 0 % n):=Int.emod_nonneg _ (by omega)
  have hJ1:max a.j 0 % ((n:Int) - max a.i 0 % n)<(n:Int) - max a.i 0 % n:=Int.emod_lt_of_pos _ (by omega)
  have h2:=bc_storeC (((((HBW.out.r.far (o:=11) (x:= .string ({ data:= #[120] } ++ps)) (show w.heap.size+1+1≠w.heap.size by omega)).far (o:=0) (x:= .int .u8 9) (show w.heap.size+1+1≠w.heap.size by omega)).far (o:=11) (x:= .string { data:= #[] }) (show w.heap.size+1+1≠w.heap.size by omega)).far (o:=3) (x:= .int .i64 (max a.i 0 % n)) (show w.heap.size+1+1≠w.heap.size by omega)).far (o:=5) (x:= .int .i64 (1+max a.j 0 % ((n:Int) - max a.i 0 % n))) (show w.heap.size+1+1≠w.heap.size by omega)) { c with k:=9,i:=max a.i 0 % n,s:= { data:= #[] },n:=1+max a.j 0 % ((n:Int) - max a.i 0 % n) }
  have h3:=Below.setC (((((HBW.out.below.set_ (o:=11) (x:= .string ({ data:= #[120] } ++ps)) (Nat.le_refl _)).set_ (o:=0) (x:= .int .u8 9) (Nat.le_refl _)).set_ (o:=11) (x:= .string { data:= #[] }) (Nat.le_refl _)).set_ (o:=3) (x:= .int .i64 (max a.i 0 % n)) (Nat.le_refl _)).set_ (o:=5) (x:= .int .i64 (1+max a.j 0 % ((n:Int) - max a.i 0 % n))) (Nat.le_refl _)) (show w.heap.size≤w.heap.size+1+1 by omega) { c with k:=9,i:=max a.i 0 % n,s:= { data:= #[] },n:=1+max a.j 0 % ((n:Int) - max a.i 0 % n) }
  dsimp only at h2 h3
  have H2:=Lib.hid h2
  have H3:=Lib.hid h3
  clear h2 h3
  go_wp2_with fail
  obtain rfl:D= { c with k:=9,i:=max a.i 0 % n,s:= .empty,n:=1+max a.j 0 % ((n:Int) - max a.i 0 % n) } :=by rw [←HD.out,textA,if_pos ⟨hn0,hk⟩]
  rw [←HQ.out]
  generalize hA:({ tmps:=_,defers:=_ } :Act)=A
  have h4:A.tmps[6]? =some (.pointer (some ⟨w.heap.size+1+1,0,none⟩)):=by rw [←hA];rfl
  have h5:A.defers= [] :=by rw [←hA]
  clear hA
  exact ⟨h5,_,results_atext h4 H2.out,rfl,H3.out⟩
theorem atext_any (w:World) (c:CC) (a:AC) (ha:a.Bnd) (n:Nat) (hn:n≤1000000000000):
    Calls Tryz.prog 79 #[.agg #[.int .u8 c.k, .slice c.pa c.pl c.pc, .string c.key, .int .i64 c.i, .int .i64 c.j, .int .i64 c.n, .int .u8 c.v.k, .int .i64 c.v.n, .string c.v.s, .slice c.v.la c.v.ll c.v.lc, .slice c.v.oa c.v.ol c.v.oc, .string c.s], .agg #[.slice a.pa a.pl a.pc, .int .u8 a.k, .int .i64 a.i, .int .i64 a.j, .int .i64 a.n, .string a.s, .slice a.va a.vl a.vc], .int .i64 n] w fun e w'=>e= .returned (.agg #[.int .u8 (textA n a c).k, .slice (textA n a c).pa (textA n a c).pl (textA n a c).pc, .string (textA n a c).key, .int .i64 (textA n a c).i, .int .i64 (textA n a c).j, .int .i64 (textA n a c).n, .int .u8 (textA n a c).v.k, .int .i64 (textA n a c).v.n, .string (textA n a c).v.s, .slice (textA n a c).v.la (textA n a c).v.ll (textA n a c).v.lc, .slice (textA n a c).v.oa (textA n a c).v.ol (textA n a c).v.oc, .string (textA n a c).s])∧Below w.heap.size w w':=by
  by_cases hn0:0<n
  · by_cases hk:a.k % 2=0
    · exact atext_even w c a ha n hn hn0 hk
    · exact atext_odd w c a ha n hn hn0 hk
  · obtain rfl:n=0:=by omega
    exact atext_zero w c a ha
end Go.Proofs.YtgcfhkceejcliaaGreatDoor
namespace Go.Proofs.YtgcfhkceejcliaaGreatDoor
open Go.RowKit
theorem doneP_weight {x:V} {c:Cm} {K:Nat} (hs:cmSound c=true) (hk:kindsP x c.k c.i c.j c.n c.key=0) (hK:c.key.size≤K∨∃f ∈ x.os,f.1=c.key):(doneP x c).weight≤x.weight+c.v.weight+K+c.s.size:=by
  have hr:=cmSound_kind hs
  obtain ⟨k,n,t,l,o,rfl⟩:=x.eta
  unfold doneP
  unfold kindsP at hk
  by_cases e1:c.k=1
  · rw [if_pos e1];simp only [V.weight,V.str,V.ls,V.os];omega
  · rw [if_neg e1]
    rw [if_neg e1] at hk
    by_cases e2:c.k=2∨c.k=3
    · rw [if_pos e2]
      have:=fieldsDo_weight o c.key c.v (c.k==3) K hK
      simp only [V.weight,V.str,V.ls,V.os];omega
    · rw [if_neg e2]
      rw [if_neg e2] at hk
      by_cases e3:c.k=8∨c.k=9
      · rw [if_pos e3]
        rw [if_pos e3] at hk
        have ht:tCheck t c.k c.i c.n=0:=by
          split at hk
          · omega
          · exact hk
        have:=textDo_wt (cs:=c.s) ht
        simp only [V.weight,V.str,V.ls,V.os];omega
      · rw [if_neg e3]
        rw [if_neg e3] at hk
        have hl:lCheck l.length c.k c.i c.j=0:=by
          split at hk
          · omega
          · exact hk
        obtain ⟨h1,h2,h3,h4,h5,h6⟩:=lCheck_ok hl
        have:=listDo_weight l c.k c.i c.j c.v (fun h=>by have:=h5 h.1;omega)
        simp only [V.weight,V.str,V.ls,V.os];omega
theorem doP_weight {v:V} {c:Cm} {K:Nat} (h:(doP v c).2=0) (hK:c.key.size≤K∨∀x,getP v c.path=some x→∃f ∈ x.os,f.1=c.key):(doP v c).1.weight≤v.weight+c.v.weight+K+c.s.size:=by
  by_cases he:checkP v c=0
  · obtain ⟨hs,x,hg,hk⟩:=checkP_ok he
    obtain ⟨z,hz⟩:=putP_some c.path hg (doneP x c)
    rw [doP_ok he hg,hz,doneQ_some]
    have h1:=putP_weight c.path hg hz
    have h2:=doneP_weight hs hk (hK.imp id fun h=>h x hg)
    dsimp only
    omega
  · rw [doP,if_neg he] at h
    exact absurd h he
def xAt (v:V) (p:List St):V:=(getP v p).getD V.none
def trimN (v:V) (p:List St):Nat→Nat
  |0=>0
  |n+1=>if (xAt v (p.take (n+1))).kd<2 then trimN v p n else n+1
def wayP (v:V) (bs:List UInt8):List St:=(walkP v (bs.take 8)).take 5
def aimPath (v:V) (bs:List UInt8):List St:=(wayP v bs).take (trimN v (wayP v bs) (wayP v bs).length)
noncomputable def fieldKey (o:List (ByteArray×V)) (a:AC):ByteArray:=if 0<o.length∧0<a.k % 3 then (o.getD (max a.i 0 % o.length).toNat (.empty,V.none)).1 else plainS a.s
noncomputable def fieldB (o:List (ByteArray×V)) (a:AC):Bool:=fieldIs o (fieldKey o a) && decide (a.k % 2=0)
noncomputable def fieldA (o:List (ByteArray×V)) (a:AC) (c:CC) (cv:VC):CC:= { c with k:=if fieldB o a=true then 3 else 2,key:=fieldKey o a,v:=cv }
noncomputable def fieldV (o:List (ByteArray×V)) (a:AC) (l:List Tk):V:=if fieldB o a=true then V.none else (oneP 6 (l.take 60)).1
def Ac.bare (a:Ac):AC:=⟨none,0,0,a.k,a.i,a.j,a.n,a.s,none,0,0⟩
def cmOf (p:List St) (v:V) (d:CC):Cm:=⟨d.k,p,d.key,d.i,d.j,d.n,v,d.s⟩
noncomputable def oneX (x:V) (p:List St) (a:Ac):Option Cm:=
  if x.kd=2 then some ⟨1,p, .empty,0,0,a.n,V.none, .empty⟩
  else if x.kd=3 then some (cmOf p V.none (textA x.str.size a.bare czero))
  else if x.kd=4 then some (cmOf p (listV x.ls.length a.k a.v) (listA x.ls.length a.bare czero vzero))
  else if x.kd=5 then some (cmOf p (fieldV x.os a.bare a.v) (fieldA x.os a.bare czero vzero))
  else none
noncomputable def oneC (v:V) (a:Ac):Option Cm:=oneX (xAt v (aimPath v a.path)) (aimPath v a.path) a
noncomputable def aimP:V→List Ac→List Cm
  |_, [] => []
  | v,a::r=>match oneC v a with
    |none=>aimP v r
    |some c=>if (doP v c).2=0 then c::aimP (doP v c).1 r else aimP v r
theorem weight_none:V.none.weight=1:=by simp [V.none,V.weight,weightL,weightO]
structure Small (v:V) (c:Cm):Prop where
  sv:c.v.weight≤20000
  ss:c.s.size≤41
  sp:c.path.length≤5
  sk:c.key.size≤40∨∀x,getP v c.path=some x→∃f ∈ x.os,f.1=c.key
theorem oneC_small {v:V} {a:Ac} {c:Cm} (h:oneC v a=some c):Small v c:=by
  have hpl:(aimPath v a.path).length≤5:=by unfold aimPath wayP;rw [List.length_take,List.length_take];omega
  unfold oneC at h
  obtain ⟨p,hp⟩:∃p,aimPath v a.path=p:=⟨_,rfl⟩
  rw [hp] at h hpl
  have hps:=plainS_size a.s
  have hb:=(build_light a.v).2.1
  have hn:=weight_none
  unfold oneX at h
  split at h
  · injection h with h;subst h
    exact ⟨by dsimp only;omega,Nat.zero_le _,hpl, .inl (Nat.zero_le _)⟩
  · split at h
    · injection h with h;subst h
      unfold textA
      split
      · exact ⟨by show V.none.weight≤_;omega,Nat.zero_le _,hpl, .inl (Nat.zero_le _)⟩
      · refine ⟨by show V.none.weight≤_;omega, ?_,hpl, .inl (Nat.zero_le _)⟩
        show ({ data:= #[120] } ++plainS a.s:ByteArray).size≤41
        rw [ByteArray.size_append]
        have:({ data:= #[120] } :ByteArray).size=1:=rfl
        omega
    · split at h
      · injection h with h;subst h
        refine ⟨?_,Nat.zero_le _,hpl, .inl (Nat.zero_le _)⟩
        show (listV _ _ _).weight≤_
        unfold listV
        split<;>omega
      · split at h
        · injection h with h;subst h
          refine ⟨?_,Nat.zero_le _,hpl, ?_⟩
          · show (fieldV _ _ _).weight≤_
            unfold fieldV
            split<;>omega
          · show (fieldKey _ _).size≤40∨∀x,getP v p=some x→∃f ∈ x.os,f.1=fieldKey _ _
            unfold fieldKey
            split
            · rename_i hc
              right
              intro x hx
              have hxx:xAt v p=x:=by rw [xAt,hx];rfl
              rw [hxx] at hc ⊢
              have hlt:(max a.bare.i 0 % (x.os.length:Int)).toNat<x.os.length:=by
                have h1:=Int.emod_nonneg (max a.bare.i 0) (show (x.os.length:Int)≠0 by omega)
                have h2:=Int.emod_lt_of_pos (max a.bare.i 0) (show (0:Int)<x.os.length by omega)
                omega
              refine ⟨x.os[(max a.bare.i 0 % (x.os.length:Int)).toNat]'hlt,List.getElem_mem _, ?_⟩
              simp only [List.getD_eq_getElem?_getD,List.getElem?_eq_getElem hlt,Option.getD_some]
            · left;exact hps
        · cases h
theorem aim_step {v:V} {a:Ac} {c:Cm} (h:oneC v a=some c) (hd:(doP v c).2=0):(doP v c).1.weight≤v.weight+20100:=by
  have hs:=oneC_small h
  have h1:=hs.sv;have h2:=hs.ss
  have:=doP_weight hd hs.sk
  omega
end Go.Proofs.YtgcfhkceejcliaaGreatDoor
namespace Go.Proofs.YtgcfhkceejcliaaGreatDoor
open Go.RowKit
def sliceN:Value→Nat
  | .slice _ n _=>n
  |_=>0
theorem IsSteps.take {w:World} {B:Nat} {l:List St} {a:Option Addr} {n c:Nat} (h:IsSteps w B l a n c) (k:Nat) (hk:k≤n):IsSteps w B (l.take k) a k c:=by
  obtain ⟨h1,h2,h3,h4,b,o,h5,h6⟩:=h
  refine ⟨by rw [List.length_take];omega,by omega,h3,by omega,b,o,fun hn=>h5 (by omega),fun i hi=> ?_⟩
  rw [List.length_take] at hi
  rw [List.getElem_take];exact h6 i (by omega)
theorem isSteps_S {W W':World} {S S':Nat→Prop} {B:Nat} {p:List St} {a:Option Addr} {n c:Nat} (h:IsSteps (only S W) B p a n c) (hB:B=W.heap.size) (hz:W.heap.size≤W'.heap.size) (hs:∀k,S k→k<W.heap.size→S' k∧W'.heap[k]? =W.heap[k]?):IsSteps (only S' W') W'.heap.size p a n c:=by
  subst hB;exact (h.sub (shows_step hs)).more hz
theorem isVal_S {W W':World} {S S':Nat→Prop} {B:Nat} {x:V} {c:VC} (h:IsVal (only S W) B x c) (hB:B=W.heap.size) (hz:W.heap.size≤W'.heap.size) (hs:∀k,S k→k<W.heap.size→S' k∧W'.heap[k]? =W.heap[k]?):IsVal (only S' W') W'.heap.size x c:=by
  subst hB;exact (h.sub (shows_step hs)).more hz
theorem GetPost.any {w w':World} {r:Option V} {e:Ending} (h:GetPost w r e w'):∃(c:VC) (i:Int),e= .returned (.tuple #[.agg #[.int .u8 c.k, .int .i64 c.n, .string c.s, .slice c.la c.ll c.lc, .slice c.oa c.ol c.oc], .int .i64 i])∧IsVal (only (fun b=>w.heap.size≤b) w') w'.heap.size (r.getD V.none) c∧Below w.heap.size w w':=by
  obtain ⟨h1,h2⟩:=h
  cases r with
  |none=>exact ⟨vzero,30,h1,isVal_none _ _,h2⟩
  |some x=>obtain ⟨c,e,hI⟩:=h1;exact ⟨c,0,e,hI,h2⟩
structure OH (w wr:World) (c:VC) (a:AC) (xb:Nat) (x:V) (cx:VC):Prop where
  v:BC wr w.heap.size (vcells c)
  a:BC wr (w.heap.size+1) (acells a)
  r:BC wr (w.heap.size+1+1) (ccells czero)
  bx:BC wr xb (vcells cx)
  val:IsVal (only (fun b=>b≠xb) wr) wr.heap.size x cx
  lo:w.heap.size+3≤xb
  below:Below w.heap.size w wr
structure OH0 (w W:World) (c:VC) (a:AC):Prop where
  v:BC W w.heap.size (vcells c)
  a:BC W (w.heap.size+1) (acells a)
  r:BC W (w.heap.size+1+1) (ccells czero)
  below:Below w.heap.size w W
theorem OH0.next {w W W':World} {c:VC} {a:AC} {B:Nat} (h:OH0 w W c a) (hb:Below B W W') (hB:w.heap.size+3≤B):OH0 w W' c a:=
  ⟨h.v.keep hb (by omega),h.a.keep hb (by omega),h.r.keep hb (by omega),h.below.trans (hb.mono (by omega))⟩
theorem OH0.start (w:World) (x:VC) (a:AC) (t1 t2 t3:TypeId):OH0 w (((w.alloc (.cells #[.int .u8 x.k, .int .i64 x.n, .string x.s, .slice x.la x.ll x.lc, .slice x.oa x.ol x.oc] t1)).alloc (.cells #[.slice a.pa a.pl a.pc, .int .u8 a.k, .int .i64 a.i, .int .i64 a.j, .int .i64 a.n, .string a.s, .slice a.va a.vl a.vc] t2)).alloc (.cells #[.int .u8 0, .slice none 0 0, .string { data:= #[] }, .int .i64 0, .int .i64 0, .int .i64 0, .int .u8 0, .int .i64 0, .string { data:= #[] }, .slice none 0 0, .slice none 0 0, .string { data:= #[] }] t3)) x a:=by
  obtain ⟨w1,hw1⟩:∃w1,w.alloc (.cells #[.int .u8 x.k, .int .i64 x.n, .string x.s, .slice x.la x.ll x.lc, .slice x.oa x.ol x.oc] t1)=w1:=⟨_,rfl⟩
  have s1:w1.heap.size=w.heap.size+1:=by rw [←hw1,World.size_alloc]
  have b1:Below w.heap.size w w1:=by rw [←hw1];exact (Below.refl _ _).alloc (Nat.le_refl _) _
  have c1:BC w1 w.heap.size (vcells x):=by rw [←hw1];exact BC.start w #[.int .u8 x.k, .int .i64 x.n, .string x.s, .slice x.la x.ll x.lc, .slice x.oa x.ol x.oc] t1
  rw [hw1]
  obtain ⟨w2,hw2⟩:∃w2,w1.alloc (.cells #[.slice a.pa a.pl a.pc, .int .u8 a.k, .int .i64 a.i, .int .i64 a.j, .int .i64 a.n, .string a.s, .slice a.va a.vl a.vc] t2)=w2:=⟨_,rfl⟩
  have s2:w2.heap.size=w.heap.size+1+1:=by rw [←hw2,World.size_alloc,s1]
  have b2:Below w1.heap.size w1 w2:=by rw [←hw2];exact (Below.refl _ _).alloc (Nat.le_refl _) _
  have c2:=BC.start w1 #[.slice a.pa a.pl a.pc, .int .u8 a.k, .int .i64 a.i, .int .i64 a.j, .int .i64 a.n, .string a.s, .slice a.va a.vl a.vc] t2
  rw [hw2,s1] at c2
  rw [hw2]
  have b3:Below w2.heap.size w2 (w2.alloc (.cells #[.int .u8 0, .slice none 0 0, .string { data:= #[] }, .int .i64 0, .int .i64 0, .int .i64 0, .int .u8 0, .int .i64 0, .string { data:= #[] }, .slice none 0 0, .slice none 0 0, .string { data:= #[] }] t3)):=(Below.refl _ _).alloc (Nat.le_refl _) _
  have c3:=BC.start w2 #[.int .u8 0, .slice none 0 0, .string { data:= #[] }, .int .i64 0, .int .i64 0, .int .i64 0, .int .u8 0, .int .i64 0, .string { data:= #[] }, .slice none 0 0, .slice none 0 0, .string { data:= #[] }] t3
  rw [s2] at c3
  exact ⟨(c1.keep b2 (by omega)).keep b3 (by omega),c2.keep b3 (by omega),c3,(b1.trans (b2.mono (by omega))).trans (b3.mono (by omega))⟩
theorem OH.start {w W W':World} {c:VC} {a:AC} {x:V} {cx:VC} {t:TypeId} (h:OH0 w W c a) (hz:w.heap.size+3≤W.heap.size) (hI:IsVal (only (fun b=>W.heap.size≤b) W') W'.heap.size x cx) (hb:Below W.heap.size W W'):OH w (W'.alloc (.cells #[.int .u8 cx.k, .int .i64 cx.n, .string cx.s, .slice cx.la cx.ll cx.lc, .slice cx.oa cx.ol cx.oc] t)) c a W'.heap.size x cx:=by
  have h1:=h.next hb hz
  have hb2:Below W'.heap.size W' (W'.alloc (.cells #[.int .u8 cx.k, .int .i64 cx.n, .string cx.s, .slice cx.la cx.ll cx.lc, .slice cx.oa cx.ol cx.oc] t)):=(Below.refl _ _).alloc (Nat.le_refl _) _
  have h2:=h1.next hb2 (by have:=hb.size;omega)
  exact ⟨h2.v,h2.a,h2.r,BC.start _ _ _,isVal_S hI rfl hb2.size fun k _ hl=>⟨by omega,hb2.block k hl⟩,by have:=hb.size;omega,h2.below⟩
theorem OH.next {w W W':World} {c:VC} {a:AC} {xb:Nat} {x:V} {cx:VC} (h:OH w W c a xb x cx) (hb:Below W.heap.size W W'):OH w W' c a xb x cx:=
  ⟨h.v.keep hb h.v.lt,h.a.keep hb h.a.lt,h.r.keep hb h.r.lt,h.bx.keep hb h.bx.lt,isVal_S h.val rfl hb.size fun k hk hl=>⟨hk,hb.block k hl⟩,h.lo,h.below.trans (hb.mono h.below.size)⟩
theorem OH.round {w W W':World} {c:VC} {a:AC} {xb:Nat} {x y:V} {cx cy:VC} (h:OH w W c a xb x cx) (hb:Below W.heap.size W W') (hI:IsVal (only (fun b=>W.heap.size≤b) W') W'.heap.size y cy):OH w (setV W' xb 0 cy) c a xb y cy:=by
  have h1:=h.next hb
  have hl:=h.lo
  have hxl:=h.bx.lt
  have st:=setV_step W' xb 0 cy
  exact ⟨h1.v.next st (by omega),h1.a.next st (by omega),h1.r.next st (by omega),bc_store h1.bx cy,isVal_S hI rfl st.size fun k hk hl=>⟨by omega,st.block k hl (by omega)⟩,hl,Below.set5' h1.below (by omega) _ _ _ _ _⟩
def setC (W:World) (b:Nat) (d:CC):World:=((((((((((((W.setCell ⟨b,0,none⟩ (.int .u8 d.k)).setCell ⟨b,1,none⟩ (.slice d.pa d.pl d.pc)).setCell ⟨b,2,none⟩ (.string d.key)).setCell ⟨b,3,none⟩ (.int .i64 d.i)).setCell ⟨b,4,none⟩ (.int .i64 d.j)).setCell ⟨b,5,none⟩ (.int .i64 d.n)).setCell ⟨b,6,none⟩ (.int .u8 d.v.k)).setCell ⟨b,7,none⟩ (.int .i64 d.v.n)).setCell ⟨b,8,none⟩ (.string d.v.s)).setCell ⟨b,9,none⟩ (.slice d.v.la d.v.ll d.v.lc)).setCell ⟨b,10,none⟩ (.slice d.v.oa d.v.ol d.v.oc)).setCell ⟨b,11,none⟩ (.string d.s))
theorem setC_st (W:World) (b:Nat) (d:CC):RStep W (setC W b d) b:=setC_step W b d
def OnePost (w:World) (r:Option Cm) (e:Ending) (w':World):Prop:=
  (∃cc:CC,match r with
    |some x=>e= .returned (.tuple #[.agg #[.int .u8 cc.k, .slice cc.pa cc.pl cc.pc, .string cc.key, .int .i64 cc.i, .int .i64 cc.j, .int .i64 cc.n, .int .u8 cc.v.k, .int .i64 cc.v.n, .string cc.v.s, .slice cc.v.la cc.v.ll cc.v.lc, .slice cc.v.oa cc.v.ol cc.v.oc, .string cc.s], .int .i64 1])∧IsComp (only (fun b=>w.heap.size≤b) w') w'.heap.size x cc
    |none=>e= .returned (.tuple #[.agg #[.int .u8 cc.k, .slice cc.pa cc.pl cc.pc, .string cc.key, .int .i64 cc.i, .int .i64 cc.j, .int .i64 cc.n, .int .u8 cc.v.k, .int .i64 cc.v.n, .string cc.v.s, .slice cc.v.la cc.v.ll cc.v.lc, .slice cc.v.oa cc.v.ol cc.v.oc, .string cc.s], .int .i64 0]))∧Below w.heap.size w w'
theorem results_one6 {tmps:Array Value} {W:World} {b:Nat} {d:CC} {y:Value} (ht:tmps[4]? =some (.pointer (some ⟨b,0,none⟩))) (hy:tmps[5]? =some y) (h:BC W b (ccells d)):
    (results Tryz.f42 tmps).run Tryz.prog W= .ok (.tuple #[.agg #[.int .u8 d.k, .slice d.pa d.pl d.pc, .string d.key, .int .i64 d.i, .int .i64 d.j, .int .i64 d.n, .int .u8 d.v.k, .int .i64 d.v.n, .string d.v.s, .slice d.v.la d.v.ll d.v.lc, .slice d.v.oa d.v.ol d.v.oc, .string d.s],y]) W:=by
  obtain ⟨r0,r1,r2,r3,r4,r5,r6,r7,r8,r9,r10,r11⟩:=row12 h.at_
  simp [results,Tryz.results42,go_sem,ht,hy,r0,r1,r2,r3,r4,r5,r6,r7,r8,r9,r10,r11]
theorem one6_leave {w W:World} {d:CC} {p:List St} {x:V} {A:Act} (hr:BC W (w.heap.size+1+1) (ccells czero)) (hp:IsSteps (only (fun b=>w.heap.size+3≤b) W) W.heap.size p d.pa d.pl d.pc) (hx:IsVal (only (fun b=>w.heap.size+3≤b) W) W.heap.size x d.v) (hb:Below w.heap.size w W) (hd:d.Bnd) (ht:A.tmps[4]? =some (.pointer (some ⟨w.heap.size+1+1,0,none⟩))) (hy:A.tmps[5]? =some (.int .i64 1)) (hA:A.defers= []):
    bodyPost Tryz.prog Tryz.f42 (OnePost w (some (cmOf p x d))) .ret A (setC W (w.heap.size+1+1) d):=by
  have st:=setC_st W (w.heap.size+1+1) d
  refine ⟨hA,_,results_one6 ht hy (bc_storeC hr d),⟨d,rfl, ?_⟩,Below.setC hb (by omega) d⟩
  exact .mk d p x hd (isSteps_S hp rfl st.size fun k hk hl=>⟨by omega,st.block k hl (by omega)⟩) (isVal_S hx rfl st.size fun k hk hl=>⟨by omega,st.block k hl (by omega)⟩)
theorem one6_leave0 {w W:World} {d:CC} {A:Act} (hr:BC W (w.heap.size+1+1) (ccells czero)) (hb:Below w.heap.size w W) (ht:A.tmps[4]? =some (.pointer (some ⟨w.heap.size+1+1,0,none⟩))) (hy:A.tmps[5]? =some (.int .i64 0)) (hA:A.defers= []):
    bodyPost Tryz.prog Tryz.f42 (OnePost w none) .ret A (setC W (w.heap.size+1+1) d):=
  ⟨hA,_,results_one6 ht hy (bc_storeC hr d),⟨d,rfl⟩,Below.setC hb (by omega) d⟩
end Go.Proofs.YtgcfhkceejcliaaGreatDoor
namespace Go.Proofs.YtgcfhkceejcliaaGreatDoor
open Go.RowKit
theorem IsB.later6 {w w':World} {a:Option Addr} {n c:Nat} {bs:List UInt8} (h:IsB w w.heap.size a n c bs) (hb:Below w.heap.size w w'):IsB w' w'.heap.size a n c bs:=by
  obtain ⟨h1,h2,h3,b,o,h5,h6⟩:=h.keep hb
  exact ⟨h1,h2,h3,b,o,fun h=>⟨(h5 h).1,Nat.lt_of_lt_of_le (h5 h).2 hb.size⟩,h6⟩
theorem isVal_kd {w:World} {B:Nat} {v:V} {c:VC} (h:IsVal w B v c):v.kd=c.k:=by
  obtain ⟨k,n,s,l,o,rfl⟩:=v.eta
  exact h.lists.1.symm
def pathC (pa:Option Addr) (k pc:Nat):CC:=⟨0,pa,k,pc, .empty,0,0,0,vzero, .empty⟩
theorem empty_small:ByteArray.empty.size≤140737488355328:=by decide
theorem pathC_bnd (pa:Option Addr) (k pc:Nat):(pathC pa k pc).Bnd:=
  ⟨by simp [pathC],by simp [pathC],by simp [pathC],by simp [pathC],by simp [pathC],by simp [pathC],by simp [pathC],by simp [pathC],empty_small,empty_small⟩
theorem emod_bnd (x:Int) (n:Nat) (hn:n≤1466015503701) (h0:0<n):0≤max x 0 % (n:Int)∧max x 0 % (n:Int)<n:=⟨Int.emod_nonneg _ (by omega),Int.emod_lt_of_pos _ (by omega)⟩
theorem textA_bnd {n:Nat} (hn:n≤1000000000000) {a:AC} {c:CC} (hc:c.Bnd):(textA n a c).Bnd:=by
  obtain ⟨k0,k1,i0,i1,j0,j1,n0,n1,ks,ss⟩:=hc
  unfold textA
  split
  · rename_i h
    have hi:=emod_bnd a.i n (by omega) h.1
    have hj0:0≤max a.j 0 % ((n:Int) - max a.i 0 % n):=Int.emod_nonneg _ (by omega)
    have hj1:max a.j 0 % ((n:Int) - max a.i 0 % n)<(n:Int) - max a.i 0 % n:=Int.emod_lt_of_pos _ (by omega)
    exact ⟨by dsimp only;omega,by dsimp only;omega,by dsimp only;omega,by dsimp only;omega,j0,j1,by dsimp only;omega,by dsimp only;omega,ks,empty_small⟩
  · have hi:=emod_bnd a.i (n+1) (by omega) (by omega)
    push_cast at hi
    have h1:=plainS_size a.s
    refine ⟨by dsimp only;omega,by dsimp only;omega,by dsimp only;omega,by dsimp only;omega,j0,j1,n0,n1,ks, ?_⟩
    show ({ data:= #[120] } ++plainS a.s:ByteArray).size≤_
    rw [ByteArray.size_append]
    have:({ data:= #[120] } :ByteArray).size=1:=rfl
    omega
theorem listK_bnd {n:Nat} {k:Int} :4≤listK n k∧listK n k≤7:=by
  unfold listK;split<;>omega
theorem listA_bnd {n:Nat} (hn:n≤1466015503700) {a:AC} {c:CC} (hc:c.Bnd) (cv:VC):(listA n a c cv).Bnd:=by
  obtain ⟨k0,k1,i0,i1,j0,j1,n0,n1,ks,ss⟩:=hc
  have hk:=listK_bnd (n:=n) (k:=a.k)
  unfold listA
  have hi: -9223372036854775808≤(if listK n a.k=4 then max a.i 0 % ((n:Int)+1) else max a.i 0 % n)∧(if listK n a.k=4 then max a.i 0 % ((n:Int)+1) else max a.i 0 % n)≤9223372036854775807:=by
    split
    · have:=emod_bnd a.i (n+1) (by omega) (by omega);push_cast at this;omega
    · rename_i h
      have hn0:0<n:=by
        rcases Nat.eq_zero_or_pos n with h0|h0
        · exact absurd (by rw [listK,if_pos h0]) h
        · exact h0
      have:=emod_bnd a.i n (by omega) hn0;omega
  have hj: -9223372036854775808≤(if listK n a.k=7 then max a.j 0 % (n:Int) else c.j)∧(if listK n a.k=7 then max a.j 0 % (n:Int) else c.j)≤9223372036854775807:=by
    split
    · rename_i h
      have hn0:0<n:=by
        rcases Nat.eq_zero_or_pos n with h0|h0
        · rw [listK,if_pos h0] at h;omega
        · exact h0
      have:=emod_bnd a.j n (by omega) hn0;omega
    · exact ⟨j0,j1⟩
  exact ⟨by dsimp only;omega,by dsimp only;omega,hi.1,hi.2,hj.1,hj.2,n0,n1,ks,ss⟩
theorem fieldA_bnd {w:World} {B:Nat} {o:List (ByteArray×V)} {oa:Option Addr} {ol oc:Nat} (ho:IsFields w B o oa ol oc) {a:AC} {c:CC} (hc:c.Bnd) (cv:VC):(fieldA o a c cv).Bnd:=by
  obtain ⟨k0,k1,i0,i1,j0,j1,n0,n1,ks,ss⟩:=hc
  have hp:=plainS_size a.s
  have hk:(fieldKey o a).size≤140737488355328:=by
    unfold fieldKey
    split
    · rename_i h
      have hi:=emod_bnd a.i o.length (by have:=ho.few;have:=ho.len;omega) h.1
      have hlt:(max a.i 0 % (o.length:Int)).toNat<ol:=by rw [ho.len];omega
      obtain ⟨_,_,_,hq,_,_,_,hs,_,_⟩:=ho.get hlt
      simp only [List.getD_eq_getElem?_getD,List.getElem?_eq_getElem hq,Option.getD_some]
      exact hs
    · omega
  unfold fieldA
  refine ⟨?_, ?_,i0,i1,j0,j1,n0,n1,hk,ss⟩
  · dsimp only;split<;>omega
  · dsimp only;split<;>omega
end Go.Proofs.YtgcfhkceejcliaaGreatDoor
namespace Go.Proofs.YtgcfhkceejcliaaGreatDoor
open Go.RowKit
structure FXB (w W:World) (c:CC) (a:AC) (x:VC):Prop where
  c:BC W w.heap.size (ccells c)
  a:BC W (w.heap.size+1) (acells a)
  x:BC W (w.heap.size+1+1) (vcells x)
  r:BC W (w.heap.size+1+1+1) (ccells czero)
  below:Below w.heap.size w W
theorem FXB.start (w:World) (c:CC) (a:AC) (x:VC) (t1 t2 t3 t4:TypeId):FXB w ((((w.alloc (.cells #[.int .u8 c.k, .slice c.pa c.pl c.pc, .string c.key, .int .i64 c.i, .int .i64 c.j, .int .i64 c.n, .int .u8 c.v.k, .int .i64 c.v.n, .string c.v.s, .slice c.v.la c.v.ll c.v.lc, .slice c.v.oa c.v.ol c.v.oc, .string c.s] t1)).alloc (.cells #[.slice a.pa a.pl a.pc, .int .u8 a.k, .int .i64 a.i, .int .i64 a.j, .int .i64 a.n, .string a.s, .slice a.va a.vl a.vc] t2)).alloc (.cells #[.int .u8 x.k, .int .i64 x.n, .string x.s, .slice x.la x.ll x.lc, .slice x.oa x.ol x.oc] t3)).alloc (.cells #[.int .u8 0, .slice none 0 0, .string { data:= #[] }, .int .i64 0, .int .i64 0, .int .i64 0, .int .u8 0, .int .i64 0, .string { data:= #[] }, .slice none 0 0, .slice none 0 0, .string { data:= #[] }] t4)) c a x:=by
  obtain ⟨w1,hw1⟩:∃w1,w.alloc (.cells #[.int .u8 c.k, .slice c.pa c.pl c.pc, .string c.key, .int .i64 c.i, .int .i64 c.j, .int .i64 c.n, .int .u8 c.v.k, .int .i64 c.v.n, .string c.v.s, .slice c.v.la c.v.ll c.v.lc, .slice c.v.oa c.v.ol c.v.oc, .string c.s] t1)=w1:=⟨_,rfl⟩
  have s1:w1.heap.size=w.heap.size+1:=by rw [←hw1,World.size_alloc]
  have b1:Below w.heap.size w w1:=by rw [←hw1];exact (Below.refl _ _).alloc (Nat.le_refl _) _
  have c1:BC w1 w.heap.size (ccells c):=by rw [←hw1];exact BC.start w #[.int .u8 c.k, .slice c.pa c.pl c.pc, .string c.key, .int .i64 c.i, .int .i64 c.j, .int .i64 c.n, .int .u8 c.v.k, .int .i64 c.v.n, .string c.v.s, .slice c.v.la c.v.ll c.v.lc, .slice c.v.oa c.v.ol c.v.oc, .string c.s] t1
  rw [hw1]
  obtain ⟨w2,hw2⟩:∃w2,w1.alloc (.cells #[.slice a.pa a.pl a.pc, .int .u8 a.k, .int .i64 a.i, .int .i64 a.j, .int .i64 a.n, .string a.s, .slice a.va a.vl a.vc] t2)=w2:=⟨_,rfl⟩
  have s2:w2.heap.size=w.heap.size+1+1:=by rw [←hw2,World.size_alloc,s1]
  have b2:Below w1.heap.size w1 w2:=by rw [←hw2];exact (Below.refl _ _).alloc (Nat.le_refl _) _
  have c2:=BC.start w1 #[.slice a.pa a.pl a.pc, .int .u8 a.k, .int .i64 a.i, .int .i64 a.j, .int .i64 a.n, .string a.s, .slice a.va a.vl a.vc] t2
  rw [hw2,s1] at c2
  rw [hw2]
  obtain ⟨w3,hw3⟩:∃w3,w2.alloc (.cells #[.int .u8 x.k, .int .i64 x.n, .string x.s, .slice x.la x.ll x.lc, .slice x.oa x.ol x.oc] t3)=w3:=⟨_,rfl⟩
  have s3:w3.heap.size=w.heap.size+1+1+1:=by rw [←hw3,World.size_alloc,s2]
  have b3:Below w2.heap.size w2 w3:=by rw [←hw3];exact (Below.refl _ _).alloc (Nat.le_refl _) _
  have c3:=BC.start w2 #[.int .u8 x.k, .int .i64 x.n, .string x.s, .slice x.la x.ll x.lc, .slice x.oa x.ol x.oc] t3
  rw [hw3,s2] at c3
  rw [hw3]
  have b4:Below w3.heap.size w3 (w3.alloc (.cells #[.int .u8 0, .slice none 0 0, .string { data:= #[] }, .int .i64 0, .int .i64 0, .int .i64 0, .int .u8 0, .int .i64 0, .string { data:= #[] }, .slice none 0 0, .slice none 0 0, .string { data:= #[] }] t4)):=(Below.refl _ _).alloc (Nat.le_refl _) _
  have c4:=BC.start w3 #[.int .u8 0, .slice none 0 0, .string { data:= #[] }, .int .i64 0, .int .i64 0, .int .i64 0, .int .u8 0, .int .i64 0, .string { data:= #[] }, .slice none 0 0, .slice none 0 0, .string { data:= #[] }] t4
  rw [s3] at c4
  exact ⟨((c1.keep b2 (by omega)).keep b3 (by omega)).keep b4 (by omega),(c2.keep b3 (by omega)).keep b4 (by omega),c3.keep b4 (by omega),c4,((b1.trans (b2.mono (by omega))).trans (b3.mono (by omega))).trans (b4.mono (by omega))⟩
theorem FXB.next {w W W':World} {c:CC} {a:AC} {x:VC} {B:Nat} (h:FXB w W c a x) (hb:Below B W W') (hB:w.heap.size+4≤B):FXB w W' c a x:=
  ⟨h.c.keep hb (by omega),h.a.keep hb (by omega),h.x.keep hb (by omega),h.r.keep hb (by omega),h.below.trans (hb.mono (by omega))⟩
theorem FXB.key {w W:World} {c:CC} {a:AC} {x:VC} (h:FXB w W c a x) (s:ByteArray):FXB w (W.setCell ⟨w.heap.size,2,none⟩ (.string s)) { c with key:=s } a x:=
  ⟨h.c.set (i:=2) (x:= .string s) (by simp [ccells]),h.a.far (by omega),h.x.far (by omega),h.r.far (by omega),h.below.set_ (Nat.le_refl _)⟩
theorem FXB.facts {w W:World} {c:CC} {a:AC} {x:VC} (B:FXB w W c a x):W.cell? ⟨w.heap.size,0,none⟩=some (.int .u8 c.k)∧W.cell? ⟨w.heap.size,1,none⟩=some (.slice c.pa c.pl c.pc)∧W.cell? ⟨w.heap.size,2,none⟩=some (.string c.key)∧W.cell? ⟨w.heap.size,3,none⟩=some (.int .i64 c.i)∧W.cell? ⟨w.heap.size,4,none⟩=some (.int .i64 c.j)∧W.cell? ⟨w.heap.size,5,none⟩=some (.int .i64 c.n)∧W.cell? ⟨w.heap.size,6,none⟩=some (.int .u8 c.v.k)∧W.cell? ⟨w.heap.size,7,none⟩=some (.int .i64 c.v.n)∧W.cell? ⟨w.heap.size,8,none⟩=some (.string c.v.s)∧W.cell? ⟨w.heap.size,9,none⟩=some (.slice c.v.la c.v.ll c.v.lc)∧W.cell? ⟨w.heap.size,10,none⟩=some (.slice c.v.oa c.v.ol c.v.oc)∧W.cell? ⟨w.heap.size,11,none⟩=some (.string c.s)∧W.cell? ⟨w.heap.size+1,0,none⟩=some (.slice a.pa a.pl a.pc)∧W.cell? ⟨w.heap.size+1,1,none⟩=some (.int .u8 a.k)∧W.cell? ⟨w.heap.size+1,2,none⟩=some (.int .i64 a.i)∧W.cell? ⟨w.heap.size+1,3,none⟩=some (.int .i64 a.j)∧W.cell? ⟨w.heap.size+1,4,none⟩=some (.int .i64 a.n)∧W.cell? ⟨w.heap.size+1,5,none⟩=some (.string a.s)∧W.cell? ⟨w.heap.size+1,6,none⟩=some (.slice a.va a.vl a.vc)∧W.cell? ⟨w.heap.size+1+1,0,none⟩=some (.int .u8 x.k)∧W.cell? ⟨w.heap.size+1+1,1,none⟩=some (.int .i64 x.n)∧W.cell? ⟨w.heap.size+1+1,2,none⟩=some (.string x.s)∧W.cell? ⟨w.heap.size+1+1,3,none⟩=some (.slice x.la x.ll x.lc)∧W.cell? ⟨w.heap.size+1+1,4,none⟩=some (.slice x.oa x.ol x.oc)∧W.cell? ⟨w.heap.size+1+1+1,0,none⟩=some (.int .u8 0)∧W.cell? ⟨w.heap.size+1+1+1,1,none⟩=some (.slice none 0 0)∧W.cell? ⟨w.heap.size+1+1+1,2,none⟩=some (.string { data:= #[] })∧W.cell? ⟨w.heap.size+1+1+1,3,none⟩=some (.int .i64 0)∧W.cell? ⟨w.heap.size+1+1+1,4,none⟩=some (.int .i64 0)∧W.cell? ⟨w.heap.size+1+1+1,5,none⟩=some (.int .i64 0)∧W.cell? ⟨w.heap.size+1+1+1,6,none⟩=some (.int .u8 0)∧W.cell? ⟨w.heap.size+1+1+1,7,none⟩=some (.int .i64 0)∧W.cell? ⟨w.heap.size+1+1+1,8,none⟩=some (.string { data:= #[] })∧W.cell? ⟨w.heap.size+1+1+1,9,none⟩=some (.slice none 0 0)∧W.cell? ⟨w.heap.size+1+1+1,10,none⟩=some (.slice none 0 0)∧W.cell? ⟨w.heap.size+1+1+1,11,none⟩=some (.string { data:= #[] })∧W.frozen? ⟨w.heap.size,0,none⟩=false∧W.frozen? ⟨w.heap.size,1,none⟩=false∧W.frozen? ⟨w.heap.size,2,none⟩=false∧W.frozen? ⟨w.heap.size,3,none⟩=false∧W.frozen? ⟨w.heap.size,4,none⟩=false∧W.frozen? ⟨w.heap.size,5,none⟩=false∧W.frozen? ⟨w.heap.size,6,none⟩=false∧W.frozen? ⟨w.heap.size,7,none⟩=false∧W.frozen? ⟨w.heap.size,8,none⟩=false∧W.frozen? ⟨w.heap.size,9,none⟩=false∧W.frozen? ⟨w.heap.size,10,none⟩=false∧W.frozen? ⟨w.heap.size,11,none⟩=false∧W.frozen? ⟨w.heap.size+1+1+1,0,none⟩=false∧W.frozen? ⟨w.heap.size+1+1+1,1,none⟩=false∧W.frozen? ⟨w.heap.size+1+1+1,2,none⟩=false∧W.frozen? ⟨w.heap.size+1+1+1,3,none⟩=false∧W.frozen? ⟨w.heap.size+1+1+1,4,none⟩=false∧W.frozen? ⟨w.heap.size+1+1+1,5,none⟩=false∧W.frozen? ⟨w.heap.size+1+1+1,6,none⟩=false∧W.frozen? ⟨w.heap.size+1+1+1,7,none⟩=false∧W.frozen? ⟨w.heap.size+1+1+1,8,none⟩=false∧W.frozen? ⟨w.heap.size+1+1+1,9,none⟩=false∧W.frozen? ⟨w.heap.size+1+1+1,10,none⟩=false∧W.frozen? ⟨w.heap.size+1+1+1,11,none⟩=false∧w.heap.size<W.heap.size∧w.heap.size+1<W.heap.size∧w.heap.size+1+1<W.heap.size∧w.heap.size+1+1+1<W.heap.size:=
  ⟨B.c.at_ 0 _ rfl,B.c.at_ 1 _ rfl,B.c.at_ 2 _ rfl,B.c.at_ 3 _ rfl,B.c.at_ 4 _ rfl,B.c.at_ 5 _ rfl,B.c.at_ 6 _ rfl,B.c.at_ 7 _ rfl,B.c.at_ 8 _ rfl,B.c.at_ 9 _ rfl,B.c.at_ 10 _ rfl,B.c.at_ 11 _ rfl,B.a.at_ 0 _ rfl,B.a.at_ 1 _ rfl,B.a.at_ 2 _ rfl,B.a.at_ 3 _ rfl,B.a.at_ 4 _ rfl,B.a.at_ 5 _ rfl,B.a.at_ 6 _ rfl,B.x.at_ 0 _ rfl,B.x.at_ 1 _ rfl,B.x.at_ 2 _ rfl,B.x.at_ 3 _ rfl,B.x.at_ 4 _ rfl,B.r.at_ 0 _ rfl,B.r.at_ 1 _ rfl,B.r.at_ 2 _ rfl,B.r.at_ 3 _ rfl,B.r.at_ 4 _ rfl,B.r.at_ 5 _ rfl,B.r.at_ 6 _ rfl,B.r.at_ 7 _ rfl,B.r.at_ 8 _ rfl,B.r.at_ 9 _ rfl,B.r.at_ 10 _ rfl,B.r.at_ 11 _ rfl,B.c.fr 0,B.c.fr 1,B.c.fr 2,B.c.fr 3,B.c.fr 4,B.c.fr 5,B.c.fr 6,B.c.fr 7,B.c.fr 8,B.c.fr 9,B.c.fr 10,B.c.fr 11,B.r.fr 0,B.r.fr 1,B.r.fr 2,B.r.fr 3,B.r.fr 4,B.r.fr 5,B.r.fr 6,B.r.fr 7,B.r.fr 8,B.r.fr 9,B.r.fr 10,B.r.fr 11,B.c.lt,B.a.lt,B.x.lt,B.r.lt⟩
end Go.Proofs.YtgcfhkceejcliaaGreatDoor
namespace Go.Proofs.YtgcfhkceejcliaaGreatDoor
open Go.RowKit
theorem results_afield {tmps:Array Value} {W:World} {b:Nat} {d:CC} (ht:tmps[6]? =some (.pointer (some ⟨b,0,none⟩))) (h:BC W b (ccells d)):
    (results Tryz.f81 tmps).run Tryz.prog W= .ok (.agg #[.int .u8 d.k, .slice d.pa d.pl d.pc, .string d.key, .int .i64 d.i, .int .i64 d.j, .int .i64 d.n, .int .u8 d.v.k, .int .i64 d.v.n, .string d.v.s, .slice d.v.la d.v.ll d.v.lc, .slice d.v.oa d.v.ol d.v.oc, .string d.s]) W:=by
  obtain ⟨r0,r1,r2,r3,r4,r5,r6,r7,r8,r9,r10,r11⟩:=row12 h.at_
  simp [results,Tryz.results81,go_sem,ht,r0,r1,r2,r3,r4,r5,r6,r7,r8,r9,r10,r11]
def FieldAPost (w:World) (o:List (ByteArray×V)) (a:AC) (c:CC) (l:List Tk) (e:Ending) (w':World):Prop:=
  (∃cv:VC,e= .returned (.agg #[.int .u8 (fieldA o a c cv).k, .slice (fieldA o a c cv).pa (fieldA o a c cv).pl (fieldA o a c cv).pc, .string (fieldA o a c cv).key, .int .i64 (fieldA o a c cv).i, .int .i64 (fieldA o a c cv).j, .int .i64 (fieldA o a c cv).n, .int .u8 (fieldA o a c cv).v.k, .int .i64 (fieldA o a c cv).v.n, .string (fieldA o a c cv).v.s, .slice (fieldA o a c cv).v.la (fieldA o a c cv).v.ll (fieldA o a c cv).v.lc, .slice (fieldA o a c cv).v.oa (fieldA o a c cv).v.ol (fieldA o a c cv).v.oc, .string (fieldA o a c cv).s])∧IsVal (only (fun b=>w.heap.size≤b) w') w'.heap.size (fieldV o a l) cv)∧Below w.heap.size w w'
set_option maxHeartbeats 16000000 in
set_option maxRecDepth 100000 in
theorem afield_plaindel (w:World) (c:CC) (hcv:c.v=vzero) (a:AC) (ha:a.Bnd) (x:VC) (o:List (ByteArray×V)) (hx:IsFields w w.heap.size o x.oa x.ol x.oc) (l:List Tk) (hv:IsToks w w.heap.size l a.va a.vl a.vc) (hp:¬(0<x.ol∧0<a.k % 3)) (hB:fieldB o a=true):
    Calls Tryz.prog 81 #[.agg #[.int .u8 c.k, .slice c.pa c.pl c.pc, .string c.key, .int .i64 c.i, .int .i64 c.j, .int .i64 c.n, .int .u8 c.v.k, .int .i64 c.v.n, .string c.v.s, .slice c.v.la c.v.ll c.v.lc, .slice c.v.oa c.v.ol c.v.oc, .string c.s], .agg #[.slice a.pa a.pl a.pc, .int .u8 a.k, .int .i64 a.i, .int .i64 a.j, .int .i64 a.n, .string a.s, .slice a.va a.vl a.vc], .agg #[.int .u8 x.k, .int .i64 x.n, .string x.s, .slice x.la x.ll x.lc, .slice x.oa x.ol x.oc]] w (FieldAPost w o a c l):=by
  have HBD:Hid (∀W,Below w.heap.size w W→Calls Tryz.prog 17 #[.slice a.va a.vl a.vc] W fun e w'=>(∃cv:VC,e= .returned (.agg #[.int .u8 cv.k, .int .i64 cv.n, .string cv.s, .slice cv.la cv.ll cv.lc, .slice cv.oa cv.ol cv.oc])∧IsVal (only (fun b=>W.heap.size≤b) w') w'.heap.size (oneP 6 (l.take 60)).1 cv)∧Below W.heap.size W w'):=fun W hW=>build_own W l _ _ _ (hv.later_ hW)
  have HPL:Hid (∀W,Calls Tryz.prog 104 #[.string a.s] W fun e w'=>e= .returned (.string (plainS a.s))∧Below W.heap.size W w'):=fun W=>plain6_any W a.s ha.s1
  obtain ⟨ps,hps⟩:∃ps,plainS a.s=ps:=⟨_,rfl⟩
  rw [hps] at HPL
  obtain ⟨key,hkey⟩:∃key,fieldKey o a=key:=⟨_,rfl⟩
  have HFI:Hid (∀W,Below w.heap.size w W→Calls Tryz.prog 101 #[.agg #[.int .u8 x.k, .int .i64 x.n, .string x.s, .slice x.la x.ll x.lc, .slice x.oa x.ol x.oc], .string key] W fun e w'=>e= .returned (.tuple #[.int .i64 (fieldK o key:Int), .bool (fieldIs o key)])∧Below W.heap.size W w'):=fun W hW=>field_any W o key _ _ _ _ _ _ _ _ _ (hx.later_ hW)
  obtain ⟨fk,hfk⟩:∃fk,fieldK o key=fk:=⟨_,rfl⟩
  obtain ⟨ib,hib⟩:∃ib,fieldIs o key=ib:=⟨_,rfl⟩
  rw [hfk,hib] at HFI
  have hA:fieldA o a c=fun cv=> { c with k:=3,key:=key,v:=cv } :=by funext cv;rw [fieldA,hB,hkey];simp
  have hV:fieldV o a l=V.none:=by rw [fieldV,hB];simp
  have hB2:ib=true∧a.k % 2=0:=by
    rw [fieldB,hkey,hib] at hB
    simpa using hB
  have HA:=Lib.hid hA;have HV:=Lib.hid hV;have HCV:=Lib.hid hcv
  obtain ⟨PP,hPP⟩:∃PP,FieldAPost w o a c l=PP:=⟨_,rfl⟩
  have HPP:=Lib.hid hPP
  rw [hPP]
  have HB:=Lib.hid (FXB.start w { c with k:=2 } a x 63 85 33 63)
  have hmx:=hx.max;have hfw:=hx.few;have hcp:=hx.cap
  have HLEN:=Lib.hid hx.len
  have i0:=ha.i0;have i1:=ha.i1;have k0:=ha.k0
  have HX:=Lib.hid hx
  have hks:key=ps:=by rw [←hkey,fieldKey, ←HLEN.out,if_neg hp,hps]
  subst hks
  clear hps hkey
  clear hPP hA hV hcv hfk hib hB ha hv hx
  go_enter Tryz.func81,Tryz.ntmps81
  generalize hQ0:bodyPost _ _ _=Q0
  have HQ:=Lib.hid hQ0
  clear hQ0
  go_wp2_with fail
  refine (HPL.out _).mono ?_
  rintro e w1 ⟨rfl,hb1⟩
  have B:=HB.out.next hb1 (by simp)
  obtain ⟨b0,b1,b2,b3,b4,b5,b6,b7,b8,b9,b10,b11,a0,a1,a2,a3,a4,a5,a6,x0,x1,x2,x3,x4,r0,r1,r2,r3,r4,r5,r6,r7,r8,r9,r10,r11,bf0,bf1,bf2,bf3,bf4,bf5,bf6,bf7,bf8,bf9,bf10,bf11,rf0,rf1,rf2,rf3,rf4,rf5,rf6,rf7,rf8,rf9,rf10,rf11,z0,z1,z2,z3⟩:=B.facts
  have HB1:=Lib.hid B
  clear B hb1
  have HBB:=Lib.hid (HB1.out.key key)
  have HKEYB:=Lib.hid HBB.out.below
  go_wp2_with fail
  all_goals
    refine (HFI.out _ HKEYB.out).mono ?_
    rintro e w3 ⟨rfl,hb3⟩
    have B:=HBB.out.next hb3 (by first|omega|(simp;omega))
    obtain ⟨b0,b1,b2,b3,b4,b5,b6,b7,b8,b9,b10,b11,a0,a1,a2,a3,a4,a5,a6,x0,x1,x2,x3,x4,r0,r1,r2,r3,r4,r5,r6,r7,r8,r9,r10,r11,bf0,bf1,bf2,bf3,bf4,bf5,bf6,bf7,bf8,bf9,bf10,bf11,rf0,rf1,rf2,rf3,rf4,rf5,rf6,rf7,rf8,rf9,rf10,rf11,z0,z1,z2,z3⟩:=B.facts
    have HBW:=Lib.hid B
    clear B hb3
    obtain ⟨rfl,hk2⟩:=hB2
    have h2:=bc_storeC (HBW.out.r.far (o:=0) (x:= .int .u8 3) (show w.heap.size+1+1+1≠w.heap.size by omega)) { c with k:=3,key:=key }
    have h3:=Below.setC (HBW.out.below.set_ (o:=0) (x:= .int .u8 3) (Nat.le_refl _)) (show w.heap.size≤w.heap.size+1+1+1 by omega) { c with k:=3,key:=key }
    dsimp only at h2 h3
    have H2:=Lib.hid h2
    have H3:=Lib.hid h3
    clear h2 h3
    go_wp2_with fail
    rw [←HQ.out]
    generalize hA:({ tmps:=_,defers:=_ } :Act)=A
    have h4:A.tmps[6]? =some (.pointer (some ⟨w.heap.size+1+1+1,0,none⟩)):=by rw [←hA];rfl
    have h5:A.defers= [] :=by rw [←hA]
    clear hA
    rw [←HPP.out]
    refine ⟨h5,_,results_afield h4 H2.out, ?_⟩
    exact ⟨⟨c.v,by rw [HA.out],by rw [HV.out,HCV.out];exact isVal_none _ _⟩,H3.out⟩
set_option maxHeartbeats 16000000 in
set_option maxRecDepth 100000 in
theorem afield_plainput (w:World) (c:CC) (hcv:c.v=vzero) (a:AC) (ha:a.Bnd) (x:VC) (o:List (ByteArray×V)) (hx:IsFields w w.heap.size o x.oa x.ol x.oc) (l:List Tk) (hv:IsToks w w.heap.size l a.va a.vl a.vc) (hp:¬(0<x.ol∧0<a.k % 3)) (hB:fieldB o a=false):
    Calls Tryz.prog 81 #[.agg #[.int .u8 c.k, .slice c.pa c.pl c.pc, .string c.key, .int .i64 c.i, .int .i64 c.j, .int .i64 c.n, .int .u8 c.v.k, .int .i64 c.v.n, .string c.v.s, .slice c.v.la c.v.ll c.v.lc, .slice c.v.oa c.v.ol c.v.oc, .string c.s], .agg #[.slice a.pa a.pl a.pc, .int .u8 a.k, .int .i64 a.i, .int .i64 a.j, .int .i64 a.n, .string a.s, .slice a.va a.vl a.vc], .agg #[.int .u8 x.k, .int .i64 x.n, .string x.s, .slice x.la x.ll x.lc, .slice x.oa x.ol x.oc]] w (FieldAPost w o a c l):=by
  have HBD:Hid (∀W,Below w.heap.size w W→Calls Tryz.prog 17 #[.slice a.va a.vl a.vc] W fun e w'=>(∃cv:VC,e= .returned (.agg #[.int .u8 cv.k, .int .i64 cv.n, .string cv.s, .slice cv.la cv.ll cv.lc, .slice cv.oa cv.ol cv.oc])∧IsVal (only (fun b=>W.heap.size≤b) w') w'.heap.size (oneP 6 (l.take 60)).1 cv)∧Below W.heap.size W w'):=fun W hW=>build_own W l _ _ _ (hv.later_ hW)
  have HPL:Hid (∀W,Calls Tryz.prog 104 #[.string a.s] W fun e w'=>e= .returned (.string (plainS a.s))∧Below W.heap.size W w'):=fun W=>plain6_any W a.s ha.s1
  obtain ⟨ps,hps⟩:∃ps,plainS a.s=ps:=⟨_,rfl⟩
  rw [hps] at HPL
  obtain ⟨key,hkey⟩:∃key,fieldKey o a=key:=⟨_,rfl⟩
  have HFI:Hid (∀W,Below w.heap.size w W→Calls Tryz.prog 101 #[.agg #[.int .u8 x.k, .int .i64 x.n, .string x.s, .slice x.la x.ll x.lc, .slice x.oa x.ol x.oc], .string key] W fun e w'=>e= .returned (.tuple #[.int .i64 (fieldK o key:Int), .bool (fieldIs o key)])∧Below W.heap.size W w'):=fun W hW=>field_any W o key _ _ _ _ _ _ _ _ _ (hx.later_ hW)
  obtain ⟨fk,hfk⟩:∃fk,fieldK o key=fk:=⟨_,rfl⟩
  obtain ⟨ib,hib⟩:∃ib,fieldIs o key=ib:=⟨_,rfl⟩
  rw [hfk,hib] at HFI
  have hA:fieldA o a c=fun cv=> { c with k:=2,key:=key,v:=cv } :=by funext cv;rw [fieldA,hB,hkey];simp
  have hV:fieldV o a l=(oneP 6 (l.take 60)).1:=by rw [fieldV,hB];simp
  have hB2:ib=false∨¬a.k % 2=0:=by
    rw [fieldB,hkey,hib] at hB
    cases ib<;>simp at hB ⊢;omega
  have HA:=Lib.hid hA;have HV:=Lib.hid hV;have HCV:=Lib.hid hcv
  obtain ⟨PP,hPP⟩:∃PP,FieldAPost w o a c l=PP:=⟨_,rfl⟩
  have HPP:=Lib.hid hPP
  rw [hPP]
  have HB:=Lib.hid (FXB.start w { c with k:=2 } a x 63 85 33 63)
  have hmx:=hx.max;have hfw:=hx.few;have hcp:=hx.cap
  have HLEN:=Lib.hid hx.len
  have i0:=ha.i0;have i1:=ha.i1;have k0:=ha.k0
  have HX:=Lib.hid hx
  have hks:key=ps:=by rw [←hkey,fieldKey, ←HLEN.out,if_neg hp,hps]
  subst hks
  clear hps hkey
  clear hPP hA hV hcv hfk hib hB ha hv hx
  go_enter Tryz.func81,Tryz.ntmps81
  generalize hQ0:bodyPost _ _ _=Q0
  have HQ:=Lib.hid hQ0
  clear hQ0
  go_wp2_with fail
  refine (HPL.out _).mono ?_
  rintro e w1 ⟨rfl,hb1⟩
  have B:=HB.out.next hb1 (by simp)
  obtain ⟨b0,b1,b2,b3,b4,b5,b6,b7,b8,b9,b10,b11,a0,a1,a2,a3,a4,a5,a6,x0,x1,x2,x3,x4,r0,r1,r2,r3,r4,r5,r6,r7,r8,r9,r10,r11,bf0,bf1,bf2,bf3,bf4,bf5,bf6,bf7,bf8,bf9,bf10,bf11,rf0,rf1,rf2,rf3,rf4,rf5,rf6,rf7,rf8,rf9,rf10,rf11,z0,z1,z2,z3⟩:=B.facts
  have HB1:=Lib.hid B
  clear B hb1
  have HBB:=Lib.hid (HB1.out.key key)
  have HKEYB:=Lib.hid HBB.out.below
  go_wp2_with fail
  all_goals
    refine (HFI.out _ HKEYB.out).mono ?_
    rintro e w3 ⟨rfl,hb3⟩
    have B:=HBB.out.next hb3 (by first|omega|(simp;omega))
    obtain ⟨b0,b1,b2,b3,b4,b5,b6,b7,b8,b9,b10,b11,a0,a1,a2,a3,a4,a5,a6,x0,x1,x2,x3,x4,r0,r1,r2,r3,r4,r5,r6,r7,r8,r9,r10,r11,bf0,bf1,bf2,bf3,bf4,bf5,bf6,bf7,bf8,bf9,bf10,bf11,rf0,rf1,rf2,rf3,rf4,rf5,rf6,rf7,rf8,rf9,rf10,rf11,z0,z1,z2,z3⟩:=B.facts
    have HBW:=Lib.hid B
    clear B hb3
    rcases hB2 with rfl|hk2
    ·   go_wp2_with fail
        refine (HBD.out _ HBW.out.below).mono ?_
        rintro e w4 ⟨⟨cv,rfl,hv1⟩,hb1⟩
        have B:=HBW.out.next hb1 (by omega)
        clear HBW b0 b1 b2 b3 b4 b5 b6 b7 b8 b9 b10 b11 a0 a1 a2 a3 a4 a5 a6 x0 x1 x2 x3 x4 r0 r1 r2 r3 r4 r5 r6 r7 r8 r9 r10 r11 bf0 bf1 bf2 bf3 bf4 bf5 bf6 bf7 bf8 bf9 bf10 bf11 rf0 rf1 rf2 rf3 rf4 rf5 rf6 rf7 rf8 rf9 rf10 rf11
        obtain ⟨b0,b1,b2,b3,b4,b5,b6,b7,b8,b9,b10,b11,a0,a1,a2,a3,a4,a5,a6,x0,x1,x2,x3,x4,r0,r1,r2,r3,r4,r5,r6,r7,r8,r9,r10,r11,bf0,bf1,bf2,bf3,bf4,bf5,bf6,bf7,bf8,bf9,bf10,bf11,rf0,rf1,rf2,rf3,rf4,rf5,rf6,rf7,rf8,rf9,rf10,rf11,z0,z1,z2,z3⟩:=B.facts
        have HBW:=Lib.hid B
        have hz4:=hb1.size
        have hv2:=isVal_far (isVal_far hv1 (setV_step w4 w.heap.size 6 cv) (by omega)) (setC_step _ (w.heap.size+1+1+1) { c with k:=2,key:=key,v:=cv }) (by omega)
        have h2:=bc_storeC (((((HBW.out.r.far (o:=6) (x:= .int .u8 cv.k) (show w.heap.size+1+1+1≠w.heap.size by omega)).far (o:=7) (x:= .int .i64 cv.n) (show w.heap.size+1+1+1≠w.heap.size by omega)).far (o:=8) (x:= .string cv.s) (show w.heap.size+1+1+1≠w.heap.size by omega)).far (o:=9) (x:= .slice cv.la cv.ll cv.lc) (show w.heap.size+1+1+1≠w.heap.size by omega)).far (o:=10) (x:= .slice cv.oa cv.ol cv.oc) (show w.heap.size+1+1+1≠w.heap.size by omega)) { c with k:=2,key:=key,v:=cv }
        have h3:=Below.setC (((((HBW.out.below.set_ (o:=6) (x:= .int .u8 cv.k) (Nat.le_refl _)).set_ (o:=7) (x:= .int .i64 cv.n) (Nat.le_refl _)).set_ (o:=8) (x:= .string cv.s) (Nat.le_refl _)).set_ (o:=9) (x:= .slice cv.la cv.ll cv.lc) (Nat.le_refl _)).set_ (o:=10) (x:= .slice cv.oa cv.ol cv.oc) (Nat.le_refl _)) (show w.heap.size≤w.heap.size+1+1+1 by omega) { c with k:=2,key:=key,v:=cv }
        dsimp only at h2 h3 hv2
        have H2:=Lib.hid h2
        have H3:=Lib.hid h3
        have HV2:=Lib.hid hv2
        clear h2 h3 hv1 hv2 B hb1
        go_wp2_with fail
        rw [←HQ.out]
        generalize hA:({ tmps:=_,defers:=_ } :Act)=A
        have h4:A.tmps[6]? =some (.pointer (some ⟨w.heap.size+1+1+1,0,none⟩)):=by rw [←hA];rfl
        have h5:A.defers= [] :=by rw [←hA]
        clear hA
        rw [←HPP.out]
        refine ⟨h5,_,results_afield h4 H2.out, ?_⟩
        exact ⟨⟨cv,by rw [HA.out],by rw [HV.out];exact HV2.out.sub (shows_step fun k hk _=>⟨by omega,rfl⟩)⟩,H3.out⟩
    · cases ib with
      |false=> ?_
      |true=> ?_
      all_goals
          go_wp2_with fail
          refine (HBD.out _ HBW.out.below).mono ?_
          rintro e w4 ⟨⟨cv,rfl,hv1⟩,hb1⟩
          have B:=HBW.out.next hb1 (by omega)
          clear HBW b0 b1 b2 b3 b4 b5 b6 b7 b8 b9 b10 b11 a0 a1 a2 a3 a4 a5 a6 x0 x1 x2 x3 x4 r0 r1 r2 r3 r4 r5 r6 r7 r8 r9 r10 r11 bf0 bf1 bf2 bf3 bf4 bf5 bf6 bf7 bf8 bf9 bf10 bf11 rf0 rf1 rf2 rf3 rf4 rf5 rf6 rf7 rf8 rf9 rf10 rf11
          obtain ⟨b0,b1,b2,b3,b4,b5,b6,b7,b8,b9,b10,b11,a0,a1,a2,a3,a4,a5,a6,x0,x1,x2,x3,x4,r0,r1,r2,r3,r4,r5,r6,r7,r8,r9,r10,r11,bf0,bf1,bf2,bf3,bf4,bf5,bf6,bf7,bf8,bf9,bf10,bf11,rf0,rf1,rf2,rf3,rf4,rf5,rf6,rf7,rf8,rf9,rf10,rf11,z0,z1,z2,z3⟩:=B.facts
          have HBW:=Lib.hid B
          have hz4:=hb1.size
          have hv2:=isVal_far (isVal_far hv1 (setV_step w4 w.heap.size 6 cv) (by omega)) (setC_step _ (w.heap.size+1+1+1) { c with k:=2,key:=key,v:=cv }) (by omega)
          have h2:=bc_storeC (((((HBW.out.r.far (o:=6) (x:= .int .u8 cv.k) (show w.heap.size+1+1+1≠w.heap.size by omega)).far (o:=7) (x:= .int .i64 cv.n) (show w.heap.size+1+1+1≠w.heap.size by omega)).far (o:=8) (x:= .string cv.s) (show w.heap.size+1+1+1≠w.heap.size by omega)).far (o:=9) (x:= .slice cv.la cv.ll cv.lc) (show w.heap.size+1+1+1≠w.heap.size by omega)).far (o:=10) (x:= .slice cv.oa cv.ol cv.oc) (show w.heap.size+1+1+1≠w.heap.size by omega)) { c with k:=2,key:=key,v:=cv }
          have h3:=Below.setC (((((HBW.out.below.set_ (o:=6) (x:= .int .u8 cv.k) (Nat.le_refl _)).set_ (o:=7) (x:= .int .i64 cv.n) (Nat.le_refl _)).set_ (o:=8) (x:= .string cv.s) (Nat.le_refl _)).set_ (o:=9) (x:= .slice cv.la cv.ll cv.lc) (Nat.le_refl _)).set_ (o:=10) (x:= .slice cv.oa cv.ol cv.oc) (Nat.le_refl _)) (show w.heap.size≤w.heap.size+1+1+1 by omega) { c with k:=2,key:=key,v:=cv }
          dsimp only at h2 h3 hv2
          have H2:=Lib.hid h2
          have H3:=Lib.hid h3
          have HV2:=Lib.hid hv2
          clear h2 h3 hv1 hv2 B hb1
          go_wp2_with fail
          rw [←HQ.out]
          generalize hA:({ tmps:=_,defers:=_ } :Act)=A
          have h4:A.tmps[6]? =some (.pointer (some ⟨w.heap.size+1+1+1,0,none⟩)):=by rw [←hA];rfl
          have h5:A.defers= [] :=by rw [←hA]
          clear hA
          rw [←HPP.out]
          refine ⟨h5,_,results_afield h4 H2.out, ?_⟩
          exact ⟨⟨cv,by rw [HA.out],by rw [HV.out];exact HV2.out.sub (shows_step fun k hk _=>⟨by omega,rfl⟩)⟩,H3.out⟩
set_option maxHeartbeats 16000000 in
set_option maxRecDepth 100000 in
theorem afield_keydel (w:World) (c:CC) (hcv:c.v=vzero) (a:AC) (ha:a.Bnd) (x:VC) (o:List (ByteArray×V)) (hx:IsFields w w.heap.size o x.oa x.ol x.oc) (l:List Tk) (hv:IsToks w w.heap.size l a.va a.vl a.vc) (hp1:0<x.ol) (hp2:0<a.k % 3) (hB:fieldB o a=true):
    Calls Tryz.prog 81 #[.agg #[.int .u8 c.k, .slice c.pa c.pl c.pc, .string c.key, .int .i64 c.i, .int .i64 c.j, .int .i64 c.n, .int .u8 c.v.k, .int .i64 c.v.n, .string c.v.s, .slice c.v.la c.v.ll c.v.lc, .slice c.v.oa c.v.ol c.v.oc, .string c.s], .agg #[.slice a.pa a.pl a.pc, .int .u8 a.k, .int .i64 a.i, .int .i64 a.j, .int .i64 a.n, .string a.s, .slice a.va a.vl a.vc], .agg #[.int .u8 x.k, .int .i64 x.n, .string x.s, .slice x.la x.ll x.lc, .slice x.oa x.ol x.oc]] w (FieldAPost w o a c l):=by
  have HBD:Hid (∀W,Below w.heap.size w W→Calls Tryz.prog 17 #[.slice a.va a.vl a.vc] W fun e w'=>(∃cv:VC,e= .returned (.agg #[.int .u8 cv.k, .int .i64 cv.n, .string cv.s, .slice cv.la cv.ll cv.lc, .slice cv.oa cv.ol cv.oc])∧IsVal (only (fun b=>W.heap.size≤b) w') w'.heap.size (oneP 6 (l.take 60)).1 cv)∧Below W.heap.size W w'):=fun W hW=>build_own W l _ _ _ (hv.later_ hW)
  have HPL:Hid (∀W,Calls Tryz.prog 104 #[.string a.s] W fun e w'=>e= .returned (.string (plainS a.s))∧Below W.heap.size W w'):=fun W=>plain6_any W a.s ha.s1
  obtain ⟨ps,hps⟩:∃ps,plainS a.s=ps:=⟨_,rfl⟩
  rw [hps] at HPL
  obtain ⟨key,hkey⟩:∃key,fieldKey o a=key:=⟨_,rfl⟩
  have HFI:Hid (∀W,Below w.heap.size w W→Calls Tryz.prog 101 #[.agg #[.int .u8 x.k, .int .i64 x.n, .string x.s, .slice x.la x.ll x.lc, .slice x.oa x.ol x.oc], .string key] W fun e w'=>e= .returned (.tuple #[.int .i64 (fieldK o key:Int), .bool (fieldIs o key)])∧Below W.heap.size W w'):=fun W hW=>field_any W o key _ _ _ _ _ _ _ _ _ (hx.later_ hW)
  obtain ⟨fk,hfk⟩:∃fk,fieldK o key=fk:=⟨_,rfl⟩
  obtain ⟨ib,hib⟩:∃ib,fieldIs o key=ib:=⟨_,rfl⟩
  rw [hfk,hib] at HFI
  have hA:fieldA o a c=fun cv=> { c with k:=3,key:=key,v:=cv } :=by funext cv;rw [fieldA,hB,hkey];simp
  have hV:fieldV o a l=V.none:=by rw [fieldV,hB];simp
  have hB2:ib=true∧a.k % 2=0:=by
    rw [fieldB,hkey,hib] at hB
    simpa using hB
  have HA:=Lib.hid hA;have HV:=Lib.hid hV;have HCV:=Lib.hid hcv
  obtain ⟨PP,hPP⟩:∃PP,FieldAPost w o a c l=PP:=⟨_,rfl⟩
  have HPP:=Lib.hid hPP
  rw [hPP]
  have HB:=Lib.hid (FXB.start w { c with k:=2 } a x 63 85 33 63)
  have hmx:=hx.max;have hfw:=hx.few;have hcp:=hx.cap
  have HLEN:=Lib.hid hx.len
  have i0:=ha.i0;have i1:=ha.i1;have k0:=ha.k0
  have HX:=Lib.hid hx
  obtain ⟨I,hI⟩:∃I:Nat,max a.i 0 % (x.ol:Int)=I:=⟨(max a.i 0 % (x.ol:Int)).toNat,by have:=Int.emod_nonneg (max a.i 0) (show (x.ol:Int)≠0 by omega);omega⟩
  have hIl:I<x.ol:=by have:=Int.emod_lt_of_pos (max a.i 0) (show (0:Int)<x.ol by omega);omega
  obtain ⟨ob,oo,fv,hIo,exa,hob,kc,kcs,kva,kvi⟩:=hx.get hIl
  have hkc:o[I].1=key:=by
    rw [←hkey,fieldKey, ←HLEN.out,if_pos ⟨hp1,hp2⟩,hI]
    simp [List.getD_eq_getElem?_getD,hIo]
  rw [hkc] at kc
  have HEXA:=Lib.hid exa
  clear hkc hkey hps kcs kva kvi hIo exa
  clear hPP hA hV hcv hfk hib hB ha hv hx
  go_enter Tryz.func81,Tryz.ntmps81
  generalize hQ0:bodyPost _ _ _=Q0
  have HQ:=Lib.hid hQ0
  clear hQ0
  go_wp2_with fail
  refine (HPL.out _).mono ?_
  rintro e w1 ⟨rfl,hb1⟩
  have B:=HB.out.next hb1 (by simp)
  obtain ⟨b0,b1,b2,b3,b4,b5,b6,b7,b8,b9,b10,b11,a0,a1,a2,a3,a4,a5,a6,x0,x1,x2,x3,x4,r0,r1,r2,r3,r4,r5,r6,r7,r8,r9,r10,r11,bf0,bf1,bf2,bf3,bf4,bf5,bf6,bf7,bf8,bf9,bf10,bf11,rf0,rf1,rf2,rf3,rf4,rf5,rf6,rf7,rf8,rf9,rf10,rf11,z0,z1,z2,z3⟩:=B.facts
  have HB1:=Lib.hid B
  clear B hb1
  go_wp2_with fail
  have hbb:=HB1.out.key ps
  generalize hw2:w1.setCell ⟨w.heap.size,2,none⟩ (.string ps)=w2 at hbb ⊢
  clear hw2
  clear b0 b1 b2 b3 b4 b5 b6 b7 b8 b9 b10 b11 a0 a1 a2 a3 a4 a5 a6 x0 x1 x2 x3 x4 r0 r1 r2 r3 r4 r5 r6 r7 r8 r9 r10 r11 bf0 bf1 bf2 bf3 bf4 bf5 bf6 bf7 bf8 bf9 bf10 bf11 rf0 rf1 rf2 rf3 rf4 rf5 rf6 rf7 rf8 rf9 rf10 rf11
  obtain ⟨b0,b1,b2,b3,b4,b5,b6,b7,b8,b9,b10,b11,a0,a1,a2,a3,a4,a5,a6,x0,x1,x2,x3,x4,r0,r1,r2,r3,r4,r5,r6,r7,r8,r9,r10,r11,bf0,bf1,bf2,bf3,bf4,bf5,bf6,bf7,bf8,bf9,bf10,bf11,rf0,rf1,rf2,rf3,rf4,rf5,rf6,rf7,rf8,rf9,rf10,rf11,z0,z1,z2,z3⟩:=hbb.facts
  have kc2:=keep_cell hbb.below kc hob
  rw [HEXA.out] at x4
  have hob2:ob<w2.heap.size:=by have:=hbb.below.size;omega
  have hbk:=(hbb.key key).next (drew_below _) (by simp;omega)
  clear hbb
  go_region
  generalize hw4:(w2.setCell ⟨w.heap.size,2,none⟩ (.string key)).drew=w4 at hbk ⊢
  clear hw4 x4 kc2 hob2
  clear b0 b1 b2 b3 b4 b5 b6 b7 b8 b9 b10 b11 a0 a1 a2 a3 a4 a5 a6 x0 x1 x2 x3 r0 r1 r2 r3 r4 r5 r6 r7 r8 r9 r10 r11 bf0 bf1 bf2 bf3 bf4 bf5 bf6 bf7 bf8 bf9 bf10 bf11 rf0 rf1 rf2 rf3 rf4 rf5 rf6 rf7 rf8 rf9 rf10 rf11
  obtain ⟨b0,b1,b2,b3,b4,b5,b6,b7,b8,b9,b10,b11,a0,a1,a2,a3,a4,a5,a6,x0,x1,x2,x3,x4,r0,r1,r2,r3,r4,r5,r6,r7,r8,r9,r10,r11,bf0,bf1,bf2,bf3,bf4,bf5,bf6,bf7,bf8,bf9,bf10,bf11,rf0,rf1,rf2,rf3,rf4,rf5,rf6,rf7,rf8,rf9,rf10,rf11,z0,z1,z2,z3⟩:=hbk.facts
  have HBB:=Lib.hid hbk
  have HKEYB:=Lib.hid hbk.below
  clear hbk
  go_wp2_with fail
  all_goals
    refine (HFI.out _ HKEYB.out).mono ?_
    rintro e w3 ⟨rfl,hb3⟩
    have B:=HBB.out.next hb3 (by first|omega|(simp;omega))
    obtain ⟨b0,b1,b2,b3,b4,b5,b6,b7,b8,b9,b10,b11,a0,a1,a2,a3,a4,a5,a6,x0,x1,x2,x3,x4,r0,r1,r2,r3,r4,r5,r6,r7,r8,r9,r10,r11,bf0,bf1,bf2,bf3,bf4,bf5,bf6,bf7,bf8,bf9,bf10,bf11,rf0,rf1,rf2,rf3,rf4,rf5,rf6,rf7,rf8,rf9,rf10,rf11,z0,z1,z2,z3⟩:=B.facts
    have HBW:=Lib.hid B
    clear B hb3
    obtain ⟨rfl,hk2⟩:=hB2
    have h2:=bc_storeC (HBW.out.r.far (o:=0) (x:= .int .u8 3) (show w.heap.size+1+1+1≠w.heap.size by omega)) { c with k:=3,key:=key }
    have h3:=Below.setC (HBW.out.below.set_ (o:=0) (x:= .int .u8 3) (Nat.le_refl _)) (show w.heap.size≤w.heap.size+1+1+1 by omega) { c with k:=3,key:=key }
    dsimp only at h2 h3
    have H2:=Lib.hid h2
    have H3:=Lib.hid h3
    clear h2 h3
    go_wp2_with fail
    rw [←HQ.out]
    generalize hA:({ tmps:=_,defers:=_ } :Act)=A
    have h4:A.tmps[6]? =some (.pointer (some ⟨w.heap.size+1+1+1,0,none⟩)):=by rw [←hA];rfl
    have h5:A.defers= [] :=by rw [←hA]
    clear hA
    rw [←HPP.out]
    refine ⟨h5,_,results_afield h4 H2.out, ?_⟩
    exact ⟨⟨c.v,by rw [HA.out],by rw [HV.out,HCV.out];exact isVal_none _ _⟩,H3.out⟩
set_option maxHeartbeats 16000000 in
set_option maxRecDepth 100000 in
theorem afield_keyput (w:World) (c:CC) (hcv:c.v=vzero) (a:AC) (ha:a.Bnd) (x:VC) (o:List (ByteArray×V)) (hx:IsFields w w.heap.size o x.oa x.ol x.oc) (l:List Tk) (hv:IsToks w w.heap.size l a.va a.vl a.vc) (hp1:0<x.ol) (hp2:0<a.k % 3) (hB:fieldB o a=false):
    Calls Tryz.prog 81 #[.agg #[.int .u8 c.k, .slice c.pa c.pl c.pc, .string c.key, .int .i64 c.i, .int .i64 c.j, .int .i64 c.n, .int .u8 c.v.k, .int .i64 c.v.n, .string c.v.s, .slice c.v.la c.v.ll c.v.lc, .slice c.v.oa c.v.ol c.v.oc, .string c.s], .agg #[.slice a.pa a.pl a.pc, .int .u8 a.k, .int .i64 a.i, .int .i64 a.j, .int .i64 a.n, .string a.s, .slice a.va a.vl a.vc], .agg #[.int .u8 x.k, .int .i64 x.n, .string x.s, .slice x.la x.ll x.lc, .slice x.oa x.ol x.oc]] w (FieldAPost w o a c l):=by
  have HBD:Hid (∀W,Below w.heap.size w W→Calls Tryz.prog 17 #[.slice a.va a.vl a.vc] W fun e w'=>(∃cv:VC,e= .returned (.agg #[.int .u8 cv.k, .int .i64 cv.n, .string cv.s, .slice cv.la cv.ll cv.lc, .slice cv.oa cv.ol cv.oc])∧IsVal (only (fun b=>W.heap.size≤b) w') w'.heap.size (oneP 6 (l.take 60)).1 cv)∧Below W.heap.size W w'):=fun W hW=>build_own W l _ _ _ (hv.later_ hW)
  have HPL:Hid (∀W,Calls Tryz.prog 104 #[.string a.s] W fun e w'=>e= .returned (.string (plainS a.s))∧Below W.heap.size W w'):=fun W=>plain6_any W a.s ha.s1
  obtain ⟨ps,hps⟩:∃ps,plainS a.s=ps:=⟨_,rfl⟩
  rw [hps] at HPL
  obtain ⟨key,hkey⟩:∃key,fieldKey o a=key:=⟨_,rfl⟩
  have HFI:Hid (∀W,Below w.heap.size w W→Calls Tryz.prog 101 #[.agg #[.int .u8 x.k, .int .i64 x.n, .string x.s, .slice x.la x.ll x.lc, .slice x.oa x.ol x.oc], .string key] W fun e w'=>e= .returned (.tuple #[.int .i64 (fieldK o key:Int), .bool (fieldIs o key)])∧Below W.heap.size W w'):=fun W hW=>field_any W o key _ _ _ _ _ _ _ _ _ (hx.later_ hW)
  obtain ⟨fk,hfk⟩:∃fk,fieldK o key=fk:=⟨_,rfl⟩
  obtain ⟨ib,hib⟩:∃ib,fieldIs o key=ib:=⟨_,rfl⟩
  rw [hfk,hib] at HFI
  have hA:fieldA o a c=fun cv=> { c with k:=2,key:=key,v:=cv } :=by funext cv;rw [fieldA,hB,hkey];simp
  have hV:fieldV o a l=(oneP 6 (l.take 60)).1:=by rw [fieldV,hB];simp
  have hB2:ib=false∨¬a.k % 2=0:=by
    rw [fieldB,hkey,hib] at hB
    cases ib<;>simp at hB ⊢;omega
  have HA:=Lib.hid hA;have HV:=Lib.hid hV;have HCV:=Lib.hid hcv
  obtain ⟨PP,hPP⟩:∃PP,FieldAPost w o a c l=PP:=⟨_,rfl⟩
  have HPP:=Lib.hid hPP
  rw [hPP]
  have HB:=Lib.hid (FXB.start w { c with k:=2 } a x 63 85 33 63)
  have hmx:=hx.max;have hfw:=hx.few;have hcp:=hx.cap
  have HLEN:=Lib.hid hx.len
  have i0:=ha.i0;have i1:=ha.i1;have k0:=ha.k0
  have HX:=Lib.hid hx
  obtain ⟨I,hI⟩:∃I:Nat,max a.i 0 % (x.ol:Int)=I:=⟨(max a.i 0 % (x.ol:Int)).toNat,by have:=Int.emod_nonneg (max a.i 0) (show (x.ol:Int)≠0 by omega);omega⟩
  have hIl:I<x.ol:=by have:=Int.emod_lt_of_pos (max a.i 0) (show (0:Int)<x.ol by omega);omega
  obtain ⟨ob,oo,fv,hIo,exa,hob,kc,kcs,kva,kvi⟩:=hx.get hIl
  have hkc:o[I].1=key:=by
    rw [←hkey,fieldKey, ←HLEN.out,if_pos ⟨hp1,hp2⟩,hI]
    simp [List.getD_eq_getElem?_getD,hIo]
  rw [hkc] at kc
  have HEXA:=Lib.hid exa
  clear hkc hkey hps kcs kva kvi hIo exa
  clear hPP hA hV hcv hfk hib hB ha hv hx
  go_enter Tryz.func81,Tryz.ntmps81
  generalize hQ0:bodyPost _ _ _=Q0
  have HQ:=Lib.hid hQ0
  clear hQ0
  go_wp2_with fail
  refine (HPL.out _).mono ?_
  rintro e w1 ⟨rfl,hb1⟩
  have B:=HB.out.next hb1 (by simp)
  obtain ⟨b0,b1,b2,b3,b4,b5,b6,b7,b8,b9,b10,b11,a0,a1,a2,a3,a4,a5,a6,x0,x1,x2,x3,x4,r0,r1,r2,r3,r4,r5,r6,r7,r8,r9,r10,r11,bf0,bf1,bf2,bf3,bf4,bf5,bf6,bf7,bf8,bf9,bf10,bf11,rf0,rf1,rf2,rf3,rf4,rf5,rf6,rf7,rf8,rf9,rf10,rf11,z0,z1,z2,z3⟩:=B.facts
  have HB1:=Lib.hid B
  clear B hb1
  go_wp2_with fail
  have hbb:=HB1.out.key ps
  generalize hw2:w1.setCell ⟨w.heap.size,2,none⟩ (.string ps)=w2 at hbb ⊢
  clear hw2
  clear b0 b1 b2 b3 b4 b5 b6 b7 b8 b9 b10 b11 a0 a1 a2 a3 a4 a5 a6 x0 x1 x2 x3 x4 r0 r1 r2 r3 r4 r5 r6 r7 r8 r9 r10 r11 bf0 bf1 bf2 bf3 bf4 bf5 bf6 bf7 bf8 bf9 bf10 bf11 rf0 rf1 rf2 rf3 rf4 rf5 rf6 rf7 rf8 rf9 rf10 rf11
  obtain ⟨b0,b1,b2,b3,b4,b5,b6,b7,b8,b9,b10,b11,a0,a1,a2,a3,a4,a5,a6,x0,x1,x2,x3,x4,r0,r1,r2,r3,r4,r5,r6,r7,r8,r9,r10,r11,bf0,bf1,bf2,bf3,bf4,bf5,bf6,bf7,bf8,bf9,bf10,bf11,rf0,rf1,rf2,rf3,rf4,rf5,rf6,rf7,rf8,rf9,rf10,rf11,z0,z1,z2,z3⟩:=hbb.facts
  have kc2:=keep_cell hbb.below kc hob
  rw [HEXA.out] at x4
  have hob2:ob<w2.heap.size:=by have:=hbb.below.size;omega
  have hbk:=(hbb.key key).next (drew_below _) (by simp;omega)
  clear hbb
  go_region
  generalize hw4:(w2.setCell ⟨w.heap.size,2,none⟩ (.string key)).drew=w4 at hbk ⊢
  clear hw4 x4 kc2 hob2
  clear b0 b1 b2 b3 b4 b5 b6 b7 b8 b9 b10 b11 a0 a1 a2 a3 a4 a5 a6 x0 x1 x2 x3 r0 r1 r2 r3 r4 r5 r6 r7 r8 r9 r10 r11 bf0 bf1 bf2 bf3 bf4 bf5 bf6 bf7 bf8 bf9 bf10 bf11 rf0 rf1 rf2 rf3 rf4 rf5 rf6 rf7 rf8 rf9 rf10 rf11
  obtain ⟨b0,b1,b2,b3,b4,b5,b6,b7,b8,b9,b10,b11,a0,a1,a2,a3,a4,a5,a6,x0,x1,x2,x3,x4,r0,r1,r2,r3,r4,r5,r6,r7,r8,r9,r10,r11,bf0,bf1,bf2,bf3,bf4,bf5,bf6,bf7,bf8,bf9,bf10,bf11,rf0,rf1,rf2,rf3,rf4,rf5,rf6,rf7,rf8,rf9,rf10,rf11,z0,z1,z2,z3⟩:=hbk.facts
  have HBB:=Lib.hid hbk
  have HKEYB:=Lib.hid hbk.below
  clear hbk
  go_wp2_with fail
  all_goals
    refine (HFI.out _ HKEYB.out).mono ?_
    rintro e w3 ⟨rfl,hb3⟩
    have B:=HBB.out.next hb3 (by first|omega|(simp;omega))
    obtain ⟨b0,b1,b2,b3,b4,b5,b6,b7,b8,b9,b10,b11,a0,a1,a2,a3,a4,a5,a6,x0,x1,x2,x3,x4,r0,r1,r2,r3,r4,r5,r6,r7,r8,r9,r10,r11,bf0,bf1,bf2,bf3,bf4,bf5,bf6,bf7,bf8,bf9,bf10,bf11,rf0,rf1,rf2,rf3,rf4,rf5,rf6,rf7,rf8,rf9,rf10,rf11,z0,z1,z2,z3⟩:=B.facts
    have HBW:=Lib.hid B
    clear B hb3
    rcases hB2 with rfl|hk2
    ·   go_wp2_with fail
        refine (HBD.out _ HBW.out.below).mono ?_
        rintro e w4 ⟨⟨cv,rfl,hv1⟩,hb1⟩
        have B:=HBW.out.next hb1 (by omega)
        clear HBW b0 b1 b2 b3 b4 b5 b6 b7 b8 b9 b10 b11 a0 a1 a2 a3 a4 a5 a6 x0 x1 x2 x3 x4 r0 r1 r2 r3 r4 r5 r6 r7 r8 r9 r10 r11 bf0 bf1 bf2 bf3 bf4 bf5 bf6 bf7 bf8 bf9 bf10 bf11 rf0 rf1 rf2 rf3 rf4 rf5 rf6 rf7 rf8 rf9 rf10 rf11
        obtain ⟨b0,b1,b2,b3,b4,b5,b6,b7,b8,b9,b10,b11,a0,a1,a2,a3,a4,a5,a6,x0,x1,x2,x3,x4,r0,r1,r2,r3,r4,r5,r6,r7,r8,r9,r10,r11,bf0,bf1,bf2,bf3,bf4,bf5,bf6,bf7,bf8,bf9,bf10,bf11,rf0,rf1,rf2,rf3,rf4,rf5,rf6,rf7,rf8,rf9,rf10,rf11,z0,z1,z2,z3⟩:=B.facts
        have HBW:=Lib.hid B
        have hz4:=hb1.size
        have hv2:=isVal_far (isVal_far hv1 (setV_step w4 w.heap.size 6 cv) (by omega)) (setC_step _ (w.heap.size+1+1+1) { c with k:=2,key:=key,v:=cv }) (by omega)
        have h2:=bc_storeC (((((HBW.out.r.far (o:=6) (x:= .int .u8 cv.k) (show w.heap.size+1+1+1≠w.heap.size by omega)).far (o:=7) (x:= .int .i64 cv.n) (show w.heap.size+1+1+1≠w.heap.size by omega)).far (o:=8) (x:= .string cv.s) (show w.heap.size+1+1+1≠w.heap.size by omega)).far (o:=9) (x:= .slice cv.la cv.ll cv.lc) (show w.heap.size+1+1+1≠w.heap.size by omega)).far (o:=10) (x:= .slice cv.oa cv.ol cv.oc) (show w.heap.size+1+1+1≠w.heap.size by omega)) { c with k:=2,key:=key,v:=cv }
        have h3:=Below.setC (((((HBW.out.below.set_ (o:=6) (x:= .int .u8 cv.k) (Nat.le_refl _)).set_ (o:=7) (x:= .int .i64 cv.n) (Nat.le_refl _)).set_ (o:=8) (x:= .string cv.s) (Nat.le_refl _)).set_ (o:=9) (x:= .slice cv.la cv.ll cv.lc) (Nat.le_refl _)).set_ (o:=10) (x:= .slice cv.oa cv.ol cv.oc) (Nat.le_refl _)) (show w.heap.size≤w.heap.size+1+1+1 by omega) { c with k:=2,key:=key,v:=cv }
        dsimp only at h2 h3 hv2
        have H2:=Lib.hid h2
        have H3:=Lib.hid h3
        have HV2:=Lib.hid hv2
        clear h2 h3 hv1 hv2 B hb1
        go_wp2_with fail
        rw [←HQ.out]
        generalize hA:({ tmps:=_,defers:=_ } :Act)=A
        have h4:A.tmps[6]? =some (.pointer (some ⟨w.heap.size+1+1+1,0,none⟩)):=by rw [←hA];rfl
        have h5:A.defers= [] :=by rw [←hA]
        clear hA
        rw [←HPP.out]
        refine ⟨h5,_,results_afield h4 H2.out, ?_⟩
        exact ⟨⟨cv,by rw [HA.out],by rw [HV.out];exact HV2.out.sub (shows_step fun k hk _=>⟨by omega,rfl⟩)⟩,H3.out⟩
    · cases ib with
      |false=> ?_
      |true=> ?_
      all_goals
          go_wp2_with fail
          refine (HBD.out _ HBW.out.below).mono ?_
          rintro e w4 ⟨⟨cv,rfl,hv1⟩,hb1⟩
          have B:=HBW.out.next hb1 (by omega)
          clear HBW b0 b1 b2 b3 b4 b5 b6 b7 b8 b9 b10 b11 a0 a1 a2 a3 a4 a5 a6 x0 x1 x2 x3 x4 r0 r1 r2 r3 r4 r5 r6 r7 r8 r9 r10 r11 bf0 bf1 bf2 bf3 bf4 bf5 bf6 bf7 bf8 bf9 bf10 bf11 rf0 rf1 rf2 rf3 rf4 rf5 rf6 rf7 rf8 rf9 rf10 rf11
          obtain ⟨b0,b1,b2,b3,b4,b5,b6,b7,b8,b9,b10,b11,a0,a1,a2,a3,a4,a5,a6,x0,x1,x2,x3,x4,r0,r1,r2,r3,r4,r5,r6,r7,r8,r9,r10,r11,bf0,bf1,bf2,bf3,bf4,bf5,bf6,bf7,bf8,bf9,bf10,bf11,rf0,rf1,rf2,rf3,rf4,rf5,rf6,rf7,rf8,rf9,rf10,rf11,z0,z1,z2,z3⟩:=B.facts
          have HBW:=Lib.hid B
          have hz4:=hb1.size
          have hv2:=isVal_far (isVal_far hv1 (setV_step w4 w.heap.size 6 cv) (by omega)) (setC_step _ (w.heap.size+1+1+1) { c with k:=2,key:=key,v:=cv }) (by omega)
          have h2:=bc_storeC (((((HBW.out.r.far (o:=6) (x:= .int .u8 cv.k) (show w.heap.size+1+1+1≠w.heap.size by omega)).far (o:=7) (x:= .int .i64 cv.n) (show w.heap.size+1+1+1≠w.heap.size by omega)).far (o:=8) (x:= .string cv.s) (show w.heap.size+1+1+1≠w.heap.size by omega)).far (o:=9) (x:= .slice cv.la cv.ll cv.lc) (show w.heap.size+1+1+1≠w.heap.size by omega)).far (o:=10) (x:= .slice cv.oa cv.ol cv.oc) (show w.heap.size+1+1+1≠w.heap.size by omega)) { c with k:=2,key:=key,v:=cv }
          have h3:=Below.setC (((((HBW.out.below.set_ (o:=6) (x:= .int .u8 cv.k) (Nat.le_refl _)).set_ (o:=7) (x:= .int .i64 cv.n) (Nat.le_refl _)).set_ (o:=8) (x:= .string cv.s) (Nat.le_refl _)).set_ (o:=9) (x:= .slice cv.la cv.ll cv.lc) (Nat.le_refl _)).set_ (o:=10) (x:= .slice cv.oa cv.ol cv.oc) (Nat.le_refl _)) (show w.heap.size≤w.heap.size+1+1+1 by omega) { c with k:=2,key:=key,v:=cv }
          dsimp only at h2 h3 hv2
          have H2:=Lib.hid h2
          have H3:=Lib.hid h3
          have HV2:=Lib.hid hv2
          clear h2 h3 hv1 hv2 B hb1
          go_wp2_with fail
          rw [←HQ.out]
          generalize hA:({ tmps:=_,defers:=_ } :Act)=A
          have h4:A.tmps[6]? =some (.pointer (some ⟨w.heap.size+1+1+1,0,none⟩)):=by rw [←hA];rfl
          have h5:A.defers= [] :=by rw [←hA]
          clear hA
          rw [←HPP.out]
          refine ⟨h5,_,results_afield h4 H2.out, ?_⟩
          exact ⟨⟨cv,by rw [HA.out],by rw [HV.out];exact HV2.out.sub (shows_step fun k hk _=>⟨by omega,rfl⟩)⟩,H3.out⟩
theorem afield_any (w:World) (c:CC) (hcv:c.v=vzero) (a:AC) (ha:a.Bnd) (x:VC) (o:List (ByteArray×V)) (hx:IsFields w w.heap.size o x.oa x.ol x.oc) (l:List Tk) (hv:IsToks w w.heap.size l a.va a.vl a.vc):
    Calls Tryz.prog 81 #[.agg #[.int .u8 c.k, .slice c.pa c.pl c.pc, .string c.key, .int .i64 c.i, .int .i64 c.j, .int .i64 c.n, .int .u8 c.v.k, .int .i64 c.v.n, .string c.v.s, .slice c.v.la c.v.ll c.v.lc, .slice c.v.oa c.v.ol c.v.oc, .string c.s], .agg #[.slice a.pa a.pl a.pc, .int .u8 a.k, .int .i64 a.i, .int .i64 a.j, .int .i64 a.n, .string a.s, .slice a.va a.vl a.vc], .agg #[.int .u8 x.k, .int .i64 x.n, .string x.s, .slice x.la x.ll x.lc, .slice x.oa x.ol x.oc]] w (FieldAPost w o a c l):=by
  have k0:=ha.k0
  by_cases hp:0<x.ol∧0<a.k % 3
  · cases hB:fieldB o a with
    |true=>exact afield_keydel w c hcv a ha x o hx l hv hp.1 hp.2 hB
    |false=>exact afield_keyput w c hcv a ha x o hx l hv hp.1 hp.2 hB
  · cases hB:fieldB o a with
    |true=>exact afield_plaindel w c hcv a ha x o hx l hv hp hB
    |false=>exact afield_plainput w c hcv a ha x o hx l hv hp hB
end Go.Proofs.YtgcfhkceejcliaaGreatDoor
namespace Go.Proofs.YtgcfhkceejcliaaGreatDoor
open Go.RowKit
structure OZ (w w1 W:World) (R:Option Cm) (p:List St) (pa:Option Addr) (k pc yb:Nat):Prop where
  box:∃(d:CC) (x:V),R=some (cmOf p x d)∧d.pa=pa∧d.pl=k∧d.pc=pc∧d.Bnd∧BC W yb (ccells d)∧IsVal (only (fun b=>w.heap.size+3≤b) W) W.heap.size x d.v
  r:BC W (w.heap.size+1+1) (ccells czero)
  below:Below w.heap.size w W
  b1:Below w1.heap.size w1 W
theorem OZ.store {w w1 W5:World} {R:Option Cm} {p:List St} {pa:Option Addr} {k pc yb:Nat} {d c0:CC} {x:V} (hR:R=some (cmOf p x d)) (e1:d.pa=pa) (e2:d.pl=k) (e3:d.pc=pc) (hd:d.Bnd) (hc:BC W5 yb (ccells c0)) (hyb:w1.heap.size≤yb) (hlo:w.heap.size+3≤w1.heap.size) (hv:IsVal (only (fun b=>yb+1≤b) W5) W5.heap.size x d.v) (hr:BC W5 (w.heap.size+1+1) (ccells czero)) (hb:Below w.heap.size w W5) (hb1:Below w1.heap.size w1 W5):OZ w w1 (setC W5 yb d) R p pa k pc yb:=by
  have st:=setC_st W5 yb d
  exact ⟨⟨d,x,hR,e1,e2,e3,hd,bc_storeC hc d,isVal_S hv rfl st.size fun k hk hl=>⟨by omega,st.block k hl (by omega)⟩⟩,hr.next st (by omega),Below.setC hb (by omega) d,Below.setC hb1 (by omega) d⟩
theorem textA_path (n:Nat) (a:AC) (c:CC):(textA n a c).pa=c.pa∧(textA n a c).pl=c.pl∧(textA n a c).pc=c.pc∧(textA n a c).v=c.v:=by
  unfold textA;split<;>exact ⟨rfl,rfl,rfl,rfl⟩
theorem textA_same (n:Nat) (a:AC) (bs:List UInt8) (tl:List Tk) (p:List St) (x:V) (pa:Option Addr) (k pc:Nat):cmOf p x (textA n (Ac.bare ⟨bs,a.k,a.i,a.j,a.n,a.s,tl⟩) czero)=cmOf p x (textA n a (pathC pa k pc)):=by
  unfold textA
  by_cases h:0<n∧a.k % 2=0
  · rw [if_pos h,if_pos (show 0<n∧(Ac.bare ⟨bs,a.k,a.i,a.j,a.n,a.s,tl⟩).k % 2=0 from h)];rfl
  · rw [if_neg h,if_neg (show ¬(0<n∧(Ac.bare ⟨bs,a.k,a.i,a.j,a.n,a.s,tl⟩).k % 2=0) from h)];rfl
theorem listA_same (n:Nat) (a:AC) (bs:List UInt8) (tl:List Tk) (p:List St) (x:V) (pa:Option Addr) (k pc:Nat) (cv:VC):cmOf p x (listA n (Ac.bare ⟨bs,a.k,a.i,a.j,a.n,a.s,tl⟩) czero vzero)=cmOf p x (listA n a (pathC pa k pc) cv):=rfl
theorem fieldA_same (o:List (ByteArray×V)) (a:AC) (bs:List UInt8) (tl:List Tk) (p:List St) (x:V) (pa:Option Addr) (k pc:Nat) (cv:VC):cmOf p x (fieldA o (Ac.bare ⟨bs,a.k,a.i,a.j,a.n,a.s,tl⟩) czero vzero)=cmOf p x (fieldA o a (pathC pa k pc) cv):=rfl
theorem xAt_weight (v:V) (p:List St):(xAt v p).weight≤v.weight:=by
  unfold xAt
  have h1:1≤v.weight:=by cases v;simp only [V.weight];omega
  cases h:getP v p with
  |none=>show V.none.weight≤_;rw [weight_none];exact h1
  |some x=>exact getP_weight p h
set_option maxHeartbeats 16000000 in
set_option maxRecDepth 100000 in
theorem one6_any (w:World) (vk vn:Int) (vs:ByteArray) (la:Option Addr) (ll lc:Nat) (oa:Option Addr) (ol oc:Nat) (v:V) (hv:IsVal w w.heap.size v ⟨vk,vn,vs,la,ll,lc,oa,ol,oc⟩) (hw:v.weight≤100000000) (a:AC) (ac:Ac) (ha:IsAct w w.heap.size ac a):
    Calls Tryz.prog 42 #[.agg #[.int .u8 vk, .int .i64 vn, .string vs, .slice la ll lc, .slice oa ol oc], .agg #[.slice a.pa a.pl a.pc, .int .u8 a.k, .int .i64 a.i, .int .i64 a.j, .int .i64 a.n, .string a.s, .slice a.va a.vl a.vc]] w (OnePost w (oneC v ac)):=by
  cases ha with
  |mk _ bs tl hab hbs htk=>
  obtain ⟨P0,hP0⟩:∃P0,walkP v (bs.take 8)=P0:=⟨_,rfl⟩
  have HW:Hid (∀W,Below w.heap.size w W→Calls Tryz.prog 77 #[.agg #[.int .u8 vk, .int .i64 vn, .string vs, .slice la ll lc, .slice oa ol oc], .slice a.pa a.pl a.pc] W (WalkPost W P0)):=fun W hW=>by rw [←hP0];exact walk_any W _ _ _ _ _ _ _ _ _ v (hv.later_ hW) bs _ _ _ (hbs.later6 hW)
  have HG:Hid (∀W pa q n c,Below w.heap.size w W→IsSteps W W.heap.size q pa n c→Calls Tryz.prog 78 #[.agg #[.int .u8 vk, .int .i64 vn, .string vs, .slice la ll lc, .slice oa ol oc], .slice pa n c] W (GetPost W (getP v q))):=fun W pa q n c hW hq=>get_any W _ _ _ _ _ _ _ _ _ v (hv.later_ hW) q pa n c hq
  have HB:=Lib.hid (OH0.start w ⟨vk,vn,vs,la,ll,lc,oa,ol,oc⟩ a 33 85 63)
  have HTK:=Lib.hid htk
  obtain ⟨R,hR⟩:∃R,oneC v ⟨bs,a.k,a.i,a.j,a.n,a.s,tl⟩=R:=⟨_,rfl⟩
  rw [hR]
  have HR:=Lib.hid hR
  have HP0:=Lib.hid hP0
  have HAB:=Lib.hid hab
  clear hR hP0 hv hbs htk hab
  go_enter Tryz.func42,Tryz.ntmps42
  generalize hQ0:bodyPost _ _ _=Q0
  have HQ:=Lib.hid hQ0
  clear hQ0
  go_wp2_with fail
  refine (HW.out _ HB.out.below).mono ?_
  rintro e w1 ⟨⟨pa,n,pc,rfl,hst⟩,hb1⟩
  have hst1:IsSteps (only (fun b=>w.heap.size+3≤b) w1) w1.heap.size P0 pa n pc:=isSteps_S hst rfl (Nat.le_refl _) fun k hk _=>⟨by simpa using hk,rfl⟩
  have hlo1:w.heap.size+3≤w1.heap.size:=by have:=hb1.size;simp at this;omega
  have B1:=HB.out.next hb1 (by simp)
  obtain ⟨v0,v1,v2,v3,v4⟩:=row5 B1.v.at_
  have z0:=B1.v.lt;have z1:=B1.a.lt;have z2:=B1.r.lt
  have hcap:=hst1.cap;have hmx:=hst1.max;have hfw:=hst1.few
  have HST:=Lib.hid hst1
  have HB1:=Lib.hid B1
  clear B1 hst hst1 hb1
  go_upto_if 16 with fail
  go_cut [6] from 17 to 18 (fun p wx=>w1=wx∧∃m:Nat,m≤n∧m≤5∧p= .slice pa m pc∧(n≤5→m=n)∧(5<n→m=5))
  case first=>
    by_cases h5:5<n
    · go_wp2_with fail
      go_meet
      exact ⟨rfl,5,by omega,by omega,rfl,by omega,by omega⟩
    · go_wp2_with fail
      go_meet
      exact ⟨rfl,n,by omega,by omega,rfl,by omega,by omega⟩
  case rest=>
  obtain ⟨rfl,m,hmn,hm5,rfl,hma,hmb⟩:=hcut
  obtain ⟨P,hP⟩:∃P,P0.take m=P:=⟨_,rfl⟩
  have hwp:wayP v bs=P:=by
    have hl:=HST.out.len
    unfold wayP
    rw [HP0.out, ←hP]
    by_cases h5:5<n
    · rw [hmb h5]
    · rw [hma (by omega),List.take_of_length_le (by omega),List.take_of_length_le (by omega)]
  have hPs:IsSteps (only (fun b=>w.heap.size+3≤b) w1) w1.heap.size P pa m pc:=by rw [←hP];exact HST.out.take m hmn
  have HPL:=Lib.hid hPs.len
  have HPS:=Lib.hid hPs
  have HWP:=Lib.hid hwp
  clear hP hPs hma hmb hwp
  go_wp2_with fail
  refine (HG.out w1 pa P m pc HB1.out.below (HPS.out.sub (shows_only _ _ _))).mono ?_
  rintro e w2 h
  obtain ⟨cx,gi,rfl,hI,hb2⟩:=h.any
  clear h
  have O:=OH.start (t:=33) HB1.out hlo1 hI hb2
  have hb3:Below w1.heap.size w1 (w2.alloc (.cells #[.int .u8 cx.k, .int .i64 cx.n, .string cx.s, .slice cx.la cx.ll cx.lc, .slice cx.oa cx.ol cx.oc] 33)):=hb2.alloc hb2.size _
  have hxz:w1.heap.size≤w2.heap.size:=hb2.size
  go_upto_block 0 with fail
  obtain ⟨xb,hxb⟩:∃xb,w2.heap.size=xb:=⟨_,rfl⟩
  rw [hxb] at O hxz ⊢
  generalize hw3:w2.alloc _=w3 at O hb3 ⊢
  clear hw3 hxb hI hb2 v0 v1 v2 v3 v4
  have hxx:(getP v P).getD V.none=xAt v (P.take m):=by rw [HPL.out,List.take_length];rfl
  rw [hxx] at O
  clear hxx
  have HB3:=Lib.hid hb3
  have HO:=Lib.hid O
  clear O hb3
  obtain ⟨T,hT⟩:∃T,trimN v P m=T:=⟨_,rfl⟩
  have HT:=Lib.hid hT
  clear hT
  go_cut [6] from 25 to 43 (fun p wx=>∃(k:Nat) (cy:VC),k≤m∧p= .slice pa k pc∧Hid (trimN v P k=T)∧Hid (k=T)∧Hid (Below w1.heap.size w1 wx)∧OH w wx ⟨vk,vn,vs,la,ll,lc,oa,ol,oc⟩ a xb (xAt v (P.take k)) cy)
  case first=>
    go_wp2_with fail
    go_loopw [6] (fun p wr=>∃(k:Nat) (cy:VC),k≤m∧p= .slice pa k pc∧Hid (trimN v P k=T)∧Hid (Below w1.heap.size w1 wr)∧OH w wr ⟨vk,vn,vs,la,ll,lc,oa,ol,oc⟩ a xb (xAt v (P.take k)) cy) (fun p _=>sliceN p)
    case atStart=>exact ⟨m,cx,Nat.le_refl _,rfl,HT,HB3,HO.out⟩
    case round=>
      obtain ⟨k,cy,hk,rfl,HTR,HBW,L⟩:=hrel
      obtain ⟨v0,v1,v2,v3,v4⟩:=row5 L.v.at_
      have x0:=L.bx.at_ 0 _ rfl
      have z0:=L.v.lt;have zx:=L.bx.lt
      have hkd:=isVal_kd L.val
      have kb:=(L.val.bnd).k0
      have HL:=Lib.hid L
      have hlo:=L.lo
      clear L
      by_cases hc:0<k∧cy.k<2
      · obtain ⟨hk0,hc2⟩:=hc
        obtain ⟨j,rfl⟩:∃j,k=j+1:=⟨k - 1,by omega⟩
        have htr:trimN v P j=T:=by
          have:=HTR.out
          rw [trimN,if_pos (by rw [hkd];exact hc2)] at this
          exact this
        have HTJ:=Lib.hid htr
        have HKD:=Lib.hid hkd
        clear htr hkd
        go_wp2_with fail
        refine (HG.out wr pa (P.take j) j pc HL.out.below (((isSteps_S (S':=fun b=>w.heap.size+3≤b) HPS.out rfl HBW.out.size fun k hk hl=>⟨hk,HBW.out.block k hl⟩).sub (shows_only _ _ _)).take j (by omega))).mono ?_
        rintro e w4 h
        obtain ⟨cz,gi2,rfl,hI4,hb4⟩:=h.any
        clear h x0 v0 v1 v2 v3 v4
        have L4:=HL.out.next hb4
        obtain ⟨x0,x1,x2,x3,x4⟩:=row5 L4.bx.at_
        have g0:=L4.bx.fr 0;have g1:=L4.bx.fr 1;have g2:=L4.bx.fr 2;have g3:=L4.bx.fr 3;have g4:=L4.bx.fr 4
        have zx4:=L4.bx.lt
        have HRD:=Lib.hid (HL.out.round hb4 hI4)
        have hBN:Below w1.heap.size w1 (setV w4 xb 0 cz):=Below.set5' (HBW.out.trans (hb4.mono HBW.out.size)) hxz _ _ _ _ _
        have HBN:=Lib.hid hBN
        clear L4 hI4 hb4 hBN
        go_wp2_with fail
        go_roundw
        case rel=>exact ⟨j,cz,by omega,rfl,HTJ,HBN,HRD.out⟩
        case measure=>simp [sliceN]
      · have hend:k=T:=by
          rw [←HTR.out]
          cases k with
          |zero=>rfl
          |succ j=>rw [trimN,if_neg (by rw [hkd];omega)]
        have HE:=Lib.hid hend
        clear hend hkd
        by_cases hk0:0<k
        · have hc2:¬cy.k<2:=by omega
          go_wp2_with fail
          go_meet
          exact ⟨k,cy,hk,rfl,HTR,HE,HBW,HL.out⟩
        · go_wp2_with fail
          go_meet
          exact ⟨k,cy,hk,rfl,HTR,HE,HBW,HL.out⟩
  case rest=>
  obtain ⟨k,cy,hkm,rfl,HTR,HKT,HBW,L⟩:=hcut
  obtain ⟨p,hp⟩:∃p,P.take k=p:=⟨_,rfl⟩
  have hsteps:IsSteps (only (fun b=>w.heap.size+3≤b) w1) w1.heap.size p pa k pc:=by rw [←hp];exact HPS.out.take k hkm
  have hpath:aimPath v bs=p:=by unfold aimPath;rw [HWP.out, ←HPL.out,HT.out, ←HKT.out,hp]
  rw [hp] at L
  obtain ⟨x,hx⟩:∃x,xAt v p=x:=⟨_,rfl⟩
  rw [hx] at L
  have hxw:x.weight≤100000000:=by rw [←hx];exact Nat.le_trans (xAt_weight v p) hw
  have hR2:oneX x p ⟨bs,a.k,a.i,a.j,a.n,a.s,tl⟩=R:=by
    rw [←HR.out,oneC];dsimp only;rw [hpath,hx]
  have HST2:=Lib.hid hsteps
  clear hsteps hpath hp hx HTR HKT HT HPL HWP HPS HR HP0 HST HO HG HW
  obtain ⟨ck,cn,cs,lx,ox,rfl⟩:=x.eta
  obtain ⟨dk,dn,ds,cla,cll,clc,coa,col,coc⟩:=cy
  obtain ⟨f1,f2,f3,hbd,_,_⟩:=L.val.lists
  dsimp only at f1 f2 f3
  subst f1 f2 f3
  have kb0:=hbd.k0
  have hstr:=(V.str_weight (.mk dk dn ds lx ox)).1
  have hsz:ds.size≤1000000000000:=by have:(V.mk dk dn ds lx ox).str=ds:=rfl;rw [this] at hstr;omega
  have x0:=L.bx.at_ 0 _ rfl
  have zx:=L.bx.lt
  have HL:=Lib.hid L
  clear L hstr hbd
  go_upto_block 2 with fail
  have hal:Below wc.heap.size wc (wc.alloc (.cells #[.int .u8 0, .slice pa k pc, .string { data:= #[] }, .int .i64 0, .int .i64 0, .int .i64 0, .int .u8 0, .int .i64 0, .string { data:= #[] }, .slice none 0 0, .slice none 0 0, .string { data:= #[] }] 63)):=(Below.refl _ _).alloc (Nat.le_refl _) _
  have Y:BC (wc.alloc (.cells #[.int .u8 0, .slice pa k pc, .string { data:= #[] }, .int .i64 0, .int .i64 0, .int .i64 0, .int .u8 0, .int .i64 0, .string { data:= #[] }, .slice none 0 0, .slice none 0 0, .string { data:= #[] }] 63)) wc.heap.size (ccells (pathC pa k pc)):=BC.start _ _ _
  have L5:=HL.out.next hal
  have hb5:Below w1.heap.size w1 (wc.alloc (.cells #[.int .u8 0, .slice pa k pc, .string { data:= #[] }, .int .i64 0, .int .i64 0, .int .i64 0, .int .u8 0, .int .i64 0, .string { data:= #[] }, .slice none 0 0, .slice none 0 0, .string { data:= #[] }] 63)):=HBW.out.trans (hal.mono HBW.out.size)
  have hz5:(wc.alloc (.cells #[.int .u8 0, .slice pa k pc, .string { data:= #[] }, .int .i64 0, .int .i64 0, .int .i64 0, .int .u8 0, .int .i64 0, .string { data:= #[] }, .slice none 0 0, .slice none 0 0, .string { data:= #[] }] 63)).heap.size=wc.heap.size+1:=World.size_alloc _ _
  have hyb:w1.heap.size≤wc.heap.size:=HBW.out.size
  obtain ⟨yb,hyb2⟩:∃yb,wc.heap.size=yb:=⟨_,rfl⟩
  generalize hw5:wc.alloc _=w5 at L5 hb5 hz5 Y ⊢
  rw [hyb2] at Y hz5 hyb ⊢
  clear hw5 hal hyb2 x0 zx HL HBW
  obtain ⟨x0,x1,x2,x3,x4⟩:=row5 L5.bx.at_
  have a0:=L5.a.at_ 0 _ rfl;have a1:=L5.a.at_ 1 _ rfl;have a2:=L5.a.at_ 2 _ rfl;have a3:=L5.a.at_ 3 _ rfl;have a4:=L5.a.at_ 4 _ rfl;have a5:=L5.a.at_ 5 _ rfl;have a6:=L5.a.at_ 6 _ rfl
  obtain ⟨y0,y1,y2,y3,y4,y5,y6,y7,y8,y9,y10,y11⟩:=row12 Y.at_
  have f0:=Y.fr 0;have f1:=Y.fr 1;have f2:=Y.fr 2;have f3:=Y.fr 3;have f4:=Y.fr 4;have f5:=Y.fr 5;have f6:=Y.fr 6;have f7:=Y.fr 7;have f8:=Y.fr 8;have f9:=Y.fr 9;have f10:=Y.fr 10;have f11:=Y.fr 11
  have zx:=L5.bx.lt;have zy:=Y.lt;have za:=L5.a.lt
  have HLX:=Lib.hid (L5.val.sub (shows_only _ _ _)).lists
  have HL5:=Lib.hid L5
  have HB5:=Lib.hid hb5
  have HY:=Lib.hid Y
  have HTK5:=Lib.hid (HTK.out.later_ L5.below)
  have HR2:=Lib.hid hR2
  clear L5 hb5 Y hR2 HTK
  go_cut [5] from 49 to 76 (fun r wx=>r= .int .i64 0∧OZ w w1 wx R p pa k pc yb)
  case first =>
    by_cases e2:dk=2
    · subst e2
      go_wp2_with fail
      go_meet
      refine ⟨rfl,⟨⟨1,pa,k,pc, .empty,0,0,a.n,vzero, .empty⟩,V.none, ?_,rfl,rfl,rfl, ?_, ?_,isVal_none _ _⟩, ?_, ?_, ?_⟩
      · rw [←HR2.out];rfl
      · have hq:=HAB.out
        exact ⟨by simp,by simp,by simp,by simp,by simp,by simp,hq.n0,hq.n1,empty_small,empty_small⟩
      · exact (HY.out.set (i:=0) (x:= .int .u8 1) (by simp [ccells])).set (i:=5) (x:= .int .i64 a.n) (by simp [ccells])
      · exact (HL5.out.r.far (by omega)).far (by omega)
      · exact (HL5.out.below.set_ (by omega)).set_ (by omega)
      · exact (HB5.out.set_ hyb).set_ hyb
    · have g2 :(dk==2)=false:=by simp [e2]
      by_cases e3:dk=3
      · subst e3
        go_wp2_with fail
        refine (atext_any w5 (pathC pa k pc) a HAB.out ds.size hsz).mono ?_
        rintro e w6 ⟨rfl,hb6⟩
        clear x0 x1 x2 x3 x4 a0 a1 a2 a3 a4 a5 a6 y0 y1 y2 y3 y4 y5 y6 y7 y8 y9 y10 y11 f0 f1 f2 f3 f4 f5 f6 f7 f8 f9 f10 f11
        have Y:=HY.out.keep hb6 zy
        have f0:=Y.fr 0;have f1:=Y.fr 1;have f2:=Y.fr 2;have f3:=Y.fr 3;have f4:=Y.fr 4;have f5:=Y.fr 5;have f6:=Y.fr 6;have f7:=Y.fr 7;have f8:=Y.fr 8;have f9:=Y.fr 9;have f10:=Y.fr 10;have f11:=Y.fr 11
        obtain ⟨y0,y1,y2,y3,y4,y5,y6,y7,y8,y9,y10,y11⟩:=row12 Y.at_
        have zy6:=Y.lt
        have hdz:=textA_path ds.size a (pathC pa k pc)
        have HOZ:Hid (OZ w w1 (setC w6 yb (textA ds.size a (pathC pa k pc))) R p pa k pc yb):=Lib.hid (OZ.store (x:=V.none) (by rw [←HR2.out];exact congrArg some (textA_same _ _ _ _ _ _ _ _ _)) hdz.1 hdz.2.1 hdz.2.2.1 (textA_bnd hsz (pathC_bnd _ _ _)) Y hyb hlo1 (by rw [hdz.2.2.2];exact isVal_none _ _) (HL5.out.r.keep hb6 HL5.out.r.lt) (HL5.out.below.trans (hb6.mono HL5.out.below.size)) (HB5.out.trans (hb6.mono HB5.out.size)))
        clear Y hdz
        generalize textA ds.size a (pathC pa k pc)=d at HOZ ⊢
        go_wp2_with fail
        go_meet
        exact ⟨rfl,HOZ.out⟩
      · have g3:(dk==3)=false:=by simp [e3]
        by_cases e4:dk=4
        · subst e4
          obtain ⟨_,_,_,_,hvl,_⟩:=HLX.out
          dsimp only at hvl
          have hll:=hvl.len;have hfl:=hvl.few
          have hwl:=(V.str_weight (.mk 4 dn ds lx ox)).2.1
          have hln:cll≤1466015503700:=by have:(V.mk 4 dn ds lx ox).ls=lx:=rfl;rw [this] at hwl;omega
          have HLL:=Lib.hid hll
          clear hll hvl hwl
          go_wp2_with fail
          refine (alist_any w5 (pathC pa k pc) rfl a HAB.out cll hfl tl HTK5.out).mono ?_
          rintro e w6 ⟨⟨cv,rfl,hI6⟩,hb6⟩
          clear x0 x1 x2 x3 x4 a0 a1 a2 a3 a4 a5 a6 y0 y1 y2 y3 y4 y5 y6 y7 y8 y9 y10 y11 f0 f1 f2 f3 f4 f5 f6 f7 f8 f9 f10 f11
          have Y:=HY.out.keep hb6 zy
          have f0:=Y.fr 0;have f1:=Y.fr 1;have f2:=Y.fr 2;have f3:=Y.fr 3;have f4:=Y.fr 4;have f5:=Y.fr 5;have f6:=Y.fr 6;have f7:=Y.fr 7;have f8:=Y.fr 8;have f9:=Y.fr 9;have f10:=Y.fr 10;have f11:=Y.fr 11
          obtain ⟨y0,y1,y2,y3,y4,y5,y6,y7,y8,y9,y10,y11⟩:=row12 Y.at_
          have zy6:=Y.lt
          have HOZ:Hid (OZ w w1 (setC w6 yb (listA cll a (pathC pa k pc) cv)) R p pa k pc yb):=Lib.hid (OZ.store (x:=listV cll a.k tl) (by rw [←HR2.out,HLL.out];exact congrArg some (listA_same _ _ _ _ _ _ _ _ _ _)) rfl rfl rfl (listA_bnd hln (pathC_bnd _ _ _) _) Y hyb hlo1 (hI6.sub (shows_step fun k hk _=>⟨by omega,rfl⟩)) (HL5.out.r.keep hb6 HL5.out.r.lt) (HL5.out.below.trans (hb6.mono HL5.out.below.size)) (HB5.out.trans (hb6.mono HB5.out.size)))
          clear Y hI6
          generalize listA cll a (pathC pa k pc) cv=d at HOZ ⊢
          go_wp2_with fail
          go_meet
          exact ⟨rfl,HOZ.out⟩
        · have g4:(dk==4)=false:=by simp [e4]
          by_cases e5:dk=5
          · subst e5
            obtain ⟨_,_,_,_,_,hvo⟩:=HLX.out
            dsimp only at hvo
            have HVO:=Lib.hid hvo
            clear hvo
            go_wp2_with fail
            refine (afield_any w5 (pathC pa k pc) rfl a HAB.out ⟨5,dn,ds,cla,cll,clc,coa,col,coc⟩ ox HVO.out tl HTK5.out).mono ?_
            rintro e w6 ⟨⟨cv,rfl,hI6⟩,hb6⟩
            clear x0 x1 x2 x3 x4 a0 a1 a2 a3 a4 a5 a6 y0 y1 y2 y3 y4 y5 y6 y7 y8 y9 y10 y11 f0 f1 f2 f3 f4 f5 f6 f7 f8 f9 f10 f11
            have Y:=HY.out.keep hb6 zy
            have f0:=Y.fr 0;have f1:=Y.fr 1;have f2:=Y.fr 2;have f3:=Y.fr 3;have f4:=Y.fr 4;have f5:=Y.fr 5;have f6:=Y.fr 6;have f7:=Y.fr 7;have f8:=Y.fr 8;have f9:=Y.fr 9;have f10:=Y.fr 10;have f11:=Y.fr 11
            obtain ⟨y0,y1,y2,y3,y4,y5,y6,y7,y8,y9,y10,y11⟩:=row12 Y.at_
            have zy6:=Y.lt
            have HOZ:Hid (OZ w w1 (setC w6 yb (fieldA ox a (pathC pa k pc) cv)) R p pa k pc yb):=Lib.hid (OZ.store (x:=fieldV ox a tl) (by rw [←HR2.out];exact congrArg some (fieldA_same _ _ _ _ _ _ _ _ _ _)) rfl rfl rfl (fieldA_bnd HVO.out (pathC_bnd _ _ _) _) Y hyb hlo1 (hI6.sub (shows_step fun k hk _=>⟨by omega,rfl⟩)) (HL5.out.r.keep hb6 HL5.out.r.lt) (HL5.out.below.trans (hb6.mono HL5.out.below.size)) (HB5.out.trans (hb6.mono HB5.out.size)))
            clear Y hI6
            generalize fieldA ox a (pathC pa k pc) cv=d at HOZ ⊢
            go_wp2_with fail
            go_meet
            exact ⟨rfl,HOZ.out⟩
          · have g5:(dk==5)=false:=by simp [e5]
            have hRn:R=none:=by
              have hkd:(V.mk dk dn ds lx ox).kd=dk:=rfl
              rw [←HR2.out,oneX,hkd,if_neg e2,if_neg e3,if_neg e4,if_neg e5]
            have HRN:=Lib.hid hRn
            clear hRn
            obtain ⟨r0,r1,r2,r3,r4,r5,r6,r7,r8,r9,r10,r11⟩:=row12 HL5.out.r.at_
            have rf0:=HL5.out.r.fr 0;have rf1:=HL5.out.r.fr 1;have rf2:=HL5.out.r.fr 2;have rf3:=HL5.out.r.fr 3;have rf4:=HL5.out.r.fr 4;have rf5:=HL5.out.r.fr 5;have rf6:=HL5.out.r.fr 6;have rf7:=HL5.out.r.fr 7;have rf8:=HL5.out.r.fr 8;have rf9:=HL5.out.r.fr 9;have rf10:=HL5.out.r.fr 10;have rf11:=HL5.out.r.fr 11
            have zr:=HL5.out.r.lt
            go_wp2_with fail
            rw [←HQ.out,HRN.out]
            exact one6_leave0 (d:=pathC pa k pc) HL5.out.r HL5.out.below rfl rfl rfl
  case rest=>
  clear x0 x1 x2 x3 x4 a0 a1 a2 a3 a4 a5 a6 y0 y1 y2 y3 y4 y5 y6 y7 y8 y9 y10 y11 f0 f1 f2 f3 f4 f5 f6 f7 f8 f9 f10 f11
  rename_i wz
  obtain ⟨rfl,Z⟩:=hcut
  obtain ⟨d,y,hRd,e1,e2,e3,hdb,Y,hyv⟩:=Z.box
  obtain ⟨y0,y1,y2,y3,y4,y5,y6,y7,y8,y9,y10,y11⟩:=row12 Y.at_
  obtain ⟨r0,r1,r2,r3,r4,r5,r6,r7,r8,r9,r10,r11⟩:=row12 Z.r.at_
  have rf0:=Z.r.fr 0;have rf1:=Z.r.fr 1;have rf2:=Z.r.fr 2;have rf3:=Z.r.fr 3;have rf4:=Z.r.fr 4;have rf5:=Z.r.fr 5;have rf6:=Z.r.fr 6;have rf7:=Z.r.fr 7;have rf8:=Z.r.fr 8;have rf9:=Z.r.fr 9;have rf10:=Z.r.fr 10;have rf11:=Z.r.fr 11
  have zr:=Z.r.lt;have zy6:=Y.lt
  have hst:=isSteps_S (S':=fun b=>w.heap.size+3≤b) HST2.out rfl Z.b1.size fun k hk hl=>⟨hk,Z.b1.block k hl⟩
  rw [←e1, ←e2, ←e3] at hst
  have HS:=Lib.hid hst
  have HZ:=Lib.hid Z
  have HDB:=Lib.hid hdb
  have HYV:=Lib.hid hyv
  have HRD:=Lib.hid hRd
  clear hst Z hdb hyv Y hRd e1 e2 e3
  go_wp2_with fail
  rw [←HQ.out,HRD.out]
  exact one6_leave HZ.out.r HS.out HYV.out HZ.out.below HDB.out rfl rfl rfl
end Go.Proofs.YtgcfhkceejcliaaGreatDoor
namespace Go.Proofs.YtgcfhkceejcliaaGreatDoor
open Go.RowKit
set_option maxHeartbeats 8000000 in
set_option maxRecDepth 100000 in
theorem do06_obj (w:World) (vk vn:Int) (vs:ByteArray) (la:Option Addr) (ll lc:Nat) (oa:Option Addr) (ol oc:Nat) (v:V) (hv:IsVal w w.heap.size v ⟨vk,vn,vs,la,ll,lc,oa,ol,oc⟩) (hw:v.weight≤100000000) (p:List St) (xv:V) (cc:CC) (hcb:cc.Bnd) (hp:IsSteps w w.heap.size p cc.pa cc.pl cc.pc) (hxv:IsVal w w.heap.size xv cc.v) (hxw:xv.weight≤100000000) (hT:Tabs w) (he:checkP v ⟨cc.k,p,cc.key,cc.i,cc.j,cc.n,xv,cc.s⟩=0) (hk:cc.k=2∨cc.k=3):
    Calls Tryz.prog 43 #[.agg #[.int .u8 vk, .int .i64 vn, .string vs, .slice la ll lc, .slice oa ol oc], .agg #[.int .u8 cc.k, .slice cc.pa cc.pl cc.pc, .string cc.key, .int .i64 cc.i, .int .i64 cc.j, .int .i64 cc.n, .int .u8 cc.v.k, .int .i64 cc.v.n, .string cc.v.s, .slice cc.v.la cc.v.ll cc.v.lc, .slice cc.v.oa cc.v.ol cc.v.oc, .string cc.s]] w (DoPost w (doP v ⟨cc.k,p,cc.key,cc.i,cc.j,cc.n,xv,cc.s⟩)):=by
  obtain ⟨_,x,hg,hkd⟩:=checkP_ok he
  dsimp only at hg hkd
  have hxw2:=getP_weight p hg
  have HCK:Hid (∀W,Below w.heap.size w W→Calls Tryz.prog 82 #[.agg #[.int .u8 vk, .int .i64 vn, .string vs, .slice la ll lc, .slice oa ol oc], .agg #[.int .u8 cc.k, .slice cc.pa cc.pl cc.pc, .string cc.key, .int .i64 cc.i, .int .i64 cc.j, .int .i64 cc.n, .int .u8 cc.v.k, .int .i64 cc.v.n, .string cc.v.s, .slice cc.v.la cc.v.ll cc.v.lc, .slice cc.v.oa cc.v.ol cc.v.oc, .string cc.s]] W fun e w'=>e= .returned (.int .i64 0)∧Below W.heap.size W w'):=fun W hW=>by
    have:=check06_any W vk vn vs la ll lc oa ol oc v (hv.later_ hW) (by omega) p xv cc hcb (hp.later_ hW) (hxv.later_ hW) (by omega) (hT.below hW)
    rw [he] at this;exact this
  have HGT:Hid (∀W,Below w.heap.size w W→Calls Tryz.prog 78 #[.agg #[.int .u8 vk, .int .i64 vn, .string vs, .slice la ll lc, .slice oa ol oc], .slice cc.pa cc.pl cc.pc] W (GetPost W (some x))):=fun W hW=>by rw [←hg];exact get_any W vk vn vs la ll lc oa ol oc v (hv.later_ hW) p cc.pa cc.pl cc.pc (hp.later_ hW)
  have HPT:Hid (∀(W:World) (y:V) (k n:Int) (s:ByteArray) (a:Option Addr) (m c:Nat) (a':Option Addr) (m' c':Nat),Below w.heap.size w W→IsVal W W.heap.size y ⟨k,n,s,a,m,c,a',m',c'⟩→Calls Tryz.prog 86 #[.agg #[.int .u8 vk, .int .i64 vn, .string vs, .slice la ll lc, .slice oa ol oc], .slice cc.pa cc.pl cc.pc, .agg #[.int .u8 k, .int .i64 n, .string s, .slice a m c, .slice a' m' c']] W (GetPost W (putP v p y))):=fun W y k n s a m c a' m' c' hW hy=>put_any y k n s a m c a' m' c' p W vk vn vs la ll lc oa ol oc v (hv.later_ hW) cc.pa cc.pl cc.pc (hp.later_ hW) hy
  have hdo:doP v ⟨cc.k,p,cc.key,cc.i,cc.j,cc.n,xv,cc.s⟩=doneQ (putP v p (doneP x ⟨cc.k,p,cc.key,cc.i,cc.j,cc.n,xv,cc.s⟩)):=doP_ok he hg
  rw [hdo]
  have HB:=Lib.hid (DB.start w ⟨vk,vn,vs,la,ll,lc,oa,ol,oc⟩ cc 33 63 33)
  have HTT:=Lib.hid hT
  have HXV:=Lib.hid hxv
  have HCB:=Lib.hid hcb
  have HKD:=Lib.hid hkd
  have hsw:=x.str_weight
  obtain ⟨kx,nx,sx,lx,ox,rfl⟩:=x.eta
  dsimp only [V.str,V.ls,V.os] at hsw
  obtain ⟨Y,hY⟩:∃Y,doneP (.mk kx nx sx lx ox) ⟨cc.k,p,cc.key,cc.i,cc.j,cc.n,xv,cc.s⟩=Y:=⟨_,rfl⟩
  rw [hY]
  obtain ⟨z,hPR⟩:=putP_some p hg Y
  rw [hPR,doneQ_some]
  have HY:=Lib.hid hY
  have HPR:=Lib.hid hPR
  clear hv hp hxv hT hcb hdo hY hPR he hg hkd
  rcases hk with hk|hk
  all_goals
    have HK:=Lib.hid hk
    clear hk
    go_enter Tryz.func43,Tryz.ntmps43
    generalize hQ0:bodyPost _ _ _=Q0
    have HQ:=Lib.hid hQ0
    clear hQ0
    go_wp2_with fail
    refine (HCK.out _ HB.out.below).mono ?_
    rintro e W ⟨rfl,hb1⟩
    have B:=HB.out.next hb1 (by simp)
    obtain ⟨v0,v1,v2,v3,v4⟩:=row5 B.v.at_
    obtain ⟨b0,b1,b2,b3,b4,b5,b6,b7,b8,b9,b10,b11⟩:=row12 B.c.at_
    obtain ⟨r0,r1,r2,r3,r4⟩:=row5 B.r.at_
    have f0:=B.r.fr 0;have f1:=B.r.fr 1;have f2:=B.r.fr 2;have f3:=B.r.fr 3;have f4:=B.r.fr 4
    have z0:=B.v.lt;have z1:=B.c.lt;have z2:=B.r.lt
    have HBW:=Lib.hid B
    clear B hb1
    go_wp2_with fail
    refine (HGT.out _ HBW.out.below).mono ?_
    rintro e W2 ⟨⟨d,rfl,hI⟩,hb2⟩
    have B2:=HBW.out.next hb2 (Nat.succ_le_of_lt z2)
    obtain ⟨e1,e2,e3,hbd,hl,ho⟩:=hI.lists
    subst e1 e2 e3
    clear v0 v1 v2 v3 v4 r0 r1 r2 r3 r4 f0 f1 f2 f3 f4 b0 b1 b2 b3 b4 b5 b6 b7 b8 b9 b10 b11
    obtain ⟨v0,v1,v2,v3,v4⟩:=row5 B2.v.at_
    obtain ⟨b0,b1,b2,b3,b4,b5,b6,b7,b8,b9,b10,b11⟩:=row12 B2.c.at_
    obtain ⟨r0,r1,r2,r3,r4⟩:=row5 B2.r.at_
    have f0:=B2.r.fr 0;have f1:=B2.r.fr 1;have f2:=B2.r.fr 2;have f3:=B2.r.fr 3;have f4:=B2.r.fr 4
    have z0:=B2.v.lt;have z1:=B2.c.lt;have z2:=B2.r.lt
    have zW:=HBW.out.below.size
    have zW2:=hb2.size
    have z22:=B2.r.lt
    have HB2:=Lib.hid B2
    have HI:=Lib.hid hI
    have HBD:=Lib.hid hbd
    have HL:=Lib.hid hl
    have HO:=Lib.hid ho
    have HAL:=Lib.hid (((Below.refl _ _).alloc (Nat.le_refl _) (.cells #[.int .u8 d.k, .int .i64 d.n, .string d.s, .slice d.la d.ll d.lc, .slice d.oa d.ol d.oc] 33)):Below W2.heap.size W2 _)
    clear B2 hI hbd hl ho hb2
    rw [HK.out] at b0
    have HFL:Hid (Calls Tryz.prog 83 #[.slice d.oa d.ol d.oc, .agg #[.int .u8 cc.k, .slice cc.pa cc.pl cc.pc, .string cc.key, .int .i64 cc.i, .int .i64 cc.j, .int .i64 cc.n, .int .u8 cc.v.k, .int .i64 cc.v.n, .string cc.v.s, .slice cc.v.la cc.v.ll cc.v.lc, .slice cc.v.oa cc.v.ol cc.v.oc, .string cc.s]] (W2.alloc (.cells #[.int .u8 d.k, .int .i64 d.n, .string d.s, .slice d.la d.ll d.lc, .slice d.oa d.ol d.oc] 33)) (FieldsPost (W2.alloc (.cells #[.int .u8 d.k, .int .i64 d.n, .string d.s, .slice d.la d.ll d.lc, .slice d.oa d.ol d.oc] 33)) (fun k=>W.heap.size≤k∧k≠W2.heap.size) (fieldsDo ox cc.key xv (cc.k==3)))):=by
      have hb3:=HB2.out.below.trans (HAL.out.mono HB2.out.below.size)
      refine fields06_any (W2.alloc (.cells #[.int .u8 d.k, .int .i64 d.n, .string d.s, .slice d.la d.ll d.lc, .slice d.oa d.ol d.oc] 33)) (fun k=>W.heap.size≤k∧k≠W2.heap.size) (fun k hk=>by rw [World.size_alloc] at hk;omega) ox d.oa d.ol d.oc ?_ cc xv (HXV.out.later_ hb3) HCB.out.key1 (by have:=HO.out.len;omega)
      exact (IsFields.sub (shows_step fun k hk hl=>⟨⟨hk,by omega⟩,HAL.out.block k hl⟩) HO.out).more HAL.out.size
    rw [HK.out] at HFL
    go_wp2_with fail
    refine HFL.out.mono ?_
    rintro e w4 ⟨⟨a4,n4,c4,rfl,hI4⟩,hb4⟩
    have hbw4:Below W2.heap.size W2 w4:=HAL.out.trans (hb4.mono (by simp))
    have B4:=HB2.out.next hbw4 (Nat.succ_le_of_lt z2)
    have X4:BC w4 W2.heap.size (vcells d):=(BC.start W2 #[.int .u8 d.k, .int .i64 d.n, .string d.s, .slice d.la d.ll d.lc, .slice d.oa d.ol d.oc] 33).keep hb4 (by simp)
    obtain ⟨x0,x1,x2,x3,x4⟩:=row5 X4.at_
    have xf0:=X4.fr 2;have xf1:=X4.fr 3;have xf2:=X4.fr 4
    have xlt:=X4.lt
    clear v0 v1 v2 v3 v4 r0 r1 r2 r3 r4 f0 f1 f2 f3 f4 b0 b1 b2 b3 b4 b5 b6 b7 b8 b9 b10 b11
    obtain ⟨v0,v1,v2,v3,v4⟩:=row5 B4.v.at_
    obtain ⟨b0,b1,b2,b3,b4,b5,b6,b7,b8,b9,b10,b11⟩:=row12 B4.c.at_
    obtain ⟨r0,r1,r2,r3,r4⟩:=row5 B4.r.at_
    have f0:=B4.r.fr 0;have f1:=B4.r.fr 1;have f2:=B4.r.fr 2;have f3:=B4.r.fr 3;have f4:=B4.r.fr 4
    have z0:=B4.v.lt;have z1:=B4.c.lt;have z2:=B4.r.lt
    have HBW4:=Lib.hid hbw4
    clear B4 X4 hb4 hbw4
    have HI4:=Lib.hid hI4
    clear hI4
    go_wp2_with fail
    have hbl4:Below W2.heap.size W2 (w4.setCell ⟨W2.heap.size,4,none⟩ (.slice a4 n4 c4)):=HBW4.out.set_ (Nat.le_refl _)
    have hx4:=(HI.out.sub (shows_only _ _ _)).later_ hbl4
    obtain ⟨_,_,_,_,hl4,ho4⟩:=hx4.lists
    have HB4:=Lib.hid (HB2.out.next hbl4 (Nat.succ_le_of_lt z22))
    have HCALL:Hid (Calls Tryz.prog 86 #[.agg #[.int .u8 vk, .int .i64 vn, .string vs, .slice la ll lc, .slice oa ol oc], .slice cc.pa cc.pl cc.pc, .agg #[.int .u8 d.k, .int .i64 d.n, .string d.s, .slice d.la d.ll d.lc, .slice a4 n4 c4]] (w4.setCell ⟨W2.heap.size,4,none⟩ (.slice a4 n4 c4)) (GetPost (w4.setCell ⟨W2.heap.size,4,none⟩ (.slice a4 n4 c4)) (some z))):=by
      have:=HPT.out (w4.setCell ⟨W2.heap.size,4,none⟩ (.slice a4 n4 c4)) Y d.k d.n d.s d.la d.ll d.lc a4 n4 c4 HB4.out.below (by
        have hYe:Y= .mk d.k d.n d.s lx (fieldsDo ox cc.key xv (cc.k==3)):=by
          rw [←HY.out,doneP,if_neg (by have:=HK.out;dsimp only;omega),if_pos (by have:=HK.out;dsimp only;omega)];rfl
        have hst:RStep w4 (w4.setCell ⟨W2.heap.size,4,none⟩ (.slice a4 n4 c4)) W2.heap.size:=RStep.self
        rw [hYe,HK.out]
        exact isVal_parts HBD.out.k0 HBD.out.k1 HBD.out.n0 HBD.out.n1 HBD.out.s1 hl4 ((IsFields.sub (fun b o u hb h=>by
          obtain ⟨hs,hc⟩:=only_cell h
          exact hst.cell hc hs.2) HI4.out).more hst.size))
      rw [HPR.out] at this;exact this
    clear hx4 hl4 ho4
    refine HCALL.out.mono ?_
    rintro e W6 ⟨⟨d6,rfl,hz⟩,hb6⟩
    have B6:=HB4.out.next hb6 (Nat.succ_le_of_lt HB4.out.r.lt)
    clear v0 v1 v2 v3 v4 r0 r1 r2 r3 r4 f0 f1 f2 f3 f4 b0 b1 b2 b3 b4 b5 b6 b7 b8 b9 b10 b11
    obtain ⟨v0,v1,v2,v3,v4⟩:=row5 B6.v.at_
    obtain ⟨b0,b1,b2,b3,b4,b5,b6,b7,b8,b9,b10,b11⟩:=row12 B6.c.at_
    obtain ⟨r0,r1,r2,r3,r4⟩:=row5 B6.r.at_
    have f0:=B6.r.fr 0;have f1:=B6.r.fr 1;have f2:=B6.r.fr 2;have f3:=B6.r.fr 3;have f4:=B6.r.fr 4
    have z0:=B6.v.lt;have z1:=B6.c.lt;have z2:=B6.r.lt
    have HB6:=Lib.hid B6
    have hz4:=HB4.out.below.size
    have hz5:=HB4.out.r.lt
    have HZ:=Lib.hid hz
    clear B6 hb6 hz
    go_wp2_with fail
    rw [←HQ.out]
    have ST:=HB6.out.result d6
    have hst:=setV_step W6 (w.heap.size+1+1) 0 d6
    exact do_leave (r:=(z,0)) ST.1 ((isVal_far (base:=w.heap.size+1+1+1) (HZ.out.sub (shows_step fun k hk _=>⟨Nat.le_trans (Nat.succ_le_of_lt hz5) hk,rfl⟩)) hst (by omega)).sub (shows_step fun k hk _=>⟨by omega,rfl⟩)) ST.2 rfl rfl rfl
end Go.Proofs.YtgcfhkceejcliaaGreatDoor
namespace Go.Proofs.YtgcfhkceejcliaaGreatDoor
open Go.RowKit
set_option maxHeartbeats 8000000 in
set_option maxRecDepth 100000 in
theorem do06_text (w:World) (vk vn:Int) (vs:ByteArray) (la:Option Addr) (ll lc:Nat) (oa:Option Addr) (ol oc:Nat) (v:V) (hv:IsVal w w.heap.size v ⟨vk,vn,vs,la,ll,lc,oa,ol,oc⟩) (hw:v.weight≤100000000) (p:List St) (xv:V) (cc:CC) (hcb:cc.Bnd) (hp:IsSteps w w.heap.size p cc.pa cc.pl cc.pc) (hxv:IsVal w w.heap.size xv cc.v) (hxw:xv.weight≤100000000) (hcs:cc.s.size≤1000000000000) (hT:Tabs w) (he:checkP v ⟨cc.k,p,cc.key,cc.i,cc.j,cc.n,xv,cc.s⟩=0) (hk:cc.k=8∨cc.k=9):
    Calls Tryz.prog 43 #[.agg #[.int .u8 vk, .int .i64 vn, .string vs, .slice la ll lc, .slice oa ol oc], .agg #[.int .u8 cc.k, .slice cc.pa cc.pl cc.pc, .string cc.key, .int .i64 cc.i, .int .i64 cc.j, .int .i64 cc.n, .int .u8 cc.v.k, .int .i64 cc.v.n, .string cc.v.s, .slice cc.v.la cc.v.ll cc.v.lc, .slice cc.v.oa cc.v.ol cc.v.oc, .string cc.s]] w (DoPost w (doP v ⟨cc.k,p,cc.key,cc.i,cc.j,cc.n,xv,cc.s⟩)):=by
  obtain ⟨_,x,hg,hkd⟩:=checkP_ok he
  dsimp only at hg hkd
  have hxw2:=getP_weight p hg
  have HCK:Hid (∀W,Below w.heap.size w W→Calls Tryz.prog 82 #[.agg #[.int .u8 vk, .int .i64 vn, .string vs, .slice la ll lc, .slice oa ol oc], .agg #[.int .u8 cc.k, .slice cc.pa cc.pl cc.pc, .string cc.key, .int .i64 cc.i, .int .i64 cc.j, .int .i64 cc.n, .int .u8 cc.v.k, .int .i64 cc.v.n, .string cc.v.s, .slice cc.v.la cc.v.ll cc.v.lc, .slice cc.v.oa cc.v.ol cc.v.oc, .string cc.s]] W fun e w'=>e= .returned (.int .i64 0)∧Below W.heap.size W w'):=fun W hW=>by
    have:=check06_any W vk vn vs la ll lc oa ol oc v (hv.later_ hW) (by omega) p xv cc hcb (hp.later_ hW) (hxv.later_ hW) (by omega) (hT.below hW)
    rw [he] at this;exact this
  have HGT:Hid (∀W,Below w.heap.size w W→Calls Tryz.prog 78 #[.agg #[.int .u8 vk, .int .i64 vn, .string vs, .slice la ll lc, .slice oa ol oc], .slice cc.pa cc.pl cc.pc] W (GetPost W (some x))):=fun W hW=>by rw [←hg];exact get_any W vk vn vs la ll lc oa ol oc v (hv.later_ hW) p cc.pa cc.pl cc.pc (hp.later_ hW)
  have HPT:Hid (∀(W:World) (y:V) (k n:Int) (s:ByteArray) (a:Option Addr) (m c:Nat) (a':Option Addr) (m' c':Nat),Below w.heap.size w W→IsVal W W.heap.size y ⟨k,n,s,a,m,c,a',m',c'⟩→Calls Tryz.prog 86 #[.agg #[.int .u8 vk, .int .i64 vn, .string vs, .slice la ll lc, .slice oa ol oc], .slice cc.pa cc.pl cc.pc, .agg #[.int .u8 k, .int .i64 n, .string s, .slice a m c, .slice a' m' c']] W (GetPost W (putP v p y))):=fun W y k n s a m c a' m' c' hW hy=>put_any y k n s a m c a' m' c' p W vk vn vs la ll lc oa ol oc v (hv.later_ hW) cc.pa cc.pl cc.pc (hp.later_ hW) hy
  have hdo:doP v ⟨cc.k,p,cc.key,cc.i,cc.j,cc.n,xv,cc.s⟩=doneQ (putP v p (doneP x ⟨cc.k,p,cc.key,cc.i,cc.j,cc.n,xv,cc.s⟩)):=doP_ok he hg
  rw [hdo]
  have HB:=Lib.hid (DB.start w ⟨vk,vn,vs,la,ll,lc,oa,ol,oc⟩ cc 33 63 33)
  have HTT:=Lib.hid hT
  have HXV:=Lib.hid hxv
  have HCB:=Lib.hid hcb
  have HKD:=Lib.hid hkd
  have hsw:=x.str_weight
  obtain ⟨kx,nx,sx,lx,ox,rfl⟩:=x.eta
  dsimp only [V.str,V.ls,V.os] at hsw
  obtain ⟨Y,hY⟩:∃Y,doneP (.mk kx nx sx lx ox) ⟨cc.k,p,cc.key,cc.i,cc.j,cc.n,xv,cc.s⟩=Y:=⟨_,rfl⟩
  rw [hY]
  obtain ⟨z,hPR⟩:=putP_some p hg Y
  rw [hPR,doneQ_some]
  have HY:=Lib.hid hY
  have HPR:=Lib.hid hPR
  clear hv hp hxv hT hcb hdo hY hPR he hg hkd
  rcases hk with hk|hk
  all_goals
    have HK:=Lib.hid hk
    clear hk
    go_enter Tryz.func43,Tryz.ntmps43
    generalize hQ0:bodyPost _ _ _=Q0
    have HQ:=Lib.hid hQ0
    clear hQ0
    go_wp2_with fail
    refine (HCK.out _ HB.out.below).mono ?_
    rintro e W ⟨rfl,hb1⟩
    have B:=HB.out.next hb1 (by simp)
    obtain ⟨v0,v1,v2,v3,v4⟩:=row5 B.v.at_
    obtain ⟨b0,b1,b2,b3,b4,b5,b6,b7,b8,b9,b10,b11⟩:=row12 B.c.at_
    obtain ⟨r0,r1,r2,r3,r4⟩:=row5 B.r.at_
    have f0:=B.r.fr 0;have f1:=B.r.fr 1;have f2:=B.r.fr 2;have f3:=B.r.fr 3;have f4:=B.r.fr 4
    have z0:=B.v.lt;have z1:=B.c.lt;have z2:=B.r.lt
    have HBW:=Lib.hid B
    clear B hb1
    go_wp2_with fail
    refine (HGT.out _ HBW.out.below).mono ?_
    rintro e W2 ⟨⟨d,rfl,hI⟩,hb2⟩
    have B2:=HBW.out.next hb2 (Nat.succ_le_of_lt z2)
    obtain ⟨e1,e2,e3,hbd,hl,ho⟩:=hI.lists
    subst e1 e2 e3
    clear v0 v1 v2 v3 v4 r0 r1 r2 r3 r4 f0 f1 f2 f3 f4 b0 b1 b2 b3 b4 b5 b6 b7 b8 b9 b10 b11
    obtain ⟨v0,v1,v2,v3,v4⟩:=row5 B2.v.at_
    obtain ⟨b0,b1,b2,b3,b4,b5,b6,b7,b8,b9,b10,b11⟩:=row12 B2.c.at_
    obtain ⟨r0,r1,r2,r3,r4⟩:=row5 B2.r.at_
    have f0:=B2.r.fr 0;have f1:=B2.r.fr 1;have f2:=B2.r.fr 2;have f3:=B2.r.fr 3;have f4:=B2.r.fr 4
    have z0:=B2.v.lt;have z1:=B2.c.lt;have z2:=B2.r.lt
    have zW:=HBW.out.below.size
    have zW2:=hb2.size
    have z22:=B2.r.lt
    have HB2:=Lib.hid B2
    have HI:=Lib.hid hI
    have HBD:=Lib.hid hbd
    have HL:=Lib.hid hl
    have HO:=Lib.hid ho
    have HAL:=Lib.hid (((Below.refl _ _).alloc (Nat.le_refl _) (.cells #[.int .u8 d.k, .int .i64 d.n, .string d.s, .slice d.la d.ll d.lc, .slice d.oa d.ol d.oc] 33)):Below W2.heap.size W2 _)
    clear B2 hI hbd hl ho hb2
    rw [HK.out] at b0
    have hts:d.s.size≤1000000000000:=by have:=hsw.1;omega
    have htc:tCheck d.s cc.k cc.i cc.n=0:=by
      have hk:=HKD.out
      rw [kindsP,if_neg (by have:=HK.out;omega),if_neg (by have:=HK.out;omega),if_pos (by have:=HK.out;omega)] at hk
      split at hk
      · omega
      · exact hk
    obtain ⟨TD,hTD⟩:∃TD,textDo d.s cc.k cc.i cc.n cc.s=TD:=⟨_,rfl⟩
    have htz:TD.size≤140737488355328:=by
      rw [←hTD]
      have:=textDo_size d.s cc.k cc.i cc.n cc.s
      omega
    have HFL:Hid (Calls Tryz.prog 84 #[.string d.s, .agg #[.int .u8 cc.k, .slice cc.pa cc.pl cc.pc, .string cc.key, .int .i64 cc.i, .int .i64 cc.j, .int .i64 cc.n, .int .u8 cc.v.k, .int .i64 cc.v.n, .string cc.v.s, .slice cc.v.la cc.v.ll cc.v.lc, .slice cc.v.oa cc.v.ol cc.v.oc, .string cc.s]] (W2.alloc (.cells #[.int .u8 d.k, .int .i64 d.n, .string d.s, .slice d.la d.ll d.lc, .slice d.oa d.ol d.oc] 33)) fun e w'=>e= .returned (.tuple #[.string TD, .int .i64 0])∧Below (W2.alloc (.cells #[.int .u8 d.k, .int .i64 d.n, .string d.s, .slice d.la d.ll d.lc, .slice d.oa d.ol d.oc] 33)).heap.size (W2.alloc (.cells #[.int .u8 d.k, .int .i64 d.n, .string d.s, .slice d.la d.ll d.lc, .slice d.oa d.ol d.oc] 33)) w'):=by
      have hb3:=HB2.out.below.trans (HAL.out.mono HB2.out.below.size)
      rw [←hTD]
      exact textDo_any (W2.alloc (.cells #[.int .u8 d.k, .int .i64 d.n, .string d.s, .slice d.la d.ll d.lc, .slice d.oa d.ol d.oc] 33)) d.s cc HCB.out hts (HTT.out.below hb3) htc
    have HTD:=Lib.hid hTD
    clear hTD htc
    rw [HK.out] at HFL
    go_wp2_with fail
    refine HFL.out.mono ?_
    rintro e w4 ⟨rfl,hb4⟩
    have hbw4:Below W2.heap.size W2 w4:=HAL.out.trans (hb4.mono (by simp))
    have B4:=HB2.out.next hbw4 (Nat.succ_le_of_lt z2)
    have X4:BC w4 W2.heap.size (vcells d):=(BC.start W2 #[.int .u8 d.k, .int .i64 d.n, .string d.s, .slice d.la d.ll d.lc, .slice d.oa d.ol d.oc] 33).keep hb4 (by simp)
    obtain ⟨x0,x1,x2,x3,x4⟩:=row5 X4.at_
    have xf0:=X4.fr 2;have xf1:=X4.fr 3;have xf2:=X4.fr 4
    have xlt:=X4.lt
    clear v0 v1 v2 v3 v4 r0 r1 r2 r3 r4 f0 f1 f2 f3 f4 b0 b1 b2 b3 b4 b5 b6 b7 b8 b9 b10 b11
    obtain ⟨v0,v1,v2,v3,v4⟩:=row5 B4.v.at_
    obtain ⟨b0,b1,b2,b3,b4,b5,b6,b7,b8,b9,b10,b11⟩:=row12 B4.c.at_
    obtain ⟨r0,r1,r2,r3,r4⟩:=row5 B4.r.at_
    have f0:=B4.r.fr 0;have f1:=B4.r.fr 1;have f2:=B4.r.fr 2;have f3:=B4.r.fr 3;have f4:=B4.r.fr 4
    have z0:=B4.v.lt;have z1:=B4.c.lt;have z2:=B4.r.lt
    have HBW4:=Lib.hid hbw4
    clear B4 X4 hb4 hbw4
    go_wp2_with fail
    have hbl4:Below W2.heap.size W2 (w4.setCell ⟨W2.heap.size,2,none⟩ (.string TD)):=HBW4.out.set_ (Nat.le_refl _)
    have hx4:=(HI.out.sub (shows_only _ _ _)).later_ hbl4
    obtain ⟨_,_,_,_,hl4,ho4⟩:=hx4.lists
    have HB4:=Lib.hid (HB2.out.next hbl4 (Nat.succ_le_of_lt z22))
    have HCALL:Hid (Calls Tryz.prog 86 #[.agg #[.int .u8 vk, .int .i64 vn, .string vs, .slice la ll lc, .slice oa ol oc], .slice cc.pa cc.pl cc.pc, .agg #[.int .u8 d.k, .int .i64 d.n, .string TD, .slice d.la d.ll d.lc, .slice d.oa d.ol d.oc]] (w4.setCell ⟨W2.heap.size,2,none⟩ (.string TD)) (GetPost (w4.setCell ⟨W2.heap.size,2,none⟩ (.string TD)) (some z))):=by
      have:=HPT.out (w4.setCell ⟨W2.heap.size,2,none⟩ (.string TD)) Y d.k d.n TD d.la d.ll d.lc d.oa d.ol d.oc HB4.out.below (by
        have hYe:Y= .mk d.k d.n TD lx ox:=by
          rw [←HY.out,doneP,if_neg (by have:=HK.out;dsimp only;omega),if_neg (by have:=HK.out;dsimp only;omega),if_pos (by have:=HK.out;dsimp only;omega), ←HTD.out];rfl
        rw [hYe]
        exact isVal_parts HBD.out.k0 HBD.out.k1 HBD.out.n0 HBD.out.n1 htz hl4 ho4)
      rw [HPR.out] at this;exact this
    clear hx4 hl4 ho4
    refine HCALL.out.mono ?_
    rintro e W6 ⟨⟨d6,rfl,hz⟩,hb6⟩
    have B6:=HB4.out.next hb6 (Nat.succ_le_of_lt HB4.out.r.lt)
    clear v0 v1 v2 v3 v4 r0 r1 r2 r3 r4 f0 f1 f2 f3 f4 b0 b1 b2 b3 b4 b5 b6 b7 b8 b9 b10 b11
    obtain ⟨v0,v1,v2,v3,v4⟩:=row5 B6.v.at_
    obtain ⟨b0,b1,b2,b3,b4,b5,b6,b7,b8,b9,b10,b11⟩:=row12 B6.c.at_
    obtain ⟨r0,r1,r2,r3,r4⟩:=row5 B6.r.at_
    have f0:=B6.r.fr 0;have f1:=B6.r.fr 1;have f2:=B6.r.fr 2;have f3:=B6.r.fr 3;have f4:=B6.r.fr 4
    have z0:=B6.v.lt;have z1:=B6.c.lt;have z2:=B6.r.lt
    have HB6:=Lib.hid B6
    have hz4:=HB4.out.below.size
    have hz5:=HB4.out.r.lt
    have HZ:=Lib.hid hz
    clear B6 hb6 hz
    go_wp2_with fail
    rw [←HQ.out]
    have ST:=HB6.out.result d6
    have hst:=setV_step W6 (w.heap.size+1+1) 0 d6
    exact do_leave (r:=(z,0)) ST.1 ((isVal_far (base:=w.heap.size+1+1+1) (HZ.out.sub (shows_step fun k hk _=>⟨Nat.le_trans (Nat.succ_le_of_lt hz5) hk,rfl⟩)) hst (by omega)).sub (shows_step fun k hk _=>⟨by omega,rfl⟩)) ST.2 rfl rfl rfl
end Go.Proofs.YtgcfhkceejcliaaGreatDoor
namespace Go.Proofs.YtgcfhkceejcliaaGreatDoor
open Go.RowKit
set_option maxHeartbeats 8000000 in
set_option maxRecDepth 100000 in
theorem do06_list (w:World) (vk vn:Int) (vs:ByteArray) (la:Option Addr) (ll lc:Nat) (oa:Option Addr) (ol oc:Nat) (v:V) (hv:IsVal w w.heap.size v ⟨vk,vn,vs,la,ll,lc,oa,ol,oc⟩) (hw:v.weight≤100000000) (p:List St) (xv:V) (cc:CC) (hcb:cc.Bnd) (hp:IsSteps w w.heap.size p cc.pa cc.pl cc.pc) (hxv:IsVal w w.heap.size xv cc.v) (hxw:xv.weight≤100000000) (hT:Tabs w) (he:checkP v ⟨cc.k,p,cc.key,cc.i,cc.j,cc.n,xv,cc.s⟩=0) (hk:4≤cc.k∧cc.k≤7):
    Calls Tryz.prog 43 #[.agg #[.int .u8 vk, .int .i64 vn, .string vs, .slice la ll lc, .slice oa ol oc], .agg #[.int .u8 cc.k, .slice cc.pa cc.pl cc.pc, .string cc.key, .int .i64 cc.i, .int .i64 cc.j, .int .i64 cc.n, .int .u8 cc.v.k, .int .i64 cc.v.n, .string cc.v.s, .slice cc.v.la cc.v.ll cc.v.lc, .slice cc.v.oa cc.v.ol cc.v.oc, .string cc.s]] w (DoPost w (doP v ⟨cc.k,p,cc.key,cc.i,cc.j,cc.n,xv,cc.s⟩)):=by
  obtain ⟨_,x,hg,hkd⟩:=checkP_ok he
  dsimp only at hg hkd
  have hxw2:=getP_weight p hg
  have HCK:Hid (∀W,Below w.heap.size w W→Calls Tryz.prog 82 #[.agg #[.int .u8 vk, .int .i64 vn, .string vs, .slice la ll lc, .slice oa ol oc], .agg #[.int .u8 cc.k, .slice cc.pa cc.pl cc.pc, .string cc.key, .int .i64 cc.i, .int .i64 cc.j, .int .i64 cc.n, .int .u8 cc.v.k, .int .i64 cc.v.n, .string cc.v.s, .slice cc.v.la cc.v.ll cc.v.lc, .slice cc.v.oa cc.v.ol cc.v.oc, .string cc.s]] W fun e w'=>e= .returned (.int .i64 0)∧Below W.heap.size W w'):=fun W hW=>by
    have:=check06_any W vk vn vs la ll lc oa ol oc v (hv.later_ hW) (by omega) p xv cc hcb (hp.later_ hW) (hxv.later_ hW) (by omega) (hT.below hW)
    rw [he] at this;exact this
  have HGT:Hid (∀W,Below w.heap.size w W→Calls Tryz.prog 78 #[.agg #[.int .u8 vk, .int .i64 vn, .string vs, .slice la ll lc, .slice oa ol oc], .slice cc.pa cc.pl cc.pc] W (GetPost W (some x))):=fun W hW=>by rw [←hg];exact get_any W vk vn vs la ll lc oa ol oc v (hv.later_ hW) p cc.pa cc.pl cc.pc (hp.later_ hW)
  have HPT:Hid (∀(W:World) (y:V) (k n:Int) (s:ByteArray) (a:Option Addr) (m c:Nat) (a':Option Addr) (m' c':Nat),Below w.heap.size w W→IsVal W W.heap.size y ⟨k,n,s,a,m,c,a',m',c'⟩→Calls Tryz.prog 86 #[.agg #[.int .u8 vk, .int .i64 vn, .string vs, .slice la ll lc, .slice oa ol oc], .slice cc.pa cc.pl cc.pc, .agg #[.int .u8 k, .int .i64 n, .string s, .slice a m c, .slice a' m' c']] W (GetPost W (putP v p y))):=fun W y k n s a m c a' m' c' hW hy=>put_any y k n s a m c a' m' c' p W vk vn vs la ll lc oa ol oc v (hv.later_ hW) cc.pa cc.pl cc.pc (hp.later_ hW) hy
  have hdo:doP v ⟨cc.k,p,cc.key,cc.i,cc.j,cc.n,xv,cc.s⟩=doneQ (putP v p (doneP x ⟨cc.k,p,cc.key,cc.i,cc.j,cc.n,xv,cc.s⟩)):=doP_ok he hg
  rw [hdo]
  have HB:=Lib.hid (DB.start w ⟨vk,vn,vs,la,ll,lc,oa,ol,oc⟩ cc 33 63 33)
  have HTT:=Lib.hid hT
  have HXV:=Lib.hid hxv
  have HCB:=Lib.hid hcb
  have HKD:=Lib.hid hkd
  have hsw:=x.str_weight
  obtain ⟨kx,nx,sx,lx,ox,rfl⟩:=x.eta
  dsimp only [V.str,V.ls,V.os] at hsw
  obtain ⟨Y,hY⟩:∃Y,doneP (.mk kx nx sx lx ox) ⟨cc.k,p,cc.key,cc.i,cc.j,cc.n,xv,cc.s⟩=Y:=⟨_,rfl⟩
  rw [hY]
  obtain ⟨z,hPR⟩:=putP_some p hg Y
  rw [hPR,doneQ_some]
  have HY:=Lib.hid hY
  have HPR:=Lib.hid hPR
  clear hv hp hxv hT hcb hdo hY hPR he hg hkd
  have HK:=Lib.hid hk
  clear hk
  go_enter Tryz.func43,Tryz.ntmps43
  generalize hQ0:bodyPost _ _ _=Q0
  have HQ:=Lib.hid hQ0
  clear hQ0
  go_wp2_with fail
  refine (HCK.out _ HB.out.below).mono ?_
  rintro e W ⟨rfl,hb1⟩
  have B:=HB.out.next hb1 (by simp)
  obtain ⟨v0,v1,v2,v3,v4⟩:=row5 B.v.at_
  obtain ⟨b0,b1,b2,b3,b4,b5,b6,b7,b8,b9,b10,b11⟩:=row12 B.c.at_
  obtain ⟨r0,r1,r2,r3,r4⟩:=row5 B.r.at_
  have f0:=B.r.fr 0;have f1:=B.r.fr 1;have f2:=B.r.fr 2;have f3:=B.r.fr 3;have f4:=B.r.fr 4
  have z0:=B.v.lt;have z1:=B.c.lt;have z2:=B.r.lt
  have HBW:=Lib.hid B
  clear B hb1
  go_wp2_with fail
  refine (HGT.out _ HBW.out.below).mono ?_
  rintro e W2 ⟨⟨d,rfl,hI⟩,hb2⟩
  have B2:=HBW.out.next hb2 (Nat.succ_le_of_lt z2)
  obtain ⟨e1,e2,e3,hbd,hl,ho⟩:=hI.lists
  subst e1 e2 e3
  clear v0 v1 v2 v3 v4 r0 r1 r2 r3 r4 f0 f1 f2 f3 f4 b0 b1 b2 b3 b4 b5 b6 b7 b8 b9 b10 b11
  obtain ⟨v0,v1,v2,v3,v4⟩:=row5 B2.v.at_
  obtain ⟨b0,b1,b2,b3,b4,b5,b6,b7,b8,b9,b10,b11⟩:=row12 B2.c.at_
  obtain ⟨r0,r1,r2,r3,r4⟩:=row5 B2.r.at_
  have f0:=B2.r.fr 0;have f1:=B2.r.fr 1;have f2:=B2.r.fr 2;have f3:=B2.r.fr 3;have f4:=B2.r.fr 4
  have z0:=B2.v.lt;have z1:=B2.c.lt;have z2:=B2.r.lt
  have zW:=HBW.out.below.size
  have zW2:=hb2.size
  have z22:=B2.r.lt
  have HB2:=Lib.hid B2
  have HI:=Lib.hid hI
  have HBD:=Lib.hid hbd
  have HL:=Lib.hid hl
  have HO:=Lib.hid ho
  have HAL:=Lib.hid (((Below.refl _ _).alloc (Nat.le_refl _) (.cells #[.int .u8 d.k, .int .i64 d.n, .string d.s, .slice d.la d.ll d.lc, .slice d.oa d.ol d.oc] 33)):Below W2.heap.size W2 _)
  clear B2 hI hbd hl ho hb2
  have hlc:lCheck d.ll cc.k cc.i cc.j=0:=by
    have hk:=HKD.out
    rw [kindsP,if_neg (by have:=HK.out;omega),if_neg (by have:=HK.out;omega),if_neg (by have:=HK.out;omega)] at hk
    split at hk
    · omega
    · rw [HL.out.len];exact hk
  have g1:(cc.k==1)=false:=by have:=HK.out;simp;omega
  have g2:(cc.k==2)=false:=by have:=HK.out;simp;omega
  have g3:(cc.k==3)=false:=by have:=HK.out;simp;omega
  have g8:(cc.k==8)=false:=by have:=HK.out;simp;omega
  have g9:(cc.k==9)=false:=by have:=HK.out;simp;omega
  have HFL:Hid (Calls Tryz.prog 85 #[.slice d.la d.ll d.lc, .agg #[.int .u8 cc.k, .slice cc.pa cc.pl cc.pc, .string cc.key, .int .i64 cc.i, .int .i64 cc.j, .int .i64 cc.n, .int .u8 cc.v.k, .int .i64 cc.v.n, .string cc.v.s, .slice cc.v.la cc.v.ll cc.v.lc, .slice cc.v.oa cc.v.ol cc.v.oc, .string cc.s]] (W2.alloc (.cells #[.int .u8 d.k, .int .i64 d.n, .string d.s, .slice d.la d.ll d.lc, .slice d.oa d.ol d.oc] 33)) (DoLPost (W2.alloc (.cells #[.int .u8 d.k, .int .i64 d.n, .string d.s, .slice d.la d.ll d.lc, .slice d.oa d.ol d.oc] 33)) (listDo lx cc.k cc.i cc.j xv))):=by
    have hb3:=HB2.out.below.trans (HAL.out.mono HB2.out.below.size)
    have hx3:=((HI.out.sub (shows_only _ _ _)).later_ HAL.out).lists
    exact listDo_any (W2.alloc (.cells #[.int .u8 d.k, .int .i64 d.n, .string d.s, .slice d.la d.ll d.lc, .slice d.oa d.ol d.oc] 33)) lx d.la d.ll d.lc hx3.2.2.2.2.1 (by have:=HL.out.len;omega) cc xv (HXV.out.later_ hb3) hlc
  clear hlc
  go_wp2_with fail
  refine HFL.out.mono ?_
  rintro e w4 ⟨⟨a4,n4,c4,rfl,hI4⟩,hb4⟩
  have hbw4:Below W2.heap.size W2 w4:=HAL.out.trans (hb4.mono (by simp))
  have B4:=HB2.out.next hbw4 (Nat.succ_le_of_lt z2)
  have X4:BC w4 W2.heap.size (vcells d):=(BC.start W2 #[.int .u8 d.k, .int .i64 d.n, .string d.s, .slice d.la d.ll d.lc, .slice d.oa d.ol d.oc] 33).keep hb4 (by simp)
  obtain ⟨x0,x1,x2,x3,x4⟩:=row5 X4.at_
  have xf0:=X4.fr 2;have xf1:=X4.fr 3;have xf2:=X4.fr 4
  have xlt:=X4.lt
  clear v0 v1 v2 v3 v4 r0 r1 r2 r3 r4 f0 f1 f2 f3 f4 b0 b1 b2 b3 b4 b5 b6 b7 b8 b9 b10 b11
  obtain ⟨v0,v1,v2,v3,v4⟩:=row5 B4.v.at_
  obtain ⟨b0,b1,b2,b3,b4,b5,b6,b7,b8,b9,b10,b11⟩:=row12 B4.c.at_
  obtain ⟨r0,r1,r2,r3,r4⟩:=row5 B4.r.at_
  have f0:=B4.r.fr 0;have f1:=B4.r.fr 1;have f2:=B4.r.fr 2;have f3:=B4.r.fr 3;have f4:=B4.r.fr 4
  have z0:=B4.v.lt;have z1:=B4.c.lt;have z2:=B4.r.lt
  have HBW4:=Lib.hid hbw4
  clear B4 X4 hb4 hbw4
  have HI4:=Lib.hid hI4
  clear hI4
  go_wp2_with fail
  have hbl4:Below W2.heap.size W2 (w4.setCell ⟨W2.heap.size,3,none⟩ (.slice a4 n4 c4)):=HBW4.out.set_ (Nat.le_refl _)
  have hx4:=(HI.out.sub (shows_only _ _ _)).later_ hbl4
  obtain ⟨_,_,_,_,hl4,ho4⟩:=hx4.lists
  have HB4:=Lib.hid (HB2.out.next hbl4 (Nat.succ_le_of_lt z22))
  have HCALL:Hid (Calls Tryz.prog 86 #[.agg #[.int .u8 vk, .int .i64 vn, .string vs, .slice la ll lc, .slice oa ol oc], .slice cc.pa cc.pl cc.pc, .agg #[.int .u8 d.k, .int .i64 d.n, .string d.s, .slice a4 n4 c4, .slice d.oa d.ol d.oc]] (w4.setCell ⟨W2.heap.size,3,none⟩ (.slice a4 n4 c4)) (GetPost (w4.setCell ⟨W2.heap.size,3,none⟩ (.slice a4 n4 c4)) (some z))):=by
    have:=HPT.out (w4.setCell ⟨W2.heap.size,3,none⟩ (.slice a4 n4 c4)) Y d.k d.n d.s a4 n4 c4 d.oa d.ol d.oc HB4.out.below (by
      have hYe:Y= .mk d.k d.n d.s (listDo lx cc.k cc.i cc.j xv) ox:=by
        rw [←HY.out,doneP,if_neg (by have:=HK.out;dsimp only;omega),if_neg (by have:=HK.out;dsimp only;omega),if_neg (by have:=HK.out;dsimp only;omega)];rfl
      have hst:RStep w4 (w4.setCell ⟨W2.heap.size,3,none⟩ (.slice a4 n4 c4)) W2.heap.size:=RStep.self
      rw [hYe]
      exact isVal_parts HBD.out.k0 HBD.out.k1 HBD.out.n0 HBD.out.n1 HBD.out.s1 ((IsVals.sub (fun b o u hb h=>by
        obtain ⟨hs,hc⟩:=only_cell h
        exact hst.cell hc (by rw [World.size_alloc] at hs;omega)) HI4.out).more hst.size) ho4)
    rw [HPR.out] at this;exact this
  clear hx4 hl4 ho4
  refine HCALL.out.mono ?_
  rintro e W6 ⟨⟨d6,rfl,hz⟩,hb6⟩
  have B6:=HB4.out.next hb6 (Nat.succ_le_of_lt HB4.out.r.lt)
  clear v0 v1 v2 v3 v4 r0 r1 r2 r3 r4 f0 f1 f2 f3 f4 b0 b1 b2 b3 b4 b5 b6 b7 b8 b9 b10 b11
  obtain ⟨v0,v1,v2,v3,v4⟩:=row5 B6.v.at_
  obtain ⟨b0,b1,b2,b3,b4,b5,b6,b7,b8,b9,b10,b11⟩:=row12 B6.c.at_
  obtain ⟨r0,r1,r2,r3,r4⟩:=row5 B6.r.at_
  have f0:=B6.r.fr 0;have f1:=B6.r.fr 1;have f2:=B6.r.fr 2;have f3:=B6.r.fr 3;have f4:=B6.r.fr 4
  have z0:=B6.v.lt;have z1:=B6.c.lt;have z2:=B6.r.lt
  have HB6:=Lib.hid B6
  have hz4:=HB4.out.below.size
  have hz5:=HB4.out.r.lt
  have HZ:=Lib.hid hz
  clear B6 hb6 hz
  go_wp2_with fail
  rw [←HQ.out]
  have ST:=HB6.out.result d6
  have hst:=setV_step W6 (w.heap.size+1+1) 0 d6
  exact do_leave (r:=(z,0)) ST.1 ((isVal_far (base:=w.heap.size+1+1+1) (HZ.out.sub (shows_step fun k hk _=>⟨Nat.le_trans (Nat.succ_le_of_lt hz5) hk,rfl⟩)) hst (by omega)).sub (shows_step fun k hk _=>⟨by omega,rfl⟩)) ST.2 rfl rfl rfl
end Go.Proofs.YtgcfhkceejcliaaGreatDoor
namespace Go.Proofs.YtgcfhkceejcliaaGreatDoor
open Go.RowKit
theorem do06_any (w:World) (vk vn:Int) (vs:ByteArray) (la:Option Addr) (ll lc:Nat) (oa:Option Addr) (ol oc:Nat) (v:V) (hv:IsVal w w.heap.size v ⟨vk,vn,vs,la,ll,lc,oa,ol,oc⟩) (hw:v.weight≤100000000) (p:List St) (xv:V) (cc:CC) (hcb:cc.Bnd) (hp:IsSteps w w.heap.size p cc.pa cc.pl cc.pc) (hxv:IsVal w w.heap.size xv cc.v) (hxw:xv.weight≤100000000) (hcs:cc.s.size≤1000000000000) (hT:Tabs w):
    Calls Tryz.prog 43 #[.agg #[.int .u8 vk, .int .i64 vn, .string vs, .slice la ll lc, .slice oa ol oc], .agg #[.int .u8 cc.k, .slice cc.pa cc.pl cc.pc, .string cc.key, .int .i64 cc.i, .int .i64 cc.j, .int .i64 cc.n, .int .u8 cc.v.k, .int .i64 cc.v.n, .string cc.v.s, .slice cc.v.la cc.v.ll cc.v.lc, .slice cc.v.oa cc.v.ol cc.v.oc, .string cc.s]] w (DoPost w (doP v ⟨cc.k,p,cc.key,cc.i,cc.j,cc.n,xv,cc.s⟩)):=by
  by_cases he:checkP v ⟨cc.k,p,cc.key,cc.i,cc.j,cc.n,xv,cc.s⟩=0
  · obtain ⟨hs,x,_,hkd⟩:=checkP_ok he
    have hk1:=cmSound_kind hs
    dsimp only at hk1
    by_cases e1:cc.k=1
    · exact do06_add w vk vn vs la ll lc oa ol oc v hv hw p xv cc hcb hp hxv hxw hT he e1
    by_cases e2:cc.k=2∨cc.k=3
    · exact do06_obj w vk vn vs la ll lc oa ol oc v hv hw p xv cc hcb hp hxv hxw hT he e2
    by_cases e3:cc.k=8∨cc.k=9
    · exact do06_text w vk vn vs la ll lc oa ol oc v hv hw p xv cc hcb hp hxv hxw hcs hT he e3
    · exact do06_list w vk vn vs la ll lc oa ol oc v hv hw p xv cc hcb hp hxv hxw hT he (by omega)
  · exact do06_err w vk vn vs la ll lc oa ol oc v hv hw p xv cc hcb hp hxv hxw hT he
end Go.Proofs.YtgcfhkceejcliaaGreatDoor
