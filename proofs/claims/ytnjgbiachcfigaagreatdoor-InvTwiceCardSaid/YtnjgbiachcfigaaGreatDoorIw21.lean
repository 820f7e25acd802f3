/-
  Contracts of the functions that the law reaches: What undoes a component done to what.
-/
import Derived.Test.YtnjgbiachcfigaaGreatDoorIw20
namespace Go.Proofs.YtnjgbiachcfigaaGreatDoor
open Go.RowKit
set_option maxHeartbeats 16000000
theorem Z6 {w:World} {B:Nat} {p:List St} {cc:CC} (k i:Int) (hk:0<=k/\k<256) (hi: -9223372036854775808<=i/\i<=9223372036854775807) (hp:IsSteps w B p cc.pa cc.pl cc.pc) (j n:Int) (hj: -9223372036854775808<=j/\j<=9223372036854775807) (hn: -9223372036854775808<=n/\n<=9223372036854775807) (key s:ByteArray) (hkey:key.size<=140737488355328) (hs:s.size<=140737488355328) (v:V) (f:VC) (hv:IsVal w B v f):
 IsComp w B ⟨k,p,key,i,j,n,v,s⟩ ⟨k,cc.pa,cc.pl,cc.pc,key,i,j,n,f,s⟩:=
 .mk ⟨k,cc.pa,cc.pl,cc.pc,key,i,j,n,f,s⟩ p v ⟨hk.1,hk.2,hi.1,hi.2,hj.1,hj.2,hn.1,hn.2,hkey,hs⟩ hp hv
theorem zh3 {tmps:Array Value} {W:World} {b:Nat} {d:CC} (ht:tmps[4]? =some (.pointer (some ⟨b,0,none⟩))) (h:BC W b (ccells d)):
 (results Tryz.f64 tmps).run Tryz.prog W= .ok (.agg #[.int .u8 d.k, .slice d.pa d.pl d.pc, .string d.key, .int .i64 d.i, .int .i64 d.j, .int .i64 d.n, .int .u8 d.v.k, .int .i64 d.v.n, .string d.v.s, .slice d.v.la d.v.ll d.v.lc, .slice d.v.oa d.v.ol d.v.oc, .string d.s]) W:=by
 obtain ⟨r0,r1,r2,r3,r4,r5,r6,r7,r8,r9,r10,r11⟩:=row12 h.at_
 simp [results,Tryz.results64,go_sem,ht,r0,r1,r2,r3,r4,r5,r6,r7,r8,r9,r10,r11]
def TNPost (w:World) (cm:Cm) (e:Ending) (w':World):Prop:=
 (∃d:CC,e= .returned (.agg #[.int .u8 d.k, .slice d.pa d.pl d.pc, .string d.key, .int .i64 d.i, .int .i64 d.j, .int .i64 d.n, .int .u8 d.v.k, .int .i64 d.v.n, .string d.v.s, .slice d.v.la d.v.ll d.v.lc, .slice d.v.oa d.v.ol d.v.oc, .string d.s])/\IsComp (only (fun k=>w.heap.size<=k) w') w'.heap.size cm d)/\Below w.heap.size w w'
theorem Ku {w W:World} {cm:Cm} {f:CC} {B b:Nat} (hf:IsComp (only (fun k=>B<=k) W) W.heap.size cm f) (hb:b<B) (hw:w.heap.size<=b) (d:CC):IsComp (only (fun k=>w.heap.size<=k) (setC W b d)) (setC W b d).heap.size cm f:=by
 have st:=Yk W b d
 have hsh:Shows (only (fun k=>B<=k) W) (only (fun k=>w.heap.size<=k) (setC W b d)) W.heap.size:=Zd fun k hk hl=>⟨by omega,st.block k hl (by omega)⟩
 have:=IsComp.sub hsh hf
 cases this with
 |mk c p v hbd hp hv=>exact .mk _ p v hbd (hp.more st.size) (hv.more st.size)
def setV6 (W:World) (b:Nat) (f:VC):World:=((((W.setCell ⟨b,6,none⟩ (.int .u8 f.k)).setCell ⟨b,7,none⟩ (.int .i64 f.n)).setCell ⟨b,8,none⟩ (.string f.s)).setCell ⟨b,9,none⟩ (.slice f.la f.ll f.lc)).setCell ⟨b,10,none⟩ (.slice f.oa f.ol f.oc)
theorem zm9 (W:World) (b:Nat) (f:VC):RStep W (setV6 W b f) b:=(((RStep.self.trans RStep.self).trans RStep.self).trans RStep.self).trans RStep.self
theorem zng {W:World} {b:Nat} {c:CC} (h:BC W b (ccells c)) (f:VC):BC (setV6 W b f) b (ccells { c with v:=f }):=
 ((((h.set (i:=6) (x:= .int .u8 f.k) (by simp [ccells])).set (i:=7) (x:= .int .i64 f.n) (by simp [ccells])).set (i:=8) (x:= .string f.s) (by simp [ccells])).set (i:=9) (x:= .slice f.la f.ll f.lc) (by simp [ccells])).set (i:=10) (x:= .slice f.oa f.ol f.oc) (by simp [ccells])
theorem IT.cell {w W:World} {xc:VC} {cc dc:CC} (h:IT w W xc cc dc) (i:Nat) (x:Value) {d2:CC} (hd:(ccells dc).set i x=ccells d2) (hi:i<12):IT w (W.setCell ⟨w.heap.size+1+1+1,i,none⟩ x) xc cc d2:=
 h.store RStep.self (hd ▸ h.d.set (by simpa [ccells] using hi))
theorem IT.val {w W:World} {xc:VC} {cc dc:CC} (h:IT w W xc cc dc) (f:VC):IT w (setV6 W (w.heap.size+1+1+1) f) xc cc { dc with v:=f } :=h.store (zm9 _ _ _) (zng h.d f)
theorem IsVal.vals {w:World} {B:Nat} {x:V} {c:VC} (h:IsVal w B x c):IsVals w B x.ls c.la c.ll c.lc:=by
 obtain ⟨k,n,s,l,o,rfl⟩:=x.eta
 exact h.lists.2.2.2.2.1
theorem IsVal.strs {w:World} {B:Nat} {x:V} {c:VC} (h:IsVal w B x c):c.s=x.str:=by
 obtain ⟨k,n,s,l,o,rfl⟩:=x.eta
 exact h.lists.2.2.1
theorem IsVal.strz {w:World} {B:Nat} {x:V} {c:VC} (h:IsVal w B x c):c.s.size<=140737488355328:=by
 obtain ⟨k,n,s,l,o,rfl⟩:=x.eta
 exact h.lists.2.2.2.1.s1
theorem Xp {x:V} {k i j n:Int} {key:ByteArray} (hk:k=5∨k=6) (h:kindsP x k i j n key=0):0<=i/\i<x.ls.length:=by
 unfold kindsP lCheck at h
 rw [if_neg (by omega),if_neg (by omega),if_neg (by omega)] at h
 split at h
 .cases h
 .rw [if_neg (by omega)] at h
  split at h
  .cases h
  .omega
theorem Qo {W:World} {B:Nat} {x:V} {p:List St} {cc f:CC} (k:Int) (hi:cc.i=0) (hcb:cc.Bnd) (hp:IsSteps W B p cc.pa cc.pl cc.pc) (hf:(fieldIs x.os cc.key=true/\∃fv,f= { ccat k cc cc.i with k:=2,key:=cc.key,v:=fv } /\IsVal W B (x.os.getD (fieldK x.os cc.key) (.empty,V.none)).2 fv)∨(fieldIs x.os cc.key=false/\f= { ccat k cc cc.i with k:=3,key:=cc.key })):
 IsComp W B (if fieldIs x.os cc.key=true then ⟨2,p,cc.key,0,0,0,(x.os.getD (fieldK x.os cc.key) (.empty,V.none)).2, .empty⟩ else ⟨3,p,cc.key,0,0,0,V.none, .empty⟩) f:=by
 rw [hi] at hf
 rcases hf with ⟨h1,fv,rfl,h2⟩|⟨h1,rfl⟩
 .rw [if_pos h1]
  exact Z6 2 0 (by omega) (by omega) hp 0 0 (by omega) (by omega) cc.key .empty hcb.key1 (by decide) _ fv h2
 .rw [if_neg (by rw [h1];decide)]
  exact Z6 3 0 (by omega) (by omega) hp 0 0 (by omega) (by omega) cc.key .empty hcb.key1 (by decide) V.none vzero (Zq _ _)
theorem zb4 {x:V} {i j n:Int} {key:ByteArray} (h:kindsP x 9 i j n key=0):x.kd=3/\0<=i/\i+n<=textN x.str/\1<=n:=by
 unfold kindsP tCheck at h
 rw [if_neg (by omega),if_neg (by omega),if_pos (by omega)] at h
 split at h
 .cases h
 .rename_i hk
  rw [if_neg (by omega)] at h
  split at h
  .cases h
  .split at h
   .cases h
   .omega
set_option maxRecDepth 100000 in
theorem zg7 (w:World) (x:V) (xc:VC) (hx:IsVal w w.heap.size x xc) (p:List St) (xv:V) (cc:CC) (hcb:cc.Bnd) (hp:IsSteps w w.heap.size p cc.pa cc.pl cc.pc) (hs:cmSound ⟨cc.k,p,cc.key,cc.i,cc.j,cc.n,xv,cc.s⟩=true) (hk:kindsP x cc.k cc.i cc.j cc.n cc.key=0) (hsz:cc.s.size<=1000000000000):
 uP 64 #[.agg (uV xc), .agg (uC cc)] w (TNPost w (turnP x ⟨cc.k,p,cc.key,cc.i,cc.j,cc.n,xv,cc.s⟩)):=by
 delta uV uC uP
 obtain ⟨DM,hDM⟩:∃DM,turnP x ⟨cc.k,p,cc.key,cc.i,cc.j,cc.n,xv,cc.s⟩=DM:=⟨_,rfl⟩
 rw [hDM]
 have HDM:=qh hDM;have HX:=qh hx;have HP:=qh hp;have HCB:=qh hcb
 have hkk:=Qq hs
 have hbr:=zbw (by unfold cmSound at hs;simp only [Bool.and_eq_true] at hs;exact hs.1.1.1.1.1.1.1.1.1.1.2)
 have HI0:Hid (∀k,cc.k=k->kI k=false->cc.i=0):=qh fun k e h=>hbr.2.1 (e ▸ h)
 have HKD:=qh hk;have HSZ:=qh hsz
 clear hDM hx hp hcb hs hk hsz hbr
 have HBX:∀t0 t1 t2 t3,IT w ((((w.alloc (.cells (uV xc) t0)).alloc (.cells (uC cc) t1)).alloc (.cells #[.int .u8 0, .slice none 0 0, .string { data:= #[] }, .int .i64 0, .int .i64 0, .int .i64 0, .int .u8 0, .int .i64 0, .string { data:= #[] }, .slice none 0 0, .slice none 0 0, .string { data:= #[] }] t2)).alloc (.cells #[.int .u8 cc.k, .slice cc.pa cc.pl cc.pc, .string { data:= #[] }, .int .i64 cc.i, .int .i64 0, .int .i64 0, .int .u8 0, .int .i64 0, .string { data:= #[] }, .slice none 0 0, .slice none 0 0, .string { data:= #[] }] t3)) xc cc (ccat cc.k cc cc.i):=fun t0 t1 t2 t3=>by
  obtain ⟨q1,q2,q3,q4,q5⟩:=Kz w #[.int .u8 xc.k, .int .i64 xc.n, .string xc.s, .slice xc.la xc.ll xc.lc, .slice xc.oa xc.ol xc.oc] #[.int .u8 cc.k, .slice cc.pa cc.pl cc.pc, .string cc.key, .int .i64 cc.i, .int .i64 cc.j, .int .i64 cc.n, .int .u8 cc.v.k, .int .i64 cc.v.n, .string cc.v.s, .slice cc.v.la cc.v.ll cc.v.lc, .slice cc.v.oa cc.v.ol cc.v.oc, .string cc.s] #[.int .u8 0, .slice none 0 0, .string { data:= #[] }, .int .i64 0, .int .i64 0, .int .i64 0, .int .u8 0, .int .i64 0, .string { data:= #[] }, .slice none 0 0, .slice none 0 0, .string { data:= #[] }] #[.int .u8 cc.k, .slice cc.pa cc.pl cc.pc, .string { data:= #[] }, .int .i64 cc.i, .int .i64 0, .int .i64 0, .int .u8 0, .int .i64 0, .string { data:= #[] }, .slice none 0 0, .slice none 0 0, .string { data:= #[] }] t0 t1 t2 t3
  exact ⟨q1,q2,q3,q4,q5⟩
 replace HBX:=qh (HBX 36 39 39 39)
 go_enter Tryz.func64,Tryz.ntmps64
 generalize hQ0:bodyPost _ _ _=Q0
 have HQ:=qh hQ0
 clear hQ0
 go_upto_region 2 with fail
 obtain ⟨w1,hw1⟩:∃w1,(((w.alloc (.cells (uV xc) 36)).alloc (.cells (uC cc) 39)).alloc (.cells #[.int .u8 0, .slice none 0 0, .string { data:= #[] }, .int .i64 0, .int .i64 0, .int .i64 0, .int .u8 0, .int .i64 0, .string { data:= #[] }, .slice none 0 0, .slice none 0 0, .string { data:= #[] }] 39)).alloc (.cells #[.int .u8 cc.k, .slice cc.pa cc.pl cc.pc, .string { data:= #[] }, .int .i64 cc.i, .int .i64 0, .int .i64 0, .int .u8 0, .int .i64 0, .string { data:= #[] }, .slice none 0 0, .slice none 0 0, .string { data:= #[] }] 39)=w1:=⟨_,rfl⟩
 rw [hw1] at HBX ⊢
 obtain ⟨K,hK⟩:∃K,cc.k=K:=⟨_,rfl⟩
 replace HI0:=qh (HI0.out K hK)
 rw [hK] at HBX HDM HKD hkk
 have b0:w1.cell? ⟨w.heap.size+1,0,none⟩=some (.int .u8 K):=by rw [<-hK];exact HBX.out.c.at_ 0 _ rfl
 have HKK:=qh hK
 clear hK
 have zx:=HBX.out.x.lt;have zc:=HBX.out.c.lt;have zd:=HBX.out.d.lt
 clear hw1
 go_upto_block 0 with fail
 go_cut [] from 6 (fun wc=>∃dc,IT w wc xc cc dc/\IsComp wc wc.heap.size DM dc)
 case rest=>
  obtain ⟨dc,hit,hic⟩:=hcut
  have HIC:=qh hic;have HIT:=qh hit
  obtain ⟨e0,e1,e2,e3,e4,e5,e6,e7,e8,e9,e10,e11⟩:=row12 hit.d.at_
  have ze:=hit.d.lt
  clear hit hic b0 zx zc zd
  go_wp2_with fail
  refine (zox _ _ _ HIC.out).mono ?_
  rintro e w9 ⟨⟨f,rfl,hf⟩,hb9⟩
  have HI9:=qh (HIT.out.keep hb9)
  have HF:=qh hf
  have zW:=HIT.out.r.lt
  obtain ⟨r0,r1,r2,r3,r4,r5,r6,r7,r8,r9,r10,r11⟩:=row12 HI9.out.r.at_
  have zr:=HI9.out.r.lt;have gr:=HI9.out.r.fr
  clear hf hb9 e0 e1 e2 e3 e4 e5 e6 e7 e8 e9 e10 e11 ze HIC HIT
  go_wp2_with fail
  rw [<-HQ.out]
  exact ⟨rfl,_,zh3 rfl (Zp (c0:=czero) HI9.out.r f),⟨f,rfl,Ku HF.out zW (by omega) f⟩,Below.setC HI9.out.below (by omega) f⟩
 case first=>
  rcases (show K=1∨K=4∨K=7∨K=8∨K=5∨K=6∨K=2∨K=3∨K=9 by dsimp only at hkk;omega) with rfl|rfl|rfl|rfl|rfl|rfl|rfl|rfl|rfl
  .have hib:=HBX.out
   have b5:=hib.c.at_ 5 _ rfl;have d5:=hib.d.at_ 5 _ rfl;have gd:=hib.d.fr
   clear hib
   go_wp2_with fail
   go_meet
   have hit:=HBX.out.cell 5 (.int .i64 (wrap64 (-cc.n))) (d2:=⟨1,cc.pa,cc.pl,cc.pc, .empty,cc.i,0,wrap64 (-cc.n),vzero, .empty⟩) rfl (by decide)
   refine ⟨_,hit, ?_⟩
   rw [HI0.out rfl]
   rw [<-HDM.out,show turnP x ⟨1,p,cc.key,cc.i,cc.j,cc.n,xv,cc.s⟩=⟨1,p, .empty,0,0,wrap64 (-cc.n),V.none, .empty⟩ from rfl]
   exact Z6 (cc:=cc) 1 0 (by omega) ⟨by omega,by omega⟩ (HP.out.later_ hit.below) 0 (wrap64 (-cc.n)) (by omega) ⟨Kq _,Jz _⟩ .empty .empty (by decide) (by decide) V.none vzero (Zq _ _)
  .have hib:=HBX.out
   have d0:=hib.d.at_ 0 _ rfl;have gd:=hib.d.fr
   clear hib
   go_wp2_with fail
   go_meet
   have hit:=HBX.out.cell 0 (.int .u8 5) (d2:=ccat 5 cc cc.i) rfl (by decide)
   refine ⟨_,hit, ?_⟩
   rw [<-HDM.out,show turnP x ⟨4,p,cc.key,cc.i,cc.j,cc.n,xv,cc.s⟩=⟨5,p, .empty,cc.i,0,0,V.none, .empty⟩ from rfl]
   exact Z6 (cc:=cc) 5 cc.i (by omega) ⟨HCB.out.i0,HCB.out.i1⟩ (HP.out.later_ hit.below) 0 0 (by omega) (by omega) .empty .empty (by decide) (by decide) V.none vzero (Zq _ _)
  .have hib:=HBX.out
   have b3:=hib.c.at_ 3 _ rfl;have b4:=hib.c.at_ 4 _ rfl;have d3:=hib.d.at_ 3 _ rfl;have d4:=hib.d.at_ 4 _ rfl;have gd:=hib.d.fr
   clear hib
   go_upto_region 15 with fail
   go_region
   go_wp2_with fail
   go_meet
   have hit:=((HBX.out.cell 3 (.int .i64 cc.j) (d2:=ccat 7 cc cc.j) rfl (by decide)).cell 4 (.int .i64 cc.i) (d2:=⟨7,cc.pa,cc.pl,cc.pc, .empty,cc.j,cc.i,0,vzero, .empty⟩) rfl (by decide)).keep (Zf _)
   refine ⟨_,hit, ?_⟩
   rw [<-HDM.out,show turnP x ⟨7,p,cc.key,cc.i,cc.j,cc.n,xv,cc.s⟩=⟨7,p, .empty,cc.j,cc.i,0,V.none, .empty⟩ from rfl]
   exact Z6 (cc:=cc) 7 cc.j (by omega) ⟨HCB.out.j0,HCB.out.j1⟩ (HP.out.later_ hit.below) cc.i 0 ⟨HCB.out.i0,HCB.out.i1⟩ (by omega) .empty .empty (by decide) (by decide) V.none vzero (Zq _ _)
  .have hib:=HBX.out
   have b11:=hib.c.at_ 11 _ rfl;have gd:=hib.d.fr
   clear hib
   go_wp2_with fail
   refine (zc5 _ _ HSZ.out).mono ?_
   rintro e w2 ⟨rfl,hb2⟩
   have hi2:=HBX.out.keep hb2
   have HI2:=qh hi2
   have d0:=hi2.d.at_ 0 _ rfl;have d5:=hi2.d.at_ 5 _ rfl;have gd:=hi2.d.fr;have zd:=hi2.d.lt
   clear hi2 hb2
   go_wp2_with fail
   go_meet
   have hit:=(HI2.out.cell 0 (.int .u8 9) (d2:=ccat 9 cc cc.i) rfl (by decide)).cell 5 (.int .i64 (textN cc.s)) (d2:=⟨9,cc.pa,cc.pl,cc.pc, .empty,cc.i,0,textN cc.s,vzero, .empty⟩) rfl (by decide)
   refine ⟨_,hit, ?_⟩
   rw [<-HDM.out,show turnP x ⟨8,p,cc.key,cc.i,cc.j,cc.n,xv,cc.s⟩=⟨9,p, .empty,cc.i,0,textN cc.s,V.none, .empty⟩ from rfl]
   exact Z6 (cc:=cc) 9 cc.i (by omega) ⟨HCB.out.i0,HCB.out.i1⟩ (HP.out.later_ hit.below) 0 (textN cc.s) (by omega) (by have:=(Yo cc.s).2;have:=HSZ.out;unfold textN;omega) .empty .empty (by decide) (by decide) V.none vzero (Zq _ _)
  .have hib:=HBX.out
   have b3:=hib.c.at_ 3 _ rfl;have x3:=hib.x.at_ 3 _ rfl;have d0:=hib.d.at_ 0 _ rfl;have d6:=hib.d.at_ 6 _ rfl;have d7:=hib.d.at_ 7 _ rfl;have d8:=hib.d.at_ 8 _ rfl;have d9:=hib.d.at_ 9 _ rfl;have d10:=hib.d.at_ 10 _ rfl;have gd:=hib.d.fr
   clear hib
   obtain ⟨I,hI⟩:∃I:Nat,cc.i=I:=⟨cc.i.toNat,by have:=(Xp (by decide) HKD.out).1;omega⟩
   have hIl:I<x.ls.length:=by have:=(Xp (by decide) HKD.out).2;omega
   have hll:=HX.out.vals.len
   obtain ⟨vb,vo,f,hvp,hla,hvB,hva,hiv⟩:=HX.out.vals.get (k:=I) (by omega)
   rw [hI] at b3
   rw [hla] at x3
   have HIV:=qh hiv;have HII:=qh hI
   have hvW:=Nat.lt_of_lt_of_le hvB HBX.out.below.size
   replace hva:=hva.keep HBX.out.below hvB
   have v0:=hva.c0;have v1:=hva.c1;have v2:=hva.c2;have v3:=hva.c3;have v4:=hva.c4
   have hI0:¬((I:Int)<0):=by omega
   have hIn:(I:Int)<(xc.ll:Int):=by omega
   clear hva hiv hla hI hll
   go_upto_region 11 with fail
   go_region
   go_wp2_with fail
   go_meet
   have hit:=((HBX.out.cell 0 (.int .u8 4) (d2:=ccat 4 cc cc.i) rfl (by decide)).val f).keep (Zf _)
   refine ⟨_,hit, ?_⟩
   rw [<-HDM.out,show turnP x ⟨5,p,cc.key,cc.i,cc.j,cc.n,xv,cc.s⟩=⟨4,p, .empty,cc.i,0,0,x.ls.getD cc.i.toNat V.none, .empty⟩ from rfl]
   exact Z6 (cc:=cc) 4 cc.i (by omega) ⟨HCB.out.i0,HCB.out.i1⟩ (HP.out.later_ hit.below) 0 0 (by omega) (by omega) .empty .empty (by decide) (by decide) _ f (by rw [HII.out,Int.toNat_natCast,List.getD_eq_getElem?_getD,List.getElem?_eq_getElem hvp];exact HIV.out.later_ hit.below)
  .have hib:=HBX.out
   have b3:=hib.c.at_ 3 _ rfl;have x3:=hib.x.at_ 3 _ rfl;have d0:=hib.d.at_ 0 _ rfl;have d6:=hib.d.at_ 6 _ rfl;have d7:=hib.d.at_ 7 _ rfl;have d8:=hib.d.at_ 8 _ rfl;have d9:=hib.d.at_ 9 _ rfl;have d10:=hib.d.at_ 10 _ rfl;have gd:=hib.d.fr
   clear hib
   obtain ⟨I,hI⟩:∃I:Nat,cc.i=I:=⟨cc.i.toNat,by have:=(Xp (by decide) HKD.out).1;omega⟩
   have hIl:I<x.ls.length:=by have:=(Xp (by decide) HKD.out).2;omega
   have hll:=HX.out.vals.len
   obtain ⟨vb,vo,f,hvp,hla,hvB,hva,hiv⟩:=HX.out.vals.get (k:=I) (by omega)
   rw [hI] at b3
   rw [hla] at x3
   have HIV:=qh hiv;have HII:=qh hI
   have hvW:=Nat.lt_of_lt_of_le hvB HBX.out.below.size
   replace hva:=hva.keep HBX.out.below hvB
   have v0:=hva.c0;have v1:=hva.c1;have v2:=hva.c2;have v3:=hva.c3;have v4:=hva.c4
   have hI0:¬((I:Int)<0):=by omega
   have hIn:(I:Int)<(xc.ll:Int):=by omega
   clear hva hiv hla hI hll
   go_wp2_with fail
   go_meet
   have hit:=HBX.out.val f
   refine ⟨_,hit, ?_⟩
   rw [<-HDM.out,show turnP x ⟨6,p,cc.key,cc.i,cc.j,cc.n,xv,cc.s⟩=⟨6,p, .empty,cc.i,0,0,x.ls.getD cc.i.toNat V.none, .empty⟩ from rfl]
   exact Z6 (cc:=cc) 6 cc.i (by omega) ⟨HCB.out.i0,HCB.out.i1⟩ (HP.out.later_ hit.below) 0 0 (by omega) (by omega) .empty .empty (by decide) (by decide) _ f (by rw [HII.out,Int.toNat_natCast,List.getD_eq_getElem?_getD,List.getElem?_eq_getElem hvp];exact HIV.out.later_ hit.below)
  .have hib:=HBX.out
   obtain ⟨c0,c1,c2,c3,c4,c5,c6,c7,c8,c9,c10,c11⟩:=row12 hib.c.at_
   obtain ⟨d0,d1,d2,d3,d4,d5,d6,d7,d8,d9,d10,d11⟩:=row12 hib.d.at_
   obtain ⟨x0,x1,x2,x3,x4⟩:=row5 hib.x.at_
   have HCF:Hid (uP 100 #[.agg (uV xc), .agg (uC cc), .agg #[.int .u8 2, .slice cc.pa cc.pl cc.pc, .string { data:= #[] }, .int .i64 cc.i, .int .i64 0, .int .i64 0, .int .u8 0, .int .i64 0, .string { data:= #[] }, .slice none 0 0, .slice none 0 0, .string { data:= #[] }]] w1 (IFPost w1 w.heap.size x cc (ccat 2 cc cc.i))):=qh (zdp w1 w.heap.size hib.below.size x xc (HX.out.keep hib.below) cc (ccat 2 cc cc.i))
   clear hib b0
   go_wp2_with fail
   refine HCF.out.mono ?_
   rintro e w2 ⟨⟨f,rfl,hf⟩,hb2⟩
   have hi2:=HBX.out.keep hb2
   clear c0 c1 c2 c3 c4 c5 c6 c7 c8 c9 c10 c11 d0 d1 d2 d3 d4 d5 d6 d7 d8 d9 d10 d11 x0 x1 x2 x3 x4 zx zc zd
   obtain ⟨d0,d1,d2,d3,d4,d5,d6,d7,d8,d9,d10,d11⟩:=row12 hi2.d.at_
   have gd:=hi2.d.fr;have zd:=hi2.d.lt
   have HI2:=qh hi2;have HF:=qh hf;have HB2:=qh hb2
   clear hi2 hf hb2
   go_wp2_with fail
   go_meet
   have hit:=HI2.out.store (Yk _ _ f) (Zp HI2.out.d f)
   refine ⟨_,hit, ?_⟩
   rw [<-HDM.out]
   have hz:∀fv,IsVal w1 w.heap.size (x.os.getD (fieldK x.os cc.key) (.empty,V.none)).2 fv->IsVal (setC w2 (w.heap.size+1+1+1) f) (setC w2 (w.heap.size+1+1+1) f).heap.size (x.os.getD (fieldK x.os cc.key) (.empty,V.none)).2 fv:=fun fv h=>
    (h.keep ((HB2.out.mono HBX.out.below.size).trans ((Yk w2 (w.heap.size+1+1+1) f).lowC (by omega) (by omega)))).more hit.below.size
   refine Qo 2 (HI0.out rfl) HCB.out (HP.out.later_ hit.below) ?_
   rcases HF.out with ⟨h1,fv,hfv,h2⟩|⟨h1,h2⟩
   .exact .inl ⟨h1,fv,hfv,hz fv h2⟩
   .exact .inr ⟨h1,h2⟩
  .have hib:=HBX.out
   obtain ⟨c0,c1,c2,c3,c4,c5,c6,c7,c8,c9,c10,c11⟩:=row12 hib.c.at_
   obtain ⟨d0,d1,d2,d3,d4,d5,d6,d7,d8,d9,d10,d11⟩:=row12 hib.d.at_
   obtain ⟨x0,x1,x2,x3,x4⟩:=row5 hib.x.at_
   have HCF:Hid (uP 100 #[.agg (uV xc), .agg (uC cc), .agg #[.int .u8 3, .slice cc.pa cc.pl cc.pc, .string { data:= #[] }, .int .i64 cc.i, .int .i64 0, .int .i64 0, .int .u8 0, .int .i64 0, .string { data:= #[] }, .slice none 0 0, .slice none 0 0, .string { data:= #[] }]] w1 (IFPost w1 w.heap.size x cc (ccat 3 cc cc.i))):=qh (zdp w1 w.heap.size hib.below.size x xc (HX.out.keep hib.below) cc (ccat 3 cc cc.i))
   clear hib b0
   go_wp2_with fail
   refine HCF.out.mono ?_
   rintro e w2 ⟨⟨f,rfl,hf⟩,hb2⟩
   have hi2:=HBX.out.keep hb2
   clear c0 c1 c2 c3 c4 c5 c6 c7 c8 c9 c10 c11 d0 d1 d2 d3 d4 d5 d6 d7 d8 d9 d10 d11 x0 x1 x2 x3 x4 zx zc zd
   obtain ⟨d0,d1,d2,d3,d4,d5,d6,d7,d8,d9,d10,d11⟩:=row12 hi2.d.at_
   have gd:=hi2.d.fr;have zd:=hi2.d.lt
   have HI2:=qh hi2;have HF:=qh hf;have HB2:=qh hb2
   clear hi2 hf hb2
   go_wp2_with fail
   go_meet
   have hit:=HI2.out.store (Yk _ _ f) (Zp HI2.out.d f)
   refine ⟨_,hit, ?_⟩
   rw [<-HDM.out]
   have hz:∀fv,IsVal w1 w.heap.size (x.os.getD (fieldK x.os cc.key) (.empty,V.none)).2 fv->IsVal (setC w2 (w.heap.size+1+1+1) f) (setC w2 (w.heap.size+1+1+1) f).heap.size (x.os.getD (fieldK x.os cc.key) (.empty,V.none)).2 fv:=fun fv h=>
    (h.keep ((HB2.out.mono HBX.out.below.size).trans ((Yk w2 (w.heap.size+1+1+1) f).lowC (by omega) (by omega)))).more hit.below.size
   refine Qo 3 (HI0.out rfl) HCB.out (HP.out.later_ hit.below) ?_
   rcases HF.out with ⟨h1,fv,hfv,h2⟩|⟨h1,h2⟩
   .exact .inl ⟨h1,fv,hfv,hz fv h2⟩
   .exact .inr ⟨h1,h2⟩
  .have hib:=HBX.out
   have b3:=Zb (hib.c.at_ 3 _ rfl);have x2:=Zb (hib.x.at_ 2 _ rfl)
   clear hib
   obtain ⟨ht3,hi0,hin,hn1⟩:=zb4 HKD.out
   have hxs:=HX.out.strs
   obtain ⟨I,hI⟩:∃I:Nat,cc.i=I:=⟨cc.i.toNat,by omega⟩
   obtain ⟨J,hJ⟩:∃J:Nat,cc.n=J:=⟨cc.n.toNat,by omega⟩
   have hIb:=HCB.out.i1;have hJb:=HCB.out.n1
   obtain ⟨pq1,hpq1⟩:∃p1,(cuts xc.s).getD I 0=p1:=⟨_,rfl⟩
   obtain ⟨q1,hq1⟩:∃q1,(cuts xc.s).getD (I+J) 0=q1:=⟨_,rfl⟩
   have hcl:=Yo xc.s
   have hord:=zb5 xc.s I J (by rw [hxs];omega) (by rw [hxs];omega)
   have htl:=za8 xc.s I J (by rw [hxs];omega) (by rw [hxs];omega)
   have hAT1:=fun W=>zb8 W xc.s I (by omega)
   have hAT2:=fun W=>zb8 W (xc.s.extract pq1 xc.s.size) J (by omega)
   rw [show (cuts xc.s).getD I xc.s.size=pq1 by rw [<-hpq1,List.getD_eq_getElem?_getD,List.getD_eq_getElem?_getD,List.getElem?_eq_getElem (by rw [hxs,textN] at*;omega)];rfl] at hAT1
   rw [hpq1,hq1] at hord
   rw [hpq1,hq1] at htl
   rw [show (cuts (xc.s.extract pq1 xc.s.size)).getD J (xc.s.extract pq1 xc.s.size).size=q1 - pq1 by omega] at hAT2
   rw [hI] at b3
   have hqs:q1<=xc.s.size - pq1+pq1:=by omega
   have hpq:=hord.1;have hqz:=hord.2;have hxz:=HX.out.strz
   have HAT1:=qh hAT1;have HAT2:=qh hAT2
   have HIJ:=qh (show cc.i=I/\cc.n=J/\(cuts xc.s).getD I 0=pq1/\(cuts xc.s).getD (I+J) 0=q1/\xc.s=x.str from ⟨hI,hJ,hpq1,hq1,hxs⟩)
   clear hAT1 hAT2 hI hJ hpq1 hq1 hxs hcl htl ht3 hi0 hin hn1
   go_upto_region 19 with fail
   refine Zl (by kernel_rfl) (by kernel_rfl) ?_
   repeat (go_big_quiet_step ((go_at_call 102;exact Zg (HAT1.out _))))
   refine wpQuiet_nil ?_
   intro _ hw'
   obtain ⟨pq,hw''⟩:=hw'
   subst hw''
   have hi2:=HBX.out.keep (Ze w1 pq)
   obtain ⟨w2,hw2⟩:∃w2,later w1 pq=w2:=⟨_,rfl⟩
   rw [hw2] at hi2 ⊢
   have HI2:=qh hi2
   have b5:=hi2.c.at_ 5 _ rfl;have d0:=hi2.d.at_ 0 _ rfl;have d7:=hi2.d.at_ 11 _ rfl;have gd:=hi2.d.fr;have zd:=hi2.d.lt
   rw [HIJ.out.2.1] at b5
   clear hi2 hw2 b0 b3 x2 zx
   go_upto_region 20 with fail
   refine wp_region_noPanic ?_
   go_region_law (go_simp;go_at_call 102;(with_reducible refine (HAT2.out _).mono ?_);rintro e w3 ⟨rfl,hb3⟩;have hi3:IT w w3 xc cc (ccat 9 cc cc.i):=(by first|exact HI2.out.keep hb3|exact (HI2.out.keep (Zf _)).keep hb3);have y0:=hi3.d.at_ 0 _ rfl;have y7:=hi3.d.at_ 11 _ rfl;have gy:=hi3.d.fr;have zy:=hi3.d.lt)
   refine NoPanic.normal ?_
   go_wp2_with fail
   go_meet
   have h2:=(hi3.cell 0 (.int .u8 8) (d2:=ccat 8 cc cc.i) rfl (by decide)).cell 11 (.string ((xc.s.extract pq1 xc.s.size).extract 0 (q1 - pq1))) (d2:=⟨8,cc.pa,cc.pl,cc.pc, .empty,cc.i,0,0,vzero,(xc.s.extract pq1 xc.s.size).extract 0 (q1 - pq1)⟩) rfl (by decide)
   refine ⟨_,h2, ?_⟩
   obtain ⟨wz,hwz⟩:∃wz,(w3.setCell ⟨w.heap.size+1+1+1,0,none⟩ (.int .u8 8)).setCell ⟨w.heap.size+1+1+1,11,none⟩ (.string ((xc.s.extract pq1 xc.s.size).extract 0 (q1 - pq1)))=wz:=⟨_,rfl⟩
   rw [hwz] at h2 ⊢
   have hit:=h2
   have hxb:(xc.s.extract pq1 xc.s.size).extract 0 (q1 - pq1)=xc.s.extract pq1 q1:=by
    refine Yz ?_
    rw [Xi,Xi,Xi,List.drop_zero, <-Xw,List.take_length,List.take_drop,show pq1+(q1 - pq1)=q1 by omega]
   rw [<-HDM.out,show turnP x ⟨9,p,cc.key,cc.i,cc.j,cc.n,xv,cc.s⟩=⟨8,p, .empty,cc.i,0,0,V.none,partT x.str cc.i cc.n⟩ from rfl]
   have hpt:partT x.str cc.i cc.n=(xc.s.extract pq1 xc.s.size).extract 0 (q1 - pq1):=by
    obtain ⟨g1,g2,g3,g4,g5⟩:=HIJ.out
    rw [hxb,partT,g1,g2, <-Int.natCast_add,Int.toNat_natCast,Int.toNat_natCast, <-g5,g3,g4]
   rw [hpt]
   exact Z6 (cc:=cc) 8 cc.i (by omega) ⟨HCB.out.i0,HCB.out.i1⟩ (HP.out.later_ hit.below) 0 0 (by omega) (by omega) .empty ((xc.s.extract pq1 xc.s.size).extract 0 (q1 - pq1)) (by decide) (by rw [hxb,ByteArray.size_extract];omega) V.none vzero (Zq _ _)
structure TB (w W:World) (cv:VC) (cc:CC):Prop where
 v:BC W w.heap.size (vcells cv)
 c:BC W (w.heap.size+1) (ccells cc)
 r:BC W (w.heap.size+1+1) (ccells czero)
 below:Below w.heap.size w W
theorem TB.keep {w W W':World} {cv:VC} {cc:CC} (h:TB w W cv cc) (hb:uB W W'):TB w W' cv cc:=⟨h.v.keep hb h.v.lt,h.c.keep hb h.c.lt,h.r.keep hb h.r.lt,h.below.trans (hb.mono h.below.size)⟩
theorem TB.start (w:World) (cv:VC) (cc:CC) (t0 t1 t2:TypeId):TB w (((w.alloc (.cells #[.int .u8 cv.k, .int .i64 cv.n, .string cv.s, .slice cv.la cv.ll cv.lc, .slice cv.oa cv.ol cv.oc] t0)).alloc (.cells #[.int .u8 cc.k, .slice cc.pa cc.pl cc.pc, .string cc.key, .int .i64 cc.i, .int .i64 cc.j, .int .i64 cc.n, .int .u8 cc.v.k, .int .i64 cc.v.n, .string cc.v.s, .slice cc.v.la cc.v.ll cc.v.lc, .slice cc.v.oa cc.v.ol cc.v.oc, .string cc.s] t1)).alloc (.cells #[.int .u8 0, .slice none 0 0, .string { data:= #[] }, .int .i64 0, .int .i64 0, .int .i64 0, .int .u8 0, .int .i64 0, .string { data:= #[] }, .slice none 0 0, .slice none 0 0, .string { data:= #[] }] t2)) cv cc:=by
 obtain ⟨q1,q2,q3,q4,q5⟩:=Kz w #[.int .u8 cv.k, .int .i64 cv.n, .string cv.s, .slice cv.la cv.ll cv.lc, .slice cv.oa cv.ol cv.oc] #[.int .u8 cc.k, .slice cc.pa cc.pl cc.pc, .string cc.key, .int .i64 cc.i, .int .i64 cc.j, .int .i64 cc.n, .int .u8 cc.v.k, .int .i64 cc.v.n, .string cc.v.s, .slice cc.v.la cc.v.ll cc.v.lc, .slice cc.v.oa cc.v.ol cc.v.oc, .string cc.s] #[.int .u8 0, .slice none 0 0, .string { data:= #[] }, .int .i64 0, .int .i64 0, .int .i64 0, .int .u8 0, .int .i64 0, .string { data:= #[] }, .slice none 0 0, .slice none 0 0, .string { data:= #[] }] #[] t0 t1 t2 t0
 obtain ⟨w1,h1⟩:∃w1,(w.alloc (.cells (uV cv) t0)).alloc (.cells (uC cc) t1)=w1:=⟨_,rfl⟩
 obtain ⟨b1,b2,b3,b4⟩:=Qw w #[.int .u8 cv.k, .int .i64 cv.n, .string cv.s, .slice cv.la cv.ll cv.lc, .slice cv.oa cv.ol cv.oc] #[.int .u8 cc.k, .slice cc.pa cc.pl cc.pc, .string cc.key, .int .i64 cc.i, .int .i64 cc.j, .int .i64 cc.n, .int .u8 cc.v.k, .int .i64 cc.v.n, .string cc.v.s, .slice cc.v.la cc.v.ll cc.v.lc, .slice cc.v.oa cc.v.ol cc.v.oc, .string cc.s] t0 t1
 rw [h1] at b1 b2 b3 b4 ⊢
 have hb:=Zo w1 (.cells #[.int .u8 0, .slice none 0 0, .string { data:= #[] }, .int .i64 0, .int .i64 0, .int .i64 0, .int .u8 0, .int .i64 0, .string { data:= #[] }, .slice none 0 0, .slice none 0 0, .string { data:= #[] }] t2)
 have hr:=BC.start w1 #[.int .u8 0, .slice none 0 0, .string { data:= #[] }, .int .i64 0, .int .i64 0, .int .i64 0, .int .u8 0, .int .i64 0, .string { data:= #[] }, .slice none 0 0, .slice none 0 0, .string { data:= #[] }] t2
 rw [b4] at hr
 exact ⟨b1.keep hb b1.lt,b2.keep hb b2.lt,hr,b3.trans (hb.mono b3.size)⟩
def TdPost (k:IntKind) (w:World) (r:Cm×Int) (e:Ending) (w':World):Prop:=
 (∃d:CC,e= .returned (.tuple #[.agg #[.int .u8 d.k, .slice d.pa d.pl d.pc, .string d.key, .int .i64 d.i, .int .i64 d.j, .int .i64 d.n, .int .u8 d.v.k, .int .i64 d.v.n, .string d.v.s, .slice d.v.la d.v.ll d.v.lc, .slice d.v.oa d.v.ol d.v.oc, .string d.s], .int k r.2])/\IsComp (only (fun b=>w.heap.size<=b) w') w'.heap.size r.1 d)/\Below w.heap.size w w'
theorem Q3 (w:World) (B:Nat):IsComp w B Cm.none czero:= .mk czero [] V.none ⟨by decide,by decide,by decide,by decide,by decide,by decide,by decide,by decide,by decide,by decide⟩ (IsSteps.nil w B) (Zq _ _)
theorem zc3 (x:V) (c:Cm):(turnP x c).v.weight<=x.weight:=by
 have h1:V.none.weight<=x.weight:=by rw [Jd];obtain ⟨k,n,s,l,o,rfl⟩:=x.eta;simp only [V.weight];omega
 have hl:(x.ls.getD c.i.toNat V.none).weight<=x.weight:=by
  obtain ⟨k,n,s,l,o,rfl⟩:=x.eta
  show (l.getD _ _).weight<=_
  rw [List.getD_eq_getElem?_getD]
  cases hq:l[c.i.toNat]? with
  |none=>exact h1
  | some y=>
    obtain ⟨hi,rfl⟩:=List.getElem?_eq_some_iff.1 hq
    have:=Qf l _ hi
    rw [V.weight,Option.getD_some];omega
 have ho:(x.os.getD (fieldK x.os c.key) (.empty,V.none)).2.weight<=x.weight:=by
  obtain ⟨k,n,s,l,o,rfl⟩:=x.eta
  show (o.getD _ _).2.weight<=_
  rw [List.getD_eq_getElem?_getD]
  rw [show (V.mk k n s l o).os=o from rfl]
  cases hq:o[fieldK o c.key]? with
  |none=>exact h1
  | some y=>
    obtain ⟨hi,rfl⟩:=List.getElem?_eq_some_iff.1 hq
    have:=Qv o _ hi
    rw [V.weight,Option.getD_some];omega
 unfold turnP
 (repeat' split)<;>first|exact h1|exact hl|exact ho
theorem zai {tmps:Array Value} {W:World} {b:Nat} {d:CC} {x:Value} (ht:tmps[4]? =some (.pointer (some ⟨b,0,none⟩))) (hx:tmps[5]? =some x) (h:BC W b (ccells d)):
 (results Tryz.f27 tmps).run Tryz.prog W= .ok (.tuple #[.agg #[.int .u8 d.k, .slice d.pa d.pl d.pc, .string d.key, .int .i64 d.i, .int .i64 d.j, .int .i64 d.n, .int .u8 d.v.k, .int .i64 d.v.n, .string d.v.s, .slice d.v.la d.v.ll d.v.lc, .slice d.v.oa d.v.ol d.v.oc, .string d.s],x]) W:=by
 obtain ⟨r0,r1,r2,r3,r4,r5,r6,r7,r8,r9,r10,r11⟩:=row12 h.at_
 simp [results,Tryz.results27,go_sem,ht,hx,r0,r1,r2,r3,r4,r5,r6,r7,r8,r9,r10,r11]
set_option maxRecDepth 100000 in
theorem Qa (w:World) (cv:VC) (v:V) (hv:IsVal w w.heap.size v cv) (hw:v.weight<=1000000000000) (p:List St) (xv:V) (cc:CC) (hcb:cc.Bnd) (hp:IsSteps w w.heap.size p cc.pa cc.pl cc.pc) (hxv:IsVal w w.heap.size xv cc.v) (hxw:xv.weight<=4611686018427387904) (hsz:cc.s.size<=1000000000000) (hT:Tabs w):
 uP 27 #[.agg (uV cv), .agg (uC cc)] w (TdPost .u16 w (turnedP v ⟨cc.k,p,cc.key,cc.i,cc.j,cc.n,xv,cc.s⟩)):=by
 delta uV uC uP
 have HCK:Hid (∀W,uB w W->uP 35 #[.agg (uV cv), .agg (uC cc)] W fun e w'=>e= .returned (.int .u16 (checkP v ⟨cc.k,p,cc.key,cc.i,cc.j,cc.n,xv,cc.s⟩))/\uB W w'):=qh fun W hW=>Qc W cv.k cv.n cv.s cv.la cv.ll cv.lc cv.oa cv.ol cv.oc v (hv.later_ hW) hw p xv cc hcb (hp.later_ hW) (hxv.later_ hW) hxw (hT.below hW)
 have HGT:Hid (∀x,getP v p=some x->∀W,uB w W->uP 42 #[.agg (uV cv), .slice cc.pa cc.pl cc.pc] W fun e w'=>(∃d:VC,e= .returned (.tuple #[.agg #[.int .u8 d.k, .int .i64 d.n, .string d.s, .slice d.la d.ll d.lc, .slice d.oa d.ol d.oc], .int .u16 0])/\IsVal w' w'.heap.size x d)/\uB W w'):=qh fun x hx W hW=>by
  refine (Qb W v cv p cc.pa cc.pl cc.pc (hv.later_ hW) (hp.later_ hW)).mono ?_
  rintro e w' ⟨hb,⟨_,hn⟩|⟨y,d,rfl,hy,hwh⟩⟩
  .rw [hx] at hn;cases hn
  .obtain rfl:x=y:=Option.some.inj (hx.symm.trans hy)
   exact ⟨⟨d,rfl,hwh.isVal⟩,hb⟩
 have HTN:Hid (∀x (d:VC) W,getP v p=some x->checkP v ⟨cc.k,p,cc.key,cc.i,cc.j,cc.n,xv,cc.s⟩=0->uB w W->IsVal W W.heap.size x d->uP 64 #[.agg (uV d), .agg (uC cc)] W (TNPost W (turnP x ⟨cc.k,p,cc.key,cc.i,cc.j,cc.n,xv,cc.s⟩))):=qh fun x d W hx hc hW hI=>by
  obtain ⟨hs,x',hg,hk⟩:=Zu hc
  obtain rfl:x=x':=Option.some.inj (hx.symm.trans hg)
  exact zg7 W x d hI p xv cc hcb (hp.later_ hW) hs hk (by show cc.s.size<=_;omega)
 have HSD:Hid (∀x (d:CC) W,x.v.weight<=v.weight->uB w W->IsComp W W.heap.size x d->uP 19 #[.agg (uC d)] W fun e w'=>e= .returned (.bool (cmSound x))/\uB W w'):=qh fun x d W hx hW hI=>zb0 x W (hT.below hW) d hI (by omega)
 have HB:=qh (TB.start w cv cc 36 39 39)
 obtain ⟨R,hR⟩:∃R,turnedP v ⟨cc.k,p,cc.key,cc.i,cc.j,cc.n,xv,cc.s⟩=R:=⟨_,rfl⟩
 rw [hR]
 unfold turnedP at hR
 obtain ⟨E,hE⟩:∃E,checkP v ⟨cc.k,p,cc.key,cc.i,cc.j,cc.n,xv,cc.s⟩=E:=⟨_,rfl⟩
 rw [hE] at HCK hR
 have HR:=qh hR;have HE:=qh hE
 clear hv hw hp hxv hxw hT hsz hcb hR hE
 go_enter Tryz.func27,Tryz.ntmps27
 generalize hQ0:bodyPost _ _ _=Q0
 have HQ:=qh hQ0
 clear hQ0
 go_wp2_with fail
 refine (HCK.out _ HB.out.below).mono ?_
 rintro e w1 ⟨rfl,hb1⟩
 have hB1:=HB.out.keep hb1
 have HB1:=qh hB1
 obtain ⟨v0,v1,v2,v3,v4⟩:=row5 hB1.v.at_
 obtain ⟨c0,c1,c2,c3,c4,c5,c6,c7,c8,c9,c10,c11⟩:=row12 hB1.c.at_
 obtain ⟨r0,r1,r2,r3,r4,r5,r6,r7,r8,r9,r10,r11⟩:=row12 hB1.r.at_
 have gr:=hB1.r.fr;have zv:=hB1.v.lt;have zc:=hB1.c.lt;have zr:=hB1.r.lt
 clear hB1 hb1 HCK HB
 by_cases hE0:E=0
 .subst hE0
  have hR:=HR.out
  rw [if_pos rfl] at hR
  obtain ⟨hs,x,hg,hk⟩:=Zu HE.out
  dsimp only at hg
  rw [hg,Option.getD_some] at hR
  obtain ⟨S,hS⟩:∃S,cmSound (turnP x ⟨cc.k,p,cc.key,cc.i,cc.j,cc.n,xv,cc.s⟩)=S:=⟨_,rfl⟩
  rw [hS] at hR
  have HRT:Hid (S=true->(turnP x ⟨cc.k,p,cc.key,cc.i,cc.j,cc.n,xv,cc.s⟩,0)=R):=qh fun e=>by rw [e,if_pos rfl] at hR;exact hR
  have HRF:Hid (S=false->(Cm.none,60)=R):=qh fun e=>by rw [e,if_neg (by decide)] at hR;exact hR
  have HS:=qh hS;have HG:=qh hg
  have HXW:=qh (Zz p hg)
  clear hR hs hk hS HR hg
  go_wp2_with fail
  refine (HGT.out x HG.out _ HB1.out.below).mono ?_
  rintro e w2 ⟨⟨d,rfl,hd⟩,hb2⟩
  obtain ⟨w3,hw3⟩:∃w3,w2.alloc (.cells (uV d) 36)=w3:=⟨_,rfl⟩
  have hb3:uB w2 w3:=by rw [<-hw3];exact Zo w2 _
  have hx3:BC w3 w2.heap.size (vcells d):=by rw [<-hw3];exact BC.start w2 (uV d) 36
  have hB3:=(HB1.out.keep hb2).keep hb3
  have HD3:=qh (hd.later_ hb3)
  have HB3:=qh hB3
  clear v0 v1 v2 v3 v4 c0 c1 c2 c3 c4 c5 c6 c7 c8 c9 c10 c11 r0 r1 r2 r3 r4 r5 r6 r7 r8 r9 r10 r11 gr zv zc zr
  obtain ⟨v0,v1,v2,v3,v4⟩:=row5 hx3.at_
  obtain ⟨c0,c1,c2,c3,c4,c5,c6,c7,c8,c9,c10,c11⟩:=row12 hB3.c.at_
  have zv:=hx3.lt;have zc:=hB3.c.lt
  clear hB3 hb2 hd hx3 hb3 HB1
  go_upto_region 5 with fail
  clear hw3
  go_wp2_with fail
  refine (HTN.out x d _ HG.out HE.out HB3.out.below HD3.out).mono ?_
  rintro e w4 ⟨⟨f,rfl,hf⟩,hb4⟩
  obtain ⟨w5,hw5⟩:∃w5,w4.alloc (.cells (uC f) 39)=w5:=⟨_,rfl⟩
  have hb5:uB w4 w5:=by rw [<-hw5];exact Zo w4 _
  have hx5:BC w5 w4.heap.size (ccells f):=by rw [<-hw5];exact BC.start w4 (uC f) 39
  have hB5:=(HB3.out.keep hb4).keep hb5
  have hz4:=HB3.out.r.lt
  have HF5:Hid (IsComp (only (fun k=>w.heap.size+1+1+1<=k) w5) w5.heap.size (turnP x ⟨cc.k,p,cc.key,cc.i,cc.j,cc.n,xv,cc.s⟩) f):=qh (Xr hf rfl hb5.size fun k hk hl=>⟨by omega,hb5.block k hl⟩)
  have HB5:=qh hB5;have HX5:=qh hx5
  clear v0 v1 v2 v3 v4 c0 c1 c2 c3 c4 c5 c6 c7 c8 c9 c10 c11 zv zc
  obtain ⟨f0,f1,f2,f3,f4,f5,f6,f7,f8,f9,f10,f11⟩:=row12 hx5.at_
  have zf:=hx5.lt
  clear hB5 hf hx5 hb4 hb5 hz4 HB3 HTN HGT
  go_upto_region 6 with fail
  clear hw5
  go_wp2_with fail
  refine (HSD.out _ f _ (Nat.le_trans (zc3 _ _) HXW.out) HB5.out.below (HF5.out.sub (Zk _ _ _))).mono ?_
  rintro e w6 ⟨rfl,hb6⟩
  rw [HS.out]
  have hB6:=HB5.out.keep hb6
  have hx6:=HX5.out.keep hb6 HX5.out.lt
  have HF6:Hid (IsComp (only (fun k=>w.heap.size+1+1+1<=k) w6) w6.heap.size (turnP x ⟨cc.k,p,cc.key,cc.i,cc.j,cc.n,xv,cc.s⟩) f):=qh (Xr HF5.out rfl hb6.size fun k hk hl=>⟨hk,hb6.block k hl⟩)
  have HB6:=qh hB6
  clear f0 f1 f2 f3 f4 f5 f6 f7 f8 f9 f10 f11 zf
  obtain ⟨f0,f1,f2,f3,f4,f5,f6,f7,f8,f9,f10,f11⟩:=row12 hx6.at_
  obtain ⟨r0,r1,r2,r3,r4,r5,r6,r7,r8,r9,r10,r11⟩:=row12 hB6.r.at_
  have zf:=hx6.lt;have zr:=hB6.r.lt;have gr:=hB6.r.fr
  clear hB6 hx6 hb6 HX5 HF5 HB5 HSD HS
  cases S with
  | true=>
    go_wp2_with fail
    rw [<-HQ.out, <-HRT.out (by trivial)]
    exact ⟨rfl,_,zai rfl rfl (Zp (c0:=czero) HB6.out.r f),⟨f,rfl,Ku HF6.out (by omega) (by omega) f⟩,Below.setC HB6.out.below (by omega) f⟩
  | false=>
    go_wp2_with fail
    rw [<-HQ.out, <-HRF.out (by trivial)]
    exact ⟨rfl,_,zai rfl rfl (Zp (c0:=czero) HB6.out.r czero),⟨czero,rfl,Q3 _ _⟩,Below.setC HB6.out.below (by omega) czero⟩
 .have f0:(E==0)=false:=by simpa using hE0
  go_wp2_with fail
  rw [<-HQ.out, <-HR.out,if_neg hE0]
  exact ⟨rfl,_,zai rfl rfl (Zp (c0:=czero) HB1.out.r czero),⟨czero,rfl,Q3 _ _⟩,Below.setC HB1.out.below (by omega) czero⟩
theorem CompAt.cells {w:World} {b o:Nat} {c:CC} (h:CompAt w b o c):∀k u,(ccells c)[k]? =some u->w.cell? ⟨b,o+k,none⟩=some u:=fun k u hk=>by
 have hm:k<12:=by have:=(List.getElem?_eq_some_iff.1 hk).1;exact this
 match k,hm with
 |0,_=>rw [<-hk];exact h.c0
 |1,_=>rw [<-hk];exact h.c1
 |2,_=>rw [<-hk];exact h.c2
 |3,_=>rw [<-hk];exact h.c3
 |4,_=>rw [<-hk];exact h.c4
 |5,_=>rw [<-hk];exact h.c5
 |6,_=>rw [<-hk];exact h.c6.c0
 |7,_=>rw [<-hk];exact h.c6.c1
 |8,_=>rw [<-hk];exact h.c6.c2
 |9,_=>rw [<-hk];exact h.c6.c3
 |10,_=>rw [<-hk];exact h.c6.c4
 |11,_=>rw [<-hk];exact h.c11
theorem zk3 (v:V) (op:List Cm) (h:(turnsP v op).2≠0):(turnsP v op).1= [] :=by
 cases op with
 |nil=>exact absurd rfl h
 | cons c r=>
   rw [turnsP] at h ⊢
   split
   .rename_i h1
    rw [if_pos h1] at h
    split
    .rename_i h2
     rw [if_pos h2] at h;exact absurd rfl h
    .rfl
   .rfl
theorem zjt (v:V) (op:List Cm):goOn [] (turnsP v op)=turnsP v op:=by
 unfold goOn
 split
 .rename_i h;rw [List.nil_append];exact Prod.ext rfl h.symm
 .rename_i h;exact Prod.ext (zk3 v op h).symm rfl
theorem znt {xs:List Cm} {x:V} {cm T1:Cm} {r:List Cm} (h:turnedP x cm=(T1,0)):goOn (xs++ [T1]) (turnsP (doP x cm).1 r)=goOn xs (turnsP x (cm::r)):=by
 rw [turnsP,h,if_pos rfl]
 unfold goOn
 by_cases h2:(turnsP (doP x cm).1 r).2=0
 .rw [if_pos h2,if_pos h2,if_pos rfl,List.append_assoc];rfl
 .rw [if_neg h2,if_neg h2,if_neg h2]
def AllPost (k:IntKind) (w:World) (r:List Cm×Int) (e:Ending) (w':World):Prop:=
 (∃a n c,e= .returned (.tuple #[.slice a n c, .int k r.2])/\IsComps (only (fun b=>w.heap.size<=b) w') w'.heap.size r.1 a n c)/\Below w.heap.size w w'
theorem zns (w:World) (B:Nat):IsComps w B [] none 0 0:=⟨rfl,Nat.le_refl _,by decide,by decide,0,0,fun _=>czero,fun h=>absurd h (by decide),fun i hi=>absurd hi (by simp)⟩
theorem zbn {w W:World} {xs:List Cm} {cs:List CC} {a:Option Addr} {m c:Nat} {r:List Cm×Int} {tmps:Array Value} {e:Int} (ht:tmps[4]? =some (.pointer (some ⟨w.heap.size+1,0,none⟩))) (hx:tmps[5]? =some (.int .u16 e))
 (ho:BC W (w.heap.size+1) [.slice a m c]) (hr:RowC W (w.heap.size+2) (.slice a m c) xs cs) (hl:cs.length=xs.length) (hm:xs.length=m) (hb:uB w W) (hfew:xs.length<=1000) (h:(xs.reverse,e)=r):
 bodyPostD Tryz.prog Tryz.f23 (AllPost .u16 w r) .ret { tmps:=tmps,defers:= [{ target:= .fn (.func 59) #[.pointer (some ⟨w.heap.size+1,0,none⟩)],args:= #[] }] } W:=by
 subst hm
 refine leaves_cons (f:=59) (args:= #[.pointer (some ⟨w.heap.size+1,0,none⟩)]) (by simp) (by simp [go_sem]) ?_
 refine (zqg W (w.heap.size+1) (w.heap.size+2) a xs.length c cs hl ho hr.own).mono ?_
 rintro e' u' w' ⟨rfl,rfl,ho',hg⟩
 have hR:=RowC.rev hr hl ho' hg
 have hb2:Below (w.heap.size+2) W w':=Zj hg (fun k hk=>(hr.lt k hk).1) (by have:=ho.lt;omega)
 have hob:=(ho.keep hb2 (by omega)).at_ 0 _ rfl
 have hc:=hR.comps (lo:=w.heap.size) (by simp [hl]) (by omega) (by rw [List.length_reverse];omega)
 subst h
 simp only [Leaves,settle]
 refine ⟨_, ?_,⟨a,_,c,rfl,hc⟩,hb.trans (hb2.mono (by omega))⟩
 simp [results,Tryz.results23,go_sem,ht,hx,hob]
set_option maxRecDepth 100000 in
theorem Ky (w:World) (cv:VC) (v:V) (hv:IsVal w w.heap.size v cv) (op:List Cm) (oa:Option Addr) (on oc:Nat) (hop:IsComps w w.heap.size op oa on oc) (hok:on<=200->OpOk v op) (hT:Tabs w):
 uP 23 #[.agg (uV cv), .slice oa on oc] w (AllPost .u16 w (allP v op)):=by
 delta uV uP
 have hmf:∀(fn:Fn) (first cap:Array Value) (w:World),(Instr.makeFunc fn first cap).run Tryz.prog w= .ok (.func fn first cap) w:=fun _ _ _ _=>rfl
 obtain ⟨i0,hi0,hz0,hz1,hz2⟩:=info_parts za1
 have hlen:=hop.len;have hmax:=hop.max;have hcap:=hop.cap
 obtain ⟨q1,q2,q3,q4⟩:=Qw w #[.int .u8 cv.k, .int .i64 cv.n, .string cv.s, .slice cv.la cv.ll cv.lc, .slice cv.oa cv.ol cv.oc] #[.slice none 0 0] 36 53
 by_cases hn:200<on
 .have hr:allP v op=([],3):=by unfold allP;rw [if_pos (by omega)]
  have hfin:AllPost .u16 w (allP v op) (.returned (.tuple #[.slice none 0 0, .int .u16 3])) ((w.alloc (.cells (uV cv) 36)).alloc (.cells #[.slice none 0 0] 53)):=by
   rw [hr];exact ⟨⟨none,0,0,rfl,zns _ _⟩,q3⟩
  have c0:=q2.at_ 0 _ rfl
  have HFIN:=qh hfin
  have HC0:=qh c0
  clear hfin hr c0 hok hop hv q1 q2 q3 q4 hlen
  go_enter_defers Tryz.func23,Tryz.ntmps23
  go_wp2_with fail
  exact ⟨_,by simp [results,Tryz.results23,go_sem,HC0.out],HFIN.out⟩
 .have hrp:allP v op=((turnsP v op).1.reverse,(turnsP v op).2):=by unfold allP;rw [if_neg (by omega)]
  rw [hrp]
  have HLH:Hid (LH w ((w.alloc (.cells (uV cv) 36)).alloc (.cells #[.slice none 0 0] 53)) v op 0 v cv (.slice none 0 0) [] []):=qh ⟨zjt v op,hok (by omega),rfl,rfl,q1,q2,(hv.sub fun b o u hb hc=>Z3 ⟨by omega,by omega,by simp [Value.ownBlock]⟩ ((World.cell?_of_block (q3.block b hb)).trans hc)).more q3.size,Row.nil _ _ _ _ _,q3⟩
  have HOP:=qh hop;have HT:=qh hT
  clear hop hok hv hrp q1 q2 q3 q4 hT
  go_enter_defers Tryz.func23,Tryz.ntmps23
  go_wp2_with fail
  go_loopw [16] (fun iv wr=>∃(j:Nat) (x:V) (cx:VC) (a:Option Addr) (c:Nat) (xs:List Cm) (cs:List CC),iv= .int .i64 (j:Int)/\j<=on/\Hid (LH w wr v op j x cx (.slice a xs.length c) xs cs)) (fun iv _=>(match iv with| .int _ i=>on - i.toNat|_=>0))
  case atStart=>exact ⟨0,v,cv,none,0, [], [],rfl,Nat.zero_le _,HLH⟩
  case round=>
   obtain ⟨j,x,cx,a,c,xs,cs,rfl,hj,HL⟩:=hrel
   have hlh:=HL.out
   obtain ⟨v0,v1,v2,v3,v4⟩:=row5 hlh.box.at_
   have o0:=hlh.obox.at_ 0 _ rfl
   have zv:=hlh.box.lt;have zo:=hlh.obox.lt;have gv:=hlh.box.fr;have go:=hlh.obox.fr
   clear HLH
   by_cases hlt:j<on
   .have hjl:j<op.length:=by omega
    obtain ⟨b,o,f,h5,h6⟩:=HOP.out.at_
    obtain ⟨rfl,hbB⟩:=h5 (by omega)
    obtain ⟨hat,hic⟩:=h6 j hjl
    have hat2:=hat.keep hlh.below hbB
    have hbw:=Nat.lt_of_lt_of_le hbB hlh.below.size
    obtain ⟨cc,hcc⟩:∃c,f j=c:=⟨_,rfl⟩
    rw [hcc] at hat2 hic
    obtain ⟨cm,hcm⟩:∃y,op[j] =y:=⟨_,rfl⟩
    have hdr:op.drop j=cm::op.drop (j+1):=by rw [List.drop_eq_getElem_cons hjl,hcm]
    rw [hcm] at hic
    have hok:=hlh.ok
    rw [hdr] at hok
    obtain ⟨hxw,hxs,hcw,hcs,hnx⟩:=hok
    have HTD:Hid (∀W,uB wr W->uP 27 #[.agg (uV cx), .agg (uC cc)] W (TdPost .u16 W (turnedP x cm))):=qh fun W hW=>by
     have hwW:=hlh.below.trans (hW.mono hlh.below.size)
     have hvW:IsVal W W.heap.size x cx:=(hlh.val.sub (Zk _ _ _)).later_ hW
     cases hic with
     |mk _ p xv hcb hp hxv=>exact Qa W cx x hvW (by omega) p xv cc hcb (hp.later_ hwW) (hxv.later_ hwW) hcw hcs (HT.out.below hwW)
    have HDO:Hid (∀W,uB wr W->uP 15 #[.agg (uV cx), .agg (uC cc)] W (CDoPost W (doP x cm))):=qh fun W hW=>by
     have hwW:=hlh.below.trans (hW.mono hlh.below.size)
     have hvW:IsVal W W.heap.size x cx:=(hlh.val.sub (Zk _ _ _)).later_ hW
     cases hic with
     |mk _ p xv hcb hp hxv=>exact zh1 W cx.k cx.n cx.s cx.la cx.ll cx.lc cx.oa cx.ol cx.oc x hvW hxw p xv cc hcb (hp.later_ hwW) (hxv.later_ hwW) hcw (fun y hy=>by have:=Zz _ hy;have:=y.str_weight.1;dsimp only at hcs;omega) hxs (HT.out.below hwW)
    obtain ⟨e0,e1,e2,e3,e4,e5,e6,e7,e8,e9,e10,e11⟩:=row12 hat2.cells
    rw [Nat.add_zero] at e0
    have hj0:¬((j:Int)<0):=by omega
    have hjn:(j:Int)<(on:Int):=by omega
    have HDR:=qh hdr;have HNX:=qh hnx
    obtain ⟨w1,hw1⟩:∃w1,wr.alloc (.cells (uC cc) 39)=w1:=⟨_,rfl⟩
    have hb1:uB wr w1:=by rw [<-hw1];exact Zo wr _
    have hx1:BC w1 wr.heap.size (ccells cc):=by rw [<-hw1];exact BC.start wr (uC cc) 39
    have hv1:=hlh.box.keep hb1 zv
    have HX1:=qh hx1;have HB1:=qh hb1
    have hzc:=hx1.lt;have hzv:=hv1.lt
    clear h5 h6 hat hic hat2 hcc hcm hdr hxw hxs hcw hcs hnx hlh
    go_upto_region 7 with fail
    clear hw1 v0 v1 v2 v3 v4 e0 e1 e2 e3 e4 e5 e6 e7 e8 e9 e10 e11 o0 zv zo gv go hbw
    obtain ⟨v0,v1,v2,v3,v4⟩:=row5 hv1.at_
    obtain ⟨c0,c1,c2,c3,c4,c5,c6,c7,c8,c9,c10,c11⟩:=row12 hx1.at_
    clear hv1 hx1 hb1
    go_wp2_with fail
    refine (HTD.out _ HB1.out).mono ?_
    rintro e w2 ⟨⟨d,rfl,hd⟩,hb2⟩
    obtain ⟨T,hT⟩:∃T,turnedP x cm=T:=⟨_,rfl⟩
    rw [hT] at hd
    rw [hT]
    obtain ⟨w3,hw3⟩:∃w3,w2.alloc (.cells (uC d) 39)=w3:=⟨_,rfl⟩
    have hb3:uB w2 w3:=by rw [<-hw3];exact Zo w2 _
    have hx3:BC w3 w2.heap.size (ccells d):=by rw [<-hw3];exact BC.start w2 (uC d) 39
    have hB3:uB wr w3:=HB1.out.trans ((hb2.trans (hb3.mono hb2.size)).mono HB1.out.size)
    have hc3:=(HX1.out.keep hb2 HX1.out.lt).keep hb3 (Nat.lt_of_lt_of_le HX1.out.lt hb2.size)
    have hD3:IsComp (only (fun k=>wr.heap.size<=k) w3) w3.heap.size T.1 d:=Xr hd rfl hb3.size fun k hk hl=>⟨Nat.le_trans HB1.out.size hk,hb3.block k hl⟩
    have hlh:=HL.out
    have hv3:=hlh.box.keep hB3 hlh.box.lt
    have ho3:=hlh.obox.keep hB3 hlh.obox.lt
    have HZ2:=qh (Nat.le_trans HB1.out.size hb2.size)
    have HB3:=qh hB3;have HD3:=qh hD3;have HX3:=qh hx3;have HTT:=qh hT
    have zd:=hx3.lt;have zc:=hc3.lt;have zv:=hv3.lt;have zo:=ho3.lt;have gv:=hv3.fr;have go:=ho3.fr
    clear hd hb2 hb3 hB3 hD3 hlh hT v0 v1 v2 v3 v4 c0 c1 c2 c3 c4 c5 c6 c7 c8 c9 c10 c11 hzc hzv
    obtain ⟨T1,er⟩:=T
    dsimp only at HD3 ⊢
    obtain ⟨v0,v1,v2,v3,v4⟩:=row5 hv3.at_
    obtain ⟨c0,c1,c2,c3,c4,c5,c6,c7,c8,c9,c10,c11⟩:=row12 hc3.at_
    obtain ⟨d0,d1,d2,d3,d4,d5,d6,d7,d8,d9,d10,d11⟩:=row12 hx3.at_
    have o0:=ho3.at_ 0 _ rfl
    have HO3:=qh ho3
    clear hv3 hc3 hx3 ho3
    by_cases he:er=0
    .subst he
     have hd0:(doP x cm).2=0:=by rw [Ko];exact (J9 HTT.out).1
     have hrd:goOn (xs++ [T1]) (turnsP (doP x cm).1 (op.drop (j+1)))=turnsP v op:=by rw [znt HTT.out, <-HDR.out];exact HL.out.rd
     have hok2:=HNX.out hd0
     obtain ⟨D,hD⟩:∃D,doP x cm=D:=⟨_,rfl⟩
     rw [hD] at hrd hok2 HDO
     have HRD:=qh hrd;have HOK:=qh hok2
     clear hd0 hrd hok2 hD HNX HTT HDR
     go_wp2_with fail
     refine (HDO.out _ HB3.out).mono ?_
     rintro e w4 ⟨⟨y,rfl,hy⟩,hb4⟩
     have hlh:=HL.out
     have hz3:=HB3.out.size;have hz4:=hb4.size;have hzv:=hlh.box.lt;have hzo:=hlh.obox.lt
     have hv4:=(hlh.box.keep HB3.out hlh.box.lt).keep hb4 (by omega)
     have st:=Zi w4 w.heap.size 0 y
     have HM:Hid (LM w wr (setV w4 w.heap.size 0 y) D.1 T1 y d (.slice a xs.length c) xs cs/\BC (setV w4 w.heap.size 0 y) w2.heap.size (ccells d)/\wr.heap.size<=(setV w4 w.heap.size 0 y).heap.size):=qh ⟨hlh.mid HB3.out HD3.out hb4 hy,(HX3.out.keep hb4 HX3.out.lt).next st (by have:=HZ2.out;omega),by have:=st.size;omega⟩
     clear v0 v1 v2 v3 v4 c0 c1 c2 c3 c4 c5 c6 c7 c8 c9 c10 c11 d0 d1 d2 d3 d4 d5 d6 d7 d8 d9 d10 d11 o0 zd zc zv zo gv go
     obtain ⟨v0,v1,v2,v3,v4⟩:=row5 hv4.at_
     have zv:=hv4.lt;have gv:=hv4.fr
     clear hlh hv4 st hy hb4 hz3 hz4 hzv hzo HDO
     go_upto_region 11 with fail
     obtain ⟨w5,hw5⟩:∃w5,setV w4 w.heap.size 0 y=w5:=⟨_,rfl⟩
     rw [hw5] at HM
     simp only [setV,Nat.zero_add] at hw5
     rw [hw5]
     have hw6:=HM.out
     clear HM hw5 v0 v1 v2 v3 v4 zv gv
     obtain ⟨hm,hx5,hz5⟩:=hw6
     have hown:=hm.row.own
     have o5:=hm.obox.at_ 0 _ rfl
     obtain ⟨d0,d1,d2,d3,d4,d5,d6,d7,d8,d9,d10,d11⟩:=row12 hx5.at_
     have zd:=hx5.lt;have zo:=hm.obox.lt
     have HM:=qh hm;have HZ5:=qh hz5
     have HFX:=qh HL.out.few
     clear hm hx5 hz5
     go_wp2_with (at_builtin;refine wpList_append_lies _ rfl (.tmp 35) (.tmp 37) 53 (by rfl) (w.heap.size+2) 39 i0 _ 12 168 Tryz.underlying53 hi0 hz0 hz1 hz2 rfl (by omega) (.slice a xs.length c) xs.length (cs.flatMap ccells) (by rfl) (hown.alloc _) ⟨w5.heap.size,0,none⟩ 1 1 (ccells d) (by rfl) (by rfl) (K4 w5 d _) (by simp [ccells,Value.oneCell']) (by have:=HFX.out;omega) (by have:=HFX.out;unfold maxLen;omega) (by have:=HFX.out;omega) (by first|omega|(simp;omega)) (w5.heap.size+1) (by simp) ?_;intro g cap w9 hown9 hgrow9 hat9 hlt9;have hgb:Below (w.heap.size+2) (w5.alloc (.cells (uC d) 39)) w9:=Zj hgrow9 (fun k hk=>(HM.out.row.lt k hk).1) (by rw [World.size_alloc];omega);have ho9:=(HM.out.obox.keep (Zo w5 _) HM.out.obox.lt).keep hgb (by omega);have o9:=ho9.at_ 0 _ rfl;have g9:=ho9.fr;have z9:=ho9.lt;clear ho9 hgb)
     go_roundw
     case rel=>exact ⟨j+1,D.1,y,some ⟨g,0,none⟩,cap,xs++ [T1],cs++ [d],by go_num,by omega,qh (by rw [List.length_append,List.length_singleton];exact HL.out.round HM.out HZ5.out HRD.out HOK.out hown9 hgrow9 hat9)⟩
     case measure=>simp;omega
    .have f0:(er==0)=false:=by simpa using he
     have hlh:=HL.out
     have hts:turnsP v op=([],er):=by
      have:=hlh.rd
      rw [HDR.out,turnsP,HTT.out,if_neg he] at this
      rw [<-this];unfold goOn;rw [if_neg he]
     have hb4:uB w (w3.setCell ⟨w.heap.size+1,0,none⟩ (.slice none 0 0)):=(hlh.below.trans (HB3.out.mono hlh.below.size)).trans ((RStep.self:RStep w3 (w3.setCell ⟨w.heap.size+1,0,none⟩ (.slice none 0 0)) (w.heap.size+1)).lowC (by omega) (by have:=hlh.box.lt;have:=HB3.out.size;omega))
     have hq4:BC (w3.setCell ⟨w.heap.size+1,0,none⟩ (.slice none 0 0)) (w.heap.size+1) [.slice none 0 0] :=HO3.out.set (i:=0) (by simp)
     have HTS:=qh hts;have HB4:=qh hb4;have HQ4:=qh hq4
     clear hts hb4 hq4 hlh v0 v1 v2 v3 v4 c0 c1 c2 c3 c4 c5 c6 c7 c8 c9 c10 c11 d0 d1 d2 d3 d4 d5 d6 d7 d8 d9 d10 d11
     go_wp2_with fail
     rw [HTS.out]
     exact zbn (xs:= []) (cs:= []) rfl rfl HQ4.out (Row.nil _ _ _ _ _) rfl rfl HB4.out (by simp) rfl
   .have hjn:¬((j:Int)<(on:Int)):=by omega
    have hd0:op.drop j= [] :=List.drop_eq_nil_of_le (by omega)
    have hts:turnsP v op=(xs,0):=by
     have:=hlh.rd
     rw [hd0,turnsP] at this
     rw [<-this];unfold goOn;rw [if_pos rfl,List.append_nil]
    have HTS:=qh hts
    have hfx:=hlh.few
    subst hfx
    have st:RStep wr (wr.setCell ⟨w.heap.size+1,0,none⟩ (.slice a xs.length c)) (w.heap.size+1):=RStep.self
    have HO5:=qh (hlh.obox.set (i:=0) (x:= .slice a xs.length c) (by simp))
    have HR5:=qh (hlh.row.later (PC.closed _ _) st (by omega))
    have HB5:=qh (hlh.below.trans (st.lowC (by omega) (by have:=hlh.box.lt;omega)))
    clear hlh hd0 hts st
    go_wp2_with fail
    rw [HTS.out]
    exact zbn (xs:=xs) (cs:=cs) rfl rfl HO5.out HR5.out HL.out.cen rfl HB5.out (by omega) rfl
theorem IsComp.says {w:World} {B:Nat} {x:Cm} {c:CC} (h:IsComp w B x c):x.k=c.k/\x.key=c.key/\IsVal w B x.v c.v:=by
 cases h with
 |mk c p v hb hp hv=>exact ⟨rfl,rfl,hv⟩
theorem zp0 (w:World) (hT:Tabs w) (b:Nat) (hb:BC w b (fcells (kA,⟨2,1, .empty,none,0,0,none,0,0⟩))):uP 27 #[.agg (uU 5 0 { data:= #[] } none 0 0 (some ⟨b,0,none⟩) 1 1), .agg #[.int .u8 2, .slice none 0 0, .string { data:= #[97] }, .int .i64 0, .int .i64 0, .int .i64 0, .int .u8 2, .int .i64 2, .string { data:= #[] }, .slice none 0 0, .slice none 0 0, .string { data:= #[] }]] w fun e w'=>(∃d:CC,e= .returned (.tuple #[.agg #[.int .u8 d.k, .slice d.pa d.pl d.pc, .string d.key, .int .i64 d.i, .int .i64 d.j, .int .i64 d.n, .int .u8 d.v.k, .int .i64 d.v.n, .string d.v.s, .slice d.v.la d.v.ll d.v.lc, .slice d.v.oa d.v.ol d.v.oc, .string d.s], .int .u16 0])/\d.k=2/\d.v.n=1)/\uB w w':=by
 delta uU uB uP
 refine (Qa w ⟨5,0, .empty,none,0,0,some ⟨b,0,none⟩,1,1⟩ kvV (zd1 w b hb) (by rw [zcj];omega) [] (kvI 2) ⟨2,none,0,0,kA,0,0,0,⟨2,2, .empty,none,0,0,none,0,0⟩, .empty⟩ ⟨by dsimp only;omega,by dsimp only;omega,by dsimp only;omega,by dsimp only;omega,by dsimp only;omega,by dsimp only;omega,by dsimp only;omega,by dsimp only;omega,(show kA.size<=140737488355328 by decide),Nat.zero_le _⟩ (IsSteps.nil _ _) (Q5 _ _ 2 2 (by decide) (by decide)) (by simp [kvI,V.weight,weightL,weightO]) (Nat.zero_le _) hT).mono ?_
 rintro e w' ⟨⟨d,rfl,hI⟩,hb'⟩
 have hd:=kt1
 unfold kd1 at hd
 rw [hd] at hI ⊢
 obtain ⟨h1,_,h3⟩:=hI.says
 obtain ⟨_,e2,_⟩:=h3.parts
 exact ⟨⟨d,rfl,h1.symm,e2.symm⟩,hb'⟩
theorem zmg (w:World) (hT:Tabs w):uP 27 #[.agg (uU 5 0 { data:= #[] } none 0 0 none 0 0), .agg #[.int .u8 2, .slice none 0 0, .string { data:= #[97] }, .int .i64 0, .int .i64 0, .int .i64 0, .int .u8 2, .int .i64 2, .string { data:= #[] }, .slice none 0 0, .slice none 0 0, .string { data:= #[] }]] w fun e w'=>(∃d:CC,e= .returned (.tuple #[.agg #[.int .u8 d.k, .slice d.pa d.pl d.pc, .string d.key, .int .i64 d.i, .int .i64 d.j, .int .i64 d.n, .int .u8 d.v.k, .int .i64 d.v.n, .string d.v.s, .slice d.v.la d.v.ll d.v.lc, .slice d.v.oa d.v.ol d.v.oc, .string d.s], .int .u16 0])/\d.k=3/\d.key=kA)/\uB w w':=by
 delta uU uB uP
 refine (Qa w ⟨5,0, .empty,none,0,0,none,0,0⟩ kOb (Q5 _ _ 5 0 (by decide) (by decide)) (by rw [zqi];omega) [] (kvI 2) ⟨2,none,0,0,kA,0,0,0,⟨2,2, .empty,none,0,0,none,0,0⟩, .empty⟩ ⟨by dsimp only;omega,by dsimp only;omega,by dsimp only;omega,by dsimp only;omega,by dsimp only;omega,by dsimp only;omega,by dsimp only;omega,by dsimp only;omega,(show kA.size<=140737488355328 by decide),Nat.zero_le _⟩ (IsSteps.nil _ _) (Q5 _ _ 2 2 (by decide) (by decide)) (by simp [kvI,V.weight,weightL,weightO]) (Nat.zero_le _) hT).mono ?_
 rintro e w' ⟨⟨d,rfl,hI⟩,hb'⟩
 have hd:=kt2
 unfold kd1 at hd
 rw [hd] at hI ⊢
 obtain ⟨h1,h2,_⟩:=hI.says
 exact ⟨⟨d,rfl,h1.symm,h2.symm⟩,hb'⟩
theorem zib (w:World) (hT:Tabs w) (b q:Nat) (hb:BC w b (fcells (kA,⟨2,1, .empty,none,0,0,none,0,0⟩))) (hq:BC w q (ccells ⟨2,none,0,0,kA,0,0,0,⟨2,2, .empty,none,0,0,none,0,0⟩, .empty⟩)):uP 23 #[.agg (uU 5 0 { data:= #[] } none 0 0 (some ⟨b,0,none⟩) 1 1), .slice (some ⟨q,0,none⟩) 1 1] w fun e w'=>(∃a c,e= .returned (.tuple #[.slice a 1 c, .int .u16 0]))/\uB w w':=by
 delta uU uB uP
 have hop:IsComps w w.heap.size [kd1] (some ⟨q,0,none⟩) 1 1:=⟨rfl,Nat.le_refl _,by decide,by decide,q,0,fun _=>⟨2,none,0,0,kA,0,0,0,⟨2,2, .empty,none,0,0,none,0,0⟩, .empty⟩,fun _=>⟨rfl,hq.lt⟩,fun i hi=>by
  have h0:i=0:=by simpa using hi
  subst h0
  exact ⟨⟨hq.at_ 0 _ rfl,hq.at_ 1 _ rfl,hq.at_ 2 _ rfl,hq.at_ 3 _ rfl,hq.at_ 4 _ rfl,hq.at_ 5 _ rfl,⟨hq.at_ 6 _ rfl,hq.at_ 7 _ rfl,hq.at_ 8 _ rfl,hq.at_ 9 _ rfl,hq.at_ 10 _ rfl⟩,hq.at_ 11 _ rfl⟩, .mk ⟨2,none,0,0,kA,0,0,0,⟨2,2, .empty,none,0,0,none,0,0⟩, .empty⟩ [] (kvI 2) ⟨by dsimp only;omega,by dsimp only;omega,by dsimp only;omega,by dsimp only;omega,by dsimp only;omega,by dsimp only;omega,by dsimp only;omega,by dsimp only;omega,(show kA.size<=140737488355328 by decide),Nat.zero_le _⟩ (IsSteps.nil _ _) (Q5 _ _ 2 2 (by decide) (by decide))⟩⟩
 refine (Ky w ⟨5,0, .empty,none,0,0,some ⟨b,0,none⟩,1,1⟩ kvV (zd1 w b hb) [kd1] (some ⟨q,0,none⟩) 1 1 hop (fun _=>kok1) hT).mono ?_
 rw [ka1]
 rintro e w' ⟨⟨a,n,c,rfl,hI⟩,hb'⟩
 obtain rfl:n=1:=hI.len
 exact ⟨⟨a,c,rfl⟩,hb'⟩
structure KN (w W:World):Prop where
 f:BC W w.heap.size (fcells (kA,⟨2,1, .empty,none,0,0,none,0,0⟩))
 v:BC W (w.heap.size+1) [.int .u8 5, .int .i64 0, .string { data:= #[] }, .slice none 0 0, .slice (some ⟨w.heap.size,0,none⟩) 1 1]
 c:BC W (w.heap.size+1+1) [.int .u8 2, .slice none 0 0, .string { data:= #[97] }, .int .i64 0, .int .i64 0, .int .i64 0, .int .u8 2, .int .i64 2, .string { data:= #[] }, .slice none 0 0, .slice none 0 0, .string { data:= #[] }]
 below:Below w.heap.size w W
theorem KN.keep {w W W':World} (h:KN w W) (hb:uB W W'):KN w W':=⟨h.f.keep hb h.f.lt,h.v.keep hb h.v.lt,h.c.keep hb h.c.lt,h.below.trans (hb.mono h.below.size)⟩
theorem KN.start (w:World) (t0 t1 t2:TypeId):KN w (((w.alloc (.cells #[.string { data:= #[97] }, .int .u8 2, .int .i64 1, .string { data:= #[] }, .slice none 0 0, .slice none 0 0] t0)).alloc (.cells #[.int .u8 5, .int .i64 0, .string { data:= #[] }, .slice none 0 0, .slice (some ⟨w.heap.size,0,none⟩) 1 1] t1)).alloc (.cells #[.int .u8 2, .slice none 0 0, .string { data:= #[97] }, .int .i64 0, .int .i64 0, .int .i64 0, .int .u8 2, .int .i64 2, .string { data:= #[] }, .slice none 0 0, .slice none 0 0, .string { data:= #[] }] t2)):=by
 obtain ⟨w1,h1⟩:∃w1,(w.alloc (.cells #[.string { data:= #[97] }, .int .u8 2, .int .i64 1, .string { data:= #[] }, .slice none 0 0, .slice none 0 0] t0)).alloc (.cells (uU 5 0 { data:= #[] } none 0 0 (some ⟨w.heap.size,0,none⟩) 1 1) t1)=w1:=⟨_,rfl⟩
 obtain ⟨b1,b2,b3,b4⟩:=Qw w #[.string { data:= #[97] }, .int .u8 2, .int .i64 1, .string { data:= #[] }, .slice none 0 0, .slice none 0 0] #[.int .u8 5, .int .i64 0, .string { data:= #[] }, .slice none 0 0, .slice (some ⟨w.heap.size,0,none⟩) 1 1] t0 t1
 rw [h1] at b1 b2 b3 b4 ⊢
 have hb:=Zo w1 (.cells #[.int .u8 2, .slice none 0 0, .string { data:= #[97] }, .int .i64 0, .int .i64 0, .int .i64 0, .int .u8 2, .int .i64 2, .string { data:= #[] }, .slice none 0 0, .slice none 0 0, .string { data:= #[] }] t2)
 have hr:=BC.start w1 #[.int .u8 2, .slice none 0 0, .string { data:= #[97] }, .int .i64 0, .int .i64 0, .int .i64 0, .int .u8 2, .int .i64 2, .string { data:= #[] }, .slice none 0 0, .slice none 0 0, .string { data:= #[] }] t2
 rw [b4] at hr
 exact ⟨b1.keep hb b1.lt,b2.keep hb b2.lt,hr,b3.trans (hb.mono b3.size)⟩
end Go.Proofs.YtnjgbiachcfigaaGreatDoor
