/-
  Contracts of the functions that the law reaches: one. Build. Entries: what is read is as long as it is written. No program in sight. whole: its deferred calls. whole: its own blocks. reader.entry, of kind 3. whole at entries. A slice of pieces that came in.
-/
import Derived.Test.YtgcfhkceejcliaaGreatDoorAp15
import Derived.Test.YtgcfhkceejcliaaGreatDoorAp4
import Derived.Test.YtgcfhkceejcliaaGreatDoorAp8
import Derived.Test.YtgcfhkceejcliaaGreatDoorAp14
import Derived.Test.YtgcfhkceejcliaaGreatDoorAp6
import Derived.Test.YtgcfhkceejcliaaGreatDoorAp12
import Derived.Test.YtgcfhkceejcliaaGreatDoorAp5
import Derived.Test.YtgcfhkceejcliaaGreatDoorAp7
import Derived.Stop.Asserts
import Derived.Deep.Slices
import Derived.Lib.SmallJoins
import Derived.SizedLaws
import Derived.ProofKit
import Derived.OpenShut
namespace Go.Proofs.YtgcfhkceejcliaaGreatDoor
open Go.RowKit
set_option maxHeartbeats 4000000 in
set_option maxRecDepth 100000 in
theorem one_end4 (w:World) (t:Tk) (r:List Tk) (a:Option Addr) (n c:Nat) (h:IsToks w w.heap.size (t::r) a n c) (hk:t.k % 6=4):
    Calls Tryz.prog 41 #[.slice a n c, .int .i64 6] w (RawPost w (leafP t,1)):=by
  obtain ⟨b,o,hp,rfl,hb,htk,hbd⟩:=h.get (k:=0) (by have:=h.len;rw [this];simp)
  have ht:TkAt w b o t:=by simpa using htk
  replace hbd:t.Bnd:=by simpa using hbd
  have c0:=ht.c0;have c1:=ht.c1;have c2:=ht.c2;have c3:=ht.c3
  have b2:=hbd.m0;have b3:=hbd.m1
  have hnp:0<n:=by rw [h.len];simp
  have hne:((n:Int)==0)=false:=by simp;omega
  obtain ⟨K,hK⟩:∃K:Nat,(t.m % 4).toNat=K:=⟨_,rfl⟩
  have hK2:Int.tmod t.m 4=(K:Int):=by rw [Int.tmod_eq_emod_of_nonneg b2];omega
  have hk2:Int.tmod t.k 6=4:=by rw [Int.tmod_eq_emod_of_nonneg hbd.k0];exact hk
  have HQR:=Lib.hid (QR.start2 w t ⟨4,0, .empty,none,0,0,none,0,0⟩ 33 51 33)
  have hR:leafP t= .mk 4 0 .empty [] [] :=by rw [leafP];simp [hk]
  rw [hR]
  clear h ht htk hp hbd hK hk hR
  go_enter Tryz.func41,Tryz.ntmps41
  generalize hQ0:bodyPost _ _ _=Q0
  have HQ:=Lib.hid hQ0
  clear hQ0
  go_wp2_with fail
  go_loopw [7,9,10,11] (fun u i _ _ wr=>u= .int .i64 1∧i= .int .u8 0∧QR w wr t ⟨4,0, .empty,none,0,0,none,0,0⟩) (fun _ _ _ _ _=>0)
  case atStart=>exact ⟨rfl,rfl,(HQR.out _ rfl).1⟩
  case round=>
    obtain ⟨rfl,rfl,L⟩:=hrel
    have k0:=L.tok.at_ 0 _ rfl;have k3:=L.tok.at_ 3 _ rfl
    obtain ⟨v0,v1,v2,v3,v4⟩:=row5 L.val.at_
    obtain ⟨r0,r1,r2,r3,r4⟩:=row5 L.res.at_
    have g0:=L.res.fr 0;have g1:=L.res.fr 1;have g2:=L.res.fr 2;have g3:=L.res.fr 3;have g4:=L.res.fr 4
    have zs2:=L.val.lt;have zs1:=L.tok.lt;have zs0:=L.res.lt
    have LB:=Lib.hid L
    clear L
    by_cases hK0:0<K
    all_goals
      go_wp2_with fail
      have ST:=LB.out.stored ⟨4,0, .empty,none,0,0,none,0,0⟩
      rw [←HQ.out]
      exact one_leave (c:=⟨4,0, .empty,none,0,0,none,0,0⟩) ST.1 ST.2.1 (isVal_leaf _ _ 4 0 .empty (by omega) (by omega) (by omega) (by omega) (by decide)) rfl rfl rfl
set_option maxHeartbeats 4000000 in
set_option maxRecDepth 100000 in
theorem one_end5 (w:World) (t:Tk) (r:List Tk) (a:Option Addr) (n c:Nat) (h:IsToks w w.heap.size (t::r) a n c) (hk:t.k % 6=5):
    Calls Tryz.prog 41 #[.slice a n c, .int .i64 6] w (RawPost w (leafP t,1)):=by
  obtain ⟨b,o,hp,rfl,hb,htk,hbd⟩:=h.get (k:=0) (by have:=h.len;rw [this];simp)
  have ht:TkAt w b o t:=by simpa using htk
  replace hbd:t.Bnd:=by simpa using hbd
  have c0:=ht.c0;have c1:=ht.c1;have c2:=ht.c2;have c3:=ht.c3
  have b2:=hbd.m0;have b3:=hbd.m1
  have hnp:0<n:=by rw [h.len];simp
  have hne:((n:Int)==0)=false:=by simp;omega
  obtain ⟨K,hK⟩:∃K:Nat,(t.m % 4).toNat=K:=⟨_,rfl⟩
  have hK2:Int.tmod t.m 4=(K:Int):=by rw [Int.tmod_eq_emod_of_nonneg b2];omega
  have hk2:Int.tmod t.k 6=5:=by rw [Int.tmod_eq_emod_of_nonneg hbd.k0];exact hk
  have HQR:=Lib.hid (QR.start2 w t ⟨5,0, .empty,none,0,0,none,0,0⟩ 33 51 33)
  have hR:leafP t= .mk 5 0 .empty [] [] :=by rw [leafP];simp [hk]
  rw [hR]
  clear h ht htk hp hbd hK hk hR
  go_enter Tryz.func41,Tryz.ntmps41
  generalize hQ0:bodyPost _ _ _=Q0
  have HQ:=Lib.hid hQ0
  clear hQ0
  go_wp2_with fail
  go_loopw [7,13,14,15,16] (fun u i _ _ _ wr=>u= .int .i64 1∧i= .int .u8 0∧QR w wr t ⟨5,0, .empty,none,0,0,none,0,0⟩) (fun _ _ _ _ _ _=>0)
  case atStart=>exact ⟨rfl,rfl,(HQR.out _ rfl).1⟩
  case round=>
    obtain ⟨rfl,rfl,L⟩:=hrel
    have k0:=L.tok.at_ 0 _ rfl;have k3:=L.tok.at_ 3 _ rfl
    obtain ⟨v0,v1,v2,v3,v4⟩:=row5 L.val.at_
    obtain ⟨r0,r1,r2,r3,r4⟩:=row5 L.res.at_
    have g0:=L.res.fr 0;have g1:=L.res.fr 1;have g2:=L.res.fr 2;have g3:=L.res.fr 3;have g4:=L.res.fr 4
    have zs2:=L.val.lt;have zs1:=L.tok.lt;have zs0:=L.res.lt
    have LB:=Lib.hid L
    clear L
    by_cases hK0:0<K
    all_goals
      go_wp2_with fail
      have ST:=LB.out.stored ⟨5,0, .empty,none,0,0,none,0,0⟩
      rw [←HQ.out]
      exact one_leave (c:=⟨5,0, .empty,none,0,0,none,0,0⟩) ST.1 ST.2.1 (isVal_leaf _ _ 5 0 .empty (by omega) (by omega) (by omega) (by omega) (by decide)) rfl rfl rfl
theorem kinds6 (k:Int):k % 6=0∨k % 6=1∨k % 6=2∨k % 6=3∨k % 6=4∨k % 6=5:=by omega
theorem one_low (w:World) (dd:Int) (t:Tk) (r:List Tk) (a:Option Addr) (n c:Nat) (h:IsToks w w.heap.size (t::r) a n c) (h4:¬t.k % 6=4) (h5:¬t.k % 6=5):
    Calls Tryz.prog 41 #[.slice a n c, .int .i64 dd] w (RawPost w (leafP t,1)):=by
  rcases kinds6 t.k with hk|hk|hk|hk|hk|hk
  · exact one_0 w dd t r a n c h hk
  · exact one_1 w dd t r a n c h hk
  · exact one_2 w dd t r a n c h hk
  · exact one_3 w dd t r a n c h hk
  · exact absurd hk h4
  · exact absurd hk h5
theorem one_any (d:Nat):∀(dd:Int),0≤dd→dd+d=6→∀(w:World) (l:List Tk) (a:Option Addr) (n c:Nat),IsToks w w.heap.size l a n c→
    Calls Tryz.prog 41 #[.slice a n c, .int .i64 dd] w (RawPost w (oneP d l)):=by
  induction d with
  | zero=>
    intro dd _ hd w l a n c h
    cases l with
    |nil=>obtain rfl:n=0:=h.len;exact one_nil w dd a c
    | cons t r=>
      obtain rfl:dd=6:=by omega
      by_cases h4:t.k % 6=4
      · exact one_end4 w t r a n c h h4
      · by_cases h5:t.k % 6=5
        · exact one_end5 w t r a n c h h5
        · exact one_low w 6 t r a n c h h4 h5
  | succ d ih=>
    intro dd hd0 hd w l a n c h
    cases l with
    |nil=>obtain rfl:n=0:=h.len;exact one_nil w dd a c
    | cons t r=>
      have IH:=fun W l a n c h=>ih (dd+1) (by omega) (by omega) W l a n c h
      by_cases h4:t.k % 6=4
      · exact one_list w dd hd0 (by omega) d t r a n c h IH h4
      · by_cases h5:t.k % 6=5
        · exact one_obj w dd hd0 (by omega) d t r a n c h IH h5
        · rw [oneP,if_neg h4,if_neg h5];exact one_low w dd t r a n c h h4 h5
end Go.Proofs.YtgcfhkceejcliaaGreatDoor
namespace Go.Proofs.YtgcfhkceejcliaaGreatDoor
open Go.RowKit
theorem results_build {tmps:Array Value} {W:World} {b:Nat} {c:VC} (ht:tmps[2]? =some (.pointer (some ⟨b,0,none⟩))) (h:BC W b (vcells c)):
    (results Tryz.f17 tmps).run Tryz.prog W= .ok (.agg #[.int .u8 c.k, .int .i64 c.n, .string c.s, .slice c.la c.ll c.lc, .slice c.oa c.ol c.oc]) W:=by
  obtain ⟨r0,r1,r2,r3,r4⟩:=(⟨h.at_ 0 _ rfl,h.at_ 1 _ rfl,h.at_ 2 _ rfl,h.at_ 3 _ rfl,h.at_ 4 _ rfl⟩:W.cell? ⟨b,0,none⟩=some (.int .u8 c.k)∧W.cell? ⟨b,1,none⟩=some (.int .i64 c.n)∧W.cell? ⟨b,2,none⟩=some (.string c.s)∧W.cell? ⟨b,3,none⟩=some (.slice c.la c.ll c.lc)∧W.cell? ⟨b,4,none⟩=some (.slice c.oa c.ol c.oc))
  simp [results,Tryz.results17,go_sem,ht,r0,r1,r2,r3,r4]
set_option maxHeartbeats 4000000 in
set_option maxRecDepth 100000 in
theorem build_own (w:World) (l:List Tk) (a:Option Addr) (n c:Nat) (h:IsToks w w.heap.size l a n c):
    Calls Tryz.prog 17 #[.slice a n c] w fun e w'=>(∃cv:VC,e= .returned (.agg #[.int .u8 cv.k, .int .i64 cv.n, .string cv.s, .slice cv.la cv.ll cv.lc, .slice cv.oa cv.ol cv.oc])∧IsVal (only (fun b=>w.heap.size≤b) w') w'.heap.size (oneP 6 (l.take 60)).1 cv)∧Below w.heap.size w w':=by
  have hlen:=h.len
  have hcap:=h.cap
  have hmax:=h.max
  have HD:=Lib.hid (BC.start w #[.int .u8 0, .int .i64 0, .string { data:= #[] }, .slice none 0 0, .slice none 0 0] 33)
  have hal:Below w.heap.size w (w.alloc (.cells #[.int .u8 0, .int .i64 0, .string { data:= #[] }, .slice none 0 0, .slice none 0 0] 33)):=(Below.refl _ _).alloc (Nat.le_refl _) _
  have HAL:=Lib.hid hal
  obtain ⟨N,hN⟩:∃N,min n 60=N:=⟨_,rfl⟩
  have hN2:N≤n:=by omega
  have htk:l.take N=l.take 60:=by
    by_cases hq:n≤60
    · rw [List.take_of_length_le (by omega),List.take_of_length_le (by omega)]
    · rw [show N=60 by omega]
  have HI:=Lib.hid ((h.later_ hal).take N hN2)
  rw [htk] at HI
  obtain ⟨p,hp⟩:∃p,oneP 6 (l.take 60)=p:=⟨_,rfl⟩
  have HP:=Lib.hid hp
  rw [hp]
  have hcs:(n≤60∧N=n)∨(60<n∧N=60):=by omega
  clear hN hN2
  rcases hcs with ⟨hq,rfl⟩|⟨hq,rfl⟩
  all_goals
    clear h hlen hal htk hp
    go_enter Tryz.func17,Tryz.ntmps17
    generalize hQ0:bodyPost _ _ _=Q0
    have HQ:=Lib.hid hQ0
    clear hQ0
    go_wp2_with fail
    refine (one_any 6 0 (by omega) (by omega) _ _ _ _ _ HI.out).mono ?_
    rw [HP.out]
    rintro e w3 ⟨⟨cv,rfl,hI3⟩,hb3⟩
    have D:=HD.out.keep hb3 (by simp)
    obtain ⟨r0,r1,r2,r3,r4⟩:=row5 D.at_
    have g0:=D.fr 0;have g1:=D.fr 1;have g2:=D.fr 2;have g3:=D.fr 3;have g4:=D.fr 4
    have zs3:w.heap.size<w3.heap.size:=D.lt
    have HD3:=Lib.hid D
    have HI3:=Lib.hid hI3
    have HB3:=Lib.hid (HAL.out.trans (hb3.mono (by simp)))
    clear D hI3 hb3
    go_wp2_with fail
    rw [←HQ.out]
    have s1:RStep w3 (((((w3.setCell ⟨w.heap.size,0,none⟩ (.int .u8 cv.k)).setCell ⟨w.heap.size,1,none⟩ (.int .i64 cv.n)).setCell ⟨w.heap.size,2,none⟩ (.string cv.s)).setCell ⟨w.heap.size,3,none⟩ (.slice cv.la cv.ll cv.lc)).setCell ⟨w.heap.size,4,none⟩ (.slice cv.oa cv.ol cv.oc)) w.heap.size:=(((RStep.self.trans RStep.self).trans RStep.self).trans RStep.self).trans RStep.self
    have hbc:BC (((((w3.setCell ⟨w.heap.size,0,none⟩ (.int .u8 cv.k)).setCell ⟨w.heap.size,1,none⟩ (.int .i64 cv.n)).setCell ⟨w.heap.size,2,none⟩ (.string cv.s)).setCell ⟨w.heap.size,3,none⟩ (.slice cv.la cv.ll cv.lc)).setCell ⟨w.heap.size,4,none⟩ (.slice cv.oa cv.ol cv.oc)) w.heap.size (vcells cv):=((((HD3.out.set (i:=0) (x:= .int .u8 cv.k) (by simp)).set (i:=1) (x:= .int .i64 cv.n) (by simp)).set (i:=2) (x:= .string cv.s) (by simp)).set (i:=3) (x:= .slice cv.la cv.ll cv.lc) (by simp)).set (i:=4) (x:= .slice cv.oa cv.ol cv.oc) (by simp)
    have hv:=fun ob=>(isVal_far (isVal_far HI3.out s1 (by simp)) (RStep.of_below w.heap.size ((Below.refl _ _).alloc (Nat.le_refl _) ob)) (by simp)).sub (shows_step (S':=fun b=>w.heap.size≤b) fun k hk _=>⟨by simp at hk;omega,rfl⟩)
    have hB:=HB3.out.trans (s1.below (by omega))
    exact ⟨rfl,_,results_build rfl (hbc.keep ((Below.refl _ _).alloc (Nat.le_refl _) _) hbc.lt),⟨cv,rfl,hv _⟩,hB.alloc hB.size _⟩
end Go.Proofs.YtgcfhkceejcliaaGreatDoor
namespace Go.Proofs.YtgcfhkceejcliaaGreatDoor
open Go.RowKit
end Go.Proofs.YtgcfhkceejcliaaGreatDoor
namespace Go.Proofs.YtgcfhkceejcliaaGreatDoor
open Go.RowKit
theorem short_asserted (w:World):(Instr.typeAssert (.iface 114 (.agg #[])) 20 114 true).run Tryz.prog w= .ok (.tuple #[.agg #[], .bool true]) w:=by kernel_rfl
theorem short_not_nil (w:World):(binOp .eql 20 (.iface 114 (.agg #[])) .nilIface).run Tryz.prog w= .ok (.bool false) w:=by kernel_rfl
theorem catchE_idle (nb ob eb:Nat) (w:World):
    CallsD Tryz.prog 68 #[.pointer (some ⟨nb,0,none⟩), .pointer (some ⟨ob,0,none⟩), .pointer (some ⟨eb,0,none⟩)] .returning w fun e u' w'=>e= .returned (.tuple #[])∧u'= .returning∧w'=w:=by
  refine callsD_of_wpS Tryz.func68 rfl fun c₀ cs hu=> ?_
  apply wpS_seq
  apply wpS_region
  simp [wpOpsS,go_sem,recoverD,hu,Tryz.ntmps68,Exit.thenS]
  refine wpS_of_wp ?_
  go_wp2_with fail
  cases c₀
  simp_all [bodyPostS,results,Tryz.results68]
set_option maxHeartbeats 2000000 in
set_option maxRecDepth 100000 in
theorem catchE_short (nb ob eb:Nat) (w:World) (hn:BC w nb [.int .u8 0, .int .u32 0, .int .u32 0, .int .u8 0, .int .i64 0, .string { data:= #[] }, .slice none 0 0, .slice none 0 0, .slice none 0 0]) (cs0:List Value) (ho:BC w ob cs0) (hl:cs0.length=9) (x0:Value) (he:BC w eb [x0]) (h2:ob≠eb) (h3:eb≠nb):
    CallsD Tryz.prog 68 #[.pointer (some ⟨nb,0,none⟩), .pointer (some ⟨ob,0,none⟩), .pointer (some ⟨eb,0,none⟩)] (.panicking [short]) w fun e u' w'=>e= .returned (.tuple #[])∧u'= .panicking [{ v:= .iface 114 (.agg #[]),recovered:=true }] ∧w'=(((((((((((w.setCell ⟨ob,0,none⟩ (.int .u8 0)).setCell ⟨ob,1,none⟩ (.int .u32 0)).setCell ⟨ob,2,none⟩ (.int .u32 0)).setCell ⟨ob,3,none⟩ (.int .u8 0)).setCell ⟨ob,4,none⟩ (.int .i64 0)).setCell ⟨ob,5,none⟩ (.string { data:= #[] })).setCell ⟨ob,6,none⟩ (.slice none 0 0)).setCell ⟨ob,7,none⟩ (.slice none 0 0)).setCell ⟨ob,8,none⟩ (.slice none 0 0)).setCell ⟨eb,0,none⟩ (.int .u16 100)).alloc (.cells #[] 114)):=by
  refine callsD_of_wpS Tryz.func68 rfl fun c₀ cs hu=> ?_
  have hu3:c₀.mode= .panicking [{ v:= .iface 114 (.agg #[]),recovered:=false }] :=hu
  obtain ⟨ty,hty⟩:∃ty:TypeId,114=ty:=⟨_,rfl⟩
  obtain ⟨pv,hpv⟩:∃pv:Value, .agg #[] =pv:=⟨_,rfl⟩
  obtain ⟨older,hol⟩:∃older:List PanicEntry, [] =older:=⟨_,rfl⟩
  have hu2:c₀.mode= .panicking ({ v:= .iface ty pv,recovered:=false } ::older):=by rw [←hty, ←hpv, ←hol];exact hu3
  have n0:=hn.at_ 0 _ rfl
  have n1:=hn.at_ 1 _ rfl
  have n2:=hn.at_ 2 _ rfl
  have n3:=hn.at_ 3 _ rfl
  have n4:=hn.at_ 4 _ rfl
  have n5:=hn.at_ 5 _ rfl
  have n6:=hn.at_ 6 _ rfl
  have n7:=hn.at_ 7 _ rfl
  have n8:=hn.at_ 8 _ rfl
  have e0:=he.at_ 0 _ rfl
  have ef:=he.fr 0
  have o0:=ho.fr 0
  have o1:=ho.fr 1
  have o2:=ho.fr 2
  have o3:=ho.fr 3
  have o4:=ho.fr 4
  have o5:=ho.fr 5
  have o6:=ho.fr 6
  have o7:=ho.fr 7
  have o8:=ho.fr 8
  obtain ⟨z0,z1,z2,z3,z4,z5,z6,z7,z8,rfl⟩:∃z0 z1 z2 z3 z4 z5 z6 z7 z8,cs0= [z0,z1,z2,z3,z4,z5,z6,z7,z8] :=by
    match cs0,hl with
    | [z0,z1,z2,z3,z4,z5,z6,z7,z8],_=>exact ⟨z0,z1,z2,z3,z4,z5,z6,z7,z8,rfl⟩
  have q0:=ho.at_ 0 _ rfl
  have q1:=ho.at_ 1 _ rfl
  have q2:=ho.at_ 2 _ rfl
  have q3:=ho.at_ 3 _ rfl
  have q4:=ho.at_ 4 _ rfl
  have q5:=ho.at_ 5 _ rfl
  have q6:=ho.at_ 6 _ rfl
  have q7:=ho.at_ 7 _ rfl
  have q8:=ho.at_ 8 _ rfl
  have l1:=hn.lt
  have l2:=ho.lt
  have l3:=he.lt
  clear hn ho he hu hu3
  apply wpS_seq
  apply wpS_region
  simp [wpOpsS,go_sem,recoverD,hu2,Tryz.ntmps68,Exit.thenS]
  subst hty hpv hol
  have k1:=short_asserted
  have k2:=short_not_nil
  refine wpS_of_wp ?_
  go_wp2_with fail
  cases c₀
  simp_all [bodyPostS,results,Tryz.results68]
end Go.Proofs.YtgcfhkceejcliaaGreatDoor
namespace Go.Proofs.YtgcfhkceejcliaaGreatDoor
open Go.RowKit
theorem RStep.src {W W':World} {rb:Nat} (_:RStep W W' rb):W=W:=rfl
def ez:List Value:= [.int .u8 0, .int .u32 0, .int .u32 0, .int .u8 0, .int .i64 0, .string { data:= #[] }, .slice none 0 0, .slice none 0 0, .slice none 0 0]
def En.none:En:=⟨0,0,0,V.none, []⟩
theorem isEntry_none (w:World) (B:Nat):IsEntry w B En.none ezero:=
  .mk ezero V.none [] ⟨by decide,by decide,by decide,by decide,by decide,by decide⟩ (isVal_none _ _) (IsComps.nil _ _)
theorem isEntry_far {W W':World} {b base:Nat} {x:En} {c:EC} (h:IsEntry (only (fun k=>base≤k) W) W.heap.size x c) (s:RStep W W' b) (hb:b<base):IsEntry (only (fun k=>base≤k) W') W'.heap.size x c:=
  (h.sub (shows_step fun k hk hl=>⟨hk,s.block k hl (by omega)⟩)).more s.size
structure KWH (w W:World) (z cs:List Value) (x:Value):Prop where
  out:BC W w.heap.size cs
  err:BC W (w.heap.size+1) [x]
  non:BC W (w.heap.size+2) z
  below:Below w.heap.size w W
theorem KWH.start (w:World) (z:List Value) (bs:List UInt8) (a:Option Addr) (n c:Nat) (h:IsB w w.heap.size a n c bs) (t1 t2 t3 t4:TypeId) (W:World) (hW:W=(((w.alloc (.cells z.toArray t1)).alloc (.cells #[.int .u16 0] t2)).alloc (.cells z.toArray t3)).alloc (.cells #[.slice a n c, .int .i64 0] t4)):
    KWH w W z z (.int .u16 0)∧Rdr W (w.heap.size+3) bs 0∧W.heap.size=w.heap.size+4:=by
  obtain ⟨w1,hw1⟩:∃w1,w.alloc (.cells z.toArray t1)=w1:=⟨_,rfl⟩
  have s1:w1.heap.size=w.heap.size+1:=by rw [←hw1,World.size_alloc]
  have b1:Below w.heap.size w w1:=by rw [←hw1];exact (Below.refl _ _).alloc (Nat.le_refl _) _
  have c1:BC w1 w.heap.size z:=by rw [←hw1];exact BC.start w z.toArray t1
  rw [hw1] at hW
  obtain ⟨w2,hw2⟩:∃w2,w1.alloc (.cells #[.int .u16 0] t2)=w2:=⟨_,rfl⟩
  have s2:w2.heap.size=w.heap.size+2:=by rw [←hw2,World.size_alloc,s1]
  have b2:Below w1.heap.size w1 w2:=by rw [←hw2];exact (Below.refl _ _).alloc (Nat.le_refl _) _
  have c2:BC w2 (w.heap.size+1) [.int .u16 0] :=by rw [←hw2, ←s1];exact BC.start w1 #[.int .u16 0] t2
  rw [hw2] at hW
  obtain ⟨w3,hw3⟩:∃w3,w2.alloc (.cells z.toArray t3)=w3:=⟨_,rfl⟩
  have s3:w3.heap.size=w.heap.size+3:=by rw [←hw3,World.size_alloc,s2]
  have b3:Below w2.heap.size w2 w3:=by rw [←hw3];exact (Below.refl _ _).alloc (Nat.le_refl _) _
  have c3:BC w3 (w.heap.size+2) z:=by rw [←hw3, ←s2];exact BC.start w2 z.toArray t3
  rw [hw3] at hW
  subst hW
  have b4:Below w3.heap.size w3 (w3.alloc (.cells #[.slice a n c, .int .i64 0] t4)):=(Below.refl _ _).alloc (Nat.le_refl _) _
  have hB:Below w.heap.size w (w3.alloc (.cells #[.slice a n c, .int .i64 0] t4)):=((b1.trans (b2.mono (by omega))).trans (b3.mono (by omega))).trans (b4.mono (by omega))
  refine ⟨⟨((c1.keep b2 (by omega)).keep b3 (by omega)).keep b4 (by omega),(c2.keep b3 (by omega)).keep b4 (by omega),c3.keep b4 (by omega),hB⟩,⟨⟨a,n,c, ?_,(h.keep hB).more (by omega)⟩, ?_, ?_, ?_⟩,by rw [World.size_alloc,s3]⟩
  · rw [←s3];exact cells_new w3 _ t4 0 _ rfl
  · rw [←s3];exact cells_new w3 _ t4 1 _ rfl
  · rw [←s3];exact frozen_new w3 _ t4 0
  · rw [←s3];exact frozen_new w3 _ t4 1
theorem KWH.next {w W W':World} {z cs:List Value} {x:Value} (h:KWH w W z cs x) (hb:Below W.heap.size W W'):KWH w W' z cs x:=
  ⟨h.out.keep hb h.out.lt,h.err.keep hb h.err.lt,h.non.keep hb h.non.lt,h.below.trans (hb.mono (Nat.le_of_lt h.out.lt))⟩
theorem KWH.read {w W W':World} {z cs:List Value} {x:Value} (h:KWH w W z cs x) (hs:RStep W W' (w.heap.size+3)) (hz:w.heap.size+4≤W.heap.size):KWH w W' z cs x:=
  ⟨h.out.next hs (by omega),h.err.next hs (by omega),h.non.next hs (by omega),h.below.trans ((hs.below (by omega)).mono (by omega))⟩
theorem KWH.setErr {w W:World} {z cs:List Value} {x y:Value} (h:KWH w W z cs x):KWH w (W.setCell ⟨w.heap.size+1,0,none⟩ y) z cs y:=by
  have s1:RStep W (W.setCell ⟨w.heap.size+1,0,none⟩ y) (w.heap.size+1):=RStep.self
  have hlt:=h.err.lt
  exact ⟨h.out.far (by omega),h.err.set (i:=0) (x:=y) (by simp),h.non.far (by omega),h.below.trans ((s1.below (by omega)).mono (by omega))⟩
end Go.Proofs.YtgcfhkceejcliaaGreatDoor
namespace Go.Proofs.YtgcfhkceejcliaaGreatDoor
open Go.RowKit
theorem takeU324_lt {n:Nat} {bs r:List UInt8} (h:rdN 4 bs=some (n,r)):n<4294967296:=Nat.lt_of_lt_of_le (rdN_lt h) (by decide)
set_option maxHeartbeats 16000000 in
set_option maxRecDepth 100000 in
theorem rEntry_few (w:World) (rb:Nat) (bs:List UInt8) (h:Rdr w rb bs 0) {out:Option (En×List UInt8)} (hout:rdE bs=out) (hk:∀p,rdN 1 bs=some p→p.1=3):
    Calls Tryz.prog 39 #[.pointer (some ⟨rb,0,none⟩)] w (REPost w rb out):=by
  have hlt:=h.lt
  have HB:=Lib.hid ((Below.refl _ _).alloc (Nat.le_refl _) (.cells #[.int .u8 0, .int .u32 0, .int .u32 0, .int .u8 0, .int .i64 0, .string { data:= #[] }, .slice none 0 0, .slice none 0 0, .slice none 0 0] 36):Below w.heap.size w (w.alloc (.cells #[.int .u8 0, .int .u32 0, .int .u32 0, .int .u8 0, .int .i64 0, .string { data:= #[] }, .slice none 0 0, .slice none 0 0, .slice none 0 0] 36)))
  have HR0:=Lib.hid (h.of_below HB.out)
  have HC0:=Lib.hid (BC.start w #[.int .u8 0, .int .u32 0, .int .u32 0, .int .u8 0, .int .i64 0, .string { data:= #[] }, .slice none 0 0, .slice none 0 0, .slice none 0 0] 36)
  rw [rdE] at hout
  clear h
  cases hr:rdN 1 bs with
  | none=>
    obtain rfl:out=none:=by rw [←hout,hr];rfl
    clear hout
    have HN:=Lib.hid hr
    clear hr
    go_enter Tryz.func39,Tryz.ntmps39
    go_wp2_with (go_at_call 70;(with_reducible refine (takeU81_none _ rb bs 0 HR0.out HN.out).mono ?_);rintro e w1 ⟨rfl,rfl⟩)
    exact ⟨rfl, .of_below rb HB.out,rfl,bs,HR0.out⟩
  |some p=>
  obtain ⟨kd,r⟩:=p
  have hk1:kd<256:=rdN_lt hr
  have HK3:=Lib.hid (hk _ hr)
  clear hk
  rw [hr] at hout
  simp only [Option.bind_some] at hout
  have HN:=Lib.hid hr
  clear hr
  have TK:Hid (∀W,W=w.alloc (.cells #[.int .u8 0, .int .u32 0, .int .u32 0, .int .u8 0, .int .i64 0, .string { data:= #[] }, .slice none 0 0, .slice none 0 0, .slice none 0 0] 36)→Calls Tryz.prog 70 #[.pointer (some ⟨rb,0,none⟩), .int .i64 1] W fun e w'=>e= .returned (.int .u8 kd)∧Rdr w' rb r 0∧RStep w w' rb∧BC w' w.heap.size (ecells ezero)∧w.heap.size+1≤w'.heap.size):=by
    intro W hW
    subst hW
    refine (takeU81_some _ rb bs 0 HR0.out HN.out).mono fun e w' ⟨h1,h2,h3⟩=>⟨h1,h2,(RStep.of_below rb HB.out).trans h3,HC0.out.next h3 (by omega),by have:=h3.size;simp at this;omega⟩
  clear HN HR0 HC0
  cases h2:rdN 4 r with
  | none=>
    obtain rfl:out=none:=by rw [←hout,h2];rfl
    have HM:=Lib.hid h2
    clear hout h2
    go_enter Tryz.func39,Tryz.ntmps39
    go_wp2_with (first|(go_at_call 70;(with_reducible refine (TK.out _ rfl).mono ?_);rintro e w1 ⟨rfl,hR,hS,hC,hz⟩;have zs0:w.heap.size<w1.heap.size:=(by omega);have A1:=hC.keep ((Below.refl _ _).alloc (Nat.le_refl _) (.cells #[.int .u8 kd, .int .u32 0, .int .u32 0, .int .u8 0, .int .i64 0, .string { data:= #[] }, .slice none 0 0, .slice none 0 0, .slice none 0 0] 36)) (by omega);have A2:=BC.start w1 #[.int .u8 kd, .int .u32 0, .int .u32 0, .int .u8 0, .int .i64 0, .string { data:= #[] }, .slice none 0 0, .slice none 0 0, .slice none 0 0] 36;have A3:=hR.of_below ((Below.refl _ _).alloc (Nat.le_refl _) (.cells #[.int .u8 kd, .int .u32 0, .int .u32 0, .int .u8 0, .int .i64 0, .string { data:= #[] }, .slice none 0 0, .slice none 0 0, .slice none 0 0] 36));have A4:=hS.trans (.of_below rb ((Below.refl _ _).alloc (Nat.le_refl _) (.cells #[.int .u8 kd, .int .u32 0, .int .u32 0, .int .u8 0, .int .i64 0, .string { data:= #[] }, .slice none 0 0, .slice none 0 0, .slice none 0 0] 36))))|(go_at_call 71;(with_reducible refine (takeU324_none _ rb r 0 A3 HM.out).mono ?_);rintro e w2 ⟨rfl,rfl⟩))
    exact ⟨rfl,A4,rfl,r,A3⟩
  |some ps=>
  obtain ⟨sr,r2⟩:=ps
  have hs1:=takeU324_lt h2
  rw [h2] at hout
  simp only [Option.bind_some] at hout
  have HM:=Lib.hid h2
  clear h2
  cases h3:rdN 4 r2 with
  | none=>
    obtain rfl:out=none:=by rw [←hout,h3];rfl
    have HM3:=Lib.hid h3
    clear hout h3
    go_enter Tryz.func39,Tryz.ntmps39
    go_wp2_with (first|(go_at_call 70;(with_reducible refine (TK.out _ rfl).mono ?_);rintro e w1 ⟨rfl,hR,hS,hC,hz⟩;have zs0:w.heap.size<w1.heap.size:=(by omega);have A1:=hC.keep ((Below.refl _ _).alloc (Nat.le_refl _) (.cells #[.int .u8 kd, .int .u32 0, .int .u32 0, .int .u8 0, .int .i64 0, .string { data:= #[] }, .slice none 0 0, .slice none 0 0, .slice none 0 0] 36)) (by omega);have A2:=BC.start w1 #[.int .u8 kd, .int .u32 0, .int .u32 0, .int .u8 0, .int .i64 0, .string { data:= #[] }, .slice none 0 0, .slice none 0 0, .slice none 0 0] 36;have A3:=hR.of_below ((Below.refl _ _).alloc (Nat.le_refl _) (.cells #[.int .u8 kd, .int .u32 0, .int .u32 0, .int .u8 0, .int .i64 0, .string { data:= #[] }, .slice none 0 0, .slice none 0 0, .slice none 0 0] 36));have A4:=hS.trans (.of_below rb ((Below.refl _ _).alloc (Nat.le_refl _) (.cells #[.int .u8 kd, .int .u32 0, .int .u32 0, .int .u8 0, .int .i64 0, .string { data:= #[] }, .slice none 0 0, .slice none 0 0, .slice none 0 0] 36))))|(go_at_call 71;(with_reducible refine (takeU324_some _ rb r 0 A3 HM.out).mono ?_);rintro e w2 ⟨rfl,hR2,hS2⟩;have C2:=A2.next hS2 (by omega);have y1:=C2.at_ 1 _ rfl;have p1:=C2.fr 1)|(go_at_call 71;(with_reducible refine (takeU324_none _ rb r2 0 (hR2.setNew (by omega)) HM3.out).mono ?_);rintro e w3 ⟨rfl,rfl⟩))
    exact ⟨rfl,(A4.trans hS2).setNew (by omega),rfl,r2,hR2.setNew (by omega)⟩
  |some pq=>
  obtain ⟨sq,r3⟩:=pq
  have hq1:=takeU324_lt h3
  rw [h3] at hout
  simp only [Option.bind_some] at hout
  have HM3:=Lib.hid h3
  have HO:=Lib.hid hout
  clear h3 hout
  have bnd:∀(v:VC) (a:Option Addr) (m c:Nat),(⟨kd,sr,sq,v,a,m,c⟩:EC).Bnd:=fun v a m c=>⟨by show (0:Int)≤(kd:Int);omega,by show (kd:Int)<256;omega,by show (0:Int)≤(sr:Int);omega,by show (sr:Int)<4294967296;omega,by show (0:Int)≤(sq:Int);omega,by show (sq:Int)<4294967296;omega⟩
  have hk3:kd=3:=HK3.out
  have e1:¬kd=1:=by omega
  have e2:¬kd=2:=by omega
  have f1:((kd:Int)==1)=false:=by simp;omega
  have f2:((kd:Int)==2)=false:=by simp;omega
  obtain rfl:out=some (⟨kd,sr,sq,V.none, []⟩,r3):=by have:=HO.out;rw [if_neg e1,if_neg e2] at this;exact this.symm
  clear e1 e2 hk3 HO
  go_enter Tryz.func39,Tryz.ntmps39
  go_wp2_with (first|(go_at_call 70;(with_reducible refine (TK.out _ rfl).mono ?_);rintro e w1 ⟨rfl,hR,hS,hC,hz⟩;have zs0:w.heap.size<w1.heap.size:=(by omega);have A1:=hC.keep ((Below.refl _ _).alloc (Nat.le_refl _) (.cells #[.int .u8 kd, .int .u32 0, .int .u32 0, .int .u8 0, .int .i64 0, .string { data:= #[] }, .slice none 0 0, .slice none 0 0, .slice none 0 0] 36)) (by omega);have A2:=BC.start w1 #[.int .u8 kd, .int .u32 0, .int .u32 0, .int .u8 0, .int .i64 0, .string { data:= #[] }, .slice none 0 0, .slice none 0 0, .slice none 0 0] 36;have A3:=hR.of_below ((Below.refl _ _).alloc (Nat.le_refl _) (.cells #[.int .u8 kd, .int .u32 0, .int .u32 0, .int .u8 0, .int .i64 0, .string { data:= #[] }, .slice none 0 0, .slice none 0 0, .slice none 0 0] 36));have A4:=hS.trans (.of_below rb ((Below.refl _ _).alloc (Nat.le_refl _) (.cells #[.int .u8 kd, .int .u32 0, .int .u32 0, .int .u8 0, .int .i64 0, .string { data:= #[] }, .slice none 0 0, .slice none 0 0, .slice none 0 0] 36))))|(go_at_call 71;(with_reducible refine (takeU324_some _ rb r 0 A3 HM.out).mono ?_);rintro e w2 ⟨rfl,hR2,hS2⟩;have C2:=A2.next hS2 (by omega);have y1:=C2.at_ 1 _ rfl;have p1:=C2.fr 1;have D2:=A1.next hS2 (by omega))|(go_at_call 71;(with_reducible refine (takeU324_some _ rb r2 0 (hR2.setNew (by omega)) HM3.out).mono ?_);rintro e w3 ⟨rfl,hR3,hS3⟩;have C3:=(C2.set (i:=1) (x:= .int .u32 sr) (by simp)).next hS3 (by omega);have y2:=C3.at_ 2 _ rfl;have p2:=C3.fr 2;have y0:=C3.at_ 0 _ rfl;have hS3':=((A4.trans hS2).setNew (b:=w1.heap.size) (o:=1) (x:= .int .u32 sr) (by omega)).trans hS3;have D3:=(D2.far (b':=w1.heap.size) (o:=1) (x:= .int .u32 sr) (by omega)).next hS3 (by omega);have B:EB w (w3.setCell ⟨w1.heap.size,2,none⟩ (.int .u32 sq)) rb w1.heap.size r3 V.none [] ⟨kd,sr,sq,vzero,none,0,0⟩:=⟨hR3.setNew (by omega),hS3'.setNew (by omega),D3.far (by omega),C3.set (i:=2) (x:= .int .u32 sq) (by simp),isVal_none _ _, .nil _ _,hz,hlt⟩;have y1:=C3.at_ 1 _ rfl;have y3:=C3.at_ 3 _ rfl;have y4:=C3.at_ 4 _ rfl;have y5:=C3.at_ 5 _ rfl;have y6:=C3.at_ 6 _ rfl;have y7:=C3.at_ 7 _ rfl;have y8:=C3.at_ 8 _ rfl;have r0:=D3.at_ 0 _ rfl;have gr0:=D3.fr 0;have r1:=D3.at_ 1 _ rfl;have gr1:=D3.fr 1;have r2:=D3.at_ 2 _ rfl;have gr2:=D3.fr 2;have r3:=D3.at_ 3 _ rfl;have gr3:=D3.fr 3;have r4:=D3.at_ 4 _ rfl;have gr4:=D3.fr 4;have r5:=D3.at_ 5 _ rfl;have gr5:=D3.fr 5;have r6:=D3.at_ 6 _ rfl;have gr6:=D3.fr 6;have r7:=D3.at_ 7 _ rfl;have gr7:=D3.fr 7;have r8:=D3.at_ 8 _ rfl;have gr8:=D3.fr 8;have hcl:=C3.lt))
  exact B.leave (bnd _ _ _ _) rfl rfl rfl
end Go.Proofs.YtgcfhkceejcliaaGreatDoor
namespace Go.Proofs.YtgcfhkceejcliaaGreatDoor
open Go.RowKit
theorem re_none (w:World) (rb:Nat) (bs:List UInt8) (h:Rdr w rb bs 0) (hr:rdE bs=none) (hk3:∀p,rdN 1 bs=some p→p.1=3):
    Calls Tryz.prog 39 #[.pointer (some ⟨rb,0,none⟩)] w fun e w'=>e= .panicked [short] ∧RStep w w' rb∧∃bs',Rdr w' rb bs' 0:=
  (rEntry_few w rb bs h hr hk3).mono fun _ _ ⟨h1,h2,h3⟩=>⟨h2,h1,h3⟩
theorem re_some (w:World) (rb:Nat) (bs:List UInt8) (h:Rdr w rb bs 0) {x:En} {r:List UInt8} (hr:rdE bs=some (x,r)) (hk3:∀p,rdN 1 bs=some p→p.1=3):
    Calls Tryz.prog 39 #[.pointer (some ⟨rb,0,none⟩)] w fun e w'=>∃c:EC,e= .returned (.agg #[.int .u8 c.k, .int .u32 c.src, .int .u32 c.seq, .int .u8 c.v.k, .int .i64 c.v.n, .string c.v.s, .slice c.v.la c.v.ll c.v.lc, .slice c.v.oa c.v.ol c.v.oc, .slice c.oa c.ol c.oc])∧RStep w w' rb∧IsEntry (only (fun b=>w.heap.size≤b) w') w'.heap.size x c∧Rdr w' rb r 0:=
  (rEntry_few w rb bs h hr hk3).mono fun _ _ ⟨h1,⟨c,h2,h3⟩,h4⟩=>⟨c,h2,h1,h3,h4⟩
theorem encode_e (sd:Bool) (w:World) (c:EC) (x:En) (hx:IsEntry w w.heap.size x c) (HS:Hid (∀W,Below w.heap.size w W→Calls Tryz.prog 10 #[.agg #[.int .u8 c.k, .int .u32 c.src, .int .u32 c.seq, .int .u8 c.v.k, .int .i64 c.v.n, .string c.v.s, .slice c.v.la c.v.ll c.v.lc, .slice c.v.oa c.v.ol c.v.oc, .slice c.oa c.ol c.oc]] W fun e w'=>e= .returned (.bool sd)∧Below W.heap.size W w')) (hsz:(encE x).length≤70368744177664):
    Calls Tryz.prog 8 #[.agg #[.int .u8 c.k, .int .u32 c.src, .int .u32 c.seq, .int .u8 c.v.k, .int .i64 c.v.n, .string c.v.s, .slice c.v.la c.v.ll c.v.lc, .slice c.v.oa c.v.ol c.v.oc, .slice c.oa c.ol c.oc]] w fun e w'=>(∃a n cc,e= .returned (.tuple #[.slice a n cc, .int .u16 (outN sd (encE x))])∧IsB w' w'.heap.size a n cc (outB sd (encE x)))∧Below w.heap.size w w':=by
  cases hx with
  | mk c v l hb hv ho=>
    obtain ⟨k,src,seq,⟨vk,vn,vs,vla,vll,vlc,voa,vol,voc⟩,oa,ol,oc⟩:=c
    exact encode_of sd w k src seq vk vn vs vla vll vlc voa vol voc oa ol oc v l hb.k0 hb.k1 hv ho HS (fun _=>hsz)
theorem results_wholeE {tmps:Array Value} {W:World} {b b':Nat} {c:EC} {x:Value} (ht:tmps[6]? =some (.pointer (some ⟨b,0,none⟩))) (ht':tmps[7]? =some (.pointer (some ⟨b',0,none⟩))) (h:BC W b [.int .u8 c.k, .int .u32 c.src, .int .u32 c.seq, .int .u8 c.v.k, .int .i64 c.v.n, .string c.v.s, .slice c.v.la c.v.ll c.v.lc, .slice c.v.oa c.v.ol c.v.oc, .slice c.oa c.ol c.oc]) (h':BC W b' [x]):
    (results Tryz.f38 tmps).run Tryz.prog W= .ok (.tuple #[.agg #[.int .u8 c.k, .int .u32 c.src, .int .u32 c.seq, .int .u8 c.v.k, .int .i64 c.v.n, .string c.v.s, .slice c.v.la c.v.ll c.v.lc, .slice c.v.oa c.v.ol c.v.oc, .slice c.oa c.ol c.oc],x]) W:=by
  obtain ⟨r0,r1,r2,r3,r4,r5,r6,r7,r8⟩:=row9 h.at_
  have s0:=h'.at_ 0 _ rfl
  simp [results,Tryz.results38,go_sem,ht,ht',s0,r0,r1,r2,r3,r4,r5,r6,r7,r8]
def WEPost (w:World) (r:En×Int) (e:Ending) (w':World):Prop:=
  (∃c:EC,e= .returned (.tuple #[.agg #[.int .u8 c.k, .int .u32 c.src, .int .u32 c.seq, .int .u8 c.v.k, .int .i64 c.v.n, .string c.v.s, .slice c.v.la c.v.ll c.v.lc, .slice c.v.oa c.v.ol c.v.oc, .slice c.oa c.ol c.oc], .int .u16 r.2])∧IsEntry (only (fun b=>w.heap.size≤b) w') w'.heap.size r.1 c)∧Below w.heap.size w w'
theorem wdoorE_short {tmps:Array Value} {w W:World} {cs:List Value} {x:Value} (H:KWH w W ez cs x) (hl:cs.length=9) (ht:tmps[6]? =some (.pointer (some ⟨w.heap.size,0,none⟩))) (ht':tmps[7]? =some (.pointer (some ⟨w.heap.size+1,0,none⟩))):
    Leaves Tryz.prog Tryz.f38 tmps (WEPost w (En.none,100)) [{ target:= .fn (.func 68) #[.pointer (some ⟨w.heap.size+1+1,0,none⟩), .pointer (some ⟨w.heap.size,0,none⟩), .pointer (some ⟨w.heap.size+1,0,none⟩)],args:= #[] }] (.panicking [short]) W:=by
  refine leaves_cons (f:=68) (args:= #[.pointer (some ⟨w.heap.size+1+1,0,none⟩), .pointer (some ⟨w.heap.size,0,none⟩), .pointer (some ⟨w.heap.size+1,0,none⟩)]) (by simp) (by simp [go_sem]) ?_
  refine (catchE_short (w.heap.size+2) w.heap.size (w.heap.size+1) W H.non cs H.out hl x H.err (by omega) (by omega)).mono ?_
  rintro e u' w'' ⟨rfl,rfl,hw⟩
  show Leaves _ _ _ _ [] .returning w''
  obtain ⟨W1,hW1⟩:∃W1,(((((((((W.setCell ⟨w.heap.size,0,none⟩ (.int .u8 0)).setCell ⟨w.heap.size,1,none⟩ (.int .u32 0)).setCell ⟨w.heap.size,2,none⟩ (.int .u32 0)).setCell ⟨w.heap.size,3,none⟩ (.int .u8 0)).setCell ⟨w.heap.size,4,none⟩ (.int .i64 0)).setCell ⟨w.heap.size,5,none⟩ (.string { data:= #[] })).setCell ⟨w.heap.size,6,none⟩ (.slice none 0 0)).setCell ⟨w.heap.size,7,none⟩ (.slice none 0 0)).setCell ⟨w.heap.size,8,none⟩ (.slice none 0 0))=W1:=⟨_,rfl⟩
  have c1:BC W1 w.heap.size ez:=by
    rw [←hW1]
    match cs,hl,H.out with
    | [z0,z1,z2,z3,z4,z5,z6,z7,z8],_,ho=>exact (((((((((ho.set (i:=0) (x:= .int .u8 0) (by simp)).set (i:=1) (x:= .int .u32 0) (by simp)).set (i:=2) (x:= .int .u32 0) (by simp)).set (i:=3) (x:= .int .u8 0) (by simp)).set (i:=4) (x:= .int .i64 0) (by simp)).set (i:=5) (x:= .string { data:= #[] }) (by simp)).set (i:=6) (x:= .slice none 0 0) (by simp)).set (i:=7) (x:= .slice none 0 0) (by simp)).set (i:=8) (x:= .slice none 0 0) (by simp))
  have e1:BC W1 (w.heap.size+1) [x] :=by
    rw [←hW1]
    exact (((((((((H.err.far (by omega)).far (by omega)).far (by omega)).far (by omega)).far (by omega)).far (by omega)).far (by omega)).far (by omega)).far (by omega))
  have s1:RStep W W1 w.heap.size:=by rw [←hW1];exact (((((((RStep.self.trans RStep.self).trans RStep.self).trans RStep.self).trans RStep.self).trans RStep.self).trans RStep.self).trans RStep.self).trans RStep.self
  rw [hW1] at hw
  have c2:BC (W1.setCell ⟨w.heap.size+1,0,none⟩ (.int .u16 100)) w.heap.size ez:=c1.far (by omega)
  have e2:BC (W1.setCell ⟨w.heap.size+1,0,none⟩ (.int .u16 100)) (w.heap.size+1) [.int .u16 100] :=e1.set (i:=0) (x:= .int .u16 100) (by simp)
  have hb:Below (W1.setCell ⟨w.heap.size+1,0,none⟩ (.int .u16 100)).heap.size (W1.setCell ⟨w.heap.size+1,0,none⟩ (.int .u16 100)) w'':=by rw [hw];exact (Below.refl _ _).alloc (Nat.le_refl _) _
  have s2:RStep W1 (W1.setCell ⟨w.heap.size+1,0,none⟩ (.int .u16 100)) (w.heap.size+1):=RStep.self
  have hlt:=H.out.lt
  have hB:Below w.heap.size w w'':=by
    have b1:Below w.heap.size W W1:=s1.below (by omega)
    have b2:Below w.heap.size W1 (W1.setCell ⟨w.heap.size+1,0,none⟩ (.int .u16 100)):=(s2.below (by have:=s1.size;have:=H.err.lt;omega)).mono (by omega)
    have z1:=s1.size
    have z2:=s2.size
    exact ((H.below.trans b1).trans b2).trans (hb.mono (by omega))
  exact ⟨_,results_wholeE (c:=ezero) ht ht' (c2.keep hb c2.lt) (e2.keep hb e2.lt),⟨ezero,rfl,isEntry_none _ _⟩,hB⟩
theorem wdoorE_idle {tmps:Array Value} {w W:World} {c:EC} {v:En} {x:Int} (H:KWH w W ez [.int .u8 c.k, .int .u32 c.src, .int .u32 c.seq, .int .u8 c.v.k, .int .i64 c.v.n, .string c.v.s, .slice c.v.la c.v.ll c.v.lc, .slice c.v.oa c.v.ol c.v.oc, .slice c.oa c.ol c.oc] (.int .u16 x)) (hv:IsEntry (only (fun b=>w.heap.size≤b) W) W.heap.size v c) (ht:tmps[6]? =some (.pointer (some ⟨w.heap.size,0,none⟩))) (ht':tmps[7]? =some (.pointer (some ⟨w.heap.size+1,0,none⟩))):
    Leaves Tryz.prog Tryz.f38 tmps (WEPost w (v,x)) [{ target:= .fn (.func 68) #[.pointer (some ⟨w.heap.size+1+1,0,none⟩), .pointer (some ⟨w.heap.size,0,none⟩), .pointer (some ⟨w.heap.size+1,0,none⟩)],args:= #[] }] .returning W:=by
  refine leaves_cons (f:=68) (args:= #[.pointer (some ⟨w.heap.size+1+1,0,none⟩), .pointer (some ⟨w.heap.size,0,none⟩), .pointer (some ⟨w.heap.size+1,0,none⟩)]) (by simp) (by simp [go_sem]) ?_
  refine (catchE_idle (w.heap.size+2) w.heap.size (w.heap.size+1) W).mono ?_
  rintro e u' w'' ⟨rfl,rfl,rfl⟩
  exact ⟨_,results_wholeE ht ht' H.out H.err,⟨c,rfl,hv⟩,H.below⟩
theorem KWH.storeE {w W:World} {z0 z1 z2 z3 z4 z5 z6 z7 z8 x:Value} (h:KWH w W ez [z0,z1,z2,z3,z4,z5,z6,z7,z8] x) (c:EC):KWH w ((((((((((W.setCell ⟨w.heap.size,0,none⟩ (.int .u8 c.k)).setCell ⟨w.heap.size,1,none⟩ (.int .u32 c.src)).setCell ⟨w.heap.size,2,none⟩ (.int .u32 c.seq)).setCell ⟨w.heap.size,3,none⟩ (.int .u8 c.v.k)).setCell ⟨w.heap.size,4,none⟩ (.int .i64 c.v.n)).setCell ⟨w.heap.size,5,none⟩ (.string c.v.s)).setCell ⟨w.heap.size,6,none⟩ (.slice c.v.la c.v.ll c.v.lc)).setCell ⟨w.heap.size,7,none⟩ (.slice c.v.oa c.v.ol c.v.oc)).setCell ⟨w.heap.size,8,none⟩ (.slice c.oa c.ol c.oc))) ez [.int .u8 c.k, .int .u32 c.src, .int .u32 c.seq, .int .u8 c.v.k, .int .i64 c.v.n, .string c.v.s, .slice c.v.la c.v.ll c.v.lc, .slice c.v.oa c.v.ol c.v.oc, .slice c.oa c.ol c.oc] x∧RStep W ((((((((((W.setCell ⟨w.heap.size,0,none⟩ (.int .u8 c.k)).setCell ⟨w.heap.size,1,none⟩ (.int .u32 c.src)).setCell ⟨w.heap.size,2,none⟩ (.int .u32 c.seq)).setCell ⟨w.heap.size,3,none⟩ (.int .u8 c.v.k)).setCell ⟨w.heap.size,4,none⟩ (.int .i64 c.v.n)).setCell ⟨w.heap.size,5,none⟩ (.string c.v.s)).setCell ⟨w.heap.size,6,none⟩ (.slice c.v.la c.v.ll c.v.lc)).setCell ⟨w.heap.size,7,none⟩ (.slice c.v.oa c.v.ol c.v.oc)).setCell ⟨w.heap.size,8,none⟩ (.slice c.oa c.ol c.oc))) w.heap.size:=by
  have s1:RStep W ((((((((((W.setCell ⟨w.heap.size,0,none⟩ (.int .u8 c.k)).setCell ⟨w.heap.size,1,none⟩ (.int .u32 c.src)).setCell ⟨w.heap.size,2,none⟩ (.int .u32 c.seq)).setCell ⟨w.heap.size,3,none⟩ (.int .u8 c.v.k)).setCell ⟨w.heap.size,4,none⟩ (.int .i64 c.v.n)).setCell ⟨w.heap.size,5,none⟩ (.string c.v.s)).setCell ⟨w.heap.size,6,none⟩ (.slice c.v.la c.v.ll c.v.lc)).setCell ⟨w.heap.size,7,none⟩ (.slice c.v.oa c.v.ol c.v.oc)).setCell ⟨w.heap.size,8,none⟩ (.slice c.oa c.ol c.oc))) w.heap.size:=(((((((RStep.self.trans RStep.self).trans RStep.self).trans RStep.self).trans RStep.self).trans RStep.self).trans RStep.self).trans RStep.self).trans RStep.self
  have hlt:=h.out.lt
  exact ⟨⟨(((((((((h.out.set (i:=0) (x:= .int .u8 c.k) (by simp)).set (i:=1) (x:= .int .u32 c.src) (by simp)).set (i:=2) (x:= .int .u32 c.seq) (by simp)).set (i:=3) (x:= .int .u8 c.v.k) (by simp)).set (i:=4) (x:= .int .i64 c.v.n) (by simp)).set (i:=5) (x:= .string c.v.s) (by simp)).set (i:=6) (x:= .slice c.v.la c.v.ll c.v.lc) (by simp)).set (i:=7) (x:= .slice c.v.oa c.v.ol c.v.oc) (by simp)).set (i:=8) (x:= .slice c.oa c.ol c.oc) (by simp)),h.err.next s1 (by omega),h.non.next s1 (by omega),h.below.trans (s1.below (by omega))⟩,s1⟩
set_option maxHeartbeats 4000000 in
set_option maxRecDepth 100000 in
theorem wholeE_none (w:World) (a:Option Addr) (n c:Nat) (bs:List UInt8) (h:IsB w w.heap.size a n c bs) (hn:bs.length≤60000) (hr:rdE bs=none) (hk3:∀p,rdN 1 bs=some p→p.1=3):
    Calls Tryz.prog 38 #[.slice a n c, .func (.func 39) #[] #[], .func (.func 8) #[] #[]] w (WEPost w (En.none,100)):=by
  have hmf:∀(fn:Fn) (first cap:Array Value) (w:World),(Instr.makeFunc fn first cap).run Tryz.prog w= .ok (.func fn first cap) w:=fun _ _ _ _=>rfl
  have HS:=Lib.hid (KWH.start w ez bs a n c h)
  have hnn:=h.len
  have hn2:¬60000<n:=by omega
  clear h hnn hn
  go_enter_defers Tryz.func38,Tryz.ntmps38
  go_wp2_with (go_at_call 39;refine (re_none _ (w.heap.size+3) bs (HS.out _ _ _ _ _ rfl).2.1 hr hk3).mono ?_;rintro e w4 ⟨rfl,hS4,hR4⟩)
  have HH:=HS.out _ _ _ _ _ hS4.src
  exact wdoorE_short (HH.1.read hS4 (by omega)) rfl rfl rfl
set_option maxHeartbeats 8000000 in
set_option maxRecDepth 100000 in
theorem wholeE_eq (w:World) (a:Option Addr) (n c:Nat) (bs:List UInt8) (h:IsB w w.heap.size a n c bs) (hn:bs.length≤60000) {v:En} {r:List UInt8} (hr:rdE bs=some (v,r)) (hk3:∀p,rdN 1 bs=some p→p.1=3) (hsz:(encE v).length≤70368744177664) (sd:Bool)
    (HLV:Hid (∀W5,Below w.heap.size w W5→∀cv:EC,IsEntry W5 W5.heap.size v cv→Hid (∀W,Below W5.heap.size W5 W→Calls Tryz.prog 10 #[.agg #[.int .u8 cv.k, .int .u32 cv.src, .int .u32 cv.seq, .int .u8 cv.v.k, .int .i64 cv.v.n, .string cv.v.s, .slice cv.v.la cv.v.ll cv.v.lc, .slice cv.v.oa cv.v.ol cv.v.oc, .slice cv.oa cv.ol cv.oc]] W fun e w'=>e= .returned (.bool sd)∧Below W.heap.size W w'))) (hok:outN sd (encE v)=0) (heq:eqBs (outB sd (encE v)) bs=true):
    Calls Tryz.prog 38 #[.slice a n c, .func (.func 39) #[] #[], .func (.func 8) #[] #[]] w (WEPost w (v,0)):=by
  have hmf:∀(fn:Fn) (first cap:Array Value) (w:World),(Instr.makeFunc fn first cap).run Tryz.prog w= .ok (.func fn first cap) w:=fun _ _ _ _=>rfl
  have HS:=Lib.hid (KWH.start w ez bs a n c h)
  have HI:=Lib.hid h
  have hnn:=h.len
  have hn2:¬60000<n:=by omega
  obtain ⟨en,hen⟩:∃en,encE v=en:=⟨_,rfl⟩
  rw [hen] at hok heq
  have HEN:=Lib.hid hen
  have HN:=Lib.hid hok
  have HE:=Lib.hid heq
  clear h hnn hn hen hok heq
  go_enter_defers Tryz.func38,Tryz.ntmps38
  go_wp2_with (first|(go_at_call 39;refine (re_some _ (w.heap.size+3) bs (HS.out _ _ _ _ _ rfl).2.1 hr hk3).mono ?_;rintro e w4 ⟨cv,rfl,hS4,hI4,hR4⟩;have HH:=HS.out _ _ _ _ _ hS4.src;have H4:=HH.1.read hS4 (by omega);have O:=H4.out;have o0:=O.at_ 0 _ rfl;have g0:=O.fr 0;have o1:=O.at_ 1 _ rfl;have g1:=O.fr 1;have o2:=O.at_ 2 _ rfl;have g2:=O.fr 2;have o3:=O.at_ 3 _ rfl;have g3:=O.fr 3;have o4:=O.at_ 4 _ rfl;have g4:=O.fr 4;have o5:=O.at_ 5 _ rfl;have g5:=O.fr 5;have o6:=O.at_ 6 _ rfl;have g6:=O.fr 6;have o7:=O.at_ 7 _ rfl;have g7:=O.fr 7;have o8:=O.at_ 8 _ rfl;have g8:=O.fr 8;have H5:=H4.storeE cv;have hV5:=(isEntry_far (hI4.sub (shows_step (S':=fun b=>w.heap.size+4≤b) fun k hk _=>⟨by have:=HH.2.2;omega,rfl⟩)) H5.2 (by omega));have HVF:=Lib.hid hV5;have HV5:=Lib.hid (hV5.sub (shows_only _ _ _));have HH5:=Lib.hid H5.1;clear hI4 hV5 H5 H4 HH O)|(go_at_call 8;refine (encode_e sd _ cv v HV5.out (HLV.out _ HH5.out.below cv HV5.out) hsz).mono ?_;rw [HEN.out];rintro e w6 ⟨⟨ra,rn,rc,rfl,hI6⟩,hb6⟩;rw [HN.out];have H6:=HH5.out.next hb6;have HI6:=Lib.hid hI6;have HV6:=Lib.hid (isEntry_far HVF.out (RStep.of_below w.heap.size hb6) (by omega));clear hI6;have o0:=H6.out.at_ 0 _ rfl;have g0:=H6.out.fr 0;have n0:=H6.non.at_ 0 _ rfl;have o1:=H6.out.at_ 1 _ rfl;have g1:=H6.out.fr 1;have n1:=H6.non.at_ 1 _ rfl;have o2:=H6.out.at_ 2 _ rfl;have g2:=H6.out.fr 2;have n2:=H6.non.at_ 2 _ rfl;have o3:=H6.out.at_ 3 _ rfl;have g3:=H6.out.fr 3;have n3:=H6.non.at_ 3 _ rfl;have o4:=H6.out.at_ 4 _ rfl;have g4:=H6.out.fr 4;have n4:=H6.non.at_ 4 _ rfl;have o5:=H6.out.at_ 5 _ rfl;have g5:=H6.out.fr 5;have n5:=H6.non.at_ 5 _ rfl;have o6:=H6.out.at_ 6 _ rfl;have g6:=H6.out.fr 6;have n6:=H6.non.at_ 6 _ rfl;have o7:=H6.out.at_ 7 _ rfl;have g7:=H6.out.fr 7;have n7:=H6.non.at_ 7 _ rfl;have o8:=H6.out.at_ 8 _ rfl;have g8:=H6.out.fr 8;have n8:=H6.non.at_ 8 _ rfl;have x0:=H6.err.at_ 0 _ rfl;have xf:=H6.err.fr 0;have HH6:=Lib.hid H6;clear H6))
  refine (equal_any w6 _ _ ra a rn n rc c _ bs HI6.out (HI.out.keep HH6.out.below)).mono ?_
  rw [HE.out]
  rintro e w7 ⟨rfl,rfl⟩
  go_wp2_with fail
  have HST:=HH6.out.storeE cv
  exact wdoorE_idle (c:=cv) HST.1.setErr ((isEntry_far (isEntry_far HV6.out HST.2 (by omega)) (RStep.self (b:=w.heap.size+1)) (by omega)).sub (shows_step fun k hk _=>⟨by omega,rfl⟩)) rfl rfl
end Go.Proofs.YtgcfhkceejcliaaGreatDoor
namespace Go.Proofs.YtgcfhkceejcliaaGreatDoor
open Go.ChangeShapes Go.WideShapes Go.ChangeAt Go.RowKit Go.Lib Go.Deep
instance:Inhabited Tk:=⟨⟨0,0, .empty,0⟩⟩
end Go.Proofs.YtgcfhkceejcliaaGreatDoor
