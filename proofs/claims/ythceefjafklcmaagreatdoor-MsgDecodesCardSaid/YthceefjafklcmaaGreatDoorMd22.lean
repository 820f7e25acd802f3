/-
  Contracts of the functions that the law reaches: whole at values. The reference's reading, in plain Lean: what it makes of bytes, whole or too short.
-/
import Derived.Test.YthceefjafklcmaaGreatDoorMd17
import Derived.Test.YthceefjafklcmaaGreatDoorMd18
import Derived.Test.YthceefjafklcmaaGreatDoorMd7
import Derived.Test.YthceefjafklcmaaGreatDoorMd14
import Derived.Test.YthceefjafklcmaaGreatDoorMd15
namespace Go.Proofs.YthceefjafklcmaaGreatDoor
open Go.RowKit
theorem rw_none (w:World) (rb:Nat) (bs:List UInt8) (h:Rdr w rb bs 0) (hr:rdV 18 bs=none):
    Calls Tryz.prog 44 #[.pointer (some ⟨rb,0,none⟩)] w fun e w'=>e= .panicked [short] ∧RStep w w' rb∧∃bs',Rdr w' rb bs' 0:=by
  have:=rValue_any 18 w rb bs 0 h (by omega) (by omega)
  rw [hr] at this
  exact this.mono fun e w' ⟨h1,h2,h3⟩=>⟨h2,h1,h3⟩
theorem rw_some (w:World) (rb:Nat) (bs:List UInt8) (h:Rdr w rb bs 0) {x:V} {r:List UInt8} (hr:rdV 18 bs=some (x,r)):
    Calls Tryz.prog 44 #[.pointer (some ⟨rb,0,none⟩)] w fun e w'=>∃c:VC,e= .returned (.agg #[.int .u8 c.k, .int .i64 c.n, .string c.s, .slice c.la c.ll c.lc, .slice c.oa c.ol c.oc])∧RStep w w' rb∧IsVal (only (fun b=>w.heap.size≤b) w') w'.heap.size x c∧Rdr w' rb r 0:=by
  have:=rValue_any 18 w rb bs 0 h (by omega) (by omega)
  rw [hr] at this
  exact this.mono fun e w' h=>RV_some h
theorem results_wholeV {tmps:Array Value} {W:World} {b b':Nat} {c:VC} {x:Value} (ht:tmps[6]? =some (.pointer (some ⟨b,0,none⟩))) (ht':tmps[7]? =some (.pointer (some ⟨b',0,none⟩))) (h:BC W b [.int .u8 c.k, .int .i64 c.n, .string c.s, .slice c.la c.ll c.lc, .slice c.oa c.ol c.oc]) (h':BC W b' [x]):
    (results Tryz.f43 tmps).run Tryz.prog W= .ok (.tuple #[.agg #[.int .u8 c.k, .int .i64 c.n, .string c.s, .slice c.la c.ll c.lc, .slice c.oa c.ol c.oc],x]) W:=by
  obtain ⟨r0,r1,r2,r3,r4⟩:=row5 h.at_
  have s0:=h'.at_ 0 _ rfl
  simp [results,Tryz.results43,go_sem,ht,ht',s0,r0,r1,r2,r3,r4]
def WVPost (w:World) (r:V×Int) (e:Ending) (w':World):Prop:=
  (∃c:VC,e= .returned (.tuple #[.agg #[.int .u8 c.k, .int .i64 c.n, .string c.s, .slice c.la c.ll c.lc, .slice c.oa c.ol c.oc], .int .u16 r.2])∧IsVal (only (fun b=>w.heap.size≤b) w') w'.heap.size r.1 c)∧Below w.heap.size w w'
theorem wdoorV_short {tmps:Array Value} {w W:World} {cs:List Value} {x:Value} (H:WH w W vz cs x) (hl:cs.length=5) (ht:tmps[6]? =some (.pointer (some ⟨w.heap.size,0,none⟩))) (ht':tmps[7]? =some (.pointer (some ⟨w.heap.size+1,0,none⟩))):
    Leaves Tryz.prog Tryz.f43 tmps (WVPost w (V.none,100)) [{ target:= .fn (.func 74) #[.pointer (some ⟨w.heap.size+1+1,0,none⟩), .pointer (some ⟨w.heap.size,0,none⟩), .pointer (some ⟨w.heap.size+1,0,none⟩)],args:= #[] }] (.panicking [short]) W:=by
  refine leaves_cons (f:=74) (args:= #[.pointer (some ⟨w.heap.size+1+1,0,none⟩), .pointer (some ⟨w.heap.size,0,none⟩), .pointer (some ⟨w.heap.size+1,0,none⟩)]) (by simp) (by simp [go_sem]) ?_
  refine (catchV_short (w.heap.size+2) w.heap.size (w.heap.size+1) W H.non cs H.out hl x H.err (by omega) (by omega)).mono ?_
  rintro e u' w'' ⟨rfl,rfl,hw⟩
  show Leaves _ _ _ _ [] .returning w''
  obtain ⟨W1,hW1⟩:∃W1,(((((W.setCell ⟨w.heap.size,0,none⟩ (.int .u8 0)).setCell ⟨w.heap.size,1,none⟩ (.int .i64 0)).setCell ⟨w.heap.size,2,none⟩ (.string { data:= #[] })).setCell ⟨w.heap.size,3,none⟩ (.slice none 0 0)).setCell ⟨w.heap.size,4,none⟩ (.slice none 0 0))=W1:=⟨_,rfl⟩
  have c1:BC W1 w.heap.size vz:=by
    rw [←hW1]
    match cs,hl,H.out with
    | [z0,z1,z2,z3,z4],_,ho=>exact (((((ho.set (i:=0) (x:= .int .u8 0) (by simp)).set (i:=1) (x:= .int .i64 0) (by simp)).set (i:=2) (x:= .string { data:= #[] }) (by simp)).set (i:=3) (x:= .slice none 0 0) (by simp)).set (i:=4) (x:= .slice none 0 0) (by simp))
  have e1:BC W1 (w.heap.size+1) [x] :=by
    rw [←hW1]
    exact (((((H.err.far (by omega)).far (by omega)).far (by omega)).far (by omega)).far (by omega))
  have s1:RStep W W1 w.heap.size:=by rw [←hW1];exact (((RStep.self.trans RStep.self).trans RStep.self).trans RStep.self).trans RStep.self
  rw [hW1] at hw
  have c2:BC (W1.setCell ⟨w.heap.size+1,0,none⟩ (.int .u16 100)) w.heap.size vz:=c1.far (by omega)
  have e2:BC (W1.setCell ⟨w.heap.size+1,0,none⟩ (.int .u16 100)) (w.heap.size+1) [.int .u16 100] :=e1.set (i:=0) (x:= .int .u16 100) (by simp)
  have hb:Below (W1.setCell ⟨w.heap.size+1,0,none⟩ (.int .u16 100)).heap.size (W1.setCell ⟨w.heap.size+1,0,none⟩ (.int .u16 100)) w'':=by rw [hw];exact (Below.refl _ _).alloc (Nat.le_refl _) _
  have s2:RStep W1 (W1.setCell ⟨w.heap.size+1,0,none⟩ (.int .u16 100)) (w.heap.size+1):=RStep.self
  have hlt:=H.out.lt
  have hB:Below w.heap.size w w'':=by
    have b1:Below w.heap.size W W1:=s1.below (by omega)
    have b2:Below w.heap.size W1 (W1.setCell ⟨w.heap.size+1,0,none⟩ (.int .u16 100)):=(s2.below (by have:=s1.size;have:=H.err.lt;omega)).mono (by omega)
    have z1:=s1.size
    have z2:=s2.size
    exact ((H.below.trans b1).trans b2).trans (hb.mono (by omega))
  exact ⟨_,results_wholeV (c:=vzero) ht ht' (c2.keep hb c2.lt) (e2.keep hb e2.lt),⟨vzero,rfl,isVal_none _ _⟩,hB⟩
theorem wdoorV_idle {tmps:Array Value} {w W:World} {c:VC} {v:V} {x:Int} (H:WH w W vz [.int .u8 c.k, .int .i64 c.n, .string c.s, .slice c.la c.ll c.lc, .slice c.oa c.ol c.oc] (.int .u16 x)) (hv:IsVal (only (fun b=>w.heap.size≤b) W) W.heap.size v c) (ht:tmps[6]? =some (.pointer (some ⟨w.heap.size,0,none⟩))) (ht':tmps[7]? =some (.pointer (some ⟨w.heap.size+1,0,none⟩))):
    Leaves Tryz.prog Tryz.f43 tmps (WVPost w (v,x)) [{ target:= .fn (.func 74) #[.pointer (some ⟨w.heap.size+1+1,0,none⟩), .pointer (some ⟨w.heap.size,0,none⟩), .pointer (some ⟨w.heap.size+1,0,none⟩)],args:= #[] }] .returning W:=by
  refine leaves_cons (f:=74) (args:= #[.pointer (some ⟨w.heap.size+1+1,0,none⟩), .pointer (some ⟨w.heap.size,0,none⟩), .pointer (some ⟨w.heap.size+1,0,none⟩)]) (by simp) (by simp [go_sem]) ?_
  refine (catchV_idle (w.heap.size+2) w.heap.size (w.heap.size+1) W).mono ?_
  rintro e u' w'' ⟨rfl,rfl,rfl⟩
  exact ⟨_,results_wholeV ht ht' H.out H.err,⟨c,rfl,hv⟩,H.below⟩
theorem WH.storeV {w W:World} {z0 z1 z2 z3 z4 x:Value} (h:WH w W vz [z0,z1,z2,z3,z4] x) (c:VC):WH w ((((((W.setCell ⟨w.heap.size,0,none⟩ (.int .u8 c.k)).setCell ⟨w.heap.size,1,none⟩ (.int .i64 c.n)).setCell ⟨w.heap.size,2,none⟩ (.string c.s)).setCell ⟨w.heap.size,3,none⟩ (.slice c.la c.ll c.lc)).setCell ⟨w.heap.size,4,none⟩ (.slice c.oa c.ol c.oc))) vz [.int .u8 c.k, .int .i64 c.n, .string c.s, .slice c.la c.ll c.lc, .slice c.oa c.ol c.oc] x∧RStep W ((((((W.setCell ⟨w.heap.size,0,none⟩ (.int .u8 c.k)).setCell ⟨w.heap.size,1,none⟩ (.int .i64 c.n)).setCell ⟨w.heap.size,2,none⟩ (.string c.s)).setCell ⟨w.heap.size,3,none⟩ (.slice c.la c.ll c.lc)).setCell ⟨w.heap.size,4,none⟩ (.slice c.oa c.ol c.oc))) w.heap.size:=by
  have s1:RStep W ((((((W.setCell ⟨w.heap.size,0,none⟩ (.int .u8 c.k)).setCell ⟨w.heap.size,1,none⟩ (.int .i64 c.n)).setCell ⟨w.heap.size,2,none⟩ (.string c.s)).setCell ⟨w.heap.size,3,none⟩ (.slice c.la c.ll c.lc)).setCell ⟨w.heap.size,4,none⟩ (.slice c.oa c.ol c.oc))) w.heap.size:=(((RStep.self.trans RStep.self).trans RStep.self).trans RStep.self).trans RStep.self
  have hlt:=h.out.lt
  exact ⟨⟨(((((h.out.set (i:=0) (x:= .int .u8 c.k) (by simp)).set (i:=1) (x:= .int .i64 c.n) (by simp)).set (i:=2) (x:= .string c.s) (by simp)).set (i:=3) (x:= .slice c.la c.ll c.lc) (by simp)).set (i:=4) (x:= .slice c.oa c.ol c.oc) (by simp)),h.err.next s1 (by omega),h.non.next s1 (by omega),h.below.trans (s1.below (by omega))⟩,s1⟩
set_option maxHeartbeats 4000000 in
set_option maxRecDepth 100000 in
theorem wholeV_none (w:World) (a:Option Addr) (n c:Nat) (bs:List UInt8) (h:IsB w w.heap.size a n c bs) (hn:bs.length≤60000) (hr:rdV 18 bs=none):
    Calls Tryz.prog 43 #[.slice a n c, .func (.func 44) #[] #[], .func (.func 40) #[] #[]] w (WVPost w (V.none,100)):=by
  have hmf:∀(fn:Fn) (first cap:Array Value) (w:World),(Instr.makeFunc fn first cap).run Tryz.prog w= .ok (.func fn first cap) w:=fun _ _ _ _=>rfl
  have HS:=Lib.hid (WH.start w vz bs a n c h)
  have hnn:=h.len
  have hn2:¬60000<n:=by omega
  clear h hnn hn
  go_enter_defers Tryz.func43,Tryz.ntmps43
  go_wp2_with (go_at_call 44;refine (rw_none _ (w.heap.size+3) bs (HS.out _ _ _ _ _ rfl).2.1 hr).mono ?_;rintro e w4 ⟨rfl,hS4,hR4⟩)
  have HH:=HS.out _ _ _ _ _ hS4.src
  exact wdoorV_short (HH.1.read hS4 (by omega)) rfl rfl rfl
set_option maxHeartbeats 4000000 in
set_option maxRecDepth 100000 in
theorem wholeV_long (w:World) (a:Option Addr) (n c:Nat) (bs:List UInt8) (h:IsB w w.heap.size a n c bs) (hn:60000<bs.length):
    Calls Tryz.prog 43 #[.slice a n c, .func (.func 44) #[] #[], .func (.func 40) #[] #[]] w (WVPost w (V.none,3)):=by
  have hnn:=h.len
  have hn2:60000<n:=by omega
  clear h hnn hn
  go_enter_defers Tryz.func43,Tryz.ntmps43
  go_wp2_with fail
  obtain ⟨w1,hw1⟩:∃w1,w.alloc (.cells vz.toArray 28)=w1:=⟨_,rfl⟩
  have s1:w1.heap.size=w.heap.size+1:=by rw [←hw1,World.size_alloc]
  have b1:Below w.heap.size w w1:=by rw [←hw1];exact (Below.refl _ _).alloc (Nat.le_refl _) _
  have c1:BC w1 w.heap.size vz:=by rw [←hw1];exact BC.start w vz.toArray _
  obtain ⟨w2,hw2⟩:∃w2,w1.alloc (.cells #[.int .u16 3] 33)=w2:=⟨_,rfl⟩
  have s2:w2.heap.size=w.heap.size+2:=by rw [←hw2,World.size_alloc,s1]
  have b2:Below w1.heap.size w1 w2:=by rw [←hw2];exact (Below.refl _ _).alloc (Nat.le_refl _) _
  have c2:BC w2 (w.heap.size+1) [.int .u16 3] :=by rw [←hw2, ←s1];exact BC.start w1 #[.int .u16 3] _
  have b3:Below w2.heap.size w2 (w2.alloc (.cells vz.toArray 28)):=(Below.refl _ _).alloc (Nat.le_refl _) _
  have hB:Below w.heap.size w (w2.alloc (.cells vz.toArray 28)):=(b1.trans (b2.mono (by omega))).trans (b3.mono (by omega))
  have hfin:WVPost w (V.none,3) (.returned (.tuple #[.agg #[.int .u8 vzero.k, .int .i64 vzero.n, .string vzero.s, .slice vzero.la vzero.ll vzero.lc, .slice vzero.oa vzero.ol vzero.oc], .int .u16 3])) (w2.alloc (.cells vz.toArray 28)):=⟨⟨vzero,rfl,isVal_none _ _⟩,hB⟩
  have hres:=fun tmps ht ht'=>results_wholeV (tmps:=tmps) (c:=vzero) ht ht' ((c1.keep b2 (by omega)).keep b3 (by omega)) (c2.keep b3 (by omega))
  rw [←hw2, ←hw1] at hfin hres
  exact ⟨_,hres _ rfl rfl,hfin⟩
set_option maxHeartbeats 8000000 in
set_option maxRecDepth 100000 in
theorem wholeV_bad (w:World) (a:Option Addr) (n c:Nat) (bs:List UInt8) (h:IsB w w.heap.size a n c bs) (hn:bs.length≤60000) {v:V} {r:List UInt8} (hr:rdV 18 bs=some (v,r)) (hsz:(encV v).length≤70368744177664) (sd:Bool)
    (HLV:Hid (∀W5,Below w.heap.size w W5→∀cv:VC,IsVal W5 W5.heap.size v cv→Hid (∀W,Below W5.heap.size W5 W→Calls Tryz.prog 56 #[.agg #[.int .u8 cv.k, .int .i64 cv.n, .string cv.s, .slice cv.la cv.ll cv.lc, .slice cv.oa cv.ol cv.oc]] W fun e w'=>e= .returned (.bool sd)∧Below W.heap.size W w'))) (hbad:outN sd (encV v)≠0):
    Calls Tryz.prog 43 #[.slice a n c, .func (.func 44) #[] #[], .func (.func 40) #[] #[]] w (WVPost w (V.none,100)):=by
  have hmf:∀(fn:Fn) (first cap:Array Value) (w:World),(Instr.makeFunc fn first cap).run Tryz.prog w= .ok (.func fn first cap) w:=fun _ _ _ _=>rfl
  have HS:=Lib.hid (WH.start w vz bs a n c h)
  have hnn:=h.len
  have hn2:¬60000<n:=by omega
  obtain ⟨en,hen⟩:∃en,encV v=en:=⟨_,rfl⟩
  have HEN:=Lib.hid hen
  obtain ⟨N,hN⟩:∃N,outN sd en=N:=⟨_,rfl⟩
  have HN:=Lib.hid hN
  rw [hen,hN] at hbad
  have fN:(N==0)=false:=by simpa using hbad
  have fN2:(N !=0)=true:=by simpa using hbad
  have fN3:decide (N=0)=false:=by simpa using hbad
  clear h hnn hn hen hN
  go_enter_defers Tryz.func43,Tryz.ntmps43
  go_wp2_with (first|(go_at_call 44;refine (rw_some _ (w.heap.size+3) bs (HS.out _ _ _ _ _ rfl).2.1 hr).mono ?_;rintro e w4 ⟨cv,rfl,hS4,hI4,hR4⟩;have HH:=HS.out _ _ _ _ _ hS4.src;have H4:=HH.1.read hS4 (by omega);have O:=H4.out;have o0:=O.at_ 0 _ rfl;have g0:=O.fr 0;have o1:=O.at_ 1 _ rfl;have g1:=O.fr 1;have o2:=O.at_ 2 _ rfl;have g2:=O.fr 2;have o3:=O.at_ 3 _ rfl;have g3:=O.fr 3;have o4:=O.at_ 4 _ rfl;have g4:=O.fr 4;have H5:=H4.storeV cv;have hV5:=(isVal_far (hI4.sub (shows_step (S':=fun b=>w.heap.size+4≤b) fun k hk _=>⟨by have:=HH.2.2;omega,rfl⟩)) H5.2 (by omega)).sub (shows_only _ _ _);have HV5:=Lib.hid hV5;have HH5:=Lib.hid H5.1;clear hI4 hV5 H5 H4 HH O)|(go_at_call 40;refine (value_of sd _ cv.k cv.n cv.s cv.la cv.ll cv.lc cv.oa cv.ol cv.oc v HV5.out (HLV.out _ HH5.out.below cv HV5.out) hsz).mono ?_;rw [HEN.out];rintro e w6 ⟨⟨ra,rn,rc,rfl,hI6⟩,hb6⟩;rw [HN.out];have H6:=HH5.out.next hb6;clear hI6;have o0:=H6.out.at_ 0 _ rfl;have g0:=H6.out.fr 0;have n0:=H6.non.at_ 0 _ rfl;have o1:=H6.out.at_ 1 _ rfl;have g1:=H6.out.fr 1;have n1:=H6.non.at_ 1 _ rfl;have o2:=H6.out.at_ 2 _ rfl;have g2:=H6.out.fr 2;have n2:=H6.non.at_ 2 _ rfl;have o3:=H6.out.at_ 3 _ rfl;have g3:=H6.out.fr 3;have n3:=H6.non.at_ 3 _ rfl;have o4:=H6.out.at_ 4 _ rfl;have g4:=H6.out.fr 4;have n4:=H6.non.at_ 4 _ rfl;have x0:=H6.err.at_ 0 _ rfl;have xf:=H6.err.fr 0;have HH6:=Lib.hid H6;clear H6))
  refine wdoorV_idle (c:=vzero) (v:=V.none) ?_ ?_ ?_ ?_
  · exact (HH6.out.storeV vzero).1.setErr
  · exact isVal_none _ _
  · rfl
  · rfl
set_option maxHeartbeats 8000000 in
set_option maxRecDepth 100000 in
theorem wholeV_neq (w:World) (a:Option Addr) (n c:Nat) (bs:List UInt8) (h:IsB w w.heap.size a n c bs) (hn:bs.length≤60000) {v:V} {r:List UInt8} (hr:rdV 18 bs=some (v,r)) (hsz:(encV v).length≤70368744177664) (sd:Bool)
    (HLV:Hid (∀W5,Below w.heap.size w W5→∀cv:VC,IsVal W5 W5.heap.size v cv→Hid (∀W,Below W5.heap.size W5 W→Calls Tryz.prog 56 #[.agg #[.int .u8 cv.k, .int .i64 cv.n, .string cv.s, .slice cv.la cv.ll cv.lc, .slice cv.oa cv.ol cv.oc]] W fun e w'=>e= .returned (.bool sd)∧Below W.heap.size W w'))) (hok:outN sd (encV v)=0) (heq:eqBs (outB sd (encV v)) bs=false):
    Calls Tryz.prog 43 #[.slice a n c, .func (.func 44) #[] #[], .func (.func 40) #[] #[]] w (WVPost w (V.none,100)):=by
  have hmf:∀(fn:Fn) (first cap:Array Value) (w:World),(Instr.makeFunc fn first cap).run Tryz.prog w= .ok (.func fn first cap) w:=fun _ _ _ _=>rfl
  have HS:=Lib.hid (WH.start w vz bs a n c h)
  have HI:=Lib.hid h
  have hnn:=h.len
  have hn2:¬60000<n:=by omega
  obtain ⟨en,hen⟩:∃en,encV v=en:=⟨_,rfl⟩
  rw [hen] at hok heq
  have HEN:=Lib.hid hen
  have HN:=Lib.hid hok
  have HE:=Lib.hid heq
  clear h hnn hn hen hok heq
  go_enter_defers Tryz.func43,Tryz.ntmps43
  go_wp2_with (first|(go_at_call 44;refine (rw_some _ (w.heap.size+3) bs (HS.out _ _ _ _ _ rfl).2.1 hr).mono ?_;rintro e w4 ⟨cv,rfl,hS4,hI4,hR4⟩;have HH:=HS.out _ _ _ _ _ hS4.src;have H4:=HH.1.read hS4 (by omega);have O:=H4.out;have o0:=O.at_ 0 _ rfl;have g0:=O.fr 0;have o1:=O.at_ 1 _ rfl;have g1:=O.fr 1;have o2:=O.at_ 2 _ rfl;have g2:=O.fr 2;have o3:=O.at_ 3 _ rfl;have g3:=O.fr 3;have o4:=O.at_ 4 _ rfl;have g4:=O.fr 4;have H5:=H4.storeV cv;have hV5:=(isVal_far (hI4.sub (shows_step (S':=fun b=>w.heap.size+4≤b) fun k hk _=>⟨by have:=HH.2.2;omega,rfl⟩)) H5.2 (by omega)).sub (shows_only _ _ _);have HV5:=Lib.hid hV5;have HH5:=Lib.hid H5.1;clear hI4 hV5 H5 H4 HH O)|(go_at_call 40;refine (value_of sd _ cv.k cv.n cv.s cv.la cv.ll cv.lc cv.oa cv.ol cv.oc v HV5.out (HLV.out _ HH5.out.below cv HV5.out) hsz).mono ?_;rw [HEN.out];rintro e w6 ⟨⟨ra,rn,rc,rfl,hI6⟩,hb6⟩;rw [HN.out];have H6:=HH5.out.next hb6;have HI6:=Lib.hid hI6;clear hI6;have o0:=H6.out.at_ 0 _ rfl;have g0:=H6.out.fr 0;have n0:=H6.non.at_ 0 _ rfl;have o1:=H6.out.at_ 1 _ rfl;have g1:=H6.out.fr 1;have n1:=H6.non.at_ 1 _ rfl;have o2:=H6.out.at_ 2 _ rfl;have g2:=H6.out.fr 2;have n2:=H6.non.at_ 2 _ rfl;have o3:=H6.out.at_ 3 _ rfl;have g3:=H6.out.fr 3;have n3:=H6.non.at_ 3 _ rfl;have o4:=H6.out.at_ 4 _ rfl;have g4:=H6.out.fr 4;have n4:=H6.non.at_ 4 _ rfl;have x0:=H6.err.at_ 0 _ rfl;have xf:=H6.err.fr 0;have HH6:=Lib.hid H6;clear H6))
  refine (equal_any w6 _ _ ra a rn n rc c _ bs HI6.out (HI.out.keep HH6.out.below)).mono ?_
  rw [HE.out]
  rintro e w7 ⟨rfl,rfl⟩
  go_wp2_with fail
  refine wdoorV_idle (c:=vzero) (v:=V.none) ?_ ?_ ?_ ?_
  · exact (HH6.out.storeV vzero).1.setErr
  · exact isVal_none _ _
  · rfl
  · rfl
set_option maxHeartbeats 8000000 in
set_option maxRecDepth 100000 in
theorem wholeV_eq (w:World) (a:Option Addr) (n c:Nat) (bs:List UInt8) (h:IsB w w.heap.size a n c bs) (hn:bs.length≤60000) {v:V} {r:List UInt8} (hr:rdV 18 bs=some (v,r)) (hsz:(encV v).length≤70368744177664) (sd:Bool)
    (HLV:Hid (∀W5,Below w.heap.size w W5→∀cv:VC,IsVal W5 W5.heap.size v cv→Hid (∀W,Below W5.heap.size W5 W→Calls Tryz.prog 56 #[.agg #[.int .u8 cv.k, .int .i64 cv.n, .string cv.s, .slice cv.la cv.ll cv.lc, .slice cv.oa cv.ol cv.oc]] W fun e w'=>e= .returned (.bool sd)∧Below W.heap.size W w'))) (hok:outN sd (encV v)=0) (heq:eqBs (outB sd (encV v)) bs=true):
    Calls Tryz.prog 43 #[.slice a n c, .func (.func 44) #[] #[], .func (.func 40) #[] #[]] w (WVPost w (v,0)):=by
  have hmf:∀(fn:Fn) (first cap:Array Value) (w:World),(Instr.makeFunc fn first cap).run Tryz.prog w= .ok (.func fn first cap) w:=fun _ _ _ _=>rfl
  have HS:=Lib.hid (WH.start w vz bs a n c h)
  have HI:=Lib.hid h
  have hnn:=h.len
  have hn2:¬60000<n:=by omega
  obtain ⟨en,hen⟩:∃en,encV v=en:=⟨_,rfl⟩
  rw [hen] at hok heq
  have HEN:=Lib.hid hen
  have HN:=Lib.hid hok
  have HE:=Lib.hid heq
  clear h hnn hn hen hok heq
  go_enter_defers Tryz.func43,Tryz.ntmps43
  go_wp2_with (first|(go_at_call 44;refine (rw_some _ (w.heap.size+3) bs (HS.out _ _ _ _ _ rfl).2.1 hr).mono ?_;rintro e w4 ⟨cv,rfl,hS4,hI4,hR4⟩;have HH:=HS.out _ _ _ _ _ hS4.src;have H4:=HH.1.read hS4 (by omega);have O:=H4.out;have o0:=O.at_ 0 _ rfl;have g0:=O.fr 0;have o1:=O.at_ 1 _ rfl;have g1:=O.fr 1;have o2:=O.at_ 2 _ rfl;have g2:=O.fr 2;have o3:=O.at_ 3 _ rfl;have g3:=O.fr 3;have o4:=O.at_ 4 _ rfl;have g4:=O.fr 4;have H5:=H4.storeV cv;have hV5:=(isVal_far (hI4.sub (shows_step (S':=fun b=>w.heap.size+4≤b) fun k hk _=>⟨by have:=HH.2.2;omega,rfl⟩)) H5.2 (by omega));have HVF:=Lib.hid hV5;have HV5:=Lib.hid (hV5.sub (shows_only _ _ _));have HH5:=Lib.hid H5.1;clear hI4 hV5 H5 H4 HH O)|(go_at_call 40;refine (value_of sd _ cv.k cv.n cv.s cv.la cv.ll cv.lc cv.oa cv.ol cv.oc v HV5.out (HLV.out _ HH5.out.below cv HV5.out) hsz).mono ?_;rw [HEN.out];rintro e w6 ⟨⟨ra,rn,rc,rfl,hI6⟩,hb6⟩;rw [HN.out];have H6:=HH5.out.next hb6;have HI6:=Lib.hid hI6;have HV6:=Lib.hid (isVal_far HVF.out (RStep.of_below w.heap.size hb6) (by omega));clear hI6;have o0:=H6.out.at_ 0 _ rfl;have g0:=H6.out.fr 0;have n0:=H6.non.at_ 0 _ rfl;have o1:=H6.out.at_ 1 _ rfl;have g1:=H6.out.fr 1;have n1:=H6.non.at_ 1 _ rfl;have o2:=H6.out.at_ 2 _ rfl;have g2:=H6.out.fr 2;have n2:=H6.non.at_ 2 _ rfl;have o3:=H6.out.at_ 3 _ rfl;have g3:=H6.out.fr 3;have n3:=H6.non.at_ 3 _ rfl;have o4:=H6.out.at_ 4 _ rfl;have g4:=H6.out.fr 4;have n4:=H6.non.at_ 4 _ rfl;have x0:=H6.err.at_ 0 _ rfl;have xf:=H6.err.fr 0;have HH6:=Lib.hid H6;clear H6))
  refine (equal_any w6 _ _ ra a rn n rc c _ bs HI6.out (HI.out.keep HH6.out.below)).mono ?_
  rw [HE.out]
  rintro e w7 ⟨rfl,rfl⟩
  go_wp2_with fail
  have HST:=HH6.out.storeV cv
  exact wdoorV_idle (c:=cv) HST.1.setErr ((isVal_far (isVal_far HV6.out HST.2 (by omega)) (RStep.self (b:=w.heap.size+1)) (by omega)).sub (shows_step fun k hk _=>⟨by omega,rfl⟩)) rfl rfl
end Go.Proofs.YthceefjafklcmaaGreatDoor
namespace Go.Proofs.YthceefjafklcmaaGreatDoor
open Go.RowKit
abbrev RS:=List UInt8×Bool
def fN (k:Nat) (s:RS):Nat×RS:=if s.1.length<k then (0,(s.1,true)) else (num (s.1.take k),(s.1.drop k,s.2))
def fM (k:Nat) (s:RS):Nat×RS:=if (fN k s).2.1.length<(fN k s).1 then (0,((fN k s).2.1,true)) else fN k s
def fT (s:RS):ByteArray×RS:=(⟨((fM 4 s).2.1.take (fM 4 s).1).toArray⟩,((fM 4 s).2.1.drop (fM 4 s).1,(fM 4 s).2.2))
def fL {α:Type} (f:RS→α×RS):Nat→RS→List α×RS
  |0,s=>([],s)
  |n+1,s=>if (fL f n s).2.2=true then fL f n s else ((fL f n s).1++ [(f (fL f n s).2).1],(f (fL f n s).2).2)
def fF (fv:RS→V×RS) (s:RS):(ByteArray×V)×RS:=(((fT s).1,(fv (fT s).2).1),(fv (fT s).2).2)
def fV:Nat→RS→V×RS
  |0,s=>(.mk (fN 1 s).1 0 .empty [] [],((fN 1 s).2.1,true))
  | d+1,s=>
    if (fN 1 s).1=1∨(fN 1 s).1=2 then (.mk (fN 1 s).1 (wrap64 (fN 8 (fN 1 s).2).1) .empty [] [],(fN 8 (fN 1 s).2).2)
    else if (fN 1 s).1=3 then (.mk (fN 1 s).1 0 (fT (fN 1 s).2).1 [] [],(fT (fN 1 s).2).2)
    else if (fN 1 s).1=4 then (.mk (fN 1 s).1 0 .empty (fL (fun x=>fV d x) (fM 4 (fN 1 s).2).1 (fM 4 (fN 1 s).2).2).1 [],(fL (fun x=>fV d x) (fM 4 (fN 1 s).2).1 (fM 4 (fN 1 s).2).2).2)
    else if (fN 1 s).1=5 then (.mk (fN 1 s).1 0 .empty [] (fL (fun x=>fF (fun y=>fV d y) x) (fM 4 (fN 1 s).2).1 (fM 4 (fN 1 s).2).2).1,(fL (fun x=>fF (fun y=>fV d y) x) (fM 4 (fN 1 s).2).1 (fM 4 (fN 1 s).2).2).2)
    else (.mk (fN 1 s).1 0 .empty [] [],(fN 1 s).2)
def fS (s:RS):St×RS:=if (fN 1 s).1=1 then (⟨true,wrap64 (fN 8 (fN 1 s).2).1, .empty⟩,(fN 8 (fN 1 s).2).2) else (⟨false,0,(fT (fN 1 s).2).1⟩,(fT (fN 1 s).2).2)
def fI (s:RS):Int×RS:=(wrap64 (fN 8 s).1,(fN 8 s).2)
def fIf {α:Type} (b:Bool) (z:α) (f:RS→α×RS) (s:RS):α×RS:=if b=true then f s else (z,s)
def fB {α β:Type} (p:α×RS) (g:α→RS→β×RS):β×RS:=g p.1 p.2
def fC (s:RS):Cm×RS:=fB (fN 1 s) fun k s=>fB (fM 1 s) fun n s=>fB (fL fS n s) fun p s=>
  fB (fIf (hasB (saysB k) 75) .empty fT s) fun key s=>fB (fIf (hasB (saysB k) 73) 0 fI s) fun i s=>fB (fIf (hasB (saysB k) 74) 0 fI s) fun j s=>
  fB (fIf (hasB (saysB k) 78) 0 fI s) fun m s=>fB (fIf (hasB (saysB k) 86) V.none (fV 18) s) fun v s=>fB (fIf (hasB (saysB k) 83) .empty fT s) fun t s=>
  (⟨k,p,key,i,j,m,v,t⟩,s)
def fE (s:RS):En×RS:=fB (fN 1 s) fun k s=>fB (fN 4 s) fun c s=>fB (fN 4 s) fun q s=>
  if k=1 then fB (fV 18 s) fun v s=>(⟨k,c,q,v, []⟩,s)
  else if k=2 then fB (fM 4 s) fun n s=>fB (fL fC n s) fun l s=>(⟨k,c,q,V.none,l⟩,s)
  else (⟨k,c,q,V.none, []⟩,s)
structure Rel {α:Type} (rd:List UInt8→Option (α×List UInt8)) (f:RS→α×RS):Prop where
  ok:∀bs x r,rd bs=some (x,r)→f (bs,false)=(x,(r,false))
  no:∀bs,rd bs=none→(f (bs,false)).2.2=true
  bad:∀bs,(f (bs,true)).2.2=true
theorem Rel.bind {α β:Type} {rd:List UInt8→Option (α×List UInt8)} {f:RS→α×RS} {rg:α→List UInt8→Option (β×List UInt8)} {g:α→RS→β×RS} (h:Rel rd f) (hg:∀x,Rel (rg x) (g x)):
    Rel (fun bs=>(rd bs).bind fun p=>rg p.1 p.2) (fun s=>fB (f s) g):=by
  have hbad:∀s:RS,(f s).2.2=true→(fB (f s) g).2.2=true:=by
    intro s hs
    show (g (f s).1 (f s).2).2.2=true
    obtain ⟨⟨x,r,b⟩,hfs⟩:∃p,f s=p:=⟨_,rfl⟩
    rw [hfs] at hs ⊢
    replace hs:b=true:=hs
    subst hs
    exact (hg x).bad r
  refine ⟨fun bs x r hx=> ?_,fun bs hn=> ?_,fun bs=>hbad _ (h.bad bs)⟩
  · rw [Option.bind_eq_some_iff] at hx
    obtain ⟨p,hp,hx⟩:=hx
    have:=h.ok bs p.1 p.2 hp
    show g (f (bs,false)).1 (f (bs,false)).2=_
    rw [this]
    exact (hg p.1).ok _ _ _ hx
  · cases hr:rd bs with
    |none=>exact hbad _ (h.no bs hr)
    | some p=>
      rw [hr] at hn
      have:=h.ok bs p.1 p.2 hr
      show (g (f (bs,false)).1 (f (bs,false)).2).2.2=true
      rw [this]
      exact (hg p.1).no _ hn
theorem Rel.ret {α:Type} (x:α):Rel (fun bs=>some (x,bs)) (fun s=>(x,s)):=
  ⟨(fun bs y r h=>by injection h with h;injection h with h1 h2;subst h1 h2;rfl),(fun bs h=>by cases h),fun bs=>rfl⟩
theorem Rel.ite {α:Type} {p:Prop} [Decidable p] {rd rd':List UInt8→Option (α×List UInt8)} {f f':RS→α×RS} (h:Rel rd f) (h':Rel rd' f'):Rel (fun bs=>if p then rd bs else rd' bs) (fun s=>if p then f s else f' s):=by
  by_cases hp:p
  · simp only [if_pos hp];exact h
  · simp only [if_neg hp];exact h'
theorem rel_N (k:Nat):Rel (rdN k) (fN k):=by
  refine ⟨fun bs x r h=> ?_,fun bs h=> ?_,fun bs=> ?_⟩
  · obtain ⟨h1,rfl,rfl⟩:=rdN_some h
    rw [fN,if_neg (by show ¬bs.length<k;omega)]
  · unfold rdN at h;split at h
    · cases h
    · rename_i hk
      rw [fN,if_pos (by show bs.length<k;omega)]
  · rw [fN];split<;>rfl
theorem rel_M (k:Nat):Rel (rdM k) (fM k):=by
  refine ⟨fun bs x r h=> ?_,fun bs h=> ?_,fun bs=> ?_⟩
  · obtain ⟨h1,h2⟩:=rdM_some h
    rw [fM,(rel_N k).ok bs x r h1,if_neg (by show ¬r.length<x;omega)]
  · cases hr:rdN k bs with
    | none=>
      have:=(rel_N k).no bs hr
      rw [fM];split
      · rfl
      · exact this
    | some p=>
      obtain ⟨n,r⟩:=p
      have h2:¬n≤r.length:=by
        intro hle
        rw [rdM,hr] at h;simp [hle] at h
      rw [fM,(rel_N k).ok bs n r hr,if_pos (by show r.length<n;omega)]
  · have:=(rel_N k).bad bs
    rw [fM];split
    · rfl
    · exact this
theorem rel_T:Rel rdT fT:=(rel_M 4).bind (rg:=fun n q=>some ((⟨(q.take n).toArray⟩:ByteArray),q.drop n)) (g:=fun n s=>((⟨(s.1.take n).toArray⟩:ByteArray),(s.1.drop n,s.2)))
  fun n=>⟨(fun bs x r h=>by injection h with h;injection h with h1 h2;subst h1 h2;rfl),(fun bs h=>by cases h),fun bs=>rfl⟩
theorem rel_L {α:Type} {rd:List UInt8→Option (α×List UInt8)} {f:RS→α×RS} (h:Rel rd f):∀n,Rel (rdL rd n) (fL f n):=by
  intro n
  induction n with
  |zero=>exact Rel.ret []
  | succ n ih=>
    refine ⟨fun bs x r hx=> ?_,fun bs hn=> ?_,fun bs=> ?_⟩
    · rw [rdL,Option.bind_eq_some_iff] at hx
      obtain ⟨p,hp,hx⟩:=hx
      rw [Option.bind_eq_some_iff] at hx
      obtain ⟨q,hq,hx⟩:=hx
      injection hx with hx;injection hx with h1 h2;subst h1 h2
      rw [fL,ih.ok bs p.1 p.2 hp,if_neg (by simp),h.ok p.2 q.1 q.2 hq]
    · rw [rdL] at hn
      cases hr:rdL rd n bs with
      | none=>
        have:=ih.no bs hr
        rw [fL,if_pos this];exact this
      | some p=>
        rw [hr] at hn
        simp only [Option.bind_some] at hn
        cases hq:rd p.2 with
        |some q=>rw [hq] at hn;cases hn
        | none=>
          have:=ih.ok bs p.1 p.2 hr
          rw [fL,this,if_neg (by simp)]
          exact h.no p.2 hq
    · have:=ih.bad bs
      rw [fL,if_pos this];exact this
theorem rel_F {k:Nat} (h:Rel (rdV k) (fV k)):Rel (fun x=>(rdT x).bind fun y=>(rdV k y.2).bind fun z=>some ((y.1,z.1),z.2)) (fun x=>fF (fun y=>fV k y) x):=
  rel_T.bind (rg:=fun t q=>(rdV k q).bind fun z=>some ((t,z.1),z.2)) (g:=fun t s=>((t,(fV k s).1),(fV k s).2))
    fun t=>h.bind (rg:=fun v q=>some ((t,v),q)) (g:=fun v s=>((t,v),s)) fun _=>Rel.ret _
theorem rel_V:∀k,Rel (rdV k) (fV k):=by
  intro k
  induction k with
  |zero=>exact ⟨(fun bs x r h=>by cases h),fun bs h=>rfl,fun bs=>rfl⟩
  | succ k ih=>
    have hA:=(rel_N 1).bind (rg:=fun (k1:Nat) q=>if k1=1∨k1=2 then (rdN 8 q).bind fun q=>some (V.mk k1 (wrap64 q.1) .empty [] [],q.2)
      else if k1=3 then (rdT q).bind fun q=>some (V.mk k1 0 q.1 [] [],q.2)
      else if k1=4 then (rdM 4 q).bind fun q=>(rdL (fun x=>rdV k x) q.1 q.2).bind fun r=>some (V.mk k1 0 .empty r.1 [],r.2)
      else if k1=5 then (rdM 4 q).bind fun q=>(rdL (fun x=>(rdT x).bind fun y=>(rdV k y.2).bind fun z=>some ((y.1,z.1),z.2)) q.1 q.2).bind fun r=>some (V.mk k1 0 .empty [] r.1,r.2)
      else some (V.mk k1 0 .empty [] [],q))
      (g:=fun (k1:Nat) s=>if k1=1∨k1=2 then fB (fN 8 s) fun n s=>(V.mk k1 (wrap64 n) .empty [] [],s)
      else if k1=3 then fB (fT s) fun t s=>(V.mk k1 0 t [] [],s)
      else if k1=4 then fB (fM 4 s) fun n s=>fB (fL (fun x=>fV k x) n s) fun l s=>(V.mk k1 0 .empty l [],s)
      else if k1=5 then fB (fM 4 s) fun n s=>fB (fL (fun x=>fF (fun y=>fV k y) x) n s) fun l s=>(V.mk k1 0 .empty [] l,s)
      else (V.mk k1 0 .empty [] [],s)) (fun k1=>Rel.ite ((rel_N 8).bind (rg:=fun (n:Nat) q=>some (V.mk k1 (wrap64 n) .empty [] [],q)) fun n=>Rel.ret _) (Rel.ite (rel_T.bind (rg:=fun t q=>some (V.mk k1 0 t [] [],q)) fun t=>Rel.ret _)
        (Rel.ite ((rel_M 4).bind (rg:=fun n q=>(rdL (fun x=>rdV k x) n q).bind fun r=>some (V.mk k1 0 .empty r.1 [],r.2)) fun n=>(rel_L ih n).bind (rg:=fun l q=>some (V.mk k1 0 .empty l [],q)) fun l=>Rel.ret _)
          (Rel.ite ((rel_M 4).bind (rg:=fun n q=>(rdL (fun x=>(rdT x).bind fun y=>(rdV k y.2).bind fun z=>some ((y.1,z.1),z.2)) n q).bind fun r=>some (V.mk k1 0 .empty [] r.1,r.2)) fun n=>(rel_L (rel_F ih) n).bind (rg:=fun l q=>some (V.mk k1 0 .empty [] l,q)) fun l=>Rel.ret _) (Rel.ret _)))))
    exact ⟨fun bs x r h=>hA.ok bs x r h,fun bs h=>hA.no bs h,fun bs=>hA.bad bs⟩
theorem rel_I:Rel rdI fI:=(rel_N 8).bind (rg:=fun (n:Nat) q=>some (wrap64 n,q)) (g:=fun (n:Nat) s=>(wrap64 n,s)) fun _=>Rel.ret _
theorem rel_If {α:Type} {b:Bool} {z:α} {rd:List UInt8→Option (α×List UInt8)} {f:RS→α×RS} (h:Rel rd f):Rel (rdIf b z rd) (fIf b z f):=by
  have:=Rel.ite (p:=b=true) h (Rel.ret z)
  exact ⟨fun bs x r h=>this.ok bs x r h,fun bs h=>this.no bs h,fun bs=>this.bad bs⟩
theorem rel_S:Rel rdS fS:=by
  have hA:=(rel_N 1).bind (rg:=fun k q=>if k=1 then (rdN 8 q).bind fun q=>some ((⟨true,wrap64 q.1, .empty⟩:St),q.2) else (rdT q).bind fun q=>some ((⟨false,0,q.1⟩:St),q.2))
    (g:=fun k s=>if k=1 then fB (fN 8 s) fun n s=>((⟨true,wrap64 n, .empty⟩:St),s) else fB (fT s) fun t s=>((⟨false,0,t⟩:St),s))
    fun k=>Rel.ite ((rel_N 8).bind (rg:=fun (n:Nat) q=>some ((⟨true,wrap64 n, .empty⟩:St),q)) fun n=>Rel.ret _) (rel_T.bind (rg:=fun t q=>some ((⟨false,0,t⟩:St),q)) fun t=>Rel.ret _)
  exact ⟨fun bs x r h=>hA.ok bs x r h,fun bs h=>hA.no bs h,fun bs=>hA.bad bs⟩
theorem rel_C:Rel rdC fC:=by
  have hA:=(rel_N 1).bind fun k1=>(rel_M 1).bind fun n=>(rel_L rel_S n).bind fun p=>
    (rel_If (b:=hasB (saysB (k1:Int)) 75) (z:=ByteArray.empty) rel_T).bind fun key=>(rel_If (b:=hasB (saysB (k1:Int)) 73) (z:=(0:Int)) rel_I).bind fun i=>(rel_If (b:=hasB (saysB (k1:Int)) 74) (z:=(0:Int)) rel_I).bind fun j=>
    (rel_If (b:=hasB (saysB (k1:Int)) 78) (z:=(0:Int)) rel_I).bind fun m=>(rel_If (b:=hasB (saysB (k1:Int)) 86) (z:=V.none) (rel_V 18)).bind fun v=>(rel_If (b:=hasB (saysB (k1:Int)) 83) (z:=ByteArray.empty) rel_T).bind fun t=>
    Rel.ret (⟨k1,p,key,i,j,m,v,t⟩:Cm)
  exact ⟨fun bs x r h=>hA.ok bs x r h,fun bs h=>hA.no bs h,fun bs=>hA.bad bs⟩
theorem rel_E:Rel rdE fE:=by
  have hA:=(rel_N 1).bind fun k1=>(rel_N 4).bind fun c=>(rel_N 4).bind fun q=>Rel.ite (p:=k1=1) ((rel_V 18).bind fun v=>Rel.ret (⟨k1,c,q,v, []⟩:En))
    (Rel.ite (p:=k1=2) ((rel_M 4).bind fun n=>(rel_L rel_C n).bind fun l=>Rel.ret (⟨k1,c,q,V.none,l⟩:En)) (Rel.ret (⟨k1,c,q,V.none, []⟩:En)))
  exact ⟨fun bs x r h=>hA.ok bs x r h,fun bs h=>hA.no bs h,fun bs=>hA.bad bs⟩
theorem fN_lt (k:Nat) (s:RS):(fN k s).1<256 ^ k:=by
  rw [fN];split
  · exact Nat.pow_pos (by omega)
  · have:=num_lt (s.1.take k)
    rwa [List.length_take,Nat.min_eq_left (by omega)] at this
theorem fM_lt (k:Nat) (s:RS):(fM k s).1<256 ^ k∧(fM k s).1≤(fM k s).2.1.length:=by
  rw [fM];split
  · exact ⟨Nat.pow_pos (by omega),Nat.zero_le _⟩
  · exact ⟨fN_lt k s,by omega⟩
theorem fT_size (s:RS):(fT s).1.size≤140737488355328:=by
  have h1:=(fM_lt 4 s).1
  have h3:(fT s).1.size=((fM 4 s).2.1.take (fM 4 s).1).length:=by simp [fT,ByteArray.size]
  rw [h3,List.length_take]
  omega
theorem fL_stop {α:Type} {f:RS→α×RS} {j n:Nat} {s:RS} (h:(fL f j s).2.2=true) (hj:j≤n):fL f n s=fL f j s:=by
  induction n with
  | zero => have:j=0:=by omega
            subst this;rfl
  | succ n ih=>
    by_cases hi:j=n+1
    · subst hi;rfl
    · have:=ih (by omega)
      rw [fL,this,if_pos h]
theorem fL_step {α:Type} {f:RS→α×RS} {j:Nat} {s:RS} (h:(fL f j s).2.2=false):fL f (j+1) s=((fL f j s).1++ [(f (fL f j s).2).1],(f (fL f j s).2).2):=by
  rw [fL,if_neg (by rw [h];simp)]
end Go.Proofs.YthceefjafklcmaaGreatDoor
