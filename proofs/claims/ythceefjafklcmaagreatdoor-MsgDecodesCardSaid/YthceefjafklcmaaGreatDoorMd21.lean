/-
  Contracts of the functions that the law reaches: whole at entries.
-/
import Derived.Test.YthceefjafklcmaaGreatDoorMd17
import Derived.Test.YthceefjafklcmaaGreatDoorMd20
import Derived.Test.YthceefjafklcmaaGreatDoorMd7
namespace Go.Proofs.YthceefjafklcmaaGreatDoor
open Go.RowKit
theorem re_none (w:World) (rb:Nat) (bs:List UInt8) (h:Rdr w rb bs 0) (hr:rdE bs=none):
    Calls Tryz.prog 42 #[.pointer (some ⟨rb,0,none⟩)] w fun e w'=>e= .panicked [short] ∧RStep w w' rb∧∃bs',Rdr w' rb bs' 0:=
  (rEntry_any w rb bs h hr).mono fun _ _ ⟨h1,h2,h3⟩=>⟨h2,h1,h3⟩
theorem re_some (w:World) (rb:Nat) (bs:List UInt8) (h:Rdr w rb bs 0) {x:En} {r:List UInt8} (hr:rdE bs=some (x,r)):
    Calls Tryz.prog 42 #[.pointer (some ⟨rb,0,none⟩)] w fun e w'=>∃c:EC,e= .returned (.agg #[.int .u8 c.k, .int .u32 c.src, .int .u32 c.seq, .int .u8 c.v.k, .int .i64 c.v.n, .string c.v.s, .slice c.v.la c.v.ll c.v.lc, .slice c.v.oa c.v.ol c.v.oc, .slice c.oa c.ol c.oc])∧RStep w w' rb∧IsEntry (only (fun b=>w.heap.size≤b) w') w'.heap.size x c∧Rdr w' rb r 0:=
  (rEntry_any w rb bs h hr).mono fun _ _ ⟨h1,⟨c,h2,h3⟩,h4⟩=>⟨c,h2,h1,h3,h4⟩
theorem encode_e (sd:Bool) (w:World) (c:EC) (x:En) (hx:IsEntry w w.heap.size x c) (HS:Hid (∀W,Below w.heap.size w W→Calls Tryz.prog 36 #[.agg #[.int .u8 c.k, .int .u32 c.src, .int .u32 c.seq, .int .u8 c.v.k, .int .i64 c.v.n, .string c.v.s, .slice c.v.la c.v.ll c.v.lc, .slice c.v.oa c.v.ol c.v.oc, .slice c.oa c.ol c.oc]] W fun e w'=>e= .returned (.bool sd)∧Below W.heap.size W w')) (hsz:(encE x).length≤70368744177664):
    Calls Tryz.prog 39 #[.agg #[.int .u8 c.k, .int .u32 c.src, .int .u32 c.seq, .int .u8 c.v.k, .int .i64 c.v.n, .string c.v.s, .slice c.v.la c.v.ll c.v.lc, .slice c.v.oa c.v.ol c.v.oc, .slice c.oa c.ol c.oc]] w fun e w'=>(∃a n cc,e= .returned (.tuple #[.slice a n cc, .int .u16 (outN sd (encE x))])∧IsB w' w'.heap.size a n cc (outB sd (encE x)))∧Below w.heap.size w w':=by
  cases hx with
  | mk c v l hb hv ho=>
    obtain ⟨k,src,seq,⟨vk,vn,vs,vla,vll,vlc,voa,vol,voc⟩,oa,ol,oc⟩:=c
    exact encode_of sd w k src seq vk vn vs vla vll vlc voa vol voc oa ol oc v l hb.k0 hb.k1 hv ho HS (fun _=>hsz)
theorem results_wholeE {tmps:Array Value} {W:World} {b b':Nat} {c:EC} {x:Value} (ht:tmps[6]? =some (.pointer (some ⟨b,0,none⟩))) (ht':tmps[7]? =some (.pointer (some ⟨b',0,none⟩))) (h:BC W b [.int .u8 c.k, .int .u32 c.src, .int .u32 c.seq, .int .u8 c.v.k, .int .i64 c.v.n, .string c.v.s, .slice c.v.la c.v.ll c.v.lc, .slice c.v.oa c.v.ol c.v.oc, .slice c.oa c.ol c.oc]) (h':BC W b' [x]):
    (results Tryz.f41 tmps).run Tryz.prog W= .ok (.tuple #[.agg #[.int .u8 c.k, .int .u32 c.src, .int .u32 c.seq, .int .u8 c.v.k, .int .i64 c.v.n, .string c.v.s, .slice c.v.la c.v.ll c.v.lc, .slice c.v.oa c.v.ol c.v.oc, .slice c.oa c.ol c.oc],x]) W:=by
  obtain ⟨r0,r1,r2,r3,r4,r5,r6,r7,r8⟩:=row9 h.at_
  have s0:=h'.at_ 0 _ rfl
  simp [results,Tryz.results41,go_sem,ht,ht',s0,r0,r1,r2,r3,r4,r5,r6,r7,r8]
def WEPost (w:World) (r:En×Int) (e:Ending) (w':World):Prop:=
  (∃c:EC,e= .returned (.tuple #[.agg #[.int .u8 c.k, .int .u32 c.src, .int .u32 c.seq, .int .u8 c.v.k, .int .i64 c.v.n, .string c.v.s, .slice c.v.la c.v.ll c.v.lc, .slice c.v.oa c.v.ol c.v.oc, .slice c.oa c.ol c.oc], .int .u16 r.2])∧IsEntry (only (fun b=>w.heap.size≤b) w') w'.heap.size r.1 c)∧Below w.heap.size w w'
theorem wdoorE_short {tmps:Array Value} {w W:World} {cs:List Value} {x:Value} (H:WH w W ez cs x) (hl:cs.length=9) (ht:tmps[6]? =some (.pointer (some ⟨w.heap.size,0,none⟩))) (ht':tmps[7]? =some (.pointer (some ⟨w.heap.size+1,0,none⟩))):
    Leaves Tryz.prog Tryz.f41 tmps (WEPost w (En.none,100)) [{ target:= .fn (.func 69) #[.pointer (some ⟨w.heap.size+1+1,0,none⟩), .pointer (some ⟨w.heap.size,0,none⟩), .pointer (some ⟨w.heap.size+1,0,none⟩)],args:= #[] }] (.panicking [short]) W:=by
  refine leaves_cons (f:=69) (args:= #[.pointer (some ⟨w.heap.size+1+1,0,none⟩), .pointer (some ⟨w.heap.size,0,none⟩), .pointer (some ⟨w.heap.size+1,0,none⟩)]) (by simp) (by simp [go_sem]) ?_
  refine (catchE_short (w.heap.size+2) w.heap.size (w.heap.size+1) W H.non cs H.out hl x H.err (by omega) (by omega)).mono ?_
  rintro e u' w'' ⟨rfl,rfl,hw⟩
  show Leaves _ _ _ _ [] .returning w''
  obtain ⟨W1,hW1⟩:∃W1,(((((((((W.setCell ⟨w.heap.size,0,none⟩ (.int .u8 0)).setCell ⟨w.heap.size,1,none⟩ (.int .u32 0)).setCell ⟨w.heap.size,2,none⟩ (.int .u32 0)).setCell ⟨w.heap.size,3,none⟩ (.int .u8 0)).setCell ⟨w.heap.size,4,none⟩ (.int .i64 0)).setCell ⟨w.heap.size,5,none⟩ (.string { data:= #[] })).setCell ⟨w.heap.size,6,none⟩ (.slice none 0 0)).setCell ⟨w.heap.size,7,none⟩ (.slice none 0 0)).setCell ⟨w.heap.size,8,none⟩ (.slice none 0 0))=W1:=⟨_,rfl⟩
  have c1:BC W1 w.heap.size ez:=by
    rw [←hW1]
    match cs,hl,H.out with
    | [z0,z1,z2,z3,z4,z5,z6,z7,z8],_,ho=>exact (((((((((ho.set (i:=0) (x:= .int .u8 0) (by simp)).set (i:=1) (x:= .int .u32 0) (by simp)).set (i:=2) (x:= .int .u32 0) (by simp)).set (i:=3) (x:= .int .u8 0) (by simp)).set (i:=4) (x:= .int .i64 0) (by simp)).set (i:=5) (x:= .string { data:= #[] }) (by simp)).set (i:=6) (x:= .slice none 0 0) (by simp)).set (i:=7) (x:= .slice none 0 0) (by simp)).set (i:=8) (x:= .slice none 0 0) (by simp))
  have e1:BC W1 (w.heap.size+1) [x] :=by
    rw [←hW1]
    exact (((((((((H.err.far (by omega)).far (by omega)).far (by omega)).far (by omega)).far (by omega)).far (by omega)).far (by omega)).far (by omega)).far (by omega))
  have s1:RStep W W1 w.heap.size:=by rw [←hW1];exact (((((((RStep.self.trans RStep.self).trans RStep.self).trans RStep.self).trans RStep.self).trans RStep.self).trans RStep.self).trans RStep.self).trans RStep.self
  rw [hW1] at hw
  have c2:BC (W1.setCell ⟨w.heap.size+1,0,none⟩ (.int .u16 100)) w.heap.size ez:=c1.far (by omega)
  have e2:BC (W1.setCell ⟨w.heap.size+1,0,none⟩ (.int .u16 100)) (w.heap.size+1) [.int .u16 100] :=e1.set (i:=0) (x:= .int .u16 100) (by simp)
  have hb:Below (W1.setCell ⟨w.heap.size+1,0,none⟩ (.int .u16 100)).heap.size (W1.setCell ⟨w.heap.size+1,0,none⟩ (.int .u16 100)) w'':=by rw [hw];exact (Below.refl _ _).alloc (Nat.le_refl _) _
  have s2:RStep W1 (W1.setCell ⟨w.heap.size+1,0,none⟩ (.int .u16 100)) (w.heap.size+1):=RStep.self
  have hlt:=H.out.lt
  have hB:Below w.heap.size w w'':=by
    have b1:Below w.heap.size W W1:=s1.below (by omega)
    have b2:Below w.heap.size W1 (W1.setCell ⟨w.heap.size+1,0,none⟩ (.int .u16 100)):=(s2.below (by have:=s1.size;have:=H.err.lt;omega)).mono (by omega)
    have z1:=s1.size
    have z2:=s2.size
    exact ((H.below.trans b1).trans b2).trans (hb.mono (by omega))
  exact ⟨_,results_wholeE (c:=ezero) ht ht' (c2.keep hb c2.lt) (e2.keep hb e2.lt),⟨ezero,rfl,isEntry_none _ _⟩,hB⟩
theorem wdoorE_idle {tmps:Array Value} {w W:World} {c:EC} {v:En} {x:Int} (H:WH w W ez [.int .u8 c.k, .int .u32 c.src, .int .u32 c.seq, .int .u8 c.v.k, .int .i64 c.v.n, .string c.v.s, .slice c.v.la c.v.ll c.v.lc, .slice c.v.oa c.v.ol c.v.oc, .slice c.oa c.ol c.oc] (.int .u16 x)) (hv:IsEntry (only (fun b=>w.heap.size≤b) W) W.heap.size v c) (ht:tmps[6]? =some (.pointer (some ⟨w.heap.size,0,none⟩))) (ht':tmps[7]? =some (.pointer (some ⟨w.heap.size+1,0,none⟩))):
    Leaves Tryz.prog Tryz.f41 tmps (WEPost w (v,x)) [{ target:= .fn (.func 69) #[.pointer (some ⟨w.heap.size+1+1,0,none⟩), .pointer (some ⟨w.heap.size,0,none⟩), .pointer (some ⟨w.heap.size+1,0,none⟩)],args:= #[] }] .returning W:=by
  refine leaves_cons (f:=69) (args:= #[.pointer (some ⟨w.heap.size+1+1,0,none⟩), .pointer (some ⟨w.heap.size,0,none⟩), .pointer (some ⟨w.heap.size+1,0,none⟩)]) (by simp) (by simp [go_sem]) ?_
  refine (catchE_idle (w.heap.size+2) w.heap.size (w.heap.size+1) W).mono ?_
  rintro e u' w'' ⟨rfl,rfl,rfl⟩
  exact ⟨_,results_wholeE ht ht' H.out H.err,⟨c,rfl,hv⟩,H.below⟩
theorem WH.storeE {w W:World} {z0 z1 z2 z3 z4 z5 z6 z7 z8 x:Value} (h:WH w W ez [z0,z1,z2,z3,z4,z5,z6,z7,z8] x) (c:EC):WH w ((((((((((W.setCell ⟨w.heap.size,0,none⟩ (.int .u8 c.k)).setCell ⟨w.heap.size,1,none⟩ (.int .u32 c.src)).setCell ⟨w.heap.size,2,none⟩ (.int .u32 c.seq)).setCell ⟨w.heap.size,3,none⟩ (.int .u8 c.v.k)).setCell ⟨w.heap.size,4,none⟩ (.int .i64 c.v.n)).setCell ⟨w.heap.size,5,none⟩ (.string c.v.s)).setCell ⟨w.heap.size,6,none⟩ (.slice c.v.la c.v.ll c.v.lc)).setCell ⟨w.heap.size,7,none⟩ (.slice c.v.oa c.v.ol c.v.oc)).setCell ⟨w.heap.size,8,none⟩ (.slice c.oa c.ol c.oc))) ez [.int .u8 c.k, .int .u32 c.src, .int .u32 c.seq, .int .u8 c.v.k, .int .i64 c.v.n, .string c.v.s, .slice c.v.la c.v.ll c.v.lc, .slice c.v.oa c.v.ol c.v.oc, .slice c.oa c.ol c.oc] x∧RStep W ((((((((((W.setCell ⟨w.heap.size,0,none⟩ (.int .u8 c.k)).setCell ⟨w.heap.size,1,none⟩ (.int .u32 c.src)).setCell ⟨w.heap.size,2,none⟩ (.int .u32 c.seq)).setCell ⟨w.heap.size,3,none⟩ (.int .u8 c.v.k)).setCell ⟨w.heap.size,4,none⟩ (.int .i64 c.v.n)).setCell ⟨w.heap.size,5,none⟩ (.string c.v.s)).setCell ⟨w.heap.size,6,none⟩ (.slice c.v.la c.v.ll c.v.lc)).setCell ⟨w.heap.size,7,none⟩ (.slice c.v.oa c.v.ol c.v.oc)).setCell ⟨w.heap.size,8,none⟩ (.slice c.oa c.ol c.oc))) w.heap.size:=by
  have s1:RStep W ((((((((((W.setCell ⟨w.heap.size,0,none⟩ (.int .u8 c.k)).setCell ⟨w.heap.size,1,none⟩ (.int .u32 c.src)).setCell ⟨w.heap.size,2,none⟩ (.int .u32 c.seq)).setCell ⟨w.heap.size,3,none⟩ (.int .u8 c.v.k)).setCell ⟨w.heap.size,4,none⟩ (.int .i64 c.v.n)).setCell ⟨w.heap.size,5,none⟩ (.string c.v.s)).setCell ⟨w.heap.size,6,none⟩ (.slice c.v.la c.v.ll c.v.lc)).setCell ⟨w.heap.size,7,none⟩ (.slice c.v.oa c.v.ol c.v.oc)).setCell ⟨w.heap.size,8,none⟩ (.slice c.oa c.ol c.oc))) w.heap.size:=(((((((RStep.self.trans RStep.self).trans RStep.self).trans RStep.self).trans RStep.self).trans RStep.self).trans RStep.self).trans RStep.self).trans RStep.self
  have hlt:=h.out.lt
  exact ⟨⟨(((((((((h.out.set (i:=0) (x:= .int .u8 c.k) (by simp)).set (i:=1) (x:= .int .u32 c.src) (by simp)).set (i:=2) (x:= .int .u32 c.seq) (by simp)).set (i:=3) (x:= .int .u8 c.v.k) (by simp)).set (i:=4) (x:= .int .i64 c.v.n) (by simp)).set (i:=5) (x:= .string c.v.s) (by simp)).set (i:=6) (x:= .slice c.v.la c.v.ll c.v.lc) (by simp)).set (i:=7) (x:= .slice c.v.oa c.v.ol c.v.oc) (by simp)).set (i:=8) (x:= .slice c.oa c.ol c.oc) (by simp)),h.err.next s1 (by omega),h.non.next s1 (by omega),h.below.trans (s1.below (by omega))⟩,s1⟩
set_option maxHeartbeats 4000000 in
set_option maxRecDepth 100000 in
theorem wholeE_none (w:World) (a:Option Addr) (n c:Nat) (bs:List UInt8) (h:IsB w w.heap.size a n c bs) (hn:bs.length≤60000) (hr:rdE bs=none):
    Calls Tryz.prog 41 #[.slice a n c, .func (.func 42) #[] #[], .func (.func 39) #[] #[]] w (WEPost w (En.none,100)):=by
  have hmf:∀(fn:Fn) (first cap:Array Value) (w:World),(Instr.makeFunc fn first cap).run Tryz.prog w= .ok (.func fn first cap) w:=fun _ _ _ _=>rfl
  have HS:=Lib.hid (WH.start w ez bs a n c h)
  have hnn:=h.len
  have hn2:¬60000<n:=by omega
  clear h hnn hn
  go_enter_defers Tryz.func41,Tryz.ntmps41
  go_wp2_with (go_at_call 42;refine (re_none _ (w.heap.size+3) bs (HS.out _ _ _ _ _ rfl).2.1 hr).mono ?_;rintro e w4 ⟨rfl,hS4,hR4⟩)
  have HH:=HS.out _ _ _ _ _ hS4.src
  exact wdoorE_short (HH.1.read hS4 (by omega)) rfl rfl rfl
set_option maxHeartbeats 4000000 in
set_option maxRecDepth 100000 in
theorem wholeE_long (w:World) (a:Option Addr) (n c:Nat) (bs:List UInt8) (h:IsB w w.heap.size a n c bs) (hn:60000<bs.length):
    Calls Tryz.prog 41 #[.slice a n c, .func (.func 42) #[] #[], .func (.func 39) #[] #[]] w (WEPost w (En.none,3)):=by
  have hnn:=h.len
  have hn2:60000<n:=by omega
  clear h hnn hn
  go_enter_defers Tryz.func41,Tryz.ntmps41
  go_wp2_with fail
  obtain ⟨w1,hw1⟩:∃w1,w.alloc (.cells ez.toArray 31)=w1:=⟨_,rfl⟩
  have s1:w1.heap.size=w.heap.size+1:=by rw [←hw1,World.size_alloc]
  have b1:Below w.heap.size w w1:=by rw [←hw1];exact (Below.refl _ _).alloc (Nat.le_refl _) _
  have c1:BC w1 w.heap.size ez:=by rw [←hw1];exact BC.start w ez.toArray _
  obtain ⟨w2,hw2⟩:∃w2,w1.alloc (.cells #[.int .u16 3] 33)=w2:=⟨_,rfl⟩
  have s2:w2.heap.size=w.heap.size+2:=by rw [←hw2,World.size_alloc,s1]
  have b2:Below w1.heap.size w1 w2:=by rw [←hw2];exact (Below.refl _ _).alloc (Nat.le_refl _) _
  have c2:BC w2 (w.heap.size+1) [.int .u16 3] :=by rw [←hw2, ←s1];exact BC.start w1 #[.int .u16 3] _
  have b3:Below w2.heap.size w2 (w2.alloc (.cells ez.toArray 31)):=(Below.refl _ _).alloc (Nat.le_refl _) _
  have hB:Below w.heap.size w (w2.alloc (.cells ez.toArray 31)):=(b1.trans (b2.mono (by omega))).trans (b3.mono (by omega))
  have hfin:WEPost w (En.none,3) (.returned (.tuple #[.agg #[.int .u8 ezero.k, .int .u32 ezero.src, .int .u32 ezero.seq, .int .u8 ezero.v.k, .int .i64 ezero.v.n, .string ezero.v.s, .slice ezero.v.la ezero.v.ll ezero.v.lc, .slice ezero.v.oa ezero.v.ol ezero.v.oc, .slice ezero.oa ezero.ol ezero.oc], .int .u16 3])) (w2.alloc (.cells ez.toArray 31)):=⟨⟨ezero,rfl,isEntry_none _ _⟩,hB⟩
  have hres:=fun tmps ht ht'=>results_wholeE (tmps:=tmps) (c:=ezero) ht ht' ((c1.keep b2 (by omega)).keep b3 (by omega)) (c2.keep b3 (by omega))
  rw [←hw2, ←hw1] at hfin hres
  exact ⟨_,hres _ rfl rfl,hfin⟩
set_option maxHeartbeats 8000000 in
set_option maxRecDepth 100000 in
theorem wholeE_bad (w:World) (a:Option Addr) (n c:Nat) (bs:List UInt8) (h:IsB w w.heap.size a n c bs) (hn:bs.length≤60000) {v:En} {r:List UInt8} (hr:rdE bs=some (v,r)) (hsz:(encE v).length≤70368744177664) (sd:Bool)
    (HLV:Hid (∀W5,Below w.heap.size w W5→∀cv:EC,IsEntry W5 W5.heap.size v cv→Hid (∀W,Below W5.heap.size W5 W→Calls Tryz.prog 36 #[.agg #[.int .u8 cv.k, .int .u32 cv.src, .int .u32 cv.seq, .int .u8 cv.v.k, .int .i64 cv.v.n, .string cv.v.s, .slice cv.v.la cv.v.ll cv.v.lc, .slice cv.v.oa cv.v.ol cv.v.oc, .slice cv.oa cv.ol cv.oc]] W fun e w'=>e= .returned (.bool sd)∧Below W.heap.size W w'))) (hbad:outN sd (encE v)≠0):
    Calls Tryz.prog 41 #[.slice a n c, .func (.func 42) #[] #[], .func (.func 39) #[] #[]] w (WEPost w (En.none,100)):=by
  have hmf:∀(fn:Fn) (first cap:Array Value) (w:World),(Instr.makeFunc fn first cap).run Tryz.prog w= .ok (.func fn first cap) w:=fun _ _ _ _=>rfl
  have HS:=Lib.hid (WH.start w ez bs a n c h)
  have hnn:=h.len
  have hn2:¬60000<n:=by omega
  obtain ⟨en,hen⟩:∃en,encE v=en:=⟨_,rfl⟩
  have HEN:=Lib.hid hen
  obtain ⟨N,hN⟩:∃N,outN sd en=N:=⟨_,rfl⟩
  have HN:=Lib.hid hN
  rw [hen,hN] at hbad
  have fN:(N==0)=false:=by simpa using hbad
  have fN2:(N !=0)=true:=by simpa using hbad
  have fN3:decide (N=0)=false:=by simpa using hbad
  clear h hnn hn hen hN
  go_enter_defers Tryz.func41,Tryz.ntmps41
  go_wp2_with (first|(go_at_call 42;refine (re_some _ (w.heap.size+3) bs (HS.out _ _ _ _ _ rfl).2.1 hr).mono ?_;rintro e w4 ⟨cv,rfl,hS4,hI4,hR4⟩;have HH:=HS.out _ _ _ _ _ hS4.src;have H4:=HH.1.read hS4 (by omega);have O:=H4.out;have o0:=O.at_ 0 _ rfl;have g0:=O.fr 0;have o1:=O.at_ 1 _ rfl;have g1:=O.fr 1;have o2:=O.at_ 2 _ rfl;have g2:=O.fr 2;have o3:=O.at_ 3 _ rfl;have g3:=O.fr 3;have o4:=O.at_ 4 _ rfl;have g4:=O.fr 4;have o5:=O.at_ 5 _ rfl;have g5:=O.fr 5;have o6:=O.at_ 6 _ rfl;have g6:=O.fr 6;have o7:=O.at_ 7 _ rfl;have g7:=O.fr 7;have o8:=O.at_ 8 _ rfl;have g8:=O.fr 8;have H5:=H4.storeE cv;have hV5:=(isEntry_far (hI4.sub (shows_step (S':=fun b=>w.heap.size+4≤b) fun k hk _=>⟨by have:=HH.2.2;omega,rfl⟩)) H5.2 (by omega)).sub (shows_only _ _ _);have HV5:=Lib.hid hV5;have HH5:=Lib.hid H5.1;clear hI4 hV5 H5 H4 HH O)|(go_at_call 39;refine (encode_e sd _ cv v HV5.out (HLV.out _ HH5.out.below cv HV5.out) hsz).mono ?_;rw [HEN.out];rintro e w6 ⟨⟨ra,rn,rc,rfl,hI6⟩,hb6⟩;rw [HN.out];have H6:=HH5.out.next hb6;clear hI6;have o0:=H6.out.at_ 0 _ rfl;have g0:=H6.out.fr 0;have n0:=H6.non.at_ 0 _ rfl;have o1:=H6.out.at_ 1 _ rfl;have g1:=H6.out.fr 1;have n1:=H6.non.at_ 1 _ rfl;have o2:=H6.out.at_ 2 _ rfl;have g2:=H6.out.fr 2;have n2:=H6.non.at_ 2 _ rfl;have o3:=H6.out.at_ 3 _ rfl;have g3:=H6.out.fr 3;have n3:=H6.non.at_ 3 _ rfl;have o4:=H6.out.at_ 4 _ rfl;have g4:=H6.out.fr 4;have n4:=H6.non.at_ 4 _ rfl;have o5:=H6.out.at_ 5 _ rfl;have g5:=H6.out.fr 5;have n5:=H6.non.at_ 5 _ rfl;have o6:=H6.out.at_ 6 _ rfl;have g6:=H6.out.fr 6;have n6:=H6.non.at_ 6 _ rfl;have o7:=H6.out.at_ 7 _ rfl;have g7:=H6.out.fr 7;have n7:=H6.non.at_ 7 _ rfl;have o8:=H6.out.at_ 8 _ rfl;have g8:=H6.out.fr 8;have n8:=H6.non.at_ 8 _ rfl;have x0:=H6.err.at_ 0 _ rfl;have xf:=H6.err.fr 0;have HH6:=Lib.hid H6;clear H6))
  refine wdoorE_idle (c:=ezero) (v:=En.none) ?_ ?_ ?_ ?_
  · exact (HH6.out.storeE ezero).1.setErr
  · exact isEntry_none _ _
  · rfl
  · rfl
set_option maxHeartbeats 8000000 in
set_option maxRecDepth 100000 in
theorem wholeE_neq (w:World) (a:Option Addr) (n c:Nat) (bs:List UInt8) (h:IsB w w.heap.size a n c bs) (hn:bs.length≤60000) {v:En} {r:List UInt8} (hr:rdE bs=some (v,r)) (hsz:(encE v).length≤70368744177664) (sd:Bool)
    (HLV:Hid (∀W5,Below w.heap.size w W5→∀cv:EC,IsEntry W5 W5.heap.size v cv→Hid (∀W,Below W5.heap.size W5 W→Calls Tryz.prog 36 #[.agg #[.int .u8 cv.k, .int .u32 cv.src, .int .u32 cv.seq, .int .u8 cv.v.k, .int .i64 cv.v.n, .string cv.v.s, .slice cv.v.la cv.v.ll cv.v.lc, .slice cv.v.oa cv.v.ol cv.v.oc, .slice cv.oa cv.ol cv.oc]] W fun e w'=>e= .returned (.bool sd)∧Below W.heap.size W w'))) (hok:outN sd (encE v)=0) (heq:eqBs (outB sd (encE v)) bs=false):
    Calls Tryz.prog 41 #[.slice a n c, .func (.func 42) #[] #[], .func (.func 39) #[] #[]] w (WEPost w (En.none,100)):=by
  have hmf:∀(fn:Fn) (first cap:Array Value) (w:World),(Instr.makeFunc fn first cap).run Tryz.prog w= .ok (.func fn first cap) w:=fun _ _ _ _=>rfl
  have HS:=Lib.hid (WH.start w ez bs a n c h)
  have HI:=Lib.hid h
  have hnn:=h.len
  have hn2:¬60000<n:=by omega
  obtain ⟨en,hen⟩:∃en,encE v=en:=⟨_,rfl⟩
  rw [hen] at hok heq
  have HEN:=Lib.hid hen
  have HN:=Lib.hid hok
  have HE:=Lib.hid heq
  clear h hnn hn hen hok heq
  go_enter_defers Tryz.func41,Tryz.ntmps41
  go_wp2_with (first|(go_at_call 42;refine (re_some _ (w.heap.size+3) bs (HS.out _ _ _ _ _ rfl).2.1 hr).mono ?_;rintro e w4 ⟨cv,rfl,hS4,hI4,hR4⟩;have HH:=HS.out _ _ _ _ _ hS4.src;have H4:=HH.1.read hS4 (by omega);have O:=H4.out;have o0:=O.at_ 0 _ rfl;have g0:=O.fr 0;have o1:=O.at_ 1 _ rfl;have g1:=O.fr 1;have o2:=O.at_ 2 _ rfl;have g2:=O.fr 2;have o3:=O.at_ 3 _ rfl;have g3:=O.fr 3;have o4:=O.at_ 4 _ rfl;have g4:=O.fr 4;have o5:=O.at_ 5 _ rfl;have g5:=O.fr 5;have o6:=O.at_ 6 _ rfl;have g6:=O.fr 6;have o7:=O.at_ 7 _ rfl;have g7:=O.fr 7;have o8:=O.at_ 8 _ rfl;have g8:=O.fr 8;have H5:=H4.storeE cv;have hV5:=(isEntry_far (hI4.sub (shows_step (S':=fun b=>w.heap.size+4≤b) fun k hk _=>⟨by have:=HH.2.2;omega,rfl⟩)) H5.2 (by omega)).sub (shows_only _ _ _);have HV5:=Lib.hid hV5;have HH5:=Lib.hid H5.1;clear hI4 hV5 H5 H4 HH O)|(go_at_call 39;refine (encode_e sd _ cv v HV5.out (HLV.out _ HH5.out.below cv HV5.out) hsz).mono ?_;rw [HEN.out];rintro e w6 ⟨⟨ra,rn,rc,rfl,hI6⟩,hb6⟩;rw [HN.out];have H6:=HH5.out.next hb6;have HI6:=Lib.hid hI6;clear hI6;have o0:=H6.out.at_ 0 _ rfl;have g0:=H6.out.fr 0;have n0:=H6.non.at_ 0 _ rfl;have o1:=H6.out.at_ 1 _ rfl;have g1:=H6.out.fr 1;have n1:=H6.non.at_ 1 _ rfl;have o2:=H6.out.at_ 2 _ rfl;have g2:=H6.out.fr 2;have n2:=H6.non.at_ 2 _ rfl;have o3:=H6.out.at_ 3 _ rfl;have g3:=H6.out.fr 3;have n3:=H6.non.at_ 3 _ rfl;have o4:=H6.out.at_ 4 _ rfl;have g4:=H6.out.fr 4;have n4:=H6.non.at_ 4 _ rfl;have o5:=H6.out.at_ 5 _ rfl;have g5:=H6.out.fr 5;have n5:=H6.non.at_ 5 _ rfl;have o6:=H6.out.at_ 6 _ rfl;have g6:=H6.out.fr 6;have n6:=H6.non.at_ 6 _ rfl;have o7:=H6.out.at_ 7 _ rfl;have g7:=H6.out.fr 7;have n7:=H6.non.at_ 7 _ rfl;have o8:=H6.out.at_ 8 _ rfl;have g8:=H6.out.fr 8;have n8:=H6.non.at_ 8 _ rfl;have x0:=H6.err.at_ 0 _ rfl;have xf:=H6.err.fr 0;have HH6:=Lib.hid H6;clear H6))
  refine (equal_any w6 _ _ ra a rn n rc c _ bs HI6.out (HI.out.keep HH6.out.below)).mono ?_
  rw [HE.out]
  rintro e w7 ⟨rfl,rfl⟩
  go_wp2_with fail
  refine wdoorE_idle (c:=ezero) (v:=En.none) ?_ ?_ ?_ ?_
  · exact (HH6.out.storeE ezero).1.setErr
  · exact isEntry_none _ _
  · rfl
  · rfl
set_option maxHeartbeats 8000000 in
set_option maxRecDepth 100000 in
theorem wholeE_eq (w:World) (a:Option Addr) (n c:Nat) (bs:List UInt8) (h:IsB w w.heap.size a n c bs) (hn:bs.length≤60000) {v:En} {r:List UInt8} (hr:rdE bs=some (v,r)) (hsz:(encE v).length≤70368744177664) (sd:Bool)
    (HLV:Hid (∀W5,Below w.heap.size w W5→∀cv:EC,IsEntry W5 W5.heap.size v cv→Hid (∀W,Below W5.heap.size W5 W→Calls Tryz.prog 36 #[.agg #[.int .u8 cv.k, .int .u32 cv.src, .int .u32 cv.seq, .int .u8 cv.v.k, .int .i64 cv.v.n, .string cv.v.s, .slice cv.v.la cv.v.ll cv.v.lc, .slice cv.v.oa cv.v.ol cv.v.oc, .slice cv.oa cv.ol cv.oc]] W fun e w'=>e= .returned (.bool sd)∧Below W.heap.size W w'))) (hok:outN sd (encE v)=0) (heq:eqBs (outB sd (encE v)) bs=true):
    Calls Tryz.prog 41 #[.slice a n c, .func (.func 42) #[] #[], .func (.func 39) #[] #[]] w (WEPost w (v,0)):=by
  have hmf:∀(fn:Fn) (first cap:Array Value) (w:World),(Instr.makeFunc fn first cap).run Tryz.prog w= .ok (.func fn first cap) w:=fun _ _ _ _=>rfl
  have HS:=Lib.hid (WH.start w ez bs a n c h)
  have HI:=Lib.hid h
  have hnn:=h.len
  have hn2:¬60000<n:=by omega
  obtain ⟨en,hen⟩:∃en,encE v=en:=⟨_,rfl⟩
  rw [hen] at hok heq
  have HEN:=Lib.hid hen
  have HN:=Lib.hid hok
  have HE:=Lib.hid heq
  clear h hnn hn hen hok heq
  go_enter_defers Tryz.func41,Tryz.ntmps41
  go_wp2_with (first|(go_at_call 42;refine (re_some _ (w.heap.size+3) bs (HS.out _ _ _ _ _ rfl).2.1 hr).mono ?_;rintro e w4 ⟨cv,rfl,hS4,hI4,hR4⟩;have HH:=HS.out _ _ _ _ _ hS4.src;have H4:=HH.1.read hS4 (by omega);have O:=H4.out;have o0:=O.at_ 0 _ rfl;have g0:=O.fr 0;have o1:=O.at_ 1 _ rfl;have g1:=O.fr 1;have o2:=O.at_ 2 _ rfl;have g2:=O.fr 2;have o3:=O.at_ 3 _ rfl;have g3:=O.fr 3;have o4:=O.at_ 4 _ rfl;have g4:=O.fr 4;have o5:=O.at_ 5 _ rfl;have g5:=O.fr 5;have o6:=O.at_ 6 _ rfl;have g6:=O.fr 6;have o7:=O.at_ 7 _ rfl;have g7:=O.fr 7;have o8:=O.at_ 8 _ rfl;have g8:=O.fr 8;have H5:=H4.storeE cv;have hV5:=(isEntry_far (hI4.sub (shows_step (S':=fun b=>w.heap.size+4≤b) fun k hk _=>⟨by have:=HH.2.2;omega,rfl⟩)) H5.2 (by omega));have HVF:=Lib.hid hV5;have HV5:=Lib.hid (hV5.sub (shows_only _ _ _));have HH5:=Lib.hid H5.1;clear hI4 hV5 H5 H4 HH O)|(go_at_call 39;refine (encode_e sd _ cv v HV5.out (HLV.out _ HH5.out.below cv HV5.out) hsz).mono ?_;rw [HEN.out];rintro e w6 ⟨⟨ra,rn,rc,rfl,hI6⟩,hb6⟩;rw [HN.out];have H6:=HH5.out.next hb6;have HI6:=Lib.hid hI6;have HV6:=Lib.hid (isEntry_far HVF.out (RStep.of_below w.heap.size hb6) (by omega));clear hI6;have o0:=H6.out.at_ 0 _ rfl;have g0:=H6.out.fr 0;have n0:=H6.non.at_ 0 _ rfl;have o1:=H6.out.at_ 1 _ rfl;have g1:=H6.out.fr 1;have n1:=H6.non.at_ 1 _ rfl;have o2:=H6.out.at_ 2 _ rfl;have g2:=H6.out.fr 2;have n2:=H6.non.at_ 2 _ rfl;have o3:=H6.out.at_ 3 _ rfl;have g3:=H6.out.fr 3;have n3:=H6.non.at_ 3 _ rfl;have o4:=H6.out.at_ 4 _ rfl;have g4:=H6.out.fr 4;have n4:=H6.non.at_ 4 _ rfl;have o5:=H6.out.at_ 5 _ rfl;have g5:=H6.out.fr 5;have n5:=H6.non.at_ 5 _ rfl;have o6:=H6.out.at_ 6 _ rfl;have g6:=H6.out.fr 6;have n6:=H6.non.at_ 6 _ rfl;have o7:=H6.out.at_ 7 _ rfl;have g7:=H6.out.fr 7;have n7:=H6.non.at_ 7 _ rfl;have o8:=H6.out.at_ 8 _ rfl;have g8:=H6.out.fr 8;have n8:=H6.non.at_ 8 _ rfl;have x0:=H6.err.at_ 0 _ rfl;have xf:=H6.err.fr 0;have HH6:=Lib.hid H6;clear H6))
  refine (equal_any w6 _ _ ra a rn n rc c _ bs HI6.out (HI.out.keep HH6.out.below)).mono ?_
  rw [HE.out]
  rintro e w7 ⟨rfl,rfl⟩
  go_wp2_with fail
  have HST:=HH6.out.storeE cv
  exact wdoorE_idle (c:=cv) HST.1.setErr ((isEntry_far (isEntry_far HV6.out HST.2 (by omega)) (RStep.self (b:=w.heap.size+1)) (by omega)).sub (shows_step fun k hk _=>⟨by omega,rfl⟩)) rfl rfl
end Go.Proofs.YthceefjafklcmaaGreatDoor
