/-
  CodeEncodes: for every record of bulk at most 1048576 the law returns true and the record reads as it did. Conditions: that bulk (the second form); Go's two UTF-8 tables are what the program's text lays (the card ties them).
-/
import Derived.Test.YtgcfhkceejcliaaGreatDoorEnc12
import Derived.Test.YtgcfhkceejcliaaGreatDoorRows
import Derived.Test.YtgcfhkceejcliaaGreatDoorCards
import Derived.Test.YtgcfhkceejcliaaGreatDoorTie
import Derived.PinnedBridge
import Derived.Lib.LaidIn
import Derived.Lib.LaidU8T
import Derived.Deep.DeepHandedRow
import Derived.Deep.DeepWitnessRowRef
import Derived.ProofKit
import Derived.SizedLaws
import Derived.SevenTiedAt
namespace Go.Proofs.YtgcfhkceejcliaaGreatDoor
open Go.RowKit
theorem results_backE {tmps:Array Value} {W:World} {b:Nat} {cv:EC} {x:Value} (ht:tmps[2]? =some (.pointer (some ⟨b,0,none⟩))) (ht':tmps[3]? =some x) (h:BC W b [.int .u8 cv.k, .int .u32 cv.src, .int .u32 cv.seq, .int .u8 cv.v.k, .int .i64 cv.v.n, .string cv.v.s, .slice cv.v.la cv.v.ll cv.v.lc, .slice cv.v.oa cv.v.ol cv.v.oc, .slice cv.oa cv.ol cv.oc]):
    (results Tryz.f14 tmps).run Tryz.prog W= .ok (.tuple #[.agg #[.int .u8 cv.k, .int .u32 cv.src, .int .u32 cv.seq, .int .u8 cv.v.k, .int .i64 cv.v.n, .string cv.v.s, .slice cv.v.la cv.v.ll cv.v.lc, .slice cv.v.oa cv.v.ol cv.v.oc, .slice cv.oa cv.ol cv.oc],x]) W:=by
  obtain ⟨r0,r1,r2,r3,r4,r5,r6,r7,r8⟩:=row9 h.at_
  simp [results,Tryz.results14,go_sem,ht,ht',r0,r1,r2,r3,r4,r5,r6,r7,r8]
set_option maxHeartbeats 4000000 in
set_option maxRecDepth 100000 in
theorem backE_few (w:World) (hT:Tabs w) (a:Option Addr) (n c:Nat) (bs:List UInt8) (h:IsB w w.heap.size a n c bs) {v:En} {e:Int} (HWH:Hid (∀W,Tabs W→IsB W W.heap.size a n c bs→Calls Tryz.prog 38 #[.slice a n c, .func (.func 39) #[] #[], .func (.func 8) #[] #[]] W (WEPost W (v,e)))):
    Calls Tryz.prog 14 #[.slice a n c] w fun ee w'=>(∃cv:EC,ee= .returned (.tuple #[.agg #[.int .u8 cv.k, .int .u32 cv.src, .int .u32 cv.seq, .int .u8 cv.v.k, .int .i64 cv.v.n, .string cv.v.s, .slice cv.v.la cv.v.ll cv.v.lc, .slice cv.v.oa cv.v.ol cv.v.oc, .slice cv.oa cv.ol cv.oc], .int .u16 e])∧IsEntry w' w'.heap.size v cv)∧Below w.heap.size w w':=by
  have HX:Hid (∀W,W=w.alloc (.cells ez.toArray 36)→Tabs W∧IsB W W.heap.size a n c bs∧BC W w.heap.size ez∧Below w.heap.size w W∧W.heap.size=w.heap.size+1):=by
    intro W hW
    subst hW
    have hb:Below w.heap.size w (w.alloc (.cells ez.toArray 36)):=(Below.refl _ _).alloc (Nat.le_refl _) _
    exact ⟨hT.below hb,(h.keep hb).more hb.size,BC.start w ez.toArray _,hb,by simp⟩
  clear h hT
  go_enter Tryz.func14,Tryz.ntmps14
  go_wp2_with (go_at_call 38;refine (HWH.out _ (HX.out _ rfl).1 (HX.out _ rfl).2.1).mono ?_;rintro ee w2 ⟨⟨cv,rfl,hI⟩,hb⟩;have HH:=HX.out _ rfl;have O:=HH.2.2.1.keep hb (by omega);have o0:=O.at_ 0 _ rfl;have g0:=O.fr 0;have o1:=O.at_ 1 _ rfl;have g1:=O.fr 1;have o2:=O.at_ 2 _ rfl;have g2:=O.fr 2;have o3:=O.at_ 3 _ rfl;have g3:=O.fr 3;have o4:=O.at_ 4 _ rfl;have g4:=O.fr 4;have o5:=O.at_ 5 _ rfl;have g5:=O.fr 5;have o6:=O.at_ 6 _ rfl;have g6:=O.fr 6;have o7:=O.at_ 7 _ rfl;have g7:=O.fr 7;have o8:=O.at_ 8 _ rfl;have g8:=O.fr 8;have B2:=Lib.hid (HH.2.2.2.1.trans (hb.mono (by omega)));have HI:=Lib.hid hI;have SZ:=Lib.hid HH.2.2.2.2;have OO:=Lib.hid (show BC w2 w.heap.size [.int .u8 0, .int .u32 0, .int .u32 0, .int .u8 0, .int .i64 0, .string { data:= #[] }, .slice none 0 0, .slice none 0 0, .slice none 0 0] from O);clear hI hb HH O)
  have hs:RStep w2 ((((((((((w2.setCell ⟨w.heap.size,0,none⟩ (.int .u8 cv.k)).setCell ⟨w.heap.size,1,none⟩ (.int .u32 cv.src)).setCell ⟨w.heap.size,2,none⟩ (.int .u32 cv.seq)).setCell ⟨w.heap.size,3,none⟩ (.int .u8 cv.v.k)).setCell ⟨w.heap.size,4,none⟩ (.int .i64 cv.v.n)).setCell ⟨w.heap.size,5,none⟩ (.string cv.v.s)).setCell ⟨w.heap.size,6,none⟩ (.slice cv.v.la cv.v.ll cv.v.lc)).setCell ⟨w.heap.size,7,none⟩ (.slice cv.v.oa cv.v.ol cv.v.oc)).setCell ⟨w.heap.size,8,none⟩ (.slice cv.oa cv.ol cv.oc))) w.heap.size:=(((((((RStep.self.trans RStep.self).trans RStep.self).trans RStep.self).trans RStep.self).trans RStep.self).trans RStep.self).trans RStep.self).trans RStep.self
  have hbc:BC ((((((((((w2.setCell ⟨w.heap.size,0,none⟩ (.int .u8 cv.k)).setCell ⟨w.heap.size,1,none⟩ (.int .u32 cv.src)).setCell ⟨w.heap.size,2,none⟩ (.int .u32 cv.seq)).setCell ⟨w.heap.size,3,none⟩ (.int .u8 cv.v.k)).setCell ⟨w.heap.size,4,none⟩ (.int .i64 cv.v.n)).setCell ⟨w.heap.size,5,none⟩ (.string cv.v.s)).setCell ⟨w.heap.size,6,none⟩ (.slice cv.v.la cv.v.ll cv.v.lc)).setCell ⟨w.heap.size,7,none⟩ (.slice cv.v.oa cv.v.ol cv.v.oc)).setCell ⟨w.heap.size,8,none⟩ (.slice cv.oa cv.ol cv.oc))) w.heap.size [.int .u8 cv.k, .int .u32 cv.src, .int .u32 cv.seq, .int .u8 cv.v.k, .int .i64 cv.v.n, .string cv.v.s, .slice cv.v.la cv.v.ll cv.v.lc, .slice cv.v.oa cv.v.ol cv.v.oc, .slice cv.oa cv.ol cv.oc] :=(((((((((OO.out.set (i:=0) (x:= .int .u8 cv.k) (by simp)).set (i:=1) (x:= .int .u32 cv.src) (by simp)).set (i:=2) (x:= .int .u32 cv.seq) (by simp)).set (i:=3) (x:= .int .u8 cv.v.k) (by simp)).set (i:=4) (x:= .int .i64 cv.v.n) (by simp)).set (i:=5) (x:= .string cv.v.s) (by simp)).set (i:=6) (x:= .slice cv.v.la cv.v.ll cv.v.lc) (by simp)).set (i:=7) (x:= .slice cv.v.oa cv.v.ol cv.v.oc) (by simp)).set (i:=8) (x:= .slice cv.oa cv.ol cv.oc) (by simp))
  exact ⟨rfl,_,results_backE rfl rfl hbc,⟨cv,rfl,(isEntry_far HI.out hs (by have:=SZ.out;omega)).sub (shows_only _ _ _)⟩,B2.out.trans (hs.below (by have:=OO.out.lt;omega))⟩
def k9:List UInt8:= [3,0,0,0,1,0,0,0,2]
def knE:En:=⟨3,1,2,V.none, []⟩
def knC:EC:=⟨3,1,2,vzero,none,0,0⟩
def knV:V:= .mk 1 1 .empty [] []
def knVC:VC:=⟨1,1, .empty,none,0,0,none,0,0⟩
theorem isVal_plain (w:World) (B:Nat) (k n:Int) (s:ByteArray) (hb:VC.Bnd ⟨k,n,s,none,0,0,none,0,0⟩):IsVal w B (.mk k n s [] []) ⟨k,n,s,none,0,0,none,0,0⟩:=
  .mk ⟨k,n,s,none,0,0,none,0,0⟩ [] [] (fun _=>⟨0,0, .empty, .none,0,0, .none,0,0⟩) (fun _=>⟨0,0, .empty, .none,0,0, .none,0,0⟩) 0 0 0 0 hb rfl rfl (fun h=>by cases h) (fun h=>by cases h) (fun i h=>by cases h) (fun i h=>by cases h) (fun i h=>by cases h) (fun i h=>by cases h)
theorem knE_is (w:World) (B:Nat):IsEntry w B knE knC:= .mk knC V.none [] ⟨by decide,by decide,by decide,by decide,by decide,by decide⟩ (isVal_none _ _) (IsComps.nil _ _)
theorem knV_is (w:World) (B:Nat):IsVal w B knV knVC:=isVal_plain w B 1 1 .empty ⟨by decide,by decide,by decide,by decide,by decide,by decide,by decide,by decide,by decide,by decide,by decide⟩
theorem rdE_known:rdE k9=some (knE, []):=by rfl
theorem encE_known:encE knE=k9:=by rfl
theorem encV_known:(encV knV).length=9:=by simp [knV,encV,be_length]
theorem enSound_known:enSound knE=true:=by simp [enSound,knE,eqv]
theorem lightB_known:lightB knV=true:=by simp [lightB,knV,V.sound,plainB,rising,soundL,soundO,V.deep,V.weight,weightL,weightO,deepL,deepO]
theorem encode_known (w:World) (hT:Tabs w):Calls Tryz.prog 8 #[.agg #[.int .u8 3, .int .u32 1, .int .u32 2, .int .u8 0, .int .i64 0, .string { data:= #[] }, .slice none 0 0, .slice none 0 0, .slice none 0 0]] w fun e w'=>(∃a c,e= .returned (.tuple #[.slice a 9 c, .int .u16 0])∧IsB w' w'.heap.size a 9 c k9)∧Below w.heap.size w w':=by
  have HS:Hid (∀W,Below w.heap.size w W→Calls Tryz.prog 10 #[.agg #[.int .u8 knC.k, .int .u32 knC.src, .int .u32 knC.seq, .int .u8 knC.v.k, .int .i64 knC.v.n, .string knC.v.s, .slice knC.v.la knC.v.ll knC.v.lc, .slice knC.v.oa knC.v.ol knC.v.oc, .slice knC.oa knC.ol knC.oc]] W fun e w'=>e= .returned (.bool true)∧Below W.heap.size W w'):=fun W hW=>by
    have:=enSound_any knE W (hT.below hW) knC (knE_is _ _) ⟨by decide,by intro x hx;cases hx⟩
    rw [enSound_known] at this;exact this
  refine (encode_e true w knC knE (knE_is _ _) HS (by rw [encE_known];decide)).mono ?_
  rintro e w' ⟨⟨a,n,c,rfl,hI⟩,hb⟩
  rw [encE_known] at*
  have hn:n=9:=by have:=hI.len;simpa [outB,k9] using this
  subst hn
  exact ⟨⟨a,c,rfl,hI⟩,hb⟩
theorem value_known (w:World) (hT:Tabs w):Calls Tryz.prog 15 #[.agg #[.int .u8 1, .int .i64 1, .string { data:= #[] }, .slice none 0 0, .slice none 0 0]] w fun e w'=>(∃a c,e= .returned (.tuple #[.slice a 9 c, .int .u16 0]))∧Below w.heap.size w w':=by
  have HS:Hid (∀W,Below w.heap.size w W→Calls Tryz.prog 30 #[.agg #[.int .u8 knVC.k, .int .i64 knVC.n, .string knVC.s, .slice knVC.la knVC.ll knVC.lc, .slice knVC.oa knVC.ol knVC.oc]] W fun e w'=>e= .returned (.bool true)∧Below W.heap.size W w'):=fun W hW=>by
    have:=light_any knV W (hT.below hW) knVC (knV_is _ _) (by decide)
    rw [lightB_known] at this;exact this
  refine (value_of true w 1 1 .empty none 0 0 none 0 0 knV (knV_is _ _) HS (by rw [encV_known];decide)).mono ?_
  rintro e w' ⟨⟨a,n,c,rfl,hI⟩,hb⟩
  have e1:outN true (encV knV)=0:=by rw [outN,if_pos rfl,encV_known,if_neg (by decide)]
  have hn:n=9:=by
    have:=hI.len
    rw [outB,if_pos rfl,encV_known,if_neg (by decide),encV_known] at this
    exact this
  subst hn
  rw [e1]
  exact ⟨⟨a,c,rfl⟩,hb⟩
theorem decode_known (w:World) (hT:Tabs w) (a:Option Addr) (c:Nat) (h:IsB w w.heap.size a 9 c k9):Calls Tryz.prog 14 #[.slice a 9 c] w fun e w'=>(∃cv:EC,e= .returned (.tuple #[.agg #[.int .u8 cv.k, .int .u32 cv.src, .int .u32 2, .int .u8 cv.v.k, .int .i64 cv.v.n, .string cv.v.s, .slice cv.v.la cv.v.ll cv.v.lc, .slice cv.v.oa cv.v.ol cv.v.oc, .slice cv.oa cv.ol cv.oc], .int .u16 0]))∧Below w.heap.size w w':=by
  refine (backE_few w hT a 9 c k9 h (v:=knE) (e:=0) (fun W hTW hB=>wholeE_eq W a 9 c k9 hB (by decide) rdE_known (fun p hp=>by have e:rdN 1 k9=some (3,k9.drop 1):=rfl;rw [e] at hp;injection hp with hp;rw [←hp]) (by rw [encE_known];decide) true (fun W5 hb cv hv W hW=>by
    have:=enSound_any knE W ((hTW.below hb).below hW) cv (hv.later_ hW) ⟨by decide,by intro x hx;cases hx⟩
    rw [enSound_known] at this;exact this) (by rw [encE_known];rfl) (by rw [encE_known];simp [eqBs,outB,k9]))).mono ?_
  rintro e w' ⟨⟨cv,rfl,hI⟩,hb⟩
  obtain ⟨x,hx⟩:∃x,knE=x:=⟨_,rfl⟩
  rw [hx] at hI
  cases hI with
  | mk _ v l b1 b2 b3=>
    have:cv.seq=2:=by have:=congrArg En.seq hx;exact this.symm
    exact ⟨⟨cv,by rw [←this]⟩,hb⟩
theorem decode_nil (w:World) (hT:Tabs w):Calls Tryz.prog 14 #[.slice none 0 0] w fun e w'=>(∃cv:EC,e= .returned (.tuple #[.agg #[.int .u8 cv.k, .int .u32 cv.src, .int .u32 cv.seq, .int .u8 cv.v.k, .int .i64 cv.v.n, .string cv.v.s, .slice cv.v.la cv.v.ll cv.v.lc, .slice cv.v.oa cv.v.ol cv.v.oc, .slice cv.oa cv.ol cv.oc], .int .u16 100]))∧Below w.heap.size w w':=by
  refine (backE_few w hT none 0 0 [] ⟨rfl,by decide,by decide,0,0,(fun h=>absurd h (by decide)),(fun i hi=>absurd hi (by simp))⟩ (v:=En.none) (e:=100) (fun W hTW hB=>wholeE_none W none 0 0 [] hB (by decide) rfl (fun p hp=>by cases hp))).mono ?_
  rintro e w' ⟨⟨cv,rfl,hI⟩,hb⟩
  exact ⟨⟨cv,rfl⟩,hb⟩
set_option maxHeartbeats 4000000 in
set_option maxRecDepth 100000 in
theorem known_any (w:World) (hT:Tabs w):Calls Tryz.prog 6 #[] w fun e w'=>e= .returned (.bool true)∧Below w.heap.size w w':=by
  have HT:=Lib.hid hT
  clear hT
  go_enter Tryz.func6,Tryz.ntmps6
  go_wp2_with (go_at_call 8;refine (encode_known _ HT.out).mono ?_;rintro e w1 ⟨⟨a,c,rfl,hI⟩,hb1⟩;have HI:=Lib.hid hI;have HB1:=Lib.hid hb1;clear hI hb1)
  refine (decode_known w1 (HT.out.below HB1.out) a c HI.out).mono ?_
  rintro e w2 ⟨⟨cv,rfl⟩,hb2⟩
  have HB2:=Lib.hid (HB1.out.trans (hb2.mono HB1.out.size))
  have HI2:=Lib.hid ((HI.out.keep hb2).more hb2.size)
  clear hb2
  go_wp2_with fail
  refine (decode_nil _ (HT.out.below (HB2.out.alloc HB2.out.size _))).mono ?_
  rintro e w3 ⟨⟨cw,rfl⟩,hb3⟩
  have b23:Below w2.heap.size w2 w3:=((Below.refl _ _).alloc (Nat.le_refl _) _).trans (hb3.mono (by simp))
  have zs3:w2.heap.size<w3.heap.size:=Nat.lt_of_lt_of_le (by simp) hb3.size
  have HB3:=Lib.hid (HB2.out.trans (b23.mono HB2.out.size))
  have HI3:=Lib.hid ((HI2.out.keep b23).more b23.size)
  have HO3:=Lib.hid ((BC.start w2 #[.int .u8 cv.k, .int .u32 cv.src, .int .u32 2, .int .u8 cv.v.k, .int .i64 cv.v.n, .string cv.v.s, .slice cv.v.la cv.v.ll cv.v.lc, .slice cv.v.oa cv.v.ol cv.v.oc, .slice cv.oa cv.ol cv.oc] 36).keep hb3 (by simp))
  clear hb3 b23
  go_wp2_with fail
  refine (value_known _ (HT.out.below (HB3.out.alloc HB3.out.size _))).mono ?_
  rintro e w4 ⟨⟨ra,rc,rfl⟩,hb4⟩
  have b34:Below w3.heap.size w3 w4:=((Below.refl _ _).alloc (Nat.le_refl _) _).trans (hb4.mono (by simp))
  have HB4:=Lib.hid (HB3.out.trans (b34.mono HB3.out.size))
  have k1:(convert 38 9 (.slice a 9 c)).run Tryz.prog w4= .ok (.string { data:= #[3,0,0,0,1,0,0,0,2] }) w4:=conv_isB (HI3.out.keep b34)
  have o2:=(HO3.out.keep b34 zs3).at_ 2 _ rfl
  clear hb4 b34
  go_wp2_with fail
  go_returns
  exact ⟨rfl,HB4.out⟩
end Go.Proofs.YtgcfhkceejcliaaGreatDoor
namespace Go.Proofs.YtgcfhkceejcliaaGreatDoor
open Go.RowKit
theorem encode_ec {sd:Bool} {w:World} {c:EC} {x:En} (hx:IsEntry w w.heap.size x c) (HS:Hid (∀W,Below w.heap.size w W→Calls Tryz.prog 10 #[.agg #[.int .u8 c.k, .int .u32 c.src, .int .u32 c.seq, .int .u8 c.v.k, .int .i64 c.v.n, .string c.v.s, .slice c.v.la c.v.ll c.v.lc, .slice c.v.oa c.v.ol c.v.oc, .slice c.oa c.ol c.oc]] W fun e w'=>e= .returned (.bool sd)∧Below W.heap.size W w')) (hsz:sd=true→(encE x).length≤70368744177664):
    Calls Tryz.prog 8 #[.agg #[.int .u8 c.k, .int .u32 c.src, .int .u32 c.seq, .int .u8 c.v.k, .int .i64 c.v.n, .string c.v.s, .slice c.v.la c.v.ll c.v.lc, .slice c.v.oa c.v.ol c.v.oc, .slice c.oa c.ol c.oc]] w fun e w'=>(∃a n cc,e= .returned (.tuple #[.slice a n cc, .int .u16 (outN sd (encE x))])∧IsB w' w'.heap.size a n cc (outB sd (encE x)))∧Below w.heap.size w w':=by
  cases hx with
  | mk c v l hb hv ho=>
    obtain ⟨k,src,seq,⟨vk,vn,vs,vla,vll,vlc,voa,vol,voc⟩,oa,ol,oc⟩:=c
    exact encode_of sd w k src seq vk vn vs vla vll vlc voa vol voc oa ol oc v l hb.k0 hb.k1 hv ho HS hsz
theorem refEncode_ec {sd:Bool} {w:World} {c:EC} {x:En} (hx:IsEntry w w.heap.size x c) (HS:Hid (∀W,Below w.heap.size w W→Calls Tryz.prog 11 #[.agg #[.int .u8 c.k, .int .u32 c.src, .int .u32 c.seq, .int .u8 c.v.k, .int .i64 c.v.n, .string c.v.s, .slice c.v.la c.v.ll c.v.lc, .slice c.v.oa c.v.ol c.v.oc, .slice c.oa c.ol c.oc]] W fun e w'=>e= .returned (.bool sd)∧Below W.heap.size W w')) (hsz:sd=true→(encE x).length≤70368744177664):
    Calls Tryz.prog 9 #[.agg #[.int .u8 c.k, .int .u32 c.src, .int .u32 c.seq, .int .u8 c.v.k, .int .i64 c.v.n, .string c.v.s, .slice c.v.la c.v.ll c.v.lc, .slice c.v.oa c.v.ol c.v.oc, .slice c.oa c.ol c.oc]] w fun e w'=>(∃a n cc,e= .returned (.tuple #[.slice a n cc, .int .i64 (outN sd (encE x))])∧IsB w' w'.heap.size a n cc (outB sd (encE x)))∧Below w.heap.size w w':=by
  cases hx with
  | mk c v l hb hv ho=>
    obtain ⟨k,src,seq,⟨vk,vn,vs,vla,vll,vlc,voa,vol,voc⟩,oa,ol,oc⟩:=c
    exact refEncode_of sd w k src seq vk vn vs vla vll vlc voa vol voc oa ol oc v l hb.k0 hb.k1 hb.s0 hb.s1 hb.q0 hb.q1 hv ho HS hsz
theorem outN_bnd (sd:Bool) (bs:List UInt8):0≤outN sd bs∧outN sd bs≤3:=by
  unfold outN;split
  · split<;>omega
  · omega
theorem IsB.later7 {w w':World} {a:Option Addr} {n c:Nat} {bs:List UInt8} (h:IsB w w.heap.size a n c bs) (hb:Below w.heap.size w w'):IsB w' w'.heap.size a n c bs:=h.later6 hb
theorem isEntry_later {w w':World} {x:En} {c:EC} (h:IsEntry w w.heap.size x c) (hb:Below w.heap.size w w'):IsEntry w' w'.heap.size x c:=h.later_ hb
set_option maxHeartbeats 16000000 in
set_option maxRecDepth 100000 in
theorem codeEnc_any (w:World) (hT:Tabs w) (c:RC) (x:Rc) (h:IsRec w w.heap.size x c) (hsm:(entryP x).small) (hlen:enSound (entryP x)=true→(encE (entryP x)).length≤70368744177664):
    Calls Tryz.prog 3 #[.agg #[.int .u8 c.k, .int .u32 c.src, .int .u32 c.seq, .slice c.va c.vl c.vc, .slice c.oa c.ol c.oc, .slice c.aa c.al c.ac, .bool c.snd]] w fun e w'=>e= .returned (.bool true)∧Below w.heap.size w w':=by
  have hal:Below w.heap.size w (w.alloc (.cells #[.int .u8 c.k, .int .u32 c.src, .int .u32 c.seq, .slice c.va c.vl c.vc, .slice c.oa c.ol c.oc, .slice c.aa c.al c.ac, .bool c.snd] 27)):=(Below.refl _ _).alloc (Nat.le_refl _) _
  have HAL:=Lib.hid hal
  have HD:=Lib.hid (show BC (w.alloc (.cells #[.int .u8 c.k, .int .u32 c.src, .int .u32 c.seq, .slice c.va c.vl c.vc, .slice c.oa c.ol c.oc, .slice c.aa c.al c.ac, .bool c.snd] 27)) w.heap.size (rcells c) from BC.start w #[.int .u8 c.k, .int .u32 c.src, .int .u32 c.seq, .slice c.va c.vl c.vc, .slice c.oa c.ol c.oc, .slice c.aa c.al c.ac, .bool c.snd] 27)
  have HRL:Hid (∀W,Below w.heap.size w W→IsRec W W.heap.size x c):=fun W hW=>by
    cases h with
    |mk _ v o a hbd hv ho ha=>exact .mk _ v o a hbd (hv.later_ hW) (by
        obtain ⟨h1,h2,h3,b,q,f,h5,h6⟩:=ho.keep hW
        exact ⟨h1,h2,h3,b,q,f,fun hn=>⟨(h5 hn).1,Nat.lt_of_lt_of_le (h5 hn).2 hW.size⟩,fun i hi=>⟨(h6 i hi).1,by
          have h7:=(h6 i hi).2
          revert h7
          generalize o[i] =ob
          generalize f i=fb
          intro h7
          cases h7 with
          |mk _ p v hb hp hv=>exact .mk _ p v hb (hp.more hW.size) (hv.more hW.size)⟩⟩) (ha.later_ hW)
  have HH:Hid (∀W,Below w.heap.size w W→Calls Tryz.prog 5 #[.agg #[.int .u8 c.k, .int .u32 c.src, .int .u32 c.seq, .slice c.va c.vl c.vc, .slice c.oa c.ol c.oc, .slice c.aa c.al c.ac, .bool c.snd]] W (SomeInt W)):=fun W hW=>heavy10_any W c x (HRL.out W hW)
  have HE:Hid (∀W,Below w.heap.size w W→Calls Tryz.prog 7 #[.agg #[.int .u8 c.k, .int .u32 c.src, .int .u32 c.seq, .slice c.va c.vl c.vc, .slice c.oa c.ol c.oc, .slice c.aa c.al c.ac, .bool c.snd]] W (EntryPost W (entryP x))):=fun W hW=>ent10_any W c x (HRL.out W hW) (hT.below hW)
  have HK:Hid (∀W,Below w.heap.size w W→Calls Tryz.prog 6 #[] W fun e w'=>e= .returned (.bool true)∧Below W.heap.size W w'):=fun W hW=>known_any W (hT.below hW)
  obtain ⟨en,hen⟩:∃en,entryP x=en:=⟨_,rfl⟩
  rw [hen] at HE hsm hlen
  obtain ⟨sd,hsd⟩:∃sd,enSound en=sd:=⟨_,rfl⟩
  rw [hsd] at hlen
  have HSD:Hid (∀W (d:EC),Below w.heap.size w W→IsEntry W W.heap.size en d→Calls Tryz.prog 10 #[.agg #[.int .u8 d.k, .int .u32 d.src, .int .u32 d.seq, .int .u8 d.v.k, .int .i64 d.v.n, .string d.v.s, .slice d.v.la d.v.ll d.v.lc, .slice d.v.oa d.v.ol d.v.oc, .slice d.oa d.ol d.oc]] W fun e w'=>e= .returned (.bool sd)∧Below W.heap.size W w'):=fun W d hW hI=>by rw [←hsd];exact enSound_any en W (hT.below hW) d hI hsm
  have HSR:Hid (∀W (d:EC),Below w.heap.size w W→IsEntry W W.heap.size en d→Calls Tryz.prog 11 #[.agg #[.int .u8 d.k, .int .u32 d.src, .int .u32 d.seq, .int .u8 d.v.k, .int .i64 d.v.n, .string d.v.s, .slice d.v.la d.v.ll d.v.lc, .slice d.v.oa d.v.ol d.v.oc, .slice d.oa d.ol d.oc]] W fun e w'=>e= .returned (.bool sd)∧Below W.heap.size W w'):=fun W d hW hI=>by rw [←hsd];exact refEnSound_any en W (hT.below hW) d hI hsm
  have HEA:Hid (∀W (d:EC),Below w.heap.size w W→IsEntry W W.heap.size en d→Calls Tryz.prog 8 #[.agg #[.int .u8 d.k, .int .u32 d.src, .int .u32 d.seq, .int .u8 d.v.k, .int .i64 d.v.n, .string d.v.s, .slice d.v.la d.v.ll d.v.lc, .slice d.v.oa d.v.ol d.v.oc, .slice d.oa d.ol d.oc]] W fun e w'=>(∃a n cc,e= .returned (.tuple #[.slice a n cc, .int .u16 (outN sd (encE en))])∧IsB w' w'.heap.size a n cc (outB sd (encE en)))∧Below W.heap.size W w'):=fun W d hW hI=>encode_ec hI (fun W2 hW2=>HSD.out W2 d (hW.trans (hW2.mono hW.size)) (isEntry_later hI hW2)) hlen
  have HEB:Hid (∀W (d:EC),Below w.heap.size w W→IsEntry W W.heap.size en d→Calls Tryz.prog 9 #[.agg #[.int .u8 d.k, .int .u32 d.src, .int .u32 d.seq, .int .u8 d.v.k, .int .i64 d.v.n, .string d.v.s, .slice d.v.la d.v.ll d.v.lc, .slice d.v.oa d.v.ol d.v.oc, .slice d.oa d.ol d.oc]] W fun e w'=>(∃a n cc,e= .returned (.tuple #[.slice a n cc, .int .i64 (outN sd (encE en))])∧IsB w' w'.heap.size a n cc (outB sd (encE en)))∧Below W.heap.size W w'):=fun W d hW hI=>refEncode_ec hI (fun W2 hW2=>HSR.out W2 d (hW.trans (hW2.mono hW.size)) (isEntry_later hI hW2)) hlen
  obtain ⟨N,hN⟩:∃N,outN sd (encE en)=N:=⟨_,rfl⟩
  obtain ⟨O,hO⟩:∃O,outB sd (encE en)=O:=⟨_,rfl⟩
  have hNb:=outN_bnd sd (encE en)
  rw [hN] at HEA HEB hNb
  rw [hO] at HEA HEB
  have hNw:IntKind.i64.wrap N=N:=IntWalk.i64_in _ (by omega)
  clear h hT hal hen hsd hsm hlen hN hO
  go_enter Tryz.func3,Tryz.ntmps3
  go_wp2_with fail
  refine (HH.out _ HAL.out).mono ?_
  rintro e w1 ⟨⟨z,rfl⟩,hb1⟩
  have D:=HD.out.keep hb1 (by simp)
  have hbw:Below w.heap.size w w1:=HAL.out.trans (hb1.mono (by simp))
  have HB1:=Lib.hid hbw
  have HD1:=Lib.hid D
  have q0:=D.at_ 0 _ rfl;have q1:=D.at_ 1 _ rfl;have q2:=D.at_ 2 _ rfl;have q3:=D.at_ 3 _ rfl;have q4:=D.at_ 4 _ rfl;have q5:=D.at_ 5 _ rfl;have q6:=D.at_ 6 _ rfl
  have zs:=D.lt
  clear D hbw hb1 HD
  by_cases hz:4000<z
  · go_wp2_with fail
    refine (HK.out _ HB1.out).mono ?_
    rintro e w2 ⟨rfl,hb2⟩
    have HB2:=Lib.hid (HB1.out.trans (hb2.mono HB1.out.size))
    clear hb2
    go_wp2_with fail
    go_returns
    exact ⟨rfl,HB2.out⟩
  · go_wp2_with fail
    refine (HK.out _ HB1.out).mono ?_
    rintro e w2 ⟨rfl,hb2⟩
    have HB2:=Lib.hid (HB1.out.trans (hb2.mono HB1.out.size))
    have D:=HD1.out.keep hb2 zs
    clear hb2 q0 q1 q2 q3 q4 q5 q6
    have q0:=D.at_ 0 _ rfl;have q1:=D.at_ 1 _ rfl;have q2:=D.at_ 2 _ rfl;have q3:=D.at_ 3 _ rfl;have q4:=D.at_ 4 _ rfl;have q5:=D.at_ 5 _ rfl;have q6:=D.at_ 6 _ rfl
    have zs2:=D.lt
    clear D
    go_wp2_with fail
    refine (HE.out _ HB2.out).mono ?_
    rintro e w3 ⟨⟨d,rfl,hI3⟩,hb3⟩
    have hal3:Below w3.heap.size w3 (w3.alloc (.cells #[.int .u8 d.k, .int .u32 d.src, .int .u32 d.seq, .int .u8 d.v.k, .int .i64 d.v.n, .string d.v.s, .slice d.v.la d.v.ll d.v.lc, .slice d.v.oa d.v.ol d.v.oc, .slice d.oa d.ol d.oc] 36)):=(Below.refl _ _).alloc (Nat.le_refl _) _
    have hBC:BC (w3.alloc (.cells #[.int .u8 d.k, .int .u32 d.src, .int .u32 d.seq, .int .u8 d.v.k, .int .i64 d.v.n, .string d.v.s, .slice d.v.la d.v.ll d.v.lc, .slice d.v.oa d.v.ol d.v.oc, .slice d.oa d.ol d.oc] 36)) w3.heap.size (ecells d):=BC.start _ _ _
    have hI4:=isEntry_later hI3 hal3
    have hb4:=HB2.out.trans ((hb3.trans (hal3.mono hb3.size)).mono HB2.out.size)
    obtain ⟨eb,heb⟩:∃eb,w3.heap.size=eb:=⟨_,rfl⟩
    clear q0 q1 q2 q3 q4 q5 q6 hb3 hI3
    go_upto_region 4 with fail
    generalize hw4:World.alloc _ _=w4
    rw [hw4] at hBC hI4 hb4
    rw [heb] at hBC
    clear hw4 hal3 heb
    obtain ⟨y0,y1,y2,y3,y4,y5,y6,y7,y8⟩:=row9 hBC.at_
    have zy:=hBC.lt
    have HI4:=Lib.hid hI4;have HB4:=Lib.hid hb4;have HBC:=Lib.hid hBC
    clear hI4 hb4 hBC
    go_wp2_with fail
    refine (HEA.out _ d HB4.out HI4.out).mono ?_
    rintro e w5 ⟨⟨aa,an,ac,rfl,hIa⟩,hb5⟩
    have hBC:=HBC.out.keep hb5 zy
    have HI5:=Lib.hid (isEntry_later HI4.out hb5);have HA5:=Lib.hid hIa
    have HB5:=Lib.hid (HB4.out.trans (hb5.mono HB4.out.size))
    clear y0 y1 y2 y3 y4 y5 y6 y7 y8 hIa hb5
    obtain ⟨y0,y1,y2,y3,y4,y5,y6,y7,y8⟩:=row9 hBC.at_
    have zy5:=hBC.lt
    have HBC5:=Lib.hid hBC
    clear hBC
    go_wp2_with fail
    refine (HEB.out _ d HB5.out HI5.out).mono ?_
    rintro e w6 ⟨⟨ba,bn,bc,rfl,hIb⟩,hb6⟩
    have hBC:=HBC5.out.keep hb6 zy5
    have HI6:=Lib.hid (isEntry_later HI5.out hb6);have HA6:=Lib.hid (HA5.out.later7 hb6);have HBI6:=Lib.hid hIb
    have HB6:=Lib.hid (HB5.out.trans (hb6.mono HB5.out.size))
    clear y0 y1 y2 y3 y4 y5 y6 y7 y8 hIb hb6
    obtain ⟨y0,y1,y2,y3,y4,y5,y6,y7,y8⟩:=row9 hBC.at_
    have zy6:=hBC.lt
    have hc1:=conv_isB (HA6.out.later7 (drew_below w6))
    have hc2:=conv_isB (HBI6.out.later7 (drew_below w6))
    have HFB:Hid (∀W,Below w6.heap.size w6.drew W→W.cell? ⟨eb,0,none⟩=some (.int .u8 d.k)∧W.cell? ⟨eb,1,none⟩=some (.int .u32 d.src)∧W.cell? ⟨eb,2,none⟩=some (.int .u32 d.seq)∧W.cell? ⟨eb,3,none⟩=some (.int .u8 d.v.k)∧W.cell? ⟨eb,4,none⟩=some (.int .i64 d.v.n)∧W.cell? ⟨eb,5,none⟩=some (.string d.v.s)∧W.cell? ⟨eb,6,none⟩=some (.slice d.v.la d.v.ll d.v.lc)∧W.cell? ⟨eb,7,none⟩=some (.slice d.v.oa d.v.ol d.v.oc)∧W.cell? ⟨eb,8,none⟩=some (.slice d.oa d.ol d.oc)):=by
      intro W hW
      have hk:∀o u,w6.cell? ⟨eb,o,none⟩=some u→W.cell? ⟨eb,o,none⟩=some u:=fun o u h=>keep_cell hW (keep_cell (drew_below w6) h zy6) zy6
      exact ⟨hk _ _ y0,hk _ _ y1,hk _ _ y2,hk _ _ y3,hk _ _ y4,hk _ _ y5,hk _ _ y6,hk _ _ y7,hk _ _ y8⟩
    have HS6:Hid (∀W,Below w6.heap.size w6.drew W→Calls Tryz.prog 10 #[.agg #[.int .u8 d.k, .int .u32 d.src, .int .u32 d.seq, .int .u8 d.v.k, .int .i64 d.v.n, .string d.v.s, .slice d.v.la d.v.ll d.v.lc, .slice d.v.oa d.v.ol d.v.oc, .slice d.oa d.ol d.oc]] W fun e w'=>e= .returned (.bool sd)∧Below W.heap.size W w'):=fun W hW=>HSD.out W d (HB6.out.trans ((below_of_drew hW).mono HB6.out.size)) (isEntry_later HI6.out (below_of_drew hW))
    have HR6:Hid (∀W,Below w6.heap.size w6.drew W→Calls Tryz.prog 11 #[.agg #[.int .u8 d.k, .int .u32 d.src, .int .u32 d.seq, .int .u8 d.v.k, .int .i64 d.v.n, .string d.v.s, .slice d.v.la d.v.ll d.v.lc, .slice d.v.oa d.v.ol d.v.oc, .slice d.oa d.ol d.oc]] W fun e w'=>e= .returned (.bool sd)∧Below W.heap.size W w'):=fun W hW=>HSR.out W d (HB6.out.trans ((below_of_drew hW).mono HB6.out.size)) (isEntry_later HI6.out (below_of_drew hW))
    clear hBC
    go_wp2_with fail
    refine wp_region_noPanic ?_
    go_region_held_law (fun W=>W.cell? ⟨eb,0,none⟩=some (.int .u8 d.k)∧W.cell? ⟨eb,1,none⟩=some (.int .u32 d.src)∧W.cell? ⟨eb,2,none⟩=some (.int .u32 d.seq)∧W.cell? ⟨eb,3,none⟩=some (.int .u8 d.v.k)∧W.cell? ⟨eb,4,none⟩=some (.int .i64 d.v.n)∧W.cell? ⟨eb,5,none⟩=some (.string d.v.s)∧W.cell? ⟨eb,6,none⟩=some (.slice d.v.la d.v.ll d.v.lc)∧W.cell? ⟨eb,7,none⟩=some (.slice d.v.oa d.v.ol d.v.oc)∧W.cell? ⟨eb,8,none⟩=some (.slice d.oa d.ol d.oc))
      ((refine HFB.out _ ?_;(first|(with_reducible exact bl8)|(with_reducible exact bl7)|(with_reducible exact Below.refl _ _))))
      (first
        |(go_at_call 10;(with_reducible refine (HS6.out _ (Below.refl _ _)).mono ?_);rintro e w7 ⟨rfl,hb7⟩;have bl7:Below w6.heap.size w6.drew w7:=hb7)
        |(go_at_call 10;(with_reducible refine (HS6.out _ bl7).mono ?_);rintro e w8 ⟨rfl,hb8⟩;have bl8:Below w6.heap.size w6.drew w8:=bl7.trans (hb8.mono bl7.size))
        |(go_at_call 11;(with_reducible refine (HR6.out _ (Below.refl _ _)).mono ?_);rintro e w7 ⟨rfl,hb7⟩;have bl7:Below w6.heap.size w6.drew w7:=hb7)
        |(go_at_call 11;(with_reducible refine (HR6.out _ bl7).mono ?_);rintro e w8 ⟨rfl,hb8⟩;have bl8:Below w6.heap.size w6.drew w8:=bl7.trans (hb8.mono bl7.size)))
    all_goals
      refine NoPanic.normal ?_
      go_wp2_with fail
      go_returns
      exact ⟨rfl,HB6.out.trans ((below_of_drew bl8).mono HB6.out.size)⟩
end Go.Proofs.YtgcfhkceejcliaaGreatDoor
namespace Go.Proofs.YtgcfhkceejcliaaGreatDoor
open Go.RowKit
theorem encV_wt (v:V):(encV v).length+4≤13*v.weight:=by
  induction v using V.ind with
  | h k n s l o ihl iho=>
    have hl:(encL l).length≤13*weightL l:=by
      clear iho
      induction l with
      |nil=>simp [encL]
      | cons v r ih=>
        have h1:=ihl v (by simp)
        have h2:=ih (fun x hx=>ihl x (by simp [hx]))
        rw [encL,weightL,List.length_append];omega
    have ho:(encO o).length≤13*weightO o:=by
      clear ihl
      induction o with
      |nil=>simp [encO]
      | cons v r ih=>
        have h1:=iho v (by simp)
        have h2:=ih (fun x hx=>iho x (by simp [hx]))
        rw [encO,weightO,weightF_eq,encF_eq,List.length_append,List.length_append,encS_length];omega
    rw [encV,V.weight,List.length_append,be_length]
    split
    · rw [be_length];omega
    · split
      · rw [encS_length];omega
      · split
        · rw [List.length_append,be_length];omega
        · split
          · rw [List.length_append,be_length];omega
          · simp;omega
structure RawW (v:V) (u:Nat):Prop where
  str:v.str.size≤140737488355328
  wt:u≠0→v.weight+140737488355328≤281474976710657*u
  low:u=0→v=V.none
theorem raw_R {f:List Tk→V×Nat} (hf:∀l,(∀t ∈ l,t.s.size≤140737488355328)→RawW (f l).1 (f l).2) (l:List Tk) (hl:∀t ∈ l,t.s.size≤140737488355328):∀j,1≤(fR f l j).2.1∧weightL (fR f l j).1+281474976710657≤281474976710657*(fR f l j).2.1∧weightO ((fR f l j).1.map fun x=>(x.str,x))+281474976710657≤281474976710657*(fR f l j).2.1:=by
  intro j
  induction j with
  |zero=>simp [fR,weightL,weightO]
  | succ j ih=>
    rw [fR]
    split
    · exact ih
    · split
      · exact ih
      · rename_i h1 h2
        have hb:=hf (l.drop (fR f l j).2.1) (fun t ht=>hl t (List.mem_of_mem_drop ht))
        have hs:=hb.str
        have hw:=hb.wt h2
        obtain ⟨a,b,c⟩:=ih
        dsimp only
        rw [weightL_append,List.map_append,weightO_append]
        simp only [weightL,List.map_cons,List.map_nil,weightO,weightF_eq]
        refine ⟨by omega, ?_, ?_⟩<;>(rw [Nat.mul_add];omega)
theorem rawP_wt (d:Nat):∀l,(∀t ∈ l,t.s.size≤140737488355328)→RawW (rawP d l).1 (rawP d l).2:=by
  induction d with
  | zero=>
    intro l hl
    cases l with
    |nil=>exact ⟨by simp [rawP,V.none,V.str],by simp [rawP],fun _=>rfl⟩
    | cons t r=>
      have:=hl t (by simp)
      exact ⟨by simp [rawP,V.str];omega,by simp [rawP,V.weight,weightL,weightO];omega,by simp [rawP]⟩
  | succ d ih=>
    intro l hl
    cases l with
    |nil=>exact ⟨by simp [rawP,V.none,V.str],by simp [rawP],fun _=>rfl⟩
    | cons t r=>
      have ht:=hl t (by simp)
      obtain ⟨K,hk⟩:∃K,(t.m % 4).toNat=K:=⟨_,rfl⟩
      rw [rawP,hk]
      obtain ⟨h1,h2,h3⟩:=raw_R ih (t::r) hl K
      obtain ⟨p,hp⟩:∃p,fR (rawP d) (t::r) K=p:=⟨_,rfl⟩
      rw [hp] at h1 h2 h3 ⊢
      dsimp only
      rw [rawV]
      split
      · exact ⟨ht,fun _=>by simp only [V.weight,weightO];omega,fun h=>by omega⟩
      · exact ⟨ht,fun _=>by simp only [V.weight,weightL];omega,fun h=>by omega⟩
theorem raw_weight (l:List Tk) (hl:∀t ∈ l,t.s.size≤140737488355328):(rawP 20 (l.take 60)).1.weight≤4611686018427387904:=by
  have h:=rawP_wt 20 (l.take 60) (fun t ht=>hl t (List.mem_of_mem_take ht))
  have hu:=rawP_used 20 (l.take 60)
  rw [List.length_take] at hu
  by_cases h0:(rawP 20 (l.take 60)).2=0
  · rw [h.low h0];simp [V.none,V.weight,weightL,weightO]
  · have:=h.wt h0
    omega
theorem IsToks.sizes {w:World} {B:Nat} {l:List Tk} {a:Option Addr} {n c:Nat} (h:IsToks w B l a n c):∀t ∈ l,t.s.size≤140737488355328:=by
  obtain ⟨_,_,_,b,o,_,h6⟩:=h
  intro t ht
  obtain ⟨i,hi,rfl⟩:=List.mem_iff_getElem.1 ht
  exact (h6 i hi).2.s1
end Go.Proofs.YtgcfhkceejcliaaGreatDoor
namespace Go.Proofs.YtgcfhkceejcliaaGreatDoor
open Go.RowKit
structure CmB (c:Cm) (K:Nat):Prop where
  bk:c.key.size≤K
  bs:c.s.size≤K
  bp:∀s ∈ c.path,s.key.size≤K
theorem encP_len {K:Nat} (p:List St) (h:∀s ∈ p,s.key.size≤K):(encP p).length≤p.length*(K+9):=by
  induction p with
  |nil=>simp [encP]
  | cons s r ih=>
    have h1:=h s (List.mem_cons_self ..)
    have h2:=ih fun t ht=>h t (List.mem_cons_of_mem _ ht)
    have h3:(encSt s).length≤K+9:=by
      unfold encSt
      split
      · rw [List.length_append,be_length,be_length];omega
      · rw [List.length_append,be_length,encS_length];omega
    rw [encP,List.length_append,List.length_cons,Nat.succ_mul];omega
theorem encC_len {c:Cm} {K:Nat} (hs:cmSound c=true) (hb:CmB c K):(encC c).length≤16*(K+9)+2*K+300000:=by
  obtain ⟨b1,b2,b3⟩:=hb
  have hk:=cmSound_kind hs
  have hs2:=hs
  unfold cmSound at hs2
  simp only [Bool.and_eq_true,decide_eq_true_eq] at hs2
  have hw:=hs2.2
  have hp:c.path.length≤15:=by have:=hs2.1.2;omega
  have h1:=encP_len c.path b3
  have h2:c.path.length*(K+9)≤16*(K+9):=Nat.mul_le_mul_right _ (by omega)
  have h3:=encV_wt c.v
  have h4:(encT c).length≤2*K+299000:=by
    unfold encT
    repeat' split
    all_goals simp only [List.length_append,be_length,encS_length,List.length_nil]
    all_goals omega
  rw [encC,List.length_append,List.length_append,List.length_append,be_length,be_length];omega
theorem encCs_len {M:Nat} (l:List Cm) (h:∀c ∈ l,(encC c).length≤M):(encCs l).length≤l.length*M:=by
  induction l with
  |nil=>simp [encCs]
  | cons c r ih=>
    have h1:=h c (List.mem_cons_self ..)
    have h2:=ih fun t ht=>h t (List.mem_cons_of_mem _ ht)
    rw [encCs,List.length_append,List.length_cons,Nat.succ_mul];omega
theorem encE_len {e:En} (hs:enSound e=true) (hb:∀c ∈ e.op,CmB c 1048576):(encE e).length≤70368744177664:=by
  unfold encE
  simp only [List.length_append,be_length]
  unfold enSound at hs
  by_cases h1:e.k=1
  · rw [if_pos h1] at hs ⊢
    simp only [Bool.and_eq_true] at hs
    have hw:=encV_wt e.v
    have hl:e.v.weight≤20000:=by
      have:=hs.1
      unfold lightB at this
      simp only [Bool.and_eq_true,decide_eq_true_eq] at this
      omega
    omega
  · rw [if_neg h1] at hs ⊢
    by_cases h2:e.k=2
    · rw [if_pos h2] at hs ⊢
      simp only [Bool.and_eq_true,decide_eq_true_eq] at hs
      have ha:∀c ∈ e.op,cmSound c=true:=by
        have:=hs.2
        simp only [Bool.not_eq_true',List.any_eq_false] at this
        intro c hc
        have:=this c hc
        simpa using this
      have hc:=encCs_len (M:=16*(1048576+9)+2*1048576+300000) e.op fun c hc=>encC_len (ha c hc) (hb c hc)
      have hl:=hs.1.2
      have h3:e.op.length*(16*(1048576+9)+2*1048576+300000)≤200*(16*(1048576+9)+2*1048576+300000):=Nat.mul_le_mul_right _ hl
      rw [List.length_append,be_length]
      omega
    · rw [if_neg h2]
      simp
theorem walkP_keys (l:List UInt8):∀v,∀s ∈ walkP v l,s.key.size≤v.weight:=by
  induction l with
  |nil=>intro v s hs;simp [walkP] at hs
  | cons b r ih=>
    intro v s hs
    obtain ⟨k,n,t,ls,os,rfl⟩:=v.eta
    unfold walkP at hs
    split at hs
    · rename_i hl
      have hlt:b.toNat % ls.length<ls.length:=Nat.mod_lt _ hl
      have hm:=weightL_mem ls _ hlt
      have e:(V.mk k n t ls os).ls=ls:=rfl
      rw [e] at hs
      rcases List.mem_cons.1 hs with rfl|hs
      · exact Nat.zero_le _
      · have h1:=ih _ s hs
        simp only [List.getD_eq_getElem?_getD,List.getElem?_eq_getElem hlt,Option.getD_some] at h1
        simp only [V.weight];omega
    · split at hs
      · rename_i ho
        have hlt:b.toNat % os.length<os.length:=Nat.mod_lt _ ho
        have hm:=weightO_mem os _ hlt
        have e:(V.mk k n t ls os).os=os:=rfl
        rw [e] at hs
        simp only [List.getD_eq_getElem?_getD,List.getElem?_eq_getElem hlt,Option.getD_some] at hs
        rcases List.mem_cons.1 hs with rfl|hs
        · simp only [V.weight];omega
        · have h1:=ih _ s hs
          simp only [V.weight];omega
      · exact ih _ s hs
theorem aimP_bnd {K:Nat} (l:List Ac):∀v,v.weight+20100*l.length+41≤K→∀c ∈ aimP v l,CmB c K∧c.v.weight≤20000:=by
  induction l with
  |nil=>intro v _ c hc;simp [aimP] at hc
  | cons a r ih =>
    intro v hv c hc
    rw [List.length_cons,Nat.mul_succ] at hv
    unfold aimP at hc
    split at hc
    · exact ih v (by omega) c hc
    · rename_i d hd
      split at hc
      · rename_i h0
        rcases List.mem_cons.1 hc with rfl|hc
        · have hs:=oneC_small hd
          refine ⟨⟨?_,by have:=hs.ss;omega,fun s hsm=> ?_⟩,hs.sv⟩
          · rcases hs.sk with h|h
            · omega
            · have hck:checkP v c=0:=by
                by_cases he:checkP v c=0
                · exact he
                · rw [doP,if_neg he] at h0;exact absurd h0 he
              obtain ⟨_,x,hg,_⟩:=checkP_ok hck
              obtain ⟨f,hf,e⟩:=h x hg
              have h1:=getP_weight c.path hg
              obtain ⟨k,n,t,ls,os,rfl⟩:=x.eta
              obtain ⟨i,hi,hfi⟩:=List.getElem_of_mem hf
              have h2:=weightO_mem os i hi
              have e2:os[i] =f:=hfi
              rw [e2,e] at h2
              simp only [V.weight] at h1;omega
          · have hp:s ∈ walkP v (a.path.take 8):=by
              have hsub:∀y:Cm,oneC v a=some y→y.path=aimPath v a.path:=by
                intro y hy
                unfold oneC oneX at hy
                repeat' split at hy
                all_goals first|(injection hy with hy;subst hy;rfl)|cases hy
              rw [hsub c hd] at hsm
              exact List.mem_of_mem_take (List.mem_of_mem_take hsm)
            have:=walkP_keys _ v s hp
            omega
        · have:=aim_step hd h0
          exact ih _ (by omega) c hc
      · exact ih v (by omega) c hc
theorem entry_small (x:Rc) (hv:∀t ∈ x.v,t.s.size≤140737488355328) (ho:∀b ∈ x.op,∀t ∈ b.v,t.s.size≤140737488355328):(entryP x).small:=by
  have hb:=(build_light x.v).2.1
  have hn:=weight_none
  unfold entryP
  split
  · split
    · exact ⟨by dsimp only;omega,fun c hc=>by cases hc⟩
    · split
      · refine ⟨by dsimp only;omega,fun c hc=> ?_⟩
        have hl:(x.acts.take 20).length≤20:=by rw [List.length_take];omega
        have:=(aimP_bnd (K:=1048576) (x.acts.take 20) (oneP 6 (x.v.take 60)).1 (by omega) c hc).2
        omega
      · exact ⟨by dsimp only;omega,fun c hc=>by cases hc⟩
  · refine ⟨raw_weight x.v hv,fun c hc=> ?_⟩
    obtain ⟨b,hb,rfl⟩:=List.mem_map.1 hc
    exact raw_weight b.v (ho b (List.mem_of_mem_take hb))
theorem entry_len (x:Rc) (ho:∀b ∈ x.op,b.key.size≤1048576∧b.s.size≤1048576∧∀s ∈ b.path,s.key.size≤1048576):enSound (entryP x)=true→(encE (entryP x)).length≤70368744177664:=by
  intro hs
  refine encE_len hs fun c hc=> ?_
  have hb:=(build_light x.v).2.1
  unfold entryP at hc
  split at hc
  · split at hc
    · cases hc
    · split at hc
      · have hl:(x.acts.take 20).length≤20:=by rw [List.length_take];omega
        exact (aimP_bnd (K:=1048576) (x.acts.take 20) (oneP 6 (x.v.take 60)).1 (by omega) c hc).1
      · cases hc
  · obtain ⟨b,hb,rfl⟩:=List.mem_map.1 hc
    have h:=ho b (List.mem_of_mem_take hb)
    exact ⟨h.1,h.2.1,h.2.2⟩
end Go.Proofs.YtgcfhkceejcliaaGreatDoor
namespace Go.Proofs.YtgcfhkceejcliaaGreatDoor
open Go.ChangeShapes Go.WideShapes Go.ChangeAt Go.RowKit Go.Lib Go.Deep
instance:Inhabited St:=⟨⟨false,0, .empty⟩⟩
instance:Inhabited AC:=⟨⟨none,0,0,0,0,0,0, .empty,none,0,0⟩⟩
instance:Inhabited Ac:=⟨⟨[],0,0,0,0, .empty, []⟩⟩
instance:Inhabited BA:=⟨⟨0,none,0,0, .empty,0,0,0, .empty,none,0,0⟩⟩
instance:Inhabited Ba:=⟨⟨0, [], .empty,0,0,0, .empty, []⟩⟩
theorem bulk_part {H:Type} {d:DataW H} {l:List (DataW H)} (h:d ∈ l):Rows.uptoBulk d≤Rows.uptoBulkAll l:=by
  induction l with
  |nil=>cases h
  | cons x r ih=>
    simp only [Rows.uptoBulkAll]
    rcases List.mem_cons.1 h with e|e
    · subst e;omega
    · have:=ih e;omega
theorem bulk_one {H:Type} (d:DataW H):1≤Rows.uptoBulk d:=by
  cases d with
  |lit l=>cases l<;>simp [Rows.uptoBulk]
  |nil=>simp [Rows.uptoBulk]
  |ptr d=>simp [Rows.uptoBulk]
  |slice elems spare=>simp [Rows.uptoBulk]
  |agg parts=>simp [Rows.uptoBulk]
  |iface t d=>simp [Rows.uptoBulk]
  |map entries=>simp [Rows.uptoBulk]
  |held h=>simp [Rows.uptoBulk]
theorem bulk_len {H:Type} (l:List (DataW H)):l.length≤Rows.uptoBulkAll l:=by
  induction l with
  |nil=>simp [Rows.uptoBulkAll]
  |cons x r ih=>have:=bulk_one x;simp only [Rows.uptoBulkAll,List.length_cons];omega
structure InRow {T:Type} (W:World) (sz:Nat) (cells:T→List Value) (Q:T→Prop) (l:List T) (a:Option Addr) (n c:Nat):Prop where
  len:n=l.length
  cap:n≤c
  max:c≤9223372036854775807
  few:n≤1048576
  at_:∃b o,(0<n→a=some ⟨b,o,none⟩∧b<W.heap.size)∧∀i (h:i<l.length),(∀j u,(cells l[i])[j]? =some u→W.cell? ⟨b,o+i*sz+j,none⟩=some u)∧Q l[i]
theorem open_row {T:Type} [Inhabited T] {H:Type} {enc:TypeId×Value→H} {W:World} {t e:TypeId} {sz:Nat} (hu:Tryz.prog.underlying t=some (.slice e)) (hc:Tryz.prog.cellsOf e=sz) (hsz:0<sz) (cells:T→List Value) (hcl:∀x,(cells x).length=sz) (Q:T→Prop)
    (hel:∀ {fuel:Nat} {cs:List Value} {x:DataW H×List MemPlace},DataW.trod enc Tryz.prog W 0 (fun _=>true) true fuel e cs=some x→Rows.uptoBulk x.1≤1048576→∃y:T,cs=cells y∧Q y)
    {fuel:Nat} {cs:List Value} {x:DataW H×List MemPlace} (hf:DataW.trod enc Tryz.prog W 0 (fun _=>true) true fuel t cs=some x) (hB:Rows.uptoBulk x.1≤1048576):
    ∃(a:Option Addr) (n c:Nat) (l:List T),cs= [.slice a n c] ∧InRow W sz cells Q l a n c:=by
  rcases open_slice hu hf with ⟨rfl,_⟩|⟨a,len,cap,m,n,D,Pl,rfl,_,hl,hm,hmm,rfl,hel2⟩
  · exact ⟨none,0,0, [],rfl,rfl,Nat.le_refl _,by decide,by decide,0,0,fun h=>absurd h (by decide),fun i hi=>absurd hi (by simp)⟩
  · simp only [if_true] at hmm
    rw [hc] at hel2
    simp only [Rows.uptoBulk] at hB
    have hln:=bulk_len ((List.range len).map D)
    rw [List.length_map,List.length_range] at hln
    obtain ⟨T',hT⟩:=choose_lt (n:=len) (p:=fun i (y:T)=>(∀j u,(cells y)[j]? =some u→W.cell? (a.add (i*sz+j))=some u)∧Q y) (fun i hi=>by
      obtain ⟨cs',h1,h2⟩:=hel2 i (by omega)
      obtain ⟨y,rfl,hy⟩:=hel h2 (by
        have:=bulk_part (List.mem_map.2 ⟨i,List.mem_range.2 hi,rfl⟩:D i ∈ (List.range len).map D)
        dsimp only;omega)
      obtain ⟨_,_,h3⟩:=World.cells?_some h1
      refine ⟨y,fun j u hj=> ?_,hy⟩
      have hj4:j<sz:=by rw [←hcl y];exact (List.getElem?_eq_some_iff.1 hj).1
      rw [←add_add,h3 j hj4,hj])
    have hspot:0<len→a.spot=none∧a.block<W.heap.size:=fun hn=>by
      have hlt:0<(cells (T' 0)).length:=by rw [hcl];exact hsz
      have h0:=(hT 0 hn).1 0 (cells (T' 0))[0] (List.getElem?_eq_getElem hlt)
      have h1:=World.cell?_spot h0
      have h2:=World.block_lt_of_cell? W _ h0
      exact ⟨by simpa [Addr.add] using h1,by simpa [Addr.add] using h2⟩
    refine ⟨some a,len,cap,(List.range len).map T',rfl,by simp,hl,by unfold maxLen at hm;omega,by omega,a.block,a.off,fun hn=> ?_,fun i hi=> ?_⟩
    · obtain ⟨h1,h2⟩:=hspot hn
      obtain ⟨ab,ao,spot⟩:=a
      dsimp only at h1 h2
      subst h1
      exact ⟨rfl,h2⟩
    · have hi':i<len:=by simpa using hi
      obtain ⟨h1,h2⟩:=hspot (by omega)
      obtain ⟨g1,g2⟩:=hT i hi'
      obtain ⟨ab,ao,spot⟩:=a
      dsimp only at h1
      subst h1
      simp only [List.getElem_map,List.getElem_range]
      refine ⟨fun j u hj=> ?_,g2⟩
      have:=g1 j u hj
      rw [Addr.add_lit] at this
      rw [Nat.add_assoc];exact this
theorem list3 {α:Type} {l:List α} (h:l.length=3):∃v0 v1 v2,l= [v0,v1,v2] :=by
  match l,h with
  | [v0,v1,v2],_=>exact ⟨v0,v1,v2,rfl⟩
theorem trod_struct36 {H:Type} {enc:TypeId×Value→H} {P:Program} {w:World} {base:Nat} {spare:Nat→Bool} {held:Bool} {t:TypeId} {f0 f1 f2:Field} {fuel:Nat} {cs:List Value} {x:DataW H×List MemPlace} (ht:P.underlying t=some (.struct #[f0,f1,f2])) (h:DataW.trod enc P w base spare held fuel t cs=some x):
    ∃(y0 y1 y2:DataW H×List MemPlace) (n:Nat),x.1= .agg [y0.1,y1.1,y2.1] ∧cs.length=P.cellsOf t∧DataW.trod enc P w base spare held n f0.type ((cs.drop f0.offset).take (P.cellsOf f0.type))=some y0∧DataW.trod enc P w base spare held n f1.type ((cs.drop f1.offset).take (P.cellsOf f1.type))=some y1∧DataW.trod enc P w base spare held n f2.type ((cs.drop f2.offset).take (P.cellsOf f2.type))=some y2:=by
  obtain ⟨xs,n,_,rfl,hl,hlen,hf⟩:=DataW.trod_struct ht h
  match xs,hlen with
  | [y0,y1,y2],_=>exact ⟨y0,y1,y2,n,by simp,hl,by simpa using hf 0 f0 rfl,by simpa using hf 1 f1 rfl,by simpa using hf 2 f2 rfl⟩
theorem list4 {α:Type} {l:List α} (h:l.length=4):∃v0 v1 v2 v3,l= [v0,v1,v2,v3] :=by
  match l,h with
  | [v0,v1,v2,v3],_=>exact ⟨v0,v1,v2,v3,rfl⟩
theorem trod_struct46 {H:Type} {enc:TypeId×Value→H} {P:Program} {w:World} {base:Nat} {spare:Nat→Bool} {held:Bool} {t:TypeId} {f0 f1 f2 f3:Field} {fuel:Nat} {cs:List Value} {x:DataW H×List MemPlace} (ht:P.underlying t=some (.struct #[f0,f1,f2,f3])) (h:DataW.trod enc P w base spare held fuel t cs=some x):
    ∃(y0 y1 y2 y3:DataW H×List MemPlace) (n:Nat),x.1= .agg [y0.1,y1.1,y2.1,y3.1] ∧cs.length=P.cellsOf t∧DataW.trod enc P w base spare held n f0.type ((cs.drop f0.offset).take (P.cellsOf f0.type))=some y0∧DataW.trod enc P w base spare held n f1.type ((cs.drop f1.offset).take (P.cellsOf f1.type))=some y1∧DataW.trod enc P w base spare held n f2.type ((cs.drop f2.offset).take (P.cellsOf f2.type))=some y2∧DataW.trod enc P w base spare held n f3.type ((cs.drop f3.offset).take (P.cellsOf f3.type))=some y3:=by
  obtain ⟨xs,n,_,rfl,hl,hlen,hf⟩:=DataW.trod_struct ht h
  match xs,hlen with
  | [y0,y1,y2,y3],_=>exact ⟨y0,y1,y2,y3,n,by simp,hl,by simpa using hf 0 f0 rfl,by simpa using hf 1 f1 rfl,by simpa using hf 2 f2 rfl,by simpa using hf 3 f3 rfl⟩
theorem list7 {α:Type} {l:List α} (h:l.length=7):∃v0 v1 v2 v3 v4 v5 v6,l= [v0,v1,v2,v3,v4,v5,v6] :=by
  match l,h with
  | [v0,v1,v2,v3,v4,v5,v6],_=>exact ⟨v0,v1,v2,v3,v4,v5,v6,rfl⟩
theorem trod_struct76 {H:Type} {enc:TypeId×Value→H} {P:Program} {w:World} {base:Nat} {spare:Nat→Bool} {held:Bool} {t:TypeId} {f0 f1 f2 f3 f4 f5 f6:Field} {fuel:Nat} {cs:List Value} {x:DataW H×List MemPlace} (ht:P.underlying t=some (.struct #[f0,f1,f2,f3,f4,f5,f6])) (h:DataW.trod enc P w base spare held fuel t cs=some x):
    ∃(y0 y1 y2 y3 y4 y5 y6:DataW H×List MemPlace) (n:Nat),x.1= .agg [y0.1,y1.1,y2.1,y3.1,y4.1,y5.1,y6.1] ∧cs.length=P.cellsOf t∧DataW.trod enc P w base spare held n f0.type ((cs.drop f0.offset).take (P.cellsOf f0.type))=some y0∧DataW.trod enc P w base spare held n f1.type ((cs.drop f1.offset).take (P.cellsOf f1.type))=some y1∧DataW.trod enc P w base spare held n f2.type ((cs.drop f2.offset).take (P.cellsOf f2.type))=some y2∧DataW.trod enc P w base spare held n f3.type ((cs.drop f3.offset).take (P.cellsOf f3.type))=some y3∧DataW.trod enc P w base spare held n f4.type ((cs.drop f4.offset).take (P.cellsOf f4.type))=some y4∧DataW.trod enc P w base spare held n f5.type ((cs.drop f5.offset).take (P.cellsOf f5.type))=some y5∧DataW.trod enc P w base spare held n f6.type ((cs.drop f6.offset).take (P.cellsOf f6.type))=some y6:=by
  obtain ⟨xs,n,_,rfl,hl,hlen,hf⟩:=DataW.trod_struct ht h
  match xs,hlen with
  | [y0,y1,y2,y3,y4,y5,y6],_=>exact ⟨y0,y1,y2,y3,y4,y5,y6,n,by simp,hl,by simpa using hf 0 f0 rfl,by simpa using hf 1 f1 rfl,by simpa using hf 2 f2 rfl,by simpa using hf 3 f3 rfl,by simpa using hf 4 f4 rfl,by simpa using hf 5 f5 rfl,by simpa using hf 6 f6 rfl⟩
theorem list8 {α:Type} {l:List α} (h:l.length=8):∃v0 v1 v2 v3 v4 v5 v6 v7,l= [v0,v1,v2,v3,v4,v5,v6,v7] :=by
  match l,h with
  | [v0,v1,v2,v3,v4,v5,v6,v7],_=>exact ⟨v0,v1,v2,v3,v4,v5,v6,v7,rfl⟩
theorem trod_struct86 {H:Type} {enc:TypeId×Value→H} {P:Program} {w:World} {base:Nat} {spare:Nat→Bool} {held:Bool} {t:TypeId} {f0 f1 f2 f3 f4 f5 f6 f7:Field} {fuel:Nat} {cs:List Value} {x:DataW H×List MemPlace} (ht:P.underlying t=some (.struct #[f0,f1,f2,f3,f4,f5,f6,f7])) (h:DataW.trod enc P w base spare held fuel t cs=some x):
    ∃(y0 y1 y2 y3 y4 y5 y6 y7:DataW H×List MemPlace) (n:Nat),x.1= .agg [y0.1,y1.1,y2.1,y3.1,y4.1,y5.1,y6.1,y7.1] ∧cs.length=P.cellsOf t∧DataW.trod enc P w base spare held n f0.type ((cs.drop f0.offset).take (P.cellsOf f0.type))=some y0∧DataW.trod enc P w base spare held n f1.type ((cs.drop f1.offset).take (P.cellsOf f1.type))=some y1∧DataW.trod enc P w base spare held n f2.type ((cs.drop f2.offset).take (P.cellsOf f2.type))=some y2∧DataW.trod enc P w base spare held n f3.type ((cs.drop f3.offset).take (P.cellsOf f3.type))=some y3∧DataW.trod enc P w base spare held n f4.type ((cs.drop f4.offset).take (P.cellsOf f4.type))=some y4∧DataW.trod enc P w base spare held n f5.type ((cs.drop f5.offset).take (P.cellsOf f5.type))=some y5∧DataW.trod enc P w base spare held n f6.type ((cs.drop f6.offset).take (P.cellsOf f6.type))=some y6∧DataW.trod enc P w base spare held n f7.type ((cs.drop f7.offset).take (P.cellsOf f7.type))=some y7:=by
  obtain ⟨xs,n,_,rfl,hl,hlen,hf⟩:=DataW.trod_struct ht h
  match xs,hlen with
  | [y0,y1,y2,y3,y4,y5,y6,y7],_=>exact ⟨y0,y1,y2,y3,y4,y5,y6,y7,n,by simp,hl,by simpa using hf 0 f0 rfl,by simpa using hf 1 f1 rfl,by simpa using hf 2 f2 rfl,by simpa using hf 3 f3 rfl,by simpa using hf 4 f4 rfl,by simpa using hf 5 f5 rfl,by simpa using hf 6 f6 rfl,by simpa using hf 7 f7 rfl⟩
set_option maxRecDepth 100000 in
theorem open_tok6 {H:Type} {enc:TypeId×Value→H} {W:World} {fuel:Nat} {cs:List Value} {x:DataW H×List MemPlace} (hf:DataW.trod enc Tryz.prog W 0 (fun _=>true) true fuel 51 cs=some x) (hB:Rows.uptoBulk x.1≤1048576):
    ∃t:Tk,cs= [.int .u8 t.k, .int .i64 t.n, .string t.s, .int .u8 t.m] ∧t.Bnd:=by
  obtain ⟨y0,y1,y2,y3,nf,hx,hlen,h0,h1,h2,h3⟩:=trod_struct46 Tryz.underlying51 hf
  rw [hx] at hB
  simp only [Rows.uptoBulk,Rows.uptoBulkAll] at hB
  have hz:cs.length=4:=by rw [hlen];kernel_rfl
  obtain ⟨v0,v1,v2,v3,rfl⟩:=list4 hz
  have c_i64:Tryz.prog.cellsOf 2=1:=by kernel_rfl
  have c_str:Tryz.prog.cellsOf 9=1:=by kernel_rfl
  have c_u8:Tryz.prog.cellsOf 5=1:=by kernel_rfl
  simp only [c_i64,c_str,c_u8] at h0 h1 h2 h3
  simp only [List.drop_zero,List.drop_succ_cons,List.take_succ_cons,List.take_zero] at h0 h1 h2 h3
  obtain ⟨k,e0,rfl,w0⟩:=DataW.trod_int Tryz.underlying5 h0
  injection e0 with e0 _
  subst e0
  have b0:=bounds_u8 w0
  obtain ⟨n,e1,rfl,w1⟩:=DataW.trod_int Tryz.underlying2 h1
  injection e1 with e1 _
  subst e1
  have b1:=bounds_i64 w1
  obtain ⟨s,e2,rfl,_⟩:=DataW.trod_string Tryz.underlying9 h2
  injection e2 with e2 _
  subst e2
  have z2:s.data.toList.length=s.size:=Array.length_toList
  obtain ⟨m,e3,rfl,w3⟩:=DataW.trod_int Tryz.underlying5 h3
  injection e3 with e3 _
  subst e3
  have b3:=bounds_u8 w3
  simp only [Rows.uptoBulk] at hB
  exact ⟨⟨k,n,s,m⟩,rfl,⟨b0.1,by have:=b0.2;dsimp only;omega,b1.1,b1.2,by dsimp only;omega,b3.1,by have:=b3.2;dsimp only;omega⟩⟩
theorem open_toks6 {H:Type} {enc:TypeId×Value→H} {W:World} {fuel:Nat} {cs:List Value} {x:DataW H×List MemPlace} (hf:DataW.trod enc Tryz.prog W 0 (fun _=>true) true fuel 23 cs=some x) (hB:Rows.uptoBulk x.1≤1048576):
    ∃(a:Option Addr) (n c:Nat) (l:List Tk),cs= [.slice a n c] ∧IsToks W W.heap.size l a n c:=by
  obtain ⟨a,n,c,l,e,h1,h2,h3,_,b,o,h5,h6⟩:=open_row (sz:=4) Tryz.underlying23 (by kernel_rfl) (by decide) (fun t:Tk=> [.int .u8 t.k, .int .i64 t.n, .string t.s, .int .u8 t.m]) (fun _=>rfl) Tk.Bnd open_tok6 hf hB
  exact ⟨a,n,c,l,e,h1,h2,h3,b,o,h5,fun i hi=>⟨⟨(h6 i hi).1 0 _ rfl,(h6 i hi).1 1 _ rfl,(h6 i hi).1 2 _ rfl,(h6 i hi).1 3 _ rfl⟩,(h6 i hi).2⟩⟩
set_option maxRecDepth 100000 in
theorem open_byte6 {H:Type} {enc:TypeId×Value→H} {W:World} {fuel:Nat} {cs:List Value} {x:DataW H×List MemPlace} (hf:DataW.trod enc Tryz.prog W 0 (fun _=>true) true fuel 5 cs=some x) (_:Rows.uptoBulk x.1≤1048576):
    ∃y:UInt8,cs= [Value.int .u8 (y.toNat:Int)] ∧True:=by
  obtain ⟨k,rfl,_,w0⟩:=DataW.trod_int Tryz.underlying5 hf
  have b0:=bounds_u8 w0
  refine ⟨UInt8.ofNat k.toNat, ?_,trivial⟩
  have:(UInt8.ofNat k.toNat).toNat=k.toNat:=by rw [UInt8.toNat_ofNat'];omega
  rw [this,Int.toNat_of_nonneg b0.1]
theorem open_bytes6 {H:Type} {enc:TypeId×Value→H} {W:World} {fuel:Nat} {cs:List Value} {x:DataW H×List MemPlace} (hf:DataW.trod enc Tryz.prog W 0 (fun _=>true) true fuel 38 cs=some x) (hB:Rows.uptoBulk x.1≤1048576):
    ∃(a:Option Addr) (n c:Nat) (l:List UInt8),cs= [.slice a n c] ∧IsB W W.heap.size a n c l:=by
  obtain ⟨a,n,c,l,e,h1,h2,h3,_,b,o,h5,h6⟩:=open_row (sz:=1) Tryz.underlying38 (by kernel_rfl) (by decide) (fun y:UInt8=> [Value.int .u8 (y.toNat:Int)]) (fun _=>rfl) (fun _=>True) open_byte6 hf hB
  exact ⟨a,n,c,l,e,h1,h2,h3,b,o,h5,fun i hi=>by have:=(h6 i hi).1 0 _ rfl;simpa using this⟩
set_option maxRecDepth 100000 in
theorem open_step6 {H:Type} {enc:TypeId×Value→H} {W:World} {fuel:Nat} {cs:List Value} {x:DataW H×List MemPlace} (hf:DataW.trod enc Tryz.prog W 0 (fun _=>true) true fuel 56 cs=some x) (hB:Rows.uptoBulk x.1≤1048576):
    ∃t:St,cs=scells t∧(t.Bnd∧t.key.size≤1048576):=by
  obtain ⟨y0,y1,y2,n,hx,hlen,h0,h1,h2⟩:=trod_struct36 Tryz.underlying56 hf
  rw [hx] at hB
  simp only [Rows.uptoBulk,Rows.uptoBulkAll] at hB
  have hz:cs.length=3:=by rw [hlen];kernel_rfl
  obtain ⟨v0,v1,v2,rfl⟩:=list3 hz
  have c_bool:Tryz.prog.cellsOf 4=1:=by kernel_rfl
  have c_int:Tryz.prog.cellsOf 3=1:=by kernel_rfl
  have c_str:Tryz.prog.cellsOf 9=1:=by kernel_rfl
  simp only [c_bool,c_int,c_str] at h0 h1 h2
  simp only [List.drop_zero,List.drop_succ_cons,List.take_succ_cons,List.take_zero] at h0 h1 h2
  obtain ⟨l,e0,rfl⟩:=DataW.trod_bool Tryz.underlying4 h0
  injection e0 with e0 _
  subst e0
  obtain ⟨i,e1,rfl,w1⟩:=DataW.trod_int Tryz.underlying3 h1
  injection e1 with e1 _
  subst e1
  have b1:=bounds_i64 w1
  obtain ⟨s,e2,rfl,_⟩:=DataW.trod_string Tryz.underlying9 h2
  injection e2 with e2 _
  subst e2
  have z2:s.data.toList.length=s.size:=Array.length_toList
  simp only [Rows.uptoBulk] at hB
  exact ⟨⟨l,i,s⟩,rfl,⟨b1.1,b1.2,by dsimp only;omega⟩,by dsimp only;omega⟩
theorem open_steps6 {H:Type} {enc:TypeId×Value→H} {W:World} {fuel:Nat} {cs:List Value} {x:DataW H×List MemPlace} (hf:DataW.trod enc Tryz.prog W 0 (fun _=>true) true fuel 52 cs=some x) (hB:Rows.uptoBulk x.1≤1048576):
    ∃(a:Option Addr) (n c:Nat) (l:List St),cs= [.slice a n c] ∧IsSteps W W.heap.size l a n c∧∀s ∈ l,s.key.size≤1048576:=by
  obtain ⟨a,n,c,l,e,h1,h2,h3,h4,b,o,h5,h6⟩:=open_row (sz:=3) Tryz.underlying52 (by kernel_rfl) (by decide) scells (fun _=>rfl) (fun t=>t.Bnd∧t.key.size≤1048576) open_step6 hf hB
  refine ⟨a,n,c,l,e,⟨h1,h2,h3,by omega,b,o,h5,fun i hi=>⟨⟨(h6 i hi).1 0 _ rfl,(h6 i hi).1 1 _ rfl,(h6 i hi).1 2 _ rfl⟩,(h6 i hi).2.1⟩⟩,fun s hs=> ?_⟩
  obtain ⟨i,hi,rfl⟩:=List.getElem_of_mem hs
  exact (h6 i hi).2.2
set_option maxRecDepth 100000 in
theorem open_act6 {H:Type} {enc:TypeId×Value→H} {W:World} {fuel:Nat} {cs:List Value} {x:DataW H×List MemPlace} (hf:DataW.trod enc Tryz.prog W 0 (fun _=>true) true fuel 85 cs=some x) (hB:Rows.uptoBulk x.1≤1048576):
    ∃p:AC×Ac,cs=acells p.1∧IsAct W W.heap.size p.2 p.1:=by
  obtain ⟨y0,y1,y2,y3,y4,y5,y6,n,hx,hlen,h0,h1,h2,h3,h4,h5,h6⟩:=trod_struct76 Tryz.underlying85 hf
  rw [hx] at hB
  simp only [Rows.uptoBulk,Rows.uptoBulkAll] at hB
  have hz:cs.length=7:=by rw [hlen];kernel_rfl
  obtain ⟨v0,v1,v2,v3,v4,v5,v6,rfl⟩:=list7 hz
  have c_i64:Tryz.prog.cellsOf 2=1:=by kernel_rfl
  have c_int:Tryz.prog.cellsOf 3=1:=by kernel_rfl
  have c_open_bytes6:Tryz.prog.cellsOf 38=1:=by kernel_rfl
  have c_open_toks6:Tryz.prog.cellsOf 23=1:=by kernel_rfl
  have c_str:Tryz.prog.cellsOf 9=1:=by kernel_rfl
  have c_u8:Tryz.prog.cellsOf 5=1:=by kernel_rfl
  simp only [c_i64,c_int,c_open_bytes6,c_open_toks6,c_str,c_u8] at h0 h1 h2 h3 h4 h5 h6
  simp only [List.drop_zero,List.drop_succ_cons,List.take_succ_cons,List.take_zero] at h0 h1 h2 h3 h4 h5 h6
  obtain ⟨a0,n0,c0,l0,e0,I0⟩:=open_bytes6 h0 (by omega)
  injection e0 with e0 _
  subst e0
  obtain ⟨k,e1,rfl,w1⟩:=DataW.trod_int Tryz.underlying5 h1
  injection e1 with e1 _
  subst e1
  have b1:=bounds_u8 w1
  obtain ⟨i,e2,rfl,w2⟩:=DataW.trod_int Tryz.underlying3 h2
  injection e2 with e2 _
  subst e2
  have b2:=bounds_i64 w2
  obtain ⟨j,e3,rfl,w3⟩:=DataW.trod_int Tryz.underlying3 h3
  injection e3 with e3 _
  subst e3
  have b3:=bounds_i64 w3
  obtain ⟨m,e4,rfl,w4⟩:=DataW.trod_int Tryz.underlying2 h4
  injection e4 with e4 _
  subst e4
  have b4:=bounds_i64 w4
  obtain ⟨s,e5,rfl,_⟩:=DataW.trod_string Tryz.underlying9 h5
  injection e5 with e5 _
  subst e5
  have z5:s.data.toList.length=s.size:=Array.length_toList
  obtain ⟨a6,n6,c6,l6,e6,I6⟩:=open_toks6 h6 (by omega)
  injection e6 with e6 _
  subst e6
  simp only [Rows.uptoBulk] at hB
  exact ⟨(⟨a0,n0,c0,k,i,j,m,s,a6,n6,c6⟩,⟨l0,k,i,j,m,s,l6⟩),rfl, .mk ⟨a0,n0,c0,k,i,j,m,s,a6,n6,c6⟩ l0 l6 ⟨b1.1,by have:=b1.2;dsimp only;omega,b2.1,b2.2,b3.1,b3.2,b4.1,b4.2,by dsimp only;omega⟩ I0 I6⟩
theorem open_acts6 {H:Type} {enc:TypeId×Value→H} {W:World} {fuel:Nat} {cs:List Value} {x:DataW H×List MemPlace} (hf:DataW.trod enc Tryz.prog W 0 (fun _=>true) true fuel 25 cs=some x) (hB:Rows.uptoBulk x.1≤1048576):
    ∃(a:Option Addr) (n c:Nat) (l:List Ac),cs= [.slice a n c] ∧IsActs W W.heap.size l a n c:=by
  obtain ⟨a,n,c,l,e,h1,h2,h3,_,b,o,h5,h6⟩:=open_row (sz:=7) Tryz.underlying25 (by kernel_rfl) (by decide) (fun p:AC×Ac=>acells p.1) (fun _=>rfl) (fun p=>IsAct W W.heap.size p.2 p.1) open_act6 hf hB
  refine ⟨a,n,c,l.map Prod.snd,e,by rw [List.length_map];exact h1,h2,h3,b,o,fun i=>(l.getD i default).1,h5,fun i hi=> ?_⟩
  rw [List.length_map] at hi
  obtain ⟨g1,g2⟩:=h6 i hi
  have he:l.getD i default=l[i] :=by simp [List.getD_eq_getElem?_getD,hi]
  simp only [he,List.getElem_map]
  exact ⟨⟨g1 0 _ rfl,g1 1 _ rfl,g1 2 _ rfl,g1 3 _ rfl,g1 4 _ rfl,g1 5 _ rfl,g1 6 _ rfl⟩,g2⟩
def Ba.low (b:Ba):Prop:=b.key.size≤1048576∧b.s.size≤1048576∧∀s ∈ b.path,s.key.size≤1048576
def bacells (c:BA):List Value:= [.int .u8 c.k, .slice c.pa c.pl c.pc, .string c.key, .int .i64 c.i, .int .i64 c.j, .int .i64 c.n, .string c.s, .slice c.va c.vl c.vc]
set_option maxRecDepth 100000 in
theorem open_bare6 {H:Type} {enc:TypeId×Value→H} {W:World} {fuel:Nat} {cs:List Value} {x:DataW H×List MemPlace} (hf:DataW.trod enc Tryz.prog W 0 (fun _=>true) true fuel 54 cs=some x) (hB:Rows.uptoBulk x.1≤1048576):
    ∃p:BA×Ba,cs=bacells p.1∧(IsBare W W.heap.size p.2 p.1∧p.2.low):=by
  obtain ⟨y0,y1,y2,y3,y4,y5,y6,y7,n,hx,hlen,h0,h1,h2,h3,h4,h5,h6,h7⟩:=trod_struct86 Tryz.underlying54 hf
  rw [hx] at hB
  simp only [Rows.uptoBulk,Rows.uptoBulkAll] at hB
  have hz:cs.length=8:=by rw [hlen];kernel_rfl
  obtain ⟨v0,v1,v2,v3,v4,v5,v6,v7,rfl⟩:=list8 hz
  have c_i64:Tryz.prog.cellsOf 2=1:=by kernel_rfl
  have c_int:Tryz.prog.cellsOf 3=1:=by kernel_rfl
  have c_open_steps6:Tryz.prog.cellsOf 52=1:=by kernel_rfl
  have c_open_toks6:Tryz.prog.cellsOf 23=1:=by kernel_rfl
  have c_str:Tryz.prog.cellsOf 9=1:=by kernel_rfl
  have c_u8:Tryz.prog.cellsOf 5=1:=by kernel_rfl
  simp only [c_i64,c_int,c_open_steps6,c_open_toks6,c_str,c_u8] at h0 h1 h2 h3 h4 h5 h6 h7
  simp only [List.drop_zero,List.drop_succ_cons,List.take_succ_cons,List.take_zero] at h0 h1 h2 h3 h4 h5 h6 h7
  obtain ⟨k,e0,rfl,w0⟩:=DataW.trod_int Tryz.underlying5 h0
  injection e0 with e0 _
  subst e0
  have b0:=bounds_u8 w0
  obtain ⟨a1,n1,c1,l1,e1,I1⟩:=open_steps6 h1 (by omega)
  injection e1 with e1 _
  subst e1
  obtain ⟨key,e2,rfl,_⟩:=DataW.trod_string Tryz.underlying9 h2
  injection e2 with e2 _
  subst e2
  have z2:key.data.toList.length=key.size:=Array.length_toList
  obtain ⟨i,e3,rfl,w3⟩:=DataW.trod_int Tryz.underlying3 h3
  injection e3 with e3 _
  subst e3
  have b3:=bounds_i64 w3
  obtain ⟨j,e4,rfl,w4⟩:=DataW.trod_int Tryz.underlying3 h4
  injection e4 with e4 _
  subst e4
  have b4:=bounds_i64 w4
  obtain ⟨m,e5,rfl,w5⟩:=DataW.trod_int Tryz.underlying2 h5
  injection e5 with e5 _
  subst e5
  have b5:=bounds_i64 w5
  obtain ⟨s,e6,rfl,_⟩:=DataW.trod_string Tryz.underlying9 h6
  injection e6 with e6 _
  subst e6
  have z6:s.data.toList.length=s.size:=Array.length_toList
  obtain ⟨a7,n7,c7,l7,e7,I7⟩:=open_toks6 h7 (by omega)
  injection e7 with e7 _
  subst e7
  simp only [Rows.uptoBulk] at hB
  exact ⟨(⟨k,a1,n1,c1,key,i,j,m,s,a7,n7,c7⟩,⟨k,l1,key,i,j,m,s,l7⟩),rfl, .mk ⟨k,a1,n1,c1,key,i,j,m,s,a7,n7,c7⟩ l1 l7 ⟨b0.1,by have:=b0.2;dsimp only;omega,b3.1,b3.2,b4.1,b4.2,b5.1,b5.2,by dsimp only;omega,by dsimp only;omega⟩ I1.1 I7,by dsimp only;omega,by dsimp only;omega,I1.2⟩
theorem open_bares6 {H:Type} {enc:TypeId×Value→H} {W:World} {fuel:Nat} {cs:List Value} {x:DataW H×List MemPlace} (hf:DataW.trod enc Tryz.prog W 0 (fun _=>true) true fuel 24 cs=some x) (hB:Rows.uptoBulk x.1≤1048576):
    ∃(a:Option Addr) (n c:Nat) (l:List Ba),cs= [.slice a n c] ∧IsBares W W.heap.size l a n c∧∀b ∈ l,b.low:=by
  obtain ⟨a,n,c,l,e,h1,h2,h3,_,b,o,h5,h6⟩:=open_row (sz:=8) Tryz.underlying24 (by kernel_rfl) (by decide) (fun p:BA×Ba=>bacells p.1) (fun _=>rfl) (fun p=>IsBare W W.heap.size p.2 p.1∧p.2.low) open_bare6 hf hB
  refine ⟨a,n,c,l.map Prod.snd,e,⟨by rw [List.length_map];exact h1,h2,h3,b,o,fun i=>(l.getD i default).1,h5,fun i hi=> ?_⟩,fun y hy=> ?_⟩
  · rw [List.length_map] at hi
    obtain ⟨g1,g2,_⟩:=h6 i hi
    have he:l.getD i default=l[i] :=by simp [List.getD_eq_getElem?_getD,hi]
    simp only [he,List.getElem_map]
    exact ⟨⟨g1 0 _ rfl,g1 1 _ rfl,g1 2 _ rfl,g1 3 _ rfl,g1 4 _ rfl,g1 5 _ rfl,g1 6 _ rfl,g1 7 _ rfl⟩,g2⟩
  · obtain ⟨p,hp,rfl⟩:=List.mem_map.1 hy
    obtain ⟨i,hi,rfl⟩:=List.getElem_of_mem hp
    exact (h6 i hi).2.2
set_option maxRecDepth 100000 in
theorem open_rec6 {H:Type} {enc:TypeId×Value→H} {W:World} {fuel:Nat} {cs:List Value} {x:DataW H×List MemPlace} (hf:DataW.trod enc Tryz.prog W 0 (fun _=>true) true fuel 27 cs=some x) (hB:Rows.uptoBulk x.1≤1048576):
    ∃(c:RC) (r:Rc),cs=rcells c∧IsRec W W.heap.size r c∧∀b ∈ r.op,b.low:=by
  obtain ⟨y0,y1,y2,y3,y4,y5,y6,n,hx,hlen,h0,h1,h2,h3,h4,h5,h6⟩:=trod_struct76 Tryz.underlying27 hf
  rw [hx] at hB
  simp only [Rows.uptoBulk,Rows.uptoBulkAll] at hB
  have hz:cs.length=7:=by rw [hlen];kernel_rfl
  obtain ⟨v0,v1,v2,v3,v4,v5,v6,rfl⟩:=list7 hz
  have c_bool:Tryz.prog.cellsOf 4=1:=by kernel_rfl
  have c_open_acts6:Tryz.prog.cellsOf 25=1:=by kernel_rfl
  have c_open_bares6:Tryz.prog.cellsOf 24=1:=by kernel_rfl
  have c_open_toks6:Tryz.prog.cellsOf 23=1:=by kernel_rfl
  have c_u32:Tryz.prog.cellsOf 22=1:=by kernel_rfl
  have c_u8:Tryz.prog.cellsOf 5=1:=by kernel_rfl
  simp only [c_bool,c_open_acts6,c_open_bares6,c_open_toks6,c_u32,c_u8] at h0 h1 h2 h3 h4 h5 h6
  simp only [List.drop_zero,List.drop_succ_cons,List.take_succ_cons,List.take_zero] at h0 h1 h2 h3 h4 h5 h6
  obtain ⟨k,e0,rfl,w0⟩:=DataW.trod_int Tryz.underlying5 h0
  injection e0 with e0 _
  subst e0
  have b0:=bounds_u8 w0
  obtain ⟨sr,e1,rfl,w1⟩:=DataW.trod_int Tryz.underlying22 h1
  injection e1 with e1 _
  subst e1
  have b1:=bounds_u32 w1
  obtain ⟨sq,e2,rfl,w2⟩:=DataW.trod_int Tryz.underlying22 h2
  injection e2 with e2 _
  subst e2
  have b2:=bounds_u32 w2
  obtain ⟨a3,n3,c3,l3,e3,I3⟩:=open_toks6 h3 (by omega)
  injection e3 with e3 _
  subst e3
  obtain ⟨a4,n4,c4,l4,e4,I4⟩:=open_bares6 h4 (by omega)
  injection e4 with e4 _
  subst e4
  obtain ⟨a5,n5,c5,l5,e5,I5⟩:=open_acts6 h5 (by omega)
  injection e5 with e5 _
  subst e5
  obtain ⟨sn,e6,rfl⟩:=DataW.trod_bool Tryz.underlying4 h6
  injection e6 with e6 _
  subst e6
  exact ⟨⟨k,sr,sq,a3,n3,c3,a4,n4,c4,a5,n5,c5,sn⟩,⟨k,sr,sq,l3,l4,l5,sn⟩,rfl, .mk ⟨k,sr,sq,a3,n3,c3,a4,n4,c4,a5,n5,c5,sn⟩ l3 l4 l5 ⟨b0.1,by have:=b0.2;dsimp only;omega,b1.1,by have:=b1.2;dsimp only;omega,b2.1,by have:=b2.2;dsimp only;omega⟩ I3 I4.1 I5,I4.2⟩
end Go.Proofs.YtgcfhkceejcliaaGreatDoor
namespace Go.Proofs.YtgcfhkceejcliaaGreatDoor
open Go.Shelf
open Go.ChangeShapes Go.WideShapes Go.ChangeAt Go.RowKit Go.Lib
theorem codeEncOwn:ownKnob Tryz.prog.godebug=none:=by kernel_rfl
theorem codeEncLaidOut:laidOutB Tryz.prog=true:=by kernel_rfl
noncomputable def codeEncWorld (os:Os):World:=
  let w0:=World.holding Tryz.prog os ⟨#[], #[], []⟩
  let put (h:Array Obj) (g:Nat) (cs:Array Value):Array Obj:=h.modify g fun
    | .cells _ t frozen=> .cells cs t frozen
    |o=>o
  let h1:=put w0.heap 0 (Lib.firstTab.map fun z=>Value.int .u8 z).toArray
  let h2:=put h1 1 ((List.range 16).flatMap fun i=> [Value.int .u8 (Lib.accLo i),Value.int .u8 (Lib.accHi i)]).toArray
  { w0 with heap:=h2 }
theorem codeEncAccept:Rows.laid_unicode_utf8_acceptRanges (H:=Unit)=Lib.acceptData:=by kernel_rfl
theorem codeEncLaid : Rows.codeEncodesUptoRow.laid = [("unicode/utf8.acceptRanges", Lib.acceptData), ("unicode/utf8.first", Lib.firstData)] := by
  show [("unicode/utf8.acceptRanges", Rows.laid_unicode_utf8_acceptRanges), ("unicode/utf8.first", Go.Pinned.utf8First)] = _
  rw [Pinned.utf8First_eq,codeEncAccept]
theorem codeEncLaidMet (os:Os) (args:Array Value):laidMet Tryz.prog Rows.codeEncodesUptoRow.laid ((codeEncWorld os).forCall (fun _ _=>0) ⟨#[],args, []⟩).memory:=by
  rw [codeEncLaid]
  exact (LaidIn.of_run (l := [("unicode/utf8.acceptRanges", Lib.acceptData), ("unicode/utf8.first", Lib.firstData)]) [0, 1] 8 (by kernel_rfl) (by kernel_rfl) (by kernel_rfl) (by kernel_rfl)).met
theorem codeEncWitness (os:Os) {H:Type} (enc:TypeId×Value→H):
    (Rows.OpenSpec.upto Rows.codeEncodesSpec).preRow enc Tryz.prog Tryz.f3 Rows.codeEncodesUptoRow.domain false Rows.codeEncodesUptoRow.laid ((codeEncWorld os).forCall (fun _ _=>0) ⟨#[], #[.agg #[.int .u8 0, .int .u32 0, .int .u32 0, .slice none 0 0, .slice none 0 0, .slice none 0 0, .bool false]], []⟩).memory #[.agg #[.int .u8 0, .int .u32 0, .int .u32 0, .slice none 0 0, .slice none 0 0, .slice none 0 0, .bool false]] :=by
  have hw:(DataW.whole enc Tryz.prog ((codeEncWorld os).forCall (fun _ _=>0) ⟨#[], #[.agg #[.int .u8 0, .int .u32 0, .int .u32 0, .slice none 0 0, .slice none 0 0, .slice none 0 0, .bool false]], []⟩).memory Tryz.f3.params.toList (Rows.OpenSpec.upto Rows.codeEncodesSpec).vars false #[Value.agg #[.int .u8 0, .int .u32 0, .int .u32 0, .slice none 0 0, .slice none 0 0, .slice none 0 0, .bool false]].toList 8).map (fun x=>(x.1,x.2.1))=
      some ([.agg [.lit (.int .u8 0), .lit (.int .u32 0), .lit (.int .u32 0), .nil, .nil, .nil, .lit (.bool false)]], []):=by kernel_rfl
  obtain ⟨⟨x1,x2,x3⟩,hx,hx1⟩:=Option.map_eq_some_iff.1 hw
  simp only [Prod.mk.injEq] at hx1
  obtain ⟨rfl,rfl⟩:=hx1
  exact OpenSpec.preRow_of_cond 8 hx (by kernel_rfl) (fun k hk=>by cases hk;kernel_rfl) (by kernel_rfl) (codeEncLaidMet os _)
theorem recToks {W:World} {B:Nat} {r:Rc} {c:RC} (h:IsRec W B r c):(∀t ∈ r.v,t.s.size≤140737488355328)∧∀b ∈ r.op,∀t ∈ b.v,t.s.size≤140737488355328:=by
  cases h with
  | mk _ v o a hbd hv ho ha=>
    refine ⟨hv.sizes,fun b hb=> ?_⟩
    obtain ⟨h1,h2,h3,b',q,f,h5,h6⟩:=ho
    obtain ⟨i,hi,rfl⟩:=List.getElem_of_mem hb
    exact ((h6 i hi).2.toks).sizes
set_option maxRecDepth 100000 in
theorem codeEncRec {H:Type} {enc:TypeId×Value→H} {W:World} {base:Nat} {v1:Value} {d1:DataW H} {p1:List MemPlace} (hval:Value.okWide Tryz.prog W .any base 27 v1) (h1:DataW.Trod enc Tryz.prog W 0 (fun _=>true) true 27 v1 d1 p1) (hB:Rows.uptoBulk d1≤1048576):
    ∃(c:RC) (r:Rc),v1= .agg (rcells c).toArray∧IsRec W W.heap.size r c∧∀b ∈ r.op,b.low:=by
  obtain ⟨cs,rfl,_⟩:=okWide_struct Tryz.underlying27 hval
  obtain ⟨fuel,hf⟩:=h1
  obtain ⟨c,r,hcs,hI,hl⟩:=open_rec6 hf hB
  refine ⟨c,r, ?_,hI,hl⟩
  have h2:cs.toList=rcells c:=by simpa [Value.cells] using hcs
  rw [←h2]
set_option maxRecDepth 100000 in
set_option maxHeartbeats 2000000 in
theorem codeEncLifted (os:Os) (started:os.Started) (H:Type) (enc:TypeId×Value→H) (F:Stop.Interp):
    ReturnsInHanded {} Tryz.checked os 3 .any ((Rows.OpenSpec.upto Rows.codeEncodesSpec).preRow enc Tryz.prog Tryz.f3 Rows.codeEncodesUptoRow.domain false Rows.codeEncodesUptoRow.laid) (((Rows.OpenSpec.upto Rows.codeEncodesSpec).at F).post enc Tryz.prog Tryz.f3 false true false false):=by
  refine returnsInHanded_of_row (C:=Tryz.checked) (s:=Rows.OpenSpec.upto Rows.codeEncodesSpec) codeEncOwn started (by kernel_rfl) Tryz.func3
    (witness_row_atRef (enc:=enc) (C:=Tryz.checked) false (codeEncWorld os) #[.agg #[.int .u8 0, .int .u32 0, .int .u32 0, .slice none 0 0, .slice none 0 0, .slice none 0 0, .bool false]] rfl (by kernel_rfl) (by kernel_rfl) (by kernel_rfl) (codeEncWitness os enc)) ?_
  intro W base args ds gs before hval0 hW _ hcond _ hL _ _
  have hval:∀(j:Nat) t v,Tryz.f3.params[j]? =some t→args[j]? =some v→Value.okWide Tryz.prog W .any base t v:=hval0
  have hW':=hW
  obtain ⟨p,q,hA0,hV0,rfl,_,_⟩:=hW
  have hA:DataW.TrodAll enc Tryz.prog W 0 (fun _=>true) true Tryz.f3.params.toList args.toList ds p:=hA0
  rw [Tryz.params3] at hA hval
  obtain ⟨v0,d0,rfl,rfl,h0⟩:=trodAll_one hA
  obtain ⟨rfl,rfl⟩:=trodVars_none hV0
  have k0:=h0
  have lt0:∀x ∈ p,x.block<W.heap.size:=by obtain ⟨m,hm⟩:=k0;exact DataW.trod_lt m _ _ _ hm
  have hB:Rows.uptoBulk d0≤1048576:=by
    have h1:=of_decide_eq_true (hcond _ rfl)
    simp only [List.append_nil,Rows.uptoBulkAll,Nat.add_zero] at h1
    exact h1
  obtain ⟨c,r,rfl,hI,hlow⟩:=codeEncRec (hval 0 27 v0 rfl rfl) h0 hB
  clear hA0 hV0 hval0
  have htab:Tabs W:=
    utf8Tabs_of_readsT (U8Types.of196 Tryz.lays196) ⟨by kernel_rfl,by kernel_rfl,by kernel_rfl,by kernel_rfl,by kernel_rfl,by kernel_rfl,by kernel_rfl⟩ (by rw [←Pinned.utf8First_eq];exact Lib.laidMet.reads hL (.tail _ (.head _))) (Lib.laidMet.reads hL (.head _))
  refine (codeEnc_any W htab c r hI (entry_small r (recToks hI).1 (recToks hI).2) (entry_len r hlow)).mono fun e W' ⟨he,bel⟩=> ?_
  subst he
  exact ⟨_,rfl,_,_,_, [],_, [],hW',trodAll_mk1 (shut_bool Tryz.underlying4 _),trodAll_cons_mk (Below.trod codeEncLaidOut (by kernel_rfl) (of_decide_eq_true (by kernel_rfl)) k0 bel lt0) trodAll_mk0,rfl,bel.frame _,fun h=>by cases h⟩
theorem codeEncRowHolds:Rows.CodeEncodesUptoSaid:=
  OpenClaim.holds_of_cond 3 Tryz.f3 rfl rfl rfl rfl rfl rfl rfl ⟨rfl,rfl,rfl,rfl,rfl⟩ rfl rfl rfl rfl rfl (by kernel_rfl) Tryz.func3 (by kernel_rfl)
    (of_decide_eq_true (by kernel_rfl)) (by unfold Func.isWrapper;rw [if_neg (of_decide_eq_false (by kernel_rfl))];exact ⟨rfl,rfl⟩)
    (fun os started H enc _ F0=>by rw [OpenClaim.pre_eq_preRow];exact codeEncLifted os started H enc F0)
theorem codeEncodes_holds:Rows.CodeEncodesUptoCardSaid:=
  Claim7.holds_tied_plain_at .later [] [.data, .pinned] true _ true
    codeEncRowHolds (fun _ h=>by cases h) (by kernel_rfl) (fun _ h=>by cases h) codeEncodesUpto_row_tie rfl ⟨rfl,rfl⟩ (by kernel_rfl) rfl
    (fun f fn hf hfn=>by
      obtain rfl : f = 3 := Option.some.inj ((show Tryz.prog.funcNamed "conciliator/conciliatorlaw10.CodeEncodes" = some 3 by kernel_rfl).symm.trans hf) |>.symm
      obtain rfl:fn=Tryz.f3:=(Option.some.inj (Tryz.func3.symm.trans hfn)).symm
      exact ⟨by kernel_rfl,fun j t ht=>by
        rw [Tryz.params3] at ht
        have h3:t=27:=by
          rcases j with _|j
          · simpa using ht.symm
          · simp at ht
        subst h3
        exact (show Tryz.prog.wantsStandIn 27=false by kernel_rfl)⟩)
    (by kernel_rfl)
#print axioms codeEncodes_holds
end Go.Proofs.YtgcfhkceejcliaaGreatDoor
