/-
  Contracts of the functions that the law reaches: Decode, where entries of kind 3 alone are read; the chapter's example. conciliatorref07.Same, conciliatorref10.Same: lists of components, entries are compared. What is written of a sound entry comes back. No program in sight.
-/
import Derived.Test.YtgcfhkceejcliaaGreatDoorAp16
import Derived.Test.YtgcfhkceejcliaaGreatDoorAp34
import Derived.Test.YtgcfhkceejcliaaGreatDoorAp25
import Derived.Test.YtgcfhkceejcliaaGreatDoorAp4
import Derived.Test.YtgcfhkceejcliaaGreatDoorAp5
namespace Go.Proofs.YtgcfhkceejcliaaGreatDoor
open Go.RowKit
theorem results_backE {tmps:Array Value} {W:World} {b:Nat} {cv:EC} {x:Value} (ht:tmps[2]? =some (.pointer (some ⟨b,0,none⟩))) (ht':tmps[3]? =some x) (h:BC W b [.int .u8 cv.k, .int .u32 cv.src, .int .u32 cv.seq, .int .u8 cv.v.k, .int .i64 cv.v.n, .string cv.v.s, .slice cv.v.la cv.v.ll cv.v.lc, .slice cv.v.oa cv.v.ol cv.v.oc, .slice cv.oa cv.ol cv.oc]):
    (results Tryz.f14 tmps).run Tryz.prog W= .ok (.tuple #[.agg #[.int .u8 cv.k, .int .u32 cv.src, .int .u32 cv.seq, .int .u8 cv.v.k, .int .i64 cv.v.n, .string cv.v.s, .slice cv.v.la cv.v.ll cv.v.lc, .slice cv.v.oa cv.v.ol cv.v.oc, .slice cv.oa cv.ol cv.oc],x]) W:=by
  obtain ⟨r0,r1,r2,r3,r4,r5,r6,r7,r8⟩:=row9 h.at_
  simp [results,Tryz.results14,go_sem,ht,ht',r0,r1,r2,r3,r4,r5,r6,r7,r8]
set_option maxHeartbeats 4000000 in
set_option maxRecDepth 100000 in
theorem backE_few (w:World) (hT:Tabs w) (a:Option Addr) (n c:Nat) (bs:List UInt8) (h:IsB w w.heap.size a n c bs) {v:En} {e:Int} (HWH:Hid (∀W,Tabs W→IsB W W.heap.size a n c bs→Calls Tryz.prog 38 #[.slice a n c, .func (.func 39) #[] #[], .func (.func 8) #[] #[]] W (WEPost W (v,e)))):
    Calls Tryz.prog 14 #[.slice a n c] w fun ee w'=>(∃cv:EC,ee= .returned (.tuple #[.agg #[.int .u8 cv.k, .int .u32 cv.src, .int .u32 cv.seq, .int .u8 cv.v.k, .int .i64 cv.v.n, .string cv.v.s, .slice cv.v.la cv.v.ll cv.v.lc, .slice cv.v.oa cv.v.ol cv.v.oc, .slice cv.oa cv.ol cv.oc], .int .u16 e])∧IsEntry w' w'.heap.size v cv)∧Below w.heap.size w w':=by
  have HX:Hid (∀W,W=w.alloc (.cells ez.toArray 36)→Tabs W∧IsB W W.heap.size a n c bs∧BC W w.heap.size ez∧Below w.heap.size w W∧W.heap.size=w.heap.size+1):=by
    intro W hW
    subst hW
    have hb:Below w.heap.size w (w.alloc (.cells ez.toArray 36)):=(Below.refl _ _).alloc (Nat.le_refl _) _
    exact ⟨hT.below hb,(h.keep hb).more hb.size,BC.start w ez.toArray _,hb,by simp⟩
  clear h hT
  go_enter Tryz.func14,Tryz.ntmps14
  go_wp2_with (go_at_call 38;refine (HWH.out _ (HX.out _ rfl).1 (HX.out _ rfl).2.1).mono ?_;rintro ee w2 ⟨⟨cv,rfl,hI⟩,hb⟩;have HH:=HX.out _ rfl;have O:=HH.2.2.1.keep hb (by omega);have o0:=O.at_ 0 _ rfl;have g0:=O.fr 0;have o1:=O.at_ 1 _ rfl;have g1:=O.fr 1;have o2:=O.at_ 2 _ rfl;have g2:=O.fr 2;have o3:=O.at_ 3 _ rfl;have g3:=O.fr 3;have o4:=O.at_ 4 _ rfl;have g4:=O.fr 4;have o5:=O.at_ 5 _ rfl;have g5:=O.fr 5;have o6:=O.at_ 6 _ rfl;have g6:=O.fr 6;have o7:=O.at_ 7 _ rfl;have g7:=O.fr 7;have o8:=O.at_ 8 _ rfl;have g8:=O.fr 8;have B2:=Lib.hid (HH.2.2.2.1.trans (hb.mono (by omega)));have HI:=Lib.hid hI;have SZ:=Lib.hid HH.2.2.2.2;have OO:=Lib.hid (show BC w2 w.heap.size [.int .u8 0, .int .u32 0, .int .u32 0, .int .u8 0, .int .i64 0, .string { data:= #[] }, .slice none 0 0, .slice none 0 0, .slice none 0 0] from O);clear hI hb HH O)
  have hs:RStep w2 ((((((((((w2.setCell ⟨w.heap.size,0,none⟩ (.int .u8 cv.k)).setCell ⟨w.heap.size,1,none⟩ (.int .u32 cv.src)).setCell ⟨w.heap.size,2,none⟩ (.int .u32 cv.seq)).setCell ⟨w.heap.size,3,none⟩ (.int .u8 cv.v.k)).setCell ⟨w.heap.size,4,none⟩ (.int .i64 cv.v.n)).setCell ⟨w.heap.size,5,none⟩ (.string cv.v.s)).setCell ⟨w.heap.size,6,none⟩ (.slice cv.v.la cv.v.ll cv.v.lc)).setCell ⟨w.heap.size,7,none⟩ (.slice cv.v.oa cv.v.ol cv.v.oc)).setCell ⟨w.heap.size,8,none⟩ (.slice cv.oa cv.ol cv.oc))) w.heap.size:=(((((((RStep.self.trans RStep.self).trans RStep.self).trans RStep.self).trans RStep.self).trans RStep.self).trans RStep.self).trans RStep.self).trans RStep.self
  have hbc:BC ((((((((((w2.setCell ⟨w.heap.size,0,none⟩ (.int .u8 cv.k)).setCell ⟨w.heap.size,1,none⟩ (.int .u32 cv.src)).setCell ⟨w.heap.size,2,none⟩ (.int .u32 cv.seq)).setCell ⟨w.heap.size,3,none⟩ (.int .u8 cv.v.k)).setCell ⟨w.heap.size,4,none⟩ (.int .i64 cv.v.n)).setCell ⟨w.heap.size,5,none⟩ (.string cv.v.s)).setCell ⟨w.heap.size,6,none⟩ (.slice cv.v.la cv.v.ll cv.v.lc)).setCell ⟨w.heap.size,7,none⟩ (.slice cv.v.oa cv.v.ol cv.v.oc)).setCell ⟨w.heap.size,8,none⟩ (.slice cv.oa cv.ol cv.oc))) w.heap.size [.int .u8 cv.k, .int .u32 cv.src, .int .u32 cv.seq, .int .u8 cv.v.k, .int .i64 cv.v.n, .string cv.v.s, .slice cv.v.la cv.v.ll cv.v.lc, .slice cv.v.oa cv.v.ol cv.v.oc, .slice cv.oa cv.ol cv.oc] :=(((((((((OO.out.set (i:=0) (x:= .int .u8 cv.k) (by simp)).set (i:=1) (x:= .int .u32 cv.src) (by simp)).set (i:=2) (x:= .int .u32 cv.seq) (by simp)).set (i:=3) (x:= .int .u8 cv.v.k) (by simp)).set (i:=4) (x:= .int .i64 cv.v.n) (by simp)).set (i:=5) (x:= .string cv.v.s) (by simp)).set (i:=6) (x:= .slice cv.v.la cv.v.ll cv.v.lc) (by simp)).set (i:=7) (x:= .slice cv.v.oa cv.v.ol cv.v.oc) (by simp)).set (i:=8) (x:= .slice cv.oa cv.ol cv.oc) (by simp))
  exact ⟨rfl,_,results_backE rfl rfl hbc,⟨cv,rfl,(isEntry_far HI.out hs (by have:=SZ.out;omega)).sub (shows_only _ _ _)⟩,B2.out.trans (hs.below (by have:=OO.out.lt;omega))⟩
def k9:List UInt8:= [3,0,0,0,1,0,0,0,2]
def knE:En:=⟨3,1,2,V.none, []⟩
def knC:EC:=⟨3,1,2,vzero,none,0,0⟩
def knV:V:= .mk 1 1 .empty [] []
def knVC:VC:=⟨1,1, .empty,none,0,0,none,0,0⟩
theorem isVal_plain (w:World) (B:Nat) (k n:Int) (s:ByteArray) (hb:VC.Bnd ⟨k,n,s,none,0,0,none,0,0⟩):IsVal w B (.mk k n s [] []) ⟨k,n,s,none,0,0,none,0,0⟩:=
  .mk ⟨k,n,s,none,0,0,none,0,0⟩ [] [] (fun _=>⟨0,0, .empty, .none,0,0, .none,0,0⟩) (fun _=>⟨0,0, .empty, .none,0,0, .none,0,0⟩) 0 0 0 0 hb rfl rfl (fun h=>by cases h) (fun h=>by cases h) (fun i h=>by cases h) (fun i h=>by cases h) (fun i h=>by cases h) (fun i h=>by cases h)
theorem knE_is (w:World) (B:Nat):IsEntry w B knE knC:= .mk knC V.none [] ⟨by decide,by decide,by decide,by decide,by decide,by decide⟩ (isVal_none _ _) (IsComps.nil _ _)
theorem knV_is (w:World) (B:Nat):IsVal w B knV knVC:=isVal_plain w B 1 1 .empty ⟨by decide,by decide,by decide,by decide,by decide,by decide,by decide,by decide,by decide,by decide,by decide⟩
theorem rdE_known:rdE k9=some (knE, []):=by rfl
theorem encE_known:encE knE=k9:=by rfl
theorem encV_known:(encV knV).length=9:=by simp [knV,encV,be_length]
theorem enSound_known:enSound knE=true:=by simp [enSound,knE,eqv]
theorem lightB_known:lightB knV=true:=by simp [lightB,knV,V.sound,plainB,rising,soundL,soundO,V.deep,V.weight,weightL,weightO,deepL,deepO]
theorem encode_known (w:World) (hT:Tabs w):Calls Tryz.prog 8 #[.agg #[.int .u8 3, .int .u32 1, .int .u32 2, .int .u8 0, .int .i64 0, .string { data:= #[] }, .slice none 0 0, .slice none 0 0, .slice none 0 0]] w fun e w'=>(∃a c,e= .returned (.tuple #[.slice a 9 c, .int .u16 0])∧IsB w' w'.heap.size a 9 c k9)∧Below w.heap.size w w':=by
  have HS:Hid (∀W,Below w.heap.size w W→Calls Tryz.prog 10 #[.agg #[.int .u8 knC.k, .int .u32 knC.src, .int .u32 knC.seq, .int .u8 knC.v.k, .int .i64 knC.v.n, .string knC.v.s, .slice knC.v.la knC.v.ll knC.v.lc, .slice knC.v.oa knC.v.ol knC.v.oc, .slice knC.oa knC.ol knC.oc]] W fun e w'=>e= .returned (.bool true)∧Below W.heap.size W w'):=fun W hW=>by
    have:=enSound_any knE W (hT.below hW) knC (knE_is _ _) ⟨by decide,by intro x hx;cases hx⟩
    rw [enSound_known] at this;exact this
  refine (encode_e true w knC knE (knE_is _ _) HS (by rw [encE_known];decide)).mono ?_
  rintro e w' ⟨⟨a,n,c,rfl,hI⟩,hb⟩
  rw [encE_known] at*
  have hn:n=9:=by have:=hI.len;simpa [outB,k9] using this
  subst hn
  exact ⟨⟨a,c,rfl,hI⟩,hb⟩
theorem value_known (w:World) (hT:Tabs w):Calls Tryz.prog 15 #[.agg #[.int .u8 1, .int .i64 1, .string { data:= #[] }, .slice none 0 0, .slice none 0 0]] w fun e w'=>(∃a c,e= .returned (.tuple #[.slice a 9 c, .int .u16 0]))∧Below w.heap.size w w':=by
  have HS:Hid (∀W,Below w.heap.size w W→Calls Tryz.prog 30 #[.agg #[.int .u8 knVC.k, .int .i64 knVC.n, .string knVC.s, .slice knVC.la knVC.ll knVC.lc, .slice knVC.oa knVC.ol knVC.oc]] W fun e w'=>e= .returned (.bool true)∧Below W.heap.size W w'):=fun W hW=>by
    have:=light_any knV W (hT.below hW) knVC (knV_is _ _) (by decide)
    rw [lightB_known] at this;exact this
  refine (value_of true w 1 1 .empty none 0 0 none 0 0 knV (knV_is _ _) HS (by rw [encV_known];decide)).mono ?_
  rintro e w' ⟨⟨a,n,c,rfl,hI⟩,hb⟩
  have e1:outN true (encV knV)=0:=by rw [outN,if_pos rfl,encV_known,if_neg (by decide)]
  have hn:n=9:=by
    have:=hI.len
    rw [outB,if_pos rfl,encV_known,if_neg (by decide),encV_known] at this
    exact this
  subst hn
  rw [e1]
  exact ⟨⟨a,c,rfl⟩,hb⟩
theorem decode_known (w:World) (hT:Tabs w) (a:Option Addr) (c:Nat) (h:IsB w w.heap.size a 9 c k9):Calls Tryz.prog 14 #[.slice a 9 c] w fun e w'=>(∃cv:EC,e= .returned (.tuple #[.agg #[.int .u8 cv.k, .int .u32 cv.src, .int .u32 2, .int .u8 cv.v.k, .int .i64 cv.v.n, .string cv.v.s, .slice cv.v.la cv.v.ll cv.v.lc, .slice cv.v.oa cv.v.ol cv.v.oc, .slice cv.oa cv.ol cv.oc], .int .u16 0]))∧Below w.heap.size w w':=by
  refine (backE_few w hT a 9 c k9 h (v:=knE) (e:=0) (fun W hTW hB=>wholeE_eq W a 9 c k9 hB (by decide) rdE_known (fun p hp=>by have e:rdN 1 k9=some (3,k9.drop 1):=rfl;rw [e] at hp;injection hp with hp;rw [←hp]) (by rw [encE_known];decide) true (fun W5 hb cv hv W hW=>by
    have:=enSound_any knE W ((hTW.below hb).below hW) cv (hv.later_ hW) ⟨by decide,by intro x hx;cases hx⟩
    rw [enSound_known] at this;exact this) (by rw [encE_known];rfl) (by rw [encE_known];simp [eqBs,outB,k9]))).mono ?_
  rintro e w' ⟨⟨cv,rfl,hI⟩,hb⟩
  obtain ⟨x,hx⟩:∃x,knE=x:=⟨_,rfl⟩
  rw [hx] at hI
  cases hI with
  | mk _ v l b1 b2 b3=>
    have:cv.seq=2:=by have:=congrArg En.seq hx;exact this.symm
    exact ⟨⟨cv,by rw [←this]⟩,hb⟩
theorem decode_nil (w:World) (hT:Tabs w):Calls Tryz.prog 14 #[.slice none 0 0] w fun e w'=>(∃cv:EC,e= .returned (.tuple #[.agg #[.int .u8 cv.k, .int .u32 cv.src, .int .u32 cv.seq, .int .u8 cv.v.k, .int .i64 cv.v.n, .string cv.v.s, .slice cv.v.la cv.v.ll cv.v.lc, .slice cv.v.oa cv.v.ol cv.v.oc, .slice cv.oa cv.ol cv.oc], .int .u16 100]))∧Below w.heap.size w w':=by
  refine (backE_few w hT none 0 0 [] ⟨rfl,by decide,by decide,0,0,(fun h=>absurd h (by decide)),(fun i hi=>absurd hi (by simp))⟩ (v:=En.none) (e:=100) (fun W hTW hB=>wholeE_none W none 0 0 [] hB (by decide) rfl (fun p hp=>by cases hp))).mono ?_
  rintro e w' ⟨⟨cv,rfl,hI⟩,hb⟩
  exact ⟨⟨cv,rfl⟩,hb⟩
set_option maxHeartbeats 4000000 in
set_option maxRecDepth 100000 in
theorem known_any (w:World) (hT:Tabs w):Calls Tryz.prog 6 #[] w fun e w'=>e= .returned (.bool true)∧Below w.heap.size w w':=by
  have HT:=Lib.hid hT
  clear hT
  go_enter Tryz.func6,Tryz.ntmps6
  go_wp2_with (go_at_call 8;refine (encode_known _ HT.out).mono ?_;rintro e w1 ⟨⟨a,c,rfl,hI⟩,hb1⟩;have HI:=Lib.hid hI;have HB1:=Lib.hid hb1;clear hI hb1)
  refine (decode_known w1 (HT.out.below HB1.out) a c HI.out).mono ?_
  rintro e w2 ⟨⟨cv,rfl⟩,hb2⟩
  have HB2:=Lib.hid (HB1.out.trans (hb2.mono HB1.out.size))
  have HI2:=Lib.hid ((HI.out.keep hb2).more hb2.size)
  clear hb2
  go_wp2_with fail
  refine (decode_nil _ (HT.out.below (HB2.out.alloc HB2.out.size _))).mono ?_
  rintro e w3 ⟨⟨cw,rfl⟩,hb3⟩
  have b23:Below w2.heap.size w2 w3:=((Below.refl _ _).alloc (Nat.le_refl _) _).trans (hb3.mono (by simp))
  have zs3:w2.heap.size<w3.heap.size:=Nat.lt_of_lt_of_le (by simp) hb3.size
  have HB3:=Lib.hid (HB2.out.trans (b23.mono HB2.out.size))
  have HI3:=Lib.hid ((HI2.out.keep b23).more b23.size)
  have HO3:=Lib.hid ((BC.start w2 #[.int .u8 cv.k, .int .u32 cv.src, .int .u32 2, .int .u8 cv.v.k, .int .i64 cv.v.n, .string cv.v.s, .slice cv.v.la cv.v.ll cv.v.lc, .slice cv.v.oa cv.v.ol cv.v.oc, .slice cv.oa cv.ol cv.oc] 36).keep hb3 (by simp))
  clear hb3 b23
  go_wp2_with fail
  refine (value_known _ (HT.out.below (HB3.out.alloc HB3.out.size _))).mono ?_
  rintro e w4 ⟨⟨ra,rc,rfl⟩,hb4⟩
  have b34:Below w3.heap.size w3 w4:=((Below.refl _ _).alloc (Nat.le_refl _) _).trans (hb4.mono (by simp))
  have HB4:=Lib.hid (HB3.out.trans (b34.mono HB3.out.size))
  have k1:(convert 38 9 (.slice a 9 c)).run Tryz.prog w4= .ok (.string { data:= #[3,0,0,0,1,0,0,0,2] }) w4:=conv_isB (HI3.out.keep b34)
  have o2:=(HO3.out.keep b34 zs3).at_ 2 _ rfl
  clear hb4 b34
  go_wp2_with fail
  go_returns
  exact ⟨rfl,HB4.out⟩
end Go.Proofs.YtgcfhkceejcliaaGreatDoor
namespace Go.Proofs.YtgcfhkceejcliaaGreatDoor
open Go.RowKit
set_option maxHeartbeats 8000000 in
set_option maxRecDepth 100000 in
theorem refOpSame_any (l l':List Cm) (w:World) (a a':Option Addr) (n m c c':Nat) (h:IsComps w w.heap.size l a n c) (h':IsComps w w.heap.size l' a' m c'):
    Calls Tryz.prog 37 #[.slice a n c, .slice a' m c'] w fun e w'=>e= .returned (.bool (eqB l l'))∧Below w.heap.size w w':=by
  have HLn:=Lib.hid h.len;have HLm:=Lib.hid h'.len
  have k1:=h.few;have k2:=h.max;have k3:=h.cap;have k1':=h'.few;have k2':=h'.max;have k3':=h'.cap
  by_cases e:n=m
  case neg=>
    go_enter Tryz.func37,Tryz.ntmps37
    have f1:((n:Int) !=(m:Int))=true:=by simp;omega
    go_wp2_with fail
    go_ret
    exact ⟨ret_bool (eqB_no (fun h=>e (by rw [HLn.out,HLm.out,h]))).symm,Below.refl _ _⟩
  subst e
  go_enter Tryz.func37,Tryz.ntmps37
  have f1:((n:Int) !=(n:Int))=false:=by simp
  go_wp2_with fail
  clear f1
  go_loopw [5] (fun i wr=>∃k:Nat,k≤n∧i= .int .i64 k∧Hid (∀j,j<k→l[j]? =l'[j]?)∧Below w.heap.size w wr) (fun i _=>n - (intOf i).toNat)
  case atStart=>exact ⟨0,Nat.zero_le _,rfl,fun j hj=>by omega,Below.refl _ _⟩
  case round=>
    obtain ⟨k,hk,rfl,HJ,hB⟩:=hrel
    by_cases hlt:k<n
    · obtain ⟨b,o,d,kl,ho2,hb,x1,xb⟩:=h.get hlt
      obtain ⟨b',o',d',kl',ho2',hb',x1',xb'⟩:=h'.get hlt
      subst ho2 ho2'
      have x1:=x1.keep hB hb
      have x1':=x1'.keep hB hb'
      have r0:=later_cell x1.c0;have r1:=later_cell x1.c1;have r2:=later_cell x1.c2;have r3:=later_cell x1.c3;have r4:=later_cell x1.c4;have r5:=later_cell x1.c5;have r6:=later_cell x1.c6.c0;have r7:=later_cell x1.c7;have r8:=later_cell x1.c8;have r9:=later_cell x1.c9;have r10:=later_cell x1.c10;have r11:=later_cell x1.c11
      have s0:=later_cell x1'.c0;have s1:=later_cell x1'.c1;have s2:=later_cell x1'.c2;have s3:=later_cell x1'.c3;have s4:=later_cell x1'.c4;have s5:=later_cell x1'.c5;have s6:=later_cell x1'.c6.c0;have s7:=later_cell x1'.c7;have s8:=later_cell x1'.c8;have s9:=later_cell x1'.c9;have s10:=later_cell x1'.c10;have s11:=later_cell x1'.c11
      have HC:Hid (∀W,Below w.heap.size w W→Calls Tryz.prog 67 #[.agg #[.int .u8 d.k, .slice d.pa d.pl d.pc, .string d.key, .int .i64 d.i, .int .i64 d.j, .int .i64 d.n, .int .u8 d.v.k, .int .i64 d.v.n, .string d.v.s, .slice d.v.la d.v.ll d.v.lc, .slice d.v.oa d.v.ol d.v.oc, .string d.s], .agg #[.int .u8 d'.k, .slice d'.pa d'.pl d'.pc, .string d'.key, .int .i64 d'.i, .int .i64 d'.j, .int .i64 d'.n, .int .u8 d'.v.k, .int .i64 d'.v.n, .string d'.v.s, .slice d'.v.la d'.v.ll d'.v.lc, .slice d'.v.oa d'.v.ol d'.v.oc, .string d'.s]] W fun e w'=>e= .returned (.bool (eqB l[k] l'[k]))∧Below W.heap.size W w'):=fun W hW=>ref06Same_any _ _ W d d' (xb.later_ hW) (xb'.later_ hW)
      clear x1 x1' xb xb'
      generalize hev:eqB l[k] l'[k] =ev at HC
      have HEV:=Lib.hid hev
      have HH:=Lib.hid h;have HH':=Lib.hid h'
      clear hev h h'
      go_wp2_with fail
      refine wp_region_later (by kernel_rfl) (by kernel_rfl) ?_
      repeat (go_big_quiet_step ((go_at_call 67;exact later_call (HC.out _ (hB.on (below_later _ _) hB.size)))))
      refine wpQuiet_nil ?_
      intro _ hw'
      obtain ⟨pq,hw''⟩:=hw'
      subst hw''
      clear r0 r1 r2 r3 r4 r5 r6 r7 r8 r9 r10 r11 s0 s1 s2 s3 s4 s5 s6 s7 s8 s9 s10 s11
      have hB2:=hB.on (below_later wr pq) hB.size
      cases ev with
      | true=>
        go_wp2_with fail
        go_roundw
        case rel=>exact ⟨k+1,by omega,by go_num,same_stepB HJ kl kl' HEV.out,hB2⟩
        case measure=>simp [intOf];omega
      | false=>
        go_wp2_with fail
        go_ret
        exact ⟨ret_bool (eqB_no (fun h=>ne_of_eqB HEV.out (by simp only [h]))).symm,hB2⟩
    · go_wp2_with fail
      go_ret
      exact ⟨ret_bool (eqB_yes (list_of_same HJ.out (by have:=HLn.out;omega) (by have:=HLm.out;omega))).symm,hB⟩
theorem eqB_en (c d:EC) (l l':List Cm) (v u:V):eqB (En.mk c.k c.src c.seq v l) (En.mk d.k d.src d.seq u l')=((c.k==d.k) && ((c.src==d.src) && ((c.seq==d.seq) && (eqv v u && eqB l l')))):=by
  apply Bool.eq_iff_iff.2
  simp only [Bool.and_eq_true,beq_iff_eq]
  constructor
  · intro h
    have h:=eq_of_eqB h
    injection h with h1 h2 h3 h4 h5
    exact ⟨h1,h2,h3,eqv_yes h4,eqB_yes h5⟩
  · rintro ⟨h1,h2,h3,h4,h5⟩
    exact eqB_yes (by rw [h1,h2,h3,eq_of_eqv h4,eq_of_eqB h5])
set_option maxHeartbeats 8000000 in
set_option maxRecDepth 100000 in
theorem refEnSame_any (x y:En) (w:World) (c d:EC) (hx:IsEntry w w.heap.size x c) (hy:IsEntry w w.heap.size y d):
    Calls Tryz.prog 12 #[.agg #[.int .u8 c.k, .int .u32 c.src, .int .u32 c.seq, .int .u8 c.v.k, .int .i64 c.v.n, .string c.v.s, .slice c.v.la c.v.ll c.v.lc, .slice c.v.oa c.v.ol c.v.oc, .slice c.oa c.ol c.oc], .agg #[.int .u8 d.k, .int .u32 d.src, .int .u32 d.seq, .int .u8 d.v.k, .int .i64 d.v.n, .string d.v.s, .slice d.v.la d.v.ll d.v.lc, .slice d.v.oa d.v.ol d.v.oc, .slice d.oa d.ol d.oc]] w fun e w'=>e= .returned (.bool (eqB x y))∧Below w.heap.size w w':=by
  cases hx with
  |mk c v l hb hv hl=>
  cases hy with
  |mk d u l' hb' hu hl'=>
  have HV:Hid (∀W,Below w.heap.size w W→Calls Tryz.prog 34 #[.agg #[.int .u8 c.v.k, .int .i64 c.v.n, .string c.v.s, .slice c.v.la c.v.ll c.v.lc, .slice c.v.oa c.v.ol c.v.oc], .agg #[.int .u8 d.v.k, .int .i64 d.v.n, .string d.v.s, .slice d.v.la d.v.ll d.v.lc, .slice d.v.oa d.v.ol d.v.oc]] W fun e w'=>e= .returned (.bool (eqv v u))∧Below W.heap.size W w'):=fun W hW=>refSame_any v u W c.v d.v (hv.later_ hW) (hu.later_ hW)
  have HP:Hid (∀W,Below w.heap.size w W→Calls Tryz.prog 37 #[.slice c.oa c.ol c.oc, .slice d.oa d.ol d.oc] W fun e w'=>e= .returned (.bool (eqB l l'))∧Below W.heap.size W w'):=fun W hW=>refOpSame_any l l' W _ _ _ _ _ _ (hl.later_ hW) (hl'.later_ hW)
  rw [eqB_en]
  generalize eqv v u=ev at HV ⊢
  generalize eqB l l'=ep at HP ⊢
  obtain ⟨f0,h0⟩:∃b,(c.k==d.k)=b:=⟨_,rfl⟩
  obtain ⟨f1,h1⟩:∃b,(c.src==d.src)=b:=⟨_,rfl⟩
  obtain ⟨f2,h2⟩:∃b,(c.seq==d.seq)=b:=⟨_,rfl⟩
  rw [h0,h1,h2]
  clear hb hl hv hb' hl' hu
  rcases bcT f0 (bcT f1 (bcT f2 (bcT ev trivial))) with rfl|⟨rfl,(rfl|⟨rfl,(rfl|⟨rfl,(rfl|⟨rfl,_⟩)⟩)⟩)⟩
  all_goals
    go_enter Tryz.func12,Tryz.ntmps12
    go_wp2_with (first|(go_at_call 34;(with_reducible refine (HV.out _ (((Below.refl _ _).alloc (Nat.le_refl _) _).alloc (by simp) _)).mono ?_);rintro e w1 ⟨rfl,hb1⟩;have q1:=hb1.cellA 8 _ rfl;have q2:=hb1.cellB 8 _ rfl)|(go_at_call 37;(with_reducible refine (HP.out _ hb1.two).mono ?_);rintro e w2 ⟨rfl,hb2⟩))
    go_ret
    exact ⟨ret_bool (by simp),by first|exact ((Below.refl _ _).alloc (Nat.le_refl _) _).alloc (by simp) _|exact hb1.two|exact hb1.two.on hb2 hb1.two.size⟩
end Go.Proofs.YtgcfhkceejcliaaGreatDoor
namespace Go.Proofs.YtgcfhkceejcliaaGreatDoor
open Go.RowKit
theorem says_k {k:Int} (h:kIs k=true):hasB (saysB k) 75=kKey k∧hasB (saysB k) 73=kI k∧hasB (saysB k) 74=kJ k∧hasB (saysB k) 78=kN k∧hasB (saysB k) 86=kV k∧hasB (saysB k) 83=kS k:=by
  simp only [kIs,Bool.and_eq_true,decide_eq_true_eq] at h
  have:k=1∨k=2∨k=3∨k=4∨k=5∨k=6∨k=7∨k=8∨k=9:=by omega
  rcases this with rfl|rfl|rfl|rfl|rfl|rfl|rfl|rfl|rfl<;>decide
theorem rdIf_enc {α:Type} (b:Bool) (z x:α) (f:List UInt8→Option (α×List UInt8)) (g:List UInt8) (h:b=true→∀r,f (g++r)=some (x,r)) (hz:b=false→x=z) (r:List UInt8):rdIf b z f ((if b=true then g else [])++r)=some (x,r):=by
  cases b with
  |true=>rw [rdIf,if_pos rfl,if_pos rfl];exact h rfl r
  |false=>rw [rdIf,if_neg (by simp),if_neg (by simp),hz rfl];rfl
theorem byte_be (k:Int) (h0:0≤k) (h1:k<256) (r:List UInt8):rdN 1 (be (k % 18446744073709551616).toNat 1++r)=some (k.toNat,r):=by
  rw [rdN_be]
  have e:(k % 18446744073709551616).toNat % 256 ^ 1=k.toNat:=by
    have e8:(256:Nat) ^ 1=256:=by decide
    rw [e8];omega
  rw [e]
theorem four_be (k:Int) (h0:0≤k) (h1:k<4294967296) (r:List UInt8):rdN 4 (be (k % 18446744073709551616).toNat 4++r)=some (k.toNat,r):=by
  rw [rdN_be]
  have e:(k % 18446744073709551616).toNat % 256 ^ 4=k.toNat:=by
    have e8:(256:Nat) ^ 4=4294967296:=by decide
    rw [e8];omega
  rw [e]
structure I64 (n:Int):Prop where
  lo: -9223372036854775808≤n
  hi:n≤9223372036854775807
theorem rdI_enc {n:Int} (h:I64 n) (r:List UInt8):rdI (be (n % 18446744073709551616).toNat 8++r)=some (n,r):=rd8_enc n r h.lo h.hi
theorem rdS_enc (s:St) (hs:s.ok=true) (hi:I64 s.i) (hk:s.key.size<4294967296) (r:List UInt8):rdS (encSt s++r)=some (s,r):=by
  obtain ⟨b,i,key⟩:=s
  dsimp only at hi hk
  unfold St.ok at hs
  cases b with
  | true=>
    simp only [if_true,Bool.and_eq_true,decide_eq_true_eq,List.isEmpty_iff] at hs
    obtain ⟨h1,h2⟩:=hs
    have h3:key= .empty:=empty_of h1
    subst h3
    have e:encSt ⟨true,i, .empty⟩=be ((1:Int) % 18446744073709551616).toNat 1++be (i % 18446744073709551616).toNat 8:=rfl
    rw [e,rdS,List.append_assoc,byte_be 1 (by decide) (by decide),Option.bind_some]
    have:=rdI_enc hi r
    unfold rdI at this
    have h4:((1:Int).toNat=1):=rfl
    simp only [h4,if_true]
    revert this
    cases rdN 8 (be (i % 18446744073709551616).toNat 8++r) with
    |none=>intro h;cases h
    |some q=>intro h;simp only [Option.bind_some] at h ⊢;injection h with h;injection h with h1 h2;rw [h1,h2]
  | false=>
    simp only [Bool.false_eq_true,if_false,Bool.and_eq_true,beq_iff_eq] at hs
    obtain ⟨rfl,h2⟩:=hs
    have e:encSt ⟨false,0,key⟩=be ((0:Int) % 18446744073709551616).toNat 1++encS key:=rfl
    rw [e,rdS,List.append_assoc,byte_be 0 (by decide) (by decide),Option.bind_some]
    have h4:¬((0:Int).toNat=1):=by decide
    simp only [h4,if_false]
    rw [rdT_enc key r hk,Option.bind_some]
theorem encP_flat (p:List St):encP p=p.flatMap encSt:=by
  induction p with
  |nil=>rfl
  |cons s r ih=>simp [encP,ih]
theorem encSt_pos (s:St):1≤(encSt s).length:=by
  unfold encSt;split<;>rw [List.length_append,be_length] <;>omega
theorem encP_ge (p:List St):p.length≤(encP p).length:=by
  induction p with
  |nil=>exact Nat.zero_le _
  |cons s r ih=>rw [encP,List.length_append,List.length_cons];have:=encSt_pos s;omega
theorem encP_mem {p:List St} {s:St} (h:s ∈ p):(encSt s).length≤(encP p).length:=by
  induction p with
  |nil=>cases h
  | cons x r ih=>
    rw [encP,List.length_append]
    rcases List.mem_cons.1 h with rfl|h
    · omega
    · have:=ih h;omega
theorem encSt_key (s:St) (h:s.list=false):(encSt s).length=1+(4+s.key.size):=by
  unfold encSt;rw [h];simp [be_length,encS_length]
structure Cm.Num (c:Cm):Prop where
  i:I64 c.i
  j:I64 c.j
  n:I64 c.n
  v:c.v.Num
  p:∀s ∈ c.path,I64 s.i
theorem cm_bare {c:Cm} (h:eqB c.bare ⟨c.k,c.path, .empty,0,0,0,V.none, .empty⟩=true):(kKey c.k=false→c.key= .empty)∧(kI c.k=false→c.i=0)∧(kJ c.k=false→c.j=0)∧(kN c.k=false→c.n=0)∧(kV c.k=false→c.v=V.none)∧(kS c.k=false→c.s= .empty):=by
  have h2:=eq_of_eqB h
  rw [Cm.bare] at h2
  injection h2 with a1 a2 a3 a4 a5 a6 a7 a8
  exact ⟨fun e=>by rw [e] at a3;simpa using a3,fun e=>by rw [e] at a4;simpa using a4,fun e=>by rw [e] at a5;simpa using a5,fun e=>by rw [e] at a6;simpa using a6,fun e=>by rw [e] at a7;simpa using a7,fun e=>by rw [e] at a8;simpa using a8⟩
theorem rdC_enc (c:Cm) (hs:cmSound c=true) (hn:c.Num) (hl:(encC c).length≤60000) (r:List UInt8):rdC (encC c++r)=some (c,r):=by
  unfold cmSound at hs
  simp only [Bool.and_eq_true,decide_eq_true_eq] at hs
  obtain ⟨⟨⟨⟨⟨⟨⟨⟨⟨⟨⟨hk,hb⟩,hp⟩,hky⟩,hst⟩,h0i⟩,h0j⟩,_⟩,_⟩,hvs⟩,hdp⟩,hwt⟩:=hs
  obtain ⟨b1,b2,b3,b4,b5,b6⟩:=cm_bare hb
  obtain ⟨e1,e2,e3,e4,e5,e6⟩:=says_k hk
  have hk2:=hk
  simp only [kIs,Bool.and_eq_true,decide_eq_true_eq] at hk2
  unfold pathSound at hp
  simp only [Bool.and_eq_true,decide_eq_true_eq,List.all_eq_true] at hp
  obtain ⟨hp1,hp2⟩:=hp
  have hpl:=encP_ge c.path
  have hl2:=hl
  unfold encC at hl2
  simp only [List.length_append,be_length] at hl2
  have hkk:((c.k.toNat:Nat):Int)=c.k:=by omega
  have hT:encT c=(if kKey c.k=true then encS c.key else [])++((if kI c.k=true then be (c.i % 18446744073709551616).toNat 8 else [])++((if kJ c.k=true then be (c.j % 18446744073709551616).toNat 8 else [])++((if kN c.k=true then be (c.n % 18446744073709551616).toNat 8 else [])++((if kV c.k=true then encV c.v else [])++(if kS c.k=true then encS c.s else []))))):=by
    rw [encT,e1,e2,e3,e4,e5,e6];simp only [List.append_assoc]
  have hlT:(encT c).length≤60000:=by omega
  rw [hT] at hlT
  simp only [List.length_append] at hlT
  have hkey:kKey c.k=true→c.key.size<4294967296:=fun e=>by
    rw [if_pos e,encS_length] at hlT;omega
  have hss:kS c.k=true→c.s.size<4294967296:=fun e=>by
    rw [if_pos e,encS_length] at hlT;omega
  have hvv:kV c.k=true→(encV c.v).length≤1000000:=fun e=>by
    rw [if_pos e] at hlT;omega
  have hP:rdL rdS c.path.length (encP c.path++(encT c++r))=some (c.path,encT c++r):=by
    have h:=rdL_enc rdS encSt c.path (fun s hs r=>rdS_enc s (hp2 s hs) (hn.p s hs) (by
      have:=encP_mem hs
      cases hb:s.list with
      |false=>rw [encSt_key s hb] at this;omega
      | true=>
        have h3:=hp2 s hs
        unfold St.ok at h3
        rw [hb] at h3
        simp only [if_true,Bool.and_eq_true,List.isEmpty_iff] at h3
        rw [empty_of h3.1];decide) r) c.path.length (Nat.le_refl _) (encT c++r)
    rw [List.take_length] at h
    rw [encP_flat];exact h
  rw [encC,rdC]
  simp only [List.append_assoc]
  rw [byte_be c.k (by omega) (by omega),Option.bind_some]
  dsimp only
  rw [rdM_be _ _ _ (by omega) (by simp only [List.length_append];omega),Option.bind_some]
  dsimp only
  rw [hP,Option.bind_some]
  dsimp only
  rw [hkk,e1,e2,e3,e4,e5,e6,hT]
  simp only [List.append_assoc]
  rw [rdIf_enc (kKey c.k) .empty c.key rdT (encS c.key) (fun e r=>rdT_enc c.key r (hkey e)) b1,Option.bind_some]
  dsimp only
  rw [rdIf_enc (kI c.k) 0 c.i rdI (be (c.i % 18446744073709551616).toNat 8) (fun e r=>rdI_enc hn.i r) b2,Option.bind_some]
  dsimp only
  rw [rdIf_enc (kJ c.k) 0 c.j rdI (be (c.j % 18446744073709551616).toNat 8) (fun e r=>rdI_enc hn.j r) b3,Option.bind_some]
  dsimp only
  rw [rdIf_enc (kN c.k) 0 c.n rdI (be (c.n % 18446744073709551616).toNat 8) (fun e r=>rdI_enc hn.n r) b4,Option.bind_some]
  dsimp only
  rw [rdIf_enc (kV c.k) V.none c.v (rdV 18) (encV c.v) (fun e r=>rdV_enc 18 c.v (by omega) hn.v hvs (hvv e) r) b5,Option.bind_some]
  dsimp only
  rw [rdIf_enc (kS c.k) .empty c.s rdT (encS c.s) (fun e r=>rdT_enc c.s r (hss e)) b6,Option.bind_some]
theorem encCs_flat (l:List Cm):encCs l=l.flatMap encC:=by
  induction l with
  |nil=>rfl
  |cons c r ih=>simp [encCs,ih]
theorem encC_pos (c:Cm):1≤(encC c).length:=by
  unfold encC;simp only [List.length_append,be_length];omega
theorem encCs_ge (l:List Cm):l.length≤(encCs l).length:=by
  induction l with
  |nil=>exact Nat.zero_le _
  |cons c r ih=>rw [encCs,List.length_append,List.length_cons];have:=encC_pos c;omega
theorem encCs_mem {l:List Cm} {c:Cm} (h:c ∈ l):(encC c).length≤(encCs l).length:=by
  induction l with
  |nil=>cases h
  | cons x r ih=>
    rw [encCs,List.length_append]
    rcases List.mem_cons.1 h with rfl|h
    · omega
    · have:=ih h;omega
structure En.Num (e:En):Prop where
  s0:0≤e.src
  s1:e.src<4294967296
  q0:0≤e.seq
  q1:e.seq<4294967296
  v:e.v.Num
  op:∀c ∈ e.op,c.Num
theorem rdE_enc (e:En) (hs:enSound e=true) (hn:e.Num) (hl:(encE e).length≤60000) (r:List UInt8):rdE (encE e++r)=some (e,r):=by
  obtain ⟨k,src,seq,v,op⟩:=e
  obtain ⟨s0,s1,q0,q1,nv,nop⟩:=hn
  dsimp only at s0 s1 q0 q1 nv nop
  unfold enSound at hs
  dsimp only at hs
  have hS:((src.toNat:Nat):Int)=src:=by omega
  have hQ:((seq.toNat:Nat):Int)=seq:=by omega
  unfold encE at hl
  simp only [List.length_append,be_length] at hl
  have head:∀(k0:Int),0≤k0→k0<256→∀x:List UInt8,rdE (be (k0 % 18446744073709551616).toNat 1++be (src % 18446744073709551616).toNat 4++be (seq % 18446744073709551616).toNat 4++x++r)=
      (if k0.toNat=1 then (rdV 18 (x++r)).bind fun v=>some (⟨k0.toNat,src,seq,v.1, []⟩,v.2)
       else if k0.toNat=2 then (rdM 4 (x++r)).bind fun n=>(rdL rdC n.1 n.2).bind fun l=>some (⟨k0.toNat,src,seq,V.none,l.1⟩,l.2)
       else some (⟨k0.toNat,src,seq,V.none, []⟩,x++r)):=by
    intro k0 h0 h1 x
    simp only [List.append_assoc]
    rw [rdE,byte_be k0 h0 h1,Option.bind_some]
    dsimp only
    rw [four_be src s0 s1,Option.bind_some]
    dsimp only
    rw [four_be seq q0 q1,Option.bind_some]
    dsimp only
    rw [hS,hQ]
  unfold encE
  dsimp only
  by_cases h1:k=1
  · subst h1
    rw [if_pos rfl] at hs hl ⊢
    simp only [Bool.and_eq_true,beq_iff_eq,List.length_eq_zero_iff] at hs
    obtain ⟨hv,rfl⟩:=hs
    unfold lightB at hv
    simp only [Bool.and_eq_true,decide_eq_true_eq] at hv
    obtain ⟨⟨v1,v2⟩,v3⟩:=hv
    rw [head 1 (by decide) (by decide),if_pos (by decide),rdV_enc 18 v (by omega) nv v1 (by omega) r,Option.bind_some]
    rfl
  rw [if_neg h1] at hs hl ⊢
  by_cases h2:k=2
  · subst h2
    rw [if_pos rfl] at hs hl ⊢
    simp only [Bool.and_eq_true,Bool.not_eq_true',List.any_eq_false,decide_eq_true_eq] at hs
    obtain ⟨⟨hv,hop⟩,hall⟩:=hs
    have hv2:v=V.none:=by simpa [eqv] using hv
    subst hv2
    simp only [List.length_append,be_length] at hl
    have hll:=encCs_ge op
    have hL:=rdL_enc rdC encC op (fun c hc r=>rdC_enc c (by have:=hall c hc;simpa using this) (nop c hc) (by have:=encCs_mem hc;omega) r) op.length (Nat.le_refl _) r
    rw [List.take_length] at hL
    rw [head 2 (by decide) (by decide),if_neg (by decide),if_pos (by decide),List.append_assoc,rdM_be _ _ _ (by omega) (by rw [List.length_append];omega),Option.bind_some]
    dsimp only
    rw [encCs_flat,hL];rfl
  rw [if_neg h2] at hs hl ⊢
  by_cases h3:k=3
  · subst h3
    rw [if_pos rfl] at hs
    simp only [Bool.and_eq_true,beq_iff_eq,List.length_eq_zero_iff] at hs
    obtain ⟨hv,rfl⟩:=hs
    have hv2:v=V.none:=by simpa [eqv] using hv
    subst hv2
    rw [head 3 (by decide) (by decide),if_neg (by decide),if_neg (by decide)]
    rfl
  · rw [if_neg h3] at hs;cases hs
theorem encE_inj {x y:En} (hx:enSound x=true) (nx:x.Num) (lx:(encE x).length≤60000) (hy:enSound y=true) (ny:y.Num) (h:encE x=encE y):x=y:=by
  have h1:=rdE_enc x hx nx lx []
  have h2:=rdE_enc y hy ny (by rw [←h];exact lx) []
  rw [h,h2] at h1
  injection h1 with h1;injection h1 with h1 _;exact h1.symm
theorem IsSteps.num {w:World} {B:Nat} {p:List St} {a:Option Addr} {n c:Nat} (h:IsSteps w B p a n c):∀s ∈ p,I64 s.i:=by
  intro s hs
  obtain ⟨i,hi,rfl⟩:=List.mem_iff_getElem.1 hs
  obtain ⟨_,_,_,_,b,o,_,h6⟩:=h
  have h7:=(h6 i hi).2
  exact ⟨h7.i0,h7.i1⟩
theorem IsComp.num {w:World} {B:Nat} {x:Cm} {c:CC} (h:IsComp w B x c):x.Num:=by
  cases h with
  |mk c p v hb hp hv=>exact ⟨⟨hb.i0,hb.i1⟩,⟨hb.j0,hb.j1⟩,⟨hb.n0,hb.n1⟩,hv.num,hp.num⟩
theorem IsEntry.num {w:World} {B:Nat} {x:En} {c:EC} (h:IsEntry w B x c):x.Num:=by
  cases h with
  | mk c v l hb hv ho=>
    refine ⟨hb.s0,hb.s1,hb.q0,hb.q1,hv.num,fun y hy=> ?_⟩
    obtain ⟨i,hi,rfl⟩:=List.mem_iff_getElem.1 hy
    obtain ⟨_,_,_,_,b,o,f,_,h6⟩:=ho
    exact (h6 i hi).2.num
end Go.Proofs.YtgcfhkceejcliaaGreatDoor
