/-
  Contracts of the functions that the law reaches: conciliatorref19.ends. conciliatorref19.ends, the other kinds. conciliatorref19.ends, of a snap; of any kind.
-/
import Derived.Test.YthceefjafklcmaaGreatDoorMd43
import Derived.Test.YthceefjafklcmaaGreatDoorMd44
namespace Go.Proofs.YthceefjafklcmaaGreatDoor
open Go.RowKit
theorem results_ends {tmps:Array Value} {W:World} {b:Nat} {c:MC} {x:Value} (ht:tmps[4]? =some (.pointer (some ⟨b,0,none⟩))) (hx:tmps[5]? =some x) (h:BC W b (mcells c)):
    (results Tryz.f15 tmps).run Tryz.prog W= .ok (.tuple #[.agg (mcells c).toArray,x]) W:=by
  have h1:=run_loadVar_mid (P:=Tryz.prog) W b 0 36 (mcells c) _ h.range Tryz.underlying36 rfl minfo
  have h2:(asAddr (Value.pointer (some { block:=b,off:=0 }))).run Tryz.prog W= .ok ⟨b,0,none⟩ W:=by simp [asAddr]
  simp [results,Tryz.results15,ht,hx,h2,Result.andThen_ok,h1]
def EndsPost (w:World) (k:Int) (doc:ByteArray) (n:Int) (bs:List UInt8) (e:Ending) (w':World):Prop:=
  (∃cm,e= .returned (.tuple #[.agg (mcells cm).toArray, .bool (okTail k bs)])∧(okTail k bs=true→IsMsg (only (fun b=>w.heap.size≤b) w') w'.heap.size (tailRd k doc n (bs,false)).1 cm))∧Below w.heap.size w w'
theorem IsEntry.boxed {W1 W4:World} {p z:Nat} {x:En} {c:EC} (h:IsEntry (only (fun b=>p≤b) W1) W1.heap.size x c) (hzp:z≤p) (hk:∀k,p≤k→k<W1.heap.size→W4.heap[k]? =W1.heap[k]?) (hz:W1.heap.size≤W4.heap.size):IsEntry (only (fun b=>z≤b) W4) W4.heap.size x c:=
  (h.sub (shows_step (S':=fun b=>z≤b) fun k h1 h2=>⟨Nat.le_trans hzp h1,hk k h1 h2⟩)).more hz
theorem IsVal.boxed {W1 W4:World} {p z:Nat} {x:V} {c:VC} (h:IsVal (only (fun b=>p≤b) W1) W1.heap.size x c) (hzp:z≤p) (hk:∀k,p≤k→k<W1.heap.size→W4.heap[k]? =W1.heap[k]?) (hz:W1.heap.size≤W4.heap.size):IsVal (only (fun b=>z≤b) W4) W4.heap.size x c:=
  (h.sub (shows_step (S':=fun b=>z≤b) fun k h1 h2=>⟨Nat.le_trans hzp h1,hk k h1 h2⟩)).more hz
set_option maxHeartbeats 8000000 in
set_option maxRecDepth 100000 in
theorem ends_2 (w:World) (hT:Tabs w) (k:Int) (doc:ByteArray) (n:Int) (hkb:KB k doc n) (a:Option Addr) (m cp:Nat) (bs:List UInt8) (h:IsB w w.heap.size a m cp bs) (h1:¬k=1) (h3:¬k=3) (h4:¬k=4) (h5:¬k=5) (h6:¬k=6):
    Calls Tryz.prog 15 #[.agg (mcells (mk0 k doc n)).toArray, .slice a m cp] w (EndsPost w k doc n bs):=by
  have bx:BoxM w ((w.alloc (.cells (mcells (mk0 k doc n)).toArray 36)).alloc (.cells #[.int .u8 0, .string { data:= #[] }, .int .i64 0, .int .u8 0, .int .u32 0, .int .u32 0, .int .u8 0, .int .i64 0, .string { data:= #[] }, .slice none 0 0, .slice none 0 0, .slice none 0 0, .int .u32 0, .int .u32 0, .int .u16 0, .bool false, .int .u8 0, .int .i64 0, .string { data:= #[] }, .slice none 0 0, .slice none 0 0, .slice none 0 0] 36)) (mk0 k doc n) mzero:=boxM_start w (mk0 k doc n) mzero
  have hI0:=(h.keep bx.below).more bx.below.size
  have hT0:=hT.below bx.below
  have hs0:((w.alloc (.cells (mcells (mk0 k doc n)).toArray 36)).alloc (.cells #[.int .u8 0, .string { data:= #[] }, .int .i64 0, .int .u8 0, .int .u32 0, .int .u32 0, .int .u8 0, .int .i64 0, .string { data:= #[] }, .slice none 0 0, .slice none 0 0, .slice none 0 0, .int .u32 0, .int .u32 0, .int .u16 0, .bool false, .int .u8 0, .int .i64 0, .string { data:= #[] }, .slice none 0 0, .slice none 0 0, .slice none 0 0] 36)).heap.size=w.heap.size+2:=by simp
  have HS0:=Lib.hid hs0
  have HKB:=Lib.hid hkb
  have z0:((w.alloc (.cells (mcells (mk0 k doc n)).toArray 36)).alloc (.cells #[.int .u8 0, .string { data:= #[] }, .int .i64 0, .int .u8 0, .int .u32 0, .int .u32 0, .int .u8 0, .int .i64 0, .string { data:= #[] }, .slice none 0 0, .slice none 0 0, .slice none 0 0, .int .u32 0, .int .u32 0, .int .u16 0, .bool false, .int .u8 0, .int .i64 0, .string { data:= #[] }, .slice none 0 0, .slice none 0 0, .slice none 0 0] 36)).cell? ⟨w.heap.size,0,none⟩=some (.int .u8 k):=bx.a.at_ 0 _ rfl
  have hok:okTail k bs=bs.isEmpty:=by
    simp only [okTail,h1,h3,h4,h5,h6,or_self,if_false]
  have hrd:(tailRd k doc n (bs,false)).1=⟨k,doc,n,En.none,0,0,0,false,V.none, []⟩:=by
    simp only [tailRd,h1,h3,h4,h5,h6,or_self,if_false]
  have HOK:Hid (((m:Int)==0)=okTail k bs):=by show _=_;rw [hok,isEmpty_len _ h.len]
  have HRD:=Lib.hid hrd
  have f1:(k==1)=false:=by simp [h1]
  have f3:(k==3)=false:=by simp [h3]
  have f4:(k==4)=false:=by simp [h4]
  have f5:(k==5)=false:=by simp [h5]
  have f6:(k==6)=false:=by simp [h6]
  obtain ⟨q,hq⟩:∃q,((m:Int)==0)=q:=⟨_,rfl⟩
  rw [hq] at HOK
  clear h h1 h3 h4 h5 h6 hok hrd hkb hT hI0 hT0 hs0
  cases q
  all_goals
    go_enter Tryz.func15,Tryz.ntmps15
    generalize hQ0:bodyPost _ _ _=Q0
    have HQ:=Lib.hid hQ0
    clear hQ0
    go_wp2_with (first|(refine wp_loadM rfl _ rfl ?_;refine ⟨w.heap.size,mcells (mk0 k doc n),rfl,rfl,bx.a, ?_⟩)|(refine wp_storeM rfl _ _ rfl ?_;refine ⟨w.heap.size+1,mcells mzero,mcells (mk0 k doc n),rfl,rfl,bx.b,rfl,rfl,rfl, ?_⟩;intro W4 bm keepf st;have HBM:=Lib.hid bm;have HST:=Lib.hid st;clear bm keepf st))
    rw [←HQ.out]
    have hb4:Below w.heap.size w W4:=bx.below.trans (HST.out.low (by omega) (by have:=bx.below.size;omega))
    exact ⟨rfl,_,results_ends rfl rfl HBM.out,⟨⟨mk0 k doc n,ret_pair HOK.out,fun _=>by rw [HRD.out];exact isMsg_of HKB.out (isEntry_none _ _) (isVal_none _ _) (IsStrs.nil _ _) (by decide) (by decide) (by decide) (by decide) (by decide) (by decide)⟩,hb4⟩⟩
set_option maxHeartbeats 8000000 in
set_option maxRecDepth 100000 in
theorem ends_3 (w:World) (hT:Tabs w) (k:Int) (doc:ByteArray) (n:Int) (hkb:KB k doc n) (a:Option Addr) (m cp:Nat) (bs:List UInt8) (h:IsB w w.heap.size a m cp bs) (hl:bs.length≤60000) (ek:k=3):
    Calls Tryz.prog 15 #[.agg (mcells (mk0 k doc n)).toArray, .slice a m cp] w (EndsPost w k doc n bs):=by
  have bx:BoxM w ((w.alloc (.cells (mcells (mk0 k doc n)).toArray 36)).alloc (.cells #[.int .u8 0, .string { data:= #[] }, .int .i64 0, .int .u8 0, .int .u32 0, .int .u32 0, .int .u8 0, .int .i64 0, .string { data:= #[] }, .slice none 0 0, .slice none 0 0, .slice none 0 0, .int .u32 0, .int .u32 0, .int .u16 0, .bool false, .int .u8 0, .int .i64 0, .string { data:= #[] }, .slice none 0 0, .slice none 0 0, .slice none 0 0] 36)) (mk0 k doc n) mzero:=boxM_start w (mk0 k doc n) mzero
  have hI0:=(h.keep bx.below).more bx.below.size
  have hT0:=hT.below bx.below
  have hs0:((w.alloc (.cells (mcells (mk0 k doc n)).toArray 36)).alloc (.cells #[.int .u8 0, .string { data:= #[] }, .int .i64 0, .int .u8 0, .int .u32 0, .int .u32 0, .int .u8 0, .int .i64 0, .string { data:= #[] }, .slice none 0 0, .slice none 0 0, .slice none 0 0, .int .u32 0, .int .u32 0, .int .u16 0, .bool false, .int .u8 0, .int .i64 0, .string { data:= #[] }, .slice none 0 0, .slice none 0 0, .slice none 0 0] 36)).heap.size=w.heap.size+2:=by simp
  have HS0:=Lib.hid hs0
  have HKB:=Lib.hid hkb
  have z0:((w.alloc (.cells (mcells (mk0 k doc n)).toArray 36)).alloc (.cells #[.int .u8 0, .string { data:= #[] }, .int .i64 0, .int .u8 0, .int .u32 0, .int .u32 0, .int .u8 0, .int .i64 0, .string { data:= #[] }, .slice none 0 0, .slice none 0 0, .slice none 0 0, .int .u32 0, .int .u32 0, .int .u16 0, .bool false, .int .u8 0, .int .i64 0, .string { data:= #[] }, .slice none 0 0, .slice none 0 0, .slice none 0 0] 36)).cell? ⟨w.heap.size,0,none⟩=some (.int .u8 k):=bx.a.at_ 0 _ rfl
  obtain ⟨⟨x,er⟩,hout⟩:∃p,backE bs=p:=⟨_,rfl⟩
  have hok:okTail k bs=decide (er=0):=by
    subst ek;simp only [okTail,hout];rfl
  have hrd:(tailRd k doc n (bs,false)).1=⟨k,doc,n,x,0,0,0,false,V.none, []⟩:=by
    subst ek;simp only [tailRd,hout];rfl
  have HOK:Hid ((er==0)=okTail k bs):=by show _=_;rw [hok];rfl
  have HRD:=Lib.hid hrd
  have HD:=Lib.hid (dE_new ((w.alloc (.cells (mcells (mk0 k doc n)).toArray 36)).alloc (.cells #[.int .u8 0, .string { data:= #[] }, .int .i64 0, .int .u8 0, .int .u32 0, .int .u32 0, .int .u8 0, .int .i64 0, .string { data:= #[] }, .slice none 0 0, .slice none 0 0, .slice none 0 0, .int .u32 0, .int .u32 0, .int .u16 0, .bool false, .int .u8 0, .int .i64 0, .string { data:= #[] }, .slice none 0 0, .slice none 0 0, .slice none 0 0] 36)) hT0 a m cp bs hI0 (by omega) hout)
  replace z0:=z0.trans (congrArg (fun z=>some (Value.int .u8 z)) ek)
  clear h hok hrd hkb hT hI0 hT0 hs0 hout ek
  go_enter Tryz.func15,Tryz.ntmps15
  generalize hQ0:bodyPost _ _ _=Q0
  have HQ:=Lib.hid hQ0
  clear hQ0
  go_wp2_with (first
    |(go_at_call 26;(with_reducible refine HD.out.mono ?_);rintro e w1 ⟨⟨cv,rfl,hI1⟩,hb1⟩;have bx1:=bx.step hb1;have HI1:=Lib.hid hI1;have HZ1:Hid (w.heap.size+2≤w1.heap.size):=(by show _≤_;rw [←HS0.out];exact hb1.size);clear hI1 bx hb1)
    |(refine wp_storeE rfl _ _ rfl ?_;refine ⟨w.heap.size,mk0 k doc n,cv,rfl,rfl,bx1.a, ?_⟩;intro bxe;have bb:=bc_far (b:=w.heap.size+1) (b':=w.heap.size) (cs:=mcells mzero) (by omega) [.int .u8 cv.k, .int .u32 cv.src, .int .u32 cv.seq, .int .u8 cv.v.k, .int .i64 cv.v.n, .string cv.v.s, .slice cv.v.la cv.v.ll cv.v.lc, .slice cv.v.oa cv.v.ol cv.v.oc, .slice cv.oa cv.ol cv.oc] 3 w1 bx1.b;have HB2:=Lib.hid (below_setCells (B:=w.heap.size) (b:=w.heap.size) (Nat.le_refl _) [.int .u8 cv.k, .int .u32 cv.src, .int .u32 cv.seq, .int .u8 cv.v.k, .int .i64 cv.v.n, .string cv.v.s, .slice cv.v.la cv.v.ll cv.v.lc, .slice cv.v.oa cv.v.ol cv.v.oc, .slice cv.oa cv.ol cv.oc] 3 w w1 bx1.below);have HF2:Hid (∀k,w.heap.size<k→(World.setCells w1 w.heap.size 3 [.int .u8 cv.k, .int .u32 cv.src, .int .u32 cv.seq, .int .u8 cv.v.k, .int .i64 cv.v.n, .string cv.v.s, .slice cv.v.la cv.v.ll cv.v.lc, .slice cv.v.oa cv.v.ol cv.v.oc, .slice cv.oa cv.ol cv.oc]).heap[k]? =w1.heap[k]?):=(fun k hk=>heap_setCells_far (by omega) _ _ _);have HZ2:Hid ((World.setCells w1 w.heap.size 3 [.int .u8 cv.k, .int .u32 cv.src, .int .u32 cv.seq, .int .u8 cv.v.k, .int .i64 cv.v.n, .string cv.v.s, .slice cv.v.la cv.v.ll cv.v.lc, .slice cv.v.oa cv.v.ol cv.v.oc, .slice cv.oa cv.ol cv.oc]).heap.size=w1.heap.size):=size_setCells _ _ _ _;generalize World.setCells w1 w.heap.size 3 [.int .u8 cv.k, .int .u32 cv.src, .int .u32 cv.seq, .int .u8 cv.v.k, .int .i64 cv.v.n, .string cv.v.s, .slice cv.v.la cv.v.ll cv.v.lc, .slice cv.v.oa cv.v.ol cv.v.oc, .slice cv.oa cv.ol cv.oc] =W2 at bxe bb HB2 HF2 HZ2 ⊢;clear bx1)
    |(refine wp_loadM rfl _ rfl ?_;refine ⟨w.heap.size,mcells ({ mk0 k doc n with e:=cv } :MC),rfl,rfl,bxe, ?_⟩)|(refine wp_storeM rfl _ _ rfl ?_;refine ⟨w.heap.size+1,mcells mzero,mcells ({ mk0 k doc n with e:=cv } :MC),rfl,rfl,bb,rfl,rfl,rfl, ?_⟩;intro W4 bm keepf st;have HBM:=Lib.hid bm;have HST:=Lib.hid st;clear bm keepf st))
  rw [←HQ.out]
  have hz1:=HZ1.out
  have hz2:=HZ2.out
  have hb4:Below w.heap.size w W4:=HB2.out.trans (HST.out.low (by omega) (by omega))
  have hk4:∀j:Nat,((w.alloc (.cells (mcells (mk0 k doc n)).toArray 36)).alloc (.cells #[.int .u8 0, .string { data:= #[] }, .int .i64 0, .int .u8 0, .int .u32 0, .int .u32 0, .int .u8 0, .int .i64 0, .string { data:= #[] }, .slice none 0 0, .slice none 0 0, .slice none 0 0, .int .u32 0, .int .u32 0, .int .u16 0, .bool false, .int .u8 0, .int .i64 0, .string { data:= #[] }, .slice none 0 0, .slice none 0 0, .slice none 0 0] 36)).heap.size≤j→j<w1.heap.size→W4.heap[j]? =w1.heap[j]? :=fun j g1 g2=>by
    rw [HS0.out] at g1
    exact (HST.out.block j (by omega) (by omega)).trans (HF2.out j (by omega))
  exact ⟨rfl,_,results_ends rfl rfl HBM.out,⟨⟨({ mk0 k doc n with e:=cv } :MC),ret_pair HOK.out,fun _=>by rw [HRD.out];exact isMsg_of HKB.out (HI1.out.boxed (by simp;omega) hk4 (by have:=HST.out.size;omega)) (isVal_none _ _) (IsStrs.nil _ _) (by decide) (by decide) (by decide) (by decide) (by decide) (by decide)⟩,hb4⟩⟩
set_option maxHeartbeats 8000000 in
set_option maxRecDepth 100000 in
theorem ends_5 (w:World) (hT:Tabs w) (k:Int) (doc:ByteArray) (n:Int) (hkb:KB k doc n) (a:Option Addr) (m cp:Nat) (bs:List UInt8) (h:IsB w w.heap.size a m cp bs) (hl:bs.length≤60000) (ek:k=5):
    Calls Tryz.prog 15 #[.agg (mcells (mk0 k doc n)).toArray, .slice a m cp] w (EndsPost w k doc n bs):=by
  have bx:BoxM w ((w.alloc (.cells (mcells (mk0 k doc n)).toArray 36)).alloc (.cells #[.int .u8 0, .string { data:= #[] }, .int .i64 0, .int .u8 0, .int .u32 0, .int .u32 0, .int .u8 0, .int .i64 0, .string { data:= #[] }, .slice none 0 0, .slice none 0 0, .slice none 0 0, .int .u32 0, .int .u32 0, .int .u16 0, .bool false, .int .u8 0, .int .i64 0, .string { data:= #[] }, .slice none 0 0, .slice none 0 0, .slice none 0 0] 36)) (mk0 k doc n) mzero:=boxM_start w (mk0 k doc n) mzero
  have hI0:=(h.keep bx.below).more bx.below.size
  have hT0:=hT.below bx.below
  have hs0:((w.alloc (.cells (mcells (mk0 k doc n)).toArray 36)).alloc (.cells #[.int .u8 0, .string { data:= #[] }, .int .i64 0, .int .u8 0, .int .u32 0, .int .u32 0, .int .u8 0, .int .i64 0, .string { data:= #[] }, .slice none 0 0, .slice none 0 0, .slice none 0 0, .int .u32 0, .int .u32 0, .int .u16 0, .bool false, .int .u8 0, .int .i64 0, .string { data:= #[] }, .slice none 0 0, .slice none 0 0, .slice none 0 0] 36)).heap.size=w.heap.size+2:=by simp
  have HS0:=Lib.hid hs0
  have HKB:=Lib.hid hkb
  have z0:((w.alloc (.cells (mcells (mk0 k doc n)).toArray 36)).alloc (.cells #[.int .u8 0, .string { data:= #[] }, .int .i64 0, .int .u8 0, .int .u32 0, .int .u32 0, .int .u8 0, .int .i64 0, .string { data:= #[] }, .slice none 0 0, .slice none 0 0, .slice none 0 0, .int .u32 0, .int .u32 0, .int .u16 0, .bool false, .int .u8 0, .int .i64 0, .string { data:= #[] }, .slice none 0 0, .slice none 0 0, .slice none 0 0] 36)).cell? ⟨w.heap.size,0,none⟩=some (.int .u8 k):=bx.a.at_ 0 _ rfl
  obtain ⟨⟨x,er⟩,hout⟩:∃p,backE bs=p:=⟨_,rfl⟩
  have hok:okTail k bs=decide (er=0):=by
    subst ek;simp only [okTail,hout];rfl
  have hrd:(tailRd k doc n (bs,false)).1=⟨k,doc,n,x,0,0,0,false,V.none, []⟩:=by
    subst ek;simp only [tailRd,hout];rfl
  have HOK:Hid ((er==0)=okTail k bs):=by show _=_;rw [hok];rfl
  have HRD:=Lib.hid hrd
  have HD:=Lib.hid (dE_new ((w.alloc (.cells (mcells (mk0 k doc n)).toArray 36)).alloc (.cells #[.int .u8 0, .string { data:= #[] }, .int .i64 0, .int .u8 0, .int .u32 0, .int .u32 0, .int .u8 0, .int .i64 0, .string { data:= #[] }, .slice none 0 0, .slice none 0 0, .slice none 0 0, .int .u32 0, .int .u32 0, .int .u16 0, .bool false, .int .u8 0, .int .i64 0, .string { data:= #[] }, .slice none 0 0, .slice none 0 0, .slice none 0 0] 36)) hT0 a m cp bs hI0 (by omega) hout)
  replace z0:=z0.trans (congrArg (fun z=>some (Value.int .u8 z)) ek)
  clear h hok hrd hkb hT hI0 hT0 hs0 hout ek
  go_enter Tryz.func15,Tryz.ntmps15
  generalize hQ0:bodyPost _ _ _=Q0
  have HQ:=Lib.hid hQ0
  clear hQ0
  go_wp2_with (first
    |(go_at_call 26;(with_reducible refine HD.out.mono ?_);rintro e w1 ⟨⟨cv,rfl,hI1⟩,hb1⟩;have bx1:=bx.step hb1;have HI1:=Lib.hid hI1;have HZ1:Hid (w.heap.size+2≤w1.heap.size):=(by show _≤_;rw [←HS0.out];exact hb1.size);clear hI1 bx hb1)
    |(refine wp_storeE rfl _ _ rfl ?_;refine ⟨w.heap.size,mk0 k doc n,cv,rfl,rfl,bx1.a, ?_⟩;intro bxe;have bb:=bc_far (b:=w.heap.size+1) (b':=w.heap.size) (cs:=mcells mzero) (by omega) [.int .u8 cv.k, .int .u32 cv.src, .int .u32 cv.seq, .int .u8 cv.v.k, .int .i64 cv.v.n, .string cv.v.s, .slice cv.v.la cv.v.ll cv.v.lc, .slice cv.v.oa cv.v.ol cv.v.oc, .slice cv.oa cv.ol cv.oc] 3 w1 bx1.b;have HB2:=Lib.hid (below_setCells (B:=w.heap.size) (b:=w.heap.size) (Nat.le_refl _) [.int .u8 cv.k, .int .u32 cv.src, .int .u32 cv.seq, .int .u8 cv.v.k, .int .i64 cv.v.n, .string cv.v.s, .slice cv.v.la cv.v.ll cv.v.lc, .slice cv.v.oa cv.v.ol cv.v.oc, .slice cv.oa cv.ol cv.oc] 3 w w1 bx1.below);have HF2:Hid (∀k,w.heap.size<k→(World.setCells w1 w.heap.size 3 [.int .u8 cv.k, .int .u32 cv.src, .int .u32 cv.seq, .int .u8 cv.v.k, .int .i64 cv.v.n, .string cv.v.s, .slice cv.v.la cv.v.ll cv.v.lc, .slice cv.v.oa cv.v.ol cv.v.oc, .slice cv.oa cv.ol cv.oc]).heap[k]? =w1.heap[k]?):=(fun k hk=>heap_setCells_far (by omega) _ _ _);have HZ2:Hid ((World.setCells w1 w.heap.size 3 [.int .u8 cv.k, .int .u32 cv.src, .int .u32 cv.seq, .int .u8 cv.v.k, .int .i64 cv.v.n, .string cv.v.s, .slice cv.v.la cv.v.ll cv.v.lc, .slice cv.v.oa cv.v.ol cv.v.oc, .slice cv.oa cv.ol cv.oc]).heap.size=w1.heap.size):=size_setCells _ _ _ _;generalize World.setCells w1 w.heap.size 3 [.int .u8 cv.k, .int .u32 cv.src, .int .u32 cv.seq, .int .u8 cv.v.k, .int .i64 cv.v.n, .string cv.v.s, .slice cv.v.la cv.v.ll cv.v.lc, .slice cv.v.oa cv.v.ol cv.v.oc, .slice cv.oa cv.ol cv.oc] =W2 at bxe bb HB2 HF2 HZ2 ⊢;clear bx1)
    |(refine wp_loadM rfl _ rfl ?_;refine ⟨w.heap.size,mcells ({ mk0 k doc n with e:=cv } :MC),rfl,rfl,bxe, ?_⟩)|(refine wp_storeM rfl _ _ rfl ?_;refine ⟨w.heap.size+1,mcells mzero,mcells ({ mk0 k doc n with e:=cv } :MC),rfl,rfl,bb,rfl,rfl,rfl, ?_⟩;intro W4 bm keepf st;have HBM:=Lib.hid bm;have HST:=Lib.hid st;clear bm keepf st))
  rw [←HQ.out]
  have hz1:=HZ1.out
  have hz2:=HZ2.out
  have hb4:Below w.heap.size w W4:=HB2.out.trans (HST.out.low (by omega) (by omega))
  have hk4:∀j:Nat,((w.alloc (.cells (mcells (mk0 k doc n)).toArray 36)).alloc (.cells #[.int .u8 0, .string { data:= #[] }, .int .i64 0, .int .u8 0, .int .u32 0, .int .u32 0, .int .u8 0, .int .i64 0, .string { data:= #[] }, .slice none 0 0, .slice none 0 0, .slice none 0 0, .int .u32 0, .int .u32 0, .int .u16 0, .bool false, .int .u8 0, .int .i64 0, .string { data:= #[] }, .slice none 0 0, .slice none 0 0, .slice none 0 0] 36)).heap.size≤j→j<w1.heap.size→W4.heap[j]? =w1.heap[j]? :=fun j g1 g2=>by
    rw [HS0.out] at g1
    exact (HST.out.block j (by omega) (by omega)).trans (HF2.out j (by omega))
  exact ⟨rfl,_,results_ends rfl rfl HBM.out,⟨⟨({ mk0 k doc n with e:=cv } :MC),ret_pair HOK.out,fun _=>by rw [HRD.out];exact isMsg_of HKB.out (HI1.out.boxed (by simp;omega) hk4 (by have:=HST.out.size;omega)) (isVal_none _ _) (IsStrs.nil _ _) (by decide) (by decide) (by decide) (by decide) (by decide) (by decide)⟩,hb4⟩⟩
end Go.Proofs.YthceefjafklcmaaGreatDoor
namespace Go.Proofs.YthceefjafklcmaaGreatDoor
open Go.RowKit
theorem chain6a (bs:List UInt8):numP 4 (numP 4 (bs,false)).2=((rf2 bs).1,((rf2 bs).2.1,((rf2 bs).2.2||(rf1 bs).2.2))):=numP_flag 4 _ _
theorem chain6 (bs:List UInt8):numP 2 (numP 4 (numP 4 (bs,false)).2).2=((rf3 bs).1,((rf3 bs).2.1,((rf3 bs).2.2||((rf2 bs).2.2||(rf1 bs).2.2)))):=by
  rw [chain6a];exact numP_flag 2 _ _
theorem okTail_6 (bs:List UInt8):okTail 6 bs=rfOk bs:=by
  have h:okTail 6 bs=(!(numP 2 (numP 4 (numP 4 (bs,false)).2).2).2.2 && (numP 2 (numP 4 (numP 4 (bs,false)).2).2).2.1.isEmpty):=rfl
  rw [h,chain6,rfOk]
  dsimp only
  cases (rf1 bs).2.2<;>cases (rf2 bs).2.2<;>cases (rf3 bs).2.2<;>rfl
theorem tailRd_6 (doc:ByteArray) (n:Int) (bs:List UInt8):(tailRd 6 doc n (bs,false)).1=⟨6,doc,n,En.none,(rf1 bs).1,(rf2 bs).1,(rf3 bs).1,false,V.none, []⟩:=by
  have h:(tailRd 6 doc n (bs,false)).1=⟨6,doc,n,En.none,(numP 4 (bs,false)).1,(numP 4 (numP 4 (bs,false)).2).1,(numP 2 (numP 4 (numP 4 (bs,false)).2).2).1,false,V.none, []⟩:=rfl
  rw [h,chain6,chain6a];rfl
theorem IsStrs.boxed {W1 W4:World} {p z:Nat} {l:List ByteArray} {a:Option Addr} {n c:Nat} (h:IsStrs (only (fun b=>p<b) W1) W1.heap.size l a n c) (hzp:z≤p) (hk:∀k,p<k→k<W1.heap.size→W4.heap[k]? =W1.heap[k]?) (hz:W1.heap.size≤W4.heap.size):IsStrs (only (fun b=>z≤b) W4) W4.heap.size l a n c:=
  (h.sub (shows_step (S':=fun b=>z≤b) fun k h1 h2=>⟨Nat.le_trans hzp (Nat.le_of_lt h1),hk k h1 h2⟩)).more hz
set_option maxHeartbeats 8000000 in
set_option maxRecDepth 100000 in
theorem ends_6 (w:World) (hT:Tabs w) (k:Int) (doc:ByteArray) (n:Int) (hkb:KB k doc n) (a:Option Addr) (m cp:Nat) (bs:List UInt8) (h:IsB w w.heap.size a m cp bs) (ek:k=6):
    Calls Tryz.prog 15 #[.agg (mcells (mk0 k doc n)).toArray, .slice a m cp] w (EndsPost w k doc n bs):=by
  have bx:BoxM w ((w.alloc (.cells (mcells (mk0 k doc n)).toArray 36)).alloc (.cells #[.int .u8 0, .string { data:= #[] }, .int .i64 0, .int .u8 0, .int .u32 0, .int .u32 0, .int .u8 0, .int .i64 0, .string { data:= #[] }, .slice none 0 0, .slice none 0 0, .slice none 0 0, .int .u32 0, .int .u32 0, .int .u16 0, .bool false, .int .u8 0, .int .i64 0, .string { data:= #[] }, .slice none 0 0, .slice none 0 0, .slice none 0 0] 36)) (mk0 k doc n) mzero:=boxM_start w (mk0 k doc n) mzero
  have hI0:=(h.keep bx.below).more bx.below.size
  have hT0:=hT.below bx.below
  have hs0:((w.alloc (.cells (mcells (mk0 k doc n)).toArray 36)).alloc (.cells #[.int .u8 0, .string { data:= #[] }, .int .i64 0, .int .u8 0, .int .u32 0, .int .u32 0, .int .u8 0, .int .i64 0, .string { data:= #[] }, .slice none 0 0, .slice none 0 0, .slice none 0 0, .int .u32 0, .int .u32 0, .int .u16 0, .bool false, .int .u8 0, .int .i64 0, .string { data:= #[] }, .slice none 0 0, .slice none 0 0, .slice none 0 0] 36)).heap.size=w.heap.size+2:=by simp
  have HS0:=Lib.hid hs0
  have HKB:=Lib.hid hkb
  have z0:((w.alloc (.cells (mcells (mk0 k doc n)).toArray 36)).alloc (.cells #[.int .u8 0, .string { data:= #[] }, .int .i64 0, .int .u8 0, .int .u32 0, .int .u32 0, .int .u8 0, .int .i64 0, .string { data:= #[] }, .slice none 0 0, .slice none 0 0, .slice none 0 0, .int .u32 0, .int .u32 0, .int .u16 0, .bool false, .int .u8 0, .int .i64 0, .string { data:= #[] }, .slice none 0 0, .slice none 0 0, .slice none 0 0] 36)).cell? ⟨w.heap.size,0,none⟩=some (.int .u8 k):=bx.a.at_ 0 _ rfl
  have HOK:Hid (rfOk bs=okTail k bs):=by subst ek;exact (okTail_6 bs).symm
  have HRD:Hid ((tailRd k doc n (bs,false)).1=⟨k,doc,n,En.none,(rf1 bs).1,(rf2 bs).1,(rf3 bs).1,false,V.none, []⟩):=by subst ek;exact tailRd_6 doc n bs
  have HRF:=Lib.hid (refused_any ((w.alloc (.cells (mcells (mk0 k doc n)).toArray 36)).alloc (.cells #[.int .u8 0, .string { data:= #[] }, .int .i64 0, .int .u8 0, .int .u32 0, .int .u32 0, .int .u8 0, .int .i64 0, .string { data:= #[] }, .slice none 0 0, .slice none 0 0, .slice none 0 0, .int .u32 0, .int .u32 0, .int .u16 0, .bool false, .int .u8 0, .int .i64 0, .string { data:= #[] }, .slice none 0 0, .slice none 0 0, .slice none 0 0] 36)) (mk0 k doc n) a m cp bs hI0)
  have l1:=numP_lt4 (bs,false)
  have l2:=numP_lt4 ((rf1 bs).2.1,false)
  have l3:=numP_lt2 ((rf2 bs).2.1,false)
  replace z0:=z0.trans (congrArg (fun z=>some (Value.int .u8 z)) ek)
  clear h hkb hT hI0 hT0 hs0 ek
  go_enter Tryz.func15,Tryz.ntmps15
  generalize hQ0:bodyPost _ _ _=Q0
  have HQ:=Lib.hid hQ0
  clear hQ0
  go_wp2_with (first
    |(go_at_call 28;(with_reducible refine HRF.out.mono ?_);rintro e w1 ⟨rfl,hb1⟩;have bx1:=bx.step hb1;clear hb1)
    |(refine wp_loadM rfl _ rfl ?_;refine ⟨w.heap.size,mcells (mk0 k doc n),rfl,rfl,bx.a, ?_⟩)|(refine wp_storeM rfl _ _ rfl ?_;refine ⟨w.heap.size+1,mcells mzero,mcells ({ mk0 k doc n with src:=((rf1 bs).1:Int),seq:=((rf2 bs).1:Int),err:=((rf3 bs).1:Int) } :MC),rfl,rfl,bx1.b,rfl,rfl,rfl, ?_⟩;intro W4 bm keepf st;have HBM:=Lib.hid bm;have HST:=Lib.hid st;clear bm keepf st))
  rw [←HQ.out]
  have hb4:Below w.heap.size w W4:=bx1.below.trans (HST.out.low (by omega) (by have:=bx1.below.size;omega))
  exact ⟨rfl,_,results_ends rfl rfl HBM.out,⟨⟨({ mk0 k doc n with src:=((rf1 bs).1:Int),seq:=((rf2 bs).1:Int),err:=((rf3 bs).1:Int) } :MC),ret_pair HOK.out,fun _=>by rw [HRD.out];exact isMsg_of HKB.out (isEntry_none _ _) (isVal_none _ _) (IsStrs.nil _ _) (by omega) (by have:(rf1 bs).1<4294967296:=l1;omega) (by omega) (by have:(rf2 bs).1<4294967296:=l2;omega) (by omega) (by have:(rf3 bs).1<65536:=l3;omega)⟩,hb4⟩⟩
set_option maxHeartbeats 8000000 in
set_option maxRecDepth 100000 in
theorem ends_1 (w:World) (hT:Tabs w) (k:Int) (doc:ByteArray) (n:Int) (hkb:KB k doc n) (a:Option Addr) (m cp:Nat) (bs:List UInt8) (h:IsB w w.heap.size a m cp bs) (hl:bs.length≤60000) (ek:k=1):
    Calls Tryz.prog 15 #[.agg (mcells (mk0 k doc n)).toArray, .slice a m cp] w (EndsPost w k doc n bs):=by
  have bx:BoxM w ((w.alloc (.cells (mcells (mk0 k doc n)).toArray 36)).alloc (.cells #[.int .u8 0, .string { data:= #[] }, .int .i64 0, .int .u8 0, .int .u32 0, .int .u32 0, .int .u8 0, .int .i64 0, .string { data:= #[] }, .slice none 0 0, .slice none 0 0, .slice none 0 0, .int .u32 0, .int .u32 0, .int .u16 0, .bool false, .int .u8 0, .int .i64 0, .string { data:= #[] }, .slice none 0 0, .slice none 0 0, .slice none 0 0] 36)) (mk0 k doc n) mzero:=boxM_start w (mk0 k doc n) mzero
  have hI0:=(h.keep bx.below).more bx.below.size
  have hT0:=hT.below bx.below
  have hs0:((w.alloc (.cells (mcells (mk0 k doc n)).toArray 36)).alloc (.cells #[.int .u8 0, .string { data:= #[] }, .int .i64 0, .int .u8 0, .int .u32 0, .int .u32 0, .int .u8 0, .int .i64 0, .string { data:= #[] }, .slice none 0 0, .slice none 0 0, .slice none 0 0, .int .u32 0, .int .u32 0, .int .u16 0, .bool false, .int .u8 0, .int .i64 0, .string { data:= #[] }, .slice none 0 0, .slice none 0 0, .slice none 0 0] 36)).heap.size=w.heap.size+2:=by simp
  have HS0:=Lib.hid hs0
  have HKB:=Lib.hid hkb
  have z0:((w.alloc (.cells (mcells (mk0 k doc n)).toArray 36)).alloc (.cells #[.int .u8 0, .string { data:= #[] }, .int .i64 0, .int .u8 0, .int .u32 0, .int .u32 0, .int .u8 0, .int .i64 0, .string { data:= #[] }, .slice none 0 0, .slice none 0 0, .slice none 0 0, .int .u32 0, .int .u32 0, .int .u16 0, .bool false, .int .u8 0, .int .i64 0, .string { data:= #[] }, .slice none 0 0, .slice none 0 0, .slice none 0 0] 36)).cell? ⟨w.heap.size,0,none⟩=some (.int .u8 k):=bx.a.at_ 0 _ rfl
  have HOK:Hid (fdOk bs=okTail k bs):=by subst ek;rfl
  have HRD:Hid ((tailRd k doc n (bs,false)).1=⟨k,doc,n,En.none,0,0,0,false,V.none,(textsP (numP 1 (bs,false)).1 (numP 1 (bs,false)).2).1⟩):=by subst ek;rfl
  have HF:=Lib.hid (fields_any ((w.alloc (.cells (mcells (mk0 k doc n)).toArray 36)).alloc (.cells #[.int .u8 0, .string { data:= #[] }, .int .i64 0, .int .u8 0, .int .u32 0, .int .u32 0, .int .u8 0, .int .i64 0, .string { data:= #[] }, .slice none 0 0, .slice none 0 0, .slice none 0 0, .int .u32 0, .int .u32 0, .int .u16 0, .bool false, .int .u8 0, .int .i64 0, .string { data:= #[] }, .slice none 0 0, .slice none 0 0, .slice none 0 0] 36)) a m cp bs hI0)
  have l1:=numP_lt1 (bs,false)
  have l2:=numP_len 1 (bs,false)
  have l3:=(textsP_le (numP 1 (bs,false)).1 (numP 1 (bs,false)).2).1
  have l4:=textsP_len (numP 1 (bs,false)).1 (numP 1 (bs,false)).2
  generalize (textsP (numP 1 (bs,false)).1 (numP 1 (bs,false)).2).1=tx at HF HRD l3 l4
  obtain ⟨q,hq⟩:∃q,fdOk bs=q:=⟨_,rfl⟩
  rw [hq] at HF HOK
  replace z0:=z0.trans (congrArg (fun z=>some (Value.int .u8 z)) ek)
  clear h hkb hT hI0 hT0 hs0 ek hq
  cases q
  all_goals
    go_enter Tryz.func15,Tryz.ntmps15
    generalize hQ0:bodyPost _ _ _=Q0
    have HQ:=Lib.hid hQ0
    clear hQ0
    go_wp2_with (first
      |(go_at_call 29;(with_reducible refine HF.out.mono ?_);rintro e w1 ⟨⟨fa,fl,fc,rfl,hO1⟩,hb1⟩;have bx1:=bx.step hb1;have z21:=bx1.a.at_ 21 _ rfl;have g21:=bx1.a.fr 21;have HO1:=Lib.hid hO1;have HZ1:Hid (w.heap.size+2≤w1.heap.size):=(by show _≤_;rw [←HS0.out];exact hb1.size);clear hb1 hO1)
      |(refine wp_loadM rfl _ rfl ?_;refine ⟨w.heap.size,mcells ({ mk0 k doc n with fa:=fa,fl:=fl,fc:=fc } :MC),rfl,rfl,(bx1.a.set (i:=21) (x:= .slice fa fl fc) (by simp [mcells])), ?_⟩)|(refine wp_storeM rfl _ _ rfl ?_;refine ⟨w.heap.size+1,mcells mzero,mcells ({ mk0 k doc n with fa:=fa,fl:=fl,fc:=fc } :MC),rfl,rfl,(bx1.b.far (by omega)),rfl,rfl,rfl, ?_⟩;intro W4 bm keepf st;have HBM:=Lib.hid bm;have HST:=Lib.hid st;clear bm keepf st))
    rw [←HQ.out]
    have hz1:=HZ1.out
    have hb4:Below w.heap.size w W4:=(bx1.below.setCell (by simp) _).trans (HST.out.low (by omega) (by simp;omega))
    have hk4:∀j:Nat,w.heap.size+1<j→j<w1.heap.size→W4.heap[j]? =w1.heap[j]? :=fun j g1 g2=>(HST.out.block j (by simpa using g2) (by omega)).trans (heap_setCell_other _ _ _ _ (by simp;omega))
    have hz4:w1.heap.size≤W4.heap.size:=by have:=HST.out.size;simpa using this
    exact ⟨rfl,_,results_ends rfl rfl HBM.out,⟨⟨({ mk0 k doc n with fa:=fa,fl:=fl,fc:=fc } :MC),ret_pair HOK.out,fun hk=>by
      first
        |(rw [←HOK.out] at hk;cases hk;done)
        | (rw [HRD.out]
           have hO:=HO1.out (by first|trivial|rfl)
           exact isMsg_of HKB.out (isEntry_none _ _) (isVal_none _ _) ((hO.isStrs (mb:=w.heap.size+1) (by rw [HS0.out];omega) (by have:=hO.1;omega) (fun t ht=>by have:=l3 t ht;omega)).boxed (Nat.le_succ _) hk4 hz4) (by decide) (by decide) (by decide) (by decide) (by decide) (by decide))⟩,hb4⟩⟩
end Go.Proofs.YthceefjafklcmaaGreatDoor
namespace Go.Proofs.YthceefjafklcmaaGreatDoor
open Go.RowKit
set_option maxHeartbeats 8000000 in
set_option maxRecDepth 100000 in
theorem ends_4n (w:World) (hT:Tabs w) (k:Int) (doc:ByteArray) (n:Int) (hkb:KB k doc n) (a:Option Addr) (m cp:Nat) (bs:List UInt8) (h:IsB w w.heap.size a m cp bs) (ek:k=4) (hbs:bs= []):
    Calls Tryz.prog 15 #[.agg (mcells (mk0 k doc n)).toArray, .slice a m cp] w (EndsPost w k doc n bs):=by
  have bx:BoxM w ((w.alloc (.cells (mcells (mk0 k doc n)).toArray 36)).alloc (.cells #[.int .u8 0, .string { data:= #[] }, .int .i64 0, .int .u8 0, .int .u32 0, .int .u32 0, .int .u8 0, .int .i64 0, .string { data:= #[] }, .slice none 0 0, .slice none 0 0, .slice none 0 0, .int .u32 0, .int .u32 0, .int .u16 0, .bool false, .int .u8 0, .int .i64 0, .string { data:= #[] }, .slice none 0 0, .slice none 0 0, .slice none 0 0] 36)) (mk0 k doc n) mzero:=boxM_start w (mk0 k doc n) mzero
  have hI0:=(h.keep bx.below).more bx.below.size
  have hT0:=hT.below bx.below
  have hs0:((w.alloc (.cells (mcells (mk0 k doc n)).toArray 36)).alloc (.cells #[.int .u8 0, .string { data:= #[] }, .int .i64 0, .int .u8 0, .int .u32 0, .int .u32 0, .int .u8 0, .int .i64 0, .string { data:= #[] }, .slice none 0 0, .slice none 0 0, .slice none 0 0, .int .u32 0, .int .u32 0, .int .u16 0, .bool false, .int .u8 0, .int .i64 0, .string { data:= #[] }, .slice none 0 0, .slice none 0 0, .slice none 0 0] 36)).heap.size=w.heap.size+2:=by simp
  have HS0:=Lib.hid hs0
  have HKB:=Lib.hid hkb
  have z0:((w.alloc (.cells (mcells (mk0 k doc n)).toArray 36)).alloc (.cells #[.int .u8 0, .string { data:= #[] }, .int .i64 0, .int .u8 0, .int .u32 0, .int .u32 0, .int .u8 0, .int .i64 0, .string { data:= #[] }, .slice none 0 0, .slice none 0 0, .slice none 0 0, .int .u32 0, .int .u32 0, .int .u16 0, .bool false, .int .u8 0, .int .i64 0, .string { data:= #[] }, .slice none 0 0, .slice none 0 0, .slice none 0 0] 36)).cell? ⟨w.heap.size,0,none⟩=some (.int .u8 k):=bx.a.at_ 0 _ rfl
  have HRD0:¬(bs.head? =some 1)→Hid ((tailRd k doc n (bs,false)).1=⟨k,doc,n,En.none,0,0,0,false,V.none, []⟩):=fun hne=>by
    subst ek
    show _=_
    cases bs with
    |nil=>rfl
    | cons b r=>
      have e:numP 1 (b::r,false)=(b.toNat,(r,false)):=by simp [numP,cutP,num]
      have hb2:¬b.toNat=1:=fun h=>hne (by rw [List.head?_cons,show b=1 from UInt8.toNat_inj.1 h])
      simp only [tailRd,e,if_neg hb2]
      rfl
  have HRD:=HRD0 (by subst hbs;simp)
  have HOK:Hid (false=okTail k bs):=by subst ek hbs;rfl
  have hm:m=0:=by rw [h.len,hbs];rfl
  replace z0:=z0.trans (congrArg (fun z=>some (Value.int .u8 z)) ek)
  clear h hkb hT hI0 hT0 hs0 ek HRD0 hbs
  subst hm
  go_enter Tryz.func15,Tryz.ntmps15
  generalize hQ0:bodyPost _ _ _=Q0
  have HQ:=Lib.hid hQ0
  clear hQ0
  go_wp2_with (first|(refine wp_loadM rfl _ rfl ?_;refine ⟨w.heap.size,mcells (mk0 k doc n),rfl,rfl,bx.a, ?_⟩)|(refine wp_storeM rfl _ _ rfl ?_;refine ⟨w.heap.size+1,mcells mzero,mcells (mk0 k doc n),rfl,rfl,bx.b,rfl,rfl,rfl, ?_⟩;intro W4 bm keepf st;have HBM:=Lib.hid bm;have HST:=Lib.hid st;clear bm keepf st))
  rw [←HQ.out]
  have hb4:Below w.heap.size w W4:=bx.below.trans (HST.out.low (by omega) (by have:=bx.below.size;omega))
  exact ⟨rfl,_,results_ends rfl rfl HBM.out,⟨⟨mk0 k doc n,ret_pair HOK.out,fun _=>by rw [HRD.out];exact isMsg_of HKB.out (isEntry_none _ _) (isVal_none _ _) (IsStrs.nil _ _) (by decide) (by decide) (by decide) (by decide) (by decide) (by decide)⟩,hb4⟩⟩
set_option maxHeartbeats 8000000 in
set_option maxRecDepth 100000 in
theorem ends_4x (w:World) (hT:Tabs w) (k:Int) (doc:ByteArray) (n:Int) (hkb:KB k doc n) (a:Option Addr) (m cp:Nat) (bs:List UInt8) (h:IsB w w.heap.size a m cp bs) (ek:k=4) (b:UInt8) (r:List UInt8) (hbs:bs=b::r) (hb1:¬b=1):
    Calls Tryz.prog 15 #[.agg (mcells (mk0 k doc n)).toArray, .slice a m cp] w (EndsPost w k doc n bs):=by
  have bx:BoxM w ((w.alloc (.cells (mcells (mk0 k doc n)).toArray 36)).alloc (.cells #[.int .u8 0, .string { data:= #[] }, .int .i64 0, .int .u8 0, .int .u32 0, .int .u32 0, .int .u8 0, .int .i64 0, .string { data:= #[] }, .slice none 0 0, .slice none 0 0, .slice none 0 0, .int .u32 0, .int .u32 0, .int .u16 0, .bool false, .int .u8 0, .int .i64 0, .string { data:= #[] }, .slice none 0 0, .slice none 0 0, .slice none 0 0] 36)) (mk0 k doc n) mzero:=boxM_start w (mk0 k doc n) mzero
  have hI0:=(h.keep bx.below).more bx.below.size
  have hT0:=hT.below bx.below
  have hs0:((w.alloc (.cells (mcells (mk0 k doc n)).toArray 36)).alloc (.cells #[.int .u8 0, .string { data:= #[] }, .int .i64 0, .int .u8 0, .int .u32 0, .int .u32 0, .int .u8 0, .int .i64 0, .string { data:= #[] }, .slice none 0 0, .slice none 0 0, .slice none 0 0, .int .u32 0, .int .u32 0, .int .u16 0, .bool false, .int .u8 0, .int .i64 0, .string { data:= #[] }, .slice none 0 0, .slice none 0 0, .slice none 0 0] 36)).heap.size=w.heap.size+2:=by simp
  have HS0:=Lib.hid hs0
  have HKB:=Lib.hid hkb
  have z0:((w.alloc (.cells (mcells (mk0 k doc n)).toArray 36)).alloc (.cells #[.int .u8 0, .string { data:= #[] }, .int .i64 0, .int .u8 0, .int .u32 0, .int .u32 0, .int .u8 0, .int .i64 0, .string { data:= #[] }, .slice none 0 0, .slice none 0 0, .slice none 0 0, .int .u32 0, .int .u32 0, .int .u16 0, .bool false, .int .u8 0, .int .i64 0, .string { data:= #[] }, .slice none 0 0, .slice none 0 0, .slice none 0 0] 36)).cell? ⟨w.heap.size,0,none⟩=some (.int .u8 k):=bx.a.at_ 0 _ rfl
  have HRD0:¬(bs.head? =some 1)→Hid ((tailRd k doc n (bs,false)).1=⟨k,doc,n,En.none,0,0,0,false,V.none, []⟩):=fun hne=>by
    subst ek
    show _=_
    cases bs with
    |nil=>rfl
    | cons b r=>
      have e:numP 1 (b::r,false)=(b.toNat,(r,false)):=by simp [numP,cutP,num]
      have hb2:¬b.toNat=1:=fun h=>hne (by rw [List.head?_cons,show b=1 from UInt8.toNat_inj.1 h])
      simp only [tailRd,e,if_neg hb2]
      rfl
  have HRD:=HRD0 (by subst hbs;simpa using hb1)
  have hlen:=h.len
  have hm0:0<m:=by rw [hlen,hbs];simp
  obtain ⟨ab,ao,hp,ha,hab,hc⟩:=hI0.get hm0
  subst ha
  obtain ⟨y,hy⟩:∃y,b.toNat=y:=⟨_,rfl⟩
  have hc2:((w.alloc (.cells (mcells (mk0 k doc n)).toArray 36)).alloc (.cells #[.int .u8 0, .string { data:= #[] }, .int .i64 0, .int .u8 0, .int .u32 0, .int .u32 0, .int .u8 0, .int .i64 0, .string { data:= #[] }, .slice none 0 0, .slice none 0 0, .slice none 0 0, .int .u32 0, .int .u32 0, .int .u16 0, .bool false, .int .u8 0, .int .i64 0, .string { data:= #[] }, .slice none 0 0, .slice none 0 0, .slice none 0 0] 36)).cell? ⟨ab,ao,none⟩=some (.int .u8 (y:Int)):=by
    subst hbs;rw [←hy];exact hc
  have hy1:¬y=1:=fun h=>hb1 (UInt8.toNat_inj.1 (hy.trans h))
  obtain ⟨q,hq⟩:∃q,okTail k bs=q:=⟨_,rfl⟩
  have hqq:q=(decide (y=0) && decide (m=1)):=by
    rw [←hq];subst ek hbs
    have h1:okTail 4 (b::r)=(if b=1 then decide ((backR r).2=0) else (b==0) && r.isEmpty):=rfl
    rw [h1,if_neg hb1]
    have h2:(b==0)=decide (y=0):=by
      rw [←hy]
      by_cases e:b=0
      · subst e;rfl
      · rw [show (b==0)=false by simpa using e]
        have:¬b.toNat=0:=fun h=>e (UInt8.toNat_inj.1 h)
        simp [this]
    have h3:r.isEmpty=decide (m=1):=by
      rw [hlen]
      cases r with
      |nil=>rfl
      |cons x r=>simp
    rw [h2,h3]
  have hcases:(1<y∧q=false)∨(y=0∧1<m∧q=false)∨(y=0∧m=1∧q=true):=by
    rw [hqq]
    by_cases e:y=0
    · by_cases e2:m=1
      · exact .inr (.inr ⟨e,e2,by simp [e,e2]⟩)
      · exact .inr (.inl ⟨e,by omega,by simp [e2]⟩)
    · exact .inl ⟨by omega,by simp [e]⟩
  have HOK:=Lib.hid hq
  have HM0:=Lib.hid hm0
  replace z0:=z0.trans (congrArg (fun z=>some (Value.int .u8 z)) ek)
  clear h hkb hT hI0 hT0 hs0 ek HRD0 hbs hq hqq hc hy hy1 hb1 hlen hp
  rcases hcases with ⟨hy1,rfl⟩|⟨rfl,hm1,rfl⟩|⟨rfl,rfl,rfl⟩
  all_goals
    go_enter Tryz.func15,Tryz.ntmps15
    generalize hQ0:bodyPost _ _ _=Q0
    have HQ:=Lib.hid hQ0
    clear hQ0
    go_wp2_with (first|(refine wp_loadM rfl _ rfl ?_;refine ⟨w.heap.size,mcells (mk0 k doc n),rfl,rfl,bx.a, ?_⟩)|(refine wp_storeM rfl _ _ rfl ?_;refine ⟨w.heap.size+1,mcells mzero,mcells (mk0 k doc n),rfl,rfl,bx.b,rfl,rfl,rfl, ?_⟩;intro W4 bm keepf st;have HBM:=Lib.hid bm;have HST:=Lib.hid st;clear bm keepf st))
    rw [←HQ.out]
    have hb4:Below w.heap.size w W4:=bx.below.trans (HST.out.low (by omega) (by have:=bx.below.size;omega))
    exact ⟨rfl,_,results_ends rfl rfl HBM.out,⟨⟨mk0 k doc n,ret_pair HOK.out.symm,fun _=>by rw [HRD.out];exact isMsg_of HKB.out (isEntry_none _ _) (isVal_none _ _) (IsStrs.nil _ _) (by decide) (by decide) (by decide) (by decide) (by decide) (by decide)⟩,hb4⟩⟩
set_option maxHeartbeats 8000000 in
set_option maxRecDepth 100000 in
theorem ends_4v (w:World) (hT:Tabs w) (k:Int) (doc:ByteArray) (n:Int) (hkb:KB k doc n) (a:Option Addr) (m cp:Nat) (bs:List UInt8) (h:IsB w w.heap.size a m cp bs) (hl:bs.length≤60000) (ek:k=4) (r:List UInt8) (hbs:bs=1::r):
    Calls Tryz.prog 15 #[.agg (mcells (mk0 k doc n)).toArray, .slice a m cp] w (EndsPost w k doc n bs):=by
  have bx:BoxM w ((w.alloc (.cells (mcells (mk0 k doc n)).toArray 36)).alloc (.cells #[.int .u8 0, .string { data:= #[] }, .int .i64 0, .int .u8 0, .int .u32 0, .int .u32 0, .int .u8 0, .int .i64 0, .string { data:= #[] }, .slice none 0 0, .slice none 0 0, .slice none 0 0, .int .u32 0, .int .u32 0, .int .u16 0, .bool false, .int .u8 0, .int .i64 0, .string { data:= #[] }, .slice none 0 0, .slice none 0 0, .slice none 0 0] 36)) (mk0 k doc n) mzero:=boxM_start w (mk0 k doc n) mzero
  have hI0:=(h.keep bx.below).more bx.below.size
  have hT0:=hT.below bx.below
  have hs0:((w.alloc (.cells (mcells (mk0 k doc n)).toArray 36)).alloc (.cells #[.int .u8 0, .string { data:= #[] }, .int .i64 0, .int .u8 0, .int .u32 0, .int .u32 0, .int .u8 0, .int .i64 0, .string { data:= #[] }, .slice none 0 0, .slice none 0 0, .slice none 0 0, .int .u32 0, .int .u32 0, .int .u16 0, .bool false, .int .u8 0, .int .i64 0, .string { data:= #[] }, .slice none 0 0, .slice none 0 0, .slice none 0 0] 36)).heap.size=w.heap.size+2:=by simp
  have HS0:=Lib.hid hs0
  have HKB:=Lib.hid hkb
  have z0:((w.alloc (.cells (mcells (mk0 k doc n)).toArray 36)).alloc (.cells #[.int .u8 0, .string { data:= #[] }, .int .i64 0, .int .u8 0, .int .u32 0, .int .u32 0, .int .u8 0, .int .i64 0, .string { data:= #[] }, .slice none 0 0, .slice none 0 0, .slice none 0 0, .int .u32 0, .int .u32 0, .int .u16 0, .bool false, .int .u8 0, .int .i64 0, .string { data:= #[] }, .slice none 0 0, .slice none 0 0, .slice none 0 0] 36)).cell? ⟨w.heap.size,0,none⟩=some (.int .u8 k):=bx.a.at_ 0 _ rfl
  obtain ⟨⟨x,er⟩,hout⟩:∃p,backR r=p:=⟨_,rfl⟩
  have HRD:Hid ((tailRd k doc n (bs,false)).1=⟨k,doc,n,En.none,0,0,0,true,x, []⟩):=by
    subst ek hbs
    have e:numP 1 (1::r,false)=(1,(r,false)):=by simp [numP,cutP,num]
    show _=_
    simp only [tailRd,e]
    rw [show (backR r).1=x by rw [hout]]
    rfl
  have HOK:Hid ((er==0)=okTail k bs):=by
    subst ek hbs
    have h1:okTail 4 (1::r)=(if (1:UInt8)=1 then decide ((backR r).2=0) else ((1:UInt8)==0) && r.isEmpty):=rfl
    show _=_
    rw [h1,if_pos rfl,hout];rfl
  have hlen:=h.len
  have hm0:0<m:=by rw [hlen,hbs];simp
  have hc1:=h.cap
  have hc2:=h.max
  have hrl:r.length≤60000:=by rw [hbs] at hl;simp at hl;omega
  obtain ⟨ab,ao,hp,ha,hab,hc⟩:=hI0.get hm0
  subst ha
  have hcc:((w.alloc (.cells (mcells (mk0 k doc n)).toArray 36)).alloc (.cells #[.int .u8 0, .string { data:= #[] }, .int .i64 0, .int .u8 0, .int .u32 0, .int .u32 0, .int .u8 0, .int .i64 0, .string { data:= #[] }, .slice none 0 0, .slice none 0 0, .slice none 0 0, .int .u32 0, .int .u32 0, .int .u16 0, .bool false, .int .u8 0, .int .i64 0, .string { data:= #[] }, .slice none 0 0, .slice none 0 0, .slice none 0 0] 36)).cell? ⟨ab,ao,none⟩=some (.int .u8 1):=by subst hbs;exact hc
  have HW:=Lib.hid hT
  have HI:=Lib.hid h
  have HBS:=Lib.hid hbs
  have HHO:=Lib.hid hout
  replace z0:=z0.trans (congrArg (fun z=>some (Value.int .u8 z)) ek)
  have z15:=bx.a.at_ 15 _ rfl
  have g15:=bx.a.fr 15
  clear h hkb hT hI0 hT0 hs0 ek hbs hc hlen hp hl hout
  have bxs:BoxM w ((w.alloc (.cells ((mcells (mk0 k doc n)).set 15 (.bool true)).toArray 36)).alloc (.cells #[.int .u8 0, .string { data:= #[] }, .int .i64 0, .int .u8 0, .int .u32 0, .int .u32 0, .int .u8 0, .int .i64 0, .string { data:= #[] }, .slice none 0 0, .slice none 0 0, .slice none 0 0, .int .u32 0, .int .u32 0, .int .u16 0, .bool false, .int .u8 0, .int .i64 0, .string { data:= #[] }, .slice none 0 0, .slice none 0 0, .slice none 0 0] 36)) ({ mk0 k doc n with there:=true } :MC) mzero:=boxM_start w ({ mk0 k doc n with there:=true } :MC) mzero
  have HBX:=Lib.hid bxs
  have HT1:=Lib.hid (HW.out.below bxs.below)
  have hI1:=(HI.out.keep bxs.below).more bxs.below.size
  have hd:=hI1.drop 1 hm0
  rw [HBS.out,List.drop_succ_cons,List.drop_zero] at hd
  have HMX:Hid (r.length≤281474976710656):=by show _≤_;omega
  have HS1:Hid (((w.alloc (.cells ((mcells (mk0 k doc n)).set 15 (.bool true)).toArray 36)).alloc (.cells #[.int .u8 0, .string { data:= #[] }, .int .i64 0, .int .u8 0, .int .u32 0, .int .u32 0, .int .u8 0, .int .i64 0, .string { data:= #[] }, .slice none 0 0, .slice none 0 0, .slice none 0 0, .int .u32 0, .int .u32 0, .int .u16 0, .bool false, .int .u8 0, .int .i64 0, .string { data:= #[] }, .slice none 0 0, .slice none 0 0, .slice none 0 0] 36)).heap.size=w.heap.size+2):=by show _=_;simp
  have HCALL:Hid (∀(W:World) (a':Option Addr) (m' c':Nat),Tabs W→IsB W W.heap.size a' m' c' r→Calls Tryz.prog 27 #[.slice a' m' c'] W (DVPost W x er)):=fun W a' m' c' g1 g2=>dV_new W g1 a' m' c' r g2 HMX.out HHO.out
  clear HBS
  by_cases e1:cp=1
  case pos=>
    have HDD:Hid (IsB ((w.alloc (.cells ((mcells (mk0 k doc n)).set 15 (.bool true)).toArray 36)).alloc (.cells #[.int .u8 0, .string { data:= #[] }, .int .i64 0, .int .u8 0, .int .u32 0, .int .u32 0, .int .u8 0, .int .i64 0, .string { data:= #[] }, .slice none 0 0, .slice none 0 0, .slice none 0 0, .int .u32 0, .int .u32 0, .int .u16 0, .bool false, .int .u8 0, .int .i64 0, .string { data:= #[] }, .slice none 0 0, .slice none 0 0, .slice none 0 0] 36)) ((w.alloc (.cells ((mcells (mk0 k doc n)).set 15 (.bool true)).toArray 36)).alloc (.cells #[.int .u8 0, .string { data:= #[] }, .int .i64 0, .int .u8 0, .int .u32 0, .int .u32 0, .int .u8 0, .int .i64 0, .string { data:= #[] }, .slice none 0 0, .slice none 0 0, .slice none 0 0, .int .u32 0, .int .u32 0, .int .u16 0, .bool false, .int .u8 0, .int .i64 0, .string { data:= #[] }, .slice none 0 0, .slice none 0 0, .slice none 0 0] 36)).heap.size (some ⟨ab,ao,none⟩) 0 0 r):=hd.none_left (by omega)
    clear hd hI1 bxs
    subst e1
    go_enter Tryz.func15,Tryz.ntmps15
    generalize hQ0:bodyPost _ _ _=Q0
    have HQ:=Lib.hid hQ0
    clear hQ0
    go_wp2_with fail
    refine (HCALL.out _ _ _ _ HT1.out HDD.out).mono ?_
    rintro e w1 ⟨⟨cv,rfl,hI1⟩,hb1⟩
    have bx1:=HBX.out.step hb1
    have HI1:=Lib.hid hI1
    have HZ1:Hid (w.heap.size+2≤w1.heap.size):=by show _≤_;rw [←HS1.out];exact hb1.size
    clear hb1 hI1
    go_wp2_with (first
      |(refine wp_storeV rfl _ _ rfl ?_;refine ⟨w.heap.size,({ mk0 k doc n with there:=true } :MC),cv,rfl,rfl,bx1.a, ?_⟩;intro bxe;have bb:=bc_far (b:=w.heap.size+1) (b':=w.heap.size) (cs:=mcells mzero) (by omega) [.int .u8 cv.k, .int .i64 cv.n, .string cv.s, .slice cv.la cv.ll cv.lc, .slice cv.oa cv.ol cv.oc] 16 w1 bx1.b;have HB2:=Lib.hid (below_setCells (B:=w.heap.size) (b:=w.heap.size) (Nat.le_refl _) [.int .u8 cv.k, .int .i64 cv.n, .string cv.s, .slice cv.la cv.ll cv.lc, .slice cv.oa cv.ol cv.oc] 16 w w1 bx1.below);have HF2:Hid (∀k,w.heap.size<k→(World.setCells w1 w.heap.size 16 [.int .u8 cv.k, .int .i64 cv.n, .string cv.s, .slice cv.la cv.ll cv.lc, .slice cv.oa cv.ol cv.oc]).heap[k]? =w1.heap[k]?):=(fun k hk=>heap_setCells_far (by omega) _ _ _);have HZ2:Hid ((World.setCells w1 w.heap.size 16 [.int .u8 cv.k, .int .i64 cv.n, .string cv.s, .slice cv.la cv.ll cv.lc, .slice cv.oa cv.ol cv.oc]).heap.size=w1.heap.size):=size_setCells _ _ _ _;generalize World.setCells w1 w.heap.size 16 [.int .u8 cv.k, .int .i64 cv.n, .string cv.s, .slice cv.la cv.ll cv.lc, .slice cv.oa cv.ol cv.oc] =W2 at bxe bb HB2 HF2 HZ2 ⊢;clear bx1)
      |(refine wp_loadM rfl _ rfl ?_;refine ⟨w.heap.size,mcells ({ mk0 k doc n with there:=true,v:=cv } :MC),rfl,rfl,bxe, ?_⟩)|(refine wp_storeM rfl _ _ rfl ?_;refine ⟨w.heap.size+1,mcells mzero,mcells ({ mk0 k doc n with there:=true,v:=cv } :MC),rfl,rfl,bb,rfl,rfl,rfl, ?_⟩;intro W4 bm keepf st;have HBM:=Lib.hid bm;have HST:=Lib.hid st;clear bm keepf st))
    rw [←HQ.out]
    have hz1:=HZ1.out
    have hz2:=HZ2.out
    have hb4:Below w.heap.size w W4:=HB2.out.trans (HST.out.low (by omega) (by omega))
    have hk4:∀j:Nat,((w.alloc (.cells ((mcells (mk0 k doc n)).set 15 (.bool true)).toArray 36)).alloc (.cells #[.int .u8 0, .string { data:= #[] }, .int .i64 0, .int .u8 0, .int .u32 0, .int .u32 0, .int .u8 0, .int .i64 0, .string { data:= #[] }, .slice none 0 0, .slice none 0 0, .slice none 0 0, .int .u32 0, .int .u32 0, .int .u16 0, .bool false, .int .u8 0, .int .i64 0, .string { data:= #[] }, .slice none 0 0, .slice none 0 0, .slice none 0 0] 36)).heap.size≤j→j<w1.heap.size→W4.heap[j]? =w1.heap[j]? :=fun j g1 g2=>by
      rw [HS1.out] at g1
      exact (HST.out.block j (by omega) (by omega)).trans (HF2.out j (by omega))
    exact ⟨rfl,_,results_ends rfl rfl HBM.out,⟨⟨({ mk0 k doc n with there:=true,v:=cv } :MC),ret_pair HOK.out,fun _=>by rw [HRD.out];exact isMsg_of HKB.out (isEntry_none _ _) (HI1.out.boxed (by simp;omega) hk4 (by have:=HST.out.size;omega)) (IsStrs.nil _ _) (by decide) (by decide) (by decide) (by decide) (by decide) (by decide)⟩,hb4⟩⟩
  case neg=>
    have HDD:Hid (IsB ((w.alloc (.cells ((mcells (mk0 k doc n)).set 15 (.bool true)).toArray 36)).alloc (.cells #[.int .u8 0, .string { data:= #[] }, .int .i64 0, .int .u8 0, .int .u32 0, .int .u32 0, .int .u8 0, .int .i64 0, .string { data:= #[] }, .slice none 0 0, .slice none 0 0, .slice none 0 0, .int .u32 0, .int .u32 0, .int .u16 0, .bool false, .int .u8 0, .int .i64 0, .string { data:= #[] }, .slice none 0 0, .slice none 0 0, .slice none 0 0] 36)) ((w.alloc (.cells ((mcells (mk0 k doc n)).set 15 (.bool true)).toArray 36)).alloc (.cells #[.int .u8 0, .string { data:= #[] }, .int .i64 0, .int .u8 0, .int .u32 0, .int .u32 0, .int .u8 0, .int .i64 0, .string { data:= #[] }, .slice none 0 0, .slice none 0 0, .slice none 0 0, .int .u32 0, .int .u32 0, .int .u16 0, .bool false, .int .u8 0, .int .i64 0, .string { data:= #[] }, .slice none 0 0, .slice none 0 0, .slice none 0 0] 36)).heap.size (some ⟨ab,ao+1,none⟩) (m - 1) (cp - 1) r):=hd
    clear hd hI1 bxs
    go_enter Tryz.func15,Tryz.ntmps15
    generalize hQ0:bodyPost _ _ _=Q0
    have HQ:=Lib.hid hQ0
    clear hQ0
    go_wp2_with fail
    refine (HCALL.out _ _ _ _ HT1.out HDD.out).mono ?_
    rintro e w1 ⟨⟨cv,rfl,hI1⟩,hb1⟩
    have bx1:=HBX.out.step hb1
    have HI1:=Lib.hid hI1
    have HZ1:Hid (w.heap.size+2≤w1.heap.size):=by show _≤_;rw [←HS1.out];exact hb1.size
    clear hb1 hI1
    go_wp2_with (first
      |(refine wp_storeV rfl _ _ rfl ?_;refine ⟨w.heap.size,({ mk0 k doc n with there:=true } :MC),cv,rfl,rfl,bx1.a, ?_⟩;intro bxe;have bb:=bc_far (b:=w.heap.size+1) (b':=w.heap.size) (cs:=mcells mzero) (by omega) [.int .u8 cv.k, .int .i64 cv.n, .string cv.s, .slice cv.la cv.ll cv.lc, .slice cv.oa cv.ol cv.oc] 16 w1 bx1.b;have HB2:=Lib.hid (below_setCells (B:=w.heap.size) (b:=w.heap.size) (Nat.le_refl _) [.int .u8 cv.k, .int .i64 cv.n, .string cv.s, .slice cv.la cv.ll cv.lc, .slice cv.oa cv.ol cv.oc] 16 w w1 bx1.below);have HF2:Hid (∀k,w.heap.size<k→(World.setCells w1 w.heap.size 16 [.int .u8 cv.k, .int .i64 cv.n, .string cv.s, .slice cv.la cv.ll cv.lc, .slice cv.oa cv.ol cv.oc]).heap[k]? =w1.heap[k]?):=(fun k hk=>heap_setCells_far (by omega) _ _ _);have HZ2:Hid ((World.setCells w1 w.heap.size 16 [.int .u8 cv.k, .int .i64 cv.n, .string cv.s, .slice cv.la cv.ll cv.lc, .slice cv.oa cv.ol cv.oc]).heap.size=w1.heap.size):=size_setCells _ _ _ _;generalize World.setCells w1 w.heap.size 16 [.int .u8 cv.k, .int .i64 cv.n, .string cv.s, .slice cv.la cv.ll cv.lc, .slice cv.oa cv.ol cv.oc] =W2 at bxe bb HB2 HF2 HZ2 ⊢;clear bx1)
      |(refine wp_loadM rfl _ rfl ?_;refine ⟨w.heap.size,mcells ({ mk0 k doc n with there:=true,v:=cv } :MC),rfl,rfl,bxe, ?_⟩)|(refine wp_storeM rfl _ _ rfl ?_;refine ⟨w.heap.size+1,mcells mzero,mcells ({ mk0 k doc n with there:=true,v:=cv } :MC),rfl,rfl,bb,rfl,rfl,rfl, ?_⟩;intro W4 bm keepf st;have HBM:=Lib.hid bm;have HST:=Lib.hid st;clear bm keepf st))
    rw [←HQ.out]
    have hz1:=HZ1.out
    have hz2:=HZ2.out
    have hb4:Below w.heap.size w W4:=HB2.out.trans (HST.out.low (by omega) (by omega))
    have hk4:∀j:Nat,((w.alloc (.cells ((mcells (mk0 k doc n)).set 15 (.bool true)).toArray 36)).alloc (.cells #[.int .u8 0, .string { data:= #[] }, .int .i64 0, .int .u8 0, .int .u32 0, .int .u32 0, .int .u8 0, .int .i64 0, .string { data:= #[] }, .slice none 0 0, .slice none 0 0, .slice none 0 0, .int .u32 0, .int .u32 0, .int .u16 0, .bool false, .int .u8 0, .int .i64 0, .string { data:= #[] }, .slice none 0 0, .slice none 0 0, .slice none 0 0] 36)).heap.size≤j→j<w1.heap.size→W4.heap[j]? =w1.heap[j]? :=fun j g1 g2=>by
      rw [HS1.out] at g1
      exact (HST.out.block j (by omega) (by omega)).trans (HF2.out j (by omega))
    exact ⟨rfl,_,results_ends rfl rfl HBM.out,⟨⟨({ mk0 k doc n with there:=true,v:=cv } :MC),ret_pair HOK.out,fun _=>by rw [HRD.out];exact isMsg_of HKB.out (isEntry_none _ _) (HI1.out.boxed (by simp;omega) hk4 (by have:=HST.out.size;omega)) (IsStrs.nil _ _) (by decide) (by decide) (by decide) (by decide) (by decide) (by decide)⟩,hb4⟩⟩
theorem ends_any (w:World) (hT:Tabs w) (k:Int) (doc:ByteArray) (n:Int) (hkb:KB k doc n) (a:Option Addr) (m cp:Nat) (bs:List UInt8) (h:IsB w w.heap.size a m cp bs) (hl:bs.length≤60000):
    Calls Tryz.prog 15 #[.agg (mcells (mk0 k doc n)).toArray, .slice a m cp] w (EndsPost w k doc n bs):=by
  by_cases e1:k=1
  · exact ends_1 w hT k doc n hkb a m cp bs h hl e1
  by_cases e3:k=3
  · exact ends_3 w hT k doc n hkb a m cp bs h hl e3
  by_cases e5:k=5
  · exact ends_5 w hT k doc n hkb a m cp bs h hl e5
  by_cases e6:k=6
  · exact ends_6 w hT k doc n hkb a m cp bs h e6
  by_cases e4:k=4
  · cases hbs:bs with
    |nil=>rw [←hbs];exact ends_4n w hT k doc n hkb a m cp bs h e4 hbs
    | cons b r=>
      rw [←hbs]
      by_cases hb:b=1
      · subst hb;exact ends_4v w hT k doc n hkb a m cp bs h hl e4 r hbs
      · exact ends_4x w hT k doc n hkb a m cp bs h e4 b r hbs hb
  exact ends_2 w hT k doc n hkb a m cp bs h e1 e3 e4 e5 e6
end Go.Proofs.YthceefjafklcmaaGreatDoor
