/-
  Contracts of the functions that the law reaches: The reader of msg: cut, number, text, all. Decode. Back. (*msg.reader).tail by kinds.
-/
import Derived.Test.YthceefjafklcmaaGreatDoorMd40
import Derived.Test.YthceefjafklcmaaGreatDoorMd12
import Derived.Test.YthceefjafklcmaaGreatDoorMd21
import Derived.Test.YthceefjafklcmaaGreatDoorMd36
import Derived.Test.YthceefjafklcmaaGreatDoorMd7
import Derived.Test.YthceefjafklcmaaGreatDoorMd22
namespace Go.Proofs.YthceefjafklcmaaGreatDoor
open Go.RowKit
structure RdM (w:World) (rb:Nat) (bs:List UInt8) (sh:Bool):Prop where
  at_:∃a n c,w.cell? ⟨rb,0,none⟩=some (.slice a n c)∧IsB w rb a n c bs
  short:w.cell? ⟨rb,1,none⟩=some (.bool sh)
  f0:w.frozen? ⟨rb,0,none⟩=false
  f1:w.frozen? ⟨rb,1,none⟩=false
theorem RdM.lt {w:World} {rb:Nat} {bs:List UInt8} {sh:Bool} (h:RdM w rb bs sh):rb<w.heap.size:=World.block_lt_of_cell? w _ h.short
theorem RdM.of_below {w w':World} {rb:Nat} {bs:List UInt8} {sh:Bool} (h:RdM w rb bs sh) (hb:Below w.heap.size w w'):RdM w' rb bs sh:=by
  have hlt:=h.lt
  obtain ⟨⟨a,n,c,h0,hI⟩,h1,h2,h3⟩:=h
  exact ⟨⟨a,n,c,keep_cell hb h0 hlt,hI.keep (hb.mono (by omega))⟩,keep_cell hb h1 hlt,(hb.frozen (p:=⟨rb,0,none⟩) hlt).trans h2,(hb.frozen (p:=⟨rb,1,none⟩) hlt).trans h3⟩
theorem RdM.set {w:World} {rb:Nat} {bs bs':List UInt8} {sh:Bool} (h:RdM w rb bs sh) {a:Option Addr} {n c:Nat} (hI:IsB w rb a n c bs'):RdM (w.setCell ⟨rb,0,none⟩ (.slice a n c)) rb bs' sh∧RStep w (w.setCell ⟨rb,0,none⟩ (.slice a n c)) rb:=by
  obtain ⟨⟨a0,n0,c0,h0,_⟩,h1,h2,h3⟩:=h
  have hb:RStep w (w.setCell ⟨rb,0,none⟩ (.slice a n c)) rb:=⟨rfl,rfl,rfl,by simp,fun k hk hr=>heap_setCell_other _ _ _ _ hr⟩
  refine ⟨⟨⟨a,n,c,World.cell?_setCell_same _ _ _ h0,hI.keep (hb.below (Nat.le_of_lt (World.block_lt_of_cell? w _ h1)))⟩, ?_,by simpa using h2,by simpa using h3⟩,hb⟩
  rw [World.cell?_setCell_other]
  · exact h1
  · simp
theorem RdM.setShort {w:World} {rb:Nat} {bs:List UInt8} {sh sh':Bool} (h:RdM w rb bs sh):RdM (w.setCell ⟨rb,1,none⟩ (.bool sh')) rb bs sh'∧RStep w (w.setCell ⟨rb,1,none⟩ (.bool sh')) rb:=by
  obtain ⟨⟨a0,n0,c0,h0,hI⟩,h1,h2,h3⟩:=h
  have hb:RStep w (w.setCell ⟨rb,1,none⟩ (.bool sh')) rb:=⟨rfl,rfl,rfl,by simp,fun k hk hr=>heap_setCell_other _ _ _ _ hr⟩
  refine ⟨⟨⟨a0,n0,c0, ?_,hI.keep (hb.below (Nat.le_of_lt (World.block_lt_of_cell? w _ h1)))⟩,World.cell?_setCell_same _ _ _ h1,by simpa using h2,by simpa using h3⟩,hb⟩
  rw [World.cell?_setCell_other]
  · exact h0
  · simp
def cutP (k:Nat) (s:List UInt8×Bool):List UInt8×(List UInt8×Bool):=if s.1.length<k then ([],([],true)) else (s.1.take k,(s.1.drop k,s.2))
set_option maxHeartbeats 2000000 in
set_option maxRecDepth 100000 in
theorem cutM_any (w:World) (rb:Nat) (s:List UInt8×Bool) (h:RdM w rb s.1 s.2) (k:Nat):
    Calls Tryz.prog 22 #[.pointer (some ⟨rb,0,none⟩), .int .i64 k] w fun e w'=>(∃a n c,e= .returned (.slice a n c)∧IsB w' rb a n c (cutP k s).1)∧RdM w' rb (cutP k s).2.1 (cutP k s).2.2∧RStep w w' rb:=by
  obtain ⟨bs,sh⟩:=s
  dsimp only at h
  have H:=Lib.hid h
  obtain ⟨⟨a,n,c,h0,hI⟩,h1,h2,h3⟩:=h
  have HI:=Lib.hid hI
  have HN:=Lib.hid hI.len
  have hc:=hI.cap
  have hm:=hI.max
  have hlt:rb<w.heap.size:=World.block_lt_of_cell? w _ h1
  clear hI
  by_cases hk:n<k
  · have hq:cutP k (bs,sh)=([],([],true)):=by rw [cutP,if_pos (by have:=HN.out;simp only [];omega)]
    rw [hq]
    go_enter Tryz.func22,Tryz.ntmps22
    go_wp2_with fail
    go_returns
    have hD:=H.out.setShort (sh':=true)
    have hE:=hD.1.set (a:=none) (n:=0) (c:=0) (IsB.nil _ _)
    exact ⟨⟨none,0,0,rfl, .nil _ _⟩,hE.1,hD.2.trans hE.2⟩
  · have hkn:k≤n:=by omega
    have hq:cutP k (bs,sh)=(bs.take k,(bs.drop k,sh)):=by rw [cutP,if_neg (by have:=HN.out;simp only [];omega)]
    rw [hq]
    clear hk
    by_cases e:c=k
    · subst e
      have hz:n - c=0:=by omega
      go_enter Tryz.func22,Tryz.ntmps22
      go_wp2_with fail
      go_returns
      have hD:=H.out.set ((HI.out.drop c hkn).none_left (a':=a) hz)
      exact ⟨⟨a,c,c,rfl,(HI.out.take c hkn).keep (hD.2.below (Nat.le_of_lt hlt))⟩,hD⟩
    · have hck:k<c:=by omega
      go_enter Tryz.func22,Tryz.ntmps22
      go_wp2_with fail
      go_returns
      have hD:=H.out.set (HI.out.drop k hkn)
      exact ⟨⟨a,k,c,rfl,(HI.out.take k hkn).keep (hD.2.below (Nat.le_of_lt hlt))⟩,hD⟩
theorem or_byte64 (m y:Nat) (hm:m<36028797018963968) (hy:y<256):bits BinOp.or IntKind.i64 ((m:Int)*256) (y:Int)=((m*256+y:Nat):Int):=by
  have e:(m:Int)*256=((m*256:Nat):Int):=by omega
  have h:m*256+y=m*256|||y:=by
    have:=Nat.shiftLeft_add_eq_or_of_lt (show y<2 ^ 8 by omega) m
    simpa [Nat.shiftLeft_eq] using this
  have hx:m*256|||y<2 ^ 63:=Nat.or_lt_two_pow (by omega) (by omega)
  have h2:bits BinOp.or IntKind.i64 ((m*256:Nat):Int) (y:Int)=((m*256|||y:Nat):Int):=by
    show IntKind.i64.wrap ((BitVec.ofInt 64 ((m*256:Nat):Int)|||BitVec.ofInt 64 (y:Int)).toNat:Int)=_
    rw [BitVec.toNat_or,ofInt_u64 _ (by omega),ofInt_u64 y (by omega),IntKind.wrap_i64]
    omega
  have h3:bits BinOp.or IntKind.i64 ((m:Int)*256) (y:Int)=bits BinOp.or IntKind.i64 ((m*256:Nat):Int) (y:Int):=congrArg (fun z=>bits BinOp.or IntKind.i64 z (y:Int)) e
  exact h3.trans (h2.trans (congrArg (fun z:Nat=>(z:Int)) h.symm))
set_option maxHeartbeats 4000000 in
set_option maxRecDepth 100000 in
theorem numM_any (w:World) (rb:Nat) (s:List UInt8×Bool) (h:RdM w rb s.1 s.2) (k:Nat) (hk4:k≤4):
    Calls Tryz.prog 9 #[.pointer (some ⟨rb,0,none⟩), .int .i64 k] w fun e w'=>e= .returned (.int .i64 (num (cutP k s).1:Int))∧RdM w' rb (cutP k s).2.1 (cutP k s).2.2∧RStep w w' rb:=by
  have HC:=Lib.hid (cutM_any w rb s h k)
  have hl:(cutP k s).1.length≤4:=by
    unfold cutP
    split
    · exact Nat.zero_le _
    · rw [List.length_take];omega
  obtain ⟨ts,hts⟩:∃ts,(cutP k s).1=ts:=⟨_,rfl⟩
  obtain ⟨s',hs'⟩:∃s',(cutP k s).2=s':=⟨_,rfl⟩
  rw [hts] at HC hl ⊢
  rw [hs'] at HC ⊢
  clear h hts hs'
  go_enter Tryz.func9,Tryz.ntmps9
  go_wp2_with (go_at_call 22;(with_reducible refine (HC.out).mono ?_);rintro e w1 ⟨⟨a,n,c,rfl,hI⟩,hR,hS⟩;have hn:=hI.len;have hc1:=hI.cap;have hc2:=hI.max;have HI:=Lib.hid hI;have HN:=Lib.hid hn;clear hI hn)
  go_loopw [5,7,12] (fun x _ i wr=>wr=w1∧∃j:Nat,j≤n∧i= .int .i64 j∧x= .int .i64 (num (ts.take j):Int)) (fun _ _ i _=>n - (intOf i).toNat)
  case atStart=>exact ⟨rfl,0,Nat.zero_le _,rfl,rfl⟩
  case round=>
    obtain ⟨rfl,j,hj,rfl,rfl⟩:=hrel
    by_cases hlt:j<n
    · obtain ⟨b,o,hp,rfl,hb,hcell⟩:=HI.out.get hlt
      have hlt2:num (ts.take j)<36028797018963968:=by
        have h1:=num_lt (ts.take j)
        have h2:(ts.take j).length≤4:=by rw [List.length_take];have:=HN.out;omega
        exact Nat.lt_of_lt_of_le h1 (Nat.le_trans (Nat.pow_le_pow_right (by omega) h2) (by decide))
      obtain ⟨m,hm⟩:∃m,num (ts.take j)=m:=⟨_,rfl⟩
      obtain ⟨y,hy⟩:∃y,(ts[j]'hp).toNat=y:=⟨_,rfl⟩
      have hy2:y<256:=by rw [←hy];exact (ts[j]'hp).toNat_lt
      have ht:=num_take ts j hp
      rw [hm,hy] at ht
      rw [hm] at hlt2 ⊢
      rw [hy] at hcell
      have HT:=Lib.hid ht
      have HO:=Lib.hid (or_byte64 m y hlt2 hy2)
      clear ht hm hy
      go_wp2_with fail
      go_roundw
      case rel=>exact ⟨trivial,j+1,by omega,by go_num,by rw [HT.out,HO.out]⟩
      case measure=>simp [intOf];omega
    · go_wp2_with fail
      go_returns
      exact ⟨by rw [List.take_of_length_le (by have:=HN.out;omega)] <;>rfl,hR,hS⟩
def numP (k:Nat) (s:List UInt8×Bool):Nat×(List UInt8×Bool):=(num (cutP k s).1,(cutP k s).2)
def textP (k:Nat) (s:List UInt8×Bool):ByteArray×(List UInt8×Bool):=
  (⟨(cutP (numP k s).1 (numP k s).2).1.toArray⟩,(cutP (numP k s).1 (numP k s).2).2)
theorem num1_any (w:World) (rb:Nat) (s:List UInt8×Bool) (h:RdM w rb s.1 s.2):
    Calls Tryz.prog 9 #[.pointer (some ⟨rb,0,none⟩), .int .i64 1] w fun e w'=>e= .returned (.int .i64 ((numP 1 s).1:Int))∧RdM w' rb (numP 1 s).2.1 (numP 1 s).2.2∧RStep w w' rb:=numM_any w rb s h 1 (by omega)
theorem num2_any (w:World) (rb:Nat) (s:List UInt8×Bool) (h:RdM w rb s.1 s.2):
    Calls Tryz.prog 9 #[.pointer (some ⟨rb,0,none⟩), .int .i64 2] w fun e w'=>e= .returned (.int .i64 ((numP 2 s).1:Int))∧RdM w' rb (numP 2 s).2.1 (numP 2 s).2.2∧RStep w w' rb:=numM_any w rb s h 2 (by omega)
theorem num4_any (w:World) (rb:Nat) (s:List UInt8×Bool) (h:RdM w rb s.1 s.2):
    Calls Tryz.prog 9 #[.pointer (some ⟨rb,0,none⟩), .int .i64 4] w fun e w'=>e= .returned (.int .i64 ((numP 4 s).1:Int))∧RdM w' rb (numP 4 s).2.1 (numP 4 s).2.2∧RStep w w' rb:=numM_any w rb s h 4 (by omega)
set_option maxHeartbeats 1000000 in
set_option maxRecDepth 100000 in
theorem textM_any (w:World) (rb:Nat) (s:List UInt8×Bool) (h:RdM w rb s.1 s.2) (k:Nat) (hk4:k≤4):
    Calls Tryz.prog 10 #[.pointer (some ⟨rb,0,none⟩), .int .i64 k] w fun e w'=>e= .returned (.string (textP k s).1)∧RdM w' rb (textP k s).2.1 (textP k s).2.2∧RStep w w' rb:=by
  have HNM:=Lib.hid (numM_any w rb s h k hk4)
  obtain ⟨N,hN⟩:∃N,num (cutP k s).1=N:=⟨_,rfl⟩
  obtain ⟨s',hs'⟩:∃s',(cutP k s).2=s':=⟨_,rfl⟩
  have HR:Hid (textP k s=(⟨(cutP N s').1.toArray⟩,(cutP N s').2)):=by show _=_;rw [textP,numP,hN,hs']
  rw [hN,hs'] at HNM
  clear h hN hs'
  go_enter Tryz.func10,Tryz.ntmps10
  go_wp2_with (first|(go_at_call 9;(with_reducible refine (HNM.out).mono ?_);rintro e w1 ⟨rfl,hR,hS⟩)|(go_at_call 22;(with_reducible refine (cutM_any w1 rb s' hR N).mono ?_);rintro e w2 ⟨⟨a,n,c,rfl,hI⟩,hR2,hS2⟩;have hcv:=conv_isB hI))
  go_returns
  rw [HR.out]
  exact ⟨rfl,hR2,hS.trans hS2⟩
set_option maxHeartbeats 1000000 in
set_option maxRecDepth 100000 in
theorem allM_any (w:World) (rb:Nat) (s:List UInt8×Bool) (h:RdM w rb s.1 s.2):
    Calls Tryz.prog 24 #[.pointer (some ⟨rb,0,none⟩)] w fun e w'=>(∃a n c,e= .returned (.slice a n c)∧IsB w' rb a n c s.1)∧RdM w' rb [] s.2∧RStep w w' rb:=by
  have HC:=Lib.hid (cutM_any w rb s h s.1.length)
  have hq:cutP s.1.length s=(s.1,([],s.2)):=by rw [cutP,if_neg (by omega),List.take_length,List.drop_length]
  rw [hq] at HC
  obtain ⟨⟨a,n,c,h0,hI⟩,h1,h2,h3⟩:=h
  have hn:=hI.len
  rw [←hn] at HC
  clear hI hn hq
  go_enter Tryz.func24,Tryz.ntmps24
  go_wp2_with (go_at_call 22;(with_reducible refine (HC.out).mono ?_);rintro e w1 ⟨⟨a1,n1,c1,rfl,hI⟩,hR,hS⟩)
  go_returns
  exact ⟨⟨a1,n1,c1,rfl,hI⟩,hR,hS⟩
end Go.Proofs.YthceefjafklcmaaGreatDoor
namespace Go.Proofs.YthceefjafklcmaaGreatDoor
open Go.RowKit
noncomputable def backE (bs:List UInt8):En×Int:=if 60000<bs.length then (En.none,3) else
  match rdE bs with
  |none=>(En.none,100)
  |some (v,_)=>if outN (enSound v) (encE v)=0 then (if eqBs (outB (enSound v) (encE v)) bs=true then (v,0) else (En.none,100)) else (En.none,100)
theorem wholeE_any (w:World) (hT:Tabs w) (a:Option Addr) (n c:Nat) (bs:List UInt8) (h:IsB w w.heap.size a n c bs) (hmax:bs.length≤281474976710656) {out:En×Int} (hout:backE bs=out):
    Calls Tryz.prog 41 #[.slice a n c, .func (.func 42) #[] #[], .func (.func 39) #[] #[]] w (WEPost w out):=by
  subst hout
  by_cases hl:60000<bs.length
  · rw [backE,if_pos hl];exact wholeE_long w a n c bs h hl
  rw [backE,if_neg hl]
  cases hr:rdE bs with
  |none=>exact wholeE_none w a n c bs h (by omega) hr
  | some p=>
    obtain ⟨v,r⟩:=p
    obtain ⟨hlen,hwt,hws⟩:=rdE_len hr
    have hsz:(encE v).length≤70368744177664:=by omega
    have HLV:Hid (∀W5,Below w.heap.size w W5→∀cv:EC,IsEntry W5 W5.heap.size v cv→Hid (∀W,Below W5.heap.size W5 W→Calls Tryz.prog 36 #[.agg #[.int .u8 cv.k, .int .u32 cv.src, .int .u32 cv.seq, .int .u8 cv.v.k, .int .i64 cv.v.n, .string cv.v.s, .slice cv.v.la cv.v.ll cv.v.lc, .slice cv.v.oa cv.v.ol cv.v.oc, .slice cv.oa cv.ol cv.oc]] W fun e w'=>e= .returned (.bool (enSound v))∧Below W.heap.size W w')):=fun W5 hb cv hv W hW=>enSound_any v W ((hT.below hb).below hW) cv (hv.later_ hW) ⟨by omega,fun x hx=>by have:=hws x hx;omega⟩
    show Calls _ _ _ _ (WEPost w (if outN (enSound v) (encE v)=0 then (if eqBs (outB (enSound v) (encE v)) bs=true then (v,0) else (En.none,100)) else (En.none,100)))
    by_cases h0:outN (enSound v) (encE v)=0
    · rw [if_pos h0]
      cases he:eqBs (outB (enSound v) (encE v)) bs with
      |true=>rw [if_pos rfl];exact wholeE_eq w a n c bs h (by omega) hr hsz _ HLV h0 he
      |false=>rw [if_neg (by simp)];exact wholeE_neq w a n c bs h (by omega) hr hsz _ HLV h0 he
    · rw [if_neg h0];exact wholeE_bad w a n c bs h (by omega) hr hsz _ HLV h0
theorem backE_ok {bs:List UInt8} {v:En} (h:backE bs=(v,0)):enSound v=true∧encE v=bs∧bs.length≤60000∧∃r,rdE bs=some (v,r):=by
  rw [backE] at h
  by_cases hl:60000<bs.length
  · rw [if_pos hl] at h;injection h with h1 h2;omega
  rw [if_neg hl] at h
  cases hr:rdE bs with
  |none=>rw [hr] at h;injection h with h1 h2;omega
  | some p=>
    obtain ⟨x,r⟩:=p
    rw [hr] at h
    replace h:(if outN (enSound x) (encE x)=0 then (if eqBs (outB (enSound x) (encE x)) bs=true then (x,(0:Int)) else (En.none,100)) else (En.none,100))=(v,0):=h
    by_cases h0:outN (enSound x) (encE x)=0
    · rw [if_pos h0] at h
      by_cases he:eqBs (outB (enSound x) (encE x)) bs=true
      · rw [if_pos he] at h
        injection h with h1 h2
        subst h1
        have hs:enSound x=true:=by
          cases hs:enSound x with
          |true=>rfl
          |false=>rw [hs] at h0;simp [outN] at h0
        rw [hs] at h0 he
        have hlen:¬60000<(encE x).length:=by
          intro hq;rw [outN,if_pos rfl,if_pos hq] at h0;omega
        rw [outB,if_pos rfl,if_neg hlen] at he
        exact ⟨hs,by simpa [eqBs] using he,by omega,r,rfl⟩
      · rw [if_neg he] at h;injection h with h1 h2;omega
    · rw [if_neg h0] at h;injection h with h1 h2;omega
theorem results_backE {tmps:Array Value} {W:World} {b:Nat} {cv:EC} {x:Value} (ht:tmps[2]? =some (.pointer (some ⟨b,0,none⟩))) (ht':tmps[3]? =some x) (h:BC W b [.int .u8 cv.k, .int .u32 cv.src, .int .u32 cv.seq, .int .u8 cv.v.k, .int .i64 cv.v.n, .string cv.v.s, .slice cv.v.la cv.v.ll cv.v.lc, .slice cv.v.oa cv.v.ol cv.v.oc, .slice cv.oa cv.ol cv.oc]):
    (results Tryz.f23 tmps).run Tryz.prog W= .ok (.tuple #[.agg #[.int .u8 cv.k, .int .u32 cv.src, .int .u32 cv.seq, .int .u8 cv.v.k, .int .i64 cv.v.n, .string cv.v.s, .slice cv.v.la cv.v.ll cv.v.lc, .slice cv.v.oa cv.v.ol cv.v.oc, .slice cv.oa cv.ol cv.oc],x]) W:=by
  obtain ⟨r0,r1,r2,r3,r4,r5,r6,r7,r8⟩:=row9 h.at_
  simp [results,Tryz.results23,go_sem,ht,ht',r0,r1,r2,r3,r4,r5,r6,r7,r8]
set_option maxHeartbeats 4000000 in
set_option maxRecDepth 100000 in
theorem backE_new (w:World) (hT:Tabs w) (a:Option Addr) (n c:Nat) (bs:List UInt8) (h:IsB w w.heap.size a n c bs) (hmax:bs.length≤281474976710656) {v:En} {e:Int} (hout:backE bs=(v,e)):
    Calls Tryz.prog 23 #[.slice a n c] w fun ee w'=>(∃cv:EC,ee= .returned (.tuple #[.agg #[.int .u8 cv.k, .int .u32 cv.src, .int .u32 cv.seq, .int .u8 cv.v.k, .int .i64 cv.v.n, .string cv.v.s, .slice cv.v.la cv.v.ll cv.v.lc, .slice cv.v.oa cv.v.ol cv.v.oc, .slice cv.oa cv.ol cv.oc], .int .u16 e])∧IsEntry (only (fun b=>w.heap.size≤b) w') w'.heap.size v cv)∧Below w.heap.size w w':=by
  have HX:Hid (∀W,W=w.alloc (.cells ez.toArray 31)→Tabs W∧IsB W W.heap.size a n c bs∧BC W w.heap.size ez∧Below w.heap.size w W∧W.heap.size=w.heap.size+1):=by
    intro W hW
    subst hW
    have hb:Below w.heap.size w (w.alloc (.cells ez.toArray 31)):=(Below.refl _ _).alloc (Nat.le_refl _) _
    exact ⟨hT.below hb,(h.keep hb).more hb.size,BC.start w ez.toArray _,hb,by simp⟩
  have HO:=Lib.hid hout
  clear h hT hout
  go_enter Tryz.func23,Tryz.ntmps23
  go_wp2_with (go_at_call 41;refine (wholeE_any _ (HX.out _ rfl).1 a n c bs (HX.out _ rfl).2.1 hmax HO.out).mono ?_;rintro ee w2 ⟨⟨cv,rfl,hI⟩,hb⟩;have HH:=HX.out _ rfl;have O:=HH.2.2.1.keep hb (by omega);have o0:=O.at_ 0 _ rfl;have g0:=O.fr 0;have o1:=O.at_ 1 _ rfl;have g1:=O.fr 1;have o2:=O.at_ 2 _ rfl;have g2:=O.fr 2;have o3:=O.at_ 3 _ rfl;have g3:=O.fr 3;have o4:=O.at_ 4 _ rfl;have g4:=O.fr 4;have o5:=O.at_ 5 _ rfl;have g5:=O.fr 5;have o6:=O.at_ 6 _ rfl;have g6:=O.fr 6;have o7:=O.at_ 7 _ rfl;have g7:=O.fr 7;have o8:=O.at_ 8 _ rfl;have g8:=O.fr 8;have B2:=Lib.hid (HH.2.2.2.1.trans (hb.mono (by omega)));have HI:=Lib.hid hI;have SZ:=Lib.hid HH.2.2.2.2;have OO:=Lib.hid (show BC w2 w.heap.size [.int .u8 0, .int .u32 0, .int .u32 0, .int .u8 0, .int .i64 0, .string { data:= #[] }, .slice none 0 0, .slice none 0 0, .slice none 0 0] from O);clear hI hb HH O)
  have hs:RStep w2 ((((((((((w2.setCell ⟨w.heap.size,0,none⟩ (.int .u8 cv.k)).setCell ⟨w.heap.size,1,none⟩ (.int .u32 cv.src)).setCell ⟨w.heap.size,2,none⟩ (.int .u32 cv.seq)).setCell ⟨w.heap.size,3,none⟩ (.int .u8 cv.v.k)).setCell ⟨w.heap.size,4,none⟩ (.int .i64 cv.v.n)).setCell ⟨w.heap.size,5,none⟩ (.string cv.v.s)).setCell ⟨w.heap.size,6,none⟩ (.slice cv.v.la cv.v.ll cv.v.lc)).setCell ⟨w.heap.size,7,none⟩ (.slice cv.v.oa cv.v.ol cv.v.oc)).setCell ⟨w.heap.size,8,none⟩ (.slice cv.oa cv.ol cv.oc))) w.heap.size:=(((((((RStep.self.trans RStep.self).trans RStep.self).trans RStep.self).trans RStep.self).trans RStep.self).trans RStep.self).trans RStep.self).trans RStep.self
  have hbc:BC ((((((((((w2.setCell ⟨w.heap.size,0,none⟩ (.int .u8 cv.k)).setCell ⟨w.heap.size,1,none⟩ (.int .u32 cv.src)).setCell ⟨w.heap.size,2,none⟩ (.int .u32 cv.seq)).setCell ⟨w.heap.size,3,none⟩ (.int .u8 cv.v.k)).setCell ⟨w.heap.size,4,none⟩ (.int .i64 cv.v.n)).setCell ⟨w.heap.size,5,none⟩ (.string cv.v.s)).setCell ⟨w.heap.size,6,none⟩ (.slice cv.v.la cv.v.ll cv.v.lc)).setCell ⟨w.heap.size,7,none⟩ (.slice cv.v.oa cv.v.ol cv.v.oc)).setCell ⟨w.heap.size,8,none⟩ (.slice cv.oa cv.ol cv.oc))) w.heap.size [.int .u8 cv.k, .int .u32 cv.src, .int .u32 cv.seq, .int .u8 cv.v.k, .int .i64 cv.v.n, .string cv.v.s, .slice cv.v.la cv.v.ll cv.v.lc, .slice cv.v.oa cv.v.ol cv.v.oc, .slice cv.oa cv.ol cv.oc] :=(((((((((OO.out.set (i:=0) (x:= .int .u8 cv.k) (by simp)).set (i:=1) (x:= .int .u32 cv.src) (by simp)).set (i:=2) (x:= .int .u32 cv.seq) (by simp)).set (i:=3) (x:= .int .u8 cv.v.k) (by simp)).set (i:=4) (x:= .int .i64 cv.v.n) (by simp)).set (i:=5) (x:= .string cv.v.s) (by simp)).set (i:=6) (x:= .slice cv.v.la cv.v.ll cv.v.lc) (by simp)).set (i:=7) (x:= .slice cv.v.oa cv.v.ol cv.v.oc) (by simp)).set (i:=8) (x:= .slice cv.oa cv.ol cv.oc) (by simp))
  exact ⟨rfl,_,results_backE rfl rfl hbc,⟨cv,rfl,(isEntry_far HI.out hs (by have:=SZ.out;omega)).sub (shows_step fun k hk _=>⟨Nat.le_trans (Nat.le_succ _) (by have:=SZ.out;simpa [this] using hk),rfl⟩)⟩,B2.out.trans (hs.below (by have:=OO.out.lt;omega))⟩
end Go.Proofs.YthceefjafklcmaaGreatDoor
namespace Go.Proofs.YthceefjafklcmaaGreatDoor
open Go.RowKit
noncomputable def backR (bs:List UInt8):V×Int:=if 60000<bs.length then (V.none,3) else
  match rdV 18 bs with
  |none=>(V.none,100)
  |some (v,_)=>if outN (lightB v) (encV v)=0 then (if eqBs (outB (lightB v) (encV v)) bs=true then (v,0) else (V.none,100)) else (V.none,100)
theorem wholeV_any (w:World) (hT:Tabs w) (a:Option Addr) (n c:Nat) (bs:List UInt8) (h:IsB w w.heap.size a n c bs) (hmax:bs.length≤281474976710656) {out:V×Int} (hout:backR bs=out):
    Calls Tryz.prog 43 #[.slice a n c, .func (.func 44) #[] #[], .func (.func 40) #[] #[]] w (WVPost w out):=by
  subst hout
  by_cases hl:60000<bs.length
  · rw [backR,if_pos hl];exact wholeV_long w a n c bs h hl
  rw [backR,if_neg hl]
  cases hr:rdV 18 bs with
  |none=>exact wholeV_none w a n c bs h (by omega) hr
  | some p=>
    obtain ⟨v,r⟩:=p
    obtain ⟨hlen,hwt⟩:=rdV_len 18 bs v r hr
    have hsz:(encV v).length≤70368744177664:=by omega
    have HLV:Hid (∀W5,Below w.heap.size w W5→∀cv:VC,IsVal W5 W5.heap.size v cv→Hid (∀W,Below W5.heap.size W5 W→Calls Tryz.prog 56 #[.agg #[.int .u8 cv.k, .int .i64 cv.n, .string cv.s, .slice cv.la cv.ll cv.lc, .slice cv.oa cv.ol cv.oc]] W fun e w'=>e= .returned (.bool (lightB v))∧Below W.heap.size W w')):=fun W5 hb cv hv W hW=>light_any v W ((hT.below hb).below hW) cv (hv.later_ hW) (by omega)
    show Calls _ _ _ _ (WVPost w (if outN (lightB v) (encV v)=0 then (if eqBs (outB (lightB v) (encV v)) bs=true then (v,0) else (V.none,100)) else (V.none,100)))
    by_cases h0:outN (lightB v) (encV v)=0
    · rw [if_pos h0]
      cases he:eqBs (outB (lightB v) (encV v)) bs with
      |true=>rw [if_pos rfl];exact wholeV_eq w a n c bs h (by omega) hr hsz _ HLV h0 he
      |false=>rw [if_neg (by simp)];exact wholeV_neq w a n c bs h (by omega) hr hsz _ HLV h0 he
    · rw [if_neg h0];exact wholeV_bad w a n c bs h (by omega) hr hsz _ HLV h0
theorem backR_ok {bs:List UInt8} {v:V} (h:backR bs=(v,0)):lightB v=true∧encV v=bs∧bs.length≤60000∧∃r,rdV 18 bs=some (v,r):=by
  rw [backR] at h
  by_cases hl:60000<bs.length
  · rw [if_pos hl] at h;injection h with h1 h2;omega
  rw [if_neg hl] at h
  cases hr:rdV 18 bs with
  |none=>rw [hr] at h;injection h with h1 h2;omega
  | some p=>
    obtain ⟨x,r⟩:=p
    rw [hr] at h
    replace h:(if outN (lightB x) (encV x)=0 then (if eqBs (outB (lightB x) (encV x)) bs=true then (x,(0:Int)) else (V.none,100)) else (V.none,100))=(v,0):=h
    by_cases h0:outN (lightB x) (encV x)=0
    · rw [if_pos h0] at h
      by_cases he:eqBs (outB (lightB x) (encV x)) bs=true
      · rw [if_pos he] at h
        injection h with h1 h2
        subst h1
        have hs:lightB x=true:=by
          cases hs:lightB x with
          |true=>rfl
          |false=>rw [hs] at h0;simp [outN] at h0
        rw [hs] at h0 he
        have hlen:¬60000<(encV x).length:=by
          intro hq;rw [outN,if_pos rfl,if_pos hq] at h0;omega
        rw [outB,if_pos rfl,if_neg hlen] at he
        exact ⟨hs,by simpa [eqBs] using he,by omega,r,rfl⟩
      · rw [if_neg he] at h;injection h with h1 h2;omega
    · rw [if_neg h0] at h;injection h with h1 h2;omega
theorem results_backR {tmps:Array Value} {W:World} {b:Nat} {cv:VC} {x:Value} (ht:tmps[2]? =some (.pointer (some ⟨b,0,none⟩))) (ht':tmps[3]? =some x) (h:BC W b [.int .u8 cv.k, .int .i64 cv.n, .string cv.s, .slice cv.la cv.ll cv.lc, .slice cv.oa cv.ol cv.oc]):
    (results Tryz.f25 tmps).run Tryz.prog W= .ok (.tuple #[.agg #[.int .u8 cv.k, .int .i64 cv.n, .string cv.s, .slice cv.la cv.ll cv.lc, .slice cv.oa cv.ol cv.oc],x]) W:=by
  obtain ⟨r0,r1,r2,r3,r4⟩:=row5 h.at_
  simp [results,Tryz.results25,go_sem,ht,ht',r0,r1,r2,r3,r4]
set_option maxHeartbeats 4000000 in
set_option maxRecDepth 100000 in
theorem backR_new (w:World) (hT:Tabs w) (a:Option Addr) (n c:Nat) (bs:List UInt8) (h:IsB w w.heap.size a n c bs) (hmax:bs.length≤281474976710656) {v:V} {e:Int} (hout:backR bs=(v,e)):
    Calls Tryz.prog 25 #[.slice a n c] w fun ee w'=>(∃cv:VC,ee= .returned (.tuple #[.agg #[.int .u8 cv.k, .int .i64 cv.n, .string cv.s, .slice cv.la cv.ll cv.lc, .slice cv.oa cv.ol cv.oc], .int .u16 e])∧IsVal (only (fun b=>w.heap.size≤b) w') w'.heap.size v cv)∧Below w.heap.size w w':=by
  have HX:Hid (∀W,W=w.alloc (.cells vz.toArray 28)→Tabs W∧IsB W W.heap.size a n c bs∧BC W w.heap.size vz∧Below w.heap.size w W∧W.heap.size=w.heap.size+1):=by
    intro W hW
    subst hW
    have hb:Below w.heap.size w (w.alloc (.cells vz.toArray 28)):=(Below.refl _ _).alloc (Nat.le_refl _) _
    exact ⟨hT.below hb,(h.keep hb).more hb.size,BC.start w vz.toArray _,hb,by simp⟩
  have HO:=Lib.hid hout
  clear h hT hout
  go_enter Tryz.func25,Tryz.ntmps25
  go_wp2_with (go_at_call 43;refine (wholeV_any _ (HX.out _ rfl).1 a n c bs (HX.out _ rfl).2.1 hmax HO.out).mono ?_;rintro ee w2 ⟨⟨cv,rfl,hI⟩,hb⟩;have HH:=HX.out _ rfl;have O:=HH.2.2.1.keep hb (by omega);have o0:=O.at_ 0 _ rfl;have g0:=O.fr 0;have o1:=O.at_ 1 _ rfl;have g1:=O.fr 1;have o2:=O.at_ 2 _ rfl;have g2:=O.fr 2;have o3:=O.at_ 3 _ rfl;have g3:=O.fr 3;have o4:=O.at_ 4 _ rfl;have g4:=O.fr 4;have B2:=Lib.hid (HH.2.2.2.1.trans (hb.mono (by omega)));have HI:=Lib.hid hI;have SZ:=Lib.hid HH.2.2.2.2;have OO:=Lib.hid (show BC w2 w.heap.size [.int .u8 0, .int .i64 0, .string { data:= #[] }, .slice none 0 0, .slice none 0 0] from O);clear hI hb HH O)
  have hs:RStep w2 ((((((w2.setCell ⟨w.heap.size,0,none⟩ (.int .u8 cv.k)).setCell ⟨w.heap.size,1,none⟩ (.int .i64 cv.n)).setCell ⟨w.heap.size,2,none⟩ (.string cv.s)).setCell ⟨w.heap.size,3,none⟩ (.slice cv.la cv.ll cv.lc)).setCell ⟨w.heap.size,4,none⟩ (.slice cv.oa cv.ol cv.oc))) w.heap.size:=(((RStep.self.trans RStep.self).trans RStep.self).trans RStep.self).trans RStep.self
  have hbc:BC ((((((w2.setCell ⟨w.heap.size,0,none⟩ (.int .u8 cv.k)).setCell ⟨w.heap.size,1,none⟩ (.int .i64 cv.n)).setCell ⟨w.heap.size,2,none⟩ (.string cv.s)).setCell ⟨w.heap.size,3,none⟩ (.slice cv.la cv.ll cv.lc)).setCell ⟨w.heap.size,4,none⟩ (.slice cv.oa cv.ol cv.oc))) w.heap.size [.int .u8 cv.k, .int .i64 cv.n, .string cv.s, .slice cv.la cv.ll cv.lc, .slice cv.oa cv.ol cv.oc] :=(((((OO.out.set (i:=0) (x:= .int .u8 cv.k) (by simp)).set (i:=1) (x:= .int .i64 cv.n) (by simp)).set (i:=2) (x:= .string cv.s) (by simp)).set (i:=3) (x:= .slice cv.la cv.ll cv.lc) (by simp)).set (i:=4) (x:= .slice cv.oa cv.ol cv.oc) (by simp))
  exact ⟨rfl,_,results_backR rfl rfl hbc,⟨cv,rfl,(isVal_far HI.out hs (by have:=SZ.out;omega)).sub (shows_step fun k hk _=>⟨Nat.le_trans (Nat.le_succ _) (by have:=SZ.out;simpa [this] using hk),rfl⟩)⟩,B2.out.trans (hs.below (by have:=OO.out.lt;omega))⟩
end Go.Proofs.YthceefjafklcmaaGreatDoor
namespace Go.Proofs.YthceefjafklcmaaGreatDoor
open Go.RowKit
theorem bc_setMid {b:Nat} :∀(vs pre cs post:List Value) (W:World),cs.length=vs.length→BC W b (pre++cs++post)→BC (W.setCells b pre.length vs) b (pre++vs++post)
  | [],pre,cs,post,_,h,hb=>by
    have:cs= [] :=List.length_eq_zero_iff.1 h
    subst this;exact hb
  | v ::vs,pre,cs,post,_,h,hb=>by
    cases cs with
    |nil=>cases h
    | cons x cs=>
      have h1:=hb.set (i:=pre.length) (x:=v) (by simp)
      have e:(pre++(x::cs)++post).set pre.length v=(pre++ [v])++cs++post:=by simp
      rw [e] at h1
      have h2:=bc_setMid vs (pre++ [v]) cs post _ (by simpa using h) h1
      have e2:(pre++ [v]).length=pre.length+1:=by simp
      rw [e2] at h2
      simpa [World.setCells] using h2
theorem bc_setME {W:World} {b:Nat} {c:MC} (h:BC W b (mcells c)) (cv:EC):BC (W.setCells b 3 [.int .u8 cv.k, .int .u32 cv.src, .int .u32 cv.seq, .int .u8 cv.v.k, .int .i64 cv.v.n, .string cv.v.s, .slice cv.v.la cv.v.ll cv.v.lc, .slice cv.v.oa cv.v.ol cv.v.oc, .slice cv.oa cv.ol cv.oc]) b (mcells { c with e:=cv }):=
  bc_setMid [.int .u8 cv.k, .int .u32 cv.src, .int .u32 cv.seq, .int .u8 cv.v.k, .int .i64 cv.v.n, .string cv.v.s, .slice cv.v.la cv.v.ll cv.v.lc, .slice cv.v.oa cv.v.ol cv.v.oc, .slice cv.oa cv.ol cv.oc] [.int .u8 c.k, .string c.doc, .int .i64 c.n] [.int .u8 c.e.k, .int .u32 c.e.src, .int .u32 c.e.seq, .int .u8 c.e.v.k, .int .i64 c.e.v.n, .string c.e.v.s, .slice c.e.v.la c.e.v.ll c.e.v.lc, .slice c.e.v.oa c.e.v.ol c.e.v.oc, .slice c.e.oa c.e.ol c.e.oc] [.int .u32 c.src, .int .u32 c.seq, .int .u16 c.err, .bool c.there, .int .u8 c.v.k, .int .i64 c.v.n, .string c.v.s, .slice c.v.la c.v.ll c.v.lc, .slice c.v.oa c.v.ol c.v.oc, .slice c.fa c.fl c.fc] W rfl h
theorem bc_setMV {W:World} {b:Nat} {c:MC} (h:BC W b (mcells c)) (cv:VC):BC (W.setCells b 16 [.int .u8 cv.k, .int .i64 cv.n, .string cv.s, .slice cv.la cv.ll cv.lc, .slice cv.oa cv.ol cv.oc]) b (mcells { c with v:=cv }):=
  bc_setMid [.int .u8 cv.k, .int .i64 cv.n, .string cv.s, .slice cv.la cv.ll cv.lc, .slice cv.oa cv.ol cv.oc] [.int .u8 c.k, .string c.doc, .int .i64 c.n, .int .u8 c.e.k, .int .u32 c.e.src, .int .u32 c.e.seq, .int .u8 c.e.v.k, .int .i64 c.e.v.n, .string c.e.v.s, .slice c.e.v.la c.e.v.ll c.e.v.lc, .slice c.e.v.oa c.e.v.ol c.e.v.oc, .slice c.e.oa c.e.ol c.e.oc, .int .u32 c.src, .int .u32 c.seq, .int .u16 c.err, .bool c.there] [.int .u8 c.v.k, .int .i64 c.v.n, .string c.v.s, .slice c.v.la c.v.ll c.v.lc, .slice c.v.oa c.v.ol c.v.oc] [.slice c.fa c.fl c.fc] W rfl h
theorem thereAt {W:World} {b:Nat} {cs:List Value} (h:BC W b cs) (o n:Nat) (hn:o+n≤cs.length):W.there b o n:=fun j hj=>⟨by rw [h.at_ (o+j) (cs[o+j]'(by omega)) (List.getElem?_eq_getElem _)];rfl,h.fr (o+j)⟩
theorem einfo:(Tryz.prog.info? 31).map (·.size)=some 9:=by kernel_rfl
theorem vinfo:(Tryz.prog.info? 28).map (·.size)=some 5:=by kernel_rfl
theorem wp_storeE {ops:Array Oper} {rest:List Oper} {op:Oper} {a:Act} {Q:Exit→Act→World→Prop} {W:World} (hgd:op.guard=none) (x y:Operand) (ho:op.op= .store 31 x y)
    (h:∃(b:Nat) (c:MC) (cv:EC),a.eval x= .pointer (some ⟨b,3,none⟩)∧a.eval y= .agg #[.int .u8 cv.k, .int .u32 cv.src, .int .u32 cv.seq, .int .u8 cv.v.k, .int .i64 cv.v.n, .string cv.v.s, .slice cv.v.la cv.v.ll cv.v.lc, .slice cv.v.oa cv.v.ol cv.v.oc, .slice cv.oa cv.ol cv.oc] ∧BC W b (mcells c)∧(BC (W.setCells b 3 [.int .u8 cv.k, .int .u32 cv.src, .int .u32 cv.seq, .int .u8 cv.v.k, .int .i64 cv.v.n, .string cv.v.s, .slice cv.v.la cv.v.ll cv.v.lc, .slice cv.v.oa cv.v.ol cv.v.oc, .slice cv.oa cv.ol cv.oc]) b (mcells { c with e:=cv })→wpList Tryz.prog ops Q rest (a.put op.dst undef) (W.setCells b 3 [.int .u8 cv.k, .int .u32 cv.src, .int .u32 cv.seq, .int .u8 cv.v.k, .int .i64 cv.v.n, .string cv.v.s, .slice cv.v.la cv.v.ll cv.v.lc, .slice cv.v.oa cv.v.ol cv.v.oc, .slice cv.oa cv.ol cv.oc]))):wpList Tryz.prog ops Q (op::rest) a W:=by
  obtain ⟨b,c,cv,hx,hy,hb,h⟩:=h
  exact wpList_store_mid hgd _ x y ho b 3 #[.int .u8 cv.k, .int .u32 cv.src, .int .u32 cv.seq, .int .u8 cv.v.k, .int .i64 cv.v.n, .string cv.v.s, .slice cv.v.la cv.v.ll cv.v.lc, .slice cv.v.oa cv.v.ol cv.v.oc, .slice cv.oa cv.ol cv.oc] hx hy (thereAt hb 3 9 (by simp [mcells])) einfo (all_oneCell_toArray (List.all_eq_true.1 (rfl:([.int .u8 cv.k, .int .u32 cv.src, .int .u32 cv.seq, .int .u8 cv.v.k, .int .i64 cv.v.n, .string cv.v.s, .slice cv.v.la cv.v.ll cv.v.lc, .slice cv.v.oa cv.v.ol cv.v.oc, .slice cv.oa cv.ol cv.oc] :List Value).all (·.oneCell')=true))) (h (bc_setME hb cv))
theorem wp_storeV {ops:Array Oper} {rest:List Oper} {op:Oper} {a:Act} {Q:Exit→Act→World→Prop} {W:World} (hgd:op.guard=none) (x y:Operand) (ho:op.op= .store 28 x y)
    (h:∃(b:Nat) (c:MC) (cv:VC),a.eval x= .pointer (some ⟨b,16,none⟩)∧a.eval y= .agg #[.int .u8 cv.k, .int .i64 cv.n, .string cv.s, .slice cv.la cv.ll cv.lc, .slice cv.oa cv.ol cv.oc] ∧BC W b (mcells c)∧(BC (W.setCells b 16 [.int .u8 cv.k, .int .i64 cv.n, .string cv.s, .slice cv.la cv.ll cv.lc, .slice cv.oa cv.ol cv.oc]) b (mcells { c with v:=cv })→wpList Tryz.prog ops Q rest (a.put op.dst undef) (W.setCells b 16 [.int .u8 cv.k, .int .i64 cv.n, .string cv.s, .slice cv.la cv.ll cv.lc, .slice cv.oa cv.ol cv.oc]))):wpList Tryz.prog ops Q (op::rest) a W:=by
  obtain ⟨b,c,cv,hx,hy,hb,h⟩:=h
  exact wpList_store_mid hgd _ x y ho b 16 #[.int .u8 cv.k, .int .i64 cv.n, .string cv.s, .slice cv.la cv.ll cv.lc, .slice cv.oa cv.ol cv.oc] hx hy (thereAt hb 16 5 (by simp [mcells])) vinfo (all_oneCell_toArray (List.all_eq_true.1 (rfl:([.int .u8 cv.k, .int .i64 cv.n, .string cv.s, .slice cv.la cv.ll cv.lc, .slice cv.oa cv.ol cv.oc] :List Value).all (·.oneCell')=true))) (h (bc_setMV hb cv))
theorem RdM.far {w:World} {rb b:Nat} {bs:List UInt8} {sh:Bool} (h:RdM w rb bs sh) (hb:rb<b):∀(vs:List Value) (o:Nat),RdM (w.setCells b o vs) rb bs sh:=fun vs o=>by
  obtain ⟨⟨a,n,c,h0,hI⟩,h1,h2,h3⟩:=h
  have hB:Below b w (w.setCells b o vs):=below_setCells (Nat.le_refl _) vs o w w (Below.refl _ _)
  exact ⟨⟨a,n,c,keep_cell hB h0 hb,hI.keep (hB.mono (by omega))⟩,keep_cell hB h1 hb,by rw [World.frozen?_setCells];exact h2,by rw [World.frozen?_setCells];exact h3⟩
theorem heap_setCells_far {b k:Nat} (hk:k≠b):∀(vs:List Value) (o:Nat) (W:World),(W.setCells b o vs).heap[k]? =W.heap[k]?
  | [],_,_=>rfl
  |v::vs,o,W=>(heap_setCells_far hk vs (o+1) (W.setCell ⟨b,o,none⟩ v)).trans (heap_setCell_other _ _ _ _ hk)
theorem size_setCells (b:Nat):∀(vs:List Value) (o:Nat) (W:World),(W.setCells b o vs).heap.size=W.heap.size
  | [],_,_=>rfl
  |v::vs,o,W=>(size_setCells b vs (o+1) (W.setCell ⟨b,o,none⟩ v)).trans (by simp)
theorem IsEntry.farM {W:World} {mb p:Nat} {x:En} {c:EC} (h:IsEntry (only (fun b=>p≤b) W) W.heap.size x c) (hp:mb<p) (o:Nat) (vs:List Value):IsEntry (only (fun b=>mb<b) (W.setCells mb o vs)) (W.setCells mb o vs).heap.size x c:=by
  rw [size_setCells]
  exact h.sub (shows_step fun k hk _=>⟨by omega,heap_setCells_far (by omega) _ _ _⟩)
theorem IsVal.farM {W:World} {mb p:Nat} {x:V} {c:VC} (h:IsVal (only (fun b=>p≤b) W) W.heap.size x c) (hp:mb<p) (o:Nat) (vs:List Value):IsVal (only (fun b=>mb<b) (W.setCells mb o vs)) (W.setCells mb o vs).heap.size x c:=by
  rw [size_setCells]
  exact h.sub (shows_step fun k hk _=>⟨by omega,heap_setCells_far (by omega) _ _ _⟩)
theorem numP_lt (k:Nat) (s:List UInt8×Bool):(numP k s).1<256 ^ k:=by
  unfold numP
  have h1:=num_lt (cutP k s).1
  have h2:(cutP k s).1.length≤k:=by
    unfold cutP
    split
    · exact Nat.zero_le _
    · rw [List.length_take];omega
  exact Nat.lt_of_lt_of_le h1 (Nat.pow_le_pow_right (by omega) h2)
theorem numP_lt4 (s:List UInt8×Bool):(numP 4 s).1<4294967296:=numP_lt 4 s
theorem numP_lt2 (s:List UInt8×Bool):(numP 2 s).1<65536:=numP_lt 2 s
theorem numP_lt1 (s:List UInt8×Bool):(numP 1 s).1<256:=numP_lt 1 s
theorem RStep.low {w w':World} {rb B:Nat} (h:RStep w w' rb) (hB:B≤rb) (hw:B≤w.heap.size):Below B w w':=⟨h.os,h.tape,h.output,h.size,fun k hk=>h.block k (by omega) (by omega)⟩
set_option maxHeartbeats 4000000 in
set_option maxRecDepth 100000 in
theorem tailR_3 (w:World) (rb mb B:Nat) (hBr:B≤rb) (hrm:rb<mb) (hTB:∀W,Below B w W→Tabs W) (c:MC) (s:List UInt8×Bool) (hR:RdM w rb s.1 s.2) (hM:BC w mb (mcells c)) (ek:c.k=3) (hl:s.1.length≤60000) {x:En} {er:Int} (hb:backE s.1=(x,er)):
    Calls Tryz.prog 12 #[.pointer (some ⟨rb,0,none⟩), .pointer (some ⟨mb,0,none⟩)] w fun e w'=>e= .returned (.int .u16 er)∧(∃cv:EC,IsEntry (only (fun b=>mb<b) w') w'.heap.size x cv∧BC w' mb (mcells { c with e:=cv }))∧RdM w' rb [] s.2∧Below B w w':=by
  have y0:=hM.at_ 0 _ rfl
  rw [ek] at y0;clear ek
  have hlt:=hM.lt
  have HB:=Lib.hid hb
  have HTB:=Lib.hid hTB
  clear hb hTB
  go_enter Tryz.func12,Tryz.ntmps12
  go_wp2_with (first|(refine wp_storeE rfl _ _ rfl ?_;refine ⟨mb,c,cv,rfl,rfl,hM2, ?_⟩;intro hM3)|(go_at_call 24;(with_reducible refine (allM_any w rb s hR).mono ?_);rintro e w1 ⟨⟨a1,n1,c1,rfl,hI⟩,hR1,hS⟩;have hM1:=hM.next hS (by omega);have hB1:=hS.low hBr (by omega))|(go_at_call 23;(with_reducible refine (backE_new w1 (HTB.out _ hB1) a1 n1 c1 s.1 (hI.more (by have:=hR1.lt;omega)) (by omega) HB.out).mono ?_);rintro e w2 ⟨⟨cv,rfl,hE⟩,hb2⟩;have hM2:=hM1.keep hb2 hM1.lt;have hR2:=hR1.of_below hb2;have hB2:=hB1.on hb2 (by have:=hR1.lt;omega)))
  go_ret
  exact ⟨rfl,⟨cv,hE.farM hM1.lt _ _,hM3⟩,hR2.far hrm _ _,below_setCells (by omega) _ _ _ _ hB2⟩
set_option maxHeartbeats 4000000 in
set_option maxRecDepth 100000 in
theorem tailR_5 (w:World) (rb mb B:Nat) (hBr:B≤rb) (hrm:rb<mb) (hTB:∀W,Below B w W→Tabs W) (c:MC) (s:List UInt8×Bool) (hR:RdM w rb s.1 s.2) (hM:BC w mb (mcells c)) (ek:c.k=5) (hl:s.1.length≤60000) {x:En} {er:Int} (hb:backE s.1=(x,er)):
    Calls Tryz.prog 12 #[.pointer (some ⟨rb,0,none⟩), .pointer (some ⟨mb,0,none⟩)] w fun e w'=>e= .returned (.int .u16 er)∧(∃cv:EC,IsEntry (only (fun b=>mb<b) w') w'.heap.size x cv∧BC w' mb (mcells { c with e:=cv }))∧RdM w' rb [] s.2∧Below B w w':=by
  have y0:=hM.at_ 0 _ rfl
  rw [ek] at y0;clear ek
  have hlt:=hM.lt
  have HB:=Lib.hid hb
  have HTB:=Lib.hid hTB
  clear hb hTB
  go_enter Tryz.func12,Tryz.ntmps12
  go_wp2_with (first|(refine wp_storeE rfl _ _ rfl ?_;refine ⟨mb,c,cv,rfl,rfl,hM2, ?_⟩;intro hM3)|(go_at_call 24;(with_reducible refine (allM_any w rb s hR).mono ?_);rintro e w1 ⟨⟨a1,n1,c1,rfl,hI⟩,hR1,hS⟩;have hM1:=hM.next hS (by omega);have hB1:=hS.low hBr (by omega))|(go_at_call 23;(with_reducible refine (backE_new w1 (HTB.out _ hB1) a1 n1 c1 s.1 (hI.more (by have:=hR1.lt;omega)) (by omega) HB.out).mono ?_);rintro e w2 ⟨⟨cv,rfl,hE⟩,hb2⟩;have hM2:=hM1.keep hb2 hM1.lt;have hR2:=hR1.of_below hb2;have hB2:=hB1.on hb2 (by have:=hR1.lt;omega)))
  go_ret
  exact ⟨rfl,⟨cv,hE.farM hM1.lt _ _,hM3⟩,hR2.far hrm _ _,below_setCells (by omega) _ _ _ _ hB2⟩
set_option maxHeartbeats 4000000 in
set_option maxRecDepth 100000 in
theorem tailR_4n (w:World) (rb mb B:Nat) (hBr:B≤rb) (hrm:rb<mb) (c:MC) (s:List UInt8×Bool) (hR:RdM w rb s.1 s.2) (hM:BC w mb (mcells c)) (ek:c.k=4) (h1:(numP 1 s).1≠1):
    Calls Tryz.prog 12 #[.pointer (some ⟨rb,0,none⟩), .pointer (some ⟨mb,0,none⟩)] w fun e w'=>e= .returned (.int .u16 0)∧BC w' mb (mcells { c with there:=false })∧RdM w' rb (numP 1 s).2.1 (numP 1 s).2.2∧Below B w w':=by
  have y0:=hM.at_ 0 _ rfl
  rw [ek] at y0;clear ek
  have hlt:=hM.lt
  have HN:=Lib.hid (num1_any w rb s hR)
  generalize numP 1 s=ns at HN h1 ⊢
  obtain ⟨N,s1⟩:=ns
  dsimp only at HN h1 ⊢
  have f1:((N:Int)==1)=false:=by simp;omega
  have HMM:=Lib.hid hM
  clear hR h1
  go_enter Tryz.func12,Tryz.ntmps12
  go_wp2_with (go_at_call 9;(with_reducible refine HN.out.mono ?_);rintro e w1 ⟨rfl,hR1,hS⟩;have hM1:=BC.next HMM.out hS (by omega);have hB1:=hS.low hBr (by omega);have y15:=hM1.at_ 15 _ rfl;have g15:=hM1.fr 15;have y0:=hM1.at_ 0 _ rfl)
  go_ret
  exact ⟨rfl,hM1.set (i:=15) (x:= .bool false) (by simp [mcells]),hR1.far hrm [.bool false] 15,hB1.setCell (by simp;omega) _⟩
theorem tailR_4 (w:World) (rb mb B:Nat) (hBr:B≤rb) (hrm:rb<mb) (hTB:∀W,Below B w W→Tabs W) (c:MC) (s:List UInt8×Bool) (hR:RdM w rb s.1 s.2) (hM:BC w mb (mcells c)) (ek:c.k=4) (h1:(numP 1 s).1=1) (hl:(numP 1 s).2.1.length≤60000) {x:V} {er:Int} (hb:backR (numP 1 s).2.1=(x,er)):
    Calls Tryz.prog 12 #[.pointer (some ⟨rb,0,none⟩), .pointer (some ⟨mb,0,none⟩)] w fun e w'=>e= .returned (.int .u16 er)∧(∃cv:VC,IsVal (only (fun b=>mb<b) w') w'.heap.size x cv∧BC w' mb (mcells { c with there:=true,v:=cv }))∧RdM w' rb [] (numP 1 s).2.2∧Below B w w':=by
  have y0:=hM.at_ 0 _ rfl
  rw [ek] at y0;clear ek
  have hlt:=hM.lt
  have HN:=Lib.hid (num1_any w rb s hR)
  generalize numP 1 s=ns at HN h1 hl hb ⊢
  obtain ⟨N,s1⟩:=ns
  dsimp only at HN h1 hl hb ⊢
  subst h1
  have HMM:=Lib.hid hM
  have HB:=Lib.hid hb
  have HTB:=Lib.hid hTB
  clear hb hTB hR
  go_enter Tryz.func12,Tryz.ntmps12
  go_wp2_with (go_at_call 9;(with_reducible refine HN.out.mono ?_);rintro e w1 ⟨rfl,hR1,hS⟩;have hM1:=BC.next HMM.out hS (by omega);have hB1:=hS.low hBr (by omega);have y15:=hM1.at_ 15 _ rfl;have g15:=hM1.fr 15;have y0:=hM1.at_ 0 _ rfl)
  have hM2:=hM1.set (i:=15) (x:= .bool true) (by simp [mcells])
  replace hM2:BC (w1.setCell ⟨mb,15,none⟩ (.bool true)) mb (mcells { c with there:=true }):=hM2
  have hR2:RdM (w1.setCell ⟨mb,15,none⟩ (.bool true)) rb s1.1 s1.2:=hR1.far hrm [.bool true] 15
  have hB2:Below B w (w1.setCell ⟨mb,15,none⟩ (.bool true)):=hB1.setCell (by simp;omega) _
  clear y0 y15 g15 hM1 hR1 hB1 hS
  generalize w1.setCell ⟨mb,15,none⟩ (.bool true)=W1 at hM2 hR2 hB2 ⊢
  have hlt2:=hM2.lt
  go_wp2_with (first|(refine wp_storeV rfl _ _ rfl ?_;refine ⟨mb, { c with there:=true },cv,rfl,rfl,hM4, ?_⟩;intro hM5)|(go_at_call 24;(with_reducible refine (allM_any W1 rb s1 hR2).mono ?_);rintro e w3 ⟨⟨a1,n1,c1,rfl,hI⟩,hR3,hS3⟩;have hM3:=hM2.next hS3 (by omega);have hB3:=hB2.trans (hS3.low hBr (by omega)))|(go_at_call 25;(with_reducible refine (backR_new w3 (HTB.out _ hB3) a1 n1 c1 s1.1 (hI.more (by have:=hR3.lt;omega)) (by omega) HB.out).mono ?_);rintro e w4 ⟨⟨cv,rfl,hV⟩,hb4⟩;have hM4:=hM3.keep hb4 hM3.lt;have hR4:=hR3.of_below hb4;have hB4:=hB3.on hb4 (by have:=hR3.lt;omega)))
  go_ret
  exact ⟨rfl,⟨cv,hV.farM hM3.lt _ _,hM5⟩,hR4.far hrm _ _,below_setCells (by omega) _ _ _ _ hB4⟩
set_option maxHeartbeats 4000000 in
set_option maxRecDepth 100000 in
theorem tailR_6 (w:World) (rb mb B:Nat) (hBr:B≤rb) (hrm:rb<mb) (c:MC) (s:List UInt8×Bool) (hR:RdM w rb s.1 s.2) (hM:BC w mb (mcells c)) (ek:c.k=6):
    Calls Tryz.prog 12 #[.pointer (some ⟨rb,0,none⟩), .pointer (some ⟨mb,0,none⟩)] w fun e w'=>e= .returned (.int .u16 0)∧BC w' mb (mcells { c with src:=(numP 4 s).1,seq:=(numP 4 (numP 4 s).2).1,err:=(numP 2 (numP 4 (numP 4 s).2).2).1 })∧RdM w' rb (numP 2 (numP 4 (numP 4 s).2).2).2.1 (numP 2 (numP 4 (numP 4 s).2).2).2.2∧Below B w w':=by
  have y0:=hM.at_ 0 _ rfl
  rw [ek] at y0;clear ek
  have hlt:=hM.lt
  have h1:=num4_any w rb s hR
  have l1:=numP_lt4 s
  generalize numP 4 s=n1 at h1 l1 ⊢
  obtain ⟨N1,s1⟩:=n1
  dsimp only at h1 l1 ⊢
  have l2:=numP_lt4 s1
  generalize hn2:numP 4 s1=n2 at l2 ⊢
  obtain ⟨N2,s2⟩:=n2
  dsimp only at l2 ⊢
  have l3:=numP_lt2 s2
  generalize hn3:numP 2 s2=n3 at l3 ⊢
  obtain ⟨N3,s3⟩:=n3
  dsimp only at l3 ⊢
  have H1:=Lib.hid h1
  have HN2:=Lib.hid hn2
  have HN3:=Lib.hid hn3
  have HMM:=Lib.hid hM
  clear h1 hn2 hn3 hR
  go_enter Tryz.func12,Tryz.ntmps12
  go_wp2_with (first|(go_at_call 9;(with_reducible refine H1.out.mono ?_);rintro e w1 ⟨rfl,hR1,hS1⟩;have hM1:=BC.next HMM.out hS1 (by omega);have hB1:=hS1.low hBr (by omega);have H2:=num4_any w1 rb s1 hR1;rw [HN2.out] at H2;replace H2:=Lib.hid H2)|(go_at_call 9;(with_reducible refine H2.out.mono ?_);rintro e w2 ⟨rfl,hR2,hS2⟩;have hM2:=hM1.next hS2 (by omega);have hB2:=hB1.trans (hS2.low hBr (by have:=hM1.lt;omega));have y12:=hM2.at_ 12 _ rfl;have y13:=hM2.at_ 13 _ rfl;have g12:=hM2.fr 12;have g13:=hM2.fr 13))
  have hM3:BC ((w2.setCell ⟨mb,12,none⟩ (.int .u32 N1)).setCell ⟨mb,13,none⟩ (.int .u32 N2)) mb (mcells { c with src:=N1,seq:=N2 }):=(hM2.set (i:=12) (x:= .int .u32 N1) (by simp [mcells])).set (i:=13) (x:= .int .u32 N2) (by simp [mcells])
  have hR3:RdM ((w2.setCell ⟨mb,12,none⟩ (.int .u32 N1)).setCell ⟨mb,13,none⟩ (.int .u32 N2)) rb s2.1 s2.2:=(hR2.far hrm [.int .u32 N1] 12).far hrm [.int .u32 N2] 13
  have hB3:Below B w ((w2.setCell ⟨mb,12,none⟩ (.int .u32 N1)).setCell ⟨mb,13,none⟩ (.int .u32 N2)):=(hB2.setCell (by simp;omega) _).setCell (by simp;omega) _
  clear y12 y13 g12 g13 hM2 hR2 hB2 hM1 hB1 hR1 hS1 hS2 y0
  generalize (w2.setCell ⟨mb,12,none⟩ (.int .u32 N1)).setCell ⟨mb,13,none⟩ (.int .u32 N2)=W3 at hM3 hR3 hB3 ⊢
  have hlt3:=hM3.lt
  have H4:=num2_any W3 rb s2 hR3
  rw [HN3.out] at H4
  replace H4:=Lib.hid H4
  go_wp2_with (go_at_call 9;(with_reducible refine H4.out.mono ?_);rintro e w4 ⟨rfl,hR4,hS4⟩;have hM4:=hM3.next hS4 (by omega);have hB4:=hB3.trans (hS4.low hBr (by omega));have y14:=hM4.at_ 14 _ rfl;have g14:=hM4.fr 14)
  go_ret
  exact ⟨rfl,hM4.set (i:=14) (x:= .int .u16 N3) (by simp [mcells]),hR4.far hrm [.int .u16 N3] 14,hB4.setCell (by simp;omega) _⟩
end Go.Proofs.YthceefjafklcmaaGreatDoor
