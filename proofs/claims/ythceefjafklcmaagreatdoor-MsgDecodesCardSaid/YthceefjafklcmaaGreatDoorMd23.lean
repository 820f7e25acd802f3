/-
  Contracts of the functions that the law reaches: number, many, text of the reference's reader. The reference's Reader.value: what stands in memory while it runs. Reader.value, but for lists and objects.
-/
import Derived.Test.YthceefjafklcmaaGreatDoorMd22
import Derived.Test.YthceefjafklcmaaGreatDoorMd18
import Derived.Test.YthceefjafklcmaaGreatDoorMd15
import Derived.Test.YthceefjafklcmaaGreatDoorMd7
namespace Go.Proofs.YthceefjafklcmaaGreatDoor
open Go.RowKit
structure RR (w:World) (rb:Nat) (s:RS):Prop where
  at_:∃a n c,w.cell? ⟨rb,0,none⟩=some (.slice a n c)∧IsB w rb a n c s.1
  bad:w.cell? ⟨rb,1,none⟩=some (.bool s.2)
  f0:w.frozen? ⟨rb,0,none⟩=false
  f1:w.frozen? ⟨rb,1,none⟩=false
theorem RR.lt {w:World} {rb:Nat} {s:RS} (h:RR w rb s):rb<w.heap.size:=World.block_lt_of_cell? w _ h.bad
theorem RR.below {w w':World} {rb B:Nat} {s:RS} (h:RR w rb s) (hb:Below B w w') (hB:rb<B):RR w' rb s:=by
  obtain ⟨⟨a,n,c,h0,hI⟩,h1,h2,h3⟩:=h
  exact ⟨⟨a,n,c,keep_cell hb h0 hB,hI.keep (hb.mono (Nat.le_of_lt hB))⟩,keep_cell hb h1 hB,(hb.frozen hB).trans h2,(hb.frozen hB).trans h3⟩
theorem RR.of_below {w w':World} {rb:Nat} {s:RS} (h:RR w rb s) (hb:Below w.heap.size w w'):RR w' rb s:=h.below hb h.lt
theorem RR.setNew {W:World} {rb b o:Nat} {x:Value} {s:RS} (h:RR W rb s) (hb:rb<b):RR (W.setCell ⟨b,o,none⟩ x) rb s:=
  h.below (B:=b) ⟨rfl,rfl,rfl,by simp,fun k hk=>heap_setCell_other _ _ _ _ (show k≠b by omega)⟩ hb
theorem RR.set {w:World} {rb:Nat} {s:RS} {bs':List UInt8} (h:RR w rb s) {a:Option Addr} {n c:Nat} (hI:IsB w rb a n c bs'):RR (w.setCell ⟨rb,0,none⟩ (.slice a n c)) rb (bs',s.2)∧RStep w (w.setCell ⟨rb,0,none⟩ (.slice a n c)) rb:=by
  obtain ⟨⟨a0,n0,c0,h0,_⟩,h1,h2,h3⟩:=h
  have hb:RStep w (w.setCell ⟨rb,0,none⟩ (.slice a n c)) rb:=⟨rfl,rfl,rfl,by simp,fun k hk hr=>heap_setCell_other _ _ _ _ hr⟩
  refine ⟨⟨⟨a,n,c,World.cell?_setCell_same _ _ _ h0,hI.keep (hb.below (Nat.le_of_lt (World.block_lt_of_cell? w _ h1)))⟩, ?_,by simpa using h2,by simpa using h3⟩,hb⟩
  rw [World.cell?_setCell_other]
  · exact h1
  · simp
theorem RR.setBad {w:World} {rb:Nat} {s:RS} (h:RR w rb s):RR (w.setCell ⟨rb,1,none⟩ (.bool true)) rb (s.1,true)∧RStep w (w.setCell ⟨rb,1,none⟩ (.bool true)) rb:=by
  obtain ⟨⟨a0,n0,c0,h0,hI⟩,h1,h2,h3⟩:=h
  have hb:RStep w (w.setCell ⟨rb,1,none⟩ (.bool true)) rb:=⟨rfl,rfl,rfl,by simp,fun k hk hr=>heap_setCell_other _ _ _ _ hr⟩
  refine ⟨⟨⟨a0,n0,c0, ?_,hI.keep (hb.below (Nat.le_of_lt (World.block_lt_of_cell? w _ h1)))⟩,World.cell?_setCell_same _ _ _ h1,by simpa using h2,by simpa using h3⟩,hb⟩
  rw [World.cell?_setCell_other]
  · exact h0
  · simp
set_option maxHeartbeats 4000000 in
set_option maxRecDepth 100000 in
theorem numberR_any (w:World) (rb:Nat) (s:RS) (h:RR w rb s) (k:Nat) (hk8:k≤8):
    Calls Tryz.prog 45 #[.pointer (some ⟨rb,0,none⟩), .int .i64 k] w fun e w'=>e= .returned (.int .u64 ((fN k s).1:Int))∧RR w' rb (fN k s).2∧RStep w w' rb:=by
  have H:=Lib.hid h
  obtain ⟨⟨a,n,c,h0,hI⟩,h1,h2,h3⟩:=h
  obtain ⟨bs,bad⟩:=s
  have HI:=Lib.hid hI
  have hn:=hI.len
  have hc:=hI.cap
  have hm:=hI.max
  have hlt:rb<w.heap.size:=World.block_lt_of_cell? w _ h1
  clear hI
  replace hn:n=bs.length:=hn
  by_cases hq:bs.length<k
  · have e:fN k (bs,bad)=(0,(bs,true)):=by rw [fN,if_pos hq]
    rw [e]
    have hnk:n<k:=by omega
    clear e hq hn
    go_enter Tryz.func45,Tryz.ntmps45
    go_wp2_with fail
    go_returns
    exact ⟨rfl,H.out.setBad⟩
  · have e:fN k (bs,bad)=(num (bs.take k),(bs.drop k,bad)):=by rw [fN,if_neg hq]
    rw [e]
    have hkn:k≤n:=by omega
    have HN:=Lib.hid hn
    clear e hq hn
    go_enter Tryz.func45,Tryz.ntmps45
    go_wp2_with fail
    go_loopw [5,6] (fun x i wr=>wr=w∧∃j:Nat,j≤k∧i= .int .i64 j∧x= .int .u64 (num (bs.take j):Int)) (fun _ i _=>k - (intOf i).toNat)
    case atStart=>exact ⟨rfl,0,Nat.zero_le _,rfl,rfl⟩
    case round=>
      obtain ⟨rfl,j,hj,rfl,rfl⟩:=hrel
      by_cases hjk:j<k
      · have hjn:j<n:=by omega
        obtain ⟨b,o,hp,rfl,hb,hcell⟩:=HI.out.get hjn
        have hlt2:num (bs.take j)<72057594037927936:=by
          have h1:=num_lt (bs.take j)
          have h2:(bs.take j).length≤7:=by rw [List.length_take];omega
          exact Nat.lt_of_lt_of_le h1 (Nat.le_trans (Nat.pow_le_pow_right (by omega) h2) (by decide))
        obtain ⟨m,hm⟩:∃m,num (bs.take j)=m:=⟨_,rfl⟩
        obtain ⟨y,hy⟩:∃y,(bs[j]'hp).toNat=y:=⟨_,rfl⟩
        have hy2:y<256:=by rw [←hy];exact (bs[j]'hp).toNat_lt
        have ht:=num_take bs j hp
        rw [hm,hy] at ht
        rw [hm] at hlt2 ⊢
        replace hcell:wr.cell? ⟨b,o+j,none⟩=some (.int .u8 (y:Int)):=by rw [←hy];exact hcell
        have HT:=Lib.hid ht
        have HO:=Lib.hid (or_byte m y hlt2 hy2)
        clear ht hm hy
        go_wp2_with fail
        go_roundw
        case rel=>exact ⟨trivial,j+1,by omega,by go_num,by rw [HT.out,HO.out]⟩
        case measure=>simp [intOf];omega
      · have hjk2:j=k:=by omega
        subst hjk2
        by_cases e:c=j
        · subst e
          have hz:n - c=0:=by omega
          go_wp2_with fail
          go_returns
          exact ⟨rfl,H.out.set ((HI.out.drop c hkn).none_left (a':=a) hz)⟩
        · have hck:j<c:=by omega
          go_wp2_with fail
          go_returns
          exact ⟨rfl,H.out.set (HI.out.drop j hkn)⟩
theorem numberR1 (w:World) (rb:Nat) (s:RS) (h:RR w rb s) {x:Nat} {s':RS} (hx:fN 1 s=(x,s')):
    Calls Tryz.prog 45 #[.pointer (some ⟨rb,0,none⟩), .int .i64 1] w fun e w'=>e= .returned (.int .u64 (x:Int))∧RR w' rb s'∧RStep w w' rb:=by
  have:=numberR_any w rb s h 1 (by omega)
  rw [hx] at this
  exact this
theorem numberR4 (w:World) (rb:Nat) (s:RS) (h:RR w rb s) {x:Nat} {s':RS} (hx:fN 4 s=(x,s')):
    Calls Tryz.prog 45 #[.pointer (some ⟨rb,0,none⟩), .int .i64 4] w fun e w'=>e= .returned (.int .u64 (x:Int))∧RR w' rb s'∧RStep w w' rb:=by
  have:=numberR_any w rb s h 4 (by omega)
  rw [hx] at this
  exact this
theorem numberR8 (w:World) (rb:Nat) (s:RS) (h:RR w rb s) {x:Nat} {s':RS} (hx:fN 8 s=(x,s')):
    Calls Tryz.prog 45 #[.pointer (some ⟨rb,0,none⟩), .int .i64 8] w fun e w'=>e= .returned (.int .u64 (x:Int))∧RR w' rb s'∧RStep w w' rb:=by
  have:=numberR_any w rb s h 8 (by omega)
  rw [hx] at this
  exact this
set_option maxHeartbeats 2000000 in
set_option maxRecDepth 100000 in
theorem manyR1 (w:World) (rb:Nat) (s:RS) (h:RR w rb s) {x:Nat} {s':RS} (hx:fM 1 s=(x,s')):
    Calls Tryz.prog 47 #[.pointer (some ⟨rb,0,none⟩), .int .i64 1] w fun e w'=>e= .returned (.int .i64 (x:Int))∧RR w' rb s'∧RStep w w' rb:=by
  obtain ⟨⟨y,s1⟩,hy⟩:∃p,fN 1 s=p:=⟨_,rfl⟩
  have HC:=Lib.hid (numberR1 w rb s h hy)
  have hb:y<4294967296:=by have:=fN_lt 1 s;rw [hy] at this;exact Nat.lt_of_lt_of_le this (by decide)
  have e:fM 1 s=if s1.1.length<y then (0,(s1.1,true)) else (y,s1):=by rw [fM,hy]
  rw [e] at hx
  clear e hy h
  have hw:wrap64 (y:Int)=y:=by unfold wrap64;omega
  by_cases hq:s1.1.length<y
  · rw [if_pos hq] at hx
    injection hx with hx1 hx2
    subst hx1 hx2
    have HQ:=Lib.hid hq
    clear hq
    go_enter Tryz.func47,Tryz.ntmps47
    go_wp2_with (go_at_call 45;(with_reducible refine (HC.out).mono ?_);rintro e w1 ⟨rfl,hR,hS⟩;obtain ⟨⟨a,n2,c,h0,hI⟩,h1,h2,h3⟩:=id hR;have hn2:=hI.len;have hm2:=hI.max;have hc2:=hI.cap;have hle2:n2<y:=(by have:=HQ.out;omega);have hu:IntKind.u64.wrap (n2:Int)=n2:=u64_id _ (by omega) (by omega);have HR:=Lib.hid hR;clear hI hn2 hR)
    go_returns
    exact ⟨rfl,HR.out.setBad.1,hS.trans HR.out.setBad.2⟩
  · rw [if_neg hq] at hx
    injection hx with hx1 hx2
    subst hx1 hx2
    have HQ:=Lib.hid hq
    clear hq
    go_enter Tryz.func47,Tryz.ntmps47
    go_wp2_with (go_at_call 45;(with_reducible refine (HC.out).mono ?_);rintro e w1 ⟨rfl,hR,hS⟩;obtain ⟨⟨a,n2,c,h0,hI⟩,h1,h2,h3⟩:=id hR;have hn2:=hI.len;have hm2:=hI.max;have hc2:=hI.cap;have hle2:¬n2<y:=(by have:=HQ.out;omega);have hu:IntKind.u64.wrap (n2:Int)=n2:=u64_id _ (by omega) (by omega);have HR:=Lib.hid hR;clear hI hn2 hR)
    go_returns
    exact ⟨rfl,HR.out,hS⟩
set_option maxHeartbeats 2000000 in
set_option maxRecDepth 100000 in
theorem manyR4 (w:World) (rb:Nat) (s:RS) (h:RR w rb s) {x:Nat} {s':RS} (hx:fM 4 s=(x,s')):
    Calls Tryz.prog 47 #[.pointer (some ⟨rb,0,none⟩), .int .i64 4] w fun e w'=>e= .returned (.int .i64 (x:Int))∧RR w' rb s'∧RStep w w' rb:=by
  obtain ⟨⟨y,s1⟩,hy⟩:∃p,fN 4 s=p:=⟨_,rfl⟩
  have HC:=Lib.hid (numberR4 w rb s h hy)
  have hb:y<4294967296:=by have:=fN_lt 4 s;rw [hy] at this;exact Nat.lt_of_lt_of_le this (by decide)
  have e:fM 4 s=if s1.1.length<y then (0,(s1.1,true)) else (y,s1):=by rw [fM,hy]
  rw [e] at hx
  clear e hy h
  have hw:wrap64 (y:Int)=y:=by unfold wrap64;omega
  by_cases hq:s1.1.length<y
  · rw [if_pos hq] at hx
    injection hx with hx1 hx2
    subst hx1 hx2
    have HQ:=Lib.hid hq
    clear hq
    go_enter Tryz.func47,Tryz.ntmps47
    go_wp2_with (go_at_call 45;(with_reducible refine (HC.out).mono ?_);rintro e w1 ⟨rfl,hR,hS⟩;obtain ⟨⟨a,n2,c,h0,hI⟩,h1,h2,h3⟩:=id hR;have hn2:=hI.len;have hm2:=hI.max;have hc2:=hI.cap;have hle2:n2<y:=(by have:=HQ.out;omega);have hu:IntKind.u64.wrap (n2:Int)=n2:=u64_id _ (by omega) (by omega);have HR:=Lib.hid hR;clear hI hn2 hR)
    go_returns
    exact ⟨rfl,HR.out.setBad.1,hS.trans HR.out.setBad.2⟩
  · rw [if_neg hq] at hx
    injection hx with hx1 hx2
    subst hx1 hx2
    have HQ:=Lib.hid hq
    clear hq
    go_enter Tryz.func47,Tryz.ntmps47
    go_wp2_with (go_at_call 45;(with_reducible refine (HC.out).mono ?_);rintro e w1 ⟨rfl,hR,hS⟩;obtain ⟨⟨a,n2,c,h0,hI⟩,h1,h2,h3⟩:=id hR;have hn2:=hI.len;have hm2:=hI.max;have hc2:=hI.cap;have hle2:¬n2<y:=(by have:=HQ.out;omega);have hu:IntKind.u64.wrap (n2:Int)=n2:=u64_id _ (by omega) (by omega);have HR:=Lib.hid hR;clear hI hn2 hR)
    go_returns
    exact ⟨rfl,HR.out,hS⟩
set_option maxHeartbeats 2000000 in
set_option maxRecDepth 100000 in
theorem textR_any (w:World) (rb:Nat) (s:RS) (h:RR w rb s) {x:ByteArray} {s':RS} (hx:fT s=(x,s')):
    Calls Tryz.prog 78 #[.pointer (some ⟨rb,0,none⟩)] w fun e w'=>e= .returned (.string x)∧RR w' rb s'∧RStep w w' rb:=by
  obtain ⟨⟨y,s1⟩,hy⟩:∃p,fM 4 s=p:=⟨_,rfl⟩
  have HC:=Lib.hid (manyR4 w rb s h hy)
  have hle:y≤s1.1.length:=by have:=(fM_lt 4 s).2;rw [hy] at this;exact this
  have e:fT s=(⟨(s1.1.take y).toArray⟩,(s1.1.drop y,s1.2)):=by rw [fT,hy]
  rw [e] at hx
  injection hx with hx1 hx2
  subst hx1 hx2
  have HL:=Lib.hid hle
  clear e hy h hle
  go_enter Tryz.func78,Tryz.ntmps78
  go_wp2_with fail
  refine (HC.out).mono ?_
  rintro e w1 ⟨rfl,hR,hS⟩
  obtain ⟨⟨a,n2,c,h0,hI⟩,h1,h2,h3⟩:=id hR
  have hn2:=hI.len
  have hm2:=hI.max
  have hc2:=hI.cap
  have hkn:y≤n2:=by have:=HL.out;omega
  have HR:=Lib.hid hR
  have HI:=Lib.hid hI
  have hcv:=conv_isB (hI.take y hkn)
  have hlt:rb<w1.heap.size:=hR.lt
  clear hI hn2 hR
  by_cases e:c=y
  · subst e
    have hz:n2 - c=0:=by omega
    go_wp2_with fail
    go_returns
    have hD:=HR.out.set ((HI.out.drop c hkn).none_left (a':=a) hz)
    exact ⟨rfl,hD.1,hS.trans hD.2⟩
  · have hck:y<c:=by omega
    go_wp2_with fail
    go_returns
    have hD:=HR.out.set (HI.out.drop y hkn)
    exact ⟨rfl,hD.1,hS.trans hD.2⟩
end Go.Proofs.YthceefjafklcmaaGreatDoor
namespace Go.Proofs.YthceefjafklcmaaGreatDoor
open Go.RowKit
structure QB (w W:World) (rb:Nat) (s:RS) (cs:List Value):Prop where
  rr:RR W rb s
  st:RStep w W rb
  res:BC W w.heap.size cs
  lt:rb<w.heap.size
theorem QB.size {w W:World} {rb:Nat} {s:RS} {cs:List Value} (h:QB w W rb s cs):w.heap.size+1≤W.heap.size:=h.res.lt
theorem QB.start {w:World} {rb:Nat} {s:RS} (h:RR w rb s) (cs:Array Value) (t:TypeId):QB w (w.alloc (.cells cs t)) rb s cs.toList:=
  ⟨h.of_below ((Below.refl _ _).alloc (Nat.le_refl _) _), .of_below rb ((Below.refl _ _).alloc (Nat.le_refl _) _),BC.start w cs t,h.lt⟩
theorem QB.next {w W W':World} {rb:Nat} {s s':RS} {cs:List Value} (h:QB w W rb s cs) (hs:RStep W W' rb) (hR:RR W' rb s'):QB w W' rb s' cs:=
  ⟨hR,h.st.trans hs,h.res.next hs (by have:=h.lt;omega),h.lt⟩
theorem QB.behind {w W W':World} {rb:Nat} {s:RS} {cs:List Value} (h:QB w W rb s cs) (hb:Below W.heap.size W W'):QB w W' rb s cs:=
  h.next (.of_below rb hb) (h.rr.of_below hb)
theorem QB.below {w W W':World} {rb:Nat} {s:RS} {cs:List Value} (h:QB w W rb s cs) (hb:Below (w.heap.size+1) W W'):QB w W' rb s cs:=by
  have hlt:=h.lt
  have hsz:=h.size
  exact ⟨h.rr.below hb (by omega),⟨hb.os.trans h.st.os,hb.tape.trans h.st.tape,hb.output.trans h.st.output,Nat.le_trans h.st.size hb.size,fun k hk hr=>(hb.block k (by omega)).trans (h.st.block k hk hr)⟩,h.res.keep hb (by omega),hlt⟩
theorem QB.set {w W:World} {rb b o:Nat} {x:Value} {s:RS} {cs:List Value} (h:QB w W rb s cs) (hb:w.heap.size<b):QB w (W.setCell ⟨b,o,none⟩ x) rb s cs:=
  ⟨h.rr.setNew (by have:=h.lt;omega),h.st.setNew (by omega),h.res.far (by omega),h.lt⟩
theorem QB.setBad {w W:World} {rb:Nat} {s:RS} {cs:List Value} (h:QB w W rb s cs):QB w (W.setCell ⟨rb,1,none⟩ (.bool true)) rb (s.1,true) cs:=
  h.next h.rr.setBad.2 h.rr.setBad.1
def QVPost (w:World) (rb:Nat) (x:V) (s:RS) (e:Ending) (w':World):Prop:=
  RStep w w' rb∧(∃c:VC,e= .returned (.agg #[.int .u8 c.k, .int .i64 c.n, .string c.s, .slice c.la c.ll c.lc, .slice c.oa c.ol c.oc])∧IsVal (only (fun b=>w.heap.size≤b) w') w'.heap.size x c)∧RR w' rb s
theorem results_valueR {tmps:Array Value} {W:World} {b:Nat} {c:VC} (ht:tmps[4]? =some (.pointer (some ⟨b,0,none⟩))) (h:BC W b (vcells c)):(results Tryz.f46 tmps).run Tryz.prog W= .ok (.agg #[.int .u8 c.k, .int .i64 c.n, .string c.s, .slice c.la c.ll c.lc, .slice c.oa c.ol c.oc]) W:=by
  have h0:=h.at_ 0 _ rfl
  have h1:=h.at_ 1 _ rfl
  have h2:=h.at_ 2 _ rfl
  have h3:=h.at_ 3 _ rfl
  have h4:=h.at_ 4 _ rfl
  simp [results,Tryz.results46,go_sem,ht,h0,h1,h2,h3,h4]
theorem QB.store {w W:World} {rb:Nat} {s:RS} {z0 z1 z2 z3 z4:Value} (h:QB w W rb s [z0,z1,z2,z3,z4]) (c:VC):QB w (((((W.setCell ⟨w.heap.size,0,none⟩ (.int .u8 c.k)).setCell ⟨w.heap.size,1,none⟩ (.int .i64 c.n)).setCell ⟨w.heap.size,2,none⟩ (.string c.s)).setCell ⟨w.heap.size,3,none⟩ (.slice c.la c.ll c.lc)).setCell ⟨w.heap.size,4,none⟩ (.slice c.oa c.ol c.oc)) rb s (vcells c):=by
  have hlt:=h.lt
  have hbc:BC (((((W.setCell ⟨w.heap.size,0,none⟩ (.int .u8 c.k)).setCell ⟨w.heap.size,1,none⟩ (.int .i64 c.n)).setCell ⟨w.heap.size,2,none⟩ (.string c.s)).setCell ⟨w.heap.size,3,none⟩ (.slice c.la c.ll c.lc)).setCell ⟨w.heap.size,4,none⟩ (.slice c.oa c.ol c.oc)) w.heap.size (vcells c):=
    ((((h.res.set (i:=0) (x:= .int .u8 c.k) (by simp)).set (i:=1) (x:= .int .i64 c.n) (by simp)).set (i:=2) (x:= .string c.s) (by simp)).set (i:=3) (x:= .slice c.la c.ll c.lc) (by simp)).set (i:=4) (x:= .slice c.oa c.ol c.oc) (by simp)
  have hst:RStep w (((((W.setCell ⟨w.heap.size,0,none⟩ (.int .u8 c.k)).setCell ⟨w.heap.size,1,none⟩ (.int .i64 c.n)).setCell ⟨w.heap.size,2,none⟩ (.string c.s)).setCell ⟨w.heap.size,3,none⟩ (.slice c.la c.ll c.lc)).setCell ⟨w.heap.size,4,none⟩ (.slice c.oa c.ol c.oc)) rb:=
    ((((h.st.setNew (Nat.le_refl _)).setNew (Nat.le_refl _)).setNew (Nat.le_refl _)).setNew (Nat.le_refl _)).setNew (Nat.le_refl _)
  exact ⟨((((h.rr.setNew hlt).setNew hlt).setNew hlt).setNew hlt).setNew hlt,hst,hbc,hlt⟩
theorem QB.ret {w W:World} {rb base:Nat} {s:RS} {c:VC} {x:V} {a:Act} (h:QB w W rb s (vcells c)) (hx:IsVal (only (fun b=>base≤b) W) W.heap.size x c) (hb:w.heap.size≤base) (hd:a.defers= []) (ht:a.tmps[4]? =some (.pointer (some ⟨w.heap.size,0,none⟩))):
    bodyPost Tryz.prog Tryz.f46 (QVPost w rb x s) .ret a W:=
  ⟨hd,_,results_valueR ht h.res,h.st,⟨c,rfl,hx.sub (shows_step fun k hk _=>⟨by omega,rfl⟩)⟩,h.rr⟩
theorem QB.leave {w W:World} {rb base:Nat} {s:RS} {z0 z1 z2 z3 z4:Value} {c:VC} {x:V} {a:Act} (h:QB w W rb s [z0,z1,z2,z3,z4]) (hx:IsVal (only (fun b=>base≤b) W) W.heap.size x c) (hb:w.heap.size<base) (hd:a.defers= []) (ht:a.tmps[4]? =some (.pointer (some ⟨w.heap.size,0,none⟩))):
    bodyPost Tryz.prog Tryz.f46 (QVPost w rb x s) .ret a (((((W.setCell ⟨w.heap.size,0,none⟩ (.int .u8 c.k)).setCell ⟨w.heap.size,1,none⟩ (.int .i64 c.n)).setCell ⟨w.heap.size,2,none⟩ (.string c.s)).setCell ⟨w.heap.size,3,none⟩ (.slice c.la c.ll c.lc)).setCell ⟨w.heap.size,4,none⟩ (.slice c.oa c.ol c.oc)):=
  (h.store c).ret (base:=base) (isVal_far hx ((((RStep.self.trans RStep.self).trans RStep.self).trans RStep.self).trans RStep.self) hb) (by omega) hd ht
theorem u8_id (k:Nat) (h:k<256):IntKind.u8.wrap (k:Int)=k:=by simp [IntKind.wrap,IntKind.bits,IntKind.signed];omega
theorem BC.cells9 {W:World} {b:Nat} {z0 z1 z2 z3 z4 z5 z6 z7 z8:Value} (h:BC W b [z0,z1,z2,z3,z4,z5,z6,z7,z8]):W.cell? ⟨b,0,none⟩=some z0∧W.cell? ⟨b,1,none⟩=some z1∧W.cell? ⟨b,2,none⟩=some z2∧W.cell? ⟨b,3,none⟩=some z3∧W.cell? ⟨b,4,none⟩=some z4∧W.cell? ⟨b,5,none⟩=some z5∧W.cell? ⟨b,6,none⟩=some z6∧W.cell? ⟨b,7,none⟩=some z7∧W.cell? ⟨b,8,none⟩=some z8:=
  ⟨h.at_ 0 _ rfl,h.at_ 1 _ rfl,h.at_ 2 _ rfl,h.at_ 3 _ rfl,h.at_ 4 _ rfl,h.at_ 5 _ rfl,h.at_ 6 _ rfl,h.at_ 7 _ rfl,h.at_ 8 _ rfl⟩
theorem BC.both9 {W:World} {b:Nat} {z0 z1 z2 z3 z4 z5 z6 z7 z8:Value} (h:BC W b [z0,z1,z2,z3,z4,z5,z6,z7,z8]):W.cell? ⟨b,0,none⟩=some z0∧W.frozen? ⟨b,0,none⟩=false∧W.cell? ⟨b,1,none⟩=some z1∧W.frozen? ⟨b,1,none⟩=false∧W.cell? ⟨b,2,none⟩=some z2∧W.frozen? ⟨b,2,none⟩=false∧W.cell? ⟨b,3,none⟩=some z3∧W.frozen? ⟨b,3,none⟩=false∧W.cell? ⟨b,4,none⟩=some z4∧W.frozen? ⟨b,4,none⟩=false∧W.cell? ⟨b,5,none⟩=some z5∧W.frozen? ⟨b,5,none⟩=false∧W.cell? ⟨b,6,none⟩=some z6∧W.frozen? ⟨b,6,none⟩=false∧W.cell? ⟨b,7,none⟩=some z7∧W.frozen? ⟨b,7,none⟩=false∧W.cell? ⟨b,8,none⟩=some z8∧W.frozen? ⟨b,8,none⟩=false:=
  ⟨h.at_ 0 _ rfl,h.fr 0,h.at_ 1 _ rfl,h.fr 1,h.at_ 2 _ rfl,h.fr 2,h.at_ 3 _ rfl,h.fr 3,h.at_ 4 _ rfl,h.fr 4,h.at_ 5 _ rfl,h.fr 5,h.at_ 6 _ rfl,h.fr 6,h.at_ 7 _ rfl,h.fr 7,h.at_ 8 _ rfl,h.fr 8⟩
theorem BC.cells12 {W:World} {b:Nat} {z0 z1 z2 z3 z4 z5 z6 z7 z8 z9 z10 z11:Value} (h:BC W b [z0,z1,z2,z3,z4,z5,z6,z7,z8,z9,z10,z11]):W.cell? ⟨b,0,none⟩=some z0∧W.cell? ⟨b,1,none⟩=some z1∧W.cell? ⟨b,2,none⟩=some z2∧W.cell? ⟨b,3,none⟩=some z3∧W.cell? ⟨b,4,none⟩=some z4∧W.cell? ⟨b,5,none⟩=some z5∧W.cell? ⟨b,6,none⟩=some z6∧W.cell? ⟨b,7,none⟩=some z7∧W.cell? ⟨b,8,none⟩=some z8∧W.cell? ⟨b,9,none⟩=some z9∧W.cell? ⟨b,10,none⟩=some z10∧W.cell? ⟨b,11,none⟩=some z11:=
  ⟨h.at_ 0 _ rfl,h.at_ 1 _ rfl,h.at_ 2 _ rfl,h.at_ 3 _ rfl,h.at_ 4 _ rfl,h.at_ 5 _ rfl,h.at_ 6 _ rfl,h.at_ 7 _ rfl,h.at_ 8 _ rfl,h.at_ 9 _ rfl,h.at_ 10 _ rfl,h.at_ 11 _ rfl⟩
theorem BC.both12 {W:World} {b:Nat} {z0 z1 z2 z3 z4 z5 z6 z7 z8 z9 z10 z11:Value} (h:BC W b [z0,z1,z2,z3,z4,z5,z6,z7,z8,z9,z10,z11]):W.cell? ⟨b,0,none⟩=some z0∧W.frozen? ⟨b,0,none⟩=false∧W.cell? ⟨b,1,none⟩=some z1∧W.frozen? ⟨b,1,none⟩=false∧W.cell? ⟨b,2,none⟩=some z2∧W.frozen? ⟨b,2,none⟩=false∧W.cell? ⟨b,3,none⟩=some z3∧W.frozen? ⟨b,3,none⟩=false∧W.cell? ⟨b,4,none⟩=some z4∧W.frozen? ⟨b,4,none⟩=false∧W.cell? ⟨b,5,none⟩=some z5∧W.frozen? ⟨b,5,none⟩=false∧W.cell? ⟨b,6,none⟩=some z6∧W.frozen? ⟨b,6,none⟩=false∧W.cell? ⟨b,7,none⟩=some z7∧W.frozen? ⟨b,7,none⟩=false∧W.cell? ⟨b,8,none⟩=some z8∧W.frozen? ⟨b,8,none⟩=false∧W.cell? ⟨b,9,none⟩=some z9∧W.frozen? ⟨b,9,none⟩=false∧W.cell? ⟨b,10,none⟩=some z10∧W.frozen? ⟨b,10,none⟩=false∧W.cell? ⟨b,11,none⟩=some z11∧W.frozen? ⟨b,11,none⟩=false:=
  ⟨h.at_ 0 _ rfl,h.fr 0,h.at_ 1 _ rfl,h.fr 1,h.at_ 2 _ rfl,h.fr 2,h.at_ 3 _ rfl,h.fr 3,h.at_ 4 _ rfl,h.fr 4,h.at_ 5 _ rfl,h.fr 5,h.at_ 6 _ rfl,h.fr 6,h.at_ 7 _ rfl,h.fr 7,h.at_ 8 _ rfl,h.fr 8,h.at_ 9 _ rfl,h.fr 9,h.at_ 10 _ rfl,h.fr 10,h.at_ 11 _ rfl,h.fr 11⟩
end Go.Proofs.YthceefjafklcmaaGreatDoor
namespace Go.Proofs.YthceefjafklcmaaGreatDoor
open Go.RowKit
set_option maxHeartbeats 4000000 in
set_option maxRecDepth 100000 in
theorem qv_deep (w:World) (rb:Nat) (s:RS) (dd:Int) (h:RR w rb s) (hd:dd=18) {x:V} {s':RS} (hx:fV 0 s=(x,s')):
    Calls Tryz.prog 46 #[.pointer (some ⟨rb,0,none⟩), .int .i64 dd] w (QVPost w rb x s'):=by
  obtain ⟨⟨k,s1⟩,hN⟩:∃p,fN 1 s=p:=⟨_,rfl⟩
  rw [fV,hN] at hx
  injection hx with hx1 hx2
  subst hd hx1 hx2
  have hk1:k<256:=by have:=fN_lt 1 s;rw [hN] at this;exact this
  have hu:=u8_id k hk1
  have HB:=Lib.hid (QB.start h #[.int .u8 0, .int .i64 0, .string { data:= #[] }, .slice none 0 0, .slice none 0 0] 28)
  have hlt:=h.lt
  clear h
  go_enter Tryz.func46,Tryz.ntmps46
  generalize hQ0:bodyPost _ _ _=Q0
  have HQ:=Lib.hid hQ0
  clear hQ0
  go_wp2_with (go_at_call 45;(with_reducible refine (numberR1 _ rb s HB.out.rr hN).mono ?_);rintro e w1 ⟨rfl,hR,hS⟩;have B1:=HB.out.next hS hR;have r0:=B1.res.at_ 0 _ rfl;have g0:=B1.res.fr 0;have r1:=B1.res.at_ 1 _ rfl;have g1:=B1.res.fr 1;have r2:=B1.res.at_ 2 _ rfl;have g2:=B1.res.fr 2;have r3:=B1.res.at_ 3 _ rfl;have g3:=B1.res.fr 3;have r4:=B1.res.at_ 4 _ rfl;have g4:=B1.res.fr 4;have hsz:=B1.size;have zs0:w.heap.size<w1.heap.size:=(by omega);have b0:=hR.bad;have b1:=hR.f1;have hrl:=hR.lt)
  rw [←HQ.out]
  exact ((B1.setBad.store ⟨k,0, .empty,none,0,0,none,0,0⟩).behind ((Below.refl _ _).alloc (Nat.le_refl _) _)).ret (base:=w.heap.size) (isVal_leaf _ _ k 0 .empty (by omega) (by omega) (by decide) (by decide) (by decide)) (by omega) rfl rfl
set_option maxHeartbeats 4000000 in
set_option maxRecDepth 100000 in
theorem qv_other (w:World) (rb:Nat) (s:RS) (dd:Int) (h:RR w rb s) (hd0:0≤dd) (hd:dd≤17) {k:Nat} {s1:RS} (hN:fN 1 s=(k,s1)) (hk:5<k∨k=0):
    Calls Tryz.prog 46 #[.pointer (some ⟨rb,0,none⟩), .int .i64 dd] w (QVPost w rb (.mk k 0 .empty [] []) s1):=by
  have hk1:k<256:=by have:=fN_lt 1 s;rw [hN] at this;exact this
  have hu:=u8_id k hk1
  have HB:=Lib.hid (QB.start h #[.int .u8 0, .int .i64 0, .string { data:= #[] }, .slice none 0 0, .slice none 0 0] 28)
  have hlt:=h.lt
  have hdd:¬17<dd:=by omega
  clear h
  have f1:((k:Int)==1)=false:=by simp;omega
  have f2:((k:Int)==2)=false:=by simp;omega
  have f3:((k:Int)==3)=false:=by simp;omega
  have f4:((k:Int)==4)=false:=by simp;omega
  have f5:((k:Int)==5)=false:=by simp;omega
  clear hk
  go_enter Tryz.func46,Tryz.ntmps46
  generalize hQ0:bodyPost _ _ _=Q0
  have HQ:=Lib.hid hQ0
  clear hQ0
  go_wp2_with (go_at_call 45;(with_reducible refine (numberR1 _ rb s HB.out.rr hN).mono ?_);rintro e w1 ⟨rfl,hR,hS⟩;have B1:=HB.out.next hS hR;have r0:=B1.res.at_ 0 _ rfl;have g0:=B1.res.fr 0;have r1:=B1.res.at_ 1 _ rfl;have g1:=B1.res.fr 1;have r2:=B1.res.at_ 2 _ rfl;have g2:=B1.res.fr 2;have r3:=B1.res.at_ 3 _ rfl;have g3:=B1.res.fr 3;have r4:=B1.res.at_ 4 _ rfl;have g4:=B1.res.fr 4;have hsz:=B1.size;have zs0:w.heap.size<w1.heap.size:=(by omega))
  rw [←HQ.out]
  exact ((B1.store ⟨k,0, .empty,none,0,0,none,0,0⟩).behind ((Below.refl _ _).alloc (Nat.le_refl _) _)).ret (base:=w.heap.size) (isVal_leaf _ _ k 0 .empty (by omega) (by omega) (by decide) (by decide) (by decide)) (by omega) rfl rfl
set_option maxHeartbeats 4000000 in
set_option maxRecDepth 100000 in
theorem qv_int1 (w:World) (rb:Nat) (s:RS) (dd:Int) (h:RR w rb s) (hd0:0≤dd) (hd:dd≤17) {k:Nat} {s1:RS} (hN:fN 1 s=(k,s1)) (hk:k=1) {x:Nat} {s2:RS} (hM:fN 8 s1=(x,s2)):
    Calls Tryz.prog 46 #[.pointer (some ⟨rb,0,none⟩), .int .i64 dd] w (QVPost w rb (.mk k (wrap64 x) .empty [] []) s2):=by
  have hk1:k<256:=by have:=fN_lt 1 s;rw [hN] at this;exact this
  have hu:=u8_id k hk1
  have HB:=Lib.hid (QB.start h #[.int .u8 0, .int .i64 0, .string { data:= #[] }, .slice none 0 0, .slice none 0 0] 28)
  have hlt:=h.lt
  have hdd:¬17<dd:=by omega
  clear h
  have f1:((k:Int)==1)=true:=by subst hk;rfl
  have f2:((k:Int)==2)=false:=by subst hk;rfl
  have f3:((k:Int)==3)=false:=by subst hk;rfl
  have f4:((k:Int)==4)=false:=by subst hk;rfl
  have f5:((k:Int)==5)=false:=by subst hk;rfl
  clear hk
  go_enter Tryz.func46,Tryz.ntmps46
  generalize hQ0:bodyPost _ _ _=Q0
  have HQ:=Lib.hid hQ0
  clear hQ0
  go_wp2_with (first|(go_at_call 45;(with_reducible refine (numberR1 _ rb s HB.out.rr hN).mono ?_);rintro e w1 ⟨rfl,hR,hS⟩;have B1:=HB.out.next hS hR;have r0:=B1.res.at_ 0 _ rfl;have g0:=B1.res.fr 0;have r1:=B1.res.at_ 1 _ rfl;have g1:=B1.res.fr 1;have r2:=B1.res.at_ 2 _ rfl;have g2:=B1.res.fr 2;have r3:=B1.res.at_ 3 _ rfl;have g3:=B1.res.fr 3;have r4:=B1.res.at_ 4 _ rfl;have g4:=B1.res.fr 4;have hsz:=B1.size;have zs0:w.heap.size<w1.heap.size:=(by omega))|(go_at_call 45;(with_reducible refine (numberR8 _ rb s1 (B1.behind ((Below.refl _ _).alloc (Nat.le_refl _) _)).rr hM).mono ?_);rintro e w2 ⟨rfl,hR2,hS2⟩;have B2:=(B1.behind ((Below.refl _ _).alloc (Nat.le_refl _) _)).next hS2 hR2;have VB2:=(BC.start w1 #[.int .u8 k, .int .i64 0, .string { data:= #[] }, .slice none 0 0, .slice none 0 0] 28).next hS2 (by omega);obtain ⟨q0,q1,q2,q3,q4⟩:=row5 VB2.at_;have p0:=VB2.fr 1;have r0:=B2.res.at_ 0 _ rfl;have g0:=B2.res.fr 0;have r1:=B2.res.at_ 1 _ rfl;have g1:=B2.res.fr 1;have r2:=B2.res.at_ 2 _ rfl;have g2:=B2.res.fr 2;have r3:=B2.res.at_ 3 _ rfl;have g3:=B2.res.fr 3;have r4:=B2.res.at_ 4 _ rfl;have g4:=B2.res.fr 4))
  rw [←HQ.out]
  exact ((B2.set (b:=w1.heap.size) (o:=1) (x:= .int .i64 (wrap64 x)) (by omega)).store ⟨k,wrap64 x, .empty,none,0,0,none,0,0⟩).ret (base:=w.heap.size) (isVal_leaf _ _ k (wrap64 x) .empty (by omega) (by omega) (i64_lo _) (i64_hi _) (by decide)) (by omega) rfl rfl
set_option maxHeartbeats 4000000 in
set_option maxRecDepth 100000 in
theorem qv_int2 (w:World) (rb:Nat) (s:RS) (dd:Int) (h:RR w rb s) (hd0:0≤dd) (hd:dd≤17) {k:Nat} {s1:RS} (hN:fN 1 s=(k,s1)) (hk:k=2) {x:Nat} {s2:RS} (hM:fN 8 s1=(x,s2)):
    Calls Tryz.prog 46 #[.pointer (some ⟨rb,0,none⟩), .int .i64 dd] w (QVPost w rb (.mk k (wrap64 x) .empty [] []) s2):=by
  have hk1:k<256:=by have:=fN_lt 1 s;rw [hN] at this;exact this
  have hu:=u8_id k hk1
  have HB:=Lib.hid (QB.start h #[.int .u8 0, .int .i64 0, .string { data:= #[] }, .slice none 0 0, .slice none 0 0] 28)
  have hlt:=h.lt
  have hdd:¬17<dd:=by omega
  clear h
  have f1:((k:Int)==1)=false:=by subst hk;rfl
  have f2:((k:Int)==2)=true:=by subst hk;rfl
  have f3:((k:Int)==3)=false:=by subst hk;rfl
  have f4:((k:Int)==4)=false:=by subst hk;rfl
  have f5:((k:Int)==5)=false:=by subst hk;rfl
  clear hk
  go_enter Tryz.func46,Tryz.ntmps46
  generalize hQ0:bodyPost _ _ _=Q0
  have HQ:=Lib.hid hQ0
  clear hQ0
  go_wp2_with (first|(go_at_call 45;(with_reducible refine (numberR1 _ rb s HB.out.rr hN).mono ?_);rintro e w1 ⟨rfl,hR,hS⟩;have B1:=HB.out.next hS hR;have r0:=B1.res.at_ 0 _ rfl;have g0:=B1.res.fr 0;have r1:=B1.res.at_ 1 _ rfl;have g1:=B1.res.fr 1;have r2:=B1.res.at_ 2 _ rfl;have g2:=B1.res.fr 2;have r3:=B1.res.at_ 3 _ rfl;have g3:=B1.res.fr 3;have r4:=B1.res.at_ 4 _ rfl;have g4:=B1.res.fr 4;have hsz:=B1.size;have zs0:w.heap.size<w1.heap.size:=(by omega))|(go_at_call 45;(with_reducible refine (numberR8 _ rb s1 (B1.behind ((Below.refl _ _).alloc (Nat.le_refl _) _)).rr hM).mono ?_);rintro e w2 ⟨rfl,hR2,hS2⟩;have B2:=(B1.behind ((Below.refl _ _).alloc (Nat.le_refl _) _)).next hS2 hR2;have VB2:=(BC.start w1 #[.int .u8 k, .int .i64 0, .string { data:= #[] }, .slice none 0 0, .slice none 0 0] 28).next hS2 (by omega);obtain ⟨q0,q1,q2,q3,q4⟩:=row5 VB2.at_;have p0:=VB2.fr 1;have r0:=B2.res.at_ 0 _ rfl;have g0:=B2.res.fr 0;have r1:=B2.res.at_ 1 _ rfl;have g1:=B2.res.fr 1;have r2:=B2.res.at_ 2 _ rfl;have g2:=B2.res.fr 2;have r3:=B2.res.at_ 3 _ rfl;have g3:=B2.res.fr 3;have r4:=B2.res.at_ 4 _ rfl;have g4:=B2.res.fr 4))
  rw [←HQ.out]
  exact ((B2.set (b:=w1.heap.size) (o:=1) (x:= .int .i64 (wrap64 x)) (by omega)).store ⟨k,wrap64 x, .empty,none,0,0,none,0,0⟩).ret (base:=w.heap.size) (isVal_leaf _ _ k (wrap64 x) .empty (by omega) (by omega) (i64_lo _) (i64_hi _) (by decide)) (by omega) rfl rfl
set_option maxHeartbeats 4000000 in
set_option maxRecDepth 100000 in
theorem qv_text (w:World) (rb:Nat) (s:RS) (dd:Int) (h:RR w rb s) (hd0:0≤dd) (hd:dd≤17) {k:Nat} {s1:RS} (hN:fN 1 s=(k,s1)) (hk:k=3) {x:ByteArray} {s2:RS} (hM:fT s1=(x,s2)):
    Calls Tryz.prog 46 #[.pointer (some ⟨rb,0,none⟩), .int .i64 dd] w (QVPost w rb (.mk k 0 x [] []) s2):=by
  have hk1:k<256:=by have:=fN_lt 1 s;rw [hN] at this;exact this
  have hu:=u8_id k hk1
  have HB:=Lib.hid (QB.start h #[.int .u8 0, .int .i64 0, .string { data:= #[] }, .slice none 0 0, .slice none 0 0] 28)
  have hlt:=h.lt
  have hdd:¬17<dd:=by omega
  clear h
  have hsx:x.size≤140737488355328:=by have:=fT_size s1;rw [hM] at this;exact this
  have f1:((k:Int)==1)=false:=by subst hk;rfl
  have f2:((k:Int)==2)=false:=by subst hk;rfl
  have f3:((k:Int)==3)=true:=by subst hk;rfl
  have f4:((k:Int)==4)=false:=by subst hk;rfl
  have f5:((k:Int)==5)=false:=by subst hk;rfl
  clear hk
  go_enter Tryz.func46,Tryz.ntmps46
  generalize hQ0:bodyPost _ _ _=Q0
  have HQ:=Lib.hid hQ0
  clear hQ0
  go_wp2_with (first|(go_at_call 45;(with_reducible refine (numberR1 _ rb s HB.out.rr hN).mono ?_);rintro e w1 ⟨rfl,hR,hS⟩;have B1:=HB.out.next hS hR;have r0:=B1.res.at_ 0 _ rfl;have g0:=B1.res.fr 0;have r1:=B1.res.at_ 1 _ rfl;have g1:=B1.res.fr 1;have r2:=B1.res.at_ 2 _ rfl;have g2:=B1.res.fr 2;have r3:=B1.res.at_ 3 _ rfl;have g3:=B1.res.fr 3;have r4:=B1.res.at_ 4 _ rfl;have g4:=B1.res.fr 4;have hsz:=B1.size;have zs0:w.heap.size<w1.heap.size:=(by omega))|(go_at_call 78;(with_reducible refine (textR_any _ rb s1 (B1.behind ((Below.refl _ _).alloc (Nat.le_refl _) _)).rr hM).mono ?_);rintro e w2 ⟨rfl,hR2,hS2⟩;have B2:=(B1.behind ((Below.refl _ _).alloc (Nat.le_refl _) _)).next hS2 hR2;have VB2:=(BC.start w1 #[.int .u8 k, .int .i64 0, .string { data:= #[] }, .slice none 0 0, .slice none 0 0] 28).next hS2 (by omega);obtain ⟨q0,q1,q2,q3,q4⟩:=row5 VB2.at_;have p0:=VB2.fr 2;have r0:=B2.res.at_ 0 _ rfl;have g0:=B2.res.fr 0;have r1:=B2.res.at_ 1 _ rfl;have g1:=B2.res.fr 1;have r2:=B2.res.at_ 2 _ rfl;have g2:=B2.res.fr 2;have r3:=B2.res.at_ 3 _ rfl;have g3:=B2.res.fr 3;have r4:=B2.res.at_ 4 _ rfl;have g4:=B2.res.fr 4))
  rw [←HQ.out]
  exact ((B2.set (b:=w1.heap.size) (o:=2) (x:= .string x) (by omega)).store ⟨k,0,x,none,0,0,none,0,0⟩).ret (base:=w.heap.size) (isVal_leaf _ _ k 0 x (by omega) (by omega) (by decide) (by decide) hsx) (by omega) rfl rfl
end Go.Proofs.YthceefjafklcmaaGreatDoor
