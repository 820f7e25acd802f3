/-
  Contracts of the functions that the law reaches: val.within: the iterator over all values in one. conciliatorref06.in and says, conciliatorref10.in. val.Weight: of a value in memory it is the plain function's answer.
-/
import Derived.Test.YthceefjafklcmaaGreatDoorMd2
import Derived.RangeFuncNested
import Derived.RangeFuncBound
import Derived.RangeFuncCalls
import Derived.RangeFuncLeaves
import Derived.Shelf.Abstract
import Derived.Shelf.RegionOpen
import Derived.WalkKit
import Derived.OwnWalkIn
import Derived.TacticsInMore
import Derived.LoopNIn
import Derived.LoopIn
import Derived.Handy
namespace Go.Proofs.YthceefjafklcmaaGreatDoor
open Go.RowKit Go.Shelf
attribute [local go_sem] Oper.semAt_some
structure KeepAt (m₀ Bs:Nat) (W W':World):Prop where
  size:W.heap.size≤W'.heap.size
  block:∀k,k<m₀∨k=Bs→W'.heap[k]? =W.heap[k]?
theorem KeepAt.refl (m₀ Bs:Nat) (W:World):KeepAt m₀ Bs W W:=⟨Nat.le_refl _,fun _ _=>rfl⟩
theorem KeepAt.trans {m₀ Bs:Nat} {A B C:World} (h:KeepAt m₀ Bs A B) (k:KeepAt m₀ Bs B C):KeepAt m₀ Bs A C:=⟨Nat.le_trans h.size k.size,fun i hi=>(k.block i hi).trans (h.block i hi)⟩
theorem KeepAt.cell {m₀ Bs b o:Nat} {v:Value} {W W':World} (h:KeepAt m₀ Bs W W') (hb:b<m₀∨b=Bs) (hc:W.cell? ⟨b,o,none⟩=some v):W'.cell? ⟨b,o,none⟩=some v:=
  (World.cell?_of_block (h.block b hb)).trans hc
theorem KeepAt.of_below {m₀ Bs n:Nat} {W W':World} (h:Below n W W') (h1:m₀≤n) (h2:Bs<n):KeepAt m₀ Bs W W':=
  ⟨h.size,fun k hk=>h.block k (by omega)⟩
theorem KeepAt.of_below_any {n:Nat} {W W':World} (h:Below n W W'):KeepAt n W'.heap.size W W':=
  ⟨h.size,fun k hk=>by
    rcases hk with hk|rfl
    · exact h.block k hk
    · rw [Array.getElem?_eq_none (Nat.le_refl _),Array.getElem?_eq_none h.size]⟩
theorem KeepAt.alloc {m₀ Bs:Nat} (W:World) (o:Obj) (h1:m₀≤W.heap.size) (h2:Bs<W.heap.size):KeepAt m₀ Bs W (W.alloc o):=
  .of_below ((Below.refl W.heap.size W).alloc (Nat.le_refl _) o) h1 h2
theorem KeepAt.setCell {m₀ Bs:Nat} (W:World) {p:Addr} (u:Value) (h1:m₀≤p.block) (h2:Bs≠p.block):KeepAt m₀ Bs W (W.setCell p u):=
  ⟨by simp [World.setCell],fun k hk=>Below.heap_setCell _ _ _ _ (by omega)⟩
theorem keepAt_t {m₀ Bs:Nat} :∀ {A B C:World},KeepAt m₀ Bs A B→KeepAt m₀ Bs B C→KeepAt m₀ Bs A C:=fun h k=>h.trans k
theorem keepAt_b {m₀ Bs n:Nat} (h1:m₀≤n) (h2:Bs<n):∀(W:World) (l:Nat) (o o':Obj),n≤l→W.heap[l]? =some o→o.isCells=false→o.isWalk=false→KeepAt m₀ Bs W (W.putObj l o'):=
  fun W l _ o' hl ho _ _=>⟨(grownBy_putObj' W l o').size,fun k hk=>
    (grownBy_putObj' W l o').block k (by have:=(Array.getElem?_eq_some_iff.1 ho).1;omega) (fun e=>by cases e;omega)⟩
theorem ValAt.keepAt {m₀ Bs b o:Nat} {c:VC} {W W':World} (h:ValAt W b o c) (hk:KeepAt m₀ Bs W W') (hb:b<m₀∨b=Bs):ValAt W' b o c:=
  ⟨hk.cell hb h.c0,hk.cell hb h.c1,hk.cell hb h.c2,hk.cell hb h.c3,hk.cell hb h.c4⟩
structure IsKids {α:Type} (kk:α→ByteArray) (kv:α→VC) (n₀:Nat) (w:World) (c:VC) (ks:List α):Prop where
  len:ks.length=c.ll+c.ol
  l:∀i (h:i<ks.length),i<c.ll→kk ks[i] =⟨#[]⟩∧∃b o,c.la=some ⟨b,o,none⟩∧b<n₀∧ValAt w b (o+i*5) (kv ks[i])
  o:∀i (h:c.ll+i<ks.length),∃b o,c.oa=some ⟨b,o,none⟩∧b<n₀∧w.cell? ⟨b,o+i*6,none⟩=some (.string (kk ks[c.ll+i]))∧ValAt w b (o+i*6+1) (kv ks[c.ll+i])
theorem IsKids.keep {α:Type} {kk:α→ByteArray} {kv:α→VC} {n₀:Nat} {w w':World} {c:VC} {ks:List α} (h:IsKids kk kv n₀ w c ks) {Bs:Nat} (hb:KeepAt n₀ Bs w w'):IsKids kk kv n₀ w' c ks:=by
  refine ⟨h.len,fun i hi hl=> ?_,fun i hi=> ?_⟩
  · obtain ⟨h1,b,o,h2,h3,h4⟩:=h.l i hi hl
    exact ⟨h1,b,o,h2,h3,h4.keepAt hb (.inl h3)⟩
  · obtain ⟨b,o,h2,h3,h4,h5⟩:=h.o i hi
    exact ⟨b,o,h2,h3,hb.cell (.inl h3) h4,h5.keepAt hb (.inl h3)⟩
set_option maxHeartbeats 2000000 in
set_option maxRecDepth 100000 in
theorem within_in (F:Fence) (n:Nat) (hf:F.fn 109) (hro:F.round=none) (c:VC) (w:World):
    CallsIn F n Tryz.prog 109 #[.agg #[.int .u8 c.k, .int .i64 c.n, .string c.s, .slice c.la c.ll c.lc, .slice c.oa c.ol c.oc]] w fun e w'=>e= .returned (.func (.func 113) #[] #[.pointer (some ⟨w.heap.size,0,none⟩)])∧w'=w.alloc (.cells #[.int .u8 c.k, .int .i64 c.n, .string c.s, .slice c.la c.ll c.lc, .slice c.oa c.ol c.oc] 28):=by
  refine callsIn_of_wp Tryz.func109 rfl hf ?_ hro
  simp only [Tryz.ntmps109,List.size_toArray,List.length_cons,List.length_nil,Nat.reduceAdd,Nat.reduceSub,Array.replicate_succ,Array.replicate_zero,List.push_toArray,List.append_toArray,List.nil_append,List.cons_append]
  gi_wp2
  go_ret
  exact ⟨rfl,rfl⟩
set_option maxHeartbeats 4000000 in
set_option maxRecDepth 100000 in
theorem within1_in {α:Type} (kk:α→ByteArray) (kv:α→VC) (F:Fence) (n:Nat) (h1:F.fn 113) (hro:F.round=none) (hn:1≤n) (l Bs n₀:Nat) (c:VC) (cbd:c.Bnd) (ks:List α) (J Jx:List α→World→Prop)
    (W:World) (hJ:AbidesFrom W.heap.size J) (hY:∀pre x W,J pre W→pre.length<ks.length→YieldAt F (n - 1) Tryz.prog l #[.string (kk x), .agg #[.int .u8 (kv x).k, .int .i64 (kv x).n, .string (kv x).s, .slice (kv x).la (kv x).ll (kv x).lc, .slice (kv x).oa (kv x).ol (kv x).oc]] W fun e W'=>
      (e= .returned (.bool true)∧J (pre++ [x]) W'∧KeepAt n₀ Bs W W')∨(e= .returned (.bool false)∧Jx (pre++ [x]) W'))
    (hBs:ValAt W Bs 0 c) (hBn:Bs<W.heap.size) (hn₀:n₀≤W.heap.size) (hk:IsKids kk kv n₀ W c ks) (h0:J [] W):
    CallsIn F n Tryz.prog 113 #[.func (.yield l) #[] #[], .pointer (some ⟨Bs,0,none⟩)] W fun e W'=>(∃v,e= .returned v)∧
      ((∃ys,ys=ks∧J ys W')∨(∃pre,pre<+:ks∧Jx pre W')):=by
  have c1:=cbd.l1;have c2:=cbd.l2;have c3:=cbd.o1;have c4:=cbd.o2;have c5:=cbd.l3;have c6:=cbd.o3
  have HLen:=Lib.hid hk.len
  have b4:W.cell? ⟨Bs,4,none⟩=some (.slice c.oa c.ol c.oc):=hBs.c4
  have b3:W.cell? ⟨Bs,3,none⟩=some (.slice c.la c.ll c.lc):=hBs.c3
  obtain ⟨ck,cn,cs,la,ll,lc,oa,ol,oc⟩:=c
  dsimp only at*
  clear hBs cbd
  have HB4:=Lib.hid b4
  clear b4
  refine callsIn_of_wp Tryz.func113 rfl h1 ?_ hro
  simp only [Tryz.ntmps113,List.size_toArray,List.length_cons,List.length_nil,Nat.reduceAdd,Nat.reduceSub,Array.replicate_succ,Array.replicate_zero,List.push_toArray,List.append_toArray,List.nil_append,List.cons_append]
  gi_wp2
  gi_loopw [10] (fun i wr=>∃k:Nat,k≤ll∧i= .int .i64 k∧J (ks.take k) wr∧KeepAt n₀ Bs W wr)
    (fun i _=>ll - (intOf i).toNat)
  case atStart=>exact ⟨0,Nat.zero_le _,rfl,h0,KeepAt.refl _ _ _⟩
  case round=>
    obtain ⟨k,hkk,rfl,hJs,hB⟩:=hrel
    by_cases hlt:k<ll
    · have kl:k<ks.length:=by rw [HLen.out];omega
      obtain ⟨ek,b,o,ea,hb,x1⟩:=(hk.keep hB).l k kl hlt
      dsimp only at ea
      subst ea
      have r0:=x1.c0;have r1:=x1.c1;have r2:=x1.c2;have r3:=x1.c3;have r4:=x1.c4
      have hJ2:=hJ _ _ (wr.alloc (.cells #[.int .u8 (kv ks[k]).k, .int .i64 (kv ks[k]).n, .string (kv ks[k]).s, .slice (kv ks[k]).la (kv ks[k]).ll (kv ks[k]).lc, .slice (kv ks[k]).oa (kv ks[k]).ol (kv ks[k]).oc] 28)) none hJs (World.grownBy_alloc _ _ _) (fun r e=>by cases e)
      obtain ⟨fn,tmps,assign,body,hy,hR⟩:=hY _ ks[k] _ hJ2 (by rw [List.length_take];omega)
      rw [ek] at hy
      clear hJ2 x1
      have Hek:=Lib.hid ek
      clear ek
      gi_wp2
      refine hR.mono ?_
      rintro e W3 (⟨rfl,hJ3,hk3⟩|⟨rfl,hJx3⟩)
      · clear hy r0 r1 r2 r3 r4
        have hB3:=hB.trans ((KeepAt.alloc wr _ (by have:=hB.size;omega) (by have:=hB.size;omega)).trans hk3)
        gi_wp2
        go_roundw
        case rel=>exact ⟨k+1,by omega,by simp,by rw [take_snoc ks k kl];exact hJ3,hB3⟩
        case measure=>simp [intOf];omega
      · gi_wp2
        refine bodyPost_ret (results_none rfl _ _ _) rfl ?_
        exact ⟨⟨_,rfl⟩, .inr ⟨_,by rw [←take_snoc ks k kl];exact List.take_prefix _ _,hJx3⟩⟩
    · obtain rfl:k=ll:=by omega
      have b4:wr.cell? ⟨Bs,4,none⟩=some (.slice oa ol oc):=hB.cell (.inr rfl) HB4.out
      gi_wp2
      clear b4
      have hB0:=hB
      have hJs0:=hJs
      clear hB hJs hlt hkk
      gi_loopw [22] (fun i wr=>∃j:Nat,j≤ol∧i= .int .i64 j∧J (ks.take (k+j)) wr∧KeepAt n₀ Bs W wr)
        (fun i _=>ol - (intOf i).toNat)
      case atStart=>exact ⟨0,Nat.zero_le _,rfl,hJs0,hB0⟩
      case round=>
        clear hB0 hJs0
        obtain ⟨j,hkk,rfl,hJs,hB⟩:=hrel
        by_cases hlt:j<ol
        · have kl:k+j<ks.length:=by rw [HLen.out];omega
          obtain ⟨b,o,ea,hb,g1,x1⟩:=(hk.keep hB).o j kl
          dsimp only at ea
          subst ea
          dsimp only at g1 x1
          have r0:=x1.c0;have r1:=x1.c1;have r2:=x1.c2;have r3:=x1.c3;have r4:=x1.c4
          have hJ2:=hJ _ _ (wr.alloc (.cells #[.string (kk ks[k+j]), .int .u8 (kv ks[k+j]).k, .int .i64 (kv ks[k+j]).n, .string (kv ks[k+j]).s, .slice (kv ks[k+j]).la (kv ks[k+j]).ll (kv ks[k+j]).lc, .slice (kv ks[k+j]).oa (kv ks[k+j]).ol (kv ks[k+j]).oc] 80)) none hJs (World.grownBy_alloc _ _ _) (fun r e=>by cases e)
          obtain ⟨fn,tmps,assign,body,hy,hR⟩:=hY _ ks[k+j] _ hJ2 (by rw [List.length_take];omega)
          clear hJ2 x1
          gi_wp2
          refine hR.mono ?_
          rintro e W3 (⟨rfl,hJ3,hk3⟩|⟨rfl,hJx3⟩)
          · clear hy r0 r1 r2 r3 r4 g1
            have hB3:=hB.trans ((KeepAt.alloc wr _ (by have:=hB.size;omega) (by have:=hB.size;omega)).trans hk3)
            gi_wp2
            go_roundw
            case rel=>exact ⟨j+1,by omega,by simp,by rw [←Nat.add_assoc,take_snoc ks (k+j) kl];exact hJ3,hB3⟩
            case measure=>simp [intOf];omega
          · gi_wp2
            refine bodyPost_ret (results_none rfl _ _ _) rfl ?_
            exact ⟨⟨_,rfl⟩, .inr ⟨_,by rw [←take_snoc ks (k+j) kl];exact List.take_prefix _ _,hJx3⟩⟩
        · gi_wp2
          go_end0
          exact ⟨⟨_,rfl⟩, .inl ⟨_,rfl,by rw [List.take_of_length_le (by rw [HLen.out];omega)] at hJs;exact hJs⟩⟩
structure Kid (w:World) (P:V→Prop) where
  kk:ByteArray
  v:V
  kv:VC
  is:IsVal w w.heap.size v kv
  sz:kk.size≤140737488355328
  p:P v
def Kid.pair {w:World} {P:V→Prop} (x:Kid w P):ByteArray×V:=(x.kk,x.v)
def Kid.encs {w:World} {P:V→Prop} (x:Kid w P):Array Value:= #[.string x.kk, .agg #[.int .u8 x.kv.k, .int .i64 x.kv.n, .string x.kv.s, .slice x.kv.la x.kv.ll x.kv.lc, .slice x.kv.oa x.kv.ol x.kv.oc]]
def pairs (l:List V) (o:List (ByteArray×V)):List (ByteArray×V):=l.map (fun v=>(⟨#[]⟩,v))++o
theorem kids_of (w:World) (P:V→Prop) (l:List V) (o:List (ByteArray×V)) (c:VC) (h1:IsVals w w.heap.size l c.la c.ll c.lc) (h2:IsFields w w.heap.size o c.oa c.ol c.oc) (hl:∀v ∈ l,P v) (ho:∀f ∈ o,P f.2):
    ∃ks:List (Kid w P),IsKids Kid.kk Kid.kv w.heap.size w c ks∧ks.map Kid.pair=pairs l o:=by
  obtain ⟨l1,l2,l3,l4,lb,lo,lf,l5,l6⟩:=h1
  obtain ⟨o1,o2,o3,o4,ob,oo,of,o5,o6⟩:=h2
  refine ⟨List.ofFn (fun i:Fin l.length=>(⟨⟨#[]⟩,l[i],lf i,(l6 i i.2).2,Nat.zero_le _,hl _ (List.getElem_mem i.2)⟩:Kid w P))++List.ofFn (fun i:Fin o.length=>(⟨o[i].1,o[i].2,of i,(o6 i i.2).2.2.2,(o6 i i.2).2.1,ho _ (List.getElem_mem i.2)⟩:Kid w P)),⟨?_, ?_, ?_⟩, ?_⟩
  · simp [l1,o1]
  · intro i hi hil
    rw [List.getElem_append_left (by simp;omega)]
    simp only [List.getElem_ofFn]
    exact ⟨trivial,lb,lo,(l5 (by omega)).1,(l5 (by omega)).2,(l6 i (by omega)).1⟩
  · intro i hi
    simp only [List.length_append,List.length_ofFn] at hi
    rw [List.getElem_append_right (by simp;omega)]
    simp only [List.getElem_ofFn,List.length_ofFn,l1,Nat.add_sub_cancel_left]
    have hio:i<o.length:=by omega
    exact ⟨ob,oo,(o5 (by omega)).1,(o5 (by omega)).2,(o6 i hio).1,(o6 i hio).2.2.1⟩
  · simp only [List.map_append,pairs]
    congr 1
    · apply List.ext_getElem
      · simp
      · intro i h1 h2;simp [Kid.pair]
    · apply List.ext_getElem
      · simp
      · intro i h1 h2;simp [Kid.pair]
theorem within_stops (F:Fence) (n:Nat) (h1:F.fn 113) (hro:F.round=none) (hn:1≤n) (w0:World) (P:V→Prop) (Bs:Nat) (c:VC) (cbd:c.Bnd) (ks:List (Kid w0 P)) (w:World) (n₀:Nat) (hn₀:n₀≤w.heap.size) (hBn:Bs<w.heap.size)
    (hBs:ValAt w Bs 0 c) (hk:IsKids Kid.kk Kid.kv n₀ w c ks):
    SeqStopsK F n Tryz.prog 113 #[.pointer (some ⟨Bs,0,none⟩)] Kid.encs (KeepAt n₀ Bs) (fun ys=>ys=ks) (fun pre=>pre<+:ks) ks.length w:=fun l J Jx W hW hJ _ hY h0=>
  within1_in Kid.kk Kid.kv F n h1 hro hn l Bs n₀ c cbd ks J Jx W hJ hY (hBs.keep hW hBn) (by have:=hW.size;omega) (by have:=hW.size;omega) (hk.keep (Bs:=Bs) (.of_below hW hn₀ hBn)) h0
end Go.Proofs.YthceefjafklcmaaGreatDoor
namespace Go.Proofs.YthceefjafklcmaaGreatDoor
open Go.RowKit
def hasB (s:ByteArray) (b:Nat):Bool:=s.data.toList.any (fun x=>x.toNat==b)
theorem hasB_yes {s:ByteArray} {b k:Nat} (h:k<s.size) (e:(s[k]'h).toNat=b):hasB s b=true:=by
  unfold hasB;rw [List.any_eq_true]
  exact ⟨s.data.toList[k]'(by simpa using h),List.getElem_mem _,beq_iff_eq.2 e⟩
theorem hasB_no {s:ByteArray} {b:Nat} (h:∀j (hj:j<s.size),(s[j]'hj).toNat≠b):hasB s b=false:=by
  unfold hasB;rw [List.any_eq_false]
  intro x hx
  obtain ⟨j,hj,rfl⟩:=List.getElem_of_mem hx
  have hj':j<s.size:=by simpa using hj
  have h2:¬((s.data.toList[j]'hj).toNat=b):=h j hj'
  simpa using h2
def saysB (k:Int):ByteArray:=
  if k=1 then { data:= #[78] } else
  if k=2 then { data:= #[75,86] } else
  if k=3 then { data:= #[75] } else
  if k=4 then { data:= #[73,86] } else
  if k=5 then { data:= #[73] } else
  if k=6 then { data:= #[73,86] } else
  if k=7 then { data:= #[73,74] } else
  if k=8 then { data:= #[73,83] } else
  if k=9 then { data:= #[73,78] } else
  { data:= #[] }
set_option maxHeartbeats 2000000 in
set_option maxRecDepth 100000 in
theorem in06_any (s:ByteArray) (b:Nat) (w:World) (hs:s.size≤140737488355328):
    Calls Tryz.prog 90 #[.string s, .int .u8 b] w fun e w'=>e= .returned (.bool (hasB s b))∧Below w.heap.size w w':=by
  go_enter Tryz.func90,Tryz.ntmps90
  go_wp2_with fail
  go_loopw [5] (fun i wr=>∃k:Nat,k≤s.size∧i= .int .i64 k∧Hid (∀j,j<k→∀hj:j<s.size,(s[j]'hj).toNat≠b)∧Below w.heap.size w wr) (fun i _=>s.size - (intOf i).toNat)
  case atStart=>exact ⟨0,Nat.zero_le _,rfl,fun j hj=>by omega,Below.refl _ _⟩
  case round=>
    obtain ⟨k,hk,rfl,HJ,hB⟩:=hrel
    by_cases hlt:k<s.size
    · by_cases e:(s[k]'hlt).toNat=b
      · have H:=Lib.hid e
        have f:(((s[k]'hlt).toNat:Int)==(b:Int))=true:=by simp [e]
        clear e
        go_wp2_with fail
        go_ret
        exact ⟨ret_bool (hasB_yes hlt H.out).symm,hB⟩
      · have H:=Lib.hid e
        have f:(((s[k]'hlt).toNat:Int)==(b:Int))=false:=by simp;omega
        clear e
        go_wp2_with fail
        go_roundw
        case rel=>
          refine ⟨k+1,by omega,by go_num,fun j hj hs=> ?_,hB⟩
          by_cases hjk:j=k
          · subst hjk;exact H.out
          · exact HJ.out j (by omega) hs
        case measure=>simp [intOf];omega
    · go_wp2_with fail
      go_ret
      exact ⟨ret_bool (hasB_no (fun j hj=>HJ.out j (by omega) hj)).symm,hB⟩
set_option maxHeartbeats 2000000 in
set_option maxRecDepth 100000 in
theorem in10_any (s:ByteArray) (b:Nat) (w:World) (hs:s.size≤140737488355328):
    Calls Tryz.prog 80 #[.string s, .int .u8 b] w fun e w'=>e= .returned (.bool (hasB s b))∧Below w.heap.size w w':=by
  go_enter Tryz.func80,Tryz.ntmps80
  go_wp2_with fail
  go_loopw [5] (fun i wr=>∃k:Nat,k≤s.size∧i= .int .i64 k∧Hid (∀j,j<k→∀hj:j<s.size,(s[j]'hj).toNat≠b)∧Below w.heap.size w wr) (fun i _=>s.size - (intOf i).toNat)
  case atStart=>exact ⟨0,Nat.zero_le _,rfl,fun j hj=>by omega,Below.refl _ _⟩
  case round=>
    obtain ⟨k,hk,rfl,HJ,hB⟩:=hrel
    by_cases hlt:k<s.size
    · by_cases e:(s[k]'hlt).toNat=b
      · have H:=Lib.hid e
        have f:(((s[k]'hlt).toNat:Int)==(b:Int))=true:=by simp [e]
        clear e
        go_wp2_with fail
        go_ret
        exact ⟨ret_bool (hasB_yes hlt H.out).symm,hB⟩
      · have H:=Lib.hid e
        have f:(((s[k]'hlt).toNat:Int)==(b:Int))=false:=by simp;omega
        clear e
        go_wp2_with fail
        go_roundw
        case rel=>
          refine ⟨k+1,by omega,by go_num,fun j hj hs=> ?_,hB⟩
          by_cases hjk:j=k
          · subst hjk;exact H.out
          · exact HJ.out j (by omega) hs
        case measure=>simp [intOf];omega
    · go_wp2_with fail
      go_ret
      exact ⟨ret_bool (hasB_no (fun j hj=>HJ.out j (by omega) hj)).symm,hB⟩
set_option maxHeartbeats 2000000 in
set_option maxRecDepth 100000 in
theorem says06_any (k:Int) (w:World):
    Calls Tryz.prog 88 #[.int .u8 k] w fun e w'=>e= .returned (.string (saysB k))∧Below w.heap.size w w':=by
  by_cases e1:k=1
  case pos=>
    subst e1
    go_enter Tryz.func88,Tryz.ntmps88
    go_wp2_with fail
    go_ret
    exact ⟨rfl,Below.refl _ _⟩
  have f1:(k==1)=false:=by simp [e1]
  by_cases e2:k=2
  case pos=>
    subst e2
    go_enter Tryz.func88,Tryz.ntmps88
    go_wp2_with fail
    go_ret
    exact ⟨rfl,Below.refl _ _⟩
  have f2:(k==2)=false:=by simp [e2]
  by_cases e3:k=3
  case pos=>
    subst e3
    go_enter Tryz.func88,Tryz.ntmps88
    go_wp2_with fail
    go_ret
    exact ⟨rfl,Below.refl _ _⟩
  have f3:(k==3)=false:=by simp [e3]
  by_cases e4:k=4
  case pos=>
    subst e4
    go_enter Tryz.func88,Tryz.ntmps88
    go_wp2_with fail
    go_ret
    exact ⟨rfl,Below.refl _ _⟩
  have f4:(k==4)=false:=by simp [e4]
  by_cases e5:k=5
  case pos=>
    subst e5
    go_enter Tryz.func88,Tryz.ntmps88
    go_wp2_with fail
    go_ret
    exact ⟨rfl,Below.refl _ _⟩
  have f5:(k==5)=false:=by simp [e5]
  by_cases e6:k=6
  case pos=>
    subst e6
    go_enter Tryz.func88,Tryz.ntmps88
    go_wp2_with fail
    go_ret
    exact ⟨rfl,Below.refl _ _⟩
  have f6:(k==6)=false:=by simp [e6]
  by_cases e7:k=7
  case pos=>
    subst e7
    go_enter Tryz.func88,Tryz.ntmps88
    go_wp2_with fail
    go_ret
    exact ⟨rfl,Below.refl _ _⟩
  have f7:(k==7)=false:=by simp [e7]
  by_cases e8:k=8
  case pos=>
    subst e8
    go_enter Tryz.func88,Tryz.ntmps88
    go_wp2_with fail
    go_ret
    exact ⟨rfl,Below.refl _ _⟩
  have f8:(k==8)=false:=by simp [e8]
  by_cases e9:k=9
  case pos=>
    subst e9
    go_enter Tryz.func88,Tryz.ntmps88
    go_wp2_with fail
    go_ret
    exact ⟨rfl,Below.refl _ _⟩
  have f9:(k==9)=false:=by simp [e9]
  have hR:saysB k= { data:= #[] } :=by simp [saysB,e1,e2,e3,e4,e5,e6,e7,e8,e9]
  have HR:=Lib.hid hR
  clear hR e1 e2 e3 e4 e5 e6 e7 e8 e9
  go_enter Tryz.func88,Tryz.ntmps88
  go_wp2_with fail
  go_ret
  exact ⟨by rw [HR.out];rfl,Below.refl _ _⟩
end Go.Proofs.YthceefjafklcmaaGreatDoor
namespace Go.Proofs.YthceefjafklcmaaGreatDoor
open Go.RowKit Go.Shelf
attribute [local go_sem] Oper.semAt_some
def VWeight (v:V):Prop:=v.weight≤4611686018427387904→∀(w:World) (c:VC),IsVal w w.heap.size v c→
    Calls Tryz.prog 94 #[.agg #[.int .u8 c.k, .int .i64 c.n, .string c.s, .slice c.la c.ll c.lc, .slice c.oa c.ol c.oc]] w fun e w'=>e= .returned (.int .i64 v.weight)∧Below w.heap.size w w'
theorem ValAt.own {β:Type} (b o:Nat) (c:β→VC):Own (fun (x:β) W=>ValAt W b o (c x)):=
  fun _ _ _ _ hs hg hr=>⟨cell_kept hs.c0 hg hr,cell_kept hs.c1 hg hr,cell_kept hs.c2 hg hr,cell_kept hs.c3 hg hr,cell_kept hs.c4 hg hr⟩
theorem keepsOthers_below {W W':World} (h:Below W.heap.size W W'):KeepsOthers W W':=
  ⟨h.size,fun k _ hk _=>(h.block k (Array.getElem?_eq_some_iff.1 hk).1).trans hk⟩
theorem kids_snoc {w:World} {P:V→Prop} (pre:List (Kid w P)) (x:Kid w P):weightO ((pre++ [x]).map Kid.pair)=weightO (pre.map Kid.pair)+(x.kk.size+x.v.weight):=by
  rw [List.map_append,weightO_append];simp [weightO,weightF_eq,Kid.pair]
theorem wsum (d a b c:Int) (hd:d=a+(b+c)):wrap64 d=IntKind.i64.wrap (wrap64 a+IntKind.i64.wrap (b+c)):=by
  subst hd
  simp only [IntKind.wrap_i64,wrap64]
  omega
theorem wrap64_small {x:Int} (h0: -9223372036854775808≤x) (h1:x≤9223372036854775807):wrap64 x=x:=by unfold wrap64;omega
theorem pairs_weight (l:List V) (o:List (ByteArray×V)):weightO (pairs l o)=weightL l+weightO o:=by
  unfold pairs
  rw [weightO_append]
  congr 1
  induction l with
  |nil=>rfl
  |cons v r ih=>simp only [List.map_cons,weightO,weightF_eq,weightL,ih];simp [ByteArray.size]
set_option maxHeartbeats 4000000 in
set_option maxRecDepth 100000 in
theorem valWeight_any (a:V):VWeight a:=by
  induction a using V.ind with
  |h k n s l o ihl iho=>
  intro hw w c ha
  obtain ⟨rfl,rfl,rfl,cbd,hl,ho⟩:=ha.lists
  have hw0:1+c.s.size+weightL l+weightO o≤4611686018427387904:=by simpa only [V.weight] using hw
  obtain ⟨ks,hks,hpr⟩:=kids_of w (fun v=>VWeight v∧v.weight≤4611686018427387904) l o c hl ho
    (fun v hv=>⟨ihl v hv,by obtain ⟨i,hi,rfl⟩:=List.getElem_of_mem hv;have:=weightL_mem l i hi;omega⟩)
    (fun f hf=>⟨iho f hf,by obtain ⟨i,hi,rfl⟩:=List.getElem_of_mem hf;have:=weightO_mem o i hi;omega⟩)
  clear ihl iho ha hl ho
  have c5:=cbd.s1
  refine callsIn_wide (n:=3)|>.1 ?_
  refine callsIn_of_wp_marks Tryz.func94 rfl trivial ?_ rfl
  simp only [Tryz.ntmps94,List.size_toArray,List.length_cons,List.length_nil,Nat.reduceAdd,Nat.reduceSub,Array.replicate_succ,Array.replicate_zero,List.push_toArray,List.append_toArray,List.nil_append,List.cons_append]
  gi_wp2_with (refine ⟨trivial, ?_⟩;gi_at_call 109;refine (within_in _ _ trivial rfl c _).mono ?_;rintro e w' ⟨rfl,rfl⟩)
  obtain ⟨W0,hW0⟩:∃W0,(((w.alloc (.cells #[.int .u8 c.k, .int .i64 c.n, .string c.s, .slice c.la c.ll c.lc, .slice c.oa c.ol c.oc] 28)).alloc (.cells #[.int .i64 (1+(c.s.size:Int))] 3)).alloc (.cells #[.int .u8 c.k, .int .i64 c.n, .string c.s, .slice c.la c.ll c.lc, .slice c.oa c.ol c.oc] 28))=W0:=⟨_,rfl⟩
  have hB0:Below w.heap.size w W0:=by rw [←hW0];exact (((Below.refl _ _).alloc (Nat.le_refl _) _).alloc (by simp) _).alloc (by simp;omega) _
  have hsz:W0.heap.size=w.heap.size+3:=by rw [←hW0];simp
  have hbx:ValAt W0 (w.heap.size+1+1) 0 c:=by
    rw [←hW0]
    have h:=valAt_new ((w.alloc (.cells #[.int .u8 c.k, .int .i64 c.n, .string c.s, .slice c.la c.ll c.lc, .slice c.oa c.ol c.oc] 28)).alloc (.cells #[.int .i64 (1+(c.s.size:Int))] 3)) c 28
    simp only [World.size_alloc] at h
    exact h
  have hn:Boxed W0 (w.heap.size+1) 3 (.int .i64 (1+(c.s.size:Int))):=by
    rw [←hW0]
    have h:=Boxed.new (w.alloc (.cells #[.int .u8 c.k, .int .i64 c.n, .string c.s, .slice c.la c.ll c.lc, .slice c.oa c.ol c.oc] 28)) 3 (.int .i64 (1+(c.s.size:Int)))
    rw [World.size_alloc] at h
    exact h.alloc _
  rw [hW0]
  clear hW0
  refine wpIn_rangeFunc_ownH (α:=Kid w (fun v=>VWeight v∧v.weight≤4611686018427387904)) rfl (by omega) (gf:=113) (lb:= #[.pointer (some ⟨w.heap.size+1+1,0,none⟩)]) rfl trivial (enters_of Tryz.func113 (by kernel_rfl) rfl)
    (within_stops Fence.wide 2 trivial rfl (by omega) w (fun v=>VWeight v∧v.weight≤4611686018427387904) (w.heap.size+1+1) c cbd ks W0 w.heap.size (by omega) (by omega) hbx (hks.keep (.of_below_any hB0))) keepAt_t (keepAt_b (by omega) (by omega)) (Below.refl _ _) (fun _=>rfl)
    (fun pre W=>(Boxed W (w.heap.size+1) 3 (.int .i64 (wrap64 ((1+c.s.size+weightO (pre.map Kid.pair):Nat):Int))))∧Below w.heap.size w W∧W0.heap.size≤W.heap.size)
    (fun _ _ _=>False)
    (OwnFrom.and (Own.from (boxed_own _ _ _) _) (OwnFrom.and (ownFrom_below (Nat.le_refl _) (by omega)) (fun _ _ _ _ hs hg _=>Nat.le_trans hs hg.size)))
    (fun _ _ _ _ _ hs _ _=>hs)
    ⟨by simp only [List.map_nil,weightO,Nat.add_zero];rw [wrap64_small (by omega) (by omega)];simp only [Int.natCast_add,Int.natCast_one];exact hn,hB0,Nat.le_refl _⟩
    (fun x a' W=>∃Bx,W0.heap.size≤Bx∧ValAt W Bx 0 x.kv∧a'= { tmps:= #[.agg #[.int .u8 c.k, .int .i64 c.n, .string c.s, .slice c.la c.ll c.lc, .slice c.oa c.ol c.oc], .pointer (some ⟨w.heap.size,0,none⟩), .int .i64 0, .pointer (some ⟨w.heap.size+1,0,none⟩), .string x.kk, .pointer (some ⟨Bx,0,none⟩), .pointer (some ⟨w.heap.size,2,none⟩), .string c.s, .int .i64 (c.s.size:Int), .int .i64 (1+(c.s.size:Int)), .agg #[.int .u8 c.k, .int .i64 c.n, .string c.s, .slice c.la c.ll c.lc, .slice c.oa c.ol c.oc], .func (.func 113) #[] #[.pointer (some ⟨w.heap.size+1+1,0,none⟩)], .string x.kk, .agg #[.int .u8 x.kv.k, .int .i64 x.kv.n, .string x.kv.s, .slice x.kv.la x.kv.ll x.kv.lc, .slice x.kv.oa x.kv.ol x.kv.oc],undef,undef,undef,undef,undef,undef,undef,undef],defers:= [] })
    (fun x a' _ X Y row hs hg hr=>by
      obtain ⟨Bx,h1,h2,h3⟩:=hs
      exact ⟨Bx,h1,ValAt.own (β:=Unit) Bx 0 (fun _=>x.kv) () X Y row h2 hg (fun r e=>(hr r e).2),h3⟩)
    ?assign ?body ?done ?stop
  case assign=>
    rintro l pre x W K ⟨bS1,hB1,hz1⟩ hK
    dsimp only [Kid.encs]
    gi_wp2
    exact hK _ _ ((KeepsOthers.alloc _ _).from _) (KeepAt.alloc W _ (by omega) (by omega)) ⟨bS1.alloc _,hB1.alloc hB1.size _,by simp;omega⟩ ⟨W.heap.size,hz1,valAt_new W x.kv _,rfl⟩
  case body=>
    rintro l pre x a' W hl _ ⟨bS1,hB1,hz1⟩ ⟨Bx,hBx,vX,rfl⟩ hlt
    have cS:=bS1.cell
    have fS:=bS1.frozen
    have r0:W.cell? ⟨Bx,0,none⟩=some (.int .u8 x.kv.k):=vX.c0
    have r1:W.cell? ⟨Bx,1,none⟩=some (.int .i64 x.kv.n):=vX.c1
    have r2:W.cell? ⟨Bx,2,none⟩=some (.string x.kv.s):=vX.c2
    have r3:W.cell? ⟨Bx,3,none⟩=some (.slice x.kv.la x.kv.ll x.kv.lc):=vX.c3
    have r4:W.cell? ⟨Bx,4,none⟩=some (.slice x.kv.oa x.kv.ol x.kv.oc):=vX.c4
    have hmx:Tryz.prog.follows .mixedOrders=true:=by kernel_rfl
    have hcal:=fun (W':World) (h:Below w.heap.size w W')=>x.p.1 x.p.2 W' x.kv (x.is.later_ h)
    have HC:=Lib.hid hcal
    clear hcal vX
    gi_wp2
    gi_region_with_o (refine ⟨trivial, ?_⟩;gi_at_call 94;refine (CallsIn.inRound l (callsIn_wide.2 (HC.out _ hB1.drew))).mono ?_;rintro e w' ⟨rfl,hb⟩;have cS':=(hb.cell (p:=⟨w.heap.size+1,0,none⟩) (by exact bS1.lt)).trans cS;have fS':=(hb.frozen (p:=⟨w.heap.size+1,0,none⟩) (by exact bS1.lt)).trans fS)
    all_goals gi_wp2
    all_goals
      have hb':=(Below.refl W.heap.size W).drew.trans hb
      have hbx':Boxed w' (w.heap.size+1) 3 _:=(hb'.block _ bS1.lt).trans bS1
      exact ⟨((keepsOthers_below hb').trans (KeepsOthers.setCell _ _ _)).from _,(KeepAt.of_below hb' (by omega) (by omega)).trans (KeepAt.setCell _ _ (by simp) (by simp)),by rw [num_eq (wsum ((1+c.s.size+weightO (List.map Kid.pair (pre++ [x])):Nat):Int) (1+(c.s.size:Int)+(weightO (List.map Kid.pair pre):Int)) x.kk.size x.v.weight (by rw [kids_snoc];omega))];exact hbx'.set _,(hB1.on hb' hB1.size).setCell (by simp) _,by have:=hb'.size;simp [World.setCell];omega⟩
  case done=>
    rintro D ys W hD rfl ⟨bS,hB,hz1⟩ hK
    have cS:=bS.cell
    gi_wp2
    refine ⟨by simp, .inl ⟨_,_,rfl,run_takeDeferred hK, ?_⟩⟩
    refine ⟨_,results_tmp (t:=2) rfl _ _ _, ?_,hB.trans ((Below.refl _ _).grown (grownBy_putObj' _ D _) hB.size (fun k e=>by cases e;omega))⟩
    show Ending.returned (.int .i64 (wrap64 (1+(c.s.size:Int)+(weightO (pairs l o):Nat))))=_
    exact ret_int (by simp only [pairs_weight,V.weight];rw [wrap64_small (by omega) (by omega)];omega)
  case stop=>
    rintro D c' pre W _ _ h _
    exact h.elim
end Go.Proofs.YthceefjafklcmaaGreatDoor
