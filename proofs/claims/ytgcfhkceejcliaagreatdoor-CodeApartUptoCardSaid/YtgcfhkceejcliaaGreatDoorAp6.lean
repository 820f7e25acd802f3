/-
  Contracts of the functions that the law reaches: take, many, text of the program's reader. reader.value's deferred call, and how the function is left. Rows that are being built, of what lies in new memory. reader.value: what stands in memory while it runs. reader.value, but for lists and objects. reader.value's loops: what stands at the head of a round. reader.step; boxes of cells while a reader runs.
-/
import Derived.Test.YtgcfhkceejcliaaGreatDoorAp5
import Derived.Laws.BitsAllLaws
import Derived.Laws.IdiomStrings
import Derived.Lib.BufferRead
namespace Go.Proofs.YtgcfhkceejcliaaGreatDoor
open Go.RowKit
theorem num_take (l:List UInt8) (k:Nat) (h:k<l.length):num (l.take (k+1))=num (l.take k)*256+l[k].toNat:=by
  rw [take_snoc l k h,num_snoc]
theorem or_byte (m y:Nat) (hm:m<72057594037927936) (hy:y<256):bits BinOp.or IntKind.u64 ((m:Int)*256) (y:Int)=((m*256+y:Nat):Int):=by
  have e:(m:Int)*256=((m*256:Nat):Int):=by omega
  have h:m*256+y=m*256|||y:=by
    have:=Nat.shiftLeft_add_eq_or_of_lt (show y<2 ^ 8 by omega) m
    simpa [Nat.shiftLeft_eq] using this
  have h2:=u64_or_nat (m*256) y (by omega) (by omega)
  have h3:bits BinOp.or IntKind.u64 ((m:Int)*256) (y:Int)=bits BinOp.or IntKind.u64 ((m*256:Nat):Int) (y:Int):=congrArg (fun z=>bits BinOp.or IntKind.u64 z (y:Int)) e
  exact h3.trans (h2.trans (congrArg (fun z:Nat=>(z:Int)) h.symm))
theorem wrapEq (x:Int):IntKind.i64.wrap x=wrap64 x:=by
  rw [IntKind.wrap_i64,wrap64]
theorem conv_isB {w:World} {B:Nat} {a:Option Addr} {n c:Nat} {bs:List UInt8} (h:IsB w B a n c bs):(convert 38 9 (.slice a n c)).run Tryz.prog w= .ok (.string ⟨bs.toArray⟩) w:=by
  have hu:Tryz.prog.underlying 5=some (.int .u8):=by kernel_rfl
  obtain ⟨rfl,h2,h3,b,o,h5,h6⟩:=h
  cases a with
  | some a=>
    by_cases hz:0<bs.length
    · obtain ⟨e,hb⟩:=h5 hz
      have e:=Option.some.inj e
      subst e
      exact run_convert_bytes_back w _ _ 5 _ c bs Tryz.underlying38 hu Tryz.underlying9 (fun j hj=>by rw [add_at];exact h6 j hj)
    · have:bs= [] :=List.length_eq_zero_iff.1 (by omega)
      subst this
      exact run_convert_bytes_back w _ _ 5 _ c [] Tryz.underlying38 hu Tryz.underlying9 (fun j hj=>by cases hj)
  | none=>
    have:bs= [] :=by
      cases bs with
      |nil=>rfl
      |cons x r=>obtain ⟨e,_⟩:=h5 (by simp);cases e
    subst this
    exact Lib.run_convert_nil_bytes w _ _ 5 c Tryz.underlying38 hu Tryz.underlying9
set_option maxHeartbeats 4000000 in
set_option maxRecDepth 100000 in
theorem takeU8_cut (w:World) (rb:Nat) (bs:List UInt8) (d:Int) (h:Rdr w rb bs d) (k:Nat) (hk8:k≤8) (hk:k≤bs.length):
    Calls Tryz.prog 70 #[.pointer (some ⟨rb,0,none⟩), .int .i64 k] w fun e w'=>e= .returned (.int .u8 (IntKind.u8.wrap (num (bs.take k))))∧Rdr w' rb (bs.drop k) d∧RStep w w' rb:=by
  have HC:=Lib.hid (cut_some w rb bs d h k hk)
  have hl:(bs.take k).length=k:=by rw [List.length_take];omega
  obtain ⟨ts,hts⟩:∃ts,bs.take k=ts:=⟨_,rfl⟩
  rw [hts] at HC hl ⊢
  clear h hts hk
  go_enter Tryz.func70,Tryz.ntmps70
  go_wp2_with (go_at_call 95;(with_reducible refine (HC.out).mono ?_);rintro e w1 ⟨⟨a,n,c,rfl,hI⟩,hR,hS⟩;have hn:=hI.len;have hc1:=hI.cap;have hc2:=hI.max;have HI:=Lib.hid hI;have HN:=Lib.hid hn;clear hI hn)
  go_loopw [5,7,12] (fun x _ i wr=>wr=w1∧∃j:Nat,j≤n∧i= .int .i64 j∧x= .int .u64 (num (ts.take j):Int)) (fun _ _ i _=>n - (intOf i).toNat)
  case atStart=>exact ⟨rfl,0,Nat.zero_le _,rfl,rfl⟩
  case round=>
    obtain ⟨rfl,j,hj,rfl,rfl⟩:=hrel
    by_cases hlt:j<n
    · obtain ⟨b,o,hp,rfl,hb,hcell⟩:=HI.out.get hlt
      have hlt2:num (ts.take j)<72057594037927936:=by
        have h1:=num_lt (ts.take j)
        have h2:(ts.take j).length≤7:=by rw [List.length_take];have:=HN.out;omega
        exact Nat.lt_of_lt_of_le h1 (Nat.le_trans (Nat.pow_le_pow_right (by omega) h2) (by decide))
      obtain ⟨m,hm⟩:∃m,num (ts.take j)=m:=⟨_,rfl⟩
      obtain ⟨y,hy⟩:∃y,(ts[j]'hp).toNat=y:=⟨_,rfl⟩
      have hy2:y<256:=by rw [←hy];exact (ts[j]'hp).toNat_lt
      have ht:=num_take ts j hp
      rw [hm,hy] at ht
      rw [hm] at hlt2 ⊢
      rw [hy] at hcell
      have HT:=Lib.hid ht
      have HO:=Lib.hid (or_byte m y hlt2 hy2)
      clear ht hm hy
      go_wp2_with fail
      go_roundw
      case rel=>exact ⟨trivial,j+1,by omega,by go_num,by rw [HT.out,HO.out]⟩
      case measure=>simp [intOf];omega
    · go_wp2_with fail
      go_returns
      exact ⟨by rw [List.take_of_length_le (by have:=HN.out;omega)] <;>rfl,hR,hS⟩
set_option maxHeartbeats 1000000 in
set_option maxRecDepth 100000 in
theorem takeU8_none (w:World) (rb:Nat) (bs:List UInt8) (d:Int) (h:Rdr w rb bs d) (k:Nat) (hr:rdN k bs=none):
    Calls Tryz.prog 70 #[.pointer (some ⟨rb,0,none⟩), .int .i64 k] w fun e w'=>e= .panicked [short] ∧w'=w:=by
  have HC:=Lib.hid (cut_none w rb bs d h k (by unfold rdN at hr;split at hr<;>first|omega|cases hr))
  clear h hr
  go_enter Tryz.func70,Tryz.ntmps70
  go_wp2_with (go_at_call 95;(with_reducible refine (HC.out).mono ?_);rintro e w1 ⟨rfl,rfl⟩)
  exact ⟨rfl,rfl,rfl⟩
theorem rdN_some {k n:Nat} {bs r:List UInt8} (hr:rdN k bs=some (n,r)):k≤bs.length∧num (bs.take k)=n∧bs.drop k=r:=by
  unfold rdN at hr;split at hr
  · injection hr with hr;injection hr with h1 h2;exact ⟨by assumption,h1,h2⟩
  · cases hr
theorem takeU8_some (w:World) (rb:Nat) (bs:List UInt8) (d:Int) (h:Rdr w rb bs d) (k:Nat) (hk8:k≤8) {n:Nat} {r:List UInt8} (hr:rdN k bs=some (n,r)):
    Calls Tryz.prog 70 #[.pointer (some ⟨rb,0,none⟩), .int .i64 k] w fun e w'=>e= .returned (.int .u8 (IntKind.u8.wrap n))∧Rdr w' rb r d∧RStep w w' rb:=by
  obtain ⟨h1,rfl,rfl⟩:=rdN_some hr
  exact takeU8_cut w rb bs d h k hk8 h1
set_option maxHeartbeats 4000000 in
set_option maxRecDepth 100000 in
theorem takeU32_cut (w:World) (rb:Nat) (bs:List UInt8) (d:Int) (h:Rdr w rb bs d) (k:Nat) (hk8:k≤8) (hk:k≤bs.length):
    Calls Tryz.prog 71 #[.pointer (some ⟨rb,0,none⟩), .int .i64 k] w fun e w'=>e= .returned (.int .u32 (IntKind.u32.wrap (num (bs.take k))))∧Rdr w' rb (bs.drop k) d∧RStep w w' rb:=by
  have HC:=Lib.hid (cut_some w rb bs d h k hk)
  have hl:(bs.take k).length=k:=by rw [List.length_take];omega
  obtain ⟨ts,hts⟩:∃ts,bs.take k=ts:=⟨_,rfl⟩
  rw [hts] at HC hl ⊢
  clear h hts hk
  go_enter Tryz.func71,Tryz.ntmps71
  go_wp2_with (go_at_call 95;(with_reducible refine (HC.out).mono ?_);rintro e w1 ⟨⟨a,n,c,rfl,hI⟩,hR,hS⟩;have hn:=hI.len;have hc1:=hI.cap;have hc2:=hI.max;have HI:=Lib.hid hI;have HN:=Lib.hid hn;clear hI hn)
  go_loopw [5,7,12] (fun x _ i wr=>wr=w1∧∃j:Nat,j≤n∧i= .int .i64 j∧x= .int .u64 (num (ts.take j):Int)) (fun _ _ i _=>n - (intOf i).toNat)
  case atStart=>exact ⟨rfl,0,Nat.zero_le _,rfl,rfl⟩
  case round=>
    obtain ⟨rfl,j,hj,rfl,rfl⟩:=hrel
    by_cases hlt:j<n
    · obtain ⟨b,o,hp,rfl,hb,hcell⟩:=HI.out.get hlt
      have hlt2:num (ts.take j)<72057594037927936:=by
        have h1:=num_lt (ts.take j)
        have h2:(ts.take j).length≤7:=by rw [List.length_take];have:=HN.out;omega
        exact Nat.lt_of_lt_of_le h1 (Nat.le_trans (Nat.pow_le_pow_right (by omega) h2) (by decide))
      obtain ⟨m,hm⟩:∃m,num (ts.take j)=m:=⟨_,rfl⟩
      obtain ⟨y,hy⟩:∃y,(ts[j]'hp).toNat=y:=⟨_,rfl⟩
      have hy2:y<256:=by rw [←hy];exact (ts[j]'hp).toNat_lt
      have ht:=num_take ts j hp
      rw [hm,hy] at ht
      rw [hm] at hlt2 ⊢
      rw [hy] at hcell
      have HT:=Lib.hid ht
      have HO:=Lib.hid (or_byte m y hlt2 hy2)
      clear ht hm hy
      go_wp2_with fail
      go_roundw
      case rel=>exact ⟨trivial,j+1,by omega,by go_num,by rw [HT.out,HO.out]⟩
      case measure=>simp [intOf];omega
    · go_wp2_with fail
      go_returns
      exact ⟨by rw [List.take_of_length_le (by have:=HN.out;omega)] <;>rfl,hR,hS⟩
set_option maxHeartbeats 1000000 in
set_option maxRecDepth 100000 in
theorem takeU32_none (w:World) (rb:Nat) (bs:List UInt8) (d:Int) (h:Rdr w rb bs d) (k:Nat) (hr:rdN k bs=none):
    Calls Tryz.prog 71 #[.pointer (some ⟨rb,0,none⟩), .int .i64 k] w fun e w'=>e= .panicked [short] ∧w'=w:=by
  have HC:=Lib.hid (cut_none w rb bs d h k (by unfold rdN at hr;split at hr<;>first|omega|cases hr))
  clear h hr
  go_enter Tryz.func71,Tryz.ntmps71
  go_wp2_with (go_at_call 95;(with_reducible refine (HC.out).mono ?_);rintro e w1 ⟨rfl,rfl⟩)
  exact ⟨rfl,rfl,rfl⟩
theorem takeU32_some (w:World) (rb:Nat) (bs:List UInt8) (d:Int) (h:Rdr w rb bs d) (k:Nat) (hk8:k≤8) {n:Nat} {r:List UInt8} (hr:rdN k bs=some (n,r)):
    Calls Tryz.prog 71 #[.pointer (some ⟨rb,0,none⟩), .int .i64 k] w fun e w'=>e= .returned (.int .u32 (IntKind.u32.wrap n))∧Rdr w' rb r d∧RStep w w' rb:=by
  obtain ⟨h1,rfl,rfl⟩:=rdN_some hr
  exact takeU32_cut w rb bs d h k hk8 h1
theorem rdN_lt {k n:Nat} {bs r:List UInt8} (hr:rdN k bs=some (n,r)):n<256 ^ k:=by
  obtain ⟨h1,rfl,rfl⟩:=rdN_some hr
  have:=num_lt (bs.take k)
  rwa [List.length_take,Nat.min_eq_left h1] at this
theorem takeU81_some (w:World) (rb:Nat) (bs:List UInt8) (d:Int) (h:Rdr w rb bs d) {n:Nat} {r:List UInt8} (hr:rdN 1 bs=some (n,r)):
    Calls Tryz.prog 70 #[.pointer (some ⟨rb,0,none⟩), .int .i64 1] w fun e w'=>e= .returned (.int .u8 n)∧Rdr w' rb r d∧RStep w w' rb:=by
  have hb:=rdN_lt hr
  have:=takeU8_some w rb bs d h 1 (by omega) hr
  rwa [show IntKind.u8.wrap (n:Int)=n by simp [IntKind.wrap,IntKind.bits,IntKind.signed];omega] at this
theorem takeU81_none (w:World) (rb:Nat) (bs:List UInt8) (d:Int) (h:Rdr w rb bs d) (hr:rdN 1 bs=none):
    Calls Tryz.prog 70 #[.pointer (some ⟨rb,0,none⟩), .int .i64 1] w fun e w'=>e= .panicked [short] ∧w'=w:=takeU8_none w rb bs d h 1 hr
theorem takeU324_some (w:World) (rb:Nat) (bs:List UInt8) (d:Int) (h:Rdr w rb bs d) {n:Nat} {r:List UInt8} (hr:rdN 4 bs=some (n,r)):
    Calls Tryz.prog 71 #[.pointer (some ⟨rb,0,none⟩), .int .i64 4] w fun e w'=>e= .returned (.int .u32 n)∧Rdr w' rb r d∧RStep w w' rb:=by
  have hb:=rdN_lt hr
  have:=takeU32_some w rb bs d h 4 (by omega) hr
  rwa [show IntKind.u32.wrap (n:Int)=n by simp [IntKind.wrap,IntKind.bits,IntKind.signed];omega] at this
theorem takeU324_none (w:World) (rb:Nat) (bs:List UInt8) (d:Int) (h:Rdr w rb bs d) (hr:rdN 4 bs=none):
    Calls Tryz.prog 71 #[.pointer (some ⟨rb,0,none⟩), .int .i64 4] w fun e w'=>e= .panicked [short] ∧w'=w:=takeU32_none w rb bs d h 4 hr
end Go.Proofs.YtgcfhkceejcliaaGreatDoor
namespace Go.Proofs.YtgcfhkceejcliaaGreatDoor
open Go.RowKit
theorem down_any (u:FrameMode) (w:World) (bx rb:Nat) (d:Int) (hc:w.cell? ⟨bx,0,none⟩=some (.pointer (some ⟨rb,0,none⟩))) (h1:w.cell? ⟨rb,1,none⟩=some (.int .i64 (d+1))) (hf:w.frozen? ⟨rb,1,none⟩=false) (hd:0≤d) (hd2:d≤100):
    CallsD Tryz.prog 96 #[.pointer (some ⟨bx,0,none⟩)] u w fun e u' w'=>u'=u∧(e= .returned (.tuple #[])∧w'=w.setCell ⟨rb,1,none⟩ (.int .i64 d)):=by
  have e:d+1 - 1=d:=by omega
  go_enter_d Tryz.func96,Tryz.ntmps96
  go_wp2_with fail
  first|go_end0|skip
  all_goals first|exact ⟨rfl,rfl⟩|trace_state
theorem door {tmps:Array Value} {R:Ending→World→Prop} {u:FrameMode} {W:World} {bx rb:Nat} {bs:List UInt8} {d:Int} (hu:u= .returning∨u= .panicking [short]) (hc:W.cell? ⟨bx,0,none⟩=some (.pointer (some ⟨rb,0,none⟩))) (hR:Rdr W rb bs (d+1)) (hd:0≤d) (hd2:d≤100)
    (h:Rdr (W.setCell ⟨rb,1,none⟩ (.int .i64 d)) rb bs d→RStep W (W.setCell ⟨rb,1,none⟩ (.int .i64 d)) rb→Leaves Tryz.prog Tryz.f72 tmps R [] u (W.setCell ⟨rb,1,none⟩ (.int .i64 d))):
    Leaves Tryz.prog Tryz.f72 tmps R [{ target:= .fn (.func 96) #[.pointer (some ⟨bx,0,none⟩)],args:= #[] }] u W:=by
  have hs:settle u=u:=by rcases hu with rfl|rfl<;>rfl
  refine leaves_cons (f:=96) (args:= #[.pointer (some ⟨bx,0,none⟩)]) (by rcases hu with rfl|rfl<;>simp) (by simp [go_sem]) ?_
  refine (down_any u W bx rb d hc hR.deep hR.f1 hd hd2).mono ?_
  rintro e u' w'' ⟨rfl,rfl,rfl⟩
  show Leaves _ _ _ _ _ (settle u') _
  rw [hs]
  have:=hR.setDeep (d':=d)
  exact h this.1 this.2
theorem door_panic {tmps:Array Value} {R:Ending→World→Prop} {W:World} {bx rb:Nat} {bs:List UInt8} {d:Int} (hc:W.cell? ⟨bx,0,none⟩=some (.pointer (some ⟨rb,0,none⟩))) (hR:Rdr W rb bs (d+1)) (hd:0≤d) (hd2:d≤100)
    (h:Rdr (W.setCell ⟨rb,1,none⟩ (.int .i64 d)) rb bs d→RStep W (W.setCell ⟨rb,1,none⟩ (.int .i64 d)) rb→R (.panicked [short]) (W.setCell ⟨rb,1,none⟩ (.int .i64 d))):
    Leaves Tryz.prog Tryz.f72 tmps R [{ target:= .fn (.func 96) #[.pointer (some ⟨bx,0,none⟩)],args:= #[] }] (.panicking [short]) W:=
  door (.inr rfl) hc hR hd hd2 fun h1 h2=>h h1 h2
theorem results_value {tmps:Array Value} {W:World} {b:Nat} {c:VC} (ht:tmps[2]? =some (.pointer (some ⟨b,0,none⟩))) (hv:ValAt W b 0 c):(results Tryz.f72 tmps).run Tryz.prog W= .ok (.agg #[.int .u8 c.k, .int .i64 c.n, .string c.s, .slice c.la c.ll c.lc, .slice c.oa c.ol c.oc]) W:=by
  have h0:=hv.c0
  have h1:W.cell? ⟨b,1,none⟩=_:=hv.c1
  have h2:W.cell? ⟨b,2,none⟩=_:=hv.c2
  have h3:W.cell? ⟨b,3,none⟩=_:=hv.c3
  have h4:W.cell? ⟨b,4,none⟩=_:=hv.c4
  simp [results,Tryz.results72,go_sem,ht,h0,h1,h2,h3,h4]
theorem door_ret {tmps:Array Value} {R:Ending→World→Prop} {W:World} {bx b rb:Nat} {bs:List UInt8} {d:Int} {c:VC} (hc:W.cell? ⟨bx,0,none⟩=some (.pointer (some ⟨rb,0,none⟩))) (hR:Rdr W rb bs (d+1)) (hd:0≤d) (hd2:d≤100)
    (ht:tmps[2]? =some (.pointer (some ⟨b,0,none⟩))) (hv:ValAt W b 0 c) (hb:b≠rb)
    (h:Rdr (W.setCell ⟨rb,1,none⟩ (.int .i64 d)) rb bs d→RStep W (W.setCell ⟨rb,1,none⟩ (.int .i64 d)) rb→R (.returned (.agg #[.int .u8 c.k, .int .i64 c.n, .string c.s, .slice c.la c.ll c.lc, .slice c.oa c.ol c.oc])) (W.setCell ⟨rb,1,none⟩ (.int .i64 d))):
    Leaves Tryz.prog Tryz.f72 tmps R [{ target:= .fn (.func 96) #[.pointer (some ⟨bx,0,none⟩)],args:= #[] }] .returning W:=
  door (.inl rfl) hc hR hd hd2 fun h1 h2=>⟨_,results_value ht ⟨h2.cell hv.c0 hb,h2.cell hv.c1 hb,h2.cell hv.c2 hb,h2.cell hv.c3 hb,h2.cell hv.c4 hb⟩,h h1 h2⟩
end Go.Proofs.YtgcfhkceejcliaaGreatDoor
namespace Go.Proofs.YtgcfhkceejcliaaGreatDoor
open Go.RowKit
theorem flat_get {α:Type} (f:α→List Value) (m:Nat) (hf:∀x,(f x).length=m):∀(l:List α) (i t:Nat) (hi:i<l.length),t<m→(l.flatMap f)[i*m+t]? =(f l[i])[t]? :=by
  intro l
  induction l with
  |nil=>intro i t hi;cases hi
  | cons x l ih=>
    intro i t hi ht
    cases i with
    | zero=>
      simp only [List.flatMap_cons,Nat.zero_mul,Nat.zero_add,List.getElem_cons_zero]
      rw [List.getElem?_append_left (by rw [hf];exact ht)]
    | succ i=>
      have e:(i+1)*m+t=(f x).length+(i*m+t):=by rw [hf,Nat.add_mul];omega
      simp only [List.flatMap_cons,List.getElem_cons_succ]
      rw [e,List.getElem?_append_right (by omega),Nat.add_sub_cancel_left]
      exact ih i t (by simpa using hi) ht
theorem flat_length {α:Type} (f:α→List Value) (m:Nat) (hf:∀x,(f x).length=m) (l:List α):(l.flatMap f).length=l.length*m:=by
  induction l with
  |nil=>simp
  |cons x l ih=>simp only [List.flatMap_cons,List.length_append,hf,ih,List.length_cons,Nat.add_mul];omega
theorem flat_snoc {α:Type} (f:α→List Value) (l:List α) (x:α):(l++ [x]).flatMap f=l.flatMap f++f x:=by simp
def Closed (P:World→Nat→Nat→Prop):Prop:=∀W W' B B' i,Shows W W' B→B≤B'→P W B i→P W' B' i
def Free (base:Nat) (u:Value):Nat→Prop:=fun k=>base≤k∧some k≠u.ownBlock
structure Row (T:TypeId) (sz:Nat) (w:World) (base:Nat) (u:Value) (n:Nat) (cells:List Value) (P:World→Nat→Nat→Prop):Prop where
  own:w.ownsRow base T sz u n cells
  els:∀i,i<n→P (only (Free base u) w) w.heap.size i
theorem Row.nil (T:TypeId) (sz:Nat) (w:World) (base:Nat) (P:World→Nat→Nat→Prop):Row T sz w base (.slice none 0 0) 0 [] P:=
  ⟨⟨by simp, .inl ⟨rfl,rfl⟩⟩,fun i h=>by omega⟩
theorem Row.lt {T:TypeId} {sz:Nat} {w:World} {base:Nat} {u:Value} {n:Nat} {cells:List Value} {P:World→Nat→Nat→Prop} (h:Row T sz w base u n cells P):∀k,u.ownBlock=some k→base≤k∧k<w.heap.size:=h.own.lt
theorem Row.later {T:TypeId} {sz:Nat} {w w':World} {base rb:Nat} {u:Value} {n:Nat} {cells:List Value} {P:World→Nat→Nat→Prop} (hP:Closed P) (h:Row T sz w base u n cells P) (s:RStep w w' rb) (hr:rb<base):Row T sz w' base u n cells P:=by
  refine ⟨h.own.kept (row:=some rb) ⟨s.os,s.tape,s.output,s.size,fun k hk hne=>s.block k hk (fun e=>hne (by rw [e]))⟩ ?_,fun i hi=>hP _ _ _ _ i (shows_step fun k hk hlt=>⟨hk,s.block k hlt ?_⟩) s.size (h.els i hi)⟩
  · cases hu:u.ownBlock with
    |none=>simp
    | some k=>
      have:=(h.lt k hu).1
      right;intro e;injection e with e;omega
  · have:=hk.1;omega
theorem Row.set {T:TypeId} {sz:Nat} {w:World} {base b o:Nat} {u x:Value} {n:Nat} {cells:List Value} {P:World→Nat→Nat→Prop} (hP:Closed P) (h:Row T sz w base u n cells P) (hb:b<base):Row T sz (w.setCell ⟨b,o,none⟩ x) base u n cells P:=
  h.later hP (rb:=b) ⟨rfl,rfl,rfl,by simp,fun k hk hr=>heap_setCell_other _ _ _ _ hr⟩ hb
theorem Row.push {T:TypeId} {sz:Nat} {w w0 w1:World} {base:Nat} {u u':Value} {n:Nat} {cells news:List Value} {P P':World→Nat→Nat→Prop} (hP':Closed P') (h:Row T sz w base u n cells P)
    (hb:Below w.heap.size w w0) (hg:w0.grownBy w1 u.ownBlock) (hown:w1.ownsRow base T sz u' (n+1) (cells++news)) (hat:u'.ownBlock=u.ownBlock∨∀k,u'.ownBlock=some k→w.heap.size≤k)
    (hnew:P' (only (Free base u) w) w.heap.size n) (hold:∀W B i,i<n→P W B i→P' W B i):Row T sz w1 base u' (n+1) (cells++news) P':=by
  have hsz:w.heap.size≤w1.heap.size:=Nat.le_trans hb.size hg.size
  refine ⟨hown,fun i hi=> ?_⟩
  have hs:Shows (only (Free base u) w) (only (Free base u') w1) w.heap.size:=by
    refine shows_step fun k hk hlt=>⟨⟨hk.1,fun e=> ?_⟩, ?_⟩
    · rcases hat with e2|e2
      · exact hk.2 (e.trans e2)
      · have:=e2 k e.symm;omega
    · rw [hg.block k (Nat.lt_of_lt_of_le hlt hb.size) hk.2,hb.block k hlt]
  by_cases hin:i=n
  · subst hin;exact hP' _ _ _ _ _ hs hsz hnew
  · exact hP' _ _ _ _ _ hs hsz (hold _ _ _ (by omega) (h.els i (by omega)))
theorem Row.shows {T:TypeId} {sz:Nat} {w:World} {base lo:Nat} {u:Value} {n:Nat} {cells:List Value} {P:World→Nat→Nat→Prop} (hP:Closed P) (h:Row T sz w base u n cells P) (hlo:lo≤base):
    (∀g,u.ownBlock=some g→∀j x,cells[j]? =some x→(only (fun k=>lo≤k) w).cell? ⟨g,j,none⟩=some x)∧∀i,i<n→P (only (fun k=>lo≤k) w) w.heap.size i:=by
  refine ⟨fun g hg j x hx=>only_cell' (show lo≤g by have:=(h.lt g hg).1;omega) ?_,fun i hi=>hP _ _ _ _ i (shows_step fun k hk _=>⟨by have:=hk.1;omega,rfl⟩) (Nat.le_refl _) (h.els i hi)⟩
  have:=h.own.cells hg j x hx
  rw [add_at,Nat.zero_add] at this;exact this
def vcells (c:VC):List Value:= [.int .u8 c.k, .int .i64 c.n, .string c.s, .slice c.la c.ll c.lc, .slice c.oa c.ol c.oc]
def vzero:VC:=⟨0,0, .empty,none,0,0,none,0,0⟩
def PV (l:List V) (cs:List VC):World→Nat→Nat→Prop:=fun W B i=>∀h:i<l.length,IsVal W B l[i] (cs.getD i vzero)
theorem PV.closed (l:List V) (cs:List VC):Closed (PV l cs):=fun _ _ _ _ _ hs hB h hi=>((h hi).sub hs).more hB
theorem PV.snoc {l:List V} {cs:List VC} (hl:cs.length=l.length) (x:V) (c:VC):(∀W B,IsVal W B x c→PV (l++ [x]) (cs++ [c]) W B l.length)∧∀W B i,i<l.length→PV l cs W B i→PV (l++ [x]) (cs++ [c]) W B i:=by
  constructor
  · intro W B h hi
    simpa [List.getD_eq_getElem?_getD, ←hl] using h
  · intro W B i hi h hi2
    have h:=h hi
    have e:(cs++ [c]).getD i vzero=cs.getD i vzero:=by simp [List.getD_eq_getElem?_getD,List.getElem?_append_left (show i<cs.length by omega)]
    rw [List.getElem_append_left hi,e]
    exact h
abbrev RowV (w:World) (base:Nat) (u:Value) (l:List V) (cs:List VC):Prop:=Row 33 5 w base u l.length (cs.flatMap vcells) (PV l cs)
theorem RowV.val {w:World} {base lo:Nat} {l:List V} {cs:List VC} {a:Option Addr} {n cap:Nat} (h:RowV w base (.slice a n cap) l cs) (hl:cs.length=l.length) (hlo:lo≤base) (k:Int) (hk0:0≤k) (hk1:k<256) (hfew:l.length≤1466015503701):
    IsVal (only (fun b=>lo≤b) w) w.heap.size (.mk k 0 .empty l []) ⟨k,0, .empty,a,n,cap,none,0,0⟩:=by
  obtain ⟨h1,h2⟩:=Row.shows (PV.closed l cs) h hlo
  have hown:=h.own
  have hlt:=h.lt
  have hbd:∀n cap:Nat,n≤cap→cap≤9223372036854775807→n≤1466015503701→(⟨k,0, .empty,a,n,cap,none,0,0⟩:VC).Bnd:=fun n cap e1 e2 e3=>⟨hk0,hk1,(by decide:(-9223372036854775808:Int)≤0),(by decide:(0:Int)≤9223372036854775807),(by decide:ByteArray.empty.size≤140737488355328),e1,e2,e3,(by decide:(0:Nat)≤0),(by decide:(0:Nat)≤9223372036854775807),(by decide:(0:Nat)≤1466015503701)⟩
  rcases hown.2 with ⟨e,hn⟩|⟨g,cap',cur,e,hbg,hg,hnc,hcm,hcs,htake⟩
  · injection e with e1 e2 e3;subst e1 e2 e3
    have:l= [] :=List.length_eq_zero_iff.1 hn
    subst this
    exact .mk ⟨k,0, .empty,none,0,0,none,0,0⟩ [] [] (fun _=>vzero) (fun _=>vzero) 0 0 0 0 (hbd 0 0 (by omega) (by omega) (by omega)) rfl rfl (fun h=>by cases h) (fun h=>by cases h) (fun i h=>by cases h) (fun i h=>by cases h) (fun i h=>by cases h) (fun i h=>by cases h)
  · injection e with e1 e2 e3;subst e1 e2 e3
    refine .mk ⟨k,0, .empty,some ⟨g,0,none⟩,l.length,cap,none,0,0⟩ l [] (fun i=>cs.getD i vzero) (fun _=>vzero) g 0 0 0 (hbd _ _ hnc (by simpa [maxLen] using hcm) hfew) rfl rfl (fun _=>⟨rfl,(hlt g rfl).2⟩) (fun h=>by cases h) (fun i hi=> ?_) (fun i hi=>h2 i hi hi) (fun i h=>by cases h) (fun i h=>by cases h)
    have hi':i<cs.length:=by omega
    have hc:∀t x,t<5→(vcells cs[i])[t]? =some x→(only (fun b=>lo≤b) w).cell? ⟨g,0+i*5+t,none⟩=some x:=fun t x ht hx=>by
      rw [Nat.zero_add]
      exact h1 g rfl (i*5+t) x ((flat_get vcells 5 (fun _=>rfl) cs i t hi' ht).trans hx)
    have he:cs.getD i vzero=cs[i] :=by simp [List.getD_eq_getElem?_getD,hi']
    simp only [he]
    exact ⟨hc 0 _ (by omega) rfl,hc 1 _ (by omega) rfl,hc 2 _ (by omega) rfl,hc 3 _ (by omega) rfl,hc 4 _ (by omega) rfl⟩
def fcells (c:ByteArray×VC):List Value:= [.string c.1, .int .u8 c.2.k, .int .i64 c.2.n, .string c.2.s, .slice c.2.la c.2.ll c.2.lc, .slice c.2.oa c.2.ol c.2.oc]
def fzero:ByteArray×VC:=(.empty,vzero)
def PF (l:List (ByteArray×V)) (cs:List (ByteArray×VC)):World→Nat→Nat→Prop:=fun W B i=>∀h:i<l.length,(cs.getD i fzero).1=l[i].1∧l[i].1.size≤140737488355328∧IsVal W B l[i].2 (cs.getD i fzero).2
theorem PF.closed (l:List (ByteArray×V)) (cs:List (ByteArray×VC)):Closed (PF l cs):=fun _ _ _ _ _ hs hB h hi=>⟨(h hi).1,(h hi).2.1,((h hi).2.2.sub hs).more hB⟩
theorem PF.snoc {l:List (ByteArray×V)} {cs:List (ByteArray×VC)} (hl:cs.length=l.length) (s:ByteArray) (hs:s.size≤140737488355328) (x:V) (c:VC):(∀W B,IsVal W B x c→PF (l++ [(s,x)]) (cs++ [(s,c)]) W B l.length)∧∀W B i,i<l.length→PF l cs W B i→PF (l++ [(s,x)]) (cs++ [(s,c)]) W B i:=by
  constructor
  · intro W B h hi
    have e1:(l++ [(s,x)])[l.length]'hi=(s,x):=by simp
    have e2:(cs++ [(s,c)]).getD l.length fzero=(s,c):=by simp [List.getD_eq_getElem?_getD, ←hl]
    rw [e1,e2];exact ⟨rfl,hs,h⟩
  · intro W B i hi h hi2
    have h:=h hi
    have e:(cs++ [(s,c)]).getD i fzero=cs.getD i fzero:=by simp [List.getD_eq_getElem?_getD,List.getElem?_append_left (show i<cs.length by omega)]
    rw [List.getElem_append_left hi,e]
    exact h
abbrev RowF (w:World) (base:Nat) (u:Value) (l:List (ByteArray×V)) (cs:List (ByteArray×VC)):Prop:=Row 98 6 w base u l.length (cs.flatMap fcells) (PF l cs)
theorem RowF.val {w:World} {base lo:Nat} {l:List (ByteArray×V)} {cs:List (ByteArray×VC)} {a:Option Addr} {n cap:Nat} (h:RowF w base (.slice a n cap) l cs) (hl:cs.length=l.length) (hlo:lo≤base) (k:Int) (hk0:0≤k) (hk1:k<256) (hfew:l.length≤1466015503701):
    IsVal (only (fun b=>lo≤b) w) w.heap.size (.mk k 0 .empty [] l) ⟨k,0, .empty,none,0,0,a,n,cap⟩:=by
  obtain ⟨h1,h2⟩:=Row.shows (PF.closed l cs) h hlo
  have hown:=h.own
  have hlt:=h.lt
  have hbd:∀n cap:Nat,n≤cap→cap≤9223372036854775807→n≤1466015503701→(⟨k,0, .empty,none,0,0,a,n,cap⟩:VC).Bnd:=fun n cap e1 e2 e3=>⟨hk0,hk1,(by decide:(-9223372036854775808:Int)≤0),(by decide:(0:Int)≤9223372036854775807),(by decide:ByteArray.empty.size≤140737488355328),(by decide:(0:Nat)≤0),(by decide:(0:Nat)≤9223372036854775807),(by decide:(0:Nat)≤1466015503701),e1,e2,e3⟩
  rcases hown.2 with ⟨e,hn⟩|⟨g,cap',cur,e,hbg,hg,hnc,hcm,hcs,htake⟩
  · injection e with e1 e2 e3;subst e1 e2 e3
    have:l= [] :=List.length_eq_zero_iff.1 hn
    subst this
    exact .mk ⟨k,0, .empty,none,0,0,none,0,0⟩ [] [] (fun _=>vzero) (fun _=>vzero) 0 0 0 0 (hbd 0 0 (by omega) (by omega) (by omega)) rfl rfl (fun h=>by cases h) (fun h=>by cases h) (fun i h=>by cases h) (fun i h=>by cases h) (fun i h=>by cases h) (fun i h=>by cases h)
  · injection e with e1 e2 e3;subst e1 e2 e3
    refine .mk ⟨k,0, .empty,none,0,0,some ⟨g,0,none⟩,l.length,cap⟩ [] l (fun _=>vzero) (fun i=>(cs.getD i fzero).2) 0 0 g 0 (hbd _ _ hnc (by simpa [maxLen] using hcm) hfew) rfl rfl (fun h=>by cases h) (fun _=>⟨rfl,(hlt g rfl).2⟩) (fun i h=>by cases h) (fun i h=>by cases h) (fun i hi=> ?_) (fun i hi=>(h2 i hi hi).2.2)
    have hi':i<cs.length:=by omega
    have hc:∀t x,t<6→(fcells cs[i])[t]? =some x→(only (fun b=>lo≤b) w).cell? ⟨g,0+i*6+t,none⟩=some x:=fun t x ht hx=>by
      rw [Nat.zero_add]
      exact h1 g rfl (i*6+t) x ((flat_get fcells 6 (fun _=>rfl) cs i t hi' ht).trans hx)
    have he:cs.getD i fzero=cs[i] :=by simp [List.getD_eq_getElem?_getD,hi']
    obtain ⟨p1,p2,_⟩:=h2 i hi hi
    rw [he] at p1
    simp only [he]
    exact ⟨by rw [←p1];exact hc 0 _ (by omega) rfl,p2,hc 1 _ (by omega) rfl,hc 2 _ (by omega) rfl,hc 3 _ (by omega) rfl,hc 4 _ (by omega) rfl,hc 5 _ (by omega) rfl⟩
end Go.Proofs.YtgcfhkceejcliaaGreatDoor
namespace Go.Proofs.YtgcfhkceejcliaaGreatDoor
open Go.RowKit
theorem RStep.frozen {w w':World} {rb:Nat} (h:RStep w w' rb) {b o:Nat} (hl:b<w.heap.size) (hb:b≠rb):w'.frozen? ⟨b,o,none⟩=w.frozen? ⟨b,o,none⟩:=
  World.frozen?_of_block (h.block b hl hb)
theorem RStep.setNew {w W:World} {rb b o:Nat} {x:Value} (h:RStep w W rb) (hb:w.heap.size≤b):RStep w (W.setCell ⟨b,o,none⟩ x) rb:=
  ⟨h.os,h.tape,h.output,by simpa using h.size,fun k hk hr=>(heap_setCell_other _ _ _ _ (show k≠b by omega)).trans (h.block k hk hr)⟩
theorem Rdr.setNew {W:World} {rb b o:Nat} {x:Value} {bs:List UInt8} {d:Int} (h:Rdr W rb bs d) (hb:rb<b):Rdr (W.setCell ⟨b,o,none⟩ x) rb bs d:=by
  obtain ⟨⟨a,n,c,h0,hI⟩,h1,h2,h3⟩:=h
  have hb':Below b W (W.setCell ⟨b,o,none⟩ x):=⟨rfl,rfl,rfl,by simp,fun k hk=>heap_setCell_other _ _ _ _ (show k≠b by omega)⟩
  exact ⟨⟨a,n,c,keep_cell hb' h0 hb,hI.keep (hb'.mono (Nat.le_of_lt hb))⟩,keep_cell hb' h1 hb,by simpa using h2,by simpa using h3⟩
structure RB (w W:World) (rb:Nat) (bs:List UInt8) (d:Int) (c:VC):Prop where
  rdr:Rdr W rb bs d
  st:RStep w W rb
  box:W.cell? ⟨w.heap.size,0,none⟩=some (.pointer (some ⟨rb,0,none⟩))
  res:ValAt W (w.heap.size+1) 0 c
  frz:∀j,j<5→W.frozen? ⟨w.heap.size+1,j,none⟩=false
  lt:rb<w.heap.size
  size:w.heap.size+2≤W.heap.size
theorem RB.next {w W W':World} {rb:Nat} {bs bs':List UInt8} {d:Int} {c:VC} (h:RB w W rb bs d c) (s:RStep W W' rb) (hR:Rdr W' rb bs' d):RB w W' rb bs' d c:=by
  have hlt:=h.lt;have hsz:=h.size
  refine ⟨hR,h.st.trans s,s.cell h.box (by omega),⟨s.cell h.res.c0 (by omega),s.cell h.res.c1 (by omega),s.cell h.res.c2 (by omega),s.cell h.res.c3 (by omega),s.cell h.res.c4 (by omega)⟩,fun j hj=>(s.frozen (by omega) (by omega)).trans (h.frz j hj),hlt,Nat.le_trans hsz s.size⟩
theorem RB.behind {w W W':World} {rb:Nat} {bs:List UInt8} {d:Int} {c:VC} (h:RB w W rb bs d c) (hb:Below W.heap.size W W'):RB w W' rb bs d c:=h.next (.of_below rb hb) (h.rdr.of_below hb)
theorem RB.set {w W:World} {rb b o:Nat} {x:Value} {bs:List UInt8} {d:Int} {c:VC} (h:RB w W rb bs d c) (hb:w.heap.size+1<b):RB w (W.setCell ⟨b,o,none⟩ x) rb bs d c:=by
  have hlt:=h.lt
  have hb':Below b W (W.setCell ⟨b,o,none⟩ x):=⟨rfl,rfl,rfl,by simp,fun k hk=>heap_setCell_other _ _ _ _ (show k≠b by omega)⟩
  exact ⟨h.rdr.setNew (by omega),h.st.setNew (by omega),keep_cell hb' h.box (by omega),h.res.keep hb' hb,fun j hj=>by simpa using h.frz j hj,hlt,by simpa using h.size⟩
theorem RB.start {w:World} {rb:Nat} {bs:List UInt8} {d d':Int} (h:Rdr w rb bs d) (t1 t2:TypeId):
    RB w (((w.setCell ⟨rb,1,none⟩ (.int .i64 d')).alloc (.cells #[.pointer (some ⟨rb,0,none⟩)] t1)).alloc (.cells #[.int .u8 0, .int .i64 0, .string { data:= #[] }, .slice none 0 0, .slice none 0 0] t2)) rb bs d' vzero:=by
  obtain ⟨hR,hS⟩:=h.setDeep (d':=d')
  obtain ⟨w0,hw0⟩:∃w0,w.setCell ⟨rb,1,none⟩ (.int .i64 d')=w0:=⟨_,rfl⟩
  have hsz:w.heap.size=w0.heap.size:=by rw [←hw0];simp
  rw [hw0] at hR hS ⊢
  obtain ⟨w1,hw1⟩:∃w1,w0.alloc (.cells #[.pointer (some ⟨rb,0,none⟩)] t1)=w1:=⟨_,rfl⟩
  have b1:Below w0.heap.size w0 w1:=by rw [←hw1];exact (Below.refl _ _).alloc (Nat.le_refl _) _
  have hs1:w1.heap.size=w.heap.size+1:=by rw [←hw1,World.size_alloc,hsz]
  have hc:=cells_new w0 #[.pointer (some ⟨rb,0,none⟩)] t1 0 _ rfl
  rw [hw1] at hc ⊢
  have b2:Below w1.heap.size w1 (w1.alloc (.cells #[.int .u8 0, .int .i64 0, .string { data:= #[] }, .slice none 0 0, .slice none 0 0] t2)):=(Below.refl _ _).alloc (Nat.le_refl _) _
  have hn:=cells_new w1 #[.int .u8 0, .int .i64 0, .string { data:= #[] }, .slice none 0 0, .slice none 0 0] t2
  have hlt:=h.lt
  refine ⟨(hR.of_below b1).of_below b2,hS.trans ((RStep.of_below rb b1).trans (.of_below rb b2)), ?_, ?_,fun j hj=> ?_,hlt,by rw [World.size_alloc,hs1];omega⟩
  · exact keep_cell b2 (by rw [hsz];exact hc) (by rw [hs1];omega)
  · rw [←hs1];exact ⟨hn 0 _ rfl,hn 1 _ rfl,hn 2 _ rfl,hn 3 _ rfl,hn 4 _ rfl⟩
  · rw [←hs1];exact frozen_new w1 _ t2 j
structure VB (W:World) (vb:Nat) (c:VC):Prop where
  at_:ValAt W vb 0 c
  fr:∀j,W.frozen? ⟨vb,j,none⟩=false
theorem VB.lt {W:World} {vb:Nat} {c:VC} (h:VB W vb c):vb<W.heap.size:=World.block_lt_of_cell? W _ h.at_.c0
theorem VB.next {W W':World} {vb rb:Nat} {c:VC} (h:VB W vb c) (s:RStep W W' rb) (hv:vb≠rb):VB W' vb c:=
  ⟨⟨s.cell h.at_.c0 hv,s.cell h.at_.c1 hv,s.cell h.at_.c2 hv,s.cell h.at_.c3 hv,s.cell h.at_.c4 hv⟩,fun j=>(s.frozen h.lt hv).trans (h.fr j)⟩
theorem VB.start (w:World) (c:VC) (t:TypeId):VB (w.alloc (.cells #[.int .u8 c.k, .int .i64 c.n, .string c.s, .slice c.la c.ll c.lc, .slice c.oa c.ol c.oc] t)) w.heap.size c:=
  ⟨valAt_new w c t,fun j=>frozen_new w _ t j⟩
theorem valAt_stored {W:World} {b:Nat} {c0:VC} (h:ValAt W b 0 c0) (c:VC):
    ValAt (((((W.setCell ⟨b,0,none⟩ (.int .u8 c.k)).setCell ⟨b,1,none⟩ (.int .i64 c.n)).setCell ⟨b,2,none⟩ (.string c.s)).setCell ⟨b,3,none⟩ (.slice c.la c.ll c.lc)).setCell ⟨b,4,none⟩ (.slice c.oa c.ol c.oc)) b 0 c:=by
  have g0:=h.c0
  have g1:W.cell? ⟨b,1,none⟩=_:=h.c1
  have g2:W.cell? ⟨b,2,none⟩=_:=h.c2
  have g3:W.cell? ⟨b,3,none⟩=_:=h.c3
  have g4:W.cell? ⟨b,4,none⟩=_:=h.c4
  constructor<;>simp [go_sem,g0,g1,g2,g3,g4]
theorem RB.store {w W:World} {rb:Nat} {bs:List UInt8} {d:Int} {c0:VC} (h:RB w W rb bs d c0) (c:VC):
    RB w (((((W.setCell ⟨w.heap.size+1,0,none⟩ (.int .u8 c.k)).setCell ⟨w.heap.size+1,1,none⟩ (.int .i64 c.n)).setCell ⟨w.heap.size+1,2,none⟩ (.string c.s)).setCell ⟨w.heap.size+1,3,none⟩ (.slice c.la c.ll c.lc)).setCell ⟨w.heap.size+1,4,none⟩ (.slice c.oa c.ol c.oc)) rb bs d c:=by
  have hlt:=h.lt
  have hn:w.heap.size≤w.heap.size+1:=by omega
  have hr:rb<w.heap.size+1:=by omega
  refine ⟨((((h.rdr.setNew hr).setNew hr).setNew hr).setNew hr).setNew hr,((((h.st.setNew hn).setNew hn).setNew hn).setNew hn).setNew hn, ?_,valAt_stored h.res c,fun j hj=>by simpa using h.frz j hj,hlt,by simpa using h.size⟩
  simp [go_sem,h.box]
theorem isVal_leaf (W:World) (B:Nat) (k n:Int) (s:ByteArray) (hk0:0≤k) (hk1:k<256) (hn0: -9223372036854775808≤n) (hn1:n≤9223372036854775807) (hs:s.size≤140737488355328):IsVal W B (.mk k n s [] []) ⟨k,n,s,none,0,0,none,0,0⟩:=
  .mk ⟨k,n,s,none,0,0,none,0,0⟩ [] [] (fun _=>vzero) (fun _=>vzero) 0 0 0 0 ⟨hk0,hk1,hn0,hn1,hs,(by decide:(0:Nat)≤0),(by decide:(0:Nat)≤9223372036854775807),(by decide:(0:Nat)≤1466015503701),(by decide:(0:Nat)≤0),(by decide:(0:Nat)≤9223372036854775807),(by decide:(0:Nat)≤1466015503701)⟩ rfl rfl (fun h=>by cases h) (fun h=>by cases h) (fun i h=>by cases h) (fun i h=>by cases h) (fun i h=>by cases h) (fun i h=>by cases h)
def RVPost (w:World) (rb:Nat) (d:Int) (r:Option (V×List UInt8)) (e:Ending) (w':World):Prop:=
  RStep w w' rb∧match r with
    |some (x,r)=>(∃c:VC,e= .returned (.agg #[.int .u8 c.k, .int .i64 c.n, .string c.s, .slice c.la c.ll c.lc, .slice c.oa c.ol c.oc])∧IsVal (only (fun b=>w.heap.size≤b) w') w'.heap.size x c)∧Rdr w' rb r d
    |none=>e= .panicked [short] ∧∃bs',Rdr w' rb bs' d
theorem RB.leave {w W:World} {rb base:Nat} {r:List UInt8} {d:Int} {c:VC} {x:V} {tmps:Array Value} (h:RB w W rb r (d+1) c) (hx:IsVal (only (fun b=>base≤b) W) W.heap.size x c) (hb:w.heap.size≤base) (hd:0≤d) (hd2:d≤100) (ht:tmps[2]? =some (.pointer (some ⟨w.heap.size+1,0,none⟩))):
    Leaves Tryz.prog Tryz.f72 tmps (RVPost w rb d (some (x,r))) [{ target:= .fn (.func 96) #[.pointer (some ⟨w.heap.size,0,none⟩)],args:= #[] }] .returning W:=by
  have hlt:=h.lt
  refine door_ret h.box h.rdr hd hd2 ht h.res (by omega) fun hR hS=>⟨h.st.trans hS,⟨c,rfl, ?_⟩,hR⟩
  exact (hx.sub (shows_step fun k hk hl=>⟨by omega,hS.block k hl (by omega)⟩)).more hS.size
theorem RB.panic {w W:World} {rb:Nat} {r:List UInt8} {d:Int} {c:VC} {tmps:Array Value} (h:RB w W rb r (d+1) c) (hd:0≤d) (hd2:d≤100):
    Leaves Tryz.prog Tryz.f72 tmps (RVPost w rb d none) [{ target:= .fn (.func 96) #[.pointer (some ⟨w.heap.size,0,none⟩)],args:= #[] }] (.panicking [short]) W:=
  door_panic h.box h.rdr hd hd2 fun hR hS=>⟨h.st.trans hS,rfl,r,hR⟩
end Go.Proofs.YtgcfhkceejcliaaGreatDoor
namespace Go.Proofs.YtgcfhkceejcliaaGreatDoor
open Go.RowKit
theorem i64_lo (x:Int): -9223372036854775808≤wrap64 x:=by unfold wrap64;omega
theorem i64_hi (x:Int):wrap64 x≤9223372036854775807:=by unfold wrap64;omega
theorem rdM_some {k n:Nat} {bs r:List UInt8} (hr:rdM k bs=some (n,r)):rdN k bs=some (n,r)∧n≤r.length:=by
  unfold rdM at hr
  cases h:rdN k bs with
  |none=>rw [h] at hr;cases hr
  | some p=>
    rw [h] at hr
    simp only [Option.bind_some] at hr
    split at hr
    · injection hr with hr;subst hr;exact ⟨rfl,by assumption⟩
    · cases hr
theorem rdT_some {bs r:List UInt8} {s:ByteArray} (hr:rdT bs=some (s,r)):∃n q,rdM 4 bs=some (n,q)∧s=⟨(q.take n).toArray⟩∧r=q.drop n:=by
  unfold rdT at hr
  cases h:rdM 4 bs with
  |none=>rw [h] at hr;cases hr
  | some p=>
    obtain ⟨n,q⟩:=p
    rw [h] at hr
    simp only [Option.bind_some] at hr
    injection hr with hr;injection hr with h1 h2
    exact ⟨n,q,rfl,h1.symm,h2.symm⟩
theorem rdT_size {bs r:List UInt8} {s:ByteArray} (hr:rdT bs=some (s,r)):s.size≤140737488355328:=by
  obtain ⟨n,q,h1,rfl,rfl⟩:=rdT_some hr
  have h2:=rdN_lt (rdM_some h1).1
  have h3:(⟨(q.take n).toArray⟩:ByteArray).size=(q.take n).length:=by simp [ByteArray.size]
  rw [h3,List.length_take]
  omega
end Go.Proofs.YtgcfhkceejcliaaGreatDoor
namespace Go.Proofs.YtgcfhkceejcliaaGreatDoor
open Go.RowKit
theorem grown_below {w w':World} {row:Option Nat} {B:Nat} (hg:w.grownBy w' row) (hr:∀k,row=some k→B≤k) (hB:B≤w.heap.size):Below B w w':=
  ⟨hg.os,hg.tape,hg.output,hg.size,fun k hk=>hg.block k (by omega) (fun e=>by have:=hr k e.symm;omega)⟩
theorem Rdr.below {w w':World} {rb B:Nat} {bs:List UInt8} {d:Int} (h:Rdr w rb bs d) (hb:Below B w w') (hB:rb<B):Rdr w' rb bs d:=by
  obtain ⟨⟨a,n,c,h0,hI⟩,h1,h2,h3⟩:=h
  exact ⟨⟨a,n,c,keep_cell hb h0 hB,hI.keep (hb.mono (Nat.le_of_lt hB))⟩,keep_cell hb h1 hB,(hb.frozen hB).trans h2,(hb.frozen hB).trans h3⟩
theorem RB.below {w W W':World} {rb:Nat} {bs:List UInt8} {d:Int} {c:VC} (h:RB w W rb bs d c) (hb:Below (w.heap.size+2) W W'):RB w W' rb bs d c:=by
  have hlt:=h.lt
  have hs:RStep w W' rb:=⟨hb.os.trans h.st.os,hb.tape.trans h.st.tape,hb.output.trans h.st.output,Nat.le_trans h.st.size hb.size,fun k hk hr=>(hb.block k (by omega)).trans (h.st.block k hk hr)⟩
  exact ⟨h.rdr.below hb (by omega),hs,keep_cell hb h.box (by omega),h.res.keep hb (by omega),fun j hj=>(hb.frozen (p:=⟨w.heap.size+1,j,none⟩) (show w.heap.size+1<w.heap.size+2 by omega)).trans (h.frz j hj),hlt,Nat.le_trans h.size hb.size⟩
theorem VB.keep {W W':World} {vb B:Nat} {c:VC} (h:VB W vb c) (hb:Below B W W') (hB:vb<B):VB W' vb c:=
  ⟨h.at_.keep hb hB,fun j=>(hb.frozen hB).trans (h.fr j)⟩
theorem VB.setL {W:World} {vb:Nat} {c:VC} (h:VB W vb c) (a:Option Addr) (n cp:Nat):VB (W.setCell ⟨vb,3,none⟩ (.slice a n cp)) vb ⟨c.k,c.n,c.s,a,n,cp,c.oa,c.ol,c.oc⟩:=by
  have g0:=h.at_.c0
  have g1:W.cell? ⟨vb,1,none⟩=_:=h.at_.c1
  have g2:W.cell? ⟨vb,2,none⟩=_:=h.at_.c2
  have g3:W.cell? ⟨vb,3,none⟩=_:=h.at_.c3
  have g4:W.cell? ⟨vb,4,none⟩=_:=h.at_.c4
  refine ⟨?_,fun j=>by simpa using h.fr j⟩
  constructor<;>simp [go_sem,g0,g1,g2,g3,g4]
theorem VB.setO {W:World} {vb:Nat} {c:VC} (h:VB W vb c) (a:Option Addr) (n cp:Nat):VB (W.setCell ⟨vb,4,none⟩ (.slice a n cp)) vb ⟨c.k,c.n,c.s,c.la,c.ll,c.lc,a,n,cp⟩:=by
  have g0:=h.at_.c0
  have g1:W.cell? ⟨vb,1,none⟩=_:=h.at_.c1
  have g2:W.cell? ⟨vb,2,none⟩=_:=h.at_.c2
  have g3:W.cell? ⟨vb,3,none⟩=_:=h.at_.c3
  have g4:W.cell? ⟨vb,4,none⟩=_:=h.at_.c4
  refine ⟨?_,fun j=>by simpa using h.fr j⟩
  constructor<;>simp [go_sem,g0,g1,g2,g3,g4]
theorem drew_below (w:World):Below w.heap.size w w.drew:=(Below.refl _ _).drew
structure LI (w wr:World) (rb vb:Nat) (d:Int) (k:Nat) (kd:Nat) (q:List UInt8) (j:Nat) (a:Option Addr) (m c:Nat) (xs:List V) (cs:List VC) (rj:List UInt8):Prop where
  rd:rdL (fun x=>rdV k x) j q=some (xs,rj)
  len:xs.length=j
  cen:cs.length=j
  box:RB w wr rb rj (d+1) vzero
  vb_:VB wr vb ⟨kd,0, .empty,a,m,c,none,0,0⟩
  row:RowV wr (vb+1) (.slice a m c) xs cs
  lo:w.heap.size+2≤vb
theorem LI.round {w wr w4 w5:World} {rb vb:Nat} {d:Int} {k kd:Nat} {q:List UInt8} {j:Nat} {a:Option Addr} {m c:Nat} {xs:List V} {cs:List VC} {rj r2:List UInt8} {x:V} {cx:VC} {g cap:Nat} {t:TypeId}
    (h:LI w wr rb vb d k kd q j a m c xs cs rj) (hx:rdV k rj=some (x,r2)) (hS:RStep wr.drew w4 rb) (hI:IsVal (only (fun b=>wr.drew.heap.size≤b) w4) w4.heap.size x cx) (hR:Rdr w4 rb r2 (d+1))
    (hown:w5.ownsRow (vb+1) 33 5 (.slice (some ⟨g,0,none⟩) (j+1) cap) (j+1) (cs.flatMap vcells++vcells cx)) (hg:(w4.alloc (.cells #[.int .u8 cx.k, .int .i64 cx.n, .string cx.s, .slice cx.la cx.ll cx.lc, .slice cx.oa cx.ol cx.oc] t)).grownBy w5 (Value.slice a m c).ownBlock)
    (hat:(Value.slice a m c).ownBlock=some g∨g=w4.heap.size+1):
    LI w (w5.setCell ⟨vb,3,none⟩ (.slice (some ⟨g,0,none⟩) (j+1) cap)) rb vb d k kd q (j+1) (some ⟨g,0,none⟩) (j+1) cap (xs++ [x]) (cs++ [cx]) r2:=by
  have hlo:=h.lo
  have hlt:=h.box.lt
  have hdz:wr.drew.heap.size=wr.heap.size:=rfl
  have hb1:=drew_below wr
  have hrow:=(h.row.later (PV.closed xs cs) (.of_below rb hb1) (by omega)).later (PV.closed xs cs) hS (by omega)
  have hrlt:∀b,(Value.slice a m c).ownBlock=some b→vb+1≤b∧b<wr.heap.size:=h.row.lt
  have hba:Below w4.heap.size w4 (w4.alloc (.cells #[.int .u8 cx.k, .int .i64 cx.n, .string cx.s, .slice cx.la cx.ll cx.lc, .slice cx.oa cx.ol cx.oc] t)):=(Below.refl _ _).alloc (Nat.le_refl _) _
  have hsz4:wr.heap.size≤w4.heap.size:=hS.size
  have hvlt:=h.vb_.lt
  have hgb:Below (vb+1) (w4.alloc (.cells #[.int .u8 cx.k, .int .i64 cx.n, .string cx.s, .slice cx.la cx.ll cx.lc, .slice cx.oa cx.ol cx.oc] t)) w5:=grown_below hg (fun b hb=>(hrlt b hb).1) (by simp;omega)
  have hb45:Below (vb+1) w4 w5:=(hba.mono (by omega)).trans hgb
  obtain ⟨s1,s2⟩:=PV.snoc (l:=xs) (cs:=cs) (by rw [h.len,h.cen]) x cx
  have hnew:PV (xs++ [x]) (cs++ [cx]) (only (Free (vb+1) (.slice a m c)) w4) w4.heap.size xs.length:=s1 _ _ (hI.sub (shows_step fun b hb _=>⟨⟨by rw [hdz] at hb;omega,fun e=>by have:=(hrlt b e.symm).2;rw [hdz] at hb;omega⟩,rfl⟩))
  have hpush:=Row.push (PV.closed (xs++ [x]) (cs++ [cx])) hrow hba hg (u':= .slice (some ⟨g,0,none⟩) (j+1) cap) (news:=vcells cx) (by rw [h.len];exact hown) (by
    rcases hat with e|e
    · left;rw [e];rfl
    · right;intro b hb;have:g=b:=by simpa [Value.ownBlock] using hb
      omega) hnew s2
  have hbox:=((h.box.behind hb1).next hS hR).below (hb45.mono (by omega))
  have hvb:=((h.vb_.keep hb1 hvlt).next hS (by omega)).keep hb45 (by omega)
  refine ⟨?_,by simp [h.len],by simp [h.cen],hbox.set (by omega),hvb.setL _ _ _, ?_,hlo⟩
  · rw [rdL,h.rd];simp only [Option.bind_some,hx]
  · have hr2:RowV w5 (vb+1) (.slice (some ⟨g,0,none⟩) (j+1) cap) (xs++ [x]) (cs++ [cx]):=by
      show Row _ _ _ _ _ _ _ _
      rw [flat_snoc,List.length_append,List.length_singleton]
      exact hpush
    exact hr2.set (PV.closed _ _) (by omega)
def PanicP (D:List Deferred) (Pw:World→Prop) (Q:Exit→Act→World→Prop):Exit→Act→World→Prop
  | .panic c,a,w=>a.defers=D∧c= [short] ∧Pw w
  |e,a,w=>Q e a w
theorem PanicP.normal {D:List Deferred} {Pw:World→Prop} {Q:Exit→Act→World→Prop} {a:Act} {w:World} (h:Q .normal a w):PanicP D Pw Q .normal a w:=h
theorem RStep.self {W:World} {b o:Nat} {x:Value} :RStep W (W.setCell ⟨b,o,none⟩ x) b:=⟨rfl,rfl,rfl,by simp,fun k hk hr=>heap_setCell_other _ _ _ _ hr⟩
theorem isVal_far {W W':World} {b base:Nat} {x:V} {c:VC} (h:IsVal (only (fun k=>base≤k) W) W.heap.size x c) (s:RStep W W' b) (hb:b<base):IsVal (only (fun k=>base≤k) W') W'.heap.size x c:=
  (h.sub (shows_step fun k hk hl=>⟨hk,s.block k hl (by omega)⟩)).more s.size
end Go.Proofs.YtgcfhkceejcliaaGreatDoor
namespace Go.Proofs.YtgcfhkceejcliaaGreatDoor
open Go.RowKit
structure BC (W:World) (b:Nat) (cs:List Value):Prop where
  at_:∀j x,cs[j]? =some x→W.cell? ⟨b,j,none⟩=some x
  fr:∀j,W.frozen? ⟨b,j,none⟩=false
  lt:b<W.heap.size
theorem BC.start (w:World) (cs:Array Value) (t:TypeId):BC (w.alloc (.cells cs t)) w.heap.size cs.toList:=
  ⟨fun j x hj=>cells_new w cs t j x (by rw [←hj];simp),fun j=>frozen_new w cs t j,by simp⟩
theorem BC.next {W W':World} {b rb:Nat} {cs:List Value} (h:BC W b cs) (s:RStep W W' rb) (hb:b≠rb):BC W' b cs:=
  ⟨fun j x hj=>s.cell (h.at_ j x hj) hb,fun j=>(s.frozen h.lt hb).trans (h.fr j),Nat.lt_of_lt_of_le h.lt s.size⟩
theorem BC.keep {W W':World} {b B:Nat} {cs:List Value} (h:BC W b cs) (hb:Below B W W') (hB:b<B):BC W' b cs:=
  ⟨fun j x hj=>keep_cell hb (h.at_ j x hj) hB,fun j=>(hb.frozen (p:=⟨b,j,none⟩) hB).trans (h.fr j),Nat.lt_of_lt_of_le h.lt hb.size⟩
theorem BC.set {W:World} {b i:Nat} {x:Value} {cs:List Value} (h:BC W b cs) (hi:i<cs.length):BC (W.setCell ⟨b,i,none⟩ x) b (cs.set i x):=by
  refine ⟨fun j y hj=> ?_,fun j=>by simpa using h.fr j,by simpa using h.lt⟩
  by_cases e:i=j
  · subst e
    rw [List.getElem?_set_self hi] at hj
    injection hj with hj
    subst hj
    exact World.cell?_setCell_same _ _ _ (h.at_ i cs[i] (by simp [hi]))
  · rw [List.getElem?_set_ne e] at hj
    rw [World.cell?_setCell_other]
    · exact h.at_ j y hj
    · intro e2;injection e2 with _ e3;exact e (by first|exact e3|exact e3.symm)
theorem BC.far {W:World} {b b' o:Nat} {x:Value} {cs:List Value} (h:BC W b cs) (hb:b≠b'):BC (W.setCell ⟨b',o,none⟩ x) b cs:=
  h.next RStep.self hb
theorem rdS_bnd {bs r:List UInt8} {s:St} (h:rdS bs=some (s,r)):s.Bnd:=by
  unfold rdS at h
  cases h1:rdN 1 bs with
  |none=>rw [h1] at h;cases h
  | some p=>
    rw [h1] at h
    simp only [Option.bind_some] at h
    split at h
    · cases h2:rdN 8 p.2 with
      |none=>rw [h2] at h;cases h
      | some q=>
        rw [h2] at h
        simp only [Option.bind_some] at h
        injection h with h;injection h with h h';subst h
        exact ⟨i64_lo _,i64_hi _,(by decide:ByteArray.empty.size≤140737488355328)⟩
    · cases h2:rdT p.2 with
      |none=>rw [h2] at h;cases h
      | some q=>
        rw [h2] at h
        simp only [Option.bind_some] at h
        injection h with h;injection h with h h';subst h
        exact ⟨(by decide:(-9223372036854775808:Int)≤0),(by decide:(0:Int)≤9223372036854775807),rdT_size h2⟩
end Go.Proofs.YtgcfhkceejcliaaGreatDoor
