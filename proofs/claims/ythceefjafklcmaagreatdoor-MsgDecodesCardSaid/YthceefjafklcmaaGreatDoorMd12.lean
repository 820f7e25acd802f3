/-
  Contracts of the functions that the law reaches: take, many, text of the program's reader. reader.value's deferred call, and how the function is left.
-/
import Derived.Test.YthceefjafklcmaaGreatDoorMd11
import Derived.Laws.BitsAllLaws
import Derived.Laws.IdiomStrings
import Derived.Lib.BufferRead
namespace Go.Proofs.YthceefjafklcmaaGreatDoor
open Go.RowKit
theorem num_take (l:List UInt8) (k:Nat) (h:k<l.length):num (l.take (k+1))=num (l.take k)*256+l[k].toNat:=by
  rw [take_snoc l k h,num_snoc]
theorem or_byte (m y:Nat) (hm:m<72057594037927936) (hy:y<256):bits BinOp.or IntKind.u64 ((m:Int)*256) (y:Int)=((m*256+y:Nat):Int):=by
  have e:(m:Int)*256=((m*256:Nat):Int):=by omega
  have h:m*256+y=m*256|||y:=by
    have:=Nat.shiftLeft_add_eq_or_of_lt (show y<2 ^ 8 by omega) m
    simpa [Nat.shiftLeft_eq] using this
  have h2:=u64_or_nat (m*256) y (by omega) (by omega)
  have h3:bits BinOp.or IntKind.u64 ((m:Int)*256) (y:Int)=bits BinOp.or IntKind.u64 ((m*256:Nat):Int) (y:Int):=congrArg (fun z=>bits BinOp.or IntKind.u64 z (y:Int)) e
  exact h3.trans (h2.trans (congrArg (fun z:Nat=>(z:Int)) h.symm))
theorem wrapEq (x:Int):IntKind.i64.wrap x=wrap64 x:=by
  rw [IntKind.wrap_i64,wrap64]
theorem conv_isB {w:World} {B:Nat} {a:Option Addr} {n c:Nat} {bs:List UInt8} (h:IsB w B a n c bs):(convert 22 9 (.slice a n c)).run Tryz.prog w= .ok (.string ⟨bs.toArray⟩) w:=by
  have hu:Tryz.prog.underlying 5=some (.int .u8):=by kernel_rfl
  obtain ⟨rfl,h2,h3,b,o,h5,h6⟩:=h
  cases a with
  | some a=>
    by_cases hz:0<bs.length
    · obtain ⟨e,hb⟩:=h5 hz
      have e:=Option.some.inj e
      subst e
      exact run_convert_bytes_back w _ _ 5 _ c bs Tryz.underlying22 hu Tryz.underlying9 (fun j hj=>by rw [add_at];exact h6 j hj)
    · have:bs= [] :=List.length_eq_zero_iff.1 (by omega)
      subst this
      exact run_convert_bytes_back w _ _ 5 _ c [] Tryz.underlying22 hu Tryz.underlying9 (fun j hj=>by cases hj)
  | none=>
    have:bs= [] :=by
      cases bs with
      |nil=>rfl
      |cons x r=>obtain ⟨e,_⟩:=h5 (by simp);cases e
    subst this
    exact Lib.run_convert_nil_bytes w _ _ 5 c Tryz.underlying22 hu Tryz.underlying9
set_option maxHeartbeats 4000000 in
set_option maxRecDepth 100000 in
theorem takeU8_cut (w:World) (rb:Nat) (bs:List UInt8) (d:Int) (h:Rdr w rb bs d) (k:Nat) (hk8:k≤8) (hk:k≤bs.length):
    Calls Tryz.prog 70 #[.pointer (some ⟨rb,0,none⟩), .int .i64 k] w fun e w'=>e= .returned (.int .u8 (IntKind.u8.wrap (num (bs.take k))))∧Rdr w' rb (bs.drop k) d∧RStep w w' rb:=by
  have HC:=Lib.hid (cut_some w rb bs d h k hk)
  have hl:(bs.take k).length=k:=by rw [List.length_take];omega
  obtain ⟨ts,hts⟩:∃ts,bs.take k=ts:=⟨_,rfl⟩
  rw [hts] at HC hl ⊢
  clear h hts hk
  go_enter Tryz.func70,Tryz.ntmps70
  go_wp2_with (go_at_call 102;(with_reducible refine (HC.out).mono ?_);rintro e w1 ⟨⟨a,n,c,rfl,hI⟩,hR,hS⟩;have hn:=hI.len;have hc1:=hI.cap;have hc2:=hI.max;have HI:=Lib.hid hI;have HN:=Lib.hid hn;clear hI hn)
  go_loopw [5,7,12] (fun x _ i wr=>wr=w1∧∃j:Nat,j≤n∧i= .int .i64 j∧x= .int .u64 (num (ts.take j):Int)) (fun _ _ i _=>n - (intOf i).toNat)
  case atStart=>exact ⟨rfl,0,Nat.zero_le _,rfl,rfl⟩
  case round=>
    obtain ⟨rfl,j,hj,rfl,rfl⟩:=hrel
    by_cases hlt:j<n
    · obtain ⟨b,o,hp,rfl,hb,hcell⟩:=HI.out.get hlt
      have hlt2:num (ts.take j)<72057594037927936:=by
        have h1:=num_lt (ts.take j)
        have h2:(ts.take j).length≤7:=by rw [List.length_take];have:=HN.out;omega
        exact Nat.lt_of_lt_of_le h1 (Nat.le_trans (Nat.pow_le_pow_right (by omega) h2) (by decide))
      obtain ⟨m,hm⟩:∃m,num (ts.take j)=m:=⟨_,rfl⟩
      obtain ⟨y,hy⟩:∃y,(ts[j]'hp).toNat=y:=⟨_,rfl⟩
      have hy2:y<256:=by rw [←hy];exact (ts[j]'hp).toNat_lt
      have ht:=num_take ts j hp
      rw [hm,hy] at ht
      rw [hm] at hlt2 ⊢
      rw [hy] at hcell
      have HT:=Lib.hid ht
      have HO:=Lib.hid (or_byte m y hlt2 hy2)
      clear ht hm hy
      go_wp2_with fail
      go_roundw
      case rel=>exact ⟨trivial,j+1,by omega,by go_num,by rw [HT.out,HO.out]⟩
      case measure=>simp [intOf];omega
    · go_wp2_with fail
      go_returns
      exact ⟨by rw [List.take_of_length_le (by have:=HN.out;omega)] <;>rfl,hR,hS⟩
set_option maxHeartbeats 1000000 in
set_option maxRecDepth 100000 in
theorem takeU8_none (w:World) (rb:Nat) (bs:List UInt8) (d:Int) (h:Rdr w rb bs d) (k:Nat) (hr:rdN k bs=none):
    Calls Tryz.prog 70 #[.pointer (some ⟨rb,0,none⟩), .int .i64 k] w fun e w'=>e= .panicked [short] ∧w'=w:=by
  have HC:=Lib.hid (cut_none w rb bs d h k (by unfold rdN at hr;split at hr<;>first|omega|cases hr))
  clear h hr
  go_enter Tryz.func70,Tryz.ntmps70
  go_wp2_with (go_at_call 102;(with_reducible refine (HC.out).mono ?_);rintro e w1 ⟨rfl,rfl⟩)
  exact ⟨rfl,rfl,rfl⟩
theorem rdN_some {k n:Nat} {bs r:List UInt8} (hr:rdN k bs=some (n,r)):k≤bs.length∧num (bs.take k)=n∧bs.drop k=r:=by
  unfold rdN at hr;split at hr
  · injection hr with hr;injection hr with h1 h2;exact ⟨by assumption,h1,h2⟩
  · cases hr
theorem takeU8_some (w:World) (rb:Nat) (bs:List UInt8) (d:Int) (h:Rdr w rb bs d) (k:Nat) (hk8:k≤8) {n:Nat} {r:List UInt8} (hr:rdN k bs=some (n,r)):
    Calls Tryz.prog 70 #[.pointer (some ⟨rb,0,none⟩), .int .i64 k] w fun e w'=>e= .returned (.int .u8 (IntKind.u8.wrap n))∧Rdr w' rb r d∧RStep w w' rb:=by
  obtain ⟨h1,rfl,rfl⟩:=rdN_some hr
  exact takeU8_cut w rb bs d h k hk8 h1
set_option maxHeartbeats 4000000 in
set_option maxRecDepth 100000 in
theorem takeInt_cut (w:World) (rb:Nat) (bs:List UInt8) (d:Int) (h:Rdr w rb bs d) (k:Nat) (hk8:k≤8) (hk:k≤bs.length):
    Calls Tryz.prog 103 #[.pointer (some ⟨rb,0,none⟩), .int .i64 k] w fun e w'=>e= .returned (.int .i64 (IntKind.i64.wrap (num (bs.take k))))∧Rdr w' rb (bs.drop k) d∧RStep w w' rb:=by
  have HC:=Lib.hid (cut_some w rb bs d h k hk)
  have hl:(bs.take k).length=k:=by rw [List.length_take];omega
  obtain ⟨ts,hts⟩:∃ts,bs.take k=ts:=⟨_,rfl⟩
  rw [hts] at HC hl ⊢
  clear h hts hk
  go_enter Tryz.func103,Tryz.ntmps103
  go_wp2_with (go_at_call 102;(with_reducible refine (HC.out).mono ?_);rintro e w1 ⟨⟨a,n,c,rfl,hI⟩,hR,hS⟩;have hn:=hI.len;have hc1:=hI.cap;have hc2:=hI.max;have HI:=Lib.hid hI;have HN:=Lib.hid hn;clear hI hn)
  go_loopw [5,7,12] (fun x _ i wr=>wr=w1∧∃j:Nat,j≤n∧i= .int .i64 j∧x= .int .u64 (num (ts.take j):Int)) (fun _ _ i _=>n - (intOf i).toNat)
  case atStart=>exact ⟨rfl,0,Nat.zero_le _,rfl,rfl⟩
  case round=>
    obtain ⟨rfl,j,hj,rfl,rfl⟩:=hrel
    by_cases hlt:j<n
    · obtain ⟨b,o,hp,rfl,hb,hcell⟩:=HI.out.get hlt
      have hlt2:num (ts.take j)<72057594037927936:=by
        have h1:=num_lt (ts.take j)
        have h2:(ts.take j).length≤7:=by rw [List.length_take];have:=HN.out;omega
        exact Nat.lt_of_lt_of_le h1 (Nat.le_trans (Nat.pow_le_pow_right (by omega) h2) (by decide))
      obtain ⟨m,hm⟩:∃m,num (ts.take j)=m:=⟨_,rfl⟩
      obtain ⟨y,hy⟩:∃y,(ts[j]'hp).toNat=y:=⟨_,rfl⟩
      have hy2:y<256:=by rw [←hy];exact (ts[j]'hp).toNat_lt
      have ht:=num_take ts j hp
      rw [hm,hy] at ht
      rw [hm] at hlt2 ⊢
      rw [hy] at hcell
      have HT:=Lib.hid ht
      have HO:=Lib.hid (or_byte m y hlt2 hy2)
      clear ht hm hy
      go_wp2_with fail
      go_roundw
      case rel=>exact ⟨trivial,j+1,by omega,by go_num,by rw [HT.out,HO.out]⟩
      case measure=>simp [intOf];omega
    · go_wp2_with fail
      go_returns
      exact ⟨by rw [List.take_of_length_le (by have:=HN.out;omega)] <;>exact ret_int (wrapEq _).symm,hR,hS⟩
set_option maxHeartbeats 1000000 in
set_option maxRecDepth 100000 in
theorem takeInt_none (w:World) (rb:Nat) (bs:List UInt8) (d:Int) (h:Rdr w rb bs d) (k:Nat) (hr:rdN k bs=none):
    Calls Tryz.prog 103 #[.pointer (some ⟨rb,0,none⟩), .int .i64 k] w fun e w'=>e= .panicked [short] ∧w'=w:=by
  have HC:=Lib.hid (cut_none w rb bs d h k (by unfold rdN at hr;split at hr<;>first|omega|cases hr))
  clear h hr
  go_enter Tryz.func103,Tryz.ntmps103
  go_wp2_with (go_at_call 102;(with_reducible refine (HC.out).mono ?_);rintro e w1 ⟨rfl,rfl⟩)
  exact ⟨rfl,rfl,rfl⟩
theorem takeInt_some (w:World) (rb:Nat) (bs:List UInt8) (d:Int) (h:Rdr w rb bs d) (k:Nat) (hk8:k≤8) {n:Nat} {r:List UInt8} (hr:rdN k bs=some (n,r)):
    Calls Tryz.prog 103 #[.pointer (some ⟨rb,0,none⟩), .int .i64 k] w fun e w'=>e= .returned (.int .i64 (IntKind.i64.wrap n))∧Rdr w' rb r d∧RStep w w' rb:=by
  obtain ⟨h1,rfl,rfl⟩:=rdN_some hr
  exact takeInt_cut w rb bs d h k hk8 h1
set_option maxHeartbeats 4000000 in
set_option maxRecDepth 100000 in
theorem takeU32_cut (w:World) (rb:Nat) (bs:List UInt8) (d:Int) (h:Rdr w rb bs d) (k:Nat) (hk8:k≤8) (hk:k≤bs.length):
    Calls Tryz.prog 71 #[.pointer (some ⟨rb,0,none⟩), .int .i64 k] w fun e w'=>e= .returned (.int .u32 (IntKind.u32.wrap (num (bs.take k))))∧Rdr w' rb (bs.drop k) d∧RStep w w' rb:=by
  have HC:=Lib.hid (cut_some w rb bs d h k hk)
  have hl:(bs.take k).length=k:=by rw [List.length_take];omega
  obtain ⟨ts,hts⟩:∃ts,bs.take k=ts:=⟨_,rfl⟩
  rw [hts] at HC hl ⊢
  clear h hts hk
  go_enter Tryz.func71,Tryz.ntmps71
  go_wp2_with (go_at_call 102;(with_reducible refine (HC.out).mono ?_);rintro e w1 ⟨⟨a,n,c,rfl,hI⟩,hR,hS⟩;have hn:=hI.len;have hc1:=hI.cap;have hc2:=hI.max;have HI:=Lib.hid hI;have HN:=Lib.hid hn;clear hI hn)
  go_loopw [5,7,12] (fun x _ i wr=>wr=w1∧∃j:Nat,j≤n∧i= .int .i64 j∧x= .int .u64 (num (ts.take j):Int)) (fun _ _ i _=>n - (intOf i).toNat)
  case atStart=>exact ⟨rfl,0,Nat.zero_le _,rfl,rfl⟩
  case round=>
    obtain ⟨rfl,j,hj,rfl,rfl⟩:=hrel
    by_cases hlt:j<n
    · obtain ⟨b,o,hp,rfl,hb,hcell⟩:=HI.out.get hlt
      have hlt2:num (ts.take j)<72057594037927936:=by
        have h1:=num_lt (ts.take j)
        have h2:(ts.take j).length≤7:=by rw [List.length_take];have:=HN.out;omega
        exact Nat.lt_of_lt_of_le h1 (Nat.le_trans (Nat.pow_le_pow_right (by omega) h2) (by decide))
      obtain ⟨m,hm⟩:∃m,num (ts.take j)=m:=⟨_,rfl⟩
      obtain ⟨y,hy⟩:∃y,(ts[j]'hp).toNat=y:=⟨_,rfl⟩
      have hy2:y<256:=by rw [←hy];exact (ts[j]'hp).toNat_lt
      have ht:=num_take ts j hp
      rw [hm,hy] at ht
      rw [hm] at hlt2 ⊢
      rw [hy] at hcell
      have HT:=Lib.hid ht
      have HO:=Lib.hid (or_byte m y hlt2 hy2)
      clear ht hm hy
      go_wp2_with fail
      go_roundw
      case rel=>exact ⟨trivial,j+1,by omega,by go_num,by rw [HT.out,HO.out]⟩
      case measure=>simp [intOf];omega
    · go_wp2_with fail
      go_returns
      exact ⟨by rw [List.take_of_length_le (by have:=HN.out;omega)] <;>rfl,hR,hS⟩
set_option maxHeartbeats 1000000 in
set_option maxRecDepth 100000 in
theorem takeU32_none (w:World) (rb:Nat) (bs:List UInt8) (d:Int) (h:Rdr w rb bs d) (k:Nat) (hr:rdN k bs=none):
    Calls Tryz.prog 71 #[.pointer (some ⟨rb,0,none⟩), .int .i64 k] w fun e w'=>e= .panicked [short] ∧w'=w:=by
  have HC:=Lib.hid (cut_none w rb bs d h k (by unfold rdN at hr;split at hr<;>first|omega|cases hr))
  clear h hr
  go_enter Tryz.func71,Tryz.ntmps71
  go_wp2_with (go_at_call 102;(with_reducible refine (HC.out).mono ?_);rintro e w1 ⟨rfl,rfl⟩)
  exact ⟨rfl,rfl,rfl⟩
theorem takeU32_some (w:World) (rb:Nat) (bs:List UInt8) (d:Int) (h:Rdr w rb bs d) (k:Nat) (hk8:k≤8) {n:Nat} {r:List UInt8} (hr:rdN k bs=some (n,r)):
    Calls Tryz.prog 71 #[.pointer (some ⟨rb,0,none⟩), .int .i64 k] w fun e w'=>e= .returned (.int .u32 (IntKind.u32.wrap n))∧Rdr w' rb r d∧RStep w w' rb:=by
  obtain ⟨h1,rfl,rfl⟩:=rdN_some hr
  exact takeU32_cut w rb bs d h k hk8 h1
set_option maxHeartbeats 4000000 in
set_option maxRecDepth 100000 in
theorem takeI64_cut (w:World) (rb:Nat) (bs:List UInt8) (d:Int) (h:Rdr w rb bs d) (k:Nat) (hk8:k≤8) (hk:k≤bs.length):
    Calls Tryz.prog 76 #[.pointer (some ⟨rb,0,none⟩), .int .i64 k] w fun e w'=>e= .returned (.int .i64 (IntKind.i64.wrap (num (bs.take k))))∧Rdr w' rb (bs.drop k) d∧RStep w w' rb:=by
  have HC:=Lib.hid (cut_some w rb bs d h k hk)
  have hl:(bs.take k).length=k:=by rw [List.length_take];omega
  obtain ⟨ts,hts⟩:∃ts,bs.take k=ts:=⟨_,rfl⟩
  rw [hts] at HC hl ⊢
  clear h hts hk
  go_enter Tryz.func76,Tryz.ntmps76
  go_wp2_with (go_at_call 102;(with_reducible refine (HC.out).mono ?_);rintro e w1 ⟨⟨a,n,c,rfl,hI⟩,hR,hS⟩;have hn:=hI.len;have hc1:=hI.cap;have hc2:=hI.max;have HI:=Lib.hid hI;have HN:=Lib.hid hn;clear hI hn)
  go_loopw [5,7,12] (fun x _ i wr=>wr=w1∧∃j:Nat,j≤n∧i= .int .i64 j∧x= .int .u64 (num (ts.take j):Int)) (fun _ _ i _=>n - (intOf i).toNat)
  case atStart=>exact ⟨rfl,0,Nat.zero_le _,rfl,rfl⟩
  case round=>
    obtain ⟨rfl,j,hj,rfl,rfl⟩:=hrel
    by_cases hlt:j<n
    · obtain ⟨b,o,hp,rfl,hb,hcell⟩:=HI.out.get hlt
      have hlt2:num (ts.take j)<72057594037927936:=by
        have h1:=num_lt (ts.take j)
        have h2:(ts.take j).length≤7:=by rw [List.length_take];have:=HN.out;omega
        exact Nat.lt_of_lt_of_le h1 (Nat.le_trans (Nat.pow_le_pow_right (by omega) h2) (by decide))
      obtain ⟨m,hm⟩:∃m,num (ts.take j)=m:=⟨_,rfl⟩
      obtain ⟨y,hy⟩:∃y,(ts[j]'hp).toNat=y:=⟨_,rfl⟩
      have hy2:y<256:=by rw [←hy];exact (ts[j]'hp).toNat_lt
      have ht:=num_take ts j hp
      rw [hm,hy] at ht
      rw [hm] at hlt2 ⊢
      rw [hy] at hcell
      have HT:=Lib.hid ht
      have HO:=Lib.hid (or_byte m y hlt2 hy2)
      clear ht hm hy
      go_wp2_with fail
      go_roundw
      case rel=>exact ⟨trivial,j+1,by omega,by go_num,by rw [HT.out,HO.out]⟩
      case measure=>simp [intOf];omega
    · go_wp2_with fail
      go_returns
      exact ⟨by rw [List.take_of_length_le (by have:=HN.out;omega)] <;>exact ret_int (wrapEq _).symm,hR,hS⟩
set_option maxHeartbeats 1000000 in
set_option maxRecDepth 100000 in
theorem takeI64_none (w:World) (rb:Nat) (bs:List UInt8) (d:Int) (h:Rdr w rb bs d) (k:Nat) (hr:rdN k bs=none):
    Calls Tryz.prog 76 #[.pointer (some ⟨rb,0,none⟩), .int .i64 k] w fun e w'=>e= .panicked [short] ∧w'=w:=by
  have HC:=Lib.hid (cut_none w rb bs d h k (by unfold rdN at hr;split at hr<;>first|omega|cases hr))
  clear h hr
  go_enter Tryz.func76,Tryz.ntmps76
  go_wp2_with (go_at_call 102;(with_reducible refine (HC.out).mono ?_);rintro e w1 ⟨rfl,rfl⟩)
  exact ⟨rfl,rfl,rfl⟩
theorem takeI64_some (w:World) (rb:Nat) (bs:List UInt8) (d:Int) (h:Rdr w rb bs d) (k:Nat) (hk8:k≤8) {n:Nat} {r:List UInt8} (hr:rdN k bs=some (n,r)):
    Calls Tryz.prog 76 #[.pointer (some ⟨rb,0,none⟩), .int .i64 k] w fun e w'=>e= .returned (.int .i64 (IntKind.i64.wrap n))∧Rdr w' rb r d∧RStep w w' rb:=by
  obtain ⟨h1,rfl,rfl⟩:=rdN_some hr
  exact takeI64_cut w rb bs d h k hk8 h1
theorem rdN_lt {k n:Nat} {bs r:List UInt8} (hr:rdN k bs=some (n,r)):n<256 ^ k:=by
  obtain ⟨h1,rfl,rfl⟩:=rdN_some hr
  have:=num_lt (bs.take k)
  rwa [List.length_take,Nat.min_eq_left h1] at this
theorem takeU81_some (w:World) (rb:Nat) (bs:List UInt8) (d:Int) (h:Rdr w rb bs d) {n:Nat} {r:List UInt8} (hr:rdN 1 bs=some (n,r)):
    Calls Tryz.prog 70 #[.pointer (some ⟨rb,0,none⟩), .int .i64 1] w fun e w'=>e= .returned (.int .u8 n)∧Rdr w' rb r d∧RStep w w' rb:=by
  have hb:=rdN_lt hr
  have:=takeU8_some w rb bs d h 1 (by omega) hr
  rwa [show IntKind.u8.wrap (n:Int)=n by simp [IntKind.wrap,IntKind.bits,IntKind.signed];omega] at this
theorem takeU81_none (w:World) (rb:Nat) (bs:List UInt8) (d:Int) (h:Rdr w rb bs d) (hr:rdN 1 bs=none):
    Calls Tryz.prog 70 #[.pointer (some ⟨rb,0,none⟩), .int .i64 1] w fun e w'=>e= .panicked [short] ∧w'=w:=takeU8_none w rb bs d h 1 hr
theorem takeInt8_some (w:World) (rb:Nat) (bs:List UInt8) (d:Int) (h:Rdr w rb bs d) {n:Nat} {r:List UInt8} (hr:rdN 8 bs=some (n,r)):
    Calls Tryz.prog 103 #[.pointer (some ⟨rb,0,none⟩), .int .i64 8] w fun e w'=>e= .returned (.int .i64 (IntKind.i64.wrap n))∧Rdr w' rb r d∧RStep w w' rb:=by
  exact takeInt_some w rb bs d h 8 (by omega) hr
theorem takeInt8_none (w:World) (rb:Nat) (bs:List UInt8) (d:Int) (h:Rdr w rb bs d) (hr:rdN 8 bs=none):
    Calls Tryz.prog 103 #[.pointer (some ⟨rb,0,none⟩), .int .i64 8] w fun e w'=>e= .panicked [short] ∧w'=w:=takeInt_none w rb bs d h 8 hr
theorem takeInt4_some (w:World) (rb:Nat) (bs:List UInt8) (d:Int) (h:Rdr w rb bs d) {n:Nat} {r:List UInt8} (hr:rdN 4 bs=some (n,r)):
    Calls Tryz.prog 103 #[.pointer (some ⟨rb,0,none⟩), .int .i64 4] w fun e w'=>e= .returned (.int .i64 n)∧Rdr w' rb r d∧RStep w w' rb:=by
  have hb:=rdN_lt hr
  have:=takeInt_some w rb bs d h 4 (by omega) hr
  rwa [show IntKind.i64.wrap (n:Int)=n by simp [IntKind.wrap,IntKind.bits,IntKind.signed];omega] at this
theorem takeInt4_none (w:World) (rb:Nat) (bs:List UInt8) (d:Int) (h:Rdr w rb bs d) (hr:rdN 4 bs=none):
    Calls Tryz.prog 103 #[.pointer (some ⟨rb,0,none⟩), .int .i64 4] w fun e w'=>e= .panicked [short] ∧w'=w:=takeInt_none w rb bs d h 4 hr
theorem takeInt1_some (w:World) (rb:Nat) (bs:List UInt8) (d:Int) (h:Rdr w rb bs d) {n:Nat} {r:List UInt8} (hr:rdN 1 bs=some (n,r)):
    Calls Tryz.prog 103 #[.pointer (some ⟨rb,0,none⟩), .int .i64 1] w fun e w'=>e= .returned (.int .i64 n)∧Rdr w' rb r d∧RStep w w' rb:=by
  have hb:=rdN_lt hr
  have:=takeInt_some w rb bs d h 1 (by omega) hr
  rwa [show IntKind.i64.wrap (n:Int)=n by simp [IntKind.wrap,IntKind.bits,IntKind.signed];omega] at this
theorem takeInt1_none (w:World) (rb:Nat) (bs:List UInt8) (d:Int) (h:Rdr w rb bs d) (hr:rdN 1 bs=none):
    Calls Tryz.prog 103 #[.pointer (some ⟨rb,0,none⟩), .int .i64 1] w fun e w'=>e= .panicked [short] ∧w'=w:=takeInt_none w rb bs d h 1 hr
theorem takeU324_some (w:World) (rb:Nat) (bs:List UInt8) (d:Int) (h:Rdr w rb bs d) {n:Nat} {r:List UInt8} (hr:rdN 4 bs=some (n,r)):
    Calls Tryz.prog 71 #[.pointer (some ⟨rb,0,none⟩), .int .i64 4] w fun e w'=>e= .returned (.int .u32 n)∧Rdr w' rb r d∧RStep w w' rb:=by
  have hb:=rdN_lt hr
  have:=takeU32_some w rb bs d h 4 (by omega) hr
  rwa [show IntKind.u32.wrap (n:Int)=n by simp [IntKind.wrap,IntKind.bits,IntKind.signed];omega] at this
theorem takeU324_none (w:World) (rb:Nat) (bs:List UInt8) (d:Int) (h:Rdr w rb bs d) (hr:rdN 4 bs=none):
    Calls Tryz.prog 71 #[.pointer (some ⟨rb,0,none⟩), .int .i64 4] w fun e w'=>e= .panicked [short] ∧w'=w:=takeU32_none w rb bs d h 4 hr
theorem takeI648_some (w:World) (rb:Nat) (bs:List UInt8) (d:Int) (h:Rdr w rb bs d) {n:Nat} {r:List UInt8} (hr:rdN 8 bs=some (n,r)):
    Calls Tryz.prog 76 #[.pointer (some ⟨rb,0,none⟩), .int .i64 8] w fun e w'=>e= .returned (.int .i64 (IntKind.i64.wrap n))∧Rdr w' rb r d∧RStep w w' rb:=by
  exact takeI64_some w rb bs d h 8 (by omega) hr
theorem takeI648_none (w:World) (rb:Nat) (bs:List UInt8) (d:Int) (h:Rdr w rb bs d) (hr:rdN 8 bs=none):
    Calls Tryz.prog 76 #[.pointer (some ⟨rb,0,none⟩), .int .i64 8] w fun e w'=>e= .panicked [short] ∧w'=w:=takeI64_none w rb bs d h 8 hr
set_option maxHeartbeats 2000000 in
set_option maxRecDepth 100000 in
theorem many1_any (w:World) (rb:Nat) (bs:List UInt8) (d:Int) (h:Rdr w rb bs d):
    Calls Tryz.prog 72 #[.pointer (some ⟨rb,0,none⟩), .int .i64 1] w fun e w'=>RStep w w' rb∧(match rdM 1 bs with
      |some (n,r)=>e= .returned (.int .i64 n)∧Rdr w' rb r d∧n≤r.length
      |none=>e= .panicked [short] ∧∃bs',Rdr w' rb bs' d):=by
  have H:=Lib.hid h
  cases hr:rdN 1 bs with
  | none=>
    have hm:rdM 1 bs=none:=by rw [rdM,hr];rfl
    rw [hm]
    have HC:=Lib.hid (takeInt1_none w rb bs d h hr)
    clear h hm hr
    go_enter Tryz.func72,Tryz.ntmps72
    go_wp2_with (go_at_call 103;(with_reducible refine (HC.out).mono ?_);rintro e w1 ⟨rfl,rfl⟩)
    exact ⟨rfl, .refl _ _,rfl,bs,H.out⟩
  | some p=>
    obtain ⟨n,r⟩:=p
    have HC:=Lib.hid (takeInt1_some w rb bs d h hr)
    have hn4:n<4294967296:=Nat.lt_of_lt_of_le (rdN_lt hr) (by decide)
    by_cases hle:n≤r.length
    · have hm:rdM 1 bs=some (n,r):=by rw [rdM,hr];simp [hle]
      rw [hm]
      have HL:=Lib.hid hle
      clear h hm hr
      go_enter Tryz.func72,Tryz.ntmps72
      go_wp2_with (go_at_call 103;(with_reducible refine (HC.out).mono ?_);rintro e w1 ⟨rfl,hR,hS⟩;obtain ⟨⟨a,n2,c,h0,hI⟩,h1,h2,h3⟩:=id hR;have hn2:=hI.len;have hle2:¬n2<n:=(by omega);have HR:=Lib.hid hR;clear hI hn2 hle hR)
      go_returns
      exact ⟨hS,rfl,HR.out,HL.out⟩
    · have hm:rdM 1 bs=none:=by rw [rdM,hr];simp [hle]
      rw [hm]
      clear h hm hr
      go_enter Tryz.func72,Tryz.ntmps72
      go_wp2_with (go_at_call 103;(with_reducible refine (HC.out).mono ?_);rintro e w1 ⟨rfl,hR,hS⟩;obtain ⟨⟨a,n2,c,h0,hI⟩,h1,h2,h3⟩:=id hR;have hn2:=hI.len;have hle2:n2<n:=(by omega);have HR:=Lib.hid hR;clear hI hn2 hle hR)
      exact ⟨rfl,hS,rfl,r,HR.out⟩
set_option maxHeartbeats 2000000 in
set_option maxRecDepth 100000 in
theorem many4_any (w:World) (rb:Nat) (bs:List UInt8) (d:Int) (h:Rdr w rb bs d):
    Calls Tryz.prog 72 #[.pointer (some ⟨rb,0,none⟩), .int .i64 4] w fun e w'=>RStep w w' rb∧(match rdM 4 bs with
      |some (n,r)=>e= .returned (.int .i64 n)∧Rdr w' rb r d∧n≤r.length
      |none=>e= .panicked [short] ∧∃bs',Rdr w' rb bs' d):=by
  have H:=Lib.hid h
  cases hr:rdN 4 bs with
  | none=>
    have hm:rdM 4 bs=none:=by rw [rdM,hr];rfl
    rw [hm]
    have HC:=Lib.hid (takeInt4_none w rb bs d h hr)
    clear h hm hr
    go_enter Tryz.func72,Tryz.ntmps72
    go_wp2_with (go_at_call 103;(with_reducible refine (HC.out).mono ?_);rintro e w1 ⟨rfl,rfl⟩)
    exact ⟨rfl, .refl _ _,rfl,bs,H.out⟩
  | some p=>
    obtain ⟨n,r⟩:=p
    have HC:=Lib.hid (takeInt4_some w rb bs d h hr)
    have hn4:n<4294967296:=Nat.lt_of_lt_of_le (rdN_lt hr) (by decide)
    by_cases hle:n≤r.length
    · have hm:rdM 4 bs=some (n,r):=by rw [rdM,hr];simp [hle]
      rw [hm]
      have HL:=Lib.hid hle
      clear h hm hr
      go_enter Tryz.func72,Tryz.ntmps72
      go_wp2_with (go_at_call 103;(with_reducible refine (HC.out).mono ?_);rintro e w1 ⟨rfl,hR,hS⟩;obtain ⟨⟨a,n2,c,h0,hI⟩,h1,h2,h3⟩:=id hR;have hn2:=hI.len;have hle2:¬n2<n:=(by omega);have HR:=Lib.hid hR;clear hI hn2 hle hR)
      go_returns
      exact ⟨hS,rfl,HR.out,HL.out⟩
    · have hm:rdM 4 bs=none:=by rw [rdM,hr];simp [hle]
      rw [hm]
      clear h hm hr
      go_enter Tryz.func72,Tryz.ntmps72
      go_wp2_with (go_at_call 103;(with_reducible refine (HC.out).mono ?_);rintro e w1 ⟨rfl,hR,hS⟩;obtain ⟨⟨a,n2,c,h0,hI⟩,h1,h2,h3⟩:=id hR;have hn2:=hI.len;have hle2:n2<n:=(by omega);have HR:=Lib.hid hR;clear hI hn2 hle hR)
      exact ⟨rfl,hS,rfl,r,HR.out⟩
set_option maxHeartbeats 2000000 in
set_option maxRecDepth 100000 in
theorem rText_any (w:World) (rb:Nat) (bs:List UInt8) (d:Int) (h:Rdr w rb bs d):
    Calls Tryz.prog 77 #[.pointer (some ⟨rb,0,none⟩)] w fun e w'=>RStep w w' rb∧(match rdT bs with
      |some (s,r)=>e= .returned (.string s)∧Rdr w' rb r d
      |none=>e= .panicked [short] ∧∃bs',Rdr w' rb bs' d):=by
  have HM:=Lib.hid (many4_any w rb bs d h)
  cases hr:rdM 4 bs with
  | none=>
    have hm:rdT bs=none:=by rw [rdT,hr];rfl
    rw [hm]
    rw [hr] at HM
    clear h hm hr
    go_enter Tryz.func77,Tryz.ntmps77
    go_wp2_with (go_at_call 72;(with_reducible refine (HM.out).mono ?_);rintro e w1 ⟨hS,rfl,hR⟩)
    exact ⟨rfl,hS,rfl,hR⟩
  | some p=>
    obtain ⟨n,r⟩:=p
    have hm:rdT bs=some (⟨(r.take n).toArray⟩,r.drop n):=by rw [rdT,hr];rfl
    rw [hm]
    rw [hr] at HM
    clear h hm hr
    go_enter Tryz.func77,Tryz.ntmps77
    go_wp2_with (first
      |(go_at_call 72;(with_reducible refine (HM.out).mono ?_);rintro e w1 ⟨hS,rfl,hR,hl⟩)
      |(go_at_call 102;(with_reducible refine (cut_some w1 rb r d hR n hl).mono ?_);rintro e w2 ⟨⟨a,k,c,rfl,hI⟩,hR2,hS2⟩;have hcv:=conv_isB hI))
    go_returns
    exact ⟨hS.trans hS2,rfl,hR2⟩
end Go.Proofs.YthceefjafklcmaaGreatDoor
namespace Go.Proofs.YthceefjafklcmaaGreatDoor
open Go.RowKit
theorem down_any (u:FrameMode) (w:World) (bx rb:Nat) (d:Int) (hc:w.cell? ⟨bx,0,none⟩=some (.pointer (some ⟨rb,0,none⟩))) (h1:w.cell? ⟨rb,1,none⟩=some (.int .i64 (d+1))) (hf:w.frozen? ⟨rb,1,none⟩=false) (hd:0≤d) (hd2:d≤100):
    CallsD Tryz.prog 75 #[.pointer (some ⟨bx,0,none⟩)] u w fun e u' w'=>u'=u∧(e= .returned (.tuple #[])∧w'=w.setCell ⟨rb,1,none⟩ (.int .i64 d)):=by
  have e:d+1 - 1=d:=by omega
  go_enter_d Tryz.func75,Tryz.ntmps75
  go_wp2_with fail
  first|go_end0|skip
  all_goals first|exact ⟨rfl,rfl⟩|trace_state
theorem door {tmps:Array Value} {R:Ending→World→Prop} {u:FrameMode} {W:World} {bx rb:Nat} {bs:List UInt8} {d:Int} (hu:u= .returning∨u= .panicking [short]) (hc:W.cell? ⟨bx,0,none⟩=some (.pointer (some ⟨rb,0,none⟩))) (hR:Rdr W rb bs (d+1)) (hd:0≤d) (hd2:d≤100)
    (h:Rdr (W.setCell ⟨rb,1,none⟩ (.int .i64 d)) rb bs d→RStep W (W.setCell ⟨rb,1,none⟩ (.int .i64 d)) rb→Leaves Tryz.prog Tryz.f44 tmps R [] u (W.setCell ⟨rb,1,none⟩ (.int .i64 d))):
    Leaves Tryz.prog Tryz.f44 tmps R [{ target:= .fn (.func 75) #[.pointer (some ⟨bx,0,none⟩)],args:= #[] }] u W:=by
  have hs:settle u=u:=by rcases hu with rfl|rfl<;>rfl
  refine leaves_cons (f:=75) (args:= #[.pointer (some ⟨bx,0,none⟩)]) (by rcases hu with rfl|rfl<;>simp) (by simp [go_sem]) ?_
  refine (down_any u W bx rb d hc hR.deep hR.f1 hd hd2).mono ?_
  rintro e u' w'' ⟨rfl,rfl,rfl⟩
  show Leaves _ _ _ _ _ (settle u') _
  rw [hs]
  have:=hR.setDeep (d':=d)
  exact h this.1 this.2
theorem door_panic {tmps:Array Value} {R:Ending→World→Prop} {W:World} {bx rb:Nat} {bs:List UInt8} {d:Int} (hc:W.cell? ⟨bx,0,none⟩=some (.pointer (some ⟨rb,0,none⟩))) (hR:Rdr W rb bs (d+1)) (hd:0≤d) (hd2:d≤100)
    (h:Rdr (W.setCell ⟨rb,1,none⟩ (.int .i64 d)) rb bs d→RStep W (W.setCell ⟨rb,1,none⟩ (.int .i64 d)) rb→R (.panicked [short]) (W.setCell ⟨rb,1,none⟩ (.int .i64 d))):
    Leaves Tryz.prog Tryz.f44 tmps R [{ target:= .fn (.func 75) #[.pointer (some ⟨bx,0,none⟩)],args:= #[] }] (.panicking [short]) W:=
  door (.inr rfl) hc hR hd hd2 fun h1 h2=>h h1 h2
theorem results_value {tmps:Array Value} {W:World} {b:Nat} {c:VC} (ht:tmps[2]? =some (.pointer (some ⟨b,0,none⟩))) (hv:ValAt W b 0 c):(results Tryz.f44 tmps).run Tryz.prog W= .ok (.agg #[.int .u8 c.k, .int .i64 c.n, .string c.s, .slice c.la c.ll c.lc, .slice c.oa c.ol c.oc]) W:=by
  have h0:=hv.c0
  have h1:W.cell? ⟨b,1,none⟩=_:=hv.c1
  have h2:W.cell? ⟨b,2,none⟩=_:=hv.c2
  have h3:W.cell? ⟨b,3,none⟩=_:=hv.c3
  have h4:W.cell? ⟨b,4,none⟩=_:=hv.c4
  simp [results,Tryz.results44,go_sem,ht,h0,h1,h2,h3,h4]
theorem door_ret {tmps:Array Value} {R:Ending→World→Prop} {W:World} {bx b rb:Nat} {bs:List UInt8} {d:Int} {c:VC} (hc:W.cell? ⟨bx,0,none⟩=some (.pointer (some ⟨rb,0,none⟩))) (hR:Rdr W rb bs (d+1)) (hd:0≤d) (hd2:d≤100)
    (ht:tmps[2]? =some (.pointer (some ⟨b,0,none⟩))) (hv:ValAt W b 0 c) (hb:b≠rb)
    (h:Rdr (W.setCell ⟨rb,1,none⟩ (.int .i64 d)) rb bs d→RStep W (W.setCell ⟨rb,1,none⟩ (.int .i64 d)) rb→R (.returned (.agg #[.int .u8 c.k, .int .i64 c.n, .string c.s, .slice c.la c.ll c.lc, .slice c.oa c.ol c.oc])) (W.setCell ⟨rb,1,none⟩ (.int .i64 d))):
    Leaves Tryz.prog Tryz.f44 tmps R [{ target:= .fn (.func 75) #[.pointer (some ⟨bx,0,none⟩)],args:= #[] }] .returning W:=
  door (.inl rfl) hc hR hd hd2 fun h1 h2=>⟨_,results_value ht ⟨h2.cell hv.c0 hb,h2.cell hv.c1 hb,h2.cell hv.c2 hb,h2.cell hv.c3 hb,h2.cell hv.c4 hb⟩,h h1 h2⟩
end Go.Proofs.YthceefjafklcmaaGreatDoor
