/-
  Contracts of the functions that the law reaches: val.Field (the program's): where a key.
-/
import Derived.Test.YtnjgbiachcfigaaGreatDoorCt9
import Derived.Lib.SliceRun
namespace Go.Proofs.YtnjgbiachcfigaaGreatDoor
open Go.RowKit
set_option maxHeartbeats 4000000
set_option maxRecDepth 100000 in
theorem zdd (w:World) (s key:ByteArray) (c:VC) (kb:Nat) (hk:w.cell? ⟨kb,0,none⟩=some (.string key)):
 Calls Tryz.prog 119 #[.agg #[.string s, .int .u8 c.k, .int .i64 c.n, .string c.s, .slice c.la c.ll c.lc, .slice c.oa c.ol c.oc], .pointer (some ⟨kb,0,none⟩)] w fun e w'=>e= .returned (.bool (!Op.bytesLess s.toList key.toList))/\Below w.heap.size w w':=by
 have hkb:kb<w.heap.size:=World.block_lt_of_cell? w _ hk
 go_enter Tryz.func119,Tryz.ntmps119
 go_wp2_with fail
 go_returns
 exact ⟨rfl,(Below.refl _ _).alloc (Nat.le_refl _) _⟩
def fieldAt (o:List (ByteArray×V)) (key:ByteArray):Int:=if fieldK o key<o.length then (fieldK o key:Int) else -1
set_option maxRecDepth 100000 in
theorem zfs (w:World) (o:List (ByteArray×V)) (key:ByteArray) (a:Option Addr) (n c:Nat) (h:IsFields w w.heap.size o a n c) (kb:Nat) (hk:w.cell? ⟨kb,0,none⟩=some (.string key)):
 Calls Tryz.prog 118 #[.slice a n c, .func (.func 119) #[] #[.pointer (some ⟨kb,0,none⟩)]] w fun e w'=>e= .returned (.int .i64 (fieldAt o key))/\Below w.heap.size w w':=by
 have hkb:kb<w.heap.size:=World.block_lt_of_cell? w _ hk
 have k1:=h.max;have k2:=h.few
 have HLn:=qh h.len
 have HI:=qh h
 have HK:=qh hk
 have eg:=enters_of Tryz.func119 (by kernel_rfl) rfl
 clear h hk
 obtain ⟨R,hR⟩:∃R,fieldAt o key=R:=⟨_,rfl⟩
 rw [hR]
 have HR:=qh hR
 clear hR
 go_enter Tryz.func118,Tryz.ntmps118
 go_wp2_with fail
 go_loopw [5,8] (fun _ i wr=>∃j:Nat,j<=n/\i= .int .i64 j/\Hid (∀i (hi:i<o.length),i<j->Op.bytesLess (o[i]'hi).1.toList key.toList=true)/\Below w.heap.size w wr) (fun _ i _=>n - (intOf i).toNat)
 case atStart=>exact ⟨0,Nat.zero_le _,rfl,qh (fun i hi hj=>by omega),Below.refl _ _⟩
 case round=>
  obtain ⟨j,hj,rfl,hall,hbl⟩:=hrel
  have HBL:=qh hbl
  by_cases hlt:j<n
  .obtain ⟨b,o',f,hp,rfl,hbB,hkey,hks,hv,_⟩:=(HI.out.keep hbl).get hlt
   have c0:=hv.c0;have c1:=hv.c1;have c2:=hv.c2;have c3:=hv.c3;have c4:=hv.c4
   have hbw:b<wr.heap.size:=World.block_lt_of_cell? wr _ hkey
   obtain ⟨nb,hnb⟩:∃nb,(!Op.bytesLess (o[j]'hp).1.toList key.toList)=nb:=⟨_,rfl⟩
   have HC:Hid (Calls Tryz.prog 119 #[.agg #[.string (o[j]'hp).1, .int .u8 f.k, .int .i64 f.n, .string f.s, .slice f.la f.ll f.lc, .slice f.oa f.ol f.oc], .pointer (some ⟨kb,0,none⟩)] wr fun e w'=>e= .returned (.bool nb)/\Below wr.heap.size wr w'):=by
    rw [<-hnb];exact zdd wr _ key f kb (Zb hbl HK.out hkb)
   cases nb with
   | false=>
     have hlb:Op.bytesLess (o[j]'hp).1.toList key.toList=true:=by simpa using hnb
     have HLB:=qh hlb
     clear hbl hlb hv hnb
     go_wp2_with fail
     refine HC.out.mono ?_
     rintro e w' ⟨rfl,hb'⟩
     go_wp2_with fail
     go_roundw
     case rel=>exact ⟨j+1,by omega,by go_num,qh (fun i hi hij=>by
      by_cases e:i=j
      .subst e;exact HLB.out
      .exact hall.out i hi (by omega)),HBL.out.on hb' HBL.out.size⟩
     case measure=>simp [intOf];omega
   | true=>
     have hlb:Op.bytesLess (o[j]'hp).1.toList key.toList=false:=by simpa using hnb
     have hf:fieldK o key=j:=Xw o key j hall.out (by omega) (.inr ⟨hp,hlb⟩)
     have HF:=qh hf
     clear hbl hlb hv hf hnb
     go_wp2_with fail
     refine HC.out.mono ?_
     rintro e w' ⟨rfl,hb'⟩
     go_wp2_with fail
     go_ret
     exact ⟨by rw [<-HR.out,fieldAt,HF.out,if_pos hp];rfl,HBL.out.on hb' HBL.out.size⟩
  .have hj2:j=n:=by omega
   have hf:fieldK o key=n:=Xw o key n (fun i hi hin=>hall.out i hi (by omega)) (by rw [HLn.out];exact Nat.le_refl _) (.inl HLn.out)
   have HF:=qh hf
   clear hbl hf hj2
   go_wp2_with fail
   go_ret
   exact ⟨by rw [<-HR.out,fieldAt,HF.out,if_neg (by have:=HLn.out;omega)];rfl,HBL.out⟩
theorem zii (o:List (ByteArray×V)) (key:ByteArray):fieldK o key<=o.length:=by
 unfold fieldK
 exact (List.takeWhile_sublist _).length_le
set_option maxRecDepth 100000 in
theorem X6 (w:World) (o:List (ByteArray×V)) (key:ByteArray) (c:VC) (h:IsFields w w.heap.size o c.oa c.ol c.oc):
 Calls Tryz.prog 79 #[.agg #[.int .u8 c.k, .int .i64 c.n, .string c.s, .slice c.la c.ll c.lc, .slice c.oa c.ol c.oc], .string key] w fun e w'=>e= .returned (.tuple #[.int .i64 (fieldK o key:Int), .bool (fieldIs o key)])/\Below w.heap.size w w':=by
 have k1:=h.max;have k2:=h.few
 have HL:=qh h.len
 have HI:=qh h
 have hal:Below w.heap.size w ((w.alloc (.cells #[.int .u8 c.k, .int .i64 c.n, .string c.s, .slice c.la c.ll c.lc, .slice c.oa c.ol c.oc] 36)).alloc (.cells #[.string key] 9)):=((Below.refl _ _).alloc (Nat.le_refl _) _).alloc (by simp) _
 have hbc:=(BC.start w #[.int .u8 c.k, .int .i64 c.n, .string c.s, .slice c.la c.ll c.lc, .slice c.oa c.ol c.oc] 36).keep ((Below.refl _ _).alloc (Nat.le_refl _) (.cells #[.string key] 9)) (by simp)
 have hbk:=BC.start (w.alloc (.cells #[.int .u8 c.k, .int .i64 c.n, .string c.s, .slice c.la c.ll c.lc, .slice c.oa c.ol c.oc] 36)) #[.string key] 9
 rw [World.size_alloc] at hbk
 obtain ⟨w1,hw1⟩:∃w1,(w.alloc (.cells #[.int .u8 c.k, .int .i64 c.n, .string c.s, .slice c.la c.ll c.lc, .slice c.oa c.ol c.oc] 36)).alloc (.cells #[.string key] 9)=w1:=⟨_,rfl⟩
 rw [hw1] at hal hbc hbk
 have HW1:=qh hw1
 obtain ⟨k,hk⟩:∃k,fieldK o key=k:=⟨_,rfl⟩
 obtain ⟨is,his⟩:∃is,fieldIs o key=is:=⟨_,rfl⟩
 have hC:=zfs w1 o key c.oa c.ol c.oc ((HI.out.keep hal).more hal.size) (w.heap.size+1) (hbk.at_ 0 _ rfl)
 rw [fieldAt,hk] at hC
 rw [hk,his]
 have HC:=qh hC
 have HK:=qh hk
 have HIS:=qh his
 have hkl:=zii o key
 rw [hk, <-HL.out] at hkl
 have b0:=hbc.at_ 4 _ rfl
 have b1:=hbk.at_ 0 _ rfl
 have HAL:=qh hal
 have HBC:=qh hbc
 have HBK:=qh hbk
 clear hw1 hC hk his hal hbc hbk h
 go_enter Tryz.func79,Tryz.ntmps79
 go_wp2_with fail
 rw [HW1.out]
 refine HC.out.mono ?_
 rintro e w' ⟨rfl,hb'⟩
 have D:=HBC.out.keep hb' HBC.out.lt
 have D2:=HBK.out.keep hb' HBK.out.lt
 have q4:=D.at_ 4 _ rfl
 have q0:=D2.at_ 0 _ rfl
 have z1:=D.lt;have z2:=D2.lt
 have HB':=qh (HAL.out.trans (hb'.mono HAL.out.size))
 clear D D2 b0 b1
 by_cases hlt:k<o.length
 .rw [if_pos hlt]
  obtain ⟨b,o',f,hp,hoa,hbB,hkey,hks,hv,_⟩:=(HI.out.keep HB'.out).get (k:=k) (by have:=HL.out;omega)
  rw [hoa] at q4
  have hbw:b<w'.heap.size:=World.block_lt_of_cell? w' _ hkey
  obtain ⟨eb,heb⟩:∃eb,((o[k]'hp).1.toList==key.toList)=eb:=⟨_,rfl⟩
  have hi:is=eb:=by
   rw [<-HIS.out,fieldIs,HK.out,List.getElem?_eq_getElem hp];exact heb
  have HII:=qh hi
  have hlt2:k<c.ol:=by have:=HL.out;omega
  clear hi hv
  go_wp2_with fail
  go_quiet (fail)
  go_wp2_with fail
  go_returns
  exact ⟨by rw [HII.out];rfl,Z6 HB'.out _⟩
 .rw [if_neg hlt]
  have hkn:k=c.ol:=by have:=HL.out;omega
  have hi:is=false:=by
   rw [<-HIS.out,fieldIs,HK.out,List.getElem?_eq_none (by omega)]
  have HKN:=qh hkn
  have HII:=qh hi
  clear hkn hi
  go_wp2_with fail
  go_returns
  exact ⟨by rw [HKN.out,HII.out];rfl,HB'.out⟩
set_option maxRecDepth 100000 in
theorem zj5 (w:World) (a:Option Addr) (n c:Nat) (cs:List Value) (h0:a=none->n=0) (hp:∀ad,a=some ad->∀j u,cs[j]? =some u->w.cell? (ad.add j)=some u) (hl:cs.length=n*5) (h1:∀u ∈ cs,u.oneCell'=true) (hbig:n*80<=140737488355328):
 Calls Tryz.prog 116 #[.slice a n c] w fun e w'=>(∃v',e= .returned v'/\w'.ownsRow w.heap.size 36 5 v' n cs)/\Below w.heap.size w w':=by
 obtain ⟨i0,hi0,hz0,hz1,hz2⟩:=info_parts Yc
 have hq:∀(w:World) (a:Option Addr) (n c n' c':Nat),(binOp .eql 33 (.slice a n c) (.slice none n' c')).run Tryz.prog w= .ok (.bool a.isNone) w:=fun w a n c n' c'=>Lib.run_eql_slice_nil w _ _ a n c n' c' Tryz.underlying33
 cases a with
 | none=>
   obtain rfl:=h0 rfl
   obtain rfl:cs= [] :=List.length_eq_zero_iff.1 (by omega)
   clear hp hl h1 hbig h0
   go_enter Tryz.func116,Tryz.ntmps116
   go_wp2_with fail
   go_ret
   exact ⟨⟨_,rfl,⟨rfl, .inl ⟨rfl,rfl⟩⟩⟩,Below.refl _ _⟩
 | some ad=>
   have HP:=qh hp
   have HL:=qh hl
   have H1:=qh h1
   clear hp hl h1 h0
   go_enter Tryz.func116,Tryz.ntmps116
   go_wp2_with (at_builtin;refine Z0 _ rfl (.tmp 5) (.tmp 6) 33 (by rfl) w.heap.size 36 i0 _ 5 80 Tryz.underlying33 hi0 hz0 hz1 hz2 rfl (by omega) _ 0 [] (by rfl) (World.ownsRow_made w #[] 0 (Nat.le_refl _) (Nat.zero_le _) rfl) (some ad) n c cs (by rfl) ⟨(fun h=>by cases h),fun ad h j u hj=>Lib.cell?_alloc_some _ (HP.out ad h j u hj)⟩ HL.out H1.out (by unfold maxLen;omega) (by omega) (by simp) ?_;intro v' w1 hown hgrow)
   go_ret
   exact ⟨⟨v',rfl,by simpa using hown⟩,((Below.refl _ w).alloc (Nat.le_refl _) _).grown hgrow (by simp) (by intro k hk;simp [Value.ownBlock] at hk;omega)⟩
set_option maxRecDepth 100000 in
theorem zio (w:World) (a:Option Addr) (n c:Nat) (cs:List Value) (h0:a=none->n=0) (hp:∀ad,a=some ad->∀j u,cs[j]? =some u->w.cell? (ad.add j)=some u) (hl:cs.length=n*6) (h1:∀u ∈ cs,u.oneCell'=true) (hbig:n*96<=140737488355328):
 Calls Tryz.prog 117 #[.slice a n c] w fun e w'=>(∃v',e= .returned v'/\w'.ownsRow w.heap.size 75 6 v' n cs)/\Below w.heap.size w w':=by
 obtain ⟨i0,hi0,hz0,hz1,hz2⟩:=info_parts Ya
 have hq:∀(w:World) (a:Option Addr) (n c n' c':Nat),(binOp .eql 34 (.slice a n c) (.slice none n' c')).run Tryz.prog w= .ok (.bool a.isNone) w:=fun w a n c n' c'=>Lib.run_eql_slice_nil w _ _ a n c n' c' Tryz.underlying34
 cases a with
 | none=>
   obtain rfl:=h0 rfl
   obtain rfl:cs= [] :=List.length_eq_zero_iff.1 (by omega)
   clear hp hl h1 hbig h0
   go_enter Tryz.func117,Tryz.ntmps117
   go_wp2_with fail
   go_ret
   exact ⟨⟨_,rfl,⟨rfl, .inl ⟨rfl,rfl⟩⟩⟩,Below.refl _ _⟩
 | some ad=>
   have HP:=qh hp
   have HL:=qh hl
   have H1:=qh h1
   clear hp hl h1 h0
   go_enter Tryz.func117,Tryz.ntmps117
   go_wp2_with (at_builtin;refine Z0 _ rfl (.tmp 5) (.tmp 6) 34 (by rfl) w.heap.size 75 i0 _ 6 96 Tryz.underlying34 hi0 hz0 hz1 hz2 rfl (by omega) _ 0 [] (by rfl) (World.ownsRow_made w #[] 0 (Nat.le_refl _) (Nat.zero_le _) rfl) (some ad) n c cs (by rfl) ⟨(fun h=>by cases h),fun ad h j u hj=>Lib.cell?_alloc_some _ (HP.out ad h j u hj)⟩ HL.out H1.out (by unfold maxLen;omega) (by omega) (by simp) ?_;intro v' w1 hown hgrow)
   go_ret
   exact ⟨⟨v',rfl,by simpa using hown⟩,((Below.refl _ w).alloc (Nat.le_refl _) _).grown hgrow (by simp) (by intro k hk;simp [Value.ownBlock] at hk;omega)⟩
end Go.Proofs.YtnjgbiachcfigaaGreatDoor
