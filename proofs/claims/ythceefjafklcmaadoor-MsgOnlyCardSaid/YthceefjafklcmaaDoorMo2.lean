/-
  Contracts of the functions that the law reaches: A row of facts as one. writer.step, writer.comp and Writer.comp: a step and a component are written. Writer.comp: a component is written. done; Encode and Value, of the program and of the reference. Reading, in plain Lean; values in new memory. reader.cut. take, many, text of the program's reader. reader.value's deferred call, and how the function is left. Rows that are being built, of what lies in new memory. reader.value: what stands in memory while it runs.
-/
import Derived.Test.YthceefjafklcmaaDoorMo1
import Derived.Test.YthceefjafklcmaaDoorProg
import Derived.Defers
import Derived.Recover
import Derived.Laws.BitsAllLaws
import Derived.Laws.IdiomStrings
import Derived.Lib.BufferRead
namespace Go.Proofs.YthceefjafklcmaaDoor
theorem row5 {f:Nat→Option Value} {z0 z1 z2 z3 z4:Value} (h:∀k z, [z0,z1,z2,z3,z4][k]? =some z→f k=some z):f 0=some z0∧f 1=some z1∧f 2=some z2∧f 3=some z3∧f 4=some z4:=
  ⟨h 0 _ rfl,h 1 _ rfl,h 2 _ rfl,h 3 _ rfl,h 4 _ rfl⟩
theorem row9 {f:Nat→Option Value} {z0 z1 z2 z3 z4 z5 z6 z7 z8:Value} (h:∀k z, [z0,z1,z2,z3,z4,z5,z6,z7,z8][k]? =some z→f k=some z):f 0=some z0∧f 1=some z1∧f 2=some z2∧f 3=some z3∧f 4=some z4∧f 5=some z5∧f 6=some z6∧f 7=some z7∧f 8=some z8:=
  ⟨h 0 _ rfl,h 1 _ rfl,h 2 _ rfl,h 3 _ rfl,h 4 _ rfl,h 5 _ rfl,h 6 _ rfl,h 7 _ rfl,h 8 _ rfl⟩
theorem row12 {f:Nat→Option Value} {z0 z1 z2 z3 z4 z5 z6 z7 z8 z9 z10 z11:Value} (h:∀k z, [z0,z1,z2,z3,z4,z5,z6,z7,z8,z9,z10,z11][k]? =some z→f k=some z):f 0=some z0∧f 1=some z1∧f 2=some z2∧f 3=some z3∧f 4=some z4∧f 5=some z5∧f 6=some z6∧f 7=some z7∧f 8=some z8∧f 9=some z9∧f 10=some z10∧f 11=some z11:=
  ⟨h 0 _ rfl,h 1 _ rfl,h 2 _ rfl,h 3 _ rfl,h 4 _ rfl,h 5 _ rfl,h 6 _ rfl,h 7 _ rfl,h 8 _ rfl,h 9 _ rfl,h 10 _ rfl,h 11 _ rfl⟩
end Go.Proofs.YthceefjafklcmaaDoor
namespace Go.Proofs.YthceefjafklcmaaDoor
open Go.RowKit
theorem layInt1_any (x:Int) (w:World) (B wb:Nat) (v:Value) (bs:List UInt8) (h:Wr w B wb v bs) (hsz:bs.length+1≤140737488355328):
    Calls Tryd.prog 53 #[.pointer (some ⟨wb,0,none⟩), .int .i64 x, .int .i64 1] w fun e w'=>e= .returned (.tuple #[])∧∃v',Wr w' B wb v' (bs++be (x % 18446744073709551616).toNat 1)∧WStep w w' wb v v':=
  layInt_any x 1 (by omega) w B wb v bs h hsz
theorem layInt4_any (x:Int) (w:World) (B wb:Nat) (v:Value) (bs:List UInt8) (h:Wr w B wb v bs) (hsz:bs.length+4≤140737488355328):
    Calls Tryd.prog 53 #[.pointer (some ⟨wb,0,none⟩), .int .i64 x, .int .i64 4] w fun e w'=>e= .returned (.tuple #[])∧∃v',Wr w' B wb v' (bs++be (x % 18446744073709551616).toNat 4)∧WStep w w' wb v v':=
  layInt_any x 4 (by omega) w B wb v bs h hsz
theorem layInt8_any (x:Int) (w:World) (B wb:Nat) (v:Value) (bs:List UInt8) (h:Wr w B wb v bs) (hsz:bs.length+8≤140737488355328):
    Calls Tryd.prog 53 #[.pointer (some ⟨wb,0,none⟩), .int .i64 x, .int .i64 8] w fun e w'=>e= .returned (.tuple #[])∧∃v',Wr w' B wb v' (bs++be (x % 18446744073709551616).toNat 8)∧WStep w w' wb v v':=
  layInt_any x 8 (by omega) w B wb v bs h hsz
theorem layU81_any (x:Int) (w:World) (B wb:Nat) (v:Value) (bs:List UInt8) (h:Wr w B wb v bs) (hsz:bs.length+1≤140737488355328):
    Calls Tryd.prog 50 #[.pointer (some ⟨wb,0,none⟩), .int .u8 x, .int .i64 1] w fun e w'=>e= .returned (.tuple #[])∧∃v',Wr w' B wb v' (bs++be (x % 18446744073709551616).toNat 1)∧WStep w w' wb v v':=
  layU8_any x 1 (by omega) w B wb v bs h hsz
theorem layI648_any (x:Int) (w:World) (B wb:Nat) (v:Value) (bs:List UInt8) (h:Wr w B wb v bs) (hsz:bs.length+8≤140737488355328):
    Calls Tryd.prog 80 #[.pointer (some ⟨wb,0,none⟩), .int .i64 x, .int .i64 8] w fun e w'=>e= .returned (.tuple #[])∧∃v',Wr w' B wb v' (bs++be (x % 18446744073709551616).toNat 8)∧WStep w w' wb v v':=
  layI64_any x 8 (by omega) w B wb v bs h hsz
theorem layU324_any (x:Int) (w:World) (B wb:Nat) (v:Value) (bs:List UInt8) (h:Wr w B wb v bs) (hsz:bs.length+4≤140737488355328):
    Calls Tryd.prog 51 #[.pointer (some ⟨wb,0,none⟩), .int .u32 x, .int .i64 4] w fun e w'=>e= .returned (.tuple #[])∧∃v',Wr w' B wb v' (bs++be (x % 18446744073709551616).toNat 4)∧WStep w w' wb v v':=
  layU32_any x 4 (by omega) w B wb v bs h hsz
theorem valueX_any (x:V) (vk vn:Int) (vs:ByteArray) (vla:Option Addr) (vll vlc:Nat) (voa:Option Addr) (vol voc:Nat) (w:World) (B wb:Nat) (v:Value) (bs:List UInt8) (h:Wr w B wb v bs) (hx:IsVal w B x ⟨vk,vn,vs,vla,vll,vlc,voa,vol,voc⟩) (hsz:bs.length+(encV x).length≤140737488355328):
    Calls Tryd.prog 52 #[.pointer (some ⟨wb,0,none⟩), .agg #[.int .u8 vk, .int .i64 vn, .string vs, .slice vla vll vlc, .slice voa vol voc]] w fun e w'=>e= .returned (.tuple #[])∧∃v',Wr w' B wb v' (bs++encV x)∧WStep w w' wb v v':=
  valueW_any x w B wb v bs ⟨vk,vn,vs,vla,vll,vlc,voa,vol,voc⟩ h hx hsz
structure WG (w wr:World) (B wb bx:Nat) (v u:Value) (bs:List UInt8) (cs:List Value):Prop where
  wrt:Wr wr B wb u bs
  st:WStep w wr wb v u
  at_:∀j x,cs[j]? =some x→wr.cell? ⟨bx,j,none⟩=some x
  ne:bx≠wb
  lt:bx<wr.heap.size
  far:u.ownBlock≠some bx
theorem WG.next {w wr w2:World} {B wb bx:Nat} {v u u2:Value} {bs bs2:List UInt8} {cs:List Value} (h:WG w wr B wb bx v u bs cs) (hr:Wr w2 B wb u2 bs2) (hs:WStep wr w2 wb u u2):WG w w2 B wb bx v u2 bs2 cs:=by
  refine ⟨hr,h.st.trans hs,fun j x hj=>hs.far (h.at_ j x hj) h.ne h.far,h.ne,Nat.lt_of_lt_of_le h.lt hs.size, ?_⟩
  rcases hs.own with e|e
  · rw [e];exact h.far
  · intro e2;have:=e _ e2;have:=h.lt;omega
theorem WG.behind {w wr w2:World} {B wb bx:Nat} {v u:Value} {bs:List UInt8} {cs:List Value} (h:WG w wr B wb bx v u bs cs) (hb:Below wr.heap.size wr w2):WG w w2 B wb bx v u bs cs:=
  h.next (h.wrt.of_below hb) (.of_below wb u hb)
theorem WG.start {w:World} {B wb:Nat} {v:Value} {bs:List UInt8} (h:Wr w B wb v bs) (cs:Array Value) (t:TypeId):WG w (w.alloc (.cells cs t)) B wb w.heap.size v v bs cs.toList:=by
  have hb:Below w.heap.size w (w.alloc (.cells cs t)):=(Below.refl _ _).alloc (Nat.le_refl _) _
  exact ⟨h.of_below hb, .of_below wb v hb,fun j x hj=>cells_new w cs t j x (by rw [←hj];simp),fun e=>by have:=h.lt;omega,by simp,fun e=>by have:=(h.lo _ e).2;omega⟩
theorem WG.eqb {w wr:World} {B wb bx:Nat} {v u:Value} {bs bs':List UInt8} {cs:List Value} (h:WG w wr B wb bx v u bs cs) (e:bs=bs'):WG w wr B wb bx v u bs' cs:=e ▸ h
def encSt (s:St):List UInt8:=if s.list=true then be ((1:Int) % 18446744073709551616).toNat 1++be (s.i % 18446744073709551616).toNat 8 else be ((0:Int) % 18446744073709551616).toNat 1++encS s.key
def encP:List St→List UInt8
  | [] => []
  |s::r=>encSt s++encP r
theorem encP_append (a b:List St):encP (a++b)=encP a++encP b:=by
  induction a with
  |nil=>simp [encP]
  |cons v r ih=>simp only [List.cons_append,encP,ih,List.append_assoc]
theorem encP_take (l:List St) (k:Nat) (h:k<l.length):encP (l.take (k+1))=encP (l.take k)++encSt l[k] :=by
  rw [take_snoc l k h,encP_append];simp [encP]
theorem encP_le (l:List St) (k:Nat):(encP (l.take k)).length≤(encP l).length:=by
  have h:=encP_append (l.take k) (l.drop k)
  rw [List.take_append_drop] at h;rw [h,List.length_append];omega
def encT (c:Cm):List UInt8:=
  (if hasB (saysB c.k) 75 then encS c.key else [])++(if hasB (saysB c.k) 73 then be (c.i % 18446744073709551616).toNat 8 else [])++(if hasB (saysB c.k) 74 then be (c.j % 18446744073709551616).toNat 8 else [])++
  (if hasB (saysB c.k) 78 then be (c.n % 18446744073709551616).toNat 8 else [])++(if hasB (saysB c.k) 86 then encV c.v else [])++(if hasB (saysB c.k) 83 then encS c.s else [])
def encC (c:Cm):List UInt8:=be (c.k % 18446744073709551616).toNat 1++be c.path.length 1++encP c.path++encT c
def stepWP (w:World) (B wb:Nat) (v:Value) (bs:List UInt8) (s:St):Prop:=
    Calls Tryd.prog 82 #[.pointer (some ⟨wb,0,none⟩), .agg #[.bool s.list, .int .i64 s.i, .string s.key]] w fun e w'=>e= .returned (.tuple #[])∧∃v',Wr w' B wb v' (bs++encSt s)∧WStep w w' wb v v'
set_option maxHeartbeats 4000000 in
set_option maxRecDepth 100000 in
theorem stepW_any (w:World) (B wb:Nat) (v:Value) (bs:List UInt8) (s:St) (h:Wr w B wb v bs) (hsz:bs.length+(encSt s).length≤140737488355328):stepWP w B wb v bs s:=by
  unfold stepWP
  obtain ⟨ls,si,sk⟩:=s
  have wx:=WG.start h #[.bool ls, .int .i64 si, .string sk] 124
  clear h
  cases ls with
  | true=>
    have he:encSt ⟨true,si,sk⟩=be ((1:Int) % 18446744073709551616).toNat 1++be (si % 18446744073709551616).toNat 8:=rfl
    rw [he,List.length_append,be_length,be_length] at hsz
    rw [he]
    clear he
    go_enter Tryd.func82,Tryd.ntmps82
    go_wp2_with (first|(go_at_call 50;(with_reducible refine (layU81_any _ _ B wb _ _ wx.wrt ?_).mono ?_);(focus ((first|omega|(simp only [List.length_append];omega)|(simp only [List.length_append,be_length];omega))));rintro e w2 ⟨rfl,v2,hr2,hs2⟩;replace wx:=wx.next hr2 hs2;have y0:=wx.at_ 0 _ rfl;have y1:=wx.at_ 1 _ rfl;have y2:=wx.at_ 2 _ rfl)|(go_at_call 53;(with_reducible refine (layInt8_any _ _ B wb _ _ wx.wrt ?_).mono ?_);(focus ((first|omega|(simp only [List.length_append];omega)|(simp only [List.length_append,be_length];omega))));rintro e w2 ⟨rfl,v2,hr2,hs2⟩;replace wx:=wx.next hr2 hs2;have y0:=wx.at_ 0 _ rfl;have y1:=wx.at_ 1 _ rfl;have y2:=wx.at_ 2 _ rfl))
    go_returns
    exact ⟨rfl,_,by rw [←List.append_assoc];exact wx.wrt,wx.st⟩
  | false=>
    have he:encSt ⟨false,si,sk⟩=be ((0:Int) % 18446744073709551616).toNat 1++encS sk:=rfl
    rw [he,List.length_append,be_length] at hsz
    rw [he]
    clear he
    go_enter Tryd.func82,Tryd.ntmps82
    go_wp2_with (first|(go_at_call 50;(with_reducible refine (layU81_any _ _ B wb _ _ wx.wrt ?_).mono ?_);(focus ((first|omega|(simp only [List.length_append];omega)|(simp only [List.length_append,be_length];omega))));rintro e w2 ⟨rfl,v2,hr2,hs2⟩;replace wx:=wx.next hr2 hs2;have y0:=wx.at_ 0 _ rfl;have y1:=wx.at_ 1 _ rfl;have y2:=wx.at_ 2 _ rfl)|(go_at_call 81;(with_reducible refine (text_any _ _ B wb _ _ wx.wrt ?_).mono ?_);(focus ((first|omega|(simp only [List.length_append];omega)|(simp only [List.length_append,be_length];omega))));rintro e w2 ⟨rfl,v2,hr2,hs2⟩;replace wx:=wx.next hr2 hs2;have y0:=wx.at_ 0 _ rfl;have y1:=wx.at_ 1 _ rfl;have y2:=wx.at_ 2 _ rfl))
    go_returns
    exact ⟨rfl,_,by rw [←List.append_assoc];exact wx.wrt,wx.st⟩
set_option maxHeartbeats 8000000 in
set_option maxRecDepth 100000 in
theorem compW_any (x:Cm) (w:World) (B wb:Nat) (v:Value) (bs:List UInt8) (c:CC) (h:Wr w B wb v bs) (hx:IsComp w B x c) (hsz:bs.length+(encC x).length≤140737488355328):
    Calls Tryd.prog 54 #[.pointer (some ⟨wb,0,none⟩), .agg #[.int .u8 c.k, .slice c.pa c.pl c.pc, .string c.key, .int .i64 c.i, .int .i64 c.j, .int .i64 c.n, .int .u8 c.v.k, .int .i64 c.v.n, .string c.v.s, .slice c.v.la c.v.ll c.v.lc, .slice c.v.oa c.v.ol c.v.oc, .string c.s]] w fun e w'=>e= .returned (.tuple #[])∧∃v',Wr w' B wb v' (bs++encC x)∧WStep w w' wb v v':=by
  cases hx with
  |mk c p vv hbd hp hv=>
  obtain ⟨ck,pa,pl,pc,key,i,j,n,⟨vk,vn,vs,vla,vll,vlc,voa,vol,voc⟩,s⟩:=c
  dsimp only at hp hv ⊢
  have HV:Hid (∀W,Below B w W→IsVal W B vv ⟨vk,vn,vs,vla,vll,vlc,voa,vol,voc⟩):=fun W hW=>hv.keep hW
  have HP:=Lib.hid hp;have H0:=Lib.hid h
  have k0:=hbd.k0;have k1:=hbd.k1;have c1:=hp.cap;have c2:=hp.max;have c3:=hp.few
  dsimp only at k0 k1
  have el:=hp.len
  have wx:=WG.start h #[.int .u8 ck, .slice pa pl pc, .string key, .int .i64 i, .int .i64 j, .int .i64 n, .int .u8 vk, .int .i64 vn, .string vs, .slice vla vll vlc, .slice voa vol voc, .string s] 75
  have hB:=h.base;have hlt:=h.lt
  have he:encC ⟨ck,p,key,i,j,n,vv,s⟩=be (ck % 18446744073709551616).toNat 1++be p.length 1++encP p++encT ⟨ck,p,key,i,j,n,vv,s⟩:=rfl
  have ell:be ((pl:Int) % 18446744073709551616).toNat 1=be p.length 1:=by rw [len_mod _ (by omega),el]
  have ELL:=Lib.hid ell
  have EL:=Lib.hid el
  rw [he] at hsz ⊢
  simp only [List.length_append,be_length] at hsz
  obtain ⟨T,hT⟩:∃T,encT ⟨ck,p,key,i,j,n,vv,s⟩=T:=⟨_,rfl⟩
  rw [hT] at hsz ⊢
  have HT:=Lib.hid hT
  clear hT he hv hp hbd h el ell
  go_enter Tryd.func54,Tryd.ntmps54
  go_wp2_with (first|(go_at_call 50;(with_reducible refine (layU81_any _ _ B wb _ _ wx.wrt ?_).mono ?_);(focus ((first|omega|(simp only [List.length_append];omega)|(simp only [List.length_append,be_length];omega))));rintro e w2 ⟨rfl,v2,hr2,hs2⟩;replace wx:=wx.next hr2 hs2;obtain ⟨y0,y1,y2,y3,y4,y5,y6,y7,y8,y9,y10,y11⟩:=row12 wx.at_)|(go_at_call 53;(with_reducible refine (layInt1_any _ _ B wb _ _ wx.wrt ?_).mono ?_);(focus ((first|omega|(simp only [List.length_append];omega)|(simp only [List.length_append,be_length];omega))));rintro e w2 ⟨rfl,v2,hr2,hs2⟩;replace wx:=wx.next hr2 hs2;obtain ⟨y0,y1,y2,y3,y4,y5,y6,y7,y8,y9,y10,y11⟩:=row12 wx.at_))
  obtain ⟨PRE,hPRE⟩:∃PRE,bs++be (ck % 18446744073709551616).toNat 1++be ((pl:Int) % 18446744073709551616).toNat 1=PRE:=⟨_,rfl⟩
  rw [hPRE] at wx
  have hPL:PRE.length+(encP p).length+T.length≤140737488355328:=by rw [←hPRE,List.length_append,List.length_append,be_length,be_length];omega
  have hPE:PRE=bs++be (ck % 18446744073709551616).toNat 1++be p.length 1:=by rw [←hPRE,ELL.out]
  have HPE:=Lib.hid hPE
  clear hr2 hs2 hPRE hPE y0 y1 y2 y3 y4 y5 y6 y7 y8 y9 y10 y11
  go_loopw [18,5] (fun ii _ wr=>∃(k:Nat) (u:Value),k≤pl∧ii= .int .i64 k∧WG w wr B wb w.heap.size v u (PRE++encP (p.take k)) [.int .u8 ck, .slice pa pl pc, .string key, .int .i64 i, .int .i64 j, .int .i64 n, .int .u8 vk, .int .i64 vn, .string vs, .slice vla vll vlc, .slice voa vol voc, .string s]) (fun ii _ _=>pl - (intOf ii).toNat)
  case atStart=>exact ⟨0,v2,Nat.zero_le _,rfl,by simpa [encP] using wx⟩
  case round=>
    clear wx
    obtain ⟨k,u,hk,rfl,wx⟩:=hrel
    obtain ⟨y0,y1,y2,y3,y4,y5,y6,y7,y8,y9,y10,y11⟩:=row12 wx.at_
    by_cases hlt2:k<pl
    · obtain ⟨b,o',kl,rfl,hb,x1,xb⟩:=HP.out.get hlt2
      have hbW:=H0.out.keeps wx.st
      have x1:=x1.keep hbW hb
      have r0:=x1.c0;have r1:=x1.c1;have r2:=x1.c2
      have hle:=encP_le p (k+1)
      have ht:=encP_take p k kl
      have hlen:(PRE++encP (p.take k)).length+(encSt p[k]).length≤140737488355328:=by
        rw [ht,List.length_append] at hle;rw [List.length_append];omega
      have HI:Hid (∀W,Below wr.heap.size wr W→Calls Tryd.prog 82 #[.pointer (some ⟨wb,0,none⟩), .agg #[.bool p[k].list, .int .i64 p[k].i, .string p[k].key]] W fun e w'=>e= .returned (.tuple #[])∧∃v',Wr w' B wb v' (PRE++encP (p.take (k+1)))∧WStep W w' wb u v'):=by
        intro W hW
        have:=stepW_any W B wb u _ p[k] (wx.wrt.of_below hW) hlen
        rw [ht, ←List.append_assoc];exact this
      clear x1 hle ht hlen hbW xb
      go_wp2_with (go_at_call 82;refine (HI.out _ (by go_grown)).mono ?_;rintro e w2 ⟨rfl,v3,hr3,hs3⟩)
      go_roundw
      case rel=>exact ⟨k+1,v3,by omega,by go_num,(wx.behind (by go_grown)).next hr3 hs3⟩
      case measure=>simp [intOf];omega
    · have hk2:k=pl:=by omega
      subst hk2
      have hq:=wx.eqb (bs':=PRE++encP p) (by rw [List.take_of_length_le (by have:=EL.out;omega)])
      clear wx
      have wx:=hq
      clear hq
      obtain ⟨Q,hQ⟩:∃Q,PRE++encP p=Q:=⟨_,rfl⟩
      rw [hQ] at wx
      have hQL:Q.length+T.length≤140737488355328:=by rw [←hQ,List.length_append];omega
      have HQ:Hid (bs++(be (ck % 18446744073709551616).toNat 1++be p.length 1++encP p++T)=Q++T):=by
        unfold Hid;rw [←hQ,HPE.out];simp only [List.append_assoc]
      clear hQ hPL hsz
      by_cases e1:ck=1
      case pos=>
        subst e1
        have hTk:T=be (n % 18446744073709551616).toNat 8:=by rw [←HT.out];simp [encT,saysB,hasB]
        rw [hTk] at hQL
        have HTK:=Lib.hid hTk
        simp only [be_length] at hQL
        clear hTk
        go_wp2_with (go_at_call 80;(with_reducible refine (layI648_any _ _ B wb _ _ wx.wrt ?_).mono ?_);(focus ((first|omega|(simp only [List.length_append];omega)|(simp only [List.length_append,be_length];omega))));rintro e w2 ⟨rfl,v2,hr2,hs2⟩;replace wx:=wx.next hr2 hs2;obtain ⟨y0,y1,y2,y3,y4,y5,y6,y7,y8,y9,y10,y11⟩:=row12 wx.at_)
        go_returns
        exact ⟨rfl,_,by rw [HQ.out,HTK.out];have:=wx.wrt;first|exact this|(simp only [List.append_assoc] at this ⊢;exact this)|(simp only [List.append_nil] at this ⊢;exact this),wx.st⟩
      have f1:(ck==1)=false:=by simp [e1]
      by_cases e2:ck=2
      case pos=>
        subst e2
        have hTk:T=encS key++encV vv:=by rw [←HT.out];simp [encT,saysB,hasB]
        rw [hTk] at hQL
        have HTK:=Lib.hid hTk
        simp only [List.length_append] at hQL
        clear hTk
        go_wp2_with (first|(go_at_call 81;(with_reducible refine (text_any _ _ B wb _ _ wx.wrt ?_).mono ?_);(focus ((first|omega|(simp only [List.length_append];omega)|(simp only [List.length_append,be_length];omega))));rintro e w2 ⟨rfl,v2,hr2,hs2⟩;replace wx:=wx.next hr2 hs2;obtain ⟨y0,y1,y2,y3,y4,y5,y6,y7,y8,y9,y10,y11⟩:=row12 wx.at_)|(go_at_call 52;(with_reducible refine (valueX_any vv vk vn vs vla vll vlc voa vol voc _ B wb _ _ wx.wrt (HV.out _ (H0.out.keeps wx.st)) ?_).mono ?_);(focus ((first|omega|(simp only [List.length_append];omega)|(simp only [List.length_append,be_length];omega))));rintro e w2 ⟨rfl,v2,hr2,hs2⟩;replace wx:=wx.next hr2 hs2;obtain ⟨y0,y1,y2,y3,y4,y5,y6,y7,y8,y9,y10,y11⟩:=row12 wx.at_))
        go_returns
        exact ⟨rfl,_,by rw [HQ.out,HTK.out];have:=wx.wrt;first|exact this|(simp only [List.append_assoc] at this ⊢;exact this)|(simp only [List.append_nil] at this ⊢;exact this),wx.st⟩
      have f2:(ck==2)=false:=by simp [e2]
      by_cases e3:ck=3
      case pos=>
        subst e3
        have hTk:T=encS key:=by rw [←HT.out];simp [encT,saysB,hasB]
        rw [hTk] at hQL
        have HTK:=Lib.hid hTk
        clear hTk
        go_wp2_with (go_at_call 81;(with_reducible refine (text_any _ _ B wb _ _ wx.wrt ?_).mono ?_);(focus ((first|omega|(simp only [List.length_append];omega)|(simp only [List.length_append,be_length];omega))));rintro e w2 ⟨rfl,v2,hr2,hs2⟩;replace wx:=wx.next hr2 hs2;obtain ⟨y0,y1,y2,y3,y4,y5,y6,y7,y8,y9,y10,y11⟩:=row12 wx.at_)
        go_returns
        exact ⟨rfl,_,by rw [HQ.out,HTK.out];have:=wx.wrt;first|exact this|(simp only [List.append_assoc] at this ⊢;exact this)|(simp only [List.append_nil] at this ⊢;exact this),wx.st⟩
      have f3:(ck==3)=false:=by simp [e3]
      by_cases e4:ck=4
      case pos=>
        subst e4
        have hTk:T=be (i % 18446744073709551616).toNat 8++encV vv:=by rw [←HT.out];simp [encT,saysB,hasB]
        rw [hTk] at hQL
        have HTK:=Lib.hid hTk
        simp only [List.length_append,be_length] at hQL
        clear hTk
        go_wp2_with (first|(go_at_call 53;(with_reducible refine (layInt8_any _ _ B wb _ _ wx.wrt ?_).mono ?_);(focus ((first|omega|(simp only [List.length_append];omega)|(simp only [List.length_append,be_length];omega))));rintro e w2 ⟨rfl,v2,hr2,hs2⟩;replace wx:=wx.next hr2 hs2;obtain ⟨y0,y1,y2,y3,y4,y5,y6,y7,y8,y9,y10,y11⟩:=row12 wx.at_)|(go_at_call 52;(with_reducible refine (valueX_any vv vk vn vs vla vll vlc voa vol voc _ B wb _ _ wx.wrt (HV.out _ (H0.out.keeps wx.st)) ?_).mono ?_);(focus ((first|omega|(simp only [List.length_append];omega)|(simp only [List.length_append,be_length];omega))));rintro e w2 ⟨rfl,v2,hr2,hs2⟩;replace wx:=wx.next hr2 hs2;obtain ⟨y0,y1,y2,y3,y4,y5,y6,y7,y8,y9,y10,y11⟩:=row12 wx.at_))
        go_returns
        exact ⟨rfl,_,by rw [HQ.out,HTK.out];have:=wx.wrt;first|exact this|(simp only [List.append_assoc] at this ⊢;exact this)|(simp only [List.append_nil] at this ⊢;exact this),wx.st⟩
      have f4:(ck==4)=false:=by simp [e4]
      by_cases e5:ck=5
      case pos=>
        subst e5
        have hTk:T=be (i % 18446744073709551616).toNat 8:=by rw [←HT.out];simp [encT,saysB,hasB]
        rw [hTk] at hQL
        have HTK:=Lib.hid hTk
        simp only [be_length] at hQL
        clear hTk
        go_wp2_with (go_at_call 53;(with_reducible refine (layInt8_any _ _ B wb _ _ wx.wrt ?_).mono ?_);(focus ((first|omega|(simp only [List.length_append];omega)|(simp only [List.length_append,be_length];omega))));rintro e w2 ⟨rfl,v2,hr2,hs2⟩;replace wx:=wx.next hr2 hs2;obtain ⟨y0,y1,y2,y3,y4,y5,y6,y7,y8,y9,y10,y11⟩:=row12 wx.at_)
        go_returns
        exact ⟨rfl,_,by rw [HQ.out,HTK.out];have:=wx.wrt;first|exact this|(simp only [List.append_assoc] at this ⊢;exact this)|(simp only [List.append_nil] at this ⊢;exact this),wx.st⟩
      have f5:(ck==5)=false:=by simp [e5]
      by_cases e6:ck=6
      case pos=>
        subst e6
        have hTk:T=be (i % 18446744073709551616).toNat 8++encV vv:=by rw [←HT.out];simp [encT,saysB,hasB]
        rw [hTk] at hQL
        have HTK:=Lib.hid hTk
        simp only [List.length_append,be_length] at hQL
        clear hTk
        go_wp2_with (first|(go_at_call 53;(with_reducible refine (layInt8_any _ _ B wb _ _ wx.wrt ?_).mono ?_);(focus ((first|omega|(simp only [List.length_append];omega)|(simp only [List.length_append,be_length];omega))));rintro e w2 ⟨rfl,v2,hr2,hs2⟩;replace wx:=wx.next hr2 hs2;obtain ⟨y0,y1,y2,y3,y4,y5,y6,y7,y8,y9,y10,y11⟩:=row12 wx.at_)|(go_at_call 52;(with_reducible refine (valueX_any vv vk vn vs vla vll vlc voa vol voc _ B wb _ _ wx.wrt (HV.out _ (H0.out.keeps wx.st)) ?_).mono ?_);(focus ((first|omega|(simp only [List.length_append];omega)|(simp only [List.length_append,be_length];omega))));rintro e w2 ⟨rfl,v2,hr2,hs2⟩;replace wx:=wx.next hr2 hs2;obtain ⟨y0,y1,y2,y3,y4,y5,y6,y7,y8,y9,y10,y11⟩:=row12 wx.at_))
        go_returns
        exact ⟨rfl,_,by rw [HQ.out,HTK.out];have:=wx.wrt;first|exact this|(simp only [List.append_assoc] at this ⊢;exact this)|(simp only [List.append_nil] at this ⊢;exact this),wx.st⟩
      have f6:(ck==6)=false:=by simp [e6]
      by_cases e7:ck=7
      case pos=>
        subst e7
        have hTk:T=be (i % 18446744073709551616).toNat 8++be (j % 18446744073709551616).toNat 8:=by rw [←HT.out];simp [encT,saysB,hasB]
        rw [hTk] at hQL
        have HTK:=Lib.hid hTk
        simp only [List.length_append,be_length] at hQL
        clear hTk
        go_wp2_with (go_at_call 53;(with_reducible refine (layInt8_any _ _ B wb _ _ wx.wrt ?_).mono ?_);(focus ((first|omega|(simp only [List.length_append];omega)|(simp only [List.length_append,be_length];omega))));rintro e w2 ⟨rfl,v2,hr2,hs2⟩;replace wx:=wx.next hr2 hs2;obtain ⟨y0,y1,y2,y3,y4,y5,y6,y7,y8,y9,y10,y11⟩:=row12 wx.at_)
        go_returns
        exact ⟨rfl,_,by rw [HQ.out,HTK.out];have:=wx.wrt;first|exact this|(simp only [List.append_assoc] at this ⊢;exact this)|(simp only [List.append_nil] at this ⊢;exact this),wx.st⟩
      have f7:(ck==7)=false:=by simp [e7]
      by_cases e8:ck=8
      case pos=>
        subst e8
        have hTk:T=be (i % 18446744073709551616).toNat 8++encS s:=by rw [←HT.out];simp [encT,saysB,hasB]
        rw [hTk] at hQL
        have HTK:=Lib.hid hTk
        simp only [List.length_append,be_length] at hQL
        clear hTk
        go_wp2_with (first|(go_at_call 53;(with_reducible refine (layInt8_any _ _ B wb _ _ wx.wrt ?_).mono ?_);(focus ((first|omega|(simp only [List.length_append];omega)|(simp only [List.length_append,be_length];omega))));rintro e w2 ⟨rfl,v2,hr2,hs2⟩;replace wx:=wx.next hr2 hs2;obtain ⟨y0,y1,y2,y3,y4,y5,y6,y7,y8,y9,y10,y11⟩:=row12 wx.at_)|(go_at_call 81;(with_reducible refine (text_any _ _ B wb _ _ wx.wrt ?_).mono ?_);(focus ((first|omega|(simp only [List.length_append];omega)|(simp only [List.length_append,be_length];omega))));rintro e w2 ⟨rfl,v2,hr2,hs2⟩;replace wx:=wx.next hr2 hs2;obtain ⟨y0,y1,y2,y3,y4,y5,y6,y7,y8,y9,y10,y11⟩:=row12 wx.at_))
        go_returns
        exact ⟨rfl,_,by rw [HQ.out,HTK.out];have:=wx.wrt;first|exact this|(simp only [List.append_assoc] at this ⊢;exact this)|(simp only [List.append_nil] at this ⊢;exact this),wx.st⟩
      have f8:(ck==8)=false:=by simp [e8]
      by_cases e9:ck=9
      case pos=>
        subst e9
        have hTk:T=be (i % 18446744073709551616).toNat 8++be (n % 18446744073709551616).toNat 8:=by rw [←HT.out];simp [encT,saysB,hasB]
        rw [hTk] at hQL
        have HTK:=Lib.hid hTk
        simp only [List.length_append,be_length] at hQL
        clear hTk
        go_wp2_with (first|(go_at_call 53;(with_reducible refine (layInt8_any _ _ B wb _ _ wx.wrt ?_).mono ?_);(focus ((first|omega|(simp only [List.length_append];omega)|(simp only [List.length_append,be_length];omega))));rintro e w2 ⟨rfl,v2,hr2,hs2⟩;replace wx:=wx.next hr2 hs2;obtain ⟨y0,y1,y2,y3,y4,y5,y6,y7,y8,y9,y10,y11⟩:=row12 wx.at_)|(go_at_call 80;(with_reducible refine (layI648_any _ _ B wb _ _ wx.wrt ?_).mono ?_);(focus ((first|omega|(simp only [List.length_append];omega)|(simp only [List.length_append,be_length];omega))));rintro e w2 ⟨rfl,v2,hr2,hs2⟩;replace wx:=wx.next hr2 hs2;obtain ⟨y0,y1,y2,y3,y4,y5,y6,y7,y8,y9,y10,y11⟩:=row12 wx.at_))
        go_returns
        exact ⟨rfl,_,by rw [HQ.out,HTK.out];have:=wx.wrt;first|exact this|(simp only [List.append_assoc] at this ⊢;exact this)|(simp only [List.append_nil] at this ⊢;exact this),wx.st⟩
      have f9:(ck==9)=false:=by simp [e9]
      have hTk:T= [] :=by rw [←HT.out];simp [encT,saysB,hasB,e1,e2,e3,e4,e5,e6,e7,e8,e9]
      rw [hTk] at hQL
      have HTK:=Lib.hid hTk
      simp only [List.length_nil] at hQL
      clear e1 e2 e3 e4 e5 e6 e7 e8 e9
      clear hTk
      go_wp2_with fail
      go_returns
      exact ⟨rfl,_,by rw [HQ.out,HTK.out];have:=wx.wrt;first|exact this|(simp only [List.append_assoc] at this ⊢;exact this)|(simp only [List.append_nil] at this ⊢;exact this),wx.st⟩
end Go.Proofs.YthceefjafklcmaaDoor
namespace Go.Proofs.YthceefjafklcmaaDoor
open Go.RowKit
end Go.Proofs.YthceefjafklcmaaDoor
namespace Go.Proofs.YthceefjafklcmaaDoor
open Go.RowKit
structure BX (w W:World) (cs:List Value):Prop where
  at_:∀j x,cs[j]? =some x→W.cell? ⟨w.heap.size,j,none⟩=some x
  below:Below w.heap.size w W
  size:w.heap.size+1≤W.heap.size
theorem BX.step {w W W':World} {cs:List Value} (h:BX w W cs) (hb:Below W.heap.size W W'):BX w W' cs:=
  ⟨fun j x hj=>keep_cell hb (h.at_ j x hj) (by have:=h.size;omega),h.below.trans (hb.mono (by have:=h.size;omega)),by have:=h.size;have:=hb.size;omega⟩
theorem BX.next {w W W1 W2:World} {B:Nat} {cs:List Value} (h:BX w W cs) (hb:Below B W1 W2) (hW:Below W.heap.size W W1) (hB:B=W1.heap.size):BX w W2 cs:=by
  subst hB;exact (h.step hW).step hb
theorem BX.start (w:World) (cs:Array Value) (t:TypeId):BX w (w.alloc (.cells cs t)) cs.toList:=
  ⟨fun j x hj=>cells_new w cs t j x (by rw [←hj];simp),(Below.refl _ _).alloc (Nat.le_refl _) _,by simp⟩
theorem frozen_new (w:World) (cs:Array Value) (t:TypeId) (j:Nat):(w.alloc (.cells cs t)).frozen? ⟨w.heap.size,j,none⟩=false:=by
  simp [go_sem]
theorem WG.fresh {w w1:World} {cs:List Value} (h:BX w w1 cs) (t:TypeId):WG (w1.alloc (.cells #[.slice none 0 0] t)) (w1.alloc (.cells #[.slice none 0 0] t)) w.heap.size w1.heap.size w.heap.size (.slice none 0 0) (.slice none 0 0) [] cs:=by
  have hb:Below w1.heap.size w1 (w1.alloc (.cells #[.slice none 0 0] t)):=(Below.refl _ _).alloc (Nat.le_refl _) _
  have hs:=h.size
  refine ⟨⟨cells_new w1 _ t 0 _ rfl,frozen_new w1 _ t 0,⟨by simp [outs], .inl ⟨rfl,rfl⟩⟩,by simp [Value.ownBlock],by omega⟩, .refl _ _ _,fun j x hj=>keep_cell hb (h.at_ j x hj) (by omega),by omega,by simp;omega,by simp [Value.ownBlock]⟩
structure IsB (w:World) (B:Nat) (a:Option Addr) (n c:Nat) (bs:List UInt8):Prop where
  len:n=bs.length
  cap:n≤c
  max:c≤9223372036854775807
  at_:∃b o,(0<n→a=some ⟨b,o,none⟩∧b<B)∧∀i (h:i<bs.length),w.cell? ⟨b,o+i,none⟩=some (.int .u8 (bs[i].toNat:Int))
theorem IsB.keep {w w':World} {B:Nat} {a:Option Addr} {n c:Nat} {bs:List UInt8} (h:IsB w B a n c bs) (hb:Below B w w'):IsB w' B a n c bs:=by
  obtain ⟨h1,h2,h3,b,o,h5,h6⟩:=h
  exact ⟨h1,h2,h3,b,o,h5,fun i hi=>keep_cell hb (h6 i hi) (h5 (by omega)).2⟩
theorem IsB.more {w:World} {B B':Nat} {a:Option Addr} {n c:Nat} {bs:List UInt8} (h:IsB w B a n c bs) (hB:B≤B'):IsB w B' a n c bs:=by
  obtain ⟨h1,h2,h3,b,o,h5,h6⟩:=h
  exact ⟨h1,h2,h3,b,o,fun hn=>⟨(h5 hn).1,by have:=(h5 hn).2;omega⟩,h6⟩
theorem IsB.nil (w:World) (B:Nat):IsB w B none 0 0 [] :=⟨rfl,Nat.le_refl _,by omega,0,0,fun h=>by omega,fun i hi=>by cases hi⟩
theorem Wr.isB {w:World} {B wb:Nat} {v:Value} {bs:List UInt8} (h:Wr w B wb v bs):∃a n c,v= .slice a n c∧IsB w w.heap.size a n c bs:=by
  have ho:=h.own
  have hc:=fun g hg=>ho.cells (g:=g) hg
  rcases ho.2 with ⟨rfl,hn⟩|⟨g,cap,cur,rfl,_,hg,hnc,hcm,_,_⟩
  · have:bs= [] :=List.length_eq_zero_iff.1 hn
    subst this
    exact ⟨none,0,0,rfl, .nil _ _⟩
  · refine ⟨_,_,_,rfl,rfl,hnc,by simpa [maxLen] using hcm,g,0,fun _=>⟨rfl,(h.lo g rfl).2⟩,fun i hi=> ?_⟩
    have:=hc g rfl i (.int .u8 (bs[i].toNat:Int)) (by simp [outs,hi])
    have e:(⟨g,0,none⟩:Addr).add i=⟨g,0+i,none⟩:=by unfold Addr.add;split<;>simp_all
    rw [e] at this;exact this
def encCs:List Cm→List UInt8
  | [] => []
  |c::r=>encC c++encCs r
theorem encCs_append (a b:List Cm):encCs (a++b)=encCs a++encCs b:=by
  induction a with
  |nil=>simp [encCs]
  |cons v r ih=>simp only [List.cons_append,encCs,ih,List.append_assoc]
theorem encCs_take (l:List Cm) (k:Nat) (h:k<l.length):encCs (l.take (k+1))=encCs (l.take k)++encC l[k] :=by
  rw [take_snoc l k h,encCs_append];simp [encCs]
theorem encCs_le (l:List Cm) (k:Nat):(encCs (l.take k)).length≤(encCs l).length:=by
  have h:=encCs_append (l.take k) (l.drop k)
  rw [List.take_append_drop] at h;rw [h,List.length_append];omega
def encE (e:En):List UInt8:=
  be (e.k % 18446744073709551616).toNat 1++be (e.src % 18446744073709551616).toNat 4++be (e.seq % 18446744073709551616).toNat 4++
    (if e.k=1 then encV e.v else if e.k=2 then be e.op.length 4++encCs e.op else [])
def outB (ok:Bool) (bs:List UInt8):List UInt8:=if ok=true then (if 60000<bs.length then [] else bs) else []
def outN (ok:Bool) (bs:List UInt8):Int:=if ok=true then (if 60000<bs.length then 3 else 0) else 1
theorem done_any (w:World) (B wb:Nat) (v:Value) (bs:List UInt8) (h:Wr w B wb v bs) (hsz:bs.length≤140737488355328):
    Calls Tryd.prog 55 #[.pointer (some ⟨wb,0,none⟩)] w fun e w'=>(∃a n c,e= .returned (.tuple #[.slice a n c, .int .u16 (outN true bs)])∧IsB w' w'.heap.size a n c (outB true bs))∧Below w.heap.size w w':=by
  obtain ⟨a,n,c,rfl,hI⟩:=h.isB
  have hc:=h.cell
  have hn:=hI.len
  have HN:=Lib.hid hn
  have HI:=Lib.hid hI
  by_cases hq:60000<bs.length
  · have e1:outN true bs=3:=by simp [outN,hq]
    have e2:outB true bs= [] :=by simp [outB,hq]
    rw [e1,e2]
    have hn2:60000<n:=by omega
    clear e1 e2 hI h hn hq
    go_enter Tryd.func55,Tryd.ntmps55
    go_wp2_with fail
    go_returns
    exact ⟨⟨none,0,0,rfl, .nil _ _⟩,by go_grown⟩
  · have e1:outN true bs=0:=by simp [outN,hq]
    have e2:outB true bs=bs:=by simp [outB,hq]
    rw [e1,e2]
    have hn2:¬60000<n:=by omega
    clear e1 e2 hI h hn hq
    go_enter Tryd.func55,Tryd.ntmps55
    go_wp2_with fail
    go_returns
    exact ⟨⟨a,n,c,rfl,HI.out⟩,by go_grown⟩
set_option maxHeartbeats 8000000 in
set_option maxRecDepth 100000 in
theorem value_of (sd:Bool) (w:World) (vk vn:Int) (vs:ByteArray) (vla:Option Addr) (vll vlc:Nat) (voa:Option Addr) (vol voc:Nat) (vv:V) (hv:IsVal w w.heap.size vv ⟨vk,vn,vs,vla,vll,vlc,voa,vol,voc⟩) (HS:Hid (∀W,Below w.heap.size w W→Calls Tryd.prog 43 #[.agg #[.int .u8 vk, .int .i64 vn, .string vs, .slice vla vll vlc, .slice voa vol voc]] W fun e w'=>e= .returned (.bool sd)∧Below W.heap.size W w')) (hsz:(encV vv).length≤70368744177664):
    Calls Tryd.prog 33 #[.agg #[.int .u8 vk, .int .i64 vn, .string vs, .slice vla vll vlc, .slice voa vol voc]] w fun e w'=>(∃a n c,e= .returned (.tuple #[.slice a n c, .int .u16 (outN sd (encV vv))])∧IsB w' w'.heap.size a n c (outB sd (encV vv)))∧Below w.heap.size w w':=by
  have bx:=BX.start w #[.int .u8 vk, .int .i64 vn, .string vs, .slice vla vll vlc, .slice voa vol voc] 28
  have HV:Hid (∀W,Below w.heap.size w W→IsVal W w.heap.size vv ⟨vk,vn,vs,vla,vll,vlc,voa,vol,voc⟩):=fun W hW=>hv.keep hW
  clear hv
  cases sd with
  | false=>
    have e1:outN false (encV vv)=1:=rfl
    have e2:outB false (encV vv)= [] :=rfl
    rw [e1,e2]
    clear e1 e2 hsz
    go_enter Tryd.func33,Tryd.ntmps33
    go_wp2_with (go_at_call 43;(with_reducible refine (HS.out _ ?_).mono ?_);(focus (have:=bx.below;have:=bx.size;go_grown));rintro e w1 ⟨rfl,hb1⟩;replace bx:=bx.next hb1 (by go_grown) rfl;have zs:w.heap.size<w1.heap.size:=bx.size;obtain ⟨y0,y1,y2,y3,y4⟩:=row5 bx.at_)
    go_returns
    exact ⟨⟨none,0,0,rfl, .nil _ _⟩,by have:=bx.below;have:=bx.size;go_grown⟩
  | true=>
    have hsz0:(encV vv).length≤140737488355328:=by omega
    go_enter Tryd.func33,Tryd.ntmps33
    go_wp2_with (first|(go_at_call 43;(with_reducible refine (HS.out _ ?_).mono ?_);(focus (have:=bx.below;have:=bx.size;go_grown));rintro e w1 ⟨rfl,hb1⟩;replace bx:=bx.next hb1 (by go_grown) rfl;have zs:w.heap.size<w1.heap.size:=bx.size;have wx:=WG.fresh bx 91;have H2:Hid (Below w.heap.size w (w1.alloc (.cells #[.slice none 0 0] 91))):=Lib.hid (bx.below.alloc (Nat.le_of_lt zs) _);have H0:=Lib.hid wx.wrt;have hlt:=bx.size;obtain ⟨b0,b1,b2,b3,b4⟩:=row5 bx.at_;obtain ⟨y0,y1,y2,y3,y4⟩:=row5 wx.at_)|(go_at_call 52;(with_reducible refine (valueX_any vv vk vn vs vla vll vlc voa vol voc _ w.heap.size w1.heap.size _ _ wx.wrt (HV.out _ (H2.out.trans (H0.out.keeps wx.st))) ?_).mono ?_);(focus ((first|omega|(simp only [List.length_nil];omega)|(simp only [List.length_append];omega)|(simp only [List.length_append,List.length_nil];omega)|(simp only [List.length_append,be_length];omega)|(simp only [List.length_append,be_length,List.length_nil];omega))));rintro e w2 ⟨rfl,v2,hr2,hs2⟩;replace wx:=wx.next hr2 hs2;obtain ⟨y0,y1,y2,y3,y4⟩:=row5 wx.at_)|(go_at_call 55;(with_reducible refine (done_any _ w.heap.size w1.heap.size _ _ wx.wrt ?_).mono ?_);(focus ((first|omega|(simp only [List.length_nil];omega)|(simp only [List.length_append];omega)|(simp only [List.length_append,List.length_nil];omega)|(simp only [List.length_append,be_length];omega)|(simp only [List.length_append,be_length,List.length_nil];omega))));rintro e w9 ⟨⟨ra,rn,rc,rfl,hI⟩,hb9⟩))
    go_returns
    exact ⟨⟨ra,rn,rc,rfl,hI⟩,by exact (H2.out.trans (H0.out.keeps wx.st)).trans (hb9.mono (by have:=wx.lt;omega))⟩
set_option maxHeartbeats 8000000 in
set_option maxRecDepth 100000 in
theorem encode_of (sd:Bool) (w:World) (ek src seq vk vn:Int) (vs:ByteArray) (vla:Option Addr) (vll vlc:Nat) (voa:Option Addr) (vol voc:Nat) (oa:Option Addr) (ol oc:Nat) (vv:V) (l:List Cm) (hk0:0≤ek) (hk1:ek<256) (hv:IsVal w w.heap.size vv ⟨vk,vn,vs,vla,vll,vlc,voa,vol,voc⟩) (ho:IsComps w w.heap.size l oa ol oc) (HS:Hid (∀W,Below w.heap.size w W→Calls Tryd.prog 29 #[.agg #[.int .u8 ek, .int .u32 src, .int .u32 seq, .int .u8 vk, .int .i64 vn, .string vs, .slice vla vll vlc, .slice voa vol voc, .slice oa ol oc]] W fun e w'=>e= .returned (.bool sd)∧Below W.heap.size W w')) (hsz:sd=true→(encE ⟨ek,src,seq,vv,l⟩).length≤70368744177664):
    Calls Tryd.prog 32 #[.agg #[.int .u8 ek, .int .u32 src, .int .u32 seq, .int .u8 vk, .int .i64 vn, .string vs, .slice vla vll vlc, .slice voa vol voc, .slice oa ol oc]] w fun e w'=>(∃a n c,e= .returned (.tuple #[.slice a n c, .int .u16 (outN sd (encE ⟨ek,src,seq,vv,l⟩))])∧IsB w' w'.heap.size a n c (outB sd (encE ⟨ek,src,seq,vv,l⟩)))∧Below w.heap.size w w':=by
  have bx:=BX.start w #[.int .u8 ek, .int .u32 src, .int .u32 seq, .int .u8 vk, .int .i64 vn, .string vs, .slice vla vll vlc, .slice voa vol voc, .slice oa ol oc] 31
  have HV:Hid (∀W,Below w.heap.size w W→IsVal W w.heap.size vv ⟨vk,vn,vs,vla,vll,vlc,voa,vol,voc⟩):=fun W hW=>hv.keep hW
  have HO:=Lib.hid ho
  have c1:=ho.cap;have c2:=ho.max;have c3:=ho.few
  have el:=ho.len
  have ell:be ((ol:Int) % 18446744073709551616).toNat 4=be l.length 4:=by rw [len_mod _ (by omega),el]
  have ELL:=Lib.hid ell
  have EL:=Lib.hid el
  clear ho hv ell el
  cases sd with
  | false=>
    have e1:outN false (encE ⟨ek,src,seq,vv,l⟩)=1:=rfl
    have e2:outB false (encE ⟨ek,src,seq,vv,l⟩)= [] :=rfl
    rw [e1,e2]
    clear e1 e2 hsz
    go_enter Tryd.func32,Tryd.ntmps32
    go_wp2_with (go_at_call 29;(with_reducible refine (HS.out _ ?_).mono ?_);(focus (have:=bx.below;have:=bx.size;go_grown));rintro e w1 ⟨rfl,hb1⟩;replace bx:=bx.next hb1 (by go_grown) rfl;have zs:w.heap.size<w1.heap.size:=bx.size;obtain ⟨y0,y1,y2,y3,y4,y5,y6,y7,y8⟩:=row9 bx.at_)
    go_returns
    exact ⟨⟨none,0,0,rfl, .nil _ _⟩,by have:=bx.below;have:=bx.size;go_grown⟩
  | true =>
    replace hsz:=hsz rfl
    have he:encE ⟨ek,src,seq,vv,l⟩=be (ek % 18446744073709551616).toNat 1++be (src % 18446744073709551616).toNat 4++be (seq % 18446744073709551616).toNat 4++(if ek=1 then encV vv else if ek=2 then be l.length 4++encCs l else []):=rfl
    rw [he] at hsz ⊢
    clear he
    by_cases e1:ek=1
    case pos=>
      subst e1
      rw [if_pos rfl] at hsz ⊢
      have hsz0:=hsz
      simp only [List.length_append,be_length] at hsz0
      go_enter Tryd.func32,Tryd.ntmps32
      go_wp2_with (first|(go_at_call 29;(with_reducible refine (HS.out _ ?_).mono ?_);(focus (have:=bx.below;have:=bx.size;go_grown));rintro e w1 ⟨rfl,hb1⟩;replace bx:=bx.next hb1 (by go_grown) rfl;have zs:w.heap.size<w1.heap.size:=bx.size;have wx:=WG.fresh bx 91;have H2:Hid (Below w.heap.size w (w1.alloc (.cells #[.slice none 0 0] 91))):=Lib.hid (bx.below.alloc (Nat.le_of_lt zs) _);have H0:=Lib.hid wx.wrt;have hlt:=bx.size;obtain ⟨b0,b1,b2,b3,b4,b5,b6,b7,b8⟩:=row9 bx.at_;obtain ⟨y0,y1,y2,y3,y4,y5,y6,y7,y8⟩:=row9 wx.at_)|(go_at_call 50;(with_reducible refine (layU81_any _ _ w.heap.size w1.heap.size _ _ wx.wrt ?_).mono ?_);(focus ((first|omega|(simp only [List.length_nil];omega)|(simp only [List.length_append];omega)|(simp only [List.length_append,List.length_nil];omega)|(simp only [List.length_append,be_length];omega)|(simp only [List.length_append,be_length,List.length_nil];omega))));rintro e w2 ⟨rfl,v2,hr2,hs2⟩;replace wx:=wx.next hr2 hs2;obtain ⟨y0,y1,y2,y3,y4,y5,y6,y7,y8⟩:=row9 wx.at_)|(go_at_call 51;(with_reducible refine (layU324_any _ _ w.heap.size w1.heap.size _ _ wx.wrt ?_).mono ?_);(focus ((first|omega|(simp only [List.length_nil];omega)|(simp only [List.length_append];omega)|(simp only [List.length_append,List.length_nil];omega)|(simp only [List.length_append,be_length];omega)|(simp only [List.length_append,be_length,List.length_nil];omega))));rintro e w2 ⟨rfl,v2,hr2,hs2⟩;replace wx:=wx.next hr2 hs2;obtain ⟨y0,y1,y2,y3,y4,y5,y6,y7,y8⟩:=row9 wx.at_)|(go_at_call 52;(with_reducible refine (valueX_any vv vk vn vs vla vll vlc voa vol voc _ w.heap.size w1.heap.size _ _ wx.wrt (HV.out _ (H2.out.trans (H0.out.keeps wx.st))) ?_).mono ?_);(focus ((first|omega|(simp only [List.length_nil];omega)|(simp only [List.length_append];omega)|(simp only [List.length_append,List.length_nil];omega)|(simp only [List.length_append,be_length];omega)|(simp only [List.length_append,be_length,List.length_nil];omega))));rintro e w2 ⟨rfl,v2,hr2,hs2⟩;replace wx:=wx.next hr2 hs2;obtain ⟨y0,y1,y2,y3,y4,y5,y6,y7,y8⟩:=row9 wx.at_)|(go_at_call 55;(with_reducible refine (done_any _ w.heap.size w1.heap.size _ _ wx.wrt ?_).mono ?_);(focus ((first|omega|(simp only [List.length_nil];omega)|(simp only [List.length_append];omega)|(simp only [List.length_append,List.length_nil];omega)|(simp only [List.length_append,be_length];omega)|(simp only [List.length_append,be_length,List.length_nil];omega))));rintro e w9 ⟨⟨ra,rn,rc,rfl,hI⟩,hb9⟩))
      go_returns
      simp only [List.nil_append] at hI ⊢
      exact ⟨⟨ra,rn,rc,rfl,hI⟩,by exact (H2.out.trans (H0.out.keeps wx.st)).trans (hb9.mono (by have:=wx.lt;omega))⟩
    have f1:(ek==1)=false:=by simp [e1]
    rw [if_neg e1] at hsz ⊢
    by_cases e2:ek=2
    case neg=>
      have f2:(ek==2)=false:=by simp [e2]
      rw [if_neg e2] at hsz ⊢
      have hsz0:=hsz
      simp only [List.length_append,be_length,List.length_nil] at hsz0
      clear e1 e2
      go_enter Tryd.func32,Tryd.ntmps32
      go_wp2_with (first|(go_at_call 29;(with_reducible refine (HS.out _ ?_).mono ?_);(focus (have:=bx.below;have:=bx.size;go_grown));rintro e w1 ⟨rfl,hb1⟩;replace bx:=bx.next hb1 (by go_grown) rfl;have zs:w.heap.size<w1.heap.size:=bx.size;have wx:=WG.fresh bx 91;have H2:Hid (Below w.heap.size w (w1.alloc (.cells #[.slice none 0 0] 91))):=Lib.hid (bx.below.alloc (Nat.le_of_lt zs) _);have H0:=Lib.hid wx.wrt;have hlt:=bx.size;obtain ⟨b0,b1,b2,b3,b4,b5,b6,b7,b8⟩:=row9 bx.at_;obtain ⟨y0,y1,y2,y3,y4,y5,y6,y7,y8⟩:=row9 wx.at_)|(go_at_call 50;(with_reducible refine (layU81_any _ _ w.heap.size w1.heap.size _ _ wx.wrt ?_).mono ?_);(focus ((first|omega|(simp only [List.length_nil];omega)|(simp only [List.length_append];omega)|(simp only [List.length_append,List.length_nil];omega)|(simp only [List.length_append,be_length];omega)|(simp only [List.length_append,be_length,List.length_nil];omega))));rintro e w2 ⟨rfl,v2,hr2,hs2⟩;replace wx:=wx.next hr2 hs2;obtain ⟨y0,y1,y2,y3,y4,y5,y6,y7,y8⟩:=row9 wx.at_)|(go_at_call 51;(with_reducible refine (layU324_any _ _ w.heap.size w1.heap.size _ _ wx.wrt ?_).mono ?_);(focus ((first|omega|(simp only [List.length_nil];omega)|(simp only [List.length_append];omega)|(simp only [List.length_append,List.length_nil];omega)|(simp only [List.length_append,be_length];omega)|(simp only [List.length_append,be_length,List.length_nil];omega))));rintro e w2 ⟨rfl,v2,hr2,hs2⟩;replace wx:=wx.next hr2 hs2;obtain ⟨y0,y1,y2,y3,y4,y5,y6,y7,y8⟩:=row9 wx.at_)|(go_at_call 55;(with_reducible refine (done_any _ w.heap.size w1.heap.size _ _ wx.wrt ?_).mono ?_);(focus ((first|omega|(simp only [List.length_nil];omega)|(simp only [List.length_append];omega)|(simp only [List.length_append,List.length_nil];omega)|(simp only [List.length_append,be_length];omega)|(simp only [List.length_append,be_length,List.length_nil];omega))));rintro e w9 ⟨⟨ra,rn,rc,rfl,hI⟩,hb9⟩))
      go_returns
      simp only [List.nil_append,List.append_nil] at hI ⊢
      exact ⟨⟨ra,rn,rc,rfl,hI⟩,by exact (H2.out.trans (H0.out.keeps wx.st)).trans (hb9.mono (by have:=wx.lt;omega))⟩
    case pos=>
      subst e2
      rw [if_pos rfl] at hsz ⊢
      have hsz0:=hsz
      simp only [List.length_append,be_length] at hsz0
      clear e1
      go_enter Tryd.func32,Tryd.ntmps32
      go_wp2_with (first|(go_at_call 29;(with_reducible refine (HS.out _ ?_).mono ?_);(focus (have:=bx.below;have:=bx.size;go_grown));rintro e w1 ⟨rfl,hb1⟩;replace bx:=bx.next hb1 (by go_grown) rfl;have zs:w.heap.size<w1.heap.size:=bx.size;have wx:=WG.fresh bx 91;have H2:Hid (Below w.heap.size w (w1.alloc (.cells #[.slice none 0 0] 91))):=Lib.hid (bx.below.alloc (Nat.le_of_lt zs) _);have H0:=Lib.hid wx.wrt;have hlt:=bx.size;obtain ⟨b0,b1,b2,b3,b4,b5,b6,b7,b8⟩:=row9 bx.at_;obtain ⟨y0,y1,y2,y3,y4,y5,y6,y7,y8⟩:=row9 wx.at_)|(go_at_call 50;(with_reducible refine (layU81_any _ _ w.heap.size w1.heap.size _ _ wx.wrt ?_).mono ?_);(focus ((first|omega|(simp only [List.length_nil];omega)|(simp only [List.length_append];omega)|(simp only [List.length_append,List.length_nil];omega)|(simp only [List.length_append,be_length];omega)|(simp only [List.length_append,be_length,List.length_nil];omega))));rintro e w2 ⟨rfl,v2,hr2,hs2⟩;replace wx:=wx.next hr2 hs2;obtain ⟨y0,y1,y2,y3,y4,y5,y6,y7,y8⟩:=row9 wx.at_)|(go_at_call 51;(with_reducible refine (layU324_any _ _ w.heap.size w1.heap.size _ _ wx.wrt ?_).mono ?_);(focus ((first|omega|(simp only [List.length_nil];omega)|(simp only [List.length_append];omega)|(simp only [List.length_append,List.length_nil];omega)|(simp only [List.length_append,be_length];omega)|(simp only [List.length_append,be_length,List.length_nil];omega))));rintro e w2 ⟨rfl,v2,hr2,hs2⟩;replace wx:=wx.next hr2 hs2;obtain ⟨y0,y1,y2,y3,y4,y5,y6,y7,y8⟩:=row9 wx.at_)|(go_at_call 53;(with_reducible refine (layInt4_any _ _ w.heap.size w1.heap.size _ _ wx.wrt ?_).mono ?_);(focus ((first|omega|(simp only [List.length_nil];omega)|(simp only [List.length_append];omega)|(simp only [List.length_append,List.length_nil];omega)|(simp only [List.length_append,be_length];omega)|(simp only [List.length_append,be_length,List.length_nil];omega))));rintro e w2 ⟨rfl,v2,hr2,hs2⟩;replace wx:=wx.next hr2 hs2;obtain ⟨y0,y1,y2,y3,y4,y5,y6,y7,y8⟩:=row9 wx.at_))
      obtain ⟨PRE,hPRE⟩:∃PRE, [] ++be ((2:Int) % 18446744073709551616).toNat 1++be (src % 18446744073709551616).toNat 4++be (seq % 18446744073709551616).toNat 4++be ((ol:Int) % 18446744073709551616).toNat 4=PRE:=⟨_,rfl⟩
      rw [hPRE] at wx
      have hPL:PRE.length+(encCs l).length≤140737488355328:=by rw [←hPRE];simp only [List.length_append,be_length,List.length_nil];omega
      have hPE:be ((2:Int) % 18446744073709551616).toNat 1++be (src % 18446744073709551616).toNat 4++be (seq % 18446744073709551616).toNat 4++(be l.length 4++encCs l)=PRE++encCs l:=by rw [←hPRE,ELL.out];simp only [List.append_assoc,List.nil_append]
      rw [hPE] at hsz
      have HPE:=Lib.hid hPE
      have hlt:=bx.size
      have hwl:w1.heap.size<(w1.alloc (.cells #[.slice none 0 0] 91)).heap.size:=by simp
      obtain ⟨W0,hW0⟩:∃W0,w1.alloc (.cells #[.slice none 0 0] 91)=W0:=⟨_,rfl⟩
      rw [hW0] at wx H2 H0 hwl
      clear hr2 hs2 hPRE hPE y0 b0 y1 b1 y2 b2 y3 b3 y4 b4 y5 b5 y6 b6 y7 b7 y8 b8
      go_loopw [42,6] (fun ii _ wr=>∃(k:Nat) (u:Value),k≤ol∧ii= .int .i64 k∧WG W0 wr w.heap.size w1.heap.size w.heap.size (.slice none 0 0) u (PRE++encCs (l.take k)) [.int .u8 2, .int .u32 src, .int .u32 seq, .int .u8 vk, .int .i64 vn, .string vs, .slice vla vll vlc, .slice voa vol voc, .slice oa ol oc]) (fun ii _ _=>ol - (intOf ii).toNat)
      case atStart=>exact ⟨0,v2,Nat.zero_le _,rfl,by simpa [encCs] using wx⟩
      case round=>
        clear wx
        obtain ⟨k,u,hk,rfl,wx⟩:=hrel
        obtain ⟨y0,y1,y2,y3,y4,y5,y6,y7,y8⟩:=row9 wx.at_
        by_cases hlt2:k<ol
        · obtain ⟨b,o',f,kl,rfl,hb,x1,xb⟩:=HO.out.get hlt2
          have hbW:Below w.heap.size w wr:=H2.out.trans (H0.out.keeps wx.st)
          have x1:=x1.keep hbW hb
          have r0:=x1.c0;have r1:=x1.c1;have r2:=x1.c2;have r3:=x1.c3;have r4:=x1.c4;have r5:=x1.c5;have r6:=x1.c6.c0
          have r7:wr.cell? ⟨b,o'+k*12+7,none⟩=_:=x1.c6.c1;have r8:wr.cell? ⟨b,o'+k*12+8,none⟩=_:=x1.c6.c2;have r9:wr.cell? ⟨b,o'+k*12+9,none⟩=_:=x1.c6.c3;have r10:wr.cell? ⟨b,o'+k*12+10,none⟩=_:=x1.c6.c4;have r11:=x1.c11
          have hle:=encCs_le l (k+1)
          have ht:=encCs_take l k kl
          have hlen:(PRE++encCs (l.take k)).length+(encC l[k]).length≤140737488355328:=by
            rw [ht,List.length_append] at hle;rw [List.length_append];omega
          have HI:Hid (∀W,Below wr.heap.size wr W→Calls Tryd.prog 54 #[.pointer (some ⟨w1.heap.size,0,none⟩), .agg #[.int .u8 f.k, .slice f.pa f.pl f.pc, .string f.key, .int .i64 f.i, .int .i64 f.j, .int .i64 f.n, .int .u8 f.v.k, .int .i64 f.v.n, .string f.v.s, .slice f.v.la f.v.ll f.v.lc, .slice f.v.oa f.v.ol f.v.oc, .string f.s]] W fun e w'=>e= .returned (.tuple #[])∧∃v',Wr w' w.heap.size w1.heap.size v' (PRE++encCs (l.take (k+1)))∧WStep W w' w1.heap.size u v'):=by
            intro W hW
            have hBw:w.heap.size≤wr.heap.size:=hbW.size
            have:=compW_any l[k] W w.heap.size w1.heap.size u _ f (wx.wrt.of_below hW) (xb.keep (hbW.trans (hW.mono hBw))) hlen
            rw [ht, ←List.append_assoc];exact this
          clear x1 hle ht hlen xb hbW
          go_wp2_with (go_at_call 54;refine (HI.out _ (by go_grown)).mono ?_;rintro e w2 ⟨rfl,v3,hr3,hs3⟩)
          go_roundw
          case rel=>exact ⟨k+1,v3,by omega,by go_num,(wx.behind (by go_grown)).next hr3 hs3⟩
          case measure=>simp [intOf];omega
        · have hk2:k=ol:=by omega
          have hq:=wx.eqb (bs':=PRE++encCs l) (by rw [List.take_of_length_le (by have:=EL.out;omega)])
          clear wx
          have wx:=hq
          clear hq
          have hWt:=wx.wrt
          go_wp2_with (go_at_call 55;(with_reducible refine (done_any _ w.heap.size w1.heap.size _ _ wx.wrt ?_).mono ?_);(focus ((first|omega|(simp only [List.length_nil];omega)|(simp only [List.length_append];omega)|(simp only [List.length_append,List.length_nil];omega)|(simp only [List.length_append,be_length];omega)|(simp only [List.length_append,be_length,List.length_nil];omega))));rintro e w9 ⟨⟨ra,rn,rc,rfl,hI⟩,hb9⟩)
          go_returns
          rw [HPE.out]
          exact ⟨⟨ra,rn,rc,rfl,hI⟩,by exact (H2.out.trans (H0.out.keeps wx.st)).trans (hb9.mono (by have:=wx.lt;omega))⟩
end Go.Proofs.YthceefjafklcmaaDoor
namespace Go.Proofs.YthceefjafklcmaaDoor
open Go.RowKit
def num (l:List UInt8):Nat:=l.foldl (fun n b=>n*256+b.toNat) 0
theorem num_snoc (l:List UInt8) (b:UInt8):num (l++ [b])=num l*256+b.toNat:=by simp [num]
theorem num_lt_aux (l:List UInt8):∀a,l.foldl (fun n b=>n*256+b.toNat) a<(a+1)*256 ^ l.length:=by
  induction l with
  |nil=>intro a;simp
  | cons b l ih=>
    intro a
    have h1:=ih (a*256+b.toNat)
    have h2:=b.toNat_lt
    have h3:(a*256+b.toNat+1)*256 ^ l.length≤((a+1)*256)*256 ^ l.length:=Nat.mul_le_mul_right _ (by omega)
    have h4:((a+1)*256)*256 ^ l.length=(a+1)*256 ^ (b::l).length:=by
      rw [List.length_cons,Nat.pow_succ,Nat.mul_assoc,Nat.mul_comm 256]
    simp only [List.foldl_cons]
    omega
theorem num_lt (l:List UInt8):num l<256 ^ l.length:=by have:=num_lt_aux l 0;simpa [num] using this
def rdN (k:Nat) (bs:List UInt8):Option (Nat×List UInt8):=if k≤bs.length then some (num (bs.take k),bs.drop k) else none
def rdM (k:Nat) (bs:List UInt8):Option (Nat×List UInt8):=(rdN k bs).bind fun p=>if p.1≤p.2.length then some p else none
def rdT (bs:List UInt8):Option (ByteArray×List UInt8):=(rdM 4 bs).bind fun p=>some (⟨(p.2.take p.1).toArray⟩,p.2.drop p.1)
def rdL {α:Type} (f:List UInt8→Option (α×List UInt8)):Nat→List UInt8→Option (List α×List UInt8)
  |0,bs=>some ([],bs)
  |n+1,bs=>(rdL f n bs).bind fun p=>(f p.2).bind fun q=>some (p.1++ [q.1],q.2)
def rdV:Nat→List UInt8→Option (V×List UInt8)
  |0,_=>none
  | d+1,bs=>(rdN 1 bs).bind fun p=>
    if p.1=1∨p.1=2 then (rdN 8 p.2).bind fun q=>some (.mk p.1 (wrap64 q.1) .empty [] [],q.2)
    else if p.1=3 then (rdT p.2).bind fun q=>some (.mk p.1 0 q.1 [] [],q.2)
    else if p.1=4 then (rdM 4 p.2).bind fun q=>(rdL (fun x=>rdV d x) q.1 q.2).bind fun r=>some (.mk p.1 0 .empty r.1 [],r.2)
    else if p.1=5 then (rdM 4 p.2).bind fun q=>(rdL (fun x=>(rdT x).bind fun y=>(rdV d y.2).bind fun z=>some ((y.1,z.1),z.2)) q.1 q.2).bind fun r=>some (.mk p.1 0 .empty [] r.1,r.2)
    else some (.mk p.1 0 .empty [] [],p.2)
def rdS (bs:List UInt8):Option (St×List UInt8):=(rdN 1 bs).bind fun p=>
  if p.1=1 then (rdN 8 p.2).bind fun q=>some (⟨true,wrap64 q.1, .empty⟩,q.2) else (rdT p.2).bind fun q=>some (⟨false,0,q.1⟩,q.2)
def rdI (bs:List UInt8):Option (Int×List UInt8):=(rdN 8 bs).bind fun q=>some (wrap64 q.1,q.2)
def rdIf {α:Type} (b:Bool) (z:α) (f:List UInt8→Option (α×List UInt8)) (bs:List UInt8):Option (α×List UInt8):=if b=true then f bs else some (z,bs)
def rdC (bs:List UInt8):Option (Cm×List UInt8):=(rdN 1 bs).bind fun p=>(rdM 1 p.2).bind fun n=>(rdL rdS n.1 n.2).bind fun q=>
  (rdIf (hasB (saysB p.1) 75) .empty rdT q.2).bind fun k=>(rdIf (hasB (saysB p.1) 73) 0 rdI k.2).bind fun i=>(rdIf (hasB (saysB p.1) 74) 0 rdI i.2).bind fun j=>
  (rdIf (hasB (saysB p.1) 78) 0 rdI j.2).bind fun m=>(rdIf (hasB (saysB p.1) 86) V.none (rdV 18) m.2).bind fun v=>(rdIf (hasB (saysB p.1) 83) .empty rdT v.2).bind fun s=>
  some (⟨p.1,q.1,k.1,i.1,j.1,m.1,v.1,s.1⟩,s.2)
def rdE (bs:List UInt8):Option (En×List UInt8):=(rdN 1 bs).bind fun p=>(rdN 4 p.2).bind fun s=>(rdN 4 s.2).bind fun q=>
  if p.1=1 then (rdV 18 q.2).bind fun v=>some (⟨p.1,s.1,q.1,v.1, []⟩,v.2)
  else if p.1=2 then (rdM 4 q.2).bind fun n=>(rdL rdC n.1 n.2).bind fun l=>some (⟨p.1,s.1,q.1,V.none,l.1⟩,l.2)
  else some (⟨p.1,s.1,q.1,V.none, []⟩,q.2)
theorem rdL_none {α:Type} {f:List UInt8→Option (α×List UInt8)} {i n:Nat} {bs:List UInt8} (h:rdL f i bs=none) (hn:i≤n):rdL f n bs=none:=by
  induction n with
  | zero => have:i=0:=by omega
            subst this;exact h
  | succ n ih=>
    by_cases hi:i=n+1
    · subst hi;exact h
    · rw [rdL,ih (by omega)];rfl
open Classical in
noncomputable def only (S:Nat→Prop) (w:World):World:= { w with heap:=w.heap.mapIdx fun k o=>if S k then o else .cells #[] 0 (0,0) }
theorem only_size (S:Nat→Prop) (w:World):(only S w).heap.size=w.heap.size:=by simp [only]
theorem only_block {S:Nat→Prop} {w:World} {k:Nat} (h:S k):(only S w).heap[k]? =w.heap[k]? :=by
  simp [only,h]
theorem only_cell {S:Nat→Prop} {w:World} {b o:Nat} {u:Value} (h:(only S w).cell? ⟨b,o,none⟩=some u):S b∧w.cell? ⟨b,o,none⟩=some u:=by
  by_cases hs:S b
  · exact ⟨hs,(World.cell?_of_block (w':=only S w) (w:=w) (by exact only_block hs)).symm.trans h⟩
  · exfalso
    have hlt:=World.block_lt_of_cell? _ _ h
    rw [only_size] at hlt
    have hk:(only S w).heap[b]? =some (.cells #[] 0 (0,0)):=by simp [only,hs,hlt]
    rw [cell_of_row _ b o #[] 0 (0,0) hk] at h
    simp at h
theorem only_cell' {S:Nat→Prop} {w:World} {b o:Nat} {u:Value} (hs:S b) (h:w.cell? ⟨b,o,none⟩=some u):(only S w).cell? ⟨b,o,none⟩=some u:=
  (World.cell?_of_block (w':=only S w) (w:=w) (by exact only_block hs)).trans h
def Shows (w w':World) (B:Nat):Prop:=∀b o u,b<B→w.cell? ⟨b,o,none⟩=some u→w'.cell? ⟨b,o,none⟩=some u
theorem ValAt.sub {w w':World} {B b o:Nat} {c:VC} (h:ValAt w b o c) (hs:Shows w w' B) (hB:b<B):ValAt w' b o c:=
  ⟨hs _ _ _ hB h.c0,hs _ _ _ hB h.c1,hs _ _ _ hB h.c2,hs _ _ _ hB h.c3,hs _ _ _ hB h.c4⟩
theorem IsVal.sub {w w':World} {B:Nat} (hs:Shows w w' B) {v:V} {c:VC} (h:IsVal w B v c):IsVal w' B v c:=by
  induction h with
  | mk c l o cl co lb lo ob oo hbd hl ho hla hoa hlc hlv hoc hov ihl iho=>
    refine .mk c l o cl co lb lo ob oo hbd hl ho hla hoa (fun i hi=>(hlc i hi).sub hs (hla (by omega)).2) ihl (fun i hi=> ?_) iho
    have hB:=(hoa (by omega)).2
    obtain ⟨h1,h2,h3⟩:=hoc i hi
    exact ⟨hs _ _ _ hB h1,h2,h3.sub hs hB⟩
theorem IsSteps.sub {w w':World} {B:Nat} (hs:Shows w w' B) {p:List St} {a:Option Addr} {n c:Nat} (h:IsSteps w B p a n c):IsSteps w' B p a n c:=by
  obtain ⟨h1,h2,h3,h4,b,o,h5,h6⟩:=h
  exact ⟨h1,h2,h3,h4,b,o,h5,fun i hi=>⟨⟨hs _ _ _ (h5 (by omega)).2 (h6 i hi).1.c0,hs _ _ _ (h5 (by omega)).2 (h6 i hi).1.c1,hs _ _ _ (h5 (by omega)).2 (h6 i hi).1.c2⟩,(h6 i hi).2⟩⟩
theorem IsComp.sub {w w':World} {B:Nat} (hs:Shows w w' B) {x:Cm} {c:CC} (h:IsComp w B x c):IsComp w' B x c:=by
  cases h with
  |mk c p v hbd hp hv=>exact .mk c p v hbd (hp.sub hs) (hv.sub hs)
theorem IsComps.sub {w w':World} {B:Nat} (hs:Shows w w' B) {l:List Cm} {a:Option Addr} {n c:Nat} (h:IsComps w B l a n c):IsComps w' B l a n c:=by
  obtain ⟨h1,h2,h3,h4,b,o,f,h5,h6⟩:=h
  refine ⟨h1,h2,h3,h4,b,o,f,h5,fun i hi=>⟨?_,(h6 i hi).2.sub hs⟩⟩
  have hB:=(h5 (by omega)).2
  have x:=(h6 i hi).1
  exact ⟨hs _ _ _ hB x.c0,hs _ _ _ hB x.c1,hs _ _ _ hB x.c2,hs _ _ _ hB x.c3,hs _ _ _ hB x.c4,hs _ _ _ hB x.c5,x.c6.sub hs hB,hs _ _ _ hB x.c11⟩
theorem IsEntry.sub {w w':World} {B:Nat} (hs:Shows w w' B) {x:En} {c:EC} (h:IsEntry w B x c):IsEntry w' B x c:=by
  cases h with
  |mk c v l hbd hv ho=>exact .mk c v l hbd (hv.sub hs) (ho.sub hs)
theorem shows_only (S:Nat→Prop) (w:World) (B:Nat):Shows (only S w) w B:=fun _ _ _ _ h=>(only_cell h).2
theorem shows_step {S S':Nat→Prop} {w w':World} (h:∀k,S k→k<w.heap.size→S' k∧w'.heap[k]? =w.heap[k]?):Shows (only S w) (only S' w') w.heap.size:=by
  intro b o u hb hc
  obtain ⟨hs,hc⟩:=only_cell hc
  obtain ⟨h1,h2⟩:=h b hs hb
  exact only_cell' h1 ((World.cell?_of_block h2).trans hc)
structure RStep (w w':World) (rb:Nat):Prop where
  os:w'.os=w.os
  tape:w'.tape=w.tape
  output:w'.output=w.output
  size:w.heap.size≤w'.heap.size
  block:∀k,k<w.heap.size→k≠rb→w'.heap[k]? =w.heap[k]?
theorem RStep.refl (w:World) (rb:Nat):RStep w w rb:=⟨rfl,rfl,rfl,Nat.le_refl _,fun _ _ _=>rfl⟩
theorem RStep.trans {w w1 w2:World} {rb:Nat} (h:RStep w w1 rb) (g:RStep w1 w2 rb):RStep w w2 rb:=
  ⟨g.os.trans h.os,g.tape.trans h.tape,g.output.trans h.output,Nat.le_trans h.size g.size,fun k hk hr=>(g.block k (Nat.lt_of_lt_of_le hk h.size) hr).trans (h.block k hk hr)⟩
theorem RStep.of_below {w w':World} (rb:Nat) (h:Below w.heap.size w w'):RStep w w' rb:=⟨h.os,h.tape,h.output,h.size,fun k hk _=>h.block k hk⟩
theorem RStep.below {w w':World} {rb:Nat} (h:RStep w w' rb) (hB:rb≤w.heap.size):Below rb w w':=⟨h.os,h.tape,h.output,h.size,fun k hk=>h.block k (by omega) (by omega)⟩
theorem RStep.cell {w w':World} {rb:Nat} (h:RStep w w' rb) {b o:Nat} {u:Value} (hc:w.cell? ⟨b,o,none⟩=some u) (hb:b≠rb):w'.cell? ⟨b,o,none⟩=some u:=
  (World.cell?_of_block (h.block b (World.block_lt_of_cell? w _ hc) hb)).trans hc
structure Rdr (w:World) (rb:Nat) (bs:List UInt8) (d:Int):Prop where
  at_:∃a n c,w.cell? ⟨rb,0,none⟩=some (.slice a n c)∧IsB w rb a n c bs
  deep:w.cell? ⟨rb,1,none⟩=some (.int .i64 d)
  f0:w.frozen? ⟨rb,0,none⟩=false
  f1:w.frozen? ⟨rb,1,none⟩=false
theorem Rdr.lt {w:World} {rb:Nat} {bs:List UInt8} {d:Int} (h:Rdr w rb bs d):rb<w.heap.size:=World.block_lt_of_cell? w _ h.deep
theorem Rdr.of_below {w w':World} {rb:Nat} {bs:List UInt8} {d:Int} (h:Rdr w rb bs d) (hb:Below w.heap.size w w'):Rdr w' rb bs d:=by
  have hlt:=h.lt
  obtain ⟨⟨a,n,c,h0,hI⟩,h1,h2,h3⟩:=h
  exact ⟨⟨a,n,c,keep_cell hb h0 hlt,hI.keep (hb.mono (Nat.le_of_lt hlt))⟩,keep_cell hb h1 hlt,(hb.frozen hlt).trans h2,(hb.frozen hlt).trans h3⟩
theorem IsB.take {w:World} {B:Nat} {a:Option Addr} {n c:Nat} {bs:List UInt8} (h:IsB w B a n c bs) (k:Nat) (hk:k≤n):IsB w B a k c (bs.take k):=by
  obtain ⟨h1,h2,h3,b,o,h5,h6⟩:=h
  refine ⟨by rw [List.length_take];omega,by omega,h3,b,o,fun hn=>h5 (by omega),fun i hi=> ?_⟩
  rw [List.length_take] at hi
  have:=h6 i (by omega)
  rw [List.getElem_take];exact this
theorem IsB.get {w:World} {B:Nat} {a:Option Addr} {n c:Nat} {bs:List UInt8} (h:IsB w B a n c bs) {k:Nat} (hk:k<n):
    ∃b o,∃hp:k<bs.length,a=some ⟨b,o,none⟩∧b<B∧w.cell? ⟨b,o+k,none⟩=some (.int .u8 (bs[k].toNat:Int)):=by
  obtain ⟨h1,h2,h3,b,o,h5,h6⟩:=h
  exact ⟨b,o,by omega,(h5 (by omega)).1,(h5 (by omega)).2,h6 k (by omega)⟩
end Go.Proofs.YthceefjafklcmaaDoor
namespace Go.Proofs.YthceefjafklcmaaDoor
open Go.RowKit
def short:PanicEntry:= { v:= .iface 108 (.agg #[]),recovered:=false }
theorem add_at (b o k:Nat):(⟨b,o,none⟩:Addr).add k=⟨b,o+k,none⟩:=by unfold Addr.add;split<;>simp_all
theorem IsB.drop {w:World} {B:Nat} {a:Option Addr} {n c:Nat} {bs:List UInt8} (h:IsB w B a n c bs) (k:Nat) (hk:k≤n):IsB w B (a.map (fun x=>x.add k)) (n - k) (c - k) (bs.drop k):=by
  obtain ⟨h1,h2,h3,b,o,h5,h6⟩:=h
  refine ⟨by rw [List.length_drop];omega,by omega,by omega,b,o+k,fun hn=> ?_,fun i hi=> ?_⟩
  · obtain ⟨e,hb⟩:=h5 (by omega)
    exact ⟨by rw [e,Option.map_some,add_at],hb⟩
  · rw [List.length_drop] at hi
    have:=h6 (k+i) (by omega)
    rw [List.getElem_drop,Nat.add_assoc];exact this
theorem IsB.none_left {w:World} {B:Nat} {a a':Option Addr} {n c:Nat} {bs:List UInt8} (h:IsB w B a n c bs) (hn:n=0):IsB w B a' 0 0 bs:=by
  obtain ⟨h1,h2,h3,b,o,h5,h6⟩:=h
  exact ⟨by omega,by omega,by omega,b,o,fun h=>by omega,h6⟩
theorem Rdr.set {w:World} {rb:Nat} {bs bs':List UInt8} {d:Int} (h:Rdr w rb bs d) {a:Option Addr} {n c:Nat} (hI:IsB w rb a n c bs'):Rdr (w.setCell ⟨rb,0,none⟩ (.slice a n c)) rb bs' d∧RStep w (w.setCell ⟨rb,0,none⟩ (.slice a n c)) rb:=by
  obtain ⟨⟨a0,n0,c0,h0,_⟩,h1,h2,h3⟩:=h
  have hb:RStep w (w.setCell ⟨rb,0,none⟩ (.slice a n c)) rb:=⟨rfl,rfl,rfl,by simp,fun k hk hr=>heap_setCell_other _ _ _ _ hr⟩
  refine ⟨⟨⟨a,n,c,World.cell?_setCell_same _ _ _ h0,hI.keep (hb.below (Nat.le_of_lt (World.block_lt_of_cell? w _ h1)))⟩, ?_,by simpa using h2,by simpa using h3⟩,hb⟩
  rw [World.cell?_setCell_other]
  · exact h1
  · simp
theorem Rdr.setDeep {w:World} {rb:Nat} {bs:List UInt8} {d d':Int} (h:Rdr w rb bs d):Rdr (w.setCell ⟨rb,1,none⟩ (.int .i64 d')) rb bs d'∧RStep w (w.setCell ⟨rb,1,none⟩ (.int .i64 d')) rb:=by
  obtain ⟨⟨a0,n0,c0,h0,hI⟩,h1,h2,h3⟩:=h
  have hb:RStep w (w.setCell ⟨rb,1,none⟩ (.int .i64 d')) rb:=⟨rfl,rfl,rfl,by simp,fun k hk hr=>heap_setCell_other _ _ _ _ hr⟩
  refine ⟨⟨⟨a0,n0,c0, ?_,hI.keep (hb.below (Nat.le_of_lt (World.block_lt_of_cell? w _ h1)))⟩,World.cell?_setCell_same _ _ _ h1,by simpa using h2,by simpa using h3⟩,hb⟩
  rw [World.cell?_setCell_other]
  · exact h0
  · simp
theorem cut_none (w:World) (rb:Nat) (bs:List UInt8) (d:Int) (h:Rdr w rb bs d) (k:Nat) (hk:bs.length<k):
    Calls Tryd.prog 83 #[.pointer (some ⟨rb,0,none⟩), .int .i64 k] w fun e w'=>e= .panicked [short] ∧w'=w:=by
  obtain ⟨⟨a,n,c,h0,hI⟩,h1,h2,h3⟩:=h
  have hn:=hI.len
  have hkn:n<k:=by omega
  clear hI hk hn
  go_enter Tryd.func83,Tryd.ntmps83
  go_wp2_with fail
  exact ⟨rfl,rfl,rfl⟩
theorem cut_some (w:World) (rb:Nat) (bs:List UInt8) (d:Int) (h:Rdr w rb bs d) (k:Nat) (hk:k≤bs.length):
    Calls Tryd.prog 83 #[.pointer (some ⟨rb,0,none⟩), .int .i64 k] w fun e w'=>(∃a n c,e= .returned (.slice a n c)∧IsB w' rb a n c (bs.take k))∧Rdr w' rb (bs.drop k) d∧RStep w w' rb:=by
  have H:=Lib.hid h
  obtain ⟨⟨a,n,c,h0,hI⟩,h1,h2,h3⟩:=h
  have HI:=Lib.hid hI
  have hn:=hI.len
  have hc:=hI.cap
  have hm:=hI.max
  have hkn:k≤n:=by omega
  have hlt:rb<w.heap.size:=World.block_lt_of_cell? w _ h1
  clear hI hk hn
  by_cases e:c=k
  · subst e
    have hz:n - c=0:=by omega
    go_enter Tryd.func83,Tryd.ntmps83
    go_wp2_with fail
    go_returns
    have hD:=H.out.set ((HI.out.drop c hkn).none_left (a':=a) hz)
    exact ⟨⟨a,c,c,rfl,(HI.out.take c hkn).keep (hD.2.below (Nat.le_of_lt hlt))⟩,hD⟩
  · have hck:k<c:=by omega
    go_enter Tryd.func83,Tryd.ntmps83
    go_wp2_with fail
    go_returns
    have hD:=H.out.set (HI.out.drop k hkn)
    exact ⟨⟨a,k,c,rfl,(HI.out.take k hkn).keep (hD.2.below (Nat.le_of_lt hlt))⟩,hD⟩
end Go.Proofs.YthceefjafklcmaaDoor
namespace Go.Proofs.YthceefjafklcmaaDoor
open Go.RowKit
theorem num_take (l:List UInt8) (k:Nat) (h:k<l.length):num (l.take (k+1))=num (l.take k)*256+l[k].toNat:=by
  rw [take_snoc l k h,num_snoc]
theorem or_byte (m y:Nat) (hm:m<72057594037927936) (hy:y<256):bits BinOp.or IntKind.u64 ((m:Int)*256) (y:Int)=((m*256+y:Nat):Int):=by
  have e:(m:Int)*256=((m*256:Nat):Int):=by omega
  have h:m*256+y=m*256|||y:=by
    have:=Nat.shiftLeft_add_eq_or_of_lt (show y<2 ^ 8 by omega) m
    simpa [Nat.shiftLeft_eq] using this
  have h2:=u64_or_nat (m*256) y (by omega) (by omega)
  have h3:bits BinOp.or IntKind.u64 ((m:Int)*256) (y:Int)=bits BinOp.or IntKind.u64 ((m*256:Nat):Int) (y:Int):=congrArg (fun z=>bits BinOp.or IntKind.u64 z (y:Int)) e
  exact h3.trans (h2.trans (congrArg (fun z:Nat=>(z:Int)) h.symm))
theorem wrapEq (x:Int):IntKind.i64.wrap x=wrap64 x:=by
  rw [IntKind.wrap_i64,wrap64]
theorem conv_isB {w:World} {B:Nat} {a:Option Addr} {n c:Nat} {bs:List UInt8} (h:IsB w B a n c bs):(convert 22 9 (.slice a n c)).run Tryd.prog w= .ok (.string ⟨bs.toArray⟩) w:=by
  have hu:Tryd.prog.underlying 5=some (.int .u8):=by kernel_rfl
  obtain ⟨rfl,h2,h3,b,o,h5,h6⟩:=h
  cases a with
  | some a=>
    by_cases hz:0<bs.length
    · obtain ⟨e,hb⟩:=h5 hz
      have e:=Option.some.inj e
      subst e
      exact run_convert_bytes_back w _ _ 5 _ c bs Tryd.underlying22 hu Tryd.underlying9 (fun j hj=>by rw [add_at];exact h6 j hj)
    · have:bs= [] :=List.length_eq_zero_iff.1 (by omega)
      subst this
      exact run_convert_bytes_back w _ _ 5 _ c [] Tryd.underlying22 hu Tryd.underlying9 (fun j hj=>by cases hj)
  | none=>
    have:bs= [] :=by
      cases bs with
      |nil=>rfl
      |cons x r=>obtain ⟨e,_⟩:=h5 (by simp);cases e
    subst this
    exact Lib.run_convert_nil_bytes w _ _ 5 c Tryd.underlying22 hu Tryd.underlying9
set_option maxHeartbeats 4000000 in
set_option maxRecDepth 100000 in
theorem takeU8_cut (w:World) (rb:Nat) (bs:List UInt8) (d:Int) (h:Rdr w rb bs d) (k:Nat) (hk8:k≤8) (hk:k≤bs.length):
    Calls Tryd.prog 64 #[.pointer (some ⟨rb,0,none⟩), .int .i64 k] w fun e w'=>e= .returned (.int .u8 (IntKind.u8.wrap (num (bs.take k))))∧Rdr w' rb (bs.drop k) d∧RStep w w' rb:=by
  have HC:=Lib.hid (cut_some w rb bs d h k hk)
  have hl:(bs.take k).length=k:=by rw [List.length_take];omega
  obtain ⟨ts,hts⟩:∃ts,bs.take k=ts:=⟨_,rfl⟩
  rw [hts] at HC hl ⊢
  clear h hts hk
  go_enter Tryd.func64,Tryd.ntmps64
  go_wp2_with (go_at_call 83;(with_reducible refine (HC.out).mono ?_);rintro e w1 ⟨⟨a,n,c,rfl,hI⟩,hR,hS⟩;have hn:=hI.len;have hc1:=hI.cap;have hc2:=hI.max;have HI:=Lib.hid hI;have HN:=Lib.hid hn;clear hI hn)
  go_loopw [5,7,12] (fun x _ i wr=>wr=w1∧∃j:Nat,j≤n∧i= .int .i64 j∧x= .int .u64 (num (ts.take j):Int)) (fun _ _ i _=>n - (intOf i).toNat)
  case atStart=>exact ⟨rfl,0,Nat.zero_le _,rfl,rfl⟩
  case round=>
    obtain ⟨rfl,j,hj,rfl,rfl⟩:=hrel
    by_cases hlt:j<n
    · obtain ⟨b,o,hp,rfl,hb,hcell⟩:=HI.out.get hlt
      have hlt2:num (ts.take j)<72057594037927936:=by
        have h1:=num_lt (ts.take j)
        have h2:(ts.take j).length≤7:=by rw [List.length_take];have:=HN.out;omega
        exact Nat.lt_of_lt_of_le h1 (Nat.le_trans (Nat.pow_le_pow_right (by omega) h2) (by decide))
      obtain ⟨m,hm⟩:∃m,num (ts.take j)=m:=⟨_,rfl⟩
      obtain ⟨y,hy⟩:∃y,(ts[j]'hp).toNat=y:=⟨_,rfl⟩
      have hy2:y<256:=by rw [←hy];exact (ts[j]'hp).toNat_lt
      have ht:=num_take ts j hp
      rw [hm,hy] at ht
      rw [hm] at hlt2 ⊢
      rw [hy] at hcell
      have HT:=Lib.hid ht
      have HO:=Lib.hid (or_byte m y hlt2 hy2)
      clear ht hm hy
      go_wp2_with fail
      go_roundw
      case rel=>exact ⟨trivial,j+1,by omega,by go_num,by rw [HT.out,HO.out]⟩
      case measure=>simp [intOf];omega
    · go_wp2_with fail
      go_returns
      exact ⟨by rw [List.take_of_length_le (by have:=HN.out;omega)] <;>rfl,hR,hS⟩
set_option maxHeartbeats 1000000 in
set_option maxRecDepth 100000 in
theorem takeU8_none (w:World) (rb:Nat) (bs:List UInt8) (d:Int) (h:Rdr w rb bs d) (k:Nat) (hr:rdN k bs=none):
    Calls Tryd.prog 64 #[.pointer (some ⟨rb,0,none⟩), .int .i64 k] w fun e w'=>e= .panicked [short] ∧w'=w:=by
  have HC:=Lib.hid (cut_none w rb bs d h k (by unfold rdN at hr;split at hr<;>first|omega|cases hr))
  clear h hr
  go_enter Tryd.func64,Tryd.ntmps64
  go_wp2_with (go_at_call 83;(with_reducible refine (HC.out).mono ?_);rintro e w1 ⟨rfl,rfl⟩)
  exact ⟨rfl,rfl,rfl⟩
theorem rdN_some {k n:Nat} {bs r:List UInt8} (hr:rdN k bs=some (n,r)):k≤bs.length∧num (bs.take k)=n∧bs.drop k=r:=by
  unfold rdN at hr;split at hr
  · injection hr with hr;injection hr with h1 h2;exact ⟨by assumption,h1,h2⟩
  · cases hr
theorem takeU8_some (w:World) (rb:Nat) (bs:List UInt8) (d:Int) (h:Rdr w rb bs d) (k:Nat) (hk8:k≤8) {n:Nat} {r:List UInt8} (hr:rdN k bs=some (n,r)):
    Calls Tryd.prog 64 #[.pointer (some ⟨rb,0,none⟩), .int .i64 k] w fun e w'=>e= .returned (.int .u8 (IntKind.u8.wrap n))∧Rdr w' rb r d∧RStep w w' rb:=by
  obtain ⟨h1,rfl,rfl⟩:=rdN_some hr
  exact takeU8_cut w rb bs d h k hk8 h1
set_option maxHeartbeats 4000000 in
set_option maxRecDepth 100000 in
theorem takeInt_cut (w:World) (rb:Nat) (bs:List UInt8) (d:Int) (h:Rdr w rb bs d) (k:Nat) (hk8:k≤8) (hk:k≤bs.length):
    Calls Tryd.prog 84 #[.pointer (some ⟨rb,0,none⟩), .int .i64 k] w fun e w'=>e= .returned (.int .i64 (IntKind.i64.wrap (num (bs.take k))))∧Rdr w' rb (bs.drop k) d∧RStep w w' rb:=by
  have HC:=Lib.hid (cut_some w rb bs d h k hk)
  have hl:(bs.take k).length=k:=by rw [List.length_take];omega
  obtain ⟨ts,hts⟩:∃ts,bs.take k=ts:=⟨_,rfl⟩
  rw [hts] at HC hl ⊢
  clear h hts hk
  go_enter Tryd.func84,Tryd.ntmps84
  go_wp2_with (go_at_call 83;(with_reducible refine (HC.out).mono ?_);rintro e w1 ⟨⟨a,n,c,rfl,hI⟩,hR,hS⟩;have hn:=hI.len;have hc1:=hI.cap;have hc2:=hI.max;have HI:=Lib.hid hI;have HN:=Lib.hid hn;clear hI hn)
  go_loopw [5,7,12] (fun x _ i wr=>wr=w1∧∃j:Nat,j≤n∧i= .int .i64 j∧x= .int .u64 (num (ts.take j):Int)) (fun _ _ i _=>n - (intOf i).toNat)
  case atStart=>exact ⟨rfl,0,Nat.zero_le _,rfl,rfl⟩
  case round=>
    obtain ⟨rfl,j,hj,rfl,rfl⟩:=hrel
    by_cases hlt:j<n
    · obtain ⟨b,o,hp,rfl,hb,hcell⟩:=HI.out.get hlt
      have hlt2:num (ts.take j)<72057594037927936:=by
        have h1:=num_lt (ts.take j)
        have h2:(ts.take j).length≤7:=by rw [List.length_take];have:=HN.out;omega
        exact Nat.lt_of_lt_of_le h1 (Nat.le_trans (Nat.pow_le_pow_right (by omega) h2) (by decide))
      obtain ⟨m,hm⟩:∃m,num (ts.take j)=m:=⟨_,rfl⟩
      obtain ⟨y,hy⟩:∃y,(ts[j]'hp).toNat=y:=⟨_,rfl⟩
      have hy2:y<256:=by rw [←hy];exact (ts[j]'hp).toNat_lt
      have ht:=num_take ts j hp
      rw [hm,hy] at ht
      rw [hm] at hlt2 ⊢
      rw [hy] at hcell
      have HT:=Lib.hid ht
      have HO:=Lib.hid (or_byte m y hlt2 hy2)
      clear ht hm hy
      go_wp2_with fail
      go_roundw
      case rel=>exact ⟨trivial,j+1,by omega,by go_num,by rw [HT.out,HO.out]⟩
      case measure=>simp [intOf];omega
    · go_wp2_with fail
      go_returns
      exact ⟨by rw [List.take_of_length_le (by have:=HN.out;omega)] <;>exact ret_int (wrapEq _).symm,hR,hS⟩
set_option maxHeartbeats 1000000 in
set_option maxRecDepth 100000 in
theorem takeInt_none (w:World) (rb:Nat) (bs:List UInt8) (d:Int) (h:Rdr w rb bs d) (k:Nat) (hr:rdN k bs=none):
    Calls Tryd.prog 84 #[.pointer (some ⟨rb,0,none⟩), .int .i64 k] w fun e w'=>e= .panicked [short] ∧w'=w:=by
  have HC:=Lib.hid (cut_none w rb bs d h k (by unfold rdN at hr;split at hr<;>first|omega|cases hr))
  clear h hr
  go_enter Tryd.func84,Tryd.ntmps84
  go_wp2_with (go_at_call 83;(with_reducible refine (HC.out).mono ?_);rintro e w1 ⟨rfl,rfl⟩)
  exact ⟨rfl,rfl,rfl⟩
theorem takeInt_some (w:World) (rb:Nat) (bs:List UInt8) (d:Int) (h:Rdr w rb bs d) (k:Nat) (hk8:k≤8) {n:Nat} {r:List UInt8} (hr:rdN k bs=some (n,r)):
    Calls Tryd.prog 84 #[.pointer (some ⟨rb,0,none⟩), .int .i64 k] w fun e w'=>e= .returned (.int .i64 (IntKind.i64.wrap n))∧Rdr w' rb r d∧RStep w w' rb:=by
  obtain ⟨h1,rfl,rfl⟩:=rdN_some hr
  exact takeInt_cut w rb bs d h k hk8 h1
set_option maxHeartbeats 4000000 in
set_option maxRecDepth 100000 in
theorem takeU32_cut (w:World) (rb:Nat) (bs:List UInt8) (d:Int) (h:Rdr w rb bs d) (k:Nat) (hk8:k≤8) (hk:k≤bs.length):
    Calls Tryd.prog 65 #[.pointer (some ⟨rb,0,none⟩), .int .i64 k] w fun e w'=>e= .returned (.int .u32 (IntKind.u32.wrap (num (bs.take k))))∧Rdr w' rb (bs.drop k) d∧RStep w w' rb:=by
  have HC:=Lib.hid (cut_some w rb bs d h k hk)
  have hl:(bs.take k).length=k:=by rw [List.length_take];omega
  obtain ⟨ts,hts⟩:∃ts,bs.take k=ts:=⟨_,rfl⟩
  rw [hts] at HC hl ⊢
  clear h hts hk
  go_enter Tryd.func65,Tryd.ntmps65
  go_wp2_with (go_at_call 83;(with_reducible refine (HC.out).mono ?_);rintro e w1 ⟨⟨a,n,c,rfl,hI⟩,hR,hS⟩;have hn:=hI.len;have hc1:=hI.cap;have hc2:=hI.max;have HI:=Lib.hid hI;have HN:=Lib.hid hn;clear hI hn)
  go_loopw [5,7,12] (fun x _ i wr=>wr=w1∧∃j:Nat,j≤n∧i= .int .i64 j∧x= .int .u64 (num (ts.take j):Int)) (fun _ _ i _=>n - (intOf i).toNat)
  case atStart=>exact ⟨rfl,0,Nat.zero_le _,rfl,rfl⟩
  case round=>
    obtain ⟨rfl,j,hj,rfl,rfl⟩:=hrel
    by_cases hlt:j<n
    · obtain ⟨b,o,hp,rfl,hb,hcell⟩:=HI.out.get hlt
      have hlt2:num (ts.take j)<72057594037927936:=by
        have h1:=num_lt (ts.take j)
        have h2:(ts.take j).length≤7:=by rw [List.length_take];have:=HN.out;omega
        exact Nat.lt_of_lt_of_le h1 (Nat.le_trans (Nat.pow_le_pow_right (by omega) h2) (by decide))
      obtain ⟨m,hm⟩:∃m,num (ts.take j)=m:=⟨_,rfl⟩
      obtain ⟨y,hy⟩:∃y,(ts[j]'hp).toNat=y:=⟨_,rfl⟩
      have hy2:y<256:=by rw [←hy];exact (ts[j]'hp).toNat_lt
      have ht:=num_take ts j hp
      rw [hm,hy] at ht
      rw [hm] at hlt2 ⊢
      rw [hy] at hcell
      have HT:=Lib.hid ht
      have HO:=Lib.hid (or_byte m y hlt2 hy2)
      clear ht hm hy
      go_wp2_with fail
      go_roundw
      case rel=>exact ⟨trivial,j+1,by omega,by go_num,by rw [HT.out,HO.out]⟩
      case measure=>simp [intOf];omega
    · go_wp2_with fail
      go_returns
      exact ⟨by rw [List.take_of_length_le (by have:=HN.out;omega)] <;>rfl,hR,hS⟩
set_option maxHeartbeats 1000000 in
set_option maxRecDepth 100000 in
theorem takeU32_none (w:World) (rb:Nat) (bs:List UInt8) (d:Int) (h:Rdr w rb bs d) (k:Nat) (hr:rdN k bs=none):
    Calls Tryd.prog 65 #[.pointer (some ⟨rb,0,none⟩), .int .i64 k] w fun e w'=>e= .panicked [short] ∧w'=w:=by
  have HC:=Lib.hid (cut_none w rb bs d h k (by unfold rdN at hr;split at hr<;>first|omega|cases hr))
  clear h hr
  go_enter Tryd.func65,Tryd.ntmps65
  go_wp2_with (go_at_call 83;(with_reducible refine (HC.out).mono ?_);rintro e w1 ⟨rfl,rfl⟩)
  exact ⟨rfl,rfl,rfl⟩
theorem takeU32_some (w:World) (rb:Nat) (bs:List UInt8) (d:Int) (h:Rdr w rb bs d) (k:Nat) (hk8:k≤8) {n:Nat} {r:List UInt8} (hr:rdN k bs=some (n,r)):
    Calls Tryd.prog 65 #[.pointer (some ⟨rb,0,none⟩), .int .i64 k] w fun e w'=>e= .returned (.int .u32 (IntKind.u32.wrap n))∧Rdr w' rb r d∧RStep w w' rb:=by
  obtain ⟨h1,rfl,rfl⟩:=rdN_some hr
  exact takeU32_cut w rb bs d h k hk8 h1
set_option maxHeartbeats 4000000 in
set_option maxRecDepth 100000 in
theorem takeI64_cut (w:World) (rb:Nat) (bs:List UInt8) (d:Int) (h:Rdr w rb bs d) (k:Nat) (hk8:k≤8) (hk:k≤bs.length):
    Calls Tryd.prog 70 #[.pointer (some ⟨rb,0,none⟩), .int .i64 k] w fun e w'=>e= .returned (.int .i64 (IntKind.i64.wrap (num (bs.take k))))∧Rdr w' rb (bs.drop k) d∧RStep w w' rb:=by
  have HC:=Lib.hid (cut_some w rb bs d h k hk)
  have hl:(bs.take k).length=k:=by rw [List.length_take];omega
  obtain ⟨ts,hts⟩:∃ts,bs.take k=ts:=⟨_,rfl⟩
  rw [hts] at HC hl ⊢
  clear h hts hk
  go_enter Tryd.func70,Tryd.ntmps70
  go_wp2_with (go_at_call 83;(with_reducible refine (HC.out).mono ?_);rintro e w1 ⟨⟨a,n,c,rfl,hI⟩,hR,hS⟩;have hn:=hI.len;have hc1:=hI.cap;have hc2:=hI.max;have HI:=Lib.hid hI;have HN:=Lib.hid hn;clear hI hn)
  go_loopw [5,7,12] (fun x _ i wr=>wr=w1∧∃j:Nat,j≤n∧i= .int .i64 j∧x= .int .u64 (num (ts.take j):Int)) (fun _ _ i _=>n - (intOf i).toNat)
  case atStart=>exact ⟨rfl,0,Nat.zero_le _,rfl,rfl⟩
  case round=>
    obtain ⟨rfl,j,hj,rfl,rfl⟩:=hrel
    by_cases hlt:j<n
    · obtain ⟨b,o,hp,rfl,hb,hcell⟩:=HI.out.get hlt
      have hlt2:num (ts.take j)<72057594037927936:=by
        have h1:=num_lt (ts.take j)
        have h2:(ts.take j).length≤7:=by rw [List.length_take];have:=HN.out;omega
        exact Nat.lt_of_lt_of_le h1 (Nat.le_trans (Nat.pow_le_pow_right (by omega) h2) (by decide))
      obtain ⟨m,hm⟩:∃m,num (ts.take j)=m:=⟨_,rfl⟩
      obtain ⟨y,hy⟩:∃y,(ts[j]'hp).toNat=y:=⟨_,rfl⟩
      have hy2:y<256:=by rw [←hy];exact (ts[j]'hp).toNat_lt
      have ht:=num_take ts j hp
      rw [hm,hy] at ht
      rw [hm] at hlt2 ⊢
      rw [hy] at hcell
      have HT:=Lib.hid ht
      have HO:=Lib.hid (or_byte m y hlt2 hy2)
      clear ht hm hy
      go_wp2_with fail
      go_roundw
      case rel=>exact ⟨trivial,j+1,by omega,by go_num,by rw [HT.out,HO.out]⟩
      case measure=>simp [intOf];omega
    · go_wp2_with fail
      go_returns
      exact ⟨by rw [List.take_of_length_le (by have:=HN.out;omega)] <;>exact ret_int (wrapEq _).symm,hR,hS⟩
set_option maxHeartbeats 1000000 in
set_option maxRecDepth 100000 in
theorem takeI64_none (w:World) (rb:Nat) (bs:List UInt8) (d:Int) (h:Rdr w rb bs d) (k:Nat) (hr:rdN k bs=none):
    Calls Tryd.prog 70 #[.pointer (some ⟨rb,0,none⟩), .int .i64 k] w fun e w'=>e= .panicked [short] ∧w'=w:=by
  have HC:=Lib.hid (cut_none w rb bs d h k (by unfold rdN at hr;split at hr<;>first|omega|cases hr))
  clear h hr
  go_enter Tryd.func70,Tryd.ntmps70
  go_wp2_with (go_at_call 83;(with_reducible refine (HC.out).mono ?_);rintro e w1 ⟨rfl,rfl⟩)
  exact ⟨rfl,rfl,rfl⟩
theorem takeI64_some (w:World) (rb:Nat) (bs:List UInt8) (d:Int) (h:Rdr w rb bs d) (k:Nat) (hk8:k≤8) {n:Nat} {r:List UInt8} (hr:rdN k bs=some (n,r)):
    Calls Tryd.prog 70 #[.pointer (some ⟨rb,0,none⟩), .int .i64 k] w fun e w'=>e= .returned (.int .i64 (IntKind.i64.wrap n))∧Rdr w' rb r d∧RStep w w' rb:=by
  obtain ⟨h1,rfl,rfl⟩:=rdN_some hr
  exact takeI64_cut w rb bs d h k hk8 h1
theorem rdN_lt {k n:Nat} {bs r:List UInt8} (hr:rdN k bs=some (n,r)):n<256 ^ k:=by
  obtain ⟨h1,rfl,rfl⟩:=rdN_some hr
  have:=num_lt (bs.take k)
  rwa [List.length_take,Nat.min_eq_left h1] at this
theorem takeU81_some (w:World) (rb:Nat) (bs:List UInt8) (d:Int) (h:Rdr w rb bs d) {n:Nat} {r:List UInt8} (hr:rdN 1 bs=some (n,r)):
    Calls Tryd.prog 64 #[.pointer (some ⟨rb,0,none⟩), .int .i64 1] w fun e w'=>e= .returned (.int .u8 n)∧Rdr w' rb r d∧RStep w w' rb:=by
  have hb:=rdN_lt hr
  have:=takeU8_some w rb bs d h 1 (by omega) hr
  rwa [show IntKind.u8.wrap (n:Int)=n by simp [IntKind.wrap,IntKind.bits,IntKind.signed];omega] at this
theorem takeU81_none (w:World) (rb:Nat) (bs:List UInt8) (d:Int) (h:Rdr w rb bs d) (hr:rdN 1 bs=none):
    Calls Tryd.prog 64 #[.pointer (some ⟨rb,0,none⟩), .int .i64 1] w fun e w'=>e= .panicked [short] ∧w'=w:=takeU8_none w rb bs d h 1 hr
theorem takeInt8_some (w:World) (rb:Nat) (bs:List UInt8) (d:Int) (h:Rdr w rb bs d) {n:Nat} {r:List UInt8} (hr:rdN 8 bs=some (n,r)):
    Calls Tryd.prog 84 #[.pointer (some ⟨rb,0,none⟩), .int .i64 8] w fun e w'=>e= .returned (.int .i64 (IntKind.i64.wrap n))∧Rdr w' rb r d∧RStep w w' rb:=by
  exact takeInt_some w rb bs d h 8 (by omega) hr
theorem takeInt8_none (w:World) (rb:Nat) (bs:List UInt8) (d:Int) (h:Rdr w rb bs d) (hr:rdN 8 bs=none):
    Calls Tryd.prog 84 #[.pointer (some ⟨rb,0,none⟩), .int .i64 8] w fun e w'=>e= .panicked [short] ∧w'=w:=takeInt_none w rb bs d h 8 hr
theorem takeInt4_some (w:World) (rb:Nat) (bs:List UInt8) (d:Int) (h:Rdr w rb bs d) {n:Nat} {r:List UInt8} (hr:rdN 4 bs=some (n,r)):
    Calls Tryd.prog 84 #[.pointer (some ⟨rb,0,none⟩), .int .i64 4] w fun e w'=>e= .returned (.int .i64 n)∧Rdr w' rb r d∧RStep w w' rb:=by
  have hb:=rdN_lt hr
  have:=takeInt_some w rb bs d h 4 (by omega) hr
  rwa [show IntKind.i64.wrap (n:Int)=n by simp [IntKind.wrap,IntKind.bits,IntKind.signed];omega] at this
theorem takeInt4_none (w:World) (rb:Nat) (bs:List UInt8) (d:Int) (h:Rdr w rb bs d) (hr:rdN 4 bs=none):
    Calls Tryd.prog 84 #[.pointer (some ⟨rb,0,none⟩), .int .i64 4] w fun e w'=>e= .panicked [short] ∧w'=w:=takeInt_none w rb bs d h 4 hr
theorem takeInt1_some (w:World) (rb:Nat) (bs:List UInt8) (d:Int) (h:Rdr w rb bs d) {n:Nat} {r:List UInt8} (hr:rdN 1 bs=some (n,r)):
    Calls Tryd.prog 84 #[.pointer (some ⟨rb,0,none⟩), .int .i64 1] w fun e w'=>e= .returned (.int .i64 n)∧Rdr w' rb r d∧RStep w w' rb:=by
  have hb:=rdN_lt hr
  have:=takeInt_some w rb bs d h 1 (by omega) hr
  rwa [show IntKind.i64.wrap (n:Int)=n by simp [IntKind.wrap,IntKind.bits,IntKind.signed];omega] at this
theorem takeInt1_none (w:World) (rb:Nat) (bs:List UInt8) (d:Int) (h:Rdr w rb bs d) (hr:rdN 1 bs=none):
    Calls Tryd.prog 84 #[.pointer (some ⟨rb,0,none⟩), .int .i64 1] w fun e w'=>e= .panicked [short] ∧w'=w:=takeInt_none w rb bs d h 1 hr
theorem takeU324_some (w:World) (rb:Nat) (bs:List UInt8) (d:Int) (h:Rdr w rb bs d) {n:Nat} {r:List UInt8} (hr:rdN 4 bs=some (n,r)):
    Calls Tryd.prog 65 #[.pointer (some ⟨rb,0,none⟩), .int .i64 4] w fun e w'=>e= .returned (.int .u32 n)∧Rdr w' rb r d∧RStep w w' rb:=by
  have hb:=rdN_lt hr
  have:=takeU32_some w rb bs d h 4 (by omega) hr
  rwa [show IntKind.u32.wrap (n:Int)=n by simp [IntKind.wrap,IntKind.bits,IntKind.signed];omega] at this
theorem takeU324_none (w:World) (rb:Nat) (bs:List UInt8) (d:Int) (h:Rdr w rb bs d) (hr:rdN 4 bs=none):
    Calls Tryd.prog 65 #[.pointer (some ⟨rb,0,none⟩), .int .i64 4] w fun e w'=>e= .panicked [short] ∧w'=w:=takeU32_none w rb bs d h 4 hr
theorem takeI648_some (w:World) (rb:Nat) (bs:List UInt8) (d:Int) (h:Rdr w rb bs d) {n:Nat} {r:List UInt8} (hr:rdN 8 bs=some (n,r)):
    Calls Tryd.prog 70 #[.pointer (some ⟨rb,0,none⟩), .int .i64 8] w fun e w'=>e= .returned (.int .i64 (IntKind.i64.wrap n))∧Rdr w' rb r d∧RStep w w' rb:=by
  exact takeI64_some w rb bs d h 8 (by omega) hr
theorem takeI648_none (w:World) (rb:Nat) (bs:List UInt8) (d:Int) (h:Rdr w rb bs d) (hr:rdN 8 bs=none):
    Calls Tryd.prog 70 #[.pointer (some ⟨rb,0,none⟩), .int .i64 8] w fun e w'=>e= .panicked [short] ∧w'=w:=takeI64_none w rb bs d h 8 hr
set_option maxHeartbeats 2000000 in
set_option maxRecDepth 100000 in
theorem many1_any (w:World) (rb:Nat) (bs:List UInt8) (d:Int) (h:Rdr w rb bs d):
    Calls Tryd.prog 66 #[.pointer (some ⟨rb,0,none⟩), .int .i64 1] w fun e w'=>RStep w w' rb∧(match rdM 1 bs with
      |some (n,r)=>e= .returned (.int .i64 n)∧Rdr w' rb r d∧n≤r.length
      |none=>e= .panicked [short] ∧∃bs',Rdr w' rb bs' d):=by
  have H:=Lib.hid h
  cases hr:rdN 1 bs with
  | none=>
    have hm:rdM 1 bs=none:=by rw [rdM,hr];rfl
    rw [hm]
    have HC:=Lib.hid (takeInt1_none w rb bs d h hr)
    clear h hm hr
    go_enter Tryd.func66,Tryd.ntmps66
    go_wp2_with (go_at_call 84;(with_reducible refine (HC.out).mono ?_);rintro e w1 ⟨rfl,rfl⟩)
    exact ⟨rfl, .refl _ _,rfl,bs,H.out⟩
  | some p=>
    obtain ⟨n,r⟩:=p
    have HC:=Lib.hid (takeInt1_some w rb bs d h hr)
    have hn4:n<4294967296:=Nat.lt_of_lt_of_le (rdN_lt hr) (by decide)
    by_cases hle:n≤r.length
    · have hm:rdM 1 bs=some (n,r):=by rw [rdM,hr];simp [hle]
      rw [hm]
      have HL:=Lib.hid hle
      clear h hm hr
      go_enter Tryd.func66,Tryd.ntmps66
      go_wp2_with (go_at_call 84;(with_reducible refine (HC.out).mono ?_);rintro e w1 ⟨rfl,hR,hS⟩;obtain ⟨⟨a,n2,c,h0,hI⟩,h1,h2,h3⟩:=id hR;have hn2:=hI.len;have hle2:¬n2<n:=(by omega);have HR:=Lib.hid hR;clear hI hn2 hle hR)
      go_returns
      exact ⟨hS,rfl,HR.out,HL.out⟩
    · have hm:rdM 1 bs=none:=by rw [rdM,hr];simp [hle]
      rw [hm]
      clear h hm hr
      go_enter Tryd.func66,Tryd.ntmps66
      go_wp2_with (go_at_call 84;(with_reducible refine (HC.out).mono ?_);rintro e w1 ⟨rfl,hR,hS⟩;obtain ⟨⟨a,n2,c,h0,hI⟩,h1,h2,h3⟩:=id hR;have hn2:=hI.len;have hle2:n2<n:=(by omega);have HR:=Lib.hid hR;clear hI hn2 hle hR)
      exact ⟨rfl,hS,rfl,r,HR.out⟩
set_option maxHeartbeats 2000000 in
set_option maxRecDepth 100000 in
theorem many4_any (w:World) (rb:Nat) (bs:List UInt8) (d:Int) (h:Rdr w rb bs d):
    Calls Tryd.prog 66 #[.pointer (some ⟨rb,0,none⟩), .int .i64 4] w fun e w'=>RStep w w' rb∧(match rdM 4 bs with
      |some (n,r)=>e= .returned (.int .i64 n)∧Rdr w' rb r d∧n≤r.length
      |none=>e= .panicked [short] ∧∃bs',Rdr w' rb bs' d):=by
  have H:=Lib.hid h
  cases hr:rdN 4 bs with
  | none=>
    have hm:rdM 4 bs=none:=by rw [rdM,hr];rfl
    rw [hm]
    have HC:=Lib.hid (takeInt4_none w rb bs d h hr)
    clear h hm hr
    go_enter Tryd.func66,Tryd.ntmps66
    go_wp2_with (go_at_call 84;(with_reducible refine (HC.out).mono ?_);rintro e w1 ⟨rfl,rfl⟩)
    exact ⟨rfl, .refl _ _,rfl,bs,H.out⟩
  | some p=>
    obtain ⟨n,r⟩:=p
    have HC:=Lib.hid (takeInt4_some w rb bs d h hr)
    have hn4:n<4294967296:=Nat.lt_of_lt_of_le (rdN_lt hr) (by decide)
    by_cases hle:n≤r.length
    · have hm:rdM 4 bs=some (n,r):=by rw [rdM,hr];simp [hle]
      rw [hm]
      have HL:=Lib.hid hle
      clear h hm hr
      go_enter Tryd.func66,Tryd.ntmps66
      go_wp2_with (go_at_call 84;(with_reducible refine (HC.out).mono ?_);rintro e w1 ⟨rfl,hR,hS⟩;obtain ⟨⟨a,n2,c,h0,hI⟩,h1,h2,h3⟩:=id hR;have hn2:=hI.len;have hle2:¬n2<n:=(by omega);have HR:=Lib.hid hR;clear hI hn2 hle hR)
      go_returns
      exact ⟨hS,rfl,HR.out,HL.out⟩
    · have hm:rdM 4 bs=none:=by rw [rdM,hr];simp [hle]
      rw [hm]
      clear h hm hr
      go_enter Tryd.func66,Tryd.ntmps66
      go_wp2_with (go_at_call 84;(with_reducible refine (HC.out).mono ?_);rintro e w1 ⟨rfl,hR,hS⟩;obtain ⟨⟨a,n2,c,h0,hI⟩,h1,h2,h3⟩:=id hR;have hn2:=hI.len;have hle2:n2<n:=(by omega);have HR:=Lib.hid hR;clear hI hn2 hle hR)
      exact ⟨rfl,hS,rfl,r,HR.out⟩
set_option maxHeartbeats 2000000 in
set_option maxRecDepth 100000 in
theorem rText_any (w:World) (rb:Nat) (bs:List UInt8) (d:Int) (h:Rdr w rb bs d):
    Calls Tryd.prog 71 #[.pointer (some ⟨rb,0,none⟩)] w fun e w'=>RStep w w' rb∧(match rdT bs with
      |some (s,r)=>e= .returned (.string s)∧Rdr w' rb r d
      |none=>e= .panicked [short] ∧∃bs',Rdr w' rb bs' d):=by
  have HM:=Lib.hid (many4_any w rb bs d h)
  cases hr:rdM 4 bs with
  | none=>
    have hm:rdT bs=none:=by rw [rdT,hr];rfl
    rw [hm]
    rw [hr] at HM
    clear h hm hr
    go_enter Tryd.func71,Tryd.ntmps71
    go_wp2_with (go_at_call 66;(with_reducible refine (HM.out).mono ?_);rintro e w1 ⟨hS,rfl,hR⟩)
    exact ⟨rfl,hS,rfl,hR⟩
  | some p=>
    obtain ⟨n,r⟩:=p
    have hm:rdT bs=some (⟨(r.take n).toArray⟩,r.drop n):=by rw [rdT,hr];rfl
    rw [hm]
    rw [hr] at HM
    clear h hm hr
    go_enter Tryd.func71,Tryd.ntmps71
    go_wp2_with (first
      |(go_at_call 66;(with_reducible refine (HM.out).mono ?_);rintro e w1 ⟨hS,rfl,hR,hl⟩)
      |(go_at_call 83;(with_reducible refine (cut_some w1 rb r d hR n hl).mono ?_);rintro e w2 ⟨⟨a,k,c,rfl,hI⟩,hR2,hS2⟩;have hcv:=conv_isB hI))
    go_returns
    exact ⟨hS.trans hS2,rfl,hR2⟩
end Go.Proofs.YthceefjafklcmaaDoor
namespace Go.Proofs.YthceefjafklcmaaDoor
open Go.RowKit
theorem down_any (u:FrameMode) (w:World) (bx rb:Nat) (d:Int) (hc:w.cell? ⟨bx,0,none⟩=some (.pointer (some ⟨rb,0,none⟩))) (h1:w.cell? ⟨rb,1,none⟩=some (.int .i64 (d+1))) (hf:w.frozen? ⟨rb,1,none⟩=false) (hd:0≤d) (hd2:d≤100):
    CallsD Tryd.prog 69 #[.pointer (some ⟨bx,0,none⟩)] u w fun e u' w'=>u'=u∧(e= .returned (.tuple #[])∧w'=w.setCell ⟨rb,1,none⟩ (.int .i64 d)):=by
  have e:d+1 - 1=d:=by omega
  go_enter_d Tryd.func69,Tryd.ntmps69
  go_wp2_with fail
  first|go_end0|skip
  all_goals first|exact ⟨rfl,rfl⟩|trace_state
theorem door {tmps:Array Value} {R:Ending→World→Prop} {u:FrameMode} {W:World} {bx rb:Nat} {bs:List UInt8} {d:Int} (hu:u= .returning∨u= .panicking [short]) (hc:W.cell? ⟨bx,0,none⟩=some (.pointer (some ⟨rb,0,none⟩))) (hR:Rdr W rb bs (d+1)) (hd:0≤d) (hd2:d≤100)
    (h:Rdr (W.setCell ⟨rb,1,none⟩ (.int .i64 d)) rb bs d→RStep W (W.setCell ⟨rb,1,none⟩ (.int .i64 d)) rb→Leaves Tryd.prog Tryd.f40 tmps R [] u (W.setCell ⟨rb,1,none⟩ (.int .i64 d))):
    Leaves Tryd.prog Tryd.f40 tmps R [{ target:= .fn (.func 69) #[.pointer (some ⟨bx,0,none⟩)],args:= #[] }] u W:=by
  have hs:settle u=u:=by rcases hu with rfl|rfl<;>rfl
  refine leaves_cons (f:=69) (args:= #[.pointer (some ⟨bx,0,none⟩)]) (by rcases hu with rfl|rfl<;>simp) (by simp [go_sem]) ?_
  refine (down_any u W bx rb d hc hR.deep hR.f1 hd hd2).mono ?_
  rintro e u' w'' ⟨rfl,rfl,rfl⟩
  show Leaves _ _ _ _ _ (settle u') _
  rw [hs]
  have:=hR.setDeep (d':=d)
  exact h this.1 this.2
theorem door_panic {tmps:Array Value} {R:Ending→World→Prop} {W:World} {bx rb:Nat} {bs:List UInt8} {d:Int} (hc:W.cell? ⟨bx,0,none⟩=some (.pointer (some ⟨rb,0,none⟩))) (hR:Rdr W rb bs (d+1)) (hd:0≤d) (hd2:d≤100)
    (h:Rdr (W.setCell ⟨rb,1,none⟩ (.int .i64 d)) rb bs d→RStep W (W.setCell ⟨rb,1,none⟩ (.int .i64 d)) rb→R (.panicked [short]) (W.setCell ⟨rb,1,none⟩ (.int .i64 d))):
    Leaves Tryd.prog Tryd.f40 tmps R [{ target:= .fn (.func 69) #[.pointer (some ⟨bx,0,none⟩)],args:= #[] }] (.panicking [short]) W:=
  door (.inr rfl) hc hR hd hd2 fun h1 h2=>h h1 h2
theorem results_value {tmps:Array Value} {W:World} {b:Nat} {c:VC} (ht:tmps[2]? =some (.pointer (some ⟨b,0,none⟩))) (hv:ValAt W b 0 c):(results Tryd.f40 tmps).run Tryd.prog W= .ok (.agg #[.int .u8 c.k, .int .i64 c.n, .string c.s, .slice c.la c.ll c.lc, .slice c.oa c.ol c.oc]) W:=by
  have h0:=hv.c0
  have h1:W.cell? ⟨b,1,none⟩=_:=hv.c1
  have h2:W.cell? ⟨b,2,none⟩=_:=hv.c2
  have h3:W.cell? ⟨b,3,none⟩=_:=hv.c3
  have h4:W.cell? ⟨b,4,none⟩=_:=hv.c4
  simp [results,Tryd.results40,go_sem,ht,h0,h1,h2,h3,h4]
theorem door_ret {tmps:Array Value} {R:Ending→World→Prop} {W:World} {bx b rb:Nat} {bs:List UInt8} {d:Int} {c:VC} (hc:W.cell? ⟨bx,0,none⟩=some (.pointer (some ⟨rb,0,none⟩))) (hR:Rdr W rb bs (d+1)) (hd:0≤d) (hd2:d≤100)
    (ht:tmps[2]? =some (.pointer (some ⟨b,0,none⟩))) (hv:ValAt W b 0 c) (hb:b≠rb)
    (h:Rdr (W.setCell ⟨rb,1,none⟩ (.int .i64 d)) rb bs d→RStep W (W.setCell ⟨rb,1,none⟩ (.int .i64 d)) rb→R (.returned (.agg #[.int .u8 c.k, .int .i64 c.n, .string c.s, .slice c.la c.ll c.lc, .slice c.oa c.ol c.oc])) (W.setCell ⟨rb,1,none⟩ (.int .i64 d))):
    Leaves Tryd.prog Tryd.f40 tmps R [{ target:= .fn (.func 69) #[.pointer (some ⟨bx,0,none⟩)],args:= #[] }] .returning W:=
  door (.inl rfl) hc hR hd hd2 fun h1 h2=>⟨_,results_value ht ⟨h2.cell hv.c0 hb,h2.cell hv.c1 hb,h2.cell hv.c2 hb,h2.cell hv.c3 hb,h2.cell hv.c4 hb⟩,h h1 h2⟩
end Go.Proofs.YthceefjafklcmaaDoor
namespace Go.Proofs.YthceefjafklcmaaDoor
open Go.RowKit
theorem flat_get {α:Type} (f:α→List Value) (m:Nat) (hf:∀x,(f x).length=m):∀(l:List α) (i t:Nat) (hi:i<l.length),t<m→(l.flatMap f)[i*m+t]? =(f l[i])[t]? :=by
  intro l
  induction l with
  |nil=>intro i t hi;cases hi
  | cons x l ih=>
    intro i t hi ht
    cases i with
    | zero=>
      simp only [List.flatMap_cons,Nat.zero_mul,Nat.zero_add,List.getElem_cons_zero]
      rw [List.getElem?_append_left (by rw [hf];exact ht)]
    | succ i=>
      have e:(i+1)*m+t=(f x).length+(i*m+t):=by rw [hf,Nat.add_mul];omega
      simp only [List.flatMap_cons,List.getElem_cons_succ]
      rw [e,List.getElem?_append_right (by omega),Nat.add_sub_cancel_left]
      exact ih i t (by simpa using hi) ht
theorem flat_snoc {α:Type} (f:α→List Value) (l:List α) (x:α):(l++ [x]).flatMap f=l.flatMap f++f x:=by simp
def Closed (P:World→Nat→Nat→Prop):Prop:=∀W W' B B' i,Shows W W' B→B≤B'→P W B i→P W' B' i
def Free (base:Nat) (u:Value):Nat→Prop:=fun k=>base≤k∧some k≠u.ownBlock
structure Row (T:TypeId) (sz:Nat) (w:World) (base:Nat) (u:Value) (n:Nat) (cells:List Value) (P:World→Nat→Nat→Prop):Prop where
  own:w.ownsRow base T sz u n cells
  els:∀i,i<n→P (only (Free base u) w) w.heap.size i
theorem Row.nil (T:TypeId) (sz:Nat) (w:World) (base:Nat) (P:World→Nat→Nat→Prop):Row T sz w base (.slice none 0 0) 0 [] P:=
  ⟨⟨by simp, .inl ⟨rfl,rfl⟩⟩,fun i h=>by omega⟩
theorem Row.lt {T:TypeId} {sz:Nat} {w:World} {base:Nat} {u:Value} {n:Nat} {cells:List Value} {P:World→Nat→Nat→Prop} (h:Row T sz w base u n cells P):∀k,u.ownBlock=some k→base≤k∧k<w.heap.size:=h.own.lt
theorem Row.later {T:TypeId} {sz:Nat} {w w':World} {base rb:Nat} {u:Value} {n:Nat} {cells:List Value} {P:World→Nat→Nat→Prop} (hP:Closed P) (h:Row T sz w base u n cells P) (s:RStep w w' rb) (hr:rb<base):Row T sz w' base u n cells P:=by
  refine ⟨h.own.kept (row:=some rb) ⟨s.os,s.tape,s.output,s.size,fun k hk hne=>s.block k hk (fun e=>hne (by rw [e]))⟩ ?_,fun i hi=>hP _ _ _ _ i (shows_step fun k hk hlt=>⟨hk,s.block k hlt ?_⟩) s.size (h.els i hi)⟩
  · cases hu:u.ownBlock with
    |none=>simp
    | some k=>
      have:=(h.lt k hu).1
      right;intro e;injection e with e;omega
  · have:=hk.1;omega
theorem Row.set {T:TypeId} {sz:Nat} {w:World} {base b o:Nat} {u x:Value} {n:Nat} {cells:List Value} {P:World→Nat→Nat→Prop} (hP:Closed P) (h:Row T sz w base u n cells P) (hb:b<base):Row T sz (w.setCell ⟨b,o,none⟩ x) base u n cells P:=
  h.later hP (rb:=b) ⟨rfl,rfl,rfl,by simp,fun k hk hr=>heap_setCell_other _ _ _ _ hr⟩ hb
theorem Row.push {T:TypeId} {sz:Nat} {w w0 w1:World} {base:Nat} {u u':Value} {n:Nat} {cells news:List Value} {P P':World→Nat→Nat→Prop} (hP':Closed P') (h:Row T sz w base u n cells P)
    (hb:Below w.heap.size w w0) (hg:w0.grownBy w1 u.ownBlock) (hown:w1.ownsRow base T sz u' (n+1) (cells++news)) (hat:u'.ownBlock=u.ownBlock∨∀k,u'.ownBlock=some k→w.heap.size≤k)
    (hnew:P' (only (Free base u) w) w.heap.size n) (hold:∀W B i,i<n→P W B i→P' W B i):Row T sz w1 base u' (n+1) (cells++news) P':=by
  have hsz:w.heap.size≤w1.heap.size:=Nat.le_trans hb.size hg.size
  refine ⟨hown,fun i hi=> ?_⟩
  have hs:Shows (only (Free base u) w) (only (Free base u') w1) w.heap.size:=by
    refine shows_step fun k hk hlt=>⟨⟨hk.1,fun e=> ?_⟩, ?_⟩
    · rcases hat with e2|e2
      · exact hk.2 (e.trans e2)
      · have:=e2 k e.symm;omega
    · rw [hg.block k (Nat.lt_of_lt_of_le hlt hb.size) hk.2,hb.block k hlt]
  by_cases hin:i=n
  · subst hin;exact hP' _ _ _ _ _ hs hsz hnew
  · exact hP' _ _ _ _ _ hs hsz (hold _ _ _ (by omega) (h.els i (by omega)))
theorem Row.shows {T:TypeId} {sz:Nat} {w:World} {base lo:Nat} {u:Value} {n:Nat} {cells:List Value} {P:World→Nat→Nat→Prop} (hP:Closed P) (h:Row T sz w base u n cells P) (hlo:lo≤base):
    (∀g,u.ownBlock=some g→∀j x,cells[j]? =some x→(only (fun k=>lo≤k) w).cell? ⟨g,j,none⟩=some x)∧∀i,i<n→P (only (fun k=>lo≤k) w) w.heap.size i:=by
  refine ⟨fun g hg j x hx=>only_cell' (show lo≤g by have:=(h.lt g hg).1;omega) ?_,fun i hi=>hP _ _ _ _ i (shows_step fun k hk _=>⟨by have:=hk.1;omega,rfl⟩) (Nat.le_refl _) (h.els i hi)⟩
  have:=h.own.cells hg j x hx
  rw [add_at,Nat.zero_add] at this;exact this
def vcells (c:VC):List Value:= [.int .u8 c.k, .int .i64 c.n, .string c.s, .slice c.la c.ll c.lc, .slice c.oa c.ol c.oc]
def vzero:VC:=⟨0,0, .empty,none,0,0,none,0,0⟩
def PV (l:List V) (cs:List VC):World→Nat→Nat→Prop:=fun W B i=>∀h:i<l.length,IsVal W B l[i] (cs.getD i vzero)
theorem PV.closed (l:List V) (cs:List VC):Closed (PV l cs):=fun _ _ _ _ _ hs hB h hi=>((h hi).sub hs).more hB
theorem PV.snoc {l:List V} {cs:List VC} (hl:cs.length=l.length) (x:V) (c:VC):(∀W B,IsVal W B x c→PV (l++ [x]) (cs++ [c]) W B l.length)∧∀W B i,i<l.length→PV l cs W B i→PV (l++ [x]) (cs++ [c]) W B i:=by
  constructor
  · intro W B h hi
    simpa [List.getD_eq_getElem?_getD, ←hl] using h
  · intro W B i hi h hi2
    have h:=h hi
    have e:(cs++ [c]).getD i vzero=cs.getD i vzero:=by simp [List.getD_eq_getElem?_getD,List.getElem?_append_left (show i<cs.length by omega)]
    rw [List.getElem_append_left hi,e]
    exact h
abbrev RowV (w:World) (base:Nat) (u:Value) (l:List V) (cs:List VC):Prop:=Row 28 5 w base u l.length (cs.flatMap vcells) (PV l cs)
theorem RowV.val {w:World} {base lo:Nat} {l:List V} {cs:List VC} {a:Option Addr} {n cap:Nat} (h:RowV w base (.slice a n cap) l cs) (hl:cs.length=l.length) (hlo:lo≤base) (k:Int) (hk0:0≤k) (hk1:k<256) (hfew:l.length≤1466015503701):
    IsVal (only (fun b=>lo≤b) w) w.heap.size (.mk k 0 .empty l []) ⟨k,0, .empty,a,n,cap,none,0,0⟩:=by
  obtain ⟨h1,h2⟩:=Row.shows (PV.closed l cs) h hlo
  have hown:=h.own
  have hlt:=h.lt
  have hbd:∀n cap:Nat,n≤cap→cap≤9223372036854775807→n≤1466015503701→(⟨k,0, .empty,a,n,cap,none,0,0⟩:VC).Bnd:=fun n cap e1 e2 e3=>⟨hk0,hk1,(by decide:(-9223372036854775808:Int)≤0),(by decide:(0:Int)≤9223372036854775807),(by decide:ByteArray.empty.size≤140737488355328),e1,e2,e3,(by decide:(0:Nat)≤0),(by decide:(0:Nat)≤9223372036854775807),(by decide:(0:Nat)≤1466015503701)⟩
  rcases hown.2 with ⟨e,hn⟩|⟨g,cap',cur,e,hbg,hg,hnc,hcm,hcs,htake⟩
  · injection e with e1 e2 e3;subst e1 e2 e3
    have:l= [] :=List.length_eq_zero_iff.1 hn
    subst this
    exact .mk ⟨k,0, .empty,none,0,0,none,0,0⟩ [] [] (fun _=>vzero) (fun _=>vzero) 0 0 0 0 (hbd 0 0 (by omega) (by omega) (by omega)) rfl rfl (fun h=>by cases h) (fun h=>by cases h) (fun i h=>by cases h) (fun i h=>by cases h) (fun i h=>by cases h) (fun i h=>by cases h)
  · injection e with e1 e2 e3;subst e1 e2 e3
    refine .mk ⟨k,0, .empty,some ⟨g,0,none⟩,l.length,cap,none,0,0⟩ l [] (fun i=>cs.getD i vzero) (fun _=>vzero) g 0 0 0 (hbd _ _ hnc (by simpa [maxLen] using hcm) hfew) rfl rfl (fun _=>⟨rfl,(hlt g rfl).2⟩) (fun h=>by cases h) (fun i hi=> ?_) (fun i hi=>h2 i hi hi) (fun i h=>by cases h) (fun i h=>by cases h)
    have hi':i<cs.length:=by omega
    have hc:∀t x,t<5→(vcells cs[i])[t]? =some x→(only (fun b=>lo≤b) w).cell? ⟨g,0+i*5+t,none⟩=some x:=fun t x ht hx=>by
      rw [Nat.zero_add]
      exact h1 g rfl (i*5+t) x ((flat_get vcells 5 (fun _=>rfl) cs i t hi' ht).trans hx)
    have he:cs.getD i vzero=cs[i] :=by simp [List.getD_eq_getElem?_getD,hi']
    simp only [he]
    exact ⟨hc 0 _ (by omega) rfl,hc 1 _ (by omega) rfl,hc 2 _ (by omega) rfl,hc 3 _ (by omega) rfl,hc 4 _ (by omega) rfl⟩
def fcells (c:ByteArray×VC):List Value:= [.string c.1, .int .u8 c.2.k, .int .i64 c.2.n, .string c.2.s, .slice c.2.la c.2.ll c.2.lc, .slice c.2.oa c.2.ol c.2.oc]
def fzero:ByteArray×VC:=(.empty,vzero)
def PF (l:List (ByteArray×V)) (cs:List (ByteArray×VC)):World→Nat→Nat→Prop:=fun W B i=>∀h:i<l.length,(cs.getD i fzero).1=l[i].1∧l[i].1.size≤140737488355328∧IsVal W B l[i].2 (cs.getD i fzero).2
theorem PF.closed (l:List (ByteArray×V)) (cs:List (ByteArray×VC)):Closed (PF l cs):=fun _ _ _ _ _ hs hB h hi=>⟨(h hi).1,(h hi).2.1,((h hi).2.2.sub hs).more hB⟩
theorem PF.snoc {l:List (ByteArray×V)} {cs:List (ByteArray×VC)} (hl:cs.length=l.length) (s:ByteArray) (hs:s.size≤140737488355328) (x:V) (c:VC):(∀W B,IsVal W B x c→PF (l++ [(s,x)]) (cs++ [(s,c)]) W B l.length)∧∀W B i,i<l.length→PF l cs W B i→PF (l++ [(s,x)]) (cs++ [(s,c)]) W B i:=by
  constructor
  · intro W B h hi
    have e1:(l++ [(s,x)])[l.length]'hi=(s,x):=by simp
    have e2:(cs++ [(s,c)]).getD l.length fzero=(s,c):=by simp [List.getD_eq_getElem?_getD, ←hl]
    rw [e1,e2];exact ⟨rfl,hs,h⟩
  · intro W B i hi h hi2
    have h:=h hi
    have e:(cs++ [(s,c)]).getD i fzero=cs.getD i fzero:=by simp [List.getD_eq_getElem?_getD,List.getElem?_append_left (show i<cs.length by omega)]
    rw [List.getElem_append_left hi,e]
    exact h
abbrev RowF (w:World) (base:Nat) (u:Value) (l:List (ByteArray×V)) (cs:List (ByteArray×VC)):Prop:=Row 67 6 w base u l.length (cs.flatMap fcells) (PF l cs)
theorem RowF.val {w:World} {base lo:Nat} {l:List (ByteArray×V)} {cs:List (ByteArray×VC)} {a:Option Addr} {n cap:Nat} (h:RowF w base (.slice a n cap) l cs) (hl:cs.length=l.length) (hlo:lo≤base) (k:Int) (hk0:0≤k) (hk1:k<256) (hfew:l.length≤1466015503701):
    IsVal (only (fun b=>lo≤b) w) w.heap.size (.mk k 0 .empty [] l) ⟨k,0, .empty,none,0,0,a,n,cap⟩:=by
  obtain ⟨h1,h2⟩:=Row.shows (PF.closed l cs) h hlo
  have hown:=h.own
  have hlt:=h.lt
  have hbd:∀n cap:Nat,n≤cap→cap≤9223372036854775807→n≤1466015503701→(⟨k,0, .empty,none,0,0,a,n,cap⟩:VC).Bnd:=fun n cap e1 e2 e3=>⟨hk0,hk1,(by decide:(-9223372036854775808:Int)≤0),(by decide:(0:Int)≤9223372036854775807),(by decide:ByteArray.empty.size≤140737488355328),(by decide:(0:Nat)≤0),(by decide:(0:Nat)≤9223372036854775807),(by decide:(0:Nat)≤1466015503701),e1,e2,e3⟩
  rcases hown.2 with ⟨e,hn⟩|⟨g,cap',cur,e,hbg,hg,hnc,hcm,hcs,htake⟩
  · injection e with e1 e2 e3;subst e1 e2 e3
    have:l= [] :=List.length_eq_zero_iff.1 hn
    subst this
    exact .mk ⟨k,0, .empty,none,0,0,none,0,0⟩ [] [] (fun _=>vzero) (fun _=>vzero) 0 0 0 0 (hbd 0 0 (by omega) (by omega) (by omega)) rfl rfl (fun h=>by cases h) (fun h=>by cases h) (fun i h=>by cases h) (fun i h=>by cases h) (fun i h=>by cases h) (fun i h=>by cases h)
  · injection e with e1 e2 e3;subst e1 e2 e3
    refine .mk ⟨k,0, .empty,none,0,0,some ⟨g,0,none⟩,l.length,cap⟩ [] l (fun _=>vzero) (fun i=>(cs.getD i fzero).2) 0 0 g 0 (hbd _ _ hnc (by simpa [maxLen] using hcm) hfew) rfl rfl (fun h=>by cases h) (fun _=>⟨rfl,(hlt g rfl).2⟩) (fun i h=>by cases h) (fun i h=>by cases h) (fun i hi=> ?_) (fun i hi=>(h2 i hi hi).2.2)
    have hi':i<cs.length:=by omega
    have hc:∀t x,t<6→(fcells cs[i])[t]? =some x→(only (fun b=>lo≤b) w).cell? ⟨g,0+i*6+t,none⟩=some x:=fun t x ht hx=>by
      rw [Nat.zero_add]
      exact h1 g rfl (i*6+t) x ((flat_get fcells 6 (fun _=>rfl) cs i t hi' ht).trans hx)
    have he:cs.getD i fzero=cs[i] :=by simp [List.getD_eq_getElem?_getD,hi']
    obtain ⟨p1,p2,_⟩:=h2 i hi hi
    rw [he] at p1
    simp only [he]
    exact ⟨by rw [←p1];exact hc 0 _ (by omega) rfl,p2,hc 1 _ (by omega) rfl,hc 2 _ (by omega) rfl,hc 3 _ (by omega) rfl,hc 4 _ (by omega) rfl,hc 5 _ (by omega) rfl⟩
end Go.Proofs.YthceefjafklcmaaDoor
namespace Go.Proofs.YthceefjafklcmaaDoor
open Go.RowKit
theorem RStep.frozen {w w':World} {rb:Nat} (h:RStep w w' rb) {b o:Nat} (hl:b<w.heap.size) (hb:b≠rb):w'.frozen? ⟨b,o,none⟩=w.frozen? ⟨b,o,none⟩:=
  World.frozen?_of_block (h.block b hl hb)
theorem RStep.setNew {w W:World} {rb b o:Nat} {x:Value} (h:RStep w W rb) (hb:w.heap.size≤b):RStep w (W.setCell ⟨b,o,none⟩ x) rb:=
  ⟨h.os,h.tape,h.output,by simpa using h.size,fun k hk hr=>(heap_setCell_other _ _ _ _ (show k≠b by omega)).trans (h.block k hk hr)⟩
theorem Rdr.setNew {W:World} {rb b o:Nat} {x:Value} {bs:List UInt8} {d:Int} (h:Rdr W rb bs d) (hb:rb<b):Rdr (W.setCell ⟨b,o,none⟩ x) rb bs d:=by
  obtain ⟨⟨a,n,c,h0,hI⟩,h1,h2,h3⟩:=h
  have hb':Below b W (W.setCell ⟨b,o,none⟩ x):=⟨rfl,rfl,rfl,by simp,fun k hk=>heap_setCell_other _ _ _ _ (show k≠b by omega)⟩
  exact ⟨⟨a,n,c,keep_cell hb' h0 hb,hI.keep (hb'.mono (Nat.le_of_lt hb))⟩,keep_cell hb' h1 hb,by simpa using h2,by simpa using h3⟩
structure RB (w W:World) (rb:Nat) (bs:List UInt8) (d:Int) (c:VC):Prop where
  rdr:Rdr W rb bs d
  st:RStep w W rb
  box:W.cell? ⟨w.heap.size,0,none⟩=some (.pointer (some ⟨rb,0,none⟩))
  res:ValAt W (w.heap.size+1) 0 c
  frz:∀j,j<5→W.frozen? ⟨w.heap.size+1,j,none⟩=false
  lt:rb<w.heap.size
  size:w.heap.size+2≤W.heap.size
theorem RB.next {w W W':World} {rb:Nat} {bs bs':List UInt8} {d:Int} {c:VC} (h:RB w W rb bs d c) (s:RStep W W' rb) (hR:Rdr W' rb bs' d):RB w W' rb bs' d c:=by
  have hlt:=h.lt;have hsz:=h.size
  refine ⟨hR,h.st.trans s,s.cell h.box (by omega),⟨s.cell h.res.c0 (by omega),s.cell h.res.c1 (by omega),s.cell h.res.c2 (by omega),s.cell h.res.c3 (by omega),s.cell h.res.c4 (by omega)⟩,fun j hj=>(s.frozen (by omega) (by omega)).trans (h.frz j hj),hlt,Nat.le_trans hsz s.size⟩
theorem RB.behind {w W W':World} {rb:Nat} {bs:List UInt8} {d:Int} {c:VC} (h:RB w W rb bs d c) (hb:Below W.heap.size W W'):RB w W' rb bs d c:=h.next (.of_below rb hb) (h.rdr.of_below hb)
theorem RB.set {w W:World} {rb b o:Nat} {x:Value} {bs:List UInt8} {d:Int} {c:VC} (h:RB w W rb bs d c) (hb:w.heap.size+1<b):RB w (W.setCell ⟨b,o,none⟩ x) rb bs d c:=by
  have hlt:=h.lt
  have hb':Below b W (W.setCell ⟨b,o,none⟩ x):=⟨rfl,rfl,rfl,by simp,fun k hk=>heap_setCell_other _ _ _ _ (show k≠b by omega)⟩
  exact ⟨h.rdr.setNew (by omega),h.st.setNew (by omega),keep_cell hb' h.box (by omega),h.res.keep hb' hb,fun j hj=>by simpa using h.frz j hj,hlt,by simpa using h.size⟩
theorem RB.start {w:World} {rb:Nat} {bs:List UInt8} {d d':Int} (h:Rdr w rb bs d) (t1 t2:TypeId):
    RB w (((w.setCell ⟨rb,1,none⟩ (.int .i64 d')).alloc (.cells #[.pointer (some ⟨rb,0,none⟩)] t1)).alloc (.cells #[.int .u8 0, .int .i64 0, .string { data:= #[] }, .slice none 0 0, .slice none 0 0] t2)) rb bs d' vzero:=by
  obtain ⟨hR,hS⟩:=h.setDeep (d':=d')
  obtain ⟨w0,hw0⟩:∃w0,w.setCell ⟨rb,1,none⟩ (.int .i64 d')=w0:=⟨_,rfl⟩
  have hsz:w.heap.size=w0.heap.size:=by rw [←hw0];simp
  rw [hw0] at hR hS ⊢
  obtain ⟨w1,hw1⟩:∃w1,w0.alloc (.cells #[.pointer (some ⟨rb,0,none⟩)] t1)=w1:=⟨_,rfl⟩
  have b1:Below w0.heap.size w0 w1:=by rw [←hw1];exact (Below.refl _ _).alloc (Nat.le_refl _) _
  have hs1:w1.heap.size=w.heap.size+1:=by rw [←hw1,World.size_alloc,hsz]
  have hc:=cells_new w0 #[.pointer (some ⟨rb,0,none⟩)] t1 0 _ rfl
  rw [hw1] at hc ⊢
  have b2:Below w1.heap.size w1 (w1.alloc (.cells #[.int .u8 0, .int .i64 0, .string { data:= #[] }, .slice none 0 0, .slice none 0 0] t2)):=(Below.refl _ _).alloc (Nat.le_refl _) _
  have hn:=cells_new w1 #[.int .u8 0, .int .i64 0, .string { data:= #[] }, .slice none 0 0, .slice none 0 0] t2
  have hlt:=h.lt
  refine ⟨(hR.of_below b1).of_below b2,hS.trans ((RStep.of_below rb b1).trans (.of_below rb b2)), ?_, ?_,fun j hj=> ?_,hlt,by rw [World.size_alloc,hs1];omega⟩
  · exact keep_cell b2 (by rw [hsz];exact hc) (by rw [hs1];omega)
  · rw [←hs1];exact ⟨hn 0 _ rfl,hn 1 _ rfl,hn 2 _ rfl,hn 3 _ rfl,hn 4 _ rfl⟩
  · rw [←hs1];exact frozen_new w1 _ t2 j
structure VB (W:World) (vb:Nat) (c:VC):Prop where
  at_:ValAt W vb 0 c
  fr:∀j,W.frozen? ⟨vb,j,none⟩=false
theorem VB.lt {W:World} {vb:Nat} {c:VC} (h:VB W vb c):vb<W.heap.size:=World.block_lt_of_cell? W _ h.at_.c0
theorem VB.next {W W':World} {vb rb:Nat} {c:VC} (h:VB W vb c) (s:RStep W W' rb) (hv:vb≠rb):VB W' vb c:=
  ⟨⟨s.cell h.at_.c0 hv,s.cell h.at_.c1 hv,s.cell h.at_.c2 hv,s.cell h.at_.c3 hv,s.cell h.at_.c4 hv⟩,fun j=>(s.frozen h.lt hv).trans (h.fr j)⟩
theorem VB.start (w:World) (c:VC) (t:TypeId):VB (w.alloc (.cells #[.int .u8 c.k, .int .i64 c.n, .string c.s, .slice c.la c.ll c.lc, .slice c.oa c.ol c.oc] t)) w.heap.size c:=
  ⟨valAt_new w c t,fun j=>frozen_new w _ t j⟩
theorem valAt_stored {W:World} {b:Nat} {c0:VC} (h:ValAt W b 0 c0) (c:VC):
    ValAt (((((W.setCell ⟨b,0,none⟩ (.int .u8 c.k)).setCell ⟨b,1,none⟩ (.int .i64 c.n)).setCell ⟨b,2,none⟩ (.string c.s)).setCell ⟨b,3,none⟩ (.slice c.la c.ll c.lc)).setCell ⟨b,4,none⟩ (.slice c.oa c.ol c.oc)) b 0 c:=by
  have g0:=h.c0
  have g1:W.cell? ⟨b,1,none⟩=_:=h.c1
  have g2:W.cell? ⟨b,2,none⟩=_:=h.c2
  have g3:W.cell? ⟨b,3,none⟩=_:=h.c3
  have g4:W.cell? ⟨b,4,none⟩=_:=h.c4
  constructor<;>simp [go_sem,g0,g1,g2,g3,g4]
theorem RB.store {w W:World} {rb:Nat} {bs:List UInt8} {d:Int} {c0:VC} (h:RB w W rb bs d c0) (c:VC):
    RB w (((((W.setCell ⟨w.heap.size+1,0,none⟩ (.int .u8 c.k)).setCell ⟨w.heap.size+1,1,none⟩ (.int .i64 c.n)).setCell ⟨w.heap.size+1,2,none⟩ (.string c.s)).setCell ⟨w.heap.size+1,3,none⟩ (.slice c.la c.ll c.lc)).setCell ⟨w.heap.size+1,4,none⟩ (.slice c.oa c.ol c.oc)) rb bs d c:=by
  have hlt:=h.lt
  have hn:w.heap.size≤w.heap.size+1:=by omega
  have hr:rb<w.heap.size+1:=by omega
  refine ⟨((((h.rdr.setNew hr).setNew hr).setNew hr).setNew hr).setNew hr,((((h.st.setNew hn).setNew hn).setNew hn).setNew hn).setNew hn, ?_,valAt_stored h.res c,fun j hj=>by simpa using h.frz j hj,hlt,by simpa using h.size⟩
  simp [go_sem,h.box]
theorem isVal_leaf (W:World) (B:Nat) (k n:Int) (s:ByteArray) (hk0:0≤k) (hk1:k<256) (hn0: -9223372036854775808≤n) (hn1:n≤9223372036854775807) (hs:s.size≤140737488355328):IsVal W B (.mk k n s [] []) ⟨k,n,s,none,0,0,none,0,0⟩:=
  .mk ⟨k,n,s,none,0,0,none,0,0⟩ [] [] (fun _=>vzero) (fun _=>vzero) 0 0 0 0 ⟨hk0,hk1,hn0,hn1,hs,(by decide:(0:Nat)≤0),(by decide:(0:Nat)≤9223372036854775807),(by decide:(0:Nat)≤1466015503701),(by decide:(0:Nat)≤0),(by decide:(0:Nat)≤9223372036854775807),(by decide:(0:Nat)≤1466015503701)⟩ rfl rfl (fun h=>by cases h) (fun h=>by cases h) (fun i h=>by cases h) (fun i h=>by cases h) (fun i h=>by cases h) (fun i h=>by cases h)
def RVPost (w:World) (rb:Nat) (d:Int) (r:Option (V×List UInt8)) (e:Ending) (w':World):Prop:=
  RStep w w' rb∧match r with
    |some (x,r)=>(∃c:VC,e= .returned (.agg #[.int .u8 c.k, .int .i64 c.n, .string c.s, .slice c.la c.ll c.lc, .slice c.oa c.ol c.oc])∧IsVal (only (fun b=>w.heap.size≤b) w') w'.heap.size x c)∧Rdr w' rb r d
    |none=>e= .panicked [short] ∧∃bs',Rdr w' rb bs' d
theorem RB.leave {w W:World} {rb base:Nat} {r:List UInt8} {d:Int} {c:VC} {x:V} {tmps:Array Value} (h:RB w W rb r (d+1) c) (hx:IsVal (only (fun b=>base≤b) W) W.heap.size x c) (hb:w.heap.size≤base) (hd:0≤d) (hd2:d≤100) (ht:tmps[2]? =some (.pointer (some ⟨w.heap.size+1,0,none⟩))):
    Leaves Tryd.prog Tryd.f40 tmps (RVPost w rb d (some (x,r))) [{ target:= .fn (.func 69) #[.pointer (some ⟨w.heap.size,0,none⟩)],args:= #[] }] .returning W:=by
  have hlt:=h.lt
  refine door_ret h.box h.rdr hd hd2 ht h.res (by omega) fun hR hS=>⟨h.st.trans hS,⟨c,rfl, ?_⟩,hR⟩
  exact (hx.sub (shows_step fun k hk hl=>⟨by omega,hS.block k hl (by omega)⟩)).more hS.size
theorem RB.panic {w W:World} {rb:Nat} {r:List UInt8} {d:Int} {c:VC} {tmps:Array Value} (h:RB w W rb r (d+1) c) (hd:0≤d) (hd2:d≤100):
    Leaves Tryd.prog Tryd.f40 tmps (RVPost w rb d none) [{ target:= .fn (.func 69) #[.pointer (some ⟨w.heap.size,0,none⟩)],args:= #[] }] (.panicking [short]) W:=
  door_panic h.box h.rdr hd hd2 fun hR hS=>⟨h.st.trans hS,rfl,r,hR⟩
end Go.Proofs.YthceefjafklcmaaDoor
