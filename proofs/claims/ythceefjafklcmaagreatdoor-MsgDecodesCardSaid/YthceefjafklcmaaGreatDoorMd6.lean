/-
  Contracts of the functions that the law reaches: writer.value and Writer.value: a value is written. Writer.value: a value is written.
-/
import Derived.Test.YthceefjafklcmaaGreatDoorMd5
namespace Go.Proofs.YthceefjafklcmaaGreatDoor
open Go.RowKit
mutual
def encV:V→List UInt8
  | .mk k n s l o=>be (k % 18446744073709551616).toNat 1++(if k=1∨k=2 then be (n % 18446744073709551616).toNat 8 else if k=3 then encS s else if k=4 then be l.length 4++encL l else if k=5 then be o.length 4++encO o else [])
def encL:List V→List UInt8
  | [] => []
  |v::r=>encV v++encL r
def encO:List (ByteArray×V)→List UInt8
  | [] => []
  |f::r=>encF f++encO r
def encF:ByteArray×V→List UInt8
  |(k,v)=>encS k++encV v
end
theorem encF_eq (f:ByteArray×V):encF f=encS f.1++encV f.2:=by cases f;simp [encF]
theorem encL_append (a b:List V):encL (a++b)=encL a++encL b:=by
  induction a with
  |nil=>simp [encL]
  |cons v r ih=>simp only [List.cons_append,encL,ih,List.append_assoc]
theorem encO_append (a b:List (ByteArray×V)):encO (a++b)=encO a++encO b:=by
  induction a with
  |nil=>simp [encO]
  |cons v r ih=>simp only [List.cons_append,encO,ih,List.append_assoc]
theorem encL_take (l:List V) (k:Nat) (h:k<l.length):encL (l.take (k+1))=encL (l.take k)++encV l[k] :=by
  rw [take_snoc l k h,encL_append];simp [encL]
theorem encO_take (o:List (ByteArray×V)) (k:Nat) (h:k<o.length):encO (o.take (k+1))=encO (o.take k)++encS o[k].1++encV o[k].2:=by
  rw [take_snoc o k h,encO_append];simp [encO,encF_eq]
theorem encL_le (l:List V) (k:Nat):(encL (l.take k)).length≤(encL l).length:=by
  have h:=encL_append (l.take k) (l.drop k)
  rw [List.take_append_drop] at h;rw [h,List.length_append];omega
theorem encO_le (l:List (ByteArray×V)) (k:Nat):(encO (l.take k)).length≤(encO l).length:=by
  have h:=encO_append (l.take k) (l.drop k)
  rw [List.take_append_drop] at h;rw [h,List.length_append];omega
structure WB (w wr:World) (B wb bx:Nat) (v u:Value) (bs:List UInt8) (c:VC):Prop where
  wrt:Wr wr B wb u bs
  st:WStep w wr wb v u
  at_:ValAt wr bx 0 c
  ne:bx≠wb
  lt:bx<wr.heap.size
  far:u.ownBlock≠some bx
theorem WB.next {w wr w2:World} {B wb bx:Nat} {v u u2:Value} {bs bs2:List UInt8} {c:VC} (h:WB w wr B wb bx v u bs c) (hr:Wr w2 B wb u2 bs2) (hs:WStep wr w2 wb u u2):WB w w2 B wb bx v u2 bs2 c:=by
  refine ⟨hr,h.st.trans hs,⟨hs.far h.at_.c0 h.ne h.far,hs.far h.at_.c1 h.ne h.far,hs.far h.at_.c2 h.ne h.far,hs.far h.at_.c3 h.ne h.far,hs.far h.at_.c4 h.ne h.far⟩,h.ne,Nat.lt_of_lt_of_le h.lt hs.size, ?_⟩
  rcases hs.own with e|e
  · rw [e];exact h.far
  · intro e2;have:=e _ e2;have:=h.lt;omega
theorem WB.behind {w wr w2:World} {B wb bx:Nat} {v u:Value} {bs:List UInt8} {c:VC} (h:WB w wr B wb bx v u bs c) (hb:Below wr.heap.size wr w2):WB w w2 B wb bx v u bs c:=
  h.next (h.wrt.of_below hb) (.of_below wb u hb)
theorem WB.start {w:World} {B wb:Nat} {v:Value} {bs:List UInt8} (h:Wr w B wb v bs) (c:VC) (t:TypeId):WB w (w.alloc (.cells #[.int .u8 c.k, .int .i64 c.n, .string c.s, .slice c.la c.ll c.lc, .slice c.oa c.ol c.oc] t)) B wb w.heap.size v v bs c:=by
  have hb:Below w.heap.size w (w.alloc (.cells #[.int .u8 c.k, .int .i64 c.n, .string c.s, .slice c.la c.ll c.lc, .slice c.oa c.ol c.oc] t)):=(Below.refl _ _).alloc (Nat.le_refl _) _
  exact ⟨h.of_below hb, .of_below wb v hb,valAt_new w c t,fun e=>by have:=h.lt;omega,by simp,fun e=>by have:=(h.lo _ e).2;omega⟩
def valueWP (x:V):Prop:=∀(w:World) (B wb:Nat) (v:Value) (bs:List UInt8) (c:VC),Wr w B wb v bs→IsVal w B x c→bs.length+(encV x).length≤140737488355328→
    Calls Tryz.prog 65 #[.pointer (some ⟨wb,0,none⟩), .agg #[.int .u8 c.k, .int .i64 c.n, .string c.s, .slice c.la c.ll c.lc, .slice c.oa c.ol c.oc]] w fun e w'=>e= .returned (.tuple #[])∧∃v',Wr w' B wb v' (bs++encV x)∧WStep w w' wb v v'
set_option maxHeartbeats 8000000 in
set_option maxRecDepth 100000 in
theorem valueW_any (x:V):valueWP x:=by
  induction x using V.ind with
  |h k n s l o ihl iho=>
  have IHL:=Lib.hid ihl;have IHO:=Lib.hid iho;clear ihl iho
  intro w B wb v bs c h hx hsz
  obtain ⟨rfl,rfl,rfl,cbd,hl,ho⟩:=hx.lists
  have HL:=Lib.hid hl;have HO:=Lib.hid ho;have H0:=Lib.hid h
  have c1:=cbd.l1;have c2:=cbd.l2;have c3:=cbd.o1;have c4:=cbd.o2;have c5:=cbd.s1;have c6:=cbd.l3;have c7:=cbd.o3;have k0:=cbd.k0;have k1:=cbd.k1;have n0:=cbd.n0;have n1:=cbd.n1
  have el:=hl.len;have eo:=ho.len
  have wx:=WB.start h c 28
  have hB:=h.base;have hlt:=h.lt
  clear hl ho hx cbd h
  by_cases e12:c.k=1∨c.k=2
  · have he:encV (.mk c.k c.n c.s l o)=be (c.k % 18446744073709551616).toNat 1++be (c.n % 18446744073709551616).toNat 8:=by rw [encV,if_pos e12]
    rw [he,List.length_append,be_length,be_length] at hsz
    rw [he]
    clear he el eo
    rcases e12 with e1|e1
    · have f1:(c.k==1)=true:=by simp [e1]
      clear e1
      go_enter Tryz.func65,Tryz.ntmps65
      go_wp2_with (first|(go_at_call 63;refine (layU8_any c.k 1 (by omega) _ B wb _ _ wx.wrt ?_).mono ?_;(focus (omega));rintro e w2 ⟨rfl,v2,hr2,hs2⟩;replace wx:=wx.next hr2 hs2;have y0:=wx.at_.c0;have y1:=wx.at_.c1;have y2:=wx.at_.c2;have y3:=wx.at_.c3;have y4:=wx.at_.c4)|(go_at_call 99;refine (layI64_any c.n 8 (by omega) _ B wb _ _ wx.wrt ?_).mono ?_;(focus (rw [List.length_append,be_length];omega));rintro e w2 ⟨rfl,v2,hr2,hs2⟩;replace wx:=wx.next hr2 hs2;have y0:=wx.at_.c0;have y1:=wx.at_.c1;have y2:=wx.at_.c2;have y3:=wx.at_.c3;have y4:=wx.at_.c4))
      go_returns
      exact ⟨rfl,_,by rw [←List.append_assoc];exact wx.wrt,wx.st⟩
    · have f1:(c.k==1)=false:=by simp [e1]
      have f2:(c.k==2)=true:=by simp [e1]
      clear e1
      go_enter Tryz.func65,Tryz.ntmps65
      go_wp2_with (first|(go_at_call 63;refine (layU8_any c.k 1 (by omega) _ B wb _ _ wx.wrt ?_).mono ?_;(focus (omega));rintro e w2 ⟨rfl,v2,hr2,hs2⟩;replace wx:=wx.next hr2 hs2;have y0:=wx.at_.c0;have y1:=wx.at_.c1;have y2:=wx.at_.c2;have y3:=wx.at_.c3;have y4:=wx.at_.c4)|(go_at_call 99;refine (layI64_any c.n 8 (by omega) _ B wb _ _ wx.wrt ?_).mono ?_;(focus (rw [List.length_append,be_length];omega));rintro e w2 ⟨rfl,v2,hr2,hs2⟩;replace wx:=wx.next hr2 hs2;have y0:=wx.at_.c0;have y1:=wx.at_.c1;have y2:=wx.at_.c2;have y3:=wx.at_.c3;have y4:=wx.at_.c4))
      go_returns
      exact ⟨rfl,_,by rw [←List.append_assoc];exact wx.wrt,wx.st⟩
  have e1:¬c.k=1:=fun e=>e12 (.inl e)
  have e2:¬c.k=2:=fun e=>e12 (.inr e)
  have f1:(c.k==1)=false:=by simp [e1]
  have f2:(c.k==2)=false:=by simp [e2]
  clear e1 e2
  by_cases e3:c.k=3
  · have he:encV (.mk c.k c.n c.s l o)=be (c.k % 18446744073709551616).toNat 1++encS c.s:=by rw [encV,if_neg e12,if_pos e3]
    rw [he,List.length_append,be_length] at hsz
    rw [he]
    have f3:(c.k==3)=true:=by simp [e3]
    clear he el eo e3 e12
    go_enter Tryz.func65,Tryz.ntmps65
    go_wp2_with (first|(go_at_call 63;refine (layU8_any c.k 1 (by omega) _ B wb _ _ wx.wrt ?_).mono ?_;(focus (omega));rintro e w2 ⟨rfl,v2,hr2,hs2⟩;replace wx:=wx.next hr2 hs2;have y0:=wx.at_.c0;have y1:=wx.at_.c1;have y2:=wx.at_.c2;have y3:=wx.at_.c3;have y4:=wx.at_.c4)|(go_at_call 100;refine (text_any c.s _ B wb _ _ wx.wrt ?_).mono ?_;(focus (rw [List.length_append,be_length];omega));rintro e w2 ⟨rfl,v2,hr2,hs2⟩;replace wx:=wx.next hr2 hs2;have y0:=wx.at_.c0;have y1:=wx.at_.c1;have y2:=wx.at_.c2;have y3:=wx.at_.c3;have y4:=wx.at_.c4))
    go_returns
    exact ⟨rfl,_,by rw [←List.append_assoc];exact wx.wrt,wx.st⟩
  have f3:(c.k==3)=false:=by simp [e3]
  by_cases e4:c.k=4
  · have he:encV (.mk c.k c.n c.s l o)=be (c.k % 18446744073709551616).toNat 1++(be l.length 4++encL l):=by rw [encV,if_neg e12,if_neg e3,if_pos e4]
    rw [he,List.length_append,List.length_append,be_length,be_length] at hsz
    rw [he]
    have f4:(c.k==4)=true:=by simp [e4]
    have ell:be ((c.ll:Int) % 18446744073709551616).toNat 4=be l.length 4:=by rw [len_mod _ (by omega),el]
    have ELL:=Lib.hid ell
    have EL:=Lib.hid el
    clear he el eo e3 e12 e4 ell
    obtain ⟨ck,cn,cs,la,ll,lc,oa,ol,oc⟩:=c
    dsimp only at*
    go_enter Tryz.func65,Tryz.ntmps65
    go_wp2_with (first|(go_at_call 63;refine (layU8_any ck 1 (by omega) _ B wb _ _ wx.wrt ?_).mono ?_;(focus (omega));rintro e w2 ⟨rfl,v2,hr2,hs2⟩;replace wx:=wx.next hr2 hs2;have y0:=wx.at_.c0;have y1:=wx.at_.c1;have y2:=wx.at_.c2;have y3:=wx.at_.c3;have y4:=wx.at_.c4)|(go_at_call 66;refine (layInt_any (ll:Int) 4 (by omega) _ B wb _ _ wx.wrt ?_).mono ?_;(focus (rw [List.length_append,be_length];omega));rintro e w2 ⟨rfl,v2,hr2,hs2⟩;replace wx:=wx.next hr2 hs2;have y0:=wx.at_.c0;have y1:=wx.at_.c1;have y2:=wx.at_.c2;have y3:=wx.at_.c3;have y4:=wx.at_.c4))
    obtain ⟨PRE,hPRE⟩:∃PRE,bs++be (ck % 18446744073709551616).toNat 1++be ((ll:Int) % 18446744073709551616).toNat 4=PRE:=⟨_,rfl⟩
    rw [hPRE] at wx
    have hPL:PRE.length+(encL l).length≤140737488355328:=by rw [←hPRE,List.length_append,List.length_append,be_length,be_length];omega
    have hPE:PRE=bs++be (ck % 18446744073709551616).toNat 1++be l.length 4:=by rw [←hPRE,ELL.out]
    have HPE:=Lib.hid hPE
    clear hr2 hs2 hPRE hPE y0 y1 y2 y3 y4
    go_loopw [37,5] (fun i _ wr=>∃(k:Nat) (u:Value),k≤ll∧i= .int .i64 k∧WB w wr B wb w.heap.size v u (PRE++encL (l.take k)) ⟨ck,cn,cs,la,ll,lc,oa,ol,oc⟩) (fun i _ _=>ll - (intOf i).toNat)
    case atStart=>exact ⟨0,v2,Nat.zero_le _,rfl,by simpa [encL] using wx⟩
    case round=>
      clear wx
      obtain ⟨k,u,hk,rfl,wx⟩:=hrel
      have y3:=wx.at_.c3
      by_cases hlt2:k<ll
      · obtain ⟨b,o',f,kl,rfl,hb,x1,xv⟩:=HL.out.get hlt2
        have hbW:=H0.out.keeps wx.st
        have x1:=x1.keep hbW hb
        have r0:=x1.c0;have r1:=x1.c1;have r2:=x1.c2;have r3:=x1.c3;have r4:=x1.c4
        have hle:=encL_le l (k+1)
        have ht:=encL_take l k kl
        have hlen:(PRE++encL (l.take k)).length+(encV l[k]).length≤140737488355328:=by
          rw [ht,List.length_append] at hle;rw [List.length_append];omega
        have HI:Hid (∀W,Below wr.heap.size wr W→Calls Tryz.prog 65 #[.pointer (some ⟨wb,0,none⟩), .agg #[.int .u8 f.k, .int .i64 f.n, .string f.s, .slice f.la f.ll f.lc, .slice f.oa f.ol f.oc]] W fun e w'=>e= .returned (.tuple #[])∧∃v',Wr w' B wb v' (PRE++encL (l.take (k+1)))∧WStep W w' wb u v'):=by
          intro W hW
          have hBw:B≤wr.heap.size:=Nat.le_trans hB (Nat.le_of_lt wx.wrt.lt)
          have:=IHL.out l[k] (List.getElem_mem kl) W B wb u _ f (wx.wrt.of_below hW) (xv.keep (hbW.trans (hW.mono hBw))) hlen
          rw [ht, ←List.append_assoc];exact this
        clear x1 xv hle ht hlen hbW
        go_wp2_with (go_at_call 65;refine (HI.out _ (by go_grown)).mono ?_;rintro e w2 ⟨rfl,v3,hr3,hs3⟩)
        go_roundw
        case rel=>exact ⟨k+1,v3,by omega,by go_num,(wx.behind (by go_grown)).next hr3 hs3⟩
        case measure=>simp [intOf];omega
      · go_wp2_with fail
        go_returns
        exact ⟨rfl,u,by rw [←List.append_assoc, ←List.append_assoc, ←HPE.out];have:=wx.wrt;rwa [List.take_of_length_le (by have:=EL.out;omega)] at this,wx.st⟩
  have f4:(c.k==4)=false:=by simp [e4]
  by_cases e5:c.k=5
  · have he:encV (.mk c.k c.n c.s l o)=be (c.k % 18446744073709551616).toNat 1++(be o.length 4++encO o):=by rw [encV,if_neg e12,if_neg e3,if_neg e4,if_pos e5]
    rw [he,List.length_append,List.length_append,be_length,be_length] at hsz
    rw [he]
    have f5:(c.k==5)=true:=by simp [e5]
    have ell:be ((c.ol:Int) % 18446744073709551616).toNat 4=be o.length 4:=by rw [len_mod _ (by omega),eo]
    have ELL:=Lib.hid ell
    have EL:=Lib.hid eo
    clear he el eo e3 e12 e4 e5 ell
    obtain ⟨ck,cn,cs,la,ll,lc,oa,ol,oc⟩:=c
    dsimp only at*
    go_enter Tryz.func65,Tryz.ntmps65
    go_wp2_with (first|(go_at_call 63;refine (layU8_any ck 1 (by omega) _ B wb _ _ wx.wrt ?_).mono ?_;(focus (omega));rintro e w2 ⟨rfl,v2,hr2,hs2⟩;replace wx:=wx.next hr2 hs2;have y0:=wx.at_.c0;have y1:=wx.at_.c1;have y2:=wx.at_.c2;have y3:=wx.at_.c3;have y4:=wx.at_.c4)|(go_at_call 66;refine (layInt_any (ol:Int) 4 (by omega) _ B wb _ _ wx.wrt ?_).mono ?_;(focus (rw [List.length_append,be_length];omega));rintro e w2 ⟨rfl,v2,hr2,hs2⟩;replace wx:=wx.next hr2 hs2;have y0:=wx.at_.c0;have y1:=wx.at_.c1;have y2:=wx.at_.c2;have y3:=wx.at_.c3;have y4:=wx.at_.c4))
    obtain ⟨PRE,hPRE⟩:∃PRE,bs++be (ck % 18446744073709551616).toNat 1++be ((ol:Int) % 18446744073709551616).toNat 4=PRE:=⟨_,rfl⟩
    rw [hPRE] at wx
    have hPL:PRE.length+(encO o).length≤140737488355328:=by rw [←hPRE,List.length_append,List.length_append,be_length,be_length];omega
    have hPE:PRE=bs++be (ck % 18446744073709551616).toNat 1++be o.length 4:=by rw [←hPRE,ELL.out]
    have HPE:=Lib.hid hPE
    clear hr2 hs2 hPRE hPE y0 y1 y2 y3 y4
    go_loopw [55,7] (fun i _ wr=>∃(k:Nat) (u:Value),k≤ol∧i= .int .i64 k∧WB w wr B wb w.heap.size v u (PRE++encO (o.take k)) ⟨ck,cn,cs,la,ll,lc,oa,ol,oc⟩) (fun i _ _=>ol - (intOf i).toNat)
    case atStart=>exact ⟨0,v2,Nat.zero_le _,rfl,by simpa [encO] using wx⟩
    case round=>
      clear wx
      obtain ⟨k,u,hk,rfl,wx⟩:=hrel
      have y4:=wx.at_.c4
      by_cases hlt2:k<ol
      · obtain ⟨b,o',f,kl,rfl,hb,g1,gk,x1,xv⟩:=HO.out.get hlt2
        have hbW:=H0.out.keeps wx.st
        have hBw:B≤wr.heap.size:=Nat.le_trans hB (Nat.le_of_lt wx.wrt.lt)
        have x1:=x1.keep hbW hb
        have xv:=xv.keep hbW
        have g0:=keep_cell hbW g1 hb
        have r0:=x1.c0;have r1:wr.cell? ⟨b,o'+k*6+2,none⟩=_:=x1.c1;have r2:wr.cell? ⟨b,o'+k*6+3,none⟩=_:=x1.c2;have r3:wr.cell? ⟨b,o'+k*6+4,none⟩=_:=x1.c3;have r4:wr.cell? ⟨b,o'+k*6+5,none⟩=_:=x1.c4
        have hle:=encO_le o (k+1)
        have ht:=encO_take o k kl
        have hlen1:(PRE++encO (o.take k)).length+(encS o[k].1).length≤140737488355328:=by
          rw [ht,List.length_append,List.length_append] at hle;rw [List.length_append];omega
        have hlen2:(PRE++encO (o.take k)++encS o[k].1).length+(encV o[k].2).length≤140737488355328:=by
          rw [ht,List.length_append,List.length_append] at hle;rw [List.length_append,List.length_append];omega
        have HT:=Lib.hid ht
        have hwz:wr.heap.size≠wb:=by have:=wx.wrt.lt;omega
        have hwo:u.ownBlock≠some wr.heap.size:=fun e=>by have:=(wx.wrt.lo _ e).2;omega
        clear hle ht g1
        go_wp2_with (first|(go_at_call 100;refine (text_any o[k].1 _ B wb _ _ (wx.wrt.of_below (by go_grown)) hlen1).mono ?_;rintro e w3 ⟨rfl,v3,hr3,hs3⟩;have hb3:Below B wr w3:=wx.wrt.keeps ((WStep.of_below wb u (by go_grown)).trans hs3);have q1:=hs3.far (b:=wr.heap.size) (o:=1) (cells_new _ _ _ 1 _ rfl) hwz hwo;have q2:=hs3.far (b:=wr.heap.size) (o:=2) (cells_new _ _ _ 2 _ rfl) hwz hwo;have q3:=hs3.far (b:=wr.heap.size) (o:=3) (cells_new _ _ _ 3 _ rfl) hwz hwo;have q4:=hs3.far (b:=wr.heap.size) (o:=4) (cells_new _ _ _ 4 _ rfl) hwz hwo;have q5:=hs3.far (b:=wr.heap.size) (o:=5) (cells_new _ _ _ 5 _ rfl) hwz hwo)|(go_at_call 65;refine (IHO.out o[k] (List.getElem_mem kl) _ B wb v3 _ f hr3 (xv.keep hb3) hlen2).mono ?_;rintro e w4 ⟨rfl,v4,hr4,hs4⟩))
        go_roundw
        case rel=>exact ⟨k+1,v4,by omega,by go_num,by rw [HT.out, ←List.append_assoc, ←List.append_assoc];exact ((wx.behind (by go_grown)).next hr3 hs3).next hr4 hs4⟩
        case measure=>simp [intOf];omega
      · go_wp2_with fail
        go_returns
        exact ⟨rfl,u,by rw [←List.append_assoc, ←List.append_assoc, ←HPE.out];have:=wx.wrt;rwa [List.take_of_length_le (by have:=EL.out;omega)] at this,wx.st⟩
  have f5:(c.k==5)=false:=by simp [e5]
  have he:encV (.mk c.k c.n c.s l o)=be (c.k % 18446744073709551616).toNat 1:=by rw [encV,if_neg e12,if_neg e3,if_neg e4,if_neg e5,List.append_nil]
  rw [he,be_length] at hsz
  rw [he]
  clear he el eo e3 e12 e4 e5
  go_enter Tryz.func65,Tryz.ntmps65
  go_wp2_with (go_at_call 63;refine (layU8_any c.k 1 (by omega) _ B wb _ _ wx.wrt ?_).mono ?_;(focus (omega));rintro e w2 ⟨rfl,v2,hr2,hs2⟩;replace wx:=wx.next hr2 hs2;have y0:=wx.at_.c0;have y1:=wx.at_.c1;have y2:=wx.at_.c2;have y3:=wx.at_.c3;have y4:=wx.at_.c4)
  go_returns
  exact ⟨rfl,_,wx.wrt,wx.st⟩
end Go.Proofs.YthceefjafklcmaaGreatDoor
namespace Go.Proofs.YthceefjafklcmaaGreatDoor
open Go.RowKit
theorem u64_id (x:Int) (h0:0≤x) (h1:x<18446744073709551616):IntKind.u64.wrap x=x:=by
  simp [IntKind.wrap,IntKind.bits,IntKind.signed];omega
theorem number1_any (x:Int) (hx0:0≤x) (hx1:x<18446744073709551616) (w:World) (B wb:Nat) (v:Value) (bs:List UInt8) (h:Wr w B wb v bs) (hsz:bs.length+1≤140737488355328):
    Calls Tryz.prog 81 #[.pointer (some ⟨wb,0,none⟩), .int .u64 x, .int .i64 1] w fun e w'=>e= .returned (.tuple #[])∧∃v',Wr w' B wb v' (bs++be (x % 18446744073709551616).toNat 1)∧WStep w w' wb v v':=
  number_any x hx0 hx1 1 (by omega) w B wb v bs h hsz
theorem number4_any (x:Int) (hx0:0≤x) (hx1:x<18446744073709551616) (w:World) (B wb:Nat) (v:Value) (bs:List UInt8) (h:Wr w B wb v bs) (hsz:bs.length+4≤140737488355328):
    Calls Tryz.prog 81 #[.pointer (some ⟨wb,0,none⟩), .int .u64 x, .int .i64 4] w fun e w'=>e= .returned (.tuple #[])∧∃v',Wr w' B wb v' (bs++be (x % 18446744073709551616).toNat 4)∧WStep w w' wb v v':=
  number_any x hx0 hx1 4 (by omega) w B wb v bs h hsz
theorem number8_any (x:Int) (hx0:0≤x) (hx1:x<18446744073709551616) (w:World) (B wb:Nat) (v:Value) (bs:List UInt8) (h:Wr w B wb v bs) (hsz:bs.length+8≤140737488355328):
    Calls Tryz.prog 81 #[.pointer (some ⟨wb,0,none⟩), .int .u64 x, .int .i64 8] w fun e w'=>e= .returned (.tuple #[])∧∃v',Wr w' B wb v' (bs++be (x % 18446744073709551616).toNat 8)∧WStep w w' wb v v':=
  number_any x hx0 hx1 8 (by omega) w B wb v bs h hsz
theorem number8m_any (x:Int) (w:World) (B wb:Nat) (v:Value) (bs:List UInt8) (h:Wr w B wb v bs) (hsz:bs.length+8≤140737488355328):
    Calls Tryz.prog 81 #[.pointer (some ⟨wb,0,none⟩), .int .u64 (x % 18446744073709551616), .int .i64 8] w fun e w'=>e= .returned (.tuple #[])∧∃v',Wr w' B wb v' (bs++be (x % 18446744073709551616).toNat 8)∧WStep w w' wb v v':=by
  have:=number8_any (x % 18446744073709551616) (by omega) (by omega) w B wb v bs h hsz
  rwa [Int.emod_emod] at this
theorem u64_emod (x:Int):IntKind.u64.wrap x=x % 18446744073709551616:=by
  simp [IntKind.wrap,IntKind.bits,IntKind.signed]
def refValueWP (x:V):Prop:=∀(w:World) (B wb:Nat) (v:Value) (bs:List UInt8) (c:VC),Wr w B wb v bs→IsVal w B x c→bs.length+(encV x).length≤140737488355328→
    Calls Tryz.prog 82 #[.pointer (some ⟨wb,0,none⟩), .agg #[.int .u8 c.k, .int .i64 c.n, .string c.s, .slice c.la c.ll c.lc, .slice c.oa c.ol c.oc]] w fun e w'=>e= .returned (.tuple #[])∧∃v',Wr w' B wb v' (bs++encV x)∧WStep w w' wb v v'
set_option maxHeartbeats 8000000 in
set_option maxRecDepth 100000 in
theorem refValueW_any (x:V):refValueWP x:=by
  induction x using V.ind with
  |h k n s l o ihl iho=>
  have IHL:=Lib.hid ihl;have IHO:=Lib.hid iho;clear ihl iho
  intro w B wb v bs c h hx hsz
  obtain ⟨rfl,rfl,rfl,cbd,hl,ho⟩:=hx.lists
  have HL:=Lib.hid hl;have HO:=Lib.hid ho;have H0:=Lib.hid h
  have c1:=cbd.l1;have c2:=cbd.l2;have c3:=cbd.o1;have c4:=cbd.o2;have c5:=cbd.s1;have c6:=cbd.l3;have c7:=cbd.o3;have k0:=cbd.k0;have k1:=cbd.k1;have n0:=cbd.n0;have n1:=cbd.n1
  have el:=hl.len;have eo:=ho.len
  have wx:=WB.start h c 28
  have hB:=h.base;have hlt:=h.lt
  clear hl ho hx cbd h
  have u1:IntKind.u64.wrap c.k=c.k:=u64_id _ (by omega) (by omega)
  have u2:IntKind.u64.wrap c.n=c.n % 18446744073709551616:=u64_emod _
  have u3:IntKind.u64.wrap (c.ll:Int)=(c.ll:Int):=u64_id _ (by omega) (by omega)
  have u4:IntKind.u64.wrap (c.ol:Int)=(c.ol:Int):=u64_id _ (by omega) (by omega)
  by_cases e12:c.k=1∨c.k=2
  · have he:encV (.mk c.k c.n c.s l o)=be (c.k % 18446744073709551616).toNat 1++be (c.n % 18446744073709551616).toNat 8:=by rw [encV,if_pos e12]
    rw [he,List.length_append,be_length,be_length] at hsz
    rw [he]
    clear he el eo
    rcases e12 with e1|e1
    · have f1:(c.k==1)=true:=by simp [e1]
      clear e1
      go_enter Tryz.func82,Tryz.ntmps82
      go_wp2_with (first|(go_at_call 81;(with_reducible refine (number1_any c.k ?_ ?_ _ B wb _ _ wx.wrt ?_).mono ?_);(focus omega);(focus omega);(focus (omega));rintro e w2 ⟨rfl,v2,hr2,hs2⟩;replace wx:=wx.next hr2 hs2;have y0:=wx.at_.c0;have y1:=wx.at_.c1;have y2:=wx.at_.c2;have y3:=wx.at_.c3;have y4:=wx.at_.c4)|(go_at_call 81;(with_reducible refine (number8m_any c.n _ B wb _ _ wx.wrt ?_).mono ?_);(focus (rw [List.length_append,be_length];omega));rintro e w2 ⟨rfl,v2,hr2,hs2⟩;replace wx:=wx.next hr2 hs2;have y0:=wx.at_.c0;have y1:=wx.at_.c1;have y2:=wx.at_.c2;have y3:=wx.at_.c3;have y4:=wx.at_.c4))
      go_returns
      exact ⟨rfl,_,by rw [←List.append_assoc];exact wx.wrt,wx.st⟩
    · have f1:(c.k==1)=false:=by simp [e1]
      have f2:(c.k==2)=true:=by simp [e1]
      clear e1
      go_enter Tryz.func82,Tryz.ntmps82
      go_wp2_with (first|(go_at_call 81;(with_reducible refine (number1_any c.k ?_ ?_ _ B wb _ _ wx.wrt ?_).mono ?_);(focus omega);(focus omega);(focus (omega));rintro e w2 ⟨rfl,v2,hr2,hs2⟩;replace wx:=wx.next hr2 hs2;have y0:=wx.at_.c0;have y1:=wx.at_.c1;have y2:=wx.at_.c2;have y3:=wx.at_.c3;have y4:=wx.at_.c4)|(go_at_call 81;(with_reducible refine (number8m_any c.n _ B wb _ _ wx.wrt ?_).mono ?_);(focus (rw [List.length_append,be_length];omega));rintro e w2 ⟨rfl,v2,hr2,hs2⟩;replace wx:=wx.next hr2 hs2;have y0:=wx.at_.c0;have y1:=wx.at_.c1;have y2:=wx.at_.c2;have y3:=wx.at_.c3;have y4:=wx.at_.c4))
      go_returns
      exact ⟨rfl,_,by rw [←List.append_assoc];exact wx.wrt,wx.st⟩
  have e1:¬c.k=1:=fun e=>e12 (.inl e)
  have e2:¬c.k=2:=fun e=>e12 (.inr e)
  have f1:(c.k==1)=false:=by simp [e1]
  have f2:(c.k==2)=false:=by simp [e2]
  clear e1 e2
  by_cases e3:c.k=3
  · have he:encV (.mk c.k c.n c.s l o)=be (c.k % 18446744073709551616).toNat 1++encS c.s:=by rw [encV,if_neg e12,if_pos e3]
    rw [he,List.length_append,be_length] at hsz
    rw [he]
    have f3:(c.k==3)=true:=by simp [e3]
    clear he el eo e3 e12
    go_enter Tryz.func82,Tryz.ntmps82
    go_wp2_with (first|(go_at_call 81;(with_reducible refine (number1_any c.k ?_ ?_ _ B wb _ _ wx.wrt ?_).mono ?_);(focus omega);(focus omega);(focus (omega));rintro e w2 ⟨rfl,v2,hr2,hs2⟩;replace wx:=wx.next hr2 hs2;have y0:=wx.at_.c0;have y1:=wx.at_.c1;have y2:=wx.at_.c2;have y3:=wx.at_.c3;have y4:=wx.at_.c4)|(go_at_call 105;(with_reducible refine (refText_any c.s _ B wb _ _ wx.wrt ?_).mono ?_);(focus (rw [List.length_append,be_length];omega));rintro e w2 ⟨rfl,v2,hr2,hs2⟩;replace wx:=wx.next hr2 hs2;have y0:=wx.at_.c0;have y1:=wx.at_.c1;have y2:=wx.at_.c2;have y3:=wx.at_.c3;have y4:=wx.at_.c4))
    go_returns
    exact ⟨rfl,_,by rw [←List.append_assoc];exact wx.wrt,wx.st⟩
  have f3:(c.k==3)=false:=by simp [e3]
  by_cases e4:c.k=4
  · have he:encV (.mk c.k c.n c.s l o)=be (c.k % 18446744073709551616).toNat 1++(be l.length 4++encL l):=by rw [encV,if_neg e12,if_neg e3,if_pos e4]
    rw [he,List.length_append,List.length_append,be_length,be_length] at hsz
    rw [he]
    have f4:(c.k==4)=true:=by simp [e4]
    have ell:be ((c.ll:Int) % 18446744073709551616).toNat 4=be l.length 4:=by rw [len_mod _ (by omega),el]
    have ELL:=Lib.hid ell
    have EL:=Lib.hid el
    clear he el eo e3 e12 e4 ell
    obtain ⟨ck,cn,cs,la,ll,lc,oa,ol,oc⟩:=c
    dsimp only at*
    go_enter Tryz.func82,Tryz.ntmps82
    go_wp2_with (first|(go_at_call 81;(with_reducible refine (number1_any ck ?_ ?_ _ B wb _ _ wx.wrt ?_).mono ?_);(focus omega);(focus omega);(focus (omega));rintro e w2 ⟨rfl,v2,hr2,hs2⟩;replace wx:=wx.next hr2 hs2;have y0:=wx.at_.c0;have y1:=wx.at_.c1;have y2:=wx.at_.c2;have y3:=wx.at_.c3;have y4:=wx.at_.c4)|(go_at_call 81;(with_reducible refine (number4_any (ll:Int) ?_ ?_ _ B wb _ _ wx.wrt ?_).mono ?_);(focus omega);(focus omega);(focus (rw [List.length_append,be_length];omega));rintro e w2 ⟨rfl,v2,hr2,hs2⟩;replace wx:=wx.next hr2 hs2;have y0:=wx.at_.c0;have y1:=wx.at_.c1;have y2:=wx.at_.c2;have y3:=wx.at_.c3;have y4:=wx.at_.c4))
    obtain ⟨PRE,hPRE⟩:∃PRE,bs++be (ck % 18446744073709551616).toNat 1++be ((ll:Int) % 18446744073709551616).toNat 4=PRE:=⟨_,rfl⟩
    rw [hPRE] at wx
    have hPL:PRE.length+(encL l).length≤140737488355328:=by rw [←hPRE,List.length_append,List.length_append,be_length,be_length];omega
    have hPE:PRE=bs++be (ck % 18446744073709551616).toNat 1++be l.length 4:=by rw [←hPRE,ELL.out]
    have HPE:=Lib.hid hPE
    clear hr2 hs2 hPRE hPE y0 y1 y2 y3 y4
    go_loopw [4] (fun i wr=>∃(k:Nat) (u:Value),k≤ll∧i= .int .i64 k∧WB w wr B wb w.heap.size v u (PRE++encL (l.take k)) ⟨ck,cn,cs,la,ll,lc,oa,ol,oc⟩) (fun i _=>ll - (intOf i).toNat)
    case atStart=>exact ⟨0,v2,Nat.zero_le _,rfl,by simpa [encL] using wx⟩
    case round=>
      clear wx
      obtain ⟨k,u,hk,rfl,wx⟩:=hrel
      have y3:=wx.at_.c3
      by_cases hlt2:k<ll
      · obtain ⟨b,o',f,kl,rfl,hb,x1,xv⟩:=HL.out.get hlt2
        have hbW:=H0.out.keeps wx.st
        have x1:=x1.keep hbW hb
        have r0:=x1.c0;have r1:=x1.c1;have r2:=x1.c2;have r3:=x1.c3;have r4:=x1.c4
        have hle:=encL_le l (k+1)
        have ht:=encL_take l k kl
        have hlen:(PRE++encL (l.take k)).length+(encV l[k]).length≤140737488355328:=by
          rw [ht,List.length_append] at hle;rw [List.length_append];omega
        have HI:Hid (∀W,Below wr.heap.size wr W→Calls Tryz.prog 82 #[.pointer (some ⟨wb,0,none⟩), .agg #[.int .u8 f.k, .int .i64 f.n, .string f.s, .slice f.la f.ll f.lc, .slice f.oa f.ol f.oc]] W fun e w'=>e= .returned (.tuple #[])∧∃v',Wr w' B wb v' (PRE++encL (l.take (k+1)))∧WStep W w' wb u v'):=by
          intro W hW
          have hBw:B≤wr.heap.size:=Nat.le_trans hB (Nat.le_of_lt wx.wrt.lt)
          have:=IHL.out l[k] (List.getElem_mem kl) W B wb u _ f (wx.wrt.of_below hW) (xv.keep (hbW.trans (hW.mono hBw))) hlen
          rw [ht, ←List.append_assoc];exact this
        clear x1 xv hle ht hlen hbW
        go_wp2_with (go_at_call 82;refine (HI.out _ (by go_grown)).mono ?_;rintro e w2 ⟨rfl,v3,hr3,hs3⟩)
        go_roundw
        case rel=>exact ⟨k+1,v3,by omega,by go_num,(wx.behind (by go_grown)).next hr3 hs3⟩
        case measure=>simp [intOf];omega
      · go_wp2_with fail
        go_returns
        exact ⟨rfl,u,by rw [←List.append_assoc, ←List.append_assoc, ←HPE.out];have:=wx.wrt;rwa [List.take_of_length_le (by have:=EL.out;omega)] at this,wx.st⟩
  have f4:(c.k==4)=false:=by simp [e4]
  by_cases e5:c.k=5
  · have he:encV (.mk c.k c.n c.s l o)=be (c.k % 18446744073709551616).toNat 1++(be o.length 4++encO o):=by rw [encV,if_neg e12,if_neg e3,if_neg e4,if_pos e5]
    rw [he,List.length_append,List.length_append,be_length,be_length] at hsz
    rw [he]
    have f5:(c.k==5)=true:=by simp [e5]
    have ell:be ((c.ol:Int) % 18446744073709551616).toNat 4=be o.length 4:=by rw [len_mod _ (by omega),eo]
    have ELL:=Lib.hid ell
    have EL:=Lib.hid eo
    clear he el eo e3 e12 e4 e5 ell
    obtain ⟨ck,cn,cs,la,ll,lc,oa,ol,oc⟩:=c
    dsimp only at*
    go_enter Tryz.func82,Tryz.ntmps82
    go_wp2_with (first|(go_at_call 81;(with_reducible refine (number1_any ck ?_ ?_ _ B wb _ _ wx.wrt ?_).mono ?_);(focus omega);(focus omega);(focus (omega));rintro e w2 ⟨rfl,v2,hr2,hs2⟩;replace wx:=wx.next hr2 hs2;have y0:=wx.at_.c0;have y1:=wx.at_.c1;have y2:=wx.at_.c2;have y3:=wx.at_.c3;have y4:=wx.at_.c4)|(go_at_call 81;(with_reducible refine (number4_any (ol:Int) ?_ ?_ _ B wb _ _ wx.wrt ?_).mono ?_);(focus omega);(focus omega);(focus (rw [List.length_append,be_length];omega));rintro e w2 ⟨rfl,v2,hr2,hs2⟩;replace wx:=wx.next hr2 hs2;have y0:=wx.at_.c0;have y1:=wx.at_.c1;have y2:=wx.at_.c2;have y3:=wx.at_.c3;have y4:=wx.at_.c4))
    obtain ⟨PRE,hPRE⟩:∃PRE,bs++be (ck % 18446744073709551616).toNat 1++be ((ol:Int) % 18446744073709551616).toNat 4=PRE:=⟨_,rfl⟩
    rw [hPRE] at wx
    have hPL:PRE.length+(encO o).length≤140737488355328:=by rw [←hPRE,List.length_append,List.length_append,be_length,be_length];omega
    have hPE:PRE=bs++be (ck % 18446744073709551616).toNat 1++be o.length 4:=by rw [←hPRE,ELL.out]
    have HPE:=Lib.hid hPE
    clear hr2 hs2 hPRE hPE y0 y1 y2 y3 y4
    go_loopw [5] (fun i wr=>∃(k:Nat) (u:Value),k≤ol∧i= .int .i64 k∧WB w wr B wb w.heap.size v u (PRE++encO (o.take k)) ⟨ck,cn,cs,la,ll,lc,oa,ol,oc⟩) (fun i _=>ol - (intOf i).toNat)
    case atStart=>exact ⟨0,v2,Nat.zero_le _,rfl,by simpa [encO] using wx⟩
    case round=>
      clear wx
      obtain ⟨k,u,hk,rfl,wx⟩:=hrel
      have y4:=wx.at_.c4
      by_cases hlt2:k<ol
      · obtain ⟨b,o',f,kl,rfl,hb,g1,gk,x1,xv⟩:=HO.out.get hlt2
        have hbW:=H0.out.keeps wx.st
        have hBw:B≤wr.heap.size:=Nat.le_trans hB (Nat.le_of_lt wx.wrt.lt)
        have x1:=x1.keep hbW hb
        have xv:=xv.keep hbW
        have g0:=keep_cell hbW g1 hb
        have r0:=x1.c0;have r1:wr.cell? ⟨b,o'+k*6+2,none⟩=_:=x1.c1;have r2:wr.cell? ⟨b,o'+k*6+3,none⟩=_:=x1.c2;have r3:wr.cell? ⟨b,o'+k*6+4,none⟩=_:=x1.c3;have r4:wr.cell? ⟨b,o'+k*6+5,none⟩=_:=x1.c4
        have hle:=encO_le o (k+1)
        have ht:=encO_take o k kl
        have hlen1:(PRE++encO (o.take k)).length+(encS o[k].1).length≤140737488355328:=by
          rw [ht,List.length_append,List.length_append] at hle;rw [List.length_append];omega
        have hlen2:(PRE++encO (o.take k)++encS o[k].1).length+(encV o[k].2).length≤140737488355328:=by
          rw [ht,List.length_append,List.length_append] at hle;rw [List.length_append,List.length_append];omega
        have HT:=Lib.hid ht
        have hwz:wr.heap.size≠wb:=by have:=wx.wrt.lt;omega
        have hwo:u.ownBlock≠some wr.heap.size:=fun e=>by have:=(wx.wrt.lo _ e).2;omega
        clear hle ht g1
        go_wp2_with (first|(go_at_call 105;refine (refText_any o[k].1 _ B wb _ _ (wx.wrt.of_below (by go_grown)) hlen1).mono ?_;rintro e w3 ⟨rfl,v3,hr3,hs3⟩;have hb3:Below B wr w3:=wx.wrt.keeps ((WStep.of_below wb u (by go_grown)).trans hs3);have wx3:=(wx.behind (by go_grown)).next hr3 hs3;have y4:=wx3.at_.c4;have x3:=x1.keep hb3 hb;have r0:=x3.c0;have r1:w3.cell? ⟨b,o'+k*6+2,none⟩=_:=x3.c1;have r2:w3.cell? ⟨b,o'+k*6+3,none⟩=_:=x3.c2;have r3:w3.cell? ⟨b,o'+k*6+4,none⟩=_:=x3.c3;have r4:w3.cell? ⟨b,o'+k*6+5,none⟩=_:=x3.c4)|(go_at_call 82;refine (IHO.out o[k] (List.getElem_mem kl) _ B wb v3 _ f hr3 (xv.keep hb3) hlen2).mono ?_;rintro e w4 ⟨rfl,v4,hr4,hs4⟩))
        go_roundw
        case rel=>exact ⟨k+1,v4,by omega,by go_num,by rw [HT.out, ←List.append_assoc, ←List.append_assoc];exact ((wx.behind (by go_grown)).next hr3 hs3).next hr4 hs4⟩
        case measure=>simp [intOf];omega
      · go_wp2_with fail
        go_returns
        exact ⟨rfl,u,by rw [←List.append_assoc, ←List.append_assoc, ←HPE.out];have:=wx.wrt;rwa [List.take_of_length_le (by have:=EL.out;omega)] at this,wx.st⟩
  have f5:(c.k==5)=false:=by simp [e5]
  have he:encV (.mk c.k c.n c.s l o)=be (c.k % 18446744073709551616).toNat 1:=by rw [encV,if_neg e12,if_neg e3,if_neg e4,if_neg e5,List.append_nil]
  rw [he,be_length] at hsz
  rw [he]
  clear he el eo e3 e12 e4 e5
  go_enter Tryz.func82,Tryz.ntmps82
  go_wp2_with (go_at_call 81;(with_reducible refine (number1_any c.k ?_ ?_ _ B wb _ _ wx.wrt ?_).mono ?_);(focus omega);(focus omega);(focus (omega));rintro e w2 ⟨rfl,v2,hr2,hs2⟩;replace wx:=wx.next hr2 hs2;have y0:=wx.at_.c0;have y1:=wx.at_.c1;have y2:=wx.at_.c2;have y3:=wx.at_.c3;have y4:=wx.at_.c4)
  go_returns
  exact ⟨rfl,_,wx.wrt,wx.st⟩
end Go.Proofs.YthceefjafklcmaaGreatDoor
