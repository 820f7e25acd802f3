/-
  Contracts of the functions that the law reaches: Writer.value: a value is written. conciliatorref06.in and says, conciliatorref10.in. conciliatorref10.says. A row of facts as one. writer.step, writer.comp and Writer.comp: a step and a component are written. Writer.comp: a component is written. done; Encode and Value, of the program and of the reference.
-/
import Derived.Test.YtgcfhkceejcliaaGreatDoorEnc1
import Derived.Handy
import Derived.Test.YtgcfhkceejcliaaGreatDoorProg
namespace Go.Proofs.YtgcfhkceejcliaaGreatDoor
open Go.RowKit
theorem u64_id (x:Int) (h0:0≤x) (h1:x<18446744073709551616):IntKind.u64.wrap x=x:=by
  simp [IntKind.wrap,IntKind.bits,IntKind.signed];omega
theorem number1_any (x:Int) (hx0:0≤x) (hx1:x<18446744073709551616) (w:World) (B wb:Nat) (v:Value) (bs:List UInt8) (h:Wr w B wb v bs) (hsz:bs.length+1≤140737488355328):
    Calls Tryz.prog 26 #[.pointer (some ⟨wb,0,none⟩), .int .u64 x, .int .i64 1] w fun e w'=>e= .returned (.tuple #[])∧∃v',Wr w' B wb v' (bs++be (x % 18446744073709551616).toNat 1)∧WStep w w' wb v v':=
  number_any x hx0 hx1 1 (by omega) w B wb v bs h hsz
theorem number4_any (x:Int) (hx0:0≤x) (hx1:x<18446744073709551616) (w:World) (B wb:Nat) (v:Value) (bs:List UInt8) (h:Wr w B wb v bs) (hsz:bs.length+4≤140737488355328):
    Calls Tryz.prog 26 #[.pointer (some ⟨wb,0,none⟩), .int .u64 x, .int .i64 4] w fun e w'=>e= .returned (.tuple #[])∧∃v',Wr w' B wb v' (bs++be (x % 18446744073709551616).toNat 4)∧WStep w w' wb v v':=
  number_any x hx0 hx1 4 (by omega) w B wb v bs h hsz
theorem number8_any (x:Int) (hx0:0≤x) (hx1:x<18446744073709551616) (w:World) (B wb:Nat) (v:Value) (bs:List UInt8) (h:Wr w B wb v bs) (hsz:bs.length+8≤140737488355328):
    Calls Tryz.prog 26 #[.pointer (some ⟨wb,0,none⟩), .int .u64 x, .int .i64 8] w fun e w'=>e= .returned (.tuple #[])∧∃v',Wr w' B wb v' (bs++be (x % 18446744073709551616).toNat 8)∧WStep w w' wb v v':=
  number_any x hx0 hx1 8 (by omega) w B wb v bs h hsz
theorem number8m_any (x:Int) (w:World) (B wb:Nat) (v:Value) (bs:List UInt8) (h:Wr w B wb v bs) (hsz:bs.length+8≤140737488355328):
    Calls Tryz.prog 26 #[.pointer (some ⟨wb,0,none⟩), .int .u64 (x % 18446744073709551616), .int .i64 8] w fun e w'=>e= .returned (.tuple #[])∧∃v',Wr w' B wb v' (bs++be (x % 18446744073709551616).toNat 8)∧WStep w w' wb v v':=by
  have:=number8_any (x % 18446744073709551616) (by omega) (by omega) w B wb v bs h hsz
  rwa [Int.emod_emod] at this
theorem u64_emod (x:Int):IntKind.u64.wrap x=x % 18446744073709551616:=by
  simp [IntKind.wrap,IntKind.bits,IntKind.signed]
def refValueWP (x:V):Prop:=∀(w:World) (B wb:Nat) (v:Value) (bs:List UInt8) (c:VC),Wr w B wb v bs→IsVal w B x c→bs.length+(encV x).length≤140737488355328→
    Calls Tryz.prog 27 #[.pointer (some ⟨wb,0,none⟩), .agg #[.int .u8 c.k, .int .i64 c.n, .string c.s, .slice c.la c.ll c.lc, .slice c.oa c.ol c.oc]] w fun e w'=>e= .returned (.tuple #[])∧∃v',Wr w' B wb v' (bs++encV x)∧WStep w w' wb v v'
set_option maxHeartbeats 8000000 in
set_option maxRecDepth 100000 in
theorem refValueW_any (x:V):refValueWP x:=by
  induction x using V.ind with
  |h k n s l o ihl iho=>
  have IHL:=Lib.hid ihl;have IHO:=Lib.hid iho;clear ihl iho
  intro w B wb v bs c h hx hsz
  obtain ⟨rfl,rfl,rfl,cbd,hl,ho⟩:=hx.lists
  have HL:=Lib.hid hl;have HO:=Lib.hid ho;have H0:=Lib.hid h
  have c1:=cbd.l1;have c2:=cbd.l2;have c3:=cbd.o1;have c4:=cbd.o2;have c5:=cbd.s1;have c6:=cbd.l3;have c7:=cbd.o3;have k0:=cbd.k0;have k1:=cbd.k1;have n0:=cbd.n0;have n1:=cbd.n1
  have el:=hl.len;have eo:=ho.len
  have wx:=WB.start h c 33
  have hB:=h.base;have hlt:=h.lt
  clear hl ho hx cbd h
  have u1:IntKind.u64.wrap c.k=c.k:=u64_id _ (by omega) (by omega)
  have u2:IntKind.u64.wrap c.n=c.n % 18446744073709551616:=u64_emod _
  have u3:IntKind.u64.wrap (c.ll:Int)=(c.ll:Int):=u64_id _ (by omega) (by omega)
  have u4:IntKind.u64.wrap (c.ol:Int)=(c.ol:Int):=u64_id _ (by omega) (by omega)
  by_cases e12:c.k=1∨c.k=2
  · have he:encV (.mk c.k c.n c.s l o)=be (c.k % 18446744073709551616).toNat 1++be (c.n % 18446744073709551616).toNat 8:=by rw [encV,if_pos e12]
    rw [he,List.length_append,be_length,be_length] at hsz
    rw [he]
    clear he el eo
    rcases e12 with e1|e1
    · have f1:(c.k==1)=true:=by simp [e1]
      clear e1
      go_enter Tryz.func27,Tryz.ntmps27
      go_wp2_with (first|(go_at_call 26;(with_reducible refine (number1_any c.k ?_ ?_ _ B wb _ _ wx.wrt ?_).mono ?_);(focus omega);(focus omega);(focus (omega));rintro e w2 ⟨rfl,v2,hr2,hs2⟩;replace wx:=wx.next hr2 hs2;have y0:=wx.at_.c0;have y1:=wx.at_.c1;have y2:=wx.at_.c2;have y3:=wx.at_.c3;have y4:=wx.at_.c4)|(go_at_call 26;(with_reducible refine (number8m_any c.n _ B wb _ _ wx.wrt ?_).mono ?_);(focus (rw [List.length_append,be_length];omega));rintro e w2 ⟨rfl,v2,hr2,hs2⟩;replace wx:=wx.next hr2 hs2;have y0:=wx.at_.c0;have y1:=wx.at_.c1;have y2:=wx.at_.c2;have y3:=wx.at_.c3;have y4:=wx.at_.c4))
      go_returns
      exact ⟨rfl,_,by rw [←List.append_assoc];exact wx.wrt,wx.st⟩
    · have f1:(c.k==1)=false:=by simp [e1]
      have f2:(c.k==2)=true:=by simp [e1]
      clear e1
      go_enter Tryz.func27,Tryz.ntmps27
      go_wp2_with (first|(go_at_call 26;(with_reducible refine (number1_any c.k ?_ ?_ _ B wb _ _ wx.wrt ?_).mono ?_);(focus omega);(focus omega);(focus (omega));rintro e w2 ⟨rfl,v2,hr2,hs2⟩;replace wx:=wx.next hr2 hs2;have y0:=wx.at_.c0;have y1:=wx.at_.c1;have y2:=wx.at_.c2;have y3:=wx.at_.c3;have y4:=wx.at_.c4)|(go_at_call 26;(with_reducible refine (number8m_any c.n _ B wb _ _ wx.wrt ?_).mono ?_);(focus (rw [List.length_append,be_length];omega));rintro e w2 ⟨rfl,v2,hr2,hs2⟩;replace wx:=wx.next hr2 hs2;have y0:=wx.at_.c0;have y1:=wx.at_.c1;have y2:=wx.at_.c2;have y3:=wx.at_.c3;have y4:=wx.at_.c4))
      go_returns
      exact ⟨rfl,_,by rw [←List.append_assoc];exact wx.wrt,wx.st⟩
  have e1:¬c.k=1:=fun e=>e12 (.inl e)
  have e2:¬c.k=2:=fun e=>e12 (.inr e)
  have f1:(c.k==1)=false:=by simp [e1]
  have f2:(c.k==2)=false:=by simp [e2]
  clear e1 e2
  by_cases e3:c.k=3
  · have he:encV (.mk c.k c.n c.s l o)=be (c.k % 18446744073709551616).toNat 1++encS c.s:=by rw [encV,if_neg e12,if_pos e3]
    rw [he,List.length_append,be_length] at hsz
    rw [he]
    have f3:(c.k==3)=true:=by simp [e3]
    clear he el eo e3 e12
    go_enter Tryz.func27,Tryz.ntmps27
    go_wp2_with (first|(go_at_call 26;(with_reducible refine (number1_any c.k ?_ ?_ _ B wb _ _ wx.wrt ?_).mono ?_);(focus omega);(focus omega);(focus (omega));rintro e w2 ⟨rfl,v2,hr2,hs2⟩;replace wx:=wx.next hr2 hs2;have y0:=wx.at_.c0;have y1:=wx.at_.c1;have y2:=wx.at_.c2;have y3:=wx.at_.c3;have y4:=wx.at_.c4)|(go_at_call 47;(with_reducible refine (refText_any c.s _ B wb _ _ wx.wrt ?_).mono ?_);(focus (rw [List.length_append,be_length];omega));rintro e w2 ⟨rfl,v2,hr2,hs2⟩;replace wx:=wx.next hr2 hs2;have y0:=wx.at_.c0;have y1:=wx.at_.c1;have y2:=wx.at_.c2;have y3:=wx.at_.c3;have y4:=wx.at_.c4))
    go_returns
    exact ⟨rfl,_,by rw [←List.append_assoc];exact wx.wrt,wx.st⟩
  have f3:(c.k==3)=false:=by simp [e3]
  by_cases e4:c.k=4
  · have he:encV (.mk c.k c.n c.s l o)=be (c.k % 18446744073709551616).toNat 1++(be l.length 4++encL l):=by rw [encV,if_neg e12,if_neg e3,if_pos e4]
    rw [he,List.length_append,List.length_append,be_length,be_length] at hsz
    rw [he]
    have f4:(c.k==4)=true:=by simp [e4]
    have ell:be ((c.ll:Int) % 18446744073709551616).toNat 4=be l.length 4:=by rw [len_mod _ (by omega),el]
    have ELL:=Lib.hid ell
    have EL:=Lib.hid el
    clear he el eo e3 e12 e4 ell
    obtain ⟨ck,cn,cs,la,ll,lc,oa,ol,oc⟩:=c
    dsimp only at*
    go_enter Tryz.func27,Tryz.ntmps27
    go_wp2_with (first|(go_at_call 26;(with_reducible refine (number1_any ck ?_ ?_ _ B wb _ _ wx.wrt ?_).mono ?_);(focus omega);(focus omega);(focus (omega));rintro e w2 ⟨rfl,v2,hr2,hs2⟩;replace wx:=wx.next hr2 hs2;have y0:=wx.at_.c0;have y1:=wx.at_.c1;have y2:=wx.at_.c2;have y3:=wx.at_.c3;have y4:=wx.at_.c4)|(go_at_call 26;(with_reducible refine (number4_any (ll:Int) ?_ ?_ _ B wb _ _ wx.wrt ?_).mono ?_);(focus omega);(focus omega);(focus (rw [List.length_append,be_length];omega));rintro e w2 ⟨rfl,v2,hr2,hs2⟩;replace wx:=wx.next hr2 hs2;have y0:=wx.at_.c0;have y1:=wx.at_.c1;have y2:=wx.at_.c2;have y3:=wx.at_.c3;have y4:=wx.at_.c4))
    obtain ⟨PRE,hPRE⟩:∃PRE,bs++be (ck % 18446744073709551616).toNat 1++be ((ll:Int) % 18446744073709551616).toNat 4=PRE:=⟨_,rfl⟩
    rw [hPRE] at wx
    have hPL:PRE.length+(encL l).length≤140737488355328:=by rw [←hPRE,List.length_append,List.length_append,be_length,be_length];omega
    have hPE:PRE=bs++be (ck % 18446744073709551616).toNat 1++be l.length 4:=by rw [←hPRE,ELL.out]
    have HPE:=Lib.hid hPE
    clear hr2 hs2 hPRE hPE y0 y1 y2 y3 y4
    go_loopw [4] (fun i wr=>∃(k:Nat) (u:Value),k≤ll∧i= .int .i64 k∧WB w wr B wb w.heap.size v u (PRE++encL (l.take k)) ⟨ck,cn,cs,la,ll,lc,oa,ol,oc⟩) (fun i _=>ll - (intOf i).toNat)
    case atStart=>exact ⟨0,v2,Nat.zero_le _,rfl,by simpa [encL] using wx⟩
    case round=>
      clear wx
      obtain ⟨k,u,hk,rfl,wx⟩:=hrel
      have y3:=wx.at_.c3
      by_cases hlt2:k<ll
      · obtain ⟨b,o',f,kl,rfl,hb,x1,xv⟩:=HL.out.get hlt2
        have hbW:=H0.out.keeps wx.st
        have x1:=x1.keep hbW hb
        have r0:=x1.c0;have r1:=x1.c1;have r2:=x1.c2;have r3:=x1.c3;have r4:=x1.c4
        have hle:=encL_le l (k+1)
        have ht:=encL_take l k kl
        have hlen:(PRE++encL (l.take k)).length+(encV l[k]).length≤140737488355328:=by
          rw [ht,List.length_append] at hle;rw [List.length_append];omega
        have HI:Hid (∀W,Below wr.heap.size wr W→Calls Tryz.prog 27 #[.pointer (some ⟨wb,0,none⟩), .agg #[.int .u8 f.k, .int .i64 f.n, .string f.s, .slice f.la f.ll f.lc, .slice f.oa f.ol f.oc]] W fun e w'=>e= .returned (.tuple #[])∧∃v',Wr w' B wb v' (PRE++encL (l.take (k+1)))∧WStep W w' wb u v'):=by
          intro W hW
          have hBw:B≤wr.heap.size:=Nat.le_trans hB (Nat.le_of_lt wx.wrt.lt)
          have:=IHL.out l[k] (List.getElem_mem kl) W B wb u _ f (wx.wrt.of_below hW) (xv.keep (hbW.trans (hW.mono hBw))) hlen
          rw [ht, ←List.append_assoc];exact this
        clear x1 xv hle ht hlen hbW
        go_wp2_with (go_at_call 27;refine (HI.out _ (by go_grown)).mono ?_;rintro e w2 ⟨rfl,v3,hr3,hs3⟩)
        go_roundw
        case rel=>exact ⟨k+1,v3,by omega,by go_num,(wx.behind (by go_grown)).next hr3 hs3⟩
        case measure=>simp [intOf];omega
      · go_wp2_with fail
        go_returns
        exact ⟨rfl,u,by rw [←List.append_assoc, ←List.append_assoc, ←HPE.out];have:=wx.wrt;rwa [List.take_of_length_le (by have:=EL.out;omega)] at this,wx.st⟩
  have f4:(c.k==4)=false:=by simp [e4]
  by_cases e5:c.k=5
  · have he:encV (.mk c.k c.n c.s l o)=be (c.k % 18446744073709551616).toNat 1++(be o.length 4++encO o):=by rw [encV,if_neg e12,if_neg e3,if_neg e4,if_pos e5]
    rw [he,List.length_append,List.length_append,be_length,be_length] at hsz
    rw [he]
    have f5:(c.k==5)=true:=by simp [e5]
    have ell:be ((c.ol:Int) % 18446744073709551616).toNat 4=be o.length 4:=by rw [len_mod _ (by omega),eo]
    have ELL:=Lib.hid ell
    have EL:=Lib.hid eo
    clear he el eo e3 e12 e4 e5 ell
    obtain ⟨ck,cn,cs,la,ll,lc,oa,ol,oc⟩:=c
    dsimp only at*
    go_enter Tryz.func27,Tryz.ntmps27
    go_wp2_with (first|(go_at_call 26;(with_reducible refine (number1_any ck ?_ ?_ _ B wb _ _ wx.wrt ?_).mono ?_);(focus omega);(focus omega);(focus (omega));rintro e w2 ⟨rfl,v2,hr2,hs2⟩;replace wx:=wx.next hr2 hs2;have y0:=wx.at_.c0;have y1:=wx.at_.c1;have y2:=wx.at_.c2;have y3:=wx.at_.c3;have y4:=wx.at_.c4)|(go_at_call 26;(with_reducible refine (number4_any (ol:Int) ?_ ?_ _ B wb _ _ wx.wrt ?_).mono ?_);(focus omega);(focus omega);(focus (rw [List.length_append,be_length];omega));rintro e w2 ⟨rfl,v2,hr2,hs2⟩;replace wx:=wx.next hr2 hs2;have y0:=wx.at_.c0;have y1:=wx.at_.c1;have y2:=wx.at_.c2;have y3:=wx.at_.c3;have y4:=wx.at_.c4))
    obtain ⟨PRE,hPRE⟩:∃PRE,bs++be (ck % 18446744073709551616).toNat 1++be ((ol:Int) % 18446744073709551616).toNat 4=PRE:=⟨_,rfl⟩
    rw [hPRE] at wx
    have hPL:PRE.length+(encO o).length≤140737488355328:=by rw [←hPRE,List.length_append,List.length_append,be_length,be_length];omega
    have hPE:PRE=bs++be (ck % 18446744073709551616).toNat 1++be o.length 4:=by rw [←hPRE,ELL.out]
    have HPE:=Lib.hid hPE
    clear hr2 hs2 hPRE hPE y0 y1 y2 y3 y4
    go_loopw [5] (fun i wr=>∃(k:Nat) (u:Value),k≤ol∧i= .int .i64 k∧WB w wr B wb w.heap.size v u (PRE++encO (o.take k)) ⟨ck,cn,cs,la,ll,lc,oa,ol,oc⟩) (fun i _=>ol - (intOf i).toNat)
    case atStart=>exact ⟨0,v2,Nat.zero_le _,rfl,by simpa [encO] using wx⟩
    case round=>
      clear wx
      obtain ⟨k,u,hk,rfl,wx⟩:=hrel
      have y4:=wx.at_.c4
      by_cases hlt2:k<ol
      · obtain ⟨b,o',f,kl,rfl,hb,g1,gk,x1,xv⟩:=HO.out.get hlt2
        have hbW:=H0.out.keeps wx.st
        have hBw:B≤wr.heap.size:=Nat.le_trans hB (Nat.le_of_lt wx.wrt.lt)
        have x1:=x1.keep hbW hb
        have xv:=xv.keep hbW
        have g0:=keep_cell hbW g1 hb
        have r0:=x1.c0;have r1:wr.cell? ⟨b,o'+k*6+2,none⟩=_:=x1.c1;have r2:wr.cell? ⟨b,o'+k*6+3,none⟩=_:=x1.c2;have r3:wr.cell? ⟨b,o'+k*6+4,none⟩=_:=x1.c3;have r4:wr.cell? ⟨b,o'+k*6+5,none⟩=_:=x1.c4
        have hle:=encO_le o (k+1)
        have ht:=encO_take o k kl
        have hlen1:(PRE++encO (o.take k)).length+(encS o[k].1).length≤140737488355328:=by
          rw [ht,List.length_append,List.length_append] at hle;rw [List.length_append];omega
        have hlen2:(PRE++encO (o.take k)++encS o[k].1).length+(encV o[k].2).length≤140737488355328:=by
          rw [ht,List.length_append,List.length_append] at hle;rw [List.length_append,List.length_append];omega
        have HT:=Lib.hid ht
        have hwz:wr.heap.size≠wb:=by have:=wx.wrt.lt;omega
        have hwo:u.ownBlock≠some wr.heap.size:=fun e=>by have:=(wx.wrt.lo _ e).2;omega
        clear hle ht g1
        go_wp2_with (first|(go_at_call 47;refine (refText_any o[k].1 _ B wb _ _ (wx.wrt.of_below (by go_grown)) hlen1).mono ?_;rintro e w3 ⟨rfl,v3,hr3,hs3⟩;have hb3:Below B wr w3:=wx.wrt.keeps ((WStep.of_below wb u (by go_grown)).trans hs3);have wx3:=(wx.behind (by go_grown)).next hr3 hs3;have y4:=wx3.at_.c4;have x3:=x1.keep hb3 hb;have r0:=x3.c0;have r1:w3.cell? ⟨b,o'+k*6+2,none⟩=_:=x3.c1;have r2:w3.cell? ⟨b,o'+k*6+3,none⟩=_:=x3.c2;have r3:w3.cell? ⟨b,o'+k*6+4,none⟩=_:=x3.c3;have r4:w3.cell? ⟨b,o'+k*6+5,none⟩=_:=x3.c4)|(go_at_call 27;refine (IHO.out o[k] (List.getElem_mem kl) _ B wb v3 _ f hr3 (xv.keep hb3) hlen2).mono ?_;rintro e w4 ⟨rfl,v4,hr4,hs4⟩))
        go_roundw
        case rel=>exact ⟨k+1,v4,by omega,by go_num,by rw [HT.out, ←List.append_assoc, ←List.append_assoc];exact ((wx.behind (by go_grown)).next hr3 hs3).next hr4 hs4⟩
        case measure=>simp [intOf];omega
      · go_wp2_with fail
        go_returns
        exact ⟨rfl,u,by rw [←List.append_assoc, ←List.append_assoc, ←HPE.out];have:=wx.wrt;rwa [List.take_of_length_le (by have:=EL.out;omega)] at this,wx.st⟩
  have f5:(c.k==5)=false:=by simp [e5]
  have he:encV (.mk c.k c.n c.s l o)=be (c.k % 18446744073709551616).toNat 1:=by rw [encV,if_neg e12,if_neg e3,if_neg e4,if_neg e5,List.append_nil]
  rw [he,be_length] at hsz
  rw [he]
  clear he el eo e3 e12 e4 e5
  go_enter Tryz.func27,Tryz.ntmps27
  go_wp2_with (go_at_call 26;(with_reducible refine (number1_any c.k ?_ ?_ _ B wb _ _ wx.wrt ?_).mono ?_);(focus omega);(focus omega);(focus (omega));rintro e w2 ⟨rfl,v2,hr2,hs2⟩;replace wx:=wx.next hr2 hs2;have y0:=wx.at_.c0;have y1:=wx.at_.c1;have y2:=wx.at_.c2;have y3:=wx.at_.c3;have y4:=wx.at_.c4)
  go_returns
  exact ⟨rfl,_,wx.wrt,wx.st⟩
end Go.Proofs.YtgcfhkceejcliaaGreatDoor
namespace Go.Proofs.YtgcfhkceejcliaaGreatDoor
open Go.RowKit
def hasB (s:ByteArray) (b:Nat):Bool:=s.data.toList.any (fun x=>x.toNat==b)
theorem hasB_yes {s:ByteArray} {b k:Nat} (h:k<s.size) (e:(s[k]'h).toNat=b):hasB s b=true:=by
  unfold hasB;rw [List.any_eq_true]
  exact ⟨s.data.toList[k]'(by simpa using h),List.getElem_mem _,beq_iff_eq.2 e⟩
theorem hasB_no {s:ByteArray} {b:Nat} (h:∀j (hj:j<s.size),(s[j]'hj).toNat≠b):hasB s b=false:=by
  unfold hasB;rw [List.any_eq_false]
  intro x hx
  obtain ⟨j,hj,rfl⟩:=List.getElem_of_mem hx
  have hj':j<s.size:=by simpa using hj
  have h2:¬((s.data.toList[j]'hj).toNat=b):=h j hj'
  simpa using h2
def saysB (k:Int):ByteArray:=
  if k=1 then { data:= #[78] } else
  if k=2 then { data:= #[75,86] } else
  if k=3 then { data:= #[75] } else
  if k=4 then { data:= #[73,86] } else
  if k=5 then { data:= #[73] } else
  if k=6 then { data:= #[73,86] } else
  if k=7 then { data:= #[73,74] } else
  if k=8 then { data:= #[73,83] } else
  if k=9 then { data:= #[73,78] } else
  { data:= #[] }
set_option maxHeartbeats 2000000 in
set_option maxRecDepth 100000 in
theorem in06_any (s:ByteArray) (b:Nat) (w:World) (hs:s.size≤140737488355328):
    Calls Tryz.prog 66 #[.string s, .int .u8 b] w fun e w'=>e= .returned (.bool (hasB s b))∧Below w.heap.size w w':=by
  go_enter Tryz.func66,Tryz.ntmps66
  go_wp2_with fail
  go_loopw [5] (fun i wr=>∃k:Nat,k≤s.size∧i= .int .i64 k∧Hid (∀j,j<k→∀hj:j<s.size,(s[j]'hj).toNat≠b)∧Below w.heap.size w wr) (fun i _=>s.size - (intOf i).toNat)
  case atStart=>exact ⟨0,Nat.zero_le _,rfl,fun j hj=>by omega,Below.refl _ _⟩
  case round=>
    obtain ⟨k,hk,rfl,HJ,hB⟩:=hrel
    by_cases hlt:k<s.size
    · by_cases e:(s[k]'hlt).toNat=b
      · have H:=Lib.hid e
        have f:(((s[k]'hlt).toNat:Int)==(b:Int))=true:=by simp [e]
        clear e
        go_wp2_with fail
        go_ret
        exact ⟨ret_bool (hasB_yes hlt H.out).symm,hB⟩
      · have H:=Lib.hid e
        have f:(((s[k]'hlt).toNat:Int)==(b:Int))=false:=by simp;omega
        clear e
        go_wp2_with fail
        go_roundw
        case rel=>
          refine ⟨k+1,by omega,by go_num,fun j hj hs=> ?_,hB⟩
          by_cases hjk:j=k
          · subst hjk;exact H.out
          · exact HJ.out j (by omega) hs
        case measure=>simp [intOf];omega
    · go_wp2_with fail
      go_ret
      exact ⟨ret_bool (hasB_no (fun j hj=>HJ.out j (by omega) hj)).symm,hB⟩
set_option maxHeartbeats 2000000 in
set_option maxRecDepth 100000 in
theorem in10_any (s:ByteArray) (b:Nat) (w:World) (hs:s.size≤140737488355328):
    Calls Tryz.prog 49 #[.string s, .int .u8 b] w fun e w'=>e= .returned (.bool (hasB s b))∧Below w.heap.size w w':=by
  go_enter Tryz.func49,Tryz.ntmps49
  go_wp2_with fail
  go_loopw [5] (fun i wr=>∃k:Nat,k≤s.size∧i= .int .i64 k∧Hid (∀j,j<k→∀hj:j<s.size,(s[j]'hj).toNat≠b)∧Below w.heap.size w wr) (fun i _=>s.size - (intOf i).toNat)
  case atStart=>exact ⟨0,Nat.zero_le _,rfl,fun j hj=>by omega,Below.refl _ _⟩
  case round=>
    obtain ⟨k,hk,rfl,HJ,hB⟩:=hrel
    by_cases hlt:k<s.size
    · by_cases e:(s[k]'hlt).toNat=b
      · have H:=Lib.hid e
        have f:(((s[k]'hlt).toNat:Int)==(b:Int))=true:=by simp [e]
        clear e
        go_wp2_with fail
        go_ret
        exact ⟨ret_bool (hasB_yes hlt H.out).symm,hB⟩
      · have H:=Lib.hid e
        have f:(((s[k]'hlt).toNat:Int)==(b:Int))=false:=by simp;omega
        clear e
        go_wp2_with fail
        go_roundw
        case rel=>
          refine ⟨k+1,by omega,by go_num,fun j hj hs=> ?_,hB⟩
          by_cases hjk:j=k
          · subst hjk;exact H.out
          · exact HJ.out j (by omega) hs
        case measure=>simp [intOf];omega
    · go_wp2_with fail
      go_ret
      exact ⟨ret_bool (hasB_no (fun j hj=>HJ.out j (by omega) hj)).symm,hB⟩
set_option maxHeartbeats 2000000 in
set_option maxRecDepth 100000 in
theorem says06_any (k:Int) (w:World):
    Calls Tryz.prog 64 #[.int .u8 k] w fun e w'=>e= .returned (.string (saysB k))∧Below w.heap.size w w':=by
  by_cases e1:k=1
  case pos=>
    subst e1
    go_enter Tryz.func64,Tryz.ntmps64
    go_wp2_with fail
    go_ret
    exact ⟨rfl,Below.refl _ _⟩
  have f1:(k==1)=false:=by simp [e1]
  by_cases e2:k=2
  case pos=>
    subst e2
    go_enter Tryz.func64,Tryz.ntmps64
    go_wp2_with fail
    go_ret
    exact ⟨rfl,Below.refl _ _⟩
  have f2:(k==2)=false:=by simp [e2]
  by_cases e3:k=3
  case pos=>
    subst e3
    go_enter Tryz.func64,Tryz.ntmps64
    go_wp2_with fail
    go_ret
    exact ⟨rfl,Below.refl _ _⟩
  have f3:(k==3)=false:=by simp [e3]
  by_cases e4:k=4
  case pos=>
    subst e4
    go_enter Tryz.func64,Tryz.ntmps64
    go_wp2_with fail
    go_ret
    exact ⟨rfl,Below.refl _ _⟩
  have f4:(k==4)=false:=by simp [e4]
  by_cases e5:k=5
  case pos=>
    subst e5
    go_enter Tryz.func64,Tryz.ntmps64
    go_wp2_with fail
    go_ret
    exact ⟨rfl,Below.refl _ _⟩
  have f5:(k==5)=false:=by simp [e5]
  by_cases e6:k=6
  case pos=>
    subst e6
    go_enter Tryz.func64,Tryz.ntmps64
    go_wp2_with fail
    go_ret
    exact ⟨rfl,Below.refl _ _⟩
  have f6:(k==6)=false:=by simp [e6]
  by_cases e7:k=7
  case pos=>
    subst e7
    go_enter Tryz.func64,Tryz.ntmps64
    go_wp2_with fail
    go_ret
    exact ⟨rfl,Below.refl _ _⟩
  have f7:(k==7)=false:=by simp [e7]
  by_cases e8:k=8
  case pos=>
    subst e8
    go_enter Tryz.func64,Tryz.ntmps64
    go_wp2_with fail
    go_ret
    exact ⟨rfl,Below.refl _ _⟩
  have f8:(k==8)=false:=by simp [e8]
  by_cases e9:k=9
  case pos=>
    subst e9
    go_enter Tryz.func64,Tryz.ntmps64
    go_wp2_with fail
    go_ret
    exact ⟨rfl,Below.refl _ _⟩
  have f9:(k==9)=false:=by simp [e9]
  have hR:saysB k= { data:= #[] } :=by simp [saysB,e1,e2,e3,e4,e5,e6,e7,e8,e9]
  have HR:=Lib.hid hR
  clear hR e1 e2 e3 e4 e5 e6 e7 e8 e9
  go_enter Tryz.func64,Tryz.ntmps64
  go_wp2_with fail
  go_ret
  exact ⟨by rw [HR.out];rfl,Below.refl _ _⟩
end Go.Proofs.YtgcfhkceejcliaaGreatDoor
namespace Go.Proofs.YtgcfhkceejcliaaGreatDoor
open Go.RowKit
def says10B (k:Int):ByteArray:=if k=0 then { data:= #[46] } else saysB k
theorem says10_has (k:Int) (b:Nat) (hb:b≠46):hasB (says10B k) b=hasB (saysB k) b:=by
  by_cases h:k=0
  · subst h
    have:¬(46=b):=fun e=>hb e.symm
    simp [says10B,saysB,hasB,this]
  · rw [says10B,if_neg h]
set_option maxHeartbeats 4000000 in
set_option maxRecDepth 100000 in
theorem says10_any (k:Int) (w:World):
    Calls Tryz.prog 48 #[.int .u8 k] w fun e w'=>e= .returned (.string (says10B k))∧Below w.heap.size w w':=by
  go_enter Tryz.func48,Tryz.ntmps48
  go_wp2_with fail
  go_loopw [3,4,5] (fun n f i wr=>(∃j a b:Nat,j≤26∧ [0,0,1,1,2,2,2,3,3,4,4,4,5,5,6,6,6,7,7,7,8,8,8,9,9,9,10].getD j 0=a∧ [0,0,2,2,4,4,4,7,7,9,9,9,12,12,14,14,14,17,17,17,20,20,20,23,23,23,26].getD j 0=b∧n= .int .u8 a∧f= .int .i64 b∧i= .int .i64 j∧Hid (∀m:Nat,m<a→k≠m))∧Below w.heap.size w wr) (fun _ _ i _=>26 - (intOf i).toNat)
  case atStart=>exact ⟨⟨0,0,0,by omega,rfl,rfl,rfl,rfl,rfl,Lib.hid (fun m hm=>by omega)⟩,Below.refl _ _⟩
  case round=>
    obtain ⟨⟨j,a,b,hj,ha,hb,rfl,rfl,rfl,HM⟩,hB⟩:=hrel
    by_cases e0:j=0
    case pos=>
      subst e0
      have ha:a=0:=ha.symm
      have hb:b=0:=hb.symm
      subst ha hb
      go_wp2_with fail
      go_roundw
      case rel=>exact ⟨⟨1,0,0,by omega,rfl,rfl,rfl,rfl,by go_num,HM⟩,hB⟩
      case measure=>simp [intOf]
    by_cases e1:j=1
    case pos=>
      subst e1
      have ha:a=0:=ha.symm
      have hb:b=0:=hb.symm
      subst ha hb
      by_cases ek:k=0
      · have f1:((0:Int)==k)=true:=by simp [ek]
        have HE:=Lib.hid ek
        clear ek
        go_wp2_with fail
        go_ret
        exact ⟨by rw [HE.out];rfl,hB⟩
      · have f1:((0:Int)==k)=false:=by simp;omega
        have HE:=Lib.hid ek
        clear ek
        go_wp2_with fail
        go_roundw
        case rel=>exact ⟨⟨2,1,2,by omega,rfl,rfl,rfl,rfl,by go_num,Lib.hid (fun m hm=>by
          by_cases hm2:m<0
          · exact HM.out m hm2
          · have:m=0:=by omega
            subst this;exact HE.out)⟩,hB⟩
        case measure=>simp [intOf]
    by_cases e2:j=2
    case pos=>
      subst e2
      have ha:a=1:=ha.symm
      have hb:b=2:=hb.symm
      subst ha hb
      go_wp2_with fail
      go_roundw
      case rel=>exact ⟨⟨3,1,2,by omega,rfl,rfl,rfl,rfl,by go_num,HM⟩,hB⟩
      case measure=>simp [intOf]
    by_cases e3:j=3
    case pos=>
      subst e3
      have ha:a=1:=ha.symm
      have hb:b=2:=hb.symm
      subst ha hb
      by_cases ek:k=1
      · have f1:((1:Int)==k)=true:=by simp [ek]
        have HE:=Lib.hid ek
        clear ek
        go_wp2_with fail
        go_ret
        exact ⟨by rw [HE.out];rfl,hB⟩
      · have f1:((1:Int)==k)=false:=by simp;omega
        have HE:=Lib.hid ek
        clear ek
        go_wp2_with fail
        go_roundw
        case rel=>exact ⟨⟨4,2,4,by omega,rfl,rfl,rfl,rfl,by go_num,Lib.hid (fun m hm=>by
          by_cases hm2:m<1
          · exact HM.out m hm2
          · have:m=1:=by omega
            subst this;exact HE.out)⟩,hB⟩
        case measure=>simp [intOf]
    by_cases e4:j=4
    case pos=>
      subst e4
      have ha:a=2:=ha.symm
      have hb:b=4:=hb.symm
      subst ha hb
      go_wp2_with fail
      go_roundw
      case rel=>exact ⟨⟨5,2,4,by omega,rfl,rfl,rfl,rfl,by go_num,HM⟩,hB⟩
      case measure=>simp [intOf]
    by_cases e5:j=5
    case pos=>
      subst e5
      have ha:a=2:=ha.symm
      have hb:b=4:=hb.symm
      subst ha hb
      go_wp2_with fail
      go_roundw
      case rel=>exact ⟨⟨6,2,4,by omega,rfl,rfl,rfl,rfl,by go_num,HM⟩,hB⟩
      case measure=>simp [intOf]
    by_cases e6:j=6
    case pos=>
      subst e6
      have ha:a=2:=ha.symm
      have hb:b=4:=hb.symm
      subst ha hb
      by_cases ek:k=2
      · have f1:((2:Int)==k)=true:=by simp [ek]
        have HE:=Lib.hid ek
        clear ek
        go_wp2_with fail
        go_ret
        exact ⟨by rw [HE.out];rfl,hB⟩
      · have f1:((2:Int)==k)=false:=by simp;omega
        have HE:=Lib.hid ek
        clear ek
        go_wp2_with fail
        go_roundw
        case rel=>exact ⟨⟨7,3,7,by omega,rfl,rfl,rfl,rfl,by go_num,Lib.hid (fun m hm=>by
          by_cases hm2:m<2
          · exact HM.out m hm2
          · have:m=2:=by omega
            subst this;exact HE.out)⟩,hB⟩
        case measure=>simp [intOf]
    by_cases e7:j=7
    case pos=>
      subst e7
      have ha:a=3:=ha.symm
      have hb:b=7:=hb.symm
      subst ha hb
      go_wp2_with fail
      go_roundw
      case rel=>exact ⟨⟨8,3,7,by omega,rfl,rfl,rfl,rfl,by go_num,HM⟩,hB⟩
      case measure=>simp [intOf]
    by_cases e8:j=8
    case pos=>
      subst e8
      have ha:a=3:=ha.symm
      have hb:b=7:=hb.symm
      subst ha hb
      by_cases ek:k=3
      · have f1:((3:Int)==k)=true:=by simp [ek]
        have HE:=Lib.hid ek
        clear ek
        go_wp2_with fail
        go_ret
        exact ⟨by rw [HE.out];rfl,hB⟩
      · have f1:((3:Int)==k)=false:=by simp;omega
        have HE:=Lib.hid ek
        clear ek
        go_wp2_with fail
        go_roundw
        case rel=>exact ⟨⟨9,4,9,by omega,rfl,rfl,rfl,rfl,by go_num,Lib.hid (fun m hm=>by
          by_cases hm2:m<3
          · exact HM.out m hm2
          · have:m=3:=by omega
            subst this;exact HE.out)⟩,hB⟩
        case measure=>simp [intOf]
    by_cases e9:j=9
    case pos=>
      subst e9
      have ha:a=4:=ha.symm
      have hb:b=9:=hb.symm
      subst ha hb
      go_wp2_with fail
      go_roundw
      case rel=>exact ⟨⟨10,4,9,by omega,rfl,rfl,rfl,rfl,by go_num,HM⟩,hB⟩
      case measure=>simp [intOf]
    by_cases e10:j=10
    case pos=>
      subst e10
      have ha:a=4:=ha.symm
      have hb:b=9:=hb.symm
      subst ha hb
      go_wp2_with fail
      go_roundw
      case rel=>exact ⟨⟨11,4,9,by omega,rfl,rfl,rfl,rfl,by go_num,HM⟩,hB⟩
      case measure=>simp [intOf]
    by_cases e11:j=11
    case pos=>
      subst e11
      have ha:a=4:=ha.symm
      have hb:b=9:=hb.symm
      subst ha hb
      by_cases ek:k=4
      · have f1:((4:Int)==k)=true:=by simp [ek]
        have HE:=Lib.hid ek
        clear ek
        go_wp2_with fail
        go_ret
        exact ⟨by rw [HE.out];rfl,hB⟩
      · have f1:((4:Int)==k)=false:=by simp;omega
        have HE:=Lib.hid ek
        clear ek
        go_wp2_with fail
        go_roundw
        case rel=>exact ⟨⟨12,5,12,by omega,rfl,rfl,rfl,rfl,by go_num,Lib.hid (fun m hm=>by
          by_cases hm2:m<4
          · exact HM.out m hm2
          · have:m=4:=by omega
            subst this;exact HE.out)⟩,hB⟩
        case measure=>simp [intOf]
    by_cases e12:j=12
    case pos=>
      subst e12
      have ha:a=5:=ha.symm
      have hb:b=12:=hb.symm
      subst ha hb
      go_wp2_with fail
      go_roundw
      case rel=>exact ⟨⟨13,5,12,by omega,rfl,rfl,rfl,rfl,by go_num,HM⟩,hB⟩
      case measure=>simp [intOf]
    by_cases e13:j=13
    case pos=>
      subst e13
      have ha:a=5:=ha.symm
      have hb:b=12:=hb.symm
      subst ha hb
      by_cases ek:k=5
      · have f1:((5:Int)==k)=true:=by simp [ek]
        have HE:=Lib.hid ek
        clear ek
        go_wp2_with fail
        go_ret
        exact ⟨by rw [HE.out];rfl,hB⟩
      · have f1:((5:Int)==k)=false:=by simp;omega
        have HE:=Lib.hid ek
        clear ek
        go_wp2_with fail
        go_roundw
        case rel=>exact ⟨⟨14,6,14,by omega,rfl,rfl,rfl,rfl,by go_num,Lib.hid (fun m hm=>by
          by_cases hm2:m<5
          · exact HM.out m hm2
          · have:m=5:=by omega
            subst this;exact HE.out)⟩,hB⟩
        case measure=>simp [intOf]
    by_cases e14:j=14
    case pos=>
      subst e14
      have ha:a=6:=ha.symm
      have hb:b=14:=hb.symm
      subst ha hb
      go_wp2_with fail
      go_roundw
      case rel=>exact ⟨⟨15,6,14,by omega,rfl,rfl,rfl,rfl,by go_num,HM⟩,hB⟩
      case measure=>simp [intOf]
    by_cases e15:j=15
    case pos=>
      subst e15
      have ha:a=6:=ha.symm
      have hb:b=14:=hb.symm
      subst ha hb
      go_wp2_with fail
      go_roundw
      case rel=>exact ⟨⟨16,6,14,by omega,rfl,rfl,rfl,rfl,by go_num,HM⟩,hB⟩
      case measure=>simp [intOf]
    by_cases e16:j=16
    case pos=>
      subst e16
      have ha:a=6:=ha.symm
      have hb:b=14:=hb.symm
      subst ha hb
      by_cases ek:k=6
      · have f1:((6:Int)==k)=true:=by simp [ek]
        have HE:=Lib.hid ek
        clear ek
        go_wp2_with fail
        go_ret
        exact ⟨by rw [HE.out];rfl,hB⟩
      · have f1:((6:Int)==k)=false:=by simp;omega
        have HE:=Lib.hid ek
        clear ek
        go_wp2_with fail
        go_roundw
        case rel=>exact ⟨⟨17,7,17,by omega,rfl,rfl,rfl,rfl,by go_num,Lib.hid (fun m hm=>by
          by_cases hm2:m<6
          · exact HM.out m hm2
          · have:m=6:=by omega
            subst this;exact HE.out)⟩,hB⟩
        case measure=>simp [intOf]
    by_cases e17:j=17
    case pos=>
      subst e17
      have ha:a=7:=ha.symm
      have hb:b=17:=hb.symm
      subst ha hb
      go_wp2_with fail
      go_roundw
      case rel=>exact ⟨⟨18,7,17,by omega,rfl,rfl,rfl,rfl,by go_num,HM⟩,hB⟩
      case measure=>simp [intOf]
    by_cases e18:j=18
    case pos=>
      subst e18
      have ha:a=7:=ha.symm
      have hb:b=17:=hb.symm
      subst ha hb
      go_wp2_with fail
      go_roundw
      case rel=>exact ⟨⟨19,7,17,by omega,rfl,rfl,rfl,rfl,by go_num,HM⟩,hB⟩
      case measure=>simp [intOf]
    by_cases e19:j=19
    case pos=>
      subst e19
      have ha:a=7:=ha.symm
      have hb:b=17:=hb.symm
      subst ha hb
      by_cases ek:k=7
      · have f1:((7:Int)==k)=true:=by simp [ek]
        have HE:=Lib.hid ek
        clear ek
        go_wp2_with fail
        go_ret
        exact ⟨by rw [HE.out];rfl,hB⟩
      · have f1:((7:Int)==k)=false:=by simp;omega
        have HE:=Lib.hid ek
        clear ek
        go_wp2_with fail
        go_roundw
        case rel=>exact ⟨⟨20,8,20,by omega,rfl,rfl,rfl,rfl,by go_num,Lib.hid (fun m hm=>by
          by_cases hm2:m<7
          · exact HM.out m hm2
          · have:m=7:=by omega
            subst this;exact HE.out)⟩,hB⟩
        case measure=>simp [intOf]
    by_cases e20:j=20
    case pos=>
      subst e20
      have ha:a=8:=ha.symm
      have hb:b=20:=hb.symm
      subst ha hb
      go_wp2_with fail
      go_roundw
      case rel=>exact ⟨⟨21,8,20,by omega,rfl,rfl,rfl,rfl,by go_num,HM⟩,hB⟩
      case measure=>simp [intOf]
    by_cases e21:j=21
    case pos=>
      subst e21
      have ha:a=8:=ha.symm
      have hb:b=20:=hb.symm
      subst ha hb
      go_wp2_with fail
      go_roundw
      case rel=>exact ⟨⟨22,8,20,by omega,rfl,rfl,rfl,rfl,by go_num,HM⟩,hB⟩
      case measure=>simp [intOf]
    by_cases e22:j=22
    case pos=>
      subst e22
      have ha:a=8:=ha.symm
      have hb:b=20:=hb.symm
      subst ha hb
      by_cases ek:k=8
      · have f1:((8:Int)==k)=true:=by simp [ek]
        have HE:=Lib.hid ek
        clear ek
        go_wp2_with fail
        go_ret
        exact ⟨by rw [HE.out];rfl,hB⟩
      · have f1:((8:Int)==k)=false:=by simp;omega
        have HE:=Lib.hid ek
        clear ek
        go_wp2_with fail
        go_roundw
        case rel=>exact ⟨⟨23,9,23,by omega,rfl,rfl,rfl,rfl,by go_num,Lib.hid (fun m hm=>by
          by_cases hm2:m<8
          · exact HM.out m hm2
          · have:m=8:=by omega
            subst this;exact HE.out)⟩,hB⟩
        case measure=>simp [intOf]
    by_cases e23:j=23
    case pos=>
      subst e23
      have ha:a=9:=ha.symm
      have hb:b=23:=hb.symm
      subst ha hb
      go_wp2_with fail
      go_roundw
      case rel=>exact ⟨⟨24,9,23,by omega,rfl,rfl,rfl,rfl,by go_num,HM⟩,hB⟩
      case measure=>simp [intOf]
    by_cases e24:j=24
    case pos=>
      subst e24
      have ha:a=9:=ha.symm
      have hb:b=23:=hb.symm
      subst ha hb
      go_wp2_with fail
      go_roundw
      case rel=>exact ⟨⟨25,9,23,by omega,rfl,rfl,rfl,rfl,by go_num,HM⟩,hB⟩
      case measure=>simp [intOf]
    by_cases e25:j=25
    case pos=>
      subst e25
      have ha:a=9:=ha.symm
      have hb:b=23:=hb.symm
      subst ha hb
      by_cases ek:k=9
      · have f1:((9:Int)==k)=true:=by simp [ek]
        have HE:=Lib.hid ek
        clear ek
        go_wp2_with fail
        go_ret
        exact ⟨by rw [HE.out];rfl,hB⟩
      · have f1:((9:Int)==k)=false:=by simp;omega
        have HE:=Lib.hid ek
        clear ek
        go_wp2_with fail
        go_roundw
        case rel=>exact ⟨⟨26,10,26,by omega,rfl,rfl,rfl,rfl,by go_num,Lib.hid (fun m hm=>by
          by_cases hm2:m<9
          · exact HM.out m hm2
          · have:m=9:=by omega
            subst this;exact HE.out)⟩,hB⟩
        case measure=>simp [intOf]
    have e26:j=26:=by omega
    subst e26
    have ha:a=10:=ha.symm
    subst ha
    have hR:says10B k= { data:= #[] } :=by
      have h0:k≠0:=HM.out 0 (by omega)
      have h1:k≠1:=HM.out 1 (by omega)
      have h2:k≠2:=HM.out 2 (by omega)
      have h3:k≠3:=HM.out 3 (by omega)
      have h4:k≠4:=HM.out 4 (by omega)
      have h5:k≠5:=HM.out 5 (by omega)
      have h6:k≠6:=HM.out 6 (by omega)
      have h7:k≠7:=HM.out 7 (by omega)
      have h8:k≠8:=HM.out 8 (by omega)
      have h9:k≠9:=HM.out 9 (by omega)
      simp [says10B,saysB,h0,h1,h2,h3,h4,h5,h6,h7,h8,h9]
    have HR:=Lib.hid hR
    clear hR
    go_wp2_with fail
    go_ret
    exact ⟨by rw [HR.out];rfl,hB⟩
end Go.Proofs.YtgcfhkceejcliaaGreatDoor
namespace Go.Proofs.YtgcfhkceejcliaaGreatDoor
theorem row5 {f:Nat→Option Value} {z0 z1 z2 z3 z4:Value} (h:∀k z, [z0,z1,z2,z3,z4][k]? =some z→f k=some z):f 0=some z0∧f 1=some z1∧f 2=some z2∧f 3=some z3∧f 4=some z4:=
  ⟨h 0 _ rfl,h 1 _ rfl,h 2 _ rfl,h 3 _ rfl,h 4 _ rfl⟩
theorem row9 {f:Nat→Option Value} {z0 z1 z2 z3 z4 z5 z6 z7 z8:Value} (h:∀k z, [z0,z1,z2,z3,z4,z5,z6,z7,z8][k]? =some z→f k=some z):f 0=some z0∧f 1=some z1∧f 2=some z2∧f 3=some z3∧f 4=some z4∧f 5=some z5∧f 6=some z6∧f 7=some z7∧f 8=some z8:=
  ⟨h 0 _ rfl,h 1 _ rfl,h 2 _ rfl,h 3 _ rfl,h 4 _ rfl,h 5 _ rfl,h 6 _ rfl,h 7 _ rfl,h 8 _ rfl⟩
theorem row12 {f:Nat→Option Value} {z0 z1 z2 z3 z4 z5 z6 z7 z8 z9 z10 z11:Value} (h:∀k z, [z0,z1,z2,z3,z4,z5,z6,z7,z8,z9,z10,z11][k]? =some z→f k=some z):f 0=some z0∧f 1=some z1∧f 2=some z2∧f 3=some z3∧f 4=some z4∧f 5=some z5∧f 6=some z6∧f 7=some z7∧f 8=some z8∧f 9=some z9∧f 10=some z10∧f 11=some z11:=
  ⟨h 0 _ rfl,h 1 _ rfl,h 2 _ rfl,h 3 _ rfl,h 4 _ rfl,h 5 _ rfl,h 6 _ rfl,h 7 _ rfl,h 8 _ rfl,h 9 _ rfl,h 10 _ rfl,h 11 _ rfl⟩
end Go.Proofs.YtgcfhkceejcliaaGreatDoor
namespace Go.Proofs.YtgcfhkceejcliaaGreatDoor
open Go.RowKit
theorem layInt1_any (x:Int) (w:World) (B wb:Nat) (v:Value) (bs:List UInt8) (h:Wr w B wb v bs) (hsz:bs.length+1≤140737488355328):
    Calls Tryz.prog 23 #[.pointer (some ⟨wb,0,none⟩), .int .i64 x, .int .i64 1] w fun e w'=>e= .returned (.tuple #[])∧∃v',Wr w' B wb v' (bs++be (x % 18446744073709551616).toNat 1)∧WStep w w' wb v v':=
  layInt_any x 1 (by omega) w B wb v bs h hsz
theorem layInt4_any (x:Int) (w:World) (B wb:Nat) (v:Value) (bs:List UInt8) (h:Wr w B wb v bs) (hsz:bs.length+4≤140737488355328):
    Calls Tryz.prog 23 #[.pointer (some ⟨wb,0,none⟩), .int .i64 x, .int .i64 4] w fun e w'=>e= .returned (.tuple #[])∧∃v',Wr w' B wb v' (bs++be (x % 18446744073709551616).toNat 4)∧WStep w w' wb v v':=
  layInt_any x 4 (by omega) w B wb v bs h hsz
theorem layInt8_any (x:Int) (w:World) (B wb:Nat) (v:Value) (bs:List UInt8) (h:Wr w B wb v bs) (hsz:bs.length+8≤140737488355328):
    Calls Tryz.prog 23 #[.pointer (some ⟨wb,0,none⟩), .int .i64 x, .int .i64 8] w fun e w'=>e= .returned (.tuple #[])∧∃v',Wr w' B wb v' (bs++be (x % 18446744073709551616).toNat 8)∧WStep w w' wb v v':=
  layInt_any x 8 (by omega) w B wb v bs h hsz
theorem layU81_any (x:Int) (w:World) (B wb:Nat) (v:Value) (bs:List UInt8) (h:Wr w B wb v bs) (hsz:bs.length+1≤140737488355328):
    Calls Tryz.prog 20 #[.pointer (some ⟨wb,0,none⟩), .int .u8 x, .int .i64 1] w fun e w'=>e= .returned (.tuple #[])∧∃v',Wr w' B wb v' (bs++be (x % 18446744073709551616).toNat 1)∧WStep w w' wb v v':=
  layU8_any x 1 (by omega) w B wb v bs h hsz
theorem layI648_any (x:Int) (w:World) (B wb:Nat) (v:Value) (bs:List UInt8) (h:Wr w B wb v bs) (hsz:bs.length+8≤140737488355328):
    Calls Tryz.prog 44 #[.pointer (some ⟨wb,0,none⟩), .int .i64 x, .int .i64 8] w fun e w'=>e= .returned (.tuple #[])∧∃v',Wr w' B wb v' (bs++be (x % 18446744073709551616).toNat 8)∧WStep w w' wb v v':=
  layI64_any x 8 (by omega) w B wb v bs h hsz
theorem layU324_any (x:Int) (w:World) (B wb:Nat) (v:Value) (bs:List UInt8) (h:Wr w B wb v bs) (hsz:bs.length+4≤140737488355328):
    Calls Tryz.prog 21 #[.pointer (some ⟨wb,0,none⟩), .int .u32 x, .int .i64 4] w fun e w'=>e= .returned (.tuple #[])∧∃v',Wr w' B wb v' (bs++be (x % 18446744073709551616).toNat 4)∧WStep w w' wb v v':=
  layU32_any x 4 (by omega) w B wb v bs h hsz
theorem valueX_any (x:V) (vk vn:Int) (vs:ByteArray) (vla:Option Addr) (vll vlc:Nat) (voa:Option Addr) (vol voc:Nat) (w:World) (B wb:Nat) (v:Value) (bs:List UInt8) (h:Wr w B wb v bs) (hx:IsVal w B x ⟨vk,vn,vs,vla,vll,vlc,voa,vol,voc⟩) (hsz:bs.length+(encV x).length≤140737488355328):
    Calls Tryz.prog 22 #[.pointer (some ⟨wb,0,none⟩), .agg #[.int .u8 vk, .int .i64 vn, .string vs, .slice vla vll vlc, .slice voa vol voc]] w fun e w'=>e= .returned (.tuple #[])∧∃v',Wr w' B wb v' (bs++encV x)∧WStep w w' wb v v':=
  valueW_any x w B wb v bs ⟨vk,vn,vs,vla,vll,vlc,voa,vol,voc⟩ h hx hsz
theorem refValueX_any (x:V) (vk vn:Int) (vs:ByteArray) (vla:Option Addr) (vll vlc:Nat) (voa:Option Addr) (vol voc:Nat) (w:World) (B wb:Nat) (v:Value) (bs:List UInt8) (h:Wr w B wb v bs) (hx:IsVal w B x ⟨vk,vn,vs,vla,vll,vlc,voa,vol,voc⟩) (hsz:bs.length+(encV x).length≤140737488355328):
    Calls Tryz.prog 27 #[.pointer (some ⟨wb,0,none⟩), .agg #[.int .u8 vk, .int .i64 vn, .string vs, .slice vla vll vlc, .slice voa vol voc]] w fun e w'=>e= .returned (.tuple #[])∧∃v',Wr w' B wb v' (bs++encV x)∧WStep w w' wb v v':=
  refValueW_any x w B wb v bs ⟨vk,vn,vs,vla,vll,vlc,voa,vol,voc⟩ h hx hsz
structure WG (w wr:World) (B wb bx:Nat) (v u:Value) (bs:List UInt8) (cs:List Value):Prop where
  wrt:Wr wr B wb u bs
  st:WStep w wr wb v u
  at_:∀j x,cs[j]? =some x→wr.cell? ⟨bx,j,none⟩=some x
  ne:bx≠wb
  lt:bx<wr.heap.size
  far:u.ownBlock≠some bx
theorem WG.next {w wr w2:World} {B wb bx:Nat} {v u u2:Value} {bs bs2:List UInt8} {cs:List Value} (h:WG w wr B wb bx v u bs cs) (hr:Wr w2 B wb u2 bs2) (hs:WStep wr w2 wb u u2):WG w w2 B wb bx v u2 bs2 cs:=by
  refine ⟨hr,h.st.trans hs,fun j x hj=>hs.far (h.at_ j x hj) h.ne h.far,h.ne,Nat.lt_of_lt_of_le h.lt hs.size, ?_⟩
  rcases hs.own with e|e
  · rw [e];exact h.far
  · intro e2;have:=e _ e2;have:=h.lt;omega
theorem WG.behind {w wr w2:World} {B wb bx:Nat} {v u:Value} {bs:List UInt8} {cs:List Value} (h:WG w wr B wb bx v u bs cs) (hb:Below wr.heap.size wr w2):WG w w2 B wb bx v u bs cs:=
  h.next (h.wrt.of_below hb) (.of_below wb u hb)
theorem WG.start {w:World} {B wb:Nat} {v:Value} {bs:List UInt8} (h:Wr w B wb v bs) (cs:Array Value) (t:TypeId):WG w (w.alloc (.cells cs t)) B wb w.heap.size v v bs cs.toList:=by
  have hb:Below w.heap.size w (w.alloc (.cells cs t)):=(Below.refl _ _).alloc (Nat.le_refl _) _
  exact ⟨h.of_below hb, .of_below wb v hb,fun j x hj=>cells_new w cs t j x (by rw [←hj];simp),fun e=>by have:=h.lt;omega,by simp,fun e=>by have:=(h.lo _ e).2;omega⟩
theorem WG.eqb {w wr:World} {B wb bx:Nat} {v u:Value} {bs bs':List UInt8} {cs:List Value} (h:WG w wr B wb bx v u bs cs) (e:bs=bs'):WG w wr B wb bx v u bs' cs:=e ▸ h
def encSt (s:St):List UInt8:=if s.list=true then be ((1:Int) % 18446744073709551616).toNat 1++be (s.i % 18446744073709551616).toNat 8 else be ((0:Int) % 18446744073709551616).toNat 1++encS s.key
def encP:List St→List UInt8
  | [] => []
  |s::r=>encSt s++encP r
theorem encP_append (a b:List St):encP (a++b)=encP a++encP b:=by
  induction a with
  |nil=>simp [encP]
  |cons v r ih=>simp only [List.cons_append,encP,ih,List.append_assoc]
theorem encP_take (l:List St) (k:Nat) (h:k<l.length):encP (l.take (k+1))=encP (l.take k)++encSt l[k] :=by
  rw [take_snoc l k h,encP_append];simp [encP]
theorem encP_le (l:List St) (k:Nat):(encP (l.take k)).length≤(encP l).length:=by
  have h:=encP_append (l.take k) (l.drop k)
  rw [List.take_append_drop] at h;rw [h,List.length_append];omega
def encT (c:Cm):List UInt8:=
  (if hasB (saysB c.k) 75 then encS c.key else [])++(if hasB (saysB c.k) 73 then be (c.i % 18446744073709551616).toNat 8 else [])++(if hasB (saysB c.k) 74 then be (c.j % 18446744073709551616).toNat 8 else [])++
  (if hasB (saysB c.k) 78 then be (c.n % 18446744073709551616).toNat 8 else [])++(if hasB (saysB c.k) 86 then encV c.v else [])++(if hasB (saysB c.k) 83 then encS c.s else [])
def encC (c:Cm):List UInt8:=be (c.k % 18446744073709551616).toNat 1++be c.path.length 1++encP c.path++encT c
def stepWP (w:World) (B wb:Nat) (v:Value) (bs:List UInt8) (s:St):Prop:=
    Calls Tryz.prog 46 #[.pointer (some ⟨wb,0,none⟩), .agg #[.bool s.list, .int .i64 s.i, .string s.key]] w fun e w'=>e= .returned (.tuple #[])∧∃v',Wr w' B wb v' (bs++encSt s)∧WStep w w' wb v v'
set_option maxHeartbeats 4000000 in
set_option maxRecDepth 100000 in
theorem stepW_any (w:World) (B wb:Nat) (v:Value) (bs:List UInt8) (s:St) (h:Wr w B wb v bs) (hsz:bs.length+(encSt s).length≤140737488355328):stepWP w B wb v bs s:=by
  unfold stepWP
  obtain ⟨ls,si,sk⟩:=s
  have wx:=WG.start h #[.bool ls, .int .i64 si, .string sk] 56
  clear h
  cases ls with
  | true=>
    have he:encSt ⟨true,si,sk⟩=be ((1:Int) % 18446744073709551616).toNat 1++be (si % 18446744073709551616).toNat 8:=rfl
    rw [he,List.length_append,be_length,be_length] at hsz
    rw [he]
    clear he
    go_enter Tryz.func46,Tryz.ntmps46
    go_wp2_with (first|(go_at_call 20;(with_reducible refine (layU81_any _ _ B wb _ _ wx.wrt ?_).mono ?_);(focus ((first|omega|(simp only [List.length_append];omega)|(simp only [List.length_append,be_length];omega))));rintro e w2 ⟨rfl,v2,hr2,hs2⟩;replace wx:=wx.next hr2 hs2;have y0:=wx.at_ 0 _ rfl;have y1:=wx.at_ 1 _ rfl;have y2:=wx.at_ 2 _ rfl)|(go_at_call 23;(with_reducible refine (layInt8_any _ _ B wb _ _ wx.wrt ?_).mono ?_);(focus ((first|omega|(simp only [List.length_append];omega)|(simp only [List.length_append,be_length];omega))));rintro e w2 ⟨rfl,v2,hr2,hs2⟩;replace wx:=wx.next hr2 hs2;have y0:=wx.at_ 0 _ rfl;have y1:=wx.at_ 1 _ rfl;have y2:=wx.at_ 2 _ rfl))
    go_returns
    exact ⟨rfl,_,by rw [←List.append_assoc];exact wx.wrt,wx.st⟩
  | false=>
    have he:encSt ⟨false,si,sk⟩=be ((0:Int) % 18446744073709551616).toNat 1++encS sk:=rfl
    rw [he,List.length_append,be_length] at hsz
    rw [he]
    clear he
    go_enter Tryz.func46,Tryz.ntmps46
    go_wp2_with (first|(go_at_call 20;(with_reducible refine (layU81_any _ _ B wb _ _ wx.wrt ?_).mono ?_);(focus ((first|omega|(simp only [List.length_append];omega)|(simp only [List.length_append,be_length];omega))));rintro e w2 ⟨rfl,v2,hr2,hs2⟩;replace wx:=wx.next hr2 hs2;have y0:=wx.at_ 0 _ rfl;have y1:=wx.at_ 1 _ rfl;have y2:=wx.at_ 2 _ rfl)|(go_at_call 45;(with_reducible refine (text_any _ _ B wb _ _ wx.wrt ?_).mono ?_);(focus ((first|omega|(simp only [List.length_append];omega)|(simp only [List.length_append,be_length];omega))));rintro e w2 ⟨rfl,v2,hr2,hs2⟩;replace wx:=wx.next hr2 hs2;have y0:=wx.at_ 0 _ rfl;have y1:=wx.at_ 1 _ rfl;have y2:=wx.at_ 2 _ rfl))
    go_returns
    exact ⟨rfl,_,by rw [←List.append_assoc];exact wx.wrt,wx.st⟩
set_option maxHeartbeats 8000000 in
set_option maxRecDepth 100000 in
theorem compW_any (x:Cm) (w:World) (B wb:Nat) (v:Value) (bs:List UInt8) (c:CC) (h:Wr w B wb v bs) (hx:IsComp w B x c) (hsz:bs.length+(encC x).length≤140737488355328):
    Calls Tryz.prog 24 #[.pointer (some ⟨wb,0,none⟩), .agg #[.int .u8 c.k, .slice c.pa c.pl c.pc, .string c.key, .int .i64 c.i, .int .i64 c.j, .int .i64 c.n, .int .u8 c.v.k, .int .i64 c.v.n, .string c.v.s, .slice c.v.la c.v.ll c.v.lc, .slice c.v.oa c.v.ol c.v.oc, .string c.s]] w fun e w'=>e= .returned (.tuple #[])∧∃v',Wr w' B wb v' (bs++encC x)∧WStep w w' wb v v':=by
  cases hx with
  |mk c p vv hbd hp hv=>
  obtain ⟨ck,pa,pl,pc,key,i,j,n,⟨vk,vn,vs,vla,vll,vlc,voa,vol,voc⟩,s⟩:=c
  dsimp only at hp hv ⊢
  have HV:Hid (∀W,Below B w W→IsVal W B vv ⟨vk,vn,vs,vla,vll,vlc,voa,vol,voc⟩):=fun W hW=>hv.keep hW
  have HP:=Lib.hid hp;have H0:=Lib.hid h
  have k0:=hbd.k0;have k1:=hbd.k1;have c1:=hp.cap;have c2:=hp.max;have c3:=hp.few
  dsimp only at k0 k1
  have el:=hp.len
  have wx:=WG.start h #[.int .u8 ck, .slice pa pl pc, .string key, .int .i64 i, .int .i64 j, .int .i64 n, .int .u8 vk, .int .i64 vn, .string vs, .slice vla vll vlc, .slice voa vol voc, .string s] 63
  have hB:=h.base;have hlt:=h.lt
  have he:encC ⟨ck,p,key,i,j,n,vv,s⟩=be (ck % 18446744073709551616).toNat 1++be p.length 1++encP p++encT ⟨ck,p,key,i,j,n,vv,s⟩:=rfl
  have ell:be ((pl:Int) % 18446744073709551616).toNat 1=be p.length 1:=by rw [len_mod _ (by omega),el]
  have ELL:=Lib.hid ell
  have EL:=Lib.hid el
  rw [he] at hsz ⊢
  simp only [List.length_append,be_length] at hsz
  obtain ⟨T,hT⟩:∃T,encT ⟨ck,p,key,i,j,n,vv,s⟩=T:=⟨_,rfl⟩
  rw [hT] at hsz ⊢
  have HT:=Lib.hid hT
  clear hT he hv hp hbd h el ell
  go_enter Tryz.func24,Tryz.ntmps24
  go_wp2_with (first|(go_at_call 20;(with_reducible refine (layU81_any _ _ B wb _ _ wx.wrt ?_).mono ?_);(focus ((first|omega|(simp only [List.length_append];omega)|(simp only [List.length_append,be_length];omega))));rintro e w2 ⟨rfl,v2,hr2,hs2⟩;replace wx:=wx.next hr2 hs2;obtain ⟨y0,y1,y2,y3,y4,y5,y6,y7,y8,y9,y10,y11⟩:=row12 wx.at_)|(go_at_call 23;(with_reducible refine (layInt1_any _ _ B wb _ _ wx.wrt ?_).mono ?_);(focus ((first|omega|(simp only [List.length_append];omega)|(simp only [List.length_append,be_length];omega))));rintro e w2 ⟨rfl,v2,hr2,hs2⟩;replace wx:=wx.next hr2 hs2;obtain ⟨y0,y1,y2,y3,y4,y5,y6,y7,y8,y9,y10,y11⟩:=row12 wx.at_))
  obtain ⟨PRE,hPRE⟩:∃PRE,bs++be (ck % 18446744073709551616).toNat 1++be ((pl:Int) % 18446744073709551616).toNat 1=PRE:=⟨_,rfl⟩
  rw [hPRE] at wx
  have hPL:PRE.length+(encP p).length+T.length≤140737488355328:=by rw [←hPRE,List.length_append,List.length_append,be_length,be_length];omega
  have hPE:PRE=bs++be (ck % 18446744073709551616).toNat 1++be p.length 1:=by rw [←hPRE,ELL.out]
  have HPE:=Lib.hid hPE
  clear hr2 hs2 hPRE hPE y0 y1 y2 y3 y4 y5 y6 y7 y8 y9 y10 y11
  go_loopw [18,5] (fun ii _ wr=>∃(k:Nat) (u:Value),k≤pl∧ii= .int .i64 k∧WG w wr B wb w.heap.size v u (PRE++encP (p.take k)) [.int .u8 ck, .slice pa pl pc, .string key, .int .i64 i, .int .i64 j, .int .i64 n, .int .u8 vk, .int .i64 vn, .string vs, .slice vla vll vlc, .slice voa vol voc, .string s]) (fun ii _ _=>pl - (intOf ii).toNat)
  case atStart=>exact ⟨0,v2,Nat.zero_le _,rfl,by simpa [encP] using wx⟩
  case round=>
    clear wx
    obtain ⟨k,u,hk,rfl,wx⟩:=hrel
    obtain ⟨y0,y1,y2,y3,y4,y5,y6,y7,y8,y9,y10,y11⟩:=row12 wx.at_
    by_cases hlt2:k<pl
    · obtain ⟨b,o',kl,rfl,hb,x1,xb⟩:=HP.out.get hlt2
      have hbW:=H0.out.keeps wx.st
      have x1:=x1.keep hbW hb
      have r0:=x1.c0;have r1:=x1.c1;have r2:=x1.c2
      have hle:=encP_le p (k+1)
      have ht:=encP_take p k kl
      have hlen:(PRE++encP (p.take k)).length+(encSt p[k]).length≤140737488355328:=by
        rw [ht,List.length_append] at hle;rw [List.length_append];omega
      have HI:Hid (∀W,Below wr.heap.size wr W→Calls Tryz.prog 46 #[.pointer (some ⟨wb,0,none⟩), .agg #[.bool p[k].list, .int .i64 p[k].i, .string p[k].key]] W fun e w'=>e= .returned (.tuple #[])∧∃v',Wr w' B wb v' (PRE++encP (p.take (k+1)))∧WStep W w' wb u v'):=by
        intro W hW
        have:=stepW_any W B wb u _ p[k] (wx.wrt.of_below hW) hlen
        rw [ht, ←List.append_assoc];exact this
      clear x1 hle ht hlen hbW xb
      go_wp2_with (go_at_call 46;refine (HI.out _ (by go_grown)).mono ?_;rintro e w2 ⟨rfl,v3,hr3,hs3⟩)
      go_roundw
      case rel=>exact ⟨k+1,v3,by omega,by go_num,(wx.behind (by go_grown)).next hr3 hs3⟩
      case measure=>simp [intOf];omega
    · have hk2:k=pl:=by omega
      subst hk2
      have hq:=wx.eqb (bs':=PRE++encP p) (by rw [List.take_of_length_le (by have:=EL.out;omega)])
      clear wx
      have wx:=hq
      clear hq
      obtain ⟨Q,hQ⟩:∃Q,PRE++encP p=Q:=⟨_,rfl⟩
      rw [hQ] at wx
      have hQL:Q.length+T.length≤140737488355328:=by rw [←hQ,List.length_append];omega
      have HQ:Hid (bs++(be (ck % 18446744073709551616).toNat 1++be p.length 1++encP p++T)=Q++T):=by
        unfold Hid;rw [←hQ,HPE.out];simp only [List.append_assoc]
      clear hQ hPL hsz
      by_cases e1:ck=1
      case pos=>
        subst e1
        have hTk:T=be (n % 18446744073709551616).toNat 8:=by rw [←HT.out];simp [encT,saysB,hasB]
        rw [hTk] at hQL
        have HTK:=Lib.hid hTk
        simp only [be_length] at hQL
        clear hTk
        go_wp2_with (go_at_call 44;(with_reducible refine (layI648_any _ _ B wb _ _ wx.wrt ?_).mono ?_);(focus ((first|omega|(simp only [List.length_append];omega)|(simp only [List.length_append,be_length];omega))));rintro e w2 ⟨rfl,v2,hr2,hs2⟩;replace wx:=wx.next hr2 hs2;obtain ⟨y0,y1,y2,y3,y4,y5,y6,y7,y8,y9,y10,y11⟩:=row12 wx.at_)
        go_returns
        exact ⟨rfl,_,by rw [HQ.out,HTK.out];have:=wx.wrt;first|exact this|(simp only [List.append_assoc] at this ⊢;exact this)|(simp only [List.append_nil] at this ⊢;exact this),wx.st⟩
      have f1:(ck==1)=false:=by simp [e1]
      by_cases e2:ck=2
      case pos=>
        subst e2
        have hTk:T=encS key++encV vv:=by rw [←HT.out];simp [encT,saysB,hasB]
        rw [hTk] at hQL
        have HTK:=Lib.hid hTk
        simp only [List.length_append] at hQL
        clear hTk
        go_wp2_with (first|(go_at_call 45;(with_reducible refine (text_any _ _ B wb _ _ wx.wrt ?_).mono ?_);(focus ((first|omega|(simp only [List.length_append];omega)|(simp only [List.length_append,be_length];omega))));rintro e w2 ⟨rfl,v2,hr2,hs2⟩;replace wx:=wx.next hr2 hs2;obtain ⟨y0,y1,y2,y3,y4,y5,y6,y7,y8,y9,y10,y11⟩:=row12 wx.at_)|(go_at_call 22;(with_reducible refine (valueX_any vv vk vn vs vla vll vlc voa vol voc _ B wb _ _ wx.wrt (HV.out _ (H0.out.keeps wx.st)) ?_).mono ?_);(focus ((first|omega|(simp only [List.length_append];omega)|(simp only [List.length_append,be_length];omega))));rintro e w2 ⟨rfl,v2,hr2,hs2⟩;replace wx:=wx.next hr2 hs2;obtain ⟨y0,y1,y2,y3,y4,y5,y6,y7,y8,y9,y10,y11⟩:=row12 wx.at_))
        go_returns
        exact ⟨rfl,_,by rw [HQ.out,HTK.out];have:=wx.wrt;first|exact this|(simp only [List.append_assoc] at this ⊢;exact this)|(simp only [List.append_nil] at this ⊢;exact this),wx.st⟩
      have f2:(ck==2)=false:=by simp [e2]
      by_cases e3:ck=3
      case pos=>
        subst e3
        have hTk:T=encS key:=by rw [←HT.out];simp [encT,saysB,hasB]
        rw [hTk] at hQL
        have HTK:=Lib.hid hTk
        clear hTk
        go_wp2_with (go_at_call 45;(with_reducible refine (text_any _ _ B wb _ _ wx.wrt ?_).mono ?_);(focus ((first|omega|(simp only [List.length_append];omega)|(simp only [List.length_append,be_length];omega))));rintro e w2 ⟨rfl,v2,hr2,hs2⟩;replace wx:=wx.next hr2 hs2;obtain ⟨y0,y1,y2,y3,y4,y5,y6,y7,y8,y9,y10,y11⟩:=row12 wx.at_)
        go_returns
        exact ⟨rfl,_,by rw [HQ.out,HTK.out];have:=wx.wrt;first|exact this|(simp only [List.append_assoc] at this ⊢;exact this)|(simp only [List.append_nil] at this ⊢;exact this),wx.st⟩
      have f3:(ck==3)=false:=by simp [e3]
      by_cases e4:ck=4
      case pos=>
        subst e4
        have hTk:T=be (i % 18446744073709551616).toNat 8++encV vv:=by rw [←HT.out];simp [encT,saysB,hasB]
        rw [hTk] at hQL
        have HTK:=Lib.hid hTk
        simp only [List.length_append,be_length] at hQL
        clear hTk
        go_wp2_with (first|(go_at_call 23;(with_reducible refine (layInt8_any _ _ B wb _ _ wx.wrt ?_).mono ?_);(focus ((first|omega|(simp only [List.length_append];omega)|(simp only [List.length_append,be_length];omega))));rintro e w2 ⟨rfl,v2,hr2,hs2⟩;replace wx:=wx.next hr2 hs2;obtain ⟨y0,y1,y2,y3,y4,y5,y6,y7,y8,y9,y10,y11⟩:=row12 wx.at_)|(go_at_call 22;(with_reducible refine (valueX_any vv vk vn vs vla vll vlc voa vol voc _ B wb _ _ wx.wrt (HV.out _ (H0.out.keeps wx.st)) ?_).mono ?_);(focus ((first|omega|(simp only [List.length_append];omega)|(simp only [List.length_append,be_length];omega))));rintro e w2 ⟨rfl,v2,hr2,hs2⟩;replace wx:=wx.next hr2 hs2;obtain ⟨y0,y1,y2,y3,y4,y5,y6,y7,y8,y9,y10,y11⟩:=row12 wx.at_))
        go_returns
        exact ⟨rfl,_,by rw [HQ.out,HTK.out];have:=wx.wrt;first|exact this|(simp only [List.append_assoc] at this ⊢;exact this)|(simp only [List.append_nil] at this ⊢;exact this),wx.st⟩
      have f4:(ck==4)=false:=by simp [e4]
      by_cases e5:ck=5
      case pos=>
        subst e5
        have hTk:T=be (i % 18446744073709551616).toNat 8:=by rw [←HT.out];simp [encT,saysB,hasB]
        rw [hTk] at hQL
        have HTK:=Lib.hid hTk
        simp only [be_length] at hQL
        clear hTk
        go_wp2_with (go_at_call 23;(with_reducible refine (layInt8_any _ _ B wb _ _ wx.wrt ?_).mono ?_);(focus ((first|omega|(simp only [List.length_append];omega)|(simp only [List.length_append,be_length];omega))));rintro e w2 ⟨rfl,v2,hr2,hs2⟩;replace wx:=wx.next hr2 hs2;obtain ⟨y0,y1,y2,y3,y4,y5,y6,y7,y8,y9,y10,y11⟩:=row12 wx.at_)
        go_returns
        exact ⟨rfl,_,by rw [HQ.out,HTK.out];have:=wx.wrt;first|exact this|(simp only [List.append_assoc] at this ⊢;exact this)|(simp only [List.append_nil] at this ⊢;exact this),wx.st⟩
      have f5:(ck==5)=false:=by simp [e5]
      by_cases e6:ck=6
      case pos=>
        subst e6
        have hTk:T=be (i % 18446744073709551616).toNat 8++encV vv:=by rw [←HT.out];simp [encT,saysB,hasB]
        rw [hTk] at hQL
        have HTK:=Lib.hid hTk
        simp only [List.length_append,be_length] at hQL
        clear hTk
        go_wp2_with (first|(go_at_call 23;(with_reducible refine (layInt8_any _ _ B wb _ _ wx.wrt ?_).mono ?_);(focus ((first|omega|(simp only [List.length_append];omega)|(simp only [List.length_append,be_length];omega))));rintro e w2 ⟨rfl,v2,hr2,hs2⟩;replace wx:=wx.next hr2 hs2;obtain ⟨y0,y1,y2,y3,y4,y5,y6,y7,y8,y9,y10,y11⟩:=row12 wx.at_)|(go_at_call 22;(with_reducible refine (valueX_any vv vk vn vs vla vll vlc voa vol voc _ B wb _ _ wx.wrt (HV.out _ (H0.out.keeps wx.st)) ?_).mono ?_);(focus ((first|omega|(simp only [List.length_append];omega)|(simp only [List.length_append,be_length];omega))));rintro e w2 ⟨rfl,v2,hr2,hs2⟩;replace wx:=wx.next hr2 hs2;obtain ⟨y0,y1,y2,y3,y4,y5,y6,y7,y8,y9,y10,y11⟩:=row12 wx.at_))
        go_returns
        exact ⟨rfl,_,by rw [HQ.out,HTK.out];have:=wx.wrt;first|exact this|(simp only [List.append_assoc] at this ⊢;exact this)|(simp only [List.append_nil] at this ⊢;exact this),wx.st⟩
      have f6:(ck==6)=false:=by simp [e6]
      by_cases e7:ck=7
      case pos=>
        subst e7
        have hTk:T=be (i % 18446744073709551616).toNat 8++be (j % 18446744073709551616).toNat 8:=by rw [←HT.out];simp [encT,saysB,hasB]
        rw [hTk] at hQL
        have HTK:=Lib.hid hTk
        simp only [List.length_append,be_length] at hQL
        clear hTk
        go_wp2_with (go_at_call 23;(with_reducible refine (layInt8_any _ _ B wb _ _ wx.wrt ?_).mono ?_);(focus ((first|omega|(simp only [List.length_append];omega)|(simp only [List.length_append,be_length];omega))));rintro e w2 ⟨rfl,v2,hr2,hs2⟩;replace wx:=wx.next hr2 hs2;obtain ⟨y0,y1,y2,y3,y4,y5,y6,y7,y8,y9,y10,y11⟩:=row12 wx.at_)
        go_returns
        exact ⟨rfl,_,by rw [HQ.out,HTK.out];have:=wx.wrt;first|exact this|(simp only [List.append_assoc] at this ⊢;exact this)|(simp only [List.append_nil] at this ⊢;exact this),wx.st⟩
      have f7:(ck==7)=false:=by simp [e7]
      by_cases e8:ck=8
      case pos=>
        subst e8
        have hTk:T=be (i % 18446744073709551616).toNat 8++encS s:=by rw [←HT.out];simp [encT,saysB,hasB]
        rw [hTk] at hQL
        have HTK:=Lib.hid hTk
        simp only [List.length_append,be_length] at hQL
        clear hTk
        go_wp2_with (first|(go_at_call 23;(with_reducible refine (layInt8_any _ _ B wb _ _ wx.wrt ?_).mono ?_);(focus ((first|omega|(simp only [List.length_append];omega)|(simp only [List.length_append,be_length];omega))));rintro e w2 ⟨rfl,v2,hr2,hs2⟩;replace wx:=wx.next hr2 hs2;obtain ⟨y0,y1,y2,y3,y4,y5,y6,y7,y8,y9,y10,y11⟩:=row12 wx.at_)|(go_at_call 45;(with_reducible refine (text_any _ _ B wb _ _ wx.wrt ?_).mono ?_);(focus ((first|omega|(simp only [List.length_append];omega)|(simp only [List.length_append,be_length];omega))));rintro e w2 ⟨rfl,v2,hr2,hs2⟩;replace wx:=wx.next hr2 hs2;obtain ⟨y0,y1,y2,y3,y4,y5,y6,y7,y8,y9,y10,y11⟩:=row12 wx.at_))
        go_returns
        exact ⟨rfl,_,by rw [HQ.out,HTK.out];have:=wx.wrt;first|exact this|(simp only [List.append_assoc] at this ⊢;exact this)|(simp only [List.append_nil] at this ⊢;exact this),wx.st⟩
      have f8:(ck==8)=false:=by simp [e8]
      by_cases e9:ck=9
      case pos=>
        subst e9
        have hTk:T=be (i % 18446744073709551616).toNat 8++be (n % 18446744073709551616).toNat 8:=by rw [←HT.out];simp [encT,saysB,hasB]
        rw [hTk] at hQL
        have HTK:=Lib.hid hTk
        simp only [List.length_append,be_length] at hQL
        clear hTk
        go_wp2_with (first|(go_at_call 23;(with_reducible refine (layInt8_any _ _ B wb _ _ wx.wrt ?_).mono ?_);(focus ((first|omega|(simp only [List.length_append];omega)|(simp only [List.length_append,be_length];omega))));rintro e w2 ⟨rfl,v2,hr2,hs2⟩;replace wx:=wx.next hr2 hs2;obtain ⟨y0,y1,y2,y3,y4,y5,y6,y7,y8,y9,y10,y11⟩:=row12 wx.at_)|(go_at_call 44;(with_reducible refine (layI648_any _ _ B wb _ _ wx.wrt ?_).mono ?_);(focus ((first|omega|(simp only [List.length_append];omega)|(simp only [List.length_append,be_length];omega))));rintro e w2 ⟨rfl,v2,hr2,hs2⟩;replace wx:=wx.next hr2 hs2;obtain ⟨y0,y1,y2,y3,y4,y5,y6,y7,y8,y9,y10,y11⟩:=row12 wx.at_))
        go_returns
        exact ⟨rfl,_,by rw [HQ.out,HTK.out];have:=wx.wrt;first|exact this|(simp only [List.append_assoc] at this ⊢;exact this)|(simp only [List.append_nil] at this ⊢;exact this),wx.st⟩
      have f9:(ck==9)=false:=by simp [e9]
      have hTk:T= [] :=by rw [←HT.out];simp [encT,saysB,hasB,e1,e2,e3,e4,e5,e6,e7,e8,e9]
      rw [hTk] at hQL
      have HTK:=Lib.hid hTk
      simp only [List.length_nil] at hQL
      clear e1 e2 e3 e4 e5 e6 e7 e8 e9
      clear hTk
      go_wp2_with fail
      go_returns
      exact ⟨rfl,_,by rw [HQ.out,HTK.out];have:=wx.wrt;first|exact this|(simp only [List.append_assoc] at this ⊢;exact this)|(simp only [List.append_nil] at this ⊢;exact this),wx.st⟩
end Go.Proofs.YtgcfhkceejcliaaGreatDoor
namespace Go.Proofs.YtgcfhkceejcliaaGreatDoor
open Go.RowKit
theorem in10_75_any (s:ByteArray) (w:World) (hs:s.size≤140737488355328):Calls Tryz.prog 49 #[.string s, .int .u8 75] w fun e w'=>e= .returned (.bool (hasB s 75))∧Below w.heap.size w w':=in10_any s 75 w hs
theorem in10_73_any (s:ByteArray) (w:World) (hs:s.size≤140737488355328):Calls Tryz.prog 49 #[.string s, .int .u8 73] w fun e w'=>e= .returned (.bool (hasB s 73))∧Below w.heap.size w w':=in10_any s 73 w hs
theorem in10_74_any (s:ByteArray) (w:World) (hs:s.size≤140737488355328):Calls Tryz.prog 49 #[.string s, .int .u8 74] w fun e w'=>e= .returned (.bool (hasB s 74))∧Below w.heap.size w w':=in10_any s 74 w hs
theorem in10_78_any (s:ByteArray) (w:World) (hs:s.size≤140737488355328):Calls Tryz.prog 49 #[.string s, .int .u8 78] w fun e w'=>e= .returned (.bool (hasB s 78))∧Below w.heap.size w w':=in10_any s 78 w hs
theorem in10_86_any (s:ByteArray) (w:World) (hs:s.size≤140737488355328):Calls Tryz.prog 49 #[.string s, .int .u8 86] w fun e w'=>e= .returned (.bool (hasB s 86))∧Below w.heap.size w w':=in10_any s 86 w hs
theorem in10_83_any (s:ByteArray) (w:World) (hs:s.size≤140737488355328):Calls Tryz.prog 49 #[.string s, .int .u8 83] w fun e w'=>e= .returned (.bool (hasB s 83))∧Below w.heap.size w w':=in10_any s 83 w hs
set_option maxHeartbeats 8000000 in
set_option maxRecDepth 100000 in
theorem refCompW_any (x:Cm) (w:World) (B wb:Nat) (v:Value) (bs:List UInt8) (c:CC) (h:Wr w B wb v bs) (hx:IsComp w B x c) (hsz:bs.length+(encC x).length≤140737488355328):
    Calls Tryz.prog 28 #[.pointer (some ⟨wb,0,none⟩), .agg #[.int .u8 c.k, .slice c.pa c.pl c.pc, .string c.key, .int .i64 c.i, .int .i64 c.j, .int .i64 c.n, .int .u8 c.v.k, .int .i64 c.v.n, .string c.v.s, .slice c.v.la c.v.ll c.v.lc, .slice c.v.oa c.v.ol c.v.oc, .string c.s]] w fun e w'=>e= .returned (.tuple #[])∧∃v',Wr w' B wb v' (bs++encC x)∧WStep w w' wb v v':=by
  cases hx with
  |mk c p vv hbd hp hv=>
  obtain ⟨ck,pa,pl,pc,key,i,j,n,⟨vk,vn,vs,vla,vll,vlc,voa,vol,voc⟩,s⟩:=c
  dsimp only at hp hv ⊢
  have HV:Hid (∀W,Below B w W→IsVal W B vv ⟨vk,vn,vs,vla,vll,vlc,voa,vol,voc⟩):=fun W hW=>hv.keep hW
  have HP:=Lib.hid hp;have H0:=Lib.hid h
  have k0:=hbd.k0;have k1:=hbd.k1;have c1:=hp.cap;have c2:=hp.max;have c3:=hp.few
  dsimp only at k0 k1
  have el:=hp.len
  have wx:=WG.start h #[.int .u8 ck, .slice pa pl pc, .string key, .int .i64 i, .int .i64 j, .int .i64 n, .int .u8 vk, .int .i64 vn, .string vs, .slice vla vll vlc, .slice voa vol voc, .string s] 63
  have hB:=h.base;have hlt:=h.lt
  have he:encC ⟨ck,p,key,i,j,n,vv,s⟩=be (ck % 18446744073709551616).toNat 1++be p.length 1++encP p++encT ⟨ck,p,key,i,j,n,vv,s⟩:=rfl
  have ell:be ((pl:Int) % 18446744073709551616).toNat 1=be p.length 1:=by rw [len_mod _ (by omega),el]
  have ELL:=Lib.hid ell
  have EL:=Lib.hid el
  rw [he] at hsz ⊢
  simp only [List.length_append,be_length] at hsz
  obtain ⟨T,hT⟩:∃T,encT ⟨ck,p,key,i,j,n,vv,s⟩=T:=⟨_,rfl⟩
  rw [hT] at hsz ⊢
  have HT:=Lib.hid hT
  clear hT he hv hp hbd h el ell
  have u0:IntKind.u64.wrap ck=ck:=u64_id _ (by omega) (by omega)
  have u3:IntKind.u64.wrap (pl:Int)=(pl:Int):=u64_id _ (by omega) (by omega)
  have u1:IntKind.u64.wrap i=i % 18446744073709551616:=u64_emod _
  have u2:IntKind.u64.wrap j=j % 18446744073709551616:=u64_emod _
  have u4:IntKind.u64.wrap n=n % 18446744073709551616:=u64_emod _
  go_enter Tryz.func28,Tryz.ntmps28
  go_wp2_with (first|(go_at_call 26;(with_reducible refine (number1_any _ ?_ ?_ _ B wb _ _ wx.wrt ?_).mono ?_);(focus omega);(focus omega);(focus ((first|omega|(simp only [List.length_append];omega)|(simp only [List.length_append,be_length];omega))));rintro e w2 ⟨rfl,v2,hr2,hs2⟩;replace wx:=wx.next hr2 hs2;obtain ⟨y0,y1,y2,y3,y4,y5,y6,y7,y8,y9,y10,y11⟩:=row12 wx.at_)|(go_at_call 26;(with_reducible refine (number1_any _ ?_ ?_ _ B wb _ _ wx.wrt ?_).mono ?_);(focus omega);(focus omega);(focus ((first|omega|(simp only [List.length_append];omega)|(simp only [List.length_append,be_length];omega))));rintro e w2 ⟨rfl,v2,hr2,hs2⟩;replace wx:=wx.next hr2 hs2;obtain ⟨y0,y1,y2,y3,y4,y5,y6,y7,y8,y9,y10,y11⟩:=row12 wx.at_))
  obtain ⟨PRE,hPRE⟩:∃PRE,bs++be (ck % 18446744073709551616).toNat 1++be ((pl:Int) % 18446744073709551616).toNat 1=PRE:=⟨_,rfl⟩
  rw [hPRE] at wx
  have hPL:PRE.length+(encP p).length+T.length≤140737488355328:=by rw [←hPRE,List.length_append,List.length_append,be_length,be_length];omega
  have hPE:PRE=bs++be (ck % 18446744073709551616).toNat 1++be p.length 1:=by rw [←hPRE,ELL.out]
  have HPE:=Lib.hid hPE
  clear hr2 hs2 hPRE hPE y0 y1 y2 y3 y4 y5 y6 y7 y8 y9 y10 y11
  go_loopw [4] (fun ii wr=>∃(k:Nat) (u:Value),k≤pl∧ii= .int .i64 k∧WG w wr B wb w.heap.size v u (PRE++encP (p.take k)) [.int .u8 ck, .slice pa pl pc, .string key, .int .i64 i, .int .i64 j, .int .i64 n, .int .u8 vk, .int .i64 vn, .string vs, .slice vla vll vlc, .slice voa vol voc, .string s]) (fun ii _=>pl - (intOf ii).toNat)
  case atStart=>exact ⟨0,v2,Nat.zero_le _,rfl,by simpa [encP] using wx⟩
  case round=>
    clear wx
    obtain ⟨k,u,hk,rfl,wx⟩:=hrel
    obtain ⟨y0,y1,y2,y3,y4,y5,y6,y7,y8,y9,y10,y11⟩:=row12 wx.at_
    by_cases hlt2:k<pl
    · obtain ⟨b,o',kl,rfl,hb,x1,xb⟩:=HP.out.get hlt2
      have hbW:=H0.out.keeps wx.st
      have x1:=x1.keep hbW hb
      have r0:=x1.c0;have r1:=x1.c1;have r2:=x1.c2
      have hle:=encP_le p (k+1)
      have ht:=encP_take p k kl
      have hlen:(PRE++encP (p.take k)).length+(encSt p[k]).length≤140737488355328:=by
        rw [ht,List.length_append] at hle;rw [List.length_append];omega
      have X1:Hid (∀W,Below B w W→StepAt W b (o'+k*3) p[k]):=by
        intro W hW
        obtain ⟨b2,o2,kl2,e2,hb2,x2,_⟩:=HP.out.get hlt2
        injection e2 with e2;injection e2 with e3 e4;subst e3 e4;exact x2.keep hW hb2
      have HE:Hid (∀l,PRE++encP (p.take k)++l=PRE++encP (p.take (k+1))↔l=encSt p[k]):=by
        intro l;rw [ht, ←List.append_assoc];exact List.append_cancel_left_eq _ _ _|>.to_iff
      obtain ⟨PK,hPK⟩:∃PK,PRE++encP (p.take k)=PK:=⟨_,rfl⟩
      rw [hPK] at wx hlen HE
      have u5:IntKind.u64.wrap p[k].i=p[k].i % 18446744073709551616:=u64_emod _
      cases hl:p[k].list with
      | true=>
        have hes:encSt p[k] =be ((1:Int) % 18446744073709551616).toNat 1++be (p[k].i % 18446744073709551616).toNat 8:=by rw [encSt,hl];rfl
        rw [hes] at hlen HE
        rw [hl] at r0
        simp only [List.length_append,be_length] at hlen
        have HL2:=Lib.hid hl
        clear hle ht hbW xb hPK hes hl x1
        go_wp2_with (first|(go_at_call 26;(with_reducible refine (number1_any _ ?_ ?_ _ B wb _ _ wx.wrt ?_).mono ?_);(focus omega);(focus omega);(focus ((first|omega|(simp only [List.length_append];omega)|(simp only [List.length_append,be_length];omega))));rintro e w2 ⟨rfl,v2,hr2,hs2⟩;replace wx:=wx.next hr2 hs2;obtain ⟨y0,y1,y2,y3,y4,y5,y6,y7,y8,y9,y10,y11⟩:=row12 wx.at_;have x1:=X1.out _ (H0.out.keeps wx.st);have r1:=x1.c1;have r2:=x1.c2;have r0:w2.cell? ⟨b,o'+k*3,none⟩=some (.bool true):=by have:=x1.c0;rwa [HL2.out] at this)|(go_at_call 26;(with_reducible refine (number8m_any _ _ B wb _ _ wx.wrt ?_).mono ?_);(focus ((first|omega|(simp only [List.length_append];omega)|(simp only [List.length_append,be_length];omega))));rintro e w2 ⟨rfl,v2,hr2,hs2⟩;replace wx:=wx.next hr2 hs2;obtain ⟨y0,y1,y2,y3,y4,y5,y6,y7,y8,y9,y10,y11⟩:=row12 wx.at_;have x1:=X1.out _ (H0.out.keeps wx.st);have r1:=x1.c1;have r2:=x1.c2;have r0:w2.cell? ⟨b,o'+k*3,none⟩=some (.bool true):=by have:=x1.c0;rwa [HL2.out] at this))
        go_roundw
        case rel=>exact ⟨k+1,v2,by omega,by go_num,wx.eqb (by rw [List.append_assoc];exact (HE.out _).2 rfl)⟩
        case measure=>simp [intOf];omega
      | false=>
        have hes:encSt p[k] =be ((0:Int) % 18446744073709551616).toNat 1++encS p[k].key:=by rw [encSt,hl];rfl
        rw [hes] at hlen HE
        rw [hl] at r0
        simp only [List.length_append,be_length] at hlen
        have HL2:=Lib.hid hl
        clear hle ht hbW xb hPK hes hl x1
        go_wp2_with (first|(go_at_call 26;(with_reducible refine (number1_any _ ?_ ?_ _ B wb _ _ wx.wrt ?_).mono ?_);(focus omega);(focus omega);(focus ((first|omega|(simp only [List.length_append];omega)|(simp only [List.length_append,be_length];omega))));rintro e w2 ⟨rfl,v2,hr2,hs2⟩;replace wx:=wx.next hr2 hs2;obtain ⟨y0,y1,y2,y3,y4,y5,y6,y7,y8,y9,y10,y11⟩:=row12 wx.at_;have x1:=X1.out _ (H0.out.keeps wx.st);have r1:=x1.c1;have r2:=x1.c2;have r0:w2.cell? ⟨b,o'+k*3,none⟩=some (.bool false):=by have:=x1.c0;rwa [HL2.out] at this)|(go_at_call 47;(with_reducible refine (refText_any _ _ B wb _ _ wx.wrt ?_).mono ?_);(focus ((first|omega|(simp only [List.length_append];omega)|(simp only [List.length_append,be_length];omega))));rintro e w2 ⟨rfl,v2,hr2,hs2⟩;replace wx:=wx.next hr2 hs2;obtain ⟨y0,y1,y2,y3,y4,y5,y6,y7,y8,y9,y10,y11⟩:=row12 wx.at_;have x1:=X1.out _ (H0.out.keeps wx.st);have r1:=x1.c1;have r2:=x1.c2;have r0:w2.cell? ⟨b,o'+k*3,none⟩=some (.bool false):=by have:=x1.c0;rwa [HL2.out] at this))
        go_roundw
        case rel=>exact ⟨k+1,v2,by omega,by go_num,wx.eqb (by rw [List.append_assoc];exact (HE.out _).2 rfl)⟩
        case measure=>simp [intOf];omega
    · have hk2:k=pl:=by omega
      subst hk2
      have hq:=wx.eqb (bs':=PRE++encP p) (by rw [List.take_of_length_le (by have:=EL.out;omega)])
      clear wx
      have wx:=hq
      clear hq
      obtain ⟨Q,hQ⟩:∃Q,PRE++encP p=Q:=⟨_,rfl⟩
      rw [hQ] at wx
      have hQL:Q.length+T.length≤140737488355328:=by rw [←hQ,List.length_append];omega
      have HQ:Hid (bs++(be (ck % 18446744073709551616).toNat 1++be p.length 1++encP p++T)=Q++T):=by
        unfold Hid;rw [←hQ,HPE.out];simp only [List.append_assoc]
      clear hQ hPL hsz
      by_cases e1:ck=1
      case pos=>
        subst e1
        have hTk:T=be (n % 18446744073709551616).toNat 8:=by rw [←HT.out];simp [encT,saysB,hasB]
        rw [hTk] at hQL
        have HTK:=Lib.hid hTk
        simp only [be_length] at hQL
        have HS:Hid (∀b:Nat,b≠46→hasB (says10B 1) b=hasB (saysB 1) b):=fun b hb=>says10_has _ b hb
        obtain ⟨SB,hSB⟩:∃SB,says10B 1=SB:=⟨_,rfl⟩
        have SZ10:Hid (SB.size≤2):=by
          unfold Hid;rw [←hSB];decide
        have s75:hasB SB 75=false:=by rw [←hSB,HS.out _ (by omega)];rfl
        have s73:hasB SB 73=false:=by rw [←hSB,HS.out _ (by omega)];rfl
        have s74:hasB SB 74=false:=by rw [←hSB,HS.out _ (by omega)];rfl
        have s78:hasB SB 78=true:=by rw [←hSB,HS.out _ (by omega)];rfl
        have s86:hasB SB 86=false:=by rw [←hSB,HS.out _ (by omega)];rfl
        have s83:hasB SB 83=false:=by rw [←hSB,HS.out _ (by omega)];rfl
        have HSB:=Lib.hid hSB
        clear hSB
        clear hTk
        go_wp2_with (first|(go_at_call 48;(with_reducible refine (says10_any _ _).mono ?_);rintro e w2 ⟨rfl,hb2⟩;rw [HSB.out];replace wx:=wx.behind hb2;obtain ⟨y0,y1,y2,y3,y4,y5,y6,y7,y8,y9,y10,y11⟩:=row12 wx.at_)|(go_at_call 49;(with_reducible refine (in10_75_any _ _ ?_).mono ?_);(focus (have:=SZ10.out;omega));rintro e w2 ⟨rfl,hb2⟩;replace wx:=wx.behind hb2;obtain ⟨y0,y1,y2,y3,y4,y5,y6,y7,y8,y9,y10,y11⟩:=row12 wx.at_)|(go_at_call 49;(with_reducible refine (in10_73_any _ _ ?_).mono ?_);(focus (have:=SZ10.out;omega));rintro e w2 ⟨rfl,hb2⟩;replace wx:=wx.behind hb2;obtain ⟨y0,y1,y2,y3,y4,y5,y6,y7,y8,y9,y10,y11⟩:=row12 wx.at_)|(go_at_call 49;(with_reducible refine (in10_74_any _ _ ?_).mono ?_);(focus (have:=SZ10.out;omega));rintro e w2 ⟨rfl,hb2⟩;replace wx:=wx.behind hb2;obtain ⟨y0,y1,y2,y3,y4,y5,y6,y7,y8,y9,y10,y11⟩:=row12 wx.at_)|(go_at_call 49;(with_reducible refine (in10_78_any _ _ ?_).mono ?_);(focus (have:=SZ10.out;omega));rintro e w2 ⟨rfl,hb2⟩;replace wx:=wx.behind hb2;obtain ⟨y0,y1,y2,y3,y4,y5,y6,y7,y8,y9,y10,y11⟩:=row12 wx.at_)|(go_at_call 49;(with_reducible refine (in10_86_any _ _ ?_).mono ?_);(focus (have:=SZ10.out;omega));rintro e w2 ⟨rfl,hb2⟩;replace wx:=wx.behind hb2;obtain ⟨y0,y1,y2,y3,y4,y5,y6,y7,y8,y9,y10,y11⟩:=row12 wx.at_)|(go_at_call 49;(with_reducible refine (in10_83_any _ _ ?_).mono ?_);(focus (have:=SZ10.out;omega));rintro e w2 ⟨rfl,hb2⟩;replace wx:=wx.behind hb2;obtain ⟨y0,y1,y2,y3,y4,y5,y6,y7,y8,y9,y10,y11⟩:=row12 wx.at_)|(go_at_call 26;(with_reducible refine (number8m_any _ _ B wb _ _ wx.wrt ?_).mono ?_);(focus ((first|omega|(simp only [List.length_append];omega)|(simp only [List.length_append,be_length];omega))));rintro e w2 ⟨rfl,v2,hr2,hs2⟩;replace wx:=wx.next hr2 hs2;obtain ⟨y0,y1,y2,y3,y4,y5,y6,y7,y8,y9,y10,y11⟩:=row12 wx.at_))
        go_returns
        exact ⟨rfl,_,by rw [HQ.out,HTK.out];have:=wx.wrt;first|exact this|(simp only [List.append_assoc] at this ⊢;exact this)|(simp only [List.append_nil] at this ⊢;exact this),wx.st⟩
      have f1:(ck==1)=false:=by simp [e1]
      by_cases e2:ck=2
      case pos=>
        subst e2
        have hTk:T=encS key++encV vv:=by rw [←HT.out];simp [encT,saysB,hasB]
        rw [hTk] at hQL
        have HTK:=Lib.hid hTk
        simp only [List.length_append] at hQL
        have HS:Hid (∀b:Nat,b≠46→hasB (says10B 2) b=hasB (saysB 2) b):=fun b hb=>says10_has _ b hb
        obtain ⟨SB,hSB⟩:∃SB,says10B 2=SB:=⟨_,rfl⟩
        have SZ10:Hid (SB.size≤2):=by
          unfold Hid;rw [←hSB];decide
        have s75:hasB SB 75=true:=by rw [←hSB,HS.out _ (by omega)];rfl
        have s73:hasB SB 73=false:=by rw [←hSB,HS.out _ (by omega)];rfl
        have s74:hasB SB 74=false:=by rw [←hSB,HS.out _ (by omega)];rfl
        have s78:hasB SB 78=false:=by rw [←hSB,HS.out _ (by omega)];rfl
        have s86:hasB SB 86=true:=by rw [←hSB,HS.out _ (by omega)];rfl
        have s83:hasB SB 83=false:=by rw [←hSB,HS.out _ (by omega)];rfl
        have HSB:=Lib.hid hSB
        clear hSB
        clear hTk
        go_wp2_with (first|(go_at_call 48;(with_reducible refine (says10_any _ _).mono ?_);rintro e w2 ⟨rfl,hb2⟩;rw [HSB.out];replace wx:=wx.behind hb2;obtain ⟨y0,y1,y2,y3,y4,y5,y6,y7,y8,y9,y10,y11⟩:=row12 wx.at_)|(go_at_call 49;(with_reducible refine (in10_75_any _ _ ?_).mono ?_);(focus (have:=SZ10.out;omega));rintro e w2 ⟨rfl,hb2⟩;replace wx:=wx.behind hb2;obtain ⟨y0,y1,y2,y3,y4,y5,y6,y7,y8,y9,y10,y11⟩:=row12 wx.at_)|(go_at_call 49;(with_reducible refine (in10_73_any _ _ ?_).mono ?_);(focus (have:=SZ10.out;omega));rintro e w2 ⟨rfl,hb2⟩;replace wx:=wx.behind hb2;obtain ⟨y0,y1,y2,y3,y4,y5,y6,y7,y8,y9,y10,y11⟩:=row12 wx.at_)|(go_at_call 49;(with_reducible refine (in10_74_any _ _ ?_).mono ?_);(focus (have:=SZ10.out;omega));rintro e w2 ⟨rfl,hb2⟩;replace wx:=wx.behind hb2;obtain ⟨y0,y1,y2,y3,y4,y5,y6,y7,y8,y9,y10,y11⟩:=row12 wx.at_)|(go_at_call 49;(with_reducible refine (in10_78_any _ _ ?_).mono ?_);(focus (have:=SZ10.out;omega));rintro e w2 ⟨rfl,hb2⟩;replace wx:=wx.behind hb2;obtain ⟨y0,y1,y2,y3,y4,y5,y6,y7,y8,y9,y10,y11⟩:=row12 wx.at_)|(go_at_call 49;(with_reducible refine (in10_86_any _ _ ?_).mono ?_);(focus (have:=SZ10.out;omega));rintro e w2 ⟨rfl,hb2⟩;replace wx:=wx.behind hb2;obtain ⟨y0,y1,y2,y3,y4,y5,y6,y7,y8,y9,y10,y11⟩:=row12 wx.at_)|(go_at_call 49;(with_reducible refine (in10_83_any _ _ ?_).mono ?_);(focus (have:=SZ10.out;omega));rintro e w2 ⟨rfl,hb2⟩;replace wx:=wx.behind hb2;obtain ⟨y0,y1,y2,y3,y4,y5,y6,y7,y8,y9,y10,y11⟩:=row12 wx.at_)|(go_at_call 47;(with_reducible refine (refText_any _ _ B wb _ _ wx.wrt ?_).mono ?_);(focus ((first|omega|(simp only [List.length_append];omega)|(simp only [List.length_append,be_length];omega))));rintro e w2 ⟨rfl,v2,hr2,hs2⟩;replace wx:=wx.next hr2 hs2;obtain ⟨y0,y1,y2,y3,y4,y5,y6,y7,y8,y9,y10,y11⟩:=row12 wx.at_)|(go_at_call 27;(with_reducible refine (refValueX_any vv vk vn vs vla vll vlc voa vol voc _ B wb _ _ wx.wrt (HV.out _ (H0.out.keeps wx.st)) ?_).mono ?_);(focus ((first|omega|(simp only [List.length_append];omega)|(simp only [List.length_append,be_length];omega))));rintro e w2 ⟨rfl,v2,hr2,hs2⟩;replace wx:=wx.next hr2 hs2;obtain ⟨y0,y1,y2,y3,y4,y5,y6,y7,y8,y9,y10,y11⟩:=row12 wx.at_))
        go_returns
        exact ⟨rfl,_,by rw [HQ.out,HTK.out];have:=wx.wrt;first|exact this|(simp only [List.append_assoc] at this ⊢;exact this)|(simp only [List.append_nil] at this ⊢;exact this),wx.st⟩
      have f2:(ck==2)=false:=by simp [e2]
      by_cases e3:ck=3
      case pos=>
        subst e3
        have hTk:T=encS key:=by rw [←HT.out];simp [encT,saysB,hasB]
        rw [hTk] at hQL
        have HTK:=Lib.hid hTk
        have HS:Hid (∀b:Nat,b≠46→hasB (says10B 3) b=hasB (saysB 3) b):=fun b hb=>says10_has _ b hb
        obtain ⟨SB,hSB⟩:∃SB,says10B 3=SB:=⟨_,rfl⟩
        have SZ10:Hid (SB.size≤2):=by
          unfold Hid;rw [←hSB];decide
        have s75:hasB SB 75=true:=by rw [←hSB,HS.out _ (by omega)];rfl
        have s73:hasB SB 73=false:=by rw [←hSB,HS.out _ (by omega)];rfl
        have s74:hasB SB 74=false:=by rw [←hSB,HS.out _ (by omega)];rfl
        have s78:hasB SB 78=false:=by rw [←hSB,HS.out _ (by omega)];rfl
        have s86:hasB SB 86=false:=by rw [←hSB,HS.out _ (by omega)];rfl
        have s83:hasB SB 83=false:=by rw [←hSB,HS.out _ (by omega)];rfl
        have HSB:=Lib.hid hSB
        clear hSB
        clear hTk
        go_wp2_with (first|(go_at_call 48;(with_reducible refine (says10_any _ _).mono ?_);rintro e w2 ⟨rfl,hb2⟩;rw [HSB.out];replace wx:=wx.behind hb2;obtain ⟨y0,y1,y2,y3,y4,y5,y6,y7,y8,y9,y10,y11⟩:=row12 wx.at_)|(go_at_call 49;(with_reducible refine (in10_75_any _ _ ?_).mono ?_);(focus (have:=SZ10.out;omega));rintro e w2 ⟨rfl,hb2⟩;replace wx:=wx.behind hb2;obtain ⟨y0,y1,y2,y3,y4,y5,y6,y7,y8,y9,y10,y11⟩:=row12 wx.at_)|(go_at_call 49;(with_reducible refine (in10_73_any _ _ ?_).mono ?_);(focus (have:=SZ10.out;omega));rintro e w2 ⟨rfl,hb2⟩;replace wx:=wx.behind hb2;obtain ⟨y0,y1,y2,y3,y4,y5,y6,y7,y8,y9,y10,y11⟩:=row12 wx.at_)|(go_at_call 49;(with_reducible refine (in10_74_any _ _ ?_).mono ?_);(focus (have:=SZ10.out;omega));rintro e w2 ⟨rfl,hb2⟩;replace wx:=wx.behind hb2;obtain ⟨y0,y1,y2,y3,y4,y5,y6,y7,y8,y9,y10,y11⟩:=row12 wx.at_)|(go_at_call 49;(with_reducible refine (in10_78_any _ _ ?_).mono ?_);(focus (have:=SZ10.out;omega));rintro e w2 ⟨rfl,hb2⟩;replace wx:=wx.behind hb2;obtain ⟨y0,y1,y2,y3,y4,y5,y6,y7,y8,y9,y10,y11⟩:=row12 wx.at_)|(go_at_call 49;(with_reducible refine (in10_86_any _ _ ?_).mono ?_);(focus (have:=SZ10.out;omega));rintro e w2 ⟨rfl,hb2⟩;replace wx:=wx.behind hb2;obtain ⟨y0,y1,y2,y3,y4,y5,y6,y7,y8,y9,y10,y11⟩:=row12 wx.at_)|(go_at_call 49;(with_reducible refine (in10_83_any _ _ ?_).mono ?_);(focus (have:=SZ10.out;omega));rintro e w2 ⟨rfl,hb2⟩;replace wx:=wx.behind hb2;obtain ⟨y0,y1,y2,y3,y4,y5,y6,y7,y8,y9,y10,y11⟩:=row12 wx.at_)|(go_at_call 47;(with_reducible refine (refText_any _ _ B wb _ _ wx.wrt ?_).mono ?_);(focus ((first|omega|(simp only [List.length_append];omega)|(simp only [List.length_append,be_length];omega))));rintro e w2 ⟨rfl,v2,hr2,hs2⟩;replace wx:=wx.next hr2 hs2;obtain ⟨y0,y1,y2,y3,y4,y5,y6,y7,y8,y9,y10,y11⟩:=row12 wx.at_))
        go_returns
        exact ⟨rfl,_,by rw [HQ.out,HTK.out];have:=wx.wrt;first|exact this|(simp only [List.append_assoc] at this ⊢;exact this)|(simp only [List.append_nil] at this ⊢;exact this),wx.st⟩
      have f3:(ck==3)=false:=by simp [e3]
      by_cases e4:ck=4
      case pos=>
        subst e4
        have hTk:T=be (i % 18446744073709551616).toNat 8++encV vv:=by rw [←HT.out];simp [encT,saysB,hasB]
        rw [hTk] at hQL
        have HTK:=Lib.hid hTk
        simp only [List.length_append,be_length] at hQL
        have HS:Hid (∀b:Nat,b≠46→hasB (says10B 4) b=hasB (saysB 4) b):=fun b hb=>says10_has _ b hb
        obtain ⟨SB,hSB⟩:∃SB,says10B 4=SB:=⟨_,rfl⟩
        have SZ10:Hid (SB.size≤2):=by
          unfold Hid;rw [←hSB];decide
        have s75:hasB SB 75=false:=by rw [←hSB,HS.out _ (by omega)];rfl
        have s73:hasB SB 73=true:=by rw [←hSB,HS.out _ (by omega)];rfl
        have s74:hasB SB 74=false:=by rw [←hSB,HS.out _ (by omega)];rfl
        have s78:hasB SB 78=false:=by rw [←hSB,HS.out _ (by omega)];rfl
        have s86:hasB SB 86=true:=by rw [←hSB,HS.out _ (by omega)];rfl
        have s83:hasB SB 83=false:=by rw [←hSB,HS.out _ (by omega)];rfl
        have HSB:=Lib.hid hSB
        clear hSB
        clear hTk
        go_wp2_with (first|(go_at_call 48;(with_reducible refine (says10_any _ _).mono ?_);rintro e w2 ⟨rfl,hb2⟩;rw [HSB.out];replace wx:=wx.behind hb2;obtain ⟨y0,y1,y2,y3,y4,y5,y6,y7,y8,y9,y10,y11⟩:=row12 wx.at_)|(go_at_call 49;(with_reducible refine (in10_75_any _ _ ?_).mono ?_);(focus (have:=SZ10.out;omega));rintro e w2 ⟨rfl,hb2⟩;replace wx:=wx.behind hb2;obtain ⟨y0,y1,y2,y3,y4,y5,y6,y7,y8,y9,y10,y11⟩:=row12 wx.at_)|(go_at_call 49;(with_reducible refine (in10_73_any _ _ ?_).mono ?_);(focus (have:=SZ10.out;omega));rintro e w2 ⟨rfl,hb2⟩;replace wx:=wx.behind hb2;obtain ⟨y0,y1,y2,y3,y4,y5,y6,y7,y8,y9,y10,y11⟩:=row12 wx.at_)|(go_at_call 49;(with_reducible refine (in10_74_any _ _ ?_).mono ?_);(focus (have:=SZ10.out;omega));rintro e w2 ⟨rfl,hb2⟩;replace wx:=wx.behind hb2;obtain ⟨y0,y1,y2,y3,y4,y5,y6,y7,y8,y9,y10,y11⟩:=row12 wx.at_)|(go_at_call 49;(with_reducible refine (in10_78_any _ _ ?_).mono ?_);(focus (have:=SZ10.out;omega));rintro e w2 ⟨rfl,hb2⟩;replace wx:=wx.behind hb2;obtain ⟨y0,y1,y2,y3,y4,y5,y6,y7,y8,y9,y10,y11⟩:=row12 wx.at_)|(go_at_call 49;(with_reducible refine (in10_86_any _ _ ?_).mono ?_);(focus (have:=SZ10.out;omega));rintro e w2 ⟨rfl,hb2⟩;replace wx:=wx.behind hb2;obtain ⟨y0,y1,y2,y3,y4,y5,y6,y7,y8,y9,y10,y11⟩:=row12 wx.at_)|(go_at_call 49;(with_reducible refine (in10_83_any _ _ ?_).mono ?_);(focus (have:=SZ10.out;omega));rintro e w2 ⟨rfl,hb2⟩;replace wx:=wx.behind hb2;obtain ⟨y0,y1,y2,y3,y4,y5,y6,y7,y8,y9,y10,y11⟩:=row12 wx.at_)|(go_at_call 26;(with_reducible refine (number8m_any _ _ B wb _ _ wx.wrt ?_).mono ?_);(focus ((first|omega|(simp only [List.length_append];omega)|(simp only [List.length_append,be_length];omega))));rintro e w2 ⟨rfl,v2,hr2,hs2⟩;replace wx:=wx.next hr2 hs2;obtain ⟨y0,y1,y2,y3,y4,y5,y6,y7,y8,y9,y10,y11⟩:=row12 wx.at_)|(go_at_call 27;(with_reducible refine (refValueX_any vv vk vn vs vla vll vlc voa vol voc _ B wb _ _ wx.wrt (HV.out _ (H0.out.keeps wx.st)) ?_).mono ?_);(focus ((first|omega|(simp only [List.length_append];omega)|(simp only [List.length_append,be_length];omega))));rintro e w2 ⟨rfl,v2,hr2,hs2⟩;replace wx:=wx.next hr2 hs2;obtain ⟨y0,y1,y2,y3,y4,y5,y6,y7,y8,y9,y10,y11⟩:=row12 wx.at_))
        go_returns
        exact ⟨rfl,_,by rw [HQ.out,HTK.out];have:=wx.wrt;first|exact this|(simp only [List.append_assoc] at this ⊢;exact this)|(simp only [List.append_nil] at this ⊢;exact this),wx.st⟩
      have f4:(ck==4)=false:=by simp [e4]
      by_cases e5:ck=5
      case pos=>
        subst e5
        have hTk:T=be (i % 18446744073709551616).toNat 8:=by rw [←HT.out];simp [encT,saysB,hasB]
        rw [hTk] at hQL
        have HTK:=Lib.hid hTk
        simp only [be_length] at hQL
        have HS:Hid (∀b:Nat,b≠46→hasB (says10B 5) b=hasB (saysB 5) b):=fun b hb=>says10_has _ b hb
        obtain ⟨SB,hSB⟩:∃SB,says10B 5=SB:=⟨_,rfl⟩
        have SZ10:Hid (SB.size≤2):=by
          unfold Hid;rw [←hSB];decide
        have s75:hasB SB 75=false:=by rw [←hSB,HS.out _ (by omega)];rfl
        have s73:hasB SB 73=true:=by rw [←hSB,HS.out _ (by omega)];rfl
        have s74:hasB SB 74=false:=by rw [←hSB,HS.out _ (by omega)];rfl
        have s78:hasB SB 78=false:=by rw [←hSB,HS.out _ (by omega)];rfl
        have s86:hasB SB 86=false:=by rw [←hSB,HS.out _ (by omega)];rfl
        have s83:hasB SB 83=false:=by rw [←hSB,HS.out _ (by omega)];rfl
        have HSB:=Lib.hid hSB
        clear hSB
        clear hTk
        go_wp2_with (first|(go_at_call 48;(with_reducible refine (says10_any _ _).mono ?_);rintro e w2 ⟨rfl,hb2⟩;rw [HSB.out];replace wx:=wx.behind hb2;obtain ⟨y0,y1,y2,y3,y4,y5,y6,y7,y8,y9,y10,y11⟩:=row12 wx.at_)|(go_at_call 49;(with_reducible refine (in10_75_any _ _ ?_).mono ?_);(focus (have:=SZ10.out;omega));rintro e w2 ⟨rfl,hb2⟩;replace wx:=wx.behind hb2;obtain ⟨y0,y1,y2,y3,y4,y5,y6,y7,y8,y9,y10,y11⟩:=row12 wx.at_)|(go_at_call 49;(with_reducible refine (in10_73_any _ _ ?_).mono ?_);(focus (have:=SZ10.out;omega));rintro e w2 ⟨rfl,hb2⟩;replace wx:=wx.behind hb2;obtain ⟨y0,y1,y2,y3,y4,y5,y6,y7,y8,y9,y10,y11⟩:=row12 wx.at_)|(go_at_call 49;(with_reducible refine (in10_74_any _ _ ?_).mono ?_);(focus (have:=SZ10.out;omega));rintro e w2 ⟨rfl,hb2⟩;replace wx:=wx.behind hb2;obtain ⟨y0,y1,y2,y3,y4,y5,y6,y7,y8,y9,y10,y11⟩:=row12 wx.at_)|(go_at_call 49;(with_reducible refine (in10_78_any _ _ ?_).mono ?_);(focus (have:=SZ10.out;omega));rintro e w2 ⟨rfl,hb2⟩;replace wx:=wx.behind hb2;obtain ⟨y0,y1,y2,y3,y4,y5,y6,y7,y8,y9,y10,y11⟩:=row12 wx.at_)|(go_at_call 49;(with_reducible refine (in10_86_any _ _ ?_).mono ?_);(focus (have:=SZ10.out;omega));rintro e w2 ⟨rfl,hb2⟩;replace wx:=wx.behind hb2;obtain ⟨y0,y1,y2,y3,y4,y5,y6,y7,y8,y9,y10,y11⟩:=row12 wx.at_)|(go_at_call 49;(with_reducible refine (in10_83_any _ _ ?_).mono ?_);(focus (have:=SZ10.out;omega));rintro e w2 ⟨rfl,hb2⟩;replace wx:=wx.behind hb2;obtain ⟨y0,y1,y2,y3,y4,y5,y6,y7,y8,y9,y10,y11⟩:=row12 wx.at_)|(go_at_call 26;(with_reducible refine (number8m_any _ _ B wb _ _ wx.wrt ?_).mono ?_);(focus ((first|omega|(simp only [List.length_append];omega)|(simp only [List.length_append,be_length];omega))));rintro e w2 ⟨rfl,v2,hr2,hs2⟩;replace wx:=wx.next hr2 hs2;obtain ⟨y0,y1,y2,y3,y4,y5,y6,y7,y8,y9,y10,y11⟩:=row12 wx.at_))
        go_returns
        exact ⟨rfl,_,by rw [HQ.out,HTK.out];have:=wx.wrt;first|exact this|(simp only [List.append_assoc] at this ⊢;exact this)|(simp only [List.append_nil] at this ⊢;exact this),wx.st⟩
      have f5:(ck==5)=false:=by simp [e5]
      by_cases e6:ck=6
      case pos=>
        subst e6
        have hTk:T=be (i % 18446744073709551616).toNat 8++encV vv:=by rw [←HT.out];simp [encT,saysB,hasB]
        rw [hTk] at hQL
        have HTK:=Lib.hid hTk
        simp only [List.length_append,be_length] at hQL
        have HS:Hid (∀b:Nat,b≠46→hasB (says10B 6) b=hasB (saysB 6) b):=fun b hb=>says10_has _ b hb
        obtain ⟨SB,hSB⟩:∃SB,says10B 6=SB:=⟨_,rfl⟩
        have SZ10:Hid (SB.size≤2):=by
          unfold Hid;rw [←hSB];decide
        have s75:hasB SB 75=false:=by rw [←hSB,HS.out _ (by omega)];rfl
        have s73:hasB SB 73=true:=by rw [←hSB,HS.out _ (by omega)];rfl
        have s74:hasB SB 74=false:=by rw [←hSB,HS.out _ (by omega)];rfl
        have s78:hasB SB 78=false:=by rw [←hSB,HS.out _ (by omega)];rfl
        have s86:hasB SB 86=true:=by rw [←hSB,HS.out _ (by omega)];rfl
        have s83:hasB SB 83=false:=by rw [←hSB,HS.out _ (by omega)];rfl
        have HSB:=Lib.hid hSB
        clear hSB
        clear hTk
        go_wp2_with (first|(go_at_call 48;(with_reducible refine (says10_any _ _).mono ?_);rintro e w2 ⟨rfl,hb2⟩;rw [HSB.out];replace wx:=wx.behind hb2;obtain ⟨y0,y1,y2,y3,y4,y5,y6,y7,y8,y9,y10,y11⟩:=row12 wx.at_)|(go_at_call 49;(with_reducible refine (in10_75_any _ _ ?_).mono ?_);(focus (have:=SZ10.out;omega));rintro e w2 ⟨rfl,hb2⟩;replace wx:=wx.behind hb2;obtain ⟨y0,y1,y2,y3,y4,y5,y6,y7,y8,y9,y10,y11⟩:=row12 wx.at_)|(go_at_call 49;(with_reducible refine (in10_73_any _ _ ?_).mono ?_);(focus (have:=SZ10.out;omega));rintro e w2 ⟨rfl,hb2⟩;replace wx:=wx.behind hb2;obtain ⟨y0,y1,y2,y3,y4,y5,y6,y7,y8,y9,y10,y11⟩:=row12 wx.at_)|(go_at_call 49;(with_reducible refine (in10_74_any _ _ ?_).mono ?_);(focus (have:=SZ10.out;omega));rintro e w2 ⟨rfl,hb2⟩;replace wx:=wx.behind hb2;obtain ⟨y0,y1,y2,y3,y4,y5,y6,y7,y8,y9,y10,y11⟩:=row12 wx.at_)|(go_at_call 49;(with_reducible refine (in10_78_any _ _ ?_).mono ?_);(focus (have:=SZ10.out;omega));rintro e w2 ⟨rfl,hb2⟩;replace wx:=wx.behind hb2;obtain ⟨y0,y1,y2,y3,y4,y5,y6,y7,y8,y9,y10,y11⟩:=row12 wx.at_)|(go_at_call 49;(with_reducible refine (in10_86_any _ _ ?_).mono ?_);(focus (have:=SZ10.out;omega));rintro e w2 ⟨rfl,hb2⟩;replace wx:=wx.behind hb2;obtain ⟨y0,y1,y2,y3,y4,y5,y6,y7,y8,y9,y10,y11⟩:=row12 wx.at_)|(go_at_call 49;(with_reducible refine (in10_83_any _ _ ?_).mono ?_);(focus (have:=SZ10.out;omega));rintro e w2 ⟨rfl,hb2⟩;replace wx:=wx.behind hb2;obtain ⟨y0,y1,y2,y3,y4,y5,y6,y7,y8,y9,y10,y11⟩:=row12 wx.at_)|(go_at_call 26;(with_reducible refine (number8m_any _ _ B wb _ _ wx.wrt ?_).mono ?_);(focus ((first|omega|(simp only [List.length_append];omega)|(simp only [List.length_append,be_length];omega))));rintro e w2 ⟨rfl,v2,hr2,hs2⟩;replace wx:=wx.next hr2 hs2;obtain ⟨y0,y1,y2,y3,y4,y5,y6,y7,y8,y9,y10,y11⟩:=row12 wx.at_)|(go_at_call 27;(with_reducible refine (refValueX_any vv vk vn vs vla vll vlc voa vol voc _ B wb _ _ wx.wrt (HV.out _ (H0.out.keeps wx.st)) ?_).mono ?_);(focus ((first|omega|(simp only [List.length_append];omega)|(simp only [List.length_append,be_length];omega))));rintro e w2 ⟨rfl,v2,hr2,hs2⟩;replace wx:=wx.next hr2 hs2;obtain ⟨y0,y1,y2,y3,y4,y5,y6,y7,y8,y9,y10,y11⟩:=row12 wx.at_))
        go_returns
        exact ⟨rfl,_,by rw [HQ.out,HTK.out];have:=wx.wrt;first|exact this|(simp only [List.append_assoc] at this ⊢;exact this)|(simp only [List.append_nil] at this ⊢;exact this),wx.st⟩
      have f6:(ck==6)=false:=by simp [e6]
      by_cases e7:ck=7
      case pos=>
        subst e7
        have hTk:T=be (i % 18446744073709551616).toNat 8++be (j % 18446744073709551616).toNat 8:=by rw [←HT.out];simp [encT,saysB,hasB]
        rw [hTk] at hQL
        have HTK:=Lib.hid hTk
        simp only [List.length_append,be_length] at hQL
        have HS:Hid (∀b:Nat,b≠46→hasB (says10B 7) b=hasB (saysB 7) b):=fun b hb=>says10_has _ b hb
        obtain ⟨SB,hSB⟩:∃SB,says10B 7=SB:=⟨_,rfl⟩
        have SZ10:Hid (SB.size≤2):=by
          unfold Hid;rw [←hSB];decide
        have s75:hasB SB 75=false:=by rw [←hSB,HS.out _ (by omega)];rfl
        have s73:hasB SB 73=true:=by rw [←hSB,HS.out _ (by omega)];rfl
        have s74:hasB SB 74=true:=by rw [←hSB,HS.out _ (by omega)];rfl
        have s78:hasB SB 78=false:=by rw [←hSB,HS.out _ (by omega)];rfl
        have s86:hasB SB 86=false:=by rw [←hSB,HS.out _ (by omega)];rfl
        have s83:hasB SB 83=false:=by rw [←hSB,HS.out _ (by omega)];rfl
        have HSB:=Lib.hid hSB
        clear hSB
        clear hTk
        go_wp2_with (first|(go_at_call 48;(with_reducible refine (says10_any _ _).mono ?_);rintro e w2 ⟨rfl,hb2⟩;rw [HSB.out];replace wx:=wx.behind hb2;obtain ⟨y0,y1,y2,y3,y4,y5,y6,y7,y8,y9,y10,y11⟩:=row12 wx.at_)|(go_at_call 49;(with_reducible refine (in10_75_any _ _ ?_).mono ?_);(focus (have:=SZ10.out;omega));rintro e w2 ⟨rfl,hb2⟩;replace wx:=wx.behind hb2;obtain ⟨y0,y1,y2,y3,y4,y5,y6,y7,y8,y9,y10,y11⟩:=row12 wx.at_)|(go_at_call 49;(with_reducible refine (in10_73_any _ _ ?_).mono ?_);(focus (have:=SZ10.out;omega));rintro e w2 ⟨rfl,hb2⟩;replace wx:=wx.behind hb2;obtain ⟨y0,y1,y2,y3,y4,y5,y6,y7,y8,y9,y10,y11⟩:=row12 wx.at_)|(go_at_call 49;(with_reducible refine (in10_74_any _ _ ?_).mono ?_);(focus (have:=SZ10.out;omega));rintro e w2 ⟨rfl,hb2⟩;replace wx:=wx.behind hb2;obtain ⟨y0,y1,y2,y3,y4,y5,y6,y7,y8,y9,y10,y11⟩:=row12 wx.at_)|(go_at_call 49;(with_reducible refine (in10_78_any _ _ ?_).mono ?_);(focus (have:=SZ10.out;omega));rintro e w2 ⟨rfl,hb2⟩;replace wx:=wx.behind hb2;obtain ⟨y0,y1,y2,y3,y4,y5,y6,y7,y8,y9,y10,y11⟩:=row12 wx.at_)|(go_at_call 49;(with_reducible refine (in10_86_any _ _ ?_).mono ?_);(focus (have:=SZ10.out;omega));rintro e w2 ⟨rfl,hb2⟩;replace wx:=wx.behind hb2;obtain ⟨y0,y1,y2,y3,y4,y5,y6,y7,y8,y9,y10,y11⟩:=row12 wx.at_)|(go_at_call 49;(with_reducible refine (in10_83_any _ _ ?_).mono ?_);(focus (have:=SZ10.out;omega));rintro e w2 ⟨rfl,hb2⟩;replace wx:=wx.behind hb2;obtain ⟨y0,y1,y2,y3,y4,y5,y6,y7,y8,y9,y10,y11⟩:=row12 wx.at_)|(go_at_call 26;(with_reducible refine (number8m_any _ _ B wb _ _ wx.wrt ?_).mono ?_);(focus ((first|omega|(simp only [List.length_append];omega)|(simp only [List.length_append,be_length];omega))));rintro e w2 ⟨rfl,v2,hr2,hs2⟩;replace wx:=wx.next hr2 hs2;obtain ⟨y0,y1,y2,y3,y4,y5,y6,y7,y8,y9,y10,y11⟩:=row12 wx.at_))
        go_returns
        exact ⟨rfl,_,by rw [HQ.out,HTK.out];have:=wx.wrt;first|exact this|(simp only [List.append_assoc] at this ⊢;exact this)|(simp only [List.append_nil] at this ⊢;exact this),wx.st⟩
      have f7:(ck==7)=false:=by simp [e7]
      by_cases e8:ck=8
      case pos=>
        subst e8
        have hTk:T=be (i % 18446744073709551616).toNat 8++encS s:=by rw [←HT.out];simp [encT,saysB,hasB]
        rw [hTk] at hQL
        have HTK:=Lib.hid hTk
        simp only [List.length_append,be_length] at hQL
        have HS:Hid (∀b:Nat,b≠46→hasB (says10B 8) b=hasB (saysB 8) b):=fun b hb=>says10_has _ b hb
        obtain ⟨SB,hSB⟩:∃SB,says10B 8=SB:=⟨_,rfl⟩
        have SZ10:Hid (SB.size≤2):=by
          unfold Hid;rw [←hSB];decide
        have s75:hasB SB 75=false:=by rw [←hSB,HS.out _ (by omega)];rfl
        have s73:hasB SB 73=true:=by rw [←hSB,HS.out _ (by omega)];rfl
        have s74:hasB SB 74=false:=by rw [←hSB,HS.out _ (by omega)];rfl
        have s78:hasB SB 78=false:=by rw [←hSB,HS.out _ (by omega)];rfl
        have s86:hasB SB 86=false:=by rw [←hSB,HS.out _ (by omega)];rfl
        have s83:hasB SB 83=true:=by rw [←hSB,HS.out _ (by omega)];rfl
        have HSB:=Lib.hid hSB
        clear hSB
        clear hTk
        go_wp2_with (first|(go_at_call 48;(with_reducible refine (says10_any _ _).mono ?_);rintro e w2 ⟨rfl,hb2⟩;rw [HSB.out];replace wx:=wx.behind hb2;obtain ⟨y0,y1,y2,y3,y4,y5,y6,y7,y8,y9,y10,y11⟩:=row12 wx.at_)|(go_at_call 49;(with_reducible refine (in10_75_any _ _ ?_).mono ?_);(focus (have:=SZ10.out;omega));rintro e w2 ⟨rfl,hb2⟩;replace wx:=wx.behind hb2;obtain ⟨y0,y1,y2,y3,y4,y5,y6,y7,y8,y9,y10,y11⟩:=row12 wx.at_)|(go_at_call 49;(with_reducible refine (in10_73_any _ _ ?_).mono ?_);(focus (have:=SZ10.out;omega));rintro e w2 ⟨rfl,hb2⟩;replace wx:=wx.behind hb2;obtain ⟨y0,y1,y2,y3,y4,y5,y6,y7,y8,y9,y10,y11⟩:=row12 wx.at_)|(go_at_call 49;(with_reducible refine (in10_74_any _ _ ?_).mono ?_);(focus (have:=SZ10.out;omega));rintro e w2 ⟨rfl,hb2⟩;replace wx:=wx.behind hb2;obtain ⟨y0,y1,y2,y3,y4,y5,y6,y7,y8,y9,y10,y11⟩:=row12 wx.at_)|(go_at_call 49;(with_reducible refine (in10_78_any _ _ ?_).mono ?_);(focus (have:=SZ10.out;omega));rintro e w2 ⟨rfl,hb2⟩;replace wx:=wx.behind hb2;obtain ⟨y0,y1,y2,y3,y4,y5,y6,y7,y8,y9,y10,y11⟩:=row12 wx.at_)|(go_at_call 49;(with_reducible refine (in10_86_any _ _ ?_).mono ?_);(focus (have:=SZ10.out;omega));rintro e w2 ⟨rfl,hb2⟩;replace wx:=wx.behind hb2;obtain ⟨y0,y1,y2,y3,y4,y5,y6,y7,y8,y9,y10,y11⟩:=row12 wx.at_)|(go_at_call 49;(with_reducible refine (in10_83_any _ _ ?_).mono ?_);(focus (have:=SZ10.out;omega));rintro e w2 ⟨rfl,hb2⟩;replace wx:=wx.behind hb2;obtain ⟨y0,y1,y2,y3,y4,y5,y6,y7,y8,y9,y10,y11⟩:=row12 wx.at_)|(go_at_call 26;(with_reducible refine (number8m_any _ _ B wb _ _ wx.wrt ?_).mono ?_);(focus ((first|omega|(simp only [List.length_append];omega)|(simp only [List.length_append,be_length];omega))));rintro e w2 ⟨rfl,v2,hr2,hs2⟩;replace wx:=wx.next hr2 hs2;obtain ⟨y0,y1,y2,y3,y4,y5,y6,y7,y8,y9,y10,y11⟩:=row12 wx.at_)|(go_at_call 47;(with_reducible refine (refText_any _ _ B wb _ _ wx.wrt ?_).mono ?_);(focus ((first|omega|(simp only [List.length_append];omega)|(simp only [List.length_append,be_length];omega))));rintro e w2 ⟨rfl,v2,hr2,hs2⟩;replace wx:=wx.next hr2 hs2;obtain ⟨y0,y1,y2,y3,y4,y5,y6,y7,y8,y9,y10,y11⟩:=row12 wx.at_))
        go_returns
        exact ⟨rfl,_,by rw [HQ.out,HTK.out];have:=wx.wrt;first|exact this|(simp only [List.append_assoc] at this ⊢;exact this)|(simp only [List.append_nil] at this ⊢;exact this),wx.st⟩
      have f8:(ck==8)=false:=by simp [e8]
      by_cases e9:ck=9
      case pos=>
        subst e9
        have hTk:T=be (i % 18446744073709551616).toNat 8++be (n % 18446744073709551616).toNat 8:=by rw [←HT.out];simp [encT,saysB,hasB]
        rw [hTk] at hQL
        have HTK:=Lib.hid hTk
        simp only [List.length_append,be_length] at hQL
        have HS:Hid (∀b:Nat,b≠46→hasB (says10B 9) b=hasB (saysB 9) b):=fun b hb=>says10_has _ b hb
        obtain ⟨SB,hSB⟩:∃SB,says10B 9=SB:=⟨_,rfl⟩
        have SZ10:Hid (SB.size≤2):=by
          unfold Hid;rw [←hSB];decide
        have s75:hasB SB 75=false:=by rw [←hSB,HS.out _ (by omega)];rfl
        have s73:hasB SB 73=true:=by rw [←hSB,HS.out _ (by omega)];rfl
        have s74:hasB SB 74=false:=by rw [←hSB,HS.out _ (by omega)];rfl
        have s78:hasB SB 78=true:=by rw [←hSB,HS.out _ (by omega)];rfl
        have s86:hasB SB 86=false:=by rw [←hSB,HS.out _ (by omega)];rfl
        have s83:hasB SB 83=false:=by rw [←hSB,HS.out _ (by omega)];rfl
        have HSB:=Lib.hid hSB
        clear hSB
        clear hTk
        go_wp2_with (first|(go_at_call 48;(with_reducible refine (says10_any _ _).mono ?_);rintro e w2 ⟨rfl,hb2⟩;rw [HSB.out];replace wx:=wx.behind hb2;obtain ⟨y0,y1,y2,y3,y4,y5,y6,y7,y8,y9,y10,y11⟩:=row12 wx.at_)|(go_at_call 49;(with_reducible refine (in10_75_any _ _ ?_).mono ?_);(focus (have:=SZ10.out;omega));rintro e w2 ⟨rfl,hb2⟩;replace wx:=wx.behind hb2;obtain ⟨y0,y1,y2,y3,y4,y5,y6,y7,y8,y9,y10,y11⟩:=row12 wx.at_)|(go_at_call 49;(with_reducible refine (in10_73_any _ _ ?_).mono ?_);(focus (have:=SZ10.out;omega));rintro e w2 ⟨rfl,hb2⟩;replace wx:=wx.behind hb2;obtain ⟨y0,y1,y2,y3,y4,y5,y6,y7,y8,y9,y10,y11⟩:=row12 wx.at_)|(go_at_call 49;(with_reducible refine (in10_74_any _ _ ?_).mono ?_);(focus (have:=SZ10.out;omega));rintro e w2 ⟨rfl,hb2⟩;replace wx:=wx.behind hb2;obtain ⟨y0,y1,y2,y3,y4,y5,y6,y7,y8,y9,y10,y11⟩:=row12 wx.at_)|(go_at_call 49;(with_reducible refine (in10_78_any _ _ ?_).mono ?_);(focus (have:=SZ10.out;omega));rintro e w2 ⟨rfl,hb2⟩;replace wx:=wx.behind hb2;obtain ⟨y0,y1,y2,y3,y4,y5,y6,y7,y8,y9,y10,y11⟩:=row12 wx.at_)|(go_at_call 49;(with_reducible refine (in10_86_any _ _ ?_).mono ?_);(focus (have:=SZ10.out;omega));rintro e w2 ⟨rfl,hb2⟩;replace wx:=wx.behind hb2;obtain ⟨y0,y1,y2,y3,y4,y5,y6,y7,y8,y9,y10,y11⟩:=row12 wx.at_)|(go_at_call 49;(with_reducible refine (in10_83_any _ _ ?_).mono ?_);(focus (have:=SZ10.out;omega));rintro e w2 ⟨rfl,hb2⟩;replace wx:=wx.behind hb2;obtain ⟨y0,y1,y2,y3,y4,y5,y6,y7,y8,y9,y10,y11⟩:=row12 wx.at_)|(go_at_call 26;(with_reducible refine (number8m_any _ _ B wb _ _ wx.wrt ?_).mono ?_);(focus ((first|omega|(simp only [List.length_append];omega)|(simp only [List.length_append,be_length];omega))));rintro e w2 ⟨rfl,v2,hr2,hs2⟩;replace wx:=wx.next hr2 hs2;obtain ⟨y0,y1,y2,y3,y4,y5,y6,y7,y8,y9,y10,y11⟩:=row12 wx.at_))
        go_returns
        exact ⟨rfl,_,by rw [HQ.out,HTK.out];have:=wx.wrt;first|exact this|(simp only [List.append_assoc] at this ⊢;exact this)|(simp only [List.append_nil] at this ⊢;exact this),wx.st⟩
      have f9:(ck==9)=false:=by simp [e9]
      have hTk:T= [] :=by rw [←HT.out];simp [encT,saysB,hasB,e1,e2,e3,e4,e5,e6,e7,e8,e9]
      rw [hTk] at hQL
      have HTK:=Lib.hid hTk
      simp only [List.length_nil] at hQL
      have HS:Hid (∀b:Nat,b≠46→hasB (says10B ck) b=hasB (saysB ck) b):=fun b hb=>says10_has _ b hb
      obtain ⟨SB,hSB⟩:∃SB,says10B ck=SB:=⟨_,rfl⟩
      have SZ10:Hid (SB.size≤2):=by
        unfold Hid;rw [←hSB];unfold says10B;split
        · decide
        · simp [saysB,e1,e2,e3,e4,e5,e6,e7,e8,e9];decide
      have s75:hasB SB 75=false:=by rw [←hSB,HS.out _ (by omega)];simp [saysB,hasB,e1,e2,e3,e4,e5,e6,e7,e8,e9]
      have s73:hasB SB 73=false:=by rw [←hSB,HS.out _ (by omega)];simp [saysB,hasB,e1,e2,e3,e4,e5,e6,e7,e8,e9]
      have s74:hasB SB 74=false:=by rw [←hSB,HS.out _ (by omega)];simp [saysB,hasB,e1,e2,e3,e4,e5,e6,e7,e8,e9]
      have s78:hasB SB 78=false:=by rw [←hSB,HS.out _ (by omega)];simp [saysB,hasB,e1,e2,e3,e4,e5,e6,e7,e8,e9]
      have s86:hasB SB 86=false:=by rw [←hSB,HS.out _ (by omega)];simp [saysB,hasB,e1,e2,e3,e4,e5,e6,e7,e8,e9]
      have s83:hasB SB 83=false:=by rw [←hSB,HS.out _ (by omega)];simp [saysB,hasB,e1,e2,e3,e4,e5,e6,e7,e8,e9]
      have HSB:=Lib.hid hSB
      clear hSB
      clear e1 e2 e3 e4 e5 e6 e7 e8 e9
      clear hTk
      go_wp2_with (first|(go_at_call 48;(with_reducible refine (says10_any _ _).mono ?_);rintro e w2 ⟨rfl,hb2⟩;rw [HSB.out];replace wx:=wx.behind hb2;obtain ⟨y0,y1,y2,y3,y4,y5,y6,y7,y8,y9,y10,y11⟩:=row12 wx.at_)|(go_at_call 49;(with_reducible refine (in10_75_any _ _ ?_).mono ?_);(focus (have:=SZ10.out;omega));rintro e w2 ⟨rfl,hb2⟩;replace wx:=wx.behind hb2;obtain ⟨y0,y1,y2,y3,y4,y5,y6,y7,y8,y9,y10,y11⟩:=row12 wx.at_)|(go_at_call 49;(with_reducible refine (in10_73_any _ _ ?_).mono ?_);(focus (have:=SZ10.out;omega));rintro e w2 ⟨rfl,hb2⟩;replace wx:=wx.behind hb2;obtain ⟨y0,y1,y2,y3,y4,y5,y6,y7,y8,y9,y10,y11⟩:=row12 wx.at_)|(go_at_call 49;(with_reducible refine (in10_74_any _ _ ?_).mono ?_);(focus (have:=SZ10.out;omega));rintro e w2 ⟨rfl,hb2⟩;replace wx:=wx.behind hb2;obtain ⟨y0,y1,y2,y3,y4,y5,y6,y7,y8,y9,y10,y11⟩:=row12 wx.at_)|(go_at_call 49;(with_reducible refine (in10_78_any _ _ ?_).mono ?_);(focus (have:=SZ10.out;omega));rintro e w2 ⟨rfl,hb2⟩;replace wx:=wx.behind hb2;obtain ⟨y0,y1,y2,y3,y4,y5,y6,y7,y8,y9,y10,y11⟩:=row12 wx.at_)|(go_at_call 49;(with_reducible refine (in10_86_any _ _ ?_).mono ?_);(focus (have:=SZ10.out;omega));rintro e w2 ⟨rfl,hb2⟩;replace wx:=wx.behind hb2;obtain ⟨y0,y1,y2,y3,y4,y5,y6,y7,y8,y9,y10,y11⟩:=row12 wx.at_)|(go_at_call 49;(with_reducible refine (in10_83_any _ _ ?_).mono ?_);(focus (have:=SZ10.out;omega));rintro e w2 ⟨rfl,hb2⟩;replace wx:=wx.behind hb2;obtain ⟨y0,y1,y2,y3,y4,y5,y6,y7,y8,y9,y10,y11⟩:=row12 wx.at_))
      go_returns
      exact ⟨rfl,_,by rw [HQ.out,HTK.out];have:=wx.wrt;first|exact this|(simp only [List.append_assoc] at this ⊢;exact this)|(simp only [List.append_nil] at this ⊢;exact this),wx.st⟩
end Go.Proofs.YtgcfhkceejcliaaGreatDoor
namespace Go.Proofs.YtgcfhkceejcliaaGreatDoor
open Go.RowKit
structure BX (w W:World) (cs:List Value):Prop where
  at_:∀j x,cs[j]? =some x→W.cell? ⟨w.heap.size,j,none⟩=some x
  below:Below w.heap.size w W
  size:w.heap.size+1≤W.heap.size
theorem BX.step {w W W':World} {cs:List Value} (h:BX w W cs) (hb:Below W.heap.size W W'):BX w W' cs:=
  ⟨fun j x hj=>keep_cell hb (h.at_ j x hj) (by have:=h.size;omega),h.below.trans (hb.mono (by have:=h.size;omega)),by have:=h.size;have:=hb.size;omega⟩
theorem BX.next {w W W1 W2:World} {B:Nat} {cs:List Value} (h:BX w W cs) (hb:Below B W1 W2) (hW:Below W.heap.size W W1) (hB:B=W1.heap.size):BX w W2 cs:=by
  subst hB;exact (h.step hW).step hb
theorem BX.start (w:World) (cs:Array Value) (t:TypeId):BX w (w.alloc (.cells cs t)) cs.toList:=
  ⟨fun j x hj=>cells_new w cs t j x (by rw [←hj];simp),(Below.refl _ _).alloc (Nat.le_refl _) _,by simp⟩
theorem frozen_new (w:World) (cs:Array Value) (t:TypeId) (j:Nat):(w.alloc (.cells cs t)).frozen? ⟨w.heap.size,j,none⟩=false:=by
  simp [go_sem]
theorem WG.fresh {w w1:World} {cs:List Value} (h:BX w w1 cs) (t:TypeId):WG (w1.alloc (.cells #[.slice none 0 0] t)) (w1.alloc (.cells #[.slice none 0 0] t)) w.heap.size w1.heap.size w.heap.size (.slice none 0 0) (.slice none 0 0) [] cs:=by
  have hb:Below w1.heap.size w1 (w1.alloc (.cells #[.slice none 0 0] t)):=(Below.refl _ _).alloc (Nat.le_refl _) _
  have hs:=h.size
  refine ⟨⟨cells_new w1 _ t 0 _ rfl,frozen_new w1 _ t 0,⟨by simp [outs], .inl ⟨rfl,rfl⟩⟩,by simp [Value.ownBlock],by omega⟩, .refl _ _ _,fun j x hj=>keep_cell hb (h.at_ j x hj) (by omega),by omega,by simp;omega,by simp [Value.ownBlock]⟩
structure IsB (w:World) (B:Nat) (a:Option Addr) (n c:Nat) (bs:List UInt8):Prop where
  len:n=bs.length
  cap:n≤c
  max:c≤9223372036854775807
  at_:∃b o,(0<n→a=some ⟨b,o,none⟩∧b<B)∧∀i (h:i<bs.length),w.cell? ⟨b,o+i,none⟩=some (.int .u8 (bs[i].toNat:Int))
theorem IsB.keep {w w':World} {B:Nat} {a:Option Addr} {n c:Nat} {bs:List UInt8} (h:IsB w B a n c bs) (hb:Below B w w'):IsB w' B a n c bs:=by
  obtain ⟨h1,h2,h3,b,o,h5,h6⟩:=h
  exact ⟨h1,h2,h3,b,o,h5,fun i hi=>keep_cell hb (h6 i hi) (h5 (by omega)).2⟩
theorem IsB.more {w:World} {B B':Nat} {a:Option Addr} {n c:Nat} {bs:List UInt8} (h:IsB w B a n c bs) (hB:B≤B'):IsB w B' a n c bs:=by
  obtain ⟨h1,h2,h3,b,o,h5,h6⟩:=h
  exact ⟨h1,h2,h3,b,o,fun hn=>⟨(h5 hn).1,by have:=(h5 hn).2;omega⟩,h6⟩
theorem IsB.nil (w:World) (B:Nat):IsB w B none 0 0 [] :=⟨rfl,Nat.le_refl _,by omega,0,0,fun h=>by omega,fun i hi=>by cases hi⟩
theorem Wr.isB {w:World} {B wb:Nat} {v:Value} {bs:List UInt8} (h:Wr w B wb v bs):∃a n c,v= .slice a n c∧IsB w w.heap.size a n c bs:=by
  have ho:=h.own
  have hc:=fun g hg=>ho.cells (g:=g) hg
  rcases ho.2 with ⟨rfl,hn⟩|⟨g,cap,cur,rfl,_,hg,hnc,hcm,_,_⟩
  · have:bs= [] :=List.length_eq_zero_iff.1 hn
    subst this
    exact ⟨none,0,0,rfl, .nil _ _⟩
  · refine ⟨_,_,_,rfl,rfl,hnc,by simpa [maxLen] using hcm,g,0,fun _=>⟨rfl,(h.lo g rfl).2⟩,fun i hi=> ?_⟩
    have:=hc g rfl i (.int .u8 (bs[i].toNat:Int)) (by simp [outs,hi])
    have e:(⟨g,0,none⟩:Addr).add i=⟨g,0+i,none⟩:=by unfold Addr.add;split<;>simp_all
    rw [e] at this;exact this
def encCs:List Cm→List UInt8
  | [] => []
  |c::r=>encC c++encCs r
theorem encCs_append (a b:List Cm):encCs (a++b)=encCs a++encCs b:=by
  induction a with
  |nil=>simp [encCs]
  |cons v r ih=>simp only [List.cons_append,encCs,ih,List.append_assoc]
theorem encCs_take (l:List Cm) (k:Nat) (h:k<l.length):encCs (l.take (k+1))=encCs (l.take k)++encC l[k] :=by
  rw [take_snoc l k h,encCs_append];simp [encCs]
theorem encCs_le (l:List Cm) (k:Nat):(encCs (l.take k)).length≤(encCs l).length:=by
  have h:=encCs_append (l.take k) (l.drop k)
  rw [List.take_append_drop] at h;rw [h,List.length_append];omega
def encE (e:En):List UInt8:=
  be (e.k % 18446744073709551616).toNat 1++be (e.src % 18446744073709551616).toNat 4++be (e.seq % 18446744073709551616).toNat 4++
    (if e.k=1 then encV e.v else if e.k=2 then be e.op.length 4++encCs e.op else [])
def outB (ok:Bool) (bs:List UInt8):List UInt8:=if ok=true then (if 60000<bs.length then [] else bs) else []
def outN (ok:Bool) (bs:List UInt8):Int:=if ok=true then (if 60000<bs.length then 3 else 0) else 1
theorem done_any (w:World) (B wb:Nat) (v:Value) (bs:List UInt8) (h:Wr w B wb v bs) (hsz:bs.length≤140737488355328):
    Calls Tryz.prog 25 #[.pointer (some ⟨wb,0,none⟩)] w fun e w'=>(∃a n c,e= .returned (.tuple #[.slice a n c, .int .u16 (outN true bs)])∧IsB w' w'.heap.size a n c (outB true bs))∧Below w.heap.size w w':=by
  obtain ⟨a,n,c,rfl,hI⟩:=h.isB
  have hc:=h.cell
  have hn:=hI.len
  have HN:=Lib.hid hn
  have HI:=Lib.hid hI
  by_cases hq:60000<bs.length
  · have e1:outN true bs=3:=by simp [outN,hq]
    have e2:outB true bs= [] :=by simp [outB,hq]
    rw [e1,e2]
    have hn2:60000<n:=by omega
    clear e1 e2 hI h hn hq
    go_enter Tryz.func25,Tryz.ntmps25
    go_wp2_with fail
    go_returns
    exact ⟨⟨none,0,0,rfl, .nil _ _⟩,by go_grown⟩
  · have e1:outN true bs=0:=by simp [outN,hq]
    have e2:outB true bs=bs:=by simp [outB,hq]
    rw [e1,e2]
    have hn2:¬60000<n:=by omega
    clear e1 e2 hI h hn hq
    go_enter Tryz.func25,Tryz.ntmps25
    go_wp2_with fail
    go_returns
    exact ⟨⟨a,n,c,rfl,HI.out⟩,by go_grown⟩
set_option maxHeartbeats 8000000 in
set_option maxRecDepth 100000 in
theorem value_of (sd:Bool) (w:World) (vk vn:Int) (vs:ByteArray) (vla:Option Addr) (vll vlc:Nat) (voa:Option Addr) (vol voc:Nat) (vv:V) (hv:IsVal w w.heap.size vv ⟨vk,vn,vs,vla,vll,vlc,voa,vol,voc⟩) (HS:Hid (∀W,Below w.heap.size w W→Calls Tryz.prog 30 #[.agg #[.int .u8 vk, .int .i64 vn, .string vs, .slice vla vll vlc, .slice voa vol voc]] W fun e w'=>e= .returned (.bool sd)∧Below W.heap.size W w')) (hsz:(encV vv).length≤70368744177664):
    Calls Tryz.prog 15 #[.agg #[.int .u8 vk, .int .i64 vn, .string vs, .slice vla vll vlc, .slice voa vol voc]] w fun e w'=>(∃a n c,e= .returned (.tuple #[.slice a n c, .int .u16 (outN sd (encV vv))])∧IsB w' w'.heap.size a n c (outB sd (encV vv)))∧Below w.heap.size w w':=by
  have bx:=BX.start w #[.int .u8 vk, .int .i64 vn, .string vs, .slice vla vll vlc, .slice voa vol voc] 33
  have HV:Hid (∀W,Below w.heap.size w W→IsVal W w.heap.size vv ⟨vk,vn,vs,vla,vll,vlc,voa,vol,voc⟩):=fun W hW=>hv.keep hW
  clear hv
  cases sd with
  | false=>
    have e1:outN false (encV vv)=1:=rfl
    have e2:outB false (encV vv)= [] :=rfl
    rw [e1,e2]
    clear e1 e2 hsz
    go_enter Tryz.func15,Tryz.ntmps15
    go_wp2_with (go_at_call 30;(with_reducible refine (HS.out _ ?_).mono ?_);(focus (have:=bx.below;have:=bx.size;go_grown));rintro e w1 ⟨rfl,hb1⟩;replace bx:=bx.next hb1 (by go_grown) rfl;have zs:w.heap.size<w1.heap.size:=bx.size;obtain ⟨y0,y1,y2,y3,y4⟩:=row5 bx.at_)
    go_returns
    exact ⟨⟨none,0,0,rfl, .nil _ _⟩,by have:=bx.below;have:=bx.size;go_grown⟩
  | true=>
    have hsz0:(encV vv).length≤140737488355328:=by omega
    go_enter Tryz.func15,Tryz.ntmps15
    go_wp2_with (first|(go_at_call 30;(with_reducible refine (HS.out _ ?_).mono ?_);(focus (have:=bx.below;have:=bx.size;go_grown));rintro e w1 ⟨rfl,hb1⟩;replace bx:=bx.next hb1 (by go_grown) rfl;have zs:w.heap.size<w1.heap.size:=bx.size;have wx:=WG.fresh bx 67;have H2:Hid (Below w.heap.size w (w1.alloc (.cells #[.slice none 0 0] 67))):=Lib.hid (bx.below.alloc (Nat.le_of_lt zs) _);have H0:=Lib.hid wx.wrt;have hlt:=bx.size;obtain ⟨b0,b1,b2,b3,b4⟩:=row5 bx.at_;obtain ⟨y0,y1,y2,y3,y4⟩:=row5 wx.at_)|(go_at_call 22;(with_reducible refine (valueX_any vv vk vn vs vla vll vlc voa vol voc _ w.heap.size w1.heap.size _ _ wx.wrt (HV.out _ (H2.out.trans (H0.out.keeps wx.st))) ?_).mono ?_);(focus ((first|omega|(simp only [List.length_nil];omega)|(simp only [List.length_append];omega)|(simp only [List.length_append,List.length_nil];omega)|(simp only [List.length_append,be_length];omega)|(simp only [List.length_append,be_length,List.length_nil];omega))));rintro e w2 ⟨rfl,v2,hr2,hs2⟩;replace wx:=wx.next hr2 hs2;obtain ⟨y0,y1,y2,y3,y4⟩:=row5 wx.at_)|(go_at_call 25;(with_reducible refine (done_any _ w.heap.size w1.heap.size _ _ wx.wrt ?_).mono ?_);(focus ((first|omega|(simp only [List.length_nil];omega)|(simp only [List.length_append];omega)|(simp only [List.length_append,List.length_nil];omega)|(simp only [List.length_append,be_length];omega)|(simp only [List.length_append,be_length,List.length_nil];omega))));rintro e w9 ⟨⟨ra,rn,rc,rfl,hI⟩,hb9⟩))
    go_returns
    exact ⟨⟨ra,rn,rc,rfl,hI⟩,by exact (H2.out.trans (H0.out.keeps wx.st)).trans (hb9.mono (by have:=wx.lt;omega))⟩
set_option maxHeartbeats 8000000 in
set_option maxRecDepth 100000 in
theorem encode_of (sd:Bool) (w:World) (ek src seq vk vn:Int) (vs:ByteArray) (vla:Option Addr) (vll vlc:Nat) (voa:Option Addr) (vol voc:Nat) (oa:Option Addr) (ol oc:Nat) (vv:V) (l:List Cm) (hk0:0≤ek) (hk1:ek<256) (hv:IsVal w w.heap.size vv ⟨vk,vn,vs,vla,vll,vlc,voa,vol,voc⟩) (ho:IsComps w w.heap.size l oa ol oc) (HS:Hid (∀W,Below w.heap.size w W→Calls Tryz.prog 10 #[.agg #[.int .u8 ek, .int .u32 src, .int .u32 seq, .int .u8 vk, .int .i64 vn, .string vs, .slice vla vll vlc, .slice voa vol voc, .slice oa ol oc]] W fun e w'=>e= .returned (.bool sd)∧Below W.heap.size W w')) (hsz:sd=true→(encE ⟨ek,src,seq,vv,l⟩).length≤70368744177664):
    Calls Tryz.prog 8 #[.agg #[.int .u8 ek, .int .u32 src, .int .u32 seq, .int .u8 vk, .int .i64 vn, .string vs, .slice vla vll vlc, .slice voa vol voc, .slice oa ol oc]] w fun e w'=>(∃a n c,e= .returned (.tuple #[.slice a n c, .int .u16 (outN sd (encE ⟨ek,src,seq,vv,l⟩))])∧IsB w' w'.heap.size a n c (outB sd (encE ⟨ek,src,seq,vv,l⟩)))∧Below w.heap.size w w':=by
  have bx:=BX.start w #[.int .u8 ek, .int .u32 src, .int .u32 seq, .int .u8 vk, .int .i64 vn, .string vs, .slice vla vll vlc, .slice voa vol voc, .slice oa ol oc] 36
  have HV:Hid (∀W,Below w.heap.size w W→IsVal W w.heap.size vv ⟨vk,vn,vs,vla,vll,vlc,voa,vol,voc⟩):=fun W hW=>hv.keep hW
  have HO:=Lib.hid ho
  have c1:=ho.cap;have c2:=ho.max;have c3:=ho.few
  have el:=ho.len
  have ell:be ((ol:Int) % 18446744073709551616).toNat 4=be l.length 4:=by rw [len_mod _ (by omega),el]
  have ELL:=Lib.hid ell
  have EL:=Lib.hid el
  clear ho hv ell el
  cases sd with
  | false=>
    have e1:outN false (encE ⟨ek,src,seq,vv,l⟩)=1:=rfl
    have e2:outB false (encE ⟨ek,src,seq,vv,l⟩)= [] :=rfl
    rw [e1,e2]
    clear e1 e2 hsz
    go_enter Tryz.func8,Tryz.ntmps8
    go_wp2_with (go_at_call 10;(with_reducible refine (HS.out _ ?_).mono ?_);(focus (have:=bx.below;have:=bx.size;go_grown));rintro e w1 ⟨rfl,hb1⟩;replace bx:=bx.next hb1 (by go_grown) rfl;have zs:w.heap.size<w1.heap.size:=bx.size;obtain ⟨y0,y1,y2,y3,y4,y5,y6,y7,y8⟩:=row9 bx.at_)
    go_returns
    exact ⟨⟨none,0,0,rfl, .nil _ _⟩,by have:=bx.below;have:=bx.size;go_grown⟩
  | true =>
    replace hsz:=hsz rfl
    have he:encE ⟨ek,src,seq,vv,l⟩=be (ek % 18446744073709551616).toNat 1++be (src % 18446744073709551616).toNat 4++be (seq % 18446744073709551616).toNat 4++(if ek=1 then encV vv else if ek=2 then be l.length 4++encCs l else []):=rfl
    rw [he] at hsz ⊢
    clear he
    by_cases e1:ek=1
    case pos=>
      subst e1
      rw [if_pos rfl] at hsz ⊢
      have hsz0:=hsz
      simp only [List.length_append,be_length] at hsz0
      go_enter Tryz.func8,Tryz.ntmps8
      go_wp2_with (first|(go_at_call 10;(with_reducible refine (HS.out _ ?_).mono ?_);(focus (have:=bx.below;have:=bx.size;go_grown));rintro e w1 ⟨rfl,hb1⟩;replace bx:=bx.next hb1 (by go_grown) rfl;have zs:w.heap.size<w1.heap.size:=bx.size;have wx:=WG.fresh bx 67;have H2:Hid (Below w.heap.size w (w1.alloc (.cells #[.slice none 0 0] 67))):=Lib.hid (bx.below.alloc (Nat.le_of_lt zs) _);have H0:=Lib.hid wx.wrt;have hlt:=bx.size;obtain ⟨b0,b1,b2,b3,b4,b5,b6,b7,b8⟩:=row9 bx.at_;obtain ⟨y0,y1,y2,y3,y4,y5,y6,y7,y8⟩:=row9 wx.at_)|(go_at_call 20;(with_reducible refine (layU81_any _ _ w.heap.size w1.heap.size _ _ wx.wrt ?_).mono ?_);(focus ((first|omega|(simp only [List.length_nil];omega)|(simp only [List.length_append];omega)|(simp only [List.length_append,List.length_nil];omega)|(simp only [List.length_append,be_length];omega)|(simp only [List.length_append,be_length,List.length_nil];omega))));rintro e w2 ⟨rfl,v2,hr2,hs2⟩;replace wx:=wx.next hr2 hs2;obtain ⟨y0,y1,y2,y3,y4,y5,y6,y7,y8⟩:=row9 wx.at_)|(go_at_call 21;(with_reducible refine (layU324_any _ _ w.heap.size w1.heap.size _ _ wx.wrt ?_).mono ?_);(focus ((first|omega|(simp only [List.length_nil];omega)|(simp only [List.length_append];omega)|(simp only [List.length_append,List.length_nil];omega)|(simp only [List.length_append,be_length];omega)|(simp only [List.length_append,be_length,List.length_nil];omega))));rintro e w2 ⟨rfl,v2,hr2,hs2⟩;replace wx:=wx.next hr2 hs2;obtain ⟨y0,y1,y2,y3,y4,y5,y6,y7,y8⟩:=row9 wx.at_)|(go_at_call 22;(with_reducible refine (valueX_any vv vk vn vs vla vll vlc voa vol voc _ w.heap.size w1.heap.size _ _ wx.wrt (HV.out _ (H2.out.trans (H0.out.keeps wx.st))) ?_).mono ?_);(focus ((first|omega|(simp only [List.length_nil];omega)|(simp only [List.length_append];omega)|(simp only [List.length_append,List.length_nil];omega)|(simp only [List.length_append,be_length];omega)|(simp only [List.length_append,be_length,List.length_nil];omega))));rintro e w2 ⟨rfl,v2,hr2,hs2⟩;replace wx:=wx.next hr2 hs2;obtain ⟨y0,y1,y2,y3,y4,y5,y6,y7,y8⟩:=row9 wx.at_)|(go_at_call 25;(with_reducible refine (done_any _ w.heap.size w1.heap.size _ _ wx.wrt ?_).mono ?_);(focus ((first|omega|(simp only [List.length_nil];omega)|(simp only [List.length_append];omega)|(simp only [List.length_append,List.length_nil];omega)|(simp only [List.length_append,be_length];omega)|(simp only [List.length_append,be_length,List.length_nil];omega))));rintro e w9 ⟨⟨ra,rn,rc,rfl,hI⟩,hb9⟩))
      go_returns
      simp only [List.nil_append] at hI ⊢
      exact ⟨⟨ra,rn,rc,rfl,hI⟩,by exact (H2.out.trans (H0.out.keeps wx.st)).trans (hb9.mono (by have:=wx.lt;omega))⟩
    have f1:(ek==1)=false:=by simp [e1]
    rw [if_neg e1] at hsz ⊢
    by_cases e2:ek=2
    case neg=>
      have f2:(ek==2)=false:=by simp [e2]
      rw [if_neg e2] at hsz ⊢
      have hsz0:=hsz
      simp only [List.length_append,be_length,List.length_nil] at hsz0
      clear e1 e2
      go_enter Tryz.func8,Tryz.ntmps8
      go_wp2_with (first|(go_at_call 10;(with_reducible refine (HS.out _ ?_).mono ?_);(focus (have:=bx.below;have:=bx.size;go_grown));rintro e w1 ⟨rfl,hb1⟩;replace bx:=bx.next hb1 (by go_grown) rfl;have zs:w.heap.size<w1.heap.size:=bx.size;have wx:=WG.fresh bx 67;have H2:Hid (Below w.heap.size w (w1.alloc (.cells #[.slice none 0 0] 67))):=Lib.hid (bx.below.alloc (Nat.le_of_lt zs) _);have H0:=Lib.hid wx.wrt;have hlt:=bx.size;obtain ⟨b0,b1,b2,b3,b4,b5,b6,b7,b8⟩:=row9 bx.at_;obtain ⟨y0,y1,y2,y3,y4,y5,y6,y7,y8⟩:=row9 wx.at_)|(go_at_call 20;(with_reducible refine (layU81_any _ _ w.heap.size w1.heap.size _ _ wx.wrt ?_).mono ?_);(focus ((first|omega|(simp only [List.length_nil];omega)|(simp only [List.length_append];omega)|(simp only [List.length_append,List.length_nil];omega)|(simp only [List.length_append,be_length];omega)|(simp only [List.length_append,be_length,List.length_nil];omega))));rintro e w2 ⟨rfl,v2,hr2,hs2⟩;replace wx:=wx.next hr2 hs2;obtain ⟨y0,y1,y2,y3,y4,y5,y6,y7,y8⟩:=row9 wx.at_)|(go_at_call 21;(with_reducible refine (layU324_any _ _ w.heap.size w1.heap.size _ _ wx.wrt ?_).mono ?_);(focus ((first|omega|(simp only [List.length_nil];omega)|(simp only [List.length_append];omega)|(simp only [List.length_append,List.length_nil];omega)|(simp only [List.length_append,be_length];omega)|(simp only [List.length_append,be_length,List.length_nil];omega))));rintro e w2 ⟨rfl,v2,hr2,hs2⟩;replace wx:=wx.next hr2 hs2;obtain ⟨y0,y1,y2,y3,y4,y5,y6,y7,y8⟩:=row9 wx.at_)|(go_at_call 25;(with_reducible refine (done_any _ w.heap.size w1.heap.size _ _ wx.wrt ?_).mono ?_);(focus ((first|omega|(simp only [List.length_nil];omega)|(simp only [List.length_append];omega)|(simp only [List.length_append,List.length_nil];omega)|(simp only [List.length_append,be_length];omega)|(simp only [List.length_append,be_length,List.length_nil];omega))));rintro e w9 ⟨⟨ra,rn,rc,rfl,hI⟩,hb9⟩))
      go_returns
      simp only [List.nil_append,List.append_nil] at hI ⊢
      exact ⟨⟨ra,rn,rc,rfl,hI⟩,by exact (H2.out.trans (H0.out.keeps wx.st)).trans (hb9.mono (by have:=wx.lt;omega))⟩
    case pos=>
      subst e2
      rw [if_pos rfl] at hsz ⊢
      have hsz0:=hsz
      simp only [List.length_append,be_length] at hsz0
      clear e1
      go_enter Tryz.func8,Tryz.ntmps8
      go_wp2_with (first|(go_at_call 10;(with_reducible refine (HS.out _ ?_).mono ?_);(focus (have:=bx.below;have:=bx.size;go_grown));rintro e w1 ⟨rfl,hb1⟩;replace bx:=bx.next hb1 (by go_grown) rfl;have zs:w.heap.size<w1.heap.size:=bx.size;have wx:=WG.fresh bx 67;have H2:Hid (Below w.heap.size w (w1.alloc (.cells #[.slice none 0 0] 67))):=Lib.hid (bx.below.alloc (Nat.le_of_lt zs) _);have H0:=Lib.hid wx.wrt;have hlt:=bx.size;obtain ⟨b0,b1,b2,b3,b4,b5,b6,b7,b8⟩:=row9 bx.at_;obtain ⟨y0,y1,y2,y3,y4,y5,y6,y7,y8⟩:=row9 wx.at_)|(go_at_call 20;(with_reducible refine (layU81_any _ _ w.heap.size w1.heap.size _ _ wx.wrt ?_).mono ?_);(focus ((first|omega|(simp only [List.length_nil];omega)|(simp only [List.length_append];omega)|(simp only [List.length_append,List.length_nil];omega)|(simp only [List.length_append,be_length];omega)|(simp only [List.length_append,be_length,List.length_nil];omega))));rintro e w2 ⟨rfl,v2,hr2,hs2⟩;replace wx:=wx.next hr2 hs2;obtain ⟨y0,y1,y2,y3,y4,y5,y6,y7,y8⟩:=row9 wx.at_)|(go_at_call 21;(with_reducible refine (layU324_any _ _ w.heap.size w1.heap.size _ _ wx.wrt ?_).mono ?_);(focus ((first|omega|(simp only [List.length_nil];omega)|(simp only [List.length_append];omega)|(simp only [List.length_append,List.length_nil];omega)|(simp only [List.length_append,be_length];omega)|(simp only [List.length_append,be_length,List.length_nil];omega))));rintro e w2 ⟨rfl,v2,hr2,hs2⟩;replace wx:=wx.next hr2 hs2;obtain ⟨y0,y1,y2,y3,y4,y5,y6,y7,y8⟩:=row9 wx.at_)|(go_at_call 23;(with_reducible refine (layInt4_any _ _ w.heap.size w1.heap.size _ _ wx.wrt ?_).mono ?_);(focus ((first|omega|(simp only [List.length_nil];omega)|(simp only [List.length_append];omega)|(simp only [List.length_append,List.length_nil];omega)|(simp only [List.length_append,be_length];omega)|(simp only [List.length_append,be_length,List.length_nil];omega))));rintro e w2 ⟨rfl,v2,hr2,hs2⟩;replace wx:=wx.next hr2 hs2;obtain ⟨y0,y1,y2,y3,y4,y5,y6,y7,y8⟩:=row9 wx.at_))
      obtain ⟨PRE,hPRE⟩:∃PRE, [] ++be ((2:Int) % 18446744073709551616).toNat 1++be (src % 18446744073709551616).toNat 4++be (seq % 18446744073709551616).toNat 4++be ((ol:Int) % 18446744073709551616).toNat 4=PRE:=⟨_,rfl⟩
      rw [hPRE] at wx
      have hPL:PRE.length+(encCs l).length≤140737488355328:=by rw [←hPRE];simp only [List.length_append,be_length,List.length_nil];omega
      have hPE:be ((2:Int) % 18446744073709551616).toNat 1++be (src % 18446744073709551616).toNat 4++be (seq % 18446744073709551616).toNat 4++(be l.length 4++encCs l)=PRE++encCs l:=by rw [←hPRE,ELL.out];simp only [List.append_assoc,List.nil_append]
      rw [hPE] at hsz
      have HPE:=Lib.hid hPE
      have hlt:=bx.size
      have hwl:w1.heap.size<(w1.alloc (.cells #[.slice none 0 0] 67)).heap.size:=by simp
      obtain ⟨W0,hW0⟩:∃W0,w1.alloc (.cells #[.slice none 0 0] 67)=W0:=⟨_,rfl⟩
      rw [hW0] at wx H2 H0 hwl
      clear hr2 hs2 hPRE hPE y0 b0 y1 b1 y2 b2 y3 b3 y4 b4 y5 b5 y6 b6 y7 b7 y8 b8
      go_loopw [42,6] (fun ii _ wr=>∃(k:Nat) (u:Value),k≤ol∧ii= .int .i64 k∧WG W0 wr w.heap.size w1.heap.size w.heap.size (.slice none 0 0) u (PRE++encCs (l.take k)) [.int .u8 2, .int .u32 src, .int .u32 seq, .int .u8 vk, .int .i64 vn, .string vs, .slice vla vll vlc, .slice voa vol voc, .slice oa ol oc]) (fun ii _ _=>ol - (intOf ii).toNat)
      case atStart=>exact ⟨0,v2,Nat.zero_le _,rfl,by simpa [encCs] using wx⟩
      case round=>
        clear wx
        obtain ⟨k,u,hk,rfl,wx⟩:=hrel
        obtain ⟨y0,y1,y2,y3,y4,y5,y6,y7,y8⟩:=row9 wx.at_
        by_cases hlt2:k<ol
        · obtain ⟨b,o',f,kl,rfl,hb,x1,xb⟩:=HO.out.get hlt2
          have hbW:Below w.heap.size w wr:=H2.out.trans (H0.out.keeps wx.st)
          have x1:=x1.keep hbW hb
          have r0:=x1.c0;have r1:=x1.c1;have r2:=x1.c2;have r3:=x1.c3;have r4:=x1.c4;have r5:=x1.c5;have r6:=x1.c6.c0
          have r7:wr.cell? ⟨b,o'+k*12+7,none⟩=_:=x1.c6.c1;have r8:wr.cell? ⟨b,o'+k*12+8,none⟩=_:=x1.c6.c2;have r9:wr.cell? ⟨b,o'+k*12+9,none⟩=_:=x1.c6.c3;have r10:wr.cell? ⟨b,o'+k*12+10,none⟩=_:=x1.c6.c4;have r11:=x1.c11
          have hle:=encCs_le l (k+1)
          have ht:=encCs_take l k kl
          have hlen:(PRE++encCs (l.take k)).length+(encC l[k]).length≤140737488355328:=by
            rw [ht,List.length_append] at hle;rw [List.length_append];omega
          have HI:Hid (∀W,Below wr.heap.size wr W→Calls Tryz.prog 24 #[.pointer (some ⟨w1.heap.size,0,none⟩), .agg #[.int .u8 f.k, .slice f.pa f.pl f.pc, .string f.key, .int .i64 f.i, .int .i64 f.j, .int .i64 f.n, .int .u8 f.v.k, .int .i64 f.v.n, .string f.v.s, .slice f.v.la f.v.ll f.v.lc, .slice f.v.oa f.v.ol f.v.oc, .string f.s]] W fun e w'=>e= .returned (.tuple #[])∧∃v',Wr w' w.heap.size w1.heap.size v' (PRE++encCs (l.take (k+1)))∧WStep W w' w1.heap.size u v'):=by
            intro W hW
            have hBw:w.heap.size≤wr.heap.size:=hbW.size
            have:=compW_any l[k] W w.heap.size w1.heap.size u _ f (wx.wrt.of_below hW) (xb.keep (hbW.trans (hW.mono hBw))) hlen
            rw [ht, ←List.append_assoc];exact this
          clear x1 hle ht hlen xb hbW
          go_wp2_with (go_at_call 24;refine (HI.out _ (by go_grown)).mono ?_;rintro e w2 ⟨rfl,v3,hr3,hs3⟩)
          go_roundw
          case rel=>exact ⟨k+1,v3,by omega,by go_num,(wx.behind (by go_grown)).next hr3 hs3⟩
          case measure=>simp [intOf];omega
        · have hk2:k=ol:=by omega
          have hq:=wx.eqb (bs':=PRE++encCs l) (by rw [List.take_of_length_le (by have:=EL.out;omega)])
          clear wx
          have wx:=hq
          clear hq
          have hWt:=wx.wrt
          go_wp2_with (go_at_call 25;(with_reducible refine (done_any _ w.heap.size w1.heap.size _ _ wx.wrt ?_).mono ?_);(focus ((first|omega|(simp only [List.length_nil];omega)|(simp only [List.length_append];omega)|(simp only [List.length_append,List.length_nil];omega)|(simp only [List.length_append,be_length];omega)|(simp only [List.length_append,be_length,List.length_nil];omega))));rintro e w9 ⟨⟨ra,rn,rc,rfl,hI⟩,hb9⟩)
          go_returns
          rw [HPE.out]
          exact ⟨⟨ra,rn,rc,rfl,hI⟩,by exact (H2.out.trans (H0.out.keeps wx.st)).trans (hb9.mono (by have:=wx.lt;omega))⟩
end Go.Proofs.YtgcfhkceejcliaaGreatDoor
