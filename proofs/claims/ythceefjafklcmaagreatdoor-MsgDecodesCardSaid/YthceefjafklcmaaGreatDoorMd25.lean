/-
  Contracts of the functions that the law reaches: Encode of the reference. Value of the reference.
-/
import Derived.Test.YthceefjafklcmaaGreatDoorMd10
import Derived.Test.YthceefjafklcmaaGreatDoorMd7
namespace Go.Proofs.YthceefjafklcmaaGreatDoor
open Go.RowKit
set_option maxHeartbeats 8000000 in
set_option maxRecDepth 100000 in
theorem refEncode_of (sd:Bool) (w:World) (ek src seq vk vn:Int) (vs:ByteArray) (vla:Option Addr) (vll vlc:Nat) (voa:Option Addr) (vol voc:Nat) (oa:Option Addr) (ol oc:Nat) (vv:V) (l:List Cm) (hk0:0≤ek) (hk1:ek<256) (hs0:0≤src) (hs1:src<4294967296) (hq0:0≤seq) (hq1:seq<4294967296) (hv:IsVal w w.heap.size vv ⟨vk,vn,vs,vla,vll,vlc,voa,vol,voc⟩) (ho:IsComps w w.heap.size l oa ol oc) (HS:Hid (∀W,Below w.heap.size w W→Calls Tryz.prog 31 #[.agg #[.int .u8 ek, .int .u32 src, .int .u32 seq, .int .u8 vk, .int .i64 vn, .string vs, .slice vla vll vlc, .slice voa vol voc, .slice oa ol oc]] W fun e w'=>e= .returned (.bool sd)∧Below W.heap.size W w')) (hsz:sd=true→(encE ⟨ek,src,seq,vv,l⟩).length≤70368744177664):
    Calls Tryz.prog 49 #[.agg #[.int .u8 ek, .int .u32 src, .int .u32 seq, .int .u8 vk, .int .i64 vn, .string vs, .slice vla vll vlc, .slice voa vol voc, .slice oa ol oc]] w fun e w'=>(∃a n c,e= .returned (.tuple #[.slice a n c, .int .i64 (outN sd (encE ⟨ek,src,seq,vv,l⟩))])∧IsB w' w'.heap.size a n c (outB sd (encE ⟨ek,src,seq,vv,l⟩)))∧Below w.heap.size w w':=by
  have bx:=BX.start w #[.int .u8 ek, .int .u32 src, .int .u32 seq, .int .u8 vk, .int .i64 vn, .string vs, .slice vla vll vlc, .slice voa vol voc, .slice oa ol oc] 31
  have HV:Hid (∀W,Below w.heap.size w W→IsVal W w.heap.size vv ⟨vk,vn,vs,vla,vll,vlc,voa,vol,voc⟩):=fun W hW=>hv.keep hW
  have HO:=Lib.hid ho
  have c1:=ho.cap;have c2:=ho.max;have c3:=ho.few
  have el:=ho.len
  have ell:be ((ol:Int) % 18446744073709551616).toNat 4=be l.length 4:=by rw [len_mod _ (by omega),el]
  have ELL:=Lib.hid ell
  have EL:=Lib.hid el
  clear ho hv ell el
  have u0:IntKind.u64.wrap ek=ek:=u64_id _ (by omega) (by omega)
  have u1:IntKind.u64.wrap src=src:=u64_id _ (by omega) (by omega)
  have u2:IntKind.u64.wrap seq=seq:=u64_id _ (by omega) (by omega)
  have u3:IntKind.u64.wrap (ol:Int)=(ol:Int):=u64_id _ (by omega) (by omega)
  cases sd with
  | false=>
    have e1:outN false (encE ⟨ek,src,seq,vv,l⟩)=1:=rfl
    have e2:outB false (encE ⟨ek,src,seq,vv,l⟩)= [] :=rfl
    rw [e1,e2]
    clear e1 e2 hsz
    go_enter Tryz.func49,Tryz.ntmps49
    go_wp2_with (go_at_call 31;(with_reducible refine (HS.out _ ?_).mono ?_);(focus (have:=bx.below;have:=bx.size;go_grown));rintro e w1 ⟨rfl,hb1⟩;replace bx:=bx.next hb1 (by go_grown) rfl;have zs:w.heap.size<w1.heap.size:=bx.size;obtain ⟨y0,y1,y2,y3,y4,y5,y6,y7,y8⟩:=row9 bx.at_)
    go_returns
    exact ⟨⟨none,0,0,rfl, .nil _ _⟩,by have:=bx.below;have:=bx.size;go_grown⟩
  | true =>
    replace hsz:=hsz rfl
    have he:encE ⟨ek,src,seq,vv,l⟩=be (ek % 18446744073709551616).toNat 1++be (src % 18446744073709551616).toNat 4++be (seq % 18446744073709551616).toNat 4++(if ek=1 then encV vv else if ek=2 then be l.length 4++encCs l else []):=rfl
    rw [he] at hsz ⊢
    clear he
    by_cases e1:ek=1
    case pos=>
      subst e1
      rw [if_pos rfl] at hsz ⊢
      have hsz0:=hsz
      simp only [List.length_append,be_length] at hsz0
      by_cases hq:60000<(be ((1:Int) % 18446744073709551616).toNat 1++be (src % 18446744073709551616).toNat 4++be (seq % 18446744073709551616).toNat 4++encV vv).length
      · have e1:outN true (be ((1:Int) % 18446744073709551616).toNat 1++be (src % 18446744073709551616).toNat 4++be (seq % 18446744073709551616).toNat 4++encV vv)=3:=by simp only [outN,hq,if_true]
        have e2:outB true (be ((1:Int) % 18446744073709551616).toNat 1++be (src % 18446744073709551616).toNat 4++be (seq % 18446744073709551616).toNat 4++encV vv)= [] :=by simp only [outB,hq,if_true]
        rw [e1,e2]
        have HQ:=Lib.hid hq
        clear e1 e2 hq
        go_enter Tryz.func49,Tryz.ntmps49
        go_wp2_with (first|(go_at_call 31;(with_reducible refine (HS.out _ ?_).mono ?_);(focus (have:=bx.below;have:=bx.size;go_grown));rintro e w1 ⟨rfl,hb1⟩;replace bx:=bx.next hb1 (by go_grown) rfl;have zs:w.heap.size<w1.heap.size:=bx.size;have wx:=WG.fresh bx 134;have H2:Hid (Below w.heap.size w (w1.alloc (.cells #[.slice none 0 0] 134))):=Lib.hid (bx.below.alloc (Nat.le_of_lt zs) _);have H0:=Lib.hid wx.wrt;have hlt:=bx.size;obtain ⟨b0,b1,b2,b3,b4,b5,b6,b7,b8⟩:=row9 bx.at_;obtain ⟨y0,y1,y2,y3,y4,y5,y6,y7,y8⟩:=row9 wx.at_)|(go_at_call 81;(with_reducible refine (number1_any _ ?_ ?_ _ w.heap.size w1.heap.size _ _ wx.wrt ?_).mono ?_);(focus omega);(focus omega);(focus ((first|omega|(simp only [List.length_nil];omega)|(simp only [List.length_append];omega)|(simp only [List.length_append,List.length_nil];omega)|(simp only [List.length_append,be_length];omega)|(simp only [List.length_append,be_length,List.length_nil];omega))));rintro e w2 ⟨rfl,v2,hr2,hs2⟩;replace wx:=wx.next hr2 hs2;obtain ⟨y0,y1,y2,y3,y4,y5,y6,y7,y8⟩:=row9 wx.at_)|(go_at_call 81;(with_reducible refine (number4_any _ ?_ ?_ _ w.heap.size w1.heap.size _ _ wx.wrt ?_).mono ?_);(focus omega);(focus omega);(focus ((first|omega|(simp only [List.length_nil];omega)|(simp only [List.length_append];omega)|(simp only [List.length_append,List.length_nil];omega)|(simp only [List.length_append,be_length];omega)|(simp only [List.length_append,be_length,List.length_nil];omega))));rintro e w2 ⟨rfl,v2,hr2,hs2⟩;replace wx:=wx.next hr2 hs2;obtain ⟨y0,y1,y2,y3,y4,y5,y6,y7,y8⟩:=row9 wx.at_)|(go_at_call 82;(with_reducible refine (refValueX_any vv vk vn vs vla vll vlc voa vol voc _ w.heap.size w1.heap.size _ _ wx.wrt (HV.out _ (H2.out.trans (H0.out.keeps wx.st))) ?_).mono ?_);(focus ((first|omega|(simp only [List.length_nil];omega)|(simp only [List.length_append];omega)|(simp only [List.length_append,List.length_nil];omega)|(simp only [List.length_append,be_length];omega)|(simp only [List.length_append,be_length,List.length_nil];omega))));rintro e w2 ⟨rfl,v2,hr2,hs2⟩;replace wx:=wx.next hr2 hs2;obtain ⟨y0,y1,y2,y3,y4,y5,y6,y7,y8⟩:=row9 wx.at_;obtain ⟨ra,rn,rc,rfl,hI⟩:=wx.wrt.isB;have hcc:=wx.wrt.cell;have HI:=Lib.hid hI;have hn2:60000<rn:=(by have:=hI.len;have:=HQ.out;simp only [List.length_append,List.length_nil] at*;omega);clear hI))
        go_returns
        exact ⟨⟨none,0,0,rfl, .nil _ _⟩,by exact H2.out.trans (H0.out.keeps wx.st)⟩
      · have e1:outN true (be ((1:Int) % 18446744073709551616).toNat 1++be (src % 18446744073709551616).toNat 4++be (seq % 18446744073709551616).toNat 4++encV vv)=0:=by simp only [outN,hq,if_true,if_false]
        have e2:outB true (be ((1:Int) % 18446744073709551616).toNat 1++be (src % 18446744073709551616).toNat 4++be (seq % 18446744073709551616).toNat 4++encV vv)=be ((1:Int) % 18446744073709551616).toNat 1++be (src % 18446744073709551616).toNat 4++be (seq % 18446744073709551616).toNat 4++encV vv:=by simp only [outB,hq,if_true,if_false]
        rw [e1,e2]
        have HQ:=Lib.hid hq
        clear e1 e2 hq
        go_enter Tryz.func49,Tryz.ntmps49
        go_wp2_with (first|(go_at_call 31;(with_reducible refine (HS.out _ ?_).mono ?_);(focus (have:=bx.below;have:=bx.size;go_grown));rintro e w1 ⟨rfl,hb1⟩;replace bx:=bx.next hb1 (by go_grown) rfl;have zs:w.heap.size<w1.heap.size:=bx.size;have wx:=WG.fresh bx 134;have H2:Hid (Below w.heap.size w (w1.alloc (.cells #[.slice none 0 0] 134))):=Lib.hid (bx.below.alloc (Nat.le_of_lt zs) _);have H0:=Lib.hid wx.wrt;have hlt:=bx.size;obtain ⟨b0,b1,b2,b3,b4,b5,b6,b7,b8⟩:=row9 bx.at_;obtain ⟨y0,y1,y2,y3,y4,y5,y6,y7,y8⟩:=row9 wx.at_)|(go_at_call 81;(with_reducible refine (number1_any _ ?_ ?_ _ w.heap.size w1.heap.size _ _ wx.wrt ?_).mono ?_);(focus omega);(focus omega);(focus ((first|omega|(simp only [List.length_nil];omega)|(simp only [List.length_append];omega)|(simp only [List.length_append,List.length_nil];omega)|(simp only [List.length_append,be_length];omega)|(simp only [List.length_append,be_length,List.length_nil];omega))));rintro e w2 ⟨rfl,v2,hr2,hs2⟩;replace wx:=wx.next hr2 hs2;obtain ⟨y0,y1,y2,y3,y4,y5,y6,y7,y8⟩:=row9 wx.at_)|(go_at_call 81;(with_reducible refine (number4_any _ ?_ ?_ _ w.heap.size w1.heap.size _ _ wx.wrt ?_).mono ?_);(focus omega);(focus omega);(focus ((first|omega|(simp only [List.length_nil];omega)|(simp only [List.length_append];omega)|(simp only [List.length_append,List.length_nil];omega)|(simp only [List.length_append,be_length];omega)|(simp only [List.length_append,be_length,List.length_nil];omega))));rintro e w2 ⟨rfl,v2,hr2,hs2⟩;replace wx:=wx.next hr2 hs2;obtain ⟨y0,y1,y2,y3,y4,y5,y6,y7,y8⟩:=row9 wx.at_)|(go_at_call 82;(with_reducible refine (refValueX_any vv vk vn vs vla vll vlc voa vol voc _ w.heap.size w1.heap.size _ _ wx.wrt (HV.out _ (H2.out.trans (H0.out.keeps wx.st))) ?_).mono ?_);(focus ((first|omega|(simp only [List.length_nil];omega)|(simp only [List.length_append];omega)|(simp only [List.length_append,List.length_nil];omega)|(simp only [List.length_append,be_length];omega)|(simp only [List.length_append,be_length,List.length_nil];omega))));rintro e w2 ⟨rfl,v2,hr2,hs2⟩;replace wx:=wx.next hr2 hs2;obtain ⟨y0,y1,y2,y3,y4,y5,y6,y7,y8⟩:=row9 wx.at_;obtain ⟨ra,rn,rc,rfl,hI⟩:=wx.wrt.isB;have hcc:=wx.wrt.cell;have HI:=Lib.hid hI;have hn2:¬60000<rn:=(by have:=hI.len;have:=HQ.out;simp only [List.length_append,List.length_nil] at*;omega);clear hI))
        go_returns
        exact ⟨⟨ra,rn,rc,rfl,by have:=HI.out;simpa using this⟩,by exact H2.out.trans (H0.out.keeps wx.st)⟩
    have f1:(ek==1)=false:=by simp [e1]
    rw [if_neg e1] at hsz ⊢
    by_cases e2:ek=2
    case neg=>
      have f2:(ek==2)=false:=by simp [e2]
      rw [if_neg e2] at hsz ⊢
      have hsz0:=hsz
      simp only [List.length_append,be_length,List.length_nil] at hsz0
      clear e1 e2
      by_cases hq:60000<(be (ek % 18446744073709551616).toNat 1++be (src % 18446744073709551616).toNat 4++be (seq % 18446744073709551616).toNat 4++ []).length
      · exfalso;simp only [List.length_append,be_length,List.length_nil] at hq;omega
      · have e1:outN true (be (ek % 18446744073709551616).toNat 1++be (src % 18446744073709551616).toNat 4++be (seq % 18446744073709551616).toNat 4++ [])=0:=by simp only [outN,hq,if_true,if_false]
        have e2:outB true (be (ek % 18446744073709551616).toNat 1++be (src % 18446744073709551616).toNat 4++be (seq % 18446744073709551616).toNat 4++ [])=be (ek % 18446744073709551616).toNat 1++be (src % 18446744073709551616).toNat 4++be (seq % 18446744073709551616).toNat 4++ [] :=by simp only [outB,hq,if_true,if_false]
        rw [e1,e2]
        have HQ:=Lib.hid hq
        clear e1 e2 hq
        go_enter Tryz.func49,Tryz.ntmps49
        go_wp2_with (first|(go_at_call 31;(with_reducible refine (HS.out _ ?_).mono ?_);(focus (have:=bx.below;have:=bx.size;go_grown));rintro e w1 ⟨rfl,hb1⟩;replace bx:=bx.next hb1 (by go_grown) rfl;have zs:w.heap.size<w1.heap.size:=bx.size;have wx:=WG.fresh bx 134;have H2:Hid (Below w.heap.size w (w1.alloc (.cells #[.slice none 0 0] 134))):=Lib.hid (bx.below.alloc (Nat.le_of_lt zs) _);have H0:=Lib.hid wx.wrt;have hlt:=bx.size;obtain ⟨b0,b1,b2,b3,b4,b5,b6,b7,b8⟩:=row9 bx.at_;obtain ⟨y0,y1,y2,y3,y4,y5,y6,y7,y8⟩:=row9 wx.at_)|(go_at_call 81;(with_reducible refine (number1_any _ ?_ ?_ _ w.heap.size w1.heap.size _ _ wx.wrt ?_).mono ?_);(focus omega);(focus omega);(focus ((first|omega|(simp only [List.length_nil];omega)|(simp only [List.length_append];omega)|(simp only [List.length_append,List.length_nil];omega)|(simp only [List.length_append,be_length];omega)|(simp only [List.length_append,be_length,List.length_nil];omega))));rintro e w2 ⟨rfl,v2,hr2,hs2⟩;replace wx:=wx.next hr2 hs2;obtain ⟨y0,y1,y2,y3,y4,y5,y6,y7,y8⟩:=row9 wx.at_)|(go_at_call 81;(with_reducible refine (number4_any src ?_ ?_ _ w.heap.size w1.heap.size _ _ wx.wrt ?_).mono ?_);(focus omega);(focus omega);(focus ((first|omega|(simp only [List.length_nil];omega)|(simp only [List.length_append];omega)|(simp only [List.length_append,List.length_nil];omega)|(simp only [List.length_append,be_length];omega)|(simp only [List.length_append,be_length,List.length_nil];omega))));rintro e w2 ⟨rfl,v2,hr2,hs2⟩;replace wx:=wx.next hr2 hs2;obtain ⟨y0,y1,y2,y3,y4,y5,y6,y7,y8⟩:=row9 wx.at_)|(go_at_call 81;(with_reducible refine (number4_any seq ?_ ?_ _ w.heap.size w1.heap.size _ _ wx.wrt ?_).mono ?_);(focus omega);(focus omega);(focus ((first|omega|(simp only [List.length_nil];omega)|(simp only [List.length_append];omega)|(simp only [List.length_append,List.length_nil];omega)|(simp only [List.length_append,be_length];omega)|(simp only [List.length_append,be_length,List.length_nil];omega))));rintro e w2 ⟨rfl,v2,hr2,hs2⟩;replace wx:=wx.next hr2 hs2;obtain ⟨y0,y1,y2,y3,y4,y5,y6,y7,y8⟩:=row9 wx.at_;obtain ⟨ra,rn,rc,rfl,hI⟩:=wx.wrt.isB;have hcc:=wx.wrt.cell;have HI:=Lib.hid hI;have hn2:¬60000<rn:=(by have:=hI.len;have:=HQ.out;simp only [List.length_append,List.length_nil] at*;omega);clear hI))
        go_returns
        exact ⟨⟨ra,rn,rc,rfl,by have:=HI.out;simpa using this⟩,by exact H2.out.trans (H0.out.keeps wx.st)⟩
    case pos=>
      subst e2
      rw [if_pos rfl] at hsz ⊢
      have hsz0:=hsz
      simp only [List.length_append,be_length] at hsz0
      clear e1
      go_enter Tryz.func49,Tryz.ntmps49
      go_wp2_with (first|(go_at_call 31;(with_reducible refine (HS.out _ ?_).mono ?_);(focus (have:=bx.below;have:=bx.size;go_grown));rintro e w1 ⟨rfl,hb1⟩;replace bx:=bx.next hb1 (by go_grown) rfl;have zs:w.heap.size<w1.heap.size:=bx.size;have wx:=WG.fresh bx 134;have H2:Hid (Below w.heap.size w (w1.alloc (.cells #[.slice none 0 0] 134))):=Lib.hid (bx.below.alloc (Nat.le_of_lt zs) _);have H0:=Lib.hid wx.wrt;have hlt:=bx.size;obtain ⟨b0,b1,b2,b3,b4,b5,b6,b7,b8⟩:=row9 bx.at_;obtain ⟨y0,y1,y2,y3,y4,y5,y6,y7,y8⟩:=row9 wx.at_)|(go_at_call 81;(with_reducible refine (number1_any _ ?_ ?_ _ w.heap.size w1.heap.size _ _ wx.wrt ?_).mono ?_);(focus omega);(focus omega);(focus ((first|omega|(simp only [List.length_nil];omega)|(simp only [List.length_append];omega)|(simp only [List.length_append,List.length_nil];omega)|(simp only [List.length_append,be_length];omega)|(simp only [List.length_append,be_length,List.length_nil];omega))));rintro e w2 ⟨rfl,v2,hr2,hs2⟩;replace wx:=wx.next hr2 hs2;obtain ⟨y0,y1,y2,y3,y4,y5,y6,y7,y8⟩:=row9 wx.at_)|(go_at_call 81;(with_reducible refine (number4_any _ ?_ ?_ _ w.heap.size w1.heap.size _ _ wx.wrt ?_).mono ?_);(focus omega);(focus omega);(focus ((first|omega|(simp only [List.length_nil];omega)|(simp only [List.length_append];omega)|(simp only [List.length_append,List.length_nil];omega)|(simp only [List.length_append,be_length];omega)|(simp only [List.length_append,be_length,List.length_nil];omega))));rintro e w2 ⟨rfl,v2,hr2,hs2⟩;replace wx:=wx.next hr2 hs2;obtain ⟨y0,y1,y2,y3,y4,y5,y6,y7,y8⟩:=row9 wx.at_))
      obtain ⟨PRE,hPRE⟩:∃PRE, [] ++be ((2:Int) % 18446744073709551616).toNat 1++be (src % 18446744073709551616).toNat 4++be (seq % 18446744073709551616).toNat 4++be ((ol:Int) % 18446744073709551616).toNat 4=PRE:=⟨_,rfl⟩
      rw [hPRE] at wx
      have hPL:PRE.length+(encCs l).length≤140737488355328:=by rw [←hPRE];simp only [List.length_append,be_length,List.length_nil];omega
      have hPE:be ((2:Int) % 18446744073709551616).toNat 1++be (src % 18446744073709551616).toNat 4++be (seq % 18446744073709551616).toNat 4++(be l.length 4++encCs l)=PRE++encCs l:=by rw [←hPRE,ELL.out];simp only [List.append_assoc,List.nil_append]
      rw [hPE] at hsz
      have HPE:=Lib.hid hPE
      have hlt:=bx.size
      have hwl:w1.heap.size<(w1.alloc (.cells #[.slice none 0 0] 134)).heap.size:=by simp
      obtain ⟨W0,hW0⟩:∃W0,w1.alloc (.cells #[.slice none 0 0] 134)=W0:=⟨_,rfl⟩
      rw [hW0] at wx H2 H0 hwl
      clear hr2 hs2 hPRE hPE y0 b0 y1 b1 y2 b2 y3 b3 y4 b4 y5 b5 y6 b6 y7 b7 y8 b8
      go_loopw [6] (fun ii wr=>∃(k:Nat) (u:Value),k≤ol∧ii= .int .i64 k∧WG W0 wr w.heap.size w1.heap.size w.heap.size (.slice none 0 0) u (PRE++encCs (l.take k)) [.int .u8 2, .int .u32 src, .int .u32 seq, .int .u8 vk, .int .i64 vn, .string vs, .slice vla vll vlc, .slice voa vol voc, .slice oa ol oc]) (fun ii _=>ol - (intOf ii).toNat)
      case atStart=>exact ⟨0,v2,Nat.zero_le _,rfl,by simpa [encCs] using wx⟩
      case round=>
        clear wx
        obtain ⟨k,u,hk,rfl,wx⟩:=hrel
        obtain ⟨y0,y1,y2,y3,y4,y5,y6,y7,y8⟩:=row9 wx.at_
        by_cases hlt2:k<ol
        · obtain ⟨b,o',f,kl,rfl,hb,x1,xb⟩:=HO.out.get hlt2
          have hbW:Below w.heap.size w wr:=H2.out.trans (H0.out.keeps wx.st)
          have x1:=x1.keep hbW hb
          have r0:=x1.c0;have r1:=x1.c1;have r2:=x1.c2;have r3:=x1.c3;have r4:=x1.c4;have r5:=x1.c5;have r6:=x1.c6.c0
          have r7:wr.cell? ⟨b,o'+k*12+7,none⟩=_:=x1.c6.c1;have r8:wr.cell? ⟨b,o'+k*12+8,none⟩=_:=x1.c6.c2;have r9:wr.cell? ⟨b,o'+k*12+9,none⟩=_:=x1.c6.c3;have r10:wr.cell? ⟨b,o'+k*12+10,none⟩=_:=x1.c6.c4;have r11:=x1.c11
          have hle:=encCs_le l (k+1)
          have ht:=encCs_take l k kl
          have hlen:(PRE++encCs (l.take k)).length+(encC l[k]).length≤140737488355328:=by
            rw [ht,List.length_append] at hle;rw [List.length_append];omega
          have HI:Hid (∀W,Below wr.heap.size wr W→Calls Tryz.prog 83 #[.pointer (some ⟨w1.heap.size,0,none⟩), .agg #[.int .u8 f.k, .slice f.pa f.pl f.pc, .string f.key, .int .i64 f.i, .int .i64 f.j, .int .i64 f.n, .int .u8 f.v.k, .int .i64 f.v.n, .string f.v.s, .slice f.v.la f.v.ll f.v.lc, .slice f.v.oa f.v.ol f.v.oc, .string f.s]] W fun e w'=>e= .returned (.tuple #[])∧∃v',Wr w' w.heap.size w1.heap.size v' (PRE++encCs (l.take (k+1)))∧WStep W w' w1.heap.size u v'):=by
            intro W hW
            have hBw:w.heap.size≤wr.heap.size:=hbW.size
            have:=refCompW_any l[k] W w.heap.size w1.heap.size u _ f (wx.wrt.of_below hW) (xb.keep (hbW.trans (hW.mono hBw))) hlen
            rw [ht, ←List.append_assoc];exact this
          clear x1 hle ht hlen xb hbW
          go_wp2_with (go_at_call 83;refine (HI.out _ (by go_grown)).mono ?_;rintro e w2 ⟨rfl,v3,hr3,hs3⟩)
          go_roundw
          case rel=>exact ⟨k+1,v3,by omega,by go_num,(wx.behind (by go_grown)).next hr3 hs3⟩
          case measure=>simp [intOf];omega
        · have hk2:k=ol:=by omega
          have hq:=wx.eqb (bs':=PRE++encCs l) (by rw [List.take_of_length_le (by have:=EL.out;omega)])
          clear wx
          have wx:=hq
          clear hq
          have hWt:=wx.wrt
          obtain ⟨ra,rn,rc,rfl,hI⟩:=hWt.isB
          have hcc:=hWt.cell
          have hn:=hI.len
          have HI:=Lib.hid hI
          have HWX:=Lib.hid wx
          by_cases hq:60000<(PRE++encCs l).length
          · have e1:outN true (PRE++encCs l)=3:=by simp only [outN,hq,if_true]
            have e2:outB true (PRE++encCs l)= [] :=by simp only [outB,hq,if_true]
            have E1:=Lib.hid e1
            have E2:=Lib.hid e2
            have hn2:60000<rn:=by omega
            clear e1 e2 hI hWt wx hn hq
            go_wp2_with fail
            go_returns
            rw [HPE.out,E1.out,E2.out]
            exact ⟨⟨none,0,0,rfl, .nil _ _⟩,by exact H2.out.trans (H0.out.keeps HWX.out.st)⟩
          · have e1:outN true (PRE++encCs l)=0:=by simp only [outN,hq,if_true,if_false]
            have e2:outB true (PRE++encCs l)=PRE++encCs l:=by simp only [outB,hq,if_true,if_false]
            have E1:=Lib.hid e1
            have E2:=Lib.hid e2
            have hn2:¬60000<rn:=by omega
            clear e1 e2 hI hWt wx hn hq
            go_wp2_with fail
            go_returns
            rw [HPE.out,E1.out,E2.out]
            exact ⟨⟨ra,rn,rc,rfl,HI.out⟩,by exact H2.out.trans (H0.out.keeps HWX.out.st)⟩
end Go.Proofs.YthceefjafklcmaaGreatDoor
namespace Go.Proofs.YthceefjafklcmaaGreatDoor
open Go.RowKit
set_option maxHeartbeats 8000000 in
set_option maxRecDepth 100000 in
theorem refValue_of (sd:Bool) (w:World) (vk vn:Int) (vs:ByteArray) (vla:Option Addr) (vll vlc:Nat) (voa:Option Addr) (vol voc:Nat) (vv:V) (hv:IsVal w w.heap.size vv ⟨vk,vn,vs,vla,vll,vlc,voa,vol,voc⟩) (HS:Hid (∀W,Below w.heap.size w W→Calls Tryz.prog 52 #[.agg #[.int .u8 vk, .int .i64 vn, .string vs, .slice vla vll vlc, .slice voa vol voc]] W fun e w'=>e= .returned (.bool sd)∧Below W.heap.size W w')) (hsz:(encV vv).length≤70368744177664):
    Calls Tryz.prog 50 #[.agg #[.int .u8 vk, .int .i64 vn, .string vs, .slice vla vll vlc, .slice voa vol voc]] w fun e w'=>(∃a n c,e= .returned (.tuple #[.slice a n c, .int .i64 (outN sd (encV vv))])∧IsB w' w'.heap.size a n c (outB sd (encV vv)))∧Below w.heap.size w w':=by
  have bx:=BX.start w #[.int .u8 vk, .int .i64 vn, .string vs, .slice vla vll vlc, .slice voa vol voc] 28
  have HV:Hid (∀W,Below w.heap.size w W→IsVal W w.heap.size vv ⟨vk,vn,vs,vla,vll,vlc,voa,vol,voc⟩):=fun W hW=>hv.keep hW
  clear hv
  cases sd with
  | false=>
    have e1:outN false (encV vv)=1:=rfl
    have e2:outB false (encV vv)= [] :=rfl
    rw [e1,e2]
    clear e1 e2 hsz
    go_enter Tryz.func50,Tryz.ntmps50
    go_wp2_with (go_at_call 52;(with_reducible refine (HS.out _ ?_).mono ?_);(focus (have:=bx.below;have:=bx.size;go_grown));rintro e w1 ⟨rfl,hb1⟩;replace bx:=bx.next hb1 (by go_grown) rfl;have zs:w.heap.size<w1.heap.size:=bx.size;obtain ⟨y0,y1,y2,y3,y4⟩:=row5 bx.at_)
    go_returns
    exact ⟨⟨none,0,0,rfl, .nil _ _⟩,by have:=bx.below;have:=bx.size;go_grown⟩
  | true=>
    have hsz0:(encV vv).length≤140737488355328:=by omega
    by_cases hq:60000<(encV vv).length
    · have e1:outN true (encV vv)=3:=by simp only [outN,hq,if_true]
      have e2:outB true (encV vv)= [] :=by simp only [outB,hq,if_true]
      rw [e1,e2]
      have HQ:=Lib.hid hq
      clear e1 e2 hq
      go_enter Tryz.func50,Tryz.ntmps50
      go_wp2_with (first|(go_at_call 52;(with_reducible refine (HS.out _ ?_).mono ?_);(focus (have:=bx.below;have:=bx.size;go_grown));rintro e w1 ⟨rfl,hb1⟩;replace bx:=bx.next hb1 (by go_grown) rfl;have zs:w.heap.size<w1.heap.size:=bx.size;have wx:=WG.fresh bx 134;have H2:Hid (Below w.heap.size w (w1.alloc (.cells #[.slice none 0 0] 134))):=Lib.hid (bx.below.alloc (Nat.le_of_lt zs) _);have H0:=Lib.hid wx.wrt;have hlt:=bx.size;obtain ⟨b0,b1,b2,b3,b4⟩:=row5 bx.at_;obtain ⟨y0,y1,y2,y3,y4⟩:=row5 wx.at_)|(go_at_call 82;(with_reducible refine (refValueX_any vv vk vn vs vla vll vlc voa vol voc _ w.heap.size w1.heap.size _ _ wx.wrt (HV.out _ (H2.out.trans (H0.out.keeps wx.st))) ?_).mono ?_);(focus ((first|omega|(simp only [List.length_nil];omega)|(simp only [List.length_append];omega)|(simp only [List.length_append,List.length_nil];omega)|(simp only [List.length_append,be_length];omega)|(simp only [List.length_append,be_length,List.length_nil];omega))));rintro e w2 ⟨rfl,v2,hr2,hs2⟩;replace wx:=wx.next hr2 hs2;obtain ⟨y0,y1,y2,y3,y4⟩:=row5 wx.at_;obtain ⟨ra,rn,rc,rfl,hI⟩:=wx.wrt.isB;have hcc:=wx.wrt.cell;have HI:=Lib.hid hI;have hn2:60000<rn:=(by have:=hI.len;have:=HQ.out;simp only [List.length_append,List.length_nil] at*;omega);clear hI))
      go_returns
      exact ⟨⟨none,0,0,rfl, .nil _ _⟩,by exact H2.out.trans (H0.out.keeps wx.st)⟩
    · have e1:outN true (encV vv)=0:=by simp only [outN,hq,if_true,if_false]
      have e2:outB true (encV vv)=encV vv:=by simp only [outB,hq,if_true,if_false]
      rw [e1,e2]
      have HQ:=Lib.hid hq
      clear e1 e2 hq
      go_enter Tryz.func50,Tryz.ntmps50
      go_wp2_with (first|(go_at_call 52;(with_reducible refine (HS.out _ ?_).mono ?_);(focus (have:=bx.below;have:=bx.size;go_grown));rintro e w1 ⟨rfl,hb1⟩;replace bx:=bx.next hb1 (by go_grown) rfl;have zs:w.heap.size<w1.heap.size:=bx.size;have wx:=WG.fresh bx 134;have H2:Hid (Below w.heap.size w (w1.alloc (.cells #[.slice none 0 0] 134))):=Lib.hid (bx.below.alloc (Nat.le_of_lt zs) _);have H0:=Lib.hid wx.wrt;have hlt:=bx.size;obtain ⟨b0,b1,b2,b3,b4⟩:=row5 bx.at_;obtain ⟨y0,y1,y2,y3,y4⟩:=row5 wx.at_)|(go_at_call 82;(with_reducible refine (refValueX_any vv vk vn vs vla vll vlc voa vol voc _ w.heap.size w1.heap.size _ _ wx.wrt (HV.out _ (H2.out.trans (H0.out.keeps wx.st))) ?_).mono ?_);(focus ((first|omega|(simp only [List.length_nil];omega)|(simp only [List.length_append];omega)|(simp only [List.length_append,List.length_nil];omega)|(simp only [List.length_append,be_length];omega)|(simp only [List.length_append,be_length,List.length_nil];omega))));rintro e w2 ⟨rfl,v2,hr2,hs2⟩;replace wx:=wx.next hr2 hs2;obtain ⟨y0,y1,y2,y3,y4⟩:=row5 wx.at_;obtain ⟨ra,rn,rc,rfl,hI⟩:=wx.wrt.isB;have hcc:=wx.wrt.cell;have HI:=Lib.hid hI;have hn2:¬60000<rn:=(by have:=hI.len;have:=HQ.out;simp only [List.length_append,List.length_nil] at*;omega);clear hI))
      go_returns
      exact ⟨⟨ra,rn,rc,rfl,by have:=HI.out;simpa using this⟩,by exact H2.out.trans (H0.out.keeps wx.st)⟩
end Go.Proofs.YthceefjafklcmaaGreatDoor
