/-
  Contracts of the functions that the law reaches: done; Encode and Value, of the program and of the reference.
-/
import Derived.Test.YthceefjafklcmaaGreatDoorMd9
import Derived.Test.YthceefjafklcmaaGreatDoorMd7
namespace Go.Proofs.YthceefjafklcmaaGreatDoor
open Go.RowKit
structure BX (w W:World) (cs:List Value):Prop where
  at_:∀j x,cs[j]? =some x→W.cell? ⟨w.heap.size,j,none⟩=some x
  below:Below w.heap.size w W
  size:w.heap.size+1≤W.heap.size
theorem BX.step {w W W':World} {cs:List Value} (h:BX w W cs) (hb:Below W.heap.size W W'):BX w W' cs:=
  ⟨fun j x hj=>keep_cell hb (h.at_ j x hj) (by have:=h.size;omega),h.below.trans (hb.mono (by have:=h.size;omega)),by have:=h.size;have:=hb.size;omega⟩
theorem BX.next {w W W1 W2:World} {B:Nat} {cs:List Value} (h:BX w W cs) (hb:Below B W1 W2) (hW:Below W.heap.size W W1) (hB:B=W1.heap.size):BX w W2 cs:=by
  subst hB;exact (h.step hW).step hb
theorem BX.start (w:World) (cs:Array Value) (t:TypeId):BX w (w.alloc (.cells cs t)) cs.toList:=
  ⟨fun j x hj=>cells_new w cs t j x (by rw [←hj];simp),(Below.refl _ _).alloc (Nat.le_refl _) _,by simp⟩
theorem frozen_new (w:World) (cs:Array Value) (t:TypeId) (j:Nat):(w.alloc (.cells cs t)).frozen? ⟨w.heap.size,j,none⟩=false:=by
  simp [go_sem]
theorem WG.fresh {w w1:World} {cs:List Value} (h:BX w w1 cs) (t:TypeId):WG (w1.alloc (.cells #[.slice none 0 0] t)) (w1.alloc (.cells #[.slice none 0 0] t)) w.heap.size w1.heap.size w.heap.size (.slice none 0 0) (.slice none 0 0) [] cs:=by
  have hb:Below w1.heap.size w1 (w1.alloc (.cells #[.slice none 0 0] t)):=(Below.refl _ _).alloc (Nat.le_refl _) _
  have hs:=h.size
  refine ⟨⟨cells_new w1 _ t 0 _ rfl,frozen_new w1 _ t 0,⟨by simp [outs], .inl ⟨rfl,rfl⟩⟩,by simp [Value.ownBlock],by omega⟩, .refl _ _ _,fun j x hj=>keep_cell hb (h.at_ j x hj) (by omega),by omega,by simp;omega,by simp [Value.ownBlock]⟩
structure IsB (w:World) (B:Nat) (a:Option Addr) (n c:Nat) (bs:List UInt8):Prop where
  len:n=bs.length
  cap:n≤c
  max:c≤9223372036854775807
  at_:∃b o,(0<n→a=some ⟨b,o,none⟩∧b<B)∧∀i (h:i<bs.length),w.cell? ⟨b,o+i,none⟩=some (.int .u8 (bs[i].toNat:Int))
theorem IsB.keep {w w':World} {B:Nat} {a:Option Addr} {n c:Nat} {bs:List UInt8} (h:IsB w B a n c bs) (hb:Below B w w'):IsB w' B a n c bs:=by
  obtain ⟨h1,h2,h3,b,o,h5,h6⟩:=h
  exact ⟨h1,h2,h3,b,o,h5,fun i hi=>keep_cell hb (h6 i hi) (h5 (by omega)).2⟩
theorem IsB.more {w:World} {B B':Nat} {a:Option Addr} {n c:Nat} {bs:List UInt8} (h:IsB w B a n c bs) (hB:B≤B'):IsB w B' a n c bs:=by
  obtain ⟨h1,h2,h3,b,o,h5,h6⟩:=h
  exact ⟨h1,h2,h3,b,o,fun hn=>⟨(h5 hn).1,by have:=(h5 hn).2;omega⟩,h6⟩
theorem IsB.nil (w:World) (B:Nat):IsB w B none 0 0 [] :=⟨rfl,Nat.le_refl _,by omega,0,0,fun h=>by omega,fun i hi=>by cases hi⟩
theorem Wr.isB {w:World} {B wb:Nat} {v:Value} {bs:List UInt8} (h:Wr w B wb v bs):∃a n c,v= .slice a n c∧IsB w w.heap.size a n c bs:=by
  have ho:=h.own
  have hc:=fun g hg=>ho.cells (g:=g) hg
  rcases ho.2 with ⟨rfl,hn⟩|⟨g,cap,cur,rfl,_,hg,hnc,hcm,_,_⟩
  · have:bs= [] :=List.length_eq_zero_iff.1 hn
    subst this
    exact ⟨none,0,0,rfl, .nil _ _⟩
  · refine ⟨_,_,_,rfl,rfl,hnc,by simpa [maxLen] using hcm,g,0,fun _=>⟨rfl,(h.lo g rfl).2⟩,fun i hi=> ?_⟩
    have:=hc g rfl i (.int .u8 (bs[i].toNat:Int)) (by simp [outs,hi])
    have e:(⟨g,0,none⟩:Addr).add i=⟨g,0+i,none⟩:=by unfold Addr.add;split<;>simp_all
    rw [e] at this;exact this
def encCs:List Cm→List UInt8
  | [] => []
  |c::r=>encC c++encCs r
theorem encCs_append (a b:List Cm):encCs (a++b)=encCs a++encCs b:=by
  induction a with
  |nil=>simp [encCs]
  |cons v r ih=>simp only [List.cons_append,encCs,ih,List.append_assoc]
theorem encCs_take (l:List Cm) (k:Nat) (h:k<l.length):encCs (l.take (k+1))=encCs (l.take k)++encC l[k] :=by
  rw [take_snoc l k h,encCs_append];simp [encCs]
theorem encCs_le (l:List Cm) (k:Nat):(encCs (l.take k)).length≤(encCs l).length:=by
  have h:=encCs_append (l.take k) (l.drop k)
  rw [List.take_append_drop] at h;rw [h,List.length_append];omega
def encE (e:En):List UInt8:=
  be (e.k % 18446744073709551616).toNat 1++be (e.src % 18446744073709551616).toNat 4++be (e.seq % 18446744073709551616).toNat 4++
    (if e.k=1 then encV e.v else if e.k=2 then be e.op.length 4++encCs e.op else [])
def outB (ok:Bool) (bs:List UInt8):List UInt8:=if ok=true then (if 60000<bs.length then [] else bs) else []
def outN (ok:Bool) (bs:List UInt8):Int:=if ok=true then (if 60000<bs.length then 3 else 0) else 1
theorem done_any (w:World) (B wb:Nat) (v:Value) (bs:List UInt8) (h:Wr w B wb v bs) (hsz:bs.length≤140737488355328):
    Calls Tryz.prog 68 #[.pointer (some ⟨wb,0,none⟩)] w fun e w'=>(∃a n c,e= .returned (.tuple #[.slice a n c, .int .u16 (outN true bs)])∧IsB w' w'.heap.size a n c (outB true bs))∧Below w.heap.size w w':=by
  obtain ⟨a,n,c,rfl,hI⟩:=h.isB
  have hc:=h.cell
  have hn:=hI.len
  have HN:=Lib.hid hn
  have HI:=Lib.hid hI
  by_cases hq:60000<bs.length
  · have e1:outN true bs=3:=by simp [outN,hq]
    have e2:outB true bs= [] :=by simp [outB,hq]
    rw [e1,e2]
    have hn2:60000<n:=by omega
    clear e1 e2 hI h hn hq
    go_enter Tryz.func68,Tryz.ntmps68
    go_wp2_with fail
    go_returns
    exact ⟨⟨none,0,0,rfl, .nil _ _⟩,by go_grown⟩
  · have e1:outN true bs=0:=by simp [outN,hq]
    have e2:outB true bs=bs:=by simp [outB,hq]
    rw [e1,e2]
    have hn2:¬60000<n:=by omega
    clear e1 e2 hI h hn hq
    go_enter Tryz.func68,Tryz.ntmps68
    go_wp2_with fail
    go_returns
    exact ⟨⟨a,n,c,rfl,HI.out⟩,by go_grown⟩
set_option maxHeartbeats 8000000 in
set_option maxRecDepth 100000 in
theorem value_of (sd:Bool) (w:World) (vk vn:Int) (vs:ByteArray) (vla:Option Addr) (vll vlc:Nat) (voa:Option Addr) (vol voc:Nat) (vv:V) (hv:IsVal w w.heap.size vv ⟨vk,vn,vs,vla,vll,vlc,voa,vol,voc⟩) (HS:Hid (∀W,Below w.heap.size w W→Calls Tryz.prog 56 #[.agg #[.int .u8 vk, .int .i64 vn, .string vs, .slice vla vll vlc, .slice voa vol voc]] W fun e w'=>e= .returned (.bool sd)∧Below W.heap.size W w')) (hsz:(encV vv).length≤70368744177664):
    Calls Tryz.prog 40 #[.agg #[.int .u8 vk, .int .i64 vn, .string vs, .slice vla vll vlc, .slice voa vol voc]] w fun e w'=>(∃a n c,e= .returned (.tuple #[.slice a n c, .int .u16 (outN sd (encV vv))])∧IsB w' w'.heap.size a n c (outB sd (encV vv)))∧Below w.heap.size w w':=by
  have bx:=BX.start w #[.int .u8 vk, .int .i64 vn, .string vs, .slice vla vll vlc, .slice voa vol voc] 28
  have HV:Hid (∀W,Below w.heap.size w W→IsVal W w.heap.size vv ⟨vk,vn,vs,vla,vll,vlc,voa,vol,voc⟩):=fun W hW=>hv.keep hW
  clear hv
  cases sd with
  | false=>
    have e1:outN false (encV vv)=1:=rfl
    have e2:outB false (encV vv)= [] :=rfl
    rw [e1,e2]
    clear e1 e2 hsz
    go_enter Tryz.func40,Tryz.ntmps40
    go_wp2_with (go_at_call 56;(with_reducible refine (HS.out _ ?_).mono ?_);(focus (have:=bx.below;have:=bx.size;go_grown));rintro e w1 ⟨rfl,hb1⟩;replace bx:=bx.next hb1 (by go_grown) rfl;have zs:w.heap.size<w1.heap.size:=bx.size;obtain ⟨y0,y1,y2,y3,y4⟩:=row5 bx.at_)
    go_returns
    exact ⟨⟨none,0,0,rfl, .nil _ _⟩,by have:=bx.below;have:=bx.size;go_grown⟩
  | true=>
    have hsz0:(encV vv).length≤140737488355328:=by omega
    go_enter Tryz.func40,Tryz.ntmps40
    go_wp2_with (first|(go_at_call 56;(with_reducible refine (HS.out _ ?_).mono ?_);(focus (have:=bx.below;have:=bx.size;go_grown));rintro e w1 ⟨rfl,hb1⟩;replace bx:=bx.next hb1 (by go_grown) rfl;have zs:w.heap.size<w1.heap.size:=bx.size;have wx:=WG.fresh bx 113;have H2:Hid (Below w.heap.size w (w1.alloc (.cells #[.slice none 0 0] 113))):=Lib.hid (bx.below.alloc (Nat.le_of_lt zs) _);have H0:=Lib.hid wx.wrt;have hlt:=bx.size;obtain ⟨b0,b1,b2,b3,b4⟩:=row5 bx.at_;obtain ⟨y0,y1,y2,y3,y4⟩:=row5 wx.at_)|(go_at_call 65;(with_reducible refine (valueX_any vv vk vn vs vla vll vlc voa vol voc _ w.heap.size w1.heap.size _ _ wx.wrt (HV.out _ (H2.out.trans (H0.out.keeps wx.st))) ?_).mono ?_);(focus ((first|omega|(simp only [List.length_nil];omega)|(simp only [List.length_append];omega)|(simp only [List.length_append,List.length_nil];omega)|(simp only [List.length_append,be_length];omega)|(simp only [List.length_append,be_length,List.length_nil];omega))));rintro e w2 ⟨rfl,v2,hr2,hs2⟩;replace wx:=wx.next hr2 hs2;obtain ⟨y0,y1,y2,y3,y4⟩:=row5 wx.at_)|(go_at_call 68;(with_reducible refine (done_any _ w.heap.size w1.heap.size _ _ wx.wrt ?_).mono ?_);(focus ((first|omega|(simp only [List.length_nil];omega)|(simp only [List.length_append];omega)|(simp only [List.length_append,List.length_nil];omega)|(simp only [List.length_append,be_length];omega)|(simp only [List.length_append,be_length,List.length_nil];omega))));rintro e w9 ⟨⟨ra,rn,rc,rfl,hI⟩,hb9⟩))
    go_returns
    exact ⟨⟨ra,rn,rc,rfl,hI⟩,by exact (H2.out.trans (H0.out.keeps wx.st)).trans (hb9.mono (by have:=wx.lt;omega))⟩
set_option maxHeartbeats 8000000 in
set_option maxRecDepth 100000 in
theorem encode_of (sd:Bool) (w:World) (ek src seq vk vn:Int) (vs:ByteArray) (vla:Option Addr) (vll vlc:Nat) (voa:Option Addr) (vol voc:Nat) (oa:Option Addr) (ol oc:Nat) (vv:V) (l:List Cm) (hk0:0≤ek) (hk1:ek<256) (hv:IsVal w w.heap.size vv ⟨vk,vn,vs,vla,vll,vlc,voa,vol,voc⟩) (ho:IsComps w w.heap.size l oa ol oc) (HS:Hid (∀W,Below w.heap.size w W→Calls Tryz.prog 36 #[.agg #[.int .u8 ek, .int .u32 src, .int .u32 seq, .int .u8 vk, .int .i64 vn, .string vs, .slice vla vll vlc, .slice voa vol voc, .slice oa ol oc]] W fun e w'=>e= .returned (.bool sd)∧Below W.heap.size W w')) (hsz:sd=true→(encE ⟨ek,src,seq,vv,l⟩).length≤70368744177664):
    Calls Tryz.prog 39 #[.agg #[.int .u8 ek, .int .u32 src, .int .u32 seq, .int .u8 vk, .int .i64 vn, .string vs, .slice vla vll vlc, .slice voa vol voc, .slice oa ol oc]] w fun e w'=>(∃a n c,e= .returned (.tuple #[.slice a n c, .int .u16 (outN sd (encE ⟨ek,src,seq,vv,l⟩))])∧IsB w' w'.heap.size a n c (outB sd (encE ⟨ek,src,seq,vv,l⟩)))∧Below w.heap.size w w':=by
  have bx:=BX.start w #[.int .u8 ek, .int .u32 src, .int .u32 seq, .int .u8 vk, .int .i64 vn, .string vs, .slice vla vll vlc, .slice voa vol voc, .slice oa ol oc] 31
  have HV:Hid (∀W,Below w.heap.size w W→IsVal W w.heap.size vv ⟨vk,vn,vs,vla,vll,vlc,voa,vol,voc⟩):=fun W hW=>hv.keep hW
  have HO:=Lib.hid ho
  have c1:=ho.cap;have c2:=ho.max;have c3:=ho.few
  have el:=ho.len
  have ell:be ((ol:Int) % 18446744073709551616).toNat 4=be l.length 4:=by rw [len_mod _ (by omega),el]
  have ELL:=Lib.hid ell
  have EL:=Lib.hid el
  clear ho hv ell el
  cases sd with
  | false=>
    have e1:outN false (encE ⟨ek,src,seq,vv,l⟩)=1:=rfl
    have e2:outB false (encE ⟨ek,src,seq,vv,l⟩)= [] :=rfl
    rw [e1,e2]
    clear e1 e2 hsz
    go_enter Tryz.func39,Tryz.ntmps39
    go_wp2_with (go_at_call 36;(with_reducible refine (HS.out _ ?_).mono ?_);(focus (have:=bx.below;have:=bx.size;go_grown));rintro e w1 ⟨rfl,hb1⟩;replace bx:=bx.next hb1 (by go_grown) rfl;have zs:w.heap.size<w1.heap.size:=bx.size;obtain ⟨y0,y1,y2,y3,y4,y5,y6,y7,y8⟩:=row9 bx.at_)
    go_returns
    exact ⟨⟨none,0,0,rfl, .nil _ _⟩,by have:=bx.below;have:=bx.size;go_grown⟩
  | true =>
    replace hsz:=hsz rfl
    have he:encE ⟨ek,src,seq,vv,l⟩=be (ek % 18446744073709551616).toNat 1++be (src % 18446744073709551616).toNat 4++be (seq % 18446744073709551616).toNat 4++(if ek=1 then encV vv else if ek=2 then be l.length 4++encCs l else []):=rfl
    rw [he] at hsz ⊢
    clear he
    by_cases e1:ek=1
    case pos=>
      subst e1
      rw [if_pos rfl] at hsz ⊢
      have hsz0:=hsz
      simp only [List.length_append,be_length] at hsz0
      go_enter Tryz.func39,Tryz.ntmps39
      go_wp2_with (first|(go_at_call 36;(with_reducible refine (HS.out _ ?_).mono ?_);(focus (have:=bx.below;have:=bx.size;go_grown));rintro e w1 ⟨rfl,hb1⟩;replace bx:=bx.next hb1 (by go_grown) rfl;have zs:w.heap.size<w1.heap.size:=bx.size;have wx:=WG.fresh bx 113;have H2:Hid (Below w.heap.size w (w1.alloc (.cells #[.slice none 0 0] 113))):=Lib.hid (bx.below.alloc (Nat.le_of_lt zs) _);have H0:=Lib.hid wx.wrt;have hlt:=bx.size;obtain ⟨b0,b1,b2,b3,b4,b5,b6,b7,b8⟩:=row9 bx.at_;obtain ⟨y0,y1,y2,y3,y4,y5,y6,y7,y8⟩:=row9 wx.at_)|(go_at_call 63;(with_reducible refine (layU81_any _ _ w.heap.size w1.heap.size _ _ wx.wrt ?_).mono ?_);(focus ((first|omega|(simp only [List.length_nil];omega)|(simp only [List.length_append];omega)|(simp only [List.length_append,List.length_nil];omega)|(simp only [List.length_append,be_length];omega)|(simp only [List.length_append,be_length,List.length_nil];omega))));rintro e w2 ⟨rfl,v2,hr2,hs2⟩;replace wx:=wx.next hr2 hs2;obtain ⟨y0,y1,y2,y3,y4,y5,y6,y7,y8⟩:=row9 wx.at_)|(go_at_call 64;(with_reducible refine (layU324_any _ _ w.heap.size w1.heap.size _ _ wx.wrt ?_).mono ?_);(focus ((first|omega|(simp only [List.length_nil];omega)|(simp only [List.length_append];omega)|(simp only [List.length_append,List.length_nil];omega)|(simp only [List.length_append,be_length];omega)|(simp only [List.length_append,be_length,List.length_nil];omega))));rintro e w2 ⟨rfl,v2,hr2,hs2⟩;replace wx:=wx.next hr2 hs2;obtain ⟨y0,y1,y2,y3,y4,y5,y6,y7,y8⟩:=row9 wx.at_)|(go_at_call 65;(with_reducible refine (valueX_any vv vk vn vs vla vll vlc voa vol voc _ w.heap.size w1.heap.size _ _ wx.wrt (HV.out _ (H2.out.trans (H0.out.keeps wx.st))) ?_).mono ?_);(focus ((first|omega|(simp only [List.length_nil];omega)|(simp only [List.length_append];omega)|(simp only [List.length_append,List.length_nil];omega)|(simp only [List.length_append,be_length];omega)|(simp only [List.length_append,be_length,List.length_nil];omega))));rintro e w2 ⟨rfl,v2,hr2,hs2⟩;replace wx:=wx.next hr2 hs2;obtain ⟨y0,y1,y2,y3,y4,y5,y6,y7,y8⟩:=row9 wx.at_)|(go_at_call 68;(with_reducible refine (done_any _ w.heap.size w1.heap.size _ _ wx.wrt ?_).mono ?_);(focus ((first|omega|(simp only [List.length_nil];omega)|(simp only [List.length_append];omega)|(simp only [List.length_append,List.length_nil];omega)|(simp only [List.length_append,be_length];omega)|(simp only [List.length_append,be_length,List.length_nil];omega))));rintro e w9 ⟨⟨ra,rn,rc,rfl,hI⟩,hb9⟩))
      go_returns
      simp only [List.nil_append] at hI ⊢
      exact ⟨⟨ra,rn,rc,rfl,hI⟩,by exact (H2.out.trans (H0.out.keeps wx.st)).trans (hb9.mono (by have:=wx.lt;omega))⟩
    have f1:(ek==1)=false:=by simp [e1]
    rw [if_neg e1] at hsz ⊢
    by_cases e2:ek=2
    case neg=>
      have f2:(ek==2)=false:=by simp [e2]
      rw [if_neg e2] at hsz ⊢
      have hsz0:=hsz
      simp only [List.length_append,be_length,List.length_nil] at hsz0
      clear e1 e2
      go_enter Tryz.func39,Tryz.ntmps39
      go_wp2_with (first|(go_at_call 36;(with_reducible refine (HS.out _ ?_).mono ?_);(focus (have:=bx.below;have:=bx.size;go_grown));rintro e w1 ⟨rfl,hb1⟩;replace bx:=bx.next hb1 (by go_grown) rfl;have zs:w.heap.size<w1.heap.size:=bx.size;have wx:=WG.fresh bx 113;have H2:Hid (Below w.heap.size w (w1.alloc (.cells #[.slice none 0 0] 113))):=Lib.hid (bx.below.alloc (Nat.le_of_lt zs) _);have H0:=Lib.hid wx.wrt;have hlt:=bx.size;obtain ⟨b0,b1,b2,b3,b4,b5,b6,b7,b8⟩:=row9 bx.at_;obtain ⟨y0,y1,y2,y3,y4,y5,y6,y7,y8⟩:=row9 wx.at_)|(go_at_call 63;(with_reducible refine (layU81_any _ _ w.heap.size w1.heap.size _ _ wx.wrt ?_).mono ?_);(focus ((first|omega|(simp only [List.length_nil];omega)|(simp only [List.length_append];omega)|(simp only [List.length_append,List.length_nil];omega)|(simp only [List.length_append,be_length];omega)|(simp only [List.length_append,be_length,List.length_nil];omega))));rintro e w2 ⟨rfl,v2,hr2,hs2⟩;replace wx:=wx.next hr2 hs2;obtain ⟨y0,y1,y2,y3,y4,y5,y6,y7,y8⟩:=row9 wx.at_)|(go_at_call 64;(with_reducible refine (layU324_any _ _ w.heap.size w1.heap.size _ _ wx.wrt ?_).mono ?_);(focus ((first|omega|(simp only [List.length_nil];omega)|(simp only [List.length_append];omega)|(simp only [List.length_append,List.length_nil];omega)|(simp only [List.length_append,be_length];omega)|(simp only [List.length_append,be_length,List.length_nil];omega))));rintro e w2 ⟨rfl,v2,hr2,hs2⟩;replace wx:=wx.next hr2 hs2;obtain ⟨y0,y1,y2,y3,y4,y5,y6,y7,y8⟩:=row9 wx.at_)|(go_at_call 68;(with_reducible refine (done_any _ w.heap.size w1.heap.size _ _ wx.wrt ?_).mono ?_);(focus ((first|omega|(simp only [List.length_nil];omega)|(simp only [List.length_append];omega)|(simp only [List.length_append,List.length_nil];omega)|(simp only [List.length_append,be_length];omega)|(simp only [List.length_append,be_length,List.length_nil];omega))));rintro e w9 ⟨⟨ra,rn,rc,rfl,hI⟩,hb9⟩))
      go_returns
      simp only [List.nil_append,List.append_nil] at hI ⊢
      exact ⟨⟨ra,rn,rc,rfl,hI⟩,by exact (H2.out.trans (H0.out.keeps wx.st)).trans (hb9.mono (by have:=wx.lt;omega))⟩
    case pos=>
      subst e2
      rw [if_pos rfl] at hsz ⊢
      have hsz0:=hsz
      simp only [List.length_append,be_length] at hsz0
      clear e1
      go_enter Tryz.func39,Tryz.ntmps39
      go_wp2_with (first|(go_at_call 36;(with_reducible refine (HS.out _ ?_).mono ?_);(focus (have:=bx.below;have:=bx.size;go_grown));rintro e w1 ⟨rfl,hb1⟩;replace bx:=bx.next hb1 (by go_grown) rfl;have zs:w.heap.size<w1.heap.size:=bx.size;have wx:=WG.fresh bx 113;have H2:Hid (Below w.heap.size w (w1.alloc (.cells #[.slice none 0 0] 113))):=Lib.hid (bx.below.alloc (Nat.le_of_lt zs) _);have H0:=Lib.hid wx.wrt;have hlt:=bx.size;obtain ⟨b0,b1,b2,b3,b4,b5,b6,b7,b8⟩:=row9 bx.at_;obtain ⟨y0,y1,y2,y3,y4,y5,y6,y7,y8⟩:=row9 wx.at_)|(go_at_call 63;(with_reducible refine (layU81_any _ _ w.heap.size w1.heap.size _ _ wx.wrt ?_).mono ?_);(focus ((first|omega|(simp only [List.length_nil];omega)|(simp only [List.length_append];omega)|(simp only [List.length_append,List.length_nil];omega)|(simp only [List.length_append,be_length];omega)|(simp only [List.length_append,be_length,List.length_nil];omega))));rintro e w2 ⟨rfl,v2,hr2,hs2⟩;replace wx:=wx.next hr2 hs2;obtain ⟨y0,y1,y2,y3,y4,y5,y6,y7,y8⟩:=row9 wx.at_)|(go_at_call 64;(with_reducible refine (layU324_any _ _ w.heap.size w1.heap.size _ _ wx.wrt ?_).mono ?_);(focus ((first|omega|(simp only [List.length_nil];omega)|(simp only [List.length_append];omega)|(simp only [List.length_append,List.length_nil];omega)|(simp only [List.length_append,be_length];omega)|(simp only [List.length_append,be_length,List.length_nil];omega))));rintro e w2 ⟨rfl,v2,hr2,hs2⟩;replace wx:=wx.next hr2 hs2;obtain ⟨y0,y1,y2,y3,y4,y5,y6,y7,y8⟩:=row9 wx.at_)|(go_at_call 66;(with_reducible refine (layInt4_any _ _ w.heap.size w1.heap.size _ _ wx.wrt ?_).mono ?_);(focus ((first|omega|(simp only [List.length_nil];omega)|(simp only [List.length_append];omega)|(simp only [List.length_append,List.length_nil];omega)|(simp only [List.length_append,be_length];omega)|(simp only [List.length_append,be_length,List.length_nil];omega))));rintro e w2 ⟨rfl,v2,hr2,hs2⟩;replace wx:=wx.next hr2 hs2;obtain ⟨y0,y1,y2,y3,y4,y5,y6,y7,y8⟩:=row9 wx.at_))
      obtain ⟨PRE,hPRE⟩:∃PRE, [] ++be ((2:Int) % 18446744073709551616).toNat 1++be (src % 18446744073709551616).toNat 4++be (seq % 18446744073709551616).toNat 4++be ((ol:Int) % 18446744073709551616).toNat 4=PRE:=⟨_,rfl⟩
      rw [hPRE] at wx
      have hPL:PRE.length+(encCs l).length≤140737488355328:=by rw [←hPRE];simp only [List.length_append,be_length,List.length_nil];omega
      have hPE:be ((2:Int) % 18446744073709551616).toNat 1++be (src % 18446744073709551616).toNat 4++be (seq % 18446744073709551616).toNat 4++(be l.length 4++encCs l)=PRE++encCs l:=by rw [←hPRE,ELL.out];simp only [List.append_assoc,List.nil_append]
      rw [hPE] at hsz
      have HPE:=Lib.hid hPE
      have hlt:=bx.size
      have hwl:w1.heap.size<(w1.alloc (.cells #[.slice none 0 0] 113)).heap.size:=by simp
      obtain ⟨W0,hW0⟩:∃W0,w1.alloc (.cells #[.slice none 0 0] 113)=W0:=⟨_,rfl⟩
      rw [hW0] at wx H2 H0 hwl
      clear hr2 hs2 hPRE hPE y0 b0 y1 b1 y2 b2 y3 b3 y4 b4 y5 b5 y6 b6 y7 b7 y8 b8
      go_loopw [42,6] (fun ii _ wr=>∃(k:Nat) (u:Value),k≤ol∧ii= .int .i64 k∧WG W0 wr w.heap.size w1.heap.size w.heap.size (.slice none 0 0) u (PRE++encCs (l.take k)) [.int .u8 2, .int .u32 src, .int .u32 seq, .int .u8 vk, .int .i64 vn, .string vs, .slice vla vll vlc, .slice voa vol voc, .slice oa ol oc]) (fun ii _ _=>ol - (intOf ii).toNat)
      case atStart=>exact ⟨0,v2,Nat.zero_le _,rfl,by simpa [encCs] using wx⟩
      case round=>
        clear wx
        obtain ⟨k,u,hk,rfl,wx⟩:=hrel
        obtain ⟨y0,y1,y2,y3,y4,y5,y6,y7,y8⟩:=row9 wx.at_
        by_cases hlt2:k<ol
        · obtain ⟨b,o',f,kl,rfl,hb,x1,xb⟩:=HO.out.get hlt2
          have hbW:Below w.heap.size w wr:=H2.out.trans (H0.out.keeps wx.st)
          have x1:=x1.keep hbW hb
          have r0:=x1.c0;have r1:=x1.c1;have r2:=x1.c2;have r3:=x1.c3;have r4:=x1.c4;have r5:=x1.c5;have r6:=x1.c6.c0
          have r7:wr.cell? ⟨b,o'+k*12+7,none⟩=_:=x1.c6.c1;have r8:wr.cell? ⟨b,o'+k*12+8,none⟩=_:=x1.c6.c2;have r9:wr.cell? ⟨b,o'+k*12+9,none⟩=_:=x1.c6.c3;have r10:wr.cell? ⟨b,o'+k*12+10,none⟩=_:=x1.c6.c4;have r11:=x1.c11
          have hle:=encCs_le l (k+1)
          have ht:=encCs_take l k kl
          have hlen:(PRE++encCs (l.take k)).length+(encC l[k]).length≤140737488355328:=by
            rw [ht,List.length_append] at hle;rw [List.length_append];omega
          have HI:Hid (∀W,Below wr.heap.size wr W→Calls Tryz.prog 67 #[.pointer (some ⟨w1.heap.size,0,none⟩), .agg #[.int .u8 f.k, .slice f.pa f.pl f.pc, .string f.key, .int .i64 f.i, .int .i64 f.j, .int .i64 f.n, .int .u8 f.v.k, .int .i64 f.v.n, .string f.v.s, .slice f.v.la f.v.ll f.v.lc, .slice f.v.oa f.v.ol f.v.oc, .string f.s]] W fun e w'=>e= .returned (.tuple #[])∧∃v',Wr w' w.heap.size w1.heap.size v' (PRE++encCs (l.take (k+1)))∧WStep W w' w1.heap.size u v'):=by
            intro W hW
            have hBw:w.heap.size≤wr.heap.size:=hbW.size
            have:=compW_any l[k] W w.heap.size w1.heap.size u _ f (wx.wrt.of_below hW) (xb.keep (hbW.trans (hW.mono hBw))) hlen
            rw [ht, ←List.append_assoc];exact this
          clear x1 hle ht hlen xb hbW
          go_wp2_with (go_at_call 67;refine (HI.out _ (by go_grown)).mono ?_;rintro e w2 ⟨rfl,v3,hr3,hs3⟩)
          go_roundw
          case rel=>exact ⟨k+1,v3,by omega,by go_num,(wx.behind (by go_grown)).next hr3 hs3⟩
          case measure=>simp [intOf];omega
        · have hk2:k=ol:=by omega
          have hq:=wx.eqb (bs':=PRE++encCs l) (by rw [List.take_of_length_le (by have:=EL.out;omega)])
          clear wx
          have wx:=hq
          clear hq
          have hWt:=wx.wrt
          go_wp2_with (go_at_call 68;(with_reducible refine (done_any _ w.heap.size w1.heap.size _ _ wx.wrt ?_).mono ?_);(focus ((first|omega|(simp only [List.length_nil];omega)|(simp only [List.length_append];omega)|(simp only [List.length_append,List.length_nil];omega)|(simp only [List.length_append,be_length];omega)|(simp only [List.length_append,be_length,List.length_nil];omega))));rintro e w9 ⟨⟨ra,rn,rc,rfl,hI⟩,hb9⟩)
          go_returns
          rw [HPE.out]
          exact ⟨⟨ra,rn,rc,rfl,hI⟩,by exact (H2.out.trans (H0.out.keeps wx.st)).trans (hb9.mono (by have:=wx.lt;omega))⟩
end Go.Proofs.YthceefjafklcmaaGreatDoor
