/-
  Contracts of the functions that the law reaches: done; Encode and Value, of the program.
-/
import Derived.Test.YtfoahkbnheijcaaGreatDoorMa4
import Derived.Defers
import Derived.Recover
import Derived.Laws.BitsAllLaws
import Derived.Laws.IdiomStrings
import Derived.Lib.BufferRead
namespace Go.Proofs.YtfoahkbnheijcaaGreatDoor
open Go.RowKit
set_option maxHeartbeats 8000000
structure BX (w W:World) (cs:List Value):Prop where
 at_:∀j x,cs[j]? =some x->W.cell? ⟨w.heap.size,j,none⟩=some x
 below:Below w.heap.size w W
 size:w.heap.size+1<=W.heap.size
theorem BX.step {w W W':World} {cs:List Value} (h:BX w W cs) (hb:Below W.heap.size W W'):BX w W' cs:=
 ⟨fun j x hj=>Zd hb (h.at_ j x hj) (by have:=h.size;omega),h.below.trans (hb.mono (by have:=h.size;omega)),by have:=h.size;have:=hb.size;omega⟩
theorem BX.next {w W W1 W2:World} {B:Nat} {cs:List Value} (h:BX w W cs) (hb:Below B W1 W2) (hW:Below W.heap.size W W1) (hB:B=W1.heap.size):BX w W2 cs:=by
 subst hB;exact (h.step hW).step hb
theorem BX.start (w:World) (cs:Array Value) (t:TypeId):BX w (w.alloc (.cells cs t)) cs.toList:=
 ⟨fun j x hj=>Zk w cs t j x (by rw [<-hj];simp),(Below.refl _ _).alloc (Nat.le_refl _) _,by simp⟩
theorem zck (w:World) (cs:Array Value) (t:TypeId) (j:Nat):(w.alloc (.cells cs t)).frozen? ⟨w.heap.size,j,none⟩=false:=by
 simp [go_sem]
theorem WG.fresh {w w1:World} {cs:List Value} (h:BX w w1 cs) (t:TypeId):WG (w1.alloc (.cells #[.slice none 0 0] t)) (w1.alloc (.cells #[.slice none 0 0] t)) w.heap.size w1.heap.size w.heap.size (.slice none 0 0) (.slice none 0 0) [] cs:=by
 have hb:Below w1.heap.size w1 (w1.alloc (.cells #[.slice none 0 0] t)):=(Below.refl _ _).alloc (Nat.le_refl _) _
 have hs:=h.size
 refine ⟨⟨Zk w1 _ t 0 _ rfl,zck w1 _ t 0,⟨by simp [outs], .inl ⟨rfl,rfl⟩⟩,by simp [Value.ownBlock],by omega⟩, .refl _ _ _,fun j x hj=>Zd hb (h.at_ j x hj) (by omega),by omega,by simp;omega,by simp [Value.ownBlock]⟩
structure IsB (w:World) (B:Nat) (a:Option Addr) (n c:Nat) (bs:List UInt8):Prop where
 len:n=bs.length
 cap:n<=c
 max:c<=9223372036854775807
 at_:∃b o,(0<n->a=some ⟨b,o,none⟩/\b<B)/\∀i (h:i<bs.length),w.cell? ⟨b,o+i,none⟩=some (.int .u8 (bs[i].toNat:Int))
theorem IsB.keep {w w':World} {B:Nat} {a:Option Addr} {n c:Nat} {bs:List UInt8} (h:IsB w B a n c bs) (hb:Below B w w'):IsB w' B a n c bs:=by
 obtain ⟨h1,h2,h3,b,o,h5,h6⟩:=h
 exact ⟨h1,h2,h3,b,o,h5,fun i hi=>Zd hb (h6 i hi) (h5 (by omega)).2⟩
theorem IsB.more {w:World} {B B':Nat} {a:Option Addr} {n c:Nat} {bs:List UInt8} (h:IsB w B a n c bs) (hB:B<=B'):IsB w B' a n c bs:=by
 obtain ⟨h1,h2,h3,b,o,h5,h6⟩:=h
 exact ⟨h1,h2,h3,b,o,fun hn=>⟨(h5 hn).1,by have:=(h5 hn).2;omega⟩,h6⟩
theorem IsB.nil (w:World) (B:Nat):IsB w B none 0 0 [] :=⟨rfl,Nat.le_refl _,by omega,0,0,fun h=>by omega,fun i hi=>by cases hi⟩
theorem Wr.isB {w:World} {B wb:Nat} {v:Value} {bs:List UInt8} (h:Wr w B wb v bs):∃a n c,v= .slice a n c/\IsB w w.heap.size a n c bs:=by
 have ho:=h.own
 have hc:=fun g hg=>ho.cells (g:=g) hg
 rcases ho.2 with ⟨rfl,hn⟩|⟨g,cap,cur,rfl,_,hg,hnc,hcm,_,_⟩
 .have:bs= [] :=List.length_eq_zero_iff.1 hn
  subst this
  exact ⟨none,0,0,rfl, .nil _ _⟩
 .refine ⟨_,_,_,rfl,rfl,hnc,by simpa [maxLen] using hcm,g,0,fun _=>⟨rfl,(h.lo g rfl).2⟩,fun i hi=> ?_⟩
  have:=hc g rfl i (.int .u8 (bs[i].toNat:Int)) (by simp [outs,hi])
  have e:(⟨g,0,none⟩:Addr).add i=⟨g,0+i,none⟩:=by unfold Addr.add;split<;>simp_all
  rw [e] at this;exact this
def encCs:List Cm->List UInt8
 | [] => []
 |c::r=>encC c++encCs r
theorem zao (a b:List Cm):encCs (a++b)=encCs a++encCs b:=by
 induction a with
 |nil=>simp [encCs]
 |cons v r ih=>simp only [List.cons_append,encCs,ih,List.append_assoc]
theorem zlj (l:List Cm) (k:Nat) (h:k<l.length):encCs (l.take (k+1))=encCs (l.take k)++encC l[k] :=by
 rw [Zv l k h,zao];simp [encCs]
theorem zpm (l:List Cm) (k:Nat):(encCs (l.take k)).length<=(encCs l).length:=by
 have h:=zao (l.take k) (l.drop k)
 rw [List.take_append_drop] at h;rw [h,List.length_append];omega
def encE (e:En):List UInt8:=
 be (e.k % 18446744073709551616).toNat 1++be (e.src % 18446744073709551616).toNat 4++be (e.seq % 18446744073709551616).toNat 4++
  (if e.k=1 then encV e.v else if e.k=2 then be e.op.length 4++encCs e.op else [])
def outB (ok:Bool) (bs:List UInt8):List UInt8:=if ok=true then (if 60000<bs.length then [] else bs) else []
def outN (ok:Bool) (bs:List UInt8):Int:=if ok=true then (if 60000<bs.length then 3 else 0) else 1
theorem Ky (w:World) (B wb:Nat) (v:Value) (bs:List UInt8) (h:Wr w B wb v bs) (hsz:bs.length<=140737488355328):
 Calls Tryz.prog 152 #[.pointer (some ⟨wb,0,none⟩)] w fun e w'=>(∃a n c,e= .returned (.tuple #[.slice a n c, .int .u16 (outN true bs)])/\IsB w' w'.heap.size a n c (outB true bs))/\Below w.heap.size w w':=by
 obtain ⟨a,n,c,rfl,hI⟩:=h.isB
 have hc:=h.cell
 have hn:=hI.len
 have HN:=qh hn
 have HI:=qh hI
 by_cases hq:60000<bs.length
 .have e1:outN true bs=3:=by simp [outN,hq]
  have e2:outB true bs= [] :=by simp [outB,hq]
  rw [e1,e2]
  have hn2:60000<n:=by omega
  clear e1 e2 hI h hn hq
  go_enter Tryz.func152,Tryz.ntmps152
  go_wp2_with fail
  go_returns
  exact ⟨⟨none,0,0,rfl, .nil _ _⟩,by go_grown⟩
 .have e1:outN true bs=0:=by simp [outN,hq]
  have e2:outB true bs=bs:=by simp [outB,hq]
  rw [e1,e2]
  have hn2:¬60000<n:=by omega
  clear e1 e2 hI h hn hq
  go_enter Tryz.func152,Tryz.ntmps152
  go_wp2_with fail
  go_returns
  exact ⟨⟨a,n,c,rfl,HI.out⟩,by go_grown⟩
set_option maxRecDepth 100000 in
theorem zh9 (sd:Bool) (w:World) (vk vn:Int) (vs:ByteArray) (vla:Option Addr) (vll vlc:Nat) (voa:Option Addr) (vol voc:Nat) (vv:V) (hv:IsVal w w.heap.size vv ⟨vk,vn,vs,vla,vll,vlc,voa,vol,voc⟩) (HS:Hid (∀W,Below w.heap.size w W->Calls Tryz.prog 141 #[.agg #[.int .u8 vk, .int .i64 vn, .string vs, .slice vla vll vlc, .slice voa vol voc]] W fun e w'=>e= .returned (.bool sd)/\Below W.heap.size W w')) (hsz:(encV vv).length<=70368744177664):
 Calls Tryz.prog 93 #[.agg #[.int .u8 vk, .int .i64 vn, .string vs, .slice vla vll vlc, .slice voa vol voc]] w fun e w'=>(∃a n c,e= .returned (.tuple #[.slice a n c, .int .u16 (outN sd (encV vv))])/\IsB w' w'.heap.size a n c (outB sd (encV vv)))/\Below w.heap.size w w':=by
 have bx:=BX.start w #[.int .u8 vk, .int .i64 vn, .string vs, .slice vla vll vlc, .slice voa vol voc] 41
 have HV:Hid (∀W,Below w.heap.size w W->IsVal W w.heap.size vv ⟨vk,vn,vs,vla,vll,vlc,voa,vol,voc⟩):=fun W hW=>hv.keep hW
 clear hv
 cases sd with
 | false=>
   have e1:outN false (encV vv)=1:=rfl
   have e2:outB false (encV vv)= [] :=rfl
   rw [e1,e2]
   clear e1 e2 hsz
   go_enter Tryz.func93,Tryz.ntmps93
   go_wp2_with (go_at_call 141;(with_reducible refine (HS.out _ ?_).mono ?_);(focus (have:=bx.below;have:=bx.size;go_grown));rintro e w1 ⟨rfl,hb1⟩;replace bx:=bx.next hb1 (by go_grown) rfl;have zs:w.heap.size<w1.heap.size:=bx.size;obtain ⟨y0,y1,y2,y3,y4⟩:=row5 bx.at_)
   go_returns
   exact ⟨⟨none,0,0,rfl, .nil _ _⟩,by have:=bx.below;have:=bx.size;go_grown⟩
 | true=>
   have hsz0:(encV vv).length<=140737488355328:=by omega
   go_enter Tryz.func93,Tryz.ntmps93
   go_wp2_with (first|(go_at_call 141;(with_reducible refine (HS.out _ ?_).mono ?_);(focus (have:=bx.below;have:=bx.size;go_grown));rintro e w1 ⟨rfl,hb1⟩;replace bx:=bx.next hb1 (by go_grown) rfl;have zs:w.heap.size<w1.heap.size:=bx.size;have wx:=WG.fresh bx 192;have H2:Hid (Below w.heap.size w (w1.alloc (.cells #[.slice none 0 0] 192))):=qh (bx.below.alloc (Nat.le_of_lt zs) _);have H0:=qh wx.wrt;have hlt:=bx.size;obtain ⟨b0,b1,b2,b3,b4⟩:=row5 bx.at_;obtain ⟨y0,y1,y2,y3,y4⟩:=row5 wx.at_)|(go_at_call 149;(with_reducible refine (Jf vv vk vn vs vla vll vlc voa vol voc _ w.heap.size w1.heap.size _ _ wx.wrt (HV.out _ (H2.out.trans (H0.out.keeps wx.st))) ?_).mono ?_);(focus ((first|omega|(simp only [List.length_nil];omega)|(simp only [List.length_append];omega)|(simp only [List.length_append,List.length_nil];omega)|(simp only [List.length_append,Zc];omega)|(simp only [List.length_append,Zc,List.length_nil];omega))));rintro e w2 ⟨rfl,v2,hr2,hs2⟩;replace wx:=wx.next hr2 hs2;obtain ⟨y0,y1,y2,y3,y4⟩:=row5 wx.at_)|(go_at_call 152;(with_reducible refine (Ky _ w.heap.size w1.heap.size _ _ wx.wrt ?_).mono ?_);(focus ((first|omega|(simp only [List.length_nil];omega)|(simp only [List.length_append];omega)|(simp only [List.length_append,List.length_nil];omega)|(simp only [List.length_append,Zc];omega)|(simp only [List.length_append,Zc,List.length_nil];omega))));rintro e w9 ⟨⟨ra,rn,rc,rfl,hI⟩,hb9⟩))
   go_returns
   exact ⟨⟨ra,rn,rc,rfl,hI⟩,by exact (H2.out.trans (H0.out.keeps wx.st)).trans (hb9.mono (by have:=wx.lt;omega))⟩
set_option maxRecDepth 100000 in
theorem zlo (sd:Bool) (w:World) (ek src seq vk vn:Int) (vs:ByteArray) (vla:Option Addr) (vll vlc:Nat) (voa:Option Addr) (vol voc:Nat) (oa:Option Addr) (ol oc:Nat) (vv:V) (l:List Cm) (hk0:0<=ek) (hk1:ek<256) (hv:IsVal w w.heap.size vv ⟨vk,vn,vs,vla,vll,vlc,voa,vol,voc⟩) (ho:IsComps w w.heap.size l oa ol oc) (HS:Hid (∀W,Below w.heap.size w W->Calls Tryz.prog 89 #[.agg #[.int .u8 ek, .int .u32 src, .int .u32 seq, .int .u8 vk, .int .i64 vn, .string vs, .slice vla vll vlc, .slice voa vol voc, .slice oa ol oc]] W fun e w'=>e= .returned (.bool sd)/\Below W.heap.size W w')) (hsz:sd=true->(encE ⟨ek,src,seq,vv,l⟩).length<=70368744177664):
 Calls Tryz.prog 92 #[.agg #[.int .u8 ek, .int .u32 src, .int .u32 seq, .int .u8 vk, .int .i64 vn, .string vs, .slice vla vll vlc, .slice voa vol voc, .slice oa ol oc]] w fun e w'=>(∃a n c,e= .returned (.tuple #[.slice a n c, .int .u16 (outN sd (encE ⟨ek,src,seq,vv,l⟩))])/\IsB w' w'.heap.size a n c (outB sd (encE ⟨ek,src,seq,vv,l⟩)))/\Below w.heap.size w w':=by
 have bx:=BX.start w #[.int .u8 ek, .int .u32 src, .int .u32 seq, .int .u8 vk, .int .i64 vn, .string vs, .slice vla vll vlc, .slice voa vol voc, .slice oa ol oc] 44
 have HV:Hid (∀W,Below w.heap.size w W->IsVal W w.heap.size vv ⟨vk,vn,vs,vla,vll,vlc,voa,vol,voc⟩):=fun W hW=>hv.keep hW
 have HO:=qh ho
 have c1:=ho.cap;have c2:=ho.max;have c3:=ho.few
 have el:=ho.len
 have ell:be ((ol:Int) % 18446744073709551616).toNat 4=be l.length 4:=by rw [Js _ (by omega),el]
 have ELL:=qh ell
 have EL:=qh el
 clear ho hv ell el
 cases sd with
 | false=>
   have e1:outN false (encE ⟨ek,src,seq,vv,l⟩)=1:=rfl
   have e2:outB false (encE ⟨ek,src,seq,vv,l⟩)= [] :=rfl
   rw [e1,e2]
   clear e1 e2 hsz
   go_enter Tryz.func92,Tryz.ntmps92
   go_wp2_with (go_at_call 89;(with_reducible refine (HS.out _ ?_).mono ?_);(focus (have:=bx.below;have:=bx.size;go_grown));rintro e w1 ⟨rfl,hb1⟩;replace bx:=bx.next hb1 (by go_grown) rfl;have zs:w.heap.size<w1.heap.size:=bx.size;obtain ⟨y0,y1,y2,y3,y4,y5,y6,y7,y8⟩:=row9 bx.at_)
   go_returns
   exact ⟨⟨none,0,0,rfl, .nil _ _⟩,by have:=bx.below;have:=bx.size;go_grown⟩
 | true =>
   replace hsz:=hsz rfl
   have he:encE ⟨ek,src,seq,vv,l⟩=be (ek % 18446744073709551616).toNat 1++be (src % 18446744073709551616).toNat 4++be (seq % 18446744073709551616).toNat 4++(if ek=1 then encV vv else if ek=2 then be l.length 4++encCs l else []):=rfl
   rw [he] at hsz ⊢
   clear he
   by_cases e1:ek=1
   case pos=>
    subst e1
    rw [if_pos rfl] at hsz ⊢
    have hsz0:=hsz
    simp only [List.length_append,Zc] at hsz0
    go_enter Tryz.func92,Tryz.ntmps92
    go_wp2_with (first|(go_at_call 89;(with_reducible refine (HS.out _ ?_).mono ?_);(focus (have:=bx.below;have:=bx.size;go_grown));rintro e w1 ⟨rfl,hb1⟩;replace bx:=bx.next hb1 (by go_grown) rfl;have zs:w.heap.size<w1.heap.size:=bx.size;have wx:=WG.fresh bx 192;have H2:Hid (Below w.heap.size w (w1.alloc (.cells #[.slice none 0 0] 192))):=qh (bx.below.alloc (Nat.le_of_lt zs) _);have H0:=qh wx.wrt;have hlt:=bx.size;obtain ⟨b0,b1,b2,b3,b4,b5,b6,b7,b8⟩:=row9 bx.at_;obtain ⟨y0,y1,y2,y3,y4,y5,y6,y7,y8⟩:=row9 wx.at_)|(go_at_call 147;(with_reducible refine (Qe _ _ w.heap.size w1.heap.size _ _ wx.wrt ?_).mono ?_);(focus ((first|omega|(simp only [List.length_nil];omega)|(simp only [List.length_append];omega)|(simp only [List.length_append,List.length_nil];omega)|(simp only [List.length_append,Zc];omega)|(simp only [List.length_append,Zc,List.length_nil];omega))));rintro e w2 ⟨rfl,v2,hr2,hs2⟩;replace wx:=wx.next hr2 hs2;obtain ⟨y0,y1,y2,y3,y4,y5,y6,y7,y8⟩:=row9 wx.at_)|(go_at_call 148;(with_reducible refine (zan _ _ w.heap.size w1.heap.size _ _ wx.wrt ?_).mono ?_);(focus ((first|omega|(simp only [List.length_nil];omega)|(simp only [List.length_append];omega)|(simp only [List.length_append,List.length_nil];omega)|(simp only [List.length_append,Zc];omega)|(simp only [List.length_append,Zc,List.length_nil];omega))));rintro e w2 ⟨rfl,v2,hr2,hs2⟩;replace wx:=wx.next hr2 hs2;obtain ⟨y0,y1,y2,y3,y4,y5,y6,y7,y8⟩:=row9 wx.at_)|(go_at_call 149;(with_reducible refine (Jf vv vk vn vs vla vll vlc voa vol voc _ w.heap.size w1.heap.size _ _ wx.wrt (HV.out _ (H2.out.trans (H0.out.keeps wx.st))) ?_).mono ?_);(focus ((first|omega|(simp only [List.length_nil];omega)|(simp only [List.length_append];omega)|(simp only [List.length_append,List.length_nil];omega)|(simp only [List.length_append,Zc];omega)|(simp only [List.length_append,Zc,List.length_nil];omega))));rintro e w2 ⟨rfl,v2,hr2,hs2⟩;replace wx:=wx.next hr2 hs2;obtain ⟨y0,y1,y2,y3,y4,y5,y6,y7,y8⟩:=row9 wx.at_)|(go_at_call 152;(with_reducible refine (Ky _ w.heap.size w1.heap.size _ _ wx.wrt ?_).mono ?_);(focus ((first|omega|(simp only [List.length_nil];omega)|(simp only [List.length_append];omega)|(simp only [List.length_append,List.length_nil];omega)|(simp only [List.length_append,Zc];omega)|(simp only [List.length_append,Zc,List.length_nil];omega))));rintro e w9 ⟨⟨ra,rn,rc,rfl,hI⟩,hb9⟩))
    go_returns
    simp only [List.nil_append] at hI ⊢
    exact ⟨⟨ra,rn,rc,rfl,hI⟩,by exact (H2.out.trans (H0.out.keeps wx.st)).trans (hb9.mono (by have:=wx.lt;omega))⟩
   have f1:(ek==1)=false:=by simp [e1]
   rw [if_neg e1] at hsz ⊢
   by_cases e2:ek=2
   case neg=>
    have f2:(ek==2)=false:=by simp [e2]
    rw [if_neg e2] at hsz ⊢
    have hsz0:=hsz
    simp only [List.length_append,Zc,List.length_nil] at hsz0
    clear e1 e2
    go_enter Tryz.func92,Tryz.ntmps92
    go_wp2_with (first|(go_at_call 89;(with_reducible refine (HS.out _ ?_).mono ?_);(focus (have:=bx.below;have:=bx.size;go_grown));rintro e w1 ⟨rfl,hb1⟩;replace bx:=bx.next hb1 (by go_grown) rfl;have zs:w.heap.size<w1.heap.size:=bx.size;have wx:=WG.fresh bx 192;have H2:Hid (Below w.heap.size w (w1.alloc (.cells #[.slice none 0 0] 192))):=qh (bx.below.alloc (Nat.le_of_lt zs) _);have H0:=qh wx.wrt;have hlt:=bx.size;obtain ⟨b0,b1,b2,b3,b4,b5,b6,b7,b8⟩:=row9 bx.at_;obtain ⟨y0,y1,y2,y3,y4,y5,y6,y7,y8⟩:=row9 wx.at_)|(go_at_call 147;(with_reducible refine (Qe _ _ w.heap.size w1.heap.size _ _ wx.wrt ?_).mono ?_);(focus ((first|omega|(simp only [List.length_nil];omega)|(simp only [List.length_append];omega)|(simp only [List.length_append,List.length_nil];omega)|(simp only [List.length_append,Zc];omega)|(simp only [List.length_append,Zc,List.length_nil];omega))));rintro e w2 ⟨rfl,v2,hr2,hs2⟩;replace wx:=wx.next hr2 hs2;obtain ⟨y0,y1,y2,y3,y4,y5,y6,y7,y8⟩:=row9 wx.at_)|(go_at_call 148;(with_reducible refine (zan _ _ w.heap.size w1.heap.size _ _ wx.wrt ?_).mono ?_);(focus ((first|omega|(simp only [List.length_nil];omega)|(simp only [List.length_append];omega)|(simp only [List.length_append,List.length_nil];omega)|(simp only [List.length_append,Zc];omega)|(simp only [List.length_append,Zc,List.length_nil];omega))));rintro e w2 ⟨rfl,v2,hr2,hs2⟩;replace wx:=wx.next hr2 hs2;obtain ⟨y0,y1,y2,y3,y4,y5,y6,y7,y8⟩:=row9 wx.at_)|(go_at_call 152;(with_reducible refine (Ky _ w.heap.size w1.heap.size _ _ wx.wrt ?_).mono ?_);(focus ((first|omega|(simp only [List.length_nil];omega)|(simp only [List.length_append];omega)|(simp only [List.length_append,List.length_nil];omega)|(simp only [List.length_append,Zc];omega)|(simp only [List.length_append,Zc,List.length_nil];omega))));rintro e w9 ⟨⟨ra,rn,rc,rfl,hI⟩,hb9⟩))
    go_returns
    simp only [List.nil_append,List.append_nil] at hI ⊢
    exact ⟨⟨ra,rn,rc,rfl,hI⟩,by exact (H2.out.trans (H0.out.keeps wx.st)).trans (hb9.mono (by have:=wx.lt;omega))⟩
   case pos=>
    subst e2
    rw [if_pos rfl] at hsz ⊢
    have hsz0:=hsz
    simp only [List.length_append,Zc] at hsz0
    clear e1
    go_enter Tryz.func92,Tryz.ntmps92
    go_wp2_with (first|(go_at_call 89;(with_reducible refine (HS.out _ ?_).mono ?_);(focus (have:=bx.below;have:=bx.size;go_grown));rintro e w1 ⟨rfl,hb1⟩;replace bx:=bx.next hb1 (by go_grown) rfl;have zs:w.heap.size<w1.heap.size:=bx.size;have wx:=WG.fresh bx 192;have H2:Hid (Below w.heap.size w (w1.alloc (.cells #[.slice none 0 0] 192))):=qh (bx.below.alloc (Nat.le_of_lt zs) _);have H0:=qh wx.wrt;have hlt:=bx.size;obtain ⟨b0,b1,b2,b3,b4,b5,b6,b7,b8⟩:=row9 bx.at_;obtain ⟨y0,y1,y2,y3,y4,y5,y6,y7,y8⟩:=row9 wx.at_)|(go_at_call 147;(with_reducible refine (Qe _ _ w.heap.size w1.heap.size _ _ wx.wrt ?_).mono ?_);(focus ((first|omega|(simp only [List.length_nil];omega)|(simp only [List.length_append];omega)|(simp only [List.length_append,List.length_nil];omega)|(simp only [List.length_append,Zc];omega)|(simp only [List.length_append,Zc,List.length_nil];omega))));rintro e w2 ⟨rfl,v2,hr2,hs2⟩;replace wx:=wx.next hr2 hs2;obtain ⟨y0,y1,y2,y3,y4,y5,y6,y7,y8⟩:=row9 wx.at_)|(go_at_call 148;(with_reducible refine (zan _ _ w.heap.size w1.heap.size _ _ wx.wrt ?_).mono ?_);(focus ((first|omega|(simp only [List.length_nil];omega)|(simp only [List.length_append];omega)|(simp only [List.length_append,List.length_nil];omega)|(simp only [List.length_append,Zc];omega)|(simp only [List.length_append,Zc,List.length_nil];omega))));rintro e w2 ⟨rfl,v2,hr2,hs2⟩;replace wx:=wx.next hr2 hs2;obtain ⟨y0,y1,y2,y3,y4,y5,y6,y7,y8⟩:=row9 wx.at_)|(go_at_call 150;(with_reducible refine (zhy _ _ w.heap.size w1.heap.size _ _ wx.wrt ?_).mono ?_);(focus ((first|omega|(simp only [List.length_nil];omega)|(simp only [List.length_append];omega)|(simp only [List.length_append,List.length_nil];omega)|(simp only [List.length_append,Zc];omega)|(simp only [List.length_append,Zc,List.length_nil];omega))));rintro e w2 ⟨rfl,v2,hr2,hs2⟩;replace wx:=wx.next hr2 hs2;obtain ⟨y0,y1,y2,y3,y4,y5,y6,y7,y8⟩:=row9 wx.at_))
    obtain ⟨PRE,hPRE⟩:∃PRE, [] ++be ((2:Int) % 18446744073709551616).toNat 1++be (src % 18446744073709551616).toNat 4++be (seq % 18446744073709551616).toNat 4++be ((ol:Int) % 18446744073709551616).toNat 4=PRE:=⟨_,rfl⟩
    rw [hPRE] at wx
    have hPL:PRE.length+(encCs l).length<=140737488355328:=by rw [<-hPRE];simp only [List.length_append,Zc,List.length_nil];omega
    have hPE:be ((2:Int) % 18446744073709551616).toNat 1++be (src % 18446744073709551616).toNat 4++be (seq % 18446744073709551616).toNat 4++(be l.length 4++encCs l)=PRE++encCs l:=by rw [<-hPRE,ELL.out];simp only [List.append_assoc,List.nil_append]
    rw [hPE] at hsz
    have HPE:=qh hPE
    have hlt:=bx.size
    have hwl:w1.heap.size<(w1.alloc (.cells #[.slice none 0 0] 192)).heap.size:=by simp
    obtain ⟨W0,hW0⟩:∃W0,w1.alloc (.cells #[.slice none 0 0] 192)=W0:=⟨_,rfl⟩
    rw [hW0] at wx H2 H0 hwl
    clear hr2 hs2 hPRE hPE y0 b0 y1 b1 y2 b2 y3 b3 y4 b4 y5 b5 y6 b6 y7 b7 y8 b8
    go_loopw [42,6] (fun ii _ wr=>∃(k:Nat) (u:Value),k<=ol/\ii= .int .i64 k/\WG W0 wr w.heap.size w1.heap.size w.heap.size (.slice none 0 0) u (PRE++encCs (l.take k)) [.int .u8 2, .int .u32 src, .int .u32 seq, .int .u8 vk, .int .i64 vn, .string vs, .slice vla vll vlc, .slice voa vol voc, .slice oa ol oc]) (fun ii _ _=>ol - (intOf ii).toNat)
    case atStart=>exact ⟨0,v2,Nat.zero_le _,rfl,by simpa [encCs] using wx⟩
    case round=>
     clear wx
     obtain ⟨k,u,hk,rfl,wx⟩:=hrel
     obtain ⟨y0,y1,y2,y3,y4,y5,y6,y7,y8⟩:=row9 wx.at_
     by_cases hlt2:k<ol
     .obtain ⟨b,o',f,kl,rfl,hb,x1,xb⟩:=HO.out.get hlt2
      have hbW:Below w.heap.size w wr:=H2.out.trans (H0.out.keeps wx.st)
      have x1:=x1.keep hbW hb
      have r0:=x1.c0;have r1:=x1.c1;have r2:=x1.c2;have r3:=x1.c3;have r4:=x1.c4;have r5:=x1.c5;have r6:=x1.c6.c0
      have r7:wr.cell? ⟨b,o'+k*12+7,none⟩=_:=x1.c6.c1;have r8:wr.cell? ⟨b,o'+k*12+8,none⟩=_:=x1.c6.c2;have r9:wr.cell? ⟨b,o'+k*12+9,none⟩=_:=x1.c6.c3;have r10:wr.cell? ⟨b,o'+k*12+10,none⟩=_:=x1.c6.c4;have r11:=x1.c11
      have hle:=zpm l (k+1)
      have ht:=zlj l k kl
      have hlen:(PRE++encCs (l.take k)).length+(encC l[k]).length<=140737488355328:=by
       rw [ht,List.length_append] at hle;rw [List.length_append];omega
      have HI:Hid (∀W,Below wr.heap.size wr W->Calls Tryz.prog 151 #[.pointer (some ⟨w1.heap.size,0,none⟩), .agg #[.int .u8 f.k, .slice f.pa f.pl f.pc, .string f.key, .int .i64 f.i, .int .i64 f.j, .int .i64 f.n, .int .u8 f.v.k, .int .i64 f.v.n, .string f.v.s, .slice f.v.la f.v.ll f.v.lc, .slice f.v.oa f.v.ol f.v.oc, .string f.s]] W fun e w'=>e= .returned (.tuple #[])/\∃v',Wr w' w.heap.size w1.heap.size v' (PRE++encCs (l.take (k+1)))/\WStep W w' w1.heap.size u v'):=by
       intro W hW
       have hBw:w.heap.size<=wr.heap.size:=hbW.size
       have:=zi6 l[k] W w.heap.size w1.heap.size u _ f (wx.wrt.of_below hW) (xb.keep (hbW.trans (hW.mono hBw))) hlen
       rw [ht, <-List.append_assoc];exact this
      clear x1 hle ht hlen xb hbW
      go_wp2_with (go_at_call 151;refine (HI.out _ (by go_grown)).mono ?_;rintro e w2 ⟨rfl,v3,hr3,hs3⟩)
      go_roundw
      case rel=>exact ⟨k+1,v3,by omega,by go_num,(wx.behind (by go_grown)).next hr3 hs3⟩
      case measure=>simp [intOf];omega
     .have hk2:k=ol:=by omega
      have hq:=wx.eqb (bs':=PRE++encCs l) (by rw [List.take_of_length_le (by have:=EL.out;omega)])
      clear wx
      have wx:=hq
      clear hq
      have hWt:=wx.wrt
      go_wp2_with (go_at_call 152;(with_reducible refine (Ky _ w.heap.size w1.heap.size _ _ wx.wrt ?_).mono ?_);(focus ((first|omega|(simp only [List.length_nil];omega)|(simp only [List.length_append];omega)|(simp only [List.length_append,List.length_nil];omega)|(simp only [List.length_append,Zc];omega)|(simp only [List.length_append,Zc,List.length_nil];omega))));rintro e w9 ⟨⟨ra,rn,rc,rfl,hI⟩,hb9⟩)
      go_returns
      rw [HPE.out]
      exact ⟨⟨ra,rn,rc,rfl,hI⟩,by exact (H2.out.trans (H0.out.keeps wx.st)).trans (hb9.mono (by have:=wx.lt;omega))⟩
def num (l:List UInt8):Nat:=l.foldl (fun n b=>n*256+b.toNat) 0
theorem zh8 (l:List UInt8) (b:UInt8):num (l++ [b])=num l*256+b.toNat:=by simp [num]
theorem zk9 (l:List UInt8):∀a,l.foldl (fun n b=>n*256+b.toNat) a<(a+1)*256 ^ l.length:=by
 induction l with
 |nil=>intro a;simp
 | cons b l ih=>
   intro a
   have h1:=ih (a*256+b.toNat)
   have h2:=b.toNat_lt
   have h3:(a*256+b.toNat+1)*256 ^ l.length<=((a+1)*256)*256 ^ l.length:=Nat.mul_le_mul_right _ (by omega)
   have h4:((a+1)*256)*256 ^ l.length=(a+1)*256 ^ (b::l).length:=by
    rw [List.length_cons,Nat.pow_succ,Nat.mul_assoc,Nat.mul_comm 256]
   simp only [List.foldl_cons]
   omega
theorem zd2 (l:List UInt8):num l<256 ^ l.length:=by have:=zk9 l 0;simpa [num] using this
def rdN (k:Nat) (bs:List UInt8):Option (Nat×List UInt8):=if k<=bs.length then some (num (bs.take k),bs.drop k) else none
def rdM (k:Nat) (bs:List UInt8):Option (Nat×List UInt8):=(rdN k bs).bind fun p=>if p.1<=p.2.length then some p else none
def rdT (bs:List UInt8):Option (ByteArray×List UInt8):=(rdM 4 bs).bind fun p=>some (⟨(p.2.take p.1).toArray⟩,p.2.drop p.1)
def rdL {α:Type} (f:List UInt8->Option (α×List UInt8)):Nat->List UInt8->Option (List α×List UInt8)
 |0,bs=>some ([],bs)
 |n+1,bs=>(rdL f n bs).bind fun p=>(f p.2).bind fun q=>some (p.1++ [q.1],q.2)
def rdV:Nat->List UInt8->Option (V×List UInt8)
 |0,_=>none
 | d+1,bs=>(rdN 1 bs).bind fun p=>
   if p.1=1∨p.1=2 then (rdN 8 p.2).bind fun q=>some (.mk p.1 (wrap64 q.1) .empty [] [],q.2)
   else if p.1=3 then (rdT p.2).bind fun q=>some (.mk p.1 0 q.1 [] [],q.2)
   else if p.1=4 then (rdM 4 p.2).bind fun q=>(rdL (fun x=>rdV d x) q.1 q.2).bind fun r=>some (.mk p.1 0 .empty r.1 [],r.2)
   else if p.1=5 then (rdM 4 p.2).bind fun q=>(rdL (fun x=>(rdT x).bind fun y=>(rdV d y.2).bind fun z=>some ((y.1,z.1),z.2)) q.1 q.2).bind fun r=>some (.mk p.1 0 .empty [] r.1,r.2)
   else some (.mk p.1 0 .empty [] [],p.2)
def rdS (bs:List UInt8):Option (St×List UInt8):=(rdN 1 bs).bind fun p=>
 if p.1=1 then (rdN 8 p.2).bind fun q=>some (⟨true,wrap64 q.1, .empty⟩,q.2) else (rdT p.2).bind fun q=>some (⟨false,0,q.1⟩,q.2)
def rdI (bs:List UInt8):Option (Int×List UInt8):=(rdN 8 bs).bind fun q=>some (wrap64 q.1,q.2)
def rdIf {α:Type} (b:Bool) (z:α) (f:List UInt8->Option (α×List UInt8)) (bs:List UInt8):Option (α×List UInt8):=if b=true then f bs else some (z,bs)
def rdC (bs:List UInt8):Option (Cm×List UInt8):=(rdN 1 bs).bind fun p=>(rdM 1 p.2).bind fun n=>(rdL rdS n.1 n.2).bind fun q=>
 (rdIf (hasB (saysB p.1) 75) .empty rdT q.2).bind fun k=>(rdIf (hasB (saysB p.1) 73) 0 rdI k.2).bind fun i=>(rdIf (hasB (saysB p.1) 74) 0 rdI i.2).bind fun j=>
 (rdIf (hasB (saysB p.1) 78) 0 rdI j.2).bind fun m=>(rdIf (hasB (saysB p.1) 86) V.none (rdV 18) m.2).bind fun v=>(rdIf (hasB (saysB p.1) 83) .empty rdT v.2).bind fun s=>
 some (⟨p.1,q.1,k.1,i.1,j.1,m.1,v.1,s.1⟩,s.2)
def rdE (bs:List UInt8):Option (En×List UInt8):=(rdN 1 bs).bind fun p=>(rdN 4 p.2).bind fun s=>(rdN 4 s.2).bind fun q=>
 if p.1=1 then (rdV 18 q.2).bind fun v=>some (⟨p.1,s.1,q.1,v.1, []⟩,v.2)
 else if p.1=2 then (rdM 4 q.2).bind fun n=>(rdL rdC n.1 n.2).bind fun l=>some (⟨p.1,s.1,q.1,V.none,l.1⟩,l.2)
 else some (⟨p.1,s.1,q.1,V.none, []⟩,q.2)
open Classical in
noncomputable def only (S:Nat->Prop) (w:World):World:= { w with heap:=w.heap.mapIdx fun k o=>if S k then o else .cells #[] 0 (0,0) }
theorem zin (S:Nat->Prop) (w:World):(only S w).heap.size=w.heap.size:=by simp [only]
theorem zet {S:Nat->Prop} {w:World} {k:Nat} (h:S k):(only S w).heap[k]? =w.heap[k]? :=by
 simp [only,h]
theorem Z3 {S:Nat->Prop} {w:World} {b o:Nat} {u:Value} (h:(only S w).cell? ⟨b,o,none⟩=some u):S b/\w.cell? ⟨b,o,none⟩=some u:=by
 by_cases hs:S b
 .exact ⟨hs,(World.cell?_of_block (w':=only S w) (w:=w) (by exact zet hs)).symm.trans h⟩
 .exfalso
  have hlt:=World.block_lt_of_cell? _ _ h
  rw [zin] at hlt
  have hk:(only S w).heap[b]? =some (.cells #[] 0 (0,0)):=by simp [only,hs,hlt]
  rw [cell_of_row _ b o #[] 0 (0,0) hk] at h
  simp at h
theorem Z4 {S:Nat->Prop} {w:World} {b o:Nat} {u:Value} (hs:S b) (h:w.cell? ⟨b,o,none⟩=some u):(only S w).cell? ⟨b,o,none⟩=some u:=
 (World.cell?_of_block (w':=only S w) (w:=w) (by exact zet hs)).trans h
def Shows (w w':World) (B:Nat):Prop:=∀b o u,b<B->w.cell? ⟨b,o,none⟩=some u->w'.cell? ⟨b,o,none⟩=some u
theorem ValAt.sub {w w':World} {B b o:Nat} {c:VC} (h:ValAt w b o c) (hs:Shows w w' B) (hB:b<B):ValAt w' b o c:=
 ⟨hs _ _ _ hB h.c0,hs _ _ _ hB h.c1,hs _ _ _ hB h.c2,hs _ _ _ hB h.c3,hs _ _ _ hB h.c4⟩
theorem IsVal.sub {w w':World} {B:Nat} (hs:Shows w w' B) {v:V} {c:VC} (h:IsVal w B v c):IsVal w' B v c:=by
 induction h with
 | mk c l o cl co lb lo ob oo hbd hl ho hla hoa hlc hlv hoc hov ihl iho=>
   refine .mk c l o cl co lb lo ob oo hbd hl ho hla hoa (fun i hi=>(hlc i hi).sub hs (hla (by omega)).2) ihl (fun i hi=> ?_) iho
   have hB:=(hoa (by omega)).2
   obtain ⟨h1,h2,h3⟩:=hoc i hi
   exact ⟨hs _ _ _ hB h1,h2,h3.sub hs hB⟩
theorem IsSteps.sub {w w':World} {B:Nat} (hs:Shows w w' B) {p:List St} {a:Option Addr} {n c:Nat} (h:IsSteps w B p a n c):IsSteps w' B p a n c:=by
 obtain ⟨h1,h2,h3,h4,b,o,h5,h6⟩:=h
 exact ⟨h1,h2,h3,h4,b,o,h5,fun i hi=>⟨⟨hs _ _ _ (h5 (by omega)).2 (h6 i hi).1.c0,hs _ _ _ (h5 (by omega)).2 (h6 i hi).1.c1,hs _ _ _ (h5 (by omega)).2 (h6 i hi).1.c2⟩,(h6 i hi).2⟩⟩
theorem IsComp.sub {w w':World} {B:Nat} (hs:Shows w w' B) {x:Cm} {c:CC} (h:IsComp w B x c):IsComp w' B x c:=by
 cases h with
 |mk c p v hbd hp hv=>exact .mk c p v hbd (hp.sub hs) (hv.sub hs)
theorem IsComps.sub {w w':World} {B:Nat} (hs:Shows w w' B) {l:List Cm} {a:Option Addr} {n c:Nat} (h:IsComps w B l a n c):IsComps w' B l a n c:=by
 obtain ⟨h1,h2,h3,h4,b,o,f,h5,h6⟩:=h
 refine ⟨h1,h2,h3,h4,b,o,f,h5,fun i hi=>⟨?_,(h6 i hi).2.sub hs⟩⟩
 have hB:=(h5 (by omega)).2
 have x:=(h6 i hi).1
 exact ⟨hs _ _ _ hB x.c0,hs _ _ _ hB x.c1,hs _ _ _ hB x.c2,hs _ _ _ hB x.c3,hs _ _ _ hB x.c4,hs _ _ _ hB x.c5,x.c6.sub hs hB,hs _ _ _ hB x.c11⟩
theorem IsEntry.sub {w w':World} {B:Nat} (hs:Shows w w' B) {x:En} {c:EC} (h:IsEntry w B x c):IsEntry w' B x c:=by
 cases h with
 |mk c v l hbd hv ho=>exact .mk c v l hbd (hv.sub hs) (ho.sub hs)
theorem Zt (S:Nat->Prop) (w:World) (B:Nat):Shows (only S w) w B:=fun _ _ _ _ h=>(Z3 h).2
theorem Zf {S S':Nat->Prop} {w w':World} (h:∀k,S k->k<w.heap.size->S' k/\w'.heap[k]? =w.heap[k]?):Shows (only S w) (only S' w') w.heap.size:=by
 intro b o u hb hc
 obtain ⟨hs,hc⟩:=Z3 hc
 obtain ⟨h1,h2⟩:=h b hs hb
 exact Z4 h1 ((World.cell?_of_block h2).trans hc)
structure RStep (w w':World) (rb:Nat):Prop where
 os:w'.os=w.os
 tape:w'.tape=w.tape
 output:w'.output=w.output
 size:w.heap.size<=w'.heap.size
 block:∀k,k<w.heap.size->k≠rb->w'.heap[k]? =w.heap[k]?
theorem RStep.trans {w w1 w2:World} {rb:Nat} (h:RStep w w1 rb) (g:RStep w1 w2 rb):RStep w w2 rb:=
 ⟨g.os.trans h.os,g.tape.trans h.tape,g.output.trans h.output,Nat.le_trans h.size g.size,fun k hk hr=>(g.block k (Nat.lt_of_lt_of_le hk h.size) hr).trans (h.block k hk hr)⟩
theorem RStep.of_below {w w':World} (rb:Nat) (h:Below w.heap.size w w'):RStep w w' rb:=⟨h.os,h.tape,h.output,h.size,fun k hk _=>h.block k hk⟩
theorem RStep.below {w w':World} {rb:Nat} (h:RStep w w' rb) (hB:rb<=w.heap.size):Below rb w w':=⟨h.os,h.tape,h.output,h.size,fun k hk=>h.block k (by omega) (by omega)⟩
theorem RStep.cell {w w':World} {rb:Nat} (h:RStep w w' rb) {b o:Nat} {u:Value} (hc:w.cell? ⟨b,o,none⟩=some u) (hb:b≠rb):w'.cell? ⟨b,o,none⟩=some u:=
 (World.cell?_of_block (h.block b (World.block_lt_of_cell? w _ hc) hb)).trans hc
structure Rdr (w:World) (rb:Nat) (bs:List UInt8) (d:Int):Prop where
 at_:∃a n c,w.cell? ⟨rb,0,none⟩=some (.slice a n c)/\IsB w rb a n c bs
 deep:w.cell? ⟨rb,1,none⟩=some (.int .i64 d)
 f0:w.frozen? ⟨rb,0,none⟩=false
 f1:w.frozen? ⟨rb,1,none⟩=false
theorem IsB.take {w:World} {B:Nat} {a:Option Addr} {n c:Nat} {bs:List UInt8} (h:IsB w B a n c bs) (k:Nat) (hk:k<=n):IsB w B a k c (bs.take k):=by
 obtain ⟨h1,h2,h3,b,o,h5,h6⟩:=h
 refine ⟨by rw [List.length_take];omega,by omega,h3,b,o,fun hn=>h5 (by omega),fun i hi=> ?_⟩
 rw [List.length_take] at hi
 have:=h6 i (by omega)
 rw [List.getElem_take];exact this
theorem IsB.get {w:World} {B:Nat} {a:Option Addr} {n c:Nat} {bs:List UInt8} (h:IsB w B a n c bs) {k:Nat} (hk:k<n):
 ∃b o,∃hp:k<bs.length,a=some ⟨b,o,none⟩/\b<B/\w.cell? ⟨b,o+k,none⟩=some (.int .u8 (bs[k].toNat:Int)):=by
 obtain ⟨h1,h2,h3,b,o,h5,h6⟩:=h
 exact ⟨b,o,by omega,(h5 (by omega)).1,(h5 (by omega)).2,h6 k (by omega)⟩
def short:PanicEntry:= { v:= .iface 231 (.agg #[]),recovered:=false }
theorem Zs (b o k:Nat):(⟨b,o,none⟩:Addr).add k=⟨b,o+k,none⟩:=by unfold Addr.add;split<;>simp_all
theorem IsB.drop {w:World} {B:Nat} {a:Option Addr} {n c:Nat} {bs:List UInt8} (h:IsB w B a n c bs) (k:Nat) (hk:k<=n):IsB w B (a.map (fun x=>x.add k)) (n - k) (c - k) (bs.drop k):=by
 obtain ⟨h1,h2,h3,b,o,h5,h6⟩:=h
 refine ⟨by rw [List.length_drop];omega,by omega,by omega,b,o+k,fun hn=> ?_,fun i hi=> ?_⟩
 .obtain ⟨e,hb⟩:=h5 (by omega)
  exact ⟨by rw [e,Option.map_some,Zs],hb⟩
 .rw [List.length_drop] at hi
  have:=h6 (k+i) (by omega)
  rw [List.getElem_drop,Nat.add_assoc];exact this
theorem IsB.none_left {w:World} {B:Nat} {a a':Option Addr} {n c:Nat} {bs:List UInt8} (h:IsB w B a n c bs) (hn:n=0):IsB w B a' 0 0 bs:=by
 obtain ⟨h1,h2,h3,b,o,h5,h6⟩:=h
 exact ⟨by omega,by omega,by omega,b,o,fun h=>by omega,h6⟩
theorem zos (l:List UInt8) (k:Nat) (h:k<l.length):num (l.take (k+1))=num (l.take k)*256+l[k].toNat:=by
 rw [Zv l k h,zh8]
theorem zqb (x:Int):IntKind.i64.wrap x=wrap64 x:=by
 rw [IntKind.wrap_i64,wrap64]
theorem Yp {w:World} {B:Nat} {a:Option Addr} {n c:Nat} {bs:List UInt8} (h:IsB w B a n c bs):(convert 34 9 (.slice a n c)).run Tryz.prog w= .ok (.string ⟨bs.toArray⟩) w:=by
 have hu:Tryz.prog.underlying 5=some (.int .u8):=by kernel_rfl
 obtain ⟨rfl,h2,h3,b,o,h5,h6⟩:=h
 cases a with
 | some a=>
   by_cases hz:0<bs.length
   .obtain ⟨e,hb⟩:=h5 hz
    have e:=Option.some.inj e
    subst e
    exact run_convert_bytes_back w _ _ 5 _ c bs Tryz.underlying34 hu Tryz.underlying9 (fun j hj=>by rw [Zs];exact h6 j hj)
   .have:bs= [] :=List.length_eq_zero_iff.1 (by omega)
    subst this
    exact run_convert_bytes_back w _ _ 5 _ c [] Tryz.underlying34 hu Tryz.underlying9 (fun j hj=>by cases hj)
 | none=>
   have:bs= [] :=by
    cases bs with
    |nil=>rfl
    |cons x r=>obtain ⟨e,_⟩:=h5 (by simp);cases e
   subst this
   exact Lib.run_convert_nil_bytes w _ _ 5 c Tryz.underlying34 hu Tryz.underlying9
theorem zje {k n:Nat} {bs r:List UInt8} (hr:rdN k bs=some (n,r)):k<=bs.length/\num (bs.take k)=n/\bs.drop k=r:=by
 unfold rdN at hr;split at hr
 .injection hr with hr;injection hr with h1 h2;exact ⟨by assumption,h1,h2⟩
 .cases hr
end Go.Proofs.YtfoahkbnheijcaaGreatDoor
