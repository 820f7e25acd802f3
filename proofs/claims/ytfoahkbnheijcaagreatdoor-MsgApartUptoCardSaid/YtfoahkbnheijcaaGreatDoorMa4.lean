/-
  Contracts of the functions that the law reaches: conciliatorref06.in and says.
-/
import Derived.Test.YtfoahkbnheijcaaGreatDoorMa3
namespace Go.Proofs.YtfoahkbnheijcaaGreatDoor
open Go.RowKit
set_option maxHeartbeats 2000000
def hasB (s:ByteArray) (b:Nat):Bool:=s.data.toList.any (fun x=>x.toNat==b)
theorem znq {s:ByteArray} {b k:Nat} (h:k<s.size) (e:(s[k]'h).toNat=b):hasB s b=true:=by
 unfold hasB;rw [List.any_eq_true]
 exact ⟨s.data.toList[k]'(by simpa using h),List.getElem_mem _,beq_iff_eq.2 e⟩
theorem zhw {s:ByteArray} {b:Nat} (h:∀j (hj:j<s.size),(s[j]'hj).toNat≠b):hasB s b=false:=by
 unfold hasB;rw [List.any_eq_false]
 intro x hx
 obtain ⟨j,hj,rfl⟩:=List.getElem_of_mem hx
 have hj':j<s.size:=by simpa using hj
 have h2:¬((s.data.toList[j]'hj).toNat=b):=h j hj'
 simpa using h2
def saysB (k:Int):ByteArray:=
 if k=1 then { data:= #[78] } else
 if k=2 then { data:= #[75,86] } else
 if k=3 then { data:= #[75] } else
 if k=4 then { data:= #[73,86] } else
 if k=5 then { data:= #[73] } else
 if k=6 then { data:= #[73,86] } else
 if k=7 then { data:= #[73,74] } else
 if k=8 then { data:= #[73,83] } else
 if k=9 then { data:= #[73,78] } else
 { data:= #[] }
set_option maxRecDepth 100000 in
theorem Yz (s:ByteArray) (b:Nat) (w:World) (hs:s.size<=140737488355328):
 Calls Tryz.prog 132 #[.string s, .int .u8 b] w fun e w'=>e= .returned (.bool (hasB s b))/\Below w.heap.size w w':=by
 go_enter Tryz.func132,Tryz.ntmps132
 go_wp2_with fail
 go_loopw [5] (fun i wr=>∃k:Nat,k<=s.size/\i= .int .i64 k/\Hid (∀j,j<k->∀hj:j<s.size,(s[j]'hj).toNat≠b)/\Below w.heap.size w wr) (fun i _=>s.size - (intOf i).toNat)
 case atStart=>exact ⟨0,Nat.zero_le _,rfl,fun j hj=>by omega,Below.refl _ _⟩
 case round=>
  obtain ⟨k,hk,rfl,HJ,hB⟩:=hrel
  by_cases hlt:k<s.size
  .by_cases e:(s[k]'hlt).toNat=b
   .have H:=qh e
    have f:(((s[k]'hlt).toNat:Int)==(b:Int))=true:=by simp [e]
    clear e
    go_wp2_with fail
    go_ret
    exact ⟨Zb (znq hlt H.out).symm,hB⟩
   .have H:=qh e
    have f:(((s[k]'hlt).toNat:Int)==(b:Int))=false:=by simp;omega
    clear e
    go_wp2_with fail
    go_roundw
    case rel=>
     refine ⟨k+1,by omega,by go_num,fun j hj hs=> ?_,hB⟩
     by_cases hjk:j=k
     .subst hjk;exact H.out
     .exact HJ.out j (by omega) hs
    case measure=>simp [intOf];omega
  .go_wp2_with fail
   go_ret
   exact ⟨Zb (zhw (fun j hj=>HJ.out j (by omega) hj)).symm,hB⟩
set_option maxRecDepth 100000 in
theorem zls (k:Int) (w:World):
 Calls Tryz.prog 130 #[.int .u8 k] w fun e w'=>e= .returned (.string (saysB k))/\Below w.heap.size w w':=by
 by_cases e1:k=1
 case pos=>
  subst e1
  go_enter Tryz.func130,Tryz.ntmps130
  go_wp2_with fail
  go_ret
  exact ⟨rfl,Below.refl _ _⟩
 have f1:(k==1)=false:=by simp [e1]
 by_cases e2:k=2
 case pos=>
  subst e2
  go_enter Tryz.func130,Tryz.ntmps130
  go_wp2_with fail
  go_ret
  exact ⟨rfl,Below.refl _ _⟩
 have f2:(k==2)=false:=by simp [e2]
 by_cases e3:k=3
 case pos=>
  subst e3
  go_enter Tryz.func130,Tryz.ntmps130
  go_wp2_with fail
  go_ret
  exact ⟨rfl,Below.refl _ _⟩
 have f3:(k==3)=false:=by simp [e3]
 by_cases e4:k=4
 case pos=>
  subst e4
  go_enter Tryz.func130,Tryz.ntmps130
  go_wp2_with fail
  go_ret
  exact ⟨rfl,Below.refl _ _⟩
 have f4:(k==4)=false:=by simp [e4]
 by_cases e5:k=5
 case pos=>
  subst e5
  go_enter Tryz.func130,Tryz.ntmps130
  go_wp2_with fail
  go_ret
  exact ⟨rfl,Below.refl _ _⟩
 have f5:(k==5)=false:=by simp [e5]
 by_cases e6:k=6
 case pos=>
  subst e6
  go_enter Tryz.func130,Tryz.ntmps130
  go_wp2_with fail
  go_ret
  exact ⟨rfl,Below.refl _ _⟩
 have f6:(k==6)=false:=by simp [e6]
 by_cases e7:k=7
 case pos=>
  subst e7
  go_enter Tryz.func130,Tryz.ntmps130
  go_wp2_with fail
  go_ret
  exact ⟨rfl,Below.refl _ _⟩
 have f7:(k==7)=false:=by simp [e7]
 by_cases e8:k=8
 case pos=>
  subst e8
  go_enter Tryz.func130,Tryz.ntmps130
  go_wp2_with fail
  go_ret
  exact ⟨rfl,Below.refl _ _⟩
 have f8:(k==8)=false:=by simp [e8]
 by_cases e9:k=9
 case pos=>
  subst e9
  go_enter Tryz.func130,Tryz.ntmps130
  go_wp2_with fail
  go_ret
  exact ⟨rfl,Below.refl _ _⟩
 have f9:(k==9)=false:=by simp [e9]
 have hR:saysB k= { data:= #[] } :=by simp [saysB,e1,e2,e3,e4,e5,e6,e7,e8,e9]
 have HR:=qh hR
 clear hR e1 e2 e3 e4 e5 e6 e7 e8 e9
 go_enter Tryz.func130,Tryz.ntmps130
 go_wp2_with fail
 go_ret
 exact ⟨by rw [HR.out];rfl,Below.refl _ _⟩
end Go.Proofs.YtfoahkbnheijcaaGreatDoor
namespace Go.Proofs.YtfoahkbnheijcaaGreatDoor
theorem row5 {f:Nat->Option Value} {z0 z1 z2 z3 z4:Value} (h:∀k z, [z0,z1,z2,z3,z4][k]? =some z->f k=some z):f 0=some z0/\f 1=some z1/\f 2=some z2/\f 3=some z3/\f 4=some z4:=
 ⟨h 0 _ rfl,h 1 _ rfl,h 2 _ rfl,h 3 _ rfl,h 4 _ rfl⟩
theorem row9 {f:Nat->Option Value} {z0 z1 z2 z3 z4 z5 z6 z7 z8:Value} (h:∀k z, [z0,z1,z2,z3,z4,z5,z6,z7,z8][k]? =some z->f k=some z):f 0=some z0/\f 1=some z1/\f 2=some z2/\f 3=some z3/\f 4=some z4/\f 5=some z5/\f 6=some z6/\f 7=some z7/\f 8=some z8:=
 ⟨h 0 _ rfl,h 1 _ rfl,h 2 _ rfl,h 3 _ rfl,h 4 _ rfl,h 5 _ rfl,h 6 _ rfl,h 7 _ rfl,h 8 _ rfl⟩
theorem row12 {f:Nat->Option Value} {z0 z1 z2 z3 z4 z5 z6 z7 z8 z9 z10 z11:Value} (h:∀k z, [z0,z1,z2,z3,z4,z5,z6,z7,z8,z9,z10,z11][k]? =some z->f k=some z):f 0=some z0/\f 1=some z1/\f 2=some z2/\f 3=some z3/\f 4=some z4/\f 5=some z5/\f 6=some z6/\f 7=some z7/\f 8=some z8/\f 9=some z9/\f 10=some z10/\f 11=some z11:=
 ⟨h 0 _ rfl,h 1 _ rfl,h 2 _ rfl,h 3 _ rfl,h 4 _ rfl,h 5 _ rfl,h 6 _ rfl,h 7 _ rfl,h 8 _ rfl,h 9 _ rfl,h 10 _ rfl,h 11 _ rfl⟩
end Go.Proofs.YtfoahkbnheijcaaGreatDoor
namespace Go.Proofs.YtfoahkbnheijcaaGreatDoor
open Go.RowKit
set_option maxHeartbeats 8000000
theorem zqc (x:Int) (w:World) (B wb:Nat) (v:Value) (bs:List UInt8) (h:Wr w B wb v bs) (hsz:bs.length+1<=140737488355328):
 Calls Tryz.prog 150 #[.pointer (some ⟨wb,0,none⟩), .int .i64 x, .int .i64 1] w fun e w'=>e= .returned (.tuple #[])/\∃v',Wr w' B wb v' (bs++be (x % 18446744073709551616).toNat 1)/\WStep w w' wb v v':=
 X8 x 1 (by omega) w B wb v bs h hsz
theorem zhy (x:Int) (w:World) (B wb:Nat) (v:Value) (bs:List UInt8) (h:Wr w B wb v bs) (hsz:bs.length+4<=140737488355328):
 Calls Tryz.prog 150 #[.pointer (some ⟨wb,0,none⟩), .int .i64 x, .int .i64 4] w fun e w'=>e= .returned (.tuple #[])/\∃v',Wr w' B wb v' (bs++be (x % 18446744073709551616).toNat 4)/\WStep w w' wb v v':=
 X8 x 4 (by omega) w B wb v bs h hsz
theorem Xt (x:Int) (w:World) (B wb:Nat) (v:Value) (bs:List UInt8) (h:Wr w B wb v bs) (hsz:bs.length+8<=140737488355328):
 Calls Tryz.prog 150 #[.pointer (some ⟨wb,0,none⟩), .int .i64 x, .int .i64 8] w fun e w'=>e= .returned (.tuple #[])/\∃v',Wr w' B wb v' (bs++be (x % 18446744073709551616).toNat 8)/\WStep w w' wb v v':=
 X8 x 8 (by omega) w B wb v bs h hsz
theorem Qe (x:Int) (w:World) (B wb:Nat) (v:Value) (bs:List UInt8) (h:Wr w B wb v bs) (hsz:bs.length+1<=140737488355328):
 Calls Tryz.prog 147 #[.pointer (some ⟨wb,0,none⟩), .int .u8 x, .int .i64 1] w fun e w'=>e= .returned (.tuple #[])/\∃v',Wr w' B wb v' (bs++be (x % 18446744073709551616).toNat 1)/\WStep w w' wb v v':=
 Xx x 1 (by omega) w B wb v bs h hsz
theorem zes (x:Int) (w:World) (B wb:Nat) (v:Value) (bs:List UInt8) (h:Wr w B wb v bs) (hsz:bs.length+8<=140737488355328):
 Calls Tryz.prog 177 #[.pointer (some ⟨wb,0,none⟩), .int .i64 x, .int .i64 8] w fun e w'=>e= .returned (.tuple #[])/\∃v',Wr w' B wb v' (bs++be (x % 18446744073709551616).toNat 8)/\WStep w w' wb v v':=
 zal x 8 (by omega) w B wb v bs h hsz
theorem zan (x:Int) (w:World) (B wb:Nat) (v:Value) (bs:List UInt8) (h:Wr w B wb v bs) (hsz:bs.length+4<=140737488355328):
 Calls Tryz.prog 148 #[.pointer (some ⟨wb,0,none⟩), .int .u32 x, .int .i64 4] w fun e w'=>e= .returned (.tuple #[])/\∃v',Wr w' B wb v' (bs++be (x % 18446744073709551616).toNat 4)/\WStep w w' wb v v':=
 zq4 x 4 (by omega) w B wb v bs h hsz
theorem Jf (x:V) (vk vn:Int) (vs:ByteArray) (vla:Option Addr) (vll vlc:Nat) (voa:Option Addr) (vol voc:Nat) (w:World) (B wb:Nat) (v:Value) (bs:List UInt8) (h:Wr w B wb v bs) (hx:IsVal w B x ⟨vk,vn,vs,vla,vll,vlc,voa,vol,voc⟩) (hsz:bs.length+(encV x).length<=140737488355328):
 Calls Tryz.prog 149 #[.pointer (some ⟨wb,0,none⟩), .agg #[.int .u8 vk, .int .i64 vn, .string vs, .slice vla vll vlc, .slice voa vol voc]] w fun e w'=>e= .returned (.tuple #[])/\∃v',Wr w' B wb v' (bs++encV x)/\WStep w w' wb v v':=
 zjg x w B wb v bs ⟨vk,vn,vs,vla,vll,vlc,voa,vol,voc⟩ h hx hsz
structure WG (w wr:World) (B wb bx:Nat) (v u:Value) (bs:List UInt8) (cs:List Value):Prop where
 wrt:Wr wr B wb u bs
 st:WStep w wr wb v u
 at_:∀j x,cs[j]? =some x->wr.cell? ⟨bx,j,none⟩=some x
 ne:bx≠wb
 lt:bx<wr.heap.size
 far:u.ownBlock≠some bx
theorem WG.next {w wr w2:World} {B wb bx:Nat} {v u u2:Value} {bs bs2:List UInt8} {cs:List Value} (h:WG w wr B wb bx v u bs cs) (hr:Wr w2 B wb u2 bs2) (hs:WStep wr w2 wb u u2):WG w w2 B wb bx v u2 bs2 cs:=by
 refine ⟨hr,h.st.trans hs,fun j x hj=>hs.far (h.at_ j x hj) h.ne h.far,h.ne,Nat.lt_of_lt_of_le h.lt hs.size, ?_⟩
 rcases hs.own with e|e
 .rw [e];exact h.far
 .intro e2;have:=e _ e2;have:=h.lt;omega
theorem WG.behind {w wr w2:World} {B wb bx:Nat} {v u:Value} {bs:List UInt8} {cs:List Value} (h:WG w wr B wb bx v u bs cs) (hb:Below wr.heap.size wr w2):WG w w2 B wb bx v u bs cs:=
 h.next (h.wrt.of_below hb) (.of_below wb u hb)
theorem WG.start {w:World} {B wb:Nat} {v:Value} {bs:List UInt8} (h:Wr w B wb v bs) (cs:Array Value) (t:TypeId):WG w (w.alloc (.cells cs t)) B wb w.heap.size v v bs cs.toList:=by
 have hb:Below w.heap.size w (w.alloc (.cells cs t)):=(Below.refl _ _).alloc (Nat.le_refl _) _
 exact ⟨h.of_below hb, .of_below wb v hb,fun j x hj=>Zk w cs t j x (by rw [<-hj];simp),fun e=>by have:=h.lt;omega,by simp,fun e=>by have:=(h.lo _ e).2;omega⟩
theorem WG.eqb {w wr:World} {B wb bx:Nat} {v u:Value} {bs bs':List UInt8} {cs:List Value} (h:WG w wr B wb bx v u bs cs) (e:bs=bs'):WG w wr B wb bx v u bs' cs:=e ▸ h
def encSt (s:St):List UInt8:=if s.list=true then be ((1:Int) % 18446744073709551616).toNat 1++be (s.i % 18446744073709551616).toNat 8 else be ((0:Int) % 18446744073709551616).toNat 1++encS s.key
def encP:List St->List UInt8
 | [] => []
 |s::r=>encSt s++encP r
theorem zay (a b:List St):encP (a++b)=encP a++encP b:=by
 induction a with
 |nil=>simp [encP]
 |cons v r ih=>simp only [List.cons_append,encP,ih,List.append_assoc]
theorem zpv (l:List St) (k:Nat) (h:k<l.length):encP (l.take (k+1))=encP (l.take k)++encSt l[k] :=by
 rw [Zv l k h,zay];simp [encP]
theorem zoa (l:List St) (k:Nat):(encP (l.take k)).length<=(encP l).length:=by
 have h:=zay (l.take k) (l.drop k)
 rw [List.take_append_drop] at h;rw [h,List.length_append];omega
def encT (c:Cm):List UInt8:=
 (if hasB (saysB c.k) 75 then encS c.key else [])++(if hasB (saysB c.k) 73 then be (c.i % 18446744073709551616).toNat 8 else [])++(if hasB (saysB c.k) 74 then be (c.j % 18446744073709551616).toNat 8 else [])++
 (if hasB (saysB c.k) 78 then be (c.n % 18446744073709551616).toNat 8 else [])++(if hasB (saysB c.k) 86 then encV c.v else [])++(if hasB (saysB c.k) 83 then encS c.s else [])
def encC (c:Cm):List UInt8:=be (c.k % 18446744073709551616).toNat 1++be c.path.length 1++encP c.path++encT c
def stepWP (w:World) (B wb:Nat) (v:Value) (bs:List UInt8) (s:St):Prop:=
    Calls Tryz.prog 179 #[.pointer (some ⟨wb,0,none⟩), .agg #[.bool s.list, .int .i64 s.i, .string s.key]] w fun e w'=>e= .returned (.tuple #[])/\∃v',Wr w' B wb v' (bs++encSt s)/\WStep w w' wb v v'
set_option maxRecDepth 100000 in
theorem zgp (w:World) (B wb:Nat) (v:Value) (bs:List UInt8) (s:St) (h:Wr w B wb v bs) (hsz:bs.length+(encSt s).length<=140737488355328):stepWP w B wb v bs s:=by
 unfold stepWP
 obtain ⟨ls,si,sk⟩:=s
 have wx:=WG.start h #[.bool ls, .int .i64 si, .string sk] 100
 clear h
 cases ls with
 | true=>
   have he:encSt ⟨true,si,sk⟩=be ((1:Int) % 18446744073709551616).toNat 1++be (si % 18446744073709551616).toNat 8:=rfl
   rw [he,List.length_append,Zc,Zc] at hsz
   rw [he]
   clear he
   go_enter Tryz.func179,Tryz.ntmps179
   go_wp2_with (first|(go_at_call 147;(with_reducible refine (Qe _ _ B wb _ _ wx.wrt ?_).mono ?_);(focus ((first|omega|(simp only [List.length_append];omega)|(simp only [List.length_append,Zc];omega))));rintro e w2 ⟨rfl,v2,hr2,hs2⟩;replace wx:=wx.next hr2 hs2;have y0:=wx.at_ 0 _ rfl;have y1:=wx.at_ 1 _ rfl;have y2:=wx.at_ 2 _ rfl)|(go_at_call 150;(with_reducible refine (Xt _ _ B wb _ _ wx.wrt ?_).mono ?_);(focus ((first|omega|(simp only [List.length_append];omega)|(simp only [List.length_append,Zc];omega))));rintro e w2 ⟨rfl,v2,hr2,hs2⟩;replace wx:=wx.next hr2 hs2;have y0:=wx.at_ 0 _ rfl;have y1:=wx.at_ 1 _ rfl;have y2:=wx.at_ 2 _ rfl))
   go_returns
   exact ⟨rfl,_,by rw [<-List.append_assoc];exact wx.wrt,wx.st⟩
 | false=>
   have he:encSt ⟨false,si,sk⟩=be ((0:Int) % 18446744073709551616).toNat 1++encS sk:=rfl
   rw [he,List.length_append,Zc] at hsz
   rw [he]
   clear he
   go_enter Tryz.func179,Tryz.ntmps179
   go_wp2_with (first|(go_at_call 147;(with_reducible refine (Qe _ _ B wb _ _ wx.wrt ?_).mono ?_);(focus ((first|omega|(simp only [List.length_append];omega)|(simp only [List.length_append,Zc];omega))));rintro e w2 ⟨rfl,v2,hr2,hs2⟩;replace wx:=wx.next hr2 hs2;have y0:=wx.at_ 0 _ rfl;have y1:=wx.at_ 1 _ rfl;have y2:=wx.at_ 2 _ rfl)|(go_at_call 178;(with_reducible refine (Qj _ _ B wb _ _ wx.wrt ?_).mono ?_);(focus ((first|omega|(simp only [List.length_append];omega)|(simp only [List.length_append,Zc];omega))));rintro e w2 ⟨rfl,v2,hr2,hs2⟩;replace wx:=wx.next hr2 hs2;have y0:=wx.at_ 0 _ rfl;have y1:=wx.at_ 1 _ rfl;have y2:=wx.at_ 2 _ rfl))
   go_returns
   exact ⟨rfl,_,by rw [<-List.append_assoc];exact wx.wrt,wx.st⟩
set_option maxRecDepth 100000 in
theorem zi6 (x:Cm) (w:World) (B wb:Nat) (v:Value) (bs:List UInt8) (c:CC) (h:Wr w B wb v bs) (hx:IsComp w B x c) (hsz:bs.length+(encC x).length<=140737488355328):
 Calls Tryz.prog 151 #[.pointer (some ⟨wb,0,none⟩), .agg #[.int .u8 c.k, .slice c.pa c.pl c.pc, .string c.key, .int .i64 c.i, .int .i64 c.j, .int .i64 c.n, .int .u8 c.v.k, .int .i64 c.v.n, .string c.v.s, .slice c.v.la c.v.ll c.v.lc, .slice c.v.oa c.v.ol c.v.oc, .string c.s]] w fun e w'=>e= .returned (.tuple #[])/\∃v',Wr w' B wb v' (bs++encC x)/\WStep w w' wb v v':=by
 cases hx with
 |mk c p vv hbd hp hv=>
 obtain ⟨ck,pa,pl,pc,key,i,j,n,⟨vk,vn,vs,vla,vll,vlc,voa,vol,voc⟩,s⟩:=c
 dsimp only at hp hv ⊢
 have HV:Hid (∀W,Below B w W->IsVal W B vv ⟨vk,vn,vs,vla,vll,vlc,voa,vol,voc⟩):=fun W hW=>hv.keep hW
 have HP:=qh hp;have H0:=qh h
 have k0:=hbd.k0;have k1:=hbd.k1;have c1:=hp.cap;have c2:=hp.max;have c3:=hp.few
 dsimp only at k0 k1
 have el:=hp.len
 have wx:=WG.start h #[.int .u8 ck, .slice pa pl pc, .string key, .int .i64 i, .int .i64 j, .int .i64 n, .int .u8 vk, .int .i64 vn, .string vs, .slice vla vll vlc, .slice voa vol voc, .string s] 60
 have hB:=h.base;have hlt:=h.lt
 have he:encC ⟨ck,p,key,i,j,n,vv,s⟩=be (ck % 18446744073709551616).toNat 1++be p.length 1++encP p++encT ⟨ck,p,key,i,j,n,vv,s⟩:=rfl
 have ell:be ((pl:Int) % 18446744073709551616).toNat 1=be p.length 1:=by rw [Js _ (by omega),el]
 have ELL:=qh ell
 have EL:=qh el
 rw [he] at hsz ⊢
 simp only [List.length_append,Zc] at hsz
 obtain ⟨T,hT⟩:∃T,encT ⟨ck,p,key,i,j,n,vv,s⟩=T:=⟨_,rfl⟩
 rw [hT] at hsz ⊢
 have HT:=qh hT
 clear hT he hv hp hbd h el ell
 go_enter Tryz.func151,Tryz.ntmps151
 go_wp2_with (first|(go_at_call 147;(with_reducible refine (Qe _ _ B wb _ _ wx.wrt ?_).mono ?_);(focus ((first|omega|(simp only [List.length_append];omega)|(simp only [List.length_append,Zc];omega))));rintro e w2 ⟨rfl,v2,hr2,hs2⟩;replace wx:=wx.next hr2 hs2;obtain ⟨y0,y1,y2,y3,y4,y5,y6,y7,y8,y9,y10,y11⟩:=row12 wx.at_)|(go_at_call 150;(with_reducible refine (zqc _ _ B wb _ _ wx.wrt ?_).mono ?_);(focus ((first|omega|(simp only [List.length_append];omega)|(simp only [List.length_append,Zc];omega))));rintro e w2 ⟨rfl,v2,hr2,hs2⟩;replace wx:=wx.next hr2 hs2;obtain ⟨y0,y1,y2,y3,y4,y5,y6,y7,y8,y9,y10,y11⟩:=row12 wx.at_))
 obtain ⟨PRE,hPRE⟩:∃PRE,bs++be (ck % 18446744073709551616).toNat 1++be ((pl:Int) % 18446744073709551616).toNat 1=PRE:=⟨_,rfl⟩
 rw [hPRE] at wx
 have hPL:PRE.length+(encP p).length+T.length<=140737488355328:=by rw [<-hPRE,List.length_append,List.length_append,Zc,Zc];omega
 have hPE:PRE=bs++be (ck % 18446744073709551616).toNat 1++be p.length 1:=by rw [<-hPRE,ELL.out]
 have HPE:=qh hPE
 clear hr2 hs2 hPRE hPE y0 y1 y2 y3 y4 y5 y6 y7 y8 y9 y10 y11
 go_loopw [18,5] (fun ii _ wr=>∃(k:Nat) (u:Value),k<=pl/\ii= .int .i64 k/\WG w wr B wb w.heap.size v u (PRE++encP (p.take k)) [.int .u8 ck, .slice pa pl pc, .string key, .int .i64 i, .int .i64 j, .int .i64 n, .int .u8 vk, .int .i64 vn, .string vs, .slice vla vll vlc, .slice voa vol voc, .string s]) (fun ii _ _=>pl - (intOf ii).toNat)
 case atStart=>exact ⟨0,v2,Nat.zero_le _,rfl,by simpa [encP] using wx⟩
 case round=>
  clear wx
  obtain ⟨k,u,hk,rfl,wx⟩:=hrel
  obtain ⟨y0,y1,y2,y3,y4,y5,y6,y7,y8,y9,y10,y11⟩:=row12 wx.at_
  by_cases hlt2:k<pl
  .obtain ⟨b,o',kl,rfl,hb,x1,xb⟩:=HP.out.get hlt2
   have hbW:=H0.out.keeps wx.st
   have x1:=x1.keep hbW hb
   have r0:=x1.c0;have r1:=x1.c1;have r2:=x1.c2
   have hle:=zoa p (k+1)
   have ht:=zpv p k kl
   have hlen:(PRE++encP (p.take k)).length+(encSt p[k]).length<=140737488355328:=by
    rw [ht,List.length_append] at hle;rw [List.length_append];omega
   have HI:Hid (∀W,Below wr.heap.size wr W->Calls Tryz.prog 179 #[.pointer (some ⟨wb,0,none⟩), .agg #[.bool p[k].list, .int .i64 p[k].i, .string p[k].key]] W fun e w'=>e= .returned (.tuple #[])/\∃v',Wr w' B wb v' (PRE++encP (p.take (k+1)))/\WStep W w' wb u v'):=by
    intro W hW
    have:=zgp W B wb u _ p[k] (wx.wrt.of_below hW) hlen
    rw [ht, <-List.append_assoc];exact this
   clear x1 hle ht hlen hbW xb
   go_wp2_with (go_at_call 179;refine (HI.out _ (by go_grown)).mono ?_;rintro e w2 ⟨rfl,v3,hr3,hs3⟩)
   go_roundw
   case rel=>exact ⟨k+1,v3,by omega,by go_num,(wx.behind (by go_grown)).next hr3 hs3⟩
   case measure=>simp [intOf];omega
  .have hk2:k=pl:=by omega
   subst hk2
   have hq:=wx.eqb (bs':=PRE++encP p) (by rw [List.take_of_length_le (by have:=EL.out;omega)])
   clear wx
   have wx:=hq
   clear hq
   obtain ⟨Q,hQ⟩:∃Q,PRE++encP p=Q:=⟨_,rfl⟩
   rw [hQ] at wx
   have hQL:Q.length+T.length<=140737488355328:=by rw [<-hQ,List.length_append];omega
   have HQ:Hid (bs++(be (ck % 18446744073709551616).toNat 1++be p.length 1++encP p++T)=Q++T):=by
    unfold Hid;rw [<-hQ,HPE.out];simp only [List.append_assoc]
   clear hQ hPL hsz
   by_cases e1:ck=1
   case pos=>
    subst e1
    have hTk:T=be (n % 18446744073709551616).toNat 8:=by rw [<-HT.out];simp [encT,saysB,hasB]
    rw [hTk] at hQL
    have HTK:=qh hTk
    simp only [Zc] at hQL
    clear hTk
    go_wp2_with (go_at_call 177;(with_reducible refine (zes _ _ B wb _ _ wx.wrt ?_).mono ?_);(focus ((first|omega|(simp only [List.length_append];omega)|(simp only [List.length_append,Zc];omega))));rintro e w2 ⟨rfl,v2,hr2,hs2⟩;replace wx:=wx.next hr2 hs2;obtain ⟨y0,y1,y2,y3,y4,y5,y6,y7,y8,y9,y10,y11⟩:=row12 wx.at_)
    go_returns
    exact ⟨rfl,_,by rw [HQ.out,HTK.out];have:=wx.wrt;first|exact this|(simp only [List.append_assoc] at this ⊢;exact this)|(simp only [List.append_nil] at this ⊢;exact this),wx.st⟩
   have f1:(ck==1)=false:=by simp [e1]
   by_cases e2:ck=2
   case pos=>
    subst e2
    have hTk:T=encS key++encV vv:=by rw [<-HT.out];simp [encT,saysB,hasB]
    rw [hTk] at hQL
    have HTK:=qh hTk
    simp only [List.length_append] at hQL
    clear hTk
    go_wp2_with (first|(go_at_call 178;(with_reducible refine (Qj _ _ B wb _ _ wx.wrt ?_).mono ?_);(focus ((first|omega|(simp only [List.length_append];omega)|(simp only [List.length_append,Zc];omega))));rintro e w2 ⟨rfl,v2,hr2,hs2⟩;replace wx:=wx.next hr2 hs2;obtain ⟨y0,y1,y2,y3,y4,y5,y6,y7,y8,y9,y10,y11⟩:=row12 wx.at_)|(go_at_call 149;(with_reducible refine (Jf vv vk vn vs vla vll vlc voa vol voc _ B wb _ _ wx.wrt (HV.out _ (H0.out.keeps wx.st)) ?_).mono ?_);(focus ((first|omega|(simp only [List.length_append];omega)|(simp only [List.length_append,Zc];omega))));rintro e w2 ⟨rfl,v2,hr2,hs2⟩;replace wx:=wx.next hr2 hs2;obtain ⟨y0,y1,y2,y3,y4,y5,y6,y7,y8,y9,y10,y11⟩:=row12 wx.at_))
    go_returns
    exact ⟨rfl,_,by rw [HQ.out,HTK.out];have:=wx.wrt;first|exact this|(simp only [List.append_assoc] at this ⊢;exact this)|(simp only [List.append_nil] at this ⊢;exact this),wx.st⟩
   have f2:(ck==2)=false:=by simp [e2]
   by_cases e3:ck=3
   case pos=>
    subst e3
    have hTk:T=encS key:=by rw [<-HT.out];simp [encT,saysB,hasB]
    rw [hTk] at hQL
    have HTK:=qh hTk
    clear hTk
    go_wp2_with (go_at_call 178;(with_reducible refine (Qj _ _ B wb _ _ wx.wrt ?_).mono ?_);(focus ((first|omega|(simp only [List.length_append];omega)|(simp only [List.length_append,Zc];omega))));rintro e w2 ⟨rfl,v2,hr2,hs2⟩;replace wx:=wx.next hr2 hs2;obtain ⟨y0,y1,y2,y3,y4,y5,y6,y7,y8,y9,y10,y11⟩:=row12 wx.at_)
    go_returns
    exact ⟨rfl,_,by rw [HQ.out,HTK.out];have:=wx.wrt;first|exact this|(simp only [List.append_assoc] at this ⊢;exact this)|(simp only [List.append_nil] at this ⊢;exact this),wx.st⟩
   have f3:(ck==3)=false:=by simp [e3]
   by_cases e4:ck=4
   case pos=>
    subst e4
    have hTk:T=be (i % 18446744073709551616).toNat 8++encV vv:=by rw [<-HT.out];simp [encT,saysB,hasB]
    rw [hTk] at hQL
    have HTK:=qh hTk
    simp only [List.length_append,Zc] at hQL
    clear hTk
    go_wp2_with (first|(go_at_call 150;(with_reducible refine (Xt _ _ B wb _ _ wx.wrt ?_).mono ?_);(focus ((first|omega|(simp only [List.length_append];omega)|(simp only [List.length_append,Zc];omega))));rintro e w2 ⟨rfl,v2,hr2,hs2⟩;replace wx:=wx.next hr2 hs2;obtain ⟨y0,y1,y2,y3,y4,y5,y6,y7,y8,y9,y10,y11⟩:=row12 wx.at_)|(go_at_call 149;(with_reducible refine (Jf vv vk vn vs vla vll vlc voa vol voc _ B wb _ _ wx.wrt (HV.out _ (H0.out.keeps wx.st)) ?_).mono ?_);(focus ((first|omega|(simp only [List.length_append];omega)|(simp only [List.length_append,Zc];omega))));rintro e w2 ⟨rfl,v2,hr2,hs2⟩;replace wx:=wx.next hr2 hs2;obtain ⟨y0,y1,y2,y3,y4,y5,y6,y7,y8,y9,y10,y11⟩:=row12 wx.at_))
    go_returns
    exact ⟨rfl,_,by rw [HQ.out,HTK.out];have:=wx.wrt;first|exact this|(simp only [List.append_assoc] at this ⊢;exact this)|(simp only [List.append_nil] at this ⊢;exact this),wx.st⟩
   have f4:(ck==4)=false:=by simp [e4]
   by_cases e5:ck=5
   case pos=>
    subst e5
    have hTk:T=be (i % 18446744073709551616).toNat 8:=by rw [<-HT.out];simp [encT,saysB,hasB]
    rw [hTk] at hQL
    have HTK:=qh hTk
    simp only [Zc] at hQL
    clear hTk
    go_wp2_with (go_at_call 150;(with_reducible refine (Xt _ _ B wb _ _ wx.wrt ?_).mono ?_);(focus ((first|omega|(simp only [List.length_append];omega)|(simp only [List.length_append,Zc];omega))));rintro e w2 ⟨rfl,v2,hr2,hs2⟩;replace wx:=wx.next hr2 hs2;obtain ⟨y0,y1,y2,y3,y4,y5,y6,y7,y8,y9,y10,y11⟩:=row12 wx.at_)
    go_returns
    exact ⟨rfl,_,by rw [HQ.out,HTK.out];have:=wx.wrt;first|exact this|(simp only [List.append_assoc] at this ⊢;exact this)|(simp only [List.append_nil] at this ⊢;exact this),wx.st⟩
   have f5:(ck==5)=false:=by simp [e5]
   by_cases e6:ck=6
   case pos=>
    subst e6
    have hTk:T=be (i % 18446744073709551616).toNat 8++encV vv:=by rw [<-HT.out];simp [encT,saysB,hasB]
    rw [hTk] at hQL
    have HTK:=qh hTk
    simp only [List.length_append,Zc] at hQL
    clear hTk
    go_wp2_with (first|(go_at_call 150;(with_reducible refine (Xt _ _ B wb _ _ wx.wrt ?_).mono ?_);(focus ((first|omega|(simp only [List.length_append];omega)|(simp only [List.length_append,Zc];omega))));rintro e w2 ⟨rfl,v2,hr2,hs2⟩;replace wx:=wx.next hr2 hs2;obtain ⟨y0,y1,y2,y3,y4,y5,y6,y7,y8,y9,y10,y11⟩:=row12 wx.at_)|(go_at_call 149;(with_reducible refine (Jf vv vk vn vs vla vll vlc voa vol voc _ B wb _ _ wx.wrt (HV.out _ (H0.out.keeps wx.st)) ?_).mono ?_);(focus ((first|omega|(simp only [List.length_append];omega)|(simp only [List.length_append,Zc];omega))));rintro e w2 ⟨rfl,v2,hr2,hs2⟩;replace wx:=wx.next hr2 hs2;obtain ⟨y0,y1,y2,y3,y4,y5,y6,y7,y8,y9,y10,y11⟩:=row12 wx.at_))
    go_returns
    exact ⟨rfl,_,by rw [HQ.out,HTK.out];have:=wx.wrt;first|exact this|(simp only [List.append_assoc] at this ⊢;exact this)|(simp only [List.append_nil] at this ⊢;exact this),wx.st⟩
   have f6:(ck==6)=false:=by simp [e6]
   by_cases e7:ck=7
   case pos=>
    subst e7
    have hTk:T=be (i % 18446744073709551616).toNat 8++be (j % 18446744073709551616).toNat 8:=by rw [<-HT.out];simp [encT,saysB,hasB]
    rw [hTk] at hQL
    have HTK:=qh hTk
    simp only [List.length_append,Zc] at hQL
    clear hTk
    go_wp2_with (go_at_call 150;(with_reducible refine (Xt _ _ B wb _ _ wx.wrt ?_).mono ?_);(focus ((first|omega|(simp only [List.length_append];omega)|(simp only [List.length_append,Zc];omega))));rintro e w2 ⟨rfl,v2,hr2,hs2⟩;replace wx:=wx.next hr2 hs2;obtain ⟨y0,y1,y2,y3,y4,y5,y6,y7,y8,y9,y10,y11⟩:=row12 wx.at_)
    go_returns
    exact ⟨rfl,_,by rw [HQ.out,HTK.out];have:=wx.wrt;first|exact this|(simp only [List.append_assoc] at this ⊢;exact this)|(simp only [List.append_nil] at this ⊢;exact this),wx.st⟩
   have f7:(ck==7)=false:=by simp [e7]
   by_cases e8:ck=8
   case pos=>
    subst e8
    have hTk:T=be (i % 18446744073709551616).toNat 8++encS s:=by rw [<-HT.out];simp [encT,saysB,hasB]
    rw [hTk] at hQL
    have HTK:=qh hTk
    simp only [List.length_append,Zc] at hQL
    clear hTk
    go_wp2_with (first|(go_at_call 150;(with_reducible refine (Xt _ _ B wb _ _ wx.wrt ?_).mono ?_);(focus ((first|omega|(simp only [List.length_append];omega)|(simp only [List.length_append,Zc];omega))));rintro e w2 ⟨rfl,v2,hr2,hs2⟩;replace wx:=wx.next hr2 hs2;obtain ⟨y0,y1,y2,y3,y4,y5,y6,y7,y8,y9,y10,y11⟩:=row12 wx.at_)|(go_at_call 178;(with_reducible refine (Qj _ _ B wb _ _ wx.wrt ?_).mono ?_);(focus ((first|omega|(simp only [List.length_append];omega)|(simp only [List.length_append,Zc];omega))));rintro e w2 ⟨rfl,v2,hr2,hs2⟩;replace wx:=wx.next hr2 hs2;obtain ⟨y0,y1,y2,y3,y4,y5,y6,y7,y8,y9,y10,y11⟩:=row12 wx.at_))
    go_returns
    exact ⟨rfl,_,by rw [HQ.out,HTK.out];have:=wx.wrt;first|exact this|(simp only [List.append_assoc] at this ⊢;exact this)|(simp only [List.append_nil] at this ⊢;exact this),wx.st⟩
   have f8:(ck==8)=false:=by simp [e8]
   by_cases e9:ck=9
   case pos=>
    subst e9
    have hTk:T=be (i % 18446744073709551616).toNat 8++be (n % 18446744073709551616).toNat 8:=by rw [<-HT.out];simp [encT,saysB,hasB]
    rw [hTk] at hQL
    have HTK:=qh hTk
    simp only [List.length_append,Zc] at hQL
    clear hTk
    go_wp2_with (first|(go_at_call 150;(with_reducible refine (Xt _ _ B wb _ _ wx.wrt ?_).mono ?_);(focus ((first|omega|(simp only [List.length_append];omega)|(simp only [List.length_append,Zc];omega))));rintro e w2 ⟨rfl,v2,hr2,hs2⟩;replace wx:=wx.next hr2 hs2;obtain ⟨y0,y1,y2,y3,y4,y5,y6,y7,y8,y9,y10,y11⟩:=row12 wx.at_)|(go_at_call 177;(with_reducible refine (zes _ _ B wb _ _ wx.wrt ?_).mono ?_);(focus ((first|omega|(simp only [List.length_append];omega)|(simp only [List.length_append,Zc];omega))));rintro e w2 ⟨rfl,v2,hr2,hs2⟩;replace wx:=wx.next hr2 hs2;obtain ⟨y0,y1,y2,y3,y4,y5,y6,y7,y8,y9,y10,y11⟩:=row12 wx.at_))
    go_returns
    exact ⟨rfl,_,by rw [HQ.out,HTK.out];have:=wx.wrt;first|exact this|(simp only [List.append_assoc] at this ⊢;exact this)|(simp only [List.append_nil] at this ⊢;exact this),wx.st⟩
   have f9:(ck==9)=false:=by simp [e9]
   have hTk:T= [] :=by rw [<-HT.out];simp [encT,saysB,hasB,e1,e2,e3,e4,e5,e6,e7,e8,e9]
   rw [hTk] at hQL
   have HTK:=qh hTk
   simp only [List.length_nil] at hQL
   clear e1 e2 e3 e4 e5 e6 e7 e8 e9
   clear hTk
   go_wp2_with fail
   go_returns
   exact ⟨rfl,_,by rw [HQ.out,HTK.out];have:=wx.wrt;first|exact this|(simp only [List.append_assoc] at this ⊢;exact this)|(simp only [List.append_nil] at this ⊢;exact this),wx.st⟩
end Go.Proofs.YtfoahkbnheijcaaGreatDoor
