/-
  Contracts of the functions that the law reaches: conciliatorref01.Sound: of a value in.
-/
import Derived.Test.YtfoahkbnheijcaaDoorCq15
import Derived.Test.YtfoahkbnheijcaaDoorCq10
namespace Go.Proofs.YtfoahkbnheijcaaDoor
open Go.RowKit
set_option maxHeartbeats 8000000
def Tabs (w:World):Prop:=Lib.Utf8Tabs 0 1 w
theorem Tabs.below {w w':World} (h:Tabs w) (hb:Below w.heap.size w w'):Tabs w':=Utf8Tabs_below h hb
theorem Ye (s:ByteArray) (w:World) (hs:s.size<=140737488355328) (hT:Tabs w):
 Calls Tryd.prog 40 #[.string s] w fun e w'=>e= .returned (.bool (Lib.validD s.data.toList))/\Below w.heap.size w w':=
 Tryd.utf8_ValidString s w (by omega) hT
theorem zdc {k n:Int} {s:ByteArray} {l:List V} {o:List (ByteArray×V)} (h:plainB k n s l.length o.length=false):(V.mk k n s l o).sound=false:=by
 simp [V.sound,h]
theorem zme {n:Int} {s:ByteArray} {ll ol:Nat} (hs:s.toList= []) (hl:ll=0) (ho:ol=0) (hn:n=0):plainB 0 n s ll ol=true:=by simp [plainB,hs,hl,ho,hn]
theorem zjj {n:Int} {s:ByteArray} {ll ol:Nat} (hs:s.toList= []) (hl:ll=0) (ho:ol=0) (hn:n=0∨n=1):plainB 1 n s ll ol=true:=by
 rcases hn with rfl|rfl<;>simp [plainB,hs,hl,ho]
theorem zkn {n:Int} {s:ByteArray} {ll ol:Nat} (hs:s.toList= []) (hl:ll=0) (ho:ol=0):plainB 2 n s ll ol=true:=by simp [plainB,hs,hl,ho]
theorem zgu {n:Int} {s:ByteArray} {ll ol:Nat} (hs:Lib.validD s.data.toList=true) (hl:ll=0) (ho:ol=0) (hn:n=0):plainB 3 n s ll ol=true:=by simp [plainB,hs,hl,ho,hn]
theorem zl3 {n:Int} {s:ByteArray} {ll ol:Nat} (hs:s.toList= []) (ho:ol=0) (hn:n=0):plainB 4 n s ll ol=true:=by simp [plainB,hs,ho,hn]
theorem zdz {n:Int} {s:ByteArray} {ll ol:Nat} (hs:s.toList= []) (hl:ll=0) (hn:n=0):plainB 5 n s ll ol=true:=by simp [plainB,hs,hl,hn]
set_option maxRecDepth 100000 in
theorem zmy (w:World) (c:VC) (hT:Tabs w) (hbd:c.Bnd) (hp:plainB c.k c.n c.s c.ll c.ol=false):
 Calls Tryd.prog 15 #[.agg #[.int .u8 c.k, .int .i64 c.n, .string c.s, .slice c.la c.ll c.lc, .slice c.oa c.ol c.oc]] w fun e w'=>e= .returned (.bool false)/\Below w.heap.size w w':=by
 have k0:=hbd.k0
 have l3:=hbd.l3
 have o3:=hbd.o3
 have hsz:=hbd.s1
 obtain ⟨vd,hvd⟩:∃vd,Lib.validD c.s.data.toList=vd:=⟨_,rfl⟩
 have HVD:=qh hvd
 clear hbd hvd
 obtain ⟨k,n,s,la,ll,lc,oa,ol,oc⟩:=c
 dsimp only at*
 have hk:k=0∨k=1∨k=2∨k=3∨k=4∨k=5∨5<k:=by omega
 have H0:=qh hp
 clear hp
 rcases hk with rfl|rfl|rfl|rfl|rfl|rfl|hk
 .go_enter Tryd.func15,Tryd.ntmps15
  go_wp2_with fail
  all_goals first
   |(go_ret;exact ⟨rfl,(Below.refl _ _).alloc (Nat.le_refl _) _⟩)
   |exact absurd (zme (n:=n) (s:=s) (ll:=ll) (ol:=ol) (by assumption) (by omega) (by omega) (by omega)) (by rw [H0.out];simp)
 .go_enter Tryd.func15,Tryd.ntmps15
  go_wp2_with fail
  all_goals first
   |(go_ret;exact ⟨rfl,(Below.refl _ _).alloc (Nat.le_refl _) _⟩)
   |exact absurd (zjj (n:=n) (s:=s) (ll:=ll) (ol:=ol) (by assumption) (by omega) (by omega) (by omega)) (by rw [H0.out];simp)
 .go_enter Tryd.func15,Tryd.ntmps15
  go_wp2_with fail
  all_goals first
   |(go_ret;exact ⟨rfl,(Below.refl _ _).alloc (Nat.le_refl _) _⟩)
   |exact absurd (zkn (n:=n) (s:=s) (ll:=ll) (ol:=ol) (by assumption) (by omega) (by omega)) (by rw [H0.out];simp)
 .go_enter Tryd.func15,Tryd.ntmps15
  go_wp2_with fail
  all_goals first
   |(go_ret;exact ⟨rfl,(Below.refl _ _).alloc (Nat.le_refl _) _⟩)
   | (have hv:vd=false:=by
       have h:=H0.out
       cases vd with
       |false=>rfl
       |true=>rw [zgu HVD.out (by omega) (by omega) (by omega)] at h;cases h
      subst hv
      refine (Ye s _ hsz (hT.below ((Below.refl _ _).alloc (Nat.le_refl _) _))).mono ?_
      rintro e w' ⟨rfl,hb⟩
      rw [HVD.out]
      go_wp2_with fail
      go_ret
      exact ⟨rfl,((Below.refl _ _).alloc (Nat.le_refl _) _).trans (hb.mono (by simp))⟩)
 .go_enter Tryd.func15,Tryd.ntmps15
  go_wp2_with fail
  all_goals first
   |(go_ret;exact ⟨rfl,(Below.refl _ _).alloc (Nat.le_refl _) _⟩)
   |exact absurd (zl3 (n:=n) (s:=s) (ll:=ll) (ol:=ol) (by assumption) (by omega) (by omega)) (by rw [H0.out];simp)
 .go_enter Tryd.func15,Tryd.ntmps15
  go_wp2_with fail
  all_goals first
   |(go_ret;exact ⟨rfl,(Below.refl _ _).alloc (Nat.le_refl _) _⟩)
   |exact absurd (zdz (n:=n) (s:=s) (ll:=ll) (ol:=ol) (by assumption) (by omega) (by omega)) (by rw [H0.out];simp)
 .go_enter Tryd.func15,Tryd.ntmps15
  go_wp2_with fail
  go_ret
  exact ⟨rfl,(Below.refl _ _).alloc (Nat.le_refl _) _⟩
theorem zih:(Tryd.prog.info? 3).map (fun i=>(i.zero,i.size,i.bytes))=some (some (.int .i64 0),1,8):=by kernel_rfl
def ints (l:List Nat):List Value:=l.map fun (n:Nat)=>Value.int .i64 (n:Int)
theorem zan (a b:List Nat):ints (a++b)=ints a++ints b:=by simp [ints]
def IntsPost (w:World) (l:List Nat) (e:Ending) (w':World):Prop:=
 (∃g c,e= .returned (.slice (some ⟨g,0,none⟩) l.length c)/\l.length<=c/\c<=9223372036854775807/\g<w'.heap.size/\∀i (h:i<l.length),w'.cell? ⟨g,i,none⟩=some (.int .i64 (l[i] :Int)))/\Below w.heap.size w w'
theorem zhx (s:ByteArray) (i:Nat) (h:i<s.size):(Lib.decodeGo (s.extract i s.size)).2=(Lib.decodeL (s.data.toList.drop i)).2:=by
 have hd:(s.extract i s.size)=⟨(s.data.toList.drop i).toArray⟩:=by
  apply ByteArray.ext
  apply Array.ext'
  rw [ByteArray.data_extract,Array.toList_extract,List.extract_eq_take_drop]
  exact List.take_of_length_le (by rw [List.length_drop,Array.length_toList];exact Nat.le_refl _)
 have hz:(s.extract i s.size).size≠0:=by rw [ByteArray.size_extract];omega
 unfold Lib.decodeGo Lib.decodeL
 rw [if_neg hz,hd]
structure CUH (w wr:World) (s:ByteArray) (i:Nat) (l:List Nat) (u:Value):Prop where
 rest:l++cutsP (s.data.toList.drop i).length i (s.data.toList.drop i)=cutsP s.size 0 s.data.toList
 own:wr.ownsRow w.heap.size 3 1 u l.length (ints l)
 below:Below w.heap.size w wr
set_option maxRecDepth 100000 in
theorem zc2 (w:World) (s:ByteArray) (hs:s.size<=1000000000000) (hT:Tabs w):
 Calls Tryd.prog 91 #[.string s] w (IntsPost w (cuts s)):=by
 obtain ⟨i0,hi0,hz0,hz1,hz2⟩:=info_parts zih
 have hsz:s.data.toList.length=s.size:=Array.length_toList
 have HS:=qh hsz
 have HTT:=qh hT
 clear hsz hT
 go_enter Tryd.func91,Tryd.ntmps91
 go_wp2_with fail
 go_loopw [3,4,5,6] (fun u i _ _ wr=>∃(j:Nat) (l:List Nat) (a:Option Addr) (m c:Nat),j<=s.size/\l.length<=j/\i= .int .i64 j/\u= .slice a m c/\CUH w wr s j l (.slice a m c)) (fun _ i _ _ _=>s.size - (intOf i).toNat)
 case atStart=>exact ⟨0, [],none,0,0,Nat.zero_le _,Nat.le_refl _,rfl,rfl,⟨by rw [List.drop_zero,HS.out];rfl,⟨rfl, .inl ⟨rfl,rfl⟩⟩,Below.refl _ _⟩⟩
 case round=>
  obtain ⟨j,l,a,m,c,hj,hlj,rfl,rfl,L⟩:=hrel
  have hrlt:∀b,(Value.slice a m c).ownBlock=some b->w.heap.size<=b/\b<wr.heap.size:=L.own.lt
  have hb:=L.below.size
  by_cases hlt:j<s.size
  .have hne:s.data.toList.drop j≠ [] :=fun e=>by
    have:=congrArg List.length e
    rw [List.length_drop,HS.out] at this
    simp at this;omega
   have hw1:=Lib.decodeL_width (s.data.toList.drop j)
   have hw2:=Lib.decodeL_le _ hne
   rw [List.length_drop,HS.out] at hw2
   obtain ⟨k,hk⟩:∃k,(Lib.decodeL (s.data.toList.drop j)).2=k:=⟨_,rfl⟩
   have hd:=zhx s j hlt
   rw [hk] at hd hw1 hw2
   have hrs:=L.rest
   rw [J3 hne,hk] at hrs
   have HRS:=qh hrs
   obtain ⟨rn,hrn⟩:∃rn,(Lib.decodeGo (s.extract j s.size)).1=rn:=⟨_,rfl⟩
   have HD:Hid (∀W,Below w.heap.size w W->Calls Tryd.prog 108 #[.string (s.extract j s.size)] W fun e w'=>e= .returned (.tuple #[.int .i32 rn, .int .i64 k])/\Below W.heap.size W w'):=fun W hW=>by
    have:=Tryd.utf8_DecodeRuneInString (s.extract j s.size) W (HTT.out.below hW)
    rw [hrn,hd] at this;exact this
   have LL:=qh L
   have ho:=L.own
   clear hrs hne hk hd hrn L
   go_wp2_with (at_builtin;refine wpList_append_lies _ rfl (.tmp 11) (.tmp 13) 127 (by rfl) w.heap.size 3 i0 _ 1 8 Tryd.underlying127 hi0 hz0 hz1 hz2 rfl (by omega) (.slice a m c) l.length (ints l) (by rfl) (ho.alloc _) ⟨wr.heap.size,0,none⟩ 1 1 [.int .i64 (j:Int)] (by rfl) (by rfl) (World.news_of_block (cs:= #[.int .i64 (j:Int)]) (t:=3) (fr:=(0,0)) (heap_alloc_new wr _)) (by simp [Value.oneCell']) (by omega) (by unfold maxLen;omega) (by omega) (by simp;omega) (wr.heap.size+1) (by simp) ?_;intro g cap w7 hown7 hgrow7 hat7 hlt7)
   have hb7:Below w.heap.size w w7:=(LL.out.below.trans (((Below.refl _ _).alloc (Nat.le_refl _) _).mono hb)).trans (Zj hgrow7 (fun k hk=>(hrlt k hk).1) (by simp;omega))
   refine (HD.out w7 hb7).mono ?_
   rintro e w8 ⟨rfl,hb8⟩
   have hb9:Below w.heap.size w7 w8:=hb8.mono hb7.size
   have hlt9:∀b,(Value.slice (some ⟨g,0,none⟩) (l.length+1) cap).ownBlock=some b->w.heap.size<=b/\b<w7.heap.size:=hown7.lt
   go_wp2_with fail
   go_roundw
   case rel=>
    refine ⟨j+k,l++ [j],some ⟨g,0,none⟩,l.length+1,cap,by omega,by simp;omega,by go_num,rfl,⟨?_, ?_,hb7.trans hb9⟩⟩
    .rw [List.append_assoc,List.singleton_append, <-HRS.out,List.drop_drop]
    .rw [zan,List.length_append,List.length_singleton]
     exact hown7.kept (row:=none) ⟨hb8.os,hb8.tape,hb8.output,hb8.size,fun q hq _=>hb8.block q hq⟩ (by right;simp [Value.ownBlock])
   case measure=>simp [intOf];omega
  .have hjs:j=s.size:=by omega
   have hrs:=L.rest
   have hdz:s.data.toList.drop j= [] :=by rw [hjs, <-HS.out,List.drop_length]
   rw [hdz] at hrs
   simp only [List.length_nil,cutsP,List.append_nil] at hrs
   have HRS:=qh hrs
   have HJ:=qh hjs
   have LL:=qh L
   have ho:=L.own
   have hll:l.length<=1000000000000:=by omega
   clear hrs hdz L hjs
   go_wp2_with (at_builtin;refine wpList_append_lies _ rfl (.tmp 25) (.tmp 28) 127 (by rfl) w.heap.size 3 i0 _ 1 8 Tryd.underlying127 hi0 hz0 hz1 hz2 rfl (by omega) (.slice a m c) l.length (ints l) (by rfl) (ho.alloc _) ⟨wr.heap.size,0,none⟩ 1 1 [.int .i64 (s.size:Int)] (by rfl) (by rfl) (World.news_of_block (cs:= #[.int .i64 (s.size:Int)]) (t:=3) (fr:=(0,0)) (heap_alloc_new wr _)) (by simp [Value.oneCell']) (by omega) (by unfold maxLen;omega) (by omega) (by simp;omega) (wr.heap.size+1) (by simp) ?_;intro g cap w7 hown7 hgrow7 hat7 hlt7)
   have hb7:Below w.heap.size w w7:=(LL.out.below.trans (((Below.refl _ _).alloc (Nat.le_refl _) _).mono hb)).trans (Zj hgrow7 (fun k hk=>(hrlt k hk).1) (by simp;omega))
   go_returns
   have hcu:cuts s=l++ [s.size] :=by rw [cuts, <-HRS.out]
   rw [hcu]
   have hown8:w7.ownsRow w.heap.size 3 1 (.slice (some ⟨g,0,none⟩) (l.length+1) cap) (l.length+1) (ints (l++ [s.size])):=by rw [zan];exact hown7
   refine ⟨⟨g,cap,by rw [List.length_append,List.length_singleton];rfl, ?_⟩,hb7⟩
   obtain ⟨_,c',e',ho'⟩:=OwnRow.of (base':=w.heap.size) hown8 (Nat.le_refl _)
   injection e' with e1 e2 e3
   subst e1 e3
   obtain ⟨g',e',_,hbc⟩:=ho'.row (.inl (by omega))
   obtain rfl:g=g':=by injection e' with e';injection e'
   refine ⟨by rw [List.length_append,List.length_singleton];exact ho'.cap,ho'.max,hbc.lt,fun i hi=>hbc.at_ i _ ?_⟩
   unfold ints
   rw [List.getElem?_map,List.getElem?_eq_getElem hi]
   rfl
theorem zii (w:World) (s:ByteArray) (hs:s.size<=1000000000000) (hT:Tabs w):
 Calls Tryd.prog 107 #[.string s] w fun e w'=>e= .returned (.int .i64 (textN s:Int))/\Below w.heap.size w w':=by
 have hl:=Xs s
 obtain ⟨L,hL⟩:∃L,(cuts s).length=L:=⟨_,rfl⟩
 have HC:=qh (zc2 w s hs hT)
 have hn:textN s=L - 1:=by rw [textN,hL]
 rw [hn]
 rw [hL] at hl
 have hw1:IntKind.i64.wrap ((L:Int) - 1)=(L:Int) - 1:=IntWalk.i64_in _ (by omega)
 have hw2:((L - 1:Nat):Int)=(L:Int) - 1:=by omega
 rw [hw2]
 have HL:=qh hL
 clear hL hT hn
 go_enter Tryd.func107,Tryd.ntmps107
 go_wp2_with fail
 refine HC.out.mono ?_
 rintro e w1 ⟨⟨g,c,rfl,_,_,_,_⟩,hb1⟩
 rw [HL.out]
 go_wp2_with fail
 go_returns
 exact ⟨rfl,hb1⟩
def tCheck (s:ByteArray) (k i n:Int):Int:=
 if k≠8/\k≠9 then 31 else if i<0∨(textN s:Int)<i then 32 else if k=9/\(n<1∨(textN s:Int) - i<n) then 32 else 0
set_option maxRecDepth 100000 in
theorem zb2 (w:World) (s:ByteArray) (c:CC) (hb:c.Bnd) (hs:s.size<=1000000000000) (hT:Tabs w):
 Calls Tryd.prog 90 #[.string s, .agg #[.int .u8 c.k, .slice c.pa c.pl c.pc, .string c.key, .int .i64 c.i, .int .i64 c.j, .int .i64 c.n, .int .u8 c.v.k, .int .i64 c.v.n, .string c.v.s, .slice c.v.la c.v.ll c.v.lc, .slice c.v.oa c.v.ol c.v.oc, .string c.s]] w fun e w'=>e= .returned (.int .i64 (tCheck s c.k c.i c.n))/\Below w.heap.size w w':=by
 have n0:=hb.n0;have n1:=hb.n1;have i0:=hb.i0;have i1:=hb.i1
 obtain ⟨N,hN⟩:∃N,textN s=N:=⟨_,rfl⟩
 have hNl:N<=1000000000000:=by have:=(Xs s).2;rw [<-hN,textN];omega
 have HN:Hid (∀W,Below w.heap.size w W->Calls Tryd.prog 107 #[.string s] W fun e w'=>e= .returned (.int .i64 (N:Int))/\Below W.heap.size W w'):=fun W hW=>by rw [<-hN];exact zii W s hs (hT.below hW)
 have HBX:=qh (BC.start w #[.int .u8 c.k, .slice c.pa c.pl c.pc, .string c.key, .int .i64 c.i, .int .i64 c.j, .int .i64 c.n, .int .u8 c.v.k, .int .i64 c.v.n, .string c.v.s, .slice c.v.la c.v.ll c.v.lc, .slice c.v.oa c.v.ol c.v.oc, .string c.s] 34)
 have HAL:=qh ((Below.refl _ _).alloc (Nat.le_refl _) (.cells #[.int .u8 c.k, .slice c.pa c.pl c.pc, .string c.key, .int .i64 c.i, .int .i64 c.j, .int .i64 c.n, .int .u8 c.v.k, .int .i64 c.v.n, .string c.v.s, .slice c.v.la c.v.ll c.v.lc, .slice c.v.oa c.v.ol c.v.oc, .string c.s] 34):Below w.heap.size w _)
 obtain ⟨R,hR⟩:∃R,tCheck s c.k c.i c.n=R:=⟨_,rfl⟩
 rw [hR]
 rw [tCheck,hN] at hR
 have HR:=qh hR
 obtain ⟨ck,hck⟩:∃ck,c.k=ck:=⟨_,rfl⟩
 obtain ⟨ci,hci⟩:∃ci,c.i=ci:=⟨_,rfl⟩
 obtain ⟨cn,hcn⟩:∃cn,c.n=cn:=⟨_,rfl⟩
 rw [hck,hci,hcn] at HR
 rw [hcn] at n0 n1
 rw [hci] at i0 i1
 rw [hck,hci,hcn] at HBX HAL ⊢
 clear hR hN hT hb hck hci hcn
 by_cases e8:ck=8
 .cases e8
  have f9:((8:Int)==9)=false:=rfl
  by_cases hi0:ci<0
  .obtain rfl:R=32:=by rw [<-HR.out];simp [hi0]
   go_enter Tryd.func90,Tryd.ntmps90
   go_wp2_with fail
   refine (HN.out _ HAL.out).mono ?_
   rintro e w1 ⟨rfl,hb1⟩
   have D:=HBX.out.keep hb1 (by simp)
   obtain ⟨b0,b1,b2,b3,b4,b5,b6,b7,b8,b9,b10,b11⟩:=row12 D.at_
   have zs:=D.lt
   have HBL:=qh (HAL.out.trans (hb1.mono (by simp)))
   clear D hb1
   go_wp2_with fail
   go_returns
   exact ⟨rfl,HBL.out⟩
  .by_cases hi1:(N:Int)<ci
   .obtain rfl:R=32:=by rw [<-HR.out];simp [hi1]
    go_enter Tryd.func90,Tryd.ntmps90
    go_wp2_with fail
    refine (HN.out _ HAL.out).mono ?_
    rintro e w1 ⟨rfl,hb1⟩
    have D:=HBX.out.keep hb1 (by simp)
    obtain ⟨b0,b1,b2,b3,b4,b5,b6,b7,b8,b9,b10,b11⟩:=row12 D.at_
    have zs:=D.lt
    have HBL:=qh (HAL.out.trans (hb1.mono (by simp)))
    clear D hb1
    go_wp2_with fail
    go_returns
    exact ⟨rfl,HBL.out⟩
   .obtain rfl:R=0:=by rw [<-HR.out];simp [hi0,hi1]
    go_enter Tryd.func90,Tryd.ntmps90
    go_wp2_with fail
    refine (HN.out _ HAL.out).mono ?_
    rintro e w1 ⟨rfl,hb1⟩
    have D:=HBX.out.keep hb1 (by simp)
    obtain ⟨b0,b1,b2,b3,b4,b5,b6,b7,b8,b9,b10,b11⟩:=row12 D.at_
    have zs:=D.lt
    have HBL:=qh (HAL.out.trans (hb1.mono (by simp)))
    clear D hb1
    go_wp2_with fail
    go_returns
    exact ⟨rfl,HBL.out⟩
 .have f8 : (ck !=8)=true:=by simp [e8]
  by_cases e9:ck=9
  .cases e9
   by_cases hi0:ci<0
   .obtain rfl:R=32:=by rw [<-HR.out];simp [hi0]
    go_enter Tryd.func90,Tryd.ntmps90
    go_wp2_with fail
    refine (HN.out _ HAL.out).mono ?_
    rintro e w1 ⟨rfl,hb1⟩
    have D:=HBX.out.keep hb1 (by simp)
    obtain ⟨b0,b1,b2,b3,b4,b5,b6,b7,b8,b9,b10,b11⟩:=row12 D.at_
    have zs:=D.lt
    have HBL:=qh (HAL.out.trans (hb1.mono (by simp)))
    clear D hb1
    go_wp2_with fail
    go_returns
    exact ⟨rfl,HBL.out⟩
   .by_cases hi1:(N:Int)<ci
    .obtain rfl:R=32:=by rw [<-HR.out];simp [hi1]
     go_enter Tryd.func90,Tryd.ntmps90
     go_wp2_with fail
     refine (HN.out _ HAL.out).mono ?_
     rintro e w1 ⟨rfl,hb1⟩
     have D:=HBX.out.keep hb1 (by simp)
     obtain ⟨b0,b1,b2,b3,b4,b5,b6,b7,b8,b9,b10,b11⟩:=row12 D.at_
     have zs:=D.lt
     have HBL:=qh (HAL.out.trans (hb1.mono (by simp)))
     clear D hb1
     go_wp2_with fail
     go_returns
     exact ⟨rfl,HBL.out⟩
    .have hw1:IntKind.i64.wrap ((N:Int) - ci)=(N:Int) - ci:=IntWalk.i64_in _ (by omega)
     by_cases hn1:cn<1
     .obtain rfl:R=32:=by rw [<-HR.out];simp [hi0,hi1,hn1]
      go_enter Tryd.func90,Tryd.ntmps90
      go_wp2_with fail
      refine (HN.out _ HAL.out).mono ?_
      rintro e w1 ⟨rfl,hb1⟩
      have D:=HBX.out.keep hb1 (by simp)
      obtain ⟨b0,b1,b2,b3,b4,b5,b6,b7,b8,b9,b10,b11⟩:=row12 D.at_
      have zs:=D.lt
      have HBL:=qh (HAL.out.trans (hb1.mono (by simp)))
      clear D hb1
      go_wp2_with fail
      go_returns
      exact ⟨rfl,HBL.out⟩
     .by_cases hn2:(N:Int) - ci<cn
      .obtain rfl:R=32:=by rw [<-HR.out];simp [hi0,hi1,hn2]
       go_enter Tryd.func90,Tryd.ntmps90
       go_wp2_with fail
       refine (HN.out _ HAL.out).mono ?_
       rintro e w1 ⟨rfl,hb1⟩
       have D:=HBX.out.keep hb1 (by simp)
       obtain ⟨b0,b1,b2,b3,b4,b5,b6,b7,b8,b9,b10,b11⟩:=row12 D.at_
       have zs:=D.lt
       have HBL:=qh (HAL.out.trans (hb1.mono (by simp)))
       clear D hb1
       go_wp2_with fail
       go_returns
       exact ⟨rfl,HBL.out⟩
      .obtain rfl:R=0:=by rw [<-HR.out];simp [hi0,hi1,hn1,hn2]
       go_enter Tryd.func90,Tryd.ntmps90
       go_wp2_with fail
       refine (HN.out _ HAL.out).mono ?_
       rintro e w1 ⟨rfl,hb1⟩
       have D:=HBX.out.keep hb1 (by simp)
       obtain ⟨b0,b1,b2,b3,b4,b5,b6,b7,b8,b9,b10,b11⟩:=row12 D.at_
       have zs:=D.lt
       have HBL:=qh (HAL.out.trans (hb1.mono (by simp)))
       clear D hb1
       go_wp2_with fail
       go_returns
       exact ⟨rfl,HBL.out⟩
  .have f9:(ck !=9)=true:=by simp [e9]
   obtain rfl:R=31:=by rw [<-HR.out];simp [e8,e9]
   go_enter Tryd.func90,Tryd.ntmps90
   go_wp2_with fail
   go_returns
   exact ⟨rfl,HAL.out⟩
def textDo (s:ByteArray) (k i n:Int) (cs:ByteArray):ByteArray:=
 if k=8 then s.extract 0 ((cuts s).getD i.toNat 0)++cs++s.extract ((cuts s).getD i.toNat 0) s.size
 else s.extract 0 ((cuts s).getD i.toNat 0)++s.extract ((cuts s).getD (i+n).toNat 0) s.size
theorem Kk {s:ByteArray} {k i n:Int} (h:tCheck s k i n=0):(k=8∨(k=9/\1<=n/\i+n<=textN s))/\0<=i/\i<=textN s:=by
 unfold tCheck at h
 by_cases h1:k≠8/\k≠9
 .rw [if_pos h1] at h;omega
 .rw [if_neg h1] at h
  by_cases h2:i<0∨(textN s:Int)<i
  .rw [if_pos h2] at h;omega
  .rw [if_neg h2] at h
   by_cases h3:k=9/\(n<1∨(textN s:Int) - i<n)
   .rw [if_pos h3] at h;omega
   .omega
set_option maxRecDepth 100000 in
theorem zhu (w:World) (s:ByteArray) (c:CC) (hb:c.Bnd) (hs:s.size<=1000000000000) (hT:Tabs w) (hc:tCheck s c.k c.i c.n=0):
 Calls Tryd.prog 59 #[.string s, .agg #[.int .u8 c.k, .slice c.pa c.pl c.pc, .string c.key, .int .i64 c.i, .int .i64 c.j, .int .i64 c.n, .int .u8 c.v.k, .int .i64 c.v.n, .string c.v.s, .slice c.v.la c.v.ll c.v.lc, .slice c.v.oa c.v.ol c.v.oc, .string c.s]] w fun e w'=>e= .returned (.tuple #[.string (textDo s c.k c.i c.n c.s), .int .i64 0])/\Below w.heap.size w w':=by
 have HCK:Hid (∀W,Below w.heap.size w W->Calls Tryd.prog 90 #[.string s, .agg #[.int .u8 c.k, .slice c.pa c.pl c.pc, .string c.key, .int .i64 c.i, .int .i64 c.j, .int .i64 c.n, .int .u8 c.v.k, .int .i64 c.v.n, .string c.v.s, .slice c.v.la c.v.ll c.v.lc, .slice c.v.oa c.v.ol c.v.oc, .string c.s]] W fun e w'=>e= .returned (.int .i64 0)/\Below W.heap.size W w'):=fun W hW=>by
  have:=zb2 W s c hb hs (hT.below hW)
  rw [hc] at this;exact this
 obtain ⟨hk,hi0,hi1⟩:=Kk hc
 have hcl:=Xs s
 have hcle:=Ka s
 obtain ⟨C,hC⟩:∃C,cuts s=C:=⟨_,rfl⟩
 have HCU:Hid (∀W,Below w.heap.size w W->Calls Tryd.prog 91 #[.string s] W (IntsPost W C)):=fun W hW=>by rw [<-hC];exact zc2 W s hs (hT.below hW)
 have HBX:=qh (BC.start w #[.int .u8 c.k, .slice c.pa c.pl c.pc, .string c.key, .int .i64 c.i, .int .i64 c.j, .int .i64 c.n, .int .u8 c.v.k, .int .i64 c.v.n, .string c.v.s, .slice c.v.la c.v.ll c.v.lc, .slice c.v.oa c.v.ol c.v.oc, .string c.s] 34)
 have HAL:=qh ((Below.refl _ _).alloc (Nat.le_refl _) (.cells #[.int .u8 c.k, .slice c.pa c.pl c.pc, .string c.key, .int .i64 c.i, .int .i64 c.j, .int .i64 c.n, .int .u8 c.v.k, .int .i64 c.v.n, .string c.v.s, .slice c.v.la c.v.ll c.v.lc, .slice c.v.oa c.v.ol c.v.oc, .string c.s] 34):Below w.heap.size w _)
 obtain ⟨R,hR⟩:∃R,textDo s c.k c.i c.n c.s=R:=⟨_,rfl⟩
 rw [hR]
 rw [textDo,hC] at hR
 rw [hC] at hcl hcle
 rw [textN,hC] at hi1
 obtain ⟨I,hI⟩:∃I:Nat,c.i=I:=⟨c.i.toNat,by omega⟩
 have hIl:I<C.length:=by omega
 rw [hI,Int.toNat_natCast,List.getD_eq_getElem?_getD,List.getElem?_eq_getElem hIl,Option.getD_some] at hR
 have hpl:=hcle I hIl
 obtain ⟨p,hp⟩:∃p,C[I] =p:=⟨_,rfl⟩
 rw [hp] at hR hpl
 have HP:=qh hp
 have hk2:(c.k=8)∨(c.k=9/\∃J:Nat,c.n=J/\I+J<C.length):=by
  rw [textN,hC] at hk
  rcases hk with h|⟨h1,h2,h3⟩
  .exact .inl h
  .exact .inr ⟨h1,c.n.toNat,by omega,by omega⟩
 obtain ⟨ck,hck⟩:∃ck,c.k=ck:=⟨_,rfl⟩
 obtain ⟨cn,hcn⟩:∃cn,c.n=cn:=⟨_,rfl⟩
 rw [hck,hcn] at hR hk2
 rw [hck,hI,hcn] at HCK HBX HAL ⊢
 have HCLE:=qh hcle
 have hsz:s.size<=9223372036854775807:=by omega
 have hs1:=hb.s1
 have hq1:¬(9223372036854775807<p+c.s.size):=by omega
 have hq2:¬(9223372036854775807<p+c.s.size+(s.size - p)):=by omega
 clear hC hT hb hc hk hck hcn hi0 hi1 hcle hI hp
 rcases hk2 with e8|⟨e9,J,hJ,hIJ⟩
 .cases e8
  rw [if_pos rfl] at hR
  have HR:=qh hR
  clear hR
  go_enter Tryd.func59,Tryd.ntmps59
  go_wp2_with fail
  refine (HCK.out _ HAL.out).mono ?_
  rintro e w1 ⟨rfl,hb1⟩
  have D1:=HBX.out.keep hb1 (by simp)
  have hbl1:=HAL.out.trans (hb1.mono (by simp))
  have HD1:=qh D1
  have HBL1:=qh hbl1
  clear D1 hb1 hbl1
  go_wp2_with fail
  refine (HCU.out _ HBL1.out).mono ?_
  rintro e w2 ⟨⟨g,gc,rfl,hc1,hc2,hgl,hcell⟩,hb2⟩
  have D2:=HD1.out.keep hb2 HD1.out.lt
  obtain ⟨b0,b1,b2,b3,b4,b5,b6,b7,b8,b9,b10,b11⟩:=row12 D2.at_
  have zs:=D2.lt
  have hcI:=hcell I hIl
  rw [HP.out] at hcI
  have HBL2:=qh (HBL1.out.trans (hb2.mono HBL1.out.size))
  clear D2 hb2 hcell
  go_wp2_with fail
  go_region
  go_wp2_with fail
  go_returns
  exact ⟨by rw [<-HR.out];rfl,HBL2.out.drew⟩
 .cases e9
  cases hJ
  rw [if_neg (by omega),show ((I:Int)+(J:Int)).toNat=I+J by omega,List.getD_eq_getElem?_getD,List.getElem?_eq_getElem hIJ,Option.getD_some] at hR
  have hql:=HCLE.out (I+J) hIJ
  obtain ⟨q,hq⟩:∃q,C[I+J] =q:=⟨_,rfl⟩
  rw [hq] at hR hql
  have HQ:=qh hq
  have hw:IntKind.i64.wrap ((I:Int)+(J:Int))=((I+J:Nat):Int):=by rw [IntWalk.i64_in _ (by omega)];omega
  have hq1:¬(9223372036854775807<p+(s.size - q)):=by omega
  have HR:=qh hR
  clear hR hq
  go_enter Tryd.func59,Tryd.ntmps59
  go_wp2_with fail
  refine (HCK.out _ HAL.out).mono ?_
  rintro e w1 ⟨rfl,hb1⟩
  have D1:=HBX.out.keep hb1 (by simp)
  have hbl1:=HAL.out.trans (hb1.mono (by simp))
  have HD1:=qh D1
  have HBL1:=qh hbl1
  clear D1 hb1 hbl1
  go_wp2_with fail
  refine (HCU.out _ HBL1.out).mono ?_
  rintro e w2 ⟨⟨g,gc,rfl,hc1,hc2,hgl,hcell⟩,hb2⟩
  have D2:=HD1.out.keep hb2 HD1.out.lt
  obtain ⟨b0,b1,b2,b3,b4,b5,b6,b7,b8,b9,b10,b11⟩:=row12 D2.at_
  have zs:=D2.lt
  have hcI:=hcell I hIl
  rw [HP.out] at hcI
  have hcJ:=hcell (I+J) hIJ
  rw [HQ.out] at hcJ
  have HBL2:=qh (HBL1.out.trans (hb2.mono HBL1.out.size))
  clear D2 hb2 hcell
  go_wp2_with fail
  go_region
  go_wp2_with fail
  go_returns
  exact ⟨by rw [<-HR.out];rfl,HBL2.out.drew⟩
set_option maxRecDepth 100000 in
theorem zi4 (w:World) (c:CC):
 Calls Tryd.prog 109 #[.agg #[.int .u8 c.k, .slice c.pa c.pl c.pc, .string c.key, .int .i64 c.i, .int .i64 c.j, .int .i64 c.n, .int .u8 c.v.k, .int .i64 c.v.n, .string c.v.s, .slice c.v.la c.v.ll c.v.lc, .slice c.v.oa c.v.ol c.v.oc, .string c.s]] w fun e w'=>e= .returned (.bool (decide (4<=c.k/\c.k<=7)))/\Below w.heap.size w w':=by
 have HBX:=qh (BC.start w #[.int .u8 c.k, .slice c.pa c.pl c.pc, .string c.key, .int .i64 c.i, .int .i64 c.j, .int .i64 c.n, .int .u8 c.v.k, .int .i64 c.v.n, .string c.v.s, .slice c.v.la c.v.ll c.v.lc, .slice c.v.oa c.v.ol c.v.oc, .string c.s] 34)
 have HAL:=qh ((Below.refl _ _).alloc (Nat.le_refl _) (.cells #[.int .u8 c.k, .slice c.pa c.pl c.pc, .string c.key, .int .i64 c.i, .int .i64 c.j, .int .i64 c.n, .int .u8 c.v.k, .int .i64 c.v.n, .string c.v.s, .slice c.v.la c.v.ll c.v.lc, .slice c.v.oa c.v.ol c.v.oc, .string c.s] 34):Below w.heap.size w _)
 obtain ⟨R,hR⟩:∃R,decide (4<=c.k/\c.k<=7)=R:=⟨_,rfl⟩
 rw [hR]
 obtain ⟨ck,hck⟩:∃ck,c.k=ck:=⟨_,rfl⟩
 rw [hck] at HBX HAL hR ⊢
 have HR:=qh hR
 clear hck hR
 by_cases e4:ck=4
 .cases e4
  obtain rfl:R=true:=by rw [<-HR.out];rfl
  go_enter Tryd.func109,Tryd.ntmps109
  go_wp2_with fail
  go_returns
  exact ⟨rfl,HAL.out⟩
 have f4:(ck==4)=false:=by simp [e4]
 by_cases e5:ck=5
 .cases e5
  obtain rfl:R=true:=by rw [<-HR.out];rfl
  go_enter Tryd.func109,Tryd.ntmps109
  go_wp2_with fail
  go_returns
  exact ⟨rfl,HAL.out⟩
 have f5:(ck==5)=false:=by simp [e5]
 by_cases e6:ck=6
 .cases e6
  obtain rfl:R=true:=by rw [<-HR.out];rfl
  go_enter Tryd.func109,Tryd.ntmps109
  go_wp2_with fail
  go_returns
  exact ⟨rfl,HAL.out⟩
 have f6:(ck==6)=false:=by simp [e6]
 by_cases e7:ck=7
 .cases e7
  obtain rfl:R=true:=by rw [<-HR.out];rfl
  go_enter Tryd.func109,Tryd.ntmps109
  go_wp2_with fail
  go_returns
  exact ⟨rfl,HAL.out⟩
 have f7:(ck==7)=false:=by simp [e7]
 obtain rfl:R=false:=by rw [<-HR.out];simp;omega
 go_enter Tryd.func109,Tryd.ntmps109
 go_wp2_with fail
 go_returns
 exact ⟨rfl,HAL.out⟩
def lCheck (n:Nat) (k i j:Int):Int:=
 if ¬(4<=k/\k<=7) then 31 else if i<0∨(n:Int)<i∨(i=n/\k≠4) then 32 else if k=7/\(j<0∨(n:Int)<=j) then 32 else 0
theorem Yv {n:Nat} {k i j:Int} (h:lCheck n k i j=0):4<=k/\k<=7/\0<=i/\i<=n/\(k≠4->i<n)/\(k=7->0<=j/\j<n):=by
 unfold lCheck at h
 by_cases h1:¬(4<=k/\k<=7)
 .rw [if_pos h1] at h;omega
 .rw [if_neg h1] at h
  by_cases h2:i<0∨(n:Int)<i∨(i=n/\k≠4)
  .rw [if_pos h2] at h;omega
  .rw [if_neg h2] at h
   by_cases h3:k=7/\(j<0∨(n:Int)<=j)
   .rw [if_pos h3] at h;omega
   .omega
set_option maxRecDepth 100000 in
theorem Qa (w:World) (n:Nat) (hn:n<=9223372036854775807) (c:CC):
 Calls Tryd.prog 92 #[.int .i64 n, .agg #[.int .u8 c.k, .slice c.pa c.pl c.pc, .string c.key, .int .i64 c.i, .int .i64 c.j, .int .i64 c.n, .int .u8 c.v.k, .int .i64 c.v.n, .string c.v.s, .slice c.v.la c.v.ll c.v.lc, .slice c.v.oa c.v.ol c.v.oc, .string c.s]] w fun e w'=>e= .returned (.int .i64 (lCheck n c.k c.i c.j))/\Below w.heap.size w w':=by
 have HBX:=qh (BC.start w #[.int .u8 c.k, .slice c.pa c.pl c.pc, .string c.key, .int .i64 c.i, .int .i64 c.j, .int .i64 c.n, .int .u8 c.v.k, .int .i64 c.v.n, .string c.v.s, .slice c.v.la c.v.ll c.v.lc, .slice c.v.oa c.v.ol c.v.oc, .string c.s] 34)
 have HAL:=qh ((Below.refl _ _).alloc (Nat.le_refl _) (.cells #[.int .u8 c.k, .slice c.pa c.pl c.pc, .string c.key, .int .i64 c.i, .int .i64 c.j, .int .i64 c.n, .int .u8 c.v.k, .int .i64 c.v.n, .string c.v.s, .slice c.v.la c.v.ll c.v.lc, .slice c.v.oa c.v.ol c.v.oc, .string c.s] 34):Below w.heap.size w _)
 have HKN:Hid (∀W,Calls Tryd.prog 109 #[.agg #[.int .u8 c.k, .slice c.pa c.pl c.pc, .string c.key, .int .i64 c.i, .int .i64 c.j, .int .i64 c.n, .int .u8 c.v.k, .int .i64 c.v.n, .string c.v.s, .slice c.v.la c.v.ll c.v.lc, .slice c.v.oa c.v.ol c.v.oc, .string c.s]] W fun e w'=>e= .returned (.bool (decide (4<=c.k/\c.k<=7)))/\Below W.heap.size W w'):=fun W=>zi4 W c
 obtain ⟨KN,hKN⟩:∃KN,decide (4<=c.k/\c.k<=7)=KN:=⟨_,rfl⟩
 rw [hKN] at HKN
 obtain ⟨R,hR⟩:∃R,lCheck n c.k c.i c.j=R:=⟨_,rfl⟩
 rw [hR]
 rw [lCheck] at hR
 obtain ⟨ck,hck⟩:∃ck,c.k=ck:=⟨_,rfl⟩
 obtain ⟨ci,hci⟩:∃ci,c.i=ci:=⟨_,rfl⟩
 obtain ⟨cj,hcj⟩:∃cj,c.j=cj:=⟨_,rfl⟩
 rw [hck,hci,hcj] at hR HKN HBX HAL ⊢
 rw [hck] at hKN
 have HR:=qh hR
 have HKE:=qh hKN
 clear hR hck hci hcj hKN
 cases KN with
 | false=>
   have hk:¬(4<=ck/\ck<=7):=by simpa using HKE.out
   have HK:=qh hk
   clear hk
   obtain rfl:R=31:=by rw [<-HR.out];rw [if_pos HK.out]
   go_enter Tryd.func92,Tryd.ntmps92
   go_wp2_with fail
   refine (HKN.out _).mono ?_
   rintro e w1 ⟨rfl,hb1⟩
   have D:=HBX.out.keep hb1 (by simp)
   obtain ⟨b0,b1,b2,b3,b4,b5,b6,b7,b8,b9,b10,b11⟩:=row12 D.at_
   have zs:=D.lt
   have HBL:=qh (HAL.out.trans (hb1.mono (by simp)))
   clear D hb1
   go_wp2_with fail
   go_returns
   exact ⟨rfl,HBL.out⟩
 | true =>
   have hk:4<=ck/\ck<=7:=by simpa using HKE.out
   have HK:=qh hk
   clear hk
   by_cases h1:ci<0
   .obtain rfl:R=32:=by rw [<-HR.out];rw [if_neg (fun h=>h HK.out),if_pos (.inl h1)]
    go_enter Tryd.func92,Tryd.ntmps92
    go_wp2_with fail
    refine (HKN.out _).mono ?_
    rintro e w1 ⟨rfl,hb1⟩
    have D:=HBX.out.keep hb1 (by simp)
    obtain ⟨b0,b1,b2,b3,b4,b5,b6,b7,b8,b9,b10,b11⟩:=row12 D.at_
    have zs:=D.lt
    have HBL:=qh (HAL.out.trans (hb1.mono (by simp)))
    clear D hb1
    go_wp2_with fail
    go_returns
    exact ⟨rfl,HBL.out⟩
   by_cases h2:(n:Int)<ci
   .obtain rfl:R=32:=by rw [<-HR.out];rw [if_neg (fun h=>h HK.out),if_pos (.inr (.inl h2))]
    go_enter Tryd.func92,Tryd.ntmps92
    go_wp2_with fail
    refine (HKN.out _).mono ?_
    rintro e w1 ⟨rfl,hb1⟩
    have D:=HBX.out.keep hb1 (by simp)
    obtain ⟨b0,b1,b2,b3,b4,b5,b6,b7,b8,b9,b10,b11⟩:=row12 D.at_
    have zs:=D.lt
    have HBL:=qh (HAL.out.trans (hb1.mono (by simp)))
    clear D hb1
    go_wp2_with fail
    go_returns
    exact ⟨rfl,HBL.out⟩
   by_cases h3:ci=n
   .cases h3
    by_cases h4:ck=4
    .cases h4
     obtain rfl:R=0:=by rw [<-HR.out];rw [if_neg (fun h=>h HK.out),if_neg (by omega),if_neg (by omega)]
     go_enter Tryd.func92,Tryd.ntmps92
     go_wp2_with fail
     refine (HKN.out _).mono ?_
     rintro e w1 ⟨rfl,hb1⟩
     have D:=HBX.out.keep hb1 (by simp)
     obtain ⟨b0,b1,b2,b3,b4,b5,b6,b7,b8,b9,b10,b11⟩:=row12 D.at_
     have zs:=D.lt
     have HBL:=qh (HAL.out.trans (hb1.mono (by simp)))
     clear D hb1
     go_wp2_with fail
     go_returns
     exact ⟨rfl,HBL.out⟩
    .have f4:(ck !=4)=true:=by simp [h4]
     obtain rfl:R=32:=by rw [<-HR.out];rw [if_neg (fun h=>h HK.out),if_pos (.inr (.inr ⟨rfl,h4⟩))]
     go_enter Tryd.func92,Tryd.ntmps92
     go_wp2_with fail
     refine (HKN.out _).mono ?_
     rintro e w1 ⟨rfl,hb1⟩
     have D:=HBX.out.keep hb1 (by simp)
     obtain ⟨b0,b1,b2,b3,b4,b5,b6,b7,b8,b9,b10,b11⟩:=row12 D.at_
     have zs:=D.lt
     have HBL:=qh (HAL.out.trans (hb1.mono (by simp)))
     clear D hb1
     go_wp2_with fail
     go_returns
     exact ⟨rfl,HBL.out⟩
   .have f3:(ci==(n:Int))=false:=by simp [h3]
    by_cases h7:ck=7
    .cases h7
     by_cases h8:cj<0
     .obtain rfl:R=32:=by rw [<-HR.out];rw [if_neg (fun h=>h HK.out),if_neg (by omega),if_pos (by omega)]
      go_enter Tryd.func92,Tryd.ntmps92
      go_wp2_with fail
      refine (HKN.out _).mono ?_
      rintro e w1 ⟨rfl,hb1⟩
      have D:=HBX.out.keep hb1 (by simp)
      obtain ⟨b0,b1,b2,b3,b4,b5,b6,b7,b8,b9,b10,b11⟩:=row12 D.at_
      have zs:=D.lt
      have HBL:=qh (HAL.out.trans (hb1.mono (by simp)))
      clear D hb1
      go_wp2_with fail
      go_returns
      exact ⟨rfl,HBL.out⟩
     .by_cases h9:(n:Int)<=cj
      .obtain rfl:R=32:=by rw [<-HR.out];rw [if_neg (fun h=>h HK.out),if_neg (by omega),if_pos (by omega)]
       go_enter Tryd.func92,Tryd.ntmps92
       go_wp2_with fail
       refine (HKN.out _).mono ?_
       rintro e w1 ⟨rfl,hb1⟩
       have D:=HBX.out.keep hb1 (by simp)
       obtain ⟨b0,b1,b2,b3,b4,b5,b6,b7,b8,b9,b10,b11⟩:=row12 D.at_
       have zs:=D.lt
       have HBL:=qh (HAL.out.trans (hb1.mono (by simp)))
       clear D hb1
       go_wp2_with fail
       go_returns
       exact ⟨rfl,HBL.out⟩
      .obtain rfl:R=0:=by rw [<-HR.out];rw [if_neg (fun h=>h HK.out),if_neg (by omega),if_neg (by omega)]
       go_enter Tryd.func92,Tryd.ntmps92
       go_wp2_with fail
       refine (HKN.out _).mono ?_
       rintro e w1 ⟨rfl,hb1⟩
       have D:=HBX.out.keep hb1 (by simp)
       obtain ⟨b0,b1,b2,b3,b4,b5,b6,b7,b8,b9,b10,b11⟩:=row12 D.at_
       have zs:=D.lt
       have HBL:=qh (HAL.out.trans (hb1.mono (by simp)))
       clear D hb1
       go_wp2_with fail
       go_returns
       exact ⟨rfl,HBL.out⟩
    .have f7:(ck==7)=false:=by simp [h7]
     obtain rfl:R=0:=by rw [<-HR.out];rw [if_neg (fun h=>h HK.out),if_neg (by omega),if_neg (by omega)]
     go_enter Tryd.func92,Tryd.ntmps92
     go_wp2_with fail
     refine (HKN.out _).mono ?_
     rintro e w1 ⟨rfl,hb1⟩
     have D:=HBX.out.keep hb1 (by simp)
     obtain ⟨b0,b1,b2,b3,b4,b5,b6,b7,b8,b9,b10,b11⟩:=row12 D.at_
     have zs:=D.lt
     have HBL:=qh (HAL.out.trans (hb1.mono (by simp)))
     clear D hb1
     go_wp2_with fail
     go_returns
     exact ⟨rfl,HBL.out⟩
end Go.Proofs.YtfoahkbnheijcaaDoor
