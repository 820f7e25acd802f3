/-
  Contracts of the functions that the law reaches: conciliatorref04.cuts, Len..
-/
import Derived.Test.YtnjgbiachcfigaaGreatDoorIa11
import Derived.Test.YtnjgbiachcfigaaGreatDoorIa20
import Derived.Laws.RangeString
import Derived.Laws.RangeAny
import Derived.Lib.RuneCount
import Derived.Lib.RuneCountTail
namespace Go.Proofs.YtnjgbiachcfigaaGreatDoor
open Go.RowKit
set_option maxHeartbeats 8000000
theorem zgv:(Tryz.prog.info? 3).map (fun i=>(i.zero,i.size,i.bytes))=some (some (.int .i64 0),1,8):=by kernel_rfl
def ints (l:List Nat):List Value:=l.map fun (n:Nat)=>Value.int .i64 (n:Int)
theorem zcq (a b:List Nat):ints (a++b)=ints a++ints b:=by simp [ints]
def IntsPost (w:World) (l:List Nat) (e:Ending) (w':World):Prop:=
 (∃g c,e= .returned (.slice (some ⟨g,0,none⟩) l.length c)/\l.length<=c/\c<=9223372036854775807/\g<w'.heap.size/\∀i (h:i<l.length),w'.cell? ⟨g,i,none⟩=some (.int .i64 (l[i] :Int)))/\Below w.heap.size w w'
theorem zh8 (s:ByteArray) (i:Nat) (h:i<s.size):(Lib.decodeGo (s.extract i s.size)).2=(Lib.decodeL (s.data.toList.drop i)).2:=by
 have hd:(s.extract i s.size)=⟨(s.data.toList.drop i).toArray⟩:=by
  apply ByteArray.ext
  apply Array.ext'
  rw [ByteArray.data_extract,Array.toList_extract,List.extract_eq_take_drop]
  exact List.take_of_length_le (by rw [List.length_drop,Array.length_toList];exact Nat.le_refl _)
 have hz:(s.extract i s.size).size≠0:=by rw [ByteArray.size_extract];omega
 unfold Lib.decodeGo Lib.decodeL
 rw [if_neg hz,hd]
structure CUH (w wr:World) (s:ByteArray) (i:Nat) (l:List Nat) (u:Value):Prop where
 rest:l++cutsP (s.data.toList.drop i).length i (s.data.toList.drop i)=cutsP s.size 0 s.data.toList
 own:wr.ownsRow w.heap.size 3 1 u l.length (ints l)
 below:Below w.heap.size w wr
set_option maxRecDepth 100000 in
theorem za3 (w:World) (s:ByteArray) (hs:s.size<=1000000000000) (hT:Tabs w):
 uP 86 #[.string s] w (IntsPost w (cuts s)):=by
 delta uP
 obtain ⟨i0,hi0,hz0,hz1,hz2⟩:=info_parts zgv
 have hsz:s.data.toList.length=s.size:=Array.length_toList
 have HS:=qh hsz
 have HTT:=qh hT
 clear hsz hT
 go_enter Tryz.func86,Tryz.ntmps86
 go_wp2_with fail
 go_loopw [3,4,5,6] (fun u i _ _ wr=>∃(j:Nat) (l:List Nat) (a:Option Addr) (m c:Nat),j<=s.size/\l.length<=j/\i= .int .i64 j/\u= .slice a m c/\CUH w wr s j l (.slice a m c)) (fun _ i _ _ _=>s.size - (intOf i).toNat)
 case atStart=>exact ⟨0, [],none,0,0,Nat.zero_le _,Nat.le_refl _,rfl,rfl,⟨by rw [List.drop_zero,HS.out];rfl,⟨rfl, .inl ⟨rfl,rfl⟩⟩,Below.refl _ _⟩⟩
 case round=>
  obtain ⟨j,l,a,m,c,hj,hlj,rfl,rfl,L⟩:=hrel
  have hrlt:∀b,(Value.slice a m c).ownBlock=some b->w.heap.size<=b/\b<wr.heap.size:=L.own.lt
  have hb:=L.below.size
  by_cases hlt:j<s.size
  .have hne:s.data.toList.drop j≠ [] :=fun e=>by
    have:=congrArg List.length e
    rw [List.length_drop,HS.out] at this
    simp at this;omega
   have hw1:=Lib.decodeL_width (s.data.toList.drop j)
   have hw2:=Lib.decodeL_le _ hne
   rw [List.length_drop,HS.out] at hw2
   obtain ⟨k,hk⟩:∃k,(Lib.decodeL (s.data.toList.drop j)).2=k:=⟨_,rfl⟩
   have hd:=zh8 s j hlt
   rw [hk] at hd hw1 hw2
   have hrs:=L.rest
   rw [J3 hne,hk] at hrs
   have HRS:=qh hrs
   obtain ⟨rn,hrn⟩:∃rn,(Lib.decodeGo (s.extract j s.size)).1=rn:=⟨_,rfl⟩
   have HD:Hid (∀W,uB w W->uP 125 #[.string (s.extract j s.size)] W fun e w'=>e= .returned (.tuple #[.int .i32 rn, .int .i64 k])/\uB W w'):=fun W hW=>by
    have:=Tryz.utf8_DecodeRuneInString (s.extract j s.size) W (HTT.out.below hW)
    rw [hrn,hd] at this;exact this
   have LL:=qh L
   have ho:=L.own
   clear hrs hne hk hd hrn L
   go_wp2_with (at_builtin;refine wpList_append_lies _ rfl (.tmp 11) (.tmp 13) 120 (by rfl) w.heap.size 3 i0 _ 1 8 Tryz.underlying120 hi0 hz0 hz1 hz2 rfl (by omega) (.slice a m c) l.length (ints l) (by rfl) (ho.alloc _) ⟨wr.heap.size,0,none⟩ 1 1 [.int .i64 (j:Int)] (by rfl) (by rfl) (World.news_of_block (cs:= #[.int .i64 (j:Int)]) (t:=3) (fr:=(0,0)) (heap_alloc_new wr _)) (by simp [Value.oneCell']) (by omega) (by unfold maxLen;omega) (by omega) (by simp;omega) (wr.heap.size+1) (by simp) ?_;intro g cap w7 hown7 hgrow7 hat7 hlt7)
   have hb7:uB w w7:=(LL.out.below.trans (((Below.refl _ _).alloc (Nat.le_refl _) _).mono hb)).trans (Zi hgrow7 (fun k hk=>(hrlt k hk).1) (by simp;omega))
   refine (HD.out w7 hb7).mono ?_
   rintro e w8 ⟨rfl,hb8⟩
   have hb9:Below w.heap.size w7 w8:=hb8.mono hb7.size
   have hlt9:∀b,(Value.slice (some ⟨g,0,none⟩) (l.length+1) cap).ownBlock=some b->w.heap.size<=b/\b<w7.heap.size:=hown7.lt
   go_wp2_with fail
   go_roundw
   case rel=>
    refine ⟨j+k,l++ [j],some ⟨g,0,none⟩,l.length+1,cap,by omega,by simp;omega,by go_num,rfl,⟨?_, ?_,hb7.trans hb9⟩⟩
    .rw [List.append_assoc,List.singleton_append, <-HRS.out,List.drop_drop]
    .rw [zcq,List.length_append,List.length_singleton]
     exact hown7.kept (row:=none) ⟨hb8.os,hb8.tape,hb8.output,hb8.size,fun q hq _=>hb8.block q hq⟩ (by right;simp [Value.ownBlock])
   case measure=>simp [intOf];omega
  .have hjs:j=s.size:=by omega
   have hrs:=L.rest
   have hdz:s.data.toList.drop j= [] :=by rw [hjs, <-HS.out,List.drop_length]
   rw [hdz] at hrs
   simp only [List.length_nil,cutsP,List.append_nil] at hrs
   have HRS:=qh hrs
   have HJ:=qh hjs
   have LL:=qh L
   have ho:=L.own
   have hll:l.length<=1000000000000:=by omega
   clear hrs hdz L hjs
   go_wp2_with (at_builtin;refine wpList_append_lies _ rfl (.tmp 25) (.tmp 28) 120 (by rfl) w.heap.size 3 i0 _ 1 8 Tryz.underlying120 hi0 hz0 hz1 hz2 rfl (by omega) (.slice a m c) l.length (ints l) (by rfl) (ho.alloc _) ⟨wr.heap.size,0,none⟩ 1 1 [.int .i64 (s.size:Int)] (by rfl) (by rfl) (World.news_of_block (cs:= #[.int .i64 (s.size:Int)]) (t:=3) (fr:=(0,0)) (heap_alloc_new wr _)) (by simp [Value.oneCell']) (by omega) (by unfold maxLen;omega) (by omega) (by simp;omega) (wr.heap.size+1) (by simp) ?_;intro g cap w7 hown7 hgrow7 hat7 hlt7)
   have hb7:uB w w7:=(LL.out.below.trans (((Below.refl _ _).alloc (Nat.le_refl _) _).mono hb)).trans (Zi hgrow7 (fun k hk=>(hrlt k hk).1) (by simp;omega))
   go_returns
   have hcu:cuts s=l++ [s.size] :=by rw [cuts, <-HRS.out]
   rw [hcu]
   have hown8:w7.ownsRow w.heap.size 3 1 (.slice (some ⟨g,0,none⟩) (l.length+1) cap) (l.length+1) (ints (l++ [s.size])):=by rw [zcq];exact hown7
   refine ⟨⟨g,cap,by rw [List.length_append,List.length_singleton];rfl, ?_⟩,hb7⟩
   obtain ⟨_,c',e',ho'⟩:=OwnRow.of (base':=w.heap.size) hown8 (Nat.le_refl _)
   injection e' with e1 e2 e3
   subst e1 e3
   obtain ⟨g',e',_,hbc⟩:=ho'.row (.inl (by omega))
   obtain rfl:g=g':=by injection e' with e';injection e'
   refine ⟨by rw [List.length_append,List.length_singleton];exact ho'.cap,ho'.max,hbc.lt,fun i hi=>hbc.at_ i _ ?_⟩
   unfold ints
   rw [List.getElem?_map,List.getElem?_eq_getElem hi]
   rfl
theorem K5 (w:World) (s:ByteArray) (hs:s.size<=1000000000000) (hT:Tabs w):
 uP 104 #[.string s] w fun e w'=>e= .returned (.int .i64 (textN s:Int))/\uB w w':=by
 delta uB uP
 have hl:=Yh s
 obtain ⟨L,hL⟩:∃L,(cuts s).length=L:=⟨_,rfl⟩
 have HC:=qh (za3 w s hs hT)
 have hn:textN s=L - 1:=by rw [textN,hL]
 rw [hn]
 rw [hL] at hl
 have hw1:IntKind.i64.wrap ((L:Int) - 1)=(L:Int) - 1:=IntWalk.i64_in _ (by omega)
 have hw2:((L - 1:Nat):Int)=(L:Int) - 1:=by omega
 rw [hw2]
 have HL:=qh hL
 clear hL hT hn
 go_enter Tryz.func104,Tryz.ntmps104
 go_wp2_with fail
 refine HC.out.mono ?_
 rintro e w1 ⟨⟨g,c,rfl,_,_,_,_⟩,hb1⟩
 rw [HL.out]
 go_wp2_with fail
 go_returns
 exact ⟨rfl,hb1⟩
def tCheck (s:ByteArray) (k i n:Int):Int:=
 if k≠8/\k≠9 then 31 else if i<0∨(textN s:Int)<i then 32 else if k=9/\(n<1∨(textN s:Int) - i<n) then 32 else 0
set_option maxRecDepth 100000 in
theorem zah (w:World) (s:ByteArray) (c:CC) (hb:c.Bnd) (hs:s.size<=1000000000000) (hT:Tabs w):
 uP 85 #[.string s, .agg #[.int .u8 c.k, .slice c.pa c.pl c.pc, .string c.key, .int .i64 c.i, .int .i64 c.j, .int .i64 c.n, .int .u8 c.v.k, .int .i64 c.v.n, .string c.v.s, .slice c.v.la c.v.ll c.v.lc, .slice c.v.oa c.v.ol c.v.oc, .string c.s]] w fun e w'=>e= .returned (.int .i64 (tCheck s c.k c.i c.n))/\Below w.heap.size w w':=by
 delta uP
 have n0:=hb.n0;have n1:=hb.n1;have i0:=hb.i0;have i1:=hb.i1
 obtain ⟨N,hN⟩:∃N,textN s=N:=⟨_,rfl⟩
 have hNl:N<=1000000000000:=by have:=(Yh s).2;rw [<-hN,textN];omega
 have HN:Hid (∀W,Below w.heap.size w W->uP 104 #[.string s] W fun e w'=>e= .returned (.int .i64 (N:Int))/\Below W.heap.size W w'):=fun W hW=>by rw [<-hN];exact K5 W s hs (hT.below hW)
 have HBX:=qh (BC.start w #[.int .u8 c.k, .slice c.pa c.pl c.pc, .string c.key, .int .i64 c.i, .int .i64 c.j, .int .i64 c.n, .int .u8 c.v.k, .int .i64 c.v.n, .string c.v.s, .slice c.v.la c.v.ll c.v.lc, .slice c.v.oa c.v.ol c.v.oc, .string c.s] 39)
 have HAL:=qh ((Below.refl _ _).alloc (Nat.le_refl _) (.cells #[.int .u8 c.k, .slice c.pa c.pl c.pc, .string c.key, .int .i64 c.i, .int .i64 c.j, .int .i64 c.n, .int .u8 c.v.k, .int .i64 c.v.n, .string c.v.s, .slice c.v.la c.v.ll c.v.lc, .slice c.v.oa c.v.ol c.v.oc, .string c.s] 39):Below w.heap.size w _)
 obtain ⟨R,hR⟩:∃R,tCheck s c.k c.i c.n=R:=⟨_,rfl⟩
 rw [hR]
 rw [tCheck,hN] at hR
 have HR:=qh hR
 obtain ⟨ck,hck⟩:∃ck,c.k=ck:=⟨_,rfl⟩
 obtain ⟨ci,hci⟩:∃ci,c.i=ci:=⟨_,rfl⟩
 obtain ⟨cn,hcn⟩:∃cn,c.n=cn:=⟨_,rfl⟩
 rw [hck,hci,hcn] at HR
 rw [hcn] at n0 n1
 rw [hci] at i0 i1
 rw [hck,hci,hcn] at HBX HAL ⊢
 clear hR hN hT hb hck hci hcn
 by_cases e8:ck=8
 .cases e8
  have f9:((8:Int)==9)=false:=rfl
  by_cases hi0:ci<0
  .obtain rfl:R=32:=by rw [<-HR.out];simp [hi0]
   go_enter Tryz.func85,Tryz.ntmps85
   go_wp2_with fail
   refine (HN.out _ HAL.out).mono ?_
   rintro e w1 ⟨rfl,hb1⟩
   have D:=HBX.out.keep hb1 (by simp)
   obtain ⟨b0,b1,b2,b3,b4,b5,b6,b7,b8,b9,b10,b11⟩:=row12 D.at_
   have zs:=D.lt
   have HBL:=qh (HAL.out.trans (hb1.mono (by simp)))
   clear D hb1
   go_wp2_with fail
   go_returns
   exact ⟨rfl,HBL.out⟩
  .by_cases hi1:(N:Int)<ci
   .obtain rfl:R=32:=by rw [<-HR.out];simp [hi1]
    go_enter Tryz.func85,Tryz.ntmps85
    go_wp2_with fail
    refine (HN.out _ HAL.out).mono ?_
    rintro e w1 ⟨rfl,hb1⟩
    have D:=HBX.out.keep hb1 (by simp)
    obtain ⟨b0,b1,b2,b3,b4,b5,b6,b7,b8,b9,b10,b11⟩:=row12 D.at_
    have zs:=D.lt
    have HBL:=qh (HAL.out.trans (hb1.mono (by simp)))
    clear D hb1
    go_wp2_with fail
    go_returns
    exact ⟨rfl,HBL.out⟩
   .obtain rfl:R=0:=by rw [<-HR.out];simp [hi0,hi1]
    go_enter Tryz.func85,Tryz.ntmps85
    go_wp2_with fail
    refine (HN.out _ HAL.out).mono ?_
    rintro e w1 ⟨rfl,hb1⟩
    have D:=HBX.out.keep hb1 (by simp)
    obtain ⟨b0,b1,b2,b3,b4,b5,b6,b7,b8,b9,b10,b11⟩:=row12 D.at_
    have zs:=D.lt
    have HBL:=qh (HAL.out.trans (hb1.mono (by simp)))
    clear D hb1
    go_wp2_with fail
    go_returns
    exact ⟨rfl,HBL.out⟩
 .have f8 : (ck !=8)=true:=by simp [e8]
  by_cases e9:ck=9
  .cases e9
   by_cases hi0:ci<0
   .obtain rfl:R=32:=by rw [<-HR.out];simp [hi0]
    go_enter Tryz.func85,Tryz.ntmps85
    go_wp2_with fail
    refine (HN.out _ HAL.out).mono ?_
    rintro e w1 ⟨rfl,hb1⟩
    have D:=HBX.out.keep hb1 (by simp)
    obtain ⟨b0,b1,b2,b3,b4,b5,b6,b7,b8,b9,b10,b11⟩:=row12 D.at_
    have zs:=D.lt
    have HBL:=qh (HAL.out.trans (hb1.mono (by simp)))
    clear D hb1
    go_wp2_with fail
    go_returns
    exact ⟨rfl,HBL.out⟩
   .by_cases hi1:(N:Int)<ci
    .obtain rfl:R=32:=by rw [<-HR.out];simp [hi1]
     go_enter Tryz.func85,Tryz.ntmps85
     go_wp2_with fail
     refine (HN.out _ HAL.out).mono ?_
     rintro e w1 ⟨rfl,hb1⟩
     have D:=HBX.out.keep hb1 (by simp)
     obtain ⟨b0,b1,b2,b3,b4,b5,b6,b7,b8,b9,b10,b11⟩:=row12 D.at_
     have zs:=D.lt
     have HBL:=qh (HAL.out.trans (hb1.mono (by simp)))
     clear D hb1
     go_wp2_with fail
     go_returns
     exact ⟨rfl,HBL.out⟩
    .have hw1:IntKind.i64.wrap ((N:Int) - ci)=(N:Int) - ci:=IntWalk.i64_in _ (by omega)
     by_cases hn1:cn<1
     .obtain rfl:R=32:=by rw [<-HR.out];simp [hi0,hi1,hn1]
      go_enter Tryz.func85,Tryz.ntmps85
      go_wp2_with fail
      refine (HN.out _ HAL.out).mono ?_
      rintro e w1 ⟨rfl,hb1⟩
      have D:=HBX.out.keep hb1 (by simp)
      obtain ⟨b0,b1,b2,b3,b4,b5,b6,b7,b8,b9,b10,b11⟩:=row12 D.at_
      have zs:=D.lt
      have HBL:=qh (HAL.out.trans (hb1.mono (by simp)))
      clear D hb1
      go_wp2_with fail
      go_returns
      exact ⟨rfl,HBL.out⟩
     .by_cases hn2:(N:Int) - ci<cn
      .obtain rfl:R=32:=by rw [<-HR.out];simp [hi0,hi1,hn2]
       go_enter Tryz.func85,Tryz.ntmps85
       go_wp2_with fail
       refine (HN.out _ HAL.out).mono ?_
       rintro e w1 ⟨rfl,hb1⟩
       have D:=HBX.out.keep hb1 (by simp)
       obtain ⟨b0,b1,b2,b3,b4,b5,b6,b7,b8,b9,b10,b11⟩:=row12 D.at_
       have zs:=D.lt
       have HBL:=qh (HAL.out.trans (hb1.mono (by simp)))
       clear D hb1
       go_wp2_with fail
       go_returns
       exact ⟨rfl,HBL.out⟩
      .obtain rfl:R=0:=by rw [<-HR.out];simp [hi0,hi1,hn1,hn2]
       go_enter Tryz.func85,Tryz.ntmps85
       go_wp2_with fail
       refine (HN.out _ HAL.out).mono ?_
       rintro e w1 ⟨rfl,hb1⟩
       have D:=HBX.out.keep hb1 (by simp)
       obtain ⟨b0,b1,b2,b3,b4,b5,b6,b7,b8,b9,b10,b11⟩:=row12 D.at_
       have zs:=D.lt
       have HBL:=qh (HAL.out.trans (hb1.mono (by simp)))
       clear D hb1
       go_wp2_with fail
       go_returns
       exact ⟨rfl,HBL.out⟩
  .have f9:(ck !=9)=true:=by simp [e9]
   obtain rfl:R=31:=by rw [<-HR.out];simp [e8,e9]
   go_enter Tryz.func85,Tryz.ntmps85
   go_wp2_with fail
   go_returns
   exact ⟨rfl,HAL.out⟩
def textDo (s:ByteArray) (k i n:Int) (cs:ByteArray):ByteArray:=
 if k=8 then s.extract 0 ((cuts s).getD i.toNat 0)++cs++s.extract ((cuts s).getD i.toNat 0) s.size
 else s.extract 0 ((cuts s).getD i.toNat 0)++s.extract ((cuts s).getD (i+n).toNat 0) s.size
theorem Js {s:ByteArray} {k i n:Int} (h:tCheck s k i n=0):(k=8∨(k=9/\1<=n/\i+n<=textN s))/\0<=i/\i<=textN s:=by
 unfold tCheck at h
 by_cases h1:k≠8/\k≠9
 .rw [if_pos h1] at h;omega
 .rw [if_neg h1] at h
  by_cases h2:i<0∨(textN s:Int)<i
  .rw [if_pos h2] at h;omega
  .rw [if_neg h2] at h
   by_cases h3:k=9/\(n<1∨(textN s:Int) - i<n)
   .rw [if_pos h3] at h;omega
   .omega
set_option maxRecDepth 100000 in
theorem zce (w:World) (s:ByteArray) (c:CC) (hb:c.Bnd) (hs:s.size<=1000000000000) (hT:Tabs w) (hc:tCheck s c.k c.i c.n=0):
 uP 49 #[.string s, .agg #[.int .u8 c.k, .slice c.pa c.pl c.pc, .string c.key, .int .i64 c.i, .int .i64 c.j, .int .i64 c.n, .int .u8 c.v.k, .int .i64 c.v.n, .string c.v.s, .slice c.v.la c.v.ll c.v.lc, .slice c.v.oa c.v.ol c.v.oc, .string c.s]] w fun e w'=>e= .returned (.tuple #[.string (textDo s c.k c.i c.n c.s), .int .i64 0])/\Below w.heap.size w w':=by
 delta uP
 have HCK:Hid (∀W,Below w.heap.size w W->uP 85 #[.string s, .agg #[.int .u8 c.k, .slice c.pa c.pl c.pc, .string c.key, .int .i64 c.i, .int .i64 c.j, .int .i64 c.n, .int .u8 c.v.k, .int .i64 c.v.n, .string c.v.s, .slice c.v.la c.v.ll c.v.lc, .slice c.v.oa c.v.ol c.v.oc, .string c.s]] W fun e w'=>e= .returned (.int .i64 0)/\Below W.heap.size W w'):=fun W hW=>by
  have:=zah W s c hb hs (hT.below hW)
  rw [hc] at this;exact this
 obtain ⟨hk,hi0,hi1⟩:=Js hc
 have hcl:=Yh s
 have hcle:=Ja s
 obtain ⟨C,hC⟩:∃C,cuts s=C:=⟨_,rfl⟩
 have HCU:Hid (∀W,Below w.heap.size w W->uP 86 #[.string s] W (IntsPost W C)):=fun W hW=>by rw [<-hC];exact za3 W s hs (hT.below hW)
 have HBX:=qh (BC.start w #[.int .u8 c.k, .slice c.pa c.pl c.pc, .string c.key, .int .i64 c.i, .int .i64 c.j, .int .i64 c.n, .int .u8 c.v.k, .int .i64 c.v.n, .string c.v.s, .slice c.v.la c.v.ll c.v.lc, .slice c.v.oa c.v.ol c.v.oc, .string c.s] 39)
 have HAL:=qh ((Below.refl _ _).alloc (Nat.le_refl _) (.cells #[.int .u8 c.k, .slice c.pa c.pl c.pc, .string c.key, .int .i64 c.i, .int .i64 c.j, .int .i64 c.n, .int .u8 c.v.k, .int .i64 c.v.n, .string c.v.s, .slice c.v.la c.v.ll c.v.lc, .slice c.v.oa c.v.ol c.v.oc, .string c.s] 39):Below w.heap.size w _)
 obtain ⟨R,hR⟩:∃R,textDo s c.k c.i c.n c.s=R:=⟨_,rfl⟩
 rw [hR]
 rw [textDo,hC] at hR
 rw [hC] at hcl hcle
 rw [textN,hC] at hi1
 obtain ⟨I,hI⟩:∃I:Nat,c.i=I:=⟨c.i.toNat,by omega⟩
 have hIl:I<C.length:=by omega
 rw [hI,Int.toNat_natCast,List.getD_eq_getElem?_getD,List.getElem?_eq_getElem hIl,Option.getD_some] at hR
 have hpl:=hcle I hIl
 obtain ⟨p,hp⟩:∃p,C[I] =p:=⟨_,rfl⟩
 rw [hp] at hR hpl
 have HP:=qh hp
 have hk2:(c.k=8)∨(c.k=9/\∃J:Nat,c.n=J/\I+J<C.length):=by
  rw [textN,hC] at hk
  rcases hk with h|⟨h1,h2,h3⟩
  .exact .inl h
  .exact .inr ⟨h1,c.n.toNat,by omega,by omega⟩
 obtain ⟨ck,hck⟩:∃ck,c.k=ck:=⟨_,rfl⟩
 obtain ⟨cn,hcn⟩:∃cn,c.n=cn:=⟨_,rfl⟩
 rw [hck,hcn] at hR hk2
 rw [hck,hI,hcn] at HCK HBX HAL ⊢
 have HCLE:=qh hcle
 have hsz:s.size<=9223372036854775807:=by omega
 have hs1:=hb.s1
 have hq1:¬(9223372036854775807<p+c.s.size):=by omega
 have hq2:¬(9223372036854775807<p+c.s.size+(s.size - p)):=by omega
 clear hC hT hb hc hk hck hcn hi0 hi1 hcle hI hp
 rcases hk2 with e8|⟨e9,J,hJ,hIJ⟩
 .cases e8
  rw [if_pos rfl] at hR
  have HR:=qh hR
  clear hR
  go_enter Tryz.func49,Tryz.ntmps49
  go_wp2_with fail
  refine (HCK.out _ HAL.out).mono ?_
  rintro e w1 ⟨rfl,hb1⟩
  have D1:=HBX.out.keep hb1 (by simp)
  have hbl1:=HAL.out.trans (hb1.mono (by simp))
  have HD1:=qh D1
  have HBL1:=qh hbl1
  clear D1 hb1 hbl1
  go_wp2_with fail
  refine (HCU.out _ HBL1.out).mono ?_
  rintro e w2 ⟨⟨g,gc,rfl,hc1,hc2,hgl,hcell⟩,hb2⟩
  have D2:=HD1.out.keep hb2 HD1.out.lt
  obtain ⟨b0,b1,b2,b3,b4,b5,b6,b7,b8,b9,b10,b11⟩:=row12 D2.at_
  have zs:=D2.lt
  have hcI:=hcell I hIl
  rw [HP.out] at hcI
  have HBL2:=qh (HBL1.out.trans (hb2.mono HBL1.out.size))
  clear D2 hb2 hcell
  go_wp2_with fail
  go_region
  go_wp2_with fail
  go_returns
  exact ⟨by rw [<-HR.out];rfl,HBL2.out.drew⟩
 .cases e9
  cases hJ
  rw [if_neg (by omega),show ((I:Int)+(J:Int)).toNat=I+J by omega,List.getD_eq_getElem?_getD,List.getElem?_eq_getElem hIJ,Option.getD_some] at hR
  have hql:=HCLE.out (I+J) hIJ
  obtain ⟨q,hq⟩:∃q,C[I+J] =q:=⟨_,rfl⟩
  rw [hq] at hR hql
  have HQ:=qh hq
  have hw:IntKind.i64.wrap ((I:Int)+(J:Int))=((I+J:Nat):Int):=by rw [IntWalk.i64_in _ (by omega)];omega
  have hq1:¬(9223372036854775807<p+(s.size - q)):=by omega
  have HR:=qh hR
  clear hR hq
  go_enter Tryz.func49,Tryz.ntmps49
  go_wp2_with fail
  refine (HCK.out _ HAL.out).mono ?_
  rintro e w1 ⟨rfl,hb1⟩
  have D1:=HBX.out.keep hb1 (by simp)
  have hbl1:=HAL.out.trans (hb1.mono (by simp))
  have HD1:=qh D1
  have HBL1:=qh hbl1
  clear D1 hb1 hbl1
  go_wp2_with fail
  refine (HCU.out _ HBL1.out).mono ?_
  rintro e w2 ⟨⟨g,gc,rfl,hc1,hc2,hgl,hcell⟩,hb2⟩
  have D2:=HD1.out.keep hb2 HD1.out.lt
  obtain ⟨b0,b1,b2,b3,b4,b5,b6,b7,b8,b9,b10,b11⟩:=row12 D2.at_
  have zs:=D2.lt
  have hcI:=hcell I hIl
  rw [HP.out] at hcI
  have hcJ:=hcell (I+J) hIJ
  rw [HQ.out] at hcJ
  have HBL2:=qh (HBL1.out.trans (hb2.mono HBL1.out.size))
  clear D2 hb2 hcell
  go_wp2_with fail
  go_region
  go_wp2_with fail
  go_returns
  exact ⟨by rw [<-HR.out];rfl,HBL2.out.drew⟩
theorem CompAt.c7 {w:World} {b o:Nat} {c:CC} (h:CompAt w b o c):w.cell? ⟨b,o+7,none⟩=some (.int .i64 c.v.n):=h.c6.c1
theorem CompAt.c8 {w:World} {b o:Nat} {c:CC} (h:CompAt w b o c):w.cell? ⟨b,o+8,none⟩=some (.string c.v.s):=h.c6.c2
theorem CompAt.c9 {w:World} {b o:Nat} {c:CC} (h:CompAt w b o c):w.cell? ⟨b,o+9,none⟩=some (.slice c.v.la c.v.ll c.v.lc):=h.c6.c3
theorem CompAt.c10 {w:World} {b o:Nat} {c:CC} (h:CompAt w b o c):w.cell? ⟨b,o+10,none⟩=some (.slice c.v.oa c.v.ol c.v.oc):=h.c6.c4
def lightB (v:V):Bool:=v.sound && decide (v.deep<=16) && decide (v.weight<=20000)
set_option maxRecDepth 100000 in
theorem zau (l l':List Cm) (w:World) (a a':Option Addr) (n m c c':Nat) (h:IsComps w w.heap.size l a n c) (h':IsComps w w.heap.size l' a' m c'):
 uP 33 #[.slice a n c, .slice a' m c'] w fun e w'=>e= .returned (.bool (eqB l l'))/\uB w w':=by
 delta uB uP
 have k1:=h.max;have k2:=h.few;have k3:=h'.max;have k4:=h'.few
 have HLn:=qh h.len;have HLm:=qh h'.len
 by_cases e:n=m
 case neg=>
  go_enter Tryz.func33,Tryz.ntmps33
  have f1:((n:Int) !=(m:Int))=true:=by simp;omega
  go_wp2_with fail
  go_ret
  exact ⟨Zc (Z3 (fun h=>e (by rw [HLn.out,HLm.out,h]))).symm,Below.refl _ _⟩
 subst e
 go_enter Tryz.func33,Tryz.ntmps33
 go_wp2_with fail
 go_loopw [5] (fun i wr=>∃k:Nat,k<=n/\i= .int .i64 k/\Hid (∀j,j<k->l[j]? =l'[j]?)/\uB w wr) (fun i _=>n - (intOf i).toNat)
 case atStart=>exact ⟨0,Nat.zero_le _,rfl,fun j hj=>by omega,Below.refl _ _⟩
 case round=>
  obtain ⟨k,hk,rfl,HJ,hB⟩:=hrel
  by_cases hlt:k<n
  .obtain ⟨b,o,d,kl,rfl,hb,x1,xb⟩:=h.get hlt
   obtain ⟨b',o',d',kl',rfl,hb',x2,xb'⟩:=h'.get hlt
   have x1:=x1.keep hB hb
   have x2:=x2.keep hB hb'
   have r0:=Za x1.c0;have r1:=Za x1.c1;have r2:=Za x1.c2;have r3:=Za x1.c3;have r4:=Za x1.c4;have r5:=Za x1.c5;have r6:=Za x1.c6.c0;have r7:=Za x1.c7;have r8:=Za x1.c8;have r9:=Za x1.c9;have r10:=Za x1.c10;have r11:=Za x1.c11
   have s0:=Za x2.c0;have s1:=Za x2.c1;have s2:=Za x2.c2;have s3:=Za x2.c3;have s4:=Za x2.c4;have s5:=Za x2.c5;have s6:=Za x2.c6.c0;have s7:=Za x2.c7;have s8:=Za x2.c8;have s9:=Za x2.c9;have s10:=Za x2.c10;have s11:=Za x2.c11
   have HC:Hid (∀p:LaterBy,uP 29 #[.agg (uC d), .agg (uC d')] (later wr p) fun e w'=>e= .returned (.bool (eqB l[k] (l'[k]'kl')))/\uB (later wr p) w'):=fun p=>zfb l[k] (l'[k]'kl') (later wr p) d d' ((xb.later_ hB).later_ (Ze _ _)) ((xb'.later_ hB).later_ (Ze _ _))
   clear x1 x2 h h'
   generalize hx:eqB l[k] (l'[k]'kl')=bx at HC
   have HX:=qh hx
   clear hx
   cases bx with
   | false=>
     go_wp2_with fail
     refine Zj (by kernel_rfl) (by kernel_rfl) ?_
     repeat (go_big_quiet_step (((go_at_call 29;exact Zg (HC.out _)))))
     refine wpQuiet_nil ?_
     intro _ hw'
     obtain ⟨pq,hw''⟩:=hw'
     subst hw''
     clear r0 r1 r2 r3 r4 r5 r6 r7 r8 r9 r10 r11 s0 s1 s2 s3 s4 s5 s6 s7 s8 s9 s10 s11
     have hB2:=hB.on (Ze wr pq) hB.size
     go_wp2_with fail
     go_ret
     exact ⟨Zc (Z3 (fun h=>by subst h;exact Xq HX.out rfl)).symm,hB2⟩
   | true=>
     go_wp2_with fail
     refine Zj (by kernel_rfl) (by kernel_rfl) ?_
     repeat (go_big_quiet_step (((go_at_call 29;exact Zg (HC.out _)))))
     refine wpQuiet_nil ?_
     intro _ hw'
     obtain ⟨pq,hw''⟩:=hw'
     subst hw''
     clear r0 r1 r2 r3 r4 r5 r6 r7 r8 r9 r10 r11 s0 s1 s2 s3 s4 s5 s6 s7 s8 s9 s10 s11
     have hB2:=hB.on (Ze wr pq) hB.size
     go_wp2_with fail
     go_roundw
     case rel=>exact ⟨k+1,by omega,by go_num,Q3 HJ kl kl' HX.out,hB2⟩
     case measure=>simp [intOf];omega
  .go_wp2_with fail
   go_ret
   exact ⟨Zc (Yo (Xt HJ.out (by have:=HLn.out;omega) (by have:=HLm.out;omega))).symm,hB⟩
theorem zdy (s:ByteArray) (i:Nat):s.extract i s.size=⟨(s.data.toList.drop i).toArray⟩:=by
 apply ByteArray.ext
 apply Array.ext'
 rw [ByteArray.data_extract,Array.toList_extract,List.extract_eq_take_drop]
 exact List.take_of_length_le (by rw [List.length_drop,Array.length_toList];exact Nat.le_refl _)
theorem Ky (s:ByteArray) (i:Nat):Utf8.decode s i=Lib.decodeL (s.data.toList.drop i):=by
 have h:=Lib.tail_decode s i 0
 rw [Nat.add_zero,zdy] at h
 exact h.symm
theorem znm (s:ByteArray) (f:Nat):∀i,Lib.runeCountFrom s f i=(cutsP f i (s.data.toList.drop i)).length:=by
 induction f with
 |zero=>intro i;rfl
 | succ f ih=>
   intro i
   have hz:s.data.toList.length=s.size:=Array.length_toList
   unfold cutsP Lib.runeCountFrom
   by_cases h:i<s.size
   .rw [if_pos h,if_neg (fun e=>by have:=congrArg List.length e;rw [List.length_drop,hz] at this;simp at this;omega),List.length_cons,ih,Ky,List.drop_drop]
    omega
   .rw [if_neg h,if_pos (List.drop_eq_nil_of_le (by omega))];rfl
theorem zel (s:ByteArray):Lib.runeCount s=textN s:=by
 rw [Lib.runeCount,znm,List.drop_zero,textN,cuts,List.length_append];rfl
theorem zax (w:World) (s:ByteArray) (hs:s.size<=1000000000000):
 uP 101 #[.string s] w fun e w'=>e= .returned (.int .i64 (textN s:Int))/\uB w w':=by
 delta uB uP
 have HC:=qh (Tryz.utf8_RuneCountInString s w (by omega))
 rw [<-zel]
 go_enter Tryz.func101,Tryz.ntmps101
 go_wp2_with fail
 refine HC.out.mono ?_
 rintro e w1 ⟨rfl,pos,rfl⟩
 go_wp2_with fail
 go_returns
 exact ⟨rfl,(Below.refl _ _).alloc (Nat.le_refl _) _⟩
theorem Kg (s:ByteArray) (i:Nat):(cuts s).getD i s.size=(cutsP s.size 0 s.data.toList).getD i s.size:=by
 rw [cuts,List.getD_eq_getElem?_getD,List.getD_eq_getElem?_getD]
 by_cases h:i<(cutsP s.size 0 s.data.toList).length
 .rw [List.getElem?_append_left h]
 .rw [List.getElem?_append_right (by omega),List.getElem?_eq_none (l:=cutsP s.size 0 s.data.toList) (by omega)]
  by_cases e:i - (cutsP s.size 0 s.data.toList).length=0
  .rw [e];rfl
  .rw [List.getElem?_eq_none (by simp;omega)]
set_option maxRecDepth 100000 in
theorem zcg (w:World) (s:ByteArray) (i:Nat) (hi:i<=9223372036854775807):
 uP 124 #[.string s, .int .i64 (i:Int)] w fun e w'=>e= .returned (.int .i64 ((cuts s).getD i s.size:Int))/\uB w w':=by
 delta uB uP
 rw [Kg]
 have hz:s.data.toList.length=s.size:=Array.length_toList
 have HZ:=qh hz
 obtain ⟨R,hR⟩:∃R,(cutsP s.size 0 s.data.toList).getD i s.size=R:=⟨_,rfl⟩
 have HR:=qh hR
 rw [hR]
 clear hR hz
 go_enter Tryz.func124,Tryz.ntmps124
 go_wp2_with fail
 go_loopw [1,5] (fun iv _ wr=>∃(pos m:Nat),wr=w.iter s pos/\m<=i/\iv= .int .i64 (m:Int)/\Hid ((cutsP (s.data.toList.drop pos).length pos (s.data.toList.drop pos)).getD m s.size=R)) (fun _ _ wr=>s.size - wr.iterPos w.heap.size)
 case atStart=>exact ⟨0,i,rfl,Nat.le_refl _,rfl,qh (by rw [List.drop_zero,HZ.out];exact HR.out)⟩
 case round=>
  obtain ⟨pos,m,rfl,hm,rfl,HC⟩:=hrel
  by_cases hp:pos<s.size
  .have hnx:∀ty,(Instr.next (.pointer (some ⟨w.heap.size,0,none⟩)) true ty).run Tryz.prog (w.iter s pos)=_:=fun ty=>run_next_any w s pos ty hp
   have hwd:=Lib.decode_width_pos s pos hp
   have hne:s.data.toList.drop pos≠ [] :=fun e=>by
    have:=congrArg List.length e
    rw [List.length_drop,HZ.out] at this
    simp at this;omega
   have hcs:=HC.out
   rw [J3 hne, <-Ky,List.drop_drop] at hcs
   have HCS:=qh hcs
   have hw1:IntKind.i64.wrap ((m:Int) - 1)=(m:Int) - 1:=IntWalk.i64_in _ (by omega)
   clear hcs hne
   by_cases h0:m=0
   .subst h0
    have hr:pos=R:=by have:=HCS.out;rwa [List.getD_cons_zero] at this
    subst hr
    clear HCS HC
    go_wp2_with fail
    go_returns
    exact ⟨rfl,(Below.refl _ _).alloc (Nat.le_refl _) _⟩
   .have f0:((m:Int)==0)=false:=by simp;omega
    go_wp2_with fail
    go_roundw
    case rel=>
     obtain ⟨m',rfl⟩:∃m',m=m'+1:=⟨m - 1,by omega⟩
     refine ⟨pos+(Utf8.decode s pos).2,m',rfl,by omega,by go_num,qh ?_⟩
     have:=HCS.out
     rwa [List.getD_cons_succ] at this
    case measure=>
     simp
     omega
  .have hnx:∀ty,(Instr.next (.pointer (some ⟨w.heap.size,0,none⟩)) true ty).run Tryz.prog (w.iter s pos)=_:=fun ty=>run_next_end w s pos ty hp
   have hr:s.size=R:=by
    have:=HC.out
    rw [List.drop_eq_nil_of_le (by rw [HZ.out];omega)] at this
    exact this
   subst hr
   clear HC HR
   go_wp2_with fail
   go_returns
   exact ⟨rfl,(Below.refl _ _).alloc (Nat.le_refl _) _⟩
set_option maxRecDepth 100000 in
theorem zaj (w:World) (s:ByteArray) (c:CC) (hb:c.Bnd) (hs:s.size<=1000000000000):
 uP 114 #[.string s, .agg (uC c)] w fun e w'=>e= .returned (.int .u16 (tCheck s c.k c.i c.n))/\uB w w':=by
 delta uC uB uP
 have n0:=hb.n0;have n1:=hb.n1;have i0:=hb.i0;have i1:=hb.i1
 obtain ⟨N,hN⟩:∃N,textN s=N:=⟨_,rfl⟩
 have hNl:N<=1000000000000:=by have:=(Yh s).2;rw [<-hN,textN];omega
 have HN:Hid (∀W,uB w W->uP 101 #[.string s] W fun e w'=>e= .returned (.int .i64 (N:Int))/\uB W w'):=fun W hW=>by rw [<-hN];exact zax W s hs
 have HBX:=qh (BC.start w #[.int .u8 c.k, .slice c.pa c.pl c.pc, .string c.key, .int .i64 c.i, .int .i64 c.j, .int .i64 c.n, .int .u8 c.v.k, .int .i64 c.v.n, .string c.v.s, .slice c.v.la c.v.ll c.v.lc, .slice c.v.oa c.v.ol c.v.oc, .string c.s] 39)
 have HAL:=qh ((Below.refl _ _).alloc (Nat.le_refl _) (.cells #[.int .u8 c.k, .slice c.pa c.pl c.pc, .string c.key, .int .i64 c.i, .int .i64 c.j, .int .i64 c.n, .int .u8 c.v.k, .int .i64 c.v.n, .string c.v.s, .slice c.v.la c.v.ll c.v.lc, .slice c.v.oa c.v.ol c.v.oc, .string c.s] 39):uB w _)
 obtain ⟨R,hR⟩:∃R,tCheck s c.k c.i c.n=R:=⟨_,rfl⟩
 rw [hR]
 rw [tCheck,hN] at hR
 have HR:=qh hR
 obtain ⟨ck,hck⟩:∃ck,c.k=ck:=⟨_,rfl⟩
 obtain ⟨ci,hci⟩:∃ci,c.i=ci:=⟨_,rfl⟩
 obtain ⟨cn,hcn⟩:∃cn,c.n=cn:=⟨_,rfl⟩
 rw [hck,hci,hcn] at HR
 rw [hcn] at n0 n1
 rw [hci] at i0 i1
 rw [hck,hci,hcn] at HBX HAL ⊢
 clear hR hN hb hck hci hcn
 by_cases e8:ck=8
 .cases e8
  have f9:((8:Int)==9)=false:=rfl
  by_cases hi0:ci<0
  .obtain rfl:R=32:=by rw [<-HR.out];simp [hi0]
   go_enter Tryz.func114,Tryz.ntmps114
   go_wp2_with fail
   refine (HN.out _ HAL.out).mono ?_
   rintro e w1 ⟨rfl,hb1⟩
   have D:=HBX.out.keep hb1 (by simp)
   obtain ⟨b0,b1,b2,b3,b4,b5,b6,b7,b8,b9,b10,b11⟩:=row12 D.at_
   have zs:=D.lt
   have HBL:=qh (HAL.out.trans (hb1.mono (by simp)))
   clear D hb1
   go_wp2_with fail
   go_returns
   exact ⟨rfl,HBL.out⟩
  .by_cases hi1:(N:Int)<ci
   .obtain rfl:R=32:=by rw [<-HR.out];simp [hi1]
    go_enter Tryz.func114,Tryz.ntmps114
    go_wp2_with fail
    refine (HN.out _ HAL.out).mono ?_
    rintro e w1 ⟨rfl,hb1⟩
    have D:=HBX.out.keep hb1 (by simp)
    obtain ⟨b0,b1,b2,b3,b4,b5,b6,b7,b8,b9,b10,b11⟩:=row12 D.at_
    have zs:=D.lt
    have HBL:=qh (HAL.out.trans (hb1.mono (by simp)))
    clear D hb1
    go_wp2_with fail
    go_returns
    exact ⟨rfl,HBL.out⟩
   .obtain rfl:R=0:=by rw [<-HR.out];simp [hi0,hi1]
    go_enter Tryz.func114,Tryz.ntmps114
    go_wp2_with fail
    refine (HN.out _ HAL.out).mono ?_
    rintro e w1 ⟨rfl,hb1⟩
    have D:=HBX.out.keep hb1 (by simp)
    obtain ⟨b0,b1,b2,b3,b4,b5,b6,b7,b8,b9,b10,b11⟩:=row12 D.at_
    have zs:=D.lt
    have HBL:=qh (HAL.out.trans (hb1.mono (by simp)))
    clear D hb1
    go_wp2_with fail
    go_returns
    exact ⟨rfl,HBL.out⟩
 .have f8 : (ck !=8)=true:=by simp [e8]
  by_cases e9:ck=9
  .cases e9
   by_cases hi0:ci<0
   .obtain rfl:R=32:=by rw [<-HR.out];simp [hi0]
    go_enter Tryz.func114,Tryz.ntmps114
    go_wp2_with fail
    refine (HN.out _ HAL.out).mono ?_
    rintro e w1 ⟨rfl,hb1⟩
    have D:=HBX.out.keep hb1 (by simp)
    obtain ⟨b0,b1,b2,b3,b4,b5,b6,b7,b8,b9,b10,b11⟩:=row12 D.at_
    have zs:=D.lt
    have HBL:=qh (HAL.out.trans (hb1.mono (by simp)))
    clear D hb1
    go_wp2_with fail
    go_returns
    exact ⟨rfl,HBL.out⟩
   .by_cases hi1:(N:Int)<ci
    .obtain rfl:R=32:=by rw [<-HR.out];simp [hi1]
     go_enter Tryz.func114,Tryz.ntmps114
     go_wp2_with fail
     refine (HN.out _ HAL.out).mono ?_
     rintro e w1 ⟨rfl,hb1⟩
     have D:=HBX.out.keep hb1 (by simp)
     obtain ⟨b0,b1,b2,b3,b4,b5,b6,b7,b8,b9,b10,b11⟩:=row12 D.at_
     have zs:=D.lt
     have HBL:=qh (HAL.out.trans (hb1.mono (by simp)))
     clear D hb1
     go_wp2_with fail
     go_returns
     exact ⟨rfl,HBL.out⟩
    .have hw1:IntKind.i64.wrap ((N:Int) - ci)=(N:Int) - ci:=IntWalk.i64_in _ (by omega)
     by_cases hn1:cn<1
     .obtain rfl:R=32:=by rw [<-HR.out];simp [hi0,hi1,hn1]
      go_enter Tryz.func114,Tryz.ntmps114
      go_wp2_with fail
      refine (HN.out _ HAL.out).mono ?_
      rintro e w1 ⟨rfl,hb1⟩
      have D:=HBX.out.keep hb1 (by simp)
      obtain ⟨b0,b1,b2,b3,b4,b5,b6,b7,b8,b9,b10,b11⟩:=row12 D.at_
      have zs:=D.lt
      have HBL:=qh (HAL.out.trans (hb1.mono (by simp)))
      clear D hb1
      go_wp2_with fail
      go_returns
      exact ⟨rfl,HBL.out⟩
     .by_cases hn2:(N:Int) - ci<cn
      .obtain rfl:R=32:=by rw [<-HR.out];simp [hi0,hi1,hn2]
       go_enter Tryz.func114,Tryz.ntmps114
       go_wp2_with fail
       refine (HN.out _ HAL.out).mono ?_
       rintro e w1 ⟨rfl,hb1⟩
       have D:=HBX.out.keep hb1 (by simp)
       obtain ⟨b0,b1,b2,b3,b4,b5,b6,b7,b8,b9,b10,b11⟩:=row12 D.at_
       have zs:=D.lt
       have HBL:=qh (HAL.out.trans (hb1.mono (by simp)))
       clear D hb1
       go_wp2_with fail
       go_returns
       exact ⟨rfl,HBL.out⟩
      .obtain rfl:R=0:=by rw [<-HR.out];simp [hi0,hi1,hn1,hn2]
       go_enter Tryz.func114,Tryz.ntmps114
       go_wp2_with fail
       refine (HN.out _ HAL.out).mono ?_
       rintro e w1 ⟨rfl,hb1⟩
       have D:=HBX.out.keep hb1 (by simp)
       obtain ⟨b0,b1,b2,b3,b4,b5,b6,b7,b8,b9,b10,b11⟩:=row12 D.at_
       have zs:=D.lt
       have HBL:=qh (HAL.out.trans (hb1.mono (by simp)))
       clear D hb1
       go_wp2_with fail
       go_returns
       exact ⟨rfl,HBL.out⟩
  .have f9:(ck !=9)=true:=by simp [e9]
   obtain rfl:R=31:=by rw [<-HR.out];simp [e8,e9]
   go_enter Tryz.func114,Tryz.ntmps114
   go_wp2_with fail
   refine (HN.out _ HAL.out).mono ?_
   rintro e w1 ⟨rfl,hb1⟩
   have D:=HBX.out.keep hb1 (by simp)
   obtain ⟨b0,b1,b2,b3,b4,b5,b6,b7,b8,b9,b10,b11⟩:=row12 D.at_
   have zs:=D.lt
   have HBL:=qh (HAL.out.trans (hb1.mono (by simp)))
   clear D hb1
   go_wp2_with fail
   go_returns
   exact ⟨rfl,HBL.out⟩
end Go.Proofs.YtnjgbiachcfigaaGreatDoor
