/-
  Contracts of the functions that the law reaches: Raw. plain: a text of 40 bytes at most.
-/
import Derived.Test.YtfoahkbnheijcaaDoorCq5
import Derived.Laws.AppendOwn
namespace Go.Proofs.YtfoahkbnheijcaaDoor
open Go.RowKit
set_option maxHeartbeats 4000000
theorem zld {tmps:Array Value} {W:World} {b:Nat} {c:VC} (ht:tmps[2]? =some (.pointer (some ⟨b,0,none⟩))) (h:BC W b (vcells c)):
 (results Tryd.f30 tmps).run Tryd.prog W= .ok (.agg #[.int .u8 c.k, .int .i64 c.n, .string c.s, .slice c.la c.ll c.lc, .slice c.oa c.ol c.oc]) W:=by
 obtain ⟨r0,r1,r2,r3,r4⟩:=(⟨h.at_ 0 _ rfl,h.at_ 1 _ rfl,h.at_ 2 _ rfl,h.at_ 3 _ rfl,h.at_ 4 _ rfl⟩:W.cell? ⟨b,0,none⟩=some (.int .u8 c.k)/\W.cell? ⟨b,1,none⟩=some (.int .i64 c.n)/\W.cell? ⟨b,2,none⟩=some (.string c.s)/\W.cell? ⟨b,3,none⟩=some (.slice c.la c.ll c.lc)/\W.cell? ⟨b,4,none⟩=some (.slice c.oa c.ol c.oc))
 simp [results,Tryd.results30,go_sem,ht,r0,r1,r2,r3,r4]
set_option maxRecDepth 100000 in
theorem zg3 (w:World) (l:List Tk) (a:Option Addr) (n c:Nat) (h:IsToks w w.heap.size l a n c):
 Calls Tryd.prog 30 #[.slice a n c] w fun e w'=>(∃cv:VC,e= .returned (.agg #[.int .u8 cv.k, .int .i64 cv.n, .string cv.s, .slice cv.la cv.ll cv.lc, .slice cv.oa cv.ol cv.oc])/\IsVal (only (fun b=>w.heap.size<=b) w') w'.heap.size (rawP 20 (l.take 60)).1 cv)/\Below w.heap.size w w':=by
 have hlen:=h.len
 have hcap:=h.cap
 have hmax:=h.max
 have HD:=qh (BC.start w #[.int .u8 0, .int .i64 0, .string { data:= #[] }, .slice none 0 0, .slice none 0 0] 31)
 have hal:Below w.heap.size w (w.alloc (.cells #[.int .u8 0, .int .i64 0, .string { data:= #[] }, .slice none 0 0, .slice none 0 0] 31)):=(Below.refl _ _).alloc (Nat.le_refl _) _
 have HAL:=qh hal
 obtain ⟨N,hN⟩:∃N,min n 60=N:=⟨_,rfl⟩
 have hN2:N<=n:=by omega
 have htk:l.take N=l.take 60:=by
  by_cases hq:n<=60
  .rw [List.take_of_length_le (by omega),List.take_of_length_le (by omega)]
  .rw [show N=60 by omega]
 have HI:=qh ((h.later_ hal).take N hN2)
 rw [htk] at HI
 obtain ⟨p,hp⟩:∃p,rawP 20 (l.take 60)=p:=⟨_,rfl⟩
 have HP:=qh hp
 rw [hp]
 have hcs:(n<=60/\N=n)∨(60<n/\N=60):=by omega
 clear hN hN2
 rcases hcs with ⟨hq,rfl⟩|⟨hq,rfl⟩
 all_goals
  clear h hlen hal htk hp
  go_enter Tryd.func30,Tryd.ntmps30
  generalize hQ0:bodyPost _ _ _=Q0
  have HQ:=qh hQ0
  clear hQ0
  go_wp2_with fail
  refine (zlr 20 0 (by omega) (by omega) _ _ _ _ _ HI.out).mono ?_
  rw [HP.out]
  rintro e w3 ⟨⟨cv,rfl,hI3⟩,hb3⟩
  have D:=HD.out.keep hb3 (by simp)
  obtain ⟨r0,r1,r2,r3,r4⟩:=row5 D.at_
  have g0:=D.fr 0;have g1:=D.fr 1;have g2:=D.fr 2;have g3:=D.fr 3;have g4:=D.fr 4
  have zs3:w.heap.size<w3.heap.size:=D.lt
  have HD3:=qh D
  have HI3:=qh hI3
  have HB3:=qh (HAL.out.trans (hb3.mono (by simp)))
  clear D hI3 hb3
  go_wp2_with fail
  rw [<-HQ.out]
  have s1:RStep w3 (((((w3.setCell ⟨w.heap.size,0,none⟩ (.int .u8 cv.k)).setCell ⟨w.heap.size,1,none⟩ (.int .i64 cv.n)).setCell ⟨w.heap.size,2,none⟩ (.string cv.s)).setCell ⟨w.heap.size,3,none⟩ (.slice cv.la cv.ll cv.lc)).setCell ⟨w.heap.size,4,none⟩ (.slice cv.oa cv.ol cv.oc)) w.heap.size:=(((RStep.self.trans RStep.self).trans RStep.self).trans RStep.self).trans RStep.self
  have hbc:BC (((((w3.setCell ⟨w.heap.size,0,none⟩ (.int .u8 cv.k)).setCell ⟨w.heap.size,1,none⟩ (.int .i64 cv.n)).setCell ⟨w.heap.size,2,none⟩ (.string cv.s)).setCell ⟨w.heap.size,3,none⟩ (.slice cv.la cv.ll cv.lc)).setCell ⟨w.heap.size,4,none⟩ (.slice cv.oa cv.ol cv.oc)) w.heap.size (vcells cv):=((((HD3.out.set (i:=0) (x:= .int .u8 cv.k) (by simp)).set (i:=1) (x:= .int .i64 cv.n) (by simp)).set (i:=2) (x:= .string cv.s) (by simp)).set (i:=3) (x:= .slice cv.la cv.ll cv.lc) (by simp)).set (i:=4) (x:= .slice cv.oa cv.ol cv.oc) (by simp)
  have hv:=fun ob=>(Zl (Zl HI3.out s1 (by simp)) (RStep.of_below w.heap.size ((Below.refl _ _).alloc (Nat.le_refl _) ob)) (by simp)).sub (Zd (S':=fun b=>w.heap.size<=b) fun k hk _=>⟨by simp at hk;omega,rfl⟩)
  have hB:=HB3.out.trans (s1.below (by omega))
  exact ⟨rfl,_,zld rfl (hbc.keep ((Below.refl _ _).alloc (Nat.le_refl _) _) hbc.lt),⟨cv,rfl,hv _⟩,hB.alloc hB.size _⟩
def low (b:UInt8):UInt8:=UInt8.ofNat (b.toNat % 128)
def plainL (l:List UInt8):List UInt8:=(l.take 40).map low
def plainS (s:ByteArray):ByteArray:=⟨(plainL s.data.toList).toArray⟩
set_option maxRecDepth 100000 in
theorem Jj {w:World} {B:Nat} {v:Value} {bs:List UInt8} (ho:w.ownsRow B 5 1 v bs.length (outs bs)):∃a n c,v= .slice a n c/\IsB w w.heap.size a n c bs:=by
 have hc:=fun g hg=>ho.cells (g:=g) hg
 have hlt:=ho.lt
 rcases ho.2 with ⟨rfl,hn⟩|⟨g,cap,cur,rfl,_,hg,hnc,hcm,_,_⟩
 .have:bs= [] :=List.length_eq_zero_iff.1 hn
  subst this
  exact ⟨none,0,0,rfl, .nil _ _⟩
 .refine ⟨_,_,_,rfl,rfl,hnc,by simpa [maxLen] using hcm,g,0,fun _=>⟨rfl,(hlt g rfl).2⟩,fun i hi=> ?_⟩
  have:=hc g rfl i (.int .u8 (bs[i].toNat:Int)) (by simp [outs,hi])
  rw [Zq] at this;exact this
theorem zcx (l:List UInt8) (j:Nat) (h:j<l.length):(l.take (j+1)).map low=(l.take j).map low++ [low l[j]] :=by
 rw [Z2 l j h,List.map_append];rfl
theorem zbm (b:UInt8):(((low b).toNat:Nat):Int)=(b.toNat:Int) % 128:=by
 have h:(low b).toNat=b.toNat % 128:=by
  unfold low
  rw [UInt8.toNat_ofNat']
  omega
 rw [h];omega
structure PH (w wr:World) (s:ByteArray) (j:Nat) (u:Value):Prop where
 own:wr.ownsRow w.heap.size 5 1 u j (outs ((s.data.toList.take j).map low))
 below:Below w.heap.size w wr
set_option maxRecDepth 100000 in
theorem zc6 (w:World) (s:ByteArray) (hs:s.size<=140737488355328):
 Calls Tryd.prog 63 #[.string s] w fun e w'=>e= .returned (.string (plainS s))/\Below w.heap.size w w':=by
 obtain ⟨i0,hi0,hz0,hz1,hz2⟩:=info_parts zbe
 have hsz:s.data.toList.length=s.size:=Array.length_toList
 have HS:=qh hsz
 clear hsz
 go_enter Tryd.func63,Tryd.ntmps63
 go_wp2_with fail
 go_loopw [3,4] (fun u i wr=>∃(j:Nat) (a:Option Addr) (m c:Nat),j<=40/\j<=s.size/\i= .int .i64 j/\u= .slice a m c/\PH w wr s j (.slice a m c)) (fun _ i _=>40 - (intOf i).toNat)
 case atStart=>exact ⟨0,none,0,0,by omega,Nat.zero_le _,rfl,rfl,⟨⟨by simp [outs], .inl ⟨rfl,rfl⟩⟩,Below.refl _ _⟩⟩
 case round=>
  obtain ⟨j,a,m,c,hj,hj2,rfl,rfl,L⟩:=hrel
  have hlen:=HS.out
  by_cases h1:j<s.size
  .by_cases h2:j<40
   .have hgb:s.data.toList[j]'(by omega)=s[j]'h1:=by simp [ByteArray.getElem_eq_getElem_data]
    have hsn:=zcx s.data.toList j (by omega)
    rw [hgb] at hsn
    have HSN:=qh hsn
    have hrlt:∀b,(Value.slice a m c).ownBlock=some b->w.heap.size<=b/\b<wr.heap.size:=L.own.lt
    have hb:=L.below.size
    have LL:=qh L
    have ho:=L.own
    clear hsn hgb L
    go_wp2_with (at_builtin;refine wpList_append_lies _ rfl (.tmp 15) (.tmp 20) 44 (by rfl) w.heap.size 5 i0 _ 1 1 Tryd.underlying44 hi0 hz0 hz1 hz2 rfl (by omega) (.slice a m c) j (outs ((s.data.toList.take j).map low)) (by rfl) (ho.alloc _) ⟨wr.heap.size,0,none⟩ 1 1 [.int .u8 ((s[j]'h1).toNat % 128:Int)] (by rfl) (by rfl) (World.news_of_block (cs:= #[.int .u8 ((s[j]'h1).toNat % 128:Int)]) (t:=5) (fr:=(0,0)) (heap_alloc_new wr _)) (by simp [Value.oneCell']) (by omega) (by unfold maxLen;omega) (by omega) (by simp;omega) (wr.heap.size+1) (by simp) ?_;intro g cap w7 hown7 hgrow7 hat7 hlt7)
    go_roundw
    case rel=>
     refine ⟨j+1,some ⟨g,0,none⟩,j+1,cap,by omega,by omega,by go_num,rfl,⟨?_, ?_⟩⟩
     .rw [HSN.out,zay]
      have e:outs [low (s[j]'h1)] = [.int .u8 ((s[j]'h1).toNat % 128:Int)] :=by simp [outs,zbm]
      rw [e];exact hown7
     .exact (LL.out.below.trans (((Below.refl _ _).alloc (Nat.le_refl _) _).mono hb)).trans (Zj hgrow7 (fun k hk=>(hrlt k hk).1) (by simp;omega))
    case measure=>simp [intOf];omega
   .obtain ⟨a2,n2,c2,hv2,hI⟩:=Jj (bs:=(s.data.toList.take j).map low) (by rw [List.length_map,List.length_take,Nat.min_eq_left (by omega)];exact L.own)
    injection hv2 with h3 h4 h5;subst h3 h4 h5
    have hcv:=Jd hI
    have LL:=qh L
    have hp:((s.data.toList.take j).map low)=plainL s.data.toList:=by rw [plainL,show j=40 by omega]
    rw [hp] at hcv
    clear hI L hp
    go_wp2_with fail
    go_returns
    exact ⟨rfl,LL.out.below⟩
  .obtain ⟨a2,n2,c2,hv2,hI⟩:=Jj (bs:=(s.data.toList.take j).map low) (by rw [List.length_map,List.length_take,Nat.min_eq_left (by omega)];exact L.own)
   injection hv2 with h3 h4 h5;subst h3 h4 h5
   have hcv:=Jd hI
   have LL:=qh L
   have hp:((s.data.toList.take j).map low)=plainL s.data.toList:=by rw [plainL,List.take_of_length_le (by omega),List.take_of_length_le (by omega)]
   rw [hp] at hcv
   clear hI L hp
   go_wp2_with fail
   go_returns
   exact ⟨rfl,LL.out.below⟩
def fieldK (o:List (ByteArray×V)) (key:ByteArray):Nat:=(o.takeWhile fun f=>Op.bytesLess f.1.toList key.toList).length
def fieldIs (o:List (ByteArray×V)) (key:ByteArray):Bool:=match o[fieldK o key]? with
 |some f=>f.1.toList==key.toList
 |none=>false
theorem Qw (o:List (ByteArray×V)) (key:ByteArray) (j:Nat) (h:∀i (hi:i<o.length),i<j->Op.bytesLess (o[i]'hi).1.toList key.toList=true) (hj:j<=o.length) (he:j=o.length∨∃hi:j<o.length,Op.bytesLess (o[j]'hi).1.toList key.toList=false):fieldK o key=j:=by
 unfold fieldK
 induction o generalizing j with
 |nil=>simp at hj;subst hj;rfl
 | cons f o ih=>
   cases j with
   | zero=>
     rcases he with he|⟨hi,he⟩
     .simp at he
     .simp only [List.getElem_cons_zero] at he
      simp [he]
   | succ j=>
     have h0:=h 0 (by simp) (by omega)
     simp only [List.getElem_cons_zero] at h0
     have:=ih j (fun i hi hij=>by have:=h (i+1) (by simpa using hi) (by omega);simpa using this) (by simpa using hj) (by
      rcases he with he|⟨hi,he⟩
      .left;simpa using he
      .right;exact ⟨by simpa using hi,by simpa using he⟩)
     simp [h0,this]
theorem Z9 {B:Nat} {a w:World} (h:Below B a w) (n:Nat):Below B a (w.drewN n):=h.trans ⟨rfl,rfl,rfl,Nat.le_refl _,fun _ _=>rfl⟩
set_option maxRecDepth 100000 in
theorem Yl (w:World) (o:List (ByteArray×V)) (key:ByteArray) (k n:Int) (s:ByteArray) (la:Option Addr) (ll lc:Nat) (oa:Option Addr) (ol oc:Nat) (h:IsFields w w.heap.size o oa ol oc):
 Calls Tryd.prog 84 #[.agg #[.int .u8 k, .int .i64 n, .string s, .slice la ll lc, .slice oa ol oc], .string key] w fun e w'=>e= .returned (.tuple #[.int .i64 (fieldK o key:Int), .bool (fieldIs o key)])/\Below w.heap.size w w':=by
 have hlen:=h.len
 have HI:=qh h
 have HL:=qh hlen
 have k1:=h.max;have k2:=h.few
 have HB0:=qh (BC.start w #[.int .u8 k, .int .i64 n, .string s, .slice la ll lc, .slice oa ol oc] 31)
 clear h hlen
 go_enter Tryd.func84,Tryd.ntmps84
 go_wp2_with fail
 go_loopw [6] (fun i wr=>BC wr w.heap.size [.int .u8 k, .int .i64 n, .string s, .slice la ll lc, .slice oa ol oc] /\Below w.heap.size w wr/\∃j:Nat,j<=ol/\i= .int .i64 j/\Hid (∀i (hi:i<o.length),i<j->Op.bytesLess (o[i]'hi).1.toList key.toList=true)) (fun i _=>ol - (intOf i).toNat)
 case atStart=>exact ⟨HB0.out,(Below.refl _ _).alloc (Nat.le_refl _) _,0,Nat.zero_le _,rfl,qh (fun i hi hj=>by omega)⟩
 case round=>
  obtain ⟨hbc,hbl,j,hj,rfl,hall⟩:=hrel
  have c4:=hbc.at_ 4 _ rfl
  have zs:=hbc.lt
  have HBC:=qh hbc
  have HBL:=qh hbl
  by_cases hlt:j<ol
  .obtain ⟨b,o',f,hp,rfl,hbB,hkey,hks,_⟩:=(HI.out.keep hbl).get hlt
   have hbw:b<wr.heap.size:=World.block_lt_of_cell? wr _ hkey
   obtain ⟨lb,hlb⟩:∃lb,Op.bytesLess (o[j]'hp).1.toList key.toList=lb:=⟨_,rfl⟩
   cases lb with
   | true=>
     have HLB:=qh hlb
     clear hbc hbl
     go_wp2_with fail
     go_roundw
     case rel=>exact ⟨HBC.out,HBL.out,j+1,by omega,by go_num,qh (fun i hi hij=>by
      by_cases e:i=j
      .subst e;exact HLB.out
      .exact hall.out i hi (by omega))⟩
     case measure=>simp [intOf];omega
   | false=>
     obtain ⟨eb,heb⟩:∃eb,((o[j]'hp).1.toList==key.toList)=eb:=⟨_,rfl⟩
     have hk:fieldK o key=j:=Qw o key j hall.out (by omega) (.inr ⟨hp,hlb⟩)
     have hi:fieldIs o key=eb:=by
      rw [fieldIs,hk,List.getElem?_eq_getElem hp];exact heb
     have HK:=qh hk
     have HII:=qh hi
     clear hbc hbl hk hi
     go_wp2_with fail
     go_quiet (fail)
     go_wp2_with fail
     go_returns
     exact ⟨by rw [HK.out,HII.out];rfl,Z9 HBL.out _⟩
  .have hj2:j=ol:=by omega
   subst hj2
   have hk:fieldK o key=j:=Qw o key j hall.out (by rw [HL.out];exact Nat.le_refl _) (.inl HL.out)
   have hi:fieldIs o key=false:=by
    rw [fieldIs,hk,List.getElem?_eq_none (by rw [HL.out];exact Nat.le_refl _)]
   have HK:=qh hk
   have HII:=qh hi
   clear hbc hbl hk hi
   go_wp2_with fail
   go_quiet (fail)
   go_wp2_with fail
   go_returns
   exact ⟨by rw [HK.out,HII.out];rfl,Z9 HBL.out _⟩
def withF (o:List (ByteArray×V)) (key:ByteArray) (x:V):List (ByteArray×V):=o.take (fieldK o key)++(key,x)::o.drop (if fieldIs o key=true then fieldK o key+1 else fieldK o key)
theorem Ym (o:List (ByteArray×V)) (key:ByteArray):fieldK o key<=o.length:=(List.takeWhile_sublist _).length_le
theorem Yk {o:List (ByteArray×V)} {key:ByteArray} (h:fieldIs o key=true):fieldK o key<o.length:=by
 unfold fieldIs at h
 by_cases hq:fieldK o key<o.length
 .exact hq
 .rw [List.getElem?_eq_none (by omega)] at h;cases h
theorem IsFields.cells {w:World} {B:Nat} {o:List (ByteArray×V)} {a:Option Addr} {n c:Nat} (h:IsFields w B o a n c):
 ∃(cs:List (ByteArray×VC)) (b off:Nat),cs.length=o.length/\(0<n->a=some ⟨b,off,none⟩/\b<B)/\(∀j u,(cs.flatMap fcells)[j]? =some u->w.cell? ⟨b,off+j,none⟩=some u)/\∀i,i<o.length->PF o cs w B i:=by
 obtain ⟨h1,h2,h3,h4,b,off,f,h5,h6⟩:=h
 have hlen:((List.range o.length).map fun i=>((o.getD i (.empty,V.none)).1,f i)).length=o.length:=by simp
 have hget:∀i (hi:i<o.length),((List.range o.length).map fun i=>((o.getD i (.empty,V.none)).1,f i))[i]? =some (o[i].1,f i):=by
  intro i hi
  simp [hi,List.getD_eq_getElem?_getD]
 refine ⟨(List.range o.length).map fun i=>((o.getD i (.empty,V.none)).1,f i),b,off,hlen,h5,fun j u hj=> ?_,fun i hi h=> ?_⟩
 .have hjl:j<o.length*6:=by
   have:=(List.getElem?_eq_some_iff.1 hj).1
   rw [Zo fcells 6 (fun _=>rfl),hlen] at this
   exact this
  have hi:j / 6<o.length:=by omega
  have hd:j=j / 6*6+j % 6:=by omega
  rw [hd,Xm fcells 6 (fun _=>rfl) _ (j / 6) (j % 6) (by rw [hlen];exact hi) (by omega)] at hj
  have he:((List.range o.length).map fun i=>((o.getD i (.empty,V.none)).1,f i))[j / 6]'(by rw [hlen];exact hi)=(o[j / 6].1,f (j / 6)):=by
   have:=hget (j / 6) hi
   rw [List.getElem?_eq_getElem (by rw [hlen];exact hi)] at this
   exact Option.some.inj this
  rw [he] at hj
  obtain ⟨g1,g2,g3,g4⟩:=h6 (j / 6) hi
  have hm:j % 6<6:=by omega
  rw [hd, <-Nat.add_assoc]
  obtain ⟨m,hmm⟩:∃m,j % 6=m:=⟨_,rfl⟩
  rw [hmm] at hj hm ⊢
  match m,hm with
  |0,_=>rw [<-hj];exact g1
  |1,_=>rw [<-hj];exact g3.c0
  |2,_=>rw [<-hj];exact g3.c1
  |3,_=>rw [<-hj];exact g3.c2
  |4,_=>rw [<-hj];exact g3.c3
  |5,_=>rw [<-hj];exact g3.c4
 .obtain ⟨g1,g2,g3,g4⟩:=h6 i hi
  have he:((List.range o.length).map fun i=>((o.getD i (.empty,V.none)).1,f i)).getD i fzero=(o[i].1,f i):=by
   rw [List.getD_eq_getElem?_getD,hget i hi];rfl
  rw [he]
  exact ⟨rfl,g2,g4⟩
theorem Qv {w:World} {B0 B1:Nat} {v:Value} {l:List (ByteArray×V)} {cs:List (ByteArray×VC)} (hown:w.ownsRow B1 68 6 v l.length (cs.flatMap fcells)) (hB:B0<=B1) (hl:cs.length=l.length) (hels:∀i,i<l.length->PF l cs (only (Free B0 v) w) w.heap.size i) (hfew:l.length<=1466015503701):
 ∃a n c,v= .slice a n c/\IsFields (only (fun b=>B0<=b) w) w.heap.size l a n c/\(a=none->c=0):=by
 have hown2:w.ownsRow B0 68 6 v l.length (cs.flatMap fcells):=by
  refine ⟨hown.1, ?_⟩
  rcases hown.2 with h|⟨g,cap,cur,h1,h2,h3⟩
  .exact .inl h
  .exact .inr ⟨g,cap,cur,h1,Nat.le_trans hB h2,h3⟩
 have hv:∃a n c,v= .slice a n c/\(a=none->c=0):=by
  rcases hown.2 with ⟨h,_⟩|⟨g,cap,cur,h1,_⟩
  .exact ⟨_,_,_,h,fun _=>rfl⟩
  .exact ⟨_,_,_,h1,fun h=>by cases h⟩
 obtain ⟨a,n,c,rfl,hz⟩:=hv
 have hrow:RowF w B0 (.slice a n c) l cs:=⟨hown2,hels⟩
 have:=(RowF.val hrow (lo:=B0) hl (Nat.le_refl _) 5 (by omega) (by omega) hfew).lists
 exact ⟨a,n,c,rfl,this.2.2.2.2.2,hz⟩
def WithPost (w:World) (B0:Nat) (l:List (ByteArray×V)) (e:Ending) (w':World):Prop:=
 (∃a n c,e= .returned (.slice a n c)/\IsFields (only (fun b=>B0<=b) w') w'.heap.size l a n c/\(a=none->c=0))/\Below w.heap.size w w'
def stepP (v:V) (s:St):Option (V×Nat):=
 if s.list=true then (if v.kd=4/\0<=s.i/\s.i<v.ls.length then some (v.ls.getD s.i.toNat V.none,s.i.toNat) else none)
 else if v.kd=5/\fieldIs v.os s.key=true then some ((v.os.getD (fieldK v.os s.key) (.empty,V.none)).2,fieldK v.os s.key) else none
def getP:V->List St->Option V
 |v, [] =>some v
 | v,s::r=>match stepP v s with
   |none=>none
   |some q=>getP q.1 r
def putP:V->List St->V->Option V
 |_, [],x=>some x
 | v,s::r,x=>match stepP v s with
   |none=>none
   | some q=>match putP q.1 r x with
     |none=>none
     |some z=>some (if s.list=true then v.setL q.2 z else v.setO q.2 z)
theorem Xj {v:V} {s:St} {x:V} {k:Nat} (h:stepP v s=some (x,k)):
 (s.list=true/\v.kd=4/\(k:Int)=s.i/\∃hk:k<v.ls.length,v.ls[k] =x)∨(s.list=false/\v.kd=5/\k=fieldK v.os s.key/\∃hk:k<v.os.length,v.os[k].2=x):=by
 unfold stepP at h
 by_cases hl:s.list=true
 .rw [if_pos hl] at h
  split at h
  .rename_i hc
   injection h with h;injection h with h1 h2
   have hk:k<v.ls.length:=by omega
   refine .inl ⟨hl,hc.1,by omega,hk, ?_⟩
   subst h2
   rw [<-h1]
   simp [List.getD_eq_getElem?_getD,hk]
  .cases h
 .rw [if_neg hl] at h
  split at h
  .rename_i hc
   injection h with h;injection h with h1 h2
   have hk:k<v.os.length:=by rw [<-h2];exact Yk hc.2
   refine .inr ⟨by simpa using hl,hc.1,h2.symm,hk, ?_⟩
   subst h2
   rw [<-h1]
   simp [List.getD_eq_getElem?_getD,hk]
  .cases h
inductive Sep (w:World):(Nat->Prop)->V->VC->Prop
 |mk (S:Nat->Prop) (c:VC) (l:List V) (o:List (ByteArray×V)) (cl co:Nat->VC) (gl go:Nat) (TL TO:Nat->Nat->Prop) (hb:c.Bnd) (hl:c.ll=l.length) (ho:c.ol=o.length)
     (hS:∀k,S k->k<w.heap.size)
     (hla:0<c.ll->c.la=some ⟨gl,0,none⟩/\S gl) (hoa:0<c.ol->c.oa=some ⟨go,0,none⟩/\S go) (hne:0<c.ll->0<c.ol->gl≠go)
     (hlc:∀i,i<l.length->ValAt w gl (i*5) (cl i))
     (hoc:∀i (h:i<o.length),w.cell? ⟨go,i*6,none⟩=some (.string o[i].1)/\o[i].1.size<=140737488355328/\ValAt w go (i*6+1) (co i))
     (hlv:∀i (h:i<l.length),Sep w (TL i) l[i] (cl i)) (hov:∀i (h:i<o.length),Sep w (TO i) o[i].2 (co i))
     (hTL:∀i,i<l.length->∀k,TL i k->S k/\k≠gl/\(0<c.ol->k≠go)) (hTO:∀i,i<o.length->∀k,TO i k->S k/\k≠go/\(0<c.ll->k≠gl))
     (dL:∀i j,i<l.length->j<l.length->i≠j->∀k,TL i k->¬TL j k) (dO:∀i j,i<o.length->j<o.length->i≠j->∀k,TO i k->¬TO j k)
     (dLO:∀i j,i<l.length->j<o.length->∀k,TL i k->¬TO j k):Sep w S (.mk c.k c.n c.s l o) c
def Agree (S:Nat->Prop) (w w':World):Prop:=∀k q,S k->w'.cell? ⟨k,q,none⟩=w.cell? ⟨k,q,none⟩
theorem Agree.val {S:Nat->Prop} {w w':World} (h:Agree S w w') {b o:Nat} {c:VC} (hb:S b) (hv:ValAt w b o c):ValAt w' b o c:=
 ⟨(h _ _ hb).trans hv.c0,(h _ _ hb).trans hv.c1,(h _ _ hb).trans hv.c2,(h _ _ hb).trans hv.c3,(h _ _ hb).trans hv.c4⟩
theorem Sep.isVal {w:World} {S:Nat->Prop} {v:V} {c:VC} (h:Sep w S v c):∀ {P:Nat->Prop},(∀k,S k->P k)->IsVal (only P w) w.heap.size v c:=by
 induction h with
 | mk S c l o cl co gl go TL TO hb hl ho hS hla hoa hne hlc hoc hlv hov hTL hTO dL dO dLO ihl iho=>
   intro P hP
   refine .mk c l o cl co gl 0 go 0 hb hl ho (fun h=>⟨(hla h).1,hS _ (hla h).2⟩) (fun h=>⟨(hoa h).1,hS _ (hoa h).2⟩) (fun i hi=> ?_) (fun i hi=>ihl i hi fun k hk=>hP _ (hTL i hi k hk).1) (fun i hi=> ?_) (fun i hi=>iho i hi fun k hk=>hP _ (hTO i hi k hk).1)
   .rw [Nat.zero_add];exact Yh (hP _ (hla (by omega)).2) (hlc i hi)
   .rw [Nat.zero_add]
    have hg:=hP _ (hoa (by omega)).2
    exact ⟨Z1 hg (hoc i hi).1,(hoc i hi).2.1,Yh hg (hoc i hi).2.2⟩
theorem Sep.bnd {w:World} {S:Nat->Prop} {v:V} {c:VC} (h:Sep w S v c):∀k,S k->k<w.heap.size:=by
 cases h with
 |mk S c l o cl co gl go TL TO hb hl ho hS hla hoa hne hlc hoc hlv hov hTL hTO dL dO dLO=>exact hS
theorem Sep.keep {w w':World} {S:Nat->Prop} {v:V} {c:VC} (h:Sep w S v c) (hz:w.heap.size<=w'.heap.size):Agree S w w'->Sep w' S v c:=by
 induction h with
 | mk S c l o cl co gl go TL TO hb hl ho hS hla hoa hne hlc hoc hlv hov hTL hTO dL dO dLO ihl iho=>
   intro ha
   refine .mk S c l o cl co gl go TL TO hb hl ho (fun k hk=>Nat.lt_of_lt_of_le (hS k hk) hz) hla hoa hne (fun i hi=>ha.val (hla (by omega)).2 (hlc i hi)) (fun i hi=> ?_) (fun i hi=>ihl i hi fun k q hk=>ha k q (hTL i hi k hk).1) (fun i hi=>iho i hi fun k q hk=>ha k q (hTO i hi k hk).1) hTL hTO dL dO dLO
   have hg:=(hoa (by omega)).2
   exact ⟨(ha _ _ hg).trans (hoc i hi).1,(hoc i hi).2.1,ha.val hg (hoc i hi).2.2⟩
theorem Sep.more {w:World} {S S':Nat->Prop} {v:V} {c:VC} (h:Sep w S v c) (hs:∀k,S k->S' k) (hz:∀k,S' k->k<w.heap.size):Sep w S' v c:=by
 cases h with
 | mk S c l o cl co gl go TL TO hb hl ho hS hla hoa hne hlc hoc hlv hov hTL hTO dL dO dLO=>
   exact .mk S' c l o cl co gl go TL TO hb hl ho hz (fun h=>⟨(hla h).1,hs _ (hla h).2⟩) (fun h=>⟨(hoa h).1,hs _ (hoa h).2⟩) hne hlc hoc hlv hov (fun i hi k hk=>⟨hs _ (hTL i hi k hk).1,(hTL i hi k hk).2⟩) (fun i hi k hk=>⟨hs _ (hTO i hi k hk).1,(hTO i hi k hk).2⟩) dL dO dLO
structure SepAt (w:World) (S:Nat->Prop) (v:V) (b o:Nat) (c:VC):Prop where
 at_:ValAt w b o c
 sep:Sep w S v c
 out:¬S b
inductive Way (w:World):Nat->Nat->V->List St->Nat->Nat->V->Prop
 |nil (b o:Nat) (v:V):Way w b o v [] b o v
 |list (b o:Nat) (v x y:V) (c:VC) (s:St) (r:List St) (k g q b' o':Nat) (hv:ValAt w b o c) (hi:IsVal w w.heap.size v c) (hs:stepP v s=some (x,k)) (hl:s.list=true) (ha:c.la=some ⟨g,q,none⟩) (h:Way w g (q+k*5) x r b' o' y):Way w b o v (s::r) b' o' y
 |obj (b o:Nat) (v x y:V) (c:VC) (s:St) (r:List St) (k g q b' o':Nat) (hv:ValAt w b o c) (hi:IsVal w w.heap.size v c) (hs:stepP v s=some (x,k)) (hl:s.list=false) (ha:c.oa=some ⟨g,q,none⟩) (h:Way w g (q+k*6+1) x r b' o' y):Way w b o v (s::r) b' o' y
def But (S:Nat->Prop) (b b' o':Nat) (w w':World):Prop:=∀k q,(S k∨k=b)->¬(k=b'/\o'<=q/\q<o'+5)->w'.cell? ⟨k,q,none⟩=w.cell? ⟨k,q,none⟩
theorem But.val {S:Nat->Prop} {b b' o':Nat} {w w':World} (h:But S b b' o' w w') {k q:Nat} {c:VC} (hk:S k∨k=b) (hn:k≠b'∨q+5<=o'∨o'+5<=q) (hv:ValAt w k q c):ValAt w' k q c:=
 ⟨(h _ _ hk (by omega)).trans hv.c0,(h _ _ hk (by omega)).trans hv.c1,(h _ _ hk (by omega)).trans hv.c2,(h _ _ hk (by omega)).trans hv.c3,(h _ _ hk (by omega)).trans hv.c4⟩
theorem zam {w:World} {S:Nat->Prop} {v:V} {c:VC} (h:Sep w S v c):IsVal w w.heap.size v c:=
 (h.isVal (P:=fun _=>True) fun _ _=>trivial).sub (Zn _ _ _)
theorem zl2 (o:List (ByteArray×V)) (k:Nat) (z:V) (i:Nat) (h:i<(putO o k z).length) (h2:i<o.length):(putO o k z)[i].1=o[i].1/\(i=k->(putO o k z)[i].2=z)/\(i≠k->(putO o k z)[i].2=o[i].2):=by
 have h3:(putO o k z)[i] =(o.set k ((o.getD k (.empty,V.none)).1,z))[i]'(by rw [List.length_set];exact h2):=rfl
 rw [h3,List.getElem_set]
 by_cases hk:k=i
 .subst hk
  rw [if_pos rfl]
  have e:o.getD k (.empty,V.none)=o[k] :=by simp [List.getD_eq_getElem?_getD,h2]
  exact ⟨by rw [e],fun _=>rfl,fun e=>absurd rfl e⟩
 .rw [if_neg hk]
  exact ⟨rfl,fun e=>absurd e.symm hk,fun _=>rfl⟩
set_option maxRecDepth 100000 in
theorem zax (p:List St):∀ {w:World} {S:Nat->Prop} {v x:V} {b o:Nat} {c:VC},SepAt w S v b o c->getP v p=some x->
 ∃ b' o' Sx cx,SepAt w Sx x b' o' cx/\Way w b o v p b' o' x/\((b'=b/\o'=o/\p= [])∨S b')/\(∀k,Sx k->S k)/\
   ∀(w':World) (S':Nat->Prop) (y:V) (cy:VC),w.heap.size<=w'.heap.size->But S b b' o' w w'->SepAt w' S' y b' o' cy->(∀k,S' k->¬S k/\k≠b)->∃z cz,putP v p y=some z/\SepAt w' (fun k=>S k∨S' k) z b o cz:=by
 induction p with
 | nil=>
   intro w S v x b o c h hg
   injection hg with hg;subst hg
   refine ⟨b,o,S,c,h, .nil b o v, .inl ⟨rfl,rfl,rfl⟩,fun _ h=>h,fun w' S' y cy hz hbut hy hd=>⟨y,cy,rfl,hy.at_,hy.sep.more (fun _ h=> .inr h) (fun k hk=> ?_),fun hk=> ?_⟩⟩
   .rcases hk with hk|hk
    .exact Nat.lt_of_lt_of_le (h.sep.bnd k hk) hz
    .exact hy.sep.bnd k hk
   .rcases hk with hk|hk
    .exact h.out hk
    .exact (hd b hk).2 rfl
 | cons s r ih =>
   intro w S v x b o c h hg
   obtain ⟨hat,hsep,hout⟩:=h
   have hfull:=zam hsep
   unfold getP at hg
   cases hs:stepP v s with
   |none=>rw [hs] at hg;cases hg
   | some q =>
     obtain ⟨u,k⟩:=q
     rw [hs] at hg
     try dsimp only at hg
     have hstep:=Xj hs
     cases hsep with
     |mk S c l ol cl co gl go TL TO hb hl ho hS hla hoa hne hlc hoc hlv hov hTL hTO dL dO dLO=>
     rcases hstep with ⟨hls,_,hki,hk,hu⟩|⟨hls,_,hki,hk,hu⟩
     .have hk :k<l.length:=hk
      have hu:l[k] =u:=hu
      have hll:0<c.ll:=by omega
      obtain ⟨hga,hgS⟩:=hla hll
      have hnT:¬TL k gl:=fun e=>(hTL k hk gl e).2.1 rfl
      obtain ⟨b',o',Sx,cx,h1,h2,h3,h4,h5⟩:=ih (b:=gl) (o:=k*5) (c:=cl k) ⟨hlc k hk,by rw [<-hu];exact hlv k hk,hnT⟩ hg
      have hb'S:S b':=by
       rcases h3 with ⟨e,_⟩|e
       .rw [e];exact hgS
       .exact (hTL k hk _ e).1
      refine ⟨b',o',Sx,cx,h1, .list b o _ u x c s r k gl 0 b' o' hat hfull hs hls hga (by rw [Nat.zero_add];exact h2), .inr hb'S,fun j hj=>(hTL k hk j (h4 j hj)).1,fun w' S' y cy hz hbut hy hd=> ?_⟩
      obtain ⟨z,cz,hz1,hz2⟩:=h5 w' S' y cy hz (fun j q hj hn=>hbut j q (.inl (by
       rcases hj with hj|rfl
       .exact (hTL k hk j hj).1
       .exact hgS)) hn) hy (fun j hj=>⟨fun e=>(hd j hj).1 (hTL k hk j e).1,fun e=>(hd j hj).1 (e ▸ hgS)⟩)
      have hne':∀i,i<l.length->i≠k->gl≠b'∨i*5+5<=o'∨o'+5<=i*5:=fun i hi hik=>by
       rcases h3 with ⟨_,e,_⟩|e
       .right;rw [e];omega
       .left;intro e2;exact hnT (e2 ▸ e)
      have hgo':0<c.ol->go≠b':=fun h0 e2=>by
       rcases h3 with ⟨e,_⟩|e
       .exact hne hll h0 (by rw [e2,e])
       .exact (hTL k hk _ e).2.2 h0 e2.symm
      have agr:∀(T:Nat->Prop),(∀j,T j->S j)->¬T b'->Agree T w w':=fun T hT hn j q hj=>hbut j q (.inl (hT j hj)) (fun e=>hn (e.1 ▸ hj))
      refine ⟨(V.mk c.k c.n c.s l ol).setL k z,c,by unfold putP;rw [hs];dsimp only;rw [hz1];dsimp only;rw [if_pos hls],hbut.val (.inr rfl) (.inl fun e=>hout (e ▸ hb'S)) hat, ?_,fun e=> ?_⟩
      .show Sep w' _ (V.mk c.k c.n c.s (l.set k z) ol) c
       refine .mk _ c (l.set k z) ol (fun i=>if i=k then cz else cl i) co gl go (fun i=>if i=k then (fun j=>TL k j∨S' j) else TL i) TO hb (by rw [List.length_set];exact hl) ho (fun j hj=> ?_) (fun h=>⟨(hla h).1, .inl (hla h).2⟩) (fun h=>⟨(hoa h).1, .inl (hoa h).2⟩) hne (fun i hi=> ?_) (fun i hi=> ?_) (fun i hi=> ?_) (fun i hi=> ?_) (fun i hi j hj=> ?_) (fun i hi j hj=>⟨.inl (hTO i hi j hj).1,(hTO i hi j hj).2⟩) (fun i i' hi hi' hii j hj hj'=> ?_) dO (fun i i' hi hi' j hj hj'=> ?_)
       .rcases hj with hj|hj
        .exact Nat.lt_of_lt_of_le (hS j hj) hz
        .exact hy.sep.bnd j hj
       .rw [List.length_set] at hi
        try dsimp only
        by_cases hik:i=k
        .rw [if_pos hik,hik];exact hz2.at_
        .rw [if_neg hik];exact hbut.val (.inl hgS) (hne' i hi hik) (hlc i hi)
       .have hg:=hgo' (by omega)
        exact ⟨(hbut _ _ (.inl (hoa (by omega)).2) (fun e=>hg e.1)).trans (hoc i hi).1,(hoc i hi).2.1,hbut.val (.inl (hoa (by omega)).2) (.inl hg) (hoc i hi).2.2⟩
       .rw [List.length_set] at hi
        try dsimp only
        by_cases hik:i=k
        .subst hik
         rw [if_pos rfl,if_pos rfl,List.getElem_set_self];exact hz2.sep
        .rw [if_neg hik,if_neg hik,List.getElem_set_ne (Ne.symm hik)]
         exact (hlv i hi).keep hz (agr _ (fun j hj=>(hTL i hi j hj).1) fun e=>by
          rcases h3 with ⟨e1,_⟩|e1
          .exact (hTL i hi _ e).2.1 e1
          .exact dL i k hi hk hik _ e e1)
       .exact (hov i hi).keep hz (agr _ (fun j hj=>(hTO i hi j hj).1) fun e=>by
         rcases h3 with ⟨e1,_⟩|e1
         .exact (hTO i hi _ e).2.2 hll e1
         .exact dLO k i hk hi _ e1 e)
       .rw [List.length_set] at hi
        try dsimp only at hj
        by_cases hik:i=k
        .rw [if_pos hik] at hj
         rcases hj with hj|hj
         .exact ⟨.inl (hTL k hk j hj).1,(hTL k hk j hj).2⟩
         .exact ⟨.inr hj,fun e=>(hd j hj).1 (e ▸ hgS),fun h0 e=>(hd j hj).1 (e ▸ (hoa h0).2)⟩
        .rw [if_neg hik] at hj
         exact ⟨.inl (hTL i hi j hj).1,(hTL i hi j hj).2⟩
       .rw [List.length_set] at hi hi'
        try dsimp only at hj hj'
        by_cases hik:i=k
        .have hik':i'≠k:=fun e=>hii (by rw [hik,e])
         rw [if_pos hik] at hj
         rw [if_neg hik'] at hj'
         rcases hj with hj|hj
         .exact dL k i' hk hi' (fun e=>hik' e.symm) j hj hj'
         .exact (hd j hj).1 (hTL i' hi' j hj').1
        .rw [if_neg hik] at hj
         by_cases hik':i'=k
         .rw [if_pos hik'] at hj'
          rcases hj' with hj'|hj'
          .exact dL i k hi hk hik j hj hj'
          .exact (hd j hj').1 (hTL i hi j hj).1
         .rw [if_neg hik'] at hj'
          exact dL i i' hi hi' hii j hj hj'
       .rw [List.length_set] at hi
        try dsimp only at hj
        by_cases hik:i=k
        .rw [if_pos hik] at hj
         rcases hj with hj|hj
         .exact dLO k i' hk hi' j hj hj'
         .exact (hd j hj).1 (hTO i' hi' j hj').1
        .rw [if_neg hik] at hj
         exact dLO i i' hi hi' j hj hj'
      .rcases e with e|e
       .exact hout e
       .exact (hd b e).2 rfl
     .have hk :k<ol.length:=hk
      have hu:ol[k].2=u:=hu
      have hll:0<c.ol:=by omega
      obtain ⟨hga,hgS⟩:=hoa hll
      have hnT:¬TO k go:=fun e=>(hTO k hk go e).2.1 rfl
      obtain ⟨b',o',Sx,cx,h1,h2,h3,h4,h5⟩:=ih (b:=go) (o:=k*6+1) (c:=co k) ⟨(hoc k hk).2.2,by rw [<-hu];exact hov k hk,hnT⟩ hg
      have hb'S:S b':=by
       rcases h3 with ⟨e,_⟩|e
       .rw [e];exact hgS
       .exact (hTO k hk _ e).1
      refine ⟨b',o',Sx,cx,h1, .obj b o _ u x c s r k go 0 b' o' hat hfull hs hls hga (by rw [Nat.zero_add];exact h2), .inr hb'S,fun j hj=>(hTO k hk j (h4 j hj)).1,fun w' S' y cy hz hbut hy hd=> ?_⟩
      obtain ⟨z,cz,hz1,hz2⟩:=h5 w' S' y cy hz (fun j q hj hn=>hbut j q (.inl (by
       rcases hj with hj|rfl
       .exact (hTO k hk j hj).1
       .exact hgS)) hn) hy (fun j hj=>⟨fun e=>(hd j hj).1 (hTO k hk j e).1,fun e=>(hd j hj).1 (e ▸ hgS)⟩)
      have hne':∀i,i<ol.length->i≠k->go≠b'∨i*6+6<=o'∨o'+5<=i*6:=fun i hi hik=>by
       rcases h3 with ⟨_,e,_⟩|e
       .right;rw [e];omega
       .left;intro e2;exact hnT (e2 ▸ e)
      have hkey':go≠b'∨k*6<o':=by
       rcases h3 with ⟨_,e,_⟩|e
       .right;rw [e];omega
       .left;intro e2;exact hnT (e2 ▸ e)
      have hgl':0<c.ll->gl≠b':=fun h0 e2=>by
       rcases h3 with ⟨e,_⟩|e
       .exact hne h0 hll (by rw [e2,e])
       .exact (hTO k hk _ e).2.2 h0 e2.symm
      have agr:∀(T:Nat->Prop),(∀j,T j->S j)->¬T b'->Agree T w w':=fun T hT hn j q hj=>hbut j q (.inl (hT j hj)) (fun e=>hn (e.1 ▸ hj))
      refine ⟨(V.mk c.k c.n c.s l ol).setO k z,c,by unfold putP;rw [hs];dsimp only;rw [hz1];dsimp only;rw [if_neg (by simp [hls])],hbut.val (.inr rfl) (.inl fun e=>hout (e ▸ hb'S)) hat, ?_,fun e=> ?_⟩
      .show Sep w' _ (V.mk c.k c.n c.s l (putO ol k z)) c
       have hlen:(putO ol k z).length=ol.length:=by unfold putO;rw [List.length_set]
       have hget:∀i (h:i<(putO ol k z).length),(putO ol k z)[i].1=(ol[i]'(by omega)).1/\(i=k->(putO ol k z)[i].2=z)/\(i≠k->(putO ol k z)[i].2=(ol[i]'(by omega)).2):=fun i h=>zl2 ol k z i h (by omega)
       refine .mk _ c l (putO ol k z) cl (fun i=>if i=k then cz else co i) gl go TL (fun i=>if i=k then (fun j=>TO k j∨S' j) else TO i) hb hl (by rw [hlen];exact ho) (fun j hj=> ?_) (fun h=>⟨(hla h).1, .inl (hla h).2⟩) (fun h=>⟨(hoa h).1, .inl (hoa h).2⟩) hne (fun i hi=> ?_) (fun i hi=> ?_) (fun i hi=> ?_) (fun i hi=> ?_) (fun i hi j hj=>⟨.inl (hTL i hi j hj).1,(hTL i hi j hj).2⟩) (fun i hi j hj=> ?_) dL (fun i i' hi hi' hii j hj hj'=> ?_) (fun i i' hi hi' j hj hj'=> ?_)
       .rcases hj with hj|hj
        .exact Nat.lt_of_lt_of_le (hS j hj) hz
        .exact hy.sep.bnd j hj
       .exact hbut.val (.inl (hla (by omega)).2) (.inl (hgl' (by omega))) (hlc i hi)
       .have hi2:i<ol.length:=by omega
        obtain ⟨g1,g2,g3⟩:=hget i hi
        rw [g1]
        try dsimp only
        by_cases hik:i=k
        .subst hik
         refine ⟨(hbut _ _ (.inl hgS) (by omega)).trans (hoc i hi2).1,(hoc i hi2).2.1, ?_⟩
         rw [if_pos rfl];exact hz2.at_
        .have:=hne' i hi2 hik
         refine ⟨(hbut _ _ (.inl hgS) (by omega)).trans (hoc i hi2).1,(hoc i hi2).2.1, ?_⟩
         rw [if_neg hik];exact hbut.val (.inl hgS) (by omega) (hoc i hi2).2.2
       .exact (hlv i hi).keep hz (agr _ (fun j hj=>(hTL i hi j hj).1) fun e=>by
         rcases h3 with ⟨e1,_⟩|e1
         .exact (hTL i hi _ e).2.2 hll e1
         .exact dLO i k hi hk _ e e1)
       .have hi2:i<ol.length:=by omega
        obtain ⟨g1,g2,g3⟩:=hget i hi
        try dsimp only
        by_cases hik:i=k
        .rw [if_pos hik,if_pos hik,g2 hik];exact hz2.sep
        .rw [if_neg hik,if_neg hik,g3 hik]
         exact (hov i hi2).keep hz (agr _ (fun j hj=>(hTO i hi2 j hj).1) fun e=>by
          rcases h3 with ⟨e1,_⟩|e1
          .exact (hTO i hi2 _ e).2.1 e1
          .exact dO i k hi2 hk hik _ e e1)
       .rw [hlen] at hi
        try dsimp only at hj
        by_cases hik:i=k
        .rw [if_pos hik] at hj
         rcases hj with hj|hj
         .exact ⟨.inl (hTO k hk j hj).1,(hTO k hk j hj).2⟩
         .exact ⟨.inr hj,fun e=>(hd j hj).1 (e ▸ hgS),fun h0 e=>(hd j hj).1 (e ▸ (hla h0).2)⟩
        .rw [if_neg hik] at hj
         exact ⟨.inl (hTO i hi j hj).1,(hTO i hi j hj).2⟩
       .rw [hlen] at hi hi'
        try dsimp only at hj hj'
        by_cases hik:i=k
        .have hik':i'≠k:=fun e=>hii (by rw [hik,e])
         rw [if_pos hik] at hj
         rw [if_neg hik'] at hj'
         rcases hj with hj|hj
         .exact dO k i' hk hi' (fun e=>hik' e.symm) j hj hj'
         .exact (hd j hj).1 (hTO i' hi' j hj').1
        .rw [if_neg hik] at hj
         by_cases hik':i'=k
         .rw [if_pos hik'] at hj'
          rcases hj' with hj'|hj'
          .exact dO i k hi hk hik j hj hj'
          .exact (hd j hj').1 (hTO i hi j hj).1
         .rw [if_neg hik'] at hj'
          exact dO i i' hi hi' hii j hj hj'
       .rw [hlen] at hi'
        try dsimp only at hj'
        by_cases hik:i'=k
        .rw [if_pos hik] at hj'
         rcases hj' with hj'|hj'
         .exact dLO i k hi hk j hj hj'
         .exact (hd j hj').1 (hTL i hi j hj).1
        .rw [if_neg hik] at hj'
         exact dLO i i' hi hi' j hj hj'
      .rcases e with e|e
       .exact hout e
       .exact (hd b e).2 rfl
end Go.Proofs.YtfoahkbnheijcaaDoor
