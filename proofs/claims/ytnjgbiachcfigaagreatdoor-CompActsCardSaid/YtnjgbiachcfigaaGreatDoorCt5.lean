/-
  Contracts of the functions that the law reaches: reader.value's loop over an object's.
-/
import Derived.Test.YtnjgbiachcfigaaGreatDoorCt4
import Derived.Laws.AppendOwn
namespace Go.Proofs.YtnjgbiachcfigaaGreatDoor
open Go.RowKit
set_option maxHeartbeats 4000000
theorem Xc {w:World} {B:Nat} {v:V} {c:VC} (h:IsVal w B v c):v.str=c.s/\c.s.size<=140737488355328:=by
 cases h with
 |mk c l o cl co lb lo ob oo hbd=>exact ⟨rfl,hbd.s1⟩
structure QR (w wr:World) (t:Tk) (c:VC):Prop where
 res:BC wr w.heap.size [.int .u8 0, .int .i64 0, .string { data:= #[] }, .slice none 0 0, .slice none 0 0]
 tok:BC wr (w.heap.size+1) [.int .u8 t.k, .int .i64 t.n, .string t.s, .int .u8 t.m]
 val:BC wr (w.heap.size+2) (vcells c)
 below:Below w.heap.size w wr
theorem QR.next {w wr W:World} {t:Tk} {c:VC} (h:QR w wr t c) (hb:Below wr.heap.size wr W):QR w W t c:=
 ⟨h.res.keep hb h.res.lt,h.tok.keep hb h.tok.lt,h.val.keep hb h.val.lt,h.below.trans (hb.mono (Nat.le_of_lt h.res.lt))⟩
theorem QR.below_ {w wr W:World} {t:Tk} {c:VC} (h:QR w wr t c) {B:Nat} (hb:Below B wr W) (hB:w.heap.size+3<=B):QR w W t c:=
 ⟨h.res.keep hb (by omega),h.tok.keep hb (by omega),h.val.keep hb (by omega),h.below.trans (hb.mono (by omega))⟩
def RawPost (w:World) (r:V×Nat) (e:Ending) (w':World):Prop:=
 (∃c:VC,e= .returned (.tuple #[.agg #[.int .u8 c.k, .int .i64 c.n, .string c.s, .slice c.la c.ll c.lc, .slice c.oa c.ol c.oc], .int .i64 (r.2:Int)])/\IsVal (only (fun b=>w.heap.size<=b) w') w'.heap.size r.1 c)/\Below w.heap.size w w'
theorem QR.stored {w W:World} {t:Tk} {c0:VC} (h:QR w W t c0) (c:VC):BC (((((W.setCell ⟨w.heap.size,0,none⟩ (.int .u8 c.k)).setCell ⟨w.heap.size,1,none⟩ (.int .i64 c.n)).setCell ⟨w.heap.size,2,none⟩ (.string c.s)).setCell ⟨w.heap.size,3,none⟩ (.slice c.la c.ll c.lc)).setCell ⟨w.heap.size,4,none⟩ (.slice c.oa c.ol c.oc)) w.heap.size (vcells c)/\Below w.heap.size w (((((W.setCell ⟨w.heap.size,0,none⟩ (.int .u8 c.k)).setCell ⟨w.heap.size,1,none⟩ (.int .i64 c.n)).setCell ⟨w.heap.size,2,none⟩ (.string c.s)).setCell ⟨w.heap.size,3,none⟩ (.slice c.la c.ll c.lc)).setCell ⟨w.heap.size,4,none⟩ (.slice c.oa c.ol c.oc))/\RStep W (((((W.setCell ⟨w.heap.size,0,none⟩ (.int .u8 c.k)).setCell ⟨w.heap.size,1,none⟩ (.int .i64 c.n)).setCell ⟨w.heap.size,2,none⟩ (.string c.s)).setCell ⟨w.heap.size,3,none⟩ (.slice c.la c.ll c.lc)).setCell ⟨w.heap.size,4,none⟩ (.slice c.oa c.ol c.oc)) w.heap.size:=by
 have s1:RStep W (((((W.setCell ⟨w.heap.size,0,none⟩ (.int .u8 c.k)).setCell ⟨w.heap.size,1,none⟩ (.int .i64 c.n)).setCell ⟨w.heap.size,2,none⟩ (.string c.s)).setCell ⟨w.heap.size,3,none⟩ (.slice c.la c.ll c.lc)).setCell ⟨w.heap.size,4,none⟩ (.slice c.oa c.ol c.oc)) w.heap.size:=(((RStep.self.trans RStep.self).trans RStep.self).trans RStep.self).trans RStep.self
 refine ⟨((((h.res.set (i:=0) (x:= .int .u8 c.k) (by simp)).set (i:=1) (x:= .int .i64 c.n) (by simp)).set (i:=2) (x:= .string c.s) (by simp)).set (i:=3) (x:= .slice c.la c.ll c.lc) (by simp)).set (i:=4) (x:= .slice c.oa c.ol c.oc) (by simp),h.below.trans (s1.below (Nat.le_of_lt h.res.lt)),s1⟩
def fld (xs:List V):List (ByteArray×V):=xs.map fun x=>(x.str,x)
def low (b:UInt8):UInt8:=UInt8.ofNat (b.toNat % 128)
def plainL (l:List UInt8):List UInt8:=(l.take 40).map low
def plainS (s:ByteArray):ByteArray:=⟨(plainL s.data.toList).toArray⟩
set_option maxRecDepth 100000 in
theorem Qy {w:World} {B:Nat} {v:Value} {bs:List UInt8} (ho:w.ownsRow B 5 1 v bs.length (outs bs)):∃a n c,v= .slice a n c/\IsB w w.heap.size a n c bs:=by
 have hc:=fun g hg=>ho.cells (g:=g) hg
 have hlt:=ho.lt
 rcases ho.2 with ⟨rfl,hn⟩|⟨g,cap,cur,rfl,_,hg,hnc,hcm,_,_⟩
 .have:bs= [] :=List.length_eq_zero_iff.1 hn
  subst this
  exact ⟨none,0,0,rfl, .nil _ _⟩
 .refine ⟨_,_,_,rfl,rfl,hnc,by simpa [maxLen] using hcm,g,0,fun _=>⟨rfl,(hlt g rfl).2⟩,fun i hi=> ?_⟩
  have:=hc g rfl i (.int .u8 (bs[i].toNat:Int)) (by simp [outs,hi])
  rw [Zt] at this;exact this
theorem zbt (l:List UInt8) (j:Nat) (h:j<l.length):(l.take (j+1)).map low=(l.take j).map low++ [low l[j]] :=by
 rw [Z5 l j h,List.map_append];rfl
theorem K0 (b:UInt8):(((low b).toNat:Nat):Int)=(b.toNat:Int) % 128:=by
 have h:(low b).toNat=b.toNat % 128:=by
  unfold low
  rw [UInt8.toNat_ofNat']
  omega
 rw [h];omega
structure PH (w wr:World) (s:ByteArray) (j:Nat) (u:Value):Prop where
 own:wr.ownsRow w.heap.size 5 1 u j (outs ((s.data.toList.take j).map low))
 below:Below w.heap.size w wr
set_option maxRecDepth 100000 in
theorem K1 (w:World) (s:ByteArray) (hs:s.size<=140737488355328):
 Calls Tryz.prog 71 #[.string s] w fun e w'=>e= .returned (.string (plainS s))/\Below w.heap.size w w':=by
 obtain ⟨i0,hi0,hz0,hz1,hz2⟩:=info_parts zcx
 have hsz:s.data.toList.length=s.size:=Array.length_toList
 have HS:=qh hsz
 clear hsz
 go_enter Tryz.func71,Tryz.ntmps71
 go_wp2_with fail
 go_loopw [3,4] (fun u i wr=>∃(j:Nat) (a:Option Addr) (m c:Nat),j<=40/\j<=s.size/\i= .int .i64 j/\u= .slice a m c/\PH w wr s j (.slice a m c)) (fun _ i _=>40 - (intOf i).toNat)
 case atStart=>exact ⟨0,none,0,0,by omega,Nat.zero_le _,rfl,rfl,⟨⟨by simp [outs], .inl ⟨rfl,rfl⟩⟩,Below.refl _ _⟩⟩
 case round=>
  obtain ⟨j,a,m,c,hj,hj2,rfl,rfl,L⟩:=hrel
  have hlen:=HS.out
  by_cases h1:j<s.size
  .by_cases h2:j<40
   .have hgb:s.data.toList[j]'(by omega)=s[j]'h1:=by simp [ByteArray.getElem_eq_getElem_data]
    have hsn:=zbt s.data.toList j (by omega)
    rw [hgb] at hsn
    have HSN:=qh hsn
    have hrlt:∀b,(Value.slice a m c).ownBlock=some b->w.heap.size<=b/\b<wr.heap.size:=L.own.lt
    have hb:=L.below.size
    have LL:=qh L
    have ho:=L.own
    clear hsn hgb L
    go_wp2_with (at_builtin;refine wpList_append_lies _ rfl (.tmp 15) (.tmp 20) 23 (by rfl) w.heap.size 5 i0 _ 1 1 Tryz.underlying23 hi0 hz0 hz1 hz2 rfl (by omega) (.slice a m c) j (outs ((s.data.toList.take j).map low)) (by rfl) (ho.alloc _) ⟨wr.heap.size,0,none⟩ 1 1 [.int .u8 ((s[j]'h1).toNat % 128:Int)] (by rfl) (by rfl) (World.news_of_block (cs:= #[.int .u8 ((s[j]'h1).toNat % 128:Int)]) (t:=5) (fr:=(0,0)) (heap_alloc_new wr _)) (by simp [Value.oneCell']) (by omega) (by unfold maxLen;omega) (by omega) (by simp;omega) (wr.heap.size+1) (by simp) ?_;intro g cap w7 hown7 hgrow7 hat7 hlt7)
    go_roundw
    case rel=>
     refine ⟨j+1,some ⟨g,0,none⟩,j+1,cap,by omega,by omega,by go_num,rfl,⟨?_, ?_⟩⟩
     .rw [HSN.out,za5]
      have e:outs [low (s[j]'h1)] = [.int .u8 ((s[j]'h1).toNat % 128:Int)] :=by simp [outs,K0]
      rw [e];exact hown7
     .exact (LL.out.below.trans (((Below.refl _ _).alloc (Nat.le_refl _) _).mono hb)).trans (Zj hgrow7 (fun k hk=>(hrlt k hk).1) (by simp;omega))
    case measure=>simp [intOf];omega
   .obtain ⟨a2,n2,c2,hv2,hI⟩:=Qy (bs:=(s.data.toList.take j).map low) (by rw [List.length_map,List.length_take,Nat.min_eq_left (by omega)];exact L.own)
    injection hv2 with h3 h4 h5;subst h3 h4 h5
    have hcv:=Qv hI
    have LL:=qh L
    have hp:((s.data.toList.take j).map low)=plainL s.data.toList:=by rw [plainL,show j=40 by omega]
    rw [hp] at hcv
    clear hI L hp
    go_wp2_with fail
    go_returns
    exact ⟨rfl,LL.out.below⟩
  .obtain ⟨a2,n2,c2,hv2,hI⟩:=Qy (bs:=(s.data.toList.take j).map low) (by rw [List.length_map,List.length_take,Nat.min_eq_left (by omega)];exact L.own)
   injection hv2 with h3 h4 h5;subst h3 h4 h5
   have hcv:=Qv hI
   have LL:=qh L
   have hp:((s.data.toList.take j).map low)=plainL s.data.toList:=by rw [plainL,List.take_of_length_le (by omega),List.take_of_length_le (by omega)]
   rw [hp] at hcv
   clear hI L hp
   go_wp2_with fail
   go_returns
   exact ⟨rfl,LL.out.below⟩
def fieldK (o:List (ByteArray×V)) (key:ByteArray):Nat:=(o.takeWhile fun f=>Op.bytesLess f.1.toList key.toList).length
def fieldIs (o:List (ByteArray×V)) (key:ByteArray):Bool:=match o[fieldK o key]? with
 |some f=>f.1.toList==key.toList
 |none=>false
theorem Xw (o:List (ByteArray×V)) (key:ByteArray) (j:Nat) (h:∀i (hi:i<o.length),i<j->Op.bytesLess (o[i]'hi).1.toList key.toList=true) (hj:j<=o.length) (he:j=o.length∨∃hi:j<o.length,Op.bytesLess (o[j]'hi).1.toList key.toList=false):fieldK o key=j:=by
 unfold fieldK
 induction o generalizing j with
 |nil=>simp at hj;subst hj;rfl
 | cons f o ih=>
   cases j with
   | zero=>
     rcases he with he|⟨hi,he⟩
     .simp at he
     .simp only [List.getElem_cons_zero] at he
      simp [he]
   | succ j=>
     have h0:=h 0 (by simp) (by omega)
     simp only [List.getElem_cons_zero] at h0
     have:=ih j (fun i hi hij=>by have:=h (i+1) (by simpa using hi) (by omega);simpa using this) (by simpa using hj) (by
      rcases he with he|⟨hi,he⟩
      .left;simpa using he
      .right;exact ⟨by simpa using hi,by simpa using he⟩)
     simp [h0,this]
theorem Z6 {B:Nat} {a w:World} (h:Below B a w) (n:Nat):Below B a (w.drewN n):=h.trans ⟨rfl,rfl,rfl,Nat.le_refl _,fun _ _=>rfl⟩
set_option maxRecDepth 100000 in
theorem Yg (w:World) (o:List (ByteArray×V)) (key:ByteArray) (k n:Int) (s:ByteArray) (la:Option Addr) (ll lc:Nat) (oa:Option Addr) (ol oc:Nat) (h:IsFields w w.heap.size o oa ol oc):
 Calls Tryz.prog 75 #[.agg #[.int .u8 k, .int .i64 n, .string s, .slice la ll lc, .slice oa ol oc], .string key] w fun e w'=>e= .returned (.tuple #[.int .i64 (fieldK o key:Int), .bool (fieldIs o key)])/\Below w.heap.size w w':=by
 have hlen:=h.len
 have HI:=qh h
 have HL:=qh hlen
 have k1:=h.max;have k2:=h.few
 have HB0:=qh (BC.start w #[.int .u8 k, .int .i64 n, .string s, .slice la ll lc, .slice oa ol oc] 36)
 clear h hlen
 go_enter Tryz.func75,Tryz.ntmps75
 go_wp2_with fail
 go_loopw [6] (fun i wr=>BC wr w.heap.size [.int .u8 k, .int .i64 n, .string s, .slice la ll lc, .slice oa ol oc] /\Below w.heap.size w wr/\∃j:Nat,j<=ol/\i= .int .i64 j/\Hid (∀i (hi:i<o.length),i<j->Op.bytesLess (o[i]'hi).1.toList key.toList=true)) (fun i _=>ol - (intOf i).toNat)
 case atStart=>exact ⟨HB0.out,(Below.refl _ _).alloc (Nat.le_refl _) _,0,Nat.zero_le _,rfl,qh (fun i hi hj=>by omega)⟩
 case round=>
  obtain ⟨hbc,hbl,j,hj,rfl,hall⟩:=hrel
  have c4:=hbc.at_ 4 _ rfl
  have zs:=hbc.lt
  have HBC:=qh hbc
  have HBL:=qh hbl
  by_cases hlt:j<ol
  .obtain ⟨b,o',f,hp,rfl,hbB,hkey,hks,_⟩:=(HI.out.keep hbl).get hlt
   have hbw:b<wr.heap.size:=World.block_lt_of_cell? wr _ hkey
   obtain ⟨lb,hlb⟩:∃lb,Op.bytesLess (o[j]'hp).1.toList key.toList=lb:=⟨_,rfl⟩
   cases lb with
   | true=>
     have HLB:=qh hlb
     clear hbc hbl
     go_wp2_with fail
     go_roundw
     case rel=>exact ⟨HBC.out,HBL.out,j+1,by omega,by go_num,qh (fun i hi hij=>by
      by_cases e:i=j
      .subst e;exact HLB.out
      .exact hall.out i hi (by omega))⟩
     case measure=>simp [intOf];omega
   | false=>
     obtain ⟨eb,heb⟩:∃eb,((o[j]'hp).1.toList==key.toList)=eb:=⟨_,rfl⟩
     have hk:fieldK o key=j:=Xw o key j hall.out (by omega) (.inr ⟨hp,hlb⟩)
     have hi:fieldIs o key=eb:=by
      rw [fieldIs,hk,List.getElem?_eq_getElem hp];exact heb
     have HK:=qh hk
     have HII:=qh hi
     clear hbc hbl hk hi
     go_wp2_with fail
     go_quiet (fail)
     go_wp2_with fail
     go_returns
     exact ⟨by rw [HK.out,HII.out];rfl,Z6 HBL.out _⟩
  .have hj2:j=ol:=by omega
   subst hj2
   have hk:fieldK o key=j:=Xw o key j hall.out (by rw [HL.out];exact Nat.le_refl _) (.inl HL.out)
   have hi:fieldIs o key=false:=by
    rw [fieldIs,hk,List.getElem?_eq_none (by rw [HL.out];exact Nat.le_refl _)]
   have HK:=qh hk
   have HII:=qh hi
   clear hbc hbl hk hi
   go_wp2_with fail
   go_quiet (fail)
   go_wp2_with fail
   go_returns
   exact ⟨by rw [HK.out,HII.out];rfl,Z6 HBL.out _⟩
def withF (o:List (ByteArray×V)) (key:ByteArray) (x:V):List (ByteArray×V):=o.take (fieldK o key)++(key,x)::o.drop (if fieldIs o key=true then fieldK o key+1 else fieldK o key)
theorem Yh (o:List (ByteArray×V)) (key:ByteArray):fieldK o key<=o.length:=(List.takeWhile_sublist _).length_le
theorem Yu {o:List (ByteArray×V)} {key:ByteArray} (h:fieldIs o key=true):fieldK o key<o.length:=by
 unfold fieldIs at h
 by_cases hq:fieldK o key<o.length
 .exact hq
 .rw [List.getElem?_eq_none (by omega)] at h;cases h
theorem IsFields.cells {w:World} {B:Nat} {o:List (ByteArray×V)} {a:Option Addr} {n c:Nat} (h:IsFields w B o a n c):
 ∃(cs:List (ByteArray×VC)) (b off:Nat),cs.length=o.length/\(0<n->a=some ⟨b,off,none⟩/\b<B)/\(∀j u,(cs.flatMap fcells)[j]? =some u->w.cell? ⟨b,off+j,none⟩=some u)/\∀i,i<o.length->PF o cs w B i:=by
 obtain ⟨h1,h2,h3,h4,b,off,f,h5,h6⟩:=h
 have hlen:((List.range o.length).map fun i=>((o.getD i (.empty,V.none)).1,f i)).length=o.length:=by simp
 have hget:∀i (hi:i<o.length),((List.range o.length).map fun i=>((o.getD i (.empty,V.none)).1,f i))[i]? =some (o[i].1,f i):=by
  intro i hi
  simp [hi,List.getD_eq_getElem?_getD]
 refine ⟨(List.range o.length).map fun i=>((o.getD i (.empty,V.none)).1,f i),b,off,hlen,h5,fun j u hj=> ?_,fun i hi h=> ?_⟩
 .have hjl:j<o.length*6:=by
   have:=(List.getElem?_eq_some_iff.1 hj).1
   rw [Zl fcells 6 (fun _=>rfl),hlen] at this
   exact this
  have hi:j / 6<o.length:=by omega
  have hd:j=j / 6*6+j % 6:=by omega
  rw [hd,Xh fcells 6 (fun _=>rfl) _ (j / 6) (j % 6) (by rw [hlen];exact hi) (by omega)] at hj
  have he:((List.range o.length).map fun i=>((o.getD i (.empty,V.none)).1,f i))[j / 6]'(by rw [hlen];exact hi)=(o[j / 6].1,f (j / 6)):=by
   have:=hget (j / 6) hi
   rw [List.getElem?_eq_getElem (by rw [hlen];exact hi)] at this
   exact Option.some.inj this
  rw [he] at hj
  obtain ⟨g1,g2,g3,g4⟩:=h6 (j / 6) hi
  have hm:j % 6<6:=by omega
  rw [hd, <-Nat.add_assoc]
  obtain ⟨m,hmm⟩:∃m,j % 6=m:=⟨_,rfl⟩
  rw [hmm] at hj hm ⊢
  match m,hm with
  |0,_=>rw [<-hj];exact g1
  |1,_=>rw [<-hj];exact g3.c0
  |2,_=>rw [<-hj];exact g3.c1
  |3,_=>rw [<-hj];exact g3.c2
  |4,_=>rw [<-hj];exact g3.c3
  |5,_=>rw [<-hj];exact g3.c4
 .obtain ⟨g1,g2,g3,g4⟩:=h6 i hi
  have he:((List.range o.length).map fun i=>((o.getD i (.empty,V.none)).1,f i)).getD i fzero=(o[i].1,f i):=by
   rw [List.getD_eq_getElem?_getD,hget i hi];rfl
  rw [he]
  exact ⟨rfl,g2,g4⟩
theorem Qf {w:World} {B0 B1:Nat} {v:Value} {l:List (ByteArray×V)} {cs:List (ByteArray×VC)} (hown:w.ownsRow B1 75 6 v l.length (cs.flatMap fcells)) (hB:B0<=B1) (hl:cs.length=l.length) (hels:∀i,i<l.length->PF l cs (only (Free B0 v) w) w.heap.size i) (hfew:l.length<=1466015503701):
 ∃a n c,v= .slice a n c/\IsFields (only (fun b=>B0<=b) w) w.heap.size l a n c/\(a=none->c=0):=by
 have hown2:w.ownsRow B0 75 6 v l.length (cs.flatMap fcells):=by
  refine ⟨hown.1, ?_⟩
  rcases hown.2 with h|⟨g,cap,cur,h1,h2,h3⟩
  .exact .inl h
  .exact .inr ⟨g,cap,cur,h1,Nat.le_trans hB h2,h3⟩
 have hv:∃a n c,v= .slice a n c/\(a=none->c=0):=by
  rcases hown.2 with ⟨h,_⟩|⟨g,cap,cur,h1,_⟩
  .exact ⟨_,_,_,h,fun _=>rfl⟩
  .exact ⟨_,_,_,h1,fun h=>by cases h⟩
 obtain ⟨a,n,c,rfl,hz⟩:=hv
 have hrow:RowF w B0 (.slice a n c) l cs:=⟨hown2,hels⟩
 have:=(RowF.val hrow (lo:=B0) hl (Nat.le_refl _) 5 (by omega) (by omega) hfew).lists
 exact ⟨a,n,c,rfl,this.2.2.2.2.2,hz⟩
def WithPost (w:World) (B0:Nat) (l:List (ByteArray×V)) (e:Ending) (w':World):Prop:=
 (∃a n c,e= .returned (.slice a n c)/\IsFields (only (fun b=>B0<=b) w') w'.heap.size l a n c/\(a=none->c=0))/\Below w.heap.size w w'
def stepP (v:V) (s:St):Option (V×Nat):=
 if s.list=true then (if v.kd=4/\0<=s.i/\s.i<v.ls.length then some (v.ls.getD s.i.toNat V.none,s.i.toNat) else none)
 else if v.kd=5/\fieldIs v.os s.key=true then some ((v.os.getD (fieldK v.os s.key) (.empty,V.none)).2,fieldK v.os s.key) else none
def getP:V->List St->Option V
 |v, [] =>some v
 | v,s::r=>match stepP v s with
   |none=>none
   |some q=>getP q.1 r
def putP:V->List St->V->Option V
 |_, [],x=>some x
 | v,s::r,x=>match stepP v s with
   |none=>none
   | some q=>match putP q.1 r x with
     |none=>none
     |some z=>some (if s.list=true then v.setL q.2 z else v.setO q.2 z)
theorem Xd {v:V} {s:St} {x:V} {k:Nat} (h:stepP v s=some (x,k)):
 (s.list=true/\v.kd=4/\(k:Int)=s.i/\∃hk:k<v.ls.length,v.ls[k] =x)∨(s.list=false/\v.kd=5/\k=fieldK v.os s.key/\∃hk:k<v.os.length,v.os[k].2=x):=by
 unfold stepP at h
 by_cases hl:s.list=true
 .rw [if_pos hl] at h
  split at h
  .rename_i hc
   injection h with h;injection h with h1 h2
   have hk:k<v.ls.length:=by omega
   refine .inl ⟨hl,hc.1,by omega,hk, ?_⟩
   subst h2
   rw [<-h1]
   simp [List.getD_eq_getElem?_getD,hk]
  .cases h
 .rw [if_neg hl] at h
  split at h
  .rename_i hc
   injection h with h;injection h with h1 h2
   have hk:k<v.os.length:=by rw [<-h2];exact Yu hc.2
   refine .inr ⟨by simpa using hl,hc.1,h2.symm,hk, ?_⟩
   subst h2
   rw [<-h1]
   simp [List.getD_eq_getElem?_getD,hk]
  .cases h
end Go.Proofs.YtnjgbiachcfigaaGreatDoor
