/-
  Contracts of the functions that the law reaches: conciliatorref01.Field: where a key.
-/
import Derived.Test.YtfoahkbnheijcaaGreatDoorMa8
import Derived.Laws.AppendOwn
namespace Go.Proofs.YtfoahkbnheijcaaGreatDoor
open Go.RowKit
set_option maxHeartbeats 4000000
def fieldK (o:List (ByteArray×V)) (key:ByteArray):Nat:=(o.takeWhile fun f=>Op.bytesLess f.1.toList key.toList).length
def fieldIs (o:List (ByteArray×V)) (key:ByteArray):Bool:=match o[fieldK o key]? with
 |some f=>f.1.toList==key.toList
 |none=>false
theorem zb1 (o:List (ByteArray×V)) (key:ByteArray) (j:Nat) (h:∀i (hi:i<o.length),i<j->Op.bytesLess (o[i]'hi).1.toList key.toList=true) (hj:j<=o.length) (he:j=o.length∨∃hi:j<o.length,Op.bytesLess (o[j]'hi).1.toList key.toList=false):fieldK o key=j:=by
 unfold fieldK
 induction o generalizing j with
 |nil=>simp at hj;subst hj;rfl
 | cons f o ih=>
   cases j with
   | zero=>
     rcases he with he|⟨hi,he⟩
     .simp at he
     .simp only [List.getElem_cons_zero] at he
      simp [he]
   | succ j=>
     have h0:=h 0 (by simp) (by omega)
     simp only [List.getElem_cons_zero] at h0
     have:=ih j (fun i hi hij=>by have:=h (i+1) (by simpa using hi) (by omega);simpa using this) (by simpa using hj) (by
      rcases he with he|⟨hi,he⟩
      .left;simpa using he
      .right;exact ⟨by simpa using hi,by simpa using he⟩)
     simp [h0,this]
theorem X7 {B:Nat} {a w:World} (h:Below B a w) (n:Nat):Below B a (w.drewN n):=h.trans ⟨rfl,rfl,rfl,Nat.le_refl _,fun _ _=>rfl⟩
set_option maxRecDepth 100000 in
theorem Yf (w:World) (o:List (ByteArray×V)) (key:ByteArray) (k n:Int) (s:ByteArray) (la:Option Addr) (ll lc:Nat) (oa:Option Addr) (ol oc:Nat) (h:IsFields w w.heap.size o oa ol oc):
 Calls Tryz.prog 100 #[.agg #[.int .u8 k, .int .i64 n, .string s, .slice la ll lc, .slice oa ol oc], .string key] w fun e w'=>e= .returned (.tuple #[.int .i64 (fieldK o key:Int), .bool (fieldIs o key)])/\Below w.heap.size w w':=by
 have hlen:=h.len
 have HI:=qh h
 have HL:=qh hlen
 have k1:=h.max;have k2:=h.few
 have HB0:=qh (BC.start w #[.int .u8 k, .int .i64 n, .string s, .slice la ll lc, .slice oa ol oc] 41)
 clear h hlen
 go_enter Tryz.func100,Tryz.ntmps100
 go_wp2_with fail
 go_loopw [6] (fun i wr=>BC wr w.heap.size [.int .u8 k, .int .i64 n, .string s, .slice la ll lc, .slice oa ol oc] /\Below w.heap.size w wr/\∃j:Nat,j<=ol/\i= .int .i64 j/\Hid (∀i (hi:i<o.length),i<j->Op.bytesLess (o[i]'hi).1.toList key.toList=true)) (fun i _=>ol - (intOf i).toNat)
 case atStart=>exact ⟨HB0.out,(Below.refl _ _).alloc (Nat.le_refl _) _,0,Nat.zero_le _,rfl,qh (fun i hi hj=>by omega)⟩
 case round=>
  obtain ⟨hbc,hbl,j,hj,rfl,hall⟩:=hrel
  have c4:=hbc.at_ 4 _ rfl
  have zs:=hbc.lt
  have HBC:=qh hbc
  have HBL:=qh hbl
  by_cases hlt:j<ol
  .obtain ⟨b,o',f,hp,rfl,hbB,hkey,hks,_⟩:=(HI.out.keep hbl).get hlt
   have hbw:b<wr.heap.size:=World.block_lt_of_cell? wr _ hkey
   obtain ⟨lb,hlb⟩:∃lb,Op.bytesLess (o[j]'hp).1.toList key.toList=lb:=⟨_,rfl⟩
   cases lb with
   | true=>
     have HLB:=qh hlb
     clear hbc hbl
     go_wp2_with fail
     go_roundw
     case rel=>exact ⟨HBC.out,HBL.out,j+1,by omega,by go_num,qh (fun i hi hij=>by
      by_cases e:i=j
      .subst e;exact HLB.out
      .exact hall.out i hi (by omega))⟩
     case measure=>simp [intOf];omega
   | false=>
     obtain ⟨eb,heb⟩:∃eb,((o[j]'hp).1.toList==key.toList)=eb:=⟨_,rfl⟩
     have hk:fieldK o key=j:=zb1 o key j hall.out (by omega) (.inr ⟨hp,hlb⟩)
     have hi:fieldIs o key=eb:=by
      rw [fieldIs,hk,List.getElem?_eq_getElem hp];exact heb
     have HK:=qh hk
     have HII:=qh hi
     clear hbc hbl hk hi
     go_wp2_with fail
     go_quiet (fail)
     go_wp2_with fail
     go_returns
     exact ⟨by rw [HK.out,HII.out];rfl,X7 HBL.out _⟩
  .have hj2:j=ol:=by omega
   subst hj2
   have hk:fieldK o key=j:=zb1 o key j hall.out (by rw [HL.out];exact Nat.le_refl _) (.inl HL.out)
   have hi:fieldIs o key=false:=by
    rw [fieldIs,hk,List.getElem?_eq_none (by rw [HL.out];exact Nat.le_refl _)]
   have HK:=qh hk
   have HII:=qh hi
   clear hbc hbl hk hi
   go_wp2_with fail
   go_quiet (fail)
   go_wp2_with fail
   go_returns
   exact ⟨by rw [HK.out,HII.out];rfl,X7 HBL.out _⟩
def withF (o:List (ByteArray×V)) (key:ByteArray) (x:V):List (ByteArray×V):=o.take (fieldK o key)++(key,x)::o.drop (if fieldIs o key=true then fieldK o key+1 else fieldK o key)
theorem Xs (o:List (ByteArray×V)) (key:ByteArray):fieldK o key<=o.length:=(List.takeWhile_sublist _).length_le
theorem Qn {o:List (ByteArray×V)} {key:ByteArray} (h:fieldIs o key=true):fieldK o key<o.length:=by
 unfold fieldIs at h
 by_cases hq:fieldK o key<o.length
 .exact hq
 .rw [List.getElem?_eq_none (by omega)] at h;cases h
theorem IsFields.cells {w:World} {B:Nat} {o:List (ByteArray×V)} {a:Option Addr} {n c:Nat} (h:IsFields w B o a n c):
 ∃(cs:List (ByteArray×VC)) (b off:Nat),cs.length=o.length/\(0<n->a=some ⟨b,off,none⟩/\b<B)/\(∀j u,(cs.flatMap fcells)[j]? =some u->w.cell? ⟨b,off+j,none⟩=some u)/\∀i,i<o.length->PF o cs w B i:=by
 obtain ⟨h1,h2,h3,h4,b,off,f,h5,h6⟩:=h
 have hlen:((List.range o.length).map fun i=>((o.getD i (.empty,V.none)).1,f i)).length=o.length:=by simp
 have hget:∀i (hi:i<o.length),((List.range o.length).map fun i=>((o.getD i (.empty,V.none)).1,f i))[i]? =some (o[i].1,f i):=by
  intro i hi
  simp [hi,List.getD_eq_getElem?_getD]
 refine ⟨(List.range o.length).map fun i=>((o.getD i (.empty,V.none)).1,f i),b,off,hlen,h5,fun j u hj=> ?_,fun i hi h=> ?_⟩
 .have hjl:j<o.length*6:=by
   have:=(List.getElem?_eq_some_iff.1 hj).1
   rw [Zn fcells 6 (fun _=>rfl),hlen] at this
   exact this
  have hi:j / 6<o.length:=by omega
  have hd:j=j / 6*6+j % 6:=by omega
  rw [hd,Xl fcells 6 (fun _=>rfl) _ (j / 6) (j % 6) (by rw [hlen];exact hi) (by omega)] at hj
  have he:((List.range o.length).map fun i=>((o.getD i (.empty,V.none)).1,f i))[j / 6]'(by rw [hlen];exact hi)=(o[j / 6].1,f (j / 6)):=by
   have:=hget (j / 6) hi
   rw [List.getElem?_eq_getElem (by rw [hlen];exact hi)] at this
   exact Option.some.inj this
  rw [he] at hj
  obtain ⟨g1,g2,g3,g4⟩:=h6 (j / 6) hi
  have hm:j % 6<6:=by omega
  rw [hd, <-Nat.add_assoc]
  obtain ⟨m,hmm⟩:∃m,j % 6=m:=⟨_,rfl⟩
  rw [hmm] at hj hm ⊢
  match m,hm with
  |0,_=>rw [<-hj];exact g1
  |1,_=>rw [<-hj];exact g3.c0
  |2,_=>rw [<-hj];exact g3.c1
  |3,_=>rw [<-hj];exact g3.c2
  |4,_=>rw [<-hj];exact g3.c3
  |5,_=>rw [<-hj];exact g3.c4
 .obtain ⟨g1,g2,g3,g4⟩:=h6 i hi
  have he:((List.range o.length).map fun i=>((o.getD i (.empty,V.none)).1,f i)).getD i fzero=(o[i].1,f i):=by
   rw [List.getD_eq_getElem?_getD,hget i hi];rfl
  rw [he]
  exact ⟨rfl,g2,g4⟩
theorem Ju {w:World} {B0 B1:Nat} {v:Value} {l:List (ByteArray×V)} {cs:List (ByteArray×VC)} (hown:w.ownsRow B1 98 6 v l.length (cs.flatMap fcells)) (hB:B0<=B1) (hl:cs.length=l.length) (hels:∀i,i<l.length->PF l cs (only (Free B0 v) w) w.heap.size i) (hfew:l.length<=1466015503701):
 ∃a n c,v= .slice a n c/\IsFields (only (fun b=>B0<=b) w) w.heap.size l a n c/\(a=none->c=0):=by
 have hown2:w.ownsRow B0 98 6 v l.length (cs.flatMap fcells):=by
  refine ⟨hown.1, ?_⟩
  rcases hown.2 with h|⟨g,cap,cur,h1,h2,h3⟩
  .exact .inl h
  .exact .inr ⟨g,cap,cur,h1,Nat.le_trans hB h2,h3⟩
 have hv:∃a n c,v= .slice a n c/\(a=none->c=0):=by
  rcases hown.2 with ⟨h,_⟩|⟨g,cap,cur,h1,_⟩
  .exact ⟨_,_,_,h,fun _=>rfl⟩
  .exact ⟨_,_,_,h1,fun h=>by cases h⟩
 obtain ⟨a,n,c,rfl,hz⟩:=hv
 have hrow:RowF w B0 (.slice a n c) l cs:=⟨hown2,hels⟩
 have:=(RowF.val hrow (lo:=B0) hl (Nat.le_refl _) 5 (by omega) (by omega) hfew).lists
 exact ⟨a,n,c,rfl,this.2.2.2.2.2,hz⟩
def WithPost (w:World) (B0:Nat) (l:List (ByteArray×V)) (e:Ending) (w':World):Prop:=
 (∃a n c,e= .returned (.slice a n c)/\IsFields (only (fun b=>B0<=b) w') w'.heap.size l a n c/\(a=none->c=0))/\Below w.heap.size w w'
def stepP (v:V) (s:St):Option (V×Nat):=
 if s.list=true then (if v.kd=4/\0<=s.i/\s.i<v.ls.length then some (v.ls.getD s.i.toNat V.none,s.i.toNat) else none)
 else if v.kd=5/\fieldIs v.os s.key=true then some ((v.os.getD (fieldK v.os s.key) (.empty,V.none)).2,fieldK v.os s.key) else none
def getP:V->List St->Option V
 |v, [] =>some v
 | v,s::r=>match stepP v s with
   |none=>none
   |some q=>getP q.1 r
def putP:V->List St->V->Option V
 |_, [],x=>some x
 | v,s::r,x=>match stepP v s with
   |none=>none
   | some q=>match putP q.1 r x with
     |none=>none
     |some z=>some (if s.list=true then v.setL q.2 z else v.setO q.2 z)
theorem Jm {v:V} {s:St} {x:V} {k:Nat} (h:stepP v s=some (x,k)):
 (s.list=true/\v.kd=4/\(k:Int)=s.i/\∃hk:k<v.ls.length,v.ls[k] =x)∨(s.list=false/\v.kd=5/\k=fieldK v.os s.key/\∃hk:k<v.os.length,v.os[k].2=x):=by
 unfold stepP at h
 by_cases hl:s.list=true
 .rw [if_pos hl] at h
  split at h
  .rename_i hc
   injection h with h;injection h with h1 h2
   have hk:k<v.ls.length:=by omega
   refine .inl ⟨hl,hc.1,by omega,hk, ?_⟩
   subst h2
   rw [<-h1]
   simp [List.getD_eq_getElem?_getD,hk]
  .cases h
 .rw [if_neg hl] at h
  split at h
  .rename_i hc
   injection h with h;injection h with h1 h2
   have hk:k<v.os.length:=by rw [<-h2];exact Qn hc.2
   refine .inr ⟨by simpa using hl,hc.1,h2.symm,hk, ?_⟩
   subst h2
   rw [<-h1]
   simp [List.getD_eq_getElem?_getD,hk]
  .cases h
def StepPost (w0:World) (B0:Nat) (w:World) (r:Option (V×Nat)) (e:Ending) (w':World):Prop:=
 (match r with
  |some q=>∃c:VC,e= .returned (.tuple #[.agg #[.int .u8 c.k, .int .i64 c.n, .string c.s, .slice c.la c.ll c.lc, .slice c.oa c.ol c.oc], .int .i64 (q.2:Int), .int .i64 0])/\IsVal w0 B0 q.1 c
  |none=>e= .returned (.tuple #[.agg #[.int .u8 0, .int .i64 0, .string { data:= #[] }, .slice none 0 0, .slice none 0 0], .int .i64 0, .int .i64 30]))/\Below w.heap.size w w'
theorem zce {tmps:Array Value} {W:World} {b:Nat} {c:VC} {x y:Value} (ht:tmps[4]? =some (.pointer (some ⟨b,0,none⟩))) (hx:tmps[5]? =some x) (hy:tmps[6]? =some y) (h:BC W b (vcells c)):
 (results Tryz.f98 tmps).run Tryz.prog W= .ok (.tuple #[.agg #[.int .u8 c.k, .int .i64 c.n, .string c.s, .slice c.la c.ll c.lc, .slice c.oa c.ol c.oc],x,y]) W:=by
 obtain ⟨r0,r1,r2,r3,r4⟩:=(⟨h.at_ 0 _ rfl,h.at_ 1 _ rfl,h.at_ 2 _ rfl,h.at_ 3 _ rfl,h.at_ 4 _ rfl⟩:W.cell? ⟨b,0,none⟩=some (.int .u8 c.k)/\W.cell? ⟨b,1,none⟩=some (.int .i64 c.n)/\W.cell? ⟨b,2,none⟩=some (.string c.s)/\W.cell? ⟨b,3,none⟩=some (.slice c.la c.ll c.lc)/\W.cell? ⟨b,4,none⟩=some (.slice c.oa c.ol c.oc))
 simp [results,Tryz.results98,go_sem,ht,hx,hy,r0,r1,r2,r3,r4]
theorem Jc {w0:World} {B0:Nat} {w W:World} {x:Act} (h:BC W (w.heap.size+1+1) (vcells vzero)) (hb:Below w.heap.size w W) (hd:x.defers= []) (ht:x.tmps[4]? =some (.pointer (some ⟨w.heap.size+1+1,0,none⟩))) (hx:x.tmps[5]? =some (.int .i64 0)) (hy:x.tmps[6]? =some (.int .i64 30)):
 bodyPost Tryz.prog Tryz.f98 (StepPost w0 B0 w none) .ret x W:=⟨hd,_,zce ht hx hy h,rfl,hb⟩
theorem zc1 {w0:World} {B0:Nat} {w W:World} {x:Act} {c:VC} {v:V} {k:Nat} (h:BC W (w.heap.size+1+1) (vcells c)) (hv:IsVal w0 B0 v c) (hb:Below w.heap.size w W) (hd:x.defers= []) (ht:x.tmps[4]? =some (.pointer (some ⟨w.heap.size+1+1,0,none⟩))) (hx:x.tmps[5]? =some (.int .i64 (k:Int))) (hy:x.tmps[6]? =some (.int .i64 0)):
 bodyPost Tryz.prog Tryz.f98 (StepPost w0 B0 w (some (v,k))) .ret x W:=⟨hd,_,zce ht hx hy h,⟨c,rfl,hv⟩,hb⟩
structure SB (w W:World) (c:VC) (s:St):Prop where
 v:BC W w.heap.size (vcells c)
 s:BC W (w.heap.size+1) [.bool s.list, .int .i64 s.i, .string s.key]
 r:BC W (w.heap.size+1+1) (vcells vzero)
 below:Below w.heap.size w W
theorem SB.start (w:World) (c:VC) (s:St) (t1 t2 t3:TypeId):SB w (((w.alloc (.cells #[.int .u8 c.k, .int .i64 c.n, .string c.s, .slice c.la c.ll c.lc, .slice c.oa c.ol c.oc] t1)).alloc (.cells #[.bool s.list, .int .i64 s.i, .string s.key] t2)).alloc (.cells #[.int .u8 0, .int .i64 0, .string { data:= #[] }, .slice none 0 0, .slice none 0 0] t3)) c s:=by
 obtain ⟨w1,hw1⟩:∃w1,w.alloc (.cells #[.int .u8 c.k, .int .i64 c.n, .string c.s, .slice c.la c.ll c.lc, .slice c.oa c.ol c.oc] t1)=w1:=⟨_,rfl⟩
 have s1:w1.heap.size=w.heap.size+1:=by rw [<-hw1,World.size_alloc]
 have b1:Below w.heap.size w w1:=by rw [<-hw1];exact (Below.refl _ _).alloc (Nat.le_refl _) _
 have c1:BC w1 w.heap.size (vcells c):=by rw [<-hw1];exact BC.start w #[.int .u8 c.k, .int .i64 c.n, .string c.s, .slice c.la c.ll c.lc, .slice c.oa c.ol c.oc] t1
 rw [hw1]
 obtain ⟨w2,hw2⟩:∃w2,w1.alloc (.cells #[.bool s.list, .int .i64 s.i, .string s.key] t2)=w2:=⟨_,rfl⟩
 have s2:w2.heap.size=w.heap.size+1+1:=by rw [<-hw2,World.size_alloc,s1]
 have b2:Below w1.heap.size w1 w2:=by rw [<-hw2];exact (Below.refl _ _).alloc (Nat.le_refl _) _
 have c2:=BC.start w1 #[.bool s.list, .int .i64 s.i, .string s.key] t2
 rw [hw2,s1] at c2
 rw [hw2]
 have b3:Below w2.heap.size w2 (w2.alloc (.cells #[.int .u8 0, .int .i64 0, .string { data:= #[] }, .slice none 0 0, .slice none 0 0] t3)):=(Below.refl _ _).alloc (Nat.le_refl _) _
 have c3:=BC.start w2 #[.int .u8 0, .int .i64 0, .string { data:= #[] }, .slice none 0 0, .slice none 0 0] t3
 rw [s2] at c3
 exact ⟨(c1.keep b2 (by omega)).keep b3 (by omega),c2.keep b3 (by omega),c3,(b1.trans (b2.mono (by omega))).trans (b3.mono (by omega))⟩
theorem SB.next {w W W':World} {c:VC} {s:St} (h:SB w W c s) (hb:Below W.heap.size W W'):SB w W' c s:=
 ⟨h.v.keep hb h.v.lt,h.s.keep hb h.s.lt,h.r.keep hb h.r.lt,h.below.trans (hb.mono (Nat.le_of_lt h.v.lt))⟩
theorem SB.stored {w W:World} {c:VC} {s:St} (h:SB w W c s) (d:VC):BC (((((W.setCell ⟨w.heap.size+1+1,0,none⟩ (.int .u8 d.k)).setCell ⟨w.heap.size+1+1,1,none⟩ (.int .i64 d.n)).setCell ⟨w.heap.size+1+1,2,none⟩ (.string d.s)).setCell ⟨w.heap.size+1+1,3,none⟩ (.slice d.la d.ll d.lc)).setCell ⟨w.heap.size+1+1,4,none⟩ (.slice d.oa d.ol d.oc)) (w.heap.size+1+1) (vcells d)/\Below w.heap.size w (((((W.setCell ⟨w.heap.size+1+1,0,none⟩ (.int .u8 d.k)).setCell ⟨w.heap.size+1+1,1,none⟩ (.int .i64 d.n)).setCell ⟨w.heap.size+1+1,2,none⟩ (.string d.s)).setCell ⟨w.heap.size+1+1,3,none⟩ (.slice d.la d.ll d.lc)).setCell ⟨w.heap.size+1+1,4,none⟩ (.slice d.oa d.ol d.oc)):=
 ⟨Yu h.r d,h.below.trans ((Zm W (w.heap.size+1+1) 0 d).below (Nat.le_of_lt h.r.lt)|>.mono (by omega))⟩
set_option maxRecDepth 100000 in
theorem zjj (w:World) (vk vn:Int) (vs:ByteArray) (la:Option Addr) (ll lc:Nat) (oa:Option Addr) (ol oc:Nat) (v:V) (w0:World) (B0:Nat) (hb0:Below B0 w0 w) (hB0:B0<=w.heap.size) (hv:IsVal w0 B0 v ⟨vk,vn,vs,la,ll,lc,oa,ol,oc⟩) (s:St) (hs:s.Bnd) (hl:s.list=true):
 Calls Tryz.prog 98 #[.agg #[.int .u8 vk, .int .i64 vn, .string vs, .slice la ll lc, .slice oa ol oc], .agg #[.bool s.list, .int .i64 s.i, .string s.key]] w (StepPost w0 B0 w (stepP v s)):=by
 obtain ⟨sl,si,sk⟩:=s
 dsimp only at hl hs ⊢
 subst hl
 have hi0:=hs.i0;have hi1:=hs.i1
 dsimp only at hi0 hi1
 obtain ⟨k',n',s',l,o,rfl⟩:=v.eta
 obtain ⟨ek,en,es,hbd,hvl,hvo⟩:=hv.lists
 dsimp only at ek en es hbd hvl hvo
 subst ek en es
 have k1:=hvl.few;have k2:=hvl.max;have k3:=hvo.few;have k4:=hvo.max
 have HL:=qh hvl
 have HO:=qh hvo
 have HLN:=qh hvl.len
 have HON:=qh hvo.len
 have HB:=qh (SB.start w ⟨vk,vn,vs,la,ll,lc,oa,ol,oc⟩ ⟨true,si,sk⟩ 41 100 41)
 obtain ⟨R,hR⟩:∃R,stepP (.mk vk vn vs l o) ⟨true,si,sk⟩=R:=⟨_,rfl⟩
 rw [hR]
 clear hvl hvo hv hs hbd
 by_cases h4:vk=4
 case neg=>
  have f0:(vk !=4)=true:=by simp [h4]
  obtain rfl:R=none:=by rw [<-hR];simp [stepP,V.kd];intro h;omega
  clear hR
  go_enter Tryz.func98,Tryz.ntmps98
  generalize hQ0:bodyPost _ _ _=Q0
  have HQ:=qh hQ0
  clear hQ0
  go_wp2_with fail
  rw [<-HQ.out]
  exact Jc HB.out.r HB.out.below rfl rfl rfl rfl
 case pos=>
  cases h4
  by_cases h5:si<0
  .obtain rfl:R=none:=by rw [<-hR];simp [stepP];omega
   clear hR
   go_enter Tryz.func98,Tryz.ntmps98
   generalize hQ0:bodyPost _ _ _=Q0
   have HQ:=qh hQ0
   clear hQ0
   go_wp2_with fail
   rw [<-HQ.out]
   exact Jc HB.out.r HB.out.below rfl rfl rfl rfl
  .by_cases h6:(ll:Int)<=si
   .obtain rfl:R=none:=by rw [<-hR];simp [stepP,V.ls,V.kd];have:=HLN.out;omega
    clear hR
    go_enter Tryz.func98,Tryz.ntmps98
    generalize hQ0:bodyPost _ _ _=Q0
    have HQ:=qh hQ0
    clear hQ0
    go_wp2_with fail
    rw [<-HQ.out]
    exact Jc HB.out.r HB.out.below rfl rfl rfl rfl
   .obtain ⟨j,rfl⟩:∃j:Nat,si=j:=⟨si.toNat,by omega⟩
    have hj:j<ll:=by omega
    obtain ⟨b,q,f,hp,rfl,hbB,hvf,hI⟩:=HL.out.get hj
    have hvf:=hvf.keep hb0 hbB
    have c0:=hvf.c0;have c1:=hvf.c1;have c2:=hvf.c2;have c3:=hvf.c3;have c4:=hvf.c4
    have hbw:b<w.heap.size:=Nat.lt_of_lt_of_le hbB hB0
    obtain rfl:R=some (l[j],j):=by rw [<-hR];simp [stepP,V.ls,V.kd,hp]
    have HI:=qh hI
    clear hR hI hvf
    go_enter Tryz.func98,Tryz.ntmps98
    generalize hQ0:bodyPost _ _ _=Q0
    have HQ:=qh hQ0
    clear hQ0
    go_wp2_with fail
    have B:=HB.out
    obtain ⟨W,hW⟩:∃W,(((w.alloc (.cells #[.int .u8 4, .int .i64 vn, .string vs, .slice (some ⟨b,q,none⟩) ll lc, .slice oa ol oc] 41)).alloc (.cells #[.bool true, .int .i64 j, .string sk] 100)).alloc (.cells #[.int .u8 0, .int .i64 0, .string { data:= #[] }, .slice none 0 0, .slice none 0 0] 41))=W:=⟨_,rfl⟩
    rw [hW] at B ⊢
    clear HB
    obtain ⟨v0,v1,v2,v3,v4⟩:=row5 B.v.at_
    have s0:=B.s.at_ 0 _ rfl;have s1:=B.s.at_ 1 _ rfl;have s2:=B.s.at_ 2 _ rfl
    obtain ⟨r0,r1,r2,r3,r4⟩:=row5 B.r.at_
    have f0:=B.r.fr 0;have f1:=B.r.fr 1;have f2:=B.r.fr 2;have f3:=B.r.fr 3;have f4:=B.r.fr 4
    have zs0:=B.v.lt;have zs1:=B.s.lt;have zs2:=B.r.lt
    have hkp:∀o u,w.cell? ⟨b,o,none⟩=some u->b<w.heap.size->W.cell? ⟨b,o,none⟩=some u:=fun o u h hb=>Zd B.below h hb
    have c0:=hkp _ _ c0 hbw;have c1:=hkp _ _ c1 hbw;have c2:=hkp _ _ c2 hbw;have c3:=hkp _ _ c3 hbw;have c4:=hkp _ _ c4 hbw
    have hbw:b<W.heap.size:=by have:=B.below.size;omega
    have HBB:=qh B
    clear B hkp
    go_region
    go_wp2_with fail
    rw [<-HQ.out]
    have ST:=HBB.out.stored f
    exact zc1 (k:=j) (ST.1.keep (Zj _) ST.1.lt) HI.out ST.2.drew rfl rfl rfl rfl
set_option maxRecDepth 100000 in
theorem zoz (w:World) (vk vn:Int) (vs:ByteArray) (la:Option Addr) (ll lc:Nat) (oa:Option Addr) (ol oc:Nat) (v:V) (w0:World) (B0:Nat) (hb0:Below B0 w0 w) (hB0:B0<=w.heap.size) (hv:IsVal w0 B0 v ⟨vk,vn,vs,la,ll,lc,oa,ol,oc⟩) (s:St) (hs:s.Bnd) (hl:s.list=false):
 Calls Tryz.prog 98 #[.agg #[.int .u8 vk, .int .i64 vn, .string vs, .slice la ll lc, .slice oa ol oc], .agg #[.bool s.list, .int .i64 s.i, .string s.key]] w (StepPost w0 B0 w (stepP v s)):=by
 obtain ⟨sl,si,sk⟩:=s
 dsimp only at hl hs ⊢
 subst hl
 have hi0:=hs.i0;have hi1:=hs.i1
 dsimp only at hi0 hi1
 obtain ⟨k',n',s',l,o,rfl⟩:=v.eta
 obtain ⟨ek,en,es,hbd,hvl,hvo⟩:=hv.lists
 dsimp only at ek en es hbd hvl hvo
 subst ek en es
 have k1:=hvl.few;have k2:=hvl.max;have k3:=hvo.few;have k4:=hvo.max
 have HL:=qh hvl
 have HO:=qh hvo
 have HLN:=qh hvl.len
 have HON:=qh hvo.len
 have HB:=qh (SB.start w ⟨vk,vn,vs,la,ll,lc,oa,ol,oc⟩ ⟨false,si,sk⟩ 41 100 41)
 obtain ⟨R,hR⟩:∃R,stepP (.mk vk vn vs l o) ⟨false,si,sk⟩=R:=⟨_,rfl⟩
 rw [hR]
 clear hvl hvo hv hs hbd
 have HF:Hid (∀W,Below w.heap.size w W->Calls Tryz.prog 100 #[.agg #[.int .u8 vk, .int .i64 vn, .string vs, .slice la ll lc, .slice oa ol oc], .string sk] W fun e w'=>e= .returned (.tuple #[.int .i64 (fieldK o sk:Int), .bool (fieldIs o sk)])/\Below W.heap.size W w'):=fun W hW=>Yf W o sk vk vn vs la ll lc oa ol oc (((HO.out.keep hb0).more hB0).later_ hW)
 obtain ⟨K,hK⟩:∃K,fieldK o sk=K:=⟨_,rfl⟩
 obtain ⟨is,hi⟩:∃is,fieldIs o sk=is:=⟨_,rfl⟩
 rw [hK,hi] at HF
 by_cases h4:vk=5
 case neg=>
  have f0:(vk !=5)=true:=by simp [h4]
  clear hK hi
  obtain rfl:R=none:=by rw [<-hR];simp [stepP,V.kd,h4]
  clear hR
  go_enter Tryz.func98,Tryz.ntmps98
  generalize hQ0:bodyPost _ _ _=Q0
  have HQ:=qh hQ0
  clear hQ0
  go_wp2_with fail
  refine (HF.out _ HB.out.below).mono ?_
  rintro e W ⟨rfl,hb1⟩
  have B:=HB.out.next hb1
  obtain ⟨v0,v1,v2,v3,v4⟩:=row5 B.v.at_
  have s0:=B.s.at_ 0 _ rfl;have s1:=B.s.at_ 1 _ rfl;have s2:=B.s.at_ 2 _ rfl
  obtain ⟨r0,r1,r2,r3,r4⟩:=row5 B.r.at_
  have f0:=B.r.fr 0;have f1:=B.r.fr 1;have f2:=B.r.fr 2;have f3:=B.r.fr 3;have f4:=B.r.fr 4
  have zs0:=B.v.lt;have zs1:=B.s.lt;have zs2:=B.r.lt
  have HBB:=qh B
  clear B hb1
  go_wp2_with fail
  rw [<-HQ.out]
  have ST:=HBB.out.stored ⟨0,0, { data:= #[] },none,0,0,none,0,0⟩
  exact Jc ST.1 ST.2 rfl rfl rfl rfl
 case pos=>
  cases h4
  cases is with
  | false=>
    clear hK
    obtain rfl:R=none:=by rw [<-hR];simp [stepP,V.os,hi]
    clear hR hi
    go_enter Tryz.func98,Tryz.ntmps98
    generalize hQ0:bodyPost _ _ _=Q0
    have HQ:=qh hQ0
    clear hQ0
    go_wp2_with fail
    refine (HF.out _ HB.out.below).mono ?_
    rintro e W ⟨rfl,hb1⟩
    have B:=HB.out.next hb1
    obtain ⟨v0,v1,v2,v3,v4⟩:=row5 B.v.at_
    have s0:=B.s.at_ 0 _ rfl;have s1:=B.s.at_ 1 _ rfl;have s2:=B.s.at_ 2 _ rfl
    obtain ⟨r0,r1,r2,r3,r4⟩:=row5 B.r.at_
    have f0:=B.r.fr 0;have f1:=B.r.fr 1;have f2:=B.r.fr 2;have f3:=B.r.fr 3;have f4:=B.r.fr 4
    have zs0:=B.v.lt;have zs1:=B.s.lt;have zs2:=B.r.lt
    have HBB:=qh B
    clear B hb1
    go_wp2_with fail
    rw [<-HQ.out]
    have ST:=HBB.out.stored ⟨0,0, { data:= #[] },none,0,0,none,0,0⟩
    exact Jc ST.1 ST.2 rfl rfl rfl rfl
  | true=>
    have hj:K<ol:=by have:=Qn hi;rw [hK, <-HON.out] at this;exact this
    obtain ⟨b,q,f,hp,rfl,hbB,_,_,hvf,hI⟩:=HO.out.get hj
    obtain rfl:R=some (o[K].2,K):=by rw [<-hR];simp [stepP,V.kd,V.os,hK,hi,hp]
    have HI:=qh hI
    have HVF:=qh hvf
    clear hR hI hvf hK hi
    go_enter Tryz.func98,Tryz.ntmps98
    generalize hQ0:bodyPost _ _ _=Q0
    have HQ:=qh hQ0
    clear hQ0
    go_wp2_with fail
    refine (HF.out _ HB.out.below).mono ?_
    rintro e W ⟨rfl,hb1⟩
    have B:=HB.out.next hb1
    obtain ⟨v0,v1,v2,v3,v4⟩:=row5 B.v.at_
    have s0:=B.s.at_ 0 _ rfl;have s1:=B.s.at_ 1 _ rfl;have s2:=B.s.at_ 2 _ rfl
    obtain ⟨r0,r1,r2,r3,r4⟩:=row5 B.r.at_
    have f0:=B.r.fr 0;have f1:=B.r.fr 1;have f2:=B.r.fr 2;have f3:=B.r.fr 3;have f4:=B.r.fr 4
    have zs0:=B.v.lt;have zs1:=B.s.lt;have zs2:=B.r.lt
    have hbw:b<w.heap.size:=Nat.lt_of_lt_of_le hbB hB0
    have hvf:=((HVF.out.keep hb0 hbB).keep HB.out.below hbw).keep hb1 (by have:=HB.out.below.size;omega)
    have c0:=hvf.c0;have c1:=hvf.c1;have c2:=hvf.c2;have c3:=hvf.c3;have c4:=hvf.c4
    have hbw:b<W.heap.size:=World.block_lt_of_cell? W _ c0
    have HBB:=qh B
    clear B hb1 hvf
    go_wp2_with fail
    rw [<-HQ.out]
    have ST:=HBB.out.stored f
    exact zc1 (k:=K) ST.1 HI.out ST.2 rfl rfl rfl rfl
theorem zbd (w:World) (vk vn:Int) (vs:ByteArray) (la:Option Addr) (ll lc:Nat) (oa:Option Addr) (ol oc:Nat) (v:V) (w0:World) (B0:Nat) (hb0:Below B0 w0 w) (hB0:B0<=w.heap.size) (hv:IsVal w0 B0 v ⟨vk,vn,vs,la,ll,lc,oa,ol,oc⟩) (s:St) (hs:s.Bnd):
 Calls Tryz.prog 98 #[.agg #[.int .u8 vk, .int .i64 vn, .string vs, .slice la ll lc, .slice oa ol oc], .agg #[.bool s.list, .int .i64 s.i, .string s.key]] w (StepPost w0 B0 w (stepP v s)):=by
 cases hl:s.list with
 |true=>have:=zjj w vk vn vs la ll lc oa ol oc v w0 B0 hb0 hB0 hv s hs hl;rw [hl] at this;exact this
 |false=>have:=zoz w vk vn vs la ll lc oa ol oc v w0 B0 hb0 hB0 hv s hs hl;rw [hl] at this;exact this
def CopyPost (w:World) (k n:Int) (s:ByteArray) (l:List V) (o:List (ByteArray×V)) (e:Ending) (w':World):Prop:=
 (∃a m c a' m' c' cl co,e= .returned (.agg #[.int .u8 k, .int .i64 n, .string s, .slice a m c, .slice a' m' c'])/\Fresh w' w.heap.size l o a m c a' m' c' cl co)/\Below w.heap.size w w'
structure CL1 (w wr:World) (c0:VC) (l:List V) (j:Nat) (a:Option Addr) (m c:Nat) (xs:List V) (cs:List VC):Prop where
 rd:l.take j=xs
 len:xs.length=j
 cen:cs.length=j
 box:BC wr w.heap.size (vcells c0)
 res:BC wr (w.heap.size+1) (vcells vzero)
 below:Below w.heap.size w wr
 row:RowV wr (w.heap.size+2) (.slice a m c) xs cs
theorem CL1.round {w wr w4 w6 w7:World} {c0:VC} {l:List V} {j:Nat} {a:Option Addr} {m c:Nat} {xs:List V} {cs:List VC} {x:V} {cx:VC} {g cap:Nat}
 (h:CL1 w wr c0 l j a m c xs cs) (hj:j<l.length) (hx:l[j] =x) (hb4:Below wr.heap.size wr w4) (hI:IsVal (only (fun b=>wr.heap.size<=b) w4) w4.heap.size x cx) (hb6:Below w4.heap.size w4 w6)
 (hown:w7.ownsRow (w.heap.size+2) 41 5 (.slice (some ⟨g,0,none⟩) (j+1) cap) (j+1) (cs.flatMap vcells++vcells cx)) (hg:w6.grownBy w7 (Value.slice a m c).ownBlock)
 (hat:(Value.slice a m c).ownBlock=some g∨w4.heap.size<=g):
 CL1 w w7 c0 l (j+1) (some ⟨g,0,none⟩) (j+1) cap (xs++ [x]) (cs++ [cx]):=by
 have hrow:=h.row.later (PV.closed xs cs) (.of_below 0 hb4) (by omega)
 have hrlt:∀b,(Value.slice a m c).ownBlock=some b->w.heap.size+2<=b/\b<wr.heap.size:=h.row.lt
 have hsz:=h.box.lt
 have hsr:=h.res.lt
 have hsz4:=hb4.size
 have hsz6:=hb6.size
 have hgb:Below (w.heap.size+2) w6 w7:=Zi hg (fun b hb=>(hrlt b hb).1) (by omega)
 have hb67:Below (w.heap.size+2) w4 w7:=(hb6.mono (by omega)).trans hgb
 obtain ⟨s1,s2⟩:=PV.snoc (l:=xs) (cs:=cs) (by rw [h.len,h.cen]) x cx
 have hnew:PV (xs++ [x]) (cs++ [cx]) (only (Free (w.heap.size+2) (.slice a m c)) w4) w4.heap.size xs.length:=s1 _ _ (hI.sub (Zf fun b hb _=>⟨⟨by omega,fun e=>by have:=(hrlt b e.symm).2;omega⟩,rfl⟩))
 have hpush:=Row.push (PV.closed (xs++ [x]) (cs++ [cx])) hrow hb6 hg (u':= .slice (some ⟨g,0,none⟩) (j+1) cap) (news:=vcells cx) (by rw [h.len];exact hown) (by
  rcases hat with e|e
  .left;rw [e];rfl
  .right;intro b hb;have:g=b:=by simpa [Value.ownBlock] using hb
   omega) hnew s2
 refine ⟨?_,by simp [h.len],by simp [h.cen],(h.box.keep hb4 (by omega)).keep hb67 (by omega),(h.res.keep hb4 (by omega)).keep hb67 (by omega),(h.below.trans (hb4.mono (by omega))).trans (hb67.mono (by omega)), ?_⟩
 .rw [Zv l j hj,h.rd,hx]
 .show Row _ _ _ _ _ _ _ _
  rw [Xb,List.length_append,List.length_singleton]
  exact hpush
structure CL2 (w1 wr:World) (o:List (ByteArray×V)) (j:Nat) (a:Option Addr) (m c:Nat) (xs:List (ByteArray×V)) (cs:List (ByteArray×VC)):Prop where
 rd:o.take j=xs
 len:xs.length=j
 cen:cs.length=j
 pos:0<w1.heap.size
 below:Below w1.heap.size w1 wr
 row:RowF wr w1.heap.size (.slice a m c) xs cs
theorem CL2.round {w1 wr w4 w6 w7:World} {o:List (ByteArray×V)} {j:Nat} {a:Option Addr} {m c:Nat} {xs:List (ByteArray×V)} {cs:List (ByteArray×VC)} {sk:ByteArray} {x:V} {cx:VC} {g cap:Nat}
 (h:CL2 w1 wr o j a m c xs cs) (hj:j<o.length) (hk:o[j].1=sk) (hx:o[j].2=x) (hks:sk.size<=140737488355328) (hb4:Below wr.heap.size wr w4) (hI:IsVal (only (fun b=>wr.heap.size<=b) w4) w4.heap.size x cx) (hb6:Below w4.heap.size w4 w6)
 (hown:w7.ownsRow w1.heap.size 98 6 (.slice (some ⟨g,0,none⟩) (j+1) cap) (j+1) (cs.flatMap fcells++fcells (sk,cx))) (hg:w6.grownBy w7 (Value.slice a m c).ownBlock)
 (hat:(Value.slice a m c).ownBlock=some g∨w4.heap.size<=g):
 CL2 w1 w7 o (j+1) (some ⟨g,0,none⟩) (j+1) cap (xs++ [(sk,x)]) (cs++ [(sk,cx)]):=by
 have hsz:=h.below.size
 have hrow:=h.row.later (rb:=0) (PF.closed xs cs) (.of_below _ hb4) h.pos
 have hrlt:∀b,(Value.slice a m c).ownBlock=some b->w1.heap.size<=b/\b<wr.heap.size:=h.row.lt
 have hsz4:=hb4.size
 have hsz6:=hb6.size
 have hgb:Below w1.heap.size w6 w7:=Zi hg (fun b hb=>(hrlt b hb).1) (by omega)
 have hb67:Below w1.heap.size w4 w7:=(hb6.mono (by omega)).trans hgb
 obtain ⟨s1,s2⟩:=PF.snoc (l:=xs) (cs:=cs) (by rw [h.len,h.cen]) sk hks x cx
 have hnew:PF (xs++ [(sk,x)]) (cs++ [(sk,cx)]) (only (Free w1.heap.size (.slice a m c)) w4) w4.heap.size xs.length:=s1 _ _ (hI.sub (Zf fun b hb _=>⟨⟨by omega,fun e=>by have:=(hrlt b e.symm).2;omega⟩,rfl⟩))
 have hpush:=Row.push (PF.closed (xs++ [(sk,x)]) (cs++ [(sk,cx)])) hrow hb6 hg (u':= .slice (some ⟨g,0,none⟩) (j+1) cap) (news:=fcells (sk,cx)) (by rw [h.len];exact hown) (by
  rcases hat with e|e
  .left;rw [e];rfl
  .right;intro b hb;have:g=b:=by simpa [Value.ownBlock] using hb
   omega) hnew s2
 refine ⟨?_,by simp [h.len],by simp [h.cen],h.pos,(h.below.trans (hb4.mono (by omega))).trans hb67, ?_⟩
 .rw [Zv o j hj,h.rd, <-hk, <-hx]
 .show Row _ _ _ _ _ _ _ _
  rw [Xb,List.length_append,List.length_singleton]
  exact hpush
theorem CL2.behind {w1 wr W:World} {o:List (ByteArray×V)} {j:Nat} {a:Option Addr} {m c:Nat} {xs:List (ByteArray×V)} {cs:List (ByteArray×VC)} (h:CL2 w1 wr o j a m c xs cs) (hb:Below wr.heap.size wr W):CL2 w1 W o j a m c xs cs:=
 ⟨h.rd,h.len,h.cen,h.pos,h.below.trans (hb.mono h.below.size),h.row.later (rb:=0) (PF.closed xs cs) (.of_below _ hb) h.pos⟩
theorem zjh {w w1 wr W:World} {c0:VC} {l:List V} {o:List (ByteArray×V)} {j j':Nat} {a:Option Addr} {m c:Nat} {xs:List V} {cs:List VC} {a':Option Addr} {m' c':Nat} {xs':List (ByteArray×V)} {cs':List (ByteArray×VC)}
 (h1:CL1 w w1 c0 l j a m c xs cs) (h2:CL2 w1 wr o j' a' m' c' xs' cs') (hj:l.length<=j) (hj':o.length<=j') (few:l.length<=1466015503701) (few':o.length<=1466015503701) (hWs:wr.heap.size<=W.heap.size) (hWb:∀k,k<wr.heap.size->k≠w.heap.size->k≠w.heap.size+1->W.heap[k]? =wr.heap[k]?):Fresh W w.heap.size l o a m c a' m' c' cs cs':=by
 have e1:xs=l:=by rw [<-h1.rd,List.take_of_length_le hj]
 have e2:xs'=o:=by rw [<-h2.rd,List.take_of_length_le hj']
 have hl:=h1.len
 have hl':=h2.len
 have hc:=h1.cen
 have hc':=h2.cen
 subst e1 e2
 have hsz:=h1.box.lt
 have hsr:=h1.res.lt
 have hlt1:∀b,(Value.slice a m c).ownBlock=some b->w.heap.size+2<=b/\b<w1.heap.size:=h1.row.lt
 have hlt2:∀b,(Value.slice a' m' c').ownBlock=some b->w1.heap.size<=b/\b<wr.heap.size:=h2.row.lt
 have hszr:=h2.below.size
 have hkeep:∀k,k<w1.heap.size->w.heap.size+2<=k->W.heap[k]? =w1.heap[k]? :=fun k hk hne=>(hWb k (by omega) (by omega) (by omega)).trans (h2.below.block k hk)
 have o1:W.ownsRow (w.heap.size+2) 41 5 (.slice a m c) xs.length (cs.flatMap vcells):=by
  refine ⟨h1.row.own.1, ?_⟩
  rcases h1.row.own.2 with hn|⟨g,cap,cur,e,hb,hg,rest⟩
  .exact .inl hn
  .have hgl:=(hlt1 g (by rw [e];rfl)).2
   exact .inr ⟨g,cap,cur,e,hb,(hkeep g hgl hb).trans hg,rest⟩
 have o2:W.ownsRow w1.heap.size 98 6 (.slice a' m' c') xs'.length (cs'.flatMap fcells):=by
  refine ⟨h2.row.own.1, ?_⟩
  rcases h2.row.own.2 with hn|⟨g,cap,cur,e,hb,hg,rest⟩
  .exact .inl hn
  .have hgl:=(hlt2 g (by rw [e];rfl)).2
   exact .inr ⟨g,cap,cur,e,hb,(hWb g hgl (by omega) (by omega)).trans hg,rest⟩
 obtain ⟨_,_,q1,r1⟩:=OwnRow.of (base':=w.heap.size) o1 (by omega)
 obtain ⟨_,_,q2,r2⟩:=OwnRow.of (base':=w.heap.size) o2 (by omega)
 injection q1 with z1 z2 z3
 injection q2 with z1' z2' z3'
 subst z1 z2 z3 z1' z2' z3'
 refine ⟨rfl,rfl,by omega,by omega,few,few',r1,r2,fun g e1 e2=> ?_,fun i hi=>PV.closed _ _ _ _ _ _ i (Zf fun k hk hlt=>⟨⟨by have:=hk.1;omega,hk.2,fun e=>by have:=(hlt2 k e.symm).1;omega⟩,hkeep k hlt hk.1⟩) (Nat.le_trans hszr hWs) (h1.row.els i hi),fun i hi=>PF.closed _ _ _ _ _ _ i (Zf fun k hk hlt=>⟨⟨by have:=hk.1;omega,fun e=>by have:=(hlt1 k e.symm).2;have:=hk.1;omega,hk.2⟩,hWb k hlt (by have:=hk.1;omega) (by have:=hk.1;omega)⟩) hWs (h2.row.els i hi)⟩
 have:=(hlt1 g e1).2;have:=(hlt2 g e2).1;omega
end Go.Proofs.YtfoahkbnheijcaaGreatDoor
