/-
  Contracts of the functions that the law reaches: conciliatorlaw06.plain. one: what stands.
-/
import Derived.Test.YtnjgbiachcfigaaGreatDoorCt12
namespace Go.Proofs.YtnjgbiachcfigaaGreatDoor
open Go.RowKit
set_option maxHeartbeats 8000000
set_option maxRecDepth 100000 in
theorem Xe (w:World) (s:ByteArray) (hs:s.size<=140737488355328):
 Calls Tryz.prog 74 #[.string s] w fun e w'=>e= .returned (.string (plainS s))/\Below w.heap.size w w':=by
 obtain ⟨i0,hi0,hz0,hz1,hz2⟩:=info_parts zcx
 have hsz:s.data.toList.length=s.size:=Array.length_toList
 have HS:=qh hsz
 clear hsz
 go_enter Tryz.func74,Tryz.ntmps74
 go_wp2_with fail
 go_loopw [3,4] (fun u i wr=>∃(j:Nat) (a:Option Addr) (m c:Nat),j<=40/\j<=s.size/\i= .int .i64 j/\u= .slice a m c/\PH w wr s j (.slice a m c)) (fun _ i _=>40 - (intOf i).toNat)
 case atStart=>exact ⟨0,none,0,0,by omega,Nat.zero_le _,rfl,rfl,⟨⟨by simp [outs], .inl ⟨rfl,rfl⟩⟩,Below.refl _ _⟩⟩
 case round=>
  obtain ⟨j,a,m,c,hj,hj2,rfl,rfl,L⟩:=hrel
  have hlen:=HS.out
  by_cases h1:j<s.size
  .by_cases h2:j<40
   .have hgb:s.data.toList[j]'(by omega)=s[j]'h1:=by simp [ByteArray.getElem_eq_getElem_data]
    have hsn:=zbt s.data.toList j (by omega)
    rw [hgb] at hsn
    have HSN:=qh hsn
    have hrlt:∀b,(Value.slice a m c).ownBlock=some b->w.heap.size<=b/\b<wr.heap.size:=L.own.lt
    have hb:=L.below.size
    have LL:=qh L
    have ho:=L.own
    clear hsn hgb L
    go_wp2_with (at_builtin;refine wpList_append_lies _ rfl (.tmp 15) (.tmp 20) 23 (by rfl) w.heap.size 5 i0 _ 1 1 Tryz.underlying23 hi0 hz0 hz1 hz2 rfl (by omega) (.slice a m c) j (outs ((s.data.toList.take j).map low)) (by rfl) (ho.alloc _) ⟨wr.heap.size,0,none⟩ 1 1 [.int .u8 ((s[j]'h1).toNat % 128:Int)] (by rfl) (by rfl) (World.news_of_block (cs:= #[.int .u8 ((s[j]'h1).toNat % 128:Int)]) (t:=5) (fr:=(0,0)) (heap_alloc_new wr _)) (by simp [Value.oneCell']) (by omega) (by unfold maxLen;omega) (by omega) (by simp;omega) (wr.heap.size+1) (by simp) ?_;intro g cap w7 hown7 hgrow7 hat7 hlt7)
    go_roundw
    case rel=>
     refine ⟨j+1,some ⟨g,0,none⟩,j+1,cap,by omega,by omega,by go_num,rfl,⟨?_, ?_⟩⟩
     .rw [HSN.out,za5]
      have e:outs [low (s[j]'h1)] = [.int .u8 ((s[j]'h1).toNat % 128:Int)] :=by simp [outs,K0]
      rw [e];exact hown7
     .exact (LL.out.below.trans (((Below.refl _ _).alloc (Nat.le_refl _) _).mono hb)).trans (Zj hgrow7 (fun k hk=>(hrlt k hk).1) (by simp;omega))
    case measure=>simp [intOf];omega
   .obtain ⟨a2,n2,c2,hv2,hI⟩:=Qy (bs:=(s.data.toList.take j).map low) (by rw [List.length_map,List.length_take,Nat.min_eq_left (by omega)];exact L.own)
    injection hv2 with h3 h4 h5;subst h3 h4 h5
    have hcv:=Qv hI
    have LL:=qh L
    have hp:((s.data.toList.take j).map low)=plainL s.data.toList:=by rw [plainL,show j=40 by omega]
    rw [hp] at hcv
    clear hI L hp
    go_wp2_with fail
    go_returns
    exact ⟨rfl,LL.out.below⟩
  .obtain ⟨a2,n2,c2,hv2,hI⟩:=Qy (bs:=(s.data.toList.take j).map low) (by rw [List.length_map,List.length_take,Nat.min_eq_left (by omega)];exact L.own)
   injection hv2 with h3 h4 h5;subst h3 h4 h5
   have hcv:=Qv hI
   have LL:=qh L
   have hp:((s.data.toList.take j).map low)=plainL s.data.toList:=by rw [plainL,List.take_of_length_le (by omega),List.take_of_length_le (by omega)]
   rw [hp] at hcv
   clear hI L hp
   go_wp2_with fail
   go_returns
   exact ⟨rfl,LL.out.below⟩
theorem QR.start2 (w:World) (t:Tk) (c:VC) (t1 t2 t3:TypeId) (W:World) (hW:W=((w.alloc (.cells #[.int .u8 0, .int .i64 0, .string { data:= #[] }, .slice none 0 0, .slice none 0 0] t1)).alloc (.cells #[.int .u8 t.k, .int .i64 t.n, .string t.s, .int .u8 t.m] t2)).alloc (.cells #[.int .u8 c.k, .int .i64 c.n, .string c.s, .slice c.la c.ll c.lc, .slice c.oa c.ol c.oc] t3)):
 QR w W t c/\W.heap.size=w.heap.size+3:=by
 obtain ⟨w1,hw1⟩:∃w1,w.alloc (.cells #[.int .u8 0, .int .i64 0, .string { data:= #[] }, .slice none 0 0, .slice none 0 0] t1)=w1:=⟨_,rfl⟩
 have s1:w1.heap.size=w.heap.size+1:=by rw [<-hw1,World.size_alloc]
 have b1:Below w.heap.size w w1:=by rw [<-hw1];exact (Below.refl _ _).alloc (Nat.le_refl _) _
 have c1:BC w1 w.heap.size [.int .u8 0, .int .i64 0, .string { data:= #[] }, .slice none 0 0, .slice none 0 0] :=by rw [<-hw1];exact BC.start w #[.int .u8 0, .int .i64 0, .string { data:= #[] }, .slice none 0 0, .slice none 0 0] t1
 rw [hw1] at hW
 obtain ⟨w2,hw2⟩:∃w2,w1.alloc (.cells #[.int .u8 t.k, .int .i64 t.n, .string t.s, .int .u8 t.m] t2)=w2:=⟨_,rfl⟩
 have s2:w2.heap.size=w.heap.size+2:=by rw [<-hw2,World.size_alloc,s1]
 have b2:Below w1.heap.size w1 w2:=by rw [<-hw2];exact (Below.refl _ _).alloc (Nat.le_refl _) _
 have c2:=BC.start w1 #[.int .u8 t.k, .int .i64 t.n, .string t.s, .int .u8 t.m] t2
 rw [hw2,s1] at c2
 rw [hw2] at hW
 subst hW
 have b3:Below w2.heap.size w2 (w2.alloc (.cells #[.int .u8 c.k, .int .i64 c.n, .string c.s, .slice c.la c.ll c.lc, .slice c.oa c.ol c.oc] t3)):=(Below.refl _ _).alloc (Nat.le_refl _) _
 have c3:=BC.start w2 #[.int .u8 c.k, .int .i64 c.n, .string c.s, .slice c.la c.ll c.lc, .slice c.oa c.ol c.oc] t3
 rw [s2] at c3
 exact ⟨⟨(c1.keep b2 (by omega)).keep b3 (by omega),c2.keep b3 (by omega),c3,(b1.trans (b2.mono (by omega))).trans (b3.mono (by omega))⟩,by rw [World.size_alloc,s2]⟩
theorem zfm {tmps:Array Value} {W:World} {b:Nat} {c:VC} {x:Value} (ht:tmps[4]? =some (.pointer (some ⟨b,0,none⟩))) (ht':tmps[5]? =some x) (h:BC W b (vcells c)):
 (results Tryz.f36 tmps).run Tryz.prog W= .ok (.tuple #[.agg #[.int .u8 c.k, .int .i64 c.n, .string c.s, .slice c.la c.ll c.lc, .slice c.oa c.ol c.oc],x]) W:=by
 obtain ⟨r0,r1,r2,r3,r4⟩:=(⟨h.at_ 0 _ rfl,h.at_ 1 _ rfl,h.at_ 2 _ rfl,h.at_ 3 _ rfl,h.at_ 4 _ rfl⟩:W.cell? ⟨b,0,none⟩=some (.int .u8 c.k)/\W.cell? ⟨b,1,none⟩=some (.int .i64 c.n)/\W.cell? ⟨b,2,none⟩=some (.string c.s)/\W.cell? ⟨b,3,none⟩=some (.slice c.la c.ll c.lc)/\W.cell? ⟨b,4,none⟩=some (.slice c.oa c.ol c.oc))
 simp [results,Tryz.results36,go_sem,ht,ht',r0,r1,r2,r3,r4]
theorem Yw {w W:World} {c:VC} {r:V×Nat} {a:Act} (h:BC W w.heap.size (vcells c)) (hb:Below w.heap.size w W) (hv:IsVal (only (fun b=>w.heap.size<=b) W) W.heap.size r.1 c) (hd:a.defers= []) (ht:a.tmps[4]? =some (.pointer (some ⟨w.heap.size,0,none⟩))) (ht':a.tmps[5]? =some (.int .i64 (r.2:Int))):
 bodyPost Tryz.prog Tryz.f36 (RawPost w r) .ret a W:=
 ⟨hd,_,zfm ht ht' h,⟨c,rfl,hv⟩,hb⟩
structure BLL (w wr:World) (d:Nat) (l:List Tk) (t:Tk) (j:Nat) (a:Option Addr) (m c:Nat) (xs:List V) (cs:List VC) (u:Nat):Prop where
 rd:bL (oneP d) l j=(xs,u)
 len:xs.length=j
 cen:cs.length=j
 box:QR w wr t ⟨4,0, .empty,a,m,c,none,0,0⟩
 row:RowV wr (w.heap.size+3) (.slice a m c) xs cs
theorem BLL.round {w wr w4 w6 w7:World} {d:Nat} {l:List Tk} {t:Tk} {j:Nat} {a:Option Addr} {m c:Nat} {xs:List V} {cs:List VC} {u:Nat} {x:V} {q:Nat} {cx:VC} {g cap:Nat}
 (h:BLL w wr d l t j a m c xs cs u) (hx:oneP d (l.drop u)=(x,q)) (hb4:Below wr.heap.size wr w4) (hI:IsVal (only (fun b=>wr.heap.size<=b) w4) w4.heap.size x cx) (hb6:Below w4.heap.size w4 w6)
 (hown:w7.ownsRow (w.heap.size+3) 36 5 (.slice (some ⟨g,0,none⟩) (j+1) cap) (j+1) (cs.flatMap vcells++vcells cx)) (hg:w6.grownBy w7 (Value.slice a m c).ownBlock)
 (hat:(Value.slice a m c).ownBlock=some g∨w4.heap.size<=g):
 BLL w (w7.setCell ⟨w.heap.size+2,3,none⟩ (.slice (some ⟨g,0,none⟩) (j+1) cap)) d l t (j+1) (some ⟨g,0,none⟩) (j+1) cap (xs++ [x]) (cs++ [cx]) (u+q):=by
 have hrow:=h.row.later (PV.closed xs cs) (.of_below 0 hb4) (by omega)
 have hrlt:∀b,(Value.slice a m c).ownBlock=some b->w.heap.size+3<=b/\b<wr.heap.size:=h.row.lt
 have hsz:=h.box.val.lt
 have hsz4:=hb4.size
 have hsz6:=hb6.size
 have hgb:Below (w.heap.size+3) w6 w7:=Zj hg (fun b hb=>(hrlt b hb).1) (by omega)
 have hb67:Below (w.heap.size+3) w4 w7:=(hb6.mono (by omega)).trans hgb
 obtain ⟨s1,s2⟩:=PV.snoc (l:=xs) (cs:=cs) (by rw [h.len,h.cen]) x cx
 have hnew:PV (xs++ [x]) (cs++ [cx]) (only (Free (w.heap.size+3) (.slice a m c)) w4) w4.heap.size xs.length:=s1 _ _ (hI.sub (Ze fun b hb _=>⟨⟨by omega,fun e=>by have:=(hrlt b e.symm).2;omega⟩,rfl⟩))
 have hpush:=Row.push (PV.closed (xs++ [x]) (cs++ [cx])) hrow hb6 hg (u':= .slice (some ⟨g,0,none⟩) (j+1) cap) (news:=vcells cx) (by rw [h.len];exact hown) (by
  rcases hat with e|e
  .left;rw [e];rfl
  .right;intro b hb;have:g=b:=by simpa [Value.ownBlock] using hb
   omega) hnew s2
 have hbox:=(h.box.next hb4).below_ hb67 (Nat.le_refl _)
 refine ⟨?_,by simp [h.len],by simp [h.cen], ?_, ?_⟩
 .rw [bL,h.rd]
  dsimp only
  rw [hx]
 .exact ⟨hbox.res.far (by omega),hbox.tok.far (by omega),hbox.val.set (i:=3) (x:= .slice (some ⟨g,0,none⟩) (j+1) cap) (by simp [vcells]),hbox.below.trans ((RStep.self (b:=w.heap.size+2) (o:=3)).below (by have:=hbox.val.lt;omega)|>.mono (by omega))⟩
 .have hr2:RowV w7 (w.heap.size+3) (.slice (some ⟨g,0,none⟩) (j+1) cap) (xs++ [x]) (cs++ [cx]):=by
   show Row _ _ _ _ _ _ _ _
   rw [Xv,List.length_append,List.length_singleton]
   exact hpush
  exact hr2.set (PV.closed (xs++ [x]) (cs++ [cx])) (by omega)
structure BLO (w wr:World) (d:Nat) (l:List Tk) (t:Tk) (j:Nat) (a:Option Addr) (m c:Nat) (o:List (ByteArray×V)) (u:Nat):Prop where
 rd:bO (oneP d) l j=(o,u)
 box:QR w wr t ⟨5,0, .empty,none,0,0,a,m,c⟩
 neat:Neat a m c
 fld:IsFields (only (fun k=>w.heap.size+3<=k) wr) wr.heap.size o a m c
theorem IsFields.far {W W':World} {b base:Nat} {l:List (ByteArray×V)} {a:Option Addr} {n c:Nat} (h:IsFields (only (fun k=>base<=k) W) W.heap.size l a n c) (s:RStep W W' b) (hb:b<base):IsFields (only (fun k=>base<=k) W') W'.heap.size l a n c:=
 (IsFields.sub (Ze fun k hk hl=>⟨hk,s.block k hl (by omega)⟩) h).more s.size
theorem IsFields.behind {W W':World} {base:Nat} {l:List (ByteArray×V)} {a:Option Addr} {n c:Nat} (h:IsFields (only (fun k=>base<=k) W) W.heap.size l a n c) (hb:Below W.heap.size W W'):IsFields (only (fun k=>base<=k) W') W'.heap.size l a n c:=
 (IsFields.sub (Ze fun k hk hl=>⟨hk,hb.block k hl⟩) h).more hb.size
theorem BLO.round {w wr w5 w6:World} {d:Nat} {l:List Tk} {t:Tk} {j:Nat} {a:Option Addr} {m c:Nat} {o:List (ByteArray×V)} {u:Nat} {x:V} {q:Nat} {a':Option Addr} {m' c':Nat} {key:ByteArray}
 (h:BLO w wr d l t j a m c o u) (hx:oneP d (l.drop u)=(x,q)) (hk:keyP l u=key) (hb5:Below wr.heap.size wr w5) (hb6:Below w5.heap.size w5 w6)
 (hf:IsFields (only (fun b=>w.heap.size+3<=b) w6) w6.heap.size (withF o key x) a' m' c') (hne:Neat a' m' c'):
 BLO w (w6.setCell ⟨w.heap.size+2,4,none⟩ (.slice a' m' c')) d l t (j+1) a' m' c' (withF o key x) (u+q):=by
 have hbox:=(h.box.next hb5).next hb6
 have hsz:=hbox.val.lt
 refine ⟨?_, ?_,hne,hf.far (RStep.self (b:=w.heap.size+2) (o:=4)) (by omega)⟩
 .rw [bO,h.rd]
  dsimp only
  rw [hx,hk]
 .exact ⟨hbox.res.far (by omega),hbox.tok.far (by omega),hbox.val.set (i:=4) (x:= .slice a' m' c') (by simp [vcells]),hbox.below.trans ((RStep.self (b:=w.heap.size+2) (o:=4)).below (by omega)|>.mono (by omega))⟩
theorem zib {w:World} {B:Nat} {o:List (ByteArray×V)} {a:Option Addr} {n c:Nat} (h:IsFields w B o a n c) (k:Int) (hk0:0<=k) (hk1:k<256):IsVal w B (.mk k 0 .empty [] o) ⟨k,0, .empty,none,0,0,a,n,c⟩:=
 IsVal.of_lists (c:=⟨k,0, .empty,none,0,0,a,n,c⟩) (l:= []) ⟨hk0,hk1,(by decide:(-9223372036854775808:Int)<=0),(by decide:(0:Int)<=9223372036854775807),(by decide:ByteArray.empty.size<=140737488355328),(by decide:(0:Nat)<=0),(by decide:(0:Nat)<=9223372036854775807),(by decide:(0:Nat)<=1466015503701),h.cap,h.max,h.few⟩ ⟨rfl,(by decide:(0:Nat)<=0),(by decide:(0:Nat)<=9223372036854775807),(by decide:(0:Nat)<=1466015503701),0,0,fun _=>vzero,fun h=>absurd h (Nat.lt_irrefl 0),fun i h=>absurd h (by simp)⟩ h
theorem zf6 (w:World) (B:Nat):IsFields w B [] none 0 0:=
 ⟨rfl,Nat.le_refl _,by omega,by omega,0,0,fun _=>vzero,fun h=>absurd h (by omega),fun i h=>absurd h (by simp)⟩
theorem zhw (x:Int):bits BinOp.and IntKind.i64 x 1=x % 2:=by
 have h:bits BinOp.and IntKind.i64 x 1=IntKind.i64.wrap (((BitVec.ofInt 64 x &&& BitVec.ofInt 64 1).toNat:Nat):Int):=rfl
 have e:(BitVec.ofInt 64 1).toNat=1:=by decide
 rw [h,BitVec.toNat_and,e,Nat.and_one_is_mod,BitVec.toNat_ofInt,IntKind.wrap_i64]
 have e2:((2 ^ 64:Nat):Int)=18446744073709551616:=by decide
 rw [e2]
 omega
set_option maxRecDepth 100000 in
theorem K5 (w:World) (dd:Int) (a:Option Addr) (c:Nat):
 Calls Tryz.prog 36 #[.slice a 0 c, .int .i64 dd] w (RawPost w (V.none,0)):=by
 go_enter Tryz.func36,Tryz.ntmps36
 generalize hQ0:bodyPost _ _ _=Q0
 have HQ:=qh hQ0
 clear hQ0
 go_wp2_with fail
 rw [<-HQ.out]
 exact Yw (c:=vzero) (BC.start w #[.int .u8 0, .int .i64 0, .string { data:= #[] }, .slice none 0 0, .slice none 0 0] _) ((Below.refl _ _).alloc (Nat.le_refl _) _) (Zx _ _) rfl rfl rfl
set_option maxRecDepth 100000 in
theorem zeu (w:World) (dd:Int) (t:Tk) (r:List Tk) (a:Option Addr) (n c:Nat) (h:IsToks w w.heap.size (t::r) a n c) (hk:t.k % 6=0):
 Calls Tryz.prog 36 #[.slice a n c, .int .i64 dd] w (RawPost w (leafP t,1)):=by
 obtain ⟨b,o,hp,rfl,hb,htk,hbd⟩:=h.get (k:=0) (by have:=h.len;rw [this];simp)
 have ht:TkAt w b o t:=by simpa using htk
 replace hbd:t.Bnd:=by simpa using hbd
 have c0:=ht.c0;have c1:=ht.c1;have c2:=ht.c2;have c3:=ht.c3
 have b2:=hbd.m0;have b3:=hbd.m1
 have hnp:0<n:=by rw [h.len];simp
 have hne:((n:Int)==0)=false:=by simp;omega
 have hk2:Int.tmod t.k 6=0:=by rw [Int.tmod_eq_emod_of_nonneg hbd.k0];exact hk
 have HBD:=qh hbd
 have hR:leafP t=V.none:=by rw [leafP];simp [hk]
 have HR:=qh hR
 have hz:=BC.start w #[.int .u8 0, .int .i64 0, .string { data:= #[] }, .slice none 0 0, .slice none 0 0] 36
 have hb2:Below w.heap.size w (w.alloc (.cells #[.int .u8 0, .int .i64 0, .string { data:= #[] }, .slice none 0 0, .slice none 0 0] 36)):=(Below.refl _ _).alloc (Nat.le_refl _) _
 have HZ:=qh hz
 have HB2:=qh hb2
 rw [hR]
 clear h ht htk hp hbd hk hR hz hb2
 go_enter Tryz.func36,Tryz.ntmps36
 generalize hQ0:bodyPost _ _ _=Q0
 have HQ:=qh hQ0
 clear hQ0
 go_wp2_with fail
 rw [<-HQ.out]
 have A:=BC.start w #[.int .u8 0, .int .i64 0, .string { data:= #[] }, .slice none 0 0, .slice none 0 0] 36
 have B1:Below w.heap.size w (w.alloc (.cells #[.int .u8 0, .int .i64 0, .string { data:= #[] }, .slice none 0 0, .slice none 0 0] 36)):=(Below.refl _ _).alloc (Nat.le_refl _) _
 exact Yw (c:=⟨0,0, .empty,none,0,0,none,0,0⟩) (A.keep ((Below.refl _ _).alloc (Nat.le_refl _) _) A.lt) (B1.alloc B1.size _) (Zx _ _) rfl rfl rfl
set_option maxRecDepth 100000 in
theorem zft (w:World) (dd:Int) (t:Tk) (r:List Tk) (a:Option Addr) (n c:Nat) (h:IsToks w w.heap.size (t::r) a n c) (hk:t.k % 6=1):
 Calls Tryz.prog 36 #[.slice a n c, .int .i64 dd] w (RawPost w (leafP t,1)):=by
 obtain ⟨b,o,hp,rfl,hb,htk,hbd⟩:=h.get (k:=0) (by have:=h.len;rw [this];simp)
 have ht:TkAt w b o t:=by simpa using htk
 replace hbd:t.Bnd:=by simpa using hbd
 have c0:=ht.c0;have c1:=ht.c1;have c2:=ht.c2;have c3:=ht.c3
 have b2:=hbd.m0;have b3:=hbd.m1
 have hnp:0<n:=by rw [h.len];simp
 have hne:((n:Int)==0)=false:=by simp;omega
 have hk2:Int.tmod t.k 6=1:=by rw [Int.tmod_eq_emod_of_nonneg hbd.k0];exact hk
 have HBD:=qh hbd
 have hR:leafP t=V.mk 1 (t.n % 2) .empty [] [] :=by rw [leafP];simp [hk]
 have HR:=qh hR
 have hz:=BC.start w #[.int .u8 0, .int .i64 0, .string { data:= #[] }, .slice none 0 0, .slice none 0 0] 36
 have hb2:Below w.heap.size w (w.alloc (.cells #[.int .u8 0, .int .i64 0, .string { data:= #[] }, .slice none 0 0, .slice none 0 0] 36)):=(Below.refl _ _).alloc (Nat.le_refl _) _
 have HZ:=qh hz
 have HB2:=qh hb2
 rw [hR]
 clear h ht htk hp hbd hk hR hz hb2
 go_enter Tryz.func36,Tryz.ntmps36
 generalize hQ0:bodyPost _ _ _=Q0
 have HQ:=qh hQ0
 clear hQ0
 go_wp2_with fail
 rw [zhw]
 rw [<-HQ.out]
 have A:=BC.start w #[.int .u8 1, .int .i64 (t.n % 2), .string { data:= #[] }, .slice none 0 0, .slice none 0 0] 36
 have B1:Below w.heap.size w (w.alloc (.cells #[.int .u8 1, .int .i64 (t.n % 2), .string { data:= #[] }, .slice none 0 0, .slice none 0 0] 36)):=(Below.refl _ _).alloc (Nat.le_refl _) _
 exact Yw (c:=⟨1,t.n % 2, .empty,none,0,0,none,0,0⟩) (A.keep ((Below.refl _ _).alloc (Nat.le_refl _) _) A.lt) (B1.alloc B1.size _) (X8 _ _ _ _ _ (by omega) (by omega) (by omega) (by omega) (by decide)) rfl rfl rfl
set_option maxRecDepth 100000 in
theorem zf5 (w:World) (dd:Int) (t:Tk) (r:List Tk) (a:Option Addr) (n c:Nat) (h:IsToks w w.heap.size (t::r) a n c) (hk:t.k % 6=2):
 Calls Tryz.prog 36 #[.slice a n c, .int .i64 dd] w (RawPost w (leafP t,1)):=by
 obtain ⟨b,o,hp,rfl,hb,htk,hbd⟩:=h.get (k:=0) (by have:=h.len;rw [this];simp)
 have ht:TkAt w b o t:=by simpa using htk
 replace hbd:t.Bnd:=by simpa using hbd
 have c0:=ht.c0;have c1:=ht.c1;have c2:=ht.c2;have c3:=ht.c3
 have b2:=hbd.m0;have b3:=hbd.m1
 have hnp:0<n:=by rw [h.len];simp
 have hne:((n:Int)==0)=false:=by simp;omega
 have hk2:Int.tmod t.k 6=2:=by rw [Int.tmod_eq_emod_of_nonneg hbd.k0];exact hk
 have HBD:=qh hbd
 have hR:leafP t=V.mk 2 t.n .empty [] [] :=by rw [leafP];simp [hk]
 have HR:=qh hR
 have hz:=BC.start w #[.int .u8 0, .int .i64 0, .string { data:= #[] }, .slice none 0 0, .slice none 0 0] 36
 have hb2:Below w.heap.size w (w.alloc (.cells #[.int .u8 0, .int .i64 0, .string { data:= #[] }, .slice none 0 0, .slice none 0 0] 36)):=(Below.refl _ _).alloc (Nat.le_refl _) _
 have HZ:=qh hz
 have HB2:=qh hb2
 rw [hR]
 clear h ht htk hp hbd hk hR hz hb2
 go_enter Tryz.func36,Tryz.ntmps36
 generalize hQ0:bodyPost _ _ _=Q0
 have HQ:=qh hQ0
 clear hQ0
 go_wp2_with fail
 rw [<-HQ.out]
 have A:=BC.start w #[.int .u8 2, .int .i64 t.n, .string { data:= #[] }, .slice none 0 0, .slice none 0 0] 36
 have B1:Below w.heap.size w (w.alloc (.cells #[.int .u8 2, .int .i64 t.n, .string { data:= #[] }, .slice none 0 0, .slice none 0 0] 36)):=(Below.refl _ _).alloc (Nat.le_refl _) _
 exact Yw (c:=⟨2,t.n, .empty,none,0,0,none,0,0⟩) (A.keep ((Below.refl _ _).alloc (Nat.le_refl _) _) A.lt) (B1.alloc B1.size _) (X8 _ _ _ _ _ (by omega) (by omega) HBD.out.n0 HBD.out.n1 (by decide)) rfl rfl rfl
set_option maxRecDepth 100000 in
theorem zi6 (w:World) (dd:Int) (t:Tk) (r:List Tk) (a:Option Addr) (n c:Nat) (h:IsToks w w.heap.size (t::r) a n c) (hk:t.k % 6=3):
 Calls Tryz.prog 36 #[.slice a n c, .int .i64 dd] w (RawPost w (leafP t,1)):=by
 obtain ⟨b,o,hp,rfl,hb,htk,hbd⟩:=h.get (k:=0) (by have:=h.len;rw [this];simp)
 have ht:TkAt w b o t:=by simpa using htk
 replace hbd:t.Bnd:=by simpa using hbd
 have c0:=ht.c0;have c1:=ht.c1;have c2:=ht.c2;have c3:=ht.c3
 have b2:=hbd.m0;have b3:=hbd.m1
 have hnp:0<n:=by rw [h.len];simp
 have hne:((n:Int)==0)=false:=by simp;omega
 have hk2:Int.tmod t.k 6=3:=by rw [Int.tmod_eq_emod_of_nonneg hbd.k0];exact hk
 have HBD:=qh hbd
 have hR:leafP t=V.mk 3 0 (plainS t.s) [] [] :=by rw [leafP];simp [hk]
 have HR:=qh hR
 have hz:=BC.start w #[.int .u8 0, .int .i64 0, .string { data:= #[] }, .slice none 0 0, .slice none 0 0] 36
 have hb2:Below w.heap.size w (w.alloc (.cells #[.int .u8 0, .int .i64 0, .string { data:= #[] }, .slice none 0 0, .slice none 0 0] 36)):=(Below.refl _ _).alloc (Nat.le_refl _) _
 have HZ:=qh hz
 have HB2:=qh hb2
 rw [hR]
 have HA:=qh (hb2.alloc hb2.size (.cells #[.int .u8 t.k, .int .i64 t.n, .string t.s, .int .u8 t.m] 73))
 have HK:=qh (hz.keep ((Below.refl _ _).alloc (Nat.le_refl _) (.cells #[.int .u8 t.k, .int .i64 t.n, .string t.s, .int .u8 t.m] 73)) hz.lt)
 clear h ht htk hp hbd hk hR hz hb2
 go_enter Tryz.func36,Tryz.ntmps36
 generalize hQ0:bodyPost _ _ _=Q0
 have HQ:=qh hQ0
 clear hQ0
 go_wp2_with fail
 refine (K1 _ t.s HBD.out.s1).mono ?_
 rintro e w3 ⟨rfl,hb3⟩
 have D:=HK.out.keep hb3 (by simp;omega)
 obtain ⟨r0,r1,r2,r3,r4⟩:=row5 D.at_
 have g0:=D.fr 0;have g1:=D.fr 1;have g2:=D.fr 2;have g3:=D.fr 3;have g4:=D.fr 4
 have zs3:w.heap.size<w3.heap.size:=D.lt
 have HD3:=qh D
 have HB3:=qh (HA.out.trans (hb3.mono (by simp;omega)))
 obtain ⟨ps,hps,hpz⟩:∃ps,plainS t.s=ps/\ps.size<=140737488355328:=⟨_,rfl,Nat.le_trans (Yr _) (by omega)⟩
 have HPS:=qh hpz
 rw [hps] at HQ ⊢
 clear D hb3 hps hpz
 go_wp2_with fail
 rw [<-HQ.out]
 have s1:RStep w3 (((((w3.setCell ⟨w.heap.size,0,none⟩ (.int .u8 3)).setCell ⟨w.heap.size,1,none⟩ (.int .i64 0)).setCell ⟨w.heap.size,2,none⟩ (.string ps)).setCell ⟨w.heap.size,3,none⟩ (.slice none 0 0)).setCell ⟨w.heap.size,4,none⟩ (.slice none 0 0)) w.heap.size:=(((RStep.self.trans RStep.self).trans RStep.self).trans RStep.self).trans RStep.self
 have hbc:BC (((((w3.setCell ⟨w.heap.size,0,none⟩ (.int .u8 3)).setCell ⟨w.heap.size,1,none⟩ (.int .i64 0)).setCell ⟨w.heap.size,2,none⟩ (.string ps)).setCell ⟨w.heap.size,3,none⟩ (.slice none 0 0)).setCell ⟨w.heap.size,4,none⟩ (.slice none 0 0)) w.heap.size (vcells ⟨3,0,ps,none,0,0,none,0,0⟩):=((((HD3.out.set (i:=0) (x:= .int .u8 3) (by simp)).set (i:=1) (x:= .int .i64 0) (by simp)).set (i:=2) (x:= .string ps) (by simp)).set (i:=3) (x:= .slice none 0 0) (by simp)).set (i:=4) (x:= .slice none 0 0) (by simp)
 exact Yw (c:=⟨3,0,ps,none,0,0,none,0,0⟩) hbc (HB3.out.trans (s1.below (by omega))) (X8 _ _ 3 0 ps (by omega) (by omega) (by omega) (by omega) HPS.out) rfl rfl rfl
set_option maxRecDepth 100000 in
theorem zkf (w:World) (dd:Int) (hd0:0<=dd) (hd:dd<=5) (d:Nat) (t:Tk) (r:List Tk) (a:Option Addr) (n c:Nat) (h:IsToks w w.heap.size (t::r) a n c) (IH:∀(W:World) (l:List Tk) (a:Option Addr) (n c:Nat),IsToks W W.heap.size l a n c->Calls Tryz.prog 36 #[.slice a n c, .int .i64 (dd+1)] W (RawPost W (oneP d l))) (hk:t.k % 6=4):
 Calls Tryz.prog 36 #[.slice a n c, .int .i64 dd] w (RawPost w (oneP (d+1) (t::r))):=by
 obtain ⟨i0,hi0,hz0,hz1,hz2⟩:=info_parts Yc
 have hw1:IntKind.i64.wrap (dd+1)=dd+1:=IntWalk.i64_in _ (by omega)
 obtain ⟨b,o,hp,rfl,hb,htk,hbd⟩:=h.get (k:=0) (by have:=h.len;rw [this];simp)
 have ht:TkAt w b o t:=by simpa using htk
 replace hbd:t.Bnd:=by simpa using hbd
 have c0:=ht.c0;have c1:=ht.c1;have c2:=ht.c2;have c3:=ht.c3
 have b0:=hbd.k0;have b1:=hbd.k1;have b2:=hbd.m0;have b3:=hbd.m1
 have hlen:=h.len
 have hcap:=h.cap
 have hmax:=h.max
 have hnp:0<n:=by rw [hlen];simp
 have hne:((n:Int)==0)=false:=by simp;omega
 obtain ⟨K,hK⟩:∃K:Nat,(t.m % 4).toNat=K:=⟨_,rfl⟩
 have hK1:t.m % 4=(K:Int):=by omega
 have hK2:Int.tmod t.m 4=(K:Int):=by rw [Int.tmod_eq_emod_of_nonneg b2];exact hK1
 have hK3:K<=3:=by omega
 have hk2:Int.tmod t.k 6=4:=by rw [Int.tmod_eq_emod_of_nonneg b0];exact hk
 have HI:=qh h
 have HQR:=qh (QR.start2 w t ⟨4,0, .empty,none,0,0,none,0,0⟩ 36 73 36)
 have HBD:=qh hbd
 have IHH:=qh IH
 have HLEN:=qh hlen
 have HKK:=qh hK
 have HK:=qh hk
 clear h ht htk hp hbd IH hlen hK hk
 go_enter Tryz.func36,Tryz.ntmps36
 generalize hQ0:bodyPost _ _ _=Q0
 have HQ:=qh hQ0
 clear hQ0
 go_wp2_with fail
 go_loopw [7,9,10,11] (fun u i _ _ wr=>∃(j:Nat) (a':Option Addr) (m c':Nat) (xs:List V) (cs:List VC) (un:Nat),j<=K/\u= .int .i64 un/\i= .int .u8 j/\BLL w wr d (t::r) t j a' m c' xs cs un) (fun _ i _ _ _=>K - (intOf i).toNat)
 case atStart=>exact ⟨0,none,0,0, [], [],1,Nat.zero_le _,rfl,rfl,⟨rfl,rfl,rfl,(HQR.out _ rfl).1,Row.nil _ _ _ _ _⟩⟩
 case round=>
  obtain ⟨j,a',m,c',xs,cs,un,hj,rfl,rfl,L⟩:=hrel
  have k0:=L.box.tok.at_ 0 _ rfl;have k3:=L.box.tok.at_ 3 _ rfl
  obtain ⟨v0,v1,v2,v3,v4⟩:=row5 L.box.val.at_
  have p0:=L.box.val.fr 3
  obtain ⟨r0,r1,r2,r3,r4⟩:=row5 L.box.res.at_
  have g0:=L.box.res.fr 0;have g1:=L.box.res.fr 1;have g2:=L.box.res.fr 2;have g3:=L.box.res.fr 3;have g4:=L.box.res.fr 4
  have zs2:=L.box.val.lt;have zs1:=L.box.tok.lt;have zs0:=L.box.res.lt
  obtain ⟨hu1,hu2,hol⟩:1<=un/\un<=n/\xs.length=j:=by
   have:=za0 (Qm d) (l:=t::r) (by simp) j
   rw [L.rd] at this
   exact ⟨this.1,by rw [HLEN.out];exact this.2.1,this.2.2⟩
  by_cases hlt:j<K
  .have hz9:c=un->n - un=0:=by omega
   obtain ⟨⟨x,q⟩,hx⟩:∃p,oneP d ((t::r).drop un)=p:=⟨_,rfl⟩
   have hq2:un+q<=n:=by have:=Qm d ((t::r).drop un);rw [hx,List.length_drop] at this;have:=HLEN.out;dsimp only at*;omega
   have HX:=qh hx
   have HC:Hid (∀W,Below w.heap.size w W->Calls Tryz.prog 36 #[if c=un then .slice (some ⟨b,o,none⟩) 0 0 else .slice (some ⟨b,o+un*4,none⟩) (n - un) (c - un), .int .i64 (dd+1)] W (RawPost W (x,q))):=by
    intro W hW
    have HIW:=(HI.out.later_ hW).drop un hu2
    rw [<-HX.out]
    by_cases hc:c=un
    .rw [if_pos hc];exact IHH.out W _ _ _ _ (HIW.none_left (hz9 hc))
    .rw [if_neg hc];rw [Option.map_some,Zt] at HIW;exact IHH.out W _ _ _ _ HIW
   have LL:=qh L
   clear L hx
   by_cases hc:c=un
   .replace HC:=HC.out
    simp only [if_pos hc] at HC
    replace HC:=qh HC
    have hz:=hz9 hc
    clear hz9
    subst hc
    go_wp2_with fail
    refine (HC.out _ LL.out.box.below).mono ?_
    rintro e w4 ⟨⟨cx,rfl,hI4⟩,hb4⟩
    have L:=LL.out
    have B4:=L.box.next hb4
    have k0:=B4.tok.at_ 0 _ rfl;have k3:=B4.tok.at_ 3 _ rfl
    obtain ⟨v0,v1,v2,v3,v4⟩:=row5 B4.val.at_
    have p0:=B4.val.fr 3
    obtain ⟨r0,r1,r2,r3,r4⟩:=row5 B4.res.at_
    have g0:=B4.res.fr 0;have g1:=B4.res.fr 1;have g2:=B4.res.fr 2;have g3:=B4.res.fr 3;have g4:=B4.res.fr 4
    have zt2:=B4.val.lt;have zt1:=B4.tok.lt;have zt0:=B4.res.lt
    have hrow:RowV w4 (w.heap.size+3) (.slice a' m c') xs cs:=L.row.later (PV.closed xs cs) (.of_below 0 hb4) (by omega)
    have hne2:(Value.slice a' m c').ownBlock≠some (w.heap.size+2):=fun e=>by have:=(L.row.lt _ e).1;omega
    have ho4:=hrow.own
    rw [L.len] at ho4
    have hu3:(c:Int)+q<=9223372036854775807:=by omega
    have HI4:=qh hI4
    have HB4:=qh hb4
    have hnw:∀jj u,(vcells cx)[jj]? =some u->((w4.alloc (.cells #[.int .u8 cx.k, .int .i64 cx.n, .string cx.s, .slice cx.la cx.ll cx.lc, .slice cx.oa cx.ol cx.oc] 36)).alloc (.cells #[.int .u8 cx.k, .int .i64 cx.n, .string cx.s, .slice cx.la cx.ll cx.lc, .slice cx.oa cx.ol cx.oc] 36)).cell? ((⟨w4.heap.size+1,0,none⟩:Addr).add jj)=some u:=by
     have:=World.news_of_block (t:=36) (fr:=(0,0)) (heap_alloc_new (w4.alloc (.cells #[.int .u8 cx.k, .int .i64 cx.n, .string cx.s, .slice cx.la cx.ll cx.lc, .slice cx.oa cx.ol cx.oc] 36)) (.cells #[.int .u8 cx.k, .int .i64 cx.n, .string cx.s, .slice cx.la cx.ll cx.lc, .slice cx.oa cx.ol cx.oc] 36))
     intro jj u hu
     simpa using this jj u (by simpa [vcells] using hu)
    have HNW:=qh hnw
    have HB44:=qh B4
    clear L B4 hrow hI4 hb4 hnw
    go_wp2_with (at_builtin;refine wpList_append_lies _ rfl (.tmp 71) (.tmp 73) 33 (by rfl) (w.heap.size+3) 36 i0 _ 5 80 Tryz.underlying33 hi0 hz0 hz1 hz2 rfl (by omega) (.slice a' m c') j (cs.flatMap vcells) (by rfl) ((ho4.alloc _).alloc _) ⟨w4.heap.size+1,0,none⟩ 1 1 (vcells cx) (by rfl) (by rfl) HNW.out (by simp [vcells,Value.oneCell']) (by omega) (by unfold maxLen;omega) (by omega) (by simp;omega) (w4.heap.size+1+1) (by simp) ?_;intro g cap w7 hown7 hgrow7 hat7 hlt7;have hc7:w7.cell? ⟨w.heap.size+2,3,none⟩=some (.slice a' m c'):=(hgrow7.cell_far ⟨w.heap.size+2,3,none⟩ (by simp;omega) (Ne.symm hne2)).trans (Zb ((Below.refl _ _).alloc (by simp) _) (Zb ((Below.refl _ _).alloc (Nat.le_refl _) _) (HB44.out.val.at_ 3 _ rfl) zt2) zt2);have hf7:w7.frozen? ⟨w.heap.size+2,3,none⟩=false:=(hgrow7.frozen_far ⟨w.heap.size+2,3,none⟩ (by simp;omega) (Ne.symm hne2)).trans ((((Below.refl _ _).alloc (by simp) _:Below w4.heap.size (w4.alloc _) ((w4.alloc _).alloc _)).frozen (p:=⟨w.heap.size+2,3,none⟩) zt2).trans ((((Below.refl _ _).alloc (Nat.le_refl _) _:Below w4.heap.size w4 (w4.alloc _)).frozen (p:=⟨w.heap.size+2,3,none⟩) zt2).trans (HB44.out.val.fr 3))))
    go_roundw
    case rel=>exact ⟨j+1,some ⟨g,0,none⟩,j+1,cap,xs++ [x],cs++ [cx],c+q,by omega,by go_num,by go_num,LL.out.round HX.out HB4.out HI4.out (((Below.refl _ _).alloc (Nat.le_refl _) _).alloc (by simp) _) hown7 hgrow7 (hat7.imp_right fun e=>by omega)⟩
    case measure=>simp [intOf];omega
   .replace HC:=HC.out
    simp only [if_neg hc] at HC
    replace HC:=qh HC
    have huc:un<c:=by omega
    clear hz9 hc
    go_wp2_with fail
    refine (HC.out _ LL.out.box.below).mono ?_
    rintro e w4 ⟨⟨cx,rfl,hI4⟩,hb4⟩
    have L:=LL.out
    have B4:=L.box.next hb4
    have k0:=B4.tok.at_ 0 _ rfl;have k3:=B4.tok.at_ 3 _ rfl
    obtain ⟨v0,v1,v2,v3,v4⟩:=row5 B4.val.at_
    have p0:=B4.val.fr 3
    obtain ⟨r0,r1,r2,r3,r4⟩:=row5 B4.res.at_
    have g0:=B4.res.fr 0;have g1:=B4.res.fr 1;have g2:=B4.res.fr 2;have g3:=B4.res.fr 3;have g4:=B4.res.fr 4
    have zt2:=B4.val.lt;have zt1:=B4.tok.lt;have zt0:=B4.res.lt
    have hrow:RowV w4 (w.heap.size+3) (.slice a' m c') xs cs:=L.row.later (PV.closed xs cs) (.of_below 0 hb4) (by omega)
    have hne2:(Value.slice a' m c').ownBlock≠some (w.heap.size+2):=fun e=>by have:=(L.row.lt _ e).1;omega
    have ho4:=hrow.own
    rw [L.len] at ho4
    have hu3:(un:Int)+q<=9223372036854775807:=by omega
    have HI4:=qh hI4
    have HB4:=qh hb4
    have hnw:∀jj u,(vcells cx)[jj]? =some u->((w4.alloc (.cells #[.int .u8 cx.k, .int .i64 cx.n, .string cx.s, .slice cx.la cx.ll cx.lc, .slice cx.oa cx.ol cx.oc] 36)).alloc (.cells #[.int .u8 cx.k, .int .i64 cx.n, .string cx.s, .slice cx.la cx.ll cx.lc, .slice cx.oa cx.ol cx.oc] 36)).cell? ((⟨w4.heap.size+1,0,none⟩:Addr).add jj)=some u:=by
     have:=World.news_of_block (t:=36) (fr:=(0,0)) (heap_alloc_new (w4.alloc (.cells #[.int .u8 cx.k, .int .i64 cx.n, .string cx.s, .slice cx.la cx.ll cx.lc, .slice cx.oa cx.ol cx.oc] 36)) (.cells #[.int .u8 cx.k, .int .i64 cx.n, .string cx.s, .slice cx.la cx.ll cx.lc, .slice cx.oa cx.ol cx.oc] 36))
     intro jj u hu
     simpa using this jj u (by simpa [vcells] using hu)
    have HNW:=qh hnw
    have HB44:=qh B4
    clear L B4 hrow hI4 hb4 hnw
    go_wp2_with (at_builtin;refine wpList_append_lies _ rfl (.tmp 71) (.tmp 73) 33 (by rfl) (w.heap.size+3) 36 i0 _ 5 80 Tryz.underlying33 hi0 hz0 hz1 hz2 rfl (by omega) (.slice a' m c') j (cs.flatMap vcells) (by rfl) ((ho4.alloc _).alloc _) ⟨w4.heap.size+1,0,none⟩ 1 1 (vcells cx) (by rfl) (by rfl) HNW.out (by simp [vcells,Value.oneCell']) (by omega) (by unfold maxLen;omega) (by omega) (by simp;omega) (w4.heap.size+1+1) (by simp) ?_;intro g cap w7 hown7 hgrow7 hat7 hlt7;have hc7:w7.cell? ⟨w.heap.size+2,3,none⟩=some (.slice a' m c'):=(hgrow7.cell_far ⟨w.heap.size+2,3,none⟩ (by simp;omega) (Ne.symm hne2)).trans (Zb ((Below.refl _ _).alloc (by simp) _) (Zb ((Below.refl _ _).alloc (Nat.le_refl _) _) (HB44.out.val.at_ 3 _ rfl) zt2) zt2);have hf7:w7.frozen? ⟨w.heap.size+2,3,none⟩=false:=(hgrow7.frozen_far ⟨w.heap.size+2,3,none⟩ (by simp;omega) (Ne.symm hne2)).trans ((((Below.refl _ _).alloc (by simp) _:Below w4.heap.size (w4.alloc _) ((w4.alloc _).alloc _)).frozen (p:=⟨w.heap.size+2,3,none⟩) zt2).trans ((((Below.refl _ _).alloc (Nat.le_refl _) _:Below w4.heap.size w4 (w4.alloc _)).frozen (p:=⟨w.heap.size+2,3,none⟩) zt2).trans (HB44.out.val.fr 3))))
    go_roundw
    case rel=>exact ⟨j+1,some ⟨g,0,none⟩,j+1,cap,xs++ [x],cs++ [cx],un+q,by omega,by go_num,by go_num,LL.out.round HX.out HB4.out HI4.out (((Below.refl _ _).alloc (Nat.le_refl _) _).alloc (by simp) _) hown7 hgrow7 (hat7.imp_right fun e=>by omega)⟩
    case measure=>simp [intOf];omega
  .have hjn:j=K:=by omega
   subst hjn
   have hR:oneP (d+1) (t::r)=(.mk 4 0 .empty xs [],un):=by
    rw [oneP,if_pos HK.out,HKK.out,L.rd]
   have hv:=RowV.val L.row (lo:=w.heap.size+3) (by rw [L.len,L.cen]) (Nat.le_refl _) 4 (by omega) (by omega) (by rw [L.len];omega)
   have HV:=qh hv
   have HR:=qh hR
   have LB:=qh L.box
   clear L hv hR
   go_wp2_with fail
   have ST:=LB.out.stored ⟨4,0, .empty,a',m,c',none,0,0⟩
   rw [<-HQ.out,HR.out]
   exact Yw (c:=⟨4,0, .empty,a',m,c',none,0,0⟩) ST.1 ST.2.1 ((Zm HV.out ST.2.2 (by omega)).sub (Ze fun k hk _=>⟨by omega,rfl⟩)) rfl rfl rfl
end Go.Proofs.YtnjgbiachcfigaaGreatDoor
