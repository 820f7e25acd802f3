/-
  Contracts of the functions that the law reaches: What Raw builds of pieces, in plain.
-/
import Derived.Test.YtnjgbiachcfigaaGreatDoorIw2
namespace Go.Proofs.YtnjgbiachcfigaaGreatDoor
open Go.RowKit
set_option maxHeartbeats 8000000
def rawV (t:Tk) (xs:List V):V:=if t.k % 2=0 then .mk t.k t.n t.s xs [] else .mk t.k t.n t.s [] (xs.map fun x=>(x.str,x))
def rawP:Nat->List Tk->V×Nat
 |_, [] =>(V.none,0)
 |0,t::_=>(.mk t.k t.n t.s [] [],1)
 |d+1,t::r=>(rawV t (fR (rawP d) (t::r) (t.m % 4).toNat).1,(fR (rawP d) (t::r) (t.m % 4).toNat).2.1)
theorem J5 {f:List Tk->V×Nat} {l:List Tk} {j n:Nat} (h:(fR f l j).2.2=true) (hj:j<=n):fR f l n=fR f l j:=by
 induction n with
 | zero => have:j=0:=by omega
           subst this;rfl
 | succ n ih=>
   by_cases hi:j=n+1
   .subst hi;rfl
   .have:=ih (by omega)
    rw [fR,this,if_pos h]
theorem zan {f:List Tk->V×Nat} (hf:∀l,(f l).2<=l.length) {l:List Tk} (hl:1<=l.length) (j:Nat):1<=(fR f l j).2.1/\(fR f l j).2.1<=l.length/\(fR f l j).1.length+1<=(fR f l j).2.1:=by
 induction j with
 |zero=>exact ⟨Nat.le_refl _,hl,Nat.le_refl _⟩
 | succ j ih=>
   rw [fR]
   split
   .exact ih
   .split
    .exact ih
    .rename_i h1 h2
     have:=hf (l.drop (fR f l j).2.1)
     rw [List.length_drop] at this
     have h3:1<=(f (l.drop (fR f l j).2.1)).2:=by omega
     refine ⟨by dsimp only;omega,by dsimp only;omega,by dsimp only;rw [List.length_append,List.length_singleton];omega⟩
theorem Jc (d:Nat):∀l,(rawP d l).2<=l.length:=by
 induction d with
 | zero=>
   intro l
   cases l with
   |nil=>simp [rawP]
   |cons t r=>simp [rawP]
 | succ d ih=>
   intro l
   cases l with
   |nil=>simp [rawP]
   |cons t r=>rw [rawP];exact (zan ih (by simp) _).2.1
theorem Qu {w:World} {B:Nat} {k:Int} {l:List V} {o:List (ByteArray×V)} {c:VC} (h:IsVal w B (.mk k 0 .empty l o) c) (n:Int) (s:ByteArray) (hn0: -9223372036854775808<=n) (hn1:n<=9223372036854775807) (hs:s.size<=140737488355328):IsVal w B (.mk k n s l o) ⟨c.k,n,s,c.la,c.ll,c.lc,c.oa,c.ol,c.oc⟩:=by
 obtain ⟨v,hv⟩:∃v,(V.mk k 0 .empty l o)=v:=⟨_,rfl⟩
 rw [hv] at h
 cases h with
 | mk c l2 o2 cl co lb lo ob oo hbd hl ho hla hoa hlc hlv hoc hov=>
   injection hv with e1 e2 e3 e4 e5
   subst e4 e5
   rw [e1]
   exact .mk ⟨c.k,n,s,c.la,c.ll,c.lc,c.oa,c.ol,c.oc⟩ l o cl co lb lo ob oo ⟨hbd.k0,hbd.k1,hn0,hn1,hs,hbd.l1,hbd.l2,hbd.l3,hbd.o1,hbd.o2,hbd.o3⟩ hl ho hla hoa hlc hlv hoc hov
theorem QR.start (w:World) (t:Tk) (t1 t2 t3:TypeId) (W:World) (hW:W=((w.alloc (.cells (uU 0 0 { data:= #[] } none 0 0 none 0 0) t1)).alloc (.cells #[.int .u8 t.k, .int .i64 t.n, .string t.s, .int .u8 t.m] t2)).alloc (.cells (uU t.k t.n t.s none 0 0 none 0 0) t3)):
 QR w W t ⟨t.k,t.n,t.s,none,0,0,none,0,0⟩/\W.heap.size=w.heap.size+3:=by
 obtain ⟨w1,hw1⟩:∃w1,w.alloc (.cells (uU 0 0 { data:= #[] } none 0 0 none 0 0) t1)=w1:=⟨_,rfl⟩
 have s1:w1.heap.size=w.heap.size+1:=by rw [<-hw1,World.size_alloc]
 have b1:uB w w1:=by rw [<-hw1];exact (Below.refl _ _).alloc (Nat.le_refl _) _
 have c1:BC w1 w.heap.size [.int .u8 0, .int .i64 0, .string { data:= #[] }, .slice none 0 0, .slice none 0 0] :=by rw [<-hw1];exact BC.start w (uU 0 0 { data:= #[] } none 0 0 none 0 0) t1
 rw [hw1] at hW
 obtain ⟨w2,hw2⟩:∃w2,w1.alloc (.cells #[.int .u8 t.k, .int .i64 t.n, .string t.s, .int .u8 t.m] t2)=w2:=⟨_,rfl⟩
 have s2:w2.heap.size=w.heap.size+2:=by rw [<-hw2,World.size_alloc,s1]
 have b2:uB w1 w2:=by rw [<-hw2];exact (Below.refl _ _).alloc (Nat.le_refl _) _
 have c2:=BC.start w1 #[.int .u8 t.k, .int .i64 t.n, .string t.s, .int .u8 t.m] t2
 rw [hw2,s1] at c2
 rw [hw2] at hW
 subst hW
 have b3:uB w2 (w2.alloc (.cells (uU t.k t.n t.s none 0 0 none 0 0) t3)):=(Below.refl _ _).alloc (Nat.le_refl _) _
 have c3:=BC.start w2 (uU t.k t.n t.s none 0 0 none 0 0) t3
 rw [s2] at c3
 exact ⟨⟨(c1.keep b2 (by omega)).keep b3 (by omega),c2.keep b3 (by omega),c3,(b1.trans (b2.mono (by omega))).trans (b3.mono (by omega))⟩,by rw [World.size_alloc,s2]⟩
theorem zi1 {tmps:Array Value} {W:World} {b:Nat} {c:VC} {x:Value} (ht:tmps[4]? =some (.pointer (some ⟨b,0,none⟩))) (ht':tmps[5]? =some x) (h:BC W b (vcells c)):
 (results Tryz.f99 tmps).run Tryz.prog W= .ok (.tuple #[.agg #[.int .u8 c.k, .int .i64 c.n, .string c.s, .slice c.la c.ll c.lc, .slice c.oa c.ol c.oc],x]) W:=by
 obtain ⟨r0,r1,r2,r3,r4⟩:=(⟨h.at_ 0 _ rfl,h.at_ 1 _ rfl,h.at_ 2 _ rfl,h.at_ 3 _ rfl,h.at_ 4 _ rfl⟩:W.cell? ⟨b,0,none⟩=some (.int .u8 c.k)/\W.cell? ⟨b,1,none⟩=some (.int .i64 c.n)/\W.cell? ⟨b,2,none⟩=some (.string c.s)/\W.cell? ⟨b,3,none⟩=some (.slice c.la c.ll c.lc)/\W.cell? ⟨b,4,none⟩=some (.slice c.oa c.ol c.oc))
 simp [results,Tryz.results99,go_sem,ht,ht',r0,r1,r2,r3,r4]
theorem Xy {w W:World} {c:VC} {r:V×Nat} {a:Act} (h:BC W w.heap.size (vcells c)) (hb:uB w W) (hv:IsVal (only (fun b=>w.heap.size<=b) W) W.heap.size r.1 c) (hd:a.defers= []) (ht:a.tmps[4]? =some (.pointer (some ⟨w.heap.size,0,none⟩))) (ht':a.tmps[5]? =some (.int .i64 (r.2:Int))):
 bodyPost Tryz.prog Tryz.f99 (RawPost w r) .ret a W:=
 ⟨hd,_,zi1 ht ht' h,⟨c,rfl,hv⟩,hb⟩
structure RLL (w wr:World) (d:Nat) (l:List Tk) (t:Tk) (j:Nat) (a:Option Addr) (m c:Nat) (xs:List V) (cs:List VC) (u:Nat):Prop where
 rd:fR (rawP d) l j=(xs,u,false)
 len:xs.length=j
 cen:cs.length=j
 box:QR w wr t ⟨t.k,t.n,t.s,a,m,c,none,0,0⟩
 row:RowV wr (w.heap.size+3) (.slice a m c) xs cs
theorem RLL.round {w wr w4 w6 w7:World} {d:Nat} {l:List Tk} {t:Tk} {j:Nat} {a:Option Addr} {m c:Nat} {xs:List V} {cs:List VC} {u:Nat} {x:V} {q:Nat} {cx:VC} {g cap:Nat}
 (h:RLL w wr d l t j a m c xs cs u) (hx:rawP d (l.drop u)=(x,q)) (hq:q≠0) (hb4:uB wr w4) (hI:IsVal (only (fun b=>wr.heap.size<=b) w4) w4.heap.size x cx) (hb6:uB w4 w6)
 (hown:w7.ownsRow (w.heap.size+3) 36 5 (.slice (some ⟨g,0,none⟩) (j+1) cap) (j+1) (cs.flatMap vcells++vcells cx)) (hg:w6.grownBy w7 (Value.slice a m c).ownBlock)
 (hat:(Value.slice a m c).ownBlock=some g∨w4.heap.size<=g):
 RLL w (w7.setCell ⟨w.heap.size+2,3,none⟩ (.slice (some ⟨g,0,none⟩) (j+1) cap)) d l t (j+1) (some ⟨g,0,none⟩) (j+1) cap (xs++ [x]) (cs++ [cx]) (u+q):=by
 have hrow:=h.row.later (PV.closed xs cs) (.of_below 0 hb4) (by omega)
 have hrlt:∀b,(Value.slice a m c).ownBlock=some b->w.heap.size+3<=b/\b<wr.heap.size:=h.row.lt
 have hsz:=h.box.val.lt
 have hsz4:=hb4.size
 have hsz6:=hb6.size
 have hgb:Below (w.heap.size+3) w6 w7:=Zj hg (fun b hb=>(hrlt b hb).1) (by omega)
 have hb67:Below (w.heap.size+3) w4 w7:=(hb6.mono (by omega)).trans hgb
 obtain ⟨s1,s2⟩:=PV.snoc (l:=xs) (cs:=cs) (by rw [h.len,h.cen]) x cx
 have hnew:PV (xs++ [x]) (cs++ [cx]) (only (Free (w.heap.size+3) (.slice a m c)) w4) w4.heap.size xs.length:=s1 _ _ (hI.sub (Zd fun b hb _=>⟨⟨by omega,fun e=>by have:=(hrlt b e.symm).2;omega⟩,rfl⟩))
 have hpush:=Row.push (PV.closed (xs++ [x]) (cs++ [cx])) hrow hb6 hg (u':= .slice (some ⟨g,0,none⟩) (j+1) cap) (news:=vcells cx) (by rw [h.len];exact hown) (by
  rcases hat with e|e
  .left;rw [e];rfl
  .right;intro b hb;have:g=b:=by simpa [Value.ownBlock] using hb
   omega) hnew s2
 have hbox:=(h.box.next hb4).below_ hb67 (Nat.le_refl _)
 refine ⟨?_,by simp [h.len],by simp [h.cen], ?_, ?_⟩
 .rw [fR,if_neg (by rw [h.rd];simp),h.rd]
  dsimp only
  rw [hx,if_neg hq]
 .exact ⟨hbox.res.far (by omega),hbox.tok.far (by omega),hbox.val.set (i:=3) (x:= .slice (some ⟨g,0,none⟩) (j+1) cap) (by simp [vcells]),hbox.below.trans ((RStep.self (b:=w.heap.size+2) (o:=3)).below (by have:=hbox.val.lt;omega)|>.mono (by omega))⟩
 .have hr2:RowV w7 (w.heap.size+3) (.slice (some ⟨g,0,none⟩) (j+1) cap) (xs++ [x]) (cs++ [cx]):=by
   show Row _ _ _ _ _ _ _ _
   rw [Y4,List.length_append,List.length_singleton]
   exact hpush
  exact hr2.set (PV.closed (xs++ [x]) (cs++ [cx])) (by omega)
def fldc (cs:List VC):List (ByteArray×VC):=cs.map fun c=>(c.s,c)
theorem zm1 (xs:List V) (x:V):fld (xs++ [x])=fld xs++ [(x.str,x)] :=by simp [fld]
theorem zjh (cs:List VC) (c:VC):fldc (cs++ [c])=fldc cs++ [(c.s,c)] :=by simp [fldc]
structure RLO (w wr:World) (d:Nat) (l:List Tk) (t:Tk) (j:Nat) (a:Option Addr) (m c:Nat) (xs:List V) (cs:List VC) (u:Nat):Prop where
 rd:fR (rawP d) l j=(xs,u,false)
 len:xs.length=j
 cen:cs.length=j
 box:QR w wr t ⟨t.k,t.n,t.s,none,0,0,a,m,c⟩
 row:RowF wr (w.heap.size+3) (.slice a m c) (fld xs) (fldc cs)
theorem RLO.round {w wr w4 w6 w7:World} {d:Nat} {l:List Tk} {t:Tk} {j:Nat} {a:Option Addr} {m c:Nat} {xs:List V} {cs:List VC} {u:Nat} {x:V} {q:Nat} {cx:VC} {g cap:Nat}
 (h:RLO w wr d l t j a m c xs cs u) (hx:rawP d (l.drop u)=(x,q)) (hq:q≠0) (hb4:uB wr w4) (hI:IsVal (only (fun b=>wr.heap.size<=b) w4) w4.heap.size x cx) (hb6:uB w4 w6)
 (hown:w7.ownsRow (w.heap.size+3) 75 6 (.slice (some ⟨g,0,none⟩) (j+1) cap) (j+1) ((fldc cs).flatMap fcells++fcells (cx.s,cx))) (hg:w6.grownBy w7 (Value.slice a m c).ownBlock)
 (hat:(Value.slice a m c).ownBlock=some g∨w4.heap.size<=g):
 RLO w (w7.setCell ⟨w.heap.size+2,4,none⟩ (.slice (some ⟨g,0,none⟩) (j+1) cap)) d l t (j+1) (some ⟨g,0,none⟩) (j+1) cap (xs++ [x]) (cs++ [cx]) (u+q):=by
 have hrow:=h.row.later (PF.closed (fld xs) (fldc cs)) (.of_below 0 hb4) (by omega)
 have hrlt:∀b,(Value.slice a m c).ownBlock=some b->w.heap.size+3<=b/\b<wr.heap.size:=h.row.lt
 have hsz:=h.box.val.lt
 have hsz4:=hb4.size
 have hsz6:=hb6.size
 have hgb:Below (w.heap.size+3) w6 w7:=Zj hg (fun b hb=>(hrlt b hb).1) (by omega)
 have hb67:Below (w.heap.size+3) w4 w7:=(hb6.mono (by omega)).trans hgb
 obtain ⟨s1,s2⟩:=PF.snoc (l:=fld xs) (cs:=fldc cs) (by simp [fld,fldc,h.len,h.cen]) cx.s (Xd hI).2 x cx
 have hnew:PF (fld xs++ [(cx.s,x)]) (fldc cs++ [(cx.s,cx)]) (only (Free (w.heap.size+3) (.slice a m c)) w4) w4.heap.size (fld xs).length:=s1 _ _ (hI.sub (Zd fun b hb _=>⟨⟨by omega,fun e=>by have:=(hrlt b e.symm).2;omega⟩,rfl⟩))
 have hpush:=Row.push (PF.closed (fld xs++ [(cx.s,x)]) (fldc cs++ [(cx.s,cx)])) hrow hb6 hg (u':= .slice (some ⟨g,0,none⟩) (j+1) cap) (news:=fcells (cx.s,cx)) (by rw [show (fld xs).length=j by simp [fld,h.len]];exact hown) (by
  rcases hat with e|e
  .left;rw [e];rfl
  .right;intro b hb;have:g=b:=by simpa [Value.ownBlock] using hb
   omega) hnew s2
 have hbox:=(h.box.next hb4).below_ hb67 (Nat.le_refl _)
 refine ⟨?_,by simp [h.len],by simp [h.cen], ?_, ?_⟩
 .rw [fR,if_neg (by rw [h.rd];simp),h.rd]
  dsimp only
  rw [hx,if_neg hq]
 .exact ⟨hbox.res.far (by omega),hbox.tok.far (by omega),hbox.val.set (i:=4) (x:= .slice (some ⟨g,0,none⟩) (j+1) cap) (by simp [vcells]),hbox.below.trans ((RStep.self (b:=w.heap.size+2) (o:=4)).below (by have:=hbox.val.lt;omega)|>.mono (by omega))⟩
 .have hr2:RowF w7 (w.heap.size+3) (.slice (some ⟨g,0,none⟩) (j+1) cap) (fld (xs++ [x])) (fldc (cs++ [cx])):=by
   show Row _ _ _ _ _ _ _ _
   rw [zm1,zjh,(Xd hI).1,Y4,List.length_append,List.length_singleton]
   exact hpush
  exact hr2.set (PF.closed _ _) (by omega)
set_option maxRecDepth 100000 in
theorem zpn (w:World) (dd:Int) (hd0:0<=dd) (hd:dd<=19) (d:Nat) (t:Tk) (r:List Tk) (a:Option Addr) (n c:Nat) (h:IsToks w w.heap.size (t::r) a n c) (IH:∀(W:World) (l:List Tk) (a:Option Addr) (n c:Nat),IsToks W W.heap.size l a n c->uP 99 #[.slice a n c, .int .i64 (dd+1)] W (RawPost W (rawP d l))) (hk:t.k % 2=0):
 uP 99 #[.slice a n c, .int .i64 dd] w (RawPost w (rawP (d+1) (t::r))):=by
 delta uP
 obtain ⟨i0,hi0,hz0,hz1,hz2⟩:=info_parts Yh
 have hw1:IntKind.i64.wrap (dd+1)=dd+1:=IntWalk.i64_in _ (by omega)
 obtain ⟨b,o,hp,rfl,hb,htk,hbd⟩:=h.get (k:=0) (by have:=h.len;rw [this];simp)
 have ht:TkAt w b o t:=by simpa using htk
 replace hbd:t.Bnd:=by simpa using hbd
 have c0:=ht.c0;have c1:=ht.c1;have c2:=ht.c2;have c3:=ht.c3
 have b0:=hbd.k0;have b1:=hbd.k1;have b2:=hbd.m0;have b3:=hbd.m1
 have hlen:=h.len
 have hcap:=h.cap
 have hmax:=h.max
 have hnp:0<n:=by rw [hlen];simp
 have hne:((n:Int)==0)=false:=by simp;omega
 obtain ⟨K,hK⟩:∃K:Nat,(t.m % 4).toNat=K:=⟨_,rfl⟩
 have hK1:t.m % 4=(K:Int):=by omega
 have hK2:Int.tmod t.m 4=(K:Int):=by rw [Int.tmod_eq_emod_of_nonneg b2];exact hK1
 have hK3:K<=3:=by omega
 have HI:=qh h
 have HQR:=qh (QR.start w t 36 73 36)
 have HBD:=qh hbd
 have IHH:=qh IH
 have HLEN:=qh hlen
 have HKK:=qh hK
 clear h ht htk hp hbd IH hlen hK
 have hk2:Int.tmod t.k 2=0:=by rw [Int.tmod_eq_emod_of_nonneg b0];exact hk
 have HK:=qh hk
 clear hk
 go_enter Tryz.func99,Tryz.ntmps99
 generalize hQ0:bodyPost _ _ _=Q0
 have HQ:=qh hQ0
 clear hQ0
 go_wp2_with fail
 go_loopw [8,9,10,11] (fun u i _ _ wr=>∃(j:Nat) (a':Option Addr) (m c':Nat) (xs:List V) (cs:List VC) (un:Nat),j<=K/\u= .int .i64 un/\i= .int .u8 j/\RLL w wr d (t::r) t j a' m c' xs cs un) (fun _ i _ _ _=>K - (intOf i).toNat)
 case atStart=>exact ⟨0,none,0,0, [], [],1,Nat.zero_le _,rfl,rfl,⟨rfl,rfl,rfl,(HQR.out _ rfl).1,Row.nil _ _ _ _ _⟩⟩
 case round=>
  obtain ⟨j,a',m,c',xs,cs,un,hj,rfl,rfl,L⟩:=hrel
  have k0:=L.box.tok.at_ 0 _ rfl;have k3:=L.box.tok.at_ 3 _ rfl
  obtain ⟨v0,v1,v2,v3,v4⟩:=row5 L.box.val.at_
  have p0:=L.box.val.fr 3
  obtain ⟨r0,r1,r2,r3,r4⟩:=row5 L.box.res.at_
  have g0:=L.box.res.fr 0;have g1:=L.box.res.fr 1;have g2:=L.box.res.fr 2;have g3:=L.box.res.fr 3;have g4:=L.box.res.fr 4
  have zs2:=L.box.val.lt;have zs1:=L.box.tok.lt;have zs0:=L.box.res.lt
  obtain ⟨hu1,hu2,_⟩:1<=un/\un<=n/\True:=by
   have:=zan (Jc d) (l:=t::r) (by simp) j
   rw [L.rd] at this
   exact ⟨this.1,by rw [HLEN.out];exact this.2.1,trivial⟩
  by_cases hlt:j<K
  .have hz9:c=un->n - un=0:=by omega
   obtain ⟨⟨x,q⟩,hx⟩:∃p,rawP d ((t::r).drop un)=p:=⟨_,rfl⟩
   have hq2:un+q<=n:=by have:=Jc d ((t::r).drop un);rw [hx,List.length_drop] at this;have:=HLEN.out;dsimp only at*;omega
   have HX:=qh hx
   have HIW:=(HI.out.later_ L.box.below).drop un hu2
   have HC:Hid (uP 99 #[if c=un then .slice (some ⟨b,o,none⟩) 0 0 else .slice (some ⟨b,o+un*4,none⟩) (n - un) (c - un), .int .i64 (dd+1)] wr (RawPost wr (x,q))):=by
    unfold Hid
    rw [<-HX.out]
    by_cases hc:c=un
    .rw [if_pos hc];exact IHH.out wr _ _ _ _ (HIW.none_left (hz9 hc))
    .rw [if_neg hc];rw [Option.map_some,Zw] at HIW;exact IHH.out wr _ _ _ _ HIW
   have LL:=qh L
   clear L HIW hx
   by_cases hc:c=un
   .rw [if_pos hc] at HC
    have hz:=hz9 hc
    clear hz9
    subst hc
    go_wp2_with fail
    refine (HC.out).mono ?_
    rintro e w4 ⟨⟨cx,rfl,hI4⟩,hb4⟩
    have L:=LL.out
    have B4:=L.box.next hb4
    have k0:=B4.tok.at_ 0 _ rfl;have k3:=B4.tok.at_ 3 _ rfl
    obtain ⟨v0,v1,v2,v3,v4⟩:=row5 B4.val.at_
    have p0:=B4.val.fr 3
    obtain ⟨r0,r1,r2,r3,r4⟩:=row5 B4.res.at_
    have g0:=B4.res.fr 0;have g1:=B4.res.fr 1;have g2:=B4.res.fr 2;have g3:=B4.res.fr 3;have g4:=B4.res.fr 4
    have zt2:=B4.val.lt;have zt1:=B4.tok.lt;have zt0:=B4.res.lt
    have hrow:RowV w4 (w.heap.size+3) (.slice a' m c') xs cs:=L.row.later (PV.closed xs cs) (.of_below 0 hb4) (by omega)
    by_cases hq:q=0
    .subst hq
     have hs1:fR (rawP d) (t::r) (j+1)=(xs,c,true):=by rw [fR,if_neg (by rw [L.rd];simp),L.rd];dsimp only;rw [HX.out,if_pos rfl]
     have hs2:=J5 (f:=rawP d) (l:=t::r) (j:=j+1) (n:=K) (by rw [hs1]) (by omega)
     have hR:rawP (d+1) (t::r)=(.mk t.k t.n t.s xs [],c):=by
      rw [rawP,HKK.out,hs2,hs1];dsimp only;congr 1;rw [rawV,if_pos HK.out]
     have hv:=Qu (RowV.val hrow (lo:=w.heap.size+3) (by rw [L.len,L.cen]) (Nat.le_refl _) t.k b0 b1 (by rw [L.len];omega)) t.n t.s HBD.out.n0 HBD.out.n1 HBD.out.s1
     have HV:=qh hv
     clear hv
     have LB:=qh B4
     have HR:=qh hR
     clear L B4 hrow hs1 hs2 hR hI4 hb4
     go_wp2_with fail
     have hR:=HR.out
     have ST:=LB.out.stored ⟨t.k,t.n,t.s,a',m,c',none,0,0⟩
     rw [<-HQ.out,hR]
     exact Xy (c:=⟨t.k,t.n,t.s,a',m,c',none,0,0⟩) (ST.1.keep ((Below.refl _ _).alloc (Nat.le_refl _) _) ST.1.lt) (ST.2.1.alloc ST.2.1.size _) (((Zm HV.out ST.2.2 (by omega)).sub (Zd (S':=fun b=>w.heap.size<=b) fun k hk hl=>⟨by omega,((Below.refl _ _).alloc (Nat.le_refl _) _:Below _ _ _).block k hl⟩)).more (by simp)) rfl rfl rfl
    .exfalso;apply hq
     have h0:=HX.out
     rw [List.drop_eq_nil_of_le (by have:=HLEN.out;omega)] at h0
     cases d<;>(rw [rawP] at h0;injection h0 with h1 h2;exact h2.symm)
   .rw [if_neg hc] at HC
    have huc:un<c:=by omega
    clear hz9 hc
    go_wp2_with fail
    refine (HC.out).mono ?_
    rintro e w4 ⟨⟨cx,rfl,hI4⟩,hb4⟩
    have L:=LL.out
    have B4:=L.box.next hb4
    have k0:=B4.tok.at_ 0 _ rfl;have k3:=B4.tok.at_ 3 _ rfl
    obtain ⟨v0,v1,v2,v3,v4⟩:=row5 B4.val.at_
    have p0:=B4.val.fr 3
    obtain ⟨r0,r1,r2,r3,r4⟩:=row5 B4.res.at_
    have g0:=B4.res.fr 0;have g1:=B4.res.fr 1;have g2:=B4.res.fr 2;have g3:=B4.res.fr 3;have g4:=B4.res.fr 4
    have zt2:=B4.val.lt;have zt1:=B4.tok.lt;have zt0:=B4.res.lt
    have hrow:RowV w4 (w.heap.size+3) (.slice a' m c') xs cs:=L.row.later (PV.closed xs cs) (.of_below 0 hb4) (by omega)
    by_cases hq:q=0
    .subst hq
     have hs1:fR (rawP d) (t::r) (j+1)=(xs,un,true):=by rw [fR,if_neg (by rw [L.rd];simp),L.rd];dsimp only;rw [HX.out,if_pos rfl]
     have hs2:=J5 (f:=rawP d) (l:=t::r) (j:=j+1) (n:=K) (by rw [hs1]) (by omega)
     have hR:rawP (d+1) (t::r)=(.mk t.k t.n t.s xs [],un):=by
      rw [rawP,HKK.out,hs2,hs1];dsimp only;congr 1;rw [rawV,if_pos HK.out]
     have hv:=Qu (RowV.val hrow (lo:=w.heap.size+3) (by rw [L.len,L.cen]) (Nat.le_refl _) t.k b0 b1 (by rw [L.len];omega)) t.n t.s HBD.out.n0 HBD.out.n1 HBD.out.s1
     have HV:=qh hv
     clear hv
     have LB:=qh B4
     have HR:=qh hR
     clear L B4 hrow hs1 hs2 hR hI4 hb4
     go_wp2_with fail
     have hR:=HR.out
     have ST:=LB.out.stored ⟨t.k,t.n,t.s,a',m,c',none,0,0⟩
     rw [<-HQ.out,hR]
     exact Xy (c:=⟨t.k,t.n,t.s,a',m,c',none,0,0⟩) (ST.1.keep ((Below.refl _ _).alloc (Nat.le_refl _) _) ST.1.lt) (ST.2.1.alloc ST.2.1.size _) (((Zm HV.out ST.2.2 (by omega)).sub (Zd (S':=fun b=>w.heap.size<=b) fun k hk hl=>⟨by omega,((Below.refl _ _).alloc (Nat.le_refl _) _:Below _ _ _).block k hl⟩)).more (by simp)) rfl rfl rfl
    .have hqn:((q:Int)==0)=false:=by simp;omega
     have hne2:(Value.slice a' m c').ownBlock≠some (w.heap.size+2):=fun e=>by have:=(L.row.lt _ e).1;omega
     have ho4:=hrow.own
     rw [L.len] at ho4
     have hu3:(un:Int)+q<=9223372036854775807:=by omega
     have HI4:=qh hI4
     have HB4:=qh hb4
     have hnw:∀jj u,(vcells cx)[jj]? =some u->((w4.alloc (.cells (uV cx) 36)).alloc (.cells (uV cx) 36)).cell? ((⟨w4.heap.size+1,0,none⟩:Addr).add jj)=some u:=by
      have:=World.news_of_block (t:=36) (fr:=(0,0)) (heap_alloc_new (w4.alloc (.cells (uV cx) 36)) (.cells (uV cx) 36))
      intro jj u hu
      simpa using this jj u (by simpa [vcells] using hu)
     have HNW:=qh hnw
     have HB44:=qh B4
     clear L B4 hrow hI4 hb4 hnw
     go_wp2_with (at_builtin;refine wpList_append_lies _ rfl (.tmp 53) (.tmp 55) 33 (by rfl) (w.heap.size+3) 36 i0 _ 5 80 Tryz.underlying33 hi0 hz0 hz1 hz2 rfl (by omega) (.slice a' m c') j (cs.flatMap vcells) (by rfl) ((ho4.alloc _).alloc _) ⟨w4.heap.size+1,0,none⟩ 1 1 (vcells cx) (by rfl) (by rfl) HNW.out (by simp [vcells,Value.oneCell']) (by omega) (by unfold maxLen;omega) (by omega) (by simp;omega) (w4.heap.size+1+1) (by simp) ?_;intro g cap w7 hown7 hgrow7 hat7 hlt7;have hc7:w7.cell? ⟨w.heap.size+2,3,none⟩=some (.slice a' m c'):=(hgrow7.cell_far ⟨w.heap.size+2,3,none⟩ (by simp;omega) (Ne.symm hne2)).trans (Za ((Below.refl _ _).alloc (by simp) _) (Za ((Below.refl _ _).alloc (Nat.le_refl _) _) (HB44.out.val.at_ 3 _ rfl) zt2) zt2);have hf7:w7.frozen? ⟨w.heap.size+2,3,none⟩=false:=(hgrow7.frozen_far ⟨w.heap.size+2,3,none⟩ (by simp;omega) (Ne.symm hne2)).trans ((((Below.refl _ _).alloc (by simp) _:Below w4.heap.size (w4.alloc _) ((w4.alloc _).alloc _)).frozen (p:=⟨w.heap.size+2,3,none⟩) zt2).trans ((((Below.refl _ _).alloc (Nat.le_refl _) _:uB w4 (w4.alloc _)).frozen (p:=⟨w.heap.size+2,3,none⟩) zt2).trans (HB44.out.val.fr 3))))
     go_roundw
     case rel=>exact ⟨j+1,some ⟨g,0,none⟩,j+1,cap,xs++ [x],cs++ [cx],un+q,by omega,by go_num,by go_num,LL.out.round HX.out hq HB4.out HI4.out (((Below.refl _ _).alloc (Nat.le_refl _) _).alloc (by simp) _) hown7 hgrow7 (hat7.imp_right fun e=>by omega)⟩
     case measure=>simp [intOf];omega
  .have hjn:j=K:=by omega
   subst hjn
   have hR:rawP (d+1) (t::r)=(.mk t.k t.n t.s xs [],un):=by
    rw [rawP,HKK.out,L.rd];dsimp only;congr 1;rw [rawV,if_pos HK.out]
   have hv:=Qu (RowV.val L.row (lo:=w.heap.size+3) (by rw [L.len,L.cen]) (Nat.le_refl _) t.k b0 b1 (by rw [L.len];omega)) t.n t.s HBD.out.n0 HBD.out.n1 HBD.out.s1
   have HV:=qh hv
   clear hv
   have LB:=qh L.box
   clear L
   go_wp2_with fail
   have ST:=LB.out.stored ⟨t.k,t.n,t.s,a',m,c',none,0,0⟩
   rw [<-HQ.out,hR]
   exact Xy (c:=⟨t.k,t.n,t.s,a',m,c',none,0,0⟩) ST.1 ST.2.1 ((Zm HV.out ST.2.2 (by omega)).sub (Zd fun k hk _=>⟨by omega,rfl⟩)) rfl rfl rfl
set_option maxRecDepth 100000 in
theorem zki (w:World) (dd:Int) (hd0:0<=dd) (hd:dd<=19) (d:Nat) (t:Tk) (r:List Tk) (a:Option Addr) (n c:Nat) (h:IsToks w w.heap.size (t::r) a n c) (IH:∀(W:World) (l:List Tk) (a:Option Addr) (n c:Nat),IsToks W W.heap.size l a n c->uP 99 #[.slice a n c, .int .i64 (dd+1)] W (RawPost W (rawP d l))) (hk:t.k % 2=1):
 uP 99 #[.slice a n c, .int .i64 dd] w (RawPost w (rawP (d+1) (t::r))):=by
 delta uP
 obtain ⟨i0,hi0,hz0,hz1,hz2⟩:=info_parts Yj
 have hw1:IntKind.i64.wrap (dd+1)=dd+1:=IntWalk.i64_in _ (by omega)
 obtain ⟨b,o,hp,rfl,hb,htk,hbd⟩:=h.get (k:=0) (by have:=h.len;rw [this];simp)
 have ht:TkAt w b o t:=by simpa using htk
 replace hbd:t.Bnd:=by simpa using hbd
 have c0:=ht.c0;have c1:=ht.c1;have c2:=ht.c2;have c3:=ht.c3
 have b0:=hbd.k0;have b1:=hbd.k1;have b2:=hbd.m0;have b3:=hbd.m1
 have hlen:=h.len
 have hcap:=h.cap
 have hmax:=h.max
 have hnp:0<n:=by rw [hlen];simp
 have hne:((n:Int)==0)=false:=by simp;omega
 obtain ⟨K,hK⟩:∃K:Nat,(t.m % 4).toNat=K:=⟨_,rfl⟩
 have hK1:t.m % 4=(K:Int):=by omega
 have hK2:Int.tmod t.m 4=(K:Int):=by rw [Int.tmod_eq_emod_of_nonneg b2];exact hK1
 have hK3:K<=3:=by omega
 have HI:=qh h
 have HQR:=qh (QR.start w t 36 73 36)
 have HBD:=qh hbd
 have IHH:=qh IH
 have HLEN:=qh hlen
 have HKK:=qh hK
 clear h ht htk hp hbd IH hlen hK
 have hk2:Int.tmod t.k 2=1:=by rw [Int.tmod_eq_emod_of_nonneg b0];exact hk
 have HK:=qh hk
 clear hk
 go_enter Tryz.func99,Tryz.ntmps99
 generalize hQ0:bodyPost _ _ _=Q0
 have HQ:=qh hQ0
 clear hQ0
 go_wp2_with fail
 go_loopw [8,9,10,11] (fun u i _ _ wr=>∃(j:Nat) (a':Option Addr) (m c':Nat) (xs:List V) (cs:List VC) (un:Nat),j<=K/\u= .int .i64 un/\i= .int .u8 j/\RLO w wr d (t::r) t j a' m c' xs cs un) (fun _ i _ _ _=>K - (intOf i).toNat)
 case atStart=>exact ⟨0,none,0,0, [], [],1,Nat.zero_le _,rfl,rfl,⟨rfl,rfl,rfl,(HQR.out _ rfl).1,Row.nil _ _ _ _ _⟩⟩
 case round=>
  obtain ⟨j,a',m,c',xs,cs,un,hj,rfl,rfl,L⟩:=hrel
  have k0:=L.box.tok.at_ 0 _ rfl;have k3:=L.box.tok.at_ 3 _ rfl
  obtain ⟨v0,v1,v2,v3,v4⟩:=row5 L.box.val.at_
  have p0:=L.box.val.fr 4
  obtain ⟨r0,r1,r2,r3,r4⟩:=row5 L.box.res.at_
  have g0:=L.box.res.fr 0;have g1:=L.box.res.fr 1;have g2:=L.box.res.fr 2;have g3:=L.box.res.fr 3;have g4:=L.box.res.fr 4
  have zs2:=L.box.val.lt;have zs1:=L.box.tok.lt;have zs0:=L.box.res.lt
  obtain ⟨hu1,hu2,_⟩:1<=un/\un<=n/\True:=by
   have:=zan (Jc d) (l:=t::r) (by simp) j
   rw [L.rd] at this
   exact ⟨this.1,by rw [HLEN.out];exact this.2.1,trivial⟩
  by_cases hlt:j<K
  .have hz9:c=un->n - un=0:=by omega
   obtain ⟨⟨x,q⟩,hx⟩:∃p,rawP d ((t::r).drop un)=p:=⟨_,rfl⟩
   have hq2:un+q<=n:=by have:=Jc d ((t::r).drop un);rw [hx,List.length_drop] at this;have:=HLEN.out;dsimp only at*;omega
   have HX:=qh hx
   have HIW:=(HI.out.later_ L.box.below).drop un hu2
   have HC:Hid (uP 99 #[if c=un then .slice (some ⟨b,o,none⟩) 0 0 else .slice (some ⟨b,o+un*4,none⟩) (n - un) (c - un), .int .i64 (dd+1)] wr (RawPost wr (x,q))):=by
    unfold Hid
    rw [<-HX.out]
    by_cases hc:c=un
    .rw [if_pos hc];exact IHH.out wr _ _ _ _ (HIW.none_left (hz9 hc))
    .rw [if_neg hc];rw [Option.map_some,Zw] at HIW;exact IHH.out wr _ _ _ _ HIW
   have LL:=qh L
   clear L HIW hx
   by_cases hc:c=un
   .rw [if_pos hc] at HC
    have hz:=hz9 hc
    clear hz9
    subst hc
    go_wp2_with fail
    refine (HC.out).mono ?_
    rintro e w4 ⟨⟨cx,rfl,hI4⟩,hb4⟩
    have L:=LL.out
    have B4:=L.box.next hb4
    have k0:=B4.tok.at_ 0 _ rfl;have k3:=B4.tok.at_ 3 _ rfl
    obtain ⟨v0,v1,v2,v3,v4⟩:=row5 B4.val.at_
    have p0:=B4.val.fr 4
    obtain ⟨r0,r1,r2,r3,r4⟩:=row5 B4.res.at_
    have g0:=B4.res.fr 0;have g1:=B4.res.fr 1;have g2:=B4.res.fr 2;have g3:=B4.res.fr 3;have g4:=B4.res.fr 4
    have zt2:=B4.val.lt;have zt1:=B4.tok.lt;have zt0:=B4.res.lt
    have hrow:RowF w4 (w.heap.size+3) (.slice a' m c') (fld xs) (fldc cs):=L.row.later (PF.closed (fld xs) (fldc cs)) (.of_below 0 hb4) (by omega)
    by_cases hq:q=0
    .subst hq
     have hs1:fR (rawP d) (t::r) (j+1)=(xs,c,true):=by rw [fR,if_neg (by rw [L.rd];simp),L.rd];dsimp only;rw [HX.out,if_pos rfl]
     have hs2:=J5 (f:=rawP d) (l:=t::r) (j:=j+1) (n:=K) (by rw [hs1]) (by omega)
     have hR:rawP (d+1) (t::r)=(.mk t.k t.n t.s [] (fld xs),c):=by
      rw [rawP,HKK.out,hs2,hs1];dsimp only;congr 1;rw [rawV,if_neg (by rw [HK.out];decide)];rfl
     have hv:=Qu (RowF.val hrow (lo:=w.heap.size+3) (by simp [fld,fldc,L.len,L.cen]) (Nat.le_refl _) t.k b0 b1 (by rw [show (fld xs).length=xs.length by simp [fld],L.len];omega)) t.n t.s HBD.out.n0 HBD.out.n1 HBD.out.s1
     have HV:=qh hv
     clear hv
     have LB:=qh B4
     have HR:=qh hR
     clear L B4 hrow hs1 hs2 hR hI4 hb4
     go_wp2_with fail
     have hR:=HR.out
     have ST:=LB.out.stored ⟨t.k,t.n,t.s,none,0,0,a',m,c'⟩
     rw [<-HQ.out,hR]
     exact Xy (c:=⟨t.k,t.n,t.s,none,0,0,a',m,c'⟩) (ST.1.keep ((Below.refl _ _).alloc (Nat.le_refl _) _) ST.1.lt) (ST.2.1.alloc ST.2.1.size _) (((Zm HV.out ST.2.2 (by omega)).sub (Zd (S':=fun b=>w.heap.size<=b) fun k hk hl=>⟨by omega,((Below.refl _ _).alloc (Nat.le_refl _) _:Below _ _ _).block k hl⟩)).more (by simp)) rfl rfl rfl
    .exfalso;apply hq
     have h0:=HX.out
     rw [List.drop_eq_nil_of_le (by have:=HLEN.out;omega)] at h0
     cases d<;>(rw [rawP] at h0;injection h0 with h1 h2;exact h2.symm)
   .rw [if_neg hc] at HC
    have huc:un<c:=by omega
    clear hz9 hc
    go_wp2_with fail
    refine (HC.out).mono ?_
    rintro e w4 ⟨⟨cx,rfl,hI4⟩,hb4⟩
    have L:=LL.out
    have B4:=L.box.next hb4
    have k0:=B4.tok.at_ 0 _ rfl;have k3:=B4.tok.at_ 3 _ rfl
    obtain ⟨v0,v1,v2,v3,v4⟩:=row5 B4.val.at_
    have p0:=B4.val.fr 4
    obtain ⟨r0,r1,r2,r3,r4⟩:=row5 B4.res.at_
    have g0:=B4.res.fr 0;have g1:=B4.res.fr 1;have g2:=B4.res.fr 2;have g3:=B4.res.fr 3;have g4:=B4.res.fr 4
    have zt2:=B4.val.lt;have zt1:=B4.tok.lt;have zt0:=B4.res.lt
    have hrow:RowF w4 (w.heap.size+3) (.slice a' m c') (fld xs) (fldc cs):=L.row.later (PF.closed (fld xs) (fldc cs)) (.of_below 0 hb4) (by omega)
    by_cases hq:q=0
    .subst hq
     have hs1:fR (rawP d) (t::r) (j+1)=(xs,un,true):=by rw [fR,if_neg (by rw [L.rd];simp),L.rd];dsimp only;rw [HX.out,if_pos rfl]
     have hs2:=J5 (f:=rawP d) (l:=t::r) (j:=j+1) (n:=K) (by rw [hs1]) (by omega)
     have hR:rawP (d+1) (t::r)=(.mk t.k t.n t.s [] (fld xs),un):=by
      rw [rawP,HKK.out,hs2,hs1];dsimp only;congr 1;rw [rawV,if_neg (by rw [HK.out];decide)];rfl
     have hv:=Qu (RowF.val hrow (lo:=w.heap.size+3) (by simp [fld,fldc,L.len,L.cen]) (Nat.le_refl _) t.k b0 b1 (by rw [show (fld xs).length=xs.length by simp [fld],L.len];omega)) t.n t.s HBD.out.n0 HBD.out.n1 HBD.out.s1
     have HV:=qh hv
     clear hv
     have LB:=qh B4
     have HR:=qh hR
     clear L B4 hrow hs1 hs2 hR hI4 hb4
     go_wp2_with fail
     have hR:=HR.out
     have ST:=LB.out.stored ⟨t.k,t.n,t.s,none,0,0,a',m,c'⟩
     rw [<-HQ.out,hR]
     exact Xy (c:=⟨t.k,t.n,t.s,none,0,0,a',m,c'⟩) (ST.1.keep ((Below.refl _ _).alloc (Nat.le_refl _) _) ST.1.lt) (ST.2.1.alloc ST.2.1.size _) (((Zm HV.out ST.2.2 (by omega)).sub (Zd (S':=fun b=>w.heap.size<=b) fun k hk hl=>⟨by omega,((Below.refl _ _).alloc (Nat.le_refl _) _:Below _ _ _).block k hl⟩)).more (by simp)) rfl rfl rfl
    .have hqn:((q:Int)==0)=false:=by simp;omega
     have hne2:(Value.slice a' m c').ownBlock≠some (w.heap.size+2):=fun e=>by have:=(L.row.lt _ e).1;omega
     have ho4:=hrow.own
     rw [show (fld xs).length=j by simp [fld,L.len]] at ho4
     have hu3:(un:Int)+q<=9223372036854775807:=by omega
     have HI4:=qh hI4
     have HB4:=qh hb4
     have hnw:∀jj u,(fcells (cx.s,cx))[jj]? =some u->((w4.alloc (.cells (uV cx) 36)).alloc (.cells #[.string cx.s, .int .u8 cx.k, .int .i64 cx.n, .string cx.s, .slice cx.la cx.ll cx.lc, .slice cx.oa cx.ol cx.oc] 75)).cell? ((⟨w4.heap.size+1,0,none⟩:Addr).add jj)=some u:=by
      have:=World.news_of_block (t:=75) (fr:=(0,0)) (heap_alloc_new (w4.alloc (.cells (uV cx) 36)) (.cells #[.string cx.s, .int .u8 cx.k, .int .i64 cx.n, .string cx.s, .slice cx.la cx.ll cx.lc, .slice cx.oa cx.ol cx.oc] 75))
      intro jj u hu
      simpa using this jj u (by simpa [fcells] using hu)
     have HNW:=qh hnw
     have HB44:=qh B4
     clear L B4 hrow hI4 hb4 hnw
     go_wp2_with (at_builtin;refine wpList_append_lies _ rfl (.tmp 59) (.tmp 64) 34 (by rfl) (w.heap.size+3) 75 i0 _ 6 96 Tryz.underlying34 hi0 hz0 hz1 hz2 rfl (by omega) (.slice a' m c') j ((fldc cs).flatMap fcells) (by rfl) ((ho4.alloc _).alloc _) ⟨w4.heap.size+1,0,none⟩ 1 1 (fcells (cx.s,cx)) (by rfl) (by rfl) HNW.out (by simp [fcells,Value.oneCell']) (by omega) (by unfold maxLen;omega) (by omega) (by simp;omega) (w4.heap.size+1+1) (by simp) ?_;intro g cap w7 hown7 hgrow7 hat7 hlt7;have hc7:w7.cell? ⟨w.heap.size+2,4,none⟩=some (.slice a' m c'):=(hgrow7.cell_far ⟨w.heap.size+2,4,none⟩ (by simp;omega) (Ne.symm hne2)).trans (Za ((Below.refl _ _).alloc (by simp) _) (Za ((Below.refl _ _).alloc (Nat.le_refl _) _) (HB44.out.val.at_ 4 _ rfl) zt2) zt2);have hf7:w7.frozen? ⟨w.heap.size+2,4,none⟩=false:=(hgrow7.frozen_far ⟨w.heap.size+2,4,none⟩ (by simp;omega) (Ne.symm hne2)).trans ((((Below.refl _ _).alloc (by simp) _:Below w4.heap.size (w4.alloc _) ((w4.alloc _).alloc _)).frozen (p:=⟨w.heap.size+2,4,none⟩) zt2).trans ((((Below.refl _ _).alloc (Nat.le_refl _) _:uB w4 (w4.alloc _)).frozen (p:=⟨w.heap.size+2,4,none⟩) zt2).trans (HB44.out.val.fr 4))))
     go_roundw
     case rel=>exact ⟨j+1,some ⟨g,0,none⟩,j+1,cap,xs++ [x],cs++ [cx],un+q,by omega,by go_num,by go_num,LL.out.round HX.out hq HB4.out HI4.out (((Below.refl _ _).alloc (Nat.le_refl _) _).alloc (by simp) _) hown7 hgrow7 (hat7.imp_right fun e=>by omega)⟩
     case measure=>simp [intOf];omega
  .have hjn:j=K:=by omega
   subst hjn
   have hR:rawP (d+1) (t::r)=(.mk t.k t.n t.s [] (fld xs),un):=by
    rw [rawP,HKK.out,L.rd];dsimp only;congr 1;rw [rawV,if_neg (by rw [HK.out];decide)];rfl
   have hv:=Qu (RowF.val L.row (lo:=w.heap.size+3) (by simp [fld,fldc,L.len,L.cen]) (Nat.le_refl _) t.k b0 b1 (by rw [show (fld xs).length=xs.length by simp [fld],L.len];omega)) t.n t.s HBD.out.n0 HBD.out.n1 HBD.out.s1
   have HV:=qh hv
   clear hv
   have LB:=qh L.box
   clear L
   go_wp2_with fail
   have ST:=LB.out.stored ⟨t.k,t.n,t.s,none,0,0,a',m,c'⟩
   rw [<-HQ.out,hR]
   exact Xy (c:=⟨t.k,t.n,t.s,none,0,0,a',m,c'⟩) ST.1 ST.2.1 ((Zm HV.out ST.2.2 (by omega)).sub (Zd fun k hk _=>⟨by omega,rfl⟩)) rfl rfl rfl
set_option maxRecDepth 100000 in
theorem ze1 (w:World) (dd:Int) (a:Option Addr) (c:Nat):
 uP 99 #[.slice a 0 c, .int .i64 dd] w (RawPost w (V.none,0)):=by
 delta uP
 go_enter Tryz.func99,Tryz.ntmps99
 generalize hQ0:bodyPost _ _ _=Q0
 have HQ:=qh hQ0
 clear hQ0
 go_wp2_with fail
 rw [<-HQ.out]
 exact Xy (c:=vzero) (BC.start w (uU 0 0 { data:= #[] } none 0 0 none 0 0) _) ((Below.refl _ _).alloc (Nat.le_refl _) _) (Zq _ _) rfl rfl rfl
set_option maxRecDepth 100000 in
theorem ziv (w:World) (t:Tk) (r:List Tk) (a:Option Addr) (n c:Nat) (h:IsToks w w.heap.size (t::r) a n c):
 uP 99 #[.slice a n c, .int .i64 20] w (RawPost w (rawP 0 (t::r))):=by
 delta uP
 obtain ⟨b,o,hp,rfl,hb,htk,hbd⟩:=h.get (k:=0) (by have:=h.len;rw [this];simp)
 have ht:TkAt w b o t:=by simpa using htk
 replace hbd:t.Bnd:=by simpa using hbd
 have c0:=ht.c0;have c1:=ht.c1;have c2:=ht.c2;have c3:=ht.c3
 have b2:=hbd.m0;have b3:=hbd.m1
 have hnp:0<n:=by rw [h.len];simp
 have hne:((n:Int)==0)=false:=by simp;omega
 obtain ⟨K,hK⟩:∃K:Nat,(t.m % 4).toNat=K:=⟨_,rfl⟩
 have hK2:Int.tmod t.m 4=(K:Int):=by rw [Int.tmod_eq_emod_of_nonneg b2];omega
 have HQR:=qh (QR.start w t 36 73 36)
 have HBD:=qh hbd
 clear h ht htk hp hbd hK
 go_enter Tryz.func99,Tryz.ntmps99
 generalize hQ0:bodyPost _ _ _=Q0
 have HQ:=qh hQ0
 clear hQ0
 go_wp2_with fail
 go_loopw [8,9,10,11] (fun u i _ _ wr=>u= .int .i64 1/\i= .int .u8 0/\QR w wr t ⟨t.k,t.n,t.s,none,0,0,none,0,0⟩) (fun _ _ _ _ _=>0)
 case atStart=>exact ⟨rfl,rfl,(HQR.out _ rfl).1⟩
 case round=>
  obtain ⟨rfl,rfl,L⟩:=hrel
  have k0:=L.tok.at_ 0 _ rfl;have k3:=L.tok.at_ 3 _ rfl
  obtain ⟨v0,v1,v2,v3,v4⟩:=row5 L.val.at_
  obtain ⟨r0,r1,r2,r3,r4⟩:=row5 L.res.at_
  have g0:=L.res.fr 0;have g1:=L.res.fr 1;have g2:=L.res.fr 2;have g3:=L.res.fr 3;have g4:=L.res.fr 4
  have zs2:=L.val.lt;have zs1:=L.tok.lt;have zs0:=L.res.lt
  have LB:=qh L
  clear L
  by_cases hK0:0<K
  all_goals
   go_wp2_with fail
   have ST:=LB.out.stored ⟨t.k,t.n,t.s,none,0,0,none,0,0⟩
   rw [<-HQ.out]
   exact Xy (c:=⟨t.k,t.n,t.s,none,0,0,none,0,0⟩) ST.1 ST.2.1 (Qg _ _ t.k t.n t.s HBD.out.k0 HBD.out.k1 HBD.out.n0 HBD.out.n1 HBD.out.s1) rfl rfl rfl
theorem zi4 (d:Nat):∀(dd:Int),0<=dd->dd+d=20->∀(w:World) (l:List Tk) (a:Option Addr) (n c:Nat),IsToks w w.heap.size l a n c->
 uP 99 #[.slice a n c, .int .i64 dd] w (RawPost w (rawP d l)):=by
 delta uP
 induction d with
 | zero=>
   intro dd _ hd w l a n c h
   cases l with
   |nil=>obtain rfl:n=0:=h.len;exact ze1 w dd a c
   | cons t r=>
     obtain rfl:dd=20:=by omega
     exact ziv w t r a n c h
 | succ d ih=>
   intro dd hd0 hd w l a n c h
   cases l with
   |nil=>obtain rfl:n=0:=h.len;exact ze1 w dd a c
   | cons t r=>
     have IH:=fun W l a n c h=>ih (dd+1) (by omega) (by omega) W l a n c h
     by_cases hk:t.k % 2=0
     .exact zpn w dd hd0 (by omega) d t r a n c h IH hk
     .exact zki w dd hd0 (by omega) d t r a n c h IH (by omega)
theorem zld {tmps:Array Value} {W:World} {b:Nat} {c:VC} (ht:tmps[2]? =some (.pointer (some ⟨b,0,none⟩))) (h:BC W b (vcells c)):
 (results Tryz.f63 tmps).run Tryz.prog W= .ok (.agg #[.int .u8 c.k, .int .i64 c.n, .string c.s, .slice c.la c.ll c.lc, .slice c.oa c.ol c.oc]) W:=by
 obtain ⟨r0,r1,r2,r3,r4⟩:=(⟨h.at_ 0 _ rfl,h.at_ 1 _ rfl,h.at_ 2 _ rfl,h.at_ 3 _ rfl,h.at_ 4 _ rfl⟩:W.cell? ⟨b,0,none⟩=some (.int .u8 c.k)/\W.cell? ⟨b,1,none⟩=some (.int .i64 c.n)/\W.cell? ⟨b,2,none⟩=some (.string c.s)/\W.cell? ⟨b,3,none⟩=some (.slice c.la c.ll c.lc)/\W.cell? ⟨b,4,none⟩=some (.slice c.oa c.ol c.oc))
 simp [results,Tryz.results63,go_sem,ht,r0,r1,r2,r3,r4]
set_option maxRecDepth 100000 in
theorem zf7 (w:World) (l:List Tk) (a:Option Addr) (n c:Nat) (h:IsToks w w.heap.size l a n c):
 uP 63 #[.slice a n c] w fun e w'=>(∃cv:VC,e= .returned (.agg #[.int .u8 cv.k, .int .i64 cv.n, .string cv.s, .slice cv.la cv.ll cv.lc, .slice cv.oa cv.ol cv.oc])/\IsVal (only (fun b=>w.heap.size<=b) w') w'.heap.size (rawP 20 (l.take 60)).1 cv)/\uB w w':=by
 delta uB uP
 have hlen:=h.len
 have hcap:=h.cap
 have hmax:=h.max
 have HD:=qh (BC.start w (uU 0 0 { data:= #[] } none 0 0 none 0 0) 36)
 have hal:uB w (w.alloc (.cells (uU 0 0 { data:= #[] } none 0 0 none 0 0) 36)):=(Below.refl _ _).alloc (Nat.le_refl _) _
 have HAL:=qh hal
 obtain ⟨N,hN⟩:∃N,min n 60=N:=⟨_,rfl⟩
 have hN2:N<=n:=by omega
 have htk:l.take N=l.take 60:=by
  by_cases hq:n<=60
  .rw [List.take_of_length_le (by omega),List.take_of_length_le (by omega)]
  .rw [show N=60 by omega]
 have HI:=qh ((h.later_ hal).take N hN2)
 rw [htk] at HI
 obtain ⟨p,hp⟩:∃p,rawP 20 (l.take 60)=p:=⟨_,rfl⟩
 have HP:=qh hp
 rw [hp]
 have hcs:(n<=60/\N=n)∨(60<n/\N=60):=by omega
 have hm:min (n:Int) 60=(N:Int):=by omega
 clear hN hN2
 rcases hcs with ⟨hq,rfl⟩|⟨hq,rfl⟩
 all_goals
  clear h hlen hal htk hp
  go_enter Tryz.func63,Tryz.ntmps63
  generalize hQ0:bodyPost _ _ _=Q0
  have HQ:=qh hQ0
  clear hQ0
  go_wp2_with fail
  refine (zi4 20 0 (by omega) (by omega) _ _ _ _ _ HI.out).mono ?_
  rw [HP.out]
  rintro e w3 ⟨⟨cv,rfl,hI3⟩,hb3⟩
  have D:=HD.out.keep hb3 (by simp)
  obtain ⟨r0,r1,r2,r3,r4⟩:=row5 D.at_
  have g0:=D.fr 0;have g1:=D.fr 1;have g2:=D.fr 2;have g3:=D.fr 3;have g4:=D.fr 4
  have zs3:w.heap.size<w3.heap.size:=D.lt
  have HD3:=qh D
  have HI3:=qh hI3
  have HB3:=qh (HAL.out.trans (hb3.mono (by simp)))
  clear D hI3 hb3
  go_wp2_with fail
  rw [<-HQ.out]
  have s1:RStep w3 (((((w3.setCell ⟨w.heap.size,0,none⟩ (.int .u8 cv.k)).setCell ⟨w.heap.size,1,none⟩ (.int .i64 cv.n)).setCell ⟨w.heap.size,2,none⟩ (.string cv.s)).setCell ⟨w.heap.size,3,none⟩ (.slice cv.la cv.ll cv.lc)).setCell ⟨w.heap.size,4,none⟩ (.slice cv.oa cv.ol cv.oc)) w.heap.size:=(((RStep.self.trans RStep.self).trans RStep.self).trans RStep.self).trans RStep.self
  have hbc:BC (((((w3.setCell ⟨w.heap.size,0,none⟩ (.int .u8 cv.k)).setCell ⟨w.heap.size,1,none⟩ (.int .i64 cv.n)).setCell ⟨w.heap.size,2,none⟩ (.string cv.s)).setCell ⟨w.heap.size,3,none⟩ (.slice cv.la cv.ll cv.lc)).setCell ⟨w.heap.size,4,none⟩ (.slice cv.oa cv.ol cv.oc)) w.heap.size (vcells cv):=((((HD3.out.set (i:=0) (x:= .int .u8 cv.k) (by simp)).set (i:=1) (x:= .int .i64 cv.n) (by simp)).set (i:=2) (x:= .string cv.s) (by simp)).set (i:=3) (x:= .slice cv.la cv.ll cv.lc) (by simp)).set (i:=4) (x:= .slice cv.oa cv.ol cv.oc) (by simp)
  have hv:=fun ob=>(Zm (Zm HI3.out s1 (by simp)) (RStep.of_below w.heap.size ((Below.refl _ _).alloc (Nat.le_refl _) ob)) (by simp)).sub (Zd (S':=fun b=>w.heap.size<=b) fun k hk _=>⟨by simp at hk;omega,rfl⟩)
  have hB:=HB3.out.trans (s1.below (by omega))
  exact ⟨rfl,_,zld rfl (hbc.keep ((Below.refl _ _).alloc (Nat.le_refl _) _) hbc.lt),⟨cv,rfl,hv _⟩,hB.alloc hB.size _⟩
end Go.Proofs.YtnjgbiachcfigaaGreatDoor
