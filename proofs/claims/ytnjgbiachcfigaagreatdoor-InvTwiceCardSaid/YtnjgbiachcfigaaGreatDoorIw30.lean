/-
  Contracts of the functions that the law reaches: conciliatorref06.Do. What may be done to.
-/
import Derived.Test.YtnjgbiachcfigaaGreatDoorIw29
namespace Go.Proofs.YtnjgbiachcfigaaGreatDoor
open Go.RowKit
set_option maxHeartbeats 8000000
set_option maxRecDepth 100000 in
theorem zg9 (w:World) (vk vn:Int) (vs:ByteArray) (la:Option Addr) (ll lc:Nat) (oa:Option Addr) (ol oc:Nat) (v:V) (hv:IsVal w w.heap.size v ⟨vk,vn,vs,la,ll,lc,oa,ol,oc⟩) (hw:v.weight<=100000000) (p:List St) (xv:V) (cc:CC) (hcb:cc.Bnd) (hp:IsSteps w w.heap.size p cc.pa cc.pl cc.pc) (hxv:IsVal w w.heap.size xv cc.v) (hxw:xv.weight<=4611686018427387904) (hT:Tabs w) (he:checkP v ⟨cc.k,p,cc.key,cc.i,cc.j,cc.n,xv,cc.s⟩=0) (hk:cc.k=1):
 uP 16 #[.agg (uU vk vn vs la ll lc oa ol oc), .agg (uC cc)] w (DoPost w (doP v ⟨cc.k,p,cc.key,cc.i,cc.j,cc.n,xv,cc.s⟩)):=by
 delta uU uC uP
 obtain ⟨_,x,hg,hkd⟩:=Zu he
 dsimp only at hg hkd
 have hxw2:=Zz p hg
 have HCK:Hid (∀W,uB w W->uP 34 #[.agg (uU vk vn vs la ll lc oa ol oc), .agg (uC cc)] W fun e w'=>e= .returned (.int .i64 0)/\uB W w'):=fun W hW=>by
  have:=X6 W vk vn vs la ll lc oa ol oc v (hv.later_ hW) (by omega) p xv cc hcb (hp.later_ hW) (hxv.later_ hW) (by omega) (hT.below hW)
  rw [he] at this;exact this
 have HGT:Hid (∀W,uB w W->uP 38 #[.agg (uU vk vn vs la ll lc oa ol oc), .slice cc.pa cc.pl cc.pc] W (GetPost W (some x))):=fun W hW=>by rw [<-hg];exact X3 W vk vn vs la ll lc oa ol oc v (hv.later_ hW) p cc.pa cc.pl cc.pc (hp.later_ hW)
 have HPT:Hid (∀(W:World) (y:V) (k n:Int) (s:ByteArray) (a:Option Addr) (m c:Nat) (a':Option Addr) (m' c':Nat),uB w W->IsVal W W.heap.size y ⟨k,n,s,a,m,c,a',m',c'⟩->uP 51 #[.agg (uU vk vn vs la ll lc oa ol oc), .slice cc.pa cc.pl cc.pc, .agg (uU k n s a m c a' m' c')] W (GetPost W (putP v p y))):=fun W y k n s a m c a' m' c' hW hy=>Js y k n s a m c a' m' c' p W vk vn vs la ll lc oa ol oc v (hv.later_ hW) cc.pa cc.pl cc.pc (hp.later_ hW) hy
 have hdo:doP v ⟨cc.k,p,cc.key,cc.i,cc.j,cc.n,xv,cc.s⟩=doneQ (putP v p (doneP x ⟨cc.k,p,cc.key,cc.i,cc.j,cc.n,xv,cc.s⟩)):=Yt he hg
 rw [hdo]
 have HB:=qh (DB.start w ⟨vk,vn,vs,la,ll,lc,oa,ol,oc⟩ cc 36 39 36)
 have HTT:=qh hT
 have HXV:=qh hxv
 have HCB:=qh hcb
 have HKD:=qh hkd
 have hsw:=x.str_weight
 obtain ⟨kx,nx,sx,lx,ox,rfl⟩:=x.eta
 dsimp only [V.str,V.ls,V.os] at hsw
 obtain ⟨Y,hY⟩:∃Y,doneP (.mk kx nx sx lx ox) ⟨cc.k,p,cc.key,cc.i,cc.j,cc.n,xv,cc.s⟩=Y:=⟨_,rfl⟩
 rw [hY]
 obtain ⟨z,hPR⟩:=Yn p hg Y
 rw [hPR,Xf]
 have HY:=qh hY
 have HPR:=qh hPR
 clear hv hp hxv hT hcb hdo hY hPR he hg hkd
 have HK:=qh hk
 clear hk
 go_enter Tryz.func16,Tryz.ntmps16
 generalize hQ0:bodyPost _ _ _=Q0
 have HQ:=qh hQ0
 clear hQ0
 go_wp2_with fail
 refine (HCK.out _ HB.out.below).mono ?_
 rintro e W ⟨rfl,hb1⟩
 have B:=HB.out.next hb1 (by simp)
 obtain ⟨v0,v1,v2,v3,v4⟩:=row5 B.v.at_
 obtain ⟨b0,b1,b2,b3,b4,b5,b6,b7,b8,b9,b10,b11⟩:=row12 B.c.at_
 obtain ⟨r0,r1,r2,r3,r4⟩:=row5 B.r.at_
 have f0:=B.r.fr 0;have f1:=B.r.fr 1;have f2:=B.r.fr 2;have f3:=B.r.fr 3;have f4:=B.r.fr 4
 have z0:=B.v.lt;have z1:=B.c.lt;have z2:=B.r.lt
 have HBW:=qh B
 clear B hb1
 go_wp2_with fail
 refine (HGT.out _ HBW.out.below).mono ?_
 rintro e W2 ⟨⟨d,rfl,hI⟩,hb2⟩
 have B2:=HBW.out.next hb2 (Nat.succ_le_of_lt z2)
 obtain ⟨e1,e2,e3,hbd,hl,ho⟩:=hI.lists
 subst e1 e2 e3
 clear v0 v1 v2 v3 v4 r0 r1 r2 r3 r4 f0 f1 f2 f3 f4 b0 b1 b2 b3 b4 b5 b6 b7 b8 b9 b10 b11
 obtain ⟨v0,v1,v2,v3,v4⟩:=row5 B2.v.at_
 obtain ⟨b0,b1,b2,b3,b4,b5,b6,b7,b8,b9,b10,b11⟩:=row12 B2.c.at_
 obtain ⟨r0,r1,r2,r3,r4⟩:=row5 B2.r.at_
 have f0:=B2.r.fr 0;have f1:=B2.r.fr 1;have f2:=B2.r.fr 2;have f3:=B2.r.fr 3;have f4:=B2.r.fr 4
 have z0:=B2.v.lt;have z1:=B2.c.lt;have z2:=B2.r.lt
 have zW:=HBW.out.below.size
 have zW2:=hb2.size
 have z22:=B2.r.lt
 have HB2:=qh B2
 have HI:=qh hI
 have HBD:=qh hbd
 have HL:=qh hl
 have HO:=qh ho
 have HAL:=qh (((Below.refl _ _).alloc (Nat.le_refl _) (.cells (uV d) 36)):uB W2 _)
 clear B2 hI hbd hl ho hb2
 rw [HK.out] at b0
 obtain ⟨N,hN⟩:∃N,wrap64 (d.n+cc.n)=N:=⟨_,rfl⟩
 have hwr:IntKind.i64.wrap (d.n+cc.n)=N:=(zpl _).trans hN
 have hN0: -9223372036854775808<=N:=by rw [<-hN];exact Kq _
 have hN1:N<=9223372036854775807:=by rw [<-hN];exact Jz _
 have HN:=qh hN
 clear hN
 go_wp2_with fail
 have hbl4:uB W2 (W2.alloc (.cells (uU d.k N d.s d.la d.ll d.lc d.oa d.ol d.oc) 36)):=(Below.refl _ _).alloc (Nat.le_refl _) _
 have hx4:=(HI.out.sub (Zk _ _ _)).later_ hbl4
 obtain ⟨_,_,_,_,hl4,ho4⟩:=hx4.lists
 have HB4:=qh (HB2.out.next hbl4 (Nat.succ_le_of_lt z22))
 have HCALL:Hid (uP 51 #[.agg (uU vk vn vs la ll lc oa ol oc), .slice cc.pa cc.pl cc.pc, .agg (uU d.k N d.s d.la d.ll d.lc d.oa d.ol d.oc)] (W2.alloc (.cells (uU d.k N d.s d.la d.ll d.lc d.oa d.ol d.oc) 36)) (GetPost (W2.alloc (.cells (uU d.k N d.s d.la d.ll d.lc d.oa d.ol d.oc) 36)) (some z))):=by
  have:=HPT.out (W2.alloc (.cells (uU d.k N d.s d.la d.ll d.lc d.oa d.ol d.oc) 36)) Y d.k N d.s d.la d.ll d.lc d.oa d.ol d.oc HB4.out.below (by
   have hYe:Y= .mk d.k N d.s lx ox:=by rw [<-HY.out,doneP,if_pos HK.out, <-HN.out];rfl
   rw [hYe]
   exact Y3 HBD.out.k0 HBD.out.k1 hN0 hN1 HBD.out.s1 hl4 ho4)
  rw [HPR.out] at this;exact this
 clear hx4 hl4 ho4
 refine HCALL.out.mono ?_
 rintro e W6 ⟨⟨d6,rfl,hz⟩,hb6⟩
 have B6:=HB4.out.next hb6 (Nat.succ_le_of_lt HB4.out.r.lt)
 clear v0 v1 v2 v3 v4 r0 r1 r2 r3 r4 f0 f1 f2 f3 f4 b0 b1 b2 b3 b4 b5 b6 b7 b8 b9 b10 b11
 obtain ⟨v0,v1,v2,v3,v4⟩:=row5 B6.v.at_
 obtain ⟨b0,b1,b2,b3,b4,b5,b6,b7,b8,b9,b10,b11⟩:=row12 B6.c.at_
 obtain ⟨r0,r1,r2,r3,r4⟩:=row5 B6.r.at_
 have f0:=B6.r.fr 0;have f1:=B6.r.fr 1;have f2:=B6.r.fr 2;have f3:=B6.r.fr 3;have f4:=B6.r.fr 4
 have z0:=B6.v.lt;have z1:=B6.c.lt;have z2:=B6.r.lt
 have HB6:=qh B6
 have hz4:=HB4.out.below.size
 have hz5:=HB4.out.r.lt
 have HZ:=qh hz
 clear B6 hb6 hz
 go_wp2_with fail
 rw [<-HQ.out]
 have ST:=HB6.out.result d6
 have hst:=Zi W6 (w.heap.size+1+1) 0 d6
 exact Q8 (r:=(z,0)) ST.1 ((Zm (base:=w.heap.size+1+1+1) (HZ.out.sub (Zd fun k hk _=>⟨Nat.le_trans (Nat.succ_le_of_lt hz5) hk,rfl⟩)) hst (by omega)).sub (Zd fun k hk _=>⟨by omega,rfl⟩)) ST.2 rfl rfl rfl
theorem zcm (z:V):∀(l:List V) (k:Nat) (hk:k<l.length),weightL (l.set k z)+l[k].weight=weightL l+z.weight:=by
 intro l
 induction l with
 |nil=>intro k hk;cases hk
 | cons a r ih=>
   intro k hk
   cases k with
   |zero=>simp only [List.set_cons_zero,List.getElem_cons_zero,weightL];omega
   | succ k=>
     have:=ih k (by simpa using hk)
     simp only [List.set_cons_succ,List.getElem_cons_succ,weightL];omega
theorem zn3 (z:V) (o:List (ByteArray×V)) (k:Nat) (hk:k<o.length):weightO (putO o k z)+o[k].2.weight=weightO o+z.weight:=by
 have e:putO o k z=o.set k (o[k].1,z):=by simp [putO,List.getD_eq_getElem?_getD,hk]
 rw [e]
 clear e
 induction o generalizing k with
 |nil=>cases hk
 | cons a r ih=>
   cases k with
   |zero=>simp only [List.set_cons_zero,List.getElem_cons_zero,weightO,Yl];omega
   | succ k=>
     have:=ih k (by simpa using hk)
     simp only [List.set_cons_succ,List.getElem_cons_succ,weightO];omega
theorem ziy (p:List St):∀ {v x y z:V},getP v p=some x->putP v p y=some z->z.weight+x.weight=v.weight+y.weight:=by
 induction p with
 |nil=>intro v x y z h1 h2;injection h1 with h1;injection h2 with h2;subst h1 h2;omega
 | cons s r ih=>
   intro v x y z h1 h2
   unfold getP at h1
   unfold putP at h2
   cases hs:stepP v s with
   |none=>rw [hs] at h1;cases h1
   | some q=>
     rw [hs] at h1 h2
     dsimp only at h1 h2
     cases hp:putP q.1 r y with
     |none=>rw [hp] at h2;cases h2
     | some u=>
       rw [hp] at h2
       dsimp only at h2
       injection h2 with h2
       have hi:=ih h1 hp
       obtain ⟨kk,n,t,l,o,rfl⟩:=v.eta
       rcases Yy (x:=q.1) (k:=q.2) hs with ⟨hl,_,_,hk,e⟩|⟨hl,_,_,hk,e⟩
       .rw [if_pos hl] at h2
        have hw:=zcm u l q.2 hk
        have e2:(l[q.2]'hk)=q.1:=e
        rw [e2] at hw
        subst h2
        simp only [V.setL,V.weight];omega
       .rw [if_neg (by simp [hl])] at h2
        have hw:=zn3 u o q.2 hk
        have e2:(o[q.2]'hk).2=q.1:=e
        rw [e2] at hw
        subst h2
        simp only [V.setO,V.weight];omega
def otherF (key:ByteArray) (o:List (ByteArray×V)):List (ByteArray×V):=o.filter fun f=>decide (f.1.toList≠key.toList)
theorem zmz (key:ByteArray) (o:List (ByteArray×V)):weightO (otherF key o)<=weightO o/\((∃f ∈ o,f.1=key)->weightO (otherF key o)+key.size<=weightO o):=by
 induction o with
 |nil=>exact ⟨Nat.le_refl _,fun ⟨_,h,_⟩=>by cases h⟩
 | cons a r ih=>
   unfold otherF at ih ⊢
   rw [List.filter_cons]
   by_cases h:a.1.toList=key.toList
   .rw [if_neg (by simp [h])]
    have he:a.1=key:=by
     have h2:=congrArg List.toArray h
     rw [ByteArray.toList_eq,ByteArray.toList_eq] at h2
     exact ByteArray.ext (by simpa using h2)
    simp only [weightO,Yl,he]
    exact ⟨by omega,fun _=>by omega⟩
   .rw [if_pos (by simp [h])]
    simp only [weightO]
    refine ⟨by omega,fun ⟨f,hf,e⟩=> ?_⟩
    rcases List.mem_cons.1 hf with rfl|hf
    .exact absurd (by rw [e]) h
    .have:=ih.2 ⟨f,hf,e⟩;omega
def owed (key:ByteArray) (v:V) (d:Bool):Nat:=cond d 0 (key.size+v.weight)
theorem zot (key:ByteArray) (v:V):∀(o acc:List (ByteArray×V)) (d:Bool),weightO (o.foldl (fldStep key v) (acc,d)).1+owed key v (o.foldl (fldStep key v) (acc,d)).2<=weightO acc+weightO (otherF key o)+owed key v d:=by
 intro o
 induction o with
 |nil=>intro acc d;exact Nat.le_refl _
 | cons a r ih=>
   intro acc d
   have o1:owed key v true=0:=rfl
   have o2:owed key v false=key.size+v.weight:=rfl
   have w0:weightO ([] :List (ByteArray×V))=0:=rfl
   rw [List.foldl_cons]
   by_cases h:a.1.toList=key.toList
   .have ho:otherF key (a::r)=otherF key r:=by rw [otherF,List.filter_cons,if_neg (by simp [h])];rfl
    rw [ho]
    by_cases h1:d=false/\Op.bytesLess a.1.toList key.toList=false
    .have e:fldStep key v (acc,d) a=(acc++ [(key,v)],true):=by rw [fldStep,if_pos h1,if_pos h]
     rw [e]
     have:=ih (acc++ [(key,v)]) true
     rw [Y5] at this
     simp only [weightO,Yl] at this
     rw [h1.1]
     omega
    .have e:fldStep key v (acc,d) a=(acc,d):=by rw [fldStep,if_neg h1,if_pos h]
     rw [e]
     exact ih acc d
   .have ho:otherF key (a::r)=a::otherF key r:=by rw [otherF,List.filter_cons,if_pos (by simp [h])];rfl
    rw [ho]
    by_cases h1:d=false/\Op.bytesLess a.1.toList key.toList=false
    .have e:fldStep key v (acc,d) a=(acc++ [(key,v)] ++ [a],true):=by rw [fldStep,if_pos h1,if_neg h]
     rw [e]
     have:=ih (acc++ [(key,v)] ++ [a]) true
     rw [Y5,Y5] at this
     simp only [weightO,Yl] at this ⊢
     rw [h1.1]
     omega
    .have e:fldStep key v (acc,d) a=(acc++ [a],d):=by rw [fldStep,if_neg h1,if_neg h]
     rw [e]
     have:=ih (acc++ [a]) d
     rw [Y5] at this
     simp only [weightO] at this ⊢
     omega
theorem zph (o:List (ByteArray×V)) (key:ByteArray) (v:V) (del:Bool) (K:Nat) (hK:key.size<=K∨∃f ∈ o,f.1=key):weightO (fieldsDo o key v del)<=weightO o+v.weight+K:=by
 have h:=zot key v o [] del
 have h2:=zmz key o
 have w0:weightO ([] :List (ByteArray×V))=0:=rfl
 have hd:owed key v del<=key.size+v.weight:=by cases del<;>simp [owed]
 have h3:weightO (fieldsDo o key v del)<=weightO (otherF key o)+(key.size+v.weight):=by
  unfold fieldsDo
  split
  .rename_i hf
   rw [hf] at h
   have o2:owed key v false=key.size+v.weight:=rfl
   rw [Y5]
   simp only [weightO,Yl] at h ⊢
   omega
  .omega
 rcases hK with hK|hK
 .omega
 .have:=h2.2 hK;omega
theorem ze5 (l:List V) (i:Nat) (v:V):weightL (insL l i v)=weightL l+v.weight:=by
 rw [insL,Xt]
 have h:=Xt (l.take i) (l.drop i)
 rw [List.take_append_drop] at h
 simp only [weightL];omega
theorem zd6 (l:List V) (i:Nat):weightL (remL l i)<=weightL l/\(i<l.length->weightL (remL l i)+(l.getD i V.none).weight<=weightL l):=by
 rw [remL,Xt]
 have h:=Xt (l.take i) (l.drop i)
 rw [List.take_append_drop] at h
 by_cases hi:i<l.length
 .rw [List.drop_eq_getElem_cons hi] at h
  simp only [weightL] at h
  have e:l.getD i V.none=l[i] :=by simp [List.getD_eq_getElem?_getD,hi]
  rw [e]
  exact ⟨by omega,fun _=>by omega⟩
 .rw [List.drop_eq_nil_of_le (by omega)] at h ⊢
  exact ⟨by omega,fun h=>absurd h hi⟩
theorem zn8 (l:List V) (k i j:Int) (v:V) (hm:(k≠4/\k≠5/\k≠6)->i.toNat<l.length):weightL (listDo l k i j v)<=weightL l+v.weight:=by
 unfold listDo
 split
 .rw [ze5];exact Nat.le_refl _
 .split
  .have:=(zd6 l i.toNat).1;omega
  .split
   .by_cases h:i.toNat<l.length
    .have:=zcm v l i.toNat h;omega
    .rw [List.set_eq_of_length_le (by omega)];omega
   .rw [ze5]
    have:=(zd6 l i.toNat).2 (hm ⟨by omega,by omega,by omega⟩);omega
theorem zkc (f:Nat):∀(i:Nat) (l:List UInt8),(cutsP f i l).Pairwise (· <= ·):=by
 induction f with
 |zero=>intro i l;simp [cutsP]
 | succ f ih=>
   intro i l
   unfold cutsP
   split
   .simp
   .refine List.pairwise_cons.2 ⟨fun x hx=> ?_,ih _ _⟩
    have:=(Kn _ _ _ x hx).1;omega
theorem zlr (s:ByteArray) {i j:Nat} (hij:i<=j) (hj:j<(cuts s).length):(cuts s).getD i 0<=(cuts s).getD j 0:=by
 have hp:(cuts s).Pairwise (· <= ·):=by
  unfold cuts
  refine List.pairwise_append.2 ⟨zkc _ _ _,by simp,fun x hx y hy=> ?_⟩
  have:=(Kn _ _ _ x hx).2
  have e:s.data.toList.length=s.size:=Array.length_toList
  rw [List.mem_singleton.1 hy];omega
 have hi:i<(cuts s).length:=by omega
 simp only [List.getD_eq_getElem?_getD,List.getElem?_eq_getElem hi,List.getElem?_eq_getElem hj,Option.getD_some]
 by_cases e:i=j
 .subst e;exact Nat.le_refl _
 .exact List.pairwise_iff_getElem.1 hp i j hi hj (by omega)
theorem zgj {s:ByteArray} {k i n:Int} {cs:ByteArray} (h:tCheck s k i n=0):(textDo s k i n cs).size<=s.size+cs.size:=by
 obtain ⟨hk,h0,h1⟩:=J0 h
 unfold textDo
 split
 .rw [ByteArray.size_append,ByteArray.size_append,ByteArray.size_extract,ByteArray.size_extract];omega
 .rename_i hne
  have hl:=Yo s
  have ht:textN s=(cuts s).length - 1:=rfl
  have hup:=zlr s (i:=i.toNat) (j:=(i+n).toNat) (by omega) (by omega)
  rw [ByteArray.size_append,ByteArray.size_extract,ByteArray.size_extract];omega
theorem zqk {x:V} {c:Cm} {K:Nat} (hs:cmSound c=true) (hk:kindsP x c.k c.i c.j c.n c.key=0) (hK:c.key.size<=K∨∃f ∈ x.os,f.1=c.key):(doneP x c).weight<=x.weight+c.v.weight+K+c.s.size:=by
 have hr:=Qq hs
 obtain ⟨k,n,t,l,o,rfl⟩:=x.eta
 unfold doneP
 unfold kindsP at hk
 by_cases e1:c.k=1
 .rw [if_pos e1];simp only [V.weight,V.str,V.ls,V.os];omega
 .rw [if_neg e1]
  rw [if_neg e1] at hk
  by_cases e2:c.k=2∨c.k=3
  .rw [if_pos e2]
   have:=zph o c.key c.v (c.k==3) K hK
   simp only [V.weight,V.str,V.ls,V.os];omega
  .rw [if_neg e2]
   rw [if_neg e2] at hk
   by_cases e3:c.k=8∨c.k=9
   .rw [if_pos e3]
    rw [if_pos e3] at hk
    have ht:tCheck t c.k c.i c.n=0:=by
     split at hk
     .omega
     .exact hk
    have:=zgj (cs:=c.s) ht
    simp only [V.weight,V.str,V.ls,V.os];omega
   .rw [if_neg e3]
    rw [if_neg e3] at hk
    have hl:lCheck l.length c.k c.i c.j=0:=by
     split at hk
     .omega
     .exact hk
    obtain ⟨h1,h2,h3,h4,h5,h6⟩:=Yx hl
    have:=zn8 l c.k c.i c.j c.v (fun h=>by have:=h5 h.1;omega)
    simp only [V.weight,V.str,V.ls,V.os];omega
theorem zos {v:V} {c:Cm} {K:Nat} (h:(doP v c).2=0) (hK:c.key.size<=K∨∀x,getP v c.path=some x->∃f ∈ x.os,f.1=c.key):(doP v c).1.weight<=v.weight+c.v.weight+K+c.s.size:=by
 by_cases he:checkP v c=0
 .obtain ⟨hs,x,hg,hk⟩:=Zu he
  obtain ⟨z,hz⟩:=Yn c.path hg (doneP x c)
  rw [Yt he hg,hz,Xf]
  have h1:=ziy c.path hg hz
  have h2:=zqk hs hk (hK.imp id fun h=>h x hg)
  dsimp only
  omega
 .rw [doP,if_neg he] at h
  exact absurd h he
theorem zar {v:V} {a:Ac} {c:Cm} (h:oneC v a=some c) (hd:(doP v c).2=0):(doP v c).1.weight<=v.weight+20100:=by
 have hs:=Jq h
 have h1:=hs.sv;have h2:=hs.ss
 have:=zos hd hs.sk
 omega
theorem zpm {n b0 b1 b2 b3 r k:Nat} (h:Lib.decodeN n b0 b1 b2 b3=(r,k)) (hn:1<=n):k<=n:=by
 unfold Lib.decodeN at h
 repeat' split at h
 all_goals (simp only [Prod.mk.injEq] at h;omega)
theorem zp6 {n m b0 b1 b2 b3 c1 c2 c3 r k:Nat} (h:Lib.decodeN n b0 b1 b2 b3=(r,k)) (hv:¬(r=65533/\k=1)) (hm:k<=m) (e1:2<=k->c1=b1) (e2:3<=k->c2=b2) (e3:4<=k->c3=b3):Lib.decodeN m b0 c1 c2 c3=(r,k):=by
 unfold Lib.decodeN at h ⊢
 by_cases h0:b0<128
 .rw [if_pos h0] at h ⊢;exact h
 rw [if_neg h0] at h ⊢
 by_cases h1:b0 / 32=6/\(1<n/\b1 / 64=2)
 .rw [if_pos h1] at h
  split at h
  .rename_i hq
   obtain ⟨rfl,rfl⟩:=Prod.mk.inj h
   obtain rfl:=e1 (by omega)
   rw [if_pos ⟨h1.1,by omega,h1.2.2⟩,if_pos hq]
  .obtain ⟨rfl,rfl⟩:=Prod.mk.inj h
   exact absurd ⟨rfl,rfl⟩ hv
 rw [if_neg h1] at h
 by_cases h2:b0 / 16=14/\(1<n/\b1 / 64=2)/\(2<n/\b2 / 64=2)
 .rw [if_pos h2] at h
  split at h
  .rename_i hq
   obtain ⟨rfl,rfl⟩:=Prod.mk.inj h
   obtain rfl:=e1 (by omega)
   obtain rfl:=e2 (by omega)
   rw [if_neg (by omega),if_pos ⟨h2.1,⟨by omega,h2.2.1.2⟩,by omega,h2.2.2.2⟩,if_pos hq]
  .obtain ⟨rfl,rfl⟩:=Prod.mk.inj h
   exact absurd ⟨rfl,rfl⟩ hv
 rw [if_neg h2] at h
 by_cases h3:b0 / 8=30/\(1<n/\b1 / 64=2)/\(2<n/\b2 / 64=2)/\(3<n/\b3 / 64=2)
 .rw [if_pos h3] at h
  split at h
  .rename_i hq
   obtain ⟨rfl,rfl⟩:=Prod.mk.inj h
   obtain rfl:=e1 (by omega)
   obtain rfl:=e2 (by omega)
   obtain rfl:=e3 (by omega)
   rw [if_neg (by omega),if_neg (by omega),if_pos ⟨h3.1,⟨by omega,h3.2.1.2⟩,⟨by omega,h3.2.2.1.2⟩,by omega,h3.2.2.2.2⟩,if_pos hq]
  .obtain ⟨rfl,rfl⟩:=Prod.mk.inj h
   exact absurd ⟨rfl,rfl⟩ hv
 rw [if_neg h3] at h
 obtain ⟨rfl,rfl⟩:=Prod.mk.inj h
 exact absurd ⟨rfl,rfl⟩ hv
theorem J2 {l:List UInt8} (h:l≠ []):(Lib.decodeL l).2<=l.length:=by
 have h0:0<l.length:=List.length_pos_iff.2 h
 rw [Lib.decodeL_N]
 exact zpm (Prod.eta _).symm h0
theorem Kk {l m:List UInt8} (hv:¬((Lib.decodeL l).1=65533/\(Lib.decodeL l).2=1)) (hm:(Lib.decodeL l).2<=m.length) (h:∀i,i<(Lib.decodeL l).2->m.getD i 0=l.getD i 0):Lib.decodeL m=Lib.decodeL l:=by
 have hw:=Lib.decodeL_width l
 obtain ⟨r,hr⟩:∃r,(Lib.decodeL l).1=r:=⟨_,rfl⟩
 obtain ⟨k,hk⟩:∃k,(Lib.decodeL l).2=k:=⟨_,rfl⟩
 have hd:Lib.decodeL l=(r,k):=by rw [<-hr, <-hk]
 rw [hr,hk] at hv
 rw [hk] at hm h hw
 rw [hd]
 rw [Lib.decodeL_N] at hd ⊢
 rw [h 0 (by omega)]
 exact zp6 hd hv hm (fun hq=>by rw [h 1 (by omega)]) (fun hq=>by rw [h 2 (by omega)]) (fun hq=>by rw [h 3 (by omega)])
theorem Qr:∀(n:Nat) (a b:List UInt8),a.length<=n->Lib.validD a=true->Lib.validD (a++b)=Lib.validD b:=by
 intro n
 induction n with
 |zero=>intro a b ha _;obtain rfl:a= [] :=List.length_eq_zero_iff.1 (by omega);rfl
 | succ n ih=>
   intro a b ha hv
   by_cases hne:a= []
   .subst hne;rfl
   have hw:=Lib.decodeL_width a
   have hf:=J2 hne
   rw [Lib.validD_step a hne] at hv
   by_cases hbad:(Lib.decodeL a).1=65533/\(Lib.decodeL a).2=1
   .rw [if_pos hbad] at hv;cases hv
   rw [if_neg hbad] at hv
   have e:Lib.decodeL (a++b)=Lib.decodeL a:=Kk hbad (by rw [List.length_append];omega) fun i hi=>by
    rw [List.getD_eq_getElem?_getD,List.getD_eq_getElem?_getD,List.getElem?_append_left (by omega)]
   rw [Lib.validD_step (a++b) (by simp [hne]),e,if_neg hbad,List.drop_append_of_le_length hf]
   exact ih _ b (by rw [List.length_drop];omega) hv
theorem zhb (f:Nat):∀(i:Nat) (l:List UInt8),Lib.validD l=true->∀p ∈ cutsP f i l,Lib.validD (l.take (p - i))=true/\Lib.validD (l.drop (p - i))=true:=by
 induction f with
 |zero=>intro i l _ p hp;simp [cutsP] at hp
 | succ f ih=>
   intro i l hv p hp
   rw [cutsP] at hp
   by_cases hne:l= []
   .rw [if_pos hne] at hp;simp at hp
   rw [if_neg hne] at hp
   have hw:=Lib.decodeL_width l
   have hf:=J2 hne
   rcases List.mem_cons.1 hp with rfl|hp
   .rw [Nat.sub_self];exact ⟨rfl,hv⟩
   .have hr:=Kn f _ _ p hp
    rw [Lib.validD_step l hne] at hv
    by_cases hbad:(Lib.decodeL l).1=65533/\(Lib.decodeL l).2=1
    .rw [if_pos hbad] at hv;cases hv
    rw [if_neg hbad] at hv
    obtain ⟨h1,h2⟩:=ih _ _ hv p hp
    have e0:p - i=(Lib.decodeL l).2+(p - (i+(Lib.decodeL l).2)):=by omega
    refine ⟨?_,by rw [e0, <-List.drop_drop];exact h2⟩
    have hk:Lib.validD (l.take (Lib.decodeL l).2)=true:=by
     have e:Lib.decodeL (l.take (Lib.decodeL l).2)=Lib.decodeL l:=Kk hbad (by rw [List.length_take];omega) fun j hj=>by
      rw [List.getD_eq_getElem?_getD,List.getD_eq_getElem?_getD,List.getElem?_take_of_lt hj]
     rw [Lib.validD_step _ (fun h=>by
      have:=congrArg List.length h
      rw [List.length_take,List.length_nil] at this
      have h0:0<l.length:=List.length_pos_iff.2 hne
      omega),e,if_neg hbad,List.drop_eq_nil_of_le (by rw [List.length_take];omega)]
     rfl
    rw [e0,List.take_add,Qr _ _ _ (Nat.le_refl _) hk]
    exact h1
theorem zeg (s:ByteArray) {i:Nat} (h:i<=textN s):(cuts s).getD i 0 ∈ cuts s:=by
 have h0:=(Yo s).1
 unfold textN at h
 rw [List.getD_eq_getElem?_getD,List.getElem?_eq_getElem (by omega)]
 exact List.getElem_mem _
theorem zev {s:ByteArray} (hv:Lib.validD s.data.toList=true) {p:Nat} (hp:p ∈ cuts s):Lib.validD (s.data.toList.take p)=true/\Lib.validD (s.data.toList.drop p)=true:=by
 unfold cuts at hp
 rcases List.mem_append.1 hp with hp|hp
 .have:=zhb s.size 0 s.data.toList hv p hp
  rwa [Nat.sub_zero] at this
 .rw [List.mem_singleton] at hp
  subst hp
  rw [List.take_of_length_le (by simp),List.drop_eq_nil_of_le (by simp)]
  exact ⟨hv,rfl⟩
theorem znv {s cs:ByteArray} {k i n:Int} (hv:Lib.validD s.data.toList=true) (hc:Lib.validD cs.data.toList=true) (h:tCheck s k i n=0):Lib.validD (textDo s k i n cs).data.toList=true:=by
 obtain ⟨hk,h0,h1⟩:=J0 h
 have hm:(cuts s).getD i.toNat 0 ∈ cuts s:=zeg s (by omega)
 have e1:∀p,(s.extract 0 p).data.toList=s.data.toList.take p:=fun p=>by rw [Xi];rfl
 have e2:∀p,(s.extract p s.size).data.toList=s.data.toList.drop p:=fun p=>by rw [Xi,List.take_of_length_le (by simp)]
 obtain ⟨v1,v2⟩:=zev hv hm
 unfold textDo
 split
 .rw [ByteArray.data_append,ByteArray.data_append,Array.toList_append,Array.toList_append,List.append_assoc,e1,e2,Qr _ _ _ (Nat.le_refl _) v1,Qr _ _ _ (Nat.le_refl _) hc]
  exact v2
 .have hm2:(cuts s).getD (i+n).toNat 0 ∈ cuts s:=zeg s (by omega)
  rw [ByteArray.data_append,Array.toList_append,e1,e2,Qr _ _ _ (Nat.le_refl _) v1]
  exact (zev hv hm2).2
theorem zhz {v z:V} {i:Nat} (hv:v.sound=true) (hz:z.sound=true):(v.setL i z).sound=true:=by
 obtain ⟨kk,n,t,l,o,rfl⟩:=v.eta
 obtain ⟨h1,h2,h3,h4⟩:=Zy.1 hv
 refine Zy.2 ⟨by rw [List.length_set];exact h1,h2,fun x hx=> ?_,h4⟩
 rcases List.mem_or_eq_of_mem_set hx with h|h
 .exact h3 x h
 .exact h ▸ hz
theorem znz {v z:V} {i:Nat} (hv:v.sound=true) (hz:z.sound=true):(v.setO i z).sound=true:=by
 obtain ⟨kk,n,t,l,o,rfl⟩:=v.eta
 obtain ⟨h1,h2,h3,h4⟩:=Zy.1 hv
 have hlen:(putO o i z).length=o.length:=by rw [putO,List.length_set]
 have hkey:∀(j:Nat) (a:ByteArray×V),(putO o i z)[j]? =some a->∃b:ByteArray×V,o[j]? =some b/\b.1=a.1:=by
  intro j a ha
  have hj:j<o.length:=by rw [<-hlen];exact (List.getElem?_eq_some_iff.1 ha).1
  by_cases e:i=j
  .subst e
   rw [putO,List.getElem?_set_self hj] at ha
   injection ha with ha
   refine ⟨o[i],List.getElem?_eq_getElem hj, ?_⟩
   rw [<-ha,List.getD_eq_getElem?_getD,List.getElem?_eq_getElem hj];rfl
  .rw [putO,List.getElem?_set_ne e] at ha
   exact ⟨a,ha,rfl⟩
 refine Zy.2 ⟨by rw [hlen];exact h1,X2.2 fun j a b ha hb=> ?_,h3,fun f hf=> ?_⟩
 .obtain ⟨a',ha',ea⟩:=hkey j a ha
  obtain ⟨b',hb',eb⟩:=hkey (j+1) b hb
  rw [<-ea, <-eb]
  exact X2.1 h2 j a' b' ha' hb'
 .unfold putO at hf
  by_cases hi:i<o.length
  .rcases List.mem_or_eq_of_mem_set hf with h|h
   .exact h4 f h
   .subst h
    refine ⟨?_,hz⟩
    rw [List.getD_eq_getElem?_getD,List.getElem?_eq_getElem hi]
    exact (h4 _ (List.getElem_mem hi)).1
  .rw [List.set_eq_of_length_le (by omega)] at hf
   exact h4 f hf
theorem zjo (p:List St):∀ {v x w:V},v.sound=true->x.sound=true->putP v p x=some w->w.sound=true:=by
 induction p with
 |nil=>intro v x w _ hx h;injection h with h;exact h ▸ hx
 | cons s r ih=>
   intro v x w hv hx h
   unfold putP at h
   cases hs:stepP v s with
   |none=>rw [hs] at h;cases h
   | some q=>
     obtain ⟨y,k⟩:=q
     rw [hs] at h
     dsimp only at h
     cases hp:putP y r x with
     |none=>rw [hp] at h;cases h
     | some z=>
       rw [hp] at h
       dsimp only at h
       injection h with h
       have hz:=ih (zd3 hv hs) hx hp
       split at h
       .exact h ▸ zhz hv hz
       .exact h ▸ znz hv hz
theorem zj9 {o:List (ByteArray×V)} (h:rising o=true) (i:Nat) (hi:i<o.length):rising (o.take i++o.drop (i+1))=true:=by
 have hg:=X2.1 h
 have l1:(o.take i).length=i:=by rw [List.length_take];omega
 have e1:∀j,j<i->(o.take i++o.drop (i+1))[j]? =o[j]? :=fun j hj=>by rw [List.getElem?_append_left (by omega),List.getElem?_take_of_lt hj]
 have e2:∀j,i<=j->(o.take i++o.drop (i+1))[j]? =o[j+1]? :=fun j hj=>by rw [List.getElem?_append_right (by omega),l1,List.getElem?_drop,show i+1+(j - i)=j+1 by omega]
 refine X2.2 fun j a b ha hb=> ?_
 by_cases c1:j+1<i
 .rw [e1 j (by omega)] at ha;rw [e1 _ c1] at hb;exact hg j a b ha hb
 .by_cases c2:j+1=i
  .rw [e1 j (by omega)] at ha;rw [e2 _ (by omega),c2] at hb
   have hm:o[i]? =some o[i] :=List.getElem?_eq_getElem hi
   have h1:=hg j a o[i] ha (by rw [c2];exact hm)
   exact K5 h1 (hg i o[i] b hm hb)
  .rw [e2 j (by omega)] at ha;rw [e2 _ (by omega)] at hb;exact hg (j+1) a b ha hb
theorem zd4 {o:List (ByteArray×V)} (key:ByteArray) (x:V) (d:Bool) (h:rising o=true):rising (newF o key x d)=true:=by
 unfold newF
 split
 .unfold remF
  by_cases e:fieldIs o key=true
  .rw [if_pos e];exact zj9 h _ (Z8 e)
  .rw [if_neg e,List.take_append_drop];exact h
 .exact zaz key x h
theorem zmv {o:List (ByteArray×V)} {key:ByteArray} {x:V} {d:Bool} {f:ByteArray×V} (h:f ∈ newF o key x d):f ∈ o∨(d=false/\f=(key,x)):=by
 unfold newF at h
 cases d with
 | true=>
   rw [if_pos rfl,remF] at h
   rcases List.mem_append.1 h with h|h
   .exact .inl (List.mem_of_mem_take h)
   .exact .inl (List.mem_of_mem_drop h)
 | false=>
   rw [if_neg (by simp)] at h
   rcases zav h with h|h
   .exact .inl h
   .exact .inr ⟨rfl,h⟩
theorem zm2 {x:Cm} (h:cmSound x=true):Lib.validD x.key.data.toList=true/\Lib.validD x.s.data.toList=true/\x.v.sound=true:=by
 unfold cmSound at h
 simp only [Bool.and_eq_true] at h
 exact ⟨h.1.1.1.1.1.1.1.1.2,h.1.1.1.1.1.1.1.2,h.1.1.2⟩
theorem zlq {x:V} {c:Cm} (hx:x.sound=true) (hc:cmSound c=true) (hk:kindsP x c.k c.i c.j c.n c.key=0):(doneP x c).sound=true:=by
 obtain ⟨hkey,hs,hv⟩:=zm2 hc
 obtain ⟨kk,n,t,l,o,rfl⟩:=x.eta
 obtain ⟨h1,h2,h3,h4⟩:=Zy.1 hx
 unfold doneP
 unfold kindsP at hk
 by_cases c1:c.k=1
 .rw [if_pos c1] at hk ⊢
  have hkd:kk=2:=by
   by_cases e:kk=2
   .exact e
   .rw [if_pos (show (V.mk kk n t l o).kd≠2 from e)] at hk;omega
  subst hkd
  exact Zy.2 ⟨show plainB 2 (wrap64 (n+c.n)) t l.length o.length=true by simpa [plainB] using h1,h2,h3,h4⟩
 rw [if_neg c1] at hk ⊢
 by_cases c2:c.k=2∨c.k=3
 .rw [if_pos c2] at hk ⊢
  have hkd:kk=5:=by
   by_cases e:kk=5
   .exact e
   .rw [if_pos (show (V.mk kk n t l o).kd≠5 from e)] at hk;omega
  subst hkd
  refine Zy.2 ⟨show plainB 5 n t l.length (fieldsDo o c.key c.v (c.k==3)).length=true by simpa [plainB] using h1, ?_,h3,fun f hf=> ?_⟩
  .show rising (fieldsDo o c.key c.v (c.k==3))=true
   rw [Xo h2];exact zd4 _ _ _ h2
  .have hf:f ∈ fieldsDo o c.key c.v (c.k==3):=hf
   rw [Xo h2] at hf
   rcases zmv hf with hf|⟨_,rfl⟩
   .exact h4 f hf
   .exact ⟨hkey,hv⟩
 rw [if_neg c2] at hk ⊢
 by_cases c3:c.k=8∨c.k=9
 .rw [if_pos c3] at hk ⊢
  have hkd:kk=3:=by
   by_cases e:kk=3
   .exact e
   .rw [if_pos (show (V.mk kk n t l o).kd≠3 from e)] at hk;omega
  subst hkd
  rw [if_neg (show ¬(V.mk 3 n t l o).kd≠3 from fun h=>h rfl)] at hk
  have h1':((n=0/\Lib.validD t.data.toList=true)/\l= [])/\o= [] :=by simpa [plainB] using h1
  obtain ⟨⟨⟨a1,a2⟩,a3⟩,a4⟩:=h1'
  have ht:=znv a2 hs hk
  refine Zy.2 ⟨?_,h2,h3,h4⟩
  subst a1 a3 a4
  show plainB 3 0 (textDo t c.k c.i c.n c.s) 0 0=true
  simpa [plainB] using ht
 rw [if_neg c3] at hk ⊢
 have hkd:kk=4:=by
  by_cases e:kk=4
  .exact e
  .rw [if_pos (show (V.mk kk n t l o).kd≠4 from e)] at hk;omega
 subst hkd
 refine Zy.2 ⟨show plainB 4 n t (listDo l c.k c.i c.j c.v).length o.length=true by simpa [plainB] using h1,h2,fun y hy=> ?_,h4⟩
 have hm : ∀y ∈ listDo l c.k c.i c.j c.v,y ∈ l∨y=c.v∨y=V.none:=by
  have hr:∀y ∈ remL l c.i.toNat,y ∈ l:=by
   intro y hy
   unfold remL at hy
   rcases List.mem_append.1 hy with h|h
   .exact List.mem_of_mem_take h
   .exact List.mem_of_mem_drop h
  have hi:∀ {q:List V} {m:Nat} {z y:V},y ∈ insL q m z->y ∈ q∨y=z:=by
   intro q m z y hy
   unfold insL at hy
   rcases List.mem_append.1 hy with h|h
   .exact .inl (List.mem_of_mem_take h)
   .rcases List.mem_cons.1 h with h|h
    .exact .inr h
    .exact .inl (List.mem_of_mem_drop h)
  intro y hy
  unfold listDo at hy
  split at hy
  .rcases hi hy with h|h
   .exact .inl h
   .exact .inr (.inl h)
  .split at hy
   .exact .inl (hr y hy)
   .split at hy
    .rcases List.mem_or_eq_of_mem_set hy with h|h
     .exact .inl h
     .exact .inr (.inl h)
    .rcases hi hy with h|h
     .exact .inl (hr y h)
     .rw [List.getD_eq_getElem?_getD] at h
      cases hq:l[c.i.toNat]? with
      |none=>rw [hq] at h;exact .inr (.inr h)
      |some z=>rw [hq] at h;exact .inl (h ▸ List.mem_of_getElem? hq)
 rcases hm y hy with h|h|h
 .exact h3 y h
 .exact h ▸ hv
 .exact h ▸ K3
theorem Ql {v:V} {c:Cm} (hv:v.sound=true):(doP v c).1.sound=true:=by
 unfold doP
 split
 .rename_i he
  obtain ⟨hs,x,hg,hk⟩:=Zu he
  simp only [hg]
  obtain ⟨z,hz⟩:=Yn c.path hg (doneP x c)
  rw [hz]
  exact zjo c.path hv (zlq (Kd c.path hv hg) hs hk) hz
 .exact K3
theorem zfb (o:List (ByteArray×V)) (key:ByteArray):fieldK o key=((o.map Prod.fst).takeWhile fun s=>Op.bytesLess s.toList key.toList).length:=by
 rw [List.takeWhile_map,List.length_map];rfl
theorem zez (o:List (ByteArray×V)) (key:ByteArray):fieldIs o key=match (o.map Prod.fst)[fieldK o key]? with
 |some s=>s.toList==key.toList
 |none=>false:=by
 unfold fieldIs
 rw [List.getElem?_map]
 cases o[fieldK o key]? <;>rfl
theorem zec (o:List (ByteArray×V)) (i:Nat) (z:V):(putO o i z).map Prod.fst=o.map Prod.fst:=by
 unfold putO
 refine List.ext_getElem? fun j=> ?_
 rw [List.getElem?_map,List.getElem?_map]
 by_cases e:i=j
 .subst e
  by_cases hi:i<o.length
  .rw [List.getElem?_set_self hi,List.getD_eq_getElem?_getD,List.getElem?_eq_getElem hi];rfl
  .rw [List.set_eq_of_length_le (by omega)]
 .rw [List.getElem?_set_ne e]
theorem zex (o:List (ByteArray×V)) (i:Nat) (z:V) (key:ByteArray):fieldK (putO o i z) key=fieldK o key:=by
 rw [zfb,zfb,zec]
theorem zle (o:List (ByteArray×V)) (i:Nat) (z:V) (key:ByteArray):fieldIs (putO o i z) key=fieldIs o key:=by
 rw [zez,zez,zec,zex]
theorem zk1 {v:V} {s:St} {y z:V} {k:Nat} (h:stepP v s=some (y,k)):stepP (if s.list=true then v.setL k z else v.setO k z) s=some (z,k):=by
 obtain ⟨kk,n,t,l,o,rfl⟩:=v.eta
 unfold stepP at h ⊢
 by_cases hl:s.list=true
 .rw [if_pos hl] at h
  rw [if_pos hl,if_pos hl]
  by_cases hc:(V.mk kk n t l o).kd=4/\0<=s.i/\s.i<(V.mk kk n t l o).ls.length
  .rw [if_pos hc] at h
   injection h with h
   obtain ⟨_,rfl⟩:=Prod.mk.inj h
   have hc2:s.i<(l.length:Int):=hc.2.2
   have hk:s.i.toNat<l.length:=by omega
   have e:((V.mk kk n t l o).setL s.i.toNat z).ls=l.set s.i.toNat z:=rfl
   rw [e,List.length_set,if_pos ⟨hc.1,hc.2.1,hc2⟩,List.getD_eq_getElem?_getD,List.getElem?_set_self hk];rfl
  .rw [if_neg hc] at h;cases h
 .rw [if_neg hl] at h
  rw [if_neg hl,if_neg hl]
  by_cases hc:(V.mk kk n t l o).kd=5/\fieldIs (V.mk kk n t l o).os s.key=true
  .rw [if_pos hc] at h
   injection h with h
   obtain ⟨_,rfl⟩:=Prod.mk.inj h
   have hf:fieldIs o s.key=true:=hc.2
   have hk:=Z8 hf
   have e:((V.mk kk n t l o).setO (fieldK o s.key) z).os=putO o (fieldK o s.key) z:=rfl
   have e2:(V.mk kk n t l o).os=o:=rfl
   rw [e2,e,zle,zex,if_pos ⟨hc.1,hf⟩,putO,List.getD_eq_getElem?_getD,List.getElem?_set_self hk];rfl
  .rw [if_neg hc] at h;cases h
theorem zfh {o:List (ByteArray×V)} {key:ByteArray} (h:fieldIs o key=true):((o.getD (fieldK o key) (.empty,V.none)).1).toList=key.toList:=by
 have hk:=Z8 h
 unfold fieldIs at h
 rw [List.getElem?_eq_getElem hk] at h
 rw [List.getD_eq_getElem?_getD,List.getElem?_eq_getElem hk]
 simpa using h
theorem zf6 {a b:ByteArray} (h:a.toList=b.toList):a=b:=by
 rw [ByteArray.toList_eq,ByteArray.toList_eq] at h
 cases a;cases b;congr;exact Array.ext' h
set_option maxRecDepth 100000 in
theorem zn9 (w:World) (vk vn:Int) (vs:ByteArray) (la:Option Addr) (ll lc:Nat) (oa:Option Addr) (ol oc:Nat) (v:V) (hv:IsVal w w.heap.size v ⟨vk,vn,vs,la,ll,lc,oa,ol,oc⟩) (hw:v.weight<=100000000) (p:List St) (xv:V) (cc:CC) (hcb:cc.Bnd) (hp:IsSteps w w.heap.size p cc.pa cc.pl cc.pc) (hxv:IsVal w w.heap.size xv cc.v) (hxw:xv.weight<=4611686018427387904) (hT:Tabs w) (he:checkP v ⟨cc.k,p,cc.key,cc.i,cc.j,cc.n,xv,cc.s⟩=0) (hk:cc.k=2∨cc.k=3):
 uP 16 #[.agg #[.int .u8 vk, .int .i64 vn, .string vs, .slice la ll lc, .slice oa ol oc], .agg #[.int .u8 cc.k, .slice cc.pa cc.pl cc.pc, .string cc.key, .int .i64 cc.i, .int .i64 cc.j, .int .i64 cc.n, .int .u8 cc.v.k, .int .i64 cc.v.n, .string cc.v.s, .slice cc.v.la cc.v.ll cc.v.lc, .slice cc.v.oa cc.v.ol cc.v.oc, .string cc.s]] w (DoPost w (doP v ⟨cc.k,p,cc.key,cc.i,cc.j,cc.n,xv,cc.s⟩)):=by
 delta uP
 obtain ⟨_,x,hg,hkd⟩:=Zu he
 dsimp only at hg hkd
 have hxw2:=Zz p hg
 have HCK:Hid (∀W,uB w W->uP 34 #[.agg #[.int .u8 vk, .int .i64 vn, .string vs, .slice la ll lc, .slice oa ol oc], .agg #[.int .u8 cc.k, .slice cc.pa cc.pl cc.pc, .string cc.key, .int .i64 cc.i, .int .i64 cc.j, .int .i64 cc.n, .int .u8 cc.v.k, .int .i64 cc.v.n, .string cc.v.s, .slice cc.v.la cc.v.ll cc.v.lc, .slice cc.v.oa cc.v.ol cc.v.oc, .string cc.s]] W fun e w'=>e= .returned (.int .i64 0)/\uB W w'):=fun W hW=>by
  have:=X6 W vk vn vs la ll lc oa ol oc v (hv.later_ hW) (by omega) p xv cc hcb (hp.later_ hW) (hxv.later_ hW) (by omega) (hT.below hW)
  rw [he] at this;exact this
 have HGT:Hid (∀W,uB w W->uP 38 #[.agg #[.int .u8 vk, .int .i64 vn, .string vs, .slice la ll lc, .slice oa ol oc], .slice cc.pa cc.pl cc.pc] W (GetPost W (some x))):=fun W hW=>by rw [<-hg];exact X3 W vk vn vs la ll lc oa ol oc v (hv.later_ hW) p cc.pa cc.pl cc.pc (hp.later_ hW)
 have HPT:Hid (∀(W:World) (y:V) (k n:Int) (s:ByteArray) (a:Option Addr) (m c:Nat) (a':Option Addr) (m' c':Nat),uB w W->IsVal W W.heap.size y ⟨k,n,s,a,m,c,a',m',c'⟩->uP 51 #[.agg #[.int .u8 vk, .int .i64 vn, .string vs, .slice la ll lc, .slice oa ol oc], .slice cc.pa cc.pl cc.pc, .agg #[.int .u8 k, .int .i64 n, .string s, .slice a m c, .slice a' m' c']] W (GetPost W (putP v p y))):=fun W y k n s a m c a' m' c' hW hy=>Js y k n s a m c a' m' c' p W vk vn vs la ll lc oa ol oc v (hv.later_ hW) cc.pa cc.pl cc.pc (hp.later_ hW) hy
 have hdo:doP v ⟨cc.k,p,cc.key,cc.i,cc.j,cc.n,xv,cc.s⟩=doneQ (putP v p (doneP x ⟨cc.k,p,cc.key,cc.i,cc.j,cc.n,xv,cc.s⟩)):=Yt he hg
 rw [hdo]
 have HB:=qh (DB.start w ⟨vk,vn,vs,la,ll,lc,oa,ol,oc⟩ cc 36 39 36)
 have HTT:=qh hT
 have HXV:=qh hxv
 have HCB:=qh hcb
 have HKD:=qh hkd
 have hsw:=x.str_weight
 obtain ⟨kx,nx,sx,lx,ox,rfl⟩:=x.eta
 dsimp only [V.str,V.ls,V.os] at hsw
 obtain ⟨Y,hY⟩:∃Y,doneP (.mk kx nx sx lx ox) ⟨cc.k,p,cc.key,cc.i,cc.j,cc.n,xv,cc.s⟩=Y:=⟨_,rfl⟩
 rw [hY]
 obtain ⟨z,hPR⟩:=Yn p hg Y
 rw [hPR,Xf]
 have HY:=qh hY
 have HPR:=qh hPR
 clear hv hp hxv hT hcb hdo hY hPR he hg hkd
 rcases hk with hk|hk
 all_goals
  have HK:=qh hk
  clear hk
  go_enter Tryz.func16,Tryz.ntmps16
  generalize hQ0:bodyPost _ _ _=Q0
  have HQ:=qh hQ0
  clear hQ0
  go_wp2_with fail
  refine (HCK.out _ HB.out.below).mono ?_
  rintro e W ⟨rfl,hb1⟩
  have B:=HB.out.next hb1 (by simp)
  obtain ⟨v0,v1,v2,v3,v4⟩:=row5 B.v.at_
  obtain ⟨b0,b1,b2,b3,b4,b5,b6,b7,b8,b9,b10,b11⟩:=row12 B.c.at_
  obtain ⟨r0,r1,r2,r3,r4⟩:=row5 B.r.at_
  have f0:=B.r.fr 0;have f1:=B.r.fr 1;have f2:=B.r.fr 2;have f3:=B.r.fr 3;have f4:=B.r.fr 4
  have z0:=B.v.lt;have z1:=B.c.lt;have z2:=B.r.lt
  have HBW:=qh B
  clear B hb1
  go_wp2_with fail
  refine (HGT.out _ HBW.out.below).mono ?_
  rintro e W2 ⟨⟨d,rfl,hI⟩,hb2⟩
  have B2:=HBW.out.next hb2 (Nat.succ_le_of_lt z2)
  obtain ⟨e1,e2,e3,hbd,hl,ho⟩:=hI.lists
  subst e1 e2 e3
  clear v0 v1 v2 v3 v4 r0 r1 r2 r3 r4 f0 f1 f2 f3 f4 b0 b1 b2 b3 b4 b5 b6 b7 b8 b9 b10 b11
  obtain ⟨v0,v1,v2,v3,v4⟩:=row5 B2.v.at_
  obtain ⟨b0,b1,b2,b3,b4,b5,b6,b7,b8,b9,b10,b11⟩:=row12 B2.c.at_
  obtain ⟨r0,r1,r2,r3,r4⟩:=row5 B2.r.at_
  have f0:=B2.r.fr 0;have f1:=B2.r.fr 1;have f2:=B2.r.fr 2;have f3:=B2.r.fr 3;have f4:=B2.r.fr 4
  have z0:=B2.v.lt;have z1:=B2.c.lt;have z2:=B2.r.lt
  have zW:=HBW.out.below.size
  have zW2:=hb2.size
  have z22:=B2.r.lt
  have HB2:=qh B2
  have HI:=qh hI
  have HBD:=qh hbd
  have HL:=qh hl
  have HO:=qh ho
  have HAL:=qh (((Below.refl _ _).alloc (Nat.le_refl _) (.cells #[.int .u8 d.k, .int .i64 d.n, .string d.s, .slice d.la d.ll d.lc, .slice d.oa d.ol d.oc] 36)):uB W2 _)
  clear B2 hI hbd hl ho hb2
  rw [HK.out] at b0
  have HFL:Hid (uP 48 #[.slice d.oa d.ol d.oc, .agg #[.int .u8 cc.k, .slice cc.pa cc.pl cc.pc, .string cc.key, .int .i64 cc.i, .int .i64 cc.j, .int .i64 cc.n, .int .u8 cc.v.k, .int .i64 cc.v.n, .string cc.v.s, .slice cc.v.la cc.v.ll cc.v.lc, .slice cc.v.oa cc.v.ol cc.v.oc, .string cc.s]] (W2.alloc (.cells #[.int .u8 d.k, .int .i64 d.n, .string d.s, .slice d.la d.ll d.lc, .slice d.oa d.ol d.oc] 36)) (FieldsPost (W2.alloc (.cells #[.int .u8 d.k, .int .i64 d.n, .string d.s, .slice d.la d.ll d.lc, .slice d.oa d.ol d.oc] 36)) (fun k=>W.heap.size<=k/\k≠W2.heap.size) (fieldsDo ox cc.key xv (cc.k==3)))):=by
   have hb3:=HB2.out.below.trans (HAL.out.mono HB2.out.below.size)
   refine zp2 (W2.alloc (.cells #[.int .u8 d.k, .int .i64 d.n, .string d.s, .slice d.la d.ll d.lc, .slice d.oa d.ol d.oc] 36)) (fun k=>W.heap.size<=k/\k≠W2.heap.size) (fun k hk=>by rw [World.size_alloc] at hk;omega) ox d.oa d.ol d.oc ?_ cc xv (HXV.out.later_ hb3) HCB.out.key1 (by have:=HO.out.len;omega)
   exact (IsFields.sub (Zd fun k hk hl=>⟨⟨hk,by omega⟩,HAL.out.block k hl⟩) HO.out).more HAL.out.size
  rw [HK.out] at HFL
  go_wp2_with fail
  refine HFL.out.mono ?_
  rintro e w4 ⟨⟨a4,n4,c4,rfl,hI4⟩,hb4⟩
  have hbw4:uB W2 w4:=HAL.out.trans (hb4.mono (by simp))
  have B4:=HB2.out.next hbw4 (Nat.succ_le_of_lt z2)
  have X4:BC w4 W2.heap.size (vcells d):=(BC.start W2 #[.int .u8 d.k, .int .i64 d.n, .string d.s, .slice d.la d.ll d.lc, .slice d.oa d.ol d.oc] 36).keep hb4 (by simp)
  obtain ⟨x0,x1,x2,x3,x4⟩:=row5 X4.at_
  have xf0:=X4.fr 2;have xf1:=X4.fr 3;have xf2:=X4.fr 4
  have xlt:=X4.lt
  clear v0 v1 v2 v3 v4 r0 r1 r2 r3 r4 f0 f1 f2 f3 f4 b0 b1 b2 b3 b4 b5 b6 b7 b8 b9 b10 b11
  obtain ⟨v0,v1,v2,v3,v4⟩:=row5 B4.v.at_
  obtain ⟨b0,b1,b2,b3,b4,b5,b6,b7,b8,b9,b10,b11⟩:=row12 B4.c.at_
  obtain ⟨r0,r1,r2,r3,r4⟩:=row5 B4.r.at_
  have f0:=B4.r.fr 0;have f1:=B4.r.fr 1;have f2:=B4.r.fr 2;have f3:=B4.r.fr 3;have f4:=B4.r.fr 4
  have z0:=B4.v.lt;have z1:=B4.c.lt;have z2:=B4.r.lt
  have HBW4:=qh hbw4
  clear B4 X4 hb4 hbw4
  have HI4:=qh hI4
  clear hI4
  go_wp2_with fail
  have hbl4:uB W2 (w4.setCell ⟨W2.heap.size,4,none⟩ (.slice a4 n4 c4)):=HBW4.out.set_ (Nat.le_refl _)
  have hx4:=(HI.out.sub (Zk _ _ _)).later_ hbl4
  obtain ⟨_,_,_,_,hl4,ho4⟩:=hx4.lists
  have HB4:=qh (HB2.out.next hbl4 (Nat.succ_le_of_lt z22))
  have HCALL:Hid (uP 51 #[.agg #[.int .u8 vk, .int .i64 vn, .string vs, .slice la ll lc, .slice oa ol oc], .slice cc.pa cc.pl cc.pc, .agg #[.int .u8 d.k, .int .i64 d.n, .string d.s, .slice d.la d.ll d.lc, .slice a4 n4 c4]] (w4.setCell ⟨W2.heap.size,4,none⟩ (.slice a4 n4 c4)) (GetPost (w4.setCell ⟨W2.heap.size,4,none⟩ (.slice a4 n4 c4)) (some z))):=by
   have:=HPT.out (w4.setCell ⟨W2.heap.size,4,none⟩ (.slice a4 n4 c4)) Y d.k d.n d.s d.la d.ll d.lc a4 n4 c4 HB4.out.below (by
    have hYe:Y= .mk d.k d.n d.s lx (fieldsDo ox cc.key xv (cc.k==3)):=by
     rw [<-HY.out,doneP,if_neg (by have:=HK.out;dsimp only;omega),if_pos (by have:=HK.out;dsimp only;omega)];rfl
    have hst:RStep w4 (w4.setCell ⟨W2.heap.size,4,none⟩ (.slice a4 n4 c4)) W2.heap.size:=RStep.self
    rw [hYe,HK.out]
    exact Y3 HBD.out.k0 HBD.out.k1 HBD.out.n0 HBD.out.n1 HBD.out.s1 hl4 ((IsFields.sub (fun b o u hb h=>by
     obtain ⟨hs,hc⟩:=Z9 h
     exact hst.cell hc hs.2) HI4.out).more hst.size))
   rw [HPR.out] at this;exact this
  clear hx4 hl4 ho4
  refine HCALL.out.mono ?_
  rintro e W6 ⟨⟨d6,rfl,hz⟩,hb6⟩
  have B6:=HB4.out.next hb6 (Nat.succ_le_of_lt HB4.out.r.lt)
  clear v0 v1 v2 v3 v4 r0 r1 r2 r3 r4 f0 f1 f2 f3 f4 b0 b1 b2 b3 b4 b5 b6 b7 b8 b9 b10 b11
  obtain ⟨v0,v1,v2,v3,v4⟩:=row5 B6.v.at_
  obtain ⟨b0,b1,b2,b3,b4,b5,b6,b7,b8,b9,b10,b11⟩:=row12 B6.c.at_
  obtain ⟨r0,r1,r2,r3,r4⟩:=row5 B6.r.at_
  have f0:=B6.r.fr 0;have f1:=B6.r.fr 1;have f2:=B6.r.fr 2;have f3:=B6.r.fr 3;have f4:=B6.r.fr 4
  have z0:=B6.v.lt;have z1:=B6.c.lt;have z2:=B6.r.lt
  have HB6:=qh B6
  have hz4:=HB4.out.below.size
  have hz5:=HB4.out.r.lt
  have HZ:=qh hz
  clear B6 hb6 hz
  go_wp2_with fail
  rw [<-HQ.out]
  have ST:=HB6.out.result d6
  have hst:=Zi W6 (w.heap.size+1+1) 0 d6
  exact Q8 (r:=(z,0)) ST.1 ((Zm (base:=w.heap.size+1+1+1) (HZ.out.sub (Zd fun k hk _=>⟨Nat.le_trans (Nat.succ_le_of_lt hz5) hk,rfl⟩)) hst (by omega)).sub (Zd fun k hk _=>⟨by omega,rfl⟩)) ST.2 rfl rfl rfl
set_option maxRecDepth 100000 in
theorem zhr (w:World) (vk vn:Int) (vs:ByteArray) (la:Option Addr) (ll lc:Nat) (oa:Option Addr) (ol oc:Nat) (v:V) (hv:IsVal w w.heap.size v ⟨vk,vn,vs,la,ll,lc,oa,ol,oc⟩) (hw:v.weight<=100000000) (p:List St) (xv:V) (cc:CC) (hcb:cc.Bnd) (hp:IsSteps w w.heap.size p cc.pa cc.pl cc.pc) (hxv:IsVal w w.heap.size xv cc.v) (hxw:xv.weight<=4611686018427387904) (hcs:∀y,getP v p=some y->y.str.size+y.str.size+cc.s.size<=140737488355328) (hT:Tabs w) (he:checkP v ⟨cc.k,p,cc.key,cc.i,cc.j,cc.n,xv,cc.s⟩=0) (hk:cc.k=8∨cc.k=9):
 uP 16 #[.agg #[.int .u8 vk, .int .i64 vn, .string vs, .slice la ll lc, .slice oa ol oc], .agg #[.int .u8 cc.k, .slice cc.pa cc.pl cc.pc, .string cc.key, .int .i64 cc.i, .int .i64 cc.j, .int .i64 cc.n, .int .u8 cc.v.k, .int .i64 cc.v.n, .string cc.v.s, .slice cc.v.la cc.v.ll cc.v.lc, .slice cc.v.oa cc.v.ol cc.v.oc, .string cc.s]] w (DoPost w (doP v ⟨cc.k,p,cc.key,cc.i,cc.j,cc.n,xv,cc.s⟩)):=by
 delta uP
 obtain ⟨_,x,hg,hkd⟩:=Zu he
 dsimp only at hg hkd
 have hxw2:=Zz p hg
 have hcx:=hcs x hg
 have HCK:Hid (∀W,uB w W->uP 34 #[.agg #[.int .u8 vk, .int .i64 vn, .string vs, .slice la ll lc, .slice oa ol oc], .agg #[.int .u8 cc.k, .slice cc.pa cc.pl cc.pc, .string cc.key, .int .i64 cc.i, .int .i64 cc.j, .int .i64 cc.n, .int .u8 cc.v.k, .int .i64 cc.v.n, .string cc.v.s, .slice cc.v.la cc.v.ll cc.v.lc, .slice cc.v.oa cc.v.ol cc.v.oc, .string cc.s]] W fun e w'=>e= .returned (.int .i64 0)/\uB W w'):=fun W hW=>by
  have:=X6 W vk vn vs la ll lc oa ol oc v (hv.later_ hW) (by omega) p xv cc hcb (hp.later_ hW) (hxv.later_ hW) (by omega) (hT.below hW)
  rw [he] at this;exact this
 have HGT:Hid (∀W,uB w W->uP 38 #[.agg #[.int .u8 vk, .int .i64 vn, .string vs, .slice la ll lc, .slice oa ol oc], .slice cc.pa cc.pl cc.pc] W (GetPost W (some x))):=fun W hW=>by rw [<-hg];exact X3 W vk vn vs la ll lc oa ol oc v (hv.later_ hW) p cc.pa cc.pl cc.pc (hp.later_ hW)
 have HPT:Hid (∀(W:World) (y:V) (k n:Int) (s:ByteArray) (a:Option Addr) (m c:Nat) (a':Option Addr) (m' c':Nat),uB w W->IsVal W W.heap.size y ⟨k,n,s,a,m,c,a',m',c'⟩->uP 51 #[.agg #[.int .u8 vk, .int .i64 vn, .string vs, .slice la ll lc, .slice oa ol oc], .slice cc.pa cc.pl cc.pc, .agg #[.int .u8 k, .int .i64 n, .string s, .slice a m c, .slice a' m' c']] W (GetPost W (putP v p y))):=fun W y k n s a m c a' m' c' hW hy=>Js y k n s a m c a' m' c' p W vk vn vs la ll lc oa ol oc v (hv.later_ hW) cc.pa cc.pl cc.pc (hp.later_ hW) hy
 have hdo:doP v ⟨cc.k,p,cc.key,cc.i,cc.j,cc.n,xv,cc.s⟩=doneQ (putP v p (doneP x ⟨cc.k,p,cc.key,cc.i,cc.j,cc.n,xv,cc.s⟩)):=Yt he hg
 rw [hdo]
 have HB:=qh (DB.start w ⟨vk,vn,vs,la,ll,lc,oa,ol,oc⟩ cc 36 39 36)
 have HTT:=qh hT
 have HXV:=qh hxv
 have HCB:=qh hcb
 have HKD:=qh hkd
 have hsw:=x.str_weight
 obtain ⟨kx,nx,sx,lx,ox,rfl⟩:=x.eta
 dsimp only [V.str,V.ls,V.os] at hsw
 dsimp only [V.str] at hcx
 obtain ⟨Y,hY⟩:∃Y,doneP (.mk kx nx sx lx ox) ⟨cc.k,p,cc.key,cc.i,cc.j,cc.n,xv,cc.s⟩=Y:=⟨_,rfl⟩
 rw [hY]
 obtain ⟨z,hPR⟩:=Yn p hg Y
 rw [hPR,Xf]
 have HY:=qh hY
 have HPR:=qh hPR
 clear hv hp hxv hT hcb hdo hY hPR he hg hkd
 rcases hk with hk|hk
 all_goals
  have HK:=qh hk
  clear hk
  go_enter Tryz.func16,Tryz.ntmps16
  generalize hQ0:bodyPost _ _ _=Q0
  have HQ:=qh hQ0
  clear hQ0
  go_wp2_with fail
  refine (HCK.out _ HB.out.below).mono ?_
  rintro e W ⟨rfl,hb1⟩
  have B:=HB.out.next hb1 (by simp)
  obtain ⟨v0,v1,v2,v3,v4⟩:=row5 B.v.at_
  obtain ⟨b0,b1,b2,b3,b4,b5,b6,b7,b8,b9,b10,b11⟩:=row12 B.c.at_
  obtain ⟨r0,r1,r2,r3,r4⟩:=row5 B.r.at_
  have f0:=B.r.fr 0;have f1:=B.r.fr 1;have f2:=B.r.fr 2;have f3:=B.r.fr 3;have f4:=B.r.fr 4
  have z0:=B.v.lt;have z1:=B.c.lt;have z2:=B.r.lt
  have HBW:=qh B
  clear B hb1
  go_wp2_with fail
  refine (HGT.out _ HBW.out.below).mono ?_
  rintro e W2 ⟨⟨d,rfl,hI⟩,hb2⟩
  have B2:=HBW.out.next hb2 (Nat.succ_le_of_lt z2)
  obtain ⟨e1,e2,e3,hbd,hl,ho⟩:=hI.lists
  subst e1 e2 e3
  clear v0 v1 v2 v3 v4 r0 r1 r2 r3 r4 f0 f1 f2 f3 f4 b0 b1 b2 b3 b4 b5 b6 b7 b8 b9 b10 b11
  obtain ⟨v0,v1,v2,v3,v4⟩:=row5 B2.v.at_
  obtain ⟨b0,b1,b2,b3,b4,b5,b6,b7,b8,b9,b10,b11⟩:=row12 B2.c.at_
  obtain ⟨r0,r1,r2,r3,r4⟩:=row5 B2.r.at_
  have f0:=B2.r.fr 0;have f1:=B2.r.fr 1;have f2:=B2.r.fr 2;have f3:=B2.r.fr 3;have f4:=B2.r.fr 4
  have z0:=B2.v.lt;have z1:=B2.c.lt;have z2:=B2.r.lt
  have zW:=HBW.out.below.size
  have zW2:=hb2.size
  have z22:=B2.r.lt
  have HB2:=qh B2
  have HI:=qh hI
  have HBD:=qh hbd
  have HL:=qh hl
  have HO:=qh ho
  have HAL:=qh (((Below.refl _ _).alloc (Nat.le_refl _) (.cells #[.int .u8 d.k, .int .i64 d.n, .string d.s, .slice d.la d.ll d.lc, .slice d.oa d.ol d.oc] 36)):uB W2 _)
  clear B2 hI hbd hl ho hb2
  rw [HK.out] at b0
  have hts:d.s.size<=1000000000000:=by have:=hsw.1;omega
  have htc:tCheck d.s cc.k cc.i cc.n=0:=by
   have hk:=HKD.out
   rw [kindsP,if_neg (by have:=HK.out;omega),if_neg (by have:=HK.out;omega),if_pos (by have:=HK.out;omega)] at hk
   split at hk
   .omega
   .exact hk
  obtain ⟨TD,hTD⟩:∃TD,textDo d.s cc.k cc.i cc.n cc.s=TD:=⟨_,rfl⟩
  have htz:TD.size<=140737488355328:=by
   rw [<-hTD]
   have:=zdb d.s cc.k cc.i cc.n cc.s
   omega
  have HFL:Hid (uP 49 #[.string d.s, .agg #[.int .u8 cc.k, .slice cc.pa cc.pl cc.pc, .string cc.key, .int .i64 cc.i, .int .i64 cc.j, .int .i64 cc.n, .int .u8 cc.v.k, .int .i64 cc.v.n, .string cc.v.s, .slice cc.v.la cc.v.ll cc.v.lc, .slice cc.v.oa cc.v.ol cc.v.oc, .string cc.s]] (W2.alloc (.cells #[.int .u8 d.k, .int .i64 d.n, .string d.s, .slice d.la d.ll d.lc, .slice d.oa d.ol d.oc] 36)) fun e w'=>e= .returned (.tuple #[.string TD, .int .i64 0])/\uB (W2.alloc (.cells #[.int .u8 d.k, .int .i64 d.n, .string d.s, .slice d.la d.ll d.lc, .slice d.oa d.ol d.oc] 36)) w'):=by
   have hb3:=HB2.out.below.trans (HAL.out.mono HB2.out.below.size)
   rw [<-hTD]
   exact zbv (W2.alloc (.cells #[.int .u8 d.k, .int .i64 d.n, .string d.s, .slice d.la d.ll d.lc, .slice d.oa d.ol d.oc] 36)) d.s cc HCB.out hts (HTT.out.below hb3) htc
  have HTD:=qh hTD
  clear hTD htc
  rw [HK.out] at HFL
  go_wp2_with fail
  refine HFL.out.mono ?_
  rintro e w4 ⟨rfl,hb4⟩
  have hbw4:uB W2 w4:=HAL.out.trans (hb4.mono (by simp))
  have B4:=HB2.out.next hbw4 (Nat.succ_le_of_lt z2)
  have X4:BC w4 W2.heap.size (vcells d):=(BC.start W2 #[.int .u8 d.k, .int .i64 d.n, .string d.s, .slice d.la d.ll d.lc, .slice d.oa d.ol d.oc] 36).keep hb4 (by simp)
  obtain ⟨x0,x1,x2,x3,x4⟩:=row5 X4.at_
  have xf0:=X4.fr 2;have xf1:=X4.fr 3;have xf2:=X4.fr 4
  have xlt:=X4.lt
  clear v0 v1 v2 v3 v4 r0 r1 r2 r3 r4 f0 f1 f2 f3 f4 b0 b1 b2 b3 b4 b5 b6 b7 b8 b9 b10 b11
  obtain ⟨v0,v1,v2,v3,v4⟩:=row5 B4.v.at_
  obtain ⟨b0,b1,b2,b3,b4,b5,b6,b7,b8,b9,b10,b11⟩:=row12 B4.c.at_
  obtain ⟨r0,r1,r2,r3,r4⟩:=row5 B4.r.at_
  have f0:=B4.r.fr 0;have f1:=B4.r.fr 1;have f2:=B4.r.fr 2;have f3:=B4.r.fr 3;have f4:=B4.r.fr 4
  have z0:=B4.v.lt;have z1:=B4.c.lt;have z2:=B4.r.lt
  have HBW4:=qh hbw4
  clear B4 X4 hb4 hbw4
  go_wp2_with fail
  have hbl4:uB W2 (w4.setCell ⟨W2.heap.size,2,none⟩ (.string TD)):=HBW4.out.set_ (Nat.le_refl _)
  have hx4:=(HI.out.sub (Zk _ _ _)).later_ hbl4
  obtain ⟨_,_,_,_,hl4,ho4⟩:=hx4.lists
  have HB4:=qh (HB2.out.next hbl4 (Nat.succ_le_of_lt z22))
  have HCALL:Hid (uP 51 #[.agg #[.int .u8 vk, .int .i64 vn, .string vs, .slice la ll lc, .slice oa ol oc], .slice cc.pa cc.pl cc.pc, .agg #[.int .u8 d.k, .int .i64 d.n, .string TD, .slice d.la d.ll d.lc, .slice d.oa d.ol d.oc]] (w4.setCell ⟨W2.heap.size,2,none⟩ (.string TD)) (GetPost (w4.setCell ⟨W2.heap.size,2,none⟩ (.string TD)) (some z))):=by
   have:=HPT.out (w4.setCell ⟨W2.heap.size,2,none⟩ (.string TD)) Y d.k d.n TD d.la d.ll d.lc d.oa d.ol d.oc HB4.out.below (by
    have hYe:Y= .mk d.k d.n TD lx ox:=by
     rw [<-HY.out,doneP,if_neg (by have:=HK.out;dsimp only;omega),if_neg (by have:=HK.out;dsimp only;omega),if_pos (by have:=HK.out;dsimp only;omega), <-HTD.out];rfl
    rw [hYe]
    exact Y3 HBD.out.k0 HBD.out.k1 HBD.out.n0 HBD.out.n1 htz hl4 ho4)
   rw [HPR.out] at this;exact this
  clear hx4 hl4 ho4
  refine HCALL.out.mono ?_
  rintro e W6 ⟨⟨d6,rfl,hz⟩,hb6⟩
  have B6:=HB4.out.next hb6 (Nat.succ_le_of_lt HB4.out.r.lt)
  clear v0 v1 v2 v3 v4 r0 r1 r2 r3 r4 f0 f1 f2 f3 f4 b0 b1 b2 b3 b4 b5 b6 b7 b8 b9 b10 b11
  obtain ⟨v0,v1,v2,v3,v4⟩:=row5 B6.v.at_
  obtain ⟨b0,b1,b2,b3,b4,b5,b6,b7,b8,b9,b10,b11⟩:=row12 B6.c.at_
  obtain ⟨r0,r1,r2,r3,r4⟩:=row5 B6.r.at_
  have f0:=B6.r.fr 0;have f1:=B6.r.fr 1;have f2:=B6.r.fr 2;have f3:=B6.r.fr 3;have f4:=B6.r.fr 4
  have z0:=B6.v.lt;have z1:=B6.c.lt;have z2:=B6.r.lt
  have HB6:=qh B6
  have hz4:=HB4.out.below.size
  have hz5:=HB4.out.r.lt
  have HZ:=qh hz
  clear B6 hb6 hz
  go_wp2_with fail
  rw [<-HQ.out]
  have ST:=HB6.out.result d6
  have hst:=Zi W6 (w.heap.size+1+1) 0 d6
  exact Q8 (r:=(z,0)) ST.1 ((Zm (base:=w.heap.size+1+1+1) (HZ.out.sub (Zd fun k hk _=>⟨Nat.le_trans (Nat.succ_le_of_lt hz5) hk,rfl⟩)) hst (by omega)).sub (Zd fun k hk _=>⟨by omega,rfl⟩)) ST.2 rfl rfl rfl
end Go.Proofs.YtnjgbiachcfigaaGreatDoor
