/-
  Contracts of the functions that the law reaches: What is done to a sound value by a.
-/
import Derived.Test.YtfoahkbnheijcaaDoorCq35
namespace Go.Proofs.YtfoahkbnheijcaaDoor
open Go.RowKit
theorem zla {n b0 b1 b2 b3 r k:Nat} (h:Lib.decodeN n b0 b1 b2 b3=(r,k)) (hn:1<=n):k<=n:=by
 unfold Lib.decodeN at h
 repeat' split at h
 all_goals (simp only [Prod.mk.injEq] at h;omega)
theorem ziz {n m b0 b1 b2 b3 c1 c2 c3 r k:Nat} (h:Lib.decodeN n b0 b1 b2 b3=(r,k)) (hv:¬(r=65533/\k=1)) (hm:k<=m) (e1:2<=k->c1=b1) (e2:3<=k->c2=b2) (e3:4<=k->c3=b3):Lib.decodeN m b0 c1 c2 c3=(r,k):=by
 unfold Lib.decodeN at h ⊢
 by_cases h0:b0<128
 .rw [if_pos h0] at h ⊢;exact h
 rw [if_neg h0] at h ⊢
 by_cases h1:b0 / 32=6/\(1<n/\b1 / 64=2)
 .rw [if_pos h1] at h
  split at h
  .rename_i hq
   obtain ⟨rfl,rfl⟩:=Prod.mk.inj h
   obtain rfl:=e1 (by omega)
   rw [if_pos ⟨h1.1,by omega,h1.2.2⟩,if_pos hq]
  .obtain ⟨rfl,rfl⟩:=Prod.mk.inj h
   exact absurd ⟨rfl,rfl⟩ hv
 rw [if_neg h1] at h
 by_cases h2:b0 / 16=14/\(1<n/\b1 / 64=2)/\(2<n/\b2 / 64=2)
 .rw [if_pos h2] at h
  split at h
  .rename_i hq
   obtain ⟨rfl,rfl⟩:=Prod.mk.inj h
   obtain rfl:=e1 (by omega)
   obtain rfl:=e2 (by omega)
   rw [if_neg (by omega),if_pos ⟨h2.1,⟨by omega,h2.2.1.2⟩,by omega,h2.2.2.2⟩,if_pos hq]
  .obtain ⟨rfl,rfl⟩:=Prod.mk.inj h
   exact absurd ⟨rfl,rfl⟩ hv
 rw [if_neg h2] at h
 by_cases h3:b0 / 8=30/\(1<n/\b1 / 64=2)/\(2<n/\b2 / 64=2)/\(3<n/\b3 / 64=2)
 .rw [if_pos h3] at h
  split at h
  .rename_i hq
   obtain ⟨rfl,rfl⟩:=Prod.mk.inj h
   obtain rfl:=e1 (by omega)
   obtain rfl:=e2 (by omega)
   obtain rfl:=e3 (by omega)
   rw [if_neg (by omega),if_neg (by omega),if_pos ⟨h3.1,⟨by omega,h3.2.1.2⟩,⟨by omega,h3.2.2.1.2⟩,by omega,h3.2.2.2.2⟩,if_pos hq]
  .obtain ⟨rfl,rfl⟩:=Prod.mk.inj h
   exact absurd ⟨rfl,rfl⟩ hv
 rw [if_neg h3] at h
 obtain ⟨rfl,rfl⟩:=Prod.mk.inj h
 exact absurd ⟨rfl,rfl⟩ hv
theorem zai {l:List UInt8} (h:l≠ []):(Lib.decodeL l).2<=l.length:=by
 have h0:0<l.length:=List.length_pos_iff.2 h
 rw [Lib.decodeL_N]
 exact zla (Prod.eta _).symm h0
theorem zdt {l m:List UInt8} (hv:¬((Lib.decodeL l).1=65533/\(Lib.decodeL l).2=1)) (hm:(Lib.decodeL l).2<=m.length) (h:∀i,i<(Lib.decodeL l).2->m.getD i 0=l.getD i 0):Lib.decodeL m=Lib.decodeL l:=by
 have hw:=Lib.decodeL_width l
 obtain ⟨r,hr⟩:∃r,(Lib.decodeL l).1=r:=⟨_,rfl⟩
 obtain ⟨k,hk⟩:∃k,(Lib.decodeL l).2=k:=⟨_,rfl⟩
 have hd:Lib.decodeL l=(r,k):=by rw [<-hr, <-hk]
 rw [hr,hk] at hv
 rw [hk] at hm h hw
 rw [hd]
 rw [Lib.decodeL_N] at hd ⊢
 rw [h 0 (by omega)]
 exact ziz hd hv hm (fun hq=>by rw [h 1 (by omega)]) (fun hq=>by rw [h 2 (by omega)]) (fun hq=>by rw [h 3 (by omega)])
theorem Jf:∀(n:Nat) (a b:List UInt8),a.length<=n->Lib.validD a=true->Lib.validD (a++b)=Lib.validD b:=by
 intro n
 induction n with
 |zero=>intro a b ha _;obtain rfl:a= [] :=List.length_eq_zero_iff.1 (by omega);rfl
 | succ n ih=>
   intro a b ha hv
   by_cases hne:a= []
   .subst hne;rfl
   have hw:=Lib.decodeL_width a
   have hf:=zai hne
   rw [Lib.validD_step a hne] at hv
   by_cases hbad:(Lib.decodeL a).1=65533/\(Lib.decodeL a).2=1
   .rw [if_pos hbad] at hv;cases hv
   rw [if_neg hbad] at hv
   have e:Lib.decodeL (a++b)=Lib.decodeL a:=zdt hbad (by rw [List.length_append];omega) fun i hi=>by
    rw [List.getD_eq_getElem?_getD,List.getD_eq_getElem?_getD,List.getElem?_append_left (by omega)]
   rw [Lib.validD_step (a++b) (by simp [hne]),e,if_neg hbad,List.drop_append_of_le_length hf]
   exact ih _ b (by rw [List.length_drop];omega) hv
theorem zmf (f:Nat):∀(i:Nat) (l:List UInt8),Lib.validD l=true->∀p ∈ cutsP f i l,Lib.validD (l.take (p - i))=true/\Lib.validD (l.drop (p - i))=true:=by
 induction f with
 |zero=>intro i l _ p hp;simp [cutsP] at hp
 | succ f ih=>
   intro i l hv p hp
   rw [cutsP] at hp
   by_cases hne:l= []
   .rw [if_pos hne] at hp;simp at hp
   rw [if_neg hne] at hp
   have hw:=Lib.decodeL_width l
   have hf:=zai hne
   rcases List.mem_cons.1 hp with rfl|hp
   .rw [Nat.sub_self];exact ⟨rfl,hv⟩
   .have hr:=zbg f _ _ p hp
    rw [Lib.validD_step l hne] at hv
    by_cases hbad:(Lib.decodeL l).1=65533/\(Lib.decodeL l).2=1
    .rw [if_pos hbad] at hv;cases hv
    rw [if_neg hbad] at hv
    obtain ⟨h1,h2⟩:=ih _ _ hv p hp
    have e0:p - i=(Lib.decodeL l).2+(p - (i+(Lib.decodeL l).2)):=by omega
    refine ⟨?_,by rw [e0, <-List.drop_drop];exact h2⟩
    have hk:Lib.validD (l.take (Lib.decodeL l).2)=true:=by
     have e:Lib.decodeL (l.take (Lib.decodeL l).2)=Lib.decodeL l:=zdt hbad (by rw [List.length_take];omega) fun j hj=>by
      rw [List.getD_eq_getElem?_getD,List.getD_eq_getElem?_getD,List.getElem?_take_of_lt hj]
     rw [Lib.validD_step _ (fun h=>by
      have:=congrArg List.length h
      rw [List.length_take,List.length_nil] at this
      have h0:0<l.length:=List.length_pos_iff.2 hne
      omega),e,if_neg hbad,List.drop_eq_nil_of_le (by rw [List.length_take];omega)]
     rfl
    rw [e0,List.take_add,Jf _ _ _ (Nat.le_refl _) hk]
    exact h1
theorem zcn (s:ByteArray) {i:Nat} (h:i<=textN s):(cuts s).getD i 0 ∈ cuts s:=by
 have h0:=(Xs s).1
 unfold textN at h
 rw [List.getD_eq_getElem?_getD,List.getElem?_eq_getElem (by omega)]
 exact List.getElem_mem _
theorem zc4 {s:ByteArray} (hv:Lib.validD s.data.toList=true) {p:Nat} (hp:p ∈ cuts s):Lib.validD (s.data.toList.take p)=true/\Lib.validD (s.data.toList.drop p)=true:=by
 unfold cuts at hp
 rcases List.mem_append.1 hp with hp|hp
 .have:=zmf s.size 0 s.data.toList hv p hp
  rwa [Nat.sub_zero] at this
 .rw [List.mem_singleton] at hp
  subst hp
  rw [List.take_of_length_le (by simp),List.drop_eq_nil_of_le (by simp)]
  exact ⟨hv,rfl⟩
theorem zbl (s:ByteArray) (i j:Nat):(s.extract i j).data.toList=(s.data.toList.take j).drop i:=by
 simp [ByteArray.data_extract,List.drop_take]
theorem zgq {s cs:ByteArray} {k i n:Int} (hv:Lib.validD s.data.toList=true) (hc:Lib.validD cs.data.toList=true) (h:tCheck s k i n=0):Lib.validD (textDo s k i n cs).data.toList=true:=by
 obtain ⟨hk,h0,h1⟩:=Kk h
 have hm:(cuts s).getD i.toNat 0 ∈ cuts s:=zcn s (by omega)
 have e1:∀p,(s.extract 0 p).data.toList=s.data.toList.take p:=fun p=>by rw [zbl];rfl
 have e2:∀p,(s.extract p s.size).data.toList=s.data.toList.drop p:=fun p=>by rw [zbl,List.take_of_length_le (by simp)]
 obtain ⟨v1,v2⟩:=zc4 hv hm
 unfold textDo
 split
 .rw [ByteArray.data_append,ByteArray.data_append,Array.toList_append,Array.toList_append,List.append_assoc,e1,e2,Jf _ _ _ (Nat.le_refl _) v1,Jf _ _ _ (Nat.le_refl _) hc]
  exact v2
 .have hm2:(cuts s).getD (i+n).toNat 0 ∈ cuts s:=zcn s (by omega)
  rw [ByteArray.data_append,Array.toList_append,e1,e2,Jf _ _ _ (Nat.le_refl _) v1]
  exact (zc4 hv hm2).2
theorem Zs {k n:Int} {s:ByteArray} {l:List V} {o:List (ByteArray×V)} :V.sound (.mk k n s l o)=true↔plainB k n s l.length o.length=true/\rising o=true/\(∀v ∈ l,v.sound=true)/\(∀f ∈ o,Lib.validD f.1.data.toList=true/\f.2.sound=true):=by
 simp only [V.sound,Bool.and_eq_true,Ji,Jb,and_assoc]
theorem Xu:V.none.sound=true:=by simp [V.none,V.sound,soundL,soundO,rising,plainB,ByteArray.toList_eq]
theorem zau {v:V} {s:St} {x:V} {k:Nat} (hv:v.sound=true) (h:stepP v s=some (x,k)):x.sound=true:=by
 obtain ⟨kk,n,t,l,o,rfl⟩:=v.eta
 obtain ⟨_,_,h3,h4⟩:=Zs.1 hv
 rcases Xj h with ⟨_,_,_,hk,rfl⟩|⟨_,_,_,hk,rfl⟩
 .exact h3 _ (List.getElem_mem (l:=l) hk)
 .exact (h4 _ (List.getElem_mem (l:=o) hk)).2
theorem J7 (p:List St):∀ {v x:V},v.sound=true->getP v p=some x->x.sound=true:=by
 induction p with
 |nil=>intro v x hv h;injection h with h;exact h ▸ hv
 | cons s r ih=>
   intro v x hv h
   unfold getP at h
   cases hs:stepP v s with
   |none=>rw [hs] at h;cases h
   | some q=>
     obtain ⟨y,k⟩:=q
     rw [hs] at h
     exact ih (zau hv hs) h
theorem zjb {v z:V} {i:Nat} (hv:v.sound=true) (hz:z.sound=true):(v.setL i z).sound=true:=by
 obtain ⟨kk,n,t,l,o,rfl⟩:=v.eta
 obtain ⟨h1,h2,h3,h4⟩:=Zs.1 hv
 refine Zs.2 ⟨by rw [List.length_set];exact h1,h2,fun x hx=> ?_,h4⟩
 rcases List.mem_or_eq_of_mem_set hx with h|h
 .exact h3 x h
 .exact h ▸ hz
theorem zg2 {v z:V} {i:Nat} (hv:v.sound=true) (hz:z.sound=true):(v.setO i z).sound=true:=by
 obtain ⟨kk,n,t,l,o,rfl⟩:=v.eta
 obtain ⟨h1,h2,h3,h4⟩:=Zs.1 hv
 have hlen:(putO o i z).length=o.length:=by rw [putO,List.length_set]
 have hkey:∀(j:Nat) (a:ByteArray×V),(putO o i z)[j]? =some a->∃b:ByteArray×V,o[j]? =some b/\b.1=a.1:=by
  intro j a ha
  have hj:j<o.length:=by rw [<-hlen];exact (List.getElem?_eq_some_iff.1 ha).1
  by_cases e:i=j
  .subst e
   rw [putO,List.getElem?_set_self hj] at ha
   injection ha with ha
   refine ⟨o[i],List.getElem?_eq_getElem hj, ?_⟩
   rw [<-ha,List.getD_eq_getElem?_getD,List.getElem?_eq_getElem hj];rfl
  .rw [putO,List.getElem?_set_ne e] at ha
   exact ⟨a,ha,rfl⟩
 refine Zs.2 ⟨by rw [hlen];exact h1,Xz.2 fun j a b ha hb=> ?_,h3,fun f hf=> ?_⟩
 .obtain ⟨a',ha',ea⟩:=hkey j a ha
  obtain ⟨b',hb',eb⟩:=hkey (j+1) b hb
  rw [<-ea, <-eb]
  exact Xz.1 h2 j a' b' ha' hb'
 .unfold putO at hf
  by_cases hi:i<o.length
  .rcases List.mem_or_eq_of_mem_set hf with h|h
   .exact h4 f h
   .subst h
    refine ⟨?_,hz⟩
    rw [List.getD_eq_getElem?_getD,List.getElem?_eq_getElem hi]
    exact (h4 _ (List.getElem_mem hi)).1
  .rw [List.set_eq_of_length_le (by omega)] at hf
   exact h4 f hf
theorem zi1 (p:List St):∀ {v x w:V},v.sound=true->x.sound=true->putP v p x=some w->w.sound=true:=by
 induction p with
 |nil=>intro v x w _ hx h;injection h with h;exact h ▸ hx
 | cons s r ih=>
   intro v x w hv hx h
   unfold putP at h
   cases hs:stepP v s with
   |none=>rw [hs] at h;cases h
   | some q=>
     obtain ⟨y,k⟩:=q
     rw [hs] at h
     dsimp only at h
     cases hp:putP y r x with
     |none=>rw [hp] at h;cases h
     | some z=>
       rw [hp] at h
       dsimp only at h
       injection h with h
       have hz:=ih (zau hv hs) hx hp
       split at h
       .exact h ▸ zjb hv hz
       .exact h ▸ zg2 hv hz
theorem zh3 {o:List (ByteArray×V)} (h:rising o=true) (i:Nat) (hi:i<o.length):rising (o.take i++o.drop (i+1))=true:=by
 have hg:=Xz.1 h
 have l1:(o.take i).length=i:=by rw [List.length_take];omega
 have e1:∀j,j<i->(o.take i++o.drop (i+1))[j]? =o[j]? :=fun j hj=>by rw [List.getElem?_append_left (by omega),List.getElem?_take_of_lt hj]
 have e2:∀j,i<=j->(o.take i++o.drop (i+1))[j]? =o[j+1]? :=fun j hj=>by rw [List.getElem?_append_right (by omega),l1,List.getElem?_drop,show i+1+(j - i)=j+1 by omega]
 refine Xz.2 fun j a b ha hb=> ?_
 by_cases c1:j+1<i
 .rw [e1 j (by omega)] at ha;rw [e1 _ c1] at hb;exact hg j a b ha hb
 .by_cases c2:j+1=i
  .rw [e1 j (by omega)] at ha;rw [e2 _ (by omega),c2] at hb
   have hm:o[i]? =some o[i] :=List.getElem?_eq_getElem hi
   have h1:=hg j a o[i] ha (by rw [c2];exact hm)
   exact K1 h1 (hg i o[i] b hm hb)
  .rw [e2 j (by omega)] at ha;rw [e2 _ (by omega)] at hb;exact hg (j+1) a b ha hb
theorem zed {o:List (ByteArray×V)} (key:ByteArray) (x:V) (d:Bool) (h:rising o=true):rising (newF o key x d)=true:=by
 unfold newF
 split
 .unfold remF
  by_cases e:fieldIs o key=true
  .rw [if_pos e];exact zh3 h _ (Yk e)
  .rw [if_neg e,List.take_append_drop];exact h
 .exact zcs key x h
theorem zgk {o:List (ByteArray×V)} {key:ByteArray} {x:V} {d:Bool} {f:ByteArray×V} (h:f ∈ newF o key x d):f ∈ o∨(d=false/\f=(key,x)):=by
 unfold newF at h
 cases d with
 | true=>
   rw [if_pos rfl,remF] at h
   rcases List.mem_append.1 h with h|h
   .exact .inl (List.mem_of_mem_take h)
   .exact .inl (List.mem_of_mem_drop h)
 | false=>
   rw [if_neg (by simp)] at h
   rcases Kj h with h|h
   .exact .inl h
   .exact .inr ⟨rfl,h⟩
theorem zix {x:Cm} (h:cmSound x=true):Lib.validD x.key.data.toList=true/\Lib.validD x.s.data.toList=true/\x.v.sound=true:=by
 unfold cmSound at h
 simp only [Bool.and_eq_true] at h
 exact ⟨h.1.1.1.1.1.1.1.1.2,h.1.1.1.1.1.1.1.2,h.1.1.2⟩
theorem zib {x:V} {c:Cm} (hx:x.sound=true) (hc:cmSound c=true) (hk:kindsP x c.k c.i c.j c.n c.key=0):(doneP x c).sound=true:=by
 obtain ⟨hkey,hs,hv⟩:=zix hc
 obtain ⟨kk,n,t,l,o,rfl⟩:=x.eta
 obtain ⟨h1,h2,h3,h4⟩:=Zs.1 hx
 unfold doneP
 unfold kindsP at hk
 by_cases c1:c.k=1
 .rw [if_pos c1] at hk ⊢
  have hkd:kk=2:=by
   by_cases e:kk=2
   .exact e
   .rw [if_pos (show (V.mk kk n t l o).kd≠2 from e)] at hk;omega
  subst hkd
  exact Zs.2 ⟨show plainB 2 (wrap64 (n+c.n)) t l.length o.length=true by simpa [plainB] using h1,h2,h3,h4⟩
 rw [if_neg c1] at hk ⊢
 by_cases c2:c.k=2∨c.k=3
 .rw [if_pos c2] at hk ⊢
  have hkd:kk=5:=by
   by_cases e:kk=5
   .exact e
   .rw [if_pos (show (V.mk kk n t l o).kd≠5 from e)] at hk;omega
  subst hkd
  refine Zs.2 ⟨show plainB 5 n t l.length (fieldsDo o c.key c.v (c.k==3)).length=true by simpa [plainB] using h1, ?_,h3,fun f hf=> ?_⟩
  .show rising (fieldsDo o c.key c.v (c.k==3))=true
   rw [Jo h2];exact zed _ _ _ h2
  .have hf:f ∈ fieldsDo o c.key c.v (c.k==3):=hf
   rw [Jo h2] at hf
   rcases zgk hf with hf|⟨_,rfl⟩
   .exact h4 f hf
   .exact ⟨hkey,hv⟩
 rw [if_neg c2] at hk ⊢
 by_cases c3:c.k=8∨c.k=9
 .rw [if_pos c3] at hk ⊢
  have hkd:kk=3:=by
   by_cases e:kk=3
   .exact e
   .rw [if_pos (show (V.mk kk n t l o).kd≠3 from e)] at hk;omega
  subst hkd
  rw [if_neg (show ¬(V.mk 3 n t l o).kd≠3 from fun h=>h rfl)] at hk
  have h1':((n=0/\Lib.validD t.data.toList=true)/\l= [])/\o= [] :=by simpa [plainB] using h1
  obtain ⟨⟨⟨a1,a2⟩,a3⟩,a4⟩:=h1'
  have ht:=zgq a2 hs hk
  refine Zs.2 ⟨?_,h2,h3,h4⟩
  subst a1 a3 a4
  show plainB 3 0 (textDo t c.k c.i c.n c.s) 0 0=true
  simpa [plainB] using ht
 rw [if_neg c3] at hk ⊢
 have hkd:kk=4:=by
  by_cases e:kk=4
  .exact e
  .rw [if_pos (show (V.mk kk n t l o).kd≠4 from e)] at hk;omega
 subst hkd
 refine Zs.2 ⟨show plainB 4 n t (listDo l c.k c.i c.j c.v).length o.length=true by simpa [plainB] using h1,h2,fun y hy=> ?_,h4⟩
 have hm : ∀y ∈ listDo l c.k c.i c.j c.v,y ∈ l∨y=c.v∨y=V.none:=by
  have hr:∀y ∈ remL l c.i.toNat,y ∈ l:=by
   intro y hy
   unfold remL at hy
   rcases List.mem_append.1 hy with h|h
   .exact List.mem_of_mem_take h
   .exact List.mem_of_mem_drop h
  have hi:∀ {q:List V} {m:Nat} {z y:V},y ∈ insL q m z->y ∈ q∨y=z:=by
   intro q m z y hy
   unfold insL at hy
   rcases List.mem_append.1 hy with h|h
   .exact .inl (List.mem_of_mem_take h)
   .rcases List.mem_cons.1 h with h|h
    .exact .inr h
    .exact .inl (List.mem_of_mem_drop h)
  intro y hy
  unfold listDo at hy
  split at hy
  .rcases hi hy with h|h
   .exact .inl h
   .exact .inr (.inl h)
  .split at hy
   .exact .inl (hr y hy)
   .split at hy
    .rcases List.mem_or_eq_of_mem_set hy with h|h
     .exact .inl h
     .exact .inr (.inl h)
    .rcases hi hy with h|h
     .exact .inl (hr y h)
     .rw [List.getD_eq_getElem?_getD] at h
      cases hq:l[c.i.toNat]? with
      |none=>rw [hq] at h;exact .inr (.inr h)
      |some z=>rw [hq] at h;exact .inl (h ▸ List.mem_of_getElem? hq)
 rcases hm y hy with h|h|h
 .exact h3 y h
 .exact h ▸ hv
 .exact h ▸ Xu
theorem zgn {v:V} {c:Cm} (hv:v.sound=true):(doP v c).1.sound=true:=by
 unfold doP
 split
 .rename_i he
  obtain ⟨hs,x,hg,hk⟩:=Z5 he
  simp only [hg]
  obtain ⟨z,hz⟩:=Yi c.path hg (doneP x c)
  rw [hz]
  exact zi1 c.path hv (zib (J7 c.path hv hg) hs hk) hz
 .exact Xu
end Go.Proofs.YtfoahkbnheijcaaDoor
