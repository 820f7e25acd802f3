/-
  Contracts of the functions that the law reaches: What may be done to a value, as choices.
-/
import Derived.Test.YtbgheehjfnoiiaaGreatDoorOn27
namespace Go.Proofs.YtbgheehjfnoiiaaGreatDoor
open Go.RowKit
set_option maxHeartbeats 8000000
theorem zb9 (z:V):∀(l:List V) (k:Nat) (hk:k<l.length),weightL (l.set k z)+l[k].weight=weightL l+z.weight:=by
 intro l
 induction l with
 |nil=>intro k hk;cases hk
 | cons a r ih=>
   intro k hk
   cases k with
   |zero=>simp only [List.set_cons_zero,List.getElem_cons_zero,weightL];omega
   | succ k=>
     have:=ih k (by simpa using hk)
     simp only [List.set_cons_succ,List.getElem_cons_succ,weightL];omega
theorem zjh (z:V) (o:List (ByteArray×V)) (k:Nat) (hk:k<o.length):weightO (putO o k z)+o[k].2.weight=weightO o+z.weight:=by
 have e:putO o k z=o.set k (o[k].1,z):=by simp [putO,List.getD_eq_getElem?_getD,hk]
 rw [e]
 clear e
 induction o generalizing k with
 |nil=>cases hk
 | cons a r ih=>
   cases k with
   |zero=>simp only [List.set_cons_zero,List.getElem_cons_zero,weightO,Yg];omega
   | succ k=>
     have:=ih k (by simpa using hk)
     simp only [List.set_cons_succ,List.getElem_cons_succ,weightO];omega
theorem zdp (p:List St):∀ {v x y z:V},getP v p=some x->putP v p y=some z->z.weight+x.weight=v.weight+y.weight:=by
 induction p with
 |nil=>intro v x y z h1 h2;injection h1 with h1;injection h2 with h2;subst h1 h2;omega
 | cons s r ih=>
   intro v x y z h1 h2
   unfold getP at h1
   unfold putP at h2
   cases hs:stepP v s with
   |none=>rw [hs] at h1;cases h1
   | some q=>
     rw [hs] at h1 h2
     dsimp only at h1 h2
     cases hp:putP q.1 r y with
     |none=>rw [hp] at h2;cases h2
     | some u=>
       rw [hp] at h2
       dsimp only at h2
       injection h2 with h2
       have hi:=ih h1 hp
       obtain ⟨kk,n,t,l,o,rfl⟩:=v.eta
       rcases Xm (x:=q.1) (k:=q.2) hs with ⟨hl,_,_,hk,e⟩|⟨hl,_,_,hk,e⟩
       .rw [if_pos hl] at h2
        have hw:=zb9 u l q.2 hk
        have e2:(l[q.2]'hk)=q.1:=e
        rw [e2] at hw
        subst h2
        simp only [V.setL,V.weight];omega
       .rw [if_neg (by simp [hl])] at h2
        have hw:=zjh u o q.2 hk
        have e2:(o[q.2]'hk).2=q.1:=e
        rw [e2] at hw
        subst h2
        simp only [V.setO,V.weight];omega
def otherF (key:ByteArray) (o:List (ByteArray×V)):List (ByteArray×V):=o.filter fun f=>decide (f.1.toList≠key.toList)
theorem ze5 (key:ByteArray) (o:List (ByteArray×V)):weightO (otherF key o)<=weightO o/\((∃f ∈ o,f.1=key)->weightO (otherF key o)+key.size<=weightO o):=by
 induction o with
 |nil=>exact ⟨Nat.le_refl _,fun ⟨_,h,_⟩=>by cases h⟩
 | cons a r ih=>
   unfold otherF at ih ⊢
   rw [List.filter_cons]
   by_cases h:a.1.toList=key.toList
   .rw [if_neg (by simp [h])]
    have he:a.1=key:=by
     have h2:=congrArg List.toArray h
     rw [ByteArray.toList_eq,ByteArray.toList_eq] at h2
     exact ByteArray.ext (by simpa using h2)
    simp only [weightO,Yg,he]
    exact ⟨by omega,fun _=>by omega⟩
   .rw [if_pos (by simp [h])]
    simp only [weightO]
    refine ⟨by omega,fun ⟨f,hf,e⟩=> ?_⟩
    rcases List.mem_cons.1 hf with rfl|hf
    .exact absurd (by rw [e]) h
    .have:=ih.2 ⟨f,hf,e⟩;omega
def owed (key:ByteArray) (v:V) (d:Bool):Nat:=cond d 0 (key.size+v.weight)
theorem zjt (key:ByteArray) (v:V):∀(o acc:List (ByteArray×V)) (d:Bool),weightO (o.foldl (fldStep key v) (acc,d)).1+owed key v (o.foldl (fldStep key v) (acc,d)).2<=weightO acc+weightO (otherF key o)+owed key v d:=by
 intro o
 induction o with
 |nil=>intro acc d;exact Nat.le_refl _
 | cons a r ih=>
   intro acc d
   have o1:owed key v true=0:=rfl
   have o2:owed key v false=key.size+v.weight:=rfl
   have w0:weightO ([] :List (ByteArray×V))=0:=rfl
   rw [List.foldl_cons]
   by_cases h:a.1.toList=key.toList
   .have ho:otherF key (a::r)=otherF key r:=by rw [otherF,List.filter_cons,if_neg (by simp [h])];rfl
    rw [ho]
    by_cases h1:d=false/\Op.bytesLess a.1.toList key.toList=false
    .have e:fldStep key v (acc,d) a=(acc++ [(key,v)],true):=by rw [fldStep,if_pos h1,if_pos h]
     rw [e]
     have:=ih (acc++ [(key,v)]) true
     rw [Y2] at this
     simp only [weightO,Yg] at this
     rw [h1.1]
     omega
    .have e:fldStep key v (acc,d) a=(acc,d):=by rw [fldStep,if_neg h1,if_pos h]
     rw [e]
     exact ih acc d
   .have ho:otherF key (a::r)=a::otherF key r:=by rw [otherF,List.filter_cons,if_pos (by simp [h])];rfl
    rw [ho]
    by_cases h1:d=false/\Op.bytesLess a.1.toList key.toList=false
    .have e:fldStep key v (acc,d) a=(acc++ [(key,v)] ++ [a],true):=by rw [fldStep,if_pos h1,if_neg h]
     rw [e]
     have:=ih (acc++ [(key,v)] ++ [a]) true
     rw [Y2,Y2] at this
     simp only [weightO,Yg] at this ⊢
     rw [h1.1]
     omega
    .have e:fldStep key v (acc,d) a=(acc++ [a],d):=by rw [fldStep,if_neg h1,if_neg h]
     rw [e]
     have:=ih (acc++ [a]) d
     rw [Y2] at this
     simp only [weightO] at this ⊢
     omega
theorem zkg (o:List (ByteArray×V)) (key:ByteArray) (v:V) (del:Bool) (K:Nat) (hK:key.size<=K∨∃f ∈ o,f.1=key):weightO (fieldsDo o key v del)<=weightO o+v.weight+K:=by
 have h:=zjt key v o [] del
 have h2:=ze5 key o
 have w0:weightO ([] :List (ByteArray×V))=0:=rfl
 have hd:owed key v del<=key.size+v.weight:=by cases del<;>simp [owed]
 have h3:weightO (fieldsDo o key v del)<=weightO (otherF key o)+(key.size+v.weight):=by
  unfold fieldsDo
  split
  .rename_i hf
   rw [hf] at h
   have o2:owed key v false=key.size+v.weight:=rfl
   rw [Y2]
   simp only [weightO,Yg] at h ⊢
   omega
  .omega
 rcases hK with hK|hK
 .omega
 .have:=h2.2 hK;omega
theorem zbn (l:List V) (i:Nat) (v:V):weightL (insL l i v)=weightL l+v.weight:=by
 rw [insL,Xo]
 have h:=Xo (l.take i) (l.drop i)
 rw [List.take_append_drop] at h
 simp only [weightL];omega
theorem zbg (l:List V) (i:Nat):weightL (remL l i)<=weightL l/\(i<l.length->weightL (remL l i)+(l.getD i V.none).weight<=weightL l):=by
 rw [remL,Xo]
 have h:=Xo (l.take i) (l.drop i)
 rw [List.take_append_drop] at h
 by_cases hi:i<l.length
 .rw [List.drop_eq_getElem_cons hi] at h
  simp only [weightL] at h
  have e:l.getD i V.none=l[i] :=by simp [List.getD_eq_getElem?_getD,hi]
  rw [e]
  exact ⟨by omega,fun _=>by omega⟩
 .rw [List.drop_eq_nil_of_le (by omega)] at h ⊢
  exact ⟨by omega,fun h=>absurd h hi⟩
theorem ziq (l:List V) (k i j:Int) (v:V) (hm:(k≠4/\k≠5/\k≠6)->i.toNat<l.length):weightL (listDo l k i j v)<=weightL l+v.weight:=by
 unfold listDo
 split
 .rw [zbn];exact Nat.le_refl _
 .split
  .have:=(zbg l i.toNat).1;omega
  .split
   .by_cases h:i.toNat<l.length
    .have:=zb9 v l i.toNat h;omega
    .rw [List.set_eq_of_length_le (by omega)];omega
   .rw [zbn]
    have:=(zbg l i.toNat).2 (hm ⟨by omega,by omega,by omega⟩);omega
theorem ze0 (f:Nat):∀(i:Nat) (l:List UInt8),(cutsP f i l).Pairwise (· <= ·):=by
 induction f with
 |zero=>intro i l;simp [cutsP]
 | succ f ih=>
   intro i l
   unfold cutsP
   split
   .simp
   .refine List.pairwise_cons.2 ⟨fun x hx=> ?_,ih _ _⟩
    have:=(Kx _ _ _ x hx).1;omega
theorem zeu (s:ByteArray) {i j:Nat} (hij:i<=j) (hj:j<(cuts s).length):(cuts s).getD i 0<=(cuts s).getD j 0:=by
 have hp:(cuts s).Pairwise (· <= ·):=by
  unfold cuts
  refine List.pairwise_append.2 ⟨ze0 _ _ _,by simp,fun x hx y hy=> ?_⟩
  have:=(Kx _ _ _ x hx).2
  have e:s.data.toList.length=s.size:=Array.length_toList
  rw [List.mem_singleton.1 hy];omega
 have hi:i<(cuts s).length:=by omega
 simp only [List.getD_eq_getElem?_getD,List.getElem?_eq_getElem hi,List.getElem?_eq_getElem hj,Option.getD_some]
 by_cases e:i=j
 .subst e;exact Nat.le_refl _
 .exact List.pairwise_iff_getElem.1 hp i j hi hj (by omega)
theorem zjc {s:ByteArray} {k i n:Int} {cs:ByteArray} (h:tCheck s k i n=0):(textDo s k i n cs).size<=s.size+cs.size:=by
 obtain ⟨hk,h0,h1⟩:=Kv h
 unfold textDo
 split
 .rw [ByteArray.size_append,ByteArray.size_append,ByteArray.size_extract,ByteArray.size_extract];omega
 .rename_i hne
  have hl:=Xl s
  have ht:textN s=(cuts s).length - 1:=rfl
  have hup:=zeu s (i:=i.toNat) (j:=(i+n).toNat) (by omega) (by omega)
  rw [ByteArray.size_append,ByteArray.size_extract,ByteArray.size_extract];omega
structure FXB (w W:World) (c:CC) (a:AC) (x:VC):Prop where
 c:BC W w.heap.size (ccells c)
 a:BC W (w.heap.size+1) (acells a)
 x:BC W (w.heap.size+1+1) (vcells x)
 r:BC W (w.heap.size+1+1+1) (ccells czero)
 below:Below w.heap.size w W
theorem FXB.start (w:World) (c:CC) (a:AC) (x:VC) (t1 t2 t3 t4:TypeId):FXB w ((((w.alloc (.cells #[.int .u8 c.k, .slice c.pa c.pl c.pc, .string c.key, .int .i64 c.i, .int .i64 c.j, .int .i64 c.n, .int .u8 c.v.k, .int .i64 c.v.n, .string c.v.s, .slice c.v.la c.v.ll c.v.lc, .slice c.v.oa c.v.ol c.v.oc, .string c.s] t1)).alloc (.cells #[.slice a.pa a.pl a.pc, .int .u8 a.k, .int .i64 a.i, .int .i64 a.j, .int .i64 a.n, .string a.s, .slice a.va a.vl a.vc] t2)).alloc (.cells #[.int .u8 x.k, .int .i64 x.n, .string x.s, .slice x.la x.ll x.lc, .slice x.oa x.ol x.oc] t3)).alloc (.cells #[.int .u8 0, .slice none 0 0, .string { data:= #[] }, .int .i64 0, .int .i64 0, .int .i64 0, .int .u8 0, .int .i64 0, .string { data:= #[] }, .slice none 0 0, .slice none 0 0, .string { data:= #[] }] t4)) c a x:=by
 obtain ⟨w1,hw1⟩:∃w1,w.alloc (.cells (uC c) t1)=w1:=⟨_,rfl⟩
 have s1:w1.heap.size=w.heap.size+1:=by rw [<-hw1,World.size_alloc]
 have b1:uB w w1:=by rw [<-hw1];exact (Below.refl _ _).alloc (Nat.le_refl _) _
 have c1:BC w1 w.heap.size (ccells c):=by rw [<-hw1];exact BC.start w (uC c) t1
 rw [hw1]
 obtain ⟨w2,hw2⟩:∃w2,w1.alloc (.cells (uA a) t2)=w2:=⟨_,rfl⟩
 have s2:w2.heap.size=w.heap.size+1+1:=by rw [<-hw2,World.size_alloc,s1]
 have b2:uB w1 w2:=by rw [<-hw2];exact (Below.refl _ _).alloc (Nat.le_refl _) _
 have c2:=BC.start w1 (uA a) t2
 rw [hw2,s1] at c2
 rw [hw2]
 obtain ⟨w3,hw3⟩:∃w3,w2.alloc (.cells (uV x) t3)=w3:=⟨_,rfl⟩
 have s3:w3.heap.size=w.heap.size+1+1+1:=by rw [<-hw3,World.size_alloc,s2]
 have b3:uB w2 w3:=by rw [<-hw3];exact (Below.refl _ _).alloc (Nat.le_refl _) _
 have c3:=BC.start w2 (uV x) t3
 rw [hw3,s2] at c3
 rw [hw3]
 have b4:uB w3 (w3.alloc (.cells #[.int .u8 0, .slice none 0 0, .string { data:= #[] }, .int .i64 0, .int .i64 0, .int .i64 0, .int .u8 0, .int .i64 0, .string { data:= #[] }, .slice none 0 0, .slice none 0 0, .string { data:= #[] }] t4)):=(Below.refl _ _).alloc (Nat.le_refl _) _
 have c4:=BC.start w3 #[.int .u8 0, .slice none 0 0, .string { data:= #[] }, .int .i64 0, .int .i64 0, .int .i64 0, .int .u8 0, .int .i64 0, .string { data:= #[] }, .slice none 0 0, .slice none 0 0, .string { data:= #[] }] t4
 rw [s3] at c4
 exact ⟨((c1.keep b2 (by omega)).keep b3 (by omega)).keep b4 (by omega),(c2.keep b3 (by omega)).keep b4 (by omega),c3.keep b4 (by omega),c4,((b1.trans (b2.mono (by omega))).trans (b3.mono (by omega))).trans (b4.mono (by omega))⟩
theorem FXB.next {w W W':World} {c:CC} {a:AC} {x:VC} {B:Nat} (h:FXB w W c a x) (hb:Below B W W') (hB:w.heap.size+4<=B):FXB w W' c a x:=
 ⟨h.c.keep hb (by omega),h.a.keep hb (by omega),h.x.keep hb (by omega),h.r.keep hb (by omega),h.below.trans (hb.mono (by omega))⟩
theorem FXB.key {w W:World} {c:CC} {a:AC} {x:VC} (h:FXB w W c a x) (s:ByteArray):FXB w (W.setCell ⟨w.heap.size,2,none⟩ (.string s)) { c with key:=s } a x:=
 ⟨h.c.set (i:=2) (x:= .string s) (by simp [ccells]),h.a.far (by omega),h.x.far (by omega),h.r.far (by omega),h.below.set_ (Nat.le_refl _)⟩
theorem FXB.facts {w W:World} {c:CC} {a:AC} {x:VC} (B:FXB w W c a x):W.cell? ⟨w.heap.size,0,none⟩=some (.int .u8 c.k)/\W.cell? ⟨w.heap.size,1,none⟩=some (.slice c.pa c.pl c.pc)/\W.cell? ⟨w.heap.size,2,none⟩=some (.string c.key)/\W.cell? ⟨w.heap.size,3,none⟩=some (.int .i64 c.i)/\W.cell? ⟨w.heap.size,4,none⟩=some (.int .i64 c.j)/\W.cell? ⟨w.heap.size,5,none⟩=some (.int .i64 c.n)/\W.cell? ⟨w.heap.size,6,none⟩=some (.int .u8 c.v.k)/\W.cell? ⟨w.heap.size,7,none⟩=some (.int .i64 c.v.n)/\W.cell? ⟨w.heap.size,8,none⟩=some (.string c.v.s)/\W.cell? ⟨w.heap.size,9,none⟩=some (.slice c.v.la c.v.ll c.v.lc)/\W.cell? ⟨w.heap.size,10,none⟩=some (.slice c.v.oa c.v.ol c.v.oc)/\W.cell? ⟨w.heap.size,11,none⟩=some (.string c.s)/\W.cell? ⟨w.heap.size+1,0,none⟩=some (.slice a.pa a.pl a.pc)/\W.cell? ⟨w.heap.size+1,1,none⟩=some (.int .u8 a.k)/\W.cell? ⟨w.heap.size+1,2,none⟩=some (.int .i64 a.i)/\W.cell? ⟨w.heap.size+1,3,none⟩=some (.int .i64 a.j)/\W.cell? ⟨w.heap.size+1,4,none⟩=some (.int .i64 a.n)/\W.cell? ⟨w.heap.size+1,5,none⟩=some (.string a.s)/\W.cell? ⟨w.heap.size+1,6,none⟩=some (.slice a.va a.vl a.vc)/\W.cell? ⟨w.heap.size+1+1,0,none⟩=some (.int .u8 x.k)/\W.cell? ⟨w.heap.size+1+1,1,none⟩=some (.int .i64 x.n)/\W.cell? ⟨w.heap.size+1+1,2,none⟩=some (.string x.s)/\W.cell? ⟨w.heap.size+1+1,3,none⟩=some (.slice x.la x.ll x.lc)/\W.cell? ⟨w.heap.size+1+1,4,none⟩=some (.slice x.oa x.ol x.oc)/\W.cell? ⟨w.heap.size+1+1+1,0,none⟩=some (.int .u8 0)/\W.cell? ⟨w.heap.size+1+1+1,1,none⟩=some (.slice none 0 0)/\W.cell? ⟨w.heap.size+1+1+1,2,none⟩=some (.string { data:= #[] })/\W.cell? ⟨w.heap.size+1+1+1,3,none⟩=some (.int .i64 0)/\W.cell? ⟨w.heap.size+1+1+1,4,none⟩=some (.int .i64 0)/\W.cell? ⟨w.heap.size+1+1+1,5,none⟩=some (.int .i64 0)/\W.cell? ⟨w.heap.size+1+1+1,6,none⟩=some (.int .u8 0)/\W.cell? ⟨w.heap.size+1+1+1,7,none⟩=some (.int .i64 0)/\W.cell? ⟨w.heap.size+1+1+1,8,none⟩=some (.string { data:= #[] })/\W.cell? ⟨w.heap.size+1+1+1,9,none⟩=some (.slice none 0 0)/\W.cell? ⟨w.heap.size+1+1+1,10,none⟩=some (.slice none 0 0)/\W.cell? ⟨w.heap.size+1+1+1,11,none⟩=some (.string { data:= #[] })/\W.frozen? ⟨w.heap.size,0,none⟩=false/\W.frozen? ⟨w.heap.size,1,none⟩=false/\W.frozen? ⟨w.heap.size,2,none⟩=false/\W.frozen? ⟨w.heap.size,3,none⟩=false/\W.frozen? ⟨w.heap.size,4,none⟩=false/\W.frozen? ⟨w.heap.size,5,none⟩=false/\W.frozen? ⟨w.heap.size,6,none⟩=false/\W.frozen? ⟨w.heap.size,7,none⟩=false/\W.frozen? ⟨w.heap.size,8,none⟩=false/\W.frozen? ⟨w.heap.size,9,none⟩=false/\W.frozen? ⟨w.heap.size,10,none⟩=false/\W.frozen? ⟨w.heap.size,11,none⟩=false/\W.frozen? ⟨w.heap.size+1+1+1,0,none⟩=false/\W.frozen? ⟨w.heap.size+1+1+1,1,none⟩=false/\W.frozen? ⟨w.heap.size+1+1+1,2,none⟩=false/\W.frozen? ⟨w.heap.size+1+1+1,3,none⟩=false/\W.frozen? ⟨w.heap.size+1+1+1,4,none⟩=false/\W.frozen? ⟨w.heap.size+1+1+1,5,none⟩=false/\W.frozen? ⟨w.heap.size+1+1+1,6,none⟩=false/\W.frozen? ⟨w.heap.size+1+1+1,7,none⟩=false/\W.frozen? ⟨w.heap.size+1+1+1,8,none⟩=false/\W.frozen? ⟨w.heap.size+1+1+1,9,none⟩=false/\W.frozen? ⟨w.heap.size+1+1+1,10,none⟩=false/\W.frozen? ⟨w.heap.size+1+1+1,11,none⟩=false/\w.heap.size<W.heap.size/\w.heap.size+1<W.heap.size/\w.heap.size+1+1<W.heap.size/\w.heap.size+1+1+1<W.heap.size:=
 ⟨B.c.at_ 0 _ rfl,B.c.at_ 1 _ rfl,B.c.at_ 2 _ rfl,B.c.at_ 3 _ rfl,B.c.at_ 4 _ rfl,B.c.at_ 5 _ rfl,B.c.at_ 6 _ rfl,B.c.at_ 7 _ rfl,B.c.at_ 8 _ rfl,B.c.at_ 9 _ rfl,B.c.at_ 10 _ rfl,B.c.at_ 11 _ rfl,B.a.at_ 0 _ rfl,B.a.at_ 1 _ rfl,B.a.at_ 2 _ rfl,B.a.at_ 3 _ rfl,B.a.at_ 4 _ rfl,B.a.at_ 5 _ rfl,B.a.at_ 6 _ rfl,B.x.at_ 0 _ rfl,B.x.at_ 1 _ rfl,B.x.at_ 2 _ rfl,B.x.at_ 3 _ rfl,B.x.at_ 4 _ rfl,B.r.at_ 0 _ rfl,B.r.at_ 1 _ rfl,B.r.at_ 2 _ rfl,B.r.at_ 3 _ rfl,B.r.at_ 4 _ rfl,B.r.at_ 5 _ rfl,B.r.at_ 6 _ rfl,B.r.at_ 7 _ rfl,B.r.at_ 8 _ rfl,B.r.at_ 9 _ rfl,B.r.at_ 10 _ rfl,B.r.at_ 11 _ rfl,B.c.fr 0,B.c.fr 1,B.c.fr 2,B.c.fr 3,B.c.fr 4,B.c.fr 5,B.c.fr 6,B.c.fr 7,B.c.fr 8,B.c.fr 9,B.c.fr 10,B.c.fr 11,B.r.fr 0,B.r.fr 1,B.r.fr 2,B.r.fr 3,B.r.fr 4,B.r.fr 5,B.r.fr 6,B.r.fr 7,B.r.fr 8,B.r.fr 9,B.r.fr 10,B.r.fr 11,B.c.lt,B.a.lt,B.x.lt,B.r.lt⟩
set_option maxRecDepth 100000 in
theorem zee (w:World) (vk vn:Int) (vs:ByteArray) (la:Option Addr) (ll lc:Nat) (oa:Option Addr) (ol oc:Nat) (v:V) (hv:IsVal w w.heap.size v ⟨vk,vn,vs,la,ll,lc,oa,ol,oc⟩) (hw:v.weight<=100000000) (p:List St) (xv:V) (cc:CC) (hcb:cc.Bnd) (hp:IsSteps w w.heap.size p cc.pa cc.pl cc.pc) (hxv:IsVal w w.heap.size xv cc.v) (hxw:xv.weight<=4611686018427387904) (hT:Tabs w) (he:checkP v ⟨cc.k,p,cc.key,cc.i,cc.j,cc.n,xv,cc.s⟩=0) (hk:cc.k=2∨cc.k=3):
 uP 33 #[.agg #[.int .u8 vk, .int .i64 vn, .string vs, .slice la ll lc, .slice oa ol oc], .agg #[.int .u8 cc.k, .slice cc.pa cc.pl cc.pc, .string cc.key, .int .i64 cc.i, .int .i64 cc.j, .int .i64 cc.n, .int .u8 cc.v.k, .int .i64 cc.v.n, .string cc.v.s, .slice cc.v.la cc.v.ll cc.v.lc, .slice cc.v.oa cc.v.ol cc.v.oc, .string cc.s]] w (DoPost w (doP v ⟨cc.k,p,cc.key,cc.i,cc.j,cc.n,xv,cc.s⟩)):=by
 delta uP
 obtain ⟨_,x,hg,hkd⟩:=Yl he
 dsimp only at hg hkd
 have hxw2:=Z6 p hg
 have HCK:Hid (∀W,uB w W->uP 62 #[.agg #[.int .u8 vk, .int .i64 vn, .string vs, .slice la ll lc, .slice oa ol oc], .agg #[.int .u8 cc.k, .slice cc.pa cc.pl cc.pc, .string cc.key, .int .i64 cc.i, .int .i64 cc.j, .int .i64 cc.n, .int .u8 cc.v.k, .int .i64 cc.v.n, .string cc.v.s, .slice cc.v.la cc.v.ll cc.v.lc, .slice cc.v.oa cc.v.ol cc.v.oc, .string cc.s]] W fun e w'=>e= .returned (.int .i64 0)/\uB W w'):=fun W hW=>by
  have:=Qq W vk vn vs la ll lc oa ol oc v (hv.later_ hW) (by omega) p xv cc hcb (hp.later_ hW) (hxv.later_ hW) (by omega) (hT.below hW)
  rw [he] at this;exact this
 have HGT:Hid (∀W,uB w W->uP 58 #[.agg #[.int .u8 vk, .int .i64 vn, .string vs, .slice la ll lc, .slice oa ol oc], .slice cc.pa cc.pl cc.pc] W (GetPost W (some x))):=fun W hW=>by rw [<-hg];exact Xt W vk vn vs la ll lc oa ol oc v (hv.later_ hW) p cc.pa cc.pl cc.pc (hp.later_ hW)
 have HPT:Hid (∀(W:World) (y:V) (k n:Int) (s:ByteArray) (a:Option Addr) (m c:Nat) (a':Option Addr) (m' c':Nat),uB w W->IsVal W W.heap.size y ⟨k,n,s,a,m,c,a',m',c'⟩->uP 66 #[.agg #[.int .u8 vk, .int .i64 vn, .string vs, .slice la ll lc, .slice oa ol oc], .slice cc.pa cc.pl cc.pc, .agg #[.int .u8 k, .int .i64 n, .string s, .slice a m c, .slice a' m' c']] W (GetPost W (putP v p y))):=fun W y k n s a m c a' m' c' hW hy=>Jp y k n s a m c a' m' c' p W vk vn vs la ll lc oa ol oc v (hv.later_ hW) cc.pa cc.pl cc.pc (hp.later_ hW) hy
 have hdo:doP v ⟨cc.k,p,cc.key,cc.i,cc.j,cc.n,xv,cc.s⟩=doneQ (putP v p (doneP x ⟨cc.k,p,cc.key,cc.i,cc.j,cc.n,xv,cc.s⟩)):=Ym he hg
 rw [hdo]
 have HB:=qh (DB.start w ⟨vk,vn,vs,la,ll,lc,oa,ol,oc⟩ cc 29 54 29)
 have HTT:=qh hT
 have HXV:=qh hxv
 have HCB:=qh hcb
 have HKD:=qh hkd
 have hsw:=x.str_weight
 obtain ⟨kx,nx,sx,lx,ox,rfl⟩:=x.eta
 dsimp only [V.str,V.ls,V.os] at hsw
 obtain ⟨Y,hY⟩:∃Y,doneP (.mk kx nx sx lx ox) ⟨cc.k,p,cc.key,cc.i,cc.j,cc.n,xv,cc.s⟩=Y:=⟨_,rfl⟩
 rw [hY]
 obtain ⟨z,hPR⟩:=Y6 p hg Y
 rw [hPR,Y4]
 have HY:=qh hY
 have HPR:=qh hPR
 clear hv hp hxv hT hcb hdo hY hPR he hg hkd
 rcases hk with hk|hk
 all_goals
  have HK:=qh hk
  clear hk
  go_enter Tryz.func33,Tryz.ntmps33
  generalize hQ0:bodyPost _ _ _=Q0
  have HQ:=qh hQ0
  clear hQ0
  go_wp2_with fail
  refine (HCK.out _ HB.out.below).mono ?_
  rintro e W ⟨rfl,hb1⟩
  have B:=HB.out.next hb1 (by simp)
  obtain ⟨v0,v1,v2,v3,v4⟩:=row5 B.v.at_
  obtain ⟨b0,b1,b2,b3,b4,b5,b6,b7,b8,b9,b10,b11⟩:=row12 B.c.at_
  obtain ⟨r0,r1,r2,r3,r4⟩:=row5 B.r.at_
  have f0:=B.r.fr 0;have f1:=B.r.fr 1;have f2:=B.r.fr 2;have f3:=B.r.fr 3;have f4:=B.r.fr 4
  have z0:=B.v.lt;have z1:=B.c.lt;have z2:=B.r.lt
  have HBW:=qh B
  clear B hb1
  go_wp2_with fail
  refine (HGT.out _ HBW.out.below).mono ?_
  rintro e W2 ⟨⟨d,rfl,hI⟩,hb2⟩
  have B2:=HBW.out.next hb2 (Nat.succ_le_of_lt z2)
  obtain ⟨e1,e2,e3,hbd,hl,ho⟩:=hI.lists
  subst e1 e2 e3
  clear v0 v1 v2 v3 v4 r0 r1 r2 r3 r4 f0 f1 f2 f3 f4 b0 b1 b2 b3 b4 b5 b6 b7 b8 b9 b10 b11
  obtain ⟨v0,v1,v2,v3,v4⟩:=row5 B2.v.at_
  obtain ⟨b0,b1,b2,b3,b4,b5,b6,b7,b8,b9,b10,b11⟩:=row12 B2.c.at_
  obtain ⟨r0,r1,r2,r3,r4⟩:=row5 B2.r.at_
  have f0:=B2.r.fr 0;have f1:=B2.r.fr 1;have f2:=B2.r.fr 2;have f3:=B2.r.fr 3;have f4:=B2.r.fr 4
  have z0:=B2.v.lt;have z1:=B2.c.lt;have z2:=B2.r.lt
  have zW:=HBW.out.below.size
  have zW2:=hb2.size
  have z22:=B2.r.lt
  have HB2:=qh B2
  have HI:=qh hI
  have HBD:=qh hbd
  have HL:=qh hl
  have HO:=qh ho
  have HAL:=qh (((Below.refl _ _).alloc (Nat.le_refl _) (.cells #[.int .u8 d.k, .int .i64 d.n, .string d.s, .slice d.la d.ll d.lc, .slice d.oa d.ol d.oc] 29)):uB W2 _)
  clear B2 hI hbd hl ho hb2
  rw [HK.out] at b0
  have HFL:Hid (uP 63 #[.slice d.oa d.ol d.oc, .agg #[.int .u8 cc.k, .slice cc.pa cc.pl cc.pc, .string cc.key, .int .i64 cc.i, .int .i64 cc.j, .int .i64 cc.n, .int .u8 cc.v.k, .int .i64 cc.v.n, .string cc.v.s, .slice cc.v.la cc.v.ll cc.v.lc, .slice cc.v.oa cc.v.ol cc.v.oc, .string cc.s]] (W2.alloc (.cells #[.int .u8 d.k, .int .i64 d.n, .string d.s, .slice d.la d.ll d.lc, .slice d.oa d.ol d.oc] 29)) (FieldsPost (W2.alloc (.cells #[.int .u8 d.k, .int .i64 d.n, .string d.s, .slice d.la d.ll d.lc, .slice d.oa d.ol d.oc] 29)) (fun k=>W.heap.size<=k/\k≠W2.heap.size) (fieldsDo ox cc.key xv (cc.k==3)))):=by
   have hb3:=HB2.out.below.trans (HAL.out.mono HB2.out.below.size)
   refine zjg (W2.alloc (.cells #[.int .u8 d.k, .int .i64 d.n, .string d.s, .slice d.la d.ll d.lc, .slice d.oa d.ol d.oc] 29)) (fun k=>W.heap.size<=k/\k≠W2.heap.size) (fun k hk=>by rw [World.size_alloc] at hk;omega) ox d.oa d.ol d.oc ?_ cc xv (HXV.out.later_ hb3) HCB.out.key1 (by have:=HO.out.len;omega)
   exact (IsFields.sub (Ze fun k hk hl=>⟨⟨hk,by omega⟩,HAL.out.block k hl⟩) HO.out).more HAL.out.size
  rw [HK.out] at HFL
  go_wp2_with fail
  refine HFL.out.mono ?_
  rintro e w4 ⟨⟨a4,n4,c4,rfl,hI4⟩,hb4⟩
  have hbw4:uB W2 w4:=HAL.out.trans (hb4.mono (by simp))
  have B4:=HB2.out.next hbw4 (Nat.succ_le_of_lt z2)
  have X4:BC w4 W2.heap.size (vcells d):=(BC.start W2 #[.int .u8 d.k, .int .i64 d.n, .string d.s, .slice d.la d.ll d.lc, .slice d.oa d.ol d.oc] 29).keep hb4 (by simp)
  obtain ⟨x0,x1,x2,x3,x4⟩:=row5 X4.at_
  have xf0:=X4.fr 2;have xf1:=X4.fr 3;have xf2:=X4.fr 4
  have xlt:=X4.lt
  clear v0 v1 v2 v3 v4 r0 r1 r2 r3 r4 f0 f1 f2 f3 f4 b0 b1 b2 b3 b4 b5 b6 b7 b8 b9 b10 b11
  obtain ⟨v0,v1,v2,v3,v4⟩:=row5 B4.v.at_
  obtain ⟨b0,b1,b2,b3,b4,b5,b6,b7,b8,b9,b10,b11⟩:=row12 B4.c.at_
  obtain ⟨r0,r1,r2,r3,r4⟩:=row5 B4.r.at_
  have f0:=B4.r.fr 0;have f1:=B4.r.fr 1;have f2:=B4.r.fr 2;have f3:=B4.r.fr 3;have f4:=B4.r.fr 4
  have z0:=B4.v.lt;have z1:=B4.c.lt;have z2:=B4.r.lt
  have HBW4:=qh hbw4
  clear B4 X4 hb4 hbw4
  have HI4:=qh hI4
  clear hI4
  go_wp2_with fail
  have hbl4:uB W2 (w4.setCell ⟨W2.heap.size,4,none⟩ (.slice a4 n4 c4)):=HBW4.out.set_ (Nat.le_refl _)
  have hx4:=(HI.out.sub (Zl _ _ _)).later_ hbl4
  obtain ⟨_,_,_,_,hl4,ho4⟩:=hx4.lists
  have HB4:=qh (HB2.out.next hbl4 (Nat.succ_le_of_lt z22))
  have HCALL:Hid (uP 66 #[.agg #[.int .u8 vk, .int .i64 vn, .string vs, .slice la ll lc, .slice oa ol oc], .slice cc.pa cc.pl cc.pc, .agg #[.int .u8 d.k, .int .i64 d.n, .string d.s, .slice d.la d.ll d.lc, .slice a4 n4 c4]] (w4.setCell ⟨W2.heap.size,4,none⟩ (.slice a4 n4 c4)) (GetPost (w4.setCell ⟨W2.heap.size,4,none⟩ (.slice a4 n4 c4)) (some z))):=by
   have:=HPT.out (w4.setCell ⟨W2.heap.size,4,none⟩ (.slice a4 n4 c4)) Y d.k d.n d.s d.la d.ll d.lc a4 n4 c4 HB4.out.below (by
    have hYe:Y= .mk d.k d.n d.s lx (fieldsDo ox cc.key xv (cc.k==3)):=by
     rw [<-HY.out,doneP,if_neg (by have:=HK.out;dsimp only;omega),if_pos (by have:=HK.out;dsimp only;omega)];rfl
    have hst:RStep w4 (w4.setCell ⟨W2.heap.size,4,none⟩ (.slice a4 n4 c4)) W2.heap.size:=RStep.self
    rw [hYe,HK.out]
    exact Xh HBD.out.k0 HBD.out.k1 HBD.out.n0 HBD.out.n1 HBD.out.s1 hl4 ((IsFields.sub (fun b o u hb h=>by
     obtain ⟨hs,hc⟩:=Z1 h
     exact hst.cell hc hs.2) HI4.out).more hst.size))
   rw [HPR.out] at this;exact this
  clear hx4 hl4 ho4
  refine HCALL.out.mono ?_
  rintro e W6 ⟨⟨d6,rfl,hz⟩,hb6⟩
  have B6:=HB4.out.next hb6 (Nat.succ_le_of_lt HB4.out.r.lt)
  clear v0 v1 v2 v3 v4 r0 r1 r2 r3 r4 f0 f1 f2 f3 f4 b0 b1 b2 b3 b4 b5 b6 b7 b8 b9 b10 b11
  obtain ⟨v0,v1,v2,v3,v4⟩:=row5 B6.v.at_
  obtain ⟨b0,b1,b2,b3,b4,b5,b6,b7,b8,b9,b10,b11⟩:=row12 B6.c.at_
  obtain ⟨r0,r1,r2,r3,r4⟩:=row5 B6.r.at_
  have f0:=B6.r.fr 0;have f1:=B6.r.fr 1;have f2:=B6.r.fr 2;have f3:=B6.r.fr 3;have f4:=B6.r.fr 4
  have z0:=B6.v.lt;have z1:=B6.c.lt;have z2:=B6.r.lt
  have HB6:=qh B6
  have hz4:=HB4.out.below.size
  have hz5:=HB4.out.r.lt
  have HZ:=qh hz
  clear B6 hb6 hz
  go_wp2_with fail
  rw [<-HQ.out]
  have ST:=HB6.out.result d6
  have hst:=Zi W6 (w.heap.size+1+1) 0 d6
  exact X9 (r:=(z,0)) ST.1 ((Zm (base:=w.heap.size+1+1+1) (HZ.out.sub (Ze fun k hk _=>⟨Nat.le_trans (Nat.succ_le_of_lt hz5) hk,rfl⟩)) hst (by omega)).sub (Ze fun k hk _=>⟨by omega,rfl⟩)) ST.2 rfl rfl rfl
set_option maxRecDepth 100000 in
theorem zlz (w:World) (vk vn:Int) (vs:ByteArray) (la:Option Addr) (ll lc:Nat) (oa:Option Addr) (ol oc:Nat) (v:V) (hv:IsVal w w.heap.size v ⟨vk,vn,vs,la,ll,lc,oa,ol,oc⟩) (hw:v.weight<=100000000) (p:List St) (xv:V) (cc:CC) (hcb:cc.Bnd) (hp:IsSteps w w.heap.size p cc.pa cc.pl cc.pc) (hxv:IsVal w w.heap.size xv cc.v) (hxw:xv.weight<=4611686018427387904) (hT:Tabs w) (he:checkP v ⟨cc.k,p,cc.key,cc.i,cc.j,cc.n,xv,cc.s⟩=0) (hk:4<=cc.k/\cc.k<=7):
 uP 33 #[.agg (uU vk vn vs la ll lc oa ol oc), .agg (uC cc)] w (DoPost w (doP v ⟨cc.k,p,cc.key,cc.i,cc.j,cc.n,xv,cc.s⟩)):=by
 delta uU uC uP
 obtain ⟨_,x,hg,hkd⟩:=Yl he
 dsimp only at hg hkd
 have hxw2:=Z6 p hg
 have HCK:Hid (∀W,uB w W->uP 62 #[.agg (uU vk vn vs la ll lc oa ol oc), .agg (uC cc)] W fun e w'=>e= .returned (.int .i64 0)/\uB W w'):=fun W hW=>by
  have:=Qq W vk vn vs la ll lc oa ol oc v (hv.later_ hW) (by omega) p xv cc hcb (hp.later_ hW) (hxv.later_ hW) (by omega) (hT.below hW)
  rw [he] at this;exact this
 have HGT:Hid (∀W,uB w W->uP 58 #[.agg (uU vk vn vs la ll lc oa ol oc), .slice cc.pa cc.pl cc.pc] W (GetPost W (some x))):=fun W hW=>by rw [<-hg];exact Xt W vk vn vs la ll lc oa ol oc v (hv.later_ hW) p cc.pa cc.pl cc.pc (hp.later_ hW)
 have HPT:Hid (∀(W:World) (y:V) (k n:Int) (s:ByteArray) (a:Option Addr) (m c:Nat) (a':Option Addr) (m' c':Nat),uB w W->IsVal W W.heap.size y ⟨k,n,s,a,m,c,a',m',c'⟩->uP 66 #[.agg (uU vk vn vs la ll lc oa ol oc), .slice cc.pa cc.pl cc.pc, .agg (uU k n s a m c a' m' c')] W (GetPost W (putP v p y))):=fun W y k n s a m c a' m' c' hW hy=>Jp y k n s a m c a' m' c' p W vk vn vs la ll lc oa ol oc v (hv.later_ hW) cc.pa cc.pl cc.pc (hp.later_ hW) hy
 have hdo:doP v ⟨cc.k,p,cc.key,cc.i,cc.j,cc.n,xv,cc.s⟩=doneQ (putP v p (doneP x ⟨cc.k,p,cc.key,cc.i,cc.j,cc.n,xv,cc.s⟩)):=Ym he hg
 rw [hdo]
 have HB:=qh (DB.start w ⟨vk,vn,vs,la,ll,lc,oa,ol,oc⟩ cc 29 54 29)
 have HTT:=qh hT
 have HXV:=qh hxv
 have HCB:=qh hcb
 have HKD:=qh hkd
 have hsw:=x.str_weight
 obtain ⟨kx,nx,sx,lx,ox,rfl⟩:=x.eta
 dsimp only [V.str,V.ls,V.os] at hsw
 obtain ⟨Y,hY⟩:∃Y,doneP (.mk kx nx sx lx ox) ⟨cc.k,p,cc.key,cc.i,cc.j,cc.n,xv,cc.s⟩=Y:=⟨_,rfl⟩
 rw [hY]
 obtain ⟨z,hPR⟩:=Y6 p hg Y
 rw [hPR,Y4]
 have HY:=qh hY
 have HPR:=qh hPR
 clear hv hp hxv hT hcb hdo hY hPR he hg hkd
 have HK:=qh hk
 clear hk
 go_enter Tryz.func33,Tryz.ntmps33
 generalize hQ0:bodyPost _ _ _=Q0
 have HQ:=qh hQ0
 clear hQ0
 go_wp2_with fail
 refine (HCK.out _ HB.out.below).mono ?_
 rintro e W ⟨rfl,hb1⟩
 have B:=HB.out.next hb1 (by simp)
 obtain ⟨v0,v1,v2,v3,v4⟩:=row5 B.v.at_
 obtain ⟨b0,b1,b2,b3,b4,b5,b6,b7,b8,b9,b10,b11⟩:=row12 B.c.at_
 obtain ⟨r0,r1,r2,r3,r4⟩:=row5 B.r.at_
 have f0:=B.r.fr 0;have f1:=B.r.fr 1;have f2:=B.r.fr 2;have f3:=B.r.fr 3;have f4:=B.r.fr 4
 have z0:=B.v.lt;have z1:=B.c.lt;have z2:=B.r.lt
 have HBW:=qh B
 clear B hb1
 go_wp2_with fail
 refine (HGT.out _ HBW.out.below).mono ?_
 rintro e W2 ⟨⟨d,rfl,hI⟩,hb2⟩
 have B2:=HBW.out.next hb2 (Nat.succ_le_of_lt z2)
 obtain ⟨e1,e2,e3,hbd,hl,ho⟩:=hI.lists
 subst e1 e2 e3
 clear v0 v1 v2 v3 v4 r0 r1 r2 r3 r4 f0 f1 f2 f3 f4 b0 b1 b2 b3 b4 b5 b6 b7 b8 b9 b10 b11
 obtain ⟨v0,v1,v2,v3,v4⟩:=row5 B2.v.at_
 obtain ⟨b0,b1,b2,b3,b4,b5,b6,b7,b8,b9,b10,b11⟩:=row12 B2.c.at_
 obtain ⟨r0,r1,r2,r3,r4⟩:=row5 B2.r.at_
 have f0:=B2.r.fr 0;have f1:=B2.r.fr 1;have f2:=B2.r.fr 2;have f3:=B2.r.fr 3;have f4:=B2.r.fr 4
 have z0:=B2.v.lt;have z1:=B2.c.lt;have z2:=B2.r.lt
 have zW:=HBW.out.below.size
 have zW2:=hb2.size
 have z22:=B2.r.lt
 have HB2:=qh B2
 have HI:=qh hI
 have HBD:=qh hbd
 have HL:=qh hl
 have HO:=qh ho
 have HAL:=qh (((Below.refl _ _).alloc (Nat.le_refl _) (.cells (uV d) 29)):uB W2 _)
 clear B2 hI hbd hl ho hb2
 have hlc:lCheck d.ll cc.k cc.i cc.j=0:=by
  have hk:=HKD.out
  rw [kindsP,if_neg (by have:=HK.out;omega),if_neg (by have:=HK.out;omega),if_neg (by have:=HK.out;omega)] at hk
  split at hk
  .omega
  .rw [HL.out.len];exact hk
 have g1:(cc.k==1)=false:=by have:=HK.out;simp;omega
 have g2:(cc.k==2)=false:=by have:=HK.out;simp;omega
 have g3:(cc.k==3)=false:=by have:=HK.out;simp;omega
 have g8:(cc.k==8)=false:=by have:=HK.out;simp;omega
 have g9:(cc.k==9)=false:=by have:=HK.out;simp;omega
 have HFL:Hid (uP 65 #[.slice d.la d.ll d.lc, .agg (uC cc)] (W2.alloc (.cells (uV d) 29)) (DoLPost (W2.alloc (.cells (uV d) 29)) (listDo lx cc.k cc.i cc.j xv))):=by
  have hb3:=HB2.out.below.trans (HAL.out.mono HB2.out.below.size)
  have hx3:=((HI.out.sub (Zl _ _ _)).later_ HAL.out).lists
  exact zfm (W2.alloc (.cells (uV d) 29)) lx d.la d.ll d.lc hx3.2.2.2.2.1 (by have:=HL.out.len;omega) cc xv (HXV.out.later_ hb3) hlc
 clear hlc
 go_wp2_with fail
 refine HFL.out.mono ?_
 rintro e w4 ⟨⟨a4,n4,c4,rfl,hI4⟩,hb4⟩
 have hbw4:uB W2 w4:=HAL.out.trans (hb4.mono (by simp))
 have B4:=HB2.out.next hbw4 (Nat.succ_le_of_lt z2)
 have X4:BC w4 W2.heap.size (vcells d):=(BC.start W2 (uV d) 29).keep hb4 (by simp)
 obtain ⟨x0,x1,x2,x3,x4⟩:=row5 X4.at_
 have xf0:=X4.fr 2;have xf1:=X4.fr 3;have xf2:=X4.fr 4
 have xlt:=X4.lt
 clear v0 v1 v2 v3 v4 r0 r1 r2 r3 r4 f0 f1 f2 f3 f4 b0 b1 b2 b3 b4 b5 b6 b7 b8 b9 b10 b11
 obtain ⟨v0,v1,v2,v3,v4⟩:=row5 B4.v.at_
 obtain ⟨b0,b1,b2,b3,b4,b5,b6,b7,b8,b9,b10,b11⟩:=row12 B4.c.at_
 obtain ⟨r0,r1,r2,r3,r4⟩:=row5 B4.r.at_
 have f0:=B4.r.fr 0;have f1:=B4.r.fr 1;have f2:=B4.r.fr 2;have f3:=B4.r.fr 3;have f4:=B4.r.fr 4
 have z0:=B4.v.lt;have z1:=B4.c.lt;have z2:=B4.r.lt
 have HBW4:=qh hbw4
 clear B4 X4 hb4 hbw4
 have HI4:=qh hI4
 clear hI4
 go_wp2_with fail
 have hbl4:uB W2 (w4.setCell ⟨W2.heap.size,3,none⟩ (.slice a4 n4 c4)):=HBW4.out.set_ (Nat.le_refl _)
 have hx4:=(HI.out.sub (Zl _ _ _)).later_ hbl4
 obtain ⟨_,_,_,_,hl4,ho4⟩:=hx4.lists
 have HB4:=qh (HB2.out.next hbl4 (Nat.succ_le_of_lt z22))
 have HCALL:Hid (uP 66 #[.agg (uU vk vn vs la ll lc oa ol oc), .slice cc.pa cc.pl cc.pc, .agg (uU d.k d.n d.s a4 n4 c4 d.oa d.ol d.oc)] (w4.setCell ⟨W2.heap.size,3,none⟩ (.slice a4 n4 c4)) (GetPost (w4.setCell ⟨W2.heap.size,3,none⟩ (.slice a4 n4 c4)) (some z))):=by
  have:=HPT.out (w4.setCell ⟨W2.heap.size,3,none⟩ (.slice a4 n4 c4)) Y d.k d.n d.s a4 n4 c4 d.oa d.ol d.oc HB4.out.below (by
   have hYe:Y= .mk d.k d.n d.s (listDo lx cc.k cc.i cc.j xv) ox:=by
    rw [<-HY.out,doneP,if_neg (by have:=HK.out;dsimp only;omega),if_neg (by have:=HK.out;dsimp only;omega),if_neg (by have:=HK.out;dsimp only;omega)];rfl
   have hst:RStep w4 (w4.setCell ⟨W2.heap.size,3,none⟩ (.slice a4 n4 c4)) W2.heap.size:=RStep.self
   rw [hYe]
   exact Xh HBD.out.k0 HBD.out.k1 HBD.out.n0 HBD.out.n1 HBD.out.s1 ((IsVals.sub (fun b o u hb h=>by
    obtain ⟨hs,hc⟩:=Z1 h
    exact hst.cell hc (by rw [World.size_alloc] at hs;omega)) HI4.out).more hst.size) ho4)
  rw [HPR.out] at this;exact this
 clear hx4 hl4 ho4
 refine HCALL.out.mono ?_
 rintro e W6 ⟨⟨d6,rfl,hz⟩,hb6⟩
 have B6:=HB4.out.next hb6 (Nat.succ_le_of_lt HB4.out.r.lt)
 clear v0 v1 v2 v3 v4 r0 r1 r2 r3 r4 f0 f1 f2 f3 f4 b0 b1 b2 b3 b4 b5 b6 b7 b8 b9 b10 b11
 obtain ⟨v0,v1,v2,v3,v4⟩:=row5 B6.v.at_
 obtain ⟨b0,b1,b2,b3,b4,b5,b6,b7,b8,b9,b10,b11⟩:=row12 B6.c.at_
 obtain ⟨r0,r1,r2,r3,r4⟩:=row5 B6.r.at_
 have f0:=B6.r.fr 0;have f1:=B6.r.fr 1;have f2:=B6.r.fr 2;have f3:=B6.r.fr 3;have f4:=B6.r.fr 4
 have z0:=B6.v.lt;have z1:=B6.c.lt;have z2:=B6.r.lt
 have HB6:=qh B6
 have hz4:=HB4.out.below.size
 have hz5:=HB4.out.r.lt
 have HZ:=qh hz
 clear B6 hb6 hz
 go_wp2_with fail
 rw [<-HQ.out]
 have ST:=HB6.out.result d6
 have hst:=Zi W6 (w.heap.size+1+1) 0 d6
 exact X9 (r:=(z,0)) ST.1 ((Zm (base:=w.heap.size+1+1+1) (HZ.out.sub (Ze fun k hk _=>⟨Nat.le_trans (Nat.succ_le_of_lt hz5) hk,rfl⟩)) hst (by omega)).sub (Ze fun k hk _=>⟨by omega,rfl⟩)) ST.2 rfl rfl rfl
end Go.Proofs.YtbgheehjfnoiiaaGreatDoor
