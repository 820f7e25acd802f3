/-
  Contracts of the functions that the law reaches: What stands at a path apart from one at.
-/
import Derived.Test.YtfoahkbnheijcaaDoorCq36
namespace Go.Proofs.YtfoahkbnheijcaaDoor
open Go.RowKit
theorem zae (o:List (ByteArray×V)) (key:ByteArray):fieldK o key=((o.map Prod.fst).takeWhile fun s=>Op.bytesLess s.toList key.toList).length:=by
 rw [List.takeWhile_map,List.length_map];rfl
theorem zco (o:List (ByteArray×V)) (key:ByteArray):fieldIs o key=match (o.map Prod.fst)[fieldK o key]? with
 |some s=>s.toList==key.toList
 |none=>false:=by
 unfold fieldIs
 rw [List.getElem?_map]
 cases o[fieldK o key]? <;>rfl
theorem zap (o:List (ByteArray×V)) (i:Nat) (z:V):(putO o i z).map Prod.fst=o.map Prod.fst:=by
 unfold putO
 refine List.ext_getElem? fun j=> ?_
 rw [List.getElem?_map,List.getElem?_map]
 by_cases e:i=j
 .subst e
  by_cases hi:i<o.length
  .rw [List.getElem?_set_self hi,List.getD_eq_getElem?_getD,List.getElem?_eq_getElem hi];rfl
  .rw [List.set_eq_of_length_le (by omega)]
 .rw [List.getElem?_set_ne e]
theorem Kn (o:List (ByteArray×V)) (i:Nat) (z:V) (key:ByteArray):fieldK (putO o i z) key=fieldK o key:=by
 rw [zae,zae,zap]
theorem zbq (o:List (ByteArray×V)) (i:Nat) (z:V) (key:ByteArray):fieldIs (putO o i z) key=fieldIs o key:=by
 rw [zco,zco,zap,Kn]
theorem zmz {v:V} {s:St} {y z:V} {k:Nat} (h:stepP v s=some (y,k)):stepP (if s.list=true then v.setL k z else v.setO k z) s=some (z,k):=by
 obtain ⟨kk,n,t,l,o,rfl⟩:=v.eta
 unfold stepP at h ⊢
 by_cases hl:s.list=true
 .rw [if_pos hl] at h
  rw [if_pos hl,if_pos hl]
  by_cases hc:(V.mk kk n t l o).kd=4/\0<=s.i/\s.i<(V.mk kk n t l o).ls.length
  .rw [if_pos hc] at h
   injection h with h
   obtain ⟨_,rfl⟩:=Prod.mk.inj h
   have hc2:s.i<(l.length:Int):=hc.2.2
   have hk:s.i.toNat<l.length:=by omega
   have e:((V.mk kk n t l o).setL s.i.toNat z).ls=l.set s.i.toNat z:=rfl
   rw [e,List.length_set,if_pos ⟨hc.1,hc.2.1,hc2⟩,List.getD_eq_getElem?_getD,List.getElem?_set_self hk];rfl
  .rw [if_neg hc] at h;cases h
 .rw [if_neg hl] at h
  rw [if_neg hl,if_neg hl]
  by_cases hc:(V.mk kk n t l o).kd=5/\fieldIs (V.mk kk n t l o).os s.key=true
  .rw [if_pos hc] at h
   injection h with h
   obtain ⟨_,rfl⟩:=Prod.mk.inj h
   have hf:fieldIs o s.key=true:=hc.2
   have hk:=Yk hf
   have e:((V.mk kk n t l o).setO (fieldK o s.key) z).os=putO o (fieldK o s.key) z:=rfl
   have e2:(V.mk kk n t l o).os=o:=rfl
   rw [e2,e,zbq,Kn,if_pos ⟨hc.1,hf⟩,putO,List.getD_eq_getElem?_getD,List.getElem?_set_self hk];rfl
  .rw [if_neg hc] at h;cases h
def St.neat (s:St):Prop:=(s.list=true->s.key.toList= [])/\(s.list=false->s.i=0)
theorem zaw {o:List (ByteArray×V)} {key:ByteArray} (h:fieldIs o key=true):((o.getD (fieldK o key) (.empty,V.none)).1).toList=key.toList:=by
 have hk:=Yk h
 unfold fieldIs at h
 rw [List.getElem?_eq_getElem hk] at h
 rw [List.getD_eq_getElem?_getD,List.getElem?_eq_getElem hk]
 simpa using h
theorem zck {a b:ByteArray} (h:a.toList=b.toList):a=b:=by
 rw [ByteArray.toList_eq,ByteArray.toList_eq] at h
 cases a;cases b;congr;exact Array.ext' h
theorem zgr {v:V} {s t:St} {x y:V} {k:Nat} (hs:s.neat) (ht:t.neat) (h:stepP v s=some (x,k)) (g:stepP v t=some (y,k)):s=t:=by
 unfold stepP at h g
 by_cases hl:s.list=true
 .rw [if_pos hl] at h
  by_cases hc:v.kd=4/\0<=s.i/\s.i<v.ls.length
  .rw [if_pos hc] at h
   injection h with h
   obtain ⟨_,e1⟩:=Prod.mk.inj h
   by_cases hl2:t.list=true
   .rw [if_pos hl2] at g
    by_cases hc2:v.kd=4/\0<=t.i/\t.i<v.ls.length
    .rw [if_pos hc2] at g
     injection g with g
     obtain ⟨_,e2⟩:=Prod.mk.inj g
     exact St.ext' (by rw [hl,hl2]) (by omega) (zck (by rw [hs.1 hl,ht.1 hl2]))
    .rw [if_neg hc2] at g;cases g
   .rw [if_neg hl2] at g
    by_cases hc2:v.kd=5/\fieldIs v.os t.key=true
    .omega
    .rw [if_neg hc2] at g;cases g
  .rw [if_neg hc] at h;cases h
 .rw [if_neg hl] at h
  by_cases hc:v.kd=5/\fieldIs v.os s.key=true
  .rw [if_pos hc] at h
   injection h with h
   obtain ⟨_,e1⟩:=Prod.mk.inj h
   by_cases hl2:t.list=true
   .rw [if_pos hl2] at g
    by_cases hc2:v.kd=4/\0<=t.i/\t.i<v.ls.length
    .omega
    .rw [if_neg hc2] at g;cases g
   .rw [if_neg hl2] at g
    by_cases hc2:v.kd=5/\fieldIs v.os t.key=true
    .rw [if_pos hc2] at g
     injection g with g
     obtain ⟨_,e2⟩:=Prod.mk.inj g
     have f1:=zaw hc.2
     have f2:=zaw hc2.2
     rw [e1] at f1;rw [e2] at f2
     have hl':s.list=false:=by simpa using hl
     have hl2':t.list=false:=by simpa using hl2
     exact St.ext' (by rw [hl',hl2']) (by rw [hs.2 hl',ht.2 hl2']) (zck (f1.symm.trans f2))
    .rw [if_neg hc2] at g;cases g
  .rw [if_neg hc] at h;cases h
theorem zf9 {v:V} {s t:St} {y x z:V} {k j:Nat} (h:stepP v s=some (y,k)) (g:stepP v t=some (x,j)) (hkj:k≠j):stepP (if s.list=true then v.setL k z else v.setO k z) t=some (x,j):=by
 obtain ⟨kk,n,b,l,o,rfl⟩:=v.eta
 by_cases hl:s.list=true
 .rw [if_pos hl]
  unfold stepP at g ⊢
  by_cases hl2:t.list=true
  .rw [if_pos hl2] at g
   rw [if_pos hl2]
   by_cases hc:(V.mk kk n b l o).kd=4/\0<=t.i/\t.i<(V.mk kk n b l o).ls.length
   .rw [if_pos hc] at g
    injection g with g
    obtain ⟨ex,rfl⟩:=Prod.mk.inj g
    have e:((V.mk kk n b l o).setL k z).ls=l.set k z:=rfl
    have ex:l.getD t.i.toNat V.none=x:=ex
    rw [e,List.length_set,if_pos (show ((V.mk kk n b l o).setL k z).kd=4/\0<=t.i/\t.i<(l.length:Int) from hc),List.getD_eq_getElem?_getD,List.getElem?_set_ne hkj, <-List.getD_eq_getElem?_getD,ex]
   .rw [if_neg hc] at g;cases g
  .rw [if_neg hl2] at g
   rw [if_neg hl2]
   exact g
 .rw [if_neg hl]
  unfold stepP at g ⊢
  by_cases hl2:t.list=true
  .rw [if_pos hl2] at g
   rw [if_pos hl2]
   exact g
  .rw [if_neg hl2] at g
   rw [if_neg hl2]
   by_cases hc:(V.mk kk n b l o).kd=5/\fieldIs (V.mk kk n b l o).os t.key=true
   .rw [if_pos hc] at g
    injection g with g
    obtain ⟨ex,rfl⟩:=Prod.mk.inj g
    have e:((V.mk kk n b l o).setO k z).os=putO o k z:=rfl
    have e2:(V.mk kk n b l o).os=o:=rfl
    rw [e2] at hc hkj ex
    have hkd:((V.mk kk n b l o).setO k z).kd=5:=hc.1
    rw [e2,e,zbq,Kn,if_pos ⟨hkd,hc.2⟩]
    congr 2
    rw [putO,List.getD_eq_getElem?_getD,List.getElem?_set_ne hkj, <-List.getD_eq_getElem?_getD]
    exact ex
   .rw [if_neg hc] at g;cases g
theorem zhj (p:List St):∀ {v y w z:V} {q:List St},(∀s ∈ p,s.neat)->(∀s ∈ q,s.neat)->¬p<+:q->¬q<+:p->getP v q=some z->putP v p y=some w->getP w q=some z:=by
 induction p with
 |nil=>intro v y w z q _ _ h _ _ _;exact absurd (List.nil_prefix) h
 | cons s r ih=>
   intro v y w z q hp hq h1 h2 hg hw
   cases q with
   |nil=>exact absurd (List.nil_prefix) h2
   | cons t q=>
     unfold getP at hg ⊢
     unfold putP at hw
     cases hs:stepP v s with
     |none=>rw [hs] at hw;cases hw
     | some a=>
       obtain ⟨x,k⟩:=a
       rw [hs] at hw
       dsimp only at hw
       cases hx:putP x r y with
       |none=>rw [hx] at hw;cases hw
       | some x'=>
         rw [hx] at hw
         dsimp only at hw
         injection hw with hw
         cases ht:stepP v t with
         |none=>rw [ht] at hg;cases hg
         | some b=>
           obtain ⟨u,j⟩:=b
           rw [ht] at hg
           dsimp only at hg
           by_cases e:k=j
           .subst e
            obtain rfl:=zgr (hp s List.mem_cons_self) (hq t List.mem_cons_self) hs ht
            rw [hs] at ht
            injection ht with ht
            obtain ⟨rfl,_⟩:=Prod.mk.inj ht
            rw [<-hw,zmz hs]
            exact ih (fun s h=>hp s (List.mem_cons_of_mem _ h)) (fun s h=>hq s (List.mem_cons_of_mem _ h)) (fun h=>h1 ((List.prefix_cons_inj _).2 h)) (fun h=>h2 ((List.prefix_cons_inj _).2 h)) hg hx
           .rw [<-hw,zf9 hs ht e]
            exact hg
inductive V.Low:V->Prop
 |mk (k n:Int) (s:ByteArray) (l:List V) (o:List (ByteArray×V)) (hz:s.size<=40) (hs:∀b ∈ s.data.toList,b.toNat<128) (hl:∀x ∈ l,V.Low x) (ho:∀f ∈ o,V.Low f.2):V.Low (.mk k n s l o)
theorem Q9:∀b ∈ ByteArray.empty.data.toList,b.toNat<128:=fun b h=>by cases h
theorem zbs:V.none.Low:= .mk _ _ _ _ _ (by decide) Q9 (fun _ h=>by cases h) (fun _ h=>by cases h)
theorem V.Low.str {v:V} (h:v.Low):∀b ∈ v.str.data.toList,b.toNat<128:=by cases h with|mk k n s l o hz hs hl ho=>exact hs
theorem V.Low.few {v:V} (h:v.Low):v.str.size<=40:=by cases h with|mk k n s l o hz hs hl ho=>exact hz
theorem V.Low.ls {v:V} (h:v.Low):∀x ∈ v.ls,x.Low:=by cases h with|mk k n s l o hz hs hl ho=>exact hl
theorem V.Low.os {v:V} (h:v.Low):∀f ∈ v.os,f.2.Low:=by cases h with|mk k n s l o hz hs hl ho=>exact ho
theorem zbh (s:ByteArray):∀b ∈ (plainS s).data.toList,b.toNat<128:=by
 intro b hb
 have:b ∈ plainL s.data.toList:=by simpa [plainS] using hb
 obtain ⟨c,_,rfl⟩:=List.mem_map.1 this
 exact za8 c
theorem zas (t:Tk):(leafP t).Low:=by
 unfold leafP
 repeat' split
 all_goals first
  |exact .mk _ _ _ _ _ (Yt _) (zbh _) (fun _ h=>by cases h) (fun _ h=>by cases h)
  |exact .mk _ _ _ _ _ (by decide) Q9 (fun _ h=>by cases h) (fun _ h=>by cases h)
theorem zfc {f:List Tk->V×Nat} (hf:∀l,(f l).1.Low) (l:List Tk):∀j,∀x ∈ (bL f l j).1,x.Low:=by
 intro j
 induction j with
 |zero=>intro x h;cases h
 | succ j ih=>
   intro x h
   rw [bL] at h
   rcases List.mem_append.1 h with h|h
   .exact ih x h
   .rw [List.mem_singleton] at h;subst h;exact hf _
theorem zkc {f:List Tk->V×Nat} (hf:∀l,(f l).1.Low) (l:List Tk):∀j,∀x ∈ (bO f l j).1,x.2.Low:=by
 intro j
 induction j with
 |zero=>intro x h;cases h
 | succ j ih=>
   intro x h
   rw [bO] at h
   rcases Kj h with h|h
   .exact ih x h
   .subst h;exact hf _
theorem J9 (d:Nat):∀l,(oneP d l).1.Low:=by
 induction d with
 | zero=>
   intro l
   cases l with
   |nil=>exact zbs
   |cons t r=>exact zas t
 | succ d ih=>
   intro l
   cases l with
   |nil=>exact zbs
   | cons t r=>
     rw [oneP]
     split
     .exact .mk _ _ _ _ _ (by decide) Q9 (zfc ih _ _) (fun _ h=>by cases h)
     .split
      .exact .mk _ _ _ _ _ (by decide) Q9 (fun _ h=>by cases h) (zkc ih _ _)
      .exact zas t
theorem zhe {v:V} {s:St} {x:V} {k:Nat} (hv:v.Low) (h:stepP v s=some (x,k)):x.Low:=by
 rcases Xj h with ⟨_,_,_,hk,rfl⟩|⟨_,_,_,hk,rfl⟩
 .exact hv.ls _ (List.getElem_mem _)
 .exact hv.os _ (List.getElem_mem _)
theorem Qr (p:List St):∀ {v x:V},v.Low->getP v p=some x->x.Low:=by
 induction p with
 |nil=>intro v x hv h;injection h with h;exact h ▸ hv
 | cons s r ih=>
   intro v x hv h
   unfold getP at h
   cases hs:stepP v s with
   |none=>rw [hs] at h;cases h
   | some q=>
     obtain ⟨y,k⟩:=q
     rw [hs] at h
     exact ih (zhe hv hs) h
theorem ziq (f:Nat):∀(i:Nat) (l:List UInt8),l.length<=f->(∀b ∈ l,b.toNat<128)->(cutsP f i l).length=l.length:=by
 induction f with
 |zero=>intro i l hl _;obtain rfl:l= [] :=List.length_eq_zero_iff.1 (by omega);rfl
 | succ f ih=>
   intro i l hl hb
   cases l with
   |nil=>simp [cutsP]
   | cons b t=>
     rw [cutsP,if_neg (by simp),List.length_cons,Lib.decodeL_ascii b t (hb b List.mem_cons_self)]
     show (cutsP f (i+1) t).length+1=_
     rw [ih (i+1) t (by simpa using hl) (fun c hc=>hb c (List.mem_cons_of_mem _ hc)),List.length_cons]
theorem zgf {s:ByteArray} (h:∀b ∈ s.data.toList,b.toNat<128):textN s=s.size:=by
 have:=ziq s.size 0 s.data.toList (by simp) h
 rw [textN,cuts,List.length_append,this]
 simp
theorem zk7 {o:List (ByteArray×V)} (h:rising o=true) {j:Nat} (hj:j<o.length):fieldK o o[j].1=j/\fieldIs o o[j].1=true:=by
 have hg:=Xz.1 h
 have up:∀d i (hi:i+d+1<o.length),Op.bytesLess (o[i]'(by omega)).1.toList (o[i+d+1]'hi).1.toList=true:=by
  intro d
  induction d with
  |zero=>intro i hi;exact hg i _ _ (List.getElem?_eq_getElem (by omega)) (List.getElem?_eq_getElem hi)
  | succ d ih=>
    intro i hi
    exact K1 (ih i (by omega)) (hg (i+d+1) _ _ (List.getElem?_eq_getElem (by omega)) (List.getElem?_eq_getElem hi))
 have hk:fieldK o o[j].1=j:=by
  refine Qw o _ j (fun i hi hij=> ?_) (by omega) (.inr ⟨hj, ?_⟩)
  .obtain ⟨d,rfl⟩:∃d,j=i+d+1:=⟨j - i - 1,by omega⟩
   exact up d i hj
  .cases hb:Op.bytesLess o[j].1.toList o[j].1.toList with
   |false=>rfl
   |true=>exact absurd rfl (Jp _ _ hb).2
 refine ⟨hk, ?_⟩
 unfold fieldIs
 rw [hk,List.getElem?_eq_getElem hj]
 simp
theorem zke {v:V} (hv:v.sound=true) (h:0<v.ls.length):v.kd=4:=by
 obtain ⟨k,n,t,l,o,rfl⟩:=v.eta
 have h1:=(Zs.1 hv).1
 have h:0<l.length:=h
 have hne:l≠ [] :=List.length_pos_iff.1 h
 show k=4
 by_cases e:k=4
 .exact e
 .exfalso
  unfold plainB at h1
  repeat' split at h1
  all_goals first|exact e (by assumption)|(simp at h1;done)|(simp at h1;exact hne (by first|exact h1.1.2|exact h1.2|exact h1.2.1|exact h1.1.2.1))
theorem zk4 {v:V} (hv:v.sound=true) (h:0<v.os.length):v.kd=5:=by
 obtain ⟨k,n,t,l,o,rfl⟩:=v.eta
 have h1:=(Zs.1 hv).1
 have h:0<o.length:=h
 have hne:o≠ [] :=List.length_pos_iff.1 h
 show k=5
 by_cases e:k=5
 .exact e
 .exfalso
  unfold plainB at h1
  repeat' split at h1
  all_goals first|exact e (by assumption)|(simp at h1;done)|(simp at h1;exact hne (by first|exact h1.2|exact h1.1.2|exact h1.2.2))
theorem zaa (bs:List UInt8):∀ {v:V} (m:Nat),v.sound=true->∃x,getP v ((walkP v bs).take m)=some x:=by
 induction bs with
 |nil=>intro v m _;exact ⟨v,by simp [walkP,getP]⟩
 | cons b r ih=>
   intro v m hv
   obtain ⟨kk,n,t,l,o,rfl⟩:=v.eta
   obtain ⟨h1,h2,h3,h4⟩:=Zs.1 hv
   unfold walkP
   cases m with
   |zero=>exact ⟨_,by rw [List.take_zero];rfl⟩
   |succ m=>
   split
   .rename_i hc
    have hkd:=zke hv hc
    have hlt:b.toNat % l.length<l.length:=Nat.mod_lt _ hc
    have hs:stepP (.mk kk n t l o) ⟨true,((b.toNat % l.length:Nat):Int), .empty⟩=some (l.getD (b.toNat % l.length) V.none,b.toNat % l.length):=by
     unfold stepP
     rw [if_pos rfl]
     have e:((V.mk kk n t l o).ls)=l:=rfl
     rw [e,if_pos ⟨hkd,by show (0:Int)<=((b.toNat % l.length:Nat):Int);omega,by show ((b.toNat % l.length:Nat):Int)<(l.length:Int);omega⟩]
     rfl
    obtain ⟨x,hx⟩:=ih (v:=l.getD (b.toNat % l.length) V.none) m (by
     rw [List.getD_eq_getElem?_getD,List.getElem?_eq_getElem hlt];exact h3 _ (List.getElem_mem hlt))
    refine ⟨x, ?_⟩
    rw [List.take_succ_cons]
    unfold getP
    show (match stepP (.mk kk n t l o) ⟨true,((b.toNat % l.length:Nat):Int), .empty⟩ with|none=>none|some q=>getP q.1 _)=_
    rw [hs]
    exact hx
   .split
    .rename_i hc
     have hkd:=zk4 hv hc
     have hlt:b.toNat % o.length<o.length:=Nat.mod_lt _ hc
     have eg:o.getD (b.toNat % o.length) (.empty,V.none)=o[b.toNat % o.length] :=by rw [List.getD_eq_getElem?_getD,List.getElem?_eq_getElem hlt];rfl
     obtain ⟨f1,f2⟩:=zk7 h2 hlt
     have hs:stepP (.mk kk n t l o) ⟨false,0,(o.getD (b.toNat % o.length) (.empty,V.none)).1⟩=some ((o.getD (b.toNat % o.length) (.empty,V.none)).2,b.toNat % o.length):=by
      rw [eg]
      unfold stepP
      rw [if_neg (by simp)]
      have e:((V.mk kk n t l o).os)=o:=rfl
      dsimp only
      rw [e,if_pos ⟨hkd,f2⟩,f1,eg]
     obtain ⟨x,hx⟩:=ih (v:=(o.getD (b.toNat % o.length) (.empty,V.none)).2) m (by rw [eg];exact (h4 _ (List.getElem_mem hlt)).2)
     refine ⟨x, ?_⟩
     rw [List.take_succ_cons]
     unfold getP
     show (match stepP (.mk kk n t l o) ⟨false,0,(o.getD (b.toNat % o.length) (.empty,V.none)).1⟩ with|none=>none|some q=>getP q.1 _)=_
     rw [hs]
     exact hx
    .exact ih (m+1) hv
theorem Kl (bs:List UInt8):∀ {v:V},v.sound=true->∀s ∈ walkP v bs,s.ok=true:=by
 induction bs with
 |nil=>intro v _ s h;cases h
 | cons b r ih=>
   intro v hv s h
   obtain ⟨kk,n,t,l,o,rfl⟩:=v.eta
   obtain ⟨h1,h2,h3,h4⟩:=Zs.1 hv
   unfold walkP at h
   split at h
   .rename_i hc
    have hlt:b.toNat % l.length<l.length:=Nat.mod_lt _ hc
    rcases List.mem_cons.1 h with h|h
    .subst h
     show (List.isEmpty ByteArray.empty.toList && decide ((0:Int)<=((b.toNat % l.length:Nat):Int)))=true
     rw [decide_eq_true (by omega),ByteArray.toList_eq];rfl
    .refine ih ?_ s h
     show (l.getD (b.toNat % l.length) V.none).sound=true
     rw [List.getD_eq_getElem?_getD,List.getElem?_eq_getElem hlt]
     exact h3 _ (List.getElem_mem hlt)
   .split at h
    .rename_i hc
     have hlt:b.toNat % o.length<o.length:=Nat.mod_lt _ hc
     have eg:o.getD (b.toNat % o.length) (.empty,V.none)=o[b.toNat % o.length] :=by rw [List.getD_eq_getElem?_getD,List.getElem?_eq_getElem hlt];rfl
     have hf:=h4 _ (List.getElem_mem hlt)
     rcases List.mem_cons.1 h with h|h
     .subst h
      show ((0:Int)==0 && Lib.validD (o.getD (b.toNat % o.length) (.empty,V.none)).1.data.toList)=true
      rw [eg,hf.1];rfl
     .refine ih ?_ s h
      show (o.getD (b.toNat % o.length) (.empty,V.none)).2.sound=true
      rw [eg];exact hf.2
    .exact ih hv s h
theorem St.ok_neat {s:St} (h:s.ok=true):s.neat:=by
 unfold St.ok at h
 refine ⟨fun e=> ?_,fun e=> ?_⟩
 .rw [e,if_pos rfl,Bool.and_eq_true] at h
  exact List.isEmpty_iff.1 h.1
 .rw [e,if_neg (by simp),Bool.and_eq_true] at h
  simpa using h.1
theorem zat {v:V} {bs:List UInt8} {s:St} (h:s ∈ aimPath v bs):s ∈ walkP v (bs.take 8):=List.mem_of_mem_take (List.mem_of_mem_take h)
theorem zfl {v:V} (hv:v.sound=true) (bs:List UInt8):∃x,getP v (aimPath v bs)=some x:=by
 unfold aimPath wayP
 rw [List.take_take]
 exact zaa _ _ hv
theorem zh0 {v:V} (hv:v.sound=true) (bs:List UInt8):pathSound (aimPath v bs)=true:=by
 have hl:(aimPath v bs).length<=5:=by unfold aimPath wayP;rw [List.length_take,List.length_take];omega
 rw [pathSound,decide_eq_true (by omega),Bool.true_and,List.all_eq_true]
 exact fun s h=>Kl _ hv s (zat h)
theorem Yu {c:Cm} (hk:kIs c.k=true) (hb:c.bare=⟨c.k,c.path, .empty,0,0,0,V.none, .empty⟩) (hp:pathSound c.path=true) (h1:Lib.validD c.key.data.toList=true) (h2:Lib.validD c.s.data.toList=true) (hi:0<=c.i) (hj:0<=c.j) (h8:c.k=8->c.s.toList≠ []) (h9:c.k=9->1<=c.n) (hv:c.v.sound=true) (hd:c.path.length+1+c.v.deep<=16) (hw:c.v.weight<=20000):cmSound c=true:=by
 unfold cmSound
 rw [hk,Y3 hb,hp,h1,h2,decide_eq_true hi,decide_eq_true hj,hv,decide_eq_true hd,decide_eq_true hw]
 have e8:(c.k==8 && c.s.toList.isEmpty)=false:=by
  by_cases e:c.k=8
  .have:=h8 e
   cases hq:c.s.toList with
   |nil=>exact absurd hq this
   |cons a b=>simp
  .simp [e]
 have e9:(c.k==9 && decide (c.n<1))=false:=by
  by_cases e:c.k=9
  .have:=h9 e;simp;omega
  .simp [e]
 rw [e8,e9];rfl
theorem Jk:V.none.deep<=1:=by simp [V.none,V.deep,deepL,deepO]
theorem Yx:Lib.validD ByteArray.empty.data.toList=true:=rfl
theorem Yy {v x:V} {c:Cm} (hs:cmSound c=true) (hg:getP v c.path=some x) (hk:kindsP x c.k c.i c.j c.n c.key=0):checkP v c=0:=by
 unfold checkP
 rw [hs,if_neg (by simp)]
 simp only [hg]
 exact hk
theorem zm8 {v:V} {a:Ac} {c:Cm} (hv:v.sound=true) (hlow:v.Low) (h:oneC v a=some c):checkP v c=0/\c.path=aimPath v a.path:=by
 obtain ⟨x,hg⟩:=zfl hv a.path
 have hps:=zh0 hv a.path
 have hl:(aimPath v a.path).length<=5:=by unfold aimPath wayP;rw [List.length_take,List.length_take];omega
 have hx:xAt v (aimPath v a.path)=x:=by rw [xAt,hg];rfl
 have hxs:=J7 _ hv hg
 have hxl:=Qr _ hlow hg
 obtain ⟨p,hp⟩:∃p,aimPath v a.path=p:=⟨_,rfl⟩
 unfold oneC at h
 rw [hx] at h
 rw [hp] at h hg hps hl ⊢
 obtain ⟨bv1,bw,bd,bs,_⟩:=Xg a.v
 have nd:=Jk
 have nw:=Y6
 have ns:V.none.sound=true:=Xu
 unfold oneX at h
 by_cases c1:x.kd=2
 .rw [if_pos c1] at h
  injection h with h;subst h
  refine ⟨Yy (Yu rfl rfl hps Yx Yx (by show (0:Int)<=0;decide) (by show (0:Int)<=0;decide) (fun e=>absurd e (by show ¬(1:Int)=8;decide)) (fun e=>absurd e (by show ¬(1:Int)=9;decide)) ns (by show p.length+1+V.none.deep<=16;omega) (by show V.none.weight<=20000;omega)) hg ?_,rfl⟩
  show kindsP x 1 0 0 a.n .empty=0
  rw [kindsP,if_pos rfl,if_neg (by simpa using c1)]
 rw [if_neg c1] at h
 by_cases c3:x.kd=3
 .rw [if_pos c3] at h
  injection h with h
  have htn:=zgf hxl.str
  have hkp:∀k i n,(k=8∨k=9)->tCheck x.str k i n=0->kindsP x k i 0 n .empty=0:=fun k i n hk ht=>by
   rw [kindsP,if_neg (by omega),if_neg (by omega),if_pos hk,if_neg (by simpa using c3)];exact ht
  have hi0:∀m:Int,0<m->0<=max a.bare.i 0 % m/\max a.bare.i 0 % m<m:=fun m hm=>⟨Int.emod_nonneg _ (by omega),Int.emod_lt_of_pos _ hm⟩
  unfold textA at h
  by_cases c9:0<x.str.size/\a.bare.k % 2=0
  .rw [if_pos c9] at h
   subst h
   obtain ⟨m0,m1⟩:=hi0 (x.str.size:Int) (by omega)
   have n0:=Int.emod_nonneg (max a.bare.j 0) (show ((x.str.size:Int) - max a.bare.i 0 % (x.str.size:Int))≠0 by omega)
   have n1:=Int.emod_lt_of_pos (max a.bare.j 0) (show 0<((x.str.size:Int) - max a.bare.i 0 % (x.str.size:Int)) by omega)
   refine ⟨Yy (Yu rfl rfl hps Yx Yx m0 (by show (0:Int)<=0;decide) (fun e=>absurd e (by show ¬(9:Int)=8;decide)) (fun _=> ?_) ns (by show p.length+1+V.none.deep<=16;omega) (by show V.none.weight<=20000;omega)) hg (hkp 9 _ _ (.inr rfl) ?_),rfl⟩
   .show (1:Int)<=1+max a.bare.j 0 % ((x.str.size:Int) - max a.bare.i 0 % (x.str.size:Int));omega
   .show tCheck x.str 9 (max a.bare.i 0 % (x.str.size:Int)) (1+max a.bare.j 0 % ((x.str.size:Int) - max a.bare.i 0 % (x.str.size:Int)))=0
    rw [tCheck,if_neg (by omega),if_neg (by rw [htn];omega),if_neg (by rw [htn];omega)]
  .rw [if_neg c9] at h
   subst h
   obtain ⟨m0,m1⟩:=hi0 ((x.str.size:Int)+1) (by omega)
   refine ⟨Yy (Yu rfl rfl hps Yx ?_ m0 (by show (0:Int)<=0;decide) (fun _=> ?_) (fun e=>absurd e (by show ¬(8:Int)=9;decide)) ns (by show p.length+1+V.none.deep<=16;omega) (by show V.none.weight<=20000;omega)) hg (hkp 8 _ _ (.inl rfl) ?_),rfl⟩
   .refine Qt fun b hb=> ?_
    have hb:b ∈ (({ data:= #[120] } :ByteArray)++plainS a.s).data.toList:=hb
    rw [ByteArray.data_append,Array.toList_append] at hb
    rcases List.mem_append.1 hb with hb|hb
    .rw [show ({ data:= #[120] } :ByteArray).data.toList= [120] from rfl,List.mem_singleton] at hb
     subst hb;decide
    .exact zbh _ b hb
   .show (({ data:= #[120] } :ByteArray)++plainS a.s).toList≠ []
    rw [ByteArray.toList_eq,ByteArray.data_append,Array.toList_append]
    simp
   .show tCheck x.str 8 (max a.bare.i 0 % ((x.str.size:Int)+1)) 0=0
    rw [tCheck,if_neg (by omega),if_neg (by rw [htn];omega),if_neg (by omega)]
 rw [if_neg c3] at h
 by_cases c4:x.kd=4
 .rw [if_pos c4] at h
  injection h with h
  have hkp:∀k i j,4<=k->k<=7->lCheck x.ls.length k i j=0->kindsP x k i j 0 .empty=0:=fun k i j h4 h7 ht=>by
   rw [kindsP,if_neg (by omega),if_neg (by omega),if_neg (by omega),if_neg (by simpa using c4)];exact ht
  obtain ⟨N,hN⟩:∃N,x.ls.length=N:=⟨_,rfl⟩
  rw [hN] at h hkp
  obtain ⟨K,hK⟩:∃K,listK N a.bare.k=K:=⟨_,rfl⟩
  have hKr:4<=K/\K<=7/\(N=0->K=4):=by
   rw [<-hK];unfold listK;split<;>omega
  have hK2:listK N a.k=K:=hK
  subst h
  have hi:0<=(if K=4 then max a.bare.i 0 % ((N:Int)+1) else max a.bare.i 0 % (N:Int))/\(if K=4 then max a.bare.i 0 % ((N:Int)+1) else max a.bare.i 0 % (N:Int))<=N/\(K≠4->(if K=4 then max a.bare.i 0 % ((N:Int)+1) else max a.bare.i 0 % (N:Int))<N):=by
   by_cases e:K=4
   .rw [if_pos e]
    have m0:=Int.emod_nonneg (max a.bare.i 0) (show ((N:Int)+1)≠0 by omega)
    have m1:=Int.emod_lt_of_pos (max a.bare.i 0) (show (0:Int)<(N:Int)+1 by omega)
    exact ⟨m0,by omega,fun h=>absurd e h⟩
   .rw [if_neg e]
    have hn:N≠0:=fun hn=>e (hKr.2.2 hn)
    have m0:=Int.emod_nonneg (max a.bare.i 0) (show (N:Int)≠0 by omega)
    have m1:=Int.emod_lt_of_pos (max a.bare.i 0) (show (0:Int)<(N:Int) by omega)
    exact ⟨m0,by omega,fun _=>m1⟩
  have hj:0<=(if K=7 then max a.bare.j 0 % (N:Int) else 0)/\(K=7->(if K=7 then max a.bare.j 0 % (N:Int) else 0)<N):=by
   by_cases e:K=7
   .rw [if_pos e]
    have hn:N≠0:=fun hn=>by have:=hKr.2.2 hn;omega
    exact ⟨Int.emod_nonneg _ (by omega),fun _=>Int.emod_lt_of_pos _ (by omega)⟩
   .rw [if_neg e];exact ⟨Int.le_refl _,fun h=>absurd h e⟩
  obtain ⟨I,hI⟩:∃I,(if K=4 then max a.bare.i 0 % ((N:Int)+1) else max a.bare.i 0 % (N:Int))=I:=⟨_,rfl⟩
  obtain ⟨J,hJ⟩:∃J,(if K=7 then max a.bare.j 0 % (N:Int) else 0)=J:=⟨_,rfl⟩
  rw [hI] at hi;rw [hJ] at hj
  have hV:listV N a.k a.v=if K=4∨K=6 then (oneP 6 (a.v.take 60)).1 else V.none:=by rw [listV,hK2]
  obtain ⟨X,hX⟩:∃X,listV N a.k a.v=X:=⟨_,rfl⟩
  rw [hX] at hV ⊢
  have hc:cmOf p X (listA N a.bare czero vzero)=⟨K,p, .empty,I,J,0,X, .empty⟩:=by
   unfold cmOf listA
   dsimp only
   rw [hK,hI,show (if K=7 then max a.bare.j 0 % (N:Int) else czero.j)=J from hJ];rfl
  rw [hc]
  have hXs:X.sound=true/\X.deep<=6/\X.weight<=20000:=by
   rw [hV];split
   .exact ⟨bs,bd,bw⟩
   .exact ⟨ns,by omega,by omega⟩
  refine ⟨Yy (Yu ?_ ?_ hps Yx Yx hi.1 hj.1 (fun e=> ?_) (fun e=> ?_) hXs.1 (by show p.length+1+X.deep<=16;omega) hXs.2.2) hg (hkp K I J hKr.1 hKr.2.1 ?_),rfl⟩
  .show kIs K=true
   unfold kIs;rw [decide_eq_true (by omega),decide_eq_true (by omega)];rfl
  .have eI:kI K=true:=by unfold kI;rw [decide_eq_true (by omega),decide_eq_true (by omega)];rfl
   have eJ:(if kJ K=true then (0:Int) else J)=0:=by
    unfold kJ
    by_cases e:K=7
    .rw [if_pos (by simp [e])]
    .rw [if_neg (by simp [e]), <-hJ,if_neg e]
   have eV:(if kV K=true then V.none else X)=V.none:=by
    unfold kV
    by_cases e:K=4∨K=6
    .rw [if_pos (by rcases e with e|e<;>simp [e])]
    .rw [if_neg (by simp;omega),hV,if_neg e]
   unfold Cm.bare
   dsimp only
   rw [if_pos eI,eJ,eV]
   have e1:∀b:Bool,(if b=true then ByteArray.empty else ByteArray.empty)=ByteArray.empty:=fun b=>by cases b<;>rfl
   have e2:∀b:Bool,(if b=true then (0:Int) else 0)=0:=fun b=>by cases b<;>rfl
   rw [e1,e1,e2]
  .have:K=8:=e
   omega
  .have:K=9:=e
   omega
  .rw [lCheck,if_neg (by omega),if_neg (by omega),if_neg (by omega)]
 rw [if_neg c4] at h
 by_cases c5:x.kd=5
 .rw [if_pos c5] at h
  injection h with h
  obtain ⟨Y,hY⟩:∃Y,fieldKey x.os a.bare=Y:=⟨_,rfl⟩
  have hYv:Lib.validD Y.data.toList=true:=by
   rw [<-hY];unfold fieldKey
   split
   .rename_i hc
    obtain ⟨kk,n,t,l,o,rfl⟩:=x.eta
    have hlt:(max a.bare.i 0 % ((V.mk kk n t l o).os.length:Int)).toNat<o.length:=by
     have hc1:0<o.length:=hc.1
     have h1:=Int.emod_nonneg (max a.bare.i 0) (show (o.length:Int)≠0 by omega)
     have h2:=Int.emod_lt_of_pos (max a.bare.i 0) (show (0:Int)<o.length by omega)
     show (max a.bare.i 0 % (o.length:Int)).toNat<o.length
     omega
    have e:(V.mk kk n t l o).os=o:=rfl
    rw [e] at hlt ⊢
    rw [List.getD_eq_getElem?_getD,List.getElem?_eq_getElem hlt]
    exact ((Zs.1 hxs).2.2.2 _ (List.getElem_mem hlt)).1
   .exact J5 _
  obtain ⟨X,hX⟩:∃X,fieldV x.os a.bare a.v=X:=⟨_,rfl⟩
  have hXs:X.sound=true/\X.deep<=6/\X.weight<=20000:=by
   rw [<-hX];unfold fieldV;split
   .exact ⟨ns,by omega,by omega⟩
   .exact ⟨bs,bd,bw⟩
  subst h
  cases hB:fieldB x.os a.bare with
  | true=>
    have hc:cmOf p (fieldV x.os a.bare a.v) (fieldA x.os a.bare czero vzero)=⟨3,p,Y,0,0,0,V.none, .empty⟩:=by
     unfold cmOf fieldA fieldV
     dsimp only
     rw [hB,if_pos rfl,if_pos rfl,hY];rfl
    rw [hc]
    refine ⟨Yy (Yu rfl rfl hps hYv Yx (by show (0:Int)<=0;decide) (by show (0:Int)<=0;decide) (fun e=>absurd e (by show ¬(3:Int)=8;decide)) (fun e=>absurd e (by show ¬(3:Int)=9;decide)) ns (by show p.length+1+V.none.deep<=16;omega) (by show V.none.weight<=20000;omega)) hg ?_,rfl⟩
    show kindsP x 3 0 0 0 Y=0
    have hf:fieldIs x.os Y=true:=by
     unfold fieldB at hB
     rw [hY,Bool.and_eq_true] at hB
     exact hB.1
    rw [kindsP,if_neg (by omega),if_pos (.inr rfl),if_neg (by simpa using c5),if_neg (by rw [hf];simp)]
  | false=>
    have hc:cmOf p (fieldV x.os a.bare a.v) (fieldA x.os a.bare czero vzero)=⟨2,p,Y,0,0,0,X, .empty⟩:=by
     unfold cmOf fieldA
     dsimp only
     rw [hB,if_neg (by simp),hY,hX];rfl
    rw [hc]
    refine ⟨Yy (Yu rfl rfl hps hYv Yx (by show (0:Int)<=0;decide) (by show (0:Int)<=0;decide) (fun e=>absurd e (by show ¬(2:Int)=8;decide)) (fun e=>absurd e (by show ¬(2:Int)=9;decide)) hXs.1 (by show p.length+1+X.deep<=16;omega) hXs.2.2) hg ?_,rfl⟩
    show kindsP x 2 0 0 0 Y=0
    rw [kindsP,if_neg (by omega),if_pos (.inl rfl),if_neg (by simpa using c5),if_neg (by omega)]
 rw [if_neg c5] at h
 cases h
end Go.Proofs.YtfoahkbnheijcaaDoor
