/-
  Contracts of the functions that the law reaches: What One says of a value that Build.
-/
import Derived.Test.YtnjgbiachcfigaaGreatDoorIw22
import Derived.Test.YtnjgbiachcfigaaGreatDoorIw31
namespace Go.Proofs.YtnjgbiachcfigaaGreatDoor
open Go.RowKit
set_option maxHeartbeats 16000000
inductive V.Low:V->Prop
 |mk (k n:Int) (s:ByteArray) (l:List V) (o:List (ByteArray×V)) (hz:s.size<=40) (hs:∀b ∈ s.data.toList,b.toNat<128) (hl:∀x ∈ l,V.Low x) (ho:∀f ∈ o,V.Low f.2):V.Low (.mk k n s l o)
theorem J6:∀b ∈ ByteArray.empty.data.toList,b.toNat<128:=fun b h=>by cases h
theorem zfj:V.none.Low:= .mk _ _ _ _ _ (by decide) J6 (fun _ h=>by cases h) (fun _ h=>by cases h)
theorem V.Low.str {v:V} (h:v.Low):∀b ∈ v.str.data.toList,b.toNat<128:=by cases h with|mk k n s l o hz hs hl ho=>exact hs
theorem V.Low.few {v:V} (h:v.Low):v.str.size<=40:=by cases h with|mk k n s l o hz hs hl ho=>exact hz
theorem V.Low.ls {v:V} (h:v.Low):∀x ∈ v.ls,x.Low:=by cases h with|mk k n s l o hz hs hl ho=>exact hl
theorem V.Low.os {v:V} (h:v.Low):∀f ∈ v.os,f.2.Low:=by cases h with|mk k n s l o hz hs hl ho=>exact ho
theorem zc9 (s:ByteArray):∀b ∈ (plainS s).data.toList,b.toNat<128:=by
 intro b hb
 have:b ∈ plainL s.data.toList:=by simpa [plainS] using hb
 obtain ⟨c,_,rfl⟩:=List.mem_map.1 this
 exact zbr c
theorem zdh (t:Tk):(leafP t).Low:=by
 unfold leafP
 repeat' split
 all_goals first
  |exact .mk _ _ _ _ _ (Xb _) (zc9 _) (fun _ h=>by cases h) (fun _ h=>by cases h)
  |exact .mk _ _ _ _ _ (by decide) J6 (fun _ h=>by cases h) (fun _ h=>by cases h)
theorem zku {f:List Tk->V×Nat} (hf:∀l,(f l).1.Low) (l:List Tk):∀j,∀x ∈ (bL f l j).1,x.Low:=by
 intro j
 induction j with
 |zero=>intro x h;cases h
 | succ j ih=>
   intro x h
   rw [bL] at h
   rcases List.mem_append.1 h with h|h
   .exact ih x h
   .rw [List.mem_singleton] at h;subst h;exact hf _
theorem zlt {f:List Tk->V×Nat} (hf:∀l,(f l).1.Low) (l:List Tk):∀j,∀x ∈ (bO f l j).1,x.2.Low:=by
 intro j
 induction j with
 |zero=>intro x h;cases h
 | succ j ih=>
   intro x h
   rw [bO] at h
   rcases zav h with h|h
   .exact ih x h
   .subst h;exact hf _
theorem zgy (d:Nat):∀l,(oneP d l).1.Low:=by
 induction d with
 | zero=>
   intro l
   cases l with
   |nil=>exact zfj
   |cons t r=>exact zdh t
 | succ d ih=>
   intro l
   cases l with
   |nil=>exact zfj
   | cons t r=>
     rw [oneP]
     split
     .exact .mk _ _ _ _ _ (by decide) J6 (zku ih _ _) (fun _ h=>by cases h)
     .split
      .exact .mk _ _ _ _ _ (by decide) J6 (fun _ h=>by cases h) (zlt ih _ _)
      .exact zdh t
theorem znx {v:V} {s:St} {x:V} {k:Nat} (hv:v.Low) (h:stepP v s=some (x,k)):x.Low:=by
 rcases Yy h with ⟨_,_,_,hk,rfl⟩|⟨_,_,_,hk,rfl⟩
 .exact hv.ls _ (List.getElem_mem _)
 .exact hv.os _ (List.getElem_mem _)
theorem ze8 (p:List St):∀ {v x:V},v.Low->getP v p=some x->x.Low:=by
 induction p with
 |nil=>intro v x hv h;injection h with h;exact h ▸ hv
 | cons s r ih=>
   intro v x hv h
   unfold getP at h
   cases hs:stepP v s with
   |none=>rw [hs] at h;cases h
   | some q=>
     obtain ⟨y,k⟩:=q
     rw [hs] at h
     exact ih (znx hv hs) h
theorem zlf (f:Nat):∀(i:Nat) (l:List UInt8),l.length<=f->(∀b ∈ l,b.toNat<128)->(cutsP f i l).length=l.length:=by
 induction f with
 |zero=>intro i l hl _;obtain rfl:l= [] :=List.length_eq_zero_iff.1 (by omega);rfl
 | succ f ih=>
   intro i l hl hb
   cases l with
   |nil=>simp [cutsP]
   | cons b t=>
     rw [cutsP,if_neg (by simp),List.length_cons,Lib.decodeL_ascii b t (hb b List.mem_cons_self)]
     show (cutsP f (i+1) t).length+1=_
     rw [ih (i+1) t (by simpa using hl) (fun c hc=>hb c (List.mem_cons_of_mem _ hc)),List.length_cons]
theorem zgz {s:ByteArray} (h:∀b ∈ s.data.toList,b.toNat<128):textN s=s.size:=by
 have:=zlf s.size 0 s.data.toList (by simp) h
 rw [textN,cuts,List.length_append,this]
 simp
theorem zls {o:List (ByteArray×V)} (h:rising o=true) {j:Nat} (hj:j<o.length):fieldK o o[j].1=j/\fieldIs o o[j].1=true:=by
 have hg:=X2.1 h
 have up:∀d i (hi:i+d+1<o.length),Op.bytesLess (o[i]'(by omega)).1.toList (o[i+d+1]'hi).1.toList=true:=by
  intro d
  induction d with
  |zero=>intro i hi;exact hg i _ _ (List.getElem?_eq_getElem (by omega)) (List.getElem?_eq_getElem hi)
  | succ d ih=>
    intro i hi
    exact K5 (ih i (by omega)) (hg (i+d+1) _ _ (List.getElem?_eq_getElem (by omega)) (List.getElem?_eq_getElem hi))
 have hk:fieldK o o[j].1=j:=by
  refine Qd o _ j (fun i hi hij=> ?_) (by omega) (.inr ⟨hj, ?_⟩)
  .obtain ⟨d,rfl⟩:∃d,j=i+d+1:=⟨j - i - 1,by omega⟩
   exact up d i hj
  .cases hb:Op.bytesLess o[j].1.toList o[j].1.toList with
   |false=>rfl
   |true=>exact absurd rfl (X8 _ _ hb).2
 refine ⟨hk, ?_⟩
 unfold fieldIs
 rw [hk,List.getElem?_eq_getElem hj]
 simp
theorem zgu {v:V} (hv:v.sound=true) (h:0<v.ls.length):v.kd=4:=by
 obtain ⟨k,n,t,l,o,rfl⟩:=v.eta
 have h1:=(Zy.1 hv).1
 have h:0<l.length:=h
 have hne:l≠ [] :=List.length_pos_iff.1 h
 show k=4
 by_cases e:k=4
 .exact e
 .exfalso
  unfold plainB at h1
  repeat' split at h1
  all_goals first|exact e (by assumption)|(simp at h1;done)|(simp at h1;exact hne (by first|exact h1.1.2|exact h1.2|exact h1.2.1|exact h1.1.2.1))
theorem zg6 {v:V} (hv:v.sound=true) (h:0<v.os.length):v.kd=5:=by
 obtain ⟨k,n,t,l,o,rfl⟩:=v.eta
 have h1:=(Zy.1 hv).1
 have h:0<o.length:=h
 have hne:o≠ [] :=List.length_pos_iff.1 h
 show k=5
 by_cases e:k=5
 .exact e
 .exfalso
  unfold plainB at h1
  repeat' split at h1
  all_goals first|exact e (by assumption)|(simp at h1;done)|(simp at h1;exact hne (by first|exact h1.2|exact h1.1.2|exact h1.2.2))
theorem zhj (bs:List UInt8):∀ {v:V} (m:Nat),v.sound=true->∃x,getP v ((walkP v bs).take m)=some x:=by
 induction bs with
 |nil=>intro v m _;exact ⟨v,by simp [walkP,getP]⟩
 | cons b r ih=>
   intro v m hv
   obtain ⟨kk,n,t,l,o,rfl⟩:=v.eta
   obtain ⟨h1,h2,h3,h4⟩:=Zy.1 hv
   unfold walkP
   cases m with
   |zero=>exact ⟨_,by rw [List.take_zero];rfl⟩
   |succ m=>
   split
   .rename_i hc
    have hkd:=zgu hv hc
    have hlt:b.toNat % l.length<l.length:=Nat.mod_lt _ hc
    have hs:stepP (.mk kk n t l o) ⟨true,((b.toNat % l.length:Nat):Int), .empty⟩=some (l.getD (b.toNat % l.length) V.none,b.toNat % l.length):=by
     unfold stepP
     rw [if_pos rfl]
     have e:((V.mk kk n t l o).ls)=l:=rfl
     rw [e,if_pos ⟨hkd,by show (0:Int)<=((b.toNat % l.length:Nat):Int);omega,by show ((b.toNat % l.length:Nat):Int)<(l.length:Int);omega⟩]
     rfl
    obtain ⟨x,hx⟩:=ih (v:=l.getD (b.toNat % l.length) V.none) m (by
     rw [List.getD_eq_getElem?_getD,List.getElem?_eq_getElem hlt];exact h3 _ (List.getElem_mem hlt))
    refine ⟨x, ?_⟩
    rw [List.take_succ_cons]
    unfold getP
    show (match stepP (.mk kk n t l o) ⟨true,((b.toNat % l.length:Nat):Int), .empty⟩ with|none=>none|some q=>getP q.1 _)=_
    rw [hs]
    exact hx
   .split
    .rename_i hc
     have hkd:=zg6 hv hc
     have hlt:b.toNat % o.length<o.length:=Nat.mod_lt _ hc
     have eg:o.getD (b.toNat % o.length) (.empty,V.none)=o[b.toNat % o.length] :=by rw [List.getD_eq_getElem?_getD,List.getElem?_eq_getElem hlt];rfl
     obtain ⟨f1,f2⟩:=zls h2 hlt
     have hs:stepP (.mk kk n t l o) ⟨false,0,(o.getD (b.toNat % o.length) (.empty,V.none)).1⟩=some ((o.getD (b.toNat % o.length) (.empty,V.none)).2,b.toNat % o.length):=by
      rw [eg]
      unfold stepP
      rw [if_neg (by simp)]
      have e:((V.mk kk n t l o).os)=o:=rfl
      dsimp only
      rw [e,if_pos ⟨hkd,f2⟩,f1,eg]
     obtain ⟨x,hx⟩:=ih (v:=(o.getD (b.toNat % o.length) (.empty,V.none)).2) m (by rw [eg];exact (h4 _ (List.getElem_mem hlt)).2)
     refine ⟨x, ?_⟩
     rw [List.take_succ_cons]
     unfold getP
     show (match stepP (.mk kk n t l o) ⟨false,0,(o.getD (b.toNat % o.length) (.empty,V.none)).1⟩ with|none=>none|some q=>getP q.1 _)=_
     rw [hs]
     exact hx
    .exact ih (m+1) hv
theorem zkt (bs:List UInt8):∀ {v:V},v.sound=true->∀s ∈ walkP v bs,s.ok=true:=by
 induction bs with
 |nil=>intro v _ s h;cases h
 | cons b r ih=>
   intro v hv s h
   obtain ⟨kk,n,t,l,o,rfl⟩:=v.eta
   obtain ⟨h1,h2,h3,h4⟩:=Zy.1 hv
   unfold walkP at h
   split at h
   .rename_i hc
    have hlt:b.toNat % l.length<l.length:=Nat.mod_lt _ hc
    rcases List.mem_cons.1 h with h|h
    .subst h
     show (List.isEmpty ByteArray.empty.toList && decide ((0:Int)<=((b.toNat % l.length:Nat):Int)))=true
     rw [decide_eq_true (by omega),ByteArray.toList_eq];rfl
    .refine ih ?_ s h
     show (l.getD (b.toNat % l.length) V.none).sound=true
     rw [List.getD_eq_getElem?_getD,List.getElem?_eq_getElem hlt]
     exact h3 _ (List.getElem_mem hlt)
   .split at h
    .rename_i hc
     have hlt:b.toNat % o.length<o.length:=Nat.mod_lt _ hc
     have eg:o.getD (b.toNat % o.length) (.empty,V.none)=o[b.toNat % o.length] :=by rw [List.getD_eq_getElem?_getD,List.getElem?_eq_getElem hlt];rfl
     have hf:=h4 _ (List.getElem_mem hlt)
     rcases List.mem_cons.1 h with h|h
     .subst h
      show ((0:Int)==0 && Lib.validD (o.getD (b.toNat % o.length) (.empty,V.none)).1.data.toList)=true
      rw [eg,hf.1];rfl
     .refine ih ?_ s h
      show (o.getD (b.toNat % o.length) (.empty,V.none)).2.sound=true
      rw [eg];exact hf.2
    .exact ih hv s h
theorem zmd {v:V} {bs:List UInt8} {s:St} (h:s ∈ aimPath v bs):s ∈ walkP v (bs.take 8):=List.mem_of_mem_take (List.mem_of_mem_take h)
theorem zqw {v:V} (hv:v.sound=true) (bs:List UInt8):∃x,getP v (aimPath v bs)=some x:=by
 unfold aimPath wayP
 rw [List.take_take]
 exact zhj _ _ hv
theorem zoe {v:V} (hv:v.sound=true) (bs:List UInt8):pathSound (aimPath v bs)=true:=by
 have hl:(aimPath v bs).length<=5:=by unfold aimPath wayP;rw [List.length_take,List.length_take];omega
 rw [pathSound,decide_eq_true (by omega),Bool.true_and,List.all_eq_true]
 exact fun s h=>zkt _ hv s (zmd h)
theorem Xg:Lib.validD ByteArray.empty.data.toList=true:=rfl
theorem zj1 {v:V} {a:Ac} {c:Cm} (hv:v.sound=true) (hlow:v.Low) (h:oneC v a=some c):checkP v c=0/\c.path=aimPath v a.path:=by
 obtain ⟨x,hg⟩:=zqw hv a.path
 have hps:=zoe hv a.path
 have hl:(aimPath v a.path).length<=5:=by unfold aimPath wayP;rw [List.length_take,List.length_take];omega
 have hx:xAt v (aimPath v a.path)=x:=by rw [xAt,hg];rfl
 have hxs:=Kd _ hv hg
 have hxl:=ze8 _ hlow hg
 obtain ⟨p,hp⟩:∃p,aimPath v a.path=p:=⟨_,rfl⟩
 unfold oneC at h
 rw [hx] at h
 rw [hp] at h hg hps hl ⊢
 obtain ⟨bv1,bw,bd,bs,_⟩:=Y7 a.v
 have nd:=zeu
 have nw:=Jd
 have ns:V.none.sound=true:=K3
 unfold oneX at h
 by_cases c1:x.kd=2
 .rw [if_pos c1] at h
  injection h with h;subst h
  refine ⟨Xe (Xu rfl rfl hps Xg Xg (by show (0:Int)<=0;decide) (by show (0:Int)<=0;decide) (fun e=>absurd e (by show ¬(1:Int)=8;decide)) (fun e=>absurd e (by show ¬(1:Int)=9;decide)) ns (by show p.length+1+V.none.deep<=16;omega) (by show V.none.weight<=20000;omega)) hg ?_,rfl⟩
  show kindsP x 1 0 0 a.n .empty=0
  rw [kindsP,if_pos rfl,if_neg (by simpa using c1)]
 rw [if_neg c1] at h
 by_cases c3:x.kd=3
 .rw [if_pos c3] at h
  injection h with h
  have htn:=zgz hxl.str
  have hkp:∀k i n,(k=8∨k=9)->tCheck x.str k i n=0->kindsP x k i 0 n .empty=0:=fun k i n hk ht=>by
   rw [kindsP,if_neg (by omega),if_neg (by omega),if_pos hk,if_neg (by simpa using c3)];exact ht
  have hi0:∀m:Int,0<m->0<=max a.bare.i 0 % m/\max a.bare.i 0 % m<m:=fun m hm=>⟨Int.emod_nonneg _ (by omega),Int.emod_lt_of_pos _ hm⟩
  unfold textA at h
  by_cases c9:0<x.str.size/\a.bare.k % 2=0
  .rw [if_pos c9] at h
   subst h
   obtain ⟨m0,m1⟩:=hi0 (x.str.size:Int) (by omega)
   have n0:=Int.emod_nonneg (max a.bare.j 0) (show ((x.str.size:Int) - max a.bare.i 0 % (x.str.size:Int))≠0 by omega)
   have n1:=Int.emod_lt_of_pos (max a.bare.j 0) (show 0<((x.str.size:Int) - max a.bare.i 0 % (x.str.size:Int)) by omega)
   refine ⟨Xe (Xu rfl rfl hps Xg Xg m0 (by show (0:Int)<=0;decide) (fun e=>absurd e (by show ¬(9:Int)=8;decide)) (fun _=> ?_) ns (by show p.length+1+V.none.deep<=16;omega) (by show V.none.weight<=20000;omega)) hg (hkp 9 _ _ (.inr rfl) ?_),rfl⟩
   .show (1:Int)<=1+max a.bare.j 0 % ((x.str.size:Int) - max a.bare.i 0 % (x.str.size:Int));omega
   .show tCheck x.str 9 (max a.bare.i 0 % (x.str.size:Int)) (1+max a.bare.j 0 % ((x.str.size:Int) - max a.bare.i 0 % (x.str.size:Int)))=0
    rw [tCheck,if_neg (by omega),if_neg (by rw [htn];omega),if_neg (by rw [htn];omega)]
  .rw [if_neg c9] at h
   subst h
   obtain ⟨m0,m1⟩:=hi0 ((x.str.size:Int)+1) (by omega)
   refine ⟨Xe (Xu rfl rfl hps Xg ?_ m0 (by show (0:Int)<=0;decide) (fun _=> ?_) (fun e=>absurd e (by show ¬(8:Int)=9;decide)) ns (by show p.length+1+V.none.deep<=16;omega) (by show V.none.weight<=20000;omega)) hg (hkp 8 _ _ (.inl rfl) ?_),rfl⟩
   .refine zab fun b hb=> ?_
    have hb:b ∈ (({ data:= #[120] } :ByteArray)++plainS a.s).data.toList:=hb
    rw [ByteArray.data_append,Array.toList_append] at hb
    rcases List.mem_append.1 hb with hb|hb
    .rw [show ({ data:= #[120] } :ByteArray).data.toList= [120] from rfl,List.mem_singleton] at hb
     subst hb;decide
    .exact zc9 _ b hb
   .show (({ data:= #[120] } :ByteArray)++plainS a.s).toList≠ []
    rw [ByteArray.toList_eq,ByteArray.data_append,Array.toList_append]
    simp
   .show tCheck x.str 8 (max a.bare.i 0 % ((x.str.size:Int)+1)) 0=0
    rw [tCheck,if_neg (by omega),if_neg (by rw [htn];omega),if_neg (by omega)]
 rw [if_neg c3] at h
 by_cases c4:x.kd=4
 .rw [if_pos c4] at h
  injection h with h
  have hkp:∀k i j,4<=k->k<=7->lCheck x.ls.length k i j=0->kindsP x k i j 0 .empty=0:=fun k i j h4 h7 ht=>by
   rw [kindsP,if_neg (by omega),if_neg (by omega),if_neg (by omega),if_neg (by simpa using c4)];exact ht
  obtain ⟨N,hN⟩:∃N,x.ls.length=N:=⟨_,rfl⟩
  rw [hN] at h hkp
  obtain ⟨K,hK⟩:∃K,listK N a.bare.k=K:=⟨_,rfl⟩
  have hKr:4<=K/\K<=7/\(N=0->K=4):=by
   rw [<-hK];unfold listK;split<;>omega
  have hK2:listK N a.k=K:=hK
  subst h
  have hi:0<=(if K=4 then max a.bare.i 0 % ((N:Int)+1) else max a.bare.i 0 % (N:Int))/\(if K=4 then max a.bare.i 0 % ((N:Int)+1) else max a.bare.i 0 % (N:Int))<=N/\(K≠4->(if K=4 then max a.bare.i 0 % ((N:Int)+1) else max a.bare.i 0 % (N:Int))<N):=by
   by_cases e:K=4
   .rw [if_pos e]
    have m0:=Int.emod_nonneg (max a.bare.i 0) (show ((N:Int)+1)≠0 by omega)
    have m1:=Int.emod_lt_of_pos (max a.bare.i 0) (show (0:Int)<(N:Int)+1 by omega)
    exact ⟨m0,by omega,fun h=>absurd e h⟩
   .rw [if_neg e]
    have hn:N≠0:=fun hn=>e (hKr.2.2 hn)
    have m0:=Int.emod_nonneg (max a.bare.i 0) (show (N:Int)≠0 by omega)
    have m1:=Int.emod_lt_of_pos (max a.bare.i 0) (show (0:Int)<(N:Int) by omega)
    exact ⟨m0,by omega,fun _=>m1⟩
  have hj:0<=(if K=7 then max a.bare.j 0 % (N:Int) else 0)/\(K=7->(if K=7 then max a.bare.j 0 % (N:Int) else 0)<N):=by
   by_cases e:K=7
   .rw [if_pos e]
    have hn:N≠0:=fun hn=>by have:=hKr.2.2 hn;omega
    exact ⟨Int.emod_nonneg _ (by omega),fun _=>Int.emod_lt_of_pos _ (by omega)⟩
   .rw [if_neg e];exact ⟨Int.le_refl _,fun h=>absurd h e⟩
  obtain ⟨I,hI⟩:∃I,(if K=4 then max a.bare.i 0 % ((N:Int)+1) else max a.bare.i 0 % (N:Int))=I:=⟨_,rfl⟩
  obtain ⟨J,hJ⟩:∃J,(if K=7 then max a.bare.j 0 % (N:Int) else 0)=J:=⟨_,rfl⟩
  rw [hI] at hi;rw [hJ] at hj
  have hV:listV N a.k a.v=if K=4∨K=6 then (oneP 6 (a.v.take 60)).1 else V.none:=by rw [listV,hK2]
  obtain ⟨X,hX⟩:∃X,listV N a.k a.v=X:=⟨_,rfl⟩
  rw [hX] at hV ⊢
  have hc:cmOf p X (listA N a.bare czero vzero)=⟨K,p, .empty,I,J,0,X, .empty⟩:=by
   unfold cmOf listA
   dsimp only
   rw [hK,hI,show (if K=7 then max a.bare.j 0 % (N:Int) else czero.j)=J from hJ];rfl
  rw [hc]
  have hXs:X.sound=true/\X.deep<=6/\X.weight<=20000:=by
   rw [hV];split
   .exact ⟨bs,bd,bw⟩
   .exact ⟨ns,by omega,by omega⟩
  refine ⟨Xe (Xu ?_ ?_ hps Xg Xg hi.1 hj.1 (fun e=> ?_) (fun e=> ?_) hXs.1 (by show p.length+1+X.deep<=16;omega) hXs.2.2) hg (hkp K I J hKr.1 hKr.2.1 ?_),rfl⟩
  .show kIs K=true
   unfold kIs;rw [decide_eq_true (by omega),decide_eq_true (by omega)];rfl
  .have eI:kI K=true:=by unfold kI;rw [decide_eq_true (by omega),decide_eq_true (by omega)];rfl
   have eJ:(if kJ K=true then (0:Int) else J)=0:=by
    unfold kJ
    by_cases e:K=7
    .rw [if_pos (by simp [e])]
    .rw [if_neg (by simp [e]), <-hJ,if_neg e]
   have eV:(if kV K=true then V.none else X)=V.none:=by
    unfold kV
    by_cases e:K=4∨K=6
    .rw [if_pos (by rcases e with e|e<;>simp [e])]
    .rw [if_neg (by simp;omega),hV,if_neg e]
   unfold Cm.bare
   dsimp only
   rw [if_pos eI,eJ,eV]
   have e1:∀b:Bool,(if b=true then ByteArray.empty else ByteArray.empty)=ByteArray.empty:=fun b=>by cases b<;>rfl
   have e2:∀b:Bool,(if b=true then (0:Int) else 0)=0:=fun b=>by cases b<;>rfl
   rw [e1,e1,e2]
  .have:K=8:=e
   omega
  .have:K=9:=e
   omega
  .rw [lCheck,if_neg (by omega),if_neg (by omega),if_neg (by omega)]
 rw [if_neg c4] at h
 by_cases c5:x.kd=5
 .rw [if_pos c5] at h
  injection h with h
  obtain ⟨Y,hY⟩:∃Y,fieldKey x.os a.bare=Y:=⟨_,rfl⟩
  have hYv:Lib.validD Y.data.toList=true:=by
   rw [<-hY];unfold fieldKey
   split
   .rename_i hc
    obtain ⟨kk,n,t,l,o,rfl⟩:=x.eta
    have hlt:(max a.bare.i 0 % ((V.mk kk n t l o).os.length:Int)).toNat<o.length:=by
     have hc1:0<o.length:=hc.1
     have h1:=Int.emod_nonneg (max a.bare.i 0) (show (o.length:Int)≠0 by omega)
     have h2:=Int.emod_lt_of_pos (max a.bare.i 0) (show (0:Int)<o.length by omega)
     show (max a.bare.i 0 % (o.length:Int)).toNat<o.length
     omega
    have e:(V.mk kk n t l o).os=o:=rfl
    rw [e] at hlt ⊢
    rw [List.getD_eq_getElem?_getD,List.getElem?_eq_getElem hlt]
    exact ((Zy.1 hxs).2.2.2 _ (List.getElem_mem hlt)).1
   .exact zbh _
  obtain ⟨X,hX⟩:∃X,fieldV x.os a.bare a.v=X:=⟨_,rfl⟩
  have hXs:X.sound=true/\X.deep<=6/\X.weight<=20000:=by
   rw [<-hX];unfold fieldV;split
   .exact ⟨ns,by omega,by omega⟩
   .exact ⟨bs,bd,bw⟩
  subst h
  cases hB:fieldB x.os a.bare with
  | true=>
    have hc:cmOf p (fieldV x.os a.bare a.v) (fieldA x.os a.bare czero vzero)=⟨3,p,Y,0,0,0,V.none, .empty⟩:=by
     unfold cmOf fieldA fieldV
     dsimp only
     rw [hB,if_pos rfl,if_pos rfl,hY];rfl
    rw [hc]
    refine ⟨Xe (Xu rfl rfl hps hYv Xg (by show (0:Int)<=0;decide) (by show (0:Int)<=0;decide) (fun e=>absurd e (by show ¬(3:Int)=8;decide)) (fun e=>absurd e (by show ¬(3:Int)=9;decide)) ns (by show p.length+1+V.none.deep<=16;omega) (by show V.none.weight<=20000;omega)) hg ?_,rfl⟩
    show kindsP x 3 0 0 0 Y=0
    have hf:fieldIs x.os Y=true:=by
     unfold fieldB at hB
     rw [hY,Bool.and_eq_true] at hB
     exact hB.1
    rw [kindsP,if_neg (by omega),if_pos (.inr rfl),if_neg (by simpa using c5),if_neg (by rw [hf];simp)]
  | false=>
    have hc:cmOf p (fieldV x.os a.bare a.v) (fieldA x.os a.bare czero vzero)=⟨2,p,Y,0,0,0,X, .empty⟩:=by
     unfold cmOf fieldA
     dsimp only
     rw [hB,if_neg (by simp),hY,hX];rfl
    rw [hc]
    refine ⟨Xe (Xu rfl rfl hps hYv Xg (by show (0:Int)<=0;decide) (by show (0:Int)<=0;decide) (fun e=>absurd e (by show ¬(2:Int)=8;decide)) (fun e=>absurd e (by show ¬(2:Int)=9;decide)) hXs.1 (by show p.length+1+X.deep<=16;omega) hXs.2.2) hg ?_,rfl⟩
    show kindsP x 2 0 0 0 Y=0
    rw [kindsP,if_neg (by omega),if_pos (.inl rfl),if_neg (by simpa using c5),if_neg (by omega)]
 rw [if_neg c5] at h
 cases h
theorem zgd {w:World} {b:AC} {x:Ac} (h:IsAct w w.heap.size x b) (W:World) (hb:uB w W):IsActs (W.alloc (.cells #[.slice b.pa b.pl b.pc, .int .u8 b.k, .int .i64 b.i, .int .i64 b.j, .int .i64 b.n, .string b.s, .slice b.va b.vl b.vc] 25)) (W.alloc (.cells #[.slice b.pa b.pl b.pc, .int .u8 b.k, .int .i64 b.i, .int .i64 b.j, .int .i64 b.n, .string b.s, .slice b.va b.vl b.vc] 25)).heap.size [x] (some ⟨W.heap.size,0,none⟩) 1 1:=by
 have hB:=BC.start W (uA b) 25
 have h2:IsAct (W.alloc (.cells (uA b) 25)) (W.alloc (.cells (uA b) 25)).heap.size x b:=((h.keep hb).more hb.size|>.keep (Zo W _)).more (Zo W _).size
 exact ⟨rfl,Nat.le_refl _,by omega,W.heap.size,0,fun _=>b,fun _=>⟨rfl,hB.lt⟩,fun i hi=>by
  have h0:i=0:=by simpa using hi
  subst h0
  exact ⟨⟨hB.at_ 0 _ rfl,hB.at_ 1 _ rfl,hB.at_ 2 _ rfl,hB.at_ 3 _ rfl,hB.at_ 4 _ rfl,hB.at_ 5 _ rfl,hB.at_ 6 _ rfl⟩,h2⟩⟩
theorem zif (x:V) (c:Cm):(turnP x c).s.size<=x.str.size:=by
 unfold turnP
 (repeat' split)<;>first|exact Nat.zero_le _|(show (partT _ _ _).size<=_;rw [partT,ByteArray.size_extract];omega)
theorem zj6 (v:V) (c:Cm):(turnedP v c).1.s.size<=v.weight:=by
 unfold turnedP
 split
 .rename_i hc
  obtain ⟨_,x,hg,_⟩:=Zu hc
  rw [hg,Option.getD_some]
  split
  .have h1:=zif x c;have h2:=x.str_weight.1;have h3:=Zz _ hg
   dsimp only;omega
  .exact Nat.zero_le _
 .exact Nat.zero_le _
set_option maxRecDepth 100000 in
theorem zhl (w:World) (hT:Tabs w) (l:List Tk) (a:Option Addr) (n c:Nat) (hl:IsToks w w.heap.size l a n c) (b:AC) (x:Ac) (ha:IsAct w w.heap.size x b):
 uP 8 #[.slice a n c, .agg (uA b)] w fun e w'=>e= .returned (.bool true)/\uB w w':=by
 delta uA uB uP
 have HL:=qh hl
 have HAC:=qh ha
 have HTT:=qh hT
 have HKN:Hid (∀W,uB w W->uP 21 #[] W fun e w'=>e= .returned (.bool true)/\uB W w'):=qh fun W hW=>Kf W (hT.below hW)
 have HB0:=qh (BC.start w (uA b) 25)
 have HA0:=qh (Zo w (.cells (uA b) 25))
 have HHV:Hid (uP 20 #[.slice a n c, .slice (some ⟨(w.alloc (.cells (uA b) 25)).heap.size,0,none⟩) 1 1] ((w.alloc (.cells (uA b) 25)).alloc (.cells (uA b) 25)) (SomeBool ((w.alloc (.cells (uA b) 25)).alloc (.cells (uA b) 25)))):=qh (Kr _ l a n c ((hl.later_ HA0.out).later_ (Zo _ _)) [x] _ 1 1 (zgd ha _ HA0.out))
 clear hl ha hT
 go_enter Tryz.func8,Tryz.ntmps8
 go_wp2_with fail
 refine (show Calls _ _ _ _ _ by simpa using HHV.out).mono ?_
 rintro e w1 ⟨⟨h,rfl⟩,hb1⟩
 have hB1:=(HB0.out.keep (Zo _ (.cells (uA b) 25)) HB0.out.lt).keep hb1 (by simp;omega)
 have HA1:=qh ((HA0.out.trans ((Zo _ (.cells (uA b) 25)).mono HA0.out.size)).trans (hb1.mono (by simp;omega)))
 obtain ⟨b0,b1,b2,b3,b4,b5,b6⟩:=row7 hB1.at_;have zb:=hB1.lt
 have HB1:=qh hB1
 clear hB1 hb1 HHV HB0 HA0
 cases h with
 | true=>
   go_wp2_with fail
   refine (HKN.out _ HA1.out).mono ?_
   rintro e wk ⟨rfl,hbk⟩
   have HAk:=qh (HA1.out.trans (hbk.mono HA1.out.size))
   clear hbk
   go_wp2_with fail
   go_returns
   exact ⟨rfl,HAk.out⟩
 |false=>
 go_wp2_with fail
 refine (HKN.out _ HA1.out).mono ?_
 rintro e w3 ⟨rfl,hb3⟩
 have hB3:=HB1.out.keep hb3 HB1.out.lt
 have HA3:=qh (HA1.out.trans (hb3.mono HA1.out.size))
 clear b0 b1 b2 b3 b4 b5 b6 zb
 obtain ⟨b0,b1,b2,b3,b4,b5,b6⟩:=row7 hB3.at_;have zb:=hB3.lt
 have HB3:=qh hB3
 clear hB3 hb3 HB1 HKN
 go_wp2_with fail
 refine (Yf w3 l a n c (HL.out.later_ HA3.out)).mono ?_
 rintro e w4 ⟨⟨cv,rfl,hv4⟩,hb4⟩
 obtain ⟨V0,hV0⟩:∃V0,(oneP 6 (l.take 60)).1=V0:=⟨_,rfl⟩
 have HLT:Hid (V0.weight<=20000/\V0.sound=true):=qh (by rw [<-hV0];exact ⟨(Y7 l).2.1,(Y7 l).2.2.2.1⟩)
 have HLW:Hid (V.Low V0):=qh (by rw [<-hV0];exact zgy 6 _)
 rw [hV0] at hv4
 have hB4:=HB3.out.keep hb4 HB3.out.lt
 have HA4:=qh (HA3.out.trans (hb4.mono HA3.out.size))
 have HV4:Hid (IsVal w4 w4.heap.size V0 cv):=qh (hv4.sub (Zk _ _ _))
 clear b0 b1 b2 b3 b4 b5 b6 zb
 obtain ⟨b0,b1,b2,b3,b4,b5,b6⟩:=row7 hB4.at_;have zb:=hB4.lt
 have HB4:=qh hB4
 clear hb4 hB4 HB3 hv4 hV0 HL
 go_wp2_with fail
 have hONE:=za2 (w4.alloc (.cells (uV cv) 36)) cv.k cv.n cv.s cv.la cv.ll cv.lc cv.oa cv.ol cv.oc V0 (HV4.out.later_ (Zo w4 _)) (by have:=HLT.out.1;omega) b x (((HAC.out.keep HA4.out).more HA4.out.size|>.keep (Zo w4 _)).more (Zo w4 _).size)
 refine hONE.mono ?_
 rintro e w5 ⟨⟨cc,hcc⟩,hb5⟩
 clear hONE
 have hb45:uB w4 w5:=(Zo w4 _).trans (hb5.mono (by simp))
 have hbv5:BC w5 w4.heap.size (vcells cv):=(BC.start w4 (uV cv) 36).keep hb5 (by simp)
 have HA5:=qh (HA4.out.trans (hb45.mono HA4.out.size))
 have HV5:=qh (HV4.out.later_ hb45)
 clear b0 b1 b2 b3 b4 b5 b6 zb
 obtain ⟨v0,v1,v2,v3,v4⟩:=row5 hbv5.at_;have zv:=hbv5.lt
 have HBV5:=qh hbv5
 clear hb5 hb45 hbv5 HB4 HV4
 cases hone:oneC V0 x with
 | none=>
   rw [hone] at hcc
   obtain ⟨rfl,_⟩:=hcc
   clear hone
   go_wp2_with fail
   go_returns
   exact ⟨rfl,HA5.out.trans ((Zo w5 _).mono HA5.out.size)⟩
 |some cm=>
 rw [hone] at hcc
 obtain ⟨rfl,hc⟩:=hcc
 obtain ⟨hck,hpath⟩:=zj1 HLT.out.2 HLW.out hone
 have hsm:=Jq hone
 have hc5:IsComp w5 w5.heap.size cm cc:=IsComp.sub (Zk _ _ _) hc
 have hvn:V0.Nums:=V.Num.nums HV5.out.num
 have hcn:cm.Nums:=by
  cases hc5 with
  |mk cc p xv hcb hp hxv=>exact ⟨⟨hcb.n0,hcb.n1⟩,V.Num.nums hxv.num⟩
 obtain ⟨T,hT⟩:∃T,turnedP V0 cm=T:=⟨_,rfl⟩
 obtain ⟨Y,hY⟩:∃Y,doP V0 cm=Y:=⟨_,rfl⟩
 have hY0:Y.2=0:=by rw [<-hY,Ko];exact hck
 have hback:T.2=0->doP Y.1 T.1=(V0,0)/\turnedP Y.1 T.1=(cm,0):=fun h0=>by
  have:=za9 HLT.out.2 hvn hcn (show turnedP V0 cm=(T.1,0) by rw [hT];exact Prod.ext rfl h0)
  rw [hY] at this;exact this.2
 have herr:T.2=0∨T.2=60:=by
  rw [<-hT];unfold turnedP;rw [if_pos hck];split
  .exact .inl rfl
  .exact .inr rfl
 have hys:Y.1.sound=true:=by rw [<-hY];exact Ql HLT.out.2
 have hyw:Y.1.weight<=1000000000000:=by
  have:=zar hone (by rw [Ko];exact hck)
  rw [hY] at this;have:=HLT.out.1;omega
 have HDO:Hid (∀(W:World) (ce:CC),uB w5 W->IsComp W W.heap.size cm ce->uP 16 #[.agg (uV cv), .agg (uC ce)] W fun e w'=>(∃g:VC,e= .returned (.tuple #[.agg #[.int .u8 g.k, .int .i64 g.n, .string g.s, .slice g.la g.ll g.lc, .slice g.oa g.ol g.oc], .int .i64 0])/\IsVal w' w'.heap.size Y.1 g)/\uB W w'):=qh fun W ce hW hI=>by
  cases hI with
  | mk ce p xv hcb hp hxv=>
    have hcs:∀y,getP V0 p=some y->y.str.size+y.str.size+ce.s.size<=140737488355328:=fun y hy=>by have:=(ze8 p HLW.out hy).few;have:=hsm.ss;dsimp only at this;omega
    have hxw:xv.weight<=4611686018427387904:=by have:=hsm.sv;dsimp only at this;omega
    have:=zak W cv.k cv.n cv.s cv.la cv.ll cv.lc cv.oa cv.ol cv.oc V0 (HV5.out.later_ hW) (by have:=HLT.out.1;omega) p xv ce hcb hp hxv hxw hcs (HTT.out.below (HA5.out.trans (hW.mono HA5.out.size)))
    rw [hY] at this
    unfold DoPost at this
    rw [hY0] at this
    exact this.mono fun e w' h=>⟨h.1.imp fun d hd=>⟨hd.1,hd.2.sub (Zk _ _ _)⟩,h.2⟩
 have HTD:Hid (∀W,uB w5 W->uP 27 #[.agg (uV cv), .agg (uC cc)] W (TdPost .u16 W T)):=qh fun W hW=>by
  rw [<-hT]
  cases hc5 with
  |mk cc p xv hcb hp hxv=>exact Qa W cv V0 (HV5.out.later_ hW) (by have:=HLT.out.1;omega) p xv cc hcb (hp.later_ hW) (hxv.later_ hW) (by have:=hsm.sv;dsimp only at this;omega) (by have:=hsm.ss;dsimp only at this;omega) (HTT.out.below (HA5.out.trans (hW.mono HA5.out.size)))
 have hts:T.1.s.size<=1000000000000:=by have h:=zj6 V0 cm;rw [hT] at h;have:=HLT.out.1;omega
 have HTS:=qh hts
 clear hts
 have HC5:=qh hc5;have HBK:=qh hback;have HER:=qh herr;have HYW:=qh hyw
 clear hc hck hpath hsm hc5 hvn hcn hT hY hY0 hback herr hys hyw hone
 go_wp2_with fail
 refine (HDO.out _ cc (Zo w5 _) (HC5.out.later_ (Zo w5 _))).mono ?_
 rintro e w6 ⟨⟨g,rfl,hg⟩,hb6⟩
 obtain ⟨w7,hw7⟩:∃W,w6.alloc (.cells (uV g) 36)=W:=⟨_,rfl⟩
 have hb7:uB w6 w7:=by rw [<-hw7];exact Zo w6 _
 have hx7:BC w7 w6.heap.size (vcells g):=by rw [<-hw7];exact BC.start w6 (uV g) 36
 have hb57:uB w5 w7:=(Zo w5 _).trans ((hb6.trans (hb7.mono hb6.size)).mono (by simp))
 have hbv7:=HBV5.out.keep hb57 HBV5.out.lt
 have hbc7:BC w7 w5.heap.size (ccells cc):=((BC.start w5 (uC cc) 39).keep hb6 (by simp)).keep hb7 (by have:=hb6.size;simp at this;omega)
 have HB57:=qh hb57;have HBV7:=qh hbv7;have HBC7:=qh hbc7;have HX7:=qh hx7;have HG7:=qh (hg.later_ hb7)
 clear v0 v1 v2 v3 v4
 obtain ⟨v0,v1,v2,v3,v4⟩:=row5 hbv7.at_
 obtain ⟨c0,c1,c2,c3,c4,c5,c6,c7,c8,c9,c10,c11⟩:=row12 hbc7.at_
 have zv:=hbv7.lt;have zc:=hbc7.lt
 clear hg hb6 hb7 hb57 hbv7 hbc7 hx7 HBV5
 go_upto_region 8 with fail
 clear hw7
 go_wp2_with fail
 refine (HTD.out _ HB57.out).mono ?_
 rintro e w8 ⟨⟨d,rfl,hd⟩,hb8⟩
 obtain ⟨w9,hw9⟩:∃W,w8.alloc (.cells (uC d) 39)=W:=⟨_,rfl⟩
 have hb9:uB w8 w9:=by rw [<-hw9];exact Zo w8 _
 have hx9:BC w9 w8.heap.size (ccells d):=by rw [<-hw9];exact BC.start w8 (uC d) 39
 have hb79:uB w7 w9:=hb8.trans (hb9.mono hb8.size)
 have hbv9:=HBV7.out.keep hb79 HBV7.out.lt
 have hg9:=HX7.out.keep hb79 HX7.out.lt
 have HB59:=qh (HB57.out.trans (hb79.mono HB57.out.size));have HBV9:=qh hbv9;have HX9:=qh hx9;have HXG9:=qh hg9;have HG9:=qh (HG7.out.later_ hb79)
 have HD9:Hid (IsComp w9 w9.heap.size T.1 d):=qh ((hd.sub (Zk _ _ _)).later_ hb9)
 clear v0 v1 v2 v3 v4 c0 c1 c2 c3 c4 c5 c6 c7 c8 c9 c10 c11 zv zc
 obtain ⟨v0,v1,v2,v3,v4⟩:=row5 hbv9.at_
 obtain ⟨x0,x1,x2,x3,x4⟩:=row5 hg9.at_
 obtain ⟨d0,d1,d2,d3,d4,d5,d6,d7,d8,d9,d10,d11⟩:=row12 hx9.at_
 have zv:=hbv9.lt;have zx:=hg9.lt;have zd:=hx9.lt
 clear hb8 hb9 hb79 hbv9 hg9 hx9 hd HBV7 HX7 HG7 HBC7 HTD HC5
 obtain ⟨T1,te⟩:=T
 dsimp only at HD9 HBK HER HTS ⊢
 rcases HER.out with rfl|rfl
 .have hbk:=HBK.out rfl
  have HT2:Hid (uP 27 #[.agg (uV g), .agg (uC d)] w9 (TdPost .u16 w9 (cm,0))):=qh (by
   rw [<-hbk.2]
   have hsd:=(Zu (J9 hbk.2).1).1
   have hxw:T1.v.weight<=20000:=by
    have h:=hsd
    unfold cmSound at h
    simp only [Bool.and_eq_true,decide_eq_true_eq] at h
    exact h.2
   have hsz:T1.s.size<=1000000000000:=HTS.out
   cases HD9.out with
   |mk d p xv hcb hp hxv=>exact Qa w9 g Y.1 HG9.out HYW.out p xv d hcb hp hxv (by dsimp only at hxw;omega) hsz (HTT.out.below (HA5.out.trans (HB59.out.mono HA5.out.size))))
  clear hbk HBK HER HD9 HYW
  go_wp2_with fail
  refine HT2.out.mono ?_
  rintro e w10 ⟨⟨f,rfl,hf⟩,hb10⟩
  obtain ⟨w11,hw11⟩:∃W,w10.alloc (.cells (uC f) 39)=W:=⟨_,rfl⟩
  have hb11:uB w10 w11:=by rw [<-hw11];exact Zo w10 _
  have hx11:BC w11 w10.heap.size (ccells f):=by rw [<-hw11];exact BC.start w10 (uC f) 39
  have hb911:uB w9 w11:=hb10.trans (hb11.mono hb10.size)
  have hbv11:=HBV9.out.keep hb911 HBV9.out.lt
  have hg11:=HXG9.out.keep hb911 HXG9.out.lt
  have HB511:=qh (HB59.out.trans (hb911.mono HB59.out.size));have HXG11:=qh hg11;have HG11:=qh (HG9.out.later_ hb911)
  have HF11:Hid (IsComp w11 w11.heap.size cm f):=qh ((hf.sub (Zk _ _ _)).later_ hb11)
  clear v0 v1 v2 v3 v4 x0 x1 x2 x3 x4 d0 d1 d2 d3 d4 d5 d6 d7 d8 d9 d10 d11 zv zx zd
  obtain ⟨v0,v1,v2,v3,v4⟩:=row5 hbv11.at_
  obtain ⟨c0,c1,c2,c3,c4,c5,c6,c7,c8,c9,c10,c11⟩:=row12 hx11.at_
  have zv:=hbv11.lt;have zc:=hx11.lt
  clear hb10 hb11 hb911 hbv11 hg11 hx11 hf HBV9 HXG9 HG9 HX9 HT2 HB59
  go_upto_region 12 with fail
  clear hw11
  go_wp2_with fail
  refine (HDO.out _ f HB511.out HF11.out).mono ?_
  rintro e w12 ⟨⟨q,rfl,hq⟩,hb12⟩
  obtain ⟨w13,hw13⟩:∃W,w12.alloc (.cells (uV q) 36)=W:=⟨_,rfl⟩
  have hb13:uB w12 w13:=by rw [<-hw13];exact Zo w12 _
  have hx13:BC w13 w12.heap.size (vcells q):=by rw [<-hw13];exact BC.start w12 (uV q) 36
  have hb1113:uB w11 w13:=hb12.trans (hb13.mono hb12.size)
  have hg13:=HXG11.out.keep hb1113 HXG11.out.lt
  have HSM:Hid (uP 17 #[.agg (uV q), .agg (uV g)] w13 fun e w'=>e= .returned (.bool true)/\uB w13 w'):=qh (by
   have:=J3 Y.1 Y.1 w13 q g (hq.later_ hb13) (HG11.out.later_ hb1113)
   rw [Jj rfl] at this;exact this)
  have HA13:=qh (HA5.out.trans ((HB511.out.trans (hb1113.mono HB511.out.size)).mono HA5.out.size))
  clear v0 v1 v2 v3 v4 c0 c1 c2 c3 c4 c5 c6 c7 c8 c9 c10 c11 zv zc
  obtain ⟨q0,q1,q2,q3,q4⟩:=row5 hx13.at_
  obtain ⟨x0,x1,x2,x3,x4⟩:=row5 hg13.at_
  have zq:=hx13.lt;have zx:=hg13.lt
  clear hb12 hb13 hb1113 hg13 hx13 hq HXG11 HG11 HF11 HDO HB511
  go_upto_region 13 with fail
  clear hw13
  go_wp2_with fail
  refine HSM.out.mono ?_
  rintro e w14 ⟨rfl,hb14⟩
  have HA14:=qh (HA13.out.trans (hb14.mono HA13.out.size))
  clear hb14
  go_wp2_with fail
  go_returns
  exact ⟨rfl,HA14.out⟩
 .clear HBK HER
  go_wp2_with fail
  go_returns
  exact ⟨rfl,HA5.out.trans (HB59.out.mono HA5.out.size)⟩
end Go.Proofs.YtnjgbiachcfigaaGreatDoor
