/-
  Contracts of the functions that the law reaches: What stands at a path apart from one at.
-/
import Derived.Test.YtnjgbiachcfigaaGreatDoorCt40
namespace Go.Proofs.YtnjgbiachcfigaaGreatDoor
open Go.RowKit
set_option maxHeartbeats 4000000
inductive V.Low:V->Prop
 |mk (k n:Int) (s:ByteArray) (l:List V) (o:List (ByteArray×V)) (hz:s.size<=40) (hs:∀b ∈ s.data.toList,b.toNat<128) (hl:∀x ∈ l,V.Low x) (ho:∀f ∈ o,V.Low f.2):V.Low (.mk k n s l o)
theorem Qt:∀b ∈ ByteArray.empty.data.toList,b.toNat<128:=fun b h=>by cases h
theorem zai:V.none.Low:= .mk _ _ _ _ _ (by decide) Qt (fun _ h=>by cases h) (fun _ h=>by cases h)
theorem V.Low.str {v:V} (h:v.Low):∀b ∈ v.str.data.toList,b.toNat<128:=by cases h with|mk k n s l o hz hs hl ho=>exact hs
theorem V.Low.few {v:V} (h:v.Low):v.str.size<=40:=by cases h with|mk k n s l o hz hs hl ho=>exact hz
theorem V.Low.ls {v:V} (h:v.Low):∀x ∈ v.ls,x.Low:=by cases h with|mk k n s l o hz hs hl ho=>exact hl
theorem V.Low.os {v:V} (h:v.Low):∀f ∈ v.os,f.2.Low:=by cases h with|mk k n s l o hz hs hl ho=>exact ho
theorem K6 (s:ByteArray):∀b ∈ (plainS s).data.toList,b.toNat<128:=by
 intro b hb
 have:b ∈ plainL s.data.toList:=by simpa [plainS] using hb
 obtain ⟨c,_,rfl⟩:=List.mem_map.1 this
 exact K3 c
theorem Kw (t:Tk):(leafP t).Low:=by
 unfold leafP
 repeat' split
 all_goals first
  |exact .mk _ _ _ _ _ (Yr _) (K6 _) (fun _ h=>by cases h) (fun _ h=>by cases h)
  |exact .mk _ _ _ _ _ (by decide) Qt (fun _ h=>by cases h) (fun _ h=>by cases h)
theorem zde {f:List Tk->V×Nat} (hf:∀l,(f l).1.Low) (l:List Tk):∀j,∀x ∈ (bL f l j).1,x.Low:=by
 intro j
 induction j with
 |zero=>intro x h;cases h
 | succ j ih=>
   intro x h
   rw [bL] at h
   rcases List.mem_append.1 h with h|h
   .exact ih x h
   .rw [List.mem_singleton] at h;subst h;exact hf _
theorem zcz {f:List Tk->V×Nat} (hf:∀l,(f l).1.Low) (l:List Tk):∀j,∀x ∈ (bO f l j).1,x.2.Low:=by
 intro j
 induction j with
 |zero=>intro x h;cases h
 | succ j ih=>
   intro x h
   rw [bO] at h
   rcases J5 h with h|h
   .exact ih x h
   .subst h;exact hf _
theorem zef (d:Nat):∀l,(oneP d l).1.Low:=by
 induction d with
 | zero=>
   intro l
   cases l with
   |nil=>exact zai
   |cons t r=>exact Kw t
 | succ d ih=>
   intro l
   cases l with
   |nil=>exact zai
   | cons t r=>
     rw [oneP]
     split
     .exact .mk _ _ _ _ _ (by decide) Qt (zde ih _ _) (fun _ h=>by cases h)
     .split
      .exact .mk _ _ _ _ _ (by decide) Qt (fun _ h=>by cases h) (zcz ih _ _)
      .exact Kw t
theorem zj2 {v:V} {s:St} {x:V} {k:Nat} (hv:v.Low) (h:stepP v s=some (x,k)):x.Low:=by
 rcases Xd h with ⟨_,_,_,hk,rfl⟩|⟨_,_,_,hk,rfl⟩
 .exact hv.ls _ (List.getElem_mem _)
 .exact hv.os _ (List.getElem_mem _)
theorem zav (p:List St):∀ {v x:V},v.Low->getP v p=some x->x.Low:=by
 induction p with
 |nil=>intro v x hv h;injection h with h;exact h ▸ hv
 | cons s r ih=>
   intro v x hv h
   unfold getP at h
   cases hs:stepP v s with
   |none=>rw [hs] at h;cases h
   | some q=>
     obtain ⟨y,k⟩:=q
     rw [hs] at h
     exact ih (zj2 hv hs) h
theorem zea (f:Nat):∀(i:Nat) (l:List UInt8),l.length<=f->(∀b ∈ l,b.toNat<128)->(cutsP f i l).length=l.length:=by
 induction f with
 |zero=>intro i l hl _;obtain rfl:l= [] :=List.length_eq_zero_iff.1 (by omega);rfl
 | succ f ih=>
   intro i l hl hb
   cases l with
   |nil=>simp [cutsP]
   | cons b t=>
     rw [cutsP,if_neg (by simp),List.length_cons,Lib.decodeL_ascii b t (hb b List.mem_cons_self)]
     show (cutsP f (i+1) t).length+1=_
     rw [ih (i+1) t (by simpa using hl) (fun c hc=>hb c (List.mem_cons_of_mem _ hc)),List.length_cons]
theorem zfg {s:ByteArray} (h:∀b ∈ s.data.toList,b.toNat<128):textN s=s.size:=by
 have:=zea s.size 0 s.data.toList (by simp) h
 rw [textN,cuts,List.length_append,this]
 simp
theorem zfi {o:List (ByteArray×V)} (h:rising o=true) {j:Nat} (hj:j<o.length):fieldK o o[j].1=j/\fieldIs o o[j].1=true:=by
 have hg:=Xj.1 h
 have up:∀d i (hi:i+d+1<o.length),Op.bytesLess (o[i]'(by omega)).1.toList (o[i+d+1]'hi).1.toList=true:=by
  intro d
  induction d with
  |zero=>intro i hi;exact hg i _ _ (List.getElem?_eq_getElem (by omega)) (List.getElem?_eq_getElem hi)
  | succ d ih=>
    intro i hi
    exact Jt (ih i (by omega)) (hg (i+d+1) _ _ (List.getElem?_eq_getElem (by omega)) (List.getElem?_eq_getElem hi))
 have hk:fieldK o o[j].1=j:=by
  refine Xw o _ j (fun i hi hij=> ?_) (by omega) (.inr ⟨hj, ?_⟩)
  .obtain ⟨d,rfl⟩:∃d,j=i+d+1:=⟨j - i - 1,by omega⟩
   exact up d i hj
  .cases hb:Op.bytesLess o[j].1.toList o[j].1.toList with
   |false=>rfl
   |true=>exact absurd rfl (Jm _ _ hb).2
 refine ⟨hk, ?_⟩
 unfold fieldIs
 rw [hk,List.getElem?_eq_getElem hj]
 simp
theorem zht {v:V} (hv:v.sound=true) (h:0<v.ls.length):v.kd=4:=by
 obtain ⟨k,n,t,l,o,rfl⟩:=v.eta
 have h1:=(Zs.1 hv).1
 have h:0<l.length:=h
 have hne:l≠ [] :=List.length_pos_iff.1 h
 show k=4
 by_cases e:k=4
 .exact e
 .exfalso
  unfold plainB at h1
  repeat' split at h1
  all_goals first|exact e (by assumption)|(simp at h1;done)|(simp at h1;exact hne (by first|exact h1.1.2|exact h1.2|exact h1.2.1|exact h1.1.2.1))
theorem zk2 {v:V} (hv:v.sound=true) (h:0<v.os.length):v.kd=5:=by
 obtain ⟨k,n,t,l,o,rfl⟩:=v.eta
 have h1:=(Zs.1 hv).1
 have h:0<o.length:=h
 have hne:o≠ [] :=List.length_pos_iff.1 h
 show k=5
 by_cases e:k=5
 .exact e
 .exfalso
  unfold plainB at h1
  repeat' split at h1
  all_goals first|exact e (by assumption)|(simp at h1;done)|(simp at h1;exact hne (by first|exact h1.2|exact h1.1.2|exact h1.2.2))
theorem zgj (bs:List UInt8):∀ {v:V} (m:Nat),v.sound=true->∃x,getP v ((walkP v bs).take m)=some x:=by
 induction bs with
 |nil=>intro v m _;exact ⟨v,by simp [walkP,getP]⟩
 | cons b r ih=>
   intro v m hv
   obtain ⟨kk,n,t,l,o,rfl⟩:=v.eta
   obtain ⟨h1,h2,h3,h4⟩:=Zs.1 hv
   unfold walkP
   cases m with
   |zero=>exact ⟨_,by rw [List.take_zero];rfl⟩
   |succ m=>
   split
   .rename_i hc
    have hkd:=zht hv hc
    have hlt:b.toNat % l.length<l.length:=Nat.mod_lt _ hc
    have hs:stepP (.mk kk n t l o) ⟨true,((b.toNat % l.length:Nat):Int), .empty⟩=some (l.getD (b.toNat % l.length) V.none,b.toNat % l.length):=by
     unfold stepP
     rw [if_pos rfl]
     have e:((V.mk kk n t l o).ls)=l:=rfl
     rw [e,if_pos ⟨hkd,by show (0:Int)<=((b.toNat % l.length:Nat):Int);omega,by show ((b.toNat % l.length:Nat):Int)<(l.length:Int);omega⟩]
     rfl
    obtain ⟨x,hx⟩:=ih (v:=l.getD (b.toNat % l.length) V.none) m (by
     rw [List.getD_eq_getElem?_getD,List.getElem?_eq_getElem hlt];exact h3 _ (List.getElem_mem hlt))
    refine ⟨x, ?_⟩
    rw [List.take_succ_cons]
    unfold getP
    show (match stepP (.mk kk n t l o) ⟨true,((b.toNat % l.length:Nat):Int), .empty⟩ with|none=>none|some q=>getP q.1 _)=_
    rw [hs]
    exact hx
   .split
    .rename_i hc
     have hkd:=zk2 hv hc
     have hlt:b.toNat % o.length<o.length:=Nat.mod_lt _ hc
     have eg:o.getD (b.toNat % o.length) (.empty,V.none)=o[b.toNat % o.length] :=by rw [List.getD_eq_getElem?_getD,List.getElem?_eq_getElem hlt];rfl
     obtain ⟨f1,f2⟩:=zfi h2 hlt
     have hs:stepP (.mk kk n t l o) ⟨false,0,(o.getD (b.toNat % o.length) (.empty,V.none)).1⟩=some ((o.getD (b.toNat % o.length) (.empty,V.none)).2,b.toNat % o.length):=by
      rw [eg]
      unfold stepP
      rw [if_neg (by simp)]
      have e:((V.mk kk n t l o).os)=o:=rfl
      dsimp only
      rw [e,if_pos ⟨hkd,f2⟩,f1,eg]
     obtain ⟨x,hx⟩:=ih (v:=(o.getD (b.toNat % o.length) (.empty,V.none)).2) m (by rw [eg];exact (h4 _ (List.getElem_mem hlt)).2)
     refine ⟨x, ?_⟩
     rw [List.take_succ_cons]
     unfold getP
     show (match stepP (.mk kk n t l o) ⟨false,0,(o.getD (b.toNat % o.length) (.empty,V.none)).1⟩ with|none=>none|some q=>getP q.1 _)=_
     rw [hs]
     exact hx
    .exact ih (m+1) hv
theorem ziq (bs:List UInt8):∀ {v:V},v.sound=true->∀s ∈ walkP v bs,s.ok=true:=by
 induction bs with
 |nil=>intro v _ s h;cases h
 | cons b r ih=>
   intro v hv s h
   obtain ⟨kk,n,t,l,o,rfl⟩:=v.eta
   obtain ⟨h1,h2,h3,h4⟩:=Zs.1 hv
   unfold walkP at h
   split at h
   .rename_i hc
    have hlt:b.toNat % l.length<l.length:=Nat.mod_lt _ hc
    rcases List.mem_cons.1 h with h|h
    .subst h
     show (List.isEmpty ByteArray.empty.toList && decide ((0:Int)<=((b.toNat % l.length:Nat):Int)))=true
     rw [decide_eq_true (by omega),ByteArray.toList_eq];rfl
    .refine ih ?_ s h
     show (l.getD (b.toNat % l.length) V.none).sound=true
     rw [List.getD_eq_getElem?_getD,List.getElem?_eq_getElem hlt]
     exact h3 _ (List.getElem_mem hlt)
   .split at h
    .rename_i hc
     have hlt:b.toNat % o.length<o.length:=Nat.mod_lt _ hc
     have eg:o.getD (b.toNat % o.length) (.empty,V.none)=o[b.toNat % o.length] :=by rw [List.getD_eq_getElem?_getD,List.getElem?_eq_getElem hlt];rfl
     have hf:=h4 _ (List.getElem_mem hlt)
     rcases List.mem_cons.1 h with h|h
     .subst h
      show ((0:Int)==0 && Lib.validD (o.getD (b.toNat % o.length) (.empty,V.none)).1.data.toList)=true
      rw [eg,hf.1];rfl
     .refine ih ?_ s h
      show (o.getD (b.toNat % o.length) (.empty,V.none)).2.sound=true
      rw [eg];exact hf.2
    .exact ih hv s h
theorem zd1 {v:V} {bs:List UInt8} {s:St} (h:s ∈ aimPath v bs):s ∈ walkP v (bs.take 8):=List.mem_of_mem_take (List.mem_of_mem_take h)
theorem zlj {v:V} (hv:v.sound=true) (bs:List UInt8):∃x,getP v (aimPath v bs)=some x:=by
 unfold aimPath wayP
 rw [List.take_take]
 exact zgj _ _ hv
theorem zg8 {v:V} (hv:v.sound=true) (bs:List UInt8):pathSound (aimPath v bs)=true:=by
 have hl:(aimPath v bs).length<=5:=by unfold aimPath wayP;rw [List.length_take,List.length_take];omega
 rw [pathSound,decide_eq_true (by omega),Bool.true_and,List.all_eq_true]
 exact fun s h=>ziq _ hv s (zd1 h)
theorem Yv {c:Cm} (hk:kIs c.k=true) (hb:c.bare=⟨c.k,c.path, .empty,0,0,0,V.none, .empty⟩) (hp:pathSound c.path=true) (h1:Lib.validD c.key.data.toList=true) (h2:Lib.validD c.s.data.toList=true) (hi:0<=c.i) (hj:0<=c.j) (h8:c.k=8->c.s.toList≠ []) (h9:c.k=9->1<=c.n) (hv:c.v.sound=true) (hd:c.path.length+1+c.v.deep<=16) (hw:c.v.weight<=20000):cmSound c=true:=by
 unfold cmSound
 rw [hk,Xb hb,hp,h1,h2,decide_eq_true hi,decide_eq_true hj,hv,decide_eq_true hd,decide_eq_true hw]
 have e8:(c.k==8 && c.s.toList.isEmpty)=false:=by
  by_cases e:c.k=8
  .have:=h8 e
   cases hq:c.s.toList with
   |nil=>exact absurd hq this
   |cons a b=>simp
  .simp [e]
 have e9:(c.k==9 && decide (c.n<1))=false:=by
  by_cases e:c.k=9
  .have:=h9 e;simp;omega
  .simp [e]
 rw [e8,e9];rfl
theorem J9:V.none.deep<=1:=by simp [V.none,V.deep,deepL,deepO]
theorem Yx:Lib.validD ByteArray.empty.data.toList=true:=rfl
theorem Xa {v x:V} {c:Cm} (hs:cmSound c=true) (hg:getP v c.path=some x) (hk:kindsP x c.k c.i c.j c.n c.key=0):checkP v c=0:=by
 unfold checkP
 rw [hs,if_neg (by simp)]
 simp only [hg]
 exact hk
theorem zik {v:V} {a:Ac} {c:Cm} (hv:v.sound=true) (hlow:v.Low) (h:oneC v a=some c):checkP v c=0/\c.path=aimPath v a.path:=by
 obtain ⟨x,hg⟩:=zlj hv a.path
 have hps:=zg8 hv a.path
 have hl:(aimPath v a.path).length<=5:=by unfold aimPath wayP;rw [List.length_take,List.length_take];omega
 have hx:xAt v (aimPath v a.path)=x:=by rw [xAt,hg];rfl
 have hxs:=Jq _ hv hg
 have hxl:=zav _ hlow hg
 obtain ⟨p,hp⟩:∃p,aimPath v a.path=p:=⟨_,rfl⟩
 unfold oneC at h
 rw [hx] at h
 rw [hp] at h hg hps hl ⊢
 obtain ⟨bv1,bw,bd,bs,_⟩:=Jn a.v
 have nd:=J9
 have nw:=Xf
 have ns:V.none.sound=true:=X5
 unfold oneX at h
 by_cases c1:x.kd=2
 .rw [if_pos c1] at h
  injection h with h;subst h
  refine ⟨Xa (Yv rfl rfl hps Yx Yx (by show (0:Int)<=0;decide) (by show (0:Int)<=0;decide) (fun e=>absurd e (by show ¬(1:Int)=8;decide)) (fun e=>absurd e (by show ¬(1:Int)=9;decide)) ns (by show p.length+1+V.none.deep<=16;omega) (by show V.none.weight<=20000;omega)) hg ?_,rfl⟩
  show kindsP x 1 0 0 a.n .empty=0
  rw [kindsP,if_pos rfl,if_neg (by simpa using c1)]
 rw [if_neg c1] at h
 by_cases c3:x.kd=3
 .rw [if_pos c3] at h
  injection h with h
  have htn:=zfg hxl.str
  have hkp:∀k i n,(k=8∨k=9)->tCheck x.str k i n=0->kindsP x k i 0 n .empty=0:=fun k i n hk ht=>by
   rw [kindsP,if_neg (by omega),if_neg (by omega),if_pos hk,if_neg (by simpa using c3)];exact ht
  have hi0:∀m:Int,0<m->0<=max a.bare.i 0 % m/\max a.bare.i 0 % m<m:=fun m hm=>⟨Int.emod_nonneg _ (by omega),Int.emod_lt_of_pos _ hm⟩
  unfold textA at h
  by_cases c9:0<x.str.size/\a.bare.k % 2=0
  .rw [if_pos c9] at h
   subst h
   obtain ⟨m0,m1⟩:=hi0 (x.str.size:Int) (by omega)
   have n0:=Int.emod_nonneg (max a.bare.j 0) (show ((x.str.size:Int) - max a.bare.i 0 % (x.str.size:Int))≠0 by omega)
   have n1:=Int.emod_lt_of_pos (max a.bare.j 0) (show 0<((x.str.size:Int) - max a.bare.i 0 % (x.str.size:Int)) by omega)
   refine ⟨Xa (Yv rfl rfl hps Yx Yx m0 (by show (0:Int)<=0;decide) (fun e=>absurd e (by show ¬(9:Int)=8;decide)) (fun _=> ?_) ns (by show p.length+1+V.none.deep<=16;omega) (by show V.none.weight<=20000;omega)) hg (hkp 9 _ _ (.inr rfl) ?_),rfl⟩
   .show (1:Int)<=1+max a.bare.j 0 % ((x.str.size:Int) - max a.bare.i 0 % (x.str.size:Int));omega
   .show tCheck x.str 9 (max a.bare.i 0 % (x.str.size:Int)) (1+max a.bare.j 0 % ((x.str.size:Int) - max a.bare.i 0 % (x.str.size:Int)))=0
    rw [tCheck,if_neg (by omega),if_neg (by rw [htn];omega),if_neg (by rw [htn];omega)]
  .rw [if_neg c9] at h
   subst h
   obtain ⟨m0,m1⟩:=hi0 ((x.str.size:Int)+1) (by omega)
   refine ⟨Xa (Yv rfl rfl hps Yx ?_ m0 (by show (0:Int)<=0;decide) (fun _=> ?_) (fun e=>absurd e (by show ¬(8:Int)=9;decide)) ns (by show p.length+1+V.none.deep<=16;omega) (by show V.none.weight<=20000;omega)) hg (hkp 8 _ _ (.inl rfl) ?_),rfl⟩
   .refine Qk fun b hb=> ?_
    have hb:b ∈ (({ data:= #[120] } :ByteArray)++plainS a.s).data.toList:=hb
    rw [ByteArray.data_append,Array.toList_append] at hb
    rcases List.mem_append.1 hb with hb|hb
    .rw [show ({ data:= #[120] } :ByteArray).data.toList= [120] from rfl,List.mem_singleton] at hb
     subst hb;decide
    .exact K6 _ b hb
   .show (({ data:= #[120] } :ByteArray)++plainS a.s).toList≠ []
    rw [ByteArray.toList_eq,ByteArray.data_append,Array.toList_append]
    simp
   .show tCheck x.str 8 (max a.bare.i 0 % ((x.str.size:Int)+1)) 0=0
    rw [tCheck,if_neg (by omega),if_neg (by rw [htn];omega),if_neg (by omega)]
 rw [if_neg c3] at h
 by_cases c4:x.kd=4
 .rw [if_pos c4] at h
  injection h with h
  have hkp:∀k i j,4<=k->k<=7->lCheck x.ls.length k i j=0->kindsP x k i j 0 .empty=0:=fun k i j h4 h7 ht=>by
   rw [kindsP,if_neg (by omega),if_neg (by omega),if_neg (by omega),if_neg (by simpa using c4)];exact ht
  obtain ⟨N,hN⟩:∃N,x.ls.length=N:=⟨_,rfl⟩
  rw [hN] at h hkp
  obtain ⟨K,hK⟩:∃K,listK N a.bare.k=K:=⟨_,rfl⟩
  have hKr:4<=K/\K<=7/\(N=0->K=4):=by
   rw [<-hK];unfold listK;split<;>omega
  have hK2:listK N a.k=K:=hK
  subst h
  have hi:0<=(if K=4 then max a.bare.i 0 % ((N:Int)+1) else max a.bare.i 0 % (N:Int))/\(if K=4 then max a.bare.i 0 % ((N:Int)+1) else max a.bare.i 0 % (N:Int))<=N/\(K≠4->(if K=4 then max a.bare.i 0 % ((N:Int)+1) else max a.bare.i 0 % (N:Int))<N):=by
   by_cases e:K=4
   .rw [if_pos e]
    have m0:=Int.emod_nonneg (max a.bare.i 0) (show ((N:Int)+1)≠0 by omega)
    have m1:=Int.emod_lt_of_pos (max a.bare.i 0) (show (0:Int)<(N:Int)+1 by omega)
    exact ⟨m0,by omega,fun h=>absurd e h⟩
   .rw [if_neg e]
    have hn:N≠0:=fun hn=>e (hKr.2.2 hn)
    have m0:=Int.emod_nonneg (max a.bare.i 0) (show (N:Int)≠0 by omega)
    have m1:=Int.emod_lt_of_pos (max a.bare.i 0) (show (0:Int)<(N:Int) by omega)
    exact ⟨m0,by omega,fun _=>m1⟩
  have hj:0<=(if K=7 then max a.bare.j 0 % (N:Int) else 0)/\(K=7->(if K=7 then max a.bare.j 0 % (N:Int) else 0)<N):=by
   by_cases e:K=7
   .rw [if_pos e]
    have hn:N≠0:=fun hn=>by have:=hKr.2.2 hn;omega
    exact ⟨Int.emod_nonneg _ (by omega),fun _=>Int.emod_lt_of_pos _ (by omega)⟩
   .rw [if_neg e];exact ⟨Int.le_refl _,fun h=>absurd h e⟩
  obtain ⟨I,hI⟩:∃I,(if K=4 then max a.bare.i 0 % ((N:Int)+1) else max a.bare.i 0 % (N:Int))=I:=⟨_,rfl⟩
  obtain ⟨J,hJ⟩:∃J,(if K=7 then max a.bare.j 0 % (N:Int) else 0)=J:=⟨_,rfl⟩
  rw [hI] at hi;rw [hJ] at hj
  have hV:listV N a.k a.v=if K=4∨K=6 then (oneP 6 (a.v.take 60)).1 else V.none:=by rw [listV,hK2]
  obtain ⟨X,hX⟩:∃X,listV N a.k a.v=X:=⟨_,rfl⟩
  rw [hX] at hV ⊢
  have hc:cmOf p X (listA N a.bare czero vzero)=⟨K,p, .empty,I,J,0,X, .empty⟩:=by
   unfold cmOf listA
   dsimp only
   rw [hK,hI,show (if K=7 then max a.bare.j 0 % (N:Int) else czero.j)=J from hJ];rfl
  rw [hc]
  have hXs:X.sound=true/\X.deep<=6/\X.weight<=20000:=by
   rw [hV];split
   .exact ⟨bs,bd,bw⟩
   .exact ⟨ns,by omega,by omega⟩
  refine ⟨Xa (Yv ?_ ?_ hps Yx Yx hi.1 hj.1 (fun e=> ?_) (fun e=> ?_) hXs.1 (by show p.length+1+X.deep<=16;omega) hXs.2.2) hg (hkp K I J hKr.1 hKr.2.1 ?_),rfl⟩
  .show kIs K=true
   unfold kIs;rw [decide_eq_true (by omega),decide_eq_true (by omega)];rfl
  .have eI:kI K=true:=by unfold kI;rw [decide_eq_true (by omega),decide_eq_true (by omega)];rfl
   have eJ:(if kJ K=true then (0:Int) else J)=0:=by
    unfold kJ
    by_cases e:K=7
    .rw [if_pos (by simp [e])]
    .rw [if_neg (by simp [e]), <-hJ,if_neg e]
   have eV:(if kV K=true then V.none else X)=V.none:=by
    unfold kV
    by_cases e:K=4∨K=6
    .rw [if_pos (by rcases e with e|e<;>simp [e])]
    .rw [if_neg (by simp;omega),hV,if_neg e]
   unfold Cm.bare
   dsimp only
   rw [if_pos eI,eJ,eV]
   have e1:∀b:Bool,(if b=true then ByteArray.empty else ByteArray.empty)=ByteArray.empty:=fun b=>by cases b<;>rfl
   have e2:∀b:Bool,(if b=true then (0:Int) else 0)=0:=fun b=>by cases b<;>rfl
   rw [e1,e1,e2]
  .have:K=8:=e
   omega
  .have:K=9:=e
   omega
  .rw [lCheck,if_neg (by omega),if_neg (by omega),if_neg (by omega)]
 rw [if_neg c4] at h
 by_cases c5:x.kd=5
 .rw [if_pos c5] at h
  injection h with h
  obtain ⟨Y,hY⟩:∃Y,fieldKey x.os a.bare=Y:=⟨_,rfl⟩
  have hYv:Lib.validD Y.data.toList=true:=by
   rw [<-hY];unfold fieldKey
   split
   .rename_i hc
    obtain ⟨kk,n,t,l,o,rfl⟩:=x.eta
    have hlt:(max a.bare.i 0 % ((V.mk kk n t l o).os.length:Int)).toNat<o.length:=by
     have hc1:0<o.length:=hc.1
     have h1:=Int.emod_nonneg (max a.bare.i 0) (show (o.length:Int)≠0 by omega)
     have h2:=Int.emod_lt_of_pos (max a.bare.i 0) (show (0:Int)<o.length by omega)
     show (max a.bare.i 0 % (o.length:Int)).toNat<o.length
     omega
    have e:(V.mk kk n t l o).os=o:=rfl
    rw [e] at hlt ⊢
    rw [List.getD_eq_getElem?_getD,List.getElem?_eq_getElem hlt]
    exact ((Zs.1 hxs).2.2.2 _ (List.getElem_mem hlt)).1
   .exact Jy _
  obtain ⟨X,hX⟩:∃X,fieldV x.os a.bare a.v=X:=⟨_,rfl⟩
  have hXs:X.sound=true/\X.deep<=6/\X.weight<=20000:=by
   rw [<-hX];unfold fieldV;split
   .exact ⟨ns,by omega,by omega⟩
   .exact ⟨bs,bd,bw⟩
  subst h
  cases hB:fieldB x.os a.bare with
  | true=>
    have hc:cmOf p (fieldV x.os a.bare a.v) (fieldA x.os a.bare czero vzero)=⟨3,p,Y,0,0,0,V.none, .empty⟩:=by
     unfold cmOf fieldA fieldV
     dsimp only
     rw [hB,if_pos rfl,if_pos rfl,hY];rfl
    rw [hc]
    refine ⟨Xa (Yv rfl rfl hps hYv Yx (by show (0:Int)<=0;decide) (by show (0:Int)<=0;decide) (fun e=>absurd e (by show ¬(3:Int)=8;decide)) (fun e=>absurd e (by show ¬(3:Int)=9;decide)) ns (by show p.length+1+V.none.deep<=16;omega) (by show V.none.weight<=20000;omega)) hg ?_,rfl⟩
    show kindsP x 3 0 0 0 Y=0
    have hf:fieldIs x.os Y=true:=by
     unfold fieldB at hB
     rw [hY,Bool.and_eq_true] at hB
     exact hB.1
    rw [kindsP,if_neg (by omega),if_pos (.inr rfl),if_neg (by simpa using c5),if_neg (by rw [hf];simp)]
  | false=>
    have hc:cmOf p (fieldV x.os a.bare a.v) (fieldA x.os a.bare czero vzero)=⟨2,p,Y,0,0,0,X, .empty⟩:=by
     unfold cmOf fieldA
     dsimp only
     rw [hB,if_neg (by simp),hY,hX];rfl
    rw [hc]
    refine ⟨Xa (Yv rfl rfl hps hYv Yx (by show (0:Int)<=0;decide) (by show (0:Int)<=0;decide) (fun e=>absurd e (by show ¬(2:Int)=8;decide)) (fun e=>absurd e (by show ¬(2:Int)=9;decide)) hXs.1 (by show p.length+1+X.deep<=16;omega) hXs.2.2) hg ?_,rfl⟩
    show kindsP x 2 0 0 0 Y=0
    rw [kindsP,if_neg (by omega),if_pos (.inl rfl),if_neg (by simpa using c5),if_neg (by omega)]
 rw [if_neg c5] at h
 cases h
def kA:ByteArray:= { data:= #[97] }
def kB:ByteArray:= { data:= #[98] }
def kZ:ByteArray:= { data:= #[122] }
def kvI (n:Int):V:= .mk 2 n .empty [] []
def kvV:V:= .mk 5 0 .empty [] [(kA,kvI 1)]
theorem zaz (n:Int):(kvI n).sound=true:=Zs.2 ⟨by simp [plainB,ByteArray.toList_eq],by rfl,(fun v h=>by cases h),(fun f h=>by cases h)⟩
theorem zcd:Lib.validD kA.data.toList=true:=Qk (fun b h=>by simp [kA] at h;subst h;decide)
theorem zdf:Lib.validD kB.data.toList=true:=Qk (fun b h=>by simp [kB] at h;subst h;decide)
theorem zh5:Lib.validD kZ.data.toList=true:=Qk (fun b h=>by simp [kZ] at h;subst h;decide)
theorem zat:kvV.sound=true:=Zs.2 ⟨by simp [plainB,ByteArray.toList_eq],by rfl,(fun v h=>by cases h),(fun f h=>by
 rw [List.mem_singleton] at h;subst h;exact ⟨zcd,zaz 1⟩)⟩
theorem Ql:kvV.weight=3:=by
 have:kA.size=1:=rfl
 simp [kvV,kvI,V.weight,weightL,weightO,weightF,this]
theorem zar:Op.bytesLess kA.toList kB.toList=true:=by rw [ByteArray.toList_eq,ByteArray.toList_eq];rfl
theorem zjd:Op.bytesLess kA.toList kZ.toList=true:=by rw [ByteArray.toList_eq,ByteArray.toList_eq];rfl
theorem zg3:Op.bytesLess kA.toList kA.toList=false:=by rw [ByteArray.toList_eq];rfl
theorem Kg (key:ByteArray) (h:Op.bytesLess kA.toList key.toList=true):fieldK [(kA,kvI 1)] key=1/\fieldIs [(kA,kvI 1)] key=false:=by
 have h1:fieldK [(kA,kvI 1)] key=1:=by unfold fieldK;rw [List.takeWhile_cons,if_pos h];rfl
 exact ⟨h1,by unfold fieldIs;rw [h1];rfl⟩
theorem K8:fieldK [(kA,kvI 1)] kA=0/\fieldIs [(kA,kvI 1)] kA=true:=by
 have h1:fieldK [(kA,kvI 1)] kA=0:=by unfold fieldK;rw [List.takeWhile_cons,if_neg (by rw [zg3];simp)];rfl
 exact ⟨h1,by unfold fieldIs;rw [h1];simp⟩
def kc1:Cm:=⟨2, [],kB,0,0,0,kvI 2, .empty⟩
def kc2:Cm:=⟨1, [⟨false,0,kA⟩], .empty,0,0,2,V.none, .empty⟩
def kc3:Cm:=⟨3, [],kZ,0,0,0,V.none, .empty⟩
theorem zgc:cmSound kc1=true:=Yv rfl rfl rfl zdf rfl (by decide) (by decide) (fun e=>absurd e (by decide)) (fun e=>absurd e (by decide)) (zaz 2) (by simp [kc1,kvI,V.deep,deepL,deepO]) (by simp [kc1,kvI,V.weight,weightL,weightO])
theorem zk1:cmSound kc2=true:=Yv rfl rfl (by simp [kc2,pathSound,St.ok,zcd]) rfl rfl (by decide) (by decide) (fun e=>absurd e (by decide)) (fun e=>absurd e (by decide)) X5 (by have:=J9;simp [kc2];omega) (by have:=Xf;simp [kc2];omega)
theorem zeo:cmSound kc3=true:=Yv rfl rfl rfl zh5 rfl (by decide) (by decide) (fun e=>absurd e (by decide)) (fun e=>absurd e (by decide)) X5 (by have:=J9;simp [kc3];omega) (by have:=Xf;simp [kc3];omega)
theorem kdo1:doP kvV kc1=(.mk 5 0 .empty [] [(kA,kvI 1),(kB,kvI 2)],0):=by
 have hc:checkP kvV kc1=0:=Xa zgc (by rfl) (by simp [kindsP,kc1,kvV,V.kd])
 rw [Yn hc (x:=kvV) rfl]
 have hf:fieldsDo [(kA,kvI 1)] kB (kvI 2) false= [(kA,kvI 1),(kB,kvI 2)] :=by
  rw [Q3 (by rfl),newF,if_neg (by simp),withF,(Kg kB zar).1,(Kg kB zar).2];rfl
 have hd:doneP kvV kc1= .mk 5 0 .empty [] [(kA,kvI 1),(kB,kvI 2)] :=by
  rw [doneP,if_neg (by decide),if_pos (.inl rfl)]
  show V.mk 5 0 .empty [] (fieldsDo [(kA,kvI 1)] kB (kvI 2) ((2:Int)==3))=_
  rw [show ((2:Int)==3)=false from rfl,hf]
 rw [hd];rfl
theorem zay:stepP kvV ⟨false,0,kA⟩=some (kvI 1,0):=by
 unfold stepP
 rw [if_neg (by simp)]
 dsimp only
 have e:kvV.os= [(kA,kvI 1)] :=rfl
 rw [e,K8.1,K8.2,if_pos ⟨rfl,rfl⟩];rfl
theorem kdo2:doP kvV kc2=(.mk 5 0 .empty [] [(kA,kvI 3)],0):=by
 have hg:getP kvV kc2.path=some (kvI 1):=by
  show getP kvV [⟨false,0,kA⟩] =_
  unfold getP;rw [zay];rfl
 have hc:checkP kvV kc2=0:=Xa zk1 hg (by simp [kindsP,kc2,kvI,V.kd])
 rw [Yn hc hg]
 have hd:doneP (kvI 1) kc2=kvI 3:=by
  rw [doneP,if_pos (show kc2.k=1 from rfl)]
  have:wrap64 (1+2)=3:=by unfold wrap64;omega
  show V.mk 2 (wrap64 (1+2)) .empty [] [] = .mk 2 3 .empty [] []
  rw [this]
 rw [hd]
 show doneQ (putP kvV [⟨false,0,kA⟩] (kvI 3))=_
 unfold putP;rw [zay];rfl
theorem kck3:checkP kvV kc3=33:=by
 unfold checkP
 rw [zeo,if_neg (by simp)]
 show kindsP kvV 3 0 0 0 kZ=33
 rw [kindsP,if_neg (by decide),if_pos (.inr rfl),if_neg (by simp [kvV,V.kd]),if_pos ⟨rfl,(Kg kZ zjd).2⟩]
theorem zck (w:World) (B:Nat) (k n:Int) (hk:0<=k/\k<256) (hn: -9223372036854775808<=n/\n<=9223372036854775807):IsVal w B (.mk k n .empty [] []) ⟨k,n, .empty,none,0,0,none,0,0⟩:=
 Yi hk.1 hk.2 hn.1 hn.2 (by decide) ⟨rfl,by decide,by decide,by decide,0,0,fun _=>vzero,fun h=>absurd h (by decide),fun i h=>absurd h (by simp)⟩ (J6 w B)
theorem Js (W:World) (b:Nat) (h:BC W b (fcells (kA,⟨2,1, .empty,none,0,0,none,0,0⟩))):IsVal W W.heap.size kvV ⟨5,0, .empty,none,0,0,some ⟨b,0,none⟩,1,1⟩:=
 Yi (by decide) (by decide) (by decide) (by decide) (by decide) ⟨rfl,by decide,by decide,by decide,0,0,fun _=>vzero,fun h=>absurd h (by decide),fun i h=>absurd h (by simp)⟩ ⟨rfl,by decide,by decide,by decide,b,0,fun _=>⟨2,1, .empty,none,0,0,none,0,0⟩,fun _=>⟨rfl,h.lt⟩,fun i hi=>by
  have h0:i=0:=by simpa using hi
  subst h0
  exact ⟨h.at_ 0 _ rfl,(show kA.size<=140737488355328 by decide),⟨h.at_ 1 _ rfl,h.at_ 2 _ rfl,h.at_ 3 _ rfl,h.at_ 4 _ rfl,h.at_ 5 _ rfl⟩,zck W _ 2 1 (by decide) (by decide)⟩⟩
theorem zgp (w:World) (hT:Tabs w) (b:Nat) (hb:BC w b (fcells (kA,⟨2,1, .empty,none,0,0,none,0,0⟩))):Calls Tryz.prog 15 #[.agg #[.int .u8 5, .int .i64 0, .string { data:= #[] }, .slice none 0 0, .slice (some ⟨b,0,none⟩) 1 1], .agg #[.int .u8 2, .slice none 0 0, .string { data:= #[98] }, .int .i64 0, .int .i64 0, .int .i64 0, .int .u8 2, .int .i64 2, .string { data:= #[] }, .slice none 0 0, .slice none 0 0, .string { data:= #[] }]] w fun e w'=>(∃c:VC,e= .returned (.tuple #[.agg #[.int .u8 c.k, .int .i64 c.n, .string c.s, .slice c.la c.ll c.lc, .slice c.oa c.ol c.oc], .int .u16 0])/\c.ol=2/\∃b2 o2,c.oa=some ⟨b2,o2,none⟩/\b2<w'.heap.size/\w'.cell? ⟨b2,o2+6,none⟩=some (.string { data:= #[98] }))/\Below w.heap.size w w':=by
 refine (Kk w 5 0 .empty none 0 0 (some ⟨b,0,none⟩) 1 1 kvV (Js w b hb) (by rw [Ql];omega) [] (kvI 2) ⟨2,none,0,0,kB,0,0,0,⟨2,2, .empty,none,0,0,none,0,0⟩, .empty⟩ ⟨by dsimp only;omega,by dsimp only;omega,by dsimp only;omega,by dsimp only;omega,by dsimp only;omega,by dsimp only;omega,by dsimp only;omega,by dsimp only;omega,show kB.size<=140737488355328 by decide,show ByteArray.empty.size<=140737488355328 by decide⟩ (IsSteps.nil _ _) (zck w _ 2 2 (by decide) (by decide)) (by simp [kvI,V.weight,weightL,weightO]) (fun y hy=>by have h1:=Z7 _ hy;have h2:=y.str_weight.1;have h3:=Ql;have h4:ByteArray.empty.size=0:=rfl;dsimp only;omega) zat hT).mono ?_
 rintro e w' ⟨⟨c,rfl,hI⟩,hb'⟩
 have hd:=kdo1
 unfold kc1 at hd
 rw [hd] at hI ⊢
 obtain ⟨_,_,_,_,_,ho⟩:=hI.parts
 have hl:c.ol=2:=ho.len
 obtain ⟨b2,o2,f,hp,ha,hlt,hk,_⟩:=ho.get (k:=1) (by omega)
 exact ⟨⟨c,rfl,hl,b2,o2,ha,hlt,(Zw hk).2⟩,hb'⟩
theorem zgr (w:World) (hT:Tabs w) (b:Nat) (hb:BC w b (fcells (kA,⟨2,1, .empty,none,0,0,none,0,0⟩))) (p:Nat) (hp:BC w p [.bool false, .int .i64 0, .string { data:= #[97] }]):Calls Tryz.prog 15 #[.agg #[.int .u8 5, .int .i64 0, .string { data:= #[] }, .slice none 0 0, .slice (some ⟨b,0,none⟩) 1 1], .agg #[.int .u8 1, .slice (some ⟨p,0,none⟩) 1 1, .string { data:= #[] }, .int .i64 0, .int .i64 0, .int .i64 2, .int .u8 0, .int .i64 0, .string { data:= #[] }, .slice none 0 0, .slice none 0 0, .string { data:= #[] }]] w fun e w'=>(∃c:VC,e= .returned (.tuple #[.agg #[.int .u8 c.k, .int .i64 c.n, .string c.s, .slice c.la c.ll c.lc, .slice c.oa c.ol c.oc], .int .u16 0])/\0<c.ol/\∃b2 o2,c.oa=some ⟨b2,o2,none⟩/\b2<w'.heap.size/\w'.cell? ⟨b2,o2+2,none⟩=some (.int .i64 3))/\Below w.heap.size w w':=by
 refine (Kk w 5 0 .empty none 0 0 (some ⟨b,0,none⟩) 1 1 kvV (Js w b hb) (by rw [Ql];omega) [⟨false,0,kA⟩] V.none ⟨1,some ⟨p,0,none⟩,1,1, .empty,0,0,2,⟨0,0, .empty,none,0,0,none,0,0⟩, .empty⟩ ⟨by dsimp only;omega,by dsimp only;omega,by dsimp only;omega,by dsimp only;omega,by dsimp only;omega,by dsimp only;omega,by dsimp only;omega,by dsimp only;omega,show ByteArray.empty.size<=140737488355328 by decide,show ByteArray.empty.size<=140737488355328 by decide⟩ ⟨rfl,by dsimp only;omega,by dsimp only;omega,by dsimp only;omega,p,0,fun _=>⟨rfl,hp.lt⟩,fun i hi=>by
  have h0:i=0:=by simpa using hi
  subst h0
  exact ⟨⟨hp.at_ 0 _ rfl,hp.at_ 1 _ rfl,hp.at_ 2 _ rfl⟩,⟨(show (-9223372036854775808:Int)<=0 by decide),(show (0:Int)<=9223372036854775807 by decide),(show kA.size<=140737488355328 by decide)⟩⟩⟩ (Zx _ _) (by have:=Xf;omega) (fun y hy=>by have h1:=Z7 _ hy;have h2:=y.str_weight.1;have h3:=Ql;have h4:ByteArray.empty.size=0:=rfl;dsimp only;omega) zat hT).mono ?_
 rintro e w' ⟨⟨c,rfl,hI⟩,hb'⟩
 have hd:=kdo2
 unfold kc2 at hd
 rw [hd] at hI ⊢
 obtain ⟨_,_,_,_,_,ho⟩:=hI.parts
 have hl:c.ol=1:=ho.len
 obtain ⟨b2,o2,f,hp,ha,hlt,_,_,hv,hi3⟩:=ho.get (k:=0) (by omega)
 have h1:=(Zw hv.c1).2
 obtain ⟨_,e2,_⟩:=hi3.parts
 have e2:(3:Int)=f.n:=e2
 rw [<-e2] at h1
 exact ⟨⟨c,rfl,by omega,b2,o2,ha,hlt,h1⟩,hb'⟩
theorem zfp (w:World) (hT:Tabs w) (b:Nat) (hb:BC w b (fcells (kA,⟨2,1, .empty,none,0,0,none,0,0⟩))):Calls Tryz.prog 35 #[.agg #[.int .u8 5, .int .i64 0, .string { data:= #[] }, .slice none 0 0, .slice (some ⟨b,0,none⟩) 1 1], .agg #[.int .u8 3, .slice none 0 0, .string { data:= #[122] }, .int .i64 0, .int .i64 0, .int .i64 0, .int .u8 0, .int .i64 0, .string { data:= #[] }, .slice none 0 0, .slice none 0 0, .string { data:= #[] }]] w fun e w'=>e= .returned (.int .u16 33)/\Below w.heap.size w w':=by
 have:=Xs w 5 0 .empty none 0 0 (some ⟨b,0,none⟩) 1 1 kvV (Js w b hb) (by rw [Ql];omega) [] V.none ⟨3,none,0,0,kZ,0,0,0,⟨0,0, .empty,none,0,0,none,0,0⟩, .empty⟩ ⟨by dsimp only;omega,by dsimp only;omega,by dsimp only;omega,by dsimp only;omega,by dsimp only;omega,by dsimp only;omega,by dsimp only;omega,by dsimp only;omega,show kZ.size<=140737488355328 by decide,show ByteArray.empty.size<=140737488355328 by decide⟩ (IsSteps.nil _ _) (Zx _ _) (by have:=Xf;omega) hT
 have hd:=kck3
 unfold kc3 at hd
 rw [hd] at this
 exact this
set_option maxRecDepth 100000 in
theorem zeh (w:World) (hT:Tabs w):Calls Tryz.prog 12 #[] w fun e w'=>e= .returned (.bool true)/\Below w.heap.size w w':=by
 have HT:=qh hT
 clear hT
 go_enter Tryz.func12,Tryz.ntmps12
 go_wp2_with fail
 have hbf:BC ((w.alloc (.cells #[.string { data:= #[97] }, .int .u8 2, .int .i64 1, .string { data:= #[] }, .slice none 0 0, .slice none 0 0] 75)).alloc (.cells #[.int .u8 5, .int .i64 0, .string { data:= #[] }, .slice none 0 0, .slice (some ⟨w.heap.size,0,none⟩) 1 1] 36)) w.heap.size (fcells (kA,⟨2,1, .empty,none,0,0,none,0,0⟩)):=(BC.start w #[.string { data:= #[97] }, .int .u8 2, .int .i64 1, .string { data:= #[] }, .slice none 0 0, .slice none 0 0] 75).keep ((Below.refl _ _).alloc (Nat.le_refl _) _) (by simp)
 have hbv:BC ((w.alloc (.cells #[.string { data:= #[97] }, .int .u8 2, .int .i64 1, .string { data:= #[] }, .slice none 0 0, .slice none 0 0] 75)).alloc (.cells #[.int .u8 5, .int .i64 0, .string { data:= #[] }, .slice none 0 0, .slice (some ⟨w.heap.size,0,none⟩) 1 1] 36)) (w.heap.size+1) [.int .u8 5, .int .i64 0, .string { data:= #[] }, .slice none 0 0, .slice (some ⟨w.heap.size,0,none⟩) 1 1] :=by
  have:=BC.start (w.alloc (.cells #[.string { data:= #[97] }, .int .u8 2, .int .i64 1, .string { data:= #[] }, .slice none 0 0, .slice none 0 0] 75)) #[.int .u8 5, .int .i64 0, .string { data:= #[] }, .slice none 0 0, .slice (some ⟨w.heap.size,0,none⟩) 1 1] 36
  rw [World.size_alloc] at this;exact this
 have hal:Below w.heap.size w ((w.alloc (.cells #[.string { data:= #[97] }, .int .u8 2, .int .i64 1, .string { data:= #[] }, .slice none 0 0, .slice none 0 0] 75)).alloc (.cells #[.int .u8 5, .int .i64 0, .string { data:= #[] }, .slice none 0 0, .slice (some ⟨w.heap.size,0,none⟩) 1 1] 36)):=((Below.refl _ _).alloc (Nat.le_refl _) _).alloc (by simp) _
 obtain ⟨wa,hwa⟩:∃wa,(w.alloc (.cells #[.string { data:= #[97] }, .int .u8 2, .int .i64 1, .string { data:= #[] }, .slice none 0 0, .slice none 0 0] 75)).alloc (.cells #[.int .u8 5, .int .i64 0, .string { data:= #[] }, .slice none 0 0, .slice (some ⟨w.heap.size,0,none⟩) 1 1] 36)=wa:=⟨_,rfl⟩
 rw [hwa] at hbf hbv hal ⊢
 have hza:wa.heap.size=w.heap.size+2:=by rw [<-hwa];simp
 clear hwa
 refine (zgp wa (HT.out.below hal) w.heap.size hbf).mono ?_
 rintro e w1 ⟨⟨c,rfl,hl,b2,o2,ha,hlt,hk⟩,hb1⟩
 obtain ⟨ck,cn,cs,cla,cll,clc,coa,col,coc⟩:=c
 dsimp only at hl ha ⊢
 subst hl ha
 have hbf1:=hbf.keep hb1 hbf.lt
 have hbv1:=hbv.keep hb1 hbv.lt
 have hal1:=hal.trans (hb1.mono hal.size)
 have hz1:=hb1.size
 have v0:=hbv1.at_ 0 _ rfl;have v1:=hbv1.at_ 1 _ rfl;have v2:=hbv1.at_ 2 _ rfl;have v3:=hbv1.at_ 3 _ rfl;have v4:=hbv1.at_ 4 _ rfl
 have zv:=hbv1.lt
 have HF1:=qh hbf1;have HV1:=qh hbv1;have HA1:=qh hal1;have HK:=qh hk;have HLT:=qh hlt
 clear hbf hbv hal hb1 hbf1 hbv1 hal1 hk hlt hza hz1
 go_wp2_with fail
 have hn2:Below w1.heap.size w1 ((w1.alloc (.cells #[.int .u8 ck, .int .i64 cn, .string cs, .slice cla cll clc, .slice (some ⟨b2,o2,none⟩) 2 coc] 36)).alloc (.cells #[.bool false, .int .i64 0, .string { data:= #[97] }] 77)):=((Below.refl _ _).alloc (Nat.le_refl _) _).alloc (by simp) _
 have hbr:=(BC.start w1 #[.int .u8 ck, .int .i64 cn, .string cs, .slice cla cll clc, .slice (some ⟨b2,o2,none⟩) 2 coc] 36).keep ((Below.refl _ _).alloc (Nat.le_refl _) (.cells #[.bool false, .int .i64 0, .string { data:= #[97] }] 77)) (by simp)
 have hbp:=BC.start (w1.alloc (.cells #[.int .u8 ck, .int .i64 cn, .string cs, .slice cla cll clc, .slice (some ⟨b2,o2,none⟩) 2 coc] 36)) #[.bool false, .int .i64 0, .string { data:= #[97] }] 77
 rw [World.size_alloc] at hbp
 obtain ⟨wb,hwb⟩:∃wb,((w1.alloc (.cells #[.int .u8 ck, .int .i64 cn, .string cs, .slice cla cll clc, .slice (some ⟨b2,o2,none⟩) 2 coc] 36)).alloc (.cells #[.bool false, .int .i64 0, .string { data:= #[97] }] 77))=wb:=⟨_,rfl⟩
 rw [hwb] at hn2 hbr hbp ⊢
 clear hwb
 have halb:=HA1.out.trans (hn2.mono HA1.out.size)
 refine (zgr wb (HT.out.below halb) w.heap.size (HF1.out.keep hn2 HF1.out.lt) (w1.heap.size+1) hbp).mono ?_
 rintro e w3 ⟨⟨d,rfl,hdl,b3,o3,hda,hdt,hdk⟩,hb3⟩
 obtain ⟨dk,dn,ds,dla,dll,dlc,doa,dol,doc⟩:=d
 dsimp only at hdl hda ⊢
 subst hda
 have hn3:=hn2.trans (hb3.mono hn2.size)
 have hv3:=HV1.out.keep hn3 HV1.out.lt
 have hf3:=HF1.out.keep hn3 HF1.out.lt
 have hr3:=hbr.keep hb3 hbr.lt
 have hk3:=Zb hn3 HK.out HLT.out
 have hal3:=halb.trans (hb3.mono halb.size)
 have hdn:¬(dol:Int)<=0:=by omega
 have hdn2:(0:Int)<(dol:Int):=by omega
 have hdn3:¬dol=0:=by omega
 clear v0 v1 v2 v3 v4 zv
 have v0:=hv3.at_ 0 _ rfl;have v1:=hv3.at_ 1 _ rfl;have v2:=hv3.at_ 2 _ rfl;have v3:=hv3.at_ 3 _ rfl;have v4:=hv3.at_ 4 _ rfl
 have r4:=hr3.at_ 4 _ rfl
 have zv:=hv3.lt;have zr:=hr3.lt
 have HF3:=qh hf3;have HA3:=qh hal3
 have hz3:b2<w3.heap.size:=Nat.lt_of_lt_of_le HLT.out hn3.size
 have hdk2:w3.cell? ⟨b3,o3+1+1,none⟩=some (.int .i64 3):=hdk
 clear hn2 hbr hbp halb hb3 hn3 hv3 hf3 hr3 hal3
 have HCK:Hid (∀W,Below w3.heap.size w3 W->Calls Tryz.prog 35 #[.agg #[.int .u8 5, .int .i64 0, .string { data:= #[] }, .slice none 0 0, .slice (some ⟨w.heap.size,0,none⟩) 1 1], .agg #[.int .u8 3, .slice none 0 0, .string { data:= #[122] }, .int .i64 0, .int .i64 0, .int .i64 0, .int .u8 0, .int .i64 0, .string { data:= #[] }, .slice none 0 0, .slice none 0 0, .string { data:= #[] }]] W fun e w'=>e= .returned (.int .u16 33)/\Below W.heap.size W w'):=qh fun W hW=>zfp W ((HT.out.below HA3.out).below hW) w.heap.size (HF3.out.keep hW HF3.out.lt)
 go_wp2_with (go_at_call 35;(with_reducible refine (HCK.out _ ((Below.refl _ _).alloc (Nat.le_refl _) _)).mono ?_);rintro e w4 ⟨rfl,hb4⟩;have HB4:=qh hb4;clear hb4)
 all_goals (
  go_returns
  exact ⟨rfl,HA3.out.trans ((((Below.refl w3.heap.size w3).alloc (Nat.le_refl _) _).trans (HB4.out.mono (by simp))).mono HA3.out.size)⟩)
end Go.Proofs.YtnjgbiachcfigaaGreatDoor
