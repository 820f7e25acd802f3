/-
  Contracts of the functions that the law reaches: Values whose rows lie apart: one of.
-/
import Derived.Test.YtnjgbiachcfigaaGreatDoorIa6
import Derived.Deep.Onto
namespace Go.Proofs.YtnjgbiachcfigaaGreatDoor
open Go.RowKit
set_option maxHeartbeats 1000000
inductive Sep (w:World):(Nat->Prop)->V->VC->Prop
 |mk (S:Nat->Prop) (c:VC) (l:List V) (o:List (ByteArray×V)) (cl co:Nat->VC) (gl go:Nat) (TL TO:Nat->Nat->Prop) (hb:c.Bnd) (hl:c.ll=l.length) (ho:c.ol=o.length)
     (hS:∀k,S k->k<w.heap.size)
     (hla:0<c.ll->c.la=some ⟨gl,0,none⟩/\S gl) (hoa:0<c.ol->c.oa=some ⟨go,0,none⟩/\S go) (hne:0<c.ll->0<c.ol->gl≠go)
     (hlc:∀i,i<l.length->ValAt w gl (i*5) (cl i))
     (hoc:∀i (h:i<o.length),w.cell? ⟨go,i*6,none⟩=some (.string o[i].1)/\o[i].1.size<=140737488355328/\ValAt w go (i*6+1) (co i))
     (hlv:∀i (h:i<l.length),Sep w (TL i) l[i] (cl i)) (hov:∀i (h:i<o.length),Sep w (TO i) o[i].2 (co i))
     (hTL:∀i,i<l.length->∀k,TL i k->S k/\k≠gl/\(0<c.ol->k≠go)) (hTO:∀i,i<o.length->∀k,TO i k->S k/\k≠go/\(0<c.ll->k≠gl))
     (dL:∀i j,i<l.length->j<l.length->i≠j->∀k,TL i k->¬TL j k) (dO:∀i j,i<o.length->j<o.length->i≠j->∀k,TO i k->¬TO j k)
     (dLO:∀i j,i<l.length->j<o.length->∀k,TL i k->¬TO j k):Sep w S (.mk c.k c.n c.s l o) c
def Agree (S:Nat->Prop) (w w':World):Prop:=∀k q,S k->w'.cell? ⟨k,q,none⟩=w.cell? ⟨k,q,none⟩
theorem Agree.val {S:Nat->Prop} {w w':World} (h:Agree S w w') {b o:Nat} {c:VC} (hb:S b) (hv:ValAt w b o c):ValAt w' b o c:=
 ⟨(h _ _ hb).trans hv.c0,(h _ _ hb).trans hv.c1,(h _ _ hb).trans hv.c2,(h _ _ hb).trans hv.c3,(h _ _ hb).trans hv.c4⟩
theorem Sep.isVal {w:World} {S:Nat->Prop} {v:V} {c:VC} (h:Sep w S v c):∀ {P:Nat->Prop},(∀k,S k->P k)->IsVal (only P w) w.heap.size v c:=by
 induction h with
 | mk S c l o cl co gl go TL TO hb hl ho hS hla hoa hne hlc hoc hlv hov hTL hTO dL dO dLO ihl iho=>
   intro P hP
   refine .mk c l o cl co gl 0 go 0 hb hl ho (fun h=>⟨(hla h).1,hS _ (hla h).2⟩) (fun h=>⟨(hoa h).1,hS _ (hoa h).2⟩) (fun i hi=> ?_) (fun i hi=>ihl i hi fun k hk=>hP _ (hTL i hi k hk).1) (fun i hi=> ?_) (fun i hi=>iho i hi fun k hk=>hP _ (hTO i hi k hk).1)
   .rw [Nat.zero_add];exact Yn (hP _ (hla (by omega)).2) (hlc i hi)
   .rw [Nat.zero_add]
    have hg:=hP _ (hoa (by omega)).2
    exact ⟨Z1 hg (hoc i hi).1,(hoc i hi).2.1,Yn hg (hoc i hi).2.2⟩
theorem Sep.bnd {w:World} {S:Nat->Prop} {v:V} {c:VC} (h:Sep w S v c):∀k,S k->k<w.heap.size:=by
 cases h with
 |mk S c l o cl co gl go TL TO hb hl ho hS hla hoa hne hlc hoc hlv hov hTL hTO dL dO dLO=>exact hS
theorem Sep.keep {w w':World} {S:Nat->Prop} {v:V} {c:VC} (h:Sep w S v c) (hz:w.heap.size<=w'.heap.size):Agree S w w'->Sep w' S v c:=by
 induction h with
 | mk S c l o cl co gl go TL TO hb hl ho hS hla hoa hne hlc hoc hlv hov hTL hTO dL dO dLO ihl iho=>
   intro ha
   refine .mk S c l o cl co gl go TL TO hb hl ho (fun k hk=>Nat.lt_of_lt_of_le (hS k hk) hz) hla hoa hne (fun i hi=>ha.val (hla (by omega)).2 (hlc i hi)) (fun i hi=> ?_) (fun i hi=>ihl i hi fun k q hk=>ha k q (hTL i hi k hk).1) (fun i hi=>iho i hi fun k q hk=>ha k q (hTO i hi k hk).1) hTL hTO dL dO dLO
   have hg:=(hoa (by omega)).2
   exact ⟨(ha _ _ hg).trans (hoc i hi).1,(hoc i hi).2.1,ha.val hg (hoc i hi).2.2⟩
theorem Sep.more {w:World} {S S':Nat->Prop} {v:V} {c:VC} (h:Sep w S v c) (hs:∀k,S k->S' k) (hz:∀k,S' k->k<w.heap.size):Sep w S' v c:=by
 cases h with
 | mk S c l o cl co gl go TL TO hb hl ho hS hla hoa hne hlc hoc hlv hov hTL hTO dL dO dLO=>
   exact .mk S' c l o cl co gl go TL TO hb hl ho hz (fun h=>⟨(hla h).1,hs _ (hla h).2⟩) (fun h=>⟨(hoa h).1,hs _ (hoa h).2⟩) hne hlc hoc hlv hov (fun i hi k hk=>⟨hs _ (hTL i hi k hk).1,(hTL i hi k hk).2⟩) (fun i hi k hk=>⟨hs _ (hTO i hi k hk).1,(hTO i hi k hk).2⟩) dL dO dLO
structure SepAt (w:World) (S:Nat->Prop) (v:V) (b o:Nat) (c:VC):Prop where
 at_:ValAt w b o c
 sep:Sep w S v c
 out:¬S b
inductive Way (w:World):Nat->Nat->V->List St->Nat->Nat->V->Prop
 |nil (b o:Nat) (v:V):Way w b o v [] b o v
 |list (b o:Nat) (v x y:V) (c:VC) (s:St) (r:List St) (k g q b' o':Nat) (hv:ValAt w b o c) (hi:IsVal w w.heap.size v c) (hs:stepP v s=some (x,k)) (hl:s.list=true) (ha:c.la=some ⟨g,q,none⟩) (h:Way w g (q+k*5) x r b' o' y):Way w b o v (s::r) b' o' y
 |obj (b o:Nat) (v x y:V) (c:VC) (s:St) (r:List St) (k g q b' o':Nat) (hv:ValAt w b o c) (hi:IsVal w w.heap.size v c) (hs:stepP v s=some (x,k)) (hl:s.list=false) (ha:c.oa=some ⟨g,q,none⟩) (h:Way w g (q+k*6+1) x r b' o' y):Way w b o v (s::r) b' o' y
def But (S:Nat->Prop) (b b' o':Nat) (w w':World):Prop:=∀k q,(S k∨k=b)->¬(k=b'/\o'<=q/\q<o'+5)->w'.cell? ⟨k,q,none⟩=w.cell? ⟨k,q,none⟩
theorem But.val {S:Nat->Prop} {b b' o':Nat} {w w':World} (h:But S b b' o' w w') {k q:Nat} {c:VC} (hk:S k∨k=b) (hn:k≠b'∨q+5<=o'∨o'+5<=q) (hv:ValAt w k q c):ValAt w' k q c:=
 ⟨(h _ _ hk (by omega)).trans hv.c0,(h _ _ hk (by omega)).trans hv.c1,(h _ _ hk (by omega)).trans hv.c2,(h _ _ hk (by omega)).trans hv.c3,(h _ _ hk (by omega)).trans hv.c4⟩
theorem zb8 {w:World} {S:Nat->Prop} {v:V} {c:VC} (h:Sep w S v c):IsVal w w.heap.size v c:=
 (h.isVal (P:=fun _=>True) fun _ _=>trivial).sub (Zl _ _ _)
theorem zjd (o:List (ByteArray×V)) (k:Nat) (z:V) (i:Nat) (h:i<(putO o k z).length) (h2:i<o.length):(putO o k z)[i].1=o[i].1/\(i=k->(putO o k z)[i].2=z)/\(i≠k->(putO o k z)[i].2=o[i].2):=by
 have h3:(putO o k z)[i] =(o.set k ((o.getD k (.empty,V.none)).1,z))[i]'(by rw [List.length_set];exact h2):=rfl
 rw [h3,List.getElem_set]
 by_cases hk:k=i
 .subst hk
  rw [if_pos rfl]
  have e:o.getD k (.empty,V.none)=o[k] :=by simp [List.getD_eq_getElem?_getD,h2]
  exact ⟨by rw [e],fun _=>rfl,fun e=>absurd rfl e⟩
 .rw [if_neg hk]
  exact ⟨rfl,fun e=>absurd e.symm hk,fun _=>rfl⟩
set_option maxRecDepth 100000 in
theorem za6 (p:List St):∀ {w:World} {S:Nat->Prop} {v x:V} {b o:Nat} {c:VC},SepAt w S v b o c->getP v p=some x->
 ∃ b' o' Sx cx,SepAt w Sx x b' o' cx/\Way w b o v p b' o' x/\((b'=b/\o'=o/\p= [])∨S b')/\(∀k,Sx k->S k)/\
   ∀(w':World) (S':Nat->Prop) (y:V) (cy:VC),w.heap.size<=w'.heap.size->But S b b' o' w w'->SepAt w' S' y b' o' cy->(∀k,S' k->¬S k/\k≠b)->∃z cz,putP v p y=some z/\SepAt w' (fun k=>S k∨S' k) z b o cz:=by
 induction p with
 | nil=>
   intro w S v x b o c h hg
   injection hg with hg;subst hg
   refine ⟨b,o,S,c,h, .nil b o v, .inl ⟨rfl,rfl,rfl⟩,fun _ h=>h,fun w' S' y cy hz hbut hy hd=>⟨y,cy,rfl,hy.at_,hy.sep.more (fun _ h=> .inr h) (fun k hk=> ?_),fun hk=> ?_⟩⟩
   .rcases hk with hk|hk
    .exact Nat.lt_of_lt_of_le (h.sep.bnd k hk) hz
    .exact hy.sep.bnd k hk
   .rcases hk with hk|hk
    .exact h.out hk
    .exact (hd b hk).2 rfl
 | cons s r ih =>
   intro w S v x b o c h hg
   obtain ⟨hat,hsep,hout⟩:=h
   have hfull:=zb8 hsep
   unfold getP at hg
   cases hs:stepP v s with
   |none=>rw [hs] at hg;cases hg
   | some q =>
     obtain ⟨u,k⟩:=q
     rw [hs] at hg
     try dsimp only at hg
     have hstep:=Xm hs
     cases hsep with
     |mk S c l ol cl co gl go TL TO hb hl ho hS hla hoa hne hlc hoc hlv hov hTL hTO dL dO dLO=>
     rcases hstep with ⟨hls,_,hki,hk,hu⟩|⟨hls,_,hki,hk,hu⟩
     .have hk :k<l.length:=hk
      have hu:l[k] =u:=hu
      have hll:0<c.ll:=by omega
      obtain ⟨hga,hgS⟩:=hla hll
      have hnT:¬TL k gl:=fun e=>(hTL k hk gl e).2.1 rfl
      obtain ⟨b',o',Sx,cx,h1,h2,h3,h4,h5⟩:=ih (b:=gl) (o:=k*5) (c:=cl k) ⟨hlc k hk,by rw [<-hu];exact hlv k hk,hnT⟩ hg
      have hb'S:S b':=by
       rcases h3 with ⟨e,_⟩|e
       .rw [e];exact hgS
       .exact (hTL k hk _ e).1
      refine ⟨b',o',Sx,cx,h1, .list b o _ u x c s r k gl 0 b' o' hat hfull hs hls hga (by rw [Nat.zero_add];exact h2), .inr hb'S,fun j hj=>(hTL k hk j (h4 j hj)).1,fun w' S' y cy hz hbut hy hd=> ?_⟩
      obtain ⟨z,cz,hz1,hz2⟩:=h5 w' S' y cy hz (fun j q hj hn=>hbut j q (.inl (by
       rcases hj with hj|rfl
       .exact (hTL k hk j hj).1
       .exact hgS)) hn) hy (fun j hj=>⟨fun e=>(hd j hj).1 (hTL k hk j e).1,fun e=>(hd j hj).1 (e ▸ hgS)⟩)
      have hne':∀i,i<l.length->i≠k->gl≠b'∨i*5+5<=o'∨o'+5<=i*5:=fun i hi hik=>by
       rcases h3 with ⟨_,e,_⟩|e
       .right;rw [e];omega
       .left;intro e2;exact hnT (e2 ▸ e)
      have hgo':0<c.ol->go≠b':=fun h0 e2=>by
       rcases h3 with ⟨e,_⟩|e
       .exact hne hll h0 (by rw [e2,e])
       .exact (hTL k hk _ e).2.2 h0 e2.symm
      have agr:∀(T:Nat->Prop),(∀j,T j->S j)->¬T b'->Agree T w w':=fun T hT hn j q hj=>hbut j q (.inl (hT j hj)) (fun e=>hn (e.1 ▸ hj))
      refine ⟨(V.mk c.k c.n c.s l ol).setL k z,c,by unfold putP;rw [hs];dsimp only;rw [hz1];dsimp only;rw [if_pos hls],hbut.val (.inr rfl) (.inl fun e=>hout (e ▸ hb'S)) hat, ?_,fun e=> ?_⟩
      .show Sep w' _ (V.mk c.k c.n c.s (l.set k z) ol) c
       refine .mk _ c (l.set k z) ol (fun i=>if i=k then cz else cl i) co gl go (fun i=>if i=k then (fun j=>TL k j∨S' j) else TL i) TO hb (by rw [List.length_set];exact hl) ho (fun j hj=> ?_) (fun h=>⟨(hla h).1, .inl (hla h).2⟩) (fun h=>⟨(hoa h).1, .inl (hoa h).2⟩) hne (fun i hi=> ?_) (fun i hi=> ?_) (fun i hi=> ?_) (fun i hi=> ?_) (fun i hi j hj=> ?_) (fun i hi j hj=>⟨.inl (hTO i hi j hj).1,(hTO i hi j hj).2⟩) (fun i i' hi hi' hii j hj hj'=> ?_) dO (fun i i' hi hi' j hj hj'=> ?_)
       .rcases hj with hj|hj
        .exact Nat.lt_of_lt_of_le (hS j hj) hz
        .exact hy.sep.bnd j hj
       .rw [List.length_set] at hi
        try dsimp only
        by_cases hik:i=k
        .rw [if_pos hik,hik];exact hz2.at_
        .rw [if_neg hik];exact hbut.val (.inl hgS) (hne' i hi hik) (hlc i hi)
       .have hg:=hgo' (by omega)
        exact ⟨(hbut _ _ (.inl (hoa (by omega)).2) (fun e=>hg e.1)).trans (hoc i hi).1,(hoc i hi).2.1,hbut.val (.inl (hoa (by omega)).2) (.inl hg) (hoc i hi).2.2⟩
       .rw [List.length_set] at hi
        try dsimp only
        by_cases hik:i=k
        .subst hik
         rw [if_pos rfl,if_pos rfl,List.getElem_set_self];exact hz2.sep
        .rw [if_neg hik,if_neg hik,List.getElem_set_ne (Ne.symm hik)]
         exact (hlv i hi).keep hz (agr _ (fun j hj=>(hTL i hi j hj).1) fun e=>by
          rcases h3 with ⟨e1,_⟩|e1
          .exact (hTL i hi _ e).2.1 e1
          .exact dL i k hi hk hik _ e e1)
       .exact (hov i hi).keep hz (agr _ (fun j hj=>(hTO i hi j hj).1) fun e=>by
         rcases h3 with ⟨e1,_⟩|e1
         .exact (hTO i hi _ e).2.2 hll e1
         .exact dLO k i hk hi _ e1 e)
       .rw [List.length_set] at hi
        try dsimp only at hj
        by_cases hik:i=k
        .rw [if_pos hik] at hj
         rcases hj with hj|hj
         .exact ⟨.inl (hTL k hk j hj).1,(hTL k hk j hj).2⟩
         .exact ⟨.inr hj,fun e=>(hd j hj).1 (e ▸ hgS),fun h0 e=>(hd j hj).1 (e ▸ (hoa h0).2)⟩
        .rw [if_neg hik] at hj
         exact ⟨.inl (hTL i hi j hj).1,(hTL i hi j hj).2⟩
       .rw [List.length_set] at hi hi'
        try dsimp only at hj hj'
        by_cases hik:i=k
        .have hik':i'≠k:=fun e=>hii (by rw [hik,e])
         rw [if_pos hik] at hj
         rw [if_neg hik'] at hj'
         rcases hj with hj|hj
         .exact dL k i' hk hi' (fun e=>hik' e.symm) j hj hj'
         .exact (hd j hj).1 (hTL i' hi' j hj').1
        .rw [if_neg hik] at hj
         by_cases hik':i'=k
         .rw [if_pos hik'] at hj'
          rcases hj' with hj'|hj'
          .exact dL i k hi hk hik j hj hj'
          .exact (hd j hj').1 (hTL i hi j hj).1
         .rw [if_neg hik'] at hj'
          exact dL i i' hi hi' hii j hj hj'
       .rw [List.length_set] at hi
        try dsimp only at hj
        by_cases hik:i=k
        .rw [if_pos hik] at hj
         rcases hj with hj|hj
         .exact dLO k i' hk hi' j hj hj'
         .exact (hd j hj).1 (hTO i' hi' j hj').1
        .rw [if_neg hik] at hj
         exact dLO i i' hi hi' j hj hj'
      .rcases e with e|e
       .exact hout e
       .exact (hd b e).2 rfl
     .have hk :k<ol.length:=hk
      have hu:ol[k].2=u:=hu
      have hll:0<c.ol:=by omega
      obtain ⟨hga,hgS⟩:=hoa hll
      have hnT:¬TO k go:=fun e=>(hTO k hk go e).2.1 rfl
      obtain ⟨b',o',Sx,cx,h1,h2,h3,h4,h5⟩:=ih (b:=go) (o:=k*6+1) (c:=co k) ⟨(hoc k hk).2.2,by rw [<-hu];exact hov k hk,hnT⟩ hg
      have hb'S:S b':=by
       rcases h3 with ⟨e,_⟩|e
       .rw [e];exact hgS
       .exact (hTO k hk _ e).1
      refine ⟨b',o',Sx,cx,h1, .obj b o _ u x c s r k go 0 b' o' hat hfull hs hls hga (by rw [Nat.zero_add];exact h2), .inr hb'S,fun j hj=>(hTO k hk j (h4 j hj)).1,fun w' S' y cy hz hbut hy hd=> ?_⟩
      obtain ⟨z,cz,hz1,hz2⟩:=h5 w' S' y cy hz (fun j q hj hn=>hbut j q (.inl (by
       rcases hj with hj|rfl
       .exact (hTO k hk j hj).1
       .exact hgS)) hn) hy (fun j hj=>⟨fun e=>(hd j hj).1 (hTO k hk j e).1,fun e=>(hd j hj).1 (e ▸ hgS)⟩)
      have hne':∀i,i<ol.length->i≠k->go≠b'∨i*6+6<=o'∨o'+5<=i*6:=fun i hi hik=>by
       rcases h3 with ⟨_,e,_⟩|e
       .right;rw [e];omega
       .left;intro e2;exact hnT (e2 ▸ e)
      have hkey':go≠b'∨k*6<o':=by
       rcases h3 with ⟨_,e,_⟩|e
       .right;rw [e];omega
       .left;intro e2;exact hnT (e2 ▸ e)
      have hgl':0<c.ll->gl≠b':=fun h0 e2=>by
       rcases h3 with ⟨e,_⟩|e
       .exact hne h0 hll (by rw [e2,e])
       .exact (hTO k hk _ e).2.2 h0 e2.symm
      have agr:∀(T:Nat->Prop),(∀j,T j->S j)->¬T b'->Agree T w w':=fun T hT hn j q hj=>hbut j q (.inl (hT j hj)) (fun e=>hn (e.1 ▸ hj))
      refine ⟨(V.mk c.k c.n c.s l ol).setO k z,c,by unfold putP;rw [hs];dsimp only;rw [hz1];dsimp only;rw [if_neg (by simp [hls])],hbut.val (.inr rfl) (.inl fun e=>hout (e ▸ hb'S)) hat, ?_,fun e=> ?_⟩
      .show Sep w' _ (V.mk c.k c.n c.s l (putO ol k z)) c
       have hlen:(putO ol k z).length=ol.length:=by unfold putO;rw [List.length_set]
       have hget:∀i (h:i<(putO ol k z).length),(putO ol k z)[i].1=(ol[i]'(by omega)).1/\(i=k->(putO ol k z)[i].2=z)/\(i≠k->(putO ol k z)[i].2=(ol[i]'(by omega)).2):=fun i h=>zjd ol k z i h (by omega)
       refine .mk _ c l (putO ol k z) cl (fun i=>if i=k then cz else co i) gl go TL (fun i=>if i=k then (fun j=>TO k j∨S' j) else TO i) hb hl (by rw [hlen];exact ho) (fun j hj=> ?_) (fun h=>⟨(hla h).1, .inl (hla h).2⟩) (fun h=>⟨(hoa h).1, .inl (hoa h).2⟩) hne (fun i hi=> ?_) (fun i hi=> ?_) (fun i hi=> ?_) (fun i hi=> ?_) (fun i hi j hj=>⟨.inl (hTL i hi j hj).1,(hTL i hi j hj).2⟩) (fun i hi j hj=> ?_) dL (fun i i' hi hi' hii j hj hj'=> ?_) (fun i i' hi hi' j hj hj'=> ?_)
       .rcases hj with hj|hj
        .exact Nat.lt_of_lt_of_le (hS j hj) hz
        .exact hy.sep.bnd j hj
       .exact hbut.val (.inl (hla (by omega)).2) (.inl (hgl' (by omega))) (hlc i hi)
       .have hi2:i<ol.length:=by omega
        obtain ⟨g1,g2,g3⟩:=hget i hi
        rw [g1]
        try dsimp only
        by_cases hik:i=k
        .subst hik
         refine ⟨(hbut _ _ (.inl hgS) (by omega)).trans (hoc i hi2).1,(hoc i hi2).2.1, ?_⟩
         rw [if_pos rfl];exact hz2.at_
        .have:=hne' i hi2 hik
         refine ⟨(hbut _ _ (.inl hgS) (by omega)).trans (hoc i hi2).1,(hoc i hi2).2.1, ?_⟩
         rw [if_neg hik];exact hbut.val (.inl hgS) (by omega) (hoc i hi2).2.2
       .exact (hlv i hi).keep hz (agr _ (fun j hj=>(hTL i hi j hj).1) fun e=>by
         rcases h3 with ⟨e1,_⟩|e1
         .exact (hTL i hi _ e).2.2 hll e1
         .exact dLO i k hi hk _ e e1)
       .have hi2:i<ol.length:=by omega
        obtain ⟨g1,g2,g3⟩:=hget i hi
        try dsimp only
        by_cases hik:i=k
        .rw [if_pos hik,if_pos hik,g2 hik];exact hz2.sep
        .rw [if_neg hik,if_neg hik,g3 hik]
         exact (hov i hi2).keep hz (agr _ (fun j hj=>(hTO i hi2 j hj).1) fun e=>by
          rcases h3 with ⟨e1,_⟩|e1
          .exact (hTO i hi2 _ e).2.1 e1
          .exact dO i k hi2 hk hik _ e e1)
       .rw [hlen] at hi
        try dsimp only at hj
        by_cases hik:i=k
        .rw [if_pos hik] at hj
         rcases hj with hj|hj
         .exact ⟨.inl (hTO k hk j hj).1,(hTO k hk j hj).2⟩
         .exact ⟨.inr hj,fun e=>(hd j hj).1 (e ▸ hgS),fun h0 e=>(hd j hj).1 (e ▸ (hla h0).2)⟩
        .rw [if_neg hik] at hj
         exact ⟨.inl (hTO i hi j hj).1,(hTO i hi j hj).2⟩
       .rw [hlen] at hi hi'
        try dsimp only at hj hj'
        by_cases hik:i=k
        .have hik':i'≠k:=fun e=>hii (by rw [hik,e])
         rw [if_pos hik] at hj
         rw [if_neg hik'] at hj'
         rcases hj with hj|hj
         .exact dO k i' hk hi' (fun e=>hik' e.symm) j hj hj'
         .exact (hd j hj).1 (hTO i' hi' j hj').1
        .rw [if_neg hik] at hj
         by_cases hik':i'=k
         .rw [if_pos hik'] at hj'
          rcases hj' with hj'|hj'
          .exact dO i k hi hk hik j hj hj'
          .exact (hd j hj').1 (hTO i hi j hj).1
         .rw [if_neg hik'] at hj'
          exact dO i i' hi hi' hii j hj hj'
       .rw [hlen] at hi'
        try dsimp only at hj'
        by_cases hik:i'=k
        .rw [if_pos hik] at hj'
         rcases hj' with hj'|hj'
         .exact dLO i k hi hk j hj hj'
         .exact (hd j hj').1 (hTL i hi j hj).1
        .rw [if_neg hik] at hj'
         exact dLO i i' hi hi' j hj hj'
      .rcases e with e|e
       .exact hout e
       .exact (hd b e).2 rfl
theorem zcb {W:World} {base:Nat} {e:TypeId} {g n cap:Nat} {cl:List VC} (h:W.ownsRow base e 5 (.slice (some ⟨g,0,none⟩) n cap) n (cl.flatMap vcells)) {k:Nat} (hk:k<cl.length) (z:VC):
 (setV W g (k*5) z).ownsRow base e 5 (.slice (some ⟨g,0,none⟩) n cap) n ((cl.set k z).flatMap vcells):=by
 have h1:=(h.stored (k*5) (.int .u8 z.k)).1
 have h2:=(h1.stored (k*5+1) (.int .i64 z.n)).1
 have h3:=(h2.stored (k*5+2) (.string z.s)).1
 have h4:=(h3.stored (k*5+3) (.slice z.la z.ll z.lc)).1
 have h5:=(h4.stored (k*5+4) (.slice z.oa z.ol z.oc)).1
 rw [zd3 cl k hk z] at h5
 exact h5
theorem znq {W:World} {base:Nat} {e:TypeId} {g n cap:Nat} {co:List (ByteArray×VC)} (h:W.ownsRow base e 6 (.slice (some ⟨g,0,none⟩) n cap) n (co.flatMap fcells)) {k:Nat} (hk:k<co.length) (z:VC):
 (setV W g (k*6+1) z).ownsRow base e 6 (.slice (some ⟨g,0,none⟩) n cap) n ((co.set k (co[k].1,z)).flatMap fcells):=by
 have h1:=(h.stored (k*6+1) (.int .u8 z.k)).1
 have h2:=(h1.stored (k*6+1+1) (.int .i64 z.n)).1
 have h3:=(h2.stored (k*6+1+2) (.string z.s)).1
 have h4:=(h3.stored (k*6+1+3) (.slice z.la z.ll z.lc)).1
 have h5:=(h4.stored (k*6+1+4) (.slice z.oa z.ol z.oc)).1
 rw [zcc co k hk z] at h5
 exact h5
theorem RStep.grown {w w':World} {rb:Nat} (h:RStep w w' rb):w.grownBy w' (some rb):=⟨h.os,h.tape,h.output,h.size,fun k hk hne=>h.block k hk (fun e=>hne (by rw [e]))⟩
theorem RStep.lowC {w w':World} {rb B:Nat} (h:RStep w w' rb) (hB:B<=rb) (hw:B<=w.heap.size):Below B w w':=⟨h.os,h.tape,h.output,h.size,fun k hk=>h.block k (by omega) (by omega)⟩
def Soft (w:World) (S:Nat->Prop):Prop:=∀k q,S k->w.frozen? ⟨k,q,none⟩=false
def SepI (w:World) (lo hi:Nat) (v:V) (c:VC):Prop:=∃S:Nat->Prop,(∀k,S k->lo<=k/\k<hi)/\Soft w S/\Sep w S v c
structure Half (w wr:World) (base:Nat) (l:List V) (o:List (ByteArray×V)) (u uo:Value) (cl:List VC) (co:List (ByteArray×VC)) (j:Nat) (s:Nat->Nat):Prop where
 lenL:cl.length=l.length
 lenO:co.length=o.length
 keys:∀i (h:i<o.length) (h':i<co.length),co[i].1=o[i].1/\o[i].1.size<=140737488355328
 rowL:wr.ownsRow base 36 5 u l.length (cl.flatMap vcells)
 rowO:wr.ownsRow base 75 6 uo o.length (co.flatMap fcells)
 apart:∀g,u.ownBlock=some g->uo.ownBlock≠some g
 loL:∀g,u.ownBlock=some g->g<s 0
 loO:∀g,uo.ownBlock=some g->g<s 0
 s0:base<=s 0
 sj:s j=wr.heap.size
 jm:j<=l.length+o.length
 mono:∀i i',i<=i'->i'<=j->s i<=s i'
 elsL:∀i (h:i<l.length) (h':i<cl.length),i<j->SepI wr (s i) (s (i+1)) l[i] cl[i]
 elsO:∀i (h:i<o.length) (h':i<co.length),l.length+i<j->SepI wr (s (l.length+i)) (s (l.length+i+1)) o[i].2 co[i].2
 oldL:∀i (h:i<l.length) (h':i<cl.length),j<=i->IsVal w w.heap.size l[i] cl[i]
 oldO:∀i (h:i<o.length) (h':i<co.length),j<=l.length+i->IsVal w w.heap.size o[i].2 co[i].2
def more (s:Nat->Nat) (j z:Nat):Nat->Nat:=fun i=>if i<=j then s i else z
theorem Zt {s:Nat->Nat} {j z i:Nat} (h:i<=j):more s j z i=s i:=if_pos h
theorem Xy {s:Nat->Nat} {j z i:Nat} (h:j<i):more s j z i=z:=if_neg (by omega)
theorem zbw {s:Nat->Nat} {j z:Nat} (h:∀i i',i<=i'->i'<=j->s i<=s i') (hz:s j<=z):∀i i',i<=i'->i'<=j+1->more s j z i<=more s j z i':=by
 intro i i' h1 h2
 by_cases h3:i'<=j
 .rw [Zt h3,Zt (by omega)];exact h i i' h1 h3
 .rw [Xy (i:=i') (by omega)]
  by_cases h4:i<=j
  .rw [Zt h4];exact Nat.le_trans (h i j h4 (Nat.le_refl _)) hz
  .rw [Xy (by omega)];exact Nat.le_refl _
theorem Sep.stay {w w4 W:World} {S:Nat->Prop} {v:V} {c:VC} {g:Nat} (h:Sep w S v c) (hb:uB w w4) (st:RStep w4 W g) (hg:¬S g):Sep W S v c:=
 h.keep (Nat.le_trans hb.size st.size) fun k q hk=>by
   have hk2:=h.bnd k hk
   exact World.cell?_of_block ((st.block k (Nat.lt_of_lt_of_le hk2 hb.size) (fun e=>hg (e ▸ hk))).trans (hb.block k hk2))
theorem Yu {w w':World} {k q:Nat} (h:w'.heap[k]? =w.heap[k]?):w'.frozen? ⟨k,q,none⟩=w.frozen? ⟨k,q,none⟩:=by
 simp only [World.frozen?,h]
theorem SepI.stay {w w4 W:World} {lo hi:Nat} {v:V} {c:VC} {g:Nat} (h:SepI w lo hi v c) (hb:uB w w4) (st:RStep w4 W g) (hg:¬(lo<=g/\g<hi)):SepI W lo hi v c:=by
 obtain ⟨S,h1,h2,h3⟩:=h
 have hgS:¬S g:=fun e=>hg (h1 g e)
 refine ⟨S,h1,fun k q hk=> ?_,h3.stay hb st hgS⟩
 have hk2:=h3.bnd k hk
 rw [Yu ((st.block k (Nat.lt_of_lt_of_le hk2 hb.size) (fun e=>hgS (e ▸ hk))).trans (hb.block k hk2))]
 exact h2 k q hk
theorem SepI.at_ {w:World} {lo hi lo' hi':Nat} {v:V} {c:VC} (h:SepI w lo hi v c) (e1:lo=lo') (e2:hi=hi'):SepI w lo' hi' v c:=by subst e1 e2;exact h
theorem Half.stepL {w wr w4:World} {base:Nat} {l:List V} {o:List (ByteArray×V)} {u uo:Value} {cl:List VC} {co:List (ByteArray×VC)} {j:Nat} {s:Nat->Nat} (h:Half w wr base l o u uo cl co j s) (hj:j<l.length) {g nn cap:Nat} (hu:u= .slice (some ⟨g,0,none⟩) nn cap) {cx:VC}
 (hb:uB wr w4) (hs:SepI w4 wr.heap.size w4.heap.size l[j] cx):Half w (setV w4 g (j*5) cx) base l o u uo (cl.set j cx) co (j+1) (more s j w4.heap.size):=by
 have st:=Zh w4 g (j*5) cx
 have hsz:(setV w4 g (j*5) cx).heap.size=w4.heap.size:=by simp [setV]
 have hgl:g<s 0:=h.loL g (by rw [hu];rfl)
 have hs0:s 0<=s j:=h.mono 0 j (Nat.zero_le _) (Nat.le_refl _)
 have hsj:=h.sj
 have hw4:=hb.size
 have hnn:nn=l.length:=by
  have h1:=h.rowL
  rw [hu] at h1
  rcases h1.2 with ⟨e,_⟩|⟨_,_,_,e,_⟩
  .cases e
  .injection e
 refine ⟨by rw [List.length_set];exact h.lenL,h.lenO,h.keys, ?_, ?_,h.apart,fun g' hg'=>by rw [Zt (Nat.zero_le _)];exact h.loL g' hg',fun g' hg'=>by rw [Zt (Nat.zero_le _)];exact h.loO g' hg',by rw [Zt (Nat.zero_le _)];exact h.s0,by rw [Xy (Nat.lt_succ_self j),hsz],by have:=h.jm;omega,zbw h.mono (by omega),fun i hi hi' hij=> ?_,fun i hi hi' hij=> ?_,fun i hi hi' hij=> ?_,fun i hi hi' hij=>h.oldO i hi hi' (by omega)⟩
 .have h1:w4.ownsRow base 36 5 u l.length (cl.flatMap vcells):=h.rowL.kept (row:=none) ⟨hb.os,hb.tape,hb.output,hb.size,fun k hk _=>hb.block k hk⟩ (by cases hv:u.ownBlock<;>simp)
  subst hnn
  rw [hu] at h1 ⊢
  exact zcb h1 (by rw [h.lenL];exact hj) cx
 .have h1:w4.ownsRow base 75 6 uo o.length (co.flatMap fcells):=h.rowO.kept (row:=none) ⟨hb.os,hb.tape,hb.output,hb.size,fun k hk _=>hb.block k hk⟩ (by cases hv:uo.ownBlock<;>simp)
  exact h1.kept st.grown (.inr (h.apart g (by rw [hu];rfl)))
 .by_cases hi2:i<j
  .rw [List.getElem_set_ne (by omega)]
   exact ((h.elsL i hi (by rw [h.lenL];exact hi) hi2).stay hb st (fun e=>by have h1:=e.1;have h2:=h.mono 0 i (Nat.zero_le _) (by omega);omega)).at_ (Zt (by omega)).symm (Zt (by omega)).symm
  .obtain rfl:i=j:=by omega
   rw [List.getElem_set_self]
   exact (hs.stay (Below.refl _ _) st (fun e=>by have h1:=e.1;omega)).at_ (by rw [Zt (Nat.le_refl _),hsj]) (Xy (Nat.lt_succ_self _)).symm
 .refine SepI.at_ ?_ (Zt (by omega)).symm (Zt (by omega)).symm
  exact (h.elsO i hi hi' (by omega)).stay hb st (fun e=>by have h1:=e.1;have h2:=h.mono 0 (l.length+i) (Nat.zero_le _) (by omega);omega)
 .rw [List.getElem_set_ne (by omega)]
  exact h.oldL i hi (by rw [h.lenL];exact hi) (by omega)
theorem Half.stepO {w wr w4:World} {base:Nat} {l:List V} {o:List (ByteArray×V)} {u uo:Value} {cl:List VC} {co:List (ByteArray×VC)} {j:Nat} {s:Nat->Nat} (h:Half w wr base l o u uo cl co (l.length+j) s) (hj:j<o.length) {g nn cap:Nat} (hu:uo= .slice (some ⟨g,0,none⟩) nn cap) {cx:VC} (hjc:j<co.length)
 (hb:uB wr w4) (hs:SepI w4 wr.heap.size w4.heap.size o[j].2 cx):Half w (setV w4 g (j*6+1) cx) base l o u uo cl (co.set j (co[j].1,cx)) (l.length+(j+1)) (more s (l.length+j) w4.heap.size):=by
 have st:=Zh w4 g (j*6+1) cx
 have hsz:(setV w4 g (j*6+1) cx).heap.size=w4.heap.size:=by simp [setV]
 have hgl:g<s 0:=h.loO g (by rw [hu];rfl)
 have hs0:s 0<=s (l.length+j):=h.mono 0 _ (Nat.zero_le _) (Nat.le_refl _)
 have hsj:=h.sj
 have hw4:=hb.size
 have hnn:nn=o.length:=by
  have h1:=h.rowO
  rw [hu] at h1
  rcases h1.2 with ⟨e,_⟩|⟨_,_,_,e,_⟩
  .cases e
  .injection e
 refine ⟨h.lenL,by rw [List.length_set];exact h.lenO,fun i hi hi'=> ?_, ?_, ?_,h.apart,fun g' hg'=>by rw [Zt (Nat.zero_le _)];exact h.loL g' hg',fun g' hg'=>by rw [Zt (Nat.zero_le _)];exact h.loO g' hg',by rw [Zt (Nat.zero_le _)];exact h.s0,by rw [Xy (show l.length+j<l.length+(j+1) by omega),hsz],by have:=h.jm;omega,zbw h.mono (show s (l.length+j)<=w4.heap.size by omega),fun i hi hi' hij=> ?_,fun i hi hi' hij=> ?_,fun i hi hi' hij=>h.oldL i hi hi' (by omega),fun i hi hi' hij=> ?_⟩
 .by_cases e:i=j
  .subst e
   rw [List.getElem_set_self];exact h.keys i hi hjc
  .rw [List.getElem_set_ne (fun e'=>e e'.symm)];exact h.keys i hi (by rw [h.lenO];exact hi)
 .have h1:w4.ownsRow base 36 5 u l.length (cl.flatMap vcells):=h.rowL.kept (row:=none) ⟨hb.os,hb.tape,hb.output,hb.size,fun k hk _=>hb.block k hk⟩ (by cases hv:u.ownBlock<;>simp)
  exact h1.kept st.grown (.inr (fun e=>h.apart g e (by rw [hu];rfl)))
 .have h1:w4.ownsRow base 75 6 uo o.length (co.flatMap fcells):=h.rowO.kept (row:=none) ⟨hb.os,hb.tape,hb.output,hb.size,fun k hk _=>hb.block k hk⟩ (by cases hv:uo.ownBlock<;>simp)
  subst hnn
  rw [hu] at h1 ⊢
  exact znq h1 hjc cx
 .refine SepI.at_ ?_ (Zt (by omega)).symm (Zt (by omega)).symm
  exact (h.elsL i hi hi' (by omega)).stay hb st (fun e=>by have h1:=e.1;have h2:=h.mono 0 i (Nat.zero_le _) (by omega);omega)
 .by_cases hi2:i<j
  .rw [List.getElem_set_ne (by omega)]
   exact ((h.elsO i hi (by rw [h.lenO];exact hi) (by omega)).stay hb st (fun e=>by have h1:=e.1;have h2:=h.mono 0 (l.length+i) (Nat.zero_le _) (by omega);omega)).at_ (Zt (by omega)).symm (Zt (by omega)).symm
  .obtain rfl:i=j:=by omega
   rw [List.getElem_set_self]
   exact (hs.stay (Below.refl _ _) st (fun e=>by have h1:=e.1;omega)).at_ (by rw [Zt (Nat.le_refl _),hsj]) (Xy (show l.length+i<l.length+i+1 by omega)).symm
 .rw [List.getElem_set_ne (by omega)]
  exact h.oldO i hi (by rw [h.lenO];exact hi) (by omega)
theorem Half.next {w wr W:World} {B j:Nat} {l:List V} {o:List (ByteArray×V)} {u uo:Value} {cl:List VC} {co:List (ByteArray×VC)} {s:Nat->Nat} (h:Half w wr (B+2) l o u uo cl co j s) (st:RStep wr W (B+1)) (hz:W.heap.size=wr.heap.size):Half w W B l o u uo cl co j s:=by
 have hs0:=h.s0
 have ne:∀i,i<=j->¬(s i<=B+1/\B+1<s (i+1)):=fun i hi e=>by have h1:=e.1;have h2:=h.mono 0 i (Nat.zero_le _) hi;omega
 refine ⟨h.lenL,h.lenO,h.keys,(h.rowL.kept st.grown (.inr fun e=> ?_)).mono (Nat.le_add_right _ _),(h.rowO.kept st.grown (.inr fun e=> ?_)).mono (Nat.le_add_right _ _),h.apart,h.loL,h.loO,by omega,by rw [hz];exact h.sj,h.jm,h.mono,fun i hi hi' hij=>(h.elsL i hi hi' hij).stay (Below.refl _ _) st (ne _ (by omega)),fun i hi hi' hij=>(h.elsO i hi hi' hij).stay (Below.refl _ _) st (ne _ (by omega)),h.oldL,h.oldO⟩
 .have:=(h.rowL.lt _ e).1;omega
 .have:=(h.rowO.lt _ e).1;omega
theorem Half.beside {w wr W:World} {base j g:Nat} {l:List V} {o:List (ByteArray×V)} {u uo:Value} {cl:List VC} {co:List (ByteArray×VC)} {s:Nat->Nat} (h:Half w wr base l o u uo cl co j s) (st:RStep wr W g) (hg:g<base) (hz:W.heap.size=wr.heap.size):Half w W base l o u uo cl co j s:=by
 have hs0:=h.s0
 have ne:∀i,i<=j->¬(s i<=g/\g<s (i+1)):=fun i hi e=>by have h1:=e.1;have h2:=h.mono 0 i (Nat.zero_le _) hi;omega
 refine ⟨h.lenL,h.lenO,h.keys,h.rowL.kept st.grown (.inr fun e=> ?_),h.rowO.kept st.grown (.inr fun e=> ?_),h.apart,h.loL,h.loO,h.s0,by rw [hz];exact h.sj,h.jm,h.mono,fun i hi hi' hij=>(h.elsL i hi hi' hij).stay (Below.refl _ _) st (ne _ (by omega)),fun i hi hi' hij=>(h.elsO i hi hi' hij).stay (Below.refl _ _) st (ne _ (by omega)),h.oldL,h.oldO⟩
 .have:=(h.rowL.lt _ e).1;omega
 .have:=(h.rowO.lt _ e).1;omega
theorem Half.low {w wr:World} {base base' j:Nat} {l:List V} {o:List (ByteArray×V)} {u uo:Value} {cl:List VC} {co:List (ByteArray×VC)} {s:Nat->Nat} (h:Half w wr base l o u uo cl co j s) (hb:base'<=base):Half w wr base' l o u uo cl co j s:=
 ⟨h.lenL,h.lenO,h.keys,h.rowL.mono hb,h.rowO.mono hb,h.apart,h.loL,h.loO,Nat.le_trans hb h.s0,h.sj,h.jm,h.mono,h.elsL,h.elsO,h.oldL,h.oldO⟩
def Whole (w:World) (base:Nat) (x:V) (d:VC):Prop:=
 x= .mk d.k d.n d.s x.ls x.os/\d.Bnd/\∃(cl:List VC) (co:List (ByteArray×VC)) (S:Nat->Nat) (W0:World),Half W0 w base x.ls x.os (.slice d.la d.ll d.lc) (.slice d.oa d.ol d.oc) cl co (x.ls.length+x.os.length) S
theorem Whole.beside {w W:World} {base g:Nat} {x:V} {d:VC} (h:Whole w base x d) (st:RStep w W g) (hg:g<base) (hz:W.heap.size=w.heap.size):Whole W base x d:=by
 obtain ⟨h1,h2,cl,co,S,W0,h3⟩:=h
 exact ⟨h1,h2,cl,co,S,W0,h3.beside st hg hz⟩
theorem Whole.low {w:World} {base base':Nat} {x:V} {d:VC} (h:Whole w base x d) (hb:base'<=base):Whole w base' x d:=by
 obtain ⟨h1,h2,cl,co,S,W0,h3⟩:=h
 exact ⟨h1,h2,cl,co,S,W0,h3.low hb⟩
theorem Half.done {w wr:World} {base:Nat} {l:List V} {o:List (ByteArray×V)} {cl:List VC} {co:List (ByteArray×VC)} {s:Nat->Nat} {c:VC} (h:Half w wr base l o (.slice c.la c.ll c.lc) (.slice c.oa c.ol c.oc) cl co (l.length+o.length) s) (hb:c.Bnd):
 SepI wr base wr.heap.size (.mk c.k c.n c.s l o) c:=by
 have rL:c.ll=l.length/\(0<c.ll->∃g,c.la=some ⟨g,0,none⟩):=by
  rcases h.rowL.2 with ⟨e,e2⟩|⟨g,cap,cur,e,_⟩
  .injection e with e3 e4 e5;exact ⟨by omega,fun h0=>by omega⟩
  .injection e with e3 e4 e5;exact ⟨e4,fun _=>⟨g,e3⟩⟩
 have rO:c.ol=o.length/\(0<c.ol->∃g,c.oa=some ⟨g,0,none⟩):=by
  rcases h.rowO.2 with ⟨e,e2⟩|⟨g,cap,cur,e,_⟩
  .injection e with e3 e4 e5;exact ⟨by omega,fun h0=>by omega⟩
  .injection e with e3 e4 e5;exact ⟨e4,fun _=>⟨g,e3⟩⟩
 obtain ⟨gl,hgl⟩:∃gl,0<c.ll->c.la=some ⟨gl,0,none⟩:=by
  by_cases h0:0<c.ll
  .obtain ⟨g,hg⟩:=rL.2 h0;exact ⟨g,fun _=>hg⟩
  .exact ⟨0,fun h1=>absurd h1 h0⟩
 obtain ⟨go,hgo⟩:∃go,0<c.ol->c.oa=some ⟨go,0,none⟩:=by
  by_cases h0:0<c.ol
  .obtain ⟨g,hg⟩:=rO.2 h0;exact ⟨g,fun _=>hg⟩
  .exact ⟨0,fun h1=>absurd h1 h0⟩
 have oL:0<c.ll->(Value.slice c.la c.ll c.lc).ownBlock=some gl:=fun h0=>by rw [hgl h0];rfl
 have oO:0<c.ol->(Value.slice c.oa c.ol c.oc).ownBlock=some go:=fun h0=>by rw [hgo h0];rfl
 have hz:∀i,i<=l.length+o.length->s i<=wr.heap.size:=fun i hi=>by rw [<-h.sj];exact h.mono i _ hi (Nat.le_refl _)
 have hm:∀i,i<=l.length+o.length->s 0<=s i:=fun i hi=>h.mono 0 i (Nat.zero_le _) hi
 have cL:∀i,i<l.length->ValAt wr gl (i*5) (cl.getD i c):=fun i hi=>by
  have h1:=h.rowL
  rw [hgl (by omega),rL.1] at h1
  have hl:=h.lenL
  have e:cl.getD i c=cl[i]'(by omega):=by simp [List.getD_eq_getElem?_getD,show i<cl.length by omega]
  rw [e]
  have hbc:∀j v,(cl.flatMap vcells)[j]? =some v->wr.cell? ⟨gl,j,none⟩=some v:=fun j v hj=>by
   have hlen:(cl.flatMap vcells).length=l.length*5:=h1.1
   rw [h1.cellAt j (by have:=(List.getElem?_eq_some_iff.1 hj).1;omega)];exact hj
  exact Yv ⟨hbc,fun j=>h1.frozenAt j,(h1.lt gl rfl).2⟩ (by omega)
 have cO:∀i (hi:i<o.length),wr.cell? ⟨go,i*6,none⟩=some (.string o[i].1)/\o[i].1.size<=140737488355328/\ValAt wr go (i*6+1) (co.getD i (.empty,c)).2:=fun i hi=>by
  have h1:=h.rowO
  rw [hgo (by omega),rO.1] at h1
  have hl:=h.lenO
  have e:co.getD i (.empty,c)=co[i]'(by omega):=by simp [List.getD_eq_getElem?_getD,show i<co.length by omega]
  rw [e]
  have hbc:∀j v,(co.flatMap fcells)[j]? =some v->wr.cell? ⟨go,j,none⟩=some v:=fun j v hj=>by
   have hlen:(co.flatMap fcells).length=o.length*6:=h1.1
   rw [h1.cellAt j (by have:=(List.getElem?_eq_some_iff.1 hj).1;omega)];exact hj
  obtain ⟨g1,g2⟩:=Z7 (W:=wr) (g:=go) ⟨hbc,fun j=>h1.frozenAt j,(h1.lt go rfl).2⟩ (i:=i) (by omega)
  obtain ⟨k1,k2⟩:=h.keys i hi (by omega)
  exact ⟨by rw [<-k1];exact g1,k2,g2⟩
 have hlL:=h.lenL;have hlO:=h.lenO
 obtain ⟨TL,hTL⟩:=Classical.axiomOfChoice (fun i=>show ∃S:Nat->Prop,∀(hi:i<l.length) (hi':i<cl.length),(∀k,S k->s i<=k/\k<s (i+1))/\Soft wr S/\Sep wr S l[i] cl[i] by
  by_cases hi:i<l.length
  .obtain ⟨S,h1⟩:=h.elsL i hi (by omega) (by omega)
   exact ⟨S,fun _ _=>h1⟩
  .exact ⟨fun _=>False,fun h1 _=>absurd h1 hi⟩)
 obtain ⟨TO,hTO⟩:=Classical.axiomOfChoice (fun i=>show ∃S:Nat->Prop,∀(hi:i<o.length) (hi':i<co.length),(∀k,S k->s (l.length+i)<=k/\k<s (l.length+i+1))/\Soft wr S/\Sep wr S o[i].2 co[i].2 by
  by_cases hi:i<o.length
  .obtain ⟨S,h1⟩:=h.elsO i hi (by omega) (by omega)
   exact ⟨S,fun _ _=>h1⟩
  .exact ⟨fun _=>False,fun h1 _=>absurd h1 hi⟩)
 have bL:∀i,i<l.length->∀k,TL i k->s i<=k/\k<s (i+1):=fun i hi k hk=>(hTL i hi (by omega)).1 k hk
 have bO:∀i,i<o.length->∀k,TO i k->s (l.length+i)<=k/\k<s (l.length+i+1):=fun i hi k hk=>(hTO i hi (by omega)).1 k hk
 refine ⟨fun k=>(0<c.ll/\k=gl)∨(0<c.ol/\k=go)∨(∃i,i<l.length/\TL i k)∨(∃i,i<o.length/\TO i k),fun k hk=> ?_,fun k q hk=> ?_, ?_⟩
 .rcases hk with ⟨h0,rfl⟩|⟨h0,rfl⟩|⟨i,hi,hk⟩|⟨i,hi,hk⟩
  .exact h.rowL.lt _ (oL h0)
  .exact h.rowO.lt _ (oO h0)
  .have h1:=bL i hi k hk;have h3:=hm i (by omega);have h4:=hz (i+1) (by omega);have h5:=h.s0
   omega
  .have h1:=bO i hi k hk;have h3:=hm (l.length+i) (by omega);have h4:=hz (l.length+i+1) (by omega);have h5:=h.s0
   omega
 .rcases hk with ⟨h0,rfl⟩|⟨h0,rfl⟩|⟨i,hi,hk⟩|⟨i,hi,hk⟩
  .have h1:=h.rowL
   rw [hgl h0,rL.1] at h1
   exact h1.frozenAt q
  .have h1:=h.rowO
   rw [hgo h0,rO.1] at h1
   exact h1.frozenAt q
  .exact (hTL i hi (by omega)).2.1 k q hk
  .exact (hTO i hi (by omega)).2.1 k q hk
 refine .mk _ c l o (fun i=>cl.getD i c) (fun i=>(co.getD i (.empty,c)).2) gl go TL TO hb rL.1 rO.1 (fun k hk=> ?_) (fun h0=>⟨hgl h0, .inl ⟨h0,rfl⟩⟩) (fun h0=>⟨hgo h0, .inr (.inl ⟨h0,rfl⟩)⟩) (fun h0 h1 e=> ?_) cL cO (fun i hi=> ?_) (fun i hi=> ?_) (fun i hi k hk=> ?_) (fun i hi k hk=> ?_) (fun i i' hi hi' hne k hk hk'=> ?_) (fun i i' hi hi' hne k hk hk'=> ?_) (fun i i' hi hi' k hk hk'=> ?_)
 .rcases hk with ⟨h0,rfl⟩|⟨h0,rfl⟩|⟨i,hi,hk⟩|⟨i,hi,hk⟩
  .exact (h.rowL.lt _ (oL h0)).2
  .exact (h.rowO.lt _ (oO h0)).2
  .have h1:=bL i hi k hk;have h4:=hz (i+1) (by omega);omega
  .have h1:=bO i hi k hk;have h4:=hz (l.length+i+1) (by omega);omega
 .exact h.apart gl (oL h0) (by rw [oO h1,e])
 .have e:cl.getD i c=cl[i]'(by omega):=by simp [List.getD_eq_getElem?_getD,show i<cl.length by omega]
  rw [e];exact (hTL i hi (by omega)).2.2
 .have e:co.getD i (.empty,c)=co[i]'(by omega):=by simp [List.getD_eq_getElem?_getD,show i<co.length by omega]
  rw [e];exact (hTO i hi (by omega)).2.2
 .have h1:=bL i hi k hk;have h3:=hm i (by omega)
  exact ⟨.inr (.inr (.inl ⟨i,hi,hk⟩)),fun e=>by have:=h.loL gl (oL (by omega));omega,fun h0 e=>by have:=h.loO go (oO h0);omega⟩
 .have h1:=bO i hi k hk;have h3:=hm (l.length+i) (by omega)
  exact ⟨.inr (.inr (.inr ⟨i,hi,hk⟩)),fun e=>by have:=h.loO go (oO (by omega));omega,fun h0 e=>by have:=h.loL gl (oL h0);omega⟩
 .have h1:=bL i hi k hk;have h3:=bL i' hi' k hk'
  rcases Nat.lt_or_ge i i' with h5|h5
  .have:=h.mono (i+1) i' (by omega) (by omega);omega
  .have:=h.mono (i'+1) i (by omega) (by omega);omega
 .have h1:=bO i hi k hk;have h3:=bO i' hi' k hk'
  rcases Nat.lt_or_ge i i' with h5|h5
  .have:=h.mono (l.length+i+1) (l.length+i') (by omega) (by omega);omega
  .have:=h.mono (l.length+i'+1) (l.length+i) (by omega) (by omega);omega
 .have h1:=bL i hi k hk;have h3:=bO i' hi' k hk'
  have:=h.mono (i+1) (l.length+i') (by omega) (by omega);omega
theorem Whole.sepI {w:World} {base:Nat} {x:V} {d:VC} (h:Whole w base x d):SepI w base w.heap.size x d:=by
 obtain ⟨h1,h2,cl,co,S,W0,h3⟩:=h
 rw [h1];exact h3.done h2
theorem SepI.isVal {w:World} {lo hi:Nat} {x:V} {d:VC} (h:SepI w lo hi x d):IsVal (only (fun b=>lo<=b) w) w.heap.size x d:=by
 obtain ⟨S,h1,_,h3⟩:=h
 exact h3.isVal fun k hk=>(h1 k hk).1
end Go.Proofs.YtnjgbiachcfigaaGreatDoor
