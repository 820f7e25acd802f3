/-
  Contracts of the functions that the law reaches: Values whose rows lie apart: one of.
-/
import Derived.Test.YtnjgbiachcfigaaGreatDoorIw2
import Derived.Laws.OwnMore
import Derived.Deep.Onto
import Derived.Laws.CopyRow
import Derived.Laws.CopyOwn
import Derived.Lib.Walk
namespace Go.Proofs.YtnjgbiachcfigaaGreatDoor
open Go.RowKit
set_option maxHeartbeats 4000000
theorem Sep.keep {w w':World} {S:Nat->Prop} {v:V} {c:VC} (h:Sep w S v c) (hz:w.heap.size<=w'.heap.size):Agree S w w'->Sep w' S v c:=by
 induction h with
 | mk S c l o cl co gl go TL TO hb hl ho hS hla hoa hne hlc hoc hlv hov hTL hTO dL dO dLO ihl iho=>
   intro ha
   refine .mk S c l o cl co gl go TL TO hb hl ho (fun k hk=>Nat.lt_of_lt_of_le (hS k hk) hz) hla hoa hne (fun i hi=>ha.val (hla (by omega)).2 (hlc i hi)) (fun i hi=> ?_) (fun i hi=>ihl i hi fun k q hk=>ha k q (hTL i hi k hk).1) (fun i hi=>iho i hi fun k q hk=>ha k q (hTO i hi k hk).1) hTL hTO dL dO dLO
   have hg:=(hoa (by omega)).2
   exact ⟨(ha _ _ hg).trans (hoc i hi).1,(hoc i hi).2.1,ha.val hg (hoc i hi).2.2⟩
theorem Sep.more {w:World} {S S':Nat->Prop} {v:V} {c:VC} (h:Sep w S v c) (hs:∀k,S k->S' k) (hz:∀k,S' k->k<w.heap.size):Sep w S' v c:=by
 cases h with
 | mk S c l o cl co gl go TL TO hb hl ho hS hla hoa hne hlc hoc hlv hov hTL hTO dL dO dLO=>
   exact .mk S' c l o cl co gl go TL TO hb hl ho hz (fun h=>⟨(hla h).1,hs _ (hla h).2⟩) (fun h=>⟨(hoa h).1,hs _ (hoa h).2⟩) hne hlc hoc hlv hov (fun i hi k hk=>⟨hs _ (hTL i hi k hk).1,(hTL i hi k hk).2⟩) (fun i hi k hk=>⟨hs _ (hTO i hi k hk).1,(hTO i hi k hk).2⟩) dL dO dLO
structure SepAt (w:World) (S:Nat->Prop) (v:V) (b o:Nat) (c:VC):Prop where
 at_:ValAt w b o c
 sep:Sep w S v c
 out:¬S b
inductive Way (w:World):Nat->Nat->V->List St->Nat->Nat->V->Prop
 |nil (b o:Nat) (v:V):Way w b o v [] b o v
 |list (b o:Nat) (v x y:V) (c:VC) (s:St) (r:List St) (k g q b' o':Nat) (hv:ValAt w b o c) (hi:IsVal w w.heap.size v c) (hs:stepP v s=some (x,k)) (hl:s.list=true) (ha:c.la=some ⟨g,q,none⟩) (h:Way w g (q+k*5) x r b' o' y):Way w b o v (s::r) b' o' y
 |obj (b o:Nat) (v x y:V) (c:VC) (s:St) (r:List St) (k g q b' o':Nat) (hv:ValAt w b o c) (hi:IsVal w w.heap.size v c) (hs:stepP v s=some (x,k)) (hl:s.list=false) (ha:c.oa=some ⟨g,q,none⟩) (h:Way w g (q+k*6+1) x r b' o' y):Way w b o v (s::r) b' o' y
def But (S:Nat->Prop) (b b' o':Nat) (w w':World):Prop:=∀k q,(S k∨k=b)->¬(k=b'/\o'<=q/\q<o'+5)->w'.cell? ⟨k,q,none⟩=w.cell? ⟨k,q,none⟩
theorem But.val {S:Nat->Prop} {b b' o':Nat} {w w':World} (h:But S b b' o' w w') {k q:Nat} {c:VC} (hk:S k∨k=b) (hn:k≠b'∨q+5<=o'∨o'+5<=q) (hv:ValAt w k q c):ValAt w' k q c:=
 ⟨(h _ _ hk (by omega)).trans hv.c0,(h _ _ hk (by omega)).trans hv.c1,(h _ _ hk (by omega)).trans hv.c2,(h _ _ hk (by omega)).trans hv.c3,(h _ _ hk (by omega)).trans hv.c4⟩
theorem zdl {w:World} {S:Nat->Prop} {v:V} {c:VC} (h:Sep w S v c):IsVal w w.heap.size v c:=
 (h.isVal (P:=fun _=>True) fun _ _=>trivial).sub (Zk _ _ _)
theorem zim (o:List (ByteArray×V)) (k:Nat) (z:V) (i:Nat) (h:i<(putO o k z).length) (h2:i<o.length):(putO o k z)[i].1=o[i].1/\(i=k->(putO o k z)[i].2=z)/\(i≠k->(putO o k z)[i].2=o[i].2):=by
 have h3:(putO o k z)[i] =(o.set k ((o.getD k (.empty,V.none)).1,z))[i]'(by rw [List.length_set];exact h2):=rfl
 rw [h3,List.getElem_set]
 by_cases hk:k=i
 .subst hk
  rw [if_pos rfl]
  have e:o.getD k (.empty,V.none)=o[k] :=by simp [List.getD_eq_getElem?_getD,h2]
  exact ⟨by rw [e],fun _=>rfl,fun e=>absurd rfl e⟩
 .rw [if_neg hk]
  exact ⟨rfl,fun e=>absurd e.symm hk,fun _=>rfl⟩
set_option maxRecDepth 100000 in
theorem zbt (p:List St):∀ {w:World} {S:Nat->Prop} {v x:V} {b o:Nat} {c:VC},SepAt w S v b o c->getP v p=some x->
 ∃ b' o' Sx cx,SepAt w Sx x b' o' cx/\Way w b o v p b' o' x/\((b'=b/\o'=o/\p= [])∨S b')/\(∀k,Sx k->S k)/\
   ∀(w':World) (S':Nat->Prop) (y:V) (cy:VC),w.heap.size<=w'.heap.size->But S b b' o' w w'->SepAt w' S' y b' o' cy->(∀k,S' k->¬S k/\k≠b)->∃z cz,putP v p y=some z/\SepAt w' (fun k=>S k∨S' k) z b o cz:=by
 induction p with
 | nil=>
   intro w S v x b o c h hg
   injection hg with hg;subst hg
   refine ⟨b,o,S,c,h, .nil b o v, .inl ⟨rfl,rfl,rfl⟩,fun _ h=>h,fun w' S' y cy hz hbut hy hd=>⟨y,cy,rfl,hy.at_,hy.sep.more (fun _ h=> .inr h) (fun k hk=> ?_),fun hk=> ?_⟩⟩
   .rcases hk with hk|hk
    .exact Nat.lt_of_lt_of_le (h.sep.bnd k hk) hz
    .exact hy.sep.bnd k hk
   .rcases hk with hk|hk
    .exact h.out hk
    .exact (hd b hk).2 rfl
 | cons s r ih =>
   intro w S v x b o c h hg
   obtain ⟨hat,hsep,hout⟩:=h
   have hfull:=zdl hsep
   unfold getP at hg
   cases hs:stepP v s with
   |none=>rw [hs] at hg;cases hg
   | some q =>
     obtain ⟨u,k⟩:=q
     rw [hs] at hg
     try dsimp only at hg
     have hstep:=Yy hs
     cases hsep with
     |mk S c l ol cl co gl go TL TO hb hl ho hS hla hoa hne hlc hoc hlv hov hTL hTO dL dO dLO=>
     rcases hstep with ⟨hls,_,hki,hk,hu⟩|⟨hls,_,hki,hk,hu⟩
     .have hk :k<l.length:=hk
      have hu:l[k] =u:=hu
      have hll:0<c.ll:=by omega
      obtain ⟨hga,hgS⟩:=hla hll
      have hnT:¬TL k gl:=fun e=>(hTL k hk gl e).2.1 rfl
      obtain ⟨b',o',Sx,cx,h1,h2,h3,h4,h5⟩:=ih (b:=gl) (o:=k*5) (c:=cl k) ⟨hlc k hk,by rw [<-hu];exact hlv k hk,hnT⟩ hg
      have hb'S:S b':=by
       rcases h3 with ⟨e,_⟩|e
       .rw [e];exact hgS
       .exact (hTL k hk _ e).1
      refine ⟨b',o',Sx,cx,h1, .list b o _ u x c s r k gl 0 b' o' hat hfull hs hls hga (by rw [Nat.zero_add];exact h2), .inr hb'S,fun j hj=>(hTL k hk j (h4 j hj)).1,fun w' S' y cy hz hbut hy hd=> ?_⟩
      obtain ⟨z,cz,hz1,hz2⟩:=h5 w' S' y cy hz (fun j q hj hn=>hbut j q (.inl (by
       rcases hj with hj|rfl
       .exact (hTL k hk j hj).1
       .exact hgS)) hn) hy (fun j hj=>⟨fun e=>(hd j hj).1 (hTL k hk j e).1,fun e=>(hd j hj).1 (e ▸ hgS)⟩)
      have hne':∀i,i<l.length->i≠k->gl≠b'∨i*5+5<=o'∨o'+5<=i*5:=fun i hi hik=>by
       rcases h3 with ⟨_,e,_⟩|e
       .right;rw [e];omega
       .left;intro e2;exact hnT (e2 ▸ e)
      have hgo':0<c.ol->go≠b':=fun h0 e2=>by
       rcases h3 with ⟨e,_⟩|e
       .exact hne hll h0 (by rw [e2,e])
       .exact (hTL k hk _ e).2.2 h0 e2.symm
      have agr:∀(T:Nat->Prop),(∀j,T j->S j)->¬T b'->Agree T w w':=fun T hT hn j q hj=>hbut j q (.inl (hT j hj)) (fun e=>hn (e.1 ▸ hj))
      refine ⟨(V.mk c.k c.n c.s l ol).setL k z,c,by unfold putP;rw [hs];dsimp only;rw [hz1];dsimp only;rw [if_pos hls],hbut.val (.inr rfl) (.inl fun e=>hout (e ▸ hb'S)) hat, ?_,fun e=> ?_⟩
      .show Sep w' _ (V.mk c.k c.n c.s (l.set k z) ol) c
       refine .mk _ c (l.set k z) ol (fun i=>if i=k then cz else cl i) co gl go (fun i=>if i=k then (fun j=>TL k j∨S' j) else TL i) TO hb (by rw [List.length_set];exact hl) ho (fun j hj=> ?_) (fun h=>⟨(hla h).1, .inl (hla h).2⟩) (fun h=>⟨(hoa h).1, .inl (hoa h).2⟩) hne (fun i hi=> ?_) (fun i hi=> ?_) (fun i hi=> ?_) (fun i hi=> ?_) (fun i hi j hj=> ?_) (fun i hi j hj=>⟨.inl (hTO i hi j hj).1,(hTO i hi j hj).2⟩) (fun i i' hi hi' hii j hj hj'=> ?_) dO (fun i i' hi hi' j hj hj'=> ?_)
       .rcases hj with hj|hj
        .exact Nat.lt_of_lt_of_le (hS j hj) hz
        .exact hy.sep.bnd j hj
       .rw [List.length_set] at hi
        try dsimp only
        by_cases hik:i=k
        .rw [if_pos hik,hik];exact hz2.at_
        .rw [if_neg hik];exact hbut.val (.inl hgS) (hne' i hi hik) (hlc i hi)
       .have hg:=hgo' (by omega)
        exact ⟨(hbut _ _ (.inl (hoa (by omega)).2) (fun e=>hg e.1)).trans (hoc i hi).1,(hoc i hi).2.1,hbut.val (.inl (hoa (by omega)).2) (.inl hg) (hoc i hi).2.2⟩
       .rw [List.length_set] at hi
        try dsimp only
        by_cases hik:i=k
        .subst hik
         rw [if_pos rfl,if_pos rfl,List.getElem_set_self];exact hz2.sep
        .rw [if_neg hik,if_neg hik,List.getElem_set_ne (Ne.symm hik)]
         exact (hlv i hi).keep hz (agr _ (fun j hj=>(hTL i hi j hj).1) fun e=>by
          rcases h3 with ⟨e1,_⟩|e1
          .exact (hTL i hi _ e).2.1 e1
          .exact dL i k hi hk hik _ e e1)
       .exact (hov i hi).keep hz (agr _ (fun j hj=>(hTO i hi j hj).1) fun e=>by
         rcases h3 with ⟨e1,_⟩|e1
         .exact (hTO i hi _ e).2.2 hll e1
         .exact dLO k i hk hi _ e1 e)
       .rw [List.length_set] at hi
        try dsimp only at hj
        by_cases hik:i=k
        .rw [if_pos hik] at hj
         rcases hj with hj|hj
         .exact ⟨.inl (hTL k hk j hj).1,(hTL k hk j hj).2⟩
         .exact ⟨.inr hj,fun e=>(hd j hj).1 (e ▸ hgS),fun h0 e=>(hd j hj).1 (e ▸ (hoa h0).2)⟩
        .rw [if_neg hik] at hj
         exact ⟨.inl (hTL i hi j hj).1,(hTL i hi j hj).2⟩
       .rw [List.length_set] at hi hi'
        try dsimp only at hj hj'
        by_cases hik:i=k
        .have hik':i'≠k:=fun e=>hii (by rw [hik,e])
         rw [if_pos hik] at hj
         rw [if_neg hik'] at hj'
         rcases hj with hj|hj
         .exact dL k i' hk hi' (fun e=>hik' e.symm) j hj hj'
         .exact (hd j hj).1 (hTL i' hi' j hj').1
        .rw [if_neg hik] at hj
         by_cases hik':i'=k
         .rw [if_pos hik'] at hj'
          rcases hj' with hj'|hj'
          .exact dL i k hi hk hik j hj hj'
          .exact (hd j hj').1 (hTL i hi j hj).1
         .rw [if_neg hik'] at hj'
          exact dL i i' hi hi' hii j hj hj'
       .rw [List.length_set] at hi
        try dsimp only at hj
        by_cases hik:i=k
        .rw [if_pos hik] at hj
         rcases hj with hj|hj
         .exact dLO k i' hk hi' j hj hj'
         .exact (hd j hj).1 (hTO i' hi' j hj').1
        .rw [if_neg hik] at hj
         exact dLO i i' hi hi' j hj hj'
      .rcases e with e|e
       .exact hout e
       .exact (hd b e).2 rfl
     .have hk :k<ol.length:=hk
      have hu:ol[k].2=u:=hu
      have hll:0<c.ol:=by omega
      obtain ⟨hga,hgS⟩:=hoa hll
      have hnT:¬TO k go:=fun e=>(hTO k hk go e).2.1 rfl
      obtain ⟨b',o',Sx,cx,h1,h2,h3,h4,h5⟩:=ih (b:=go) (o:=k*6+1) (c:=co k) ⟨(hoc k hk).2.2,by rw [<-hu];exact hov k hk,hnT⟩ hg
      have hb'S:S b':=by
       rcases h3 with ⟨e,_⟩|e
       .rw [e];exact hgS
       .exact (hTO k hk _ e).1
      refine ⟨b',o',Sx,cx,h1, .obj b o _ u x c s r k go 0 b' o' hat hfull hs hls hga (by rw [Nat.zero_add];exact h2), .inr hb'S,fun j hj=>(hTO k hk j (h4 j hj)).1,fun w' S' y cy hz hbut hy hd=> ?_⟩
      obtain ⟨z,cz,hz1,hz2⟩:=h5 w' S' y cy hz (fun j q hj hn=>hbut j q (.inl (by
       rcases hj with hj|rfl
       .exact (hTO k hk j hj).1
       .exact hgS)) hn) hy (fun j hj=>⟨fun e=>(hd j hj).1 (hTO k hk j e).1,fun e=>(hd j hj).1 (e ▸ hgS)⟩)
      have hne':∀i,i<ol.length->i≠k->go≠b'∨i*6+6<=o'∨o'+5<=i*6:=fun i hi hik=>by
       rcases h3 with ⟨_,e,_⟩|e
       .right;rw [e];omega
       .left;intro e2;exact hnT (e2 ▸ e)
      have hkey':go≠b'∨k*6<o':=by
       rcases h3 with ⟨_,e,_⟩|e
       .right;rw [e];omega
       .left;intro e2;exact hnT (e2 ▸ e)
      have hgl':0<c.ll->gl≠b':=fun h0 e2=>by
       rcases h3 with ⟨e,_⟩|e
       .exact hne h0 hll (by rw [e2,e])
       .exact (hTO k hk _ e).2.2 h0 e2.symm
      have agr:∀(T:Nat->Prop),(∀j,T j->S j)->¬T b'->Agree T w w':=fun T hT hn j q hj=>hbut j q (.inl (hT j hj)) (fun e=>hn (e.1 ▸ hj))
      refine ⟨(V.mk c.k c.n c.s l ol).setO k z,c,by unfold putP;rw [hs];dsimp only;rw [hz1];dsimp only;rw [if_neg (by simp [hls])],hbut.val (.inr rfl) (.inl fun e=>hout (e ▸ hb'S)) hat, ?_,fun e=> ?_⟩
      .show Sep w' _ (V.mk c.k c.n c.s l (putO ol k z)) c
       have hlen:(putO ol k z).length=ol.length:=by unfold putO;rw [List.length_set]
       have hget:∀i (h:i<(putO ol k z).length),(putO ol k z)[i].1=(ol[i]'(by omega)).1/\(i=k->(putO ol k z)[i].2=z)/\(i≠k->(putO ol k z)[i].2=(ol[i]'(by omega)).2):=fun i h=>zim ol k z i h (by omega)
       refine .mk _ c l (putO ol k z) cl (fun i=>if i=k then cz else co i) gl go TL (fun i=>if i=k then (fun j=>TO k j∨S' j) else TO i) hb hl (by rw [hlen];exact ho) (fun j hj=> ?_) (fun h=>⟨(hla h).1, .inl (hla h).2⟩) (fun h=>⟨(hoa h).1, .inl (hoa h).2⟩) hne (fun i hi=> ?_) (fun i hi=> ?_) (fun i hi=> ?_) (fun i hi=> ?_) (fun i hi j hj=>⟨.inl (hTL i hi j hj).1,(hTL i hi j hj).2⟩) (fun i hi j hj=> ?_) dL (fun i i' hi hi' hii j hj hj'=> ?_) (fun i i' hi hi' j hj hj'=> ?_)
       .rcases hj with hj|hj
        .exact Nat.lt_of_lt_of_le (hS j hj) hz
        .exact hy.sep.bnd j hj
       .exact hbut.val (.inl (hla (by omega)).2) (.inl (hgl' (by omega))) (hlc i hi)
       .have hi2:i<ol.length:=by omega
        obtain ⟨g1,g2,g3⟩:=hget i hi
        rw [g1]
        try dsimp only
        by_cases hik:i=k
        .subst hik
         refine ⟨(hbut _ _ (.inl hgS) (by omega)).trans (hoc i hi2).1,(hoc i hi2).2.1, ?_⟩
         rw [if_pos rfl];exact hz2.at_
        .have:=hne' i hi2 hik
         refine ⟨(hbut _ _ (.inl hgS) (by omega)).trans (hoc i hi2).1,(hoc i hi2).2.1, ?_⟩
         rw [if_neg hik];exact hbut.val (.inl hgS) (by omega) (hoc i hi2).2.2
       .exact (hlv i hi).keep hz (agr _ (fun j hj=>(hTL i hi j hj).1) fun e=>by
         rcases h3 with ⟨e1,_⟩|e1
         .exact (hTL i hi _ e).2.2 hll e1
         .exact dLO i k hi hk _ e e1)
       .have hi2:i<ol.length:=by omega
        obtain ⟨g1,g2,g3⟩:=hget i hi
        try dsimp only
        by_cases hik:i=k
        .rw [if_pos hik,if_pos hik,g2 hik];exact hz2.sep
        .rw [if_neg hik,if_neg hik,g3 hik]
         exact (hov i hi2).keep hz (agr _ (fun j hj=>(hTO i hi2 j hj).1) fun e=>by
          rcases h3 with ⟨e1,_⟩|e1
          .exact (hTO i hi2 _ e).2.1 e1
          .exact dO i k hi2 hk hik _ e e1)
       .rw [hlen] at hi
        try dsimp only at hj
        by_cases hik:i=k
        .rw [if_pos hik] at hj
         rcases hj with hj|hj
         .exact ⟨.inl (hTO k hk j hj).1,(hTO k hk j hj).2⟩
         .exact ⟨.inr hj,fun e=>(hd j hj).1 (e ▸ hgS),fun h0 e=>(hd j hj).1 (e ▸ (hla h0).2)⟩
        .rw [if_neg hik] at hj
         exact ⟨.inl (hTO i hi j hj).1,(hTO i hi j hj).2⟩
       .rw [hlen] at hi hi'
        try dsimp only at hj hj'
        by_cases hik:i=k
        .have hik':i'≠k:=fun e=>hii (by rw [hik,e])
         rw [if_pos hik] at hj
         rw [if_neg hik'] at hj'
         rcases hj with hj|hj
         .exact dO k i' hk hi' (fun e=>hik' e.symm) j hj hj'
         .exact (hd j hj).1 (hTO i' hi' j hj').1
        .rw [if_neg hik] at hj
         by_cases hik':i'=k
         .rw [if_pos hik'] at hj'
          rcases hj' with hj'|hj'
          .exact dO i k hi hk hik j hj hj'
          .exact (hd j hj').1 (hTO i hi j hj).1
         .rw [if_neg hik'] at hj'
          exact dO i i' hi hi' hii j hj hj'
       .rw [hlen] at hi'
        try dsimp only at hj'
        by_cases hik:i'=k
        .rw [if_pos hik] at hj'
         rcases hj' with hj'|hj'
         .exact dLO i k hi hk j hj hj'
         .exact (hd j hj').1 (hTL i hi j hj).1
        .rw [if_neg hik] at hj'
         exact dLO i i' hi hi' j hj hj'
      .rcases e with e|e
       .exact hout e
       .exact (hd b e).2 rfl
def CopyPost (w:World) (k n:Int) (s:ByteArray) (l:List V) (o:List (ByteArray×V)) (e:Ending) (w':World):Prop:=
 (∃a m c a' m' c' cl co,e= .returned (.agg #[.int .u8 k, .int .i64 n, .string s, .slice a m c, .slice a' m' c'])/\Fresh w' w.heap.size l o a m c a' m' c' cl co)/\Below w.heap.size w w'
structure CL1 (w wr:World) (c0:VC) (l:List V) (j:Nat) (a:Option Addr) (m c:Nat) (xs:List V) (cs:List VC):Prop where
 rd:l.take j=xs
 len:xs.length=j
 cen:cs.length=j
 box:BC wr w.heap.size (vcells c0)
 res:BC wr (w.heap.size+1) (vcells vzero)
 below:Below w.heap.size w wr
 row:RowV wr (w.heap.size+2) (.slice a m c) xs cs
theorem CL1.round {w wr w4 w6 w7:World} {c0:VC} {l:List V} {j:Nat} {a:Option Addr} {m c:Nat} {xs:List V} {cs:List VC} {x:V} {cx:VC} {g cap:Nat}
 (h:CL1 w wr c0 l j a m c xs cs) (hj:j<l.length) (hx:l[j] =x) (hb4:uB wr w4) (hI:IsVal (only (fun b=>wr.heap.size<=b) w4) w4.heap.size x cx) (hb6:uB w4 w6)
 (hown:w7.ownsRow (w.heap.size+2) 36 5 (.slice (some ⟨g,0,none⟩) (j+1) cap) (j+1) (cs.flatMap vcells++vcells cx)) (hg:w6.grownBy w7 (Value.slice a m c).ownBlock)
 (hat:(Value.slice a m c).ownBlock=some g∨w4.heap.size<=g):
 CL1 w w7 c0 l (j+1) (some ⟨g,0,none⟩) (j+1) cap (xs++ [x]) (cs++ [cx]):=by
 have hrow:=h.row.later (PV.closed xs cs) (.of_below 0 hb4) (by omega)
 have hrlt:∀b,(Value.slice a m c).ownBlock=some b->w.heap.size+2<=b/\b<wr.heap.size:=h.row.lt
 have hsz:=h.box.lt
 have hsr:=h.res.lt
 have hsz4:=hb4.size
 have hsz6:=hb6.size
 have hgb:Below (w.heap.size+2) w6 w7:=Zj hg (fun b hb=>(hrlt b hb).1) (by omega)
 have hb67:Below (w.heap.size+2) w4 w7:=(hb6.mono (by omega)).trans hgb
 obtain ⟨s1,s2⟩:=PV.snoc (l:=xs) (cs:=cs) (by rw [h.len,h.cen]) x cx
 have hnew:PV (xs++ [x]) (cs++ [cx]) (only (Free (w.heap.size+2) (.slice a m c)) w4) w4.heap.size xs.length:=s1 _ _ (hI.sub (Zd fun b hb _=>⟨⟨by omega,fun e=>by have:=(hrlt b e.symm).2;omega⟩,rfl⟩))
 have hpush:=Row.push (PV.closed (xs++ [x]) (cs++ [cx])) hrow hb6 hg (u':= .slice (some ⟨g,0,none⟩) (j+1) cap) (news:=vcells cx) (by rw [h.len];exact hown) (by
  rcases hat with e|e
  .left;rw [e];rfl
  .right;intro b hb;have:g=b:=by simpa [Value.ownBlock] using hb
   omega) hnew s2
 refine ⟨?_,by simp [h.len],by simp [h.cen],(h.box.keep hb4 (by omega)).keep hb67 (by omega),(h.res.keep hb4 (by omega)).keep hb67 (by omega),(h.below.trans (hb4.mono (by omega))).trans (hb67.mono (by omega)), ?_⟩
 .rw [Yb l j hj,h.rd,hx]
 .show Row _ _ _ _ _ _ _ _
  rw [Y4,List.length_append,List.length_singleton]
  exact hpush
structure CL2 (w1 wr:World) (o:List (ByteArray×V)) (j:Nat) (a:Option Addr) (m c:Nat) (xs:List (ByteArray×V)) (cs:List (ByteArray×VC)):Prop where
 rd:o.take j=xs
 len:xs.length=j
 cen:cs.length=j
 pos:0<w1.heap.size
 below:Below w1.heap.size w1 wr
 row:RowF wr w1.heap.size (.slice a m c) xs cs
theorem CL2.round {w1 wr w4 w6 w7:World} {o:List (ByteArray×V)} {j:Nat} {a:Option Addr} {m c:Nat} {xs:List (ByteArray×V)} {cs:List (ByteArray×VC)} {sk:ByteArray} {x:V} {cx:VC} {g cap:Nat}
 (h:CL2 w1 wr o j a m c xs cs) (hj:j<o.length) (hk:o[j].1=sk) (hx:o[j].2=x) (hks:sk.size<=140737488355328) (hb4:uB wr w4) (hI:IsVal (only (fun b=>wr.heap.size<=b) w4) w4.heap.size x cx) (hb6:uB w4 w6)
 (hown:w7.ownsRow w1.heap.size 75 6 (.slice (some ⟨g,0,none⟩) (j+1) cap) (j+1) (cs.flatMap fcells++fcells (sk,cx))) (hg:w6.grownBy w7 (Value.slice a m c).ownBlock)
 (hat:(Value.slice a m c).ownBlock=some g∨w4.heap.size<=g):
 CL2 w1 w7 o (j+1) (some ⟨g,0,none⟩) (j+1) cap (xs++ [(sk,x)]) (cs++ [(sk,cx)]):=by
 have hsz:=h.below.size
 have hrow:=h.row.later (rb:=0) (PF.closed xs cs) (.of_below _ hb4) h.pos
 have hrlt:∀b,(Value.slice a m c).ownBlock=some b->w1.heap.size<=b/\b<wr.heap.size:=h.row.lt
 have hsz4:=hb4.size
 have hsz6:=hb6.size
 have hgb:Below w1.heap.size w6 w7:=Zj hg (fun b hb=>(hrlt b hb).1) (by omega)
 have hb67:Below w1.heap.size w4 w7:=(hb6.mono (by omega)).trans hgb
 obtain ⟨s1,s2⟩:=PF.snoc (l:=xs) (cs:=cs) (by rw [h.len,h.cen]) sk hks x cx
 have hnew:PF (xs++ [(sk,x)]) (cs++ [(sk,cx)]) (only (Free w1.heap.size (.slice a m c)) w4) w4.heap.size xs.length:=s1 _ _ (hI.sub (Zd fun b hb _=>⟨⟨by omega,fun e=>by have:=(hrlt b e.symm).2;omega⟩,rfl⟩))
 have hpush:=Row.push (PF.closed (xs++ [(sk,x)]) (cs++ [(sk,cx)])) hrow hb6 hg (u':= .slice (some ⟨g,0,none⟩) (j+1) cap) (news:=fcells (sk,cx)) (by rw [h.len];exact hown) (by
  rcases hat with e|e
  .left;rw [e];rfl
  .right;intro b hb;have:g=b:=by simpa [Value.ownBlock] using hb
   omega) hnew s2
 refine ⟨?_,by simp [h.len],by simp [h.cen],h.pos,(h.below.trans (hb4.mono (by omega))).trans hb67, ?_⟩
 .rw [Yb o j hj,h.rd, <-hk, <-hx]
 .show Row _ _ _ _ _ _ _ _
  rw [Y4,List.length_append,List.length_singleton]
  exact hpush
theorem CL2.behind {w1 wr W:World} {o:List (ByteArray×V)} {j:Nat} {a:Option Addr} {m c:Nat} {xs:List (ByteArray×V)} {cs:List (ByteArray×VC)} (h:CL2 w1 wr o j a m c xs cs) (hb:uB wr W):CL2 w1 W o j a m c xs cs:=
 ⟨h.rd,h.len,h.cen,h.pos,h.below.trans (hb.mono h.below.size),h.row.later (rb:=0) (PF.closed xs cs) (.of_below _ hb) h.pos⟩
theorem zn5 {w w1 wr W:World} {c0:VC} {l:List V} {o:List (ByteArray×V)} {j j':Nat} {a:Option Addr} {m c:Nat} {xs:List V} {cs:List VC} {a':Option Addr} {m' c':Nat} {xs':List (ByteArray×V)} {cs':List (ByteArray×VC)}
 (h1:CL1 w w1 c0 l j a m c xs cs) (h2:CL2 w1 wr o j' a' m' c' xs' cs') (hj:l.length<=j) (hj':o.length<=j') (few:l.length<=1466015503701) (few':o.length<=1466015503701) (hWs:wr.heap.size<=W.heap.size) (hWb:∀k,k<wr.heap.size->k≠w.heap.size->k≠w.heap.size+1->W.heap[k]? =wr.heap[k]?):Fresh W w.heap.size l o a m c a' m' c' cs cs':=by
 have e1:xs=l:=by rw [<-h1.rd,List.take_of_length_le hj]
 have e2:xs'=o:=by rw [<-h2.rd,List.take_of_length_le hj']
 have hl:=h1.len
 have hl':=h2.len
 have hc:=h1.cen
 have hc':=h2.cen
 subst e1 e2
 have hsz:=h1.box.lt
 have hsr:=h1.res.lt
 have hlt1:∀b,(Value.slice a m c).ownBlock=some b->w.heap.size+2<=b/\b<w1.heap.size:=h1.row.lt
 have hlt2:∀b,(Value.slice a' m' c').ownBlock=some b->w1.heap.size<=b/\b<wr.heap.size:=h2.row.lt
 have hszr:=h2.below.size
 have hkeep:∀k,k<w1.heap.size->w.heap.size+2<=k->W.heap[k]? =w1.heap[k]? :=fun k hk hne=>(hWb k (by omega) (by omega) (by omega)).trans (h2.below.block k hk)
 have o1:W.ownsRow (w.heap.size+2) 36 5 (.slice a m c) xs.length (cs.flatMap vcells):=by
  refine ⟨h1.row.own.1, ?_⟩
  rcases h1.row.own.2 with hn|⟨g,cap,cur,e,hb,hg,rest⟩
  .exact .inl hn
  .have hgl:=(hlt1 g (by rw [e];rfl)).2
   exact .inr ⟨g,cap,cur,e,hb,(hkeep g hgl hb).trans hg,rest⟩
 have o2:W.ownsRow w1.heap.size 75 6 (.slice a' m' c') xs'.length (cs'.flatMap fcells):=by
  refine ⟨h2.row.own.1, ?_⟩
  rcases h2.row.own.2 with hn|⟨g,cap,cur,e,hb,hg,rest⟩
  .exact .inl hn
  .have hgl:=(hlt2 g (by rw [e];rfl)).2
   exact .inr ⟨g,cap,cur,e,hb,(hWb g hgl (by omega) (by omega)).trans hg,rest⟩
 obtain ⟨_,_,q1,r1⟩:=OwnRow.of (base':=w.heap.size) o1 (by omega)
 obtain ⟨_,_,q2,r2⟩:=OwnRow.of (base':=w.heap.size) o2 (by omega)
 injection q1 with z1 z2 z3
 injection q2 with z1' z2' z3'
 subst z1 z2 z3 z1' z2' z3'
 refine ⟨rfl,rfl,by omega,by omega,few,few',r1,r2,fun g e1 e2=> ?_,fun i hi=>PV.closed _ _ _ _ _ _ i (Zd fun k hk hlt=>⟨⟨by have:=hk.1;omega,hk.2,fun e=>by have:=(hlt2 k e.symm).1;omega⟩,hkeep k hlt hk.1⟩) (Nat.le_trans hszr hWs) (h1.row.els i hi),fun i hi=>PF.closed _ _ _ _ _ _ i (Zd fun k hk hlt=>⟨⟨by have:=hk.1;omega,fun e=>by have:=(hlt1 k e.symm).2;have:=hk.1;omega,hk.2⟩,hWb k hlt (by have:=hk.1;omega) (by have:=hk.1;omega)⟩) hWs (h2.row.els i hi)⟩
 have:=(hlt1 g e1).2;have:=(hlt2 g e2).1;omega
theorem zcz {W:World} {base:Nat} {e:TypeId} {g n cap:Nat} {cl:List VC} (h:W.ownsRow base e 5 (.slice (some ⟨g,0,none⟩) n cap) n (cl.flatMap vcells)) {k:Nat} (hk:k<cl.length) (z:VC):
 (setV W g (k*5) z).ownsRow base e 5 (.slice (some ⟨g,0,none⟩) n cap) n ((cl.set k z).flatMap vcells):=by
 have h1:=(h.stored (k*5) (.int .u8 z.k)).1
 have h2:=(h1.stored (k*5+1) (.int .i64 z.n)).1
 have h3:=(h2.stored (k*5+2) (.string z.s)).1
 have h4:=(h3.stored (k*5+3) (.slice z.la z.ll z.lc)).1
 have h5:=(h4.stored (k*5+4) (.slice z.oa z.ol z.oc)).1
 rw [zc1 cl k hk z] at h5
 exact h5
theorem zfq {W:World} {base:Nat} {e:TypeId} {g n cap:Nat} {co:List (ByteArray×VC)} (h:W.ownsRow base e 6 (.slice (some ⟨g,0,none⟩) n cap) n (co.flatMap fcells)) {k:Nat} (hk:k<co.length) (z:VC):
 (setV W g (k*6+1) z).ownsRow base e 6 (.slice (some ⟨g,0,none⟩) n cap) n ((co.set k (co[k].1,z)).flatMap fcells):=by
 have h1:=(h.stored (k*6+1) (.int .u8 z.k)).1
 have h2:=(h1.stored (k*6+1+1) (.int .i64 z.n)).1
 have h3:=(h2.stored (k*6+1+2) (.string z.s)).1
 have h4:=(h3.stored (k*6+1+3) (.slice z.la z.ll z.lc)).1
 have h5:=(h4.stored (k*6+1+4) (.slice z.oa z.ol z.oc)).1
 rw [zew co k hk z] at h5
 exact h5
theorem RStep.grown {w w':World} {rb:Nat} (h:RStep w w' rb):w.grownBy w' (some rb):=⟨h.os,h.tape,h.output,h.size,fun k hk hne=>h.block k hk (fun e=>hne (by rw [e]))⟩
theorem RStep.lowC {w w':World} {rb B:Nat} (h:RStep w w' rb) (hB:B<=rb) (hw:B<=w.heap.size):Below B w w':=⟨h.os,h.tape,h.output,h.size,fun k hk=>h.block k (by omega) (by omega)⟩
def Soft (w:World) (S:Nat->Prop):Prop:=∀k q,S k->w.frozen? ⟨k,q,none⟩=false
def SepI (w:World) (lo hi:Nat) (v:V) (c:VC):Prop:=∃S:Nat->Prop,(∀k,S k->lo<=k/\k<hi)/\Soft w S/\Sep w S v c
structure Half (w wr:World) (base:Nat) (l:List V) (o:List (ByteArray×V)) (u uo:Value) (cl:List VC) (co:List (ByteArray×VC)) (j:Nat) (s:Nat->Nat):Prop where
 lenL:cl.length=l.length
 lenO:co.length=o.length
 keys:∀i (h:i<o.length) (h':i<co.length),co[i].1=o[i].1/\o[i].1.size<=140737488355328
 rowL:wr.ownsRow base 36 5 u l.length (cl.flatMap vcells)
 rowO:wr.ownsRow base 75 6 uo o.length (co.flatMap fcells)
 apart:∀g,u.ownBlock=some g->uo.ownBlock≠some g
 loL:∀g,u.ownBlock=some g->g<s 0
 loO:∀g,uo.ownBlock=some g->g<s 0
 s0:base<=s 0
 sj:s j=wr.heap.size
 jm:j<=l.length+o.length
 mono:∀i i',i<=i'->i'<=j->s i<=s i'
 elsL:∀i (h:i<l.length) (h':i<cl.length),i<j->SepI wr (s i) (s (i+1)) l[i] cl[i]
 elsO:∀i (h:i<o.length) (h':i<co.length),l.length+i<j->SepI wr (s (l.length+i)) (s (l.length+i+1)) o[i].2 co[i].2
 oldL:∀i (h:i<l.length) (h':i<cl.length),j<=i->IsVal w w.heap.size l[i] cl[i]
 oldO:∀i (h:i<o.length) (h':i<co.length),j<=l.length+i->IsVal w w.heap.size o[i].2 co[i].2
def more (s:Nat->Nat) (j z:Nat):Nat->Nat:=fun i=>if i<=j then s i else z
theorem Zx {s:Nat->Nat} {j z i:Nat} (h:i<=j):more s j z i=s i:=if_pos h
theorem Qm {s:Nat->Nat} {j z i:Nat} (h:j<i):more s j z i=z:=if_neg (by omega)
theorem zfc {s:Nat->Nat} {j z:Nat} (h:∀i i',i<=i'->i'<=j->s i<=s i') (hz:s j<=z):∀i i',i<=i'->i'<=j+1->more s j z i<=more s j z i':=by
 intro i i' h1 h2
 by_cases h3:i'<=j
 .rw [Zx h3,Zx (by omega)];exact h i i' h1 h3
 .rw [Qm (i:=i') (by omega)]
  by_cases h4:i<=j
  .rw [Zx h4];exact Nat.le_trans (h i j h4 (Nat.le_refl _)) hz
  .rw [Qm (by omega)];exact Nat.le_refl _
theorem Sep.stay {w w4 W:World} {S:Nat->Prop} {v:V} {c:VC} {g:Nat} (h:Sep w S v c) (hb:uB w w4) (st:RStep w4 W g) (hg:¬S g):Sep W S v c:=
 h.keep (Nat.le_trans hb.size st.size) fun k q hk=>by
   have hk2:=h.bnd k hk
   exact World.cell?_of_block ((st.block k (Nat.lt_of_lt_of_le hk2 hb.size) (fun e=>hg (e ▸ hk))).trans (hb.block k hk2))
theorem Y0 {w w':World} {k q:Nat} (h:w'.heap[k]? =w.heap[k]?):w'.frozen? ⟨k,q,none⟩=w.frozen? ⟨k,q,none⟩:=by
 simp only [World.frozen?,h]
theorem SepI.stay {w w4 W:World} {lo hi:Nat} {v:V} {c:VC} {g:Nat} (h:SepI w lo hi v c) (hb:uB w w4) (st:RStep w4 W g) (hg:¬(lo<=g/\g<hi)):SepI W lo hi v c:=by
 obtain ⟨S,h1,h2,h3⟩:=h
 have hgS:¬S g:=fun e=>hg (h1 g e)
 refine ⟨S,h1,fun k q hk=> ?_,h3.stay hb st hgS⟩
 have hk2:=h3.bnd k hk
 rw [Y0 ((st.block k (Nat.lt_of_lt_of_le hk2 hb.size) (fun e=>hgS (e ▸ hk))).trans (hb.block k hk2))]
 exact h2 k q hk
theorem SepI.at_ {w:World} {lo hi lo' hi':Nat} {v:V} {c:VC} (h:SepI w lo hi v c) (e1:lo=lo') (e2:hi=hi'):SepI w lo' hi' v c:=by subst e1 e2;exact h
theorem Half.stepL {w wr w4:World} {base:Nat} {l:List V} {o:List (ByteArray×V)} {u uo:Value} {cl:List VC} {co:List (ByteArray×VC)} {j:Nat} {s:Nat->Nat} (h:Half w wr base l o u uo cl co j s) (hj:j<l.length) {g nn cap:Nat} (hu:u= .slice (some ⟨g,0,none⟩) nn cap) {cx:VC}
 (hb:uB wr w4) (hs:SepI w4 wr.heap.size w4.heap.size l[j] cx):Half w (setV w4 g (j*5) cx) base l o u uo (cl.set j cx) co (j+1) (more s j w4.heap.size):=by
 have st:=Zi w4 g (j*5) cx
 have hsz:(setV w4 g (j*5) cx).heap.size=w4.heap.size:=by simp [setV]
 have hgl:g<s 0:=h.loL g (by rw [hu];rfl)
 have hs0:s 0<=s j:=h.mono 0 j (Nat.zero_le _) (Nat.le_refl _)
 have hsj:=h.sj
 have hw4:=hb.size
 have hnn:nn=l.length:=by
  have h1:=h.rowL
  rw [hu] at h1
  rcases h1.2 with ⟨e,_⟩|⟨_,_,_,e,_⟩
  .cases e
  .injection e
 refine ⟨by rw [List.length_set];exact h.lenL,h.lenO,h.keys, ?_, ?_,h.apart,fun g' hg'=>by rw [Zx (Nat.zero_le _)];exact h.loL g' hg',fun g' hg'=>by rw [Zx (Nat.zero_le _)];exact h.loO g' hg',by rw [Zx (Nat.zero_le _)];exact h.s0,by rw [Qm (Nat.lt_succ_self j),hsz],by have:=h.jm;omega,zfc h.mono (by omega),fun i hi hi' hij=> ?_,fun i hi hi' hij=> ?_,fun i hi hi' hij=> ?_,fun i hi hi' hij=>h.oldO i hi hi' (by omega)⟩
 .have h1:w4.ownsRow base 36 5 u l.length (cl.flatMap vcells):=h.rowL.kept (row:=none) ⟨hb.os,hb.tape,hb.output,hb.size,fun k hk _=>hb.block k hk⟩ (by cases hv:u.ownBlock<;>simp)
  subst hnn
  rw [hu] at h1 ⊢
  exact zcz h1 (by rw [h.lenL];exact hj) cx
 .have h1:w4.ownsRow base 75 6 uo o.length (co.flatMap fcells):=h.rowO.kept (row:=none) ⟨hb.os,hb.tape,hb.output,hb.size,fun k hk _=>hb.block k hk⟩ (by cases hv:uo.ownBlock<;>simp)
  exact h1.kept st.grown (.inr (h.apart g (by rw [hu];rfl)))
 .by_cases hi2:i<j
  .rw [List.getElem_set_ne (by omega)]
   exact ((h.elsL i hi (by rw [h.lenL];exact hi) hi2).stay hb st (fun e=>by have h1:=e.1;have h2:=h.mono 0 i (Nat.zero_le _) (by omega);omega)).at_ (Zx (by omega)).symm (Zx (by omega)).symm
  .obtain rfl:i=j:=by omega
   rw [List.getElem_set_self]
   exact (hs.stay (Below.refl _ _) st (fun e=>by have h1:=e.1;omega)).at_ (by rw [Zx (Nat.le_refl _),hsj]) (Qm (Nat.lt_succ_self _)).symm
 .refine SepI.at_ ?_ (Zx (by omega)).symm (Zx (by omega)).symm
  exact (h.elsO i hi hi' (by omega)).stay hb st (fun e=>by have h1:=e.1;have h2:=h.mono 0 (l.length+i) (Nat.zero_le _) (by omega);omega)
 .rw [List.getElem_set_ne (by omega)]
  exact h.oldL i hi (by rw [h.lenL];exact hi) (by omega)
theorem Half.stepO {w wr w4:World} {base:Nat} {l:List V} {o:List (ByteArray×V)} {u uo:Value} {cl:List VC} {co:List (ByteArray×VC)} {j:Nat} {s:Nat->Nat} (h:Half w wr base l o u uo cl co (l.length+j) s) (hj:j<o.length) {g nn cap:Nat} (hu:uo= .slice (some ⟨g,0,none⟩) nn cap) {cx:VC} (hjc:j<co.length)
 (hb:uB wr w4) (hs:SepI w4 wr.heap.size w4.heap.size o[j].2 cx):Half w (setV w4 g (j*6+1) cx) base l o u uo cl (co.set j (co[j].1,cx)) (l.length+(j+1)) (more s (l.length+j) w4.heap.size):=by
 have st:=Zi w4 g (j*6+1) cx
 have hsz:(setV w4 g (j*6+1) cx).heap.size=w4.heap.size:=by simp [setV]
 have hgl:g<s 0:=h.loO g (by rw [hu];rfl)
 have hs0:s 0<=s (l.length+j):=h.mono 0 _ (Nat.zero_le _) (Nat.le_refl _)
 have hsj:=h.sj
 have hw4:=hb.size
 have hnn:nn=o.length:=by
  have h1:=h.rowO
  rw [hu] at h1
  rcases h1.2 with ⟨e,_⟩|⟨_,_,_,e,_⟩
  .cases e
  .injection e
 refine ⟨h.lenL,by rw [List.length_set];exact h.lenO,fun i hi hi'=> ?_, ?_, ?_,h.apart,fun g' hg'=>by rw [Zx (Nat.zero_le _)];exact h.loL g' hg',fun g' hg'=>by rw [Zx (Nat.zero_le _)];exact h.loO g' hg',by rw [Zx (Nat.zero_le _)];exact h.s0,by rw [Qm (show l.length+j<l.length+(j+1) by omega),hsz],by have:=h.jm;omega,zfc h.mono (show s (l.length+j)<=w4.heap.size by omega),fun i hi hi' hij=> ?_,fun i hi hi' hij=> ?_,fun i hi hi' hij=>h.oldL i hi hi' (by omega),fun i hi hi' hij=> ?_⟩
 .by_cases e:i=j
  .subst e
   rw [List.getElem_set_self];exact h.keys i hi hjc
  .rw [List.getElem_set_ne (fun e'=>e e'.symm)];exact h.keys i hi (by rw [h.lenO];exact hi)
 .have h1:w4.ownsRow base 36 5 u l.length (cl.flatMap vcells):=h.rowL.kept (row:=none) ⟨hb.os,hb.tape,hb.output,hb.size,fun k hk _=>hb.block k hk⟩ (by cases hv:u.ownBlock<;>simp)
  exact h1.kept st.grown (.inr (fun e=>h.apart g e (by rw [hu];rfl)))
 .have h1:w4.ownsRow base 75 6 uo o.length (co.flatMap fcells):=h.rowO.kept (row:=none) ⟨hb.os,hb.tape,hb.output,hb.size,fun k hk _=>hb.block k hk⟩ (by cases hv:uo.ownBlock<;>simp)
  subst hnn
  rw [hu] at h1 ⊢
  exact zfq h1 hjc cx
 .refine SepI.at_ ?_ (Zx (by omega)).symm (Zx (by omega)).symm
  exact (h.elsL i hi hi' (by omega)).stay hb st (fun e=>by have h1:=e.1;have h2:=h.mono 0 i (Nat.zero_le _) (by omega);omega)
 .by_cases hi2:i<j
  .rw [List.getElem_set_ne (by omega)]
   exact ((h.elsO i hi (by rw [h.lenO];exact hi) (by omega)).stay hb st (fun e=>by have h1:=e.1;have h2:=h.mono 0 (l.length+i) (Nat.zero_le _) (by omega);omega)).at_ (Zx (by omega)).symm (Zx (by omega)).symm
  .obtain rfl:i=j:=by omega
   rw [List.getElem_set_self]
   exact (hs.stay (Below.refl _ _) st (fun e=>by have h1:=e.1;omega)).at_ (by rw [Zx (Nat.le_refl _),hsj]) (Qm (show l.length+i<l.length+i+1 by omega)).symm
 .rw [List.getElem_set_ne (by omega)]
  exact h.oldO i hi (by rw [h.lenO];exact hi) (by omega)
theorem Half.next {w wr W:World} {B j:Nat} {l:List V} {o:List (ByteArray×V)} {u uo:Value} {cl:List VC} {co:List (ByteArray×VC)} {s:Nat->Nat} (h:Half w wr (B+2) l o u uo cl co j s) (st:RStep wr W (B+1)) (hz:W.heap.size=wr.heap.size):Half w W B l o u uo cl co j s:=by
 have hs0:=h.s0
 have ne:∀i,i<=j->¬(s i<=B+1/\B+1<s (i+1)):=fun i hi e=>by have h1:=e.1;have h2:=h.mono 0 i (Nat.zero_le _) hi;omega
 refine ⟨h.lenL,h.lenO,h.keys,(h.rowL.kept st.grown (.inr fun e=> ?_)).mono (Nat.le_add_right _ _),(h.rowO.kept st.grown (.inr fun e=> ?_)).mono (Nat.le_add_right _ _),h.apart,h.loL,h.loO,by omega,by rw [hz];exact h.sj,h.jm,h.mono,fun i hi hi' hij=>(h.elsL i hi hi' hij).stay (Below.refl _ _) st (ne _ (by omega)),fun i hi hi' hij=>(h.elsO i hi hi' hij).stay (Below.refl _ _) st (ne _ (by omega)),h.oldL,h.oldO⟩
 .have:=(h.rowL.lt _ e).1;omega
 .have:=(h.rowO.lt _ e).1;omega
theorem Half.beside {w wr W:World} {base j g:Nat} {l:List V} {o:List (ByteArray×V)} {u uo:Value} {cl:List VC} {co:List (ByteArray×VC)} {s:Nat->Nat} (h:Half w wr base l o u uo cl co j s) (st:RStep wr W g) (hg:g<base) (hz:W.heap.size=wr.heap.size):Half w W base l o u uo cl co j s:=by
 have hs0:=h.s0
 have ne:∀i,i<=j->¬(s i<=g/\g<s (i+1)):=fun i hi e=>by have h1:=e.1;have h2:=h.mono 0 i (Nat.zero_le _) hi;omega
 refine ⟨h.lenL,h.lenO,h.keys,h.rowL.kept st.grown (.inr fun e=> ?_),h.rowO.kept st.grown (.inr fun e=> ?_),h.apart,h.loL,h.loO,h.s0,by rw [hz];exact h.sj,h.jm,h.mono,fun i hi hi' hij=>(h.elsL i hi hi' hij).stay (Below.refl _ _) st (ne _ (by omega)),fun i hi hi' hij=>(h.elsO i hi hi' hij).stay (Below.refl _ _) st (ne _ (by omega)),h.oldL,h.oldO⟩
 .have:=(h.rowL.lt _ e).1;omega
 .have:=(h.rowO.lt _ e).1;omega
theorem Half.low {w wr:World} {base base' j:Nat} {l:List V} {o:List (ByteArray×V)} {u uo:Value} {cl:List VC} {co:List (ByteArray×VC)} {s:Nat->Nat} (h:Half w wr base l o u uo cl co j s) (hb:base'<=base):Half w wr base' l o u uo cl co j s:=
 ⟨h.lenL,h.lenO,h.keys,h.rowL.mono hb,h.rowO.mono hb,h.apart,h.loL,h.loO,Nat.le_trans hb h.s0,h.sj,h.jm,h.mono,h.elsL,h.elsO,h.oldL,h.oldO⟩
def Whole (w:World) (base:Nat) (x:V) (d:VC):Prop:=
 x= .mk d.k d.n d.s x.ls x.os/\d.Bnd/\∃(cl:List VC) (co:List (ByteArray×VC)) (S:Nat->Nat) (W0:World),Half W0 w base x.ls x.os (.slice d.la d.ll d.lc) (.slice d.oa d.ol d.oc) cl co (x.ls.length+x.os.length) S
theorem Whole.beside {w W:World} {base g:Nat} {x:V} {d:VC} (h:Whole w base x d) (st:RStep w W g) (hg:g<base) (hz:W.heap.size=w.heap.size):Whole W base x d:=by
 obtain ⟨h1,h2,cl,co,S,W0,h3⟩:=h
 exact ⟨h1,h2,cl,co,S,W0,h3.beside st hg hz⟩
theorem Whole.low {w:World} {base base':Nat} {x:V} {d:VC} (h:Whole w base x d) (hb:base'<=base):Whole w base' x d:=by
 obtain ⟨h1,h2,cl,co,S,W0,h3⟩:=h
 exact ⟨h1,h2,cl,co,S,W0,h3.low hb⟩
theorem Half.done {w wr:World} {base:Nat} {l:List V} {o:List (ByteArray×V)} {cl:List VC} {co:List (ByteArray×VC)} {s:Nat->Nat} {c:VC} (h:Half w wr base l o (.slice c.la c.ll c.lc) (.slice c.oa c.ol c.oc) cl co (l.length+o.length) s) (hb:c.Bnd):
 SepI wr base wr.heap.size (.mk c.k c.n c.s l o) c:=by
 have rL:c.ll=l.length/\(0<c.ll->∃g,c.la=some ⟨g,0,none⟩):=by
  rcases h.rowL.2 with ⟨e,e2⟩|⟨g,cap,cur,e,_⟩
  .injection e with e3 e4 e5;exact ⟨by omega,fun h0=>by omega⟩
  .injection e with e3 e4 e5;exact ⟨e4,fun _=>⟨g,e3⟩⟩
 have rO:c.ol=o.length/\(0<c.ol->∃g,c.oa=some ⟨g,0,none⟩):=by
  rcases h.rowO.2 with ⟨e,e2⟩|⟨g,cap,cur,e,_⟩
  .injection e with e3 e4 e5;exact ⟨by omega,fun h0=>by omega⟩
  .injection e with e3 e4 e5;exact ⟨e4,fun _=>⟨g,e3⟩⟩
 obtain ⟨gl,hgl⟩:∃gl,0<c.ll->c.la=some ⟨gl,0,none⟩:=by
  by_cases h0:0<c.ll
  .obtain ⟨g,hg⟩:=rL.2 h0;exact ⟨g,fun _=>hg⟩
  .exact ⟨0,fun h1=>absurd h1 h0⟩
 obtain ⟨go,hgo⟩:∃go,0<c.ol->c.oa=some ⟨go,0,none⟩:=by
  by_cases h0:0<c.ol
  .obtain ⟨g,hg⟩:=rO.2 h0;exact ⟨g,fun _=>hg⟩
  .exact ⟨0,fun h1=>absurd h1 h0⟩
 have oL:0<c.ll->(Value.slice c.la c.ll c.lc).ownBlock=some gl:=fun h0=>by rw [hgl h0];rfl
 have oO:0<c.ol->(Value.slice c.oa c.ol c.oc).ownBlock=some go:=fun h0=>by rw [hgo h0];rfl
 have hz:∀i,i<=l.length+o.length->s i<=wr.heap.size:=fun i hi=>by rw [<-h.sj];exact h.mono i _ hi (Nat.le_refl _)
 have hm:∀i,i<=l.length+o.length->s 0<=s i:=fun i hi=>h.mono 0 i (Nat.zero_le _) hi
 have cL:∀i,i<l.length->ValAt wr gl (i*5) (cl.getD i c):=fun i hi=>by
  have h1:=h.rowL
  rw [hgl (by omega),rL.1] at h1
  have hl:=h.lenL
  have e:cl.getD i c=cl[i]'(by omega):=by simp [List.getD_eq_getElem?_getD,show i<cl.length by omega]
  rw [e]
  have hbc:∀j v,(cl.flatMap vcells)[j]? =some v->wr.cell? ⟨gl,j,none⟩=some v:=fun j v hj=>by
   have hlen:(cl.flatMap vcells).length=l.length*5:=h1.1
   rw [h1.cellAt j (by have:=(List.getElem?_eq_some_iff.1 hj).1;omega)];exact hj
  exact Y2 ⟨hbc,fun j=>h1.frozenAt j,(h1.lt gl rfl).2⟩ (by omega)
 have cO:∀i (hi:i<o.length),wr.cell? ⟨go,i*6,none⟩=some (.string o[i].1)/\o[i].1.size<=140737488355328/\ValAt wr go (i*6+1) (co.getD i (.empty,c)).2:=fun i hi=>by
  have h1:=h.rowO
  rw [hgo (by omega),rO.1] at h1
  have hl:=h.lenO
  have e:co.getD i (.empty,c)=co[i]'(by omega):=by simp [List.getD_eq_getElem?_getD,show i<co.length by omega]
  rw [e]
  have hbc:∀j v,(co.flatMap fcells)[j]? =some v->wr.cell? ⟨go,j,none⟩=some v:=fun j v hj=>by
   have hlen:(co.flatMap fcells).length=o.length*6:=h1.1
   rw [h1.cellAt j (by have:=(List.getElem?_eq_some_iff.1 hj).1;omega)];exact hj
  obtain ⟨g1,g2⟩:=Yd (W:=wr) (g:=go) ⟨hbc,fun j=>h1.frozenAt j,(h1.lt go rfl).2⟩ (i:=i) (by omega)
  obtain ⟨k1,k2⟩:=h.keys i hi (by omega)
  exact ⟨by rw [<-k1];exact g1,k2,g2⟩
 have hlL:=h.lenL;have hlO:=h.lenO
 obtain ⟨TL,hTL⟩:=Classical.axiomOfChoice (fun i=>show ∃S:Nat->Prop,∀(hi:i<l.length) (hi':i<cl.length),(∀k,S k->s i<=k/\k<s (i+1))/\Soft wr S/\Sep wr S l[i] cl[i] by
  by_cases hi:i<l.length
  .obtain ⟨S,h1⟩:=h.elsL i hi (by omega) (by omega)
   exact ⟨S,fun _ _=>h1⟩
  .exact ⟨fun _=>False,fun h1 _=>absurd h1 hi⟩)
 obtain ⟨TO,hTO⟩:=Classical.axiomOfChoice (fun i=>show ∃S:Nat->Prop,∀(hi:i<o.length) (hi':i<co.length),(∀k,S k->s (l.length+i)<=k/\k<s (l.length+i+1))/\Soft wr S/\Sep wr S o[i].2 co[i].2 by
  by_cases hi:i<o.length
  .obtain ⟨S,h1⟩:=h.elsO i hi (by omega) (by omega)
   exact ⟨S,fun _ _=>h1⟩
  .exact ⟨fun _=>False,fun h1 _=>absurd h1 hi⟩)
 have bL:∀i,i<l.length->∀k,TL i k->s i<=k/\k<s (i+1):=fun i hi k hk=>(hTL i hi (by omega)).1 k hk
 have bO:∀i,i<o.length->∀k,TO i k->s (l.length+i)<=k/\k<s (l.length+i+1):=fun i hi k hk=>(hTO i hi (by omega)).1 k hk
 refine ⟨fun k=>(0<c.ll/\k=gl)∨(0<c.ol/\k=go)∨(∃i,i<l.length/\TL i k)∨(∃i,i<o.length/\TO i k),fun k hk=> ?_,fun k q hk=> ?_, ?_⟩
 .rcases hk with ⟨h0,rfl⟩|⟨h0,rfl⟩|⟨i,hi,hk⟩|⟨i,hi,hk⟩
  .exact h.rowL.lt _ (oL h0)
  .exact h.rowO.lt _ (oO h0)
  .have h1:=bL i hi k hk;have h3:=hm i (by omega);have h4:=hz (i+1) (by omega);have h5:=h.s0
   omega
  .have h1:=bO i hi k hk;have h3:=hm (l.length+i) (by omega);have h4:=hz (l.length+i+1) (by omega);have h5:=h.s0
   omega
 .rcases hk with ⟨h0,rfl⟩|⟨h0,rfl⟩|⟨i,hi,hk⟩|⟨i,hi,hk⟩
  .have h1:=h.rowL
   rw [hgl h0,rL.1] at h1
   exact h1.frozenAt q
  .have h1:=h.rowO
   rw [hgo h0,rO.1] at h1
   exact h1.frozenAt q
  .exact (hTL i hi (by omega)).2.1 k q hk
  .exact (hTO i hi (by omega)).2.1 k q hk
 refine .mk _ c l o (fun i=>cl.getD i c) (fun i=>(co.getD i (.empty,c)).2) gl go TL TO hb rL.1 rO.1 (fun k hk=> ?_) (fun h0=>⟨hgl h0, .inl ⟨h0,rfl⟩⟩) (fun h0=>⟨hgo h0, .inr (.inl ⟨h0,rfl⟩)⟩) (fun h0 h1 e=> ?_) cL cO (fun i hi=> ?_) (fun i hi=> ?_) (fun i hi k hk=> ?_) (fun i hi k hk=> ?_) (fun i i' hi hi' hne k hk hk'=> ?_) (fun i i' hi hi' hne k hk hk'=> ?_) (fun i i' hi hi' k hk hk'=> ?_)
 .rcases hk with ⟨h0,rfl⟩|⟨h0,rfl⟩|⟨i,hi,hk⟩|⟨i,hi,hk⟩
  .exact (h.rowL.lt _ (oL h0)).2
  .exact (h.rowO.lt _ (oO h0)).2
  .have h1:=bL i hi k hk;have h4:=hz (i+1) (by omega);omega
  .have h1:=bO i hi k hk;have h4:=hz (l.length+i+1) (by omega);omega
 .exact h.apart gl (oL h0) (by rw [oO h1,e])
 .have e:cl.getD i c=cl[i]'(by omega):=by simp [List.getD_eq_getElem?_getD,show i<cl.length by omega]
  rw [e];exact (hTL i hi (by omega)).2.2
 .have e:co.getD i (.empty,c)=co[i]'(by omega):=by simp [List.getD_eq_getElem?_getD,show i<co.length by omega]
  rw [e];exact (hTO i hi (by omega)).2.2
 .have h1:=bL i hi k hk;have h3:=hm i (by omega)
  exact ⟨.inr (.inr (.inl ⟨i,hi,hk⟩)),fun e=>by have:=h.loL gl (oL (by omega));omega,fun h0 e=>by have:=h.loO go (oO h0);omega⟩
 .have h1:=bO i hi k hk;have h3:=hm (l.length+i) (by omega)
  exact ⟨.inr (.inr (.inr ⟨i,hi,hk⟩)),fun e=>by have:=h.loO go (oO (by omega));omega,fun h0 e=>by have:=h.loL gl (oL h0);omega⟩
 .have h1:=bL i hi k hk;have h3:=bL i' hi' k hk'
  rcases Nat.lt_or_ge i i' with h5|h5
  .have:=h.mono (i+1) i' (by omega) (by omega);omega
  .have:=h.mono (i'+1) i (by omega) (by omega);omega
 .have h1:=bO i hi k hk;have h3:=bO i' hi' k hk'
  rcases Nat.lt_or_ge i i' with h5|h5
  .have:=h.mono (l.length+i+1) (l.length+i') (by omega) (by omega);omega
  .have:=h.mono (l.length+i'+1) (l.length+i) (by omega) (by omega);omega
 .have h1:=bL i hi k hk;have h3:=bO i' hi' k hk'
  have:=h.mono (i+1) (l.length+i') (by omega) (by omega);omega
theorem Whole.sepI {w:World} {base:Nat} {x:V} {d:VC} (h:Whole w base x d):SepI w base w.heap.size x d:=by
 obtain ⟨h1,h2,cl,co,S,W0,h3⟩:=h
 rw [h1];exact h3.done h2
theorem SepI.isVal {w:World} {lo hi:Nat} {x:V} {d:VC} (h:SepI w lo hi x d):IsVal (only (fun b=>lo<=b) w) w.heap.size x d:=by
 obtain ⟨S,h1,_,h3⟩:=h
 exact h3.isVal fun k hk=>(h1 k hk).1
theorem X1 {P:Program} (w:World) (dT sT ty elem:TypeId) (sz:Nat) (g o dLen dCap:Nat) (a:Addr) (sLen sCap:Nat) (cur:Array Value) (t:TypeId) (cs:List Value)
 (hu:P.underlying dT=some (.slice elem)) (hs:(P.info? elem).map (·.size)=some sz)
 (hg:w.heap[g]? =some (.cells cur t (0,0))) (m:Nat) (hm:Nat.min sLen dLen=m) (hn:cs.length=m*sz)
 (hsrc:∀j v,cs[j]? =some v->w.cell? (a.add j)=some v) (hfit:o+cs.length<=cur.size) (h1:∀v ∈ cs,v.oneCell'=true):
 (Builtin.copy_ #[dT,sT] ty #[.slice (some ⟨g,o,none⟩) dLen dCap, .slice (some a) sLen sCap]).run P w=
  .ok (goInt m) (w.setRow g (cur.toList.take o++cs++cur.toList.drop (o+cs.length)).toArray):=by
 have hl:=run_loadCells_list (P:=P) w a cs hsrc
 have hst:=run_storeCells_at P g o t cs 0 cur w hg (by simpa using hfit) h1
 cases hq:P.info? elem with
 |none=>simp [hq] at hs
 | some i=>
   have hi:i.size=sz:=by simpa [hq] using hs
   simp [Builtin.copy_,run_underlying hu,Builtin.lenOf,Builtin.firstCells,sizeOf,typeInfo,hq,hi,hm, <-hn,hl,hst]
theorem zej {α:Type} (L x:List α) (p r:Nat) (hp:p<=r) (hr:r+x.length<=L.length):
 (((L.take (p+x.length)++(L.take r).drop p++L.drop (r+x.length)).take p++x++(L.take (p+x.length)++(L.take r).drop p++L.drop (r+x.length)).drop (p+x.length)).take (r+x.length))=(L.take r).take p++x++(L.take r).drop p:=by
 have h1:(L.take (p+x.length)++(L.take r).drop p++L.drop (r+x.length)).take p=L.take p:=by
  rw [List.append_assoc,List.take_append_of_le_length (by rw [List.length_take];omega),List.take_take]
  congr 1;omega
 have h2:(L.take (p+x.length)++(L.take r).drop p++L.drop (r+x.length)).drop (p+x.length)=(L.take r).drop p++L.drop (r+x.length):=by
  rw [List.append_assoc,List.drop_append_of_le_length (by rw [List.length_take];omega),List.drop_eq_nil_of_le (by rw [List.length_take];omega),List.nil_append]
 rw [h1,h2, <-List.append_assoc,List.take_left' (by simp;omega),List.take_take,Nat.min_eq_left hp]
theorem zdo {α:Type} (R x xs:List α) (p:Nat) (hp:p<=xs.length) (hR:R.take p=xs.take p) (hl:xs.length+x.length<=R.length):
 (((R.take p++x++R.drop (p+x.length)).take (p+x.length)++xs.drop p++(R.take p++x++R.drop (p+x.length)).drop (p+x.length+(xs.drop p).length)).take (xs.length+x.length))=xs.take p++x++xs.drop p:=by
 have h1:(R.take p++x++R.drop (p+x.length)).take (p+x.length)=xs.take p++x:=by
  rw [List.take_left' (by simp;omega),hR]
 rw [h1,List.take_left' (by simp;omega)]
def RowPost (w:World) (base:Nat) (T:TypeId) (sz:Nat) (v:Value) (n:Nat) (ys:List Value) (e:Ending) (w':World):Prop:=
 ∃v',e= .returned v'/\w'.ownsRow base T sz v' n ys/\w.grownBy w' v.ownBlock/\(v'.ownBlock=v.ownBlock∨v'.ownBlock=some w.heap.size)
def StepPost (w0:World) (B0:Nat) (w:World) (r:Option (V×Nat)) (e:Ending) (w':World):Prop:=
 (match r with
  |some q=>∃c:VC,e= .returned (.tuple #[.agg #[.int .u8 c.k, .int .i64 c.n, .string c.s, .slice c.la c.ll c.lc, .slice c.oa c.ol c.oc], .int .i64 (q.2:Int), .int .i64 0])/\IsVal w0 B0 q.1 c
  |none=>e= .returned (.tuple #[.agg #[.int .u8 0, .int .i64 0, .string { data:= #[] }, .slice none 0 0, .slice none 0 0], .int .i64 0, .int .i64 30]))/\Below w.heap.size w w'
theorem zcw {tmps:Array Value} {W:World} {b:Nat} {c:VC} {x y:Value} (ht:tmps[4]? =some (.pointer (some ⟨b,0,none⟩))) (hx:tmps[5]? =some x) (hy:tmps[6]? =some y) (h:BC W b (vcells c)):
 (results Tryz.f73 tmps).run Tryz.prog W= .ok (.tuple #[.agg #[.int .u8 c.k, .int .i64 c.n, .string c.s, .slice c.la c.ll c.lc, .slice c.oa c.ol c.oc],x,y]) W:=by
 obtain ⟨r0,r1,r2,r3,r4⟩:=(⟨h.at_ 0 _ rfl,h.at_ 1 _ rfl,h.at_ 2 _ rfl,h.at_ 3 _ rfl,h.at_ 4 _ rfl⟩:W.cell? ⟨b,0,none⟩=some (.int .u8 c.k)/\W.cell? ⟨b,1,none⟩=some (.int .i64 c.n)/\W.cell? ⟨b,2,none⟩=some (.string c.s)/\W.cell? ⟨b,3,none⟩=some (.slice c.la c.ll c.lc)/\W.cell? ⟨b,4,none⟩=some (.slice c.oa c.ol c.oc))
 simp [results,Tryz.results73,go_sem,ht,hx,hy,r0,r1,r2,r3,r4]
theorem Jg {w0:World} {B0:Nat} {w W:World} {x:Act} (h:BC W (w.heap.size+1+1) (vcells vzero)) (hb:uB w W) (hd:x.defers= []) (ht:x.tmps[4]? =some (.pointer (some ⟨w.heap.size+1+1,0,none⟩))) (hx:x.tmps[5]? =some (.int .i64 0)) (hy:x.tmps[6]? =some (.int .i64 30)):
 bodyPost Tryz.prog Tryz.f73 (StepPost w0 B0 w none) .ret x W:=⟨hd,_,zcw ht hx hy h,rfl,hb⟩
theorem zda {w0:World} {B0:Nat} {w W:World} {x:Act} {c:VC} {v:V} {k:Nat} (h:BC W (w.heap.size+1+1) (vcells c)) (hv:IsVal w0 B0 v c) (hb:uB w W) (hd:x.defers= []) (ht:x.tmps[4]? =some (.pointer (some ⟨w.heap.size+1+1,0,none⟩))) (hx:x.tmps[5]? =some (.int .i64 (k:Int))) (hy:x.tmps[6]? =some (.int .i64 0)):
 bodyPost Tryz.prog Tryz.f73 (StepPost w0 B0 w (some (v,k))) .ret x W:=⟨hd,_,zcw ht hx hy h,⟨c,rfl,hv⟩,hb⟩
structure SB (w W:World) (c:VC) (s:St):Prop where
 v:BC W w.heap.size (vcells c)
 s:BC W (w.heap.size+1) [.bool s.list, .int .i64 s.i, .string s.key]
 r:BC W (w.heap.size+1+1) (vcells vzero)
 below:Below w.heap.size w W
theorem SB.start (w:World) (c:VC) (s:St) (t1 t2 t3:TypeId):SB w (((w.alloc (.cells (uV c) t1)).alloc (.cells #[.bool s.list, .int .i64 s.i, .string s.key] t2)).alloc (.cells (uU 0 0 { data:= #[] } none 0 0 none 0 0) t3)) c s:=by
 delta uV uU
 obtain ⟨w1,hw1⟩:∃w1,w.alloc (.cells (uV c) t1)=w1:=⟨_,rfl⟩
 have s1:w1.heap.size=w.heap.size+1:=by rw [<-hw1,World.size_alloc]
 have b1:uB w w1:=by rw [<-hw1];exact (Below.refl _ _).alloc (Nat.le_refl _) _
 have c1:BC w1 w.heap.size (vcells c):=by rw [<-hw1];exact BC.start w (uV c) t1
 rw [hw1]
 obtain ⟨w2,hw2⟩:∃w2,w1.alloc (.cells #[.bool s.list, .int .i64 s.i, .string s.key] t2)=w2:=⟨_,rfl⟩
 have s2:w2.heap.size=w.heap.size+1+1:=by rw [<-hw2,World.size_alloc,s1]
 have b2:uB w1 w2:=by rw [<-hw2];exact (Below.refl _ _).alloc (Nat.le_refl _) _
 have c2:=BC.start w1 #[.bool s.list, .int .i64 s.i, .string s.key] t2
 rw [hw2,s1] at c2
 rw [hw2]
 have b3:uB w2 (w2.alloc (.cells (uU 0 0 { data:= #[] } none 0 0 none 0 0) t3)):=(Below.refl _ _).alloc (Nat.le_refl _) _
 have c3:=BC.start w2 (uU 0 0 { data:= #[] } none 0 0 none 0 0) t3
 rw [s2] at c3
 exact ⟨(c1.keep b2 (by omega)).keep b3 (by omega),c2.keep b3 (by omega),c3,(b1.trans (b2.mono (by omega))).trans (b3.mono (by omega))⟩
theorem SB.next {w W W':World} {c:VC} {s:St} (h:SB w W c s) (hb:uB W W'):SB w W' c s:=
 ⟨h.v.keep hb h.v.lt,h.s.keep hb h.s.lt,h.r.keep hb h.r.lt,h.below.trans (hb.mono (Nat.le_of_lt h.v.lt))⟩
theorem SB.stored {w W:World} {c:VC} {s:St} (h:SB w W c s) (d:VC):BC (((((W.setCell ⟨w.heap.size+1+1,0,none⟩ (.int .u8 d.k)).setCell ⟨w.heap.size+1+1,1,none⟩ (.int .i64 d.n)).setCell ⟨w.heap.size+1+1,2,none⟩ (.string d.s)).setCell ⟨w.heap.size+1+1,3,none⟩ (.slice d.la d.ll d.lc)).setCell ⟨w.heap.size+1+1,4,none⟩ (.slice d.oa d.ol d.oc)) (w.heap.size+1+1) (vcells d)/\uB w (((((W.setCell ⟨w.heap.size+1+1,0,none⟩ (.int .u8 d.k)).setCell ⟨w.heap.size+1+1,1,none⟩ (.int .i64 d.n)).setCell ⟨w.heap.size+1+1,2,none⟩ (.string d.s)).setCell ⟨w.heap.size+1+1,3,none⟩ (.slice d.la d.ll d.lc)).setCell ⟨w.heap.size+1+1,4,none⟩ (.slice d.oa d.ol d.oc)):=
 ⟨Z5 h.r d,h.below.trans ((Zi W (w.heap.size+1+1) 0 d).below (Nat.le_of_lt h.r.lt)|>.mono (by omega))⟩
set_option maxRecDepth 100000 in
theorem zht (w:World) (vk vn:Int) (vs:ByteArray) (la:Option Addr) (ll lc:Nat) (oa:Option Addr) (ol oc:Nat) (v:V) (w0:World) (B0:Nat) (hb0:Below B0 w0 w) (hB0:B0<=w.heap.size) (hv:IsVal w0 B0 v ⟨vk,vn,vs,la,ll,lc,oa,ol,oc⟩) (s:St) (hs:s.Bnd) (hl:s.list=true):
 uP 73 #[.agg (uU vk vn vs la ll lc oa ol oc), .agg #[.bool s.list, .int .i64 s.i, .string s.key]] w (StepPost w0 B0 w (stepP v s)):=by
 delta uU uP
 obtain ⟨sl,si,sk⟩:=s
 dsimp only at hl hs ⊢
 subst hl
 have hi0:=hs.i0;have hi1:=hs.i1
 dsimp only at hi0 hi1
 obtain ⟨k',n',s',l,o,rfl⟩:=v.eta
 obtain ⟨ek,en,es,hbd,hvl,hvo⟩:=hv.lists
 dsimp only at ek en es hbd hvl hvo
 subst ek en es
 have k1:=hvl.few;have k2:=hvl.max;have k3:=hvo.few;have k4:=hvo.max
 have HL:=qh hvl
 have HO:=qh hvo
 have HLN:=qh hvl.len
 have HON:=qh hvo.len
 have HB:=qh (SB.start w ⟨vk,vn,vs,la,ll,lc,oa,ol,oc⟩ ⟨true,si,sk⟩ 36 77 36)
 obtain ⟨R,hR⟩:∃R,stepP (.mk vk vn vs l o) ⟨true,si,sk⟩=R:=⟨_,rfl⟩
 rw [hR]
 clear hvl hvo hv hs hbd
 by_cases h4:vk=4
 case neg=>
  have f0:(vk !=4)=true:=by simp [h4]
  obtain rfl:R=none:=by rw [<-hR];simp [stepP,V.kd];intro h;omega
  clear hR
  go_enter Tryz.func73,Tryz.ntmps73
  generalize hQ0:bodyPost _ _ _=Q0
  have HQ:=qh hQ0
  clear hQ0
  go_wp2_with fail
  rw [<-HQ.out]
  exact Jg HB.out.r HB.out.below rfl rfl rfl rfl
 case pos=>
  cases h4
  by_cases h5:si<0
  .obtain rfl:R=none:=by rw [<-hR];simp [stepP];omega
   clear hR
   go_enter Tryz.func73,Tryz.ntmps73
   generalize hQ0:bodyPost _ _ _=Q0
   have HQ:=qh hQ0
   clear hQ0
   go_wp2_with fail
   rw [<-HQ.out]
   exact Jg HB.out.r HB.out.below rfl rfl rfl rfl
  .by_cases h6:(ll:Int)<=si
   .obtain rfl:R=none:=by rw [<-hR];simp [stepP,V.ls,V.kd];have:=HLN.out;omega
    clear hR
    go_enter Tryz.func73,Tryz.ntmps73
    generalize hQ0:bodyPost _ _ _=Q0
    have HQ:=qh hQ0
    clear hQ0
    go_wp2_with fail
    rw [<-HQ.out]
    exact Jg HB.out.r HB.out.below rfl rfl rfl rfl
   .obtain ⟨j,rfl⟩:∃j:Nat,si=j:=⟨si.toNat,by omega⟩
    have hj:j<ll:=by omega
    obtain ⟨b,q,f,hp,rfl,hbB,hvf,hI⟩:=HL.out.get hj
    have hvf:=hvf.keep hb0 hbB
    have c0:=hvf.c0;have c1:=hvf.c1;have c2:=hvf.c2;have c3:=hvf.c3;have c4:=hvf.c4
    have hbw:b<w.heap.size:=Nat.lt_of_lt_of_le hbB hB0
    obtain rfl:R=some (l[j],j):=by rw [<-hR];simp [stepP,V.ls,V.kd,hp]
    have HI:=qh hI
    clear hR hI hvf
    go_enter Tryz.func73,Tryz.ntmps73
    generalize hQ0:bodyPost _ _ _=Q0
    have HQ:=qh hQ0
    clear hQ0
    go_wp2_with fail
    have B:=HB.out
    obtain ⟨W,hW⟩:∃W,(((w.alloc (.cells (uU 4 vn vs (some ⟨b,q,none⟩) ll lc oa ol oc) 36)).alloc (.cells #[.bool true, .int .i64 j, .string sk] 77)).alloc (.cells (uU 0 0 { data:= #[] } none 0 0 none 0 0) 36))=W:=⟨_,rfl⟩
    rw [hW] at B ⊢
    clear HB
    obtain ⟨v0,v1,v2,v3,v4⟩:=row5 B.v.at_
    have s0:=B.s.at_ 0 _ rfl;have s1:=B.s.at_ 1 _ rfl;have s2:=B.s.at_ 2 _ rfl
    obtain ⟨r0,r1,r2,r3,r4⟩:=row5 B.r.at_
    have f0:=B.r.fr 0;have f1:=B.r.fr 1;have f2:=B.r.fr 2;have f3:=B.r.fr 3;have f4:=B.r.fr 4
    have zs0:=B.v.lt;have zs1:=B.s.lt;have zs2:=B.r.lt
    have hkp:∀o u,w.cell? ⟨b,o,none⟩=some u->b<w.heap.size->W.cell? ⟨b,o,none⟩=some u:=fun o u h hb=>Za B.below h hb
    have c0:=hkp _ _ c0 hbw;have c1:=hkp _ _ c1 hbw;have c2:=hkp _ _ c2 hbw;have c3:=hkp _ _ c3 hbw;have c4:=hkp _ _ c4 hbw
    have hbw:b<W.heap.size:=by have:=B.below.size;omega
    have HBB:=qh B
    clear B hkp
    go_region
    go_wp2_with fail
    rw [<-HQ.out]
    have ST:=HBB.out.stored f
    exact zda (k:=j) (ST.1.keep (Zf _) ST.1.lt) HI.out ST.2.drew rfl rfl rfl rfl
end Go.Proofs.YtnjgbiachcfigaaGreatDoor
