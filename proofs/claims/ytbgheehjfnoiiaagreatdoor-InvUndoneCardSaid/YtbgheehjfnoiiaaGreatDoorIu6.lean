/- Walks. -/
import Derived.Test.YtbgheehjfnoiiaaGreatDoorIu5
import Derived.Deep.CutBlock
import Derived.Shelf.Spec.SlicesInsert
namespace Go.Proofs.YtbgheehjfnoiiaaGreatDoor
open Go.RowKit
set_option maxRecDepth 100000
set_option maxHeartbeats 8000000
inductive Sep (w:World):(Nat->Prop)->V->VC->Prop
 |mk (S:Nat->Prop) (c:VC) (l:List V) (o:List (ByteArray×V)) (cl co:Nat->VC) (gl go:Nat) (TL TO:Nat->Nat->Prop) (hb:c.Bnd) (hl:c.ll=l.length) (ho:c.ol=o.length)
     (hS:∀k,S k->k<w.heap.size)
     (hla:0<c.ll->c.la=some ⟨gl,0,none⟩/\S gl) (hoa:0<c.ol->c.oa=some ⟨go,0,none⟩/\S go) (hne:0<c.ll->0<c.ol->gl≠go)
     (hlc:∀i,i<l.length->ValAt w gl (i*5) (cl i))
     (hoc:∀i (h:i<o.length),w.cell? ⟨go,i*6,none⟩=some (.string o[i].1)/\o[i].1.size<=140737488355328/\ValAt w go (i*6+1) (co i))
     (hlv:∀i (h:i<l.length),Sep w (TL i) l[i] (cl i)) (hov:∀i (h:i<o.length),Sep w (TO i) o[i].2 (co i))
     (hTL:∀i,i<l.length->∀k,TL i k->S k/\k≠gl/\(0<c.ol->k≠go)) (hTO:∀i,i<o.length->∀k,TO i k->S k/\k≠go/\(0<c.ll->k≠gl))
     (dL:∀i j,i<l.length->j<l.length->i≠j->∀k,TL i k->¬TL j k) (dO:∀i j,i<o.length->j<o.length->i≠j->∀k,TO i k->¬TO j k)
     (dLO:∀i j,i<l.length->j<o.length->∀k,TL i k->¬TO j k):Sep w S (.mk c.k c.n c.s l o) c
def Agree (S:Nat->Prop) (w w':World):Prop:=∀k q,S k->w'.cell? ⟨k,q,none⟩=w.cell? ⟨k,q,none⟩
theorem Agree.val {S:Nat->Prop} {w w':World} (h:Agree S w w') {b o:Nat} {c:VC} (hb:S b) (hv:ValAt w b o c):ValAt w' b o c:=
 ⟨(h _ _ hb).trans hv.c0,(h _ _ hb).trans hv.c1,(h _ _ hb).trans hv.c2,(h _ _ hb).trans hv.c3,(h _ _ hb).trans hv.c4⟩
theorem Sep.isVal {w:World} {S:Nat->Prop} {v:V} {c:VC} (h:Sep w S v c):∀ {P:Nat->Prop},(∀k,S k->P k)->IsVal (only P w) w.heap.size v c:=by
 induction h with
 | mk S c l o cl co gl go TL TO hb hl ho hS hla hoa hne hlc hoc hlv hov hTL hTO dL dO dLO ihl iho=>
   intro P hP;refine .mk c l o cl co gl 0 go 0 hb hl ho (fun h=>⟨(hla h).1,hS _ (hla h).2⟩) (fun h=>⟨(hoa h).1,hS _ (hoa h).2⟩) (fun i hi=> ?_) (fun i hi=>ihl i hi fun k hk=>hP _ (hTL i hi k hk).1) (fun i hi=> ?_) (fun i hi=>iho i hi fun k hk=>hP _ (hTO i hi k hk).1)
   .rw [Nat.zero_add];exact Yq (hP _ (hla (by omega)).2) (hlc i hi)
   .rw [Nat.zero_add];have hg:=hP _ (hoa (by omega)).2;exact ⟨Z2 hg (hoc i hi).1,(hoc i hi).2.1,Yq hg (hoc i hi).2.2⟩
theorem Sep.bnd {w:World} {S:Nat->Prop} {v:V} {c:VC} (h:Sep w S v c):∀k,S k->k<w.heap.size:=by
 cases h with
 |mk S c l o cl co gl go TL TO hb hl ho hS hla hoa hne hlc hoc hlv hov hTL hTO dL dO dLO=>exact hS
theorem Sep.keep {w w':World} {S:Nat->Prop} {v:V} {c:VC} (h:Sep w S v c) (hz:w.heap.size<=w'.heap.size):Agree S w w'->Sep w' S v c:=by
 induction h with
 | mk S c l o cl co gl go TL TO hb hl ho hS hla hoa hne hlc hoc hlv hov hTL hTO dL dO dLO ihl iho=>intro ha;refine .mk S c l o cl co gl go TL TO hb hl ho (fun k hk=>zzj (hS k hk) hz) hla hoa hne (fun i hi=>ha.val (hla (by omega)).2 (hlc i hi)) (fun i hi=> ?_) (fun i hi=>ihl i hi fun k q hk=>ha k q (hTL i hi k hk).1) (fun i hi=>iho i hi fun k q hk=>ha k q (hTO i hi k hk).1) hTL hTO dL dO dLO;have hg:=(hoa (by omega)).2;exact ⟨(ha _ _ hg).trans (hoc i hi).1,(hoc i hi).2.1,ha.val hg (hoc i hi).2.2⟩
theorem Sep.more {w:World} {S S':Nat->Prop} {v:V} {c:VC} (h:Sep w S v c) (hs:∀k,S k->S' k) (hz:∀k,S' k->k<w.heap.size):Sep w S' v c:=by
 cases h with
 | mk S c l o cl co gl go TL TO hb hl ho hS hla hoa hne hlc hoc hlv hov hTL hTO dL dO dLO=>exact .mk S' c l o cl co gl go TL TO hb hl ho hz (fun h=>⟨(hla h).1,hs _ (hla h).2⟩) (fun h=>⟨(hoa h).1,hs _ (hoa h).2⟩) hne hlc hoc hlv hov (fun i hi k hk=>⟨hs _ (hTL i hi k hk).1,(hTL i hi k hk).2⟩) (fun i hi k hk=>⟨hs _ (hTO i hi k hk).1,(hTO i hi k hk).2⟩) dL dO dLO
structure SepAt (w:World) (S:Nat->Prop) (v:V) (b o:Nat) (c:VC):Prop where
 at_:ValAt w b o c
 sep:Sep w S v c
 out:¬S b
inductive Way (w:World):Nat->Nat->V->List St->Nat->Nat->V->Prop
 |nil (b o:Nat) (v:V):Way w b o v [] b o v
 |list (b o:Nat) (v x y:V) (c:VC) (s:St) (r:List St) (k g q b' o':Nat) (hv:ValAt w b o c) (hi:IsVal w w.heap.size v c) (hs:stepP v s=some (x,k)) (hl:s.list=true) (ha:c.la=some ⟨g,q,none⟩) (h:Way w g (q+k*5) x r b' o' y):Way w b o v (s::r) b' o' y
 |obj (b o:Nat) (v x y:V) (c:VC) (s:St) (r:List St) (k g q b' o':Nat) (hv:ValAt w b o c) (hi:IsVal w w.heap.size v c) (hs:stepP v s=some (x,k)) (hl:s.list=false) (ha:c.oa=some ⟨g,q,none⟩) (h:Way w g (q+k*6+1) x r b' o' y):Way w b o v (s::r) b' o' y
def But (S:Nat->Prop) (b b' o':Nat) (w w':World):Prop:=∀k q,(S k∨k=b)->¬(k=b'/\o'<=q/\q<o'+5)->w'.cell? ⟨k,q,none⟩=w.cell? ⟨k,q,none⟩
theorem But.val {S:Nat->Prop} {b b' o':Nat} {w w':World} (h:But S b b' o' w w') {k q:Nat} {c:VC} (hk:S k∨k=b) (hn:k≠b'∨q+5<=o'∨o'+5<=q) (hv:ValAt w k q c):ValAt w' k q c:=
 ⟨(h _ _ hk (by omega)).trans hv.c0,(h _ _ hk (by omega)).trans hv.c1,(h _ _ hk (by omega)).trans hv.c2,(h _ _ hk (by omega)).trans hv.c3,(h _ _ hk (by omega)).trans hv.c4⟩
theorem zd7 {w:World} {S:Nat->Prop} {v:V} {c:VC} (h:Sep w S v c):IsVal w w.heap.size v c:=
 (h.isVal (P:=fun _=>True) fun _ _=>trivial).sub (Zl _ _ _)
theorem zmi (o:List (ByteArray×V)) (k:Nat) (z:V) (i:Nat) (h:i<(putO o k z).length) (h2:i<o.length):(putO o k z)[i].1=o[i].1/\(i=k->(putO o k z)[i].2=z)/\(i≠k->(putO o k z)[i].2=o[i].2):=by
 have h3:(putO o k z)[i] =(o.set k ((o.getD k (.empty,V.none)).1,z))[i]'(by rw [List.length_set];exact h2):=rfl;rw [h3,List.getElem_set];by_cases hk:k=i
 .subst hk;rw [if_pos rfl];have e:o.getD k (.empty,V.none)=o[k] :=by simp [List.getD_eq_getElem?_getD,h2]
  exact ⟨by rw [e],fun _=>rfl,fun e=>absurd rfl e⟩
 .rw [if_neg hk];exact ⟨rfl,fun e=>absurd e.symm hk,fun _=>rfl⟩
theorem zbb (p:List St):∀ {w:World} {S:Nat->Prop} {v x:V} {b o:Nat} {c:VC},SepAt w S v b o c->getP v p=some x->
 ∃ b' o' Sx cx,SepAt w Sx x b' o' cx/\Way w b o v p b' o' x/\((b'=b/\o'=o/\p= [])∨S b')/\(∀k,Sx k->S k)/\
   ∀(w':World) (S':Nat->Prop) (y:V) (cy:VC),w.heap.size<=w'.heap.size->But S b b' o' w w'->SepAt w' S' y b' o' cy->(∀k,S' k->¬S k/\k≠b)->∃z cz,putP v p y=some z/\SepAt w' (fun k=>S k∨S' k) z b o cz:=by
 induction p with
 | nil=>
   intro w S v x b o c h hg;injection hg with hg;subst hg;refine ⟨b,o,S,c,h, .nil b o v, .inl ⟨rfl,rfl,rfl⟩,fun _ h=>h,fun w' S' y cy hz hbut hy hd=>⟨y,cy,rfl,hy.at_,hy.sep.more (fun _ h=> .inr h) (fun k hk=> ?_),fun hk=> ?_⟩⟩
   .rcases hk with hk|hk
    .exact zzj (h.sep.bnd k hk) hz
    .exact hy.sep.bnd k hk
   .rcases hk with hk|hk
    .exact h.out hk
    .exact (hd b hk).2 rfl
 | cons s r ih =>
   intro w S v x b o c h hg;obtain ⟨hat,hsep,hout⟩:=h;have hfull:=zd7 hsep;unfold getP at hg
   cases hs:stepP v s with
   |none=>rw [hs] at hg;cases hg
   | some q =>
     obtain ⟨u,k⟩:=q;rw [hs] at hg;try dsimp only at hg
     have hstep:=Y7 hs
     cases hsep with
     |mk S c l ol cl co gl go TL TO hb hl ho hS hla hoa hne hlc hoc hlv hov hTL hTO dL dO dLO=>
     rcases hstep with ⟨hls,_,hki,hk,hu⟩|⟨hls,_,hki,hk,hu⟩
     .have hk :k<l.length:=hk;have hu:l[k] =u:=hu;have hll:0<c.ll:=by omega
      obtain ⟨hga,hgS⟩:=hla hll;have hnT:¬TL k gl:=fun e=>(hTL k hk gl e).2.1 rfl;obtain ⟨b',o',Sx,cx,h1,h2,h3,h4,h5⟩:=ih (b:=gl) (o:=k*5) (c:=cl k) ⟨hlc k hk,by rw [<-hu];exact hlv k hk,hnT⟩ hg;have hb'S:S b':=by
       rcases h3 with ⟨e,_⟩|e
       .rw [e];exact hgS
       .exact (hTL k hk _ e).1
      refine ⟨b',o',Sx,cx,h1, .list b o _ u x c s r k gl 0 b' o' hat hfull hs hls hga (by rw [Nat.zero_add];exact h2), .inr hb'S,fun j hj=>(hTL k hk j (h4 j hj)).1,fun w' S' y cy hz hbut hy hd=> ?_⟩;obtain ⟨z,cz,hz1,hz2⟩:=h5 w' S' y cy hz (fun j q hj hn=>hbut j q (.inl (by
       rcases hj with hj|rfl
       .exact (hTL k hk j hj).1
       .exact hgS)) hn) hy (fun j hj=>⟨fun e=>(hd j hj).1 (hTL k hk j e).1,fun e=>(hd j hj).1 (e ▸ hgS)⟩)
      have hne':∀i,i<l.length->i≠k->gl≠b'∨i*5+5<=o'∨o'+5<=i*5:=fun i hi hik=>by
       rcases h3 with ⟨_,e,_⟩|e
       .right;rw [e];omega
       .left;intro e2;exact hnT (e2 ▸ e)
      have hgo':0<c.ol->go≠b':=fun h0 e2=>by
       rcases h3 with ⟨e,_⟩|e
       .exact hne hll h0 (by rw [e2,e])
       .exact (hTL k hk _ e).2.2 h0 e2.symm
      have agr:∀(T:Nat->Prop),(∀j,T j->S j)->¬T b'->Agree T w w':=fun T hT hn j q hj=>hbut j q (.inl (hT j hj)) (fun e=>hn (e.1 ▸ hj));refine ⟨(V.mk c.k c.n c.s l ol).setL k z,c,by unfold putP;rw [hs];dsimp only;rw [hz1];dsimp only;rw [if_pos hls],hbut.val (.inr rfl) (.inl fun e=>hout (e ▸ hb'S)) hat, ?_,fun e=> ?_⟩
      .show Sep w' _ (V.mk c.k c.n c.s (l.set k z) ol) c;refine .mk _ c (l.set k z) ol (fun i=>if i=k then cz else cl i) co gl go (fun i=>if i=k then (fun j=>TL k j∨S' j) else TL i) TO hb (by rw [List.length_set];exact hl) ho (fun j hj=> ?_) (fun h=>⟨(hla h).1, .inl (hla h).2⟩) (fun h=>⟨(hoa h).1, .inl (hoa h).2⟩) hne (fun i hi=> ?_) (fun i hi=> ?_) (fun i hi=> ?_) (fun i hi=> ?_) (fun i hi j hj=> ?_) (fun i hi j hj=>⟨.inl (hTO i hi j hj).1,(hTO i hi j hj).2⟩) (fun i i' hi hi' hii j hj hj'=> ?_) dO (fun i i' hi hi' j hj hj'=> ?_)
       .rcases hj with hj|hj
        .exact zzj (hS j hj) hz
        .exact hy.sep.bnd j hj
       .rw [List.length_set] at hi;try dsimp only
        by_cases hik:i=k
        .rw [if_pos hik,hik];exact hz2.at_
        .rw [if_neg hik];exact hbut.val (.inl hgS) (hne' i hi hik) (hlc i hi)
       .have hg:=hgo' (by omega);exact ⟨(hbut _ _ (.inl (hoa (by omega)).2) (fun e=>hg e.1)).trans (hoc i hi).1,(hoc i hi).2.1,hbut.val (.inl (hoa (by omega)).2) (.inl hg) (hoc i hi).2.2⟩
       .rw [List.length_set] at hi;try dsimp only
        by_cases hik:i=k
        .subst hik;rw [if_pos rfl,if_pos rfl,List.getElem_set_self];exact hz2.sep
        .rw [if_neg hik,if_neg hik,List.getElem_set_ne (Ne.symm hik)];exact (hlv i hi).keep hz (agr _ (fun j hj=>(hTL i hi j hj).1) fun e=>by
          rcases h3 with ⟨e1,_⟩|e1
          .exact (hTL i hi _ e).2.1 e1
          .exact dL i k hi hk hik _ e e1)
       .exact (hov i hi).keep hz (agr _ (fun j hj=>(hTO i hi j hj).1) fun e=>by
         rcases h3 with ⟨e1,_⟩|e1
         .exact (hTO i hi _ e).2.2 hll e1
         .exact dLO k i hk hi _ e1 e)
       .rw [List.length_set] at hi;try dsimp only at hj
        by_cases hik:i=k
        .rw [if_pos hik] at hj;rcases hj with hj|hj
         .exact ⟨.inl (hTL k hk j hj).1,(hTL k hk j hj).2⟩
         .exact ⟨.inr hj,fun e=>(hd j hj).1 (e ▸ hgS),fun h0 e=>(hd j hj).1 (e ▸ (hoa h0).2)⟩
        .rw [if_neg hik] at hj;exact ⟨.inl (hTL i hi j hj).1,(hTL i hi j hj).2⟩
       .rw [List.length_set] at hi hi';try dsimp only at hj hj'
        by_cases hik:i=k
        .have hik':i'≠k:=fun e=>hii (by rw [hik,e]);rw [if_pos hik] at hj;rw [if_neg hik'] at hj';rcases hj with hj|hj
         .exact dL k i' hk hi' (fun e=>hik' e.symm) j hj hj'
         .exact (hd j hj).1 (hTL i' hi' j hj').1
        .rw [if_neg hik] at hj;by_cases hik':i'=k
         .rw [if_pos hik'] at hj';rcases hj' with hj'|hj'
          .exact dL i k hi hk hik j hj hj'
          .exact (hd j hj').1 (hTL i hi j hj).1
         .rw [if_neg hik'] at hj';exact dL i i' hi hi' hii j hj hj'
       .rw [List.length_set] at hi;try dsimp only at hj
        by_cases hik:i=k
        .rw [if_pos hik] at hj;rcases hj with hj|hj
         .exact dLO k i' hk hi' j hj hj'
         .exact (hd j hj).1 (hTO i' hi' j hj').1
        .rw [if_neg hik] at hj;exact dLO i i' hi hi' j hj hj'
      .rcases e with e|e
       .exact hout e
       .exact (hd b e).2 rfl
     .have hk :k<ol.length:=hk;have hu:ol[k].2=u:=hu;have hll:0<c.ol:=by omega
      obtain ⟨hga,hgS⟩:=hoa hll;have hnT:¬TO k go:=fun e=>(hTO k hk go e).2.1 rfl;obtain ⟨b',o',Sx,cx,h1,h2,h3,h4,h5⟩:=ih (b:=go) (o:=k*6+1) (c:=co k) ⟨(hoc k hk).2.2,by rw [<-hu];exact hov k hk,hnT⟩ hg;have hb'S:S b':=by
       rcases h3 with ⟨e,_⟩|e
       .rw [e];exact hgS
       .exact (hTO k hk _ e).1
      refine ⟨b',o',Sx,cx,h1, .obj b o _ u x c s r k go 0 b' o' hat hfull hs hls hga (by rw [Nat.zero_add];exact h2), .inr hb'S,fun j hj=>(hTO k hk j (h4 j hj)).1,fun w' S' y cy hz hbut hy hd=> ?_⟩;obtain ⟨z,cz,hz1,hz2⟩:=h5 w' S' y cy hz (fun j q hj hn=>hbut j q (.inl (by
       rcases hj with hj|rfl
       .exact (hTO k hk j hj).1
       .exact hgS)) hn) hy (fun j hj=>⟨fun e=>(hd j hj).1 (hTO k hk j e).1,fun e=>(hd j hj).1 (e ▸ hgS)⟩)
      have hne':∀i,i<ol.length->i≠k->go≠b'∨i*6+6<=o'∨o'+5<=i*6:=fun i hi hik=>by
       rcases h3 with ⟨_,e,_⟩|e
       .right;rw [e];omega
       .left;intro e2;exact hnT (e2 ▸ e)
      have hkey':go≠b'∨k*6<o':=by
       rcases h3 with ⟨_,e,_⟩|e
       .right;rw [e];omega
       .left;intro e2;exact hnT (e2 ▸ e)
      have hgl':0<c.ll->gl≠b':=fun h0 e2=>by
       rcases h3 with ⟨e,_⟩|e
       .exact hne h0 hll (by rw [e2,e])
       .exact (hTO k hk _ e).2.2 h0 e2.symm
      have agr:∀(T:Nat->Prop),(∀j,T j->S j)->¬T b'->Agree T w w':=fun T hT hn j q hj=>hbut j q (.inl (hT j hj)) (fun e=>hn (e.1 ▸ hj));refine ⟨(V.mk c.k c.n c.s l ol).setO k z,c,by unfold putP;rw [hs];dsimp only;rw [hz1];dsimp only;rw [if_neg (by simp [hls])],hbut.val (.inr rfl) (.inl fun e=>hout (e ▸ hb'S)) hat, ?_,fun e=> ?_⟩
      .show Sep w' _ (V.mk c.k c.n c.s l (putO ol k z)) c;have hlen:(putO ol k z).length=ol.length:=by unfold putO;rw [List.length_set]
       have hget:∀i (h:i<(putO ol k z).length),(putO ol k z)[i].1=(ol[i]'(by omega)).1/\(i=k->(putO ol k z)[i].2=z)/\(i≠k->(putO ol k z)[i].2=(ol[i]'(by omega)).2):=fun i h=>zmi ol k z i h (by omega);refine .mk _ c l (putO ol k z) cl (fun i=>if i=k then cz else co i) gl go TL (fun i=>if i=k then (fun j=>TO k j∨S' j) else TO i) hb hl (by rw [hlen];exact ho) (fun j hj=> ?_) (fun h=>⟨(hla h).1, .inl (hla h).2⟩) (fun h=>⟨(hoa h).1, .inl (hoa h).2⟩) hne (fun i hi=> ?_) (fun i hi=> ?_) (fun i hi=> ?_) (fun i hi=> ?_) (fun i hi j hj=>⟨.inl (hTL i hi j hj).1,(hTL i hi j hj).2⟩) (fun i hi j hj=> ?_) dL (fun i i' hi hi' hii j hj hj'=> ?_) (fun i i' hi hi' j hj hj'=> ?_)
       .rcases hj with hj|hj
        .exact zzj (hS j hj) hz
        .exact hy.sep.bnd j hj
       .exact hbut.val (.inl (hla (by omega)).2) (.inl (hgl' (by omega))) (hlc i hi)
       .have hi2:i<ol.length:=by omega
        obtain ⟨g1,g2,g3⟩:=hget i hi;rw [g1];try dsimp only
        by_cases hik:i=k
        .subst hik;refine ⟨(hbut _ _ (.inl hgS) (by omega)).trans (hoc i hi2).1,(hoc i hi2).2.1, ?_⟩;rw [if_pos rfl];exact hz2.at_
        .have:=hne' i hi2 hik;refine ⟨(hbut _ _ (.inl hgS) (by omega)).trans (hoc i hi2).1,(hoc i hi2).2.1, ?_⟩;rw [if_neg hik];exact hbut.val (.inl hgS) (by omega) (hoc i hi2).2.2
       .exact (hlv i hi).keep hz (agr _ (fun j hj=>(hTL i hi j hj).1) fun e=>by
         rcases h3 with ⟨e1,_⟩|e1
         .exact (hTL i hi _ e).2.2 hll e1
         .exact dLO i k hi hk _ e e1)
       .have hi2:i<ol.length:=by omega
        obtain ⟨g1,g2,g3⟩:=hget i hi;try dsimp only
        by_cases hik:i=k
        .rw [if_pos hik,if_pos hik,g2 hik];exact hz2.sep
        .rw [if_neg hik,if_neg hik,g3 hik];exact (hov i hi2).keep hz (agr _ (fun j hj=>(hTO i hi2 j hj).1) fun e=>by
          rcases h3 with ⟨e1,_⟩|e1
          .exact (hTO i hi2 _ e).2.1 e1
          .exact dO i k hi2 hk hik _ e e1)
       .rw [hlen] at hi;try dsimp only at hj
        by_cases hik:i=k
        .rw [if_pos hik] at hj;rcases hj with hj|hj
         .exact ⟨.inl (hTO k hk j hj).1,(hTO k hk j hj).2⟩
         .exact ⟨.inr hj,fun e=>(hd j hj).1 (e ▸ hgS),fun h0 e=>(hd j hj).1 (e ▸ (hla h0).2)⟩
        .rw [if_neg hik] at hj;exact ⟨.inl (hTO i hi j hj).1,(hTO i hi j hj).2⟩
       .rw [hlen] at hi hi';try dsimp only at hj hj'
        by_cases hik:i=k
        .have hik':i'≠k:=fun e=>hii (by rw [hik,e]);rw [if_pos hik] at hj;rw [if_neg hik'] at hj';rcases hj with hj|hj
         .exact dO k i' hk hi' (fun e=>hik' e.symm) j hj hj'
         .exact (hd j hj).1 (hTO i' hi' j hj').1
        .rw [if_neg hik] at hj;by_cases hik':i'=k
         .rw [if_pos hik'] at hj';rcases hj' with hj'|hj'
          .exact dO i k hi hk hik j hj hj'
          .exact (hd j hj').1 (hTO i hi j hj).1
         .rw [if_neg hik'] at hj';exact dO i i' hi hi' hii j hj hj'
       .rw [hlen] at hi';try dsimp only at hj'
        by_cases hik:i'=k
        .rw [if_pos hik] at hj';rcases hj' with hj'|hj'
         .exact dLO i k hi hk j hj hj'
         .exact (hd j hj').1 (hTL i hi j hj).1
        .rw [if_neg hik] at hj';exact dLO i i' hi hi' j hj hj'
      .rcases e with e|e
       .exact hout e
       .exact (hd b e).2 rfl
theorem zm4 {z:Array Value} (hz:0<z.size) (h:∀k,k<z.size->(z[k]!).oneCell'=true) (n:Nat):∀v ∈ (Builtin.zeroCells z n).toList,v.oneCell'=true:=by intro v hv;simp only [Builtin.zeroCells,Array.toList_map,List.mem_map] at hv;obtain ⟨k,_,rfl⟩:=hv;exact h _ (Nat.mod_lt _ hz)
theorem zbq {α:Type} (L zs M:List α) (p q r:Nat) (hp:p<=q) (hq:q<=r) (hr:r<=L.length):
 (((L.take p++(L.take r).drop q++L.drop (p+((L.take r).drop q).length)).take (p+(r - q))++zs++M).take (p+(r - q)))=(L.take r).take p++(L.take r).drop q:=by
 have h1:(L.take p++(L.take r).drop q++L.drop (p+((L.take r).drop q).length)).take (p+(r - q))=L.take p++(L.take r).drop q:=by rw [List.take_left' (by simp;omega)]
 rw [h1,List.append_assoc,List.take_left' (by simp;omega),List.take_take,Nat.min_eq_left (by omega)]
theorem zbn {P:Program} {ops:Array Oper} {o:Oper} {a:Act} {w:World} {K:Act->World->Prop} {Q:Exit->Act->World->Prop} {E:Prop}
 (hg:o.guard=none) (s x:Operand) (t:TypeId) (hop:o.op=Op.call { callee:=Callee.builtin Builtin.append,args:= #[s,x],argTypes:= #[t,t] })
 (v u:Value) (hs:a.eval s=v) (hx:a.eval x=u) {v':Value} {w':World} (hr:(Builtin.append_ #[t,t] o.type #[v,u]).run P w= .ok v' w') (hK:K (a.put o.dst v') w'):
 if Region.wanted o (yielded ops a.tmps)=true then Oper.wp P o a w K Q else E:=by
 have hw:Region.wanted o (yielded ops a.tmps)=true:=by simp [Region.wanted,hg]
 rw [if_pos hw];unfold Oper.wp;simp [execOp,hop,resolve,invoke,builtin,hs,hx,hr,Result.andThen];exact hK
theorem zec {P:Program} (w:World) (t e ty:TypeId) (z:Value) (ht:P.underlying t=some (.slice e)) (hv:∀w,(zeroValue e).run P w= .ok z w) (g o n c:Nat) (cur:Array Value) (tc:TypeId) (hn:0<n) (hg:w.heap[g]? =some (.cells cur tc (0,0)))
 (hz:0<z.cells.size) (h1:∀k,k<z.cells.size->(z.cells[k]!).oneCell'=true) (hfit:o+n*z.cells.size<=cur.size):
 (Builtin.clear_ #[t] ty #[.slice (some ⟨g,o,none⟩) n c]).run P w= .ok (.tuple #[]) (w.setRow g (cur.toList.take o++(Builtin.zeroCells z.cells n).toList++cur.toList.drop (o+(Builtin.zeroCells z.cells n).toList.length)).toArray):=by
 have hst:=run_storeCells_at P g o tc (Builtin.zeroCells z.cells n).toList 0 cur w hg (by rw [Array.length_toList,size_zeroCells];simpa using hfit) (zm4 hz h1 n);simp only [Nat.add_zero] at hst;obtain ⟨m,rfl⟩:∃m,n=m+1:=⟨n - 1,by omega⟩;simp [Builtin.clear_,run_underlying ht,hv,hst]
theorem zk4 (w:World) (base g n c i j:Nat) (cur:Array Value) (xs:List Value) (hbg:base<=g) (hg:w.heap[g]? =some (.cells cur 29 (0,0))) (hcur:cur.size=c*5) (hij:i<j) (hj:j<=n) (hnc:n<=c) (hc:c<=maxLen)
 (hxs:cur.toList.take (n*5)=xs) (h1:∀v ∈ xs,v.oneCell'=true):
 uP 156 #[.slice (some ⟨g,0,none⟩) n c, .int .i64 (i:Int), .int .i64 (j:Int)] w (RowPost w base 29 5 (.slice (some ⟨g,0,none⟩) n c) (i+(n - j)) (xs.take (i*5)++xs.drop (j*5))):=by
 delta uP;obtain ⟨i0,hi0,hz0,hzs,hzb⟩:=info_parts Yo;have hc63:c<=9223372036854775807:=by unfold maxLen at hc;omega
 have hcl:cur.toList.length=c*5:=by simpa using hcur
 have hxl:xs.length=n*5:=by rw [<-hxs,zzd,hcl];omega
 have hdl:(xs.drop (j*5)).length=(n - j)*5:=by rw [zzf,hxl];omega
 have hcell:∀j v,xs[j]? =some v->cur[j]? =some v:=fun j v hj=>by
  rw [<-hxs,List.getElem?_take] at hj;split at hj
  .simpa using hj
  .cases hj
 obtain ⟨A,hA,hsrc⟩:∃A:Addr,(if c=j then some (⟨g,0,none⟩:Addr) else some ⟨g,j*5,none⟩)=some A/\∀t u,(xs.drop (j*5))[t]? =some u->w.drew.cell? (A.add t)=some u:=by
  by_cases h:c=j
  .refine ⟨⟨g,0,none⟩,by simp [h],fun t u hu=> ?_⟩;rw [List.drop_eq_nil_of_le (by omega)] at hu;simp at hu
  .refine ⟨⟨g,j*5,none⟩,by simp [h],fun t u hu=> ?_⟩;rw [List.getElem?_drop] at hu;rw [Addr.add_lit];simp only [World.cell?,show w.drew.heap=w.heap from rfl,hg];simpa using hcell _ u hu
 have hap:∀ty cc,(Builtin.append_ #[26,26] ty #[.slice (some ⟨g,0,none⟩) i c, .slice (some A) (n - j) cc]).run Tryz.prog w.drew= .ok (.slice (some ⟨g,0,none⟩) (i+(n - j)) c) (w.drew.setRow g (cur.toList.take (i*5)++xs.drop (j*5)++cur.toList.drop (i*5+(xs.drop (j*5)).length)).toArray):=fun ty cc=>by have h:=run_append_room (P:=Tryz.prog) w.drew 26 ty 29 i0 Tryz.underlying26 hi0 g i c cur hg A (n - j) cc (xs.drop (j*5)) (by rw [hzs];exact hdl) hsrc (fun v hv=>h1 v (List.mem_of_mem_drop hv)) (by omega) (by rw [hzs,hdl,hcur];omega);rw [hzs] at h;exact h
 obtain ⟨C1,hC1⟩:∃C1,C1=(cur.toList.take (i*5)++xs.drop (j*5)++cur.toList.drop (i*5+(xs.drop (j*5)).length)).toArray:=⟨_,rfl⟩;rw [<-hC1] at hap;have hC1s:C1.size=c*5:=by rw [hC1];simp only [List.size_toArray,zze,zzd,hcl,hdl];rw [zzf,hcl];omega
 obtain ⟨z,hzz,hzc,hzo⟩:∃z,i0.zero=some z/\z.cells.size=5/\∀k,k<z.cells.size->(z.cells[k]!).oneCell'=true:=⟨_,hz0,rfl,fun k hk=>by
  have:k<5:=hk;rcases k with _|_|_|_|_|_|k<;>first|rfl|omega⟩
 have hzv:∀w,(zeroValue 29).run Tryz.prog w= .ok z w:=fun w=>by simp [zeroValue,typeInfo,hi0,hzz]
 have hgW:(w.drew.setRow g C1).heap[g]? =some (.cells C1 29 (0,0)):=setRow_heap w.drew g cur C1 29 (0,0) hg;obtain ⟨W1,hW1⟩:∃W1,w.drew.setRow g C1=W1:=⟨_,rfl⟩;have hcr:∀ty,(Builtin.clear_ #[26] ty #[.slice (some ⟨g,(i+(n - j))*5,none⟩) (n - (i+(n - j))) (c - (i+(n - j)))]).run Tryz.prog W1= .ok (.tuple #[]) (W1.setRow g (C1.toList.take ((i+(n - j))*5)++(Builtin.zeroCells z.cells (n - (i+(n - j)))).toList++C1.toList.drop ((i+(n - j))*5+(Builtin.zeroCells z.cells (n - (i+(n - j)))).toList.length)).toArray):=fun ty=>
  zec W1 26 29 ty z Tryz.underlying26 hzv g ((i+(n - j))*5) (n - (i+(n - j))) _ C1 29 (by omega) (by rw [<-hW1];exact hgW) (by omega) hzo (by rw [hzc,hC1s];omega)
 obtain ⟨zs,hzs'⟩:∃zs,(Builtin.zeroCells z.cells (n - (i+(n - j)))).toList=zs:=⟨_,rfl⟩;have hzl:zs.length=(n - (i+(n - j)))*5:=by rw [<-hzs',Array.length_toList,size_zeroCells,hzc]
 rw [hzs'] at hcr;obtain ⟨C2,hC2⟩:∃C2,C2=(C1.toList.take ((i+(n - j))*5)++zs++C1.toList.drop ((i+(n - j))*5+zs.length)).toArray:=⟨_,rfl⟩;rw [<-hC2] at hcr;have hC2s:C2.size=c*5:=by
  have:C1.toList.length=c*5:=by simpa using hC1s
  rw [hC2];simp only [List.size_toArray,zze,zzd,zzf,this,hzl];omega
 have hC2t:C2.toList.take ((i+(n - j))*5)=xs.take (i*5)++xs.drop (j*5):=by have h:=zbq cur.toList zs (C1.toList.drop ((i+(n - j))*5+zs.length)) (i*5) (j*5) (n*5) (by omega) (by omega) (by omega);rw [hxs] at h;rw [hC2,show (i+(n - j))*5=i*5+(n*5 - j*5) by omega];rw [show (i+(n - j))*5=i*5+(n*5 - j*5) by omega] at h;rw [hC1] at h ⊢;exact h
 have HS:=qh hC2s;have HT:=qh hC2t;have HL:=qh hxl;have HGW:=qh hgW;obtain ⟨R,hR⟩:∃R,RowPost w base 29 5 (.slice (some ⟨g,0,none⟩) n c) (i+(n - j)) (xs.take (i*5)++xs.drop (j*5))=R:=⟨_,rfl⟩;have HR:=qh hR;have mixed:Tryz.prog.follows .mixedOrders=true:=by kernel_rfl
 have HW1:=qh hW1;have HAP:=qh hap;rw [hR];have hz1:¬((i:Int)=(j:Int)):=by omega
 have hz2:¬(c=i):=by omega
 have hz3:¬(c=i+(n - j)):=by omega
 have hic:i<=c:=by omega
 have hjc:j<=c:=by omega
 have hij2:i<=j:=by omega
 clear hR hC2s hC2t hC1s hC1 hC2 hxs hdl hxl hcl hzz hzo hzc hzv hsrc hcell hap hgW hW1 hzs' hzl;go_enter Tryz.func156,Tryz.ntmps156
 go_wp2_with fail
 go_region_law_o (refine zbn rfl _ _ 26 rfl (.slice (some ⟨g,0,none⟩) i c) (.slice (some A) (n - j) (c - j)) (by simp [Act.eval,Act.put]) (by simp [Act.eval,Act.put]) (HAP.out _ _) ?_)
 rw [HW1.out];go_wp2_with fail;rw [<-HR.out];exact ⟨_,rfl,⟨by simp only [zze,zzd,zzf,HL.out];omega, .inr ⟨g,c,C2,rfl,hbg,setRow_heap W1 g C1 C2 29 (0,0) (by rw [<-HW1.out];exact HGW.out),by omega,hc,HS.out,HT.out⟩⟩,
  by rw [<-HW1.out];exact ⟨rfl,rfl,rfl,by simp,fun k hk hne=>(setRow_other _ g k _ (fun e=>hne (by rw [e];rfl))).trans (setRow_other w.drew g k _ (fun e=>hne (by rw [e];rfl)))⟩, .inl rfl⟩
theorem zbe (w:World) (base n i:Nat) (u:Value) (xs:List Value) (hown:w.ownsRow base 29 5 u n xs) (hi:i<n) (h1:∀v ∈ xs,v.oneCell'=true):
 uP 156 #[u, .int .i64 (i:Int), .int .i64 ((i:Int)+1)] w (RowPost w base 29 5 u (n - 1) (xs.take (i*5)++xs.drop ((i+1)*5))):=by
 delta uP;rcases hown.2 with ⟨rfl,h0⟩|⟨g,c,cur,rfl,hbg,hg,hnc,hcm,hcs,htk⟩
 .omega
 .have h:=zk4 w base g n c i (i+1) cur xs hbg hg hcs (by omega) (by omega) hnc hcm htk h1;rw [show i+(n - (i+1))=n - 1 by omega] at h;exact h
theorem zk9 (w:World) (base g n c i j:Nat) (cur:Array Value) (xs:List Value) (hbg:base<=g) (hg:w.heap[g]? =some (.cells cur 62 (0,0))) (hcur:cur.size=c*6) (hij:i<j) (hj:j<=n) (hnc:n<=c) (hc:c<=maxLen)
 (hxs:cur.toList.take (n*6)=xs) (h1:∀v ∈ xs,v.oneCell'=true):
 uP 114 #[.slice (some ⟨g,0,none⟩) n c, .int .i64 (i:Int), .int .i64 (j:Int)] w (RowPost w base 62 6 (.slice (some ⟨g,0,none⟩) n c) (i+(n - j)) (xs.take (i*6)++xs.drop (j*6))):=by
 delta uP;obtain ⟨i0,hi0,hz0,hzs,hzb⟩:=info_parts Yn;have hc63:c<=9223372036854775807:=by unfold maxLen at hc;omega
 have hcl:cur.toList.length=c*6:=by simpa using hcur
 have hxl:xs.length=n*6:=by rw [<-hxs,zzd,hcl];omega
 have hdl:(xs.drop (j*6)).length=(n - j)*6:=by rw [zzf,hxl];omega
 have hcell:∀j v,xs[j]? =some v->cur[j]? =some v:=fun j v hj=>by
  rw [<-hxs,List.getElem?_take] at hj;split at hj
  .simpa using hj
  .cases hj
 obtain ⟨A,hA,hsrc⟩:∃A:Addr,(if c=j then some (⟨g,0,none⟩:Addr) else some ⟨g,j*6,none⟩)=some A/\∀t u,(xs.drop (j*6))[t]? =some u->w.drew.cell? (A.add t)=some u:=by
  by_cases h:c=j
  .refine ⟨⟨g,0,none⟩,by simp [h],fun t u hu=> ?_⟩;rw [List.drop_eq_nil_of_le (by omega)] at hu;simp at hu
  .refine ⟨⟨g,j*6,none⟩,by simp [h],fun t u hu=> ?_⟩;rw [List.getElem?_drop] at hu;rw [Addr.add_lit];simp only [World.cell?,show w.drew.heap=w.heap from rfl,hg];simpa using hcell _ u hu
 have hap:∀ty cc,(Builtin.append_ #[27,27] ty #[.slice (some ⟨g,0,none⟩) i c, .slice (some A) (n - j) cc]).run Tryz.prog w.drew= .ok (.slice (some ⟨g,0,none⟩) (i+(n - j)) c) (w.drew.setRow g (cur.toList.take (i*6)++xs.drop (j*6)++cur.toList.drop (i*6+(xs.drop (j*6)).length)).toArray):=fun ty cc=>by have h:=run_append_room (P:=Tryz.prog) w.drew 27 ty 62 i0 Tryz.underlying27 hi0 g i c cur hg A (n - j) cc (xs.drop (j*6)) (by rw [hzs];exact hdl) hsrc (fun v hv=>h1 v (List.mem_of_mem_drop hv)) (by omega) (by rw [hzs,hdl,hcur];omega);rw [hzs] at h;exact h
 obtain ⟨C1,hC1⟩:∃C1,C1=(cur.toList.take (i*6)++xs.drop (j*6)++cur.toList.drop (i*6+(xs.drop (j*6)).length)).toArray:=⟨_,rfl⟩;rw [<-hC1] at hap;have hC1s:C1.size=c*6:=by rw [hC1];simp only [List.size_toArray,zze,zzd,hcl,hdl];rw [zzf,hcl];omega
 obtain ⟨z,hzz,hzc,hzo⟩:∃z,i0.zero=some z/\z.cells.size=6/\∀k,k<z.cells.size->(z.cells[k]!).oneCell'=true:=⟨_,hz0,rfl,fun k hk=>by
  have:k<6:=hk;rcases k with _|_|_|_|_|_|k<;>first|rfl|omega⟩
 have hzv:∀w,(zeroValue 62).run Tryz.prog w= .ok z w:=fun w=>by simp [zeroValue,typeInfo,hi0,hzz]
 have hgW:(w.drew.setRow g C1).heap[g]? =some (.cells C1 62 (0,0)):=setRow_heap w.drew g cur C1 62 (0,0) hg;obtain ⟨W1,hW1⟩:∃W1,w.drew.setRow g C1=W1:=⟨_,rfl⟩;have hcr:∀ty,(Builtin.clear_ #[27] ty #[.slice (some ⟨g,(i+(n - j))*6,none⟩) (n - (i+(n - j))) (c - (i+(n - j)))]).run Tryz.prog W1= .ok (.tuple #[]) (W1.setRow g (C1.toList.take ((i+(n - j))*6)++(Builtin.zeroCells z.cells (n - (i+(n - j)))).toList++C1.toList.drop ((i+(n - j))*6+(Builtin.zeroCells z.cells (n - (i+(n - j)))).toList.length)).toArray):=fun ty=>
  zec W1 27 62 ty z Tryz.underlying27 hzv g ((i+(n - j))*6) (n - (i+(n - j))) _ C1 62 (by omega) (by rw [<-hW1];exact hgW) (by omega) hzo (by rw [hzc,hC1s];omega)
 obtain ⟨zs,hzs'⟩:∃zs,(Builtin.zeroCells z.cells (n - (i+(n - j)))).toList=zs:=⟨_,rfl⟩;have hzl:zs.length=(n - (i+(n - j)))*6:=by rw [<-hzs',Array.length_toList,size_zeroCells,hzc]
 rw [hzs'] at hcr;obtain ⟨C2,hC2⟩:∃C2,C2=(C1.toList.take ((i+(n - j))*6)++zs++C1.toList.drop ((i+(n - j))*6+zs.length)).toArray:=⟨_,rfl⟩;rw [<-hC2] at hcr;have hC2s:C2.size=c*6:=by
  have:C1.toList.length=c*6:=by simpa using hC1s
  rw [hC2];simp only [List.size_toArray,zze,zzd,zzf,this,hzl];omega
 have hC2t:C2.toList.take ((i+(n - j))*6)=xs.take (i*6)++xs.drop (j*6):=by have h:=zbq cur.toList zs (C1.toList.drop ((i+(n - j))*6+zs.length)) (i*6) (j*6) (n*6) (by omega) (by omega) (by omega);rw [hxs] at h;rw [hC2,show (i+(n - j))*6=i*6+(n*6 - j*6) by omega];rw [show (i+(n - j))*6=i*6+(n*6 - j*6) by omega] at h;rw [hC1] at h ⊢;exact h
 have HS:=qh hC2s;have HT:=qh hC2t;have HL:=qh hxl;have HGW:=qh hgW;obtain ⟨R,hR⟩:∃R,RowPost w base 62 6 (.slice (some ⟨g,0,none⟩) n c) (i+(n - j)) (xs.take (i*6)++xs.drop (j*6))=R:=⟨_,rfl⟩;have HR:=qh hR;have mixed:Tryz.prog.follows .mixedOrders=true:=by kernel_rfl
 have HW1:=qh hW1;have HAP:=qh hap;rw [hR];have hz1:¬((i:Int)=(j:Int)):=by omega
 have hz2:¬(c=i):=by omega
 have hz3:¬(c=i+(n - j)):=by omega
 have hic:i<=c:=by omega
 have hjc:j<=c:=by omega
 have hij2:i<=j:=by omega
 clear hR hC2s hC2t hC1s hC1 hC2 hxs hdl hxl hcl hzz hzo hzc hzv hsrc hcell hap hgW hW1 hzs' hzl;go_enter Tryz.func114,Tryz.ntmps114
 go_wp2_with fail
 go_region_law_o (refine zbn rfl _ _ 27 rfl (.slice (some ⟨g,0,none⟩) i c) (.slice (some A) (n - j) (c - j)) (by simp [Act.eval,Act.put]) (by simp [Act.eval,Act.put]) (HAP.out _ _) ?_)
 rw [HW1.out];go_wp2_with fail;rw [<-HR.out];exact ⟨_,rfl,⟨by simp only [zze,zzd,zzf,HL.out];omega, .inr ⟨g,c,C2,rfl,hbg,setRow_heap W1 g C1 C2 62 (0,0) (by rw [<-HW1.out];exact HGW.out),by omega,hc,HS.out,HT.out⟩⟩,
  by rw [<-HW1.out];exact ⟨rfl,rfl,rfl,by simp,fun k hk hne=>(setRow_other _ g k _ (fun e=>hne (by rw [e];rfl))).trans (setRow_other w.drew g k _ (fun e=>hne (by rw [e];rfl)))⟩, .inl rfl⟩
theorem zfv (w:World) (base n i:Nat) (u:Value) (xs:List Value) (hown:w.ownsRow base 62 6 u n xs) (hi:i<n) (h1:∀v ∈ xs,v.oneCell'=true):
 uP 114 #[u, .int .i64 (i:Int), .int .i64 ((i:Int)+1)] w (RowPost w base 62 6 u (n - 1) (xs.take (i*6)++xs.drop ((i+1)*6))):=by
 delta uP;rcases hown.2 with ⟨rfl,h0⟩|⟨g,c,cur,rfl,hbg,hg,hnc,hcm,hcs,htk⟩
 .omega
 .have h:=zk9 w base g n c i (i+1) cur xs hbg hg hcs (by omega) (by omega) hnc hcm htk h1;rw [show i+(n - (i+1))=n - 1 by omega] at h;exact h
end Go.Proofs.YtbgheehjfnoiiaaGreatDoor
