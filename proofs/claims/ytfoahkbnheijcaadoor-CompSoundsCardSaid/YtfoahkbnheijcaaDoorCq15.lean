/-
  Contracts of the functions that the law reaches: val.Copy (the program's): what stands in.
-/
import Derived.Test.YtfoahkbnheijcaaDoorCq7
import Derived.Laws.OwnMore
import Derived.Deep.Onto
import Derived.Laws.CopyRow
import Derived.Laws.CopyOwn
import Derived.Lib.Walk
import Derived.Ground.NamesProg
import Derived.Shelf.Unicode.ValidAny
import Derived.Shelf.Utf8.RuneCount
namespace Go.Proofs.YtfoahkbnheijcaaDoor
open Go.RowKit
theorem zbb {W:World} {base:Nat} {e:TypeId} {g n cap:Nat} {cl:List VC} (h:W.ownsRow base e 5 (.slice (some ⟨g,0,none⟩) n cap) n (cl.flatMap vcells)) {k:Nat} (hk:k<cl.length) (z:VC):
 (setV W g (k*5) z).ownsRow base e 5 (.slice (some ⟨g,0,none⟩) n cap) n ((cl.set k z).flatMap vcells):=by
 have h1:=(h.stored (k*5) (.int .u8 z.k)).1
 have h2:=(h1.stored (k*5+1) (.int .i64 z.n)).1
 have h3:=(h2.stored (k*5+2) (.string z.s)).1
 have h4:=(h3.stored (k*5+3) (.slice z.la z.ll z.lc)).1
 have h5:=(h4.stored (k*5+4) (.slice z.oa z.ol z.oc)).1
 rw [zci cl k hk z] at h5
 exact h5
theorem zfi {W:World} {base:Nat} {e:TypeId} {g n cap:Nat} {co:List (ByteArray×VC)} (h:W.ownsRow base e 6 (.slice (some ⟨g,0,none⟩) n cap) n (co.flatMap fcells)) {k:Nat} (hk:k<co.length) (z:VC):
 (setV W g (k*6+1) z).ownsRow base e 6 (.slice (some ⟨g,0,none⟩) n cap) n ((co.set k (co[k].1,z)).flatMap fcells):=by
 have h1:=(h.stored (k*6+1) (.int .u8 z.k)).1
 have h2:=(h1.stored (k*6+1+1) (.int .i64 z.n)).1
 have h3:=(h2.stored (k*6+1+2) (.string z.s)).1
 have h4:=(h3.stored (k*6+1+3) (.slice z.la z.ll z.lc)).1
 have h5:=(h4.stored (k*6+1+4) (.slice z.oa z.ol z.oc)).1
 rw [zcl co k hk z] at h5
 exact h5
theorem RStep.grown {w w':World} {rb:Nat} (h:RStep w w' rb):w.grownBy w' (some rb):=⟨h.os,h.tape,h.output,h.size,fun k hk hne=>h.block k hk (fun e=>hne (by rw [e]))⟩
theorem RStep.lowC {w w':World} {rb B:Nat} (h:RStep w w' rb) (hB:B<=rb) (hw:B<=w.heap.size):Below B w w':=⟨h.os,h.tape,h.output,h.size,fun k hk=>h.block k (by omega) (by omega)⟩
def Soft (w:World) (S:Nat->Prop):Prop:=∀k q,S k->w.frozen? ⟨k,q,none⟩=false
def SepI (w:World) (lo hi:Nat) (v:V) (c:VC):Prop:=∃S:Nat->Prop,(∀k,S k->lo<=k/\k<hi)/\Soft w S/\Sep w S v c
structure Half (w wr:World) (base:Nat) (l:List V) (o:List (ByteArray×V)) (u uo:Value) (cl:List VC) (co:List (ByteArray×VC)) (j:Nat) (s:Nat->Nat):Prop where
 lenL:cl.length=l.length
 lenO:co.length=o.length
 keys:∀i (h:i<o.length) (h':i<co.length),co[i].1=o[i].1/\o[i].1.size<=140737488355328
 rowL:wr.ownsRow base 31 5 u l.length (cl.flatMap vcells)
 rowO:wr.ownsRow base 68 6 uo o.length (co.flatMap fcells)
 apart:∀g,u.ownBlock=some g->uo.ownBlock≠some g
 loL:∀g,u.ownBlock=some g->g<s 0
 loO:∀g,uo.ownBlock=some g->g<s 0
 s0:base<=s 0
 sj:s j=wr.heap.size
 jm:j<=l.length+o.length
 mono:∀i i',i<=i'->i'<=j->s i<=s i'
 elsL:∀i (h:i<l.length) (h':i<cl.length),i<j->SepI wr (s i) (s (i+1)) l[i] cl[i]
 elsO:∀i (h:i<o.length) (h':i<co.length),l.length+i<j->SepI wr (s (l.length+i)) (s (l.length+i+1)) o[i].2 co[i].2
 oldL:∀i (h:i<l.length) (h':i<cl.length),j<=i->IsVal w w.heap.size l[i] cl[i]
 oldO:∀i (h:i<o.length) (h':i<co.length),j<=l.length+i->IsVal w w.heap.size o[i].2 co[i].2
def more (s:Nat->Nat) (j z:Nat):Nat->Nat:=fun i=>if i<=j then s i else z
theorem Zt {s:Nat->Nat} {j z i:Nat} (h:i<=j):more s j z i=s i:=if_pos h
theorem X0 {s:Nat->Nat} {j z i:Nat} (h:j<i):more s j z i=z:=if_neg (by omega)
theorem zcm {s:Nat->Nat} {j z:Nat} (h:∀i i',i<=i'->i'<=j->s i<=s i') (hz:s j<=z):∀i i',i<=i'->i'<=j+1->more s j z i<=more s j z i':=by
 intro i i' h1 h2
 by_cases h3:i'<=j
 .rw [Zt h3,Zt (by omega)];exact h i i' h1 h3
 .rw [X0 (i:=i') (by omega)]
  by_cases h4:i<=j
  .rw [Zt h4];exact Nat.le_trans (h i j h4 (Nat.le_refl _)) hz
  .rw [X0 (by omega)];exact Nat.le_refl _
theorem Sep.stay {w w4 W:World} {S:Nat->Prop} {v:V} {c:VC} {g:Nat} (h:Sep w S v c) (hb:Below w.heap.size w w4) (st:RStep w4 W g) (hg:¬S g):Sep W S v c:=
 h.keep (Nat.le_trans hb.size st.size) fun k q hk=>by
   have hk2:=h.bnd k hk
   exact World.cell?_of_block ((st.block k (Nat.lt_of_lt_of_le hk2 hb.size) (fun e=>hg (e ▸ hk))).trans (hb.block k hk2))
theorem Yw {w w':World} {k q:Nat} (h:w'.heap[k]? =w.heap[k]?):w'.frozen? ⟨k,q,none⟩=w.frozen? ⟨k,q,none⟩:=by
 simp only [World.frozen?,h]
theorem SepI.stay {w w4 W:World} {lo hi:Nat} {v:V} {c:VC} {g:Nat} (h:SepI w lo hi v c) (hb:Below w.heap.size w w4) (st:RStep w4 W g) (hg:¬(lo<=g/\g<hi)):SepI W lo hi v c:=by
 obtain ⟨S,h1,h2,h3⟩:=h
 have hgS:¬S g:=fun e=>hg (h1 g e)
 refine ⟨S,h1,fun k q hk=> ?_,h3.stay hb st hgS⟩
 have hk2:=h3.bnd k hk
 rw [Yw ((st.block k (Nat.lt_of_lt_of_le hk2 hb.size) (fun e=>hgS (e ▸ hk))).trans (hb.block k hk2))]
 exact h2 k q hk
theorem SepI.at_ {w:World} {lo hi lo' hi':Nat} {v:V} {c:VC} (h:SepI w lo hi v c) (e1:lo=lo') (e2:hi=hi'):SepI w lo' hi' v c:=by subst e1 e2;exact h
theorem Half.stepL {w wr w4:World} {base:Nat} {l:List V} {o:List (ByteArray×V)} {u uo:Value} {cl:List VC} {co:List (ByteArray×VC)} {j:Nat} {s:Nat->Nat} (h:Half w wr base l o u uo cl co j s) (hj:j<l.length) {g nn cap:Nat} (hu:u= .slice (some ⟨g,0,none⟩) nn cap) {cx:VC}
 (hb:Below wr.heap.size wr w4) (hs:SepI w4 wr.heap.size w4.heap.size l[j] cx):Half w (setV w4 g (j*5) cx) base l o u uo (cl.set j cx) co (j+1) (more s j w4.heap.size):=by
 have st:=Zk w4 g (j*5) cx
 have hsz:(setV w4 g (j*5) cx).heap.size=w4.heap.size:=by simp [setV]
 have hgl:g<s 0:=h.loL g (by rw [hu];rfl)
 have hs0:s 0<=s j:=h.mono 0 j (Nat.zero_le _) (Nat.le_refl _)
 have hsj:=h.sj
 have hw4:=hb.size
 have hnn:nn=l.length:=by
  have h1:=h.rowL
  rw [hu] at h1
  rcases h1.2 with ⟨e,_⟩|⟨_,_,_,e,_⟩
  .cases e
  .injection e
 refine ⟨by rw [List.length_set];exact h.lenL,h.lenO,h.keys, ?_, ?_,h.apart,fun g' hg'=>by rw [Zt (Nat.zero_le _)];exact h.loL g' hg',fun g' hg'=>by rw [Zt (Nat.zero_le _)];exact h.loO g' hg',by rw [Zt (Nat.zero_le _)];exact h.s0,by rw [X0 (Nat.lt_succ_self j),hsz],by have:=h.jm;omega,zcm h.mono (by omega),fun i hi hi' hij=> ?_,fun i hi hi' hij=> ?_,fun i hi hi' hij=> ?_,fun i hi hi' hij=>h.oldO i hi hi' (by omega)⟩
 .have h1:w4.ownsRow base 31 5 u l.length (cl.flatMap vcells):=h.rowL.kept (row:=none) ⟨hb.os,hb.tape,hb.output,hb.size,fun k hk _=>hb.block k hk⟩ (by cases hv:u.ownBlock<;>simp)
  subst hnn
  rw [hu] at h1 ⊢
  exact zbb h1 (by rw [h.lenL];exact hj) cx
 .have h1:w4.ownsRow base 68 6 uo o.length (co.flatMap fcells):=h.rowO.kept (row:=none) ⟨hb.os,hb.tape,hb.output,hb.size,fun k hk _=>hb.block k hk⟩ (by cases hv:uo.ownBlock<;>simp)
  exact h1.kept st.grown (.inr (h.apart g (by rw [hu];rfl)))
 .by_cases hi2:i<j
  .rw [List.getElem_set_ne (by omega)]
   exact ((h.elsL i hi (by rw [h.lenL];exact hi) hi2).stay hb st (fun e=>by have h1:=e.1;have h2:=h.mono 0 i (Nat.zero_le _) (by omega);omega)).at_ (Zt (by omega)).symm (Zt (by omega)).symm
  .obtain rfl:i=j:=by omega
   rw [List.getElem_set_self]
   exact (hs.stay (Below.refl _ _) st (fun e=>by have h1:=e.1;omega)).at_ (by rw [Zt (Nat.le_refl _),hsj]) (X0 (Nat.lt_succ_self _)).symm
 .refine SepI.at_ ?_ (Zt (by omega)).symm (Zt (by omega)).symm
  exact (h.elsO i hi hi' (by omega)).stay hb st (fun e=>by have h1:=e.1;have h2:=h.mono 0 (l.length+i) (Nat.zero_le _) (by omega);omega)
 .rw [List.getElem_set_ne (by omega)]
  exact h.oldL i hi (by rw [h.lenL];exact hi) (by omega)
theorem Half.stepO {w wr w4:World} {base:Nat} {l:List V} {o:List (ByteArray×V)} {u uo:Value} {cl:List VC} {co:List (ByteArray×VC)} {j:Nat} {s:Nat->Nat} (h:Half w wr base l o u uo cl co (l.length+j) s) (hj:j<o.length) {g nn cap:Nat} (hu:uo= .slice (some ⟨g,0,none⟩) nn cap) {cx:VC} (hjc:j<co.length)
 (hb:Below wr.heap.size wr w4) (hs:SepI w4 wr.heap.size w4.heap.size o[j].2 cx):Half w (setV w4 g (j*6+1) cx) base l o u uo cl (co.set j (co[j].1,cx)) (l.length+(j+1)) (more s (l.length+j) w4.heap.size):=by
 have st:=Zk w4 g (j*6+1) cx
 have hsz:(setV w4 g (j*6+1) cx).heap.size=w4.heap.size:=by simp [setV]
 have hgl:g<s 0:=h.loO g (by rw [hu];rfl)
 have hs0:s 0<=s (l.length+j):=h.mono 0 _ (Nat.zero_le _) (Nat.le_refl _)
 have hsj:=h.sj
 have hw4:=hb.size
 have hnn:nn=o.length:=by
  have h1:=h.rowO
  rw [hu] at h1
  rcases h1.2 with ⟨e,_⟩|⟨_,_,_,e,_⟩
  .cases e
  .injection e
 refine ⟨h.lenL,by rw [List.length_set];exact h.lenO,fun i hi hi'=> ?_, ?_, ?_,h.apart,fun g' hg'=>by rw [Zt (Nat.zero_le _)];exact h.loL g' hg',fun g' hg'=>by rw [Zt (Nat.zero_le _)];exact h.loO g' hg',by rw [Zt (Nat.zero_le _)];exact h.s0,by rw [X0 (show l.length+j<l.length+(j+1) by omega),hsz],by have:=h.jm;omega,zcm h.mono (show s (l.length+j)<=w4.heap.size by omega),fun i hi hi' hij=> ?_,fun i hi hi' hij=> ?_,fun i hi hi' hij=>h.oldL i hi hi' (by omega),fun i hi hi' hij=> ?_⟩
 .by_cases e:i=j
  .subst e
   rw [List.getElem_set_self];exact h.keys i hi hjc
  .rw [List.getElem_set_ne (fun e'=>e e'.symm)];exact h.keys i hi (by rw [h.lenO];exact hi)
 .have h1:w4.ownsRow base 31 5 u l.length (cl.flatMap vcells):=h.rowL.kept (row:=none) ⟨hb.os,hb.tape,hb.output,hb.size,fun k hk _=>hb.block k hk⟩ (by cases hv:u.ownBlock<;>simp)
  exact h1.kept st.grown (.inr (fun e=>h.apart g e (by rw [hu];rfl)))
 .have h1:w4.ownsRow base 68 6 uo o.length (co.flatMap fcells):=h.rowO.kept (row:=none) ⟨hb.os,hb.tape,hb.output,hb.size,fun k hk _=>hb.block k hk⟩ (by cases hv:uo.ownBlock<;>simp)
  subst hnn
  rw [hu] at h1 ⊢
  exact zfi h1 hjc cx
 .refine SepI.at_ ?_ (Zt (by omega)).symm (Zt (by omega)).symm
  exact (h.elsL i hi hi' (by omega)).stay hb st (fun e=>by have h1:=e.1;have h2:=h.mono 0 i (Nat.zero_le _) (by omega);omega)
 .by_cases hi2:i<j
  .rw [List.getElem_set_ne (by omega)]
   exact ((h.elsO i hi (by rw [h.lenO];exact hi) (by omega)).stay hb st (fun e=>by have h1:=e.1;have h2:=h.mono 0 (l.length+i) (Nat.zero_le _) (by omega);omega)).at_ (Zt (by omega)).symm (Zt (by omega)).symm
  .obtain rfl:i=j:=by omega
   rw [List.getElem_set_self]
   exact (hs.stay (Below.refl _ _) st (fun e=>by have h1:=e.1;omega)).at_ (by rw [Zt (Nat.le_refl _),hsj]) (X0 (show l.length+i<l.length+i+1 by omega)).symm
 .rw [List.getElem_set_ne (by omega)]
  exact h.oldO i hi (by rw [h.lenO];exact hi) (by omega)
theorem Half.next {w wr W:World} {B j:Nat} {l:List V} {o:List (ByteArray×V)} {u uo:Value} {cl:List VC} {co:List (ByteArray×VC)} {s:Nat->Nat} (h:Half w wr (B+2) l o u uo cl co j s) (st:RStep wr W (B+1)) (hz:W.heap.size=wr.heap.size):Half w W B l o u uo cl co j s:=by
 have hs0:=h.s0
 have ne:∀i,i<=j->¬(s i<=B+1/\B+1<s (i+1)):=fun i hi e=>by have h1:=e.1;have h2:=h.mono 0 i (Nat.zero_le _) hi;omega
 refine ⟨h.lenL,h.lenO,h.keys,(h.rowL.kept st.grown (.inr fun e=> ?_)).mono (Nat.le_add_right _ _),(h.rowO.kept st.grown (.inr fun e=> ?_)).mono (Nat.le_add_right _ _),h.apart,h.loL,h.loO,by omega,by rw [hz];exact h.sj,h.jm,h.mono,fun i hi hi' hij=>(h.elsL i hi hi' hij).stay (Below.refl _ _) st (ne _ (by omega)),fun i hi hi' hij=>(h.elsO i hi hi' hij).stay (Below.refl _ _) st (ne _ (by omega)),h.oldL,h.oldO⟩
 .have:=(h.rowL.lt _ e).1;omega
 .have:=(h.rowO.lt _ e).1;omega
theorem Half.beside {w wr W:World} {base j g:Nat} {l:List V} {o:List (ByteArray×V)} {u uo:Value} {cl:List VC} {co:List (ByteArray×VC)} {s:Nat->Nat} (h:Half w wr base l o u uo cl co j s) (st:RStep wr W g) (hg:g<base) (hz:W.heap.size=wr.heap.size):Half w W base l o u uo cl co j s:=by
 have hs0:=h.s0
 have ne:∀i,i<=j->¬(s i<=g/\g<s (i+1)):=fun i hi e=>by have h1:=e.1;have h2:=h.mono 0 i (Nat.zero_le _) hi;omega
 refine ⟨h.lenL,h.lenO,h.keys,h.rowL.kept st.grown (.inr fun e=> ?_),h.rowO.kept st.grown (.inr fun e=> ?_),h.apart,h.loL,h.loO,h.s0,by rw [hz];exact h.sj,h.jm,h.mono,fun i hi hi' hij=>(h.elsL i hi hi' hij).stay (Below.refl _ _) st (ne _ (by omega)),fun i hi hi' hij=>(h.elsO i hi hi' hij).stay (Below.refl _ _) st (ne _ (by omega)),h.oldL,h.oldO⟩
 .have:=(h.rowL.lt _ e).1;omega
 .have:=(h.rowO.lt _ e).1;omega
theorem Half.low {w wr:World} {base base' j:Nat} {l:List V} {o:List (ByteArray×V)} {u uo:Value} {cl:List VC} {co:List (ByteArray×VC)} {s:Nat->Nat} (h:Half w wr base l o u uo cl co j s) (hb:base'<=base):Half w wr base' l o u uo cl co j s:=
 ⟨h.lenL,h.lenO,h.keys,h.rowL.mono hb,h.rowO.mono hb,h.apart,h.loL,h.loO,Nat.le_trans hb h.s0,h.sj,h.jm,h.mono,h.elsL,h.elsO,h.oldL,h.oldO⟩
def Whole (w:World) (base:Nat) (x:V) (d:VC):Prop:=
 x= .mk d.k d.n d.s x.ls x.os/\d.Bnd/\∃(cl:List VC) (co:List (ByteArray×VC)) (S:Nat->Nat) (W0:World),Half W0 w base x.ls x.os (.slice d.la d.ll d.lc) (.slice d.oa d.ol d.oc) cl co (x.ls.length+x.os.length) S
theorem Whole.beside {w W:World} {base g:Nat} {x:V} {d:VC} (h:Whole w base x d) (st:RStep w W g) (hg:g<base) (hz:W.heap.size=w.heap.size):Whole W base x d:=by
 obtain ⟨h1,h2,cl,co,S,W0,h3⟩:=h
 exact ⟨h1,h2,cl,co,S,W0,h3.beside st hg hz⟩
theorem Whole.low {w:World} {base base':Nat} {x:V} {d:VC} (h:Whole w base x d) (hb:base'<=base):Whole w base' x d:=by
 obtain ⟨h1,h2,cl,co,S,W0,h3⟩:=h
 exact ⟨h1,h2,cl,co,S,W0,h3.low hb⟩
theorem Half.done {w wr:World} {base:Nat} {l:List V} {o:List (ByteArray×V)} {cl:List VC} {co:List (ByteArray×VC)} {s:Nat->Nat} {c:VC} (h:Half w wr base l o (.slice c.la c.ll c.lc) (.slice c.oa c.ol c.oc) cl co (l.length+o.length) s) (hb:c.Bnd):
 SepI wr base wr.heap.size (.mk c.k c.n c.s l o) c:=by
 have rL:c.ll=l.length/\(0<c.ll->∃g,c.la=some ⟨g,0,none⟩):=by
  rcases h.rowL.2 with ⟨e,e2⟩|⟨g,cap,cur,e,_⟩
  .injection e with e3 e4 e5;exact ⟨by omega,fun h0=>by omega⟩
  .injection e with e3 e4 e5;exact ⟨e4,fun _=>⟨g,e3⟩⟩
 have rO:c.ol=o.length/\(0<c.ol->∃g,c.oa=some ⟨g,0,none⟩):=by
  rcases h.rowO.2 with ⟨e,e2⟩|⟨g,cap,cur,e,_⟩
  .injection e with e3 e4 e5;exact ⟨by omega,fun h0=>by omega⟩
  .injection e with e3 e4 e5;exact ⟨e4,fun _=>⟨g,e3⟩⟩
 obtain ⟨gl,hgl⟩:∃gl,0<c.ll->c.la=some ⟨gl,0,none⟩:=by
  by_cases h0:0<c.ll
  .obtain ⟨g,hg⟩:=rL.2 h0;exact ⟨g,fun _=>hg⟩
  .exact ⟨0,fun h1=>absurd h1 h0⟩
 obtain ⟨go,hgo⟩:∃go,0<c.ol->c.oa=some ⟨go,0,none⟩:=by
  by_cases h0:0<c.ol
  .obtain ⟨g,hg⟩:=rO.2 h0;exact ⟨g,fun _=>hg⟩
  .exact ⟨0,fun h1=>absurd h1 h0⟩
 have oL:0<c.ll->(Value.slice c.la c.ll c.lc).ownBlock=some gl:=fun h0=>by rw [hgl h0];rfl
 have oO:0<c.ol->(Value.slice c.oa c.ol c.oc).ownBlock=some go:=fun h0=>by rw [hgo h0];rfl
 have hz:∀i,i<=l.length+o.length->s i<=wr.heap.size:=fun i hi=>by rw [<-h.sj];exact h.mono i _ hi (Nat.le_refl _)
 have hm:∀i,i<=l.length+o.length->s 0<=s i:=fun i hi=>h.mono 0 i (Nat.zero_le _) hi
 have cL:∀i,i<l.length->ValAt wr gl (i*5) (cl.getD i c):=fun i hi=>by
  have h1:=h.rowL
  rw [hgl (by omega),rL.1] at h1
  have hl:=h.lenL
  have e:cl.getD i c=cl[i]'(by omega):=by simp [List.getD_eq_getElem?_getD,show i<cl.length by omega]
  rw [e]
  have hbc:∀j v,(cl.flatMap vcells)[j]? =some v->wr.cell? ⟨gl,j,none⟩=some v:=fun j v hj=>by
   have hlen:(cl.flatMap vcells).length=l.length*5:=h1.1
   rw [h1.cellAt j (by have:=(List.getElem?_eq_some_iff.1 hj).1;omega)];exact hj
  exact Yp ⟨hbc,fun j=>h1.frozenAt j,(h1.lt gl rfl).2⟩ (by omega)
 have cO:∀i (hi:i<o.length),wr.cell? ⟨go,i*6,none⟩=some (.string o[i].1)/\o[i].1.size<=140737488355328/\ValAt wr go (i*6+1) (co.getD i (.empty,c)).2:=fun i hi=>by
  have h1:=h.rowO
  rw [hgo (by omega),rO.1] at h1
  have hl:=h.lenO
  have e:co.getD i (.empty,c)=co[i]'(by omega):=by simp [List.getD_eq_getElem?_getD,show i<co.length by omega]
  rw [e]
  have hbc:∀j v,(co.flatMap fcells)[j]? =some v->wr.cell? ⟨go,j,none⟩=some v:=fun j v hj=>by
   have hlen:(co.flatMap fcells).length=o.length*6:=h1.1
   rw [h1.cellAt j (by have:=(List.getElem?_eq_some_iff.1 hj).1;omega)];exact hj
  obtain ⟨g1,g2⟩:=Z6 (W:=wr) (g:=go) ⟨hbc,fun j=>h1.frozenAt j,(h1.lt go rfl).2⟩ (i:=i) (by omega)
  obtain ⟨k1,k2⟩:=h.keys i hi (by omega)
  exact ⟨by rw [<-k1];exact g1,k2,g2⟩
 have hlL:=h.lenL;have hlO:=h.lenO
 obtain ⟨TL,hTL⟩:=Classical.axiomOfChoice (fun i=>show ∃S:Nat->Prop,∀(hi:i<l.length) (hi':i<cl.length),(∀k,S k->s i<=k/\k<s (i+1))/\Soft wr S/\Sep wr S l[i] cl[i] by
  by_cases hi:i<l.length
  .obtain ⟨S,h1⟩:=h.elsL i hi (by omega) (by omega)
   exact ⟨S,fun _ _=>h1⟩
  .exact ⟨fun _=>False,fun h1 _=>absurd h1 hi⟩)
 obtain ⟨TO,hTO⟩:=Classical.axiomOfChoice (fun i=>show ∃S:Nat->Prop,∀(hi:i<o.length) (hi':i<co.length),(∀k,S k->s (l.length+i)<=k/\k<s (l.length+i+1))/\Soft wr S/\Sep wr S o[i].2 co[i].2 by
  by_cases hi:i<o.length
  .obtain ⟨S,h1⟩:=h.elsO i hi (by omega) (by omega)
   exact ⟨S,fun _ _=>h1⟩
  .exact ⟨fun _=>False,fun h1 _=>absurd h1 hi⟩)
 have bL:∀i,i<l.length->∀k,TL i k->s i<=k/\k<s (i+1):=fun i hi k hk=>(hTL i hi (by omega)).1 k hk
 have bO:∀i,i<o.length->∀k,TO i k->s (l.length+i)<=k/\k<s (l.length+i+1):=fun i hi k hk=>(hTO i hi (by omega)).1 k hk
 refine ⟨fun k=>(0<c.ll/\k=gl)∨(0<c.ol/\k=go)∨(∃i,i<l.length/\TL i k)∨(∃i,i<o.length/\TO i k),fun k hk=> ?_,fun k q hk=> ?_, ?_⟩
 .rcases hk with ⟨h0,rfl⟩|⟨h0,rfl⟩|⟨i,hi,hk⟩|⟨i,hi,hk⟩
  .exact h.rowL.lt _ (oL h0)
  .exact h.rowO.lt _ (oO h0)
  .have h1:=bL i hi k hk;have h3:=hm i (by omega);have h4:=hz (i+1) (by omega);have h5:=h.s0
   omega
  .have h1:=bO i hi k hk;have h3:=hm (l.length+i) (by omega);have h4:=hz (l.length+i+1) (by omega);have h5:=h.s0
   omega
 .rcases hk with ⟨h0,rfl⟩|⟨h0,rfl⟩|⟨i,hi,hk⟩|⟨i,hi,hk⟩
  .have h1:=h.rowL
   rw [hgl h0,rL.1] at h1
   exact h1.frozenAt q
  .have h1:=h.rowO
   rw [hgo h0,rO.1] at h1
   exact h1.frozenAt q
  .exact (hTL i hi (by omega)).2.1 k q hk
  .exact (hTO i hi (by omega)).2.1 k q hk
 refine .mk _ c l o (fun i=>cl.getD i c) (fun i=>(co.getD i (.empty,c)).2) gl go TL TO hb rL.1 rO.1 (fun k hk=> ?_) (fun h0=>⟨hgl h0, .inl ⟨h0,rfl⟩⟩) (fun h0=>⟨hgo h0, .inr (.inl ⟨h0,rfl⟩)⟩) (fun h0 h1 e=> ?_) cL cO (fun i hi=> ?_) (fun i hi=> ?_) (fun i hi k hk=> ?_) (fun i hi k hk=> ?_) (fun i i' hi hi' hne k hk hk'=> ?_) (fun i i' hi hi' hne k hk hk'=> ?_) (fun i i' hi hi' k hk hk'=> ?_)
 .rcases hk with ⟨h0,rfl⟩|⟨h0,rfl⟩|⟨i,hi,hk⟩|⟨i,hi,hk⟩
  .exact (h.rowL.lt _ (oL h0)).2
  .exact (h.rowO.lt _ (oO h0)).2
  .have h1:=bL i hi k hk;have h4:=hz (i+1) (by omega);omega
  .have h1:=bO i hi k hk;have h4:=hz (l.length+i+1) (by omega);omega
 .exact h.apart gl (oL h0) (by rw [oO h1,e])
 .have e:cl.getD i c=cl[i]'(by omega):=by simp [List.getD_eq_getElem?_getD,show i<cl.length by omega]
  rw [e];exact (hTL i hi (by omega)).2.2
 .have e:co.getD i (.empty,c)=co[i]'(by omega):=by simp [List.getD_eq_getElem?_getD,show i<co.length by omega]
  rw [e];exact (hTO i hi (by omega)).2.2
 .have h1:=bL i hi k hk;have h3:=hm i (by omega)
  exact ⟨.inr (.inr (.inl ⟨i,hi,hk⟩)),fun e=>by have:=h.loL gl (oL (by omega));omega,fun h0 e=>by have:=h.loO go (oO h0);omega⟩
 .have h1:=bO i hi k hk;have h3:=hm (l.length+i) (by omega)
  exact ⟨.inr (.inr (.inr ⟨i,hi,hk⟩)),fun e=>by have:=h.loO go (oO (by omega));omega,fun h0 e=>by have:=h.loL gl (oL h0);omega⟩
 .have h1:=bL i hi k hk;have h3:=bL i' hi' k hk'
  rcases Nat.lt_or_ge i i' with h5|h5
  .have:=h.mono (i+1) i' (by omega) (by omega);omega
  .have:=h.mono (i'+1) i (by omega) (by omega);omega
 .have h1:=bO i hi k hk;have h3:=bO i' hi' k hk'
  rcases Nat.lt_or_ge i i' with h5|h5
  .have:=h.mono (l.length+i+1) (l.length+i') (by omega) (by omega);omega
  .have:=h.mono (l.length+i'+1) (l.length+i) (by omega) (by omega);omega
 .have h1:=bL i hi k hk;have h3:=bO i' hi' k hk'
  have:=h.mono (i+1) (l.length+i') (by omega) (by omega);omega
theorem Whole.sepI {w:World} {base:Nat} {x:V} {d:VC} (h:Whole w base x d):SepI w base w.heap.size x d:=by
 obtain ⟨h1,h2,cl,co,S,W0,h3⟩:=h
 rw [h1];exact h3.done h2
theorem SepI.isVal {w:World} {lo hi:Nat} {x:V} {d:VC} (h:SepI w lo hi x d):IsVal (only (fun b=>lo<=b) w) w.heap.size x d:=by
 obtain ⟨S,h1,_,h3⟩:=h
 exact h3.isVal fun k hk=>(h1 k hk).1
theorem Xa {P:Program} (w:World) (dT sT ty elem:TypeId) (sz:Nat) (g o dLen dCap:Nat) (a:Addr) (sLen sCap:Nat) (cur:Array Value) (t:TypeId) (cs:List Value)
 (hu:P.underlying dT=some (.slice elem)) (hs:(P.info? elem).map (·.size)=some sz)
 (hg:w.heap[g]? =some (.cells cur t (0,0))) (m:Nat) (hm:Nat.min sLen dLen=m) (hn:cs.length=m*sz)
 (hsrc:∀j v,cs[j]? =some v->w.cell? (a.add j)=some v) (hfit:o+cs.length<=cur.size) (h1:∀v ∈ cs,v.oneCell'=true):
 (Builtin.copy_ #[dT,sT] ty #[.slice (some ⟨g,o,none⟩) dLen dCap, .slice (some a) sLen sCap]).run P w=
  .ok (goInt m) (w.setRow g (cur.toList.take o++cs++cur.toList.drop (o+cs.length)).toArray):=by
 have hl:=run_loadCells_list (P:=P) w a cs hsrc
 have hst:=run_storeCells_at P g o t cs 0 cur w hg (by simpa using hfit) h1
 cases hq:P.info? elem with
 |none=>simp [hq] at hs
 | some i=>
   have hi:i.size=sz:=by simpa [hq] using hs
   simp [Builtin.copy_,run_underlying hu,Builtin.lenOf,Builtin.firstCells,sizeOf,typeInfo,hq,hi,hm, <-hn,hl,hst]
theorem zaj {α:Type} (L x:List α) (p r:Nat) (hp:p<=r) (hr:r+x.length<=L.length):
 (((L.take (p+x.length)++(L.take r).drop p++L.drop (r+x.length)).take p++x++(L.take (p+x.length)++(L.take r).drop p++L.drop (r+x.length)).drop (p+x.length)).take (r+x.length))=(L.take r).take p++x++(L.take r).drop p:=by
 have h1:(L.take (p+x.length)++(L.take r).drop p++L.drop (r+x.length)).take p=L.take p:=by
  rw [List.append_assoc,List.take_append_of_le_length (by rw [List.length_take];omega),List.take_take]
  congr 1;omega
 have h2:(L.take (p+x.length)++(L.take r).drop p++L.drop (r+x.length)).drop (p+x.length)=(L.take r).drop p++L.drop (r+x.length):=by
  rw [List.append_assoc,List.drop_append_of_le_length (by rw [List.length_take];omega),List.drop_eq_nil_of_le (by rw [List.length_take];omega),List.nil_append]
 rw [h1,h2, <-List.append_assoc,List.take_left' (by simp;omega),List.take_take,Nat.min_eq_left hp]
theorem zc9 {α:Type} (R x xs:List α) (p:Nat) (hp:p<=xs.length) (hR:R.take p=xs.take p) (hl:xs.length+x.length<=R.length):
 (((R.take p++x++R.drop (p+x.length)).take (p+x.length)++xs.drop p++(R.take p++x++R.drop (p+x.length)).drop (p+x.length+(xs.drop p).length)).take (xs.length+x.length))=xs.take p++x++xs.drop p:=by
 have h1:(R.take p++x++R.drop (p+x.length)).take (p+x.length)=xs.take p++x:=by
  rw [List.take_left' (by simp;omega),hR]
 rw [h1,List.take_left' (by simp;omega)]
def RowPost (w:World) (base:Nat) (T:TypeId) (sz:Nat) (v:Value) (n:Nat) (ys:List Value) (e:Ending) (w':World):Prop:=
 ∃v',e= .returned v'/\w'.ownsRow base T sz v' n ys/\w.grownBy w' v.ownBlock/\(v'.ownBlock=v.ownBlock∨v'.ownBlock=some w.heap.size)
end Go.Proofs.YtfoahkbnheijcaaDoor
namespace Go.Proofs
open Go.Shelf
def Tryd.lays196_ren:Go.Shelf.Ren:=⟨fun|196=>40|259=>79|n=>n,fun|9=>9|4=>4|3=>3|5=>5|12=>12|119=>112|0=>0|46=>116|139=>115|138=>114|53=>142|n=>n,fun|3=>0|4=>1|n=>n⟩
theorem Tryd.lays196:Go.Proofs.Lays.n196 Tryd.prog Tryd.lays196_ren:= {
 mixed:=by kernel_rfl
 f196:=Tryd.func40.trans (congrArg some (by kernel_rfl))
 f259:=Tryd.func79.trans (congrArg some (by kernel_rfl))
 t0:=Tryd.underlying0
 a0:=Tryd.isAgg0
 z0:=Tryd.sizeOf0
 v0:=Tryd.zeroValue0
 t3:=Tryd.underlying3
 a3:=Tryd.isAgg3
 z3:=Tryd.sizeOf3
 v3:=Tryd.zeroValue3
 t4:=Tryd.underlying4
 a4:=Tryd.isAgg4
 z4:=Tryd.sizeOf4
 v4:=Tryd.zeroValue4
 t5:=Tryd.underlying5
 a5:=Tryd.isAgg5
 z5:=Tryd.sizeOf5
 v5:=Tryd.zeroValue5
 t9:=Tryd.underlying9
 a9:=Tryd.isAgg9
 z9:=Tryd.sizeOf9
 v9:=Tryd.zeroValue9
 t12:=Tryd.underlying12
 a12:=Tryd.isAgg12
 z12:=Tryd.sizeOf12
 v12:=Tryd.zeroValue12
 t46:=Tryd.underlying116
 a46:=Tryd.isAgg116
 z46:=Tryd.sizeOf116
 v46:=Tryd.zeroValue116
 t53:=Tryd.underlying142
 a53:=Tryd.isAgg142
 z53:=Tryd.sizeOf142
 v53:=Tryd.zeroValue142
 t119:=Tryd.underlying112
 a119:=Tryd.isAgg112
 z119:=Tryd.sizeOf112
 t138:=Tryd.underlying114
 a138:=Tryd.isAgg114
 z138:=Tryd.sizeOf114
 v138:=Tryd.zeroValue114
 t139:=Tryd.underlying115
 a139:=Tryd.isAgg115
 z139:=Tryd.sizeOf115
 v139:=Tryd.zeroValue115
 g3:=by kernel_rfl
 g4:=by kernel_rfl }
open Go.RowKit Go.Lib in
theorem Tryd.utf8_ValidString (s:ByteArray) (w:World) (hs:s.size<=9223372036854775807) (hT:Lib.Utf8Tabs 0 1 w):
 Calls Tryd.prog 40 #[.string s] w fun e w'=>e= .returned (.bool (Lib.validD s.data.toList))/\Below w.heap.size w w':=Any.utf8_ValidString Tryd.lays196 s w hs hT
def Tryd.lays197_ren:Go.Shelf.Ren:=⟨fun|197=>108|260=>114|n=>n,fun|9=>9|21=>21|3=>3|4=>4|5=>5|105=>144|119=>112|0=>0|46=>116|139=>115|138=>114|n=>n,fun|3=>0|4=>1|n=>n⟩
theorem Tryd.lays197:Go.Proofs.Lays.n197 Tryd.prog Tryd.lays197_ren:= {
 mixed:=by kernel_rfl
 f197:=Tryd.func108.trans (congrArg some (by kernel_rfl))
 f260:=Tryd.func114.trans (congrArg some (by kernel_rfl))
 t0:=Tryd.underlying0
 a0:=Tryd.isAgg0
 z0:=Tryd.sizeOf0
 v0:=Tryd.zeroValue0
 t3:=Tryd.underlying3
 a3:=Tryd.isAgg3
 z3:=Tryd.sizeOf3
 v3:=Tryd.zeroValue3
 t4:=Tryd.underlying4
 a4:=Tryd.isAgg4
 z4:=Tryd.sizeOf4
 v4:=Tryd.zeroValue4
 t5:=Tryd.underlying5
 a5:=Tryd.isAgg5
 z5:=Tryd.sizeOf5
 v5:=Tryd.zeroValue5
 t9:=Tryd.underlying9
 a9:=Tryd.isAgg9
 z9:=Tryd.sizeOf9
 v9:=Tryd.zeroValue9
 t21:=Tryd.underlying21
 a21:=Tryd.isAgg21
 z21:=Tryd.sizeOf21
 v21:=Tryd.zeroValue21
 t46:=Tryd.underlying116
 a46:=Tryd.isAgg116
 z46:=Tryd.sizeOf116
 v46:=Tryd.zeroValue116
 t105:=Tryd.underlying144
 a105:=Tryd.isAgg144
 z105:=Tryd.sizeOf144
 v105:=Tryd.zeroValue144
 t119:=Tryd.underlying112
 a119:=Tryd.isAgg112
 z119:=Tryd.sizeOf112
 t138:=Tryd.underlying114
 a138:=Tryd.isAgg114
 z138:=Tryd.sizeOf114
 v138:=Tryd.zeroValue114
 t139:=Tryd.underlying115
 a139:=Tryd.isAgg115
 z139:=Tryd.sizeOf115
 v139:=Tryd.zeroValue115
 g3:=by kernel_rfl
 g4:=by kernel_rfl }
open Go.RowKit Go.Lib in
theorem Tryd.utf8_DecodeRuneInString (s:ByteArray) (w:World) (hT:Lib.Utf8Tabs 0 1 w):
 Calls Tryd.prog 108 #[.string s] w fun e w'=>e= .returned (.tuple #[.int .i32 (Lib.decodeGo s).1, .int .i64 (Lib.decodeGo s).2])/\Below w.heap.size w w':=Any.utf8_DecodeRuneInString Tryd.lays197 s w hT
def Tryd.lays195_ren:Go.Shelf.Ren:=⟨fun|195=>113|n=>n,fun|9=>9|3=>3|0=>0|4=>4|n=>n,fun|n=>n⟩
theorem Tryd.lays195:Go.Proofs.Lays.n195 Tryd.prog Tryd.lays195_ren:= {
 mixed:=by kernel_rfl
 f195:=Tryd.func113.trans (congrArg some (by kernel_rfl))
 t0:=Tryd.underlying0
 a0:=Tryd.isAgg0
 z0:=Tryd.sizeOf0
 v0:=Tryd.zeroValue0
 t3:=Tryd.underlying3
 a3:=Tryd.isAgg3
 z3:=Tryd.sizeOf3
 v3:=Tryd.zeroValue3
 t4:=Tryd.underlying4
 a4:=Tryd.isAgg4
 z4:=Tryd.sizeOf4
 v4:=Tryd.zeroValue4
 t9:=Tryd.underlying9
 a9:=Tryd.isAgg9
 z9:=Tryd.sizeOf9
 v9:=Tryd.zeroValue9 }
open Go.RowKit Go.Lib in
theorem Tryd.utf8_RuneCountInString (s:ByteArray) (w:World) (hs:s.size<9223372036854775807):
 Calls Tryd.prog 113 #[.string s] w fun e w'=>e= .returned (.int .i64 (Lib.runeCount s))/\∃pos,w'=w.iter s pos:=Any.utf8_RuneCountInString Tryd.lays195 s w hs
end Go.Proofs
namespace Go.Proofs.YtfoahkbnheijcaaDoor
open Go.RowKit
set_option maxHeartbeats 2000000
structure Boxed1 (w wr:World) (c:VC):Prop where
 a:ValAt wr w.heap.size 0 c
 below:Below w.heap.size w wr
 size:w.heap.size+1<=wr.heap.size
theorem Jt (w:World) (c:VC) (t:TypeId):Boxed1 w (w.alloc (.cells #[.int .u8 c.k, .int .i64 c.n, .string c.s, .slice c.la c.ll c.lc, .slice c.oa c.ol c.oc] t)) c:=
 ⟨Yq w c t,(Below.refl _ _).alloc (Nat.le_refl _) _,by simp⟩
theorem Boxed1.step {w wr w':World} {c:VC} (h:Boxed1 w wr c) (hb:Below wr.heap.size wr w'):Boxed1 w w' c:=
 ⟨h.a.keep hb (by have:=h.size;omega),h.below.trans (hb.mono (by have:=h.size;omega)),by have:=h.size;have:=hb.size;omega⟩
set_option maxRecDepth 100000 in
theorem ze6 (a:V):∀(w:World) (c:VC),IsVal w w.heap.size a c->a.weight<=4611686018427387904->
 Calls Tryd.prog 54 #[.agg #[.int .u8 c.k, .int .i64 c.n, .string c.s, .slice c.la c.ll c.lc, .slice c.oa c.ol c.oc]] w fun e w'=>e= .returned (.int .i64 a.weight)/\Below w.heap.size w w':=by
 induction a using V.ind with
 |h k n s l o ihl iho=>
 have IHL:=qh ihl;have IHO:=qh iho;clear ihl iho
 intro w c ha hw
 cases ha with
 |mk c l o cl co lb lo ob oo cbd hl ho hla hoa hlc hlv hoc hov=>
 have c1:=cbd.l1;have c2:=cbd.l2;have c3:=cbd.o1;have c4:=cbd.o2;have c5:=cbd.s1
 have Hl:=qh hl;have Ho:=qh ho;clear hl ho
 have hst:=Jt w c 31
 have hw0:1+c.s.size+weightL l+weightO o<=4611686018427387904:=by simpa only [V.weight] using hw
 obtain ⟨W,hW⟩:∃W,V.weight (V.mk c.k c.n c.s l o)=W:=⟨_,rfl⟩
 rw [hW]
 have hW2:1+c.s.size+weightL l+weightO o=W:=by simpa only [V.weight] using hW
 have HW:=qh hW2
 clear hW hw hW2
 go_enter Tryd.func54,Tryd.ntmps54
 go_wp2_with fail
 go_loopw [3,4] (fun t i wr=>∃k:Nat,k<=c.ll/\i= .int .i64 k/\t= .int .i64 ((1+c.s.size+weightL (l.take k):Nat):Int)/\Boxed1 w wr c) (fun _ i _=>c.ll - (intOf i).toNat)
 case atStart=>exact ⟨0,Nat.zero_le _,rfl,by simp [weightL],hst⟩
 case round=>
  obtain ⟨k,hk,rfl,rfl,hB⟩:=hrel
  clear hst
  have b1:wr.cell? ⟨w.heap.size,3,none⟩=some (.slice c.la c.ll c.lc):=hB.a.c3
  have hle:=J8 l k
  by_cases hlt:k<c.ll
  .obtain ⟨ela,hlb⟩:=hla (by omega)
   have kl:k<l.length:=by rw [<-Hl.out];exact hlt
   have x1:=(hlc k kl).keep hB.below hlb
   rw [ela] at b1
   have r0:=x1.c0;have r1:=x1.c1;have r2:=x1.c2;have r3:=x1.c3;have r4:=x1.c4
   clear ela x1
   have hm:=X9 l k kl
   have hs:=zdi l k kl
   have hle2:=J8 l (k+1)
   have HS:=qh hs
   obtain ⟨A,hA⟩:∃A,1+c.s.size+weightL (l.take k)=A:=⟨_,rfl⟩
   obtain ⟨X,hX⟩:∃X,l[k].weight=X:=⟨_,rfl⟩
   have hAX:A+X<=4611686018427387904:=by omega
   have ih:=IHL.out _ (List.getElem_mem kl) wr (cl k) ((hlv k kl).later_ hB.below) (by omega)
   rw [hA]
   rw [hX] at ih
   have H:=qh ih
   have HA:=qh hA;have HX:=qh hX
   clear ih hA hX hs hm hle hle2
   go_wp2_with (go_at_call 54;refine H.out.mono ?_;rintro e w' ⟨rfl,hb⟩)
   go_roundw
   case rel=>exact ⟨k+1,by omega,by go_num,by rw [HS.out, <-Nat.add_assoc,HA.out,HX.out];go_num,hB.step hb⟩
   case measure=>simp [intOf];omega
  .go_wp2_with fail
   go_loopw [3,5] (fun t i wr=>∃k:Nat,k<=c.ol/\i= .int .i64 k/\t= .int .i64 ((1+c.s.size+weightL l+weightO (o.take k):Nat):Int)/\Boxed1 w wr c) (fun _ i _=>c.ol - (intOf i).toNat)
   case atStart=>exact ⟨0,Nat.zero_le _,rfl,by rw [List.take_of_length_le (by have:=Hl.out;omega)];simp [weightO],hB⟩
   case round=>
    clear b1 hB hle hlt hk
    obtain ⟨k2,hk,rfl,rfl,hB⟩:=hrel
    have b1:wr.cell? ⟨w.heap.size,4,none⟩=some (.slice c.oa c.ol c.oc):=hB.a.c4
    have hle:=Ku o k2
    by_cases hlt:k2<c.ol
    .obtain ⟨ela,hlb⟩:=hoa (by omega)
     have kl:k2<o.length:=by rw [<-Ho.out];exact hlt
     obtain ⟨g1,ksz,x1⟩:=hoc k2 kl
     have x1:=x1.keep hB.below hlb
     have g1:=Zb hB.below g1 hlb
     have q1:=Za b1
     rw [ela] at q1
     have r0:=Za x1.c0;have r1:=Za x1.c1;have r2:=Za x1.c2;have r3:=Za x1.c3;have r4:=Za x1.c4
     have t1:=Za g1
     clear ela x1 g1
     have hm:=Qo o k2 kl
     have hs:=zcp o k2 kl
     have hle2:=Ku o (k2+1)
     have HS:=qh hs
     obtain ⟨A,hA⟩:∃A,1+c.s.size+weightL l+weightO (o.take k2)=A:=⟨_,rfl⟩
     obtain ⟨X,hX⟩:∃X,o[k2].2.weight=X:=⟨_,rfl⟩
     obtain ⟨Y,hY⟩:∃Y,o[k2].1=Y:=⟨_,rfl⟩
     have hAX:A+(Y.size+X)<=4611686018427387904:=by rw [<-hA, <-hX, <-hY];omega
     have ih:=fun p=>IHO.out _ (List.getElem_mem kl) (later wr p) (co k2) (((hov k2 kl).later_ hB.below).later_ (Ze _ _)) (by rw [hX];omega)
     rw [hA]
     rw [hX] at ih
     rw [hY] at t1 ksz
     have H:=qh ih
     have HA:=qh hA;have HX:=qh hX;have HY:=qh hY
     clear ih hA hX hY hs hm hle hle2
     have e1:IntKind.i64.wrap ((Y.size:Int)+(X:Int))=(Y.size:Int)+(X:Int):=IntWalk.i64_in _ (by omega)
     have e2:IntKind.i64.wrap ((A:Int)+((Y.size:Int)+(X:Int)))=(A:Int)+((Y.size:Int)+(X:Int)):=IntWalk.i64_in _ (by omega)
     go_wp2_with fail
     refine Zm (by kernel_rfl) (by kernel_rfl) ?_
     repeat (go_big_quiet_step (((go_at_call 54;exact Zg (H.out _)))))
     refine wpQuiet_nil ?_
     intro _ hw'
     obtain ⟨pq,hw''⟩:=hw'
     subst hw''
     clear e1 e2 r0 r1 r2 r3 r4 t1 q1 b1
     go_wp2_with fail
     go_roundw
     case rel=>exact ⟨k2+1,by omega,by go_num,by rw [HS.out, <-Nat.add_assoc,HA.out,HX.out,HY.out];go_num,hB.step (Ze wr pq)⟩
     case measure=>simp [intOf];omega
    .go_wp2_with fail
     go_ret
     exact ⟨Ja (by rw [<-HW.out,List.take_of_length_le (by have:=Ho.out;omega)]),hB.below⟩
set_option maxRecDepth 100000 in
theorem zeu (a:V):∀(w:World) (c:VC),IsVal w w.heap.size a c->a.weight<=4611686018427387904->
 Calls Tryd.prog 53 #[.agg #[.int .u8 c.k, .int .i64 c.n, .string c.s, .slice c.la c.ll c.lc, .slice c.oa c.ol c.oc]] w fun e w'=>e= .returned (.int .i64 a.deep)/\Below w.heap.size w w':=by
 induction a using V.ind with
 |h k n s l o ihl iho=>
 have IHL:=qh ihl;have IHO:=qh iho;clear ihl iho
 intro w c ha hw
 cases ha with
 |mk c l o cl co lb lo ob oo cbd hl ho hla hoa hlc hlv hoc hov=>
 have c1:=cbd.l1;have c2:=cbd.l2;have c3:=cbd.o1;have c4:=cbd.o2;have c5:=cbd.s1
 have Hl:=qh hl;have Ho:=qh ho;clear hl ho
 have hst:=Jt w c 31
 have hw0:1+c.s.size+weightL l+weightO o<=4611686018427387904:=by simpa only [V.weight] using hw
 have hdw:=V.deep_lt (V.mk c.k c.n c.s l o)
 have hdd:max (deepL l) (deepO o)<=4611686018427387904:=by simp only [V.deep,V.weight] at hdw;omega
 obtain ⟨W,hW⟩:∃W,V.deep (V.mk c.k c.n c.s l o)=W:=⟨_,rfl⟩
 rw [hW]
 have hW2:max (deepL l) (deepO o)=W:=by simpa only [V.deep] using hW
 have HW:=qh hW2;have HDD:=qh hdd
 clear hW hw hW2 hdw hdd
 go_enter Tryd.func53,Tryd.ntmps53
 go_wp2_with fail
 go_loopw [3,4] (fun t i wr=>∃k:Nat,k<=c.ll/\i= .int .i64 k/\t= .int .i64 ((deepL (l.take k):Nat):Int)/\Boxed1 w wr c) (fun _ i _=>c.ll - (intOf i).toNat)
 case atStart=>exact ⟨0,Nat.zero_le _,rfl,by simp [deepL],hst⟩
 case round=>
  obtain ⟨k,hk,rfl,rfl,hB⟩:=hrel
  clear hst
  have b1:wr.cell? ⟨w.heap.size,3,none⟩=some (.slice c.la c.ll c.lc):=hB.a.c3
  by_cases hlt:k<c.ll
  .obtain ⟨ela,hlb⟩:=hla (by omega)
   have kl:k<l.length:=by rw [<-Hl.out];exact hlt
   have x1:=(hlc k kl).keep hB.below hlb
   rw [ela] at b1
   have r0:=x1.c0;have r1:=x1.c1;have r2:=x1.c2;have r3:=x1.c3;have r4:=x1.c4
   clear ela x1
   have hm:=X9 l k kl
   have hs:=zmq l k kl
   have HS:=qh hs
   have hdl:=V.deep_lt l[k]
   obtain ⟨A,hA⟩:∃A,deepL (l.take k)=A:=⟨_,rfl⟩
   obtain ⟨X,hX⟩:∃X,l[k].deep=X:=⟨_,rfl⟩
   have hAX:X<=4611686018427387904:=by omega
   have ih:=IHL.out _ (List.getElem_mem kl) wr (cl k) ((hlv k kl).later_ hB.below) (by omega)
   rw [hA]
   rw [hX] at ih
   have H:=qh ih
   have HA:=qh hA;have HX:=qh hX
   clear ih hA hX hs hm hdl
   go_wp2_with (go_at_call 53;refine H.out.mono ?_;rintro e w' ⟨rfl,hb⟩)
   go_roundw
   case rel=>exact ⟨k+1,by omega,by go_num,Qz (by rw [HS.out,HA.out,HX.out];omega),hB.step hb⟩
   case measure=>simp [intOf];omega
  .go_wp2_with fail
   go_loopw [3,5] (fun t i wr=>∃k:Nat,k<=c.ol/\i= .int .i64 k/\t= .int .i64 ((max (deepL l) (deepO (o.take k)):Nat):Int)/\Boxed1 w wr c) (fun _ i _=>c.ol - (intOf i).toNat)
   case atStart=>exact ⟨0,Nat.zero_le _,rfl,by rw [List.take_of_length_le (by have:=Hl.out;omega)];simp [deepO],hB⟩
   case round=>
    clear b1 hB hlt hk
    obtain ⟨k2,hk,rfl,rfl,hB⟩:=hrel
    have b1:wr.cell? ⟨w.heap.size,4,none⟩=some (.slice c.oa c.ol c.oc):=hB.a.c4
    by_cases hlt:k2<c.ol
    .obtain ⟨ela,hlb⟩:=hoa (by omega)
     have kl:k2<o.length:=by rw [<-Ho.out];exact hlt
     obtain ⟨g1,ksz,x1⟩:=hoc k2 kl
     have x1:=x1.keep hB.below hlb
     rw [ela] at b1
     have r0:=x1.c0;have r1:=x1.c1;have r2:=x1.c2;have r3:=x1.c3;have r4:=x1.c4
     clear ela x1 g1
     have hm:=Qo o k2 kl
     have hs:=zmm o k2 kl
     have HS:=qh hs
     have hdl:=V.deep_lt o[k2].2
     obtain ⟨A,hA⟩:∃A,max (deepL l) (deepO (o.take k2))=A:=⟨_,rfl⟩
     obtain ⟨X,hX⟩:∃X,o[k2].2.deep=X:=⟨_,rfl⟩
     have hAX:X<=4611686018427387904:=by omega
     have ih:=IHO.out _ (List.getElem_mem kl) wr (co k2) ((hov k2 kl).later_ hB.below) (by omega)
     rw [hA]
     rw [hX] at ih
     have H:=qh ih
     have HA:=qh hA;have HX:=qh hX
     clear ih hA hX hs hm hdl
     go_wp2_with (go_at_call 53;refine H.out.mono ?_;rintro e w' ⟨rfl,hb⟩)
     go_roundw
     case rel=>exact ⟨k2+1,by omega,by go_num,Qz (by rw [HS.out, <-HA.out,HX.out];omega),hB.step hb⟩
     case measure=>simp [intOf];omega
    .go_wp2_with fail
     go_ret
     exact ⟨Ja (by rw [<-HW.out,List.take_of_length_le (by have:=Ho.out;omega)]),hB.below⟩
end Go.Proofs.YtfoahkbnheijcaaDoor
