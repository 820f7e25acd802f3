/-
  Contracts of the functions that the law reaches: val.Copy (the program's): what stands in.
-/
import Derived.Test.YtnjgbiachcfigaaGreatDoorCt6
import Derived.Laws.OwnMore
import Derived.Deep.Onto
import Derived.Laws.CopyRow
import Derived.Laws.CopyOwn
import Derived.Lib.Walk
namespace Go.Proofs.YtnjgbiachcfigaaGreatDoor
open Go.RowKit
set_option maxHeartbeats 4000000
theorem zbr {W:World} {base:Nat} {e:TypeId} {g n cap:Nat} {cl:List VC} (h:W.ownsRow base e 5 (.slice (some ⟨g,0,none⟩) n cap) n (cl.flatMap vcells)) {k:Nat} (hk:k<cl.length) (z:VC):
 (setV W g (k*5) z).ownsRow base e 5 (.slice (some ⟨g,0,none⟩) n cap) n ((cl.set k z).flatMap vcells):=by
 have h1:=(h.stored (k*5) (.int .u8 z.k)).1
 have h2:=(h1.stored (k*5+1) (.int .i64 z.n)).1
 have h3:=(h2.stored (k*5+2) (.string z.s)).1
 have h4:=(h3.stored (k*5+3) (.slice z.la z.ll z.lc)).1
 have h5:=(h4.stored (k*5+4) (.slice z.oa z.ol z.oc)).1
 rw [zab cl k hk z] at h5
 exact h5
theorem ze7 {W:World} {base:Nat} {e:TypeId} {g n cap:Nat} {co:List (ByteArray×VC)} (h:W.ownsRow base e 6 (.slice (some ⟨g,0,none⟩) n cap) n (co.flatMap fcells)) {k:Nat} (hk:k<co.length) (z:VC):
 (setV W g (k*6+1) z).ownsRow base e 6 (.slice (some ⟨g,0,none⟩) n cap) n ((co.set k (co[k].1,z)).flatMap fcells):=by
 have h1:=(h.stored (k*6+1) (.int .u8 z.k)).1
 have h2:=(h1.stored (k*6+1+1) (.int .i64 z.n)).1
 have h3:=(h2.stored (k*6+1+2) (.string z.s)).1
 have h4:=(h3.stored (k*6+1+3) (.slice z.la z.ll z.lc)).1
 have h5:=(h4.stored (k*6+1+4) (.slice z.oa z.ol z.oc)).1
 rw [Kv co k hk z] at h5
 exact h5
theorem RStep.grown {w w':World} {rb:Nat} (h:RStep w w' rb):w.grownBy w' (some rb):=⟨h.os,h.tape,h.output,h.size,fun k hk hne=>h.block k hk (fun e=>hne (by rw [e]))⟩
theorem RStep.lowC {w w':World} {rb B:Nat} (h:RStep w w' rb) (hB:B<=rb) (hw:B<=w.heap.size):Below B w w':=⟨h.os,h.tape,h.output,h.size,fun k hk=>h.block k (by omega) (by omega)⟩
def Soft (w:World) (S:Nat->Prop):Prop:=∀k q,S k->w.frozen? ⟨k,q,none⟩=false
def SepI (w:World) (lo hi:Nat) (v:V) (c:VC):Prop:=∃S:Nat->Prop,(∀k,S k->lo<=k/\k<hi)/\Soft w S/\Sep w S v c
structure Half (w wr:World) (base:Nat) (l:List V) (o:List (ByteArray×V)) (u uo:Value) (cl:List VC) (co:List (ByteArray×VC)) (j:Nat) (s:Nat->Nat):Prop where
 lenL:cl.length=l.length
 lenO:co.length=o.length
 keys:∀i (h:i<o.length) (h':i<co.length),co[i].1=o[i].1/\o[i].1.size<=140737488355328
 rowL:wr.ownsRow base 36 5 u l.length (cl.flatMap vcells)
 rowO:wr.ownsRow base 75 6 uo o.length (co.flatMap fcells)
 apart:∀g,u.ownBlock=some g->uo.ownBlock≠some g
 loL:∀g,u.ownBlock=some g->g<s 0
 loO:∀g,uo.ownBlock=some g->g<s 0
 s0:base<=s 0
 sj:s j=wr.heap.size
 jm:j<=l.length+o.length
 mono:∀i i',i<=i'->i'<=j->s i<=s i'
 elsL:∀i (h:i<l.length) (h':i<cl.length),i<j->SepI wr (s i) (s (i+1)) l[i] cl[i]
 elsO:∀i (h:i<o.length) (h':i<co.length),l.length+i<j->SepI wr (s (l.length+i)) (s (l.length+i+1)) o[i].2 co[i].2
 oldL:∀i (h:i<l.length) (h':i<cl.length),j<=i->IsVal w w.heap.size l[i] cl[i]
 oldO:∀i (h:i<o.length) (h':i<co.length),j<=l.length+i->IsVal w w.heap.size o[i].2 co[i].2
def more (s:Nat->Nat) (j z:Nat):Nat->Nat:=fun i=>if i<=j then s i else z
theorem Zp {s:Nat->Nat} {j z i:Nat} (h:i<=j):more s j z i=s i:=if_pos h
theorem Xm {s:Nat->Nat} {j z i:Nat} (h:j<i):more s j z i=z:=if_neg (by omega)
theorem zah {s:Nat->Nat} {j z:Nat} (h:∀i i',i<=i'->i'<=j->s i<=s i') (hz:s j<=z):∀i i',i<=i'->i'<=j+1->more s j z i<=more s j z i':=by
 intro i i' h1 h2
 by_cases h3:i'<=j
 .rw [Zp h3,Zp (by omega)];exact h i i' h1 h3
 .rw [Xm (i:=i') (by omega)]
  by_cases h4:i<=j
  .rw [Zp h4];exact Nat.le_trans (h i j h4 (Nat.le_refl _)) hz
  .rw [Xm (by omega)];exact Nat.le_refl _
theorem Sep.stay {w w4 W:World} {S:Nat->Prop} {v:V} {c:VC} {g:Nat} (h:Sep w S v c) (hb:Below w.heap.size w w4) (st:RStep w4 W g) (hg:¬S g):Sep W S v c:=
 h.keep (Nat.le_trans hb.size st.size) fun k q hk=>by
   have hk2:=h.bnd k hk
   exact World.cell?_of_block ((st.block k (Nat.lt_of_lt_of_le hk2 hb.size) (fun e=>hg (e ▸ hk))).trans (hb.block k hk2))
theorem Yj {w w':World} {k q:Nat} (h:w'.heap[k]? =w.heap[k]?):w'.frozen? ⟨k,q,none⟩=w.frozen? ⟨k,q,none⟩:=by
 simp only [World.frozen?,h]
theorem SepI.stay {w w4 W:World} {lo hi:Nat} {v:V} {c:VC} {g:Nat} (h:SepI w lo hi v c) (hb:Below w.heap.size w w4) (st:RStep w4 W g) (hg:¬(lo<=g/\g<hi)):SepI W lo hi v c:=by
 obtain ⟨S,h1,h2,h3⟩:=h
 have hgS:¬S g:=fun e=>hg (h1 g e)
 refine ⟨S,h1,fun k q hk=> ?_,h3.stay hb st hgS⟩
 have hk2:=h3.bnd k hk
 rw [Yj ((st.block k (Nat.lt_of_lt_of_le hk2 hb.size) (fun e=>hgS (e ▸ hk))).trans (hb.block k hk2))]
 exact h2 k q hk
theorem SepI.at_ {w:World} {lo hi lo' hi':Nat} {v:V} {c:VC} (h:SepI w lo hi v c) (e1:lo=lo') (e2:hi=hi'):SepI w lo' hi' v c:=by subst e1 e2;exact h
theorem Half.stepL {w wr w4:World} {base:Nat} {l:List V} {o:List (ByteArray×V)} {u uo:Value} {cl:List VC} {co:List (ByteArray×VC)} {j:Nat} {s:Nat->Nat} (h:Half w wr base l o u uo cl co j s) (hj:j<l.length) {g nn cap:Nat} (hu:u= .slice (some ⟨g,0,none⟩) nn cap) {cx:VC}
 (hb:Below wr.heap.size wr w4) (hs:SepI w4 wr.heap.size w4.heap.size l[j] cx):Half w (setV w4 g (j*5) cx) base l o u uo (cl.set j cx) co (j+1) (more s j w4.heap.size):=by
 have st:=Zi w4 g (j*5) cx
 have hsz:(setV w4 g (j*5) cx).heap.size=w4.heap.size:=by simp [setV]
 have hgl:g<s 0:=h.loL g (by rw [hu];rfl)
 have hs0:s 0<=s j:=h.mono 0 j (Nat.zero_le _) (Nat.le_refl _)
 have hsj:=h.sj
 have hw4:=hb.size
 have hnn:nn=l.length:=by
  have h1:=h.rowL
  rw [hu] at h1
  rcases h1.2 with ⟨e,_⟩|⟨_,_,_,e,_⟩
  .cases e
  .injection e
 refine ⟨by rw [List.length_set];exact h.lenL,h.lenO,h.keys, ?_, ?_,h.apart,fun g' hg'=>by rw [Zp (Nat.zero_le _)];exact h.loL g' hg',fun g' hg'=>by rw [Zp (Nat.zero_le _)];exact h.loO g' hg',by rw [Zp (Nat.zero_le _)];exact h.s0,by rw [Xm (Nat.lt_succ_self j),hsz],by have:=h.jm;omega,zah h.mono (by omega),fun i hi hi' hij=> ?_,fun i hi hi' hij=> ?_,fun i hi hi' hij=> ?_,fun i hi hi' hij=>h.oldO i hi hi' (by omega)⟩
 .have h1:w4.ownsRow base 36 5 u l.length (cl.flatMap vcells):=h.rowL.kept (row:=none) ⟨hb.os,hb.tape,hb.output,hb.size,fun k hk _=>hb.block k hk⟩ (by cases hv:u.ownBlock<;>simp)
  subst hnn
  rw [hu] at h1 ⊢
  exact zbr h1 (by rw [h.lenL];exact hj) cx
 .have h1:w4.ownsRow base 75 6 uo o.length (co.flatMap fcells):=h.rowO.kept (row:=none) ⟨hb.os,hb.tape,hb.output,hb.size,fun k hk _=>hb.block k hk⟩ (by cases hv:uo.ownBlock<;>simp)
  exact h1.kept st.grown (.inr (h.apart g (by rw [hu];rfl)))
 .by_cases hi2:i<j
  .rw [List.getElem_set_ne (by omega)]
   exact ((h.elsL i hi (by rw [h.lenL];exact hi) hi2).stay hb st (fun e=>by have h1:=e.1;have h2:=h.mono 0 i (Nat.zero_le _) (by omega);omega)).at_ (Zp (by omega)).symm (Zp (by omega)).symm
  .obtain rfl:i=j:=by omega
   rw [List.getElem_set_self]
   exact (hs.stay (Below.refl _ _) st (fun e=>by have h1:=e.1;omega)).at_ (by rw [Zp (Nat.le_refl _),hsj]) (Xm (Nat.lt_succ_self _)).symm
 .refine SepI.at_ ?_ (Zp (by omega)).symm (Zp (by omega)).symm
  exact (h.elsO i hi hi' (by omega)).stay hb st (fun e=>by have h1:=e.1;have h2:=h.mono 0 (l.length+i) (Nat.zero_le _) (by omega);omega)
 .rw [List.getElem_set_ne (by omega)]
  exact h.oldL i hi (by rw [h.lenL];exact hi) (by omega)
theorem Half.stepO {w wr w4:World} {base:Nat} {l:List V} {o:List (ByteArray×V)} {u uo:Value} {cl:List VC} {co:List (ByteArray×VC)} {j:Nat} {s:Nat->Nat} (h:Half w wr base l o u uo cl co (l.length+j) s) (hj:j<o.length) {g nn cap:Nat} (hu:uo= .slice (some ⟨g,0,none⟩) nn cap) {cx:VC} (hjc:j<co.length)
 (hb:Below wr.heap.size wr w4) (hs:SepI w4 wr.heap.size w4.heap.size o[j].2 cx):Half w (setV w4 g (j*6+1) cx) base l o u uo cl (co.set j (co[j].1,cx)) (l.length+(j+1)) (more s (l.length+j) w4.heap.size):=by
 have st:=Zi w4 g (j*6+1) cx
 have hsz:(setV w4 g (j*6+1) cx).heap.size=w4.heap.size:=by simp [setV]
 have hgl:g<s 0:=h.loO g (by rw [hu];rfl)
 have hs0:s 0<=s (l.length+j):=h.mono 0 _ (Nat.zero_le _) (Nat.le_refl _)
 have hsj:=h.sj
 have hw4:=hb.size
 have hnn:nn=o.length:=by
  have h1:=h.rowO
  rw [hu] at h1
  rcases h1.2 with ⟨e,_⟩|⟨_,_,_,e,_⟩
  .cases e
  .injection e
 refine ⟨h.lenL,by rw [List.length_set];exact h.lenO,fun i hi hi'=> ?_, ?_, ?_,h.apart,fun g' hg'=>by rw [Zp (Nat.zero_le _)];exact h.loL g' hg',fun g' hg'=>by rw [Zp (Nat.zero_le _)];exact h.loO g' hg',by rw [Zp (Nat.zero_le _)];exact h.s0,by rw [Xm (show l.length+j<l.length+(j+1) by omega),hsz],by have:=h.jm;omega,zah h.mono (show s (l.length+j)<=w4.heap.size by omega),fun i hi hi' hij=> ?_,fun i hi hi' hij=> ?_,fun i hi hi' hij=>h.oldL i hi hi' (by omega),fun i hi hi' hij=> ?_⟩
 .by_cases e:i=j
  .subst e
   rw [List.getElem_set_self];exact h.keys i hi hjc
  .rw [List.getElem_set_ne (fun e'=>e e'.symm)];exact h.keys i hi (by rw [h.lenO];exact hi)
 .have h1:w4.ownsRow base 36 5 u l.length (cl.flatMap vcells):=h.rowL.kept (row:=none) ⟨hb.os,hb.tape,hb.output,hb.size,fun k hk _=>hb.block k hk⟩ (by cases hv:u.ownBlock<;>simp)
  exact h1.kept st.grown (.inr (fun e=>h.apart g e (by rw [hu];rfl)))
 .have h1:w4.ownsRow base 75 6 uo o.length (co.flatMap fcells):=h.rowO.kept (row:=none) ⟨hb.os,hb.tape,hb.output,hb.size,fun k hk _=>hb.block k hk⟩ (by cases hv:uo.ownBlock<;>simp)
  subst hnn
  rw [hu] at h1 ⊢
  exact ze7 h1 hjc cx
 .refine SepI.at_ ?_ (Zp (by omega)).symm (Zp (by omega)).symm
  exact (h.elsL i hi hi' (by omega)).stay hb st (fun e=>by have h1:=e.1;have h2:=h.mono 0 i (Nat.zero_le _) (by omega);omega)
 .by_cases hi2:i<j
  .rw [List.getElem_set_ne (by omega)]
   exact ((h.elsO i hi (by rw [h.lenO];exact hi) (by omega)).stay hb st (fun e=>by have h1:=e.1;have h2:=h.mono 0 (l.length+i) (Nat.zero_le _) (by omega);omega)).at_ (Zp (by omega)).symm (Zp (by omega)).symm
  .obtain rfl:i=j:=by omega
   rw [List.getElem_set_self]
   exact (hs.stay (Below.refl _ _) st (fun e=>by have h1:=e.1;omega)).at_ (by rw [Zp (Nat.le_refl _),hsj]) (Xm (show l.length+i<l.length+i+1 by omega)).symm
 .rw [List.getElem_set_ne (by omega)]
  exact h.oldO i hi (by rw [h.lenO];exact hi) (by omega)
theorem Half.next {w wr W:World} {B j:Nat} {l:List V} {o:List (ByteArray×V)} {u uo:Value} {cl:List VC} {co:List (ByteArray×VC)} {s:Nat->Nat} (h:Half w wr (B+2) l o u uo cl co j s) (st:RStep wr W (B+1)) (hz:W.heap.size=wr.heap.size):Half w W B l o u uo cl co j s:=by
 have hs0:=h.s0
 have ne:∀i,i<=j->¬(s i<=B+1/\B+1<s (i+1)):=fun i hi e=>by have h1:=e.1;have h2:=h.mono 0 i (Nat.zero_le _) hi;omega
 refine ⟨h.lenL,h.lenO,h.keys,(h.rowL.kept st.grown (.inr fun e=> ?_)).mono (Nat.le_add_right _ _),(h.rowO.kept st.grown (.inr fun e=> ?_)).mono (Nat.le_add_right _ _),h.apart,h.loL,h.loO,by omega,by rw [hz];exact h.sj,h.jm,h.mono,fun i hi hi' hij=>(h.elsL i hi hi' hij).stay (Below.refl _ _) st (ne _ (by omega)),fun i hi hi' hij=>(h.elsO i hi hi' hij).stay (Below.refl _ _) st (ne _ (by omega)),h.oldL,h.oldO⟩
 .have:=(h.rowL.lt _ e).1;omega
 .have:=(h.rowO.lt _ e).1;omega
theorem Half.beside {w wr W:World} {base j g:Nat} {l:List V} {o:List (ByteArray×V)} {u uo:Value} {cl:List VC} {co:List (ByteArray×VC)} {s:Nat->Nat} (h:Half w wr base l o u uo cl co j s) (st:RStep wr W g) (hg:g<base) (hz:W.heap.size=wr.heap.size):Half w W base l o u uo cl co j s:=by
 have hs0:=h.s0
 have ne:∀i,i<=j->¬(s i<=g/\g<s (i+1)):=fun i hi e=>by have h1:=e.1;have h2:=h.mono 0 i (Nat.zero_le _) hi;omega
 refine ⟨h.lenL,h.lenO,h.keys,h.rowL.kept st.grown (.inr fun e=> ?_),h.rowO.kept st.grown (.inr fun e=> ?_),h.apart,h.loL,h.loO,h.s0,by rw [hz];exact h.sj,h.jm,h.mono,fun i hi hi' hij=>(h.elsL i hi hi' hij).stay (Below.refl _ _) st (ne _ (by omega)),fun i hi hi' hij=>(h.elsO i hi hi' hij).stay (Below.refl _ _) st (ne _ (by omega)),h.oldL,h.oldO⟩
 .have:=(h.rowL.lt _ e).1;omega
 .have:=(h.rowO.lt _ e).1;omega
theorem Half.low {w wr:World} {base base' j:Nat} {l:List V} {o:List (ByteArray×V)} {u uo:Value} {cl:List VC} {co:List (ByteArray×VC)} {s:Nat->Nat} (h:Half w wr base l o u uo cl co j s) (hb:base'<=base):Half w wr base' l o u uo cl co j s:=
 ⟨h.lenL,h.lenO,h.keys,h.rowL.mono hb,h.rowO.mono hb,h.apart,h.loL,h.loO,Nat.le_trans hb h.s0,h.sj,h.jm,h.mono,h.elsL,h.elsO,h.oldL,h.oldO⟩
def Whole (w:World) (base:Nat) (x:V) (d:VC):Prop:=
 x= .mk d.k d.n d.s x.ls x.os/\d.Bnd/\∃(cl:List VC) (co:List (ByteArray×VC)) (S:Nat->Nat) (W0:World),Half W0 w base x.ls x.os (.slice d.la d.ll d.lc) (.slice d.oa d.ol d.oc) cl co (x.ls.length+x.os.length) S
theorem Whole.beside {w W:World} {base g:Nat} {x:V} {d:VC} (h:Whole w base x d) (st:RStep w W g) (hg:g<base) (hz:W.heap.size=w.heap.size):Whole W base x d:=by
 obtain ⟨h1,h2,cl,co,S,W0,h3⟩:=h
 exact ⟨h1,h2,cl,co,S,W0,h3.beside st hg hz⟩
theorem Whole.low {w:World} {base base':Nat} {x:V} {d:VC} (h:Whole w base x d) (hb:base'<=base):Whole w base' x d:=by
 obtain ⟨h1,h2,cl,co,S,W0,h3⟩:=h
 exact ⟨h1,h2,cl,co,S,W0,h3.low hb⟩
theorem Half.done {w wr:World} {base:Nat} {l:List V} {o:List (ByteArray×V)} {cl:List VC} {co:List (ByteArray×VC)} {s:Nat->Nat} {c:VC} (h:Half w wr base l o (.slice c.la c.ll c.lc) (.slice c.oa c.ol c.oc) cl co (l.length+o.length) s) (hb:c.Bnd):
 SepI wr base wr.heap.size (.mk c.k c.n c.s l o) c:=by
 have rL:c.ll=l.length/\(0<c.ll->∃g,c.la=some ⟨g,0,none⟩):=by
  rcases h.rowL.2 with ⟨e,e2⟩|⟨g,cap,cur,e,_⟩
  .injection e with e3 e4 e5;exact ⟨by omega,fun h0=>by omega⟩
  .injection e with e3 e4 e5;exact ⟨e4,fun _=>⟨g,e3⟩⟩
 have rO:c.ol=o.length/\(0<c.ol->∃g,c.oa=some ⟨g,0,none⟩):=by
  rcases h.rowO.2 with ⟨e,e2⟩|⟨g,cap,cur,e,_⟩
  .injection e with e3 e4 e5;exact ⟨by omega,fun h0=>by omega⟩
  .injection e with e3 e4 e5;exact ⟨e4,fun _=>⟨g,e3⟩⟩
 obtain ⟨gl,hgl⟩:∃gl,0<c.ll->c.la=some ⟨gl,0,none⟩:=by
  by_cases h0:0<c.ll
  .obtain ⟨g,hg⟩:=rL.2 h0;exact ⟨g,fun _=>hg⟩
  .exact ⟨0,fun h1=>absurd h1 h0⟩
 obtain ⟨go,hgo⟩:∃go,0<c.ol->c.oa=some ⟨go,0,none⟩:=by
  by_cases h0:0<c.ol
  .obtain ⟨g,hg⟩:=rO.2 h0;exact ⟨g,fun _=>hg⟩
  .exact ⟨0,fun h1=>absurd h1 h0⟩
 have oL:0<c.ll->(Value.slice c.la c.ll c.lc).ownBlock=some gl:=fun h0=>by rw [hgl h0];rfl
 have oO:0<c.ol->(Value.slice c.oa c.ol c.oc).ownBlock=some go:=fun h0=>by rw [hgo h0];rfl
 have hz:∀i,i<=l.length+o.length->s i<=wr.heap.size:=fun i hi=>by rw [<-h.sj];exact h.mono i _ hi (Nat.le_refl _)
 have hm:∀i,i<=l.length+o.length->s 0<=s i:=fun i hi=>h.mono 0 i (Nat.zero_le _) hi
 have cL:∀i,i<l.length->ValAt wr gl (i*5) (cl.getD i c):=fun i hi=>by
  have h1:=h.rowL
  rw [hgl (by omega),rL.1] at h1
  have hl:=h.lenL
  have e:cl.getD i c=cl[i]'(by omega):=by simp [List.getD_eq_getElem?_getD,show i<cl.length by omega]
  rw [e]
  have hbc:∀j v,(cl.flatMap vcells)[j]? =some v->wr.cell? ⟨gl,j,none⟩=some v:=fun j v hj=>by
   have hlen:(cl.flatMap vcells).length=l.length*5:=h1.1
   rw [h1.cellAt j (by have:=(List.getElem?_eq_some_iff.1 hj).1;omega)];exact hj
  exact Yo ⟨hbc,fun j=>h1.frozenAt j,(h1.lt gl rfl).2⟩ (by omega)
 have cO:∀i (hi:i<o.length),wr.cell? ⟨go,i*6,none⟩=some (.string o[i].1)/\o[i].1.size<=140737488355328/\ValAt wr go (i*6+1) (co.getD i (.empty,c)).2:=fun i hi=>by
  have h1:=h.rowO
  rw [hgo (by omega),rO.1] at h1
  have hl:=h.lenO
  have e:co.getD i (.empty,c)=co[i]'(by omega):=by simp [List.getD_eq_getElem?_getD,show i<co.length by omega]
  rw [e]
  have hbc:∀j v,(co.flatMap fcells)[j]? =some v->wr.cell? ⟨go,j,none⟩=some v:=fun j v hj=>by
   have hlen:(co.flatMap fcells).length=o.length*6:=h1.1
   rw [h1.cellAt j (by have:=(List.getElem?_eq_some_iff.1 hj).1;omega)];exact hj
  obtain ⟨g1,g2⟩:=Z2 (W:=wr) (g:=go) ⟨hbc,fun j=>h1.frozenAt j,(h1.lt go rfl).2⟩ (i:=i) (by omega)
  obtain ⟨k1,k2⟩:=h.keys i hi (by omega)
  exact ⟨by rw [<-k1];exact g1,k2,g2⟩
 have hlL:=h.lenL;have hlO:=h.lenO
 obtain ⟨TL,hTL⟩:=Classical.axiomOfChoice (fun i=>show ∃S:Nat->Prop,∀(hi:i<l.length) (hi':i<cl.length),(∀k,S k->s i<=k/\k<s (i+1))/\Soft wr S/\Sep wr S l[i] cl[i] by
  by_cases hi:i<l.length
  .obtain ⟨S,h1⟩:=h.elsL i hi (by omega) (by omega)
   exact ⟨S,fun _ _=>h1⟩
  .exact ⟨fun _=>False,fun h1 _=>absurd h1 hi⟩)
 obtain ⟨TO,hTO⟩:=Classical.axiomOfChoice (fun i=>show ∃S:Nat->Prop,∀(hi:i<o.length) (hi':i<co.length),(∀k,S k->s (l.length+i)<=k/\k<s (l.length+i+1))/\Soft wr S/\Sep wr S o[i].2 co[i].2 by
  by_cases hi:i<o.length
  .obtain ⟨S,h1⟩:=h.elsO i hi (by omega) (by omega)
   exact ⟨S,fun _ _=>h1⟩
  .exact ⟨fun _=>False,fun h1 _=>absurd h1 hi⟩)
 have bL:∀i,i<l.length->∀k,TL i k->s i<=k/\k<s (i+1):=fun i hi k hk=>(hTL i hi (by omega)).1 k hk
 have bO:∀i,i<o.length->∀k,TO i k->s (l.length+i)<=k/\k<s (l.length+i+1):=fun i hi k hk=>(hTO i hi (by omega)).1 k hk
 refine ⟨fun k=>(0<c.ll/\k=gl)∨(0<c.ol/\k=go)∨(∃i,i<l.length/\TL i k)∨(∃i,i<o.length/\TO i k),fun k hk=> ?_,fun k q hk=> ?_, ?_⟩
 .rcases hk with ⟨h0,rfl⟩|⟨h0,rfl⟩|⟨i,hi,hk⟩|⟨i,hi,hk⟩
  .exact h.rowL.lt _ (oL h0)
  .exact h.rowO.lt _ (oO h0)
  .have h1:=bL i hi k hk;have h3:=hm i (by omega);have h4:=hz (i+1) (by omega);have h5:=h.s0
   omega
  .have h1:=bO i hi k hk;have h3:=hm (l.length+i) (by omega);have h4:=hz (l.length+i+1) (by omega);have h5:=h.s0
   omega
 .rcases hk with ⟨h0,rfl⟩|⟨h0,rfl⟩|⟨i,hi,hk⟩|⟨i,hi,hk⟩
  .have h1:=h.rowL
   rw [hgl h0,rL.1] at h1
   exact h1.frozenAt q
  .have h1:=h.rowO
   rw [hgo h0,rO.1] at h1
   exact h1.frozenAt q
  .exact (hTL i hi (by omega)).2.1 k q hk
  .exact (hTO i hi (by omega)).2.1 k q hk
 refine .mk _ c l o (fun i=>cl.getD i c) (fun i=>(co.getD i (.empty,c)).2) gl go TL TO hb rL.1 rO.1 (fun k hk=> ?_) (fun h0=>⟨hgl h0, .inl ⟨h0,rfl⟩⟩) (fun h0=>⟨hgo h0, .inr (.inl ⟨h0,rfl⟩)⟩) (fun h0 h1 e=> ?_) cL cO (fun i hi=> ?_) (fun i hi=> ?_) (fun i hi k hk=> ?_) (fun i hi k hk=> ?_) (fun i i' hi hi' hne k hk hk'=> ?_) (fun i i' hi hi' hne k hk hk'=> ?_) (fun i i' hi hi' k hk hk'=> ?_)
 .rcases hk with ⟨h0,rfl⟩|⟨h0,rfl⟩|⟨i,hi,hk⟩|⟨i,hi,hk⟩
  .exact (h.rowL.lt _ (oL h0)).2
  .exact (h.rowO.lt _ (oO h0)).2
  .have h1:=bL i hi k hk;have h4:=hz (i+1) (by omega);omega
  .have h1:=bO i hi k hk;have h4:=hz (l.length+i+1) (by omega);omega
 .exact h.apart gl (oL h0) (by rw [oO h1,e])
 .have e:cl.getD i c=cl[i]'(by omega):=by simp [List.getD_eq_getElem?_getD,show i<cl.length by omega]
  rw [e];exact (hTL i hi (by omega)).2.2
 .have e:co.getD i (.empty,c)=co[i]'(by omega):=by simp [List.getD_eq_getElem?_getD,show i<co.length by omega]
  rw [e];exact (hTO i hi (by omega)).2.2
 .have h1:=bL i hi k hk;have h3:=hm i (by omega)
  exact ⟨.inr (.inr (.inl ⟨i,hi,hk⟩)),fun e=>by have:=h.loL gl (oL (by omega));omega,fun h0 e=>by have:=h.loO go (oO h0);omega⟩
 .have h1:=bO i hi k hk;have h3:=hm (l.length+i) (by omega)
  exact ⟨.inr (.inr (.inr ⟨i,hi,hk⟩)),fun e=>by have:=h.loO go (oO (by omega));omega,fun h0 e=>by have:=h.loL gl (oL h0);omega⟩
 .have h1:=bL i hi k hk;have h3:=bL i' hi' k hk'
  rcases Nat.lt_or_ge i i' with h5|h5
  .have:=h.mono (i+1) i' (by omega) (by omega);omega
  .have:=h.mono (i'+1) i (by omega) (by omega);omega
 .have h1:=bO i hi k hk;have h3:=bO i' hi' k hk'
  rcases Nat.lt_or_ge i i' with h5|h5
  .have:=h.mono (l.length+i+1) (l.length+i') (by omega) (by omega);omega
  .have:=h.mono (l.length+i'+1) (l.length+i) (by omega) (by omega);omega
 .have h1:=bL i hi k hk;have h3:=bO i' hi' k hk'
  have:=h.mono (i+1) (l.length+i') (by omega) (by omega);omega
theorem Whole.sepI {w:World} {base:Nat} {x:V} {d:VC} (h:Whole w base x d):SepI w base w.heap.size x d:=by
 obtain ⟨h1,h2,cl,co,S,W0,h3⟩:=h
 rw [h1];exact h3.done h2
theorem SepI.isVal {w:World} {lo hi:Nat} {x:V} {d:VC} (h:SepI w lo hi x d):IsVal (only (fun b=>lo<=b) w) w.heap.size x d:=by
 obtain ⟨S,h1,_,h3⟩:=h
 exact h3.isVal fun k hk=>(h1 k hk).1
theorem Y5 {P:Program} (w:World) (dT sT ty elem:TypeId) (sz:Nat) (g o dLen dCap:Nat) (a:Addr) (sLen sCap:Nat) (cur:Array Value) (t:TypeId) (cs:List Value)
 (hu:P.underlying dT=some (.slice elem)) (hs:(P.info? elem).map (·.size)=some sz)
 (hg:w.heap[g]? =some (.cells cur t (0,0))) (m:Nat) (hm:Nat.min sLen dLen=m) (hn:cs.length=m*sz)
 (hsrc:∀j v,cs[j]? =some v->w.cell? (a.add j)=some v) (hfit:o+cs.length<=cur.size) (h1:∀v ∈ cs,v.oneCell'=true):
 (Builtin.copy_ #[dT,sT] ty #[.slice (some ⟨g,o,none⟩) dLen dCap, .slice (some a) sLen sCap]).run P w=
  .ok (goInt m) (w.setRow g (cur.toList.take o++cs++cur.toList.drop (o+cs.length)).toArray):=by
 have hl:=run_loadCells_list (P:=P) w a cs hsrc
 have hst:=run_storeCells_at P g o t cs 0 cur w hg (by simpa using hfit) h1
 cases hq:P.info? elem with
 |none=>simp [hq] at hs
 | some i=>
   have hi:i.size=sz:=by simpa [hq] using hs
   simp [Builtin.copy_,run_underlying hu,Builtin.lenOf,Builtin.firstCells,sizeOf,typeInfo,hq,hi,hm, <-hn,hl,hst]
theorem zbw {α:Type} (L x:List α) (p r:Nat) (hp:p<=r) (hr:r+x.length<=L.length):
 (((L.take (p+x.length)++(L.take r).drop p++L.drop (r+x.length)).take p++x++(L.take (p+x.length)++(L.take r).drop p++L.drop (r+x.length)).drop (p+x.length)).take (r+x.length))=(L.take r).take p++x++(L.take r).drop p:=by
 have h1:(L.take (p+x.length)++(L.take r).drop p++L.drop (r+x.length)).take p=L.take p:=by
  rw [List.append_assoc,List.take_append_of_le_length (by rw [List.length_take];omega),List.take_take]
  congr 1;omega
 have h2:(L.take (p+x.length)++(L.take r).drop p++L.drop (r+x.length)).drop (p+x.length)=(L.take r).drop p++L.drop (r+x.length):=by
  rw [List.append_assoc,List.drop_append_of_le_length (by rw [List.length_take];omega),List.drop_eq_nil_of_le (by rw [List.length_take];omega),List.nil_append]
 rw [h1,h2, <-List.append_assoc,List.take_left' (by simp;omega),List.take_take,Nat.min_eq_left hp]
theorem za3 {α:Type} (R x xs:List α) (p:Nat) (hp:p<=xs.length) (hR:R.take p=xs.take p) (hl:xs.length+x.length<=R.length):
 (((R.take p++x++R.drop (p+x.length)).take (p+x.length)++xs.drop p++(R.take p++x++R.drop (p+x.length)).drop (p+x.length+(xs.drop p).length)).take (xs.length+x.length))=xs.take p++x++xs.drop p:=by
 have h1:(R.take p++x++R.drop (p+x.length)).take (p+x.length)=xs.take p++x:=by
  rw [List.take_left' (by simp;omega),hR]
 rw [h1,List.take_left' (by simp;omega)]
def RowPost (w:World) (base:Nat) (T:TypeId) (sz:Nat) (v:Value) (n:Nat) (ys:List Value) (e:Ending) (w':World):Prop:=
 ∃v',e= .returned v'/\w'.ownsRow base T sz v' n ys/\w.grownBy w' v.ownBlock/\(v'.ownBlock=v.ownBlock∨v'.ownBlock=some w.heap.size)
def StepPost (w0:World) (B0:Nat) (w:World) (r:Option (V×Nat)) (e:Ending) (w':World):Prop:=
 (match r with
  |some q=>∃c:VC,e= .returned (.tuple #[.agg #[.int .u8 c.k, .int .i64 c.n, .string c.s, .slice c.la c.ll c.lc, .slice c.oa c.ol c.oc], .int .i64 (q.2:Int), .int .i64 0])/\IsVal w0 B0 q.1 c
  |none=>e= .returned (.tuple #[.agg #[.int .u8 0, .int .i64 0, .string { data:= #[] }, .slice none 0 0, .slice none 0 0], .int .i64 0, .int .i64 30]))/\Below w.heap.size w w'
theorem zba {tmps:Array Value} {W:World} {b:Nat} {c:VC} {x y:Value} (ht:tmps[4]? =some (.pointer (some ⟨b,0,none⟩))) (hx:tmps[5]? =some x) (hy:tmps[6]? =some y) (h:BC W b (vcells c)):
 (results Tryz.f73 tmps).run Tryz.prog W= .ok (.tuple #[.agg #[.int .u8 c.k, .int .i64 c.n, .string c.s, .slice c.la c.ll c.lc, .slice c.oa c.ol c.oc],x,y]) W:=by
 obtain ⟨r0,r1,r2,r3,r4⟩:=(⟨h.at_ 0 _ rfl,h.at_ 1 _ rfl,h.at_ 2 _ rfl,h.at_ 3 _ rfl,h.at_ 4 _ rfl⟩:W.cell? ⟨b,0,none⟩=some (.int .u8 c.k)/\W.cell? ⟨b,1,none⟩=some (.int .i64 c.n)/\W.cell? ⟨b,2,none⟩=some (.string c.s)/\W.cell? ⟨b,3,none⟩=some (.slice c.la c.ll c.lc)/\W.cell? ⟨b,4,none⟩=some (.slice c.oa c.ol c.oc))
 simp [results,Tryz.results73,go_sem,ht,hx,hy,r0,r1,r2,r3,r4]
theorem Qo {w0:World} {B0:Nat} {w W:World} {x:Act} (h:BC W (w.heap.size+1+1) (vcells vzero)) (hb:Below w.heap.size w W) (hd:x.defers= []) (ht:x.tmps[4]? =some (.pointer (some ⟨w.heap.size+1+1,0,none⟩))) (hx:x.tmps[5]? =some (.int .i64 0)) (hy:x.tmps[6]? =some (.int .i64 30)):
 bodyPost Tryz.prog Tryz.f73 (StepPost w0 B0 w none) .ret x W:=⟨hd,_,zba ht hx hy h,rfl,hb⟩
theorem K2 {w0:World} {B0:Nat} {w W:World} {x:Act} {c:VC} {v:V} {k:Nat} (h:BC W (w.heap.size+1+1) (vcells c)) (hv:IsVal w0 B0 v c) (hb:Below w.heap.size w W) (hd:x.defers= []) (ht:x.tmps[4]? =some (.pointer (some ⟨w.heap.size+1+1,0,none⟩))) (hx:x.tmps[5]? =some (.int .i64 (k:Int))) (hy:x.tmps[6]? =some (.int .i64 0)):
 bodyPost Tryz.prog Tryz.f73 (StepPost w0 B0 w (some (v,k))) .ret x W:=⟨hd,_,zba ht hx hy h,⟨c,rfl,hv⟩,hb⟩
structure SB (w W:World) (c:VC) (s:St):Prop where
 v:BC W w.heap.size (vcells c)
 s:BC W (w.heap.size+1) [.bool s.list, .int .i64 s.i, .string s.key]
 r:BC W (w.heap.size+1+1) (vcells vzero)
 below:Below w.heap.size w W
theorem SB.start (w:World) (c:VC) (s:St) (t1 t2 t3:TypeId):SB w (((w.alloc (.cells #[.int .u8 c.k, .int .i64 c.n, .string c.s, .slice c.la c.ll c.lc, .slice c.oa c.ol c.oc] t1)).alloc (.cells #[.bool s.list, .int .i64 s.i, .string s.key] t2)).alloc (.cells #[.int .u8 0, .int .i64 0, .string { data:= #[] }, .slice none 0 0, .slice none 0 0] t3)) c s:=by
 obtain ⟨w1,hw1⟩:∃w1,w.alloc (.cells #[.int .u8 c.k, .int .i64 c.n, .string c.s, .slice c.la c.ll c.lc, .slice c.oa c.ol c.oc] t1)=w1:=⟨_,rfl⟩
 have s1:w1.heap.size=w.heap.size+1:=by rw [<-hw1,World.size_alloc]
 have b1:Below w.heap.size w w1:=by rw [<-hw1];exact (Below.refl _ _).alloc (Nat.le_refl _) _
 have c1:BC w1 w.heap.size (vcells c):=by rw [<-hw1];exact BC.start w #[.int .u8 c.k, .int .i64 c.n, .string c.s, .slice c.la c.ll c.lc, .slice c.oa c.ol c.oc] t1
 rw [hw1]
 obtain ⟨w2,hw2⟩:∃w2,w1.alloc (.cells #[.bool s.list, .int .i64 s.i, .string s.key] t2)=w2:=⟨_,rfl⟩
 have s2:w2.heap.size=w.heap.size+1+1:=by rw [<-hw2,World.size_alloc,s1]
 have b2:Below w1.heap.size w1 w2:=by rw [<-hw2];exact (Below.refl _ _).alloc (Nat.le_refl _) _
 have c2:=BC.start w1 #[.bool s.list, .int .i64 s.i, .string s.key] t2
 rw [hw2,s1] at c2
 rw [hw2]
 have b3:Below w2.heap.size w2 (w2.alloc (.cells #[.int .u8 0, .int .i64 0, .string { data:= #[] }, .slice none 0 0, .slice none 0 0] t3)):=(Below.refl _ _).alloc (Nat.le_refl _) _
 have c3:=BC.start w2 #[.int .u8 0, .int .i64 0, .string { data:= #[] }, .slice none 0 0, .slice none 0 0] t3
 rw [s2] at c3
 exact ⟨(c1.keep b2 (by omega)).keep b3 (by omega),c2.keep b3 (by omega),c3,(b1.trans (b2.mono (by omega))).trans (b3.mono (by omega))⟩
theorem SB.next {w W W':World} {c:VC} {s:St} (h:SB w W c s) (hb:Below W.heap.size W W'):SB w W' c s:=
 ⟨h.v.keep hb h.v.lt,h.s.keep hb h.s.lt,h.r.keep hb h.r.lt,h.below.trans (hb.mono (Nat.le_of_lt h.v.lt))⟩
theorem SB.stored {w W:World} {c:VC} {s:St} (h:SB w W c s) (d:VC):BC (((((W.setCell ⟨w.heap.size+1+1,0,none⟩ (.int .u8 d.k)).setCell ⟨w.heap.size+1+1,1,none⟩ (.int .i64 d.n)).setCell ⟨w.heap.size+1+1,2,none⟩ (.string d.s)).setCell ⟨w.heap.size+1+1,3,none⟩ (.slice d.la d.ll d.lc)).setCell ⟨w.heap.size+1+1,4,none⟩ (.slice d.oa d.ol d.oc)) (w.heap.size+1+1) (vcells d)/\Below w.heap.size w (((((W.setCell ⟨w.heap.size+1+1,0,none⟩ (.int .u8 d.k)).setCell ⟨w.heap.size+1+1,1,none⟩ (.int .i64 d.n)).setCell ⟨w.heap.size+1+1,2,none⟩ (.string d.s)).setCell ⟨w.heap.size+1+1,3,none⟩ (.slice d.la d.ll d.lc)).setCell ⟨w.heap.size+1+1,4,none⟩ (.slice d.oa d.ol d.oc)):=
 ⟨Zz h.r d,h.below.trans ((Zi W (w.heap.size+1+1) 0 d).below (Nat.le_of_lt h.r.lt)|>.mono (by omega))⟩
set_option maxRecDepth 100000 in
theorem zgo (w:World) (vk vn:Int) (vs:ByteArray) (la:Option Addr) (ll lc:Nat) (oa:Option Addr) (ol oc:Nat) (v:V) (w0:World) (B0:Nat) (hb0:Below B0 w0 w) (hB0:B0<=w.heap.size) (hv:IsVal w0 B0 v ⟨vk,vn,vs,la,ll,lc,oa,ol,oc⟩) (s:St) (hs:s.Bnd) (hl:s.list=true):
 Calls Tryz.prog 73 #[.agg #[.int .u8 vk, .int .i64 vn, .string vs, .slice la ll lc, .slice oa ol oc], .agg #[.bool s.list, .int .i64 s.i, .string s.key]] w (StepPost w0 B0 w (stepP v s)):=by
 obtain ⟨sl,si,sk⟩:=s
 dsimp only at hl hs ⊢
 subst hl
 have hi0:=hs.i0;have hi1:=hs.i1
 dsimp only at hi0 hi1
 obtain ⟨k',n',s',l,o,rfl⟩:=v.eta
 obtain ⟨ek,en,es,hbd,hvl,hvo⟩:=hv.lists
 dsimp only at ek en es hbd hvl hvo
 subst ek en es
 have k1:=hvl.few;have k2:=hvl.max;have k3:=hvo.few;have k4:=hvo.max
 have HL:=qh hvl
 have HO:=qh hvo
 have HLN:=qh hvl.len
 have HON:=qh hvo.len
 have HB:=qh (SB.start w ⟨vk,vn,vs,la,ll,lc,oa,ol,oc⟩ ⟨true,si,sk⟩ 36 77 36)
 obtain ⟨R,hR⟩:∃R,stepP (.mk vk vn vs l o) ⟨true,si,sk⟩=R:=⟨_,rfl⟩
 rw [hR]
 clear hvl hvo hv hs hbd
 by_cases h4:vk=4
 case neg=>
  have f0:(vk !=4)=true:=by simp [h4]
  obtain rfl:R=none:=by rw [<-hR];simp [stepP,V.kd];intro h;omega
  clear hR
  go_enter Tryz.func73,Tryz.ntmps73
  generalize hQ0:bodyPost _ _ _=Q0
  have HQ:=qh hQ0
  clear hQ0
  go_wp2_with fail
  rw [<-HQ.out]
  exact Qo HB.out.r HB.out.below rfl rfl rfl rfl
 case pos=>
  cases h4
  by_cases h5:si<0
  .obtain rfl:R=none:=by rw [<-hR];simp [stepP];omega
   clear hR
   go_enter Tryz.func73,Tryz.ntmps73
   generalize hQ0:bodyPost _ _ _=Q0
   have HQ:=qh hQ0
   clear hQ0
   go_wp2_with fail
   rw [<-HQ.out]
   exact Qo HB.out.r HB.out.below rfl rfl rfl rfl
  .by_cases h6:(ll:Int)<=si
   .obtain rfl:R=none:=by rw [<-hR];simp [stepP,V.ls,V.kd];have:=HLN.out;omega
    clear hR
    go_enter Tryz.func73,Tryz.ntmps73
    generalize hQ0:bodyPost _ _ _=Q0
    have HQ:=qh hQ0
    clear hQ0
    go_wp2_with fail
    rw [<-HQ.out]
    exact Qo HB.out.r HB.out.below rfl rfl rfl rfl
   .obtain ⟨j,rfl⟩:∃j:Nat,si=j:=⟨si.toNat,by omega⟩
    have hj:j<ll:=by omega
    obtain ⟨b,q,f,hp,rfl,hbB,hvf,hI⟩:=HL.out.get hj
    have hvf:=hvf.keep hb0 hbB
    have c0:=hvf.c0;have c1:=hvf.c1;have c2:=hvf.c2;have c3:=hvf.c3;have c4:=hvf.c4
    have hbw:b<w.heap.size:=Nat.lt_of_lt_of_le hbB hB0
    obtain rfl:R=some (l[j],j):=by rw [<-hR];simp [stepP,V.ls,V.kd,hp]
    have HI:=qh hI
    clear hR hI hvf
    go_enter Tryz.func73,Tryz.ntmps73
    generalize hQ0:bodyPost _ _ _=Q0
    have HQ:=qh hQ0
    clear hQ0
    go_wp2_with fail
    have B:=HB.out
    obtain ⟨W,hW⟩:∃W,(((w.alloc (.cells #[.int .u8 4, .int .i64 vn, .string vs, .slice (some ⟨b,q,none⟩) ll lc, .slice oa ol oc] 36)).alloc (.cells #[.bool true, .int .i64 j, .string sk] 77)).alloc (.cells #[.int .u8 0, .int .i64 0, .string { data:= #[] }, .slice none 0 0, .slice none 0 0] 36))=W:=⟨_,rfl⟩
    rw [hW] at B ⊢
    clear HB
    obtain ⟨v0,v1,v2,v3,v4⟩:=row5 B.v.at_
    have s0:=B.s.at_ 0 _ rfl;have s1:=B.s.at_ 1 _ rfl;have s2:=B.s.at_ 2 _ rfl
    obtain ⟨r0,r1,r2,r3,r4⟩:=row5 B.r.at_
    have f0:=B.r.fr 0;have f1:=B.r.fr 1;have f2:=B.r.fr 2;have f3:=B.r.fr 3;have f4:=B.r.fr 4
    have zs0:=B.v.lt;have zs1:=B.s.lt;have zs2:=B.r.lt
    have hkp:∀o u,w.cell? ⟨b,o,none⟩=some u->b<w.heap.size->W.cell? ⟨b,o,none⟩=some u:=fun o u h hb=>Zb B.below h hb
    have c0:=hkp _ _ c0 hbw;have c1:=hkp _ _ c1 hbw;have c2:=hkp _ _ c2 hbw;have c3:=hkp _ _ c3 hbw;have c4:=hkp _ _ c4 hbw
    have hbw:b<W.heap.size:=by have:=B.below.size;omega
    have HBB:=qh B
    clear B hkp
    go_region
    go_wp2_with fail
    rw [<-HQ.out]
    have ST:=HBB.out.stored f
    exact K2 (k:=j) (ST.1.keep (Zf _) ST.1.lt) HI.out ST.2.drew rfl rfl rfl rfl
set_option maxRecDepth 100000 in
theorem zk6 (w:World) (vk vn:Int) (vs:ByteArray) (la:Option Addr) (ll lc:Nat) (oa:Option Addr) (ol oc:Nat) (v:V) (w0:World) (B0:Nat) (hb0:Below B0 w0 w) (hB0:B0<=w.heap.size) (hv:IsVal w0 B0 v ⟨vk,vn,vs,la,ll,lc,oa,ol,oc⟩) (s:St) (hs:s.Bnd) (hl:s.list=false):
 Calls Tryz.prog 73 #[.agg #[.int .u8 vk, .int .i64 vn, .string vs, .slice la ll lc, .slice oa ol oc], .agg #[.bool s.list, .int .i64 s.i, .string s.key]] w (StepPost w0 B0 w (stepP v s)):=by
 obtain ⟨sl,si,sk⟩:=s
 dsimp only at hl hs ⊢
 subst hl
 have hi0:=hs.i0;have hi1:=hs.i1
 dsimp only at hi0 hi1
 obtain ⟨k',n',s',l,o,rfl⟩:=v.eta
 obtain ⟨ek,en,es,hbd,hvl,hvo⟩:=hv.lists
 dsimp only at ek en es hbd hvl hvo
 subst ek en es
 have k1:=hvl.few;have k2:=hvl.max;have k3:=hvo.few;have k4:=hvo.max
 have HL:=qh hvl
 have HO:=qh hvo
 have HLN:=qh hvl.len
 have HON:=qh hvo.len
 have HB:=qh (SB.start w ⟨vk,vn,vs,la,ll,lc,oa,ol,oc⟩ ⟨false,si,sk⟩ 36 77 36)
 obtain ⟨R,hR⟩:∃R,stepP (.mk vk vn vs l o) ⟨false,si,sk⟩=R:=⟨_,rfl⟩
 rw [hR]
 clear hvl hvo hv hs hbd
 have HF:Hid (∀W,Below w.heap.size w W->Calls Tryz.prog 75 #[.agg #[.int .u8 vk, .int .i64 vn, .string vs, .slice la ll lc, .slice oa ol oc], .string sk] W fun e w'=>e= .returned (.tuple #[.int .i64 (fieldK o sk:Int), .bool (fieldIs o sk)])/\Below W.heap.size W w'):=fun W hW=>Yg W o sk vk vn vs la ll lc oa ol oc (((HO.out.keep hb0).more hB0).later_ hW)
 obtain ⟨K,hK⟩:∃K,fieldK o sk=K:=⟨_,rfl⟩
 obtain ⟨is,hi⟩:∃is,fieldIs o sk=is:=⟨_,rfl⟩
 rw [hK,hi] at HF
 by_cases h4:vk=5
 case neg=>
  have f0:(vk !=5)=true:=by simp [h4]
  clear hK hi
  obtain rfl:R=none:=by rw [<-hR];simp [stepP,V.kd,h4]
  clear hR
  go_enter Tryz.func73,Tryz.ntmps73
  generalize hQ0:bodyPost _ _ _=Q0
  have HQ:=qh hQ0
  clear hQ0
  go_wp2_with fail
  refine (HF.out _ HB.out.below).mono ?_
  rintro e W ⟨rfl,hb1⟩
  have B:=HB.out.next hb1
  obtain ⟨v0,v1,v2,v3,v4⟩:=row5 B.v.at_
  have s0:=B.s.at_ 0 _ rfl;have s1:=B.s.at_ 1 _ rfl;have s2:=B.s.at_ 2 _ rfl
  obtain ⟨r0,r1,r2,r3,r4⟩:=row5 B.r.at_
  have f0:=B.r.fr 0;have f1:=B.r.fr 1;have f2:=B.r.fr 2;have f3:=B.r.fr 3;have f4:=B.r.fr 4
  have zs0:=B.v.lt;have zs1:=B.s.lt;have zs2:=B.r.lt
  have HBB:=qh B
  clear B hb1
  go_wp2_with fail
  rw [<-HQ.out]
  have ST:=HBB.out.stored ⟨0,0, { data:= #[] },none,0,0,none,0,0⟩
  exact Qo ST.1 ST.2 rfl rfl rfl rfl
 case pos=>
  cases h4
  cases is with
  | false=>
    clear hK
    obtain rfl:R=none:=by rw [<-hR];simp [stepP,V.os,hi]
    clear hR hi
    go_enter Tryz.func73,Tryz.ntmps73
    generalize hQ0:bodyPost _ _ _=Q0
    have HQ:=qh hQ0
    clear hQ0
    go_wp2_with fail
    refine (HF.out _ HB.out.below).mono ?_
    rintro e W ⟨rfl,hb1⟩
    have B:=HB.out.next hb1
    obtain ⟨v0,v1,v2,v3,v4⟩:=row5 B.v.at_
    have s0:=B.s.at_ 0 _ rfl;have s1:=B.s.at_ 1 _ rfl;have s2:=B.s.at_ 2 _ rfl
    obtain ⟨r0,r1,r2,r3,r4⟩:=row5 B.r.at_
    have f0:=B.r.fr 0;have f1:=B.r.fr 1;have f2:=B.r.fr 2;have f3:=B.r.fr 3;have f4:=B.r.fr 4
    have zs0:=B.v.lt;have zs1:=B.s.lt;have zs2:=B.r.lt
    have HBB:=qh B
    clear B hb1
    go_wp2_with fail
    rw [<-HQ.out]
    have ST:=HBB.out.stored ⟨0,0, { data:= #[] },none,0,0,none,0,0⟩
    exact Qo ST.1 ST.2 rfl rfl rfl rfl
  | true=>
    have hj:K<ol:=by have:=Yu hi;rw [hK, <-HON.out] at this;exact this
    obtain ⟨b,q,f,hp,rfl,hbB,_,_,hvf,hI⟩:=HO.out.get hj
    obtain rfl:R=some (o[K].2,K):=by rw [<-hR];simp [stepP,V.kd,V.os,hK,hi,hp]
    have HI:=qh hI
    have HVF:=qh hvf
    clear hR hI hvf hK hi
    go_enter Tryz.func73,Tryz.ntmps73
    generalize hQ0:bodyPost _ _ _=Q0
    have HQ:=qh hQ0
    clear hQ0
    go_wp2_with fail
    refine (HF.out _ HB.out.below).mono ?_
    rintro e W ⟨rfl,hb1⟩
    have B:=HB.out.next hb1
    obtain ⟨v0,v1,v2,v3,v4⟩:=row5 B.v.at_
    have s0:=B.s.at_ 0 _ rfl;have s1:=B.s.at_ 1 _ rfl;have s2:=B.s.at_ 2 _ rfl
    obtain ⟨r0,r1,r2,r3,r4⟩:=row5 B.r.at_
    have f0:=B.r.fr 0;have f1:=B.r.fr 1;have f2:=B.r.fr 2;have f3:=B.r.fr 3;have f4:=B.r.fr 4
    have zs0:=B.v.lt;have zs1:=B.s.lt;have zs2:=B.r.lt
    have hbw:b<w.heap.size:=Nat.lt_of_lt_of_le hbB hB0
    have hvf:=((HVF.out.keep hb0 hbB).keep HB.out.below hbw).keep hb1 (by have:=HB.out.below.size;omega)
    have c0:=hvf.c0;have c1:=hvf.c1;have c2:=hvf.c2;have c3:=hvf.c3;have c4:=hvf.c4
    have hbw:b<W.heap.size:=World.block_lt_of_cell? W _ c0
    have HBB:=qh B
    clear B hb1 hvf
    go_wp2_with fail
    rw [<-HQ.out]
    have ST:=HBB.out.stored f
    exact K2 (k:=K) ST.1 HI.out ST.2 rfl rfl rfl rfl
theorem J0 (w:World) (vk vn:Int) (vs:ByteArray) (la:Option Addr) (ll lc:Nat) (oa:Option Addr) (ol oc:Nat) (v:V) (w0:World) (B0:Nat) (hb0:Below B0 w0 w) (hB0:B0<=w.heap.size) (hv:IsVal w0 B0 v ⟨vk,vn,vs,la,ll,lc,oa,ol,oc⟩) (s:St) (hs:s.Bnd):
 Calls Tryz.prog 73 #[.agg #[.int .u8 vk, .int .i64 vn, .string vs, .slice la ll lc, .slice oa ol oc], .agg #[.bool s.list, .int .i64 s.i, .string s.key]] w (StepPost w0 B0 w (stepP v s)):=by
 cases hl:s.list with
 |true=>have:=zgo w vk vn vs la ll lc oa ol oc v w0 B0 hb0 hB0 hv s hs hl;rw [hl] at this;exact this
 |false=>have:=zk6 w vk vn vs la ll lc oa ol oc v w0 B0 hb0 hB0 hv s hs hl;rw [hl] at this;exact this
end Go.Proofs.YtnjgbiachcfigaaGreatDoor
