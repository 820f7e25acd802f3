/- Walks. -/
import Derived.Test.YtbgheehjfnoiiaaGreatDoorIu6
import Derived.Deep.Onto
namespace Go.Proofs.YtbgheehjfnoiiaaGreatDoor
open Go.RowKit
set_option maxRecDepth 100000
set_option maxHeartbeats 8000000
theorem zdv {W:World} {base:Nat} {e:TypeId} {g n cap:Nat} {cl:List VC} (h:W.ownsRow base e 5 (.slice (some ⟨g,0,none⟩) n cap) n (cl.flatMap vcells)) {k:Nat} (hk:k<cl.length) (z:VC):
 (setV W g (k*5) z).ownsRow base e 5 (.slice (some ⟨g,0,none⟩) n cap) n ((cl.set k z).flatMap vcells):=by
 have h1:=(h.stored (k*5) (.int .u8 z.k)).1;have h2:=(h1.stored (k*5+1) (.int .i64 z.n)).1;have h3:=(h2.stored (k*5+2) (.string z.s)).1;have h4:=(h3.stored (k*5+3) (.slice z.la z.ll z.lc)).1;have h5:=(h4.stored (k*5+4) (.slice z.oa z.ol z.oc)).1;rw [zbr cl k hk z] at h5;exact h5
theorem zj8 {W:World} {base:Nat} {e:TypeId} {g n cap:Nat} {co:List (ByteArray×VC)} (h:W.ownsRow base e 6 (.slice (some ⟨g,0,none⟩) n cap) n (co.flatMap fcells)) {k:Nat} (hk:k<co.length) (z:VC):
 (setV W g (k*6+1) z).ownsRow base e 6 (.slice (some ⟨g,0,none⟩) n cap) n ((co.set k (co[k].1,z)).flatMap fcells):=by
 have h1:=(h.stored (k*6+1) (.int .u8 z.k)).1;have h2:=(h1.stored (k*6+1+1) (.int .i64 z.n)).1;have h3:=(h2.stored (k*6+1+2) (.string z.s)).1;have h4:=(h3.stored (k*6+1+3) (.slice z.la z.ll z.lc)).1;have h5:=(h4.stored (k*6+1+4) (.slice z.oa z.ol z.oc)).1;rw [zfd co k hk z] at h5;exact h5
theorem RStep.grown {w w':World} {rb:Nat} (h:RStep w w' rb):w.grownBy w' (some rb):=⟨h.os,h.tape,h.output,h.size,fun k hk hne=>h.block k hk (fun e=>hne (by rw [e]))⟩
theorem RStep.lowC {w w':World} {rb B:Nat} (h:RStep w w' rb) (hB:B<=rb) (hw:B<=w.heap.size):Below B w w':=⟨h.os,h.tape,h.output,h.size,fun k hk=>h.block k (by omega) (by omega)⟩
def Soft (w:World) (S:Nat->Prop):Prop:=∀k q,S k->w.frozen? ⟨k,q,none⟩=false
def SepI (w:World) (lo hi:Nat) (v:V) (c:VC):Prop:=∃S:Nat->Prop,(∀k,S k->lo<=k/\k<hi)/\Soft w S/\Sep w S v c
structure Half (w wr:World) (base:Nat) (l:List V) (o:List (ByteArray×V)) (u uo:Value) (cl:List VC) (co:List (ByteArray×VC)) (j:Nat) (s:Nat->Nat):Prop where
 lenL:cl.length=l.length
 lenO:co.length=o.length
 keys:∀i (h:i<o.length) (h':i<co.length),co[i].1=o[i].1/\o[i].1.size<=140737488355328
 rowL:wr.ownsRow base 29 5 u l.length (cl.flatMap vcells)
 rowO:wr.ownsRow base 62 6 uo o.length (co.flatMap fcells)
 apart:∀g,u.ownBlock=some g->uo.ownBlock≠some g
 loL:∀g,u.ownBlock=some g->g<s 0
 loO:∀g,uo.ownBlock=some g->g<s 0
 s0:base<=s 0
 sj:s j=wr.heap.size
 jm:j<=l.length+o.length
 mono:∀i i',i<=i'->i'<=j->s i<=s i'
 elsL:∀i (h:i<l.length) (h':i<cl.length),i<j->SepI wr (s i) (s (i+1)) l[i] cl[i]
 elsO:∀i (h:i<o.length) (h':i<co.length),l.length+i<j->SepI wr (s (l.length+i)) (s (l.length+i+1)) o[i].2 co[i].2
 oldL:∀i (h:i<l.length) (h':i<cl.length),j<=i->IsVal w w.heap.size l[i] cl[i]
 oldO:∀i (h:i<o.length) (h':i<co.length),j<=l.length+i->IsVal w w.heap.size o[i].2 co[i].2
def more (s:Nat->Nat) (j z:Nat):Nat->Nat:=fun i=>if i<=j then s i else z
theorem Zt {s:Nat->Nat} {j z i:Nat} (h:i<=j):more s j z i=s i:=if_pos h
theorem Qh {s:Nat->Nat} {j z i:Nat} (h:j<i):more s j z i=z:=if_neg (by omega)
theorem zd8 {s:Nat->Nat} {j z:Nat} (h:∀i i',i<=i'->i'<=j->s i<=s i') (hz:s j<=z):∀i i',i<=i'->i'<=j+1->more s j z i<=more s j z i':=by
 intro i i' h1 h2;by_cases h3:i'<=j
 .rw [Zt h3,Zt (by omega)];exact h i i' h1 h3
 .rw [Qh (i:=i') (by omega)];by_cases h4:i<=j
  .rw [Zt h4];exact zzl (h i j h4 (zza _)) hz
  .rw [Qh (by omega)];exact zza _
theorem Sep.stay {w w4 W:World} {S:Nat->Prop} {v:V} {c:VC} {g:Nat} (h:Sep w S v c) (hb:uB w w4) (st:RStep w4 W g) (hg:¬S g):Sep W S v c:=
 h.keep (zzl hb.size st.size) fun k q hk=>by have hk2:=h.bnd k hk;exact World.cell?_of_block ((st.block k (zzj hk2 hb.size) (fun e=>hg (e ▸ hk))).trans (hb.block k hk2))
theorem Xa {w w':World} {k q:Nat} (h:w'.heap[k]? =w.heap[k]?):w'.frozen? ⟨k,q,none⟩=w.frozen? ⟨k,q,none⟩:=by simp only [World.frozen?,h]
theorem SepI.stay {w w4 W:World} {lo hi:Nat} {v:V} {c:VC} {g:Nat} (h:SepI w lo hi v c) (hb:uB w w4) (st:RStep w4 W g) (hg:¬(lo<=g/\g<hi)):SepI W lo hi v c:=by obtain ⟨S,h1,h2,h3⟩:=h;have hgS:¬S g:=fun e=>hg (h1 g e);refine ⟨S,h1,fun k q hk=> ?_,h3.stay hb st hgS⟩;have hk2:=h3.bnd k hk;rw [Xa ((st.block k (zzj hk2 hb.size) (fun e=>hgS (e ▸ hk))).trans (hb.block k hk2))];exact h2 k q hk
theorem SepI.at_ {w:World} {lo hi lo' hi':Nat} {v:V} {c:VC} (h:SepI w lo hi v c) (e1:lo=lo') (e2:hi=hi'):SepI w lo' hi' v c:=by subst e1 e2;exact h
theorem Half.stepL {w wr w4:World} {base:Nat} {l:List V} {o:List (ByteArray×V)} {u uo:Value} {cl:List VC} {co:List (ByteArray×VC)} {j:Nat} {s:Nat->Nat} (h:Half w wr base l o u uo cl co j s) (hj:j<l.length) {g nn cap:Nat} (hu:u= .slice (some ⟨g,0,none⟩) nn cap) {cx:VC}
 (hb:uB wr w4) (hs:SepI w4 wr.heap.size w4.heap.size l[j] cx):Half w (setV w4 g (j*5) cx) base l o u uo (cl.set j cx) co (j+1) (more s j w4.heap.size):=by
 have st:=Zh w4 g (j*5) cx;have hsz:(setV w4 g (j*5) cx).heap.size=w4.heap.size:=by simp [setV]
 have hgl:g<s 0:=h.loL g (by rw [hu];rfl);have hs0:s 0<=s j:=h.mono 0 j (Nat.zero_le _) (zza _);have hsj:=h.sj;have hw4:=hb.size;have hnn:nn=l.length:=by
  have h1:=h.rowL;rw [hu] at h1;rcases h1.2 with ⟨e,_⟩|⟨_,_,_,e,_⟩
  .cases e
  .injection e
 refine ⟨by rw [List.length_set];exact h.lenL,h.lenO,h.keys, ?_, ?_,h.apart,fun g' hg'=>by rw [Zt (Nat.zero_le _)];exact h.loL g' hg',fun g' hg'=>by rw [Zt (Nat.zero_le _)];exact h.loO g' hg',by rw [Zt (Nat.zero_le _)];exact h.s0,by rw [Qh (Nat.lt_succ_self j),hsz],by have:=h.jm;omega,zd8 h.mono (by omega),fun i hi hi' hij=> ?_,fun i hi hi' hij=> ?_,fun i hi hi' hij=> ?_,fun i hi hi' hij=>h.oldO i hi hi' (by omega)⟩
 .have h1:w4.ownsRow base 29 5 u l.length (cl.flatMap vcells):=h.rowL.kept (row:=none) ⟨hb.os,hb.tape,hb.output,hb.size,fun k hk _=>hb.block k hk⟩ (by cases hv:u.ownBlock<;>simp);subst hnn;rw [hu] at h1 ⊢;exact zdv h1 (by rw [h.lenL];exact hj) cx
 .have h1:w4.ownsRow base 62 6 uo o.length (co.flatMap fcells):=h.rowO.kept (row:=none) ⟨hb.os,hb.tape,hb.output,hb.size,fun k hk _=>hb.block k hk⟩ (by cases hv:uo.ownBlock<;>simp);exact h1.kept st.grown (.inr (h.apart g (by rw [hu];rfl)))
 .by_cases hi2:i<j
  .rw [List.getElem_set_ne (by omega)];exact ((h.elsL i hi (by rw [h.lenL];exact hi) hi2).stay hb st (fun e=>by have h1:=e.1;have h2:=h.mono 0 i (Nat.zero_le _) (by omega);omega)).at_ (Zt (by omega)).symm (Zt (by omega)).symm
  .obtain rfl:i=j:=by omega
   rw [List.getElem_set_self];exact (hs.stay (zzc _ _) st (fun e=>by have h1:=e.1;omega)).at_ (by rw [Zt (zza _),hsj]) (Qh (Nat.lt_succ_self _)).symm
 .refine SepI.at_ ?_ (Zt (by omega)).symm (Zt (by omega)).symm;exact (h.elsO i hi hi' (by omega)).stay hb st (fun e=>by have h1:=e.1;have h2:=h.mono 0 (l.length+i) (Nat.zero_le _) (by omega);omega)
 .rw [List.getElem_set_ne (by omega)];exact h.oldL i hi (by rw [h.lenL];exact hi) (by omega)
theorem Half.stepO {w wr w4:World} {base:Nat} {l:List V} {o:List (ByteArray×V)} {u uo:Value} {cl:List VC} {co:List (ByteArray×VC)} {j:Nat} {s:Nat->Nat} (h:Half w wr base l o u uo cl co (l.length+j) s) (hj:j<o.length) {g nn cap:Nat} (hu:uo= .slice (some ⟨g,0,none⟩) nn cap) {cx:VC} (hjc:j<co.length)
 (hb:uB wr w4) (hs:SepI w4 wr.heap.size w4.heap.size o[j].2 cx):Half w (setV w4 g (j*6+1) cx) base l o u uo cl (co.set j (co[j].1,cx)) (l.length+(j+1)) (more s (l.length+j) w4.heap.size):=by
 have st:=Zh w4 g (j*6+1) cx;have hsz:(setV w4 g (j*6+1) cx).heap.size=w4.heap.size:=by simp [setV]
 have hgl:g<s 0:=h.loO g (by rw [hu];rfl);have hs0:s 0<=s (l.length+j):=h.mono 0 _ (Nat.zero_le _) (zza _);have hsj:=h.sj;have hw4:=hb.size;have hnn:nn=o.length:=by
  have h1:=h.rowO;rw [hu] at h1;rcases h1.2 with ⟨e,_⟩|⟨_,_,_,e,_⟩
  .cases e
  .injection e
 refine ⟨h.lenL,by rw [List.length_set];exact h.lenO,fun i hi hi'=> ?_, ?_, ?_,h.apart,fun g' hg'=>by rw [Zt (Nat.zero_le _)];exact h.loL g' hg',fun g' hg'=>by rw [Zt (Nat.zero_le _)];exact h.loO g' hg',by rw [Zt (Nat.zero_le _)];exact h.s0,by rw [Qh (show l.length+j<l.length+(j+1) by omega),hsz],by have:=h.jm;omega,zd8 h.mono (show s (l.length+j)<=w4.heap.size by omega),fun i hi hi' hij=> ?_,fun i hi hi' hij=> ?_,fun i hi hi' hij=>h.oldL i hi hi' (by omega),fun i hi hi' hij=> ?_⟩
 .by_cases e:i=j
  .subst e;rw [List.getElem_set_self];exact h.keys i hi hjc
  .rw [List.getElem_set_ne (fun e'=>e e'.symm)];exact h.keys i hi (by rw [h.lenO];exact hi)
 .have h1:w4.ownsRow base 29 5 u l.length (cl.flatMap vcells):=h.rowL.kept (row:=none) ⟨hb.os,hb.tape,hb.output,hb.size,fun k hk _=>hb.block k hk⟩ (by cases hv:u.ownBlock<;>simp);exact h1.kept st.grown (.inr (fun e=>h.apart g e (by rw [hu];rfl)))
 .have h1:w4.ownsRow base 62 6 uo o.length (co.flatMap fcells):=h.rowO.kept (row:=none) ⟨hb.os,hb.tape,hb.output,hb.size,fun k hk _=>hb.block k hk⟩ (by cases hv:uo.ownBlock<;>simp);subst hnn;rw [hu] at h1 ⊢;exact zj8 h1 hjc cx
 .refine SepI.at_ ?_ (Zt (by omega)).symm (Zt (by omega)).symm;exact (h.elsL i hi hi' (by omega)).stay hb st (fun e=>by have h1:=e.1;have h2:=h.mono 0 i (Nat.zero_le _) (by omega);omega)
 .by_cases hi2:i<j
  .rw [List.getElem_set_ne (by omega)];exact ((h.elsO i hi (by rw [h.lenO];exact hi) (by omega)).stay hb st (fun e=>by have h1:=e.1;have h2:=h.mono 0 (l.length+i) (Nat.zero_le _) (by omega);omega)).at_ (Zt (by omega)).symm (Zt (by omega)).symm
  .obtain rfl:i=j:=by omega
   rw [List.getElem_set_self];exact (hs.stay (zzc _ _) st (fun e=>by have h1:=e.1;omega)).at_ (by rw [Zt (zza _),hsj]) (Qh (show l.length+i<l.length+i+1 by omega)).symm
 .rw [List.getElem_set_ne (by omega)];exact h.oldO i hi (by rw [h.lenO];exact hi) (by omega)
theorem Half.next {w wr W:World} {B j:Nat} {l:List V} {o:List (ByteArray×V)} {u uo:Value} {cl:List VC} {co:List (ByteArray×VC)} {s:Nat->Nat} (h:Half w wr (B+2) l o u uo cl co j s) (st:RStep wr W (B+1)) (hz:W.heap.size=wr.heap.size):Half w W B l o u uo cl co j s:=by
 have hs0:=h.s0;have ne:∀i,i<=j->¬(s i<=B+1/\B+1<s (i+1)):=fun i hi e=>by have h1:=e.1;have h2:=h.mono 0 i (Nat.zero_le _) hi;omega
 refine ⟨h.lenL,h.lenO,h.keys,(h.rowL.kept st.grown (.inr fun e=> ?_)).mono (Nat.le_add_right _ _),(h.rowO.kept st.grown (.inr fun e=> ?_)).mono (Nat.le_add_right _ _),h.apart,h.loL,h.loO,by omega,by rw [hz];exact h.sj,h.jm,h.mono,fun i hi hi' hij=>(h.elsL i hi hi' hij).stay (zzc _ _) st (ne _ (by omega)),fun i hi hi' hij=>(h.elsO i hi hi' hij).stay (zzc _ _) st (ne _ (by omega)),h.oldL,h.oldO⟩
 .have:=(h.rowL.lt _ e).1;omega
 .have:=(h.rowO.lt _ e).1;omega
theorem Half.beside {w wr W:World} {base j g:Nat} {l:List V} {o:List (ByteArray×V)} {u uo:Value} {cl:List VC} {co:List (ByteArray×VC)} {s:Nat->Nat} (h:Half w wr base l o u uo cl co j s) (st:RStep wr W g) (hg:g<base) (hz:W.heap.size=wr.heap.size):Half w W base l o u uo cl co j s:=by
 have hs0:=h.s0;have ne:∀i,i<=j->¬(s i<=g/\g<s (i+1)):=fun i hi e=>by have h1:=e.1;have h2:=h.mono 0 i (Nat.zero_le _) hi;omega
 refine ⟨h.lenL,h.lenO,h.keys,h.rowL.kept st.grown (.inr fun e=> ?_),h.rowO.kept st.grown (.inr fun e=> ?_),h.apart,h.loL,h.loO,h.s0,by rw [hz];exact h.sj,h.jm,h.mono,fun i hi hi' hij=>(h.elsL i hi hi' hij).stay (zzc _ _) st (ne _ (by omega)),fun i hi hi' hij=>(h.elsO i hi hi' hij).stay (zzc _ _) st (ne _ (by omega)),h.oldL,h.oldO⟩
 .have:=(h.rowL.lt _ e).1;omega
 .have:=(h.rowO.lt _ e).1;omega
theorem Half.low {w wr:World} {base base' j:Nat} {l:List V} {o:List (ByteArray×V)} {u uo:Value} {cl:List VC} {co:List (ByteArray×VC)} {s:Nat->Nat} (h:Half w wr base l o u uo cl co j s) (hb:base'<=base):Half w wr base' l o u uo cl co j s:=
 ⟨h.lenL,h.lenO,h.keys,h.rowL.mono hb,h.rowO.mono hb,h.apart,h.loL,h.loO,zzl hb h.s0,h.sj,h.jm,h.mono,h.elsL,h.elsO,h.oldL,h.oldO⟩
def Whole (w:World) (base:Nat) (x:V) (d:VC):Prop:=
 x= .mk d.k d.n d.s x.ls x.os/\d.Bnd/\∃(cl:List VC) (co:List (ByteArray×VC)) (S:Nat->Nat) (W0:World),Half W0 w base x.ls x.os (.slice d.la d.ll d.lc) (.slice d.oa d.ol d.oc) cl co (x.ls.length+x.os.length) S
theorem Whole.beside {w W:World} {base g:Nat} {x:V} {d:VC} (h:Whole w base x d) (st:RStep w W g) (hg:g<base) (hz:W.heap.size=w.heap.size):Whole W base x d:=by obtain ⟨h1,h2,cl,co,S,W0,h3⟩:=h;exact ⟨h1,h2,cl,co,S,W0,h3.beside st hg hz⟩
theorem Whole.low {w:World} {base base':Nat} {x:V} {d:VC} (h:Whole w base x d) (hb:base'<=base):Whole w base' x d:=by obtain ⟨h1,h2,cl,co,S,W0,h3⟩:=h;exact ⟨h1,h2,cl,co,S,W0,h3.low hb⟩
theorem Half.done {w wr:World} {base:Nat} {l:List V} {o:List (ByteArray×V)} {cl:List VC} {co:List (ByteArray×VC)} {s:Nat->Nat} {c:VC} (h:Half w wr base l o (.slice c.la c.ll c.lc) (.slice c.oa c.ol c.oc) cl co (l.length+o.length) s) (hb:c.Bnd):
 SepI wr base wr.heap.size (.mk c.k c.n c.s l o) c:=by
 have rL:c.ll=l.length/\(0<c.ll->∃g,c.la=some ⟨g,0,none⟩):=by
  rcases h.rowL.2 with ⟨e,e2⟩|⟨g,cap,cur,e,_⟩
  .injection e with e3 e4 e5;exact ⟨by omega,fun h0=>by omega⟩
  .injection e with e3 e4 e5;exact ⟨e4,fun _=>⟨g,e3⟩⟩
 have rO:c.ol=o.length/\(0<c.ol->∃g,c.oa=some ⟨g,0,none⟩):=by
  rcases h.rowO.2 with ⟨e,e2⟩|⟨g,cap,cur,e,_⟩
  .injection e with e3 e4 e5;exact ⟨by omega,fun h0=>by omega⟩
  .injection e with e3 e4 e5;exact ⟨e4,fun _=>⟨g,e3⟩⟩
 obtain ⟨gl,hgl⟩:∃gl,0<c.ll->c.la=some ⟨gl,0,none⟩:=by
  by_cases h0:0<c.ll
  .obtain ⟨g,hg⟩:=rL.2 h0;exact ⟨g,fun _=>hg⟩
  .exact ⟨0,fun h1=>absurd h1 h0⟩
 obtain ⟨go,hgo⟩:∃go,0<c.ol->c.oa=some ⟨go,0,none⟩:=by
  by_cases h0:0<c.ol
  .obtain ⟨g,hg⟩:=rO.2 h0;exact ⟨g,fun _=>hg⟩
  .exact ⟨0,fun h1=>absurd h1 h0⟩
 have oL:0<c.ll->(Value.slice c.la c.ll c.lc).ownBlock=some gl:=fun h0=>by rw [hgl h0];rfl
 have oO:0<c.ol->(Value.slice c.oa c.ol c.oc).ownBlock=some go:=fun h0=>by rw [hgo h0];rfl
 have hz:∀i,i<=l.length+o.length->s i<=wr.heap.size:=fun i hi=>by rw [<-h.sj];exact h.mono i _ hi (zza _)
 have hm:∀i,i<=l.length+o.length->s 0<=s i:=fun i hi=>h.mono 0 i (Nat.zero_le _) hi;have cL:∀i,i<l.length->ValAt wr gl (i*5) (cl.getD i c):=fun i hi=>by
  have h1:=h.rowL;rw [hgl (by omega),rL.1] at h1;have hl:=h.lenL;have e:cl.getD i c=cl[i]'(by omega):=by simp [List.getD_eq_getElem?_getD,show i<cl.length by omega]
  rw [e];have hbc:∀j v,(cl.flatMap vcells)[j]? =some v->wr.cell? ⟨gl,j,none⟩=some v:=fun j v hj=>by have hlen:(cl.flatMap vcells).length=l.length*5:=h1.1;rw [h1.cellAt j (by have:=(List.getElem?_eq_some_iff.1 hj).1;omega)];exact hj
  exact Y2 ⟨hbc,fun j=>h1.frozenAt j,(h1.lt gl rfl).2⟩ (by omega)
 have cO:∀i (hi:i<o.length),wr.cell? ⟨go,i*6,none⟩=some (.string o[i].1)/\o[i].1.size<=140737488355328/\ValAt wr go (i*6+1) (co.getD i (.empty,c)).2:=fun i hi=>by
  have h1:=h.rowO;rw [hgo (by omega),rO.1] at h1;have hl:=h.lenO;have e:co.getD i (.empty,c)=co[i]'(by omega):=by simp [List.getD_eq_getElem?_getD,show i<co.length by omega]
  rw [e];have hbc:∀j v,(co.flatMap fcells)[j]? =some v->wr.cell? ⟨go,j,none⟩=some v:=fun j v hj=>by have hlen:(co.flatMap fcells).length=o.length*6:=h1.1;rw [h1.cellAt j (by have:=(List.getElem?_eq_some_iff.1 hj).1;omega)];exact hj
  obtain ⟨g1,g2⟩:=Yc (W:=wr) (g:=go) ⟨hbc,fun j=>h1.frozenAt j,(h1.lt go rfl).2⟩ (i:=i) (by omega);obtain ⟨k1,k2⟩:=h.keys i hi (by omega);exact ⟨by rw [<-k1];exact g1,k2,g2⟩
 have hlL:=h.lenL;have hlO:=h.lenO;obtain ⟨TL,hTL⟩:=Classical.axiomOfChoice (fun i=>show ∃S:Nat->Prop,∀(hi:i<l.length) (hi':i<cl.length),(∀k,S k->s i<=k/\k<s (i+1))/\Soft wr S/\Sep wr S l[i] cl[i] by
  by_cases hi:i<l.length
  .obtain ⟨S,h1⟩:=h.elsL i hi (by omega) (by omega);exact ⟨S,fun _ _=>h1⟩
  .exact ⟨fun _=>False,fun h1 _=>absurd h1 hi⟩)
 obtain ⟨TO,hTO⟩:=Classical.axiomOfChoice (fun i=>show ∃S:Nat->Prop,∀(hi:i<o.length) (hi':i<co.length),(∀k,S k->s (l.length+i)<=k/\k<s (l.length+i+1))/\Soft wr S/\Sep wr S o[i].2 co[i].2 by
  by_cases hi:i<o.length
  .obtain ⟨S,h1⟩:=h.elsO i hi (by omega) (by omega);exact ⟨S,fun _ _=>h1⟩
  .exact ⟨fun _=>False,fun h1 _=>absurd h1 hi⟩)
 have bL:∀i,i<l.length->∀k,TL i k->s i<=k/\k<s (i+1):=fun i hi k hk=>(hTL i hi (by omega)).1 k hk;have bO:∀i,i<o.length->∀k,TO i k->s (l.length+i)<=k/\k<s (l.length+i+1):=fun i hi k hk=>(hTO i hi (by omega)).1 k hk;refine ⟨fun k=>(0<c.ll/\k=gl)∨(0<c.ol/\k=go)∨(∃i,i<l.length/\TL i k)∨(∃i,i<o.length/\TO i k),fun k hk=> ?_,fun k q hk=> ?_, ?_⟩
 .rcases hk with ⟨h0,rfl⟩|⟨h0,rfl⟩|⟨i,hi,hk⟩|⟨i,hi,hk⟩
  .exact h.rowL.lt _ (oL h0)
  .exact h.rowO.lt _ (oO h0)
  .have h1:=bL i hi k hk;have h3:=hm i (by omega);have h4:=hz (i+1) (by omega);have h5:=h.s0;omega
  .have h1:=bO i hi k hk;have h3:=hm (l.length+i) (by omega);have h4:=hz (l.length+i+1) (by omega);have h5:=h.s0;omega
 .rcases hk with ⟨h0,rfl⟩|⟨h0,rfl⟩|⟨i,hi,hk⟩|⟨i,hi,hk⟩
  .have h1:=h.rowL;rw [hgl h0,rL.1] at h1;exact h1.frozenAt q
  .have h1:=h.rowO;rw [hgo h0,rO.1] at h1;exact h1.frozenAt q
  .exact (hTL i hi (by omega)).2.1 k q hk
  .exact (hTO i hi (by omega)).2.1 k q hk
 refine .mk _ c l o (fun i=>cl.getD i c) (fun i=>(co.getD i (.empty,c)).2) gl go TL TO hb rL.1 rO.1 (fun k hk=> ?_) (fun h0=>⟨hgl h0, .inl ⟨h0,rfl⟩⟩) (fun h0=>⟨hgo h0, .inr (.inl ⟨h0,rfl⟩)⟩) (fun h0 h1 e=> ?_) cL cO (fun i hi=> ?_) (fun i hi=> ?_) (fun i hi k hk=> ?_) (fun i hi k hk=> ?_) (fun i i' hi hi' hne k hk hk'=> ?_) (fun i i' hi hi' hne k hk hk'=> ?_) (fun i i' hi hi' k hk hk'=> ?_)
 .rcases hk with ⟨h0,rfl⟩|⟨h0,rfl⟩|⟨i,hi,hk⟩|⟨i,hi,hk⟩
  .exact (h.rowL.lt _ (oL h0)).2
  .exact (h.rowO.lt _ (oO h0)).2
  .have h1:=bL i hi k hk;have h4:=hz (i+1) (by omega);omega
  .have h1:=bO i hi k hk;have h4:=hz (l.length+i+1) (by omega);omega
 .exact h.apart gl (oL h0) (by rw [oO h1,e])
 .have e:cl.getD i c=cl[i]'(by omega):=by simp [List.getD_eq_getElem?_getD,show i<cl.length by omega]
  rw [e];exact (hTL i hi (by omega)).2.2
 .have e:co.getD i (.empty,c)=co[i]'(by omega):=by simp [List.getD_eq_getElem?_getD,show i<co.length by omega]
  rw [e];exact (hTO i hi (by omega)).2.2
 .have h1:=bL i hi k hk;have h3:=hm i (by omega);exact ⟨.inr (.inr (.inl ⟨i,hi,hk⟩)),fun e=>by have:=h.loL gl (oL (by omega));omega,fun h0 e=>by have:=h.loO go (oO h0);omega⟩
 .have h1:=bO i hi k hk;have h3:=hm (l.length+i) (by omega);exact ⟨.inr (.inr (.inr ⟨i,hi,hk⟩)),fun e=>by have:=h.loO go (oO (by omega));omega,fun h0 e=>by have:=h.loL gl (oL h0);omega⟩
 .have h1:=bL i hi k hk;have h3:=bL i' hi' k hk';rcases Nat.lt_or_ge i i' with h5|h5
  .have:=h.mono (i+1) i' (by omega) (by omega);omega
  .have:=h.mono (i'+1) i (by omega) (by omega);omega
 .have h1:=bO i hi k hk;have h3:=bO i' hi' k hk';rcases Nat.lt_or_ge i i' with h5|h5
  .have:=h.mono (l.length+i+1) (l.length+i') (by omega) (by omega);omega
  .have:=h.mono (l.length+i'+1) (l.length+i) (by omega) (by omega);omega
 .have h1:=bL i hi k hk;have h3:=bO i' hi' k hk';have:=h.mono (i+1) (l.length+i') (by omega) (by omega);omega
theorem Whole.sepI {w:World} {base:Nat} {x:V} {d:VC} (h:Whole w base x d):SepI w base w.heap.size x d:=by obtain ⟨h1,h2,cl,co,S,W0,h3⟩:=h;rw [h1];exact h3.done h2
theorem SepI.isVal {w:World} {lo hi:Nat} {x:V} {d:VC} (h:SepI w lo hi x d):IsVal (only (fun b=>lo<=b) w) w.heap.size x d:=by obtain ⟨S,h1,_,h3⟩:=h;exact h3.isVal fun k hk=>(h1 k hk).1
theorem _root_.Go.RowKit.Below.set_ {B b o:Nat} {a w:World} {x:Value} (h:Below B a w) (hb:B<=b):Below B a (w.setCell ⟨b,o,none⟩ x):=
 h.trans ⟨rfl,rfl,rfl,by simp,fun k hk=>heap_setCell_other _ _ _ _ (show k≠b by omega)⟩
theorem Zo (w:World) (o:Obj):Below w.heap.size w.drew (w.alloc o).drew:=(zzc w.heap.size w.drew).alloc (zza _) o
theorem Xk {w W:World} {cs:Array Value} {t:TypeId} (hb:Below (w.alloc (.cells cs t)).drew.heap.size (w.alloc (.cells cs t)).drew W):BC W w.heap.size cs.toList:=
 ((BC.start w cs t).keep (Zf _) (by simp)).keep hb (show w.heap.size<(w.alloc (.cells cs t)).heap.size by simp)
theorem _root_.Go.RowKit.Below.set5' {B b:Nat} {a w:World} (h:Below B a w) (hb:B<=b) (x0 x1 x2 x3 x4:Value):Below B a (((((w.setCell ⟨b,0,none⟩ x0).setCell ⟨b,1,none⟩ x1).setCell ⟨b,2,none⟩ x2).setCell ⟨b,3,none⟩ x3).setCell ⟨b,4,none⟩ x4):=
 ((((h.set_ hb).set_ hb).set_ hb).set_ hb).set_ hb
theorem _root_.Go.RowKit.Below.set5 {B:Nat} {a w:World} (h:Below B a w) (x0 x1 x2 x3 x4:Value):Below B a (((((w.setCell ⟨B,0,none⟩ x0).setCell ⟨B,1,none⟩ x1).setCell ⟨B,2,none⟩ x2).setCell ⟨B,3,none⟩ x3).setCell ⟨B,4,none⟩ x4):=h.set5' (zza _) _ _ _ _ _
theorem StepPost.gen {w0:World} {B0:Nat} {w:World} {r:Option (V×Nat)} {e:Ending} {w':World} (h:StepPost w0 B0 w r e w'):∃(d:VC) (k er:Int),e= .returned (.tuple #[.agg #[.int .u8 d.k, .int .i64 d.n, .string d.s, .slice d.la d.ll d.lc, .slice d.oa d.ol d.oc], .int .i64 k, .int .i64 er])/\Hid ((r=none/\er=30)∨∃q,r=some q/\k=(q.2:Int)/\er=0/\IsVal w0 B0 q.1 d)/\uB w w':=by
 delta uB;obtain ⟨h1,h2⟩:=h
 cases r with
 |none=>exact ⟨vzero,0,30,h1, .inl ⟨rfl,rfl⟩,h2⟩
 | some q=>obtain ⟨c,h3,h4⟩:=h1;exact ⟨c,q.2,0,h3, .inr ⟨q,rfl,rfl,rfl,h4⟩,h2⟩
theorem Zq {Q:Exit->Act->World->Prop} {a:Act} {W0:World} (P:World->Prop) (h0:P W0) (h:∀W,P W->Q .normal a W):NoPanic Q .normal a W0:=h W0 h0
theorem Jc {w w4:World} (h:Below w.heap.size w.drew w4) (hz:w.heap.size<=w4.heap.size) (d:VC) (t:TypeId):BC (w4.alloc (.cells #[.int .u8 d.k, .int .i64 d.n, .string d.s, .slice d.la d.ll d.lc, .slice d.oa d.ol d.oc] t)) w4.heap.size (vcells d)/\Below w.heap.size w.drew (w4.alloc (.cells #[.int .u8 d.k, .int .i64 d.n, .string d.s, .slice d.la d.ll d.lc, .slice d.oa d.ol d.oc] t))/\w.heap.size<=w4.heap.size:=
 ⟨BC.start w4 (uV d) t,h.alloc hz _,hz⟩
theorem Q4 {w w4:World} (h:Below w.heap.size w.drew w4) (d:VC) (x:BC w4 w.heap.size [.int .u8 0, .int .i64 0, .string { data:= #[] }, .slice none 0 0, .slice none 0 0]):BC (((((w4.setCell ⟨w.heap.size,0,none⟩ (.int .u8 d.k)).setCell ⟨w.heap.size,1,none⟩ (.int .i64 d.n)).setCell ⟨w.heap.size,2,none⟩ (.string d.s)).setCell ⟨w.heap.size,3,none⟩ (.slice d.la d.ll d.lc)).setCell ⟨w.heap.size,4,none⟩ (.slice d.oa d.ol d.oc)) w.heap.size (vcells d)/\Below w.heap.size w.drew (((((w4.setCell ⟨w.heap.size,0,none⟩ (.int .u8 d.k)).setCell ⟨w.heap.size,1,none⟩ (.int .i64 d.n)).setCell ⟨w.heap.size,2,none⟩ (.string d.s)).setCell ⟨w.heap.size,3,none⟩ (.slice d.la d.ll d.lc)).setCell ⟨w.heap.size,4,none⟩ (.slice d.oa d.ol d.oc))/\w.heap.size<=w.heap.size:=
 ⟨Zx (c0:=vzero) x d,Below.set5' h (zza _) _ _ _ _ _,zza _⟩
def GetPost (w:World) (r:Option V) (e:Ending) (w':World):Prop:=
 (match r with
  |some x=>∃c:VC,e= .returned (.tuple #[.agg #[.int .u8 c.k, .int .i64 c.n, .string c.s, .slice c.la c.ll c.lc, .slice c.oa c.ol c.oc], .int .i64 0])/\IsVal (only (fun b=>w.heap.size<=b) w') w'.heap.size x c
  |none=>e= .returned (.tuple #[.agg #[.int .u8 0, .int .i64 0, .string { data:= #[] }, .slice none 0 0, .slice none 0 0], .int .i64 30]))/\Below w.heap.size w w'
theorem zbz {tmps:Array Value} {W:World} {b:Nat} {c:VC} {x:Value} (ht:tmps[4]? =some (.pointer (some ⟨b,0,none⟩))) (hx:tmps[5]? =some x) (h:BC W b (vcells c)):
 (results Tryz.f58 tmps).run Tryz.prog W= .ok (.tuple #[.agg #[.int .u8 c.k, .int .i64 c.n, .string c.s, .slice c.la c.ll c.lc, .slice c.oa c.ol c.oc],x]) W:=by
 obtain ⟨r0,r1,r2,r3,r4⟩:=(⟨h.at_ 0 _ rfl,h.at_ 1 _ rfl,h.at_ 2 _ rfl,h.at_ 3 _ rfl,h.at_ 4 _ rfl⟩:W.cell? ⟨b,0,none⟩=some (.int .u8 c.k)/\W.cell? ⟨b,1,none⟩=some (.int .i64 c.n)/\W.cell? ⟨b,2,none⟩=some (.string c.s)/\W.cell? ⟨b,3,none⟩=some (.slice c.la c.ll c.lc)/\W.cell? ⟨b,4,none⟩=some (.slice c.oa c.ol c.oc));simp [results,Tryz.results58,go_sem,ht,hx,r0,r1,r2,r3,r4]
theorem znh {w W:World} {x:Act} (h:BC W (w.heap.size+1) (vcells vzero)) (hb:uB w W) (hd:x.defers= []) (ht:x.tmps[4]? =some (.pointer (some ⟨w.heap.size+1,0,none⟩))) (hx:x.tmps[5]? =some (.int .i64 30)):
 bodyPost Tryz.prog Tryz.f58 (GetPost w none) .ret x W:=⟨hd,_,zbz ht hx h,rfl,hb⟩
theorem zm7 {w W:World} {x:Act} {c:VC} {v:V} (h:BC W (w.heap.size+1) (vcells c)) (hv:IsVal (only (fun b=>w.heap.size<=b) W) W.heap.size v c) (hb:uB w W) (hd:x.defers= []) (ht:x.tmps[4]? =some (.pointer (some ⟨w.heap.size+1,0,none⟩))) (hx:x.tmps[5]? =some (.int .i64 0)):
 bodyPost Tryz.prog Tryz.f58 (GetPost w (some v)) .ret x W:=⟨hd,_,zbz ht hx h,⟨c,rfl,hv⟩,hb⟩
structure GB (w W:World) (c:VC):Prop where
 v:BC W w.heap.size (vcells c)
 r:BC W (w.heap.size+1) (vcells vzero)
 below:Below w.heap.size w W
theorem GB.start (w:World) (c:VC) (t1 t3:TypeId):GB w ((w.alloc (.cells #[.int .u8 c.k, .int .i64 c.n, .string c.s, .slice c.la c.ll c.lc, .slice c.oa c.ol c.oc] t1)).alloc (.cells #[.int .u8 0, .int .i64 0, .string { data:= #[] }, .slice none 0 0, .slice none 0 0] t3)) c:=by have h:=CL.start w c t1 t3 [];exact ⟨h.box,h.res,h.below⟩
theorem GB.next {w W W':World} {c:VC} {B:Nat} (h:GB w W c) (hb:Below B W W') (hB:w.heap.size+2<=B):GB w W' c:=
 ⟨h.v.keep hb (by omega),h.r.keep hb (by omega),h.below.trans (hb.mono (by omega))⟩
theorem GB.store {w W:World} {c:VC} (h:GB w W c) (d:VC):GB w (((((W.setCell ⟨w.heap.size,0,none⟩ (.int .u8 d.k)).setCell ⟨w.heap.size,1,none⟩ (.int .i64 d.n)).setCell ⟨w.heap.size,2,none⟩ (.string d.s)).setCell ⟨w.heap.size,3,none⟩ (.slice d.la d.ll d.lc)).setCell ⟨w.heap.size,4,none⟩ (.slice d.oa d.ol d.oc)) d:=
 ⟨Zx h.v d,h.r.next (Zh W w.heap.size 0 d) (by omega),Below.set5' h.below (zza _) _ _ _ _ _⟩
theorem GB.result {w W:World} {c:VC} (h:GB w W c) (d:VC):BC (((((W.setCell ⟨w.heap.size+1,0,none⟩ (.int .u8 d.k)).setCell ⟨w.heap.size+1,1,none⟩ (.int .i64 d.n)).setCell ⟨w.heap.size+1,2,none⟩ (.string d.s)).setCell ⟨w.heap.size+1,3,none⟩ (.slice d.la d.ll d.lc)).setCell ⟨w.heap.size+1,4,none⟩ (.slice d.oa d.ol d.oc)) (w.heap.size+1) (vcells d)/\uB w (((((W.setCell ⟨w.heap.size+1,0,none⟩ (.int .u8 d.k)).setCell ⟨w.heap.size+1,1,none⟩ (.int .i64 d.n)).setCell ⟨w.heap.size+1,2,none⟩ (.string d.s)).setCell ⟨w.heap.size+1,3,none⟩ (.slice d.la d.ll d.lc)).setCell ⟨w.heap.size+1,4,none⟩ (.slice d.oa d.ol d.oc)):=
 ⟨Zx h.r d,Below.set5' h.below (by omega) _ _ _ _ _⟩
theorem X8 (w:World) (vk vn:Int) (vs:ByteArray) (la:Option Addr) (ll lc:Nat) (oa:Option Addr) (ol oc:Nat) (v:V) (hv:IsVal w w.heap.size v ⟨vk,vn,vs,la,ll,lc,oa,ol,oc⟩) (p:List St) (a:Option Addr) (n c:Nat) (hp:IsSteps w w.heap.size p a n c):
 uP 58 #[.agg (uU vk vn vs la ll lc oa ol oc), .slice a n c] w (GetPost w (getP v p)):=by
 delta uU uP;have k1:=hp.few;have k2:=hp.max;have HLN:=qh hp.len;have HP:=qh hp;have HV:=qh hv;have HB:=qh (GB.start w ⟨vk,vn,vs,la,ll,lc,oa,ol,oc⟩ 29 29);obtain ⟨R,hR⟩:∃R,getP v p=R:=⟨_,rfl⟩;rw [hR];have HR:=qh hR;clear hp hv hR;go_enter Tryz.func58,Tryz.ntmps58
 generalize hQ0:bodyPost _ _ _=Q0;have HQ:=qh hQ0;clear hQ0;go_wp2_with fail
 go_loopw [6,7,8,9] (fun i _ _ _ wr=>∃(j:Nat) (x:V) (c:VC),j<=n/\i= .int .i64 j/\Hid (getP x (p.drop j)=R)/\Hid (IsVal w w.heap.size x c)/\GB w wr c) (fun i _ _ _ _=>n - (intOf i).toNat)
 case atStart=>exact ⟨0,v,_,Nat.zero_le _,rfl,HR,HV,HB.out⟩
 case round=>
  obtain ⟨j,x,cx,hj,rfl,HX,HXV,B⟩:=hrel;clear HB HR HV;obtain ⟨v0,v1,v2,v3,v4⟩:=row5 B.v.at_;obtain ⟨r0,r1,r2,r3,r4⟩:=row5 B.r.at_;have e0:=B.v.fr 0;have e1:=B.v.fr 1;have e2:=B.v.fr 2;have e3:=B.v.fr 3;have e4:=B.v.fr 4;have f0:=B.r.fr 0;have f1:=B.r.fr 1;have f2:=B.r.fr 2;have f3:=B.r.fr 3;have f4:=B.r.fr 4;have zs0:=B.v.lt;have zs1:=B.r.lt;have HBB:=qh B;by_cases hlt:j<n
  .obtain ⟨b,q,hpl,rfl,hbB,hs,hsb⟩:=HP.out.get hlt;have hs:=hs.keep B.below hbB;obtain ⟨s,hse⟩:∃s,p[j] =s:=⟨_,rfl⟩;rw [hse] at hs hsb;have s0:=hs.c0;have s1:=hs.c1;have s2:=hs.c2;have hbw:b<wr.heap.size:=zzi wr _ s0;have hdr:p.drop j=s::p.drop (j+1):=by rw [<-hse];exact List.drop_eq_getElem_cons hpl
   have HDR:=qh hdr;have hzs:=B.below.size;have HC:Hid (∀W,Below wr.heap.size wr.drew W->uP 104 #[.agg (uV cx), .agg #[.bool s.list, .int .i64 s.i, .string s.key]] W (StepPost w w.heap.size W (stepP x s))):=fun W hW=>zae W cx.k cx.n cx.s cx.la cx.ll cx.lc cx.oa cx.ol cx.oc x w w.heap.size ((HBB.out.below.trans ((Zf wr).mono hzs)).trans (hW.mono hzs)) (zzl hzs hW.size) HXV.out s hsb;have HFB:Hid (∀W,Below wr.heap.size wr.drew W->W.cell? ⟨w.heap.size,0,none⟩=some (.int .u8 cx.k)/\W.cell? ⟨w.heap.size,1,none⟩=some (.int .i64 cx.n)/\W.cell? ⟨w.heap.size,2,none⟩=some (.string cx.s)/\W.cell? ⟨w.heap.size,3,none⟩=some (.slice cx.la cx.ll cx.lc)/\W.cell? ⟨w.heap.size,4,none⟩=some (.slice cx.oa cx.ol cx.oc)/\W.cell? ⟨b,q+j*3,none⟩=some (.bool s.list)/\W.cell? ⟨b,q+j*3+1,none⟩=some (.int .i64 s.i)/\W.cell? ⟨b,q+j*3+2,none⟩=some (.string s.key)):=by intro W hW;have hk:∀b o u,b<wr.heap.size->wr.cell? ⟨b,o,none⟩=some u->W.cell? ⟨b,o,none⟩=some u:=fun b o u hb h=>Zb hW (Zb (Zf wr) h hb) hb;exact ⟨hk _ _ _ zs0 v0,hk _ _ _ zs0 v1,hk _ _ _ zs0 v2,hk _ _ _ zs0 v3,hk _ _ _ zs0 v4,hk _ _ _ hbw s0,hk _ _ _ hbw s1,hk _ _ _ hbw s2⟩
   have HST:=qh (show stepP x s=stepP x s from rfl);clear B hs hdr HST;go_wp2_with fail;refine wp_region_noPanic ?_;go_region_held_law (fun W=>W.cell? ⟨w.heap.size,0,none⟩=some (.int .u8 cx.k)/\W.cell? ⟨w.heap.size,1,none⟩=some (.int .i64 cx.n)/\W.cell? ⟨w.heap.size,2,none⟩=some (.string cx.s)/\W.cell? ⟨w.heap.size,3,none⟩=some (.slice cx.la cx.ll cx.lc)/\W.cell? ⟨w.heap.size,4,none⟩=some (.slice cx.oa cx.ol cx.oc)/\W.cell? ⟨b,q+j*3,none⟩=some (.bool s.list)/\W.cell? ⟨b,q+j*3+1,none⟩=some (.int .i64 s.i)/\W.cell? ⟨b,q+j*3+2,none⟩=some (.string s.key))
    ((refine HFB.out _ ?_;(first|(with_reducible exact bl4)|(with_reducible exact zzc _ _)|(with_reducible exact Zo _ _)|(with_reducible exact Below.set5 bl4 _ _ _ _ _)|(with_reducible exact Below.set5' (Below.alloc bl4 bz4 _) bz4 _ _ _ _ _)|(with_reducible exact Below.alloc bl4 bz4 _))))
    (first
     |(go_at_call 104;(with_reducible refine (HC.out _ (zzc _ _)).mono ?_);rintro e w4 h4;obtain ⟨d,kk,er,rfl,hrel,hb4⟩:=StepPost.gen h4;clear h4;have bl4:Below wr.heap.size wr.drew w4:=hb4;have bz4:wr.heap.size<=w4.heap.size:=hb4.size)
     |(go_at_call 104;(with_reducible refine (HC.out _ (Zo _ _)).mono ?_);rintro e w4 h4;obtain ⟨d,kk,er,rfl,hrel,hb4⟩:=StepPost.gen h4;clear h4;have bl4:Below wr.heap.size wr.drew w4:=(Zo _ _).trans (hb4.mono (by simp));have bz4:wr.heap.size<=w4.heap.size:=bl4.size;have XB:=Xk hb4;obtain ⟨xc0,xc1,xc2,xc3,xc4⟩:=row5 XB.at_;have xg0:=XB.fr 0;have xg1:=XB.fr 1;have xg2:=XB.fr 2;have xg3:=XB.fr 3;have xg4:=XB.fr 4;have xl:=XB.lt))
   all_goals
    (first
     |(with_reducible refine Zq (P:=fun W=>BC W w4.heap.size (vcells d)/\Below wr.heap.size wr.drew W/\wr.heap.size<=w4.heap.size) (Jc bl4 bz4 d _) ?_)
     |(with_reducible refine Zq (P:=fun W=>BC W wr.heap.size (vcells d)/\Below wr.heap.size wr.drew W/\wr.heap.size<=wr.heap.size) (Q4 bl4 d XB) ?_))
    rintro W ⟨XF,hbW,hxb⟩;have B2:=HBB.out.next ((Zf wr).trans hbW) (Nat.succ_le_of_lt zs1);clear v0 v1 v2 v3 v4 r0 r1 r2 r3 r4 e0 e1 e2 e3 e4 f0 f1 f2 f3 f4 s0 s1 s2 hb4 bl4;obtain ⟨v0,v1,v2,v3,v4⟩:=row5 B2.v.at_;obtain ⟨r0,r1,r2,r3,r4⟩:=row5 B2.r.at_;have e0:=B2.v.fr 0;have e1:=B2.v.fr 1;have e2:=B2.v.fr 2;have e3:=B2.v.fr 3;have e4:=B2.v.fr 4;have f0:=B2.r.fr 0;have f1:=B2.r.fr 1;have f2:=B2.r.fr 2;have f3:=B2.r.fr 3;have f4:=B2.r.fr 4;obtain ⟨y0,y1,y2,y3,y4⟩:=row5 XF.at_;have zt0:=B2.v.lt;have zt1:=B2.r.lt;have zt2:=XF.lt;have HB2:=qh B2;clear B2 XF hbW;rcases hrel.out with ⟨hst,rfl⟩|⟨qq,hst,rfl,rfl,hI⟩
    .obtain rfl:R=none:=by rw [<-HX.out,HDR.out,getP,hst]
     clear hst;go_wp2_with fail;rw [<-HQ.out];have ST:=HB2.out.result ⟨0,0, { data:= #[] },none,0,0,none,0,0⟩;exact znh ST.1 ST.2 rfl rfl rfl
    .have hnx:getP qq.1 (p.drop (j+1))=R:=by rw [<-HX.out,HDR.out,getP,hst]
     have HNX:=qh hnx;have HI:=qh hI;clear hst hnx hI;go_wp2_with fail;go_roundw
     case rel=>exact ⟨j+1,qq.1,d,by omega,by go_num,HNX,HI,HB2.out.store d⟩
     case measure=>simp [intOf];omega
  .have hjn:j=n:=by omega
   subst hjn;obtain rfl:R=some x:=by rw [<-HX.out,HLN.out,List.drop_length,getP]
   have HC:Hid (uP 37 #[.agg (uV cx)] wr (NewVal wr x)):=Ym x wr cx ((HXV.out.keep B.below).more B.below.size);clear B;go_wp2_with fail;refine HC.out.mono ?_;rintro e w4 ⟨⟨d,rfl,hI4⟩,hb4⟩;have B2:=HBB.out.next hb4 (Nat.succ_le_of_lt zs1);clear v0 v1 v2 v3 v4 r0 r1 r2 r3 r4 e0 e1 e2 e3 e4 f0 f1 f2 f3 f4;obtain ⟨r0,r1,r2,r3,r4⟩:=row5 B2.r.at_;have f0:=B2.r.fr 0;have f1:=B2.r.fr 1;have f2:=B2.r.fr 2;have f3:=B2.r.fr 3;have f4:=B2.r.fr 4;have zt0:=B2.v.lt;have zt1:=B2.r.lt;have HB2:=qh B2;have HI:=qh hI4;clear B2 hI4 hb4;go_wp2_with fail;rw [<-HQ.out];have ST:=HB2.out.result d;exact zm7 ST.1 ((Zm HI.out (Zh w4 (w.heap.size+1) 0 d) zs1).sub (Zc fun k hk _=>⟨by have:=HBB.out.below.size;omega,rfl⟩)) ST.2 rfl rfl rfl
theorem OwnRow.later_ {w W:World} {base:Nat} {a:Option Addr} {n c:Nat} {cells:List Value} (h:OwnRow w base a n c cells) (hb:uB w W):OwnRow W base a n c cells:=
 ⟨h.cap,h.max,h.none_,fun hp=>by
  obtain ⟨g,e,hg,hbc⟩:=h.row hp;exact ⟨g,e,hg,hbc.keep hb hbc.lt⟩⟩
theorem Fresh.later_ {w W:World} {base:Nat} {l:List V} {o:List (ByteArray×V)} {a:Option Addr} {m c:Nat} {a':Option Addr} {m' c':Nat} {cl:List VC} {co:List (ByteArray×VC)} (h:Fresh w base l o a m c a' m' c' cl co) (hb:uB w W):Fresh W base l o a m c a' m' c' cl co:=by have hsh:Shows (only (Free2 base (.slice a m c) (.slice a' m' c')) w) (only (Free2 base (.slice a m c) (.slice a' m' c')) W) w.heap.size:=Zc fun q hq hl=>⟨hq,hb.block q hl⟩;exact ⟨h.len,h.len',h.ll,h.lo,h.few,h.few',h.ownL.later_ hb,h.ownO.later_ hb,h.ne,fun i hi=>PV.closed _ _ _ _ _ _ i hsh hb.size (h.lv i hi),fun i hi=>PF.closed _ _ _ _ _ _ i hsh hb.size (h.ov i hi)⟩
theorem GetPost.gen {w:World} {r:Option V} {e:Ending} {w':World} (h:GetPost w r e w'):∃(d:VC) (er:Int),e= .returned (.tuple #[.agg #[.int .u8 d.k, .int .i64 d.n, .string d.s, .slice d.la d.ll d.lc, .slice d.oa d.ol d.oc], .int .i64 er])/\Hid ((r=none/\er=30)∨∃z,r=some z/\er=0/\IsVal (only (fun b=>w.heap.size<=b) w') w'.heap.size z d)/\uB w w':=by
 delta uB;obtain ⟨h1,h2⟩:=h
 cases r with
 |none=>exact ⟨vzero,30,h1, .inl ⟨rfl,rfl⟩,h2⟩
 | some q=>obtain ⟨c,h3,h4⟩:=h1;exact ⟨c,0,h3, .inr ⟨q,rfl,rfl,h4⟩,h2⟩
theorem ze9 {tmps:Array Value} {W:World} {b:Nat} {c:VC} {x:Value} (ht:tmps[6]? =some (.pointer (some ⟨b,0,none⟩))) (hx:tmps[7]? =some x) (h:BC W b (vcells c)):
 (results Tryz.f66 tmps).run Tryz.prog W= .ok (.tuple #[.agg #[.int .u8 c.k, .int .i64 c.n, .string c.s, .slice c.la c.ll c.lc, .slice c.oa c.ol c.oc],x]) W:=by
 obtain ⟨r0,r1,r2,r3,r4⟩:=(⟨h.at_ 0 _ rfl,h.at_ 1 _ rfl,h.at_ 2 _ rfl,h.at_ 3 _ rfl,h.at_ 4 _ rfl⟩:W.cell? ⟨b,0,none⟩=some (.int .u8 c.k)/\W.cell? ⟨b,1,none⟩=some (.int .i64 c.n)/\W.cell? ⟨b,2,none⟩=some (.string c.s)/\W.cell? ⟨b,3,none⟩=some (.slice c.la c.ll c.lc)/\W.cell? ⟨b,4,none⟩=some (.slice c.oa c.ol c.oc));simp [results,Tryz.results66,go_sem,ht,hx,r0,r1,r2,r3,r4]
theorem J2 {w W:World} {x:Act} (h:BC W (w.heap.size+1+1) (vcells vzero)) (hb:uB w W) (hd:x.defers= []) (ht:x.tmps[6]? =some (.pointer (some ⟨w.heap.size+1+1,0,none⟩))) (hx:x.tmps[7]? =some (.int .i64 30)):
 bodyPost Tryz.prog Tryz.f66 (GetPost w none) .ret x W:=⟨hd,_,ze9 ht hx h,rfl,hb⟩
theorem za0 {w W:World} {x:Act} {c:VC} {v:V} (h:BC W (w.heap.size+1+1) (vcells c)) (hv:IsVal (only (fun b=>w.heap.size<=b) W) W.heap.size v c) (hb:uB w W) (hd:x.defers= []) (ht:x.tmps[6]? =some (.pointer (some ⟨w.heap.size+1+1,0,none⟩))) (hx:x.tmps[7]? =some (.int .i64 0)):
 bodyPost Tryz.prog Tryz.f66 (GetPost w (some v)) .ret x W:=⟨hd,_,ze9 ht hx h,⟨c,rfl,hv⟩,hb⟩
structure PB (w W:World) (c cx:VC):Prop where
 v:BC W w.heap.size (vcells c)
 x:BC W (w.heap.size+1) (vcells cx)
 r:BC W (w.heap.size+1+1) (vcells vzero)
 below:Below w.heap.size w W
theorem PB.start (w:World) (c cx:VC) (t1 t2 t3:TypeId):PB w (((w.alloc (.cells #[.int .u8 c.k, .int .i64 c.n, .string c.s, .slice c.la c.ll c.lc, .slice c.oa c.ol c.oc] t1)).alloc (.cells #[.int .u8 cx.k, .int .i64 cx.n, .string cx.s, .slice cx.la cx.ll cx.lc, .slice cx.oa cx.ol cx.oc] t2)).alloc (.cells #[.int .u8 0, .int .i64 0, .string { data:= #[] }, .slice none 0 0, .slice none 0 0] t3)) c cx:=by
 obtain ⟨w1,hw1⟩:∃w1,w.alloc (.cells (uV c) t1)=w1:=⟨_,rfl⟩;have s1:w1.heap.size=w.heap.size+1:=by rw [<-hw1,zzk]
 have b1:uB w w1:=by rw [<-hw1];exact (zzc _ _).alloc (zza _) _
 have c1:BC w1 w.heap.size (vcells c):=by rw [<-hw1];exact BC.start w (uV c) t1
 rw [hw1];obtain ⟨w2,hw2⟩:∃w2,w1.alloc (.cells (uV cx) t2)=w2:=⟨_,rfl⟩;have s2:w2.heap.size=w.heap.size+1+1:=by rw [<-hw2,zzk,s1]
 have b2:uB w1 w2:=by rw [<-hw2];exact (zzc _ _).alloc (zza _) _
 have c2:=BC.start w1 (uV cx) t2;rw [hw2,s1] at c2;rw [hw2];have b3:uB w2 (w2.alloc (.cells (uU 0 0 { data:= #[] } none 0 0 none 0 0) t3)):=(zzc _ _).alloc (zza _) _;have c3:=BC.start w2 (uU 0 0 { data:= #[] } none 0 0 none 0 0) t3;rw [s2] at c3;exact ⟨(c1.keep b2 (by omega)).keep b3 (by omega),c2.keep b3 (by omega),c3,(b1.trans (b2.mono (by omega))).trans (b3.mono (by omega))⟩
theorem PB.next {w W W':World} {c cx:VC} {B:Nat} (h:PB w W c cx) (hb:Below B W W') (hB:w.heap.size+3<=B):PB w W' c cx:=
 ⟨h.v.keep hb (by omega),h.x.keep hb (by omega),h.r.keep hb (by omega),h.below.trans (hb.mono (by omega))⟩
theorem PB.result {w W:World} {c cx:VC} (h:PB w W c cx) (d:VC):BC (((((W.setCell ⟨w.heap.size+1+1,0,none⟩ (.int .u8 d.k)).setCell ⟨w.heap.size+1+1,1,none⟩ (.int .i64 d.n)).setCell ⟨w.heap.size+1+1,2,none⟩ (.string d.s)).setCell ⟨w.heap.size+1+1,3,none⟩ (.slice d.la d.ll d.lc)).setCell ⟨w.heap.size+1+1,4,none⟩ (.slice d.oa d.ol d.oc)) (w.heap.size+1+1) (vcells d)/\uB w (((((W.setCell ⟨w.heap.size+1+1,0,none⟩ (.int .u8 d.k)).setCell ⟨w.heap.size+1+1,1,none⟩ (.int .i64 d.n)).setCell ⟨w.heap.size+1+1,2,none⟩ (.string d.s)).setCell ⟨w.heap.size+1+1,3,none⟩ (.slice d.la d.ll d.lc)).setCell ⟨w.heap.size+1+1,4,none⟩ (.slice d.oa d.ol d.oc)):=
 ⟨Zx h.r d,Below.set5' h.below (by omega) _ _ _ _ _⟩
theorem zb9 {w w4:World} (h:Below w.heap.size w.drew w4) (hz:w.heap.size<=w4.heap.size) (d:VC) (t:TypeId) {R:Prop} {z:V->Prop} (hr:Hid (R∨∃x,z x/\IsVal (only (fun b=>w.heap.size<=b) w4) w4.heap.size x d)):
 (BC (w4.alloc (.cells #[.int .u8 d.k, .int .i64 d.n, .string d.s, .slice d.la d.ll d.lc, .slice d.oa d.ol d.oc] t)) w4.heap.size (vcells d)/\Below w.heap.size w.drew (w4.alloc (.cells #[.int .u8 d.k, .int .i64 d.n, .string d.s, .slice d.la d.ll d.lc, .slice d.oa d.ol d.oc] t))/\w.heap.size<=w4.heap.size)/\
 Hid (R∨∃x,z x/\IsVal (only (fun b=>w.heap.size<=b) (w4.alloc (.cells #[.int .u8 d.k, .int .i64 d.n, .string d.s, .slice d.la d.ll d.lc, .slice d.oa d.ol d.oc] t))) (w4.alloc (.cells #[.int .u8 d.k, .int .i64 d.n, .string d.s, .slice d.la d.ll d.lc, .slice d.oa d.ol d.oc] t)).heap.size x d):=by
 refine ⟨Jc h hz d t,hr.out.imp_right ?_⟩;rintro ⟨x,hx,hI⟩;have hb:uB w4 (w4.alloc (.cells (uV d) t)):=(zzc _ _).alloc (zza _) _;exact ⟨x,hx,(hI.sub (Zc fun k hk hl=>⟨hk,hb.block k hl⟩)).more hb.size⟩
theorem zbj {w w4:World} (h:Below w.heap.size w.drew w4) (d:VC) (xb:BC w4 w.heap.size [.int .u8 0, .int .i64 0, .string { data:= #[] }, .slice none 0 0, .slice none 0 0]) {R:Prop} {z:V->Prop} (hr:Hid (R∨∃x,z x/\IsVal (only (fun b=>w.heap.size+1<=b) w4) w4.heap.size x d)):
 (BC (((((w4.setCell ⟨w.heap.size,0,none⟩ (.int .u8 d.k)).setCell ⟨w.heap.size,1,none⟩ (.int .i64 d.n)).setCell ⟨w.heap.size,2,none⟩ (.string d.s)).setCell ⟨w.heap.size,3,none⟩ (.slice d.la d.ll d.lc)).setCell ⟨w.heap.size,4,none⟩ (.slice d.oa d.ol d.oc)) w.heap.size (vcells d)/\Below w.heap.size w.drew (((((w4.setCell ⟨w.heap.size,0,none⟩ (.int .u8 d.k)).setCell ⟨w.heap.size,1,none⟩ (.int .i64 d.n)).setCell ⟨w.heap.size,2,none⟩ (.string d.s)).setCell ⟨w.heap.size,3,none⟩ (.slice d.la d.ll d.lc)).setCell ⟨w.heap.size,4,none⟩ (.slice d.oa d.ol d.oc))/\w.heap.size<=w.heap.size)/\
 Hid (R∨∃x,z x/\IsVal (only (fun b=>w.heap.size<=b) (((((w4.setCell ⟨w.heap.size,0,none⟩ (.int .u8 d.k)).setCell ⟨w.heap.size,1,none⟩ (.int .i64 d.n)).setCell ⟨w.heap.size,2,none⟩ (.string d.s)).setCell ⟨w.heap.size,3,none⟩ (.slice d.la d.ll d.lc)).setCell ⟨w.heap.size,4,none⟩ (.slice d.oa d.ol d.oc))) (((((w4.setCell ⟨w.heap.size,0,none⟩ (.int .u8 d.k)).setCell ⟨w.heap.size,1,none⟩ (.int .i64 d.n)).setCell ⟨w.heap.size,2,none⟩ (.string d.s)).setCell ⟨w.heap.size,3,none⟩ (.slice d.la d.ll d.lc)).setCell ⟨w.heap.size,4,none⟩ (.slice d.oa d.ol d.oc)).heap.size x d):=by
 refine ⟨Q4 h d xb,hr.out.imp_right ?_⟩;rintro ⟨x,hx,hI⟩;have st:=Zh w4 w.heap.size 0 d;exact ⟨x,hx,(hI.sub (Zc fun k hk hl=>⟨by omega,st.block k hl (by omega)⟩)).more st.size⟩
theorem zcx {w W1 W2 w7:World} {v z:V} {vk vn:Int} {vs:ByteArray} {la:Option Addr} {ll lc:Nat} {oa:Option Addr} {ol oc:Nat} {cx dz:VC} {K g m0 c0 m1 c1:Nat} {a1:Option Addr} {cl:List VC} {co:List (ByteArray×VC)} {t:TypeId} {x:Act}
 (hv:IsVal w w.heap.size v ⟨vk,vn,vs,la,ll,lc,oa,ol,oc⟩) (hF:Fresh w7 W2.heap.size v.ls v.os (some ⟨g,0,none⟩) m0 c0 a1 m1 c1 cl co) (hB:PB w w7 ⟨vk,vn,vs,la,ll,lc,oa,ol,oc⟩ cx) (hz:IsVal (only (fun b=>W1.heap.size<=b) W2) W2.heap.size z dz) (hb7:uB W2 w7)
 (h0:w.heap.size+1+1<W1.heap.size) (h12:W1.heap.size<=W2.heap.size) (hK:K<v.ls.length) (hd:x.defers= []) (ht:x.tmps[6]? =some (.pointer (some ⟨w.heap.size+1+1,0,none⟩))) (hx:x.tmps[7]? =some (.int .i64 0)):
 bodyPost Tryz.prog Tryz.f66 (GetPost w (some (v.setL K z))) .ret x (((((((setV w7 g (K*5) dz).setCell ⟨w.heap.size+1+1,0,none⟩ (.int .u8 vk)).setCell ⟨w.heap.size+1+1,1,none⟩ (.int .i64 vn)).setCell ⟨w.heap.size+1+1,2,none⟩ (.string vs)).setCell ⟨w.heap.size+1+1,3,none⟩ (.slice (some ⟨g,0,none⟩) m0 c0)).setCell ⟨w.heap.size+1+1,4,none⟩ (.slice a1 m1 c1)).alloc (.cells #[.int .u8 vk, .int .i64 vn, .string vs, .slice (some ⟨g,0,none⟩) m0 c0, .slice a1 m1 c1] t)):=by
 obtain ⟨k,n,s,l,o,rfl⟩:=v.eta;obtain ⟨rfl,rfl,rfl,hb,_,_⟩:=hv.lists;obtain ⟨g',e,hgb,hbc⟩:=hF.ownL.row (.inr (by simp));obtain rfl:g=g':=by injection e with e;injection e
 have hglt:=hbc.lt;have hz2:IsVal (only (fun b=>w.heap.size+1+1+1<=b/\b≠g) w7) w7.heap.size z dz:=(hz.sub (Zc fun k hk hl=>⟨⟨by omega,by omega⟩,hb7.block k hl⟩)).more hb7.size;have hI1:=hF.setL (base':=w.heap.size+1+1+1) (by omega) hK rfl hz2 hb.k0 hb.k1 hb.n0 hb.n1 hb.s1;have hB1:=hB.next (B:=w.heap.size+3) (((Zh w7 g (K*5) dz).below (Nat.le_of_lt hglt)).mono (by omega)) (zza _);have ST:=hB1.result ⟨vk,vn,vs,some ⟨g,0,none⟩,m0,c0,a1,m1,c1⟩;have hI2:=Zm hI1 (Zh (setV w7 g (K*5) dz) (w.heap.size+1+1) 0 ⟨vk,vn,vs,some ⟨g,0,none⟩,m0,c0,a1,m1,c1⟩) (by omega);have hal:=fun (W:World) (o:Obj)=>(zzc W.heap.size W).alloc (zza _) o;exact za0 (ST.1.keep (hal _ _) ST.1.lt) (((hI2.sub (Zc fun k hk hl=>⟨by omega,(hal _ _).block k hl⟩)).more (hal _ _).size)) (ST.2.alloc ST.2.size _) hd ht hx
theorem za9 {w W1 W2 w7:World} {v z:V} {vk vn:Int} {vs:ByteArray} {la:Option Addr} {ll lc:Nat} {oa:Option Addr} {ol oc:Nat} {cx dz:VC} {K g m0 c0 m1 c1:Nat} {a0:Option Addr} {cl:List VC} {co:List (ByteArray×VC)} {t:TypeId} {x:Act}
 (hv:IsVal w w.heap.size v ⟨vk,vn,vs,la,ll,lc,oa,ol,oc⟩) (hF:Fresh w7 W2.heap.size v.ls v.os a0 m0 c0 (some ⟨g,0,none⟩) m1 c1 cl co) (hB:PB w w7 ⟨vk,vn,vs,la,ll,lc,oa,ol,oc⟩ cx) (hz:IsVal (only (fun b=>W1.heap.size<=b) W2) W2.heap.size z dz) (hb7:uB W2 w7)
 (h0:w.heap.size+1+1<W1.heap.size) (h12:W1.heap.size<=W2.heap.size) (hK:K<v.os.length) (hd:x.defers= []) (ht:x.tmps[6]? =some (.pointer (some ⟨w.heap.size+1+1,0,none⟩))) (hx:x.tmps[7]? =some (.int .i64 0)):
 bodyPost Tryz.prog Tryz.f66 (GetPost w (some (v.setO K z))) .ret x (((((((setV w7 g (K*6+1) dz).setCell ⟨w.heap.size+1+1,0,none⟩ (.int .u8 vk)).setCell ⟨w.heap.size+1+1,1,none⟩ (.int .i64 vn)).setCell ⟨w.heap.size+1+1,2,none⟩ (.string vs)).setCell ⟨w.heap.size+1+1,3,none⟩ (.slice a0 m0 c0)).setCell ⟨w.heap.size+1+1,4,none⟩ (.slice (some ⟨g,0,none⟩) m1 c1)).alloc (.cells #[.int .u8 vk, .int .i64 vn, .string vs, .slice a0 m0 c0, .slice (some ⟨g,0,none⟩) m1 c1] t)):=by
 obtain ⟨k,n,s,l,o,rfl⟩:=v.eta;obtain ⟨rfl,rfl,rfl,hb,_,_⟩:=hv.lists;obtain ⟨g',e,hgb,hbc⟩:=hF.ownO.row (.inr (by simp));obtain rfl:g=g':=by injection e with e;injection e
 have hglt:=hbc.lt;have hz2:IsVal (only (fun b=>w.heap.size+1+1+1<=b/\b≠g) w7) w7.heap.size z dz:=(hz.sub (Zc fun k hk hl=>⟨⟨by omega,by omega⟩,hb7.block k hl⟩)).more hb7.size;have hI1:=hF.setO (base':=w.heap.size+1+1+1) (by omega) hK rfl hz2 hb.k0 hb.k1 hb.n0 hb.n1 hb.s1;have hB1:=hB.next (B:=w.heap.size+3) (((Zh w7 g (K*6+1) dz).below (Nat.le_of_lt hglt)).mono (by omega)) (zza _);have ST:=hB1.result ⟨vk,vn,vs,a0,m0,c0,some ⟨g,0,none⟩,m1,c1⟩;have hI2:=Zm hI1 (Zh (setV w7 g (K*6+1) dz) (w.heap.size+1+1) 0 ⟨vk,vn,vs,a0,m0,c0,some ⟨g,0,none⟩,m1,c1⟩) (by omega);have hal:=fun (W:World) (o:Obj)=>(zzc W.heap.size W).alloc (zza _) o;exact za0 (ST.1.keep (hal _ _) ST.1.lt) (((hI2.sub (Zc fun k hk hl=>⟨by omega,(hal _ _).block k hl⟩)).more (hal _ _).size)) (ST.2.alloc ST.2.size _) hd ht hx
end Go.Proofs.YtbgheehjfnoiiaaGreatDoor
