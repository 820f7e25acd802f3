/-
  Contracts of the functions that the law reaches: Lists of values that are put together of.
-/
import Derived.Test.YtbgheehjfnoiiaaGreatDoorOn7
import Derived.Deep.CutBlock
import Derived.Shelf.Spec.SlicesInsert
namespace Go.Proofs.YtbgheehjfnoiiaaGreatDoor
open Go.RowKit
set_option maxHeartbeats 8000000
def insL {α:Type} (l:List α) (i:Nat) (x:α):List α:=l.take i++x::l.drop i
def remL {α:Type} (l:List α) (i:Nat):List α:=l.take i++l.drop (i+1)
structure Piece (w:World) (a:Option Addr) (m c:Nat) (cells:List Value):Prop where
 nil:a=none->m=0/\c=0/\cells= []
 get:∀ad,a=some ad->∀j u,cells[j]? =some u->w.cell? (ad.add j)=some u
theorem Zz {P:Program} (w:World) {ops:Array Oper} {rest:List Oper} {o:Oper} {a:Act} {Q:Exit->Act->World->Prop} (hgd:o.guard=none) (s x:Operand) (t:TypeId)
 (ho:o.op= .call { callee:= .builtin .append,args:= #[s,x],argTypes:= #[t,t] })
 (base:Nat) (e:TypeId) (i:TypeInfo) (z:Value) (size bytes:Nat) (ht:P.underlying t=some (.slice e)) (hi:P.info? e=some i) (hz:i.zero=some z)
 (hsize:i.size=size) (hby:i.bytes=bytes) (hzs:z.cells.size=size) (hsz:0<size)
 (v:Value) (n:Nat) (xs:List Value) (hs:a.eval s=v) (hown:w.ownsRow base e size v n xs)
 (sa:Option Addr) (m c:Nat) (news:List Value) (hx:a.eval x= .slice sa m c) (hp:Piece w sa m c news) (hl:news.length=m*size) (h1:∀u ∈ news,u.oneCell'=true)
 (h63:n+m<=maxLen) (hbytes:(n+m)*bytes<=140737488355328) (hbase:base<=w.heap.size)
 (h:∀v' w',w'.ownsRow base e size v' (n+m) (xs++news)->w.grownBy w' v.ownBlock->wpList P ops Q rest (a.put o.dst v') w'):wpList P ops Q (o::rest) a w:=by
 cases sa with
 | none=>
   obtain ⟨rfl,rfl,rfl⟩:=hp.nil rfl
   refine J2 w hgd s x t ho base e i size ht hi v n xs hs hown hx ?_
   exact h v w (by simpa using hown) ⟨rfl,rfl,rfl,Nat.le_refl _,fun _ _ _=>rfl⟩
 | some ad=>
   exact wpList_append_own w hgd s x t ho base e i z size bytes ht hi hz hsize hby hzs hsz v n xs hs hown ad m c news hx hl (hp.get ad rfl) h1 h63 hbytes hbase fun v' w' h2 h3 _=>h v' w' h2 h3
theorem Z5 (cs:List VC):∀u ∈ cs.flatMap vcells,u.oneCell'=true:=by
 intro u hu
 obtain ⟨c,_,hc⟩:=List.mem_flatMap.1 hu
 simp [vcells] at hc
 rcases hc with rfl|rfl|rfl|rfl|rfl<;>rfl
theorem PV.append {l1 l2:List V} {c1 c2:List VC} {W:World} {B:Nat} (hl:c1.length=l1.length) (h1:∀i,i<l1.length->PV l1 c1 W B i) (h2:∀i,i<l2.length->PV l2 c2 W B i):∀i,i<(l1++l2).length->PV (l1++l2) (c1++c2) W B i:=by
 intro i _ hi
 rw [List.getD_eq_getElem?_getD]
 by_cases e:i<l1.length
 .rw [List.getElem?_append_left (by omega),List.getElem_append_left e, <-List.getD_eq_getElem?_getD]
  exact h1 i e e
 .rw [List.length_append] at hi
  rw [List.getElem?_append_right (by omega),List.getElem_append_right (by omega),hl, <-List.getD_eq_getElem?_getD]
  exact h2 (i - l1.length) (by omega) (by omega)
theorem PV.take {l:List V} {cs:List VC} {W:World} {B:Nat} (h:∀i,i<l.length->PV l cs W B i) (k:Nat):∀i,i<(l.take k).length->PV (l.take k) (cs.take k) W B i:=by
 intro i _ hi
 rw [List.length_take] at hi
 rw [List.getD_eq_getElem?_getD,List.getElem?_take_of_lt (by omega),List.getElem_take, <-List.getD_eq_getElem?_getD]
 exact h i (by omega) (by omega)
theorem PV.drop {l:List V} {cs:List VC} {W:World} {B:Nat} (h:∀i,i<l.length->PV l cs W B i) (k:Nat):∀i,i<(l.drop k).length->PV (l.drop k) (cs.drop k) W B i:=by
 intro i _ hi
 rw [List.length_drop] at hi
 rw [List.getD_eq_getElem?_getD,List.getElem?_drop,List.getElem_drop, <-List.getD_eq_getElem?_getD]
 exact h (k+i) (by omega) (by omega)
theorem PV.cons {l:List V} {cs:List VC} {W:World} {B:Nat} {x:V} {cx:VC} (hx:IsVal W B x cx) (h:∀i,i<l.length->PV l cs W B i):∀i,i<(x::l).length->PV (x::l) (cx::cs) W B i:=by
 intro i _ hi
 cases i with
 |zero=>exact hx
 |succ i=>exact h i (by simpa using hi) (by simpa using hi)
theorem zej {cs:List VC} {k j:Nat} {u:Value} (h:((cs.take k).flatMap vcells)[j]? =some u):(cs.flatMap vcells)[j]? =some u:=by
 have e:cs.flatMap vcells=(cs.take k).flatMap vcells++(cs.drop k).flatMap vcells:=by rw [<-List.flatMap_append,List.take_append_drop]
 rw [e,List.getElem?_append_left (List.getElem?_eq_some_iff.1 h).1];exact h
theorem zgc {cs:List VC} {k j:Nat} {u:Value} (hk:k<=cs.length) (h:((cs.drop k).flatMap vcells)[j]? =some u):(cs.flatMap vcells)[k*5+j]? =some u:=by
 have e:cs.flatMap vcells=(cs.take k).flatMap vcells++(cs.drop k).flatMap vcells:=by rw [<-List.flatMap_append,List.take_append_drop]
 have hl:((cs.take k).flatMap vcells).length=k*5:=by rw [Zk vcells 5 (fun _=>rfl),List.length_take,Nat.min_eq_left hk]
 rw [e,List.getElem?_append_right (by omega),hl,Nat.add_sub_cancel_left];exact h
theorem IsVals.cells {w:World} {B:Nat} {l:List V} {a:Option Addr} {n c:Nat} (h:IsVals w B l a n c):
 ∃cs:List VC,cs.length=l.length/\(∀b off,a=some ⟨b,off,none⟩->0<n->b<B/\∀j u,(cs.flatMap vcells)[j]? =some u->w.cell? ⟨b,off+j,none⟩=some u)/\∀i,i<l.length->PV l cs w B i:=by
 obtain ⟨h1,h2,h3,h4,b,off,f,h5,h6⟩:=h
 have hget:∀i (_:i<l.length),((List.range l.length).map f)[i]? =some (f i):=by
  intro i hi
  simp [hi]
 refine ⟨(List.range l.length).map f,by simp,fun b' off' e hn=> ?_,fun i hi h=> ?_⟩
 .obtain ⟨e2,hb⟩:=h5 hn
  rw [e] at e2
  injection e2 with e2;injection e2 with e2 e3
  subst e2 e3
  refine ⟨hb,fun j u hj=> ?_⟩
  have hjl:j<l.length*5:=by
   have:=(List.getElem?_eq_some_iff.1 hj).1
   rw [Zk vcells 5 (fun _=>rfl)] at this
   simpa using this
  have hi:j / 5<l.length:=by omega
  have hd:j=j / 5*5+j % 5:=by omega
  have hm:j % 5<5:=by omega
  rw [hd,Y0 vcells 5 (fun _=>rfl) _ (j / 5) (j % 5) (by simpa using hi) hm] at hj
  have he:((List.range l.length).map f)[j / 5]'(by simpa using hi)=f (j / 5):=by simp
  rw [he] at hj
  obtain ⟨g1,g2⟩:=h6 (j / 5) hi
  rw [hd, <-Nat.add_assoc]
  obtain ⟨m,hmm⟩:∃m,j % 5=m:=⟨_,rfl⟩
  rw [hmm] at hj hm ⊢
  match m,hm with
  |0,_=>rw [<-hj];exact g1.c0
  |1,_=>rw [<-hj];exact g1.c1
  |2,_=>rw [<-hj];exact g1.c2
  |3,_=>rw [<-hj];exact g1.c3
  |4,_=>rw [<-hj];exact g1.c4
 .rw [List.getD_eq_getElem?_getD,hget i hi]
  exact (h6 i hi).2
def Neat2 (a:Option Addr) (c:Nat):Prop:=(a=none/\c=0)∨∃b off,a=some ⟨b,off,none⟩
theorem Xz {w:World} {B0 B1:Nat} {v:Value} {l:List V} {cs:List VC} (hown:w.ownsRow B1 29 5 v l.length (cs.flatMap vcells)) (hB:B0<=B1) (hl:cs.length=l.length) (hels:∀i,i<l.length->PV l cs (only (Free B0 v) w) w.heap.size i) (hfew:l.length<=1466015503701):
 ∃a n c,v= .slice a n c/\IsVals (only (fun b=>B0<=b) w) w.heap.size l a n c/\Neat2 a c:=by
 have hown2:w.ownsRow B0 29 5 v l.length (cs.flatMap vcells):=by
  refine ⟨hown.1, ?_⟩
  rcases hown.2 with h|⟨g,cap,cur,h1,h2,h3⟩
  .exact .inl h
  .exact .inr ⟨g,cap,cur,h1,Nat.le_trans hB h2,h3⟩
 have hv:∃a n c,v= .slice a n c/\Neat2 a c:=by
  rcases hown.2 with ⟨h,_⟩|⟨g,cap,cur,h1,_⟩
  .exact ⟨_,_,_,h, .inl ⟨rfl,rfl⟩⟩
  .exact ⟨_,_,_,h1, .inr ⟨g,0,rfl⟩⟩
 obtain ⟨a,n,c,rfl,hz⟩:=hv
 have hrow:RowV w B0 (.slice a n c) l cs:=⟨hown2,hels⟩
 have:=(RowV.val hrow (lo:=B0) hl (Nat.le_refl _) 4 (by omega) (by omega) hfew).lists
 exact ⟨a,n,c,rfl,this.2.2.2.2.1,hz⟩
def ListPost (w:World) (B0:Nat) (l:List V) (e:Ending) (w':World):Prop:=
 (∃a n c,e= .returned (.slice a n c)/\IsVals (only (fun b=>B0<=b) w') w'.heap.size l a n c/\Neat2 a c)/\Below w.heap.size w w'
set_option maxRecDepth 100000 in
theorem zi5 (w:World) (B0:Nat) (hB0:B0<=w.heap.size) (o:List (ByteArray×V)) (b off ol oc:Nat) (ho:IsFields (only (fun k=>B0<=k) w) w.heap.size o (some ⟨b,off,none⟩) ol oc) (key:ByteArray) (hks:key.size<=140737488355328) (x:V) (cx:VC) (hx:IsVal (only (fun k=>B0<=k) w) w.heap.size x cx) (hpos:0<ol) (hfew:ol<=1000000) (his:fieldIs o key=false) (hke:fieldK o key=oc):
 uP 56 #[.slice (some ⟨b,off,none⟩) ol oc, .string key, .agg (uV cx)] w (WithPost w B0 (withF o key x)):=by
 delta uV uP
 obtain ⟨i0,hi0,hz0,hz1,hz2⟩:=info_parts Ya
 have hlen:=ho.len
 have hcap:=ho.cap
 have hmax:=ho.max
 obtain ⟨cs,b2,off2,hcl,hab,hcell,hpf⟩:=ho.cells
 have HCELL:Hid (∀W,uB w W->∀j u,(cs.flatMap fcells)[j]? =some u->W.cell? ⟨b,off+j,none⟩=some u):=by
  intro W hW j u hj
  have hjl:=(List.getElem?_eq_some_iff.1 hj).1
  rw [Zk fcells 6 (fun _=>rfl),hcl, <-hlen] at hjl
  obtain ⟨e,hb2⟩:=hab (by omega)
  injection e with e;injection e with e1 e2
  subst e1 e2
  exact Zb hW (Z1 (hcell j u hj)).2 hb2
 obtain ⟨k,hk⟩:∃k,fieldK o key=k:=⟨_,rfl⟩
 rw [hk] at hke
 have hkl:k<=ol:=by rw [<-hk,hlen];exact Yo o key
 have hkl2:=hkl
 have hkc:k<=cs.length:=by rw [hcl, <-hlen];exact hkl
 have hkc2:k<=cs.length:=by rw [hcl, <-hlen];omega
 have HF:Hid (∀W,uB w W->uP 103 #[.agg (uU 0 0 { data:= #[] } none 0 0 (some ⟨b,off,none⟩) ol oc), .string key] W fun e w'=>e= .returned (.tuple #[.int .i64 (k:Int), .bool false])/\uB W w'):=by
  intro W hW
  have hof:IsFields W W.heap.size o (some ⟨b,off,none⟩) ol oc:=(IsFields.keep (IsFields.sub (Zl (fun k=>B0<=k) w _) ho) hW).more hW.size
  have:=Yj W o key 0 0 { data:= #[] } none 0 0 (some ⟨b,off,none⟩) ol oc hof
  rw [hk,his] at this;exact this
 have hwf:withF o key x=o.take k++(key,x)::o.drop (k):=by rw [withF,his,hk];rfl
 rw [hwf]
 have HBX:=qh (BC.start w (uV cx) 29)
 have HAL:=qh ((Below.refl _ _).alloc (Nat.le_refl _) (.cells (uV cx) 29):uB w _)
 have HX:=qh hx
 have HPF:=qh hpf
 have HCL:=qh hcl
 have HLEN:=qh hlen
 obtain ⟨R,hR⟩:∃R,WithPost w B0 (o.take k++(key,x)::o.drop (k))=R:=⟨_,rfl⟩
 rw [hR]
 have HR:=qh hR
 obtain ⟨XA,hXA⟩:∃XA,(cs.take k).flatMap fcells=XA:=⟨_,rfl⟩
 obtain ⟨XB,hXB⟩:∃XB,(cs.drop (k)).flatMap fcells=XB:=⟨_,rfl⟩
 have hla:XA.length=k*6:=by rw [<-hXA,Zk fcells 6 (fun _=>rfl),List.length_take,Nat.min_eq_left hkc]
 have hlb:XB.length=(ol - (k))*6:=by rw [<-hXB,Zk fcells 6 (fun _=>rfl),List.length_drop,hcl, <-hlen]
 have HA1:Hid (∀u ∈ XA,u.oneCell'=true):=by unfold Hid;rw [<-hXA];exact Yr _
 have HB1:Hid (∀u ∈ XB,u.oneCell'=true):=by unfold Hid;rw [<-hXB];exact Yr _
 have HCA:Hid (∀W,uB w W->∀j u,XA[j]? =some u->W.cell? ((⟨b,off,none⟩:Addr).add j)=some u):=by
  intro W hW j u hj
  rw [<-hXA] at hj
  rw [Zv];exact HCELL.out W hW j u (Q1 hj)
 have HCB:Hid (∀W,uB w W->∀j u,XB[j]? =some u->W.cell? ((⟨b,off+(k)*6,none⟩:Addr).add j)=some u):=by
  intro W hW j u hj
  rw [<-hXB] at hj
  rw [Zv,Nat.add_assoc];exact HCELL.out W hW _ u (Qz hkc2 hj)
 have HXA:=qh hXA
 have HXB:=qh hXB
 clear ho hab hcell hk his hx hpf hcl hlen hwf hR hXA hXB hkc hkc2
 have hol:ol=k:=by omega
 have hoc:oc=k:=by omega
 cases hol;cases hoc
 go_enter Tryz.func56,Tryz.ntmps56
 go_wp2_with fail
 refine (HF.out _ HAL.out).mono ?_
 rintro e w1 ⟨rfl,hb1⟩
 have bl1:=HAL.out.trans (hb1.mono (by simp))
 have HBX1:=qh (HBX.out.keep hb1 (by simp))
 have zs1:w.heap.size<w1.heap.size:=HBX1.out.lt
 have HBL1:=qh bl1
 have ho1:w1.ownsRow (w.heap.size+1) 62 6 (.slice none 0 0) 0 [] :=⟨rfl, .inl ⟨rfl,rfl⟩⟩
 clear hb1 bl1
 go_wp2_with (first
  |(at_builtin;refine wpList_append_own _ rfl (.tmp 17) (.tmp 20) 27 (by rfl) (w.heap.size+1) 62 i0 _ 6 96 Tryz.underlying27 hi0 hz0 hz1 hz2 rfl (by omega) (.slice none 0 0) 0 [] (by rfl) ho1 ⟨b,off,none⟩ ol (ol) XA (by rfl) hla (HCA.out _ HBL1.out) HA1.out (by unfold maxLen;omega) (by omega) (by omega) ?_;intro v1 w2 hown1 hgrow1 _;have b12:Below (w.heap.size+1) w1 w2:=Zj hgrow1 (fun ol hk=>by simp [Value.ownBlock] at hk) (by omega);have BX2:=HBX1.out.keep b12 (by omega);obtain ⟨x0,x1,x2,x3,x4⟩:=row5 BX2.at_;have zs2:=BX2.lt;have HBL2:=qh (HBL1.out.trans (b12.mono (by omega)));have HO1:=qh hown1;have hrl:∀g,v1.ownBlock=some g->w.heap.size+1<=g/\g<w2.heap.size:=hown1.lt;have ho2:=hown1.alloc (.cells #[.string key, .int .u8 cx.k, .int .i64 cx.n, .string cx.s, .slice cx.la cx.ll cx.lc, .slice cx.oa cx.ol cx.oc] 62);have hnw:∀j u,(fcells (key,cx))[j]? =some u->(w2.alloc (.cells #[.string key, .int .u8 cx.k, .int .i64 cx.n, .string cx.s, .slice cx.la cx.ll cx.lc, .slice cx.oa cx.ol cx.oc] 62)).cell? ((⟨w2.heap.size,0,none⟩:Addr).add j)=some u:=World.news_of_block (t:=62) (fr:=(0,0)) (heap_alloc_new w2 (.cells #[.string key, .int .u8 cx.k, .int .i64 cx.n, .string cx.s, .slice cx.la cx.ll cx.lc, .slice cx.oa cx.ol cx.oc] 62));have HNW:=qh hnw;clear hnw hown1 hgrow1 BX2 b12)
  |(at_builtin;refine wpList_append_own _ rfl (.tmp 22) (.tmp 26) 27 (by rfl) (w.heap.size+1) 62 i0 _ 6 96 Tryz.underlying27 hi0 hz0 hz1 hz2 rfl (by omega) v1 (0+ol) ([] ++XA) (by rfl) ho2 ⟨w2.heap.size,0,none⟩ 1 1 (fcells (key,cx)) (by rfl) (by rfl) HNW.out (Xp key cx) (by unfold maxLen;omega) (by omega) (by simp;omega) ?_;intro v2 w4 hown2 hgrow2 _;have b24:Below (w.heap.size+1) w2 w4:=(((Below.refl w2.heap.size w2).alloc (Nat.le_refl _) (.cells #[.string key, .int .u8 cx.k, .int .i64 cx.n, .string cx.s, .slice cx.la cx.ll cx.lc, .slice cx.oa cx.ol cx.oc] 62)).mono (by omega)).trans (Zj hgrow2 (fun ol hk=>(hrl ol hk).1) (by simp;omega));have HBL4:=qh (HBL2.out.trans (b24.mono (by omega)));have zs4:w.heap.size<w4.heap.size:=Nat.lt_of_lt_of_le zs2 b24.size;have hrl2:∀g,v2.ownBlock=some g->w.heap.size+1<=g/\g<w4.heap.size:=hown2.lt;have HO2:=qh hown2;clear hgrow2 b24 hown2)
  |(at_builtin;refine wpList_append_own _ rfl (.tmp 31) (.tmp 34) 27 (by rfl) (w.heap.size+1) 62 i0 _ 6 96 Tryz.underlying27 hi0 hz0 hz1 hz2 rfl (by omega) v2 (0+ol+1) ([] ++XA++fcells (key,cx)) (by rfl) HO2.out ⟨b,off,none⟩ 0 0 XB (by rfl) (by omega) (fun j u hj=>by rw [List.getElem?_eq_none (by omega)] at hj;cases hj) HB1.out (by unfold maxLen;omega) (by omega) (by omega) ?_;intro v3 w5 hown3 hgrow3 _;have b45:Below (w.heap.size+1) w4 w5:=Zj hgrow3 (fun ol hk=>(hrl2 ol hk).1) (by omega);have HBL5:=qh (HBL4.out.trans (b45.mono (by omega)));have HO3:=qh hown3;clear hgrow3 b45 hown3))
 rw [<-HR.out]
 have hcat: [] ++XA++fcells (key,cx)++XB=(cs.take ol++(key,cx)::cs.drop (ol)).flatMap fcells:=by rw [<-HXA.out, <-HXB.out];simp
 have hll:(o.take ol++(key,x)::o.drop (ol)).length=0+ol+1+0:=by
  rw [List.length_append,List.length_cons,List.length_drop,List.length_take, <-HLEN.out,Nat.min_eq_left hkl];omega
 have hown:=HO3.out
 rw [hcat, <-hll] at hown
 have hlt3:=hown.lt
 have hsh:Shows (only (fun ol=>B0<=ol) w) (only (Free B0 v3) w5) w.heap.size:=Ze fun q hq hl=>⟨⟨hq,fun e=>by have:=(hlt3 q e.symm).1;omega⟩,HBL5.out.block q hl⟩
 obtain ⟨a,n,c,hv,hf,hz⟩:=X7 (B0:=B0) (B1:=w.heap.size+1) hown (by omega) (by rw [List.length_append,List.length_append,List.length_cons,List.length_cons,List.length_drop,List.length_drop,List.length_take,List.length_take,HCL.out])
  (PF.with_ HCL.out (fun i hi=>PF.closed o cs _ _ _ _ i hsh HBL5.out.size (HPF.out i hi)) ((HX.out.sub hsh).more HBL5.out.size) hks (by rw [<-HLEN.out];exact hkl) (by rw [<-HLEN.out];omega)) (by rw [hll];omega)
 exact ⟨⟨a,n,c,by rw [hv],hf,hz⟩,HBL5.out⟩
theorem zfs {z:Array Value} (hz:0<z.size) (h:∀k,k<z.size->(z[k]!).oneCell'=true) (n:Nat):∀v ∈ (Builtin.zeroCells z n).toList,v.oneCell'=true:=by
 intro v hv
 simp only [Builtin.zeroCells,Array.toList_map,List.mem_map] at hv
 obtain ⟨k,_,rfl⟩:=hv
 exact h _ (Nat.mod_lt _ hz)
theorem zbs {α:Type} (L zs M:List α) (p q r:Nat) (hp:p<=q) (hq:q<=r) (hr:r<=L.length):
 (((L.take p++(L.take r).drop q++L.drop (p+((L.take r).drop q).length)).take (p+(r - q))++zs++M).take (p+(r - q)))=(L.take r).take p++(L.take r).drop q:=by
 have h1:(L.take p++(L.take r).drop q++L.drop (p+((L.take r).drop q).length)).take (p+(r - q))=L.take p++(L.take r).drop q:=by
  rw [List.take_left' (by simp;omega)]
 rw [h1,List.append_assoc,List.take_left' (by simp;omega),List.take_take,Nat.min_eq_left (by omega)]
theorem zbj {P:Program} {ops:Array Oper} {o:Oper} {a:Act} {w:World} {K:Act->World->Prop} {Q:Exit->Act->World->Prop} {E:Prop}
 (hg:o.guard=none) (s x:Operand) (t:TypeId) (hop:o.op=Op.call { callee:=Callee.builtin Builtin.append,args:= #[s,x],argTypes:= #[t,t] })
 (v u:Value) (hs:a.eval s=v) (hx:a.eval x=u) {v':Value} {w':World} (hr:(Builtin.append_ #[t,t] o.type #[v,u]).run P w= .ok v' w') (hK:K (a.put o.dst v') w'):
 if Region.wanted o (yielded ops a.tmps)=true then Oper.wp P o a w K Q else E:=by
 have hw:Region.wanted o (yielded ops a.tmps)=true:=by simp [Region.wanted,hg]
 rw [if_pos hw]
 unfold Oper.wp
 simp [execOp,hop,resolve,invoke,builtin,hs,hx,hr,Result.andThen]
 exact hK
theorem zc7 {P:Program} (w:World) (t e ty:TypeId) (z:Value) (ht:P.underlying t=some (.slice e)) (hv:∀w,(zeroValue e).run P w= .ok z w) (g o n c:Nat) (cur:Array Value) (tc:TypeId) (hn:0<n) (hg:w.heap[g]? =some (.cells cur tc (0,0)))
 (hz:0<z.cells.size) (h1:∀k,k<z.cells.size->(z.cells[k]!).oneCell'=true) (hfit:o+n*z.cells.size<=cur.size):
 (Builtin.clear_ #[t] ty #[.slice (some ⟨g,o,none⟩) n c]).run P w= .ok (.tuple #[]) (w.setRow g (cur.toList.take o++(Builtin.zeroCells z.cells n).toList++cur.toList.drop (o+(Builtin.zeroCells z.cells n).toList.length)).toArray):=by
 have hst:=run_storeCells_at P g o tc (Builtin.zeroCells z.cells n).toList 0 cur w hg (by rw [Array.length_toList,size_zeroCells];simpa using hfit) (zfs hz h1 n)
 simp only [Nat.add_zero] at hst
 obtain ⟨m,rfl⟩:∃m,n=m+1:=⟨n - 1,by omega⟩
 simp [Builtin.clear_,run_underlying ht,hv,hst]
set_option maxRecDepth 100000 in
theorem znm (w:World) (base g n c i j:Nat) (cur:Array Value) (xs:List Value) (hbg:base<=g) (hg:w.heap[g]? =some (.cells cur 29 (0,0))) (hcur:cur.size=c*5) (hij:i<j) (hj:j<=n) (hnc:n<=c) (hc:c<=maxLen)
 (hxs:cur.toList.take (n*5)=xs) (h1:∀v ∈ xs,v.oneCell'=true):
 uP 156 #[.slice (some ⟨g,0,none⟩) n c, .int .i64 (i:Int), .int .i64 (j:Int)] w (RowPost w base 29 5 (.slice (some ⟨g,0,none⟩) n c) (i+(n - j)) (xs.take (i*5)++xs.drop (j*5))):=by
 delta uP
 obtain ⟨i0,hi0,hz0,hzs,hzb⟩:=info_parts Z9
 have hc63:c<=9223372036854775807:=by unfold maxLen at hc;omega
 have hcl:cur.toList.length=c*5:=by simpa using hcur
 have hxl:xs.length=n*5:=by rw [<-hxs,List.length_take,hcl];omega
 have hdl:(xs.drop (j*5)).length=(n - j)*5:=by rw [List.length_drop,hxl];omega
 have hcell:∀j v,xs[j]? =some v->cur[j]? =some v:=fun j v hj=>by
  rw [<-hxs,List.getElem?_take] at hj
  split at hj
  .simpa using hj
  .cases hj
 obtain ⟨A,hA,hsrc⟩:∃A:Addr,(if c=j then some (⟨g,0,none⟩:Addr) else some ⟨g,j*5,none⟩)=some A/\∀t u,(xs.drop (j*5))[t]? =some u->w.drew.cell? (A.add t)=some u:=by
  by_cases h:c=j
  .refine ⟨⟨g,0,none⟩,by simp [h],fun t u hu=> ?_⟩
   rw [List.drop_eq_nil_of_le (by omega)] at hu
   simp at hu
  .refine ⟨⟨g,j*5,none⟩,by simp [h],fun t u hu=> ?_⟩
   rw [List.getElem?_drop] at hu
   rw [Addr.add_lit]
   simp only [World.cell?,show w.drew.heap=w.heap from rfl,hg]
   simpa using hcell _ u hu
 have hap:∀ty cc,(Builtin.append_ #[26,26] ty #[.slice (some ⟨g,0,none⟩) i c, .slice (some A) (n - j) cc]).run Tryz.prog w.drew= .ok (.slice (some ⟨g,0,none⟩) (i+(n - j)) c) (w.drew.setRow g (cur.toList.take (i*5)++xs.drop (j*5)++cur.toList.drop (i*5+(xs.drop (j*5)).length)).toArray):=fun ty cc=>by
  have h:=run_append_room (P:=Tryz.prog) w.drew 26 ty 29 i0 Tryz.underlying26 hi0 g i c cur hg A (n - j) cc (xs.drop (j*5)) (by rw [hzs];exact hdl) hsrc (fun v hv=>h1 v (List.mem_of_mem_drop hv)) (by omega) (by rw [hzs,hdl,hcur];omega)
  rw [hzs] at h
  exact h
 obtain ⟨C1,hC1⟩:∃C1,C1=(cur.toList.take (i*5)++xs.drop (j*5)++cur.toList.drop (i*5+(xs.drop (j*5)).length)).toArray:=⟨_,rfl⟩
 rw [<-hC1] at hap
 have hC1s:C1.size=c*5:=by rw [hC1];simp only [List.size_toArray,List.length_append,List.length_take,hcl,hdl];rw [List.length_drop,hcl];omega
 obtain ⟨z,hzz,hzc,hzo⟩:∃z,i0.zero=some z/\z.cells.size=5/\∀k,k<z.cells.size->(z.cells[k]!).oneCell'=true:=⟨_,hz0,rfl,fun k hk=>by
  have:k<5:=hk
  rcases k with _|_|_|_|_|_|k<;>first|rfl|omega⟩
 have hzv:∀w,(zeroValue 29).run Tryz.prog w= .ok z w:=fun w=>by simp [zeroValue,typeInfo,hi0,hzz]
 have hgW:(w.drew.setRow g C1).heap[g]? =some (.cells C1 29 (0,0)):=setRow_heap w.drew g cur C1 29 (0,0) hg
 obtain ⟨W1,hW1⟩:∃W1,w.drew.setRow g C1=W1:=⟨_,rfl⟩
 have hcr:∀ty,(Builtin.clear_ #[26] ty #[.slice (some ⟨g,(i+(n - j))*5,none⟩) (n - (i+(n - j))) (c - (i+(n - j)))]).run Tryz.prog W1= .ok (.tuple #[]) (W1.setRow g (C1.toList.take ((i+(n - j))*5)++(Builtin.zeroCells z.cells (n - (i+(n - j)))).toList++C1.toList.drop ((i+(n - j))*5+(Builtin.zeroCells z.cells (n - (i+(n - j)))).toList.length)).toArray):=fun ty=>
  zc7 W1 26 29 ty z Tryz.underlying26 hzv g ((i+(n - j))*5) (n - (i+(n - j))) _ C1 29 (by omega) (by rw [<-hW1];exact hgW) (by omega) hzo (by rw [hzc,hC1s];omega)
 obtain ⟨zs,hzs'⟩:∃zs,(Builtin.zeroCells z.cells (n - (i+(n - j)))).toList=zs:=⟨_,rfl⟩
 have hzl:zs.length=(n - (i+(n - j)))*5:=by rw [<-hzs',Array.length_toList,size_zeroCells,hzc]
 rw [hzs'] at hcr
 obtain ⟨C2,hC2⟩:∃C2,C2=(C1.toList.take ((i+(n - j))*5)++zs++C1.toList.drop ((i+(n - j))*5+zs.length)).toArray:=⟨_,rfl⟩
 rw [<-hC2] at hcr
 have hC2s:C2.size=c*5:=by
  have:C1.toList.length=c*5:=by simpa using hC1s
  rw [hC2];simp only [List.size_toArray,List.length_append,List.length_take,List.length_drop,this,hzl];omega
 have hC2t:C2.toList.take ((i+(n - j))*5)=xs.take (i*5)++xs.drop (j*5):=by
  have h:=zbs cur.toList zs (C1.toList.drop ((i+(n - j))*5+zs.length)) (i*5) (j*5) (n*5) (by omega) (by omega) (by omega)
  rw [hxs] at h
  rw [hC2,show (i+(n - j))*5=i*5+(n*5 - j*5) by omega]
  rw [show (i+(n - j))*5=i*5+(n*5 - j*5) by omega] at h
  rw [hC1] at h ⊢
  exact h
 have HS:=qh hC2s;have HT:=qh hC2t;have HL:=qh hxl;have HGW:=qh hgW
 obtain ⟨R,hR⟩:∃R,RowPost w base 29 5 (.slice (some ⟨g,0,none⟩) n c) (i+(n - j)) (xs.take (i*5)++xs.drop (j*5))=R:=⟨_,rfl⟩
 have HR:=qh hR
 have mixed:Tryz.prog.follows .mixedOrders=true:=by kernel_rfl
 have HW1:=qh hW1
 have HAP:=qh hap
 rw [hR]
 have hz1:¬((i:Int)=(j:Int)):=by omega
 have hz2:¬(c=i):=by omega
 have hz3:¬(c=i+(n - j)):=by omega
 have hic:i<=c:=by omega
 have hjc:j<=c:=by omega
 have hij2:i<=j:=by omega
 clear hR hC2s hC2t hC1s hC1 hC2 hxs hdl hxl hcl hzz hzo hzc hzv hsrc hcell hap hgW hW1 hzs' hzl
 go_enter Tryz.func156,Tryz.ntmps156
 go_wp2_with fail
 go_region_law_o (refine zbj rfl _ _ 26 rfl (.slice (some ⟨g,0,none⟩) i c) (.slice (some A) (n - j) (c - j)) (by simp [Act.eval,Act.put]) (by simp [Act.eval,Act.put]) (HAP.out _ _) ?_)
 rw [HW1.out]
 go_wp2_with fail
 rw [<-HR.out]
 exact ⟨_,rfl,⟨by simp only [List.length_append,List.length_take,List.length_drop,HL.out];omega, .inr ⟨g,c,C2,rfl,hbg,setRow_heap W1 g C1 C2 29 (0,0) (by rw [<-HW1.out];exact HGW.out),by omega,hc,HS.out,HT.out⟩⟩,
  by rw [<-HW1.out];exact ⟨rfl,rfl,rfl,by simp,fun k hk hne=>(setRow_other _ g k _ (fun e=>hne (by rw [e];rfl))).trans (setRow_other w.drew g k _ (fun e=>hne (by rw [e];rfl)))⟩, .inl rfl⟩
theorem zci (w:World) (base n i:Nat) (u:Value) (xs:List Value) (hown:w.ownsRow base 29 5 u n xs) (hi:i<n) (h1:∀v ∈ xs,v.oneCell'=true):
 uP 156 #[u, .int .i64 (i:Int), .int .i64 ((i:Int)+1)] w (RowPost w base 29 5 u (n - 1) (xs.take (i*5)++xs.drop ((i+1)*5))):=by
 delta uP
 rcases hown.2 with ⟨rfl,h0⟩|⟨g,c,cur,rfl,hbg,hg,hnc,hcm,hcs,htk⟩
 .omega
 .have h:=znm w base g n c i (i+1) cur xs hbg hg hcs (by omega) (by omega) hnc hcm htk h1
  rw [show i+(n - (i+1))=n - 1 by omega] at h
  exact h
set_option maxRecDepth 100000 in
theorem zix (w:World) (base g n c i j:Nat) (cur:Array Value) (xs:List Value) (hbg:base<=g) (hg:w.heap[g]? =some (.cells cur 62 (0,0))) (hcur:cur.size=c*6) (hij:i<j) (hj:j<=n) (hnc:n<=c) (hc:c<=maxLen)
 (hxs:cur.toList.take (n*6)=xs) (h1:∀v ∈ xs,v.oneCell'=true):
 uP 114 #[.slice (some ⟨g,0,none⟩) n c, .int .i64 (i:Int), .int .i64 (j:Int)] w (RowPost w base 62 6 (.slice (some ⟨g,0,none⟩) n c) (i+(n - j)) (xs.take (i*6)++xs.drop (j*6))):=by
 delta uP
 obtain ⟨i0,hi0,hz0,hzs,hzb⟩:=info_parts Ya
 have hc63:c<=9223372036854775807:=by unfold maxLen at hc;omega
 have hcl:cur.toList.length=c*6:=by simpa using hcur
 have hxl:xs.length=n*6:=by rw [<-hxs,List.length_take,hcl];omega
 have hdl:(xs.drop (j*6)).length=(n - j)*6:=by rw [List.length_drop,hxl];omega
 have hcell:∀j v,xs[j]? =some v->cur[j]? =some v:=fun j v hj=>by
  rw [<-hxs,List.getElem?_take] at hj
  split at hj
  .simpa using hj
  .cases hj
 obtain ⟨A,hA,hsrc⟩:∃A:Addr,(if c=j then some (⟨g,0,none⟩:Addr) else some ⟨g,j*6,none⟩)=some A/\∀t u,(xs.drop (j*6))[t]? =some u->w.drew.cell? (A.add t)=some u:=by
  by_cases h:c=j
  .refine ⟨⟨g,0,none⟩,by simp [h],fun t u hu=> ?_⟩
   rw [List.drop_eq_nil_of_le (by omega)] at hu
   simp at hu
  .refine ⟨⟨g,j*6,none⟩,by simp [h],fun t u hu=> ?_⟩
   rw [List.getElem?_drop] at hu
   rw [Addr.add_lit]
   simp only [World.cell?,show w.drew.heap=w.heap from rfl,hg]
   simpa using hcell _ u hu
 have hap:∀ty cc,(Builtin.append_ #[27,27] ty #[.slice (some ⟨g,0,none⟩) i c, .slice (some A) (n - j) cc]).run Tryz.prog w.drew= .ok (.slice (some ⟨g,0,none⟩) (i+(n - j)) c) (w.drew.setRow g (cur.toList.take (i*6)++xs.drop (j*6)++cur.toList.drop (i*6+(xs.drop (j*6)).length)).toArray):=fun ty cc=>by
  have h:=run_append_room (P:=Tryz.prog) w.drew 27 ty 62 i0 Tryz.underlying27 hi0 g i c cur hg A (n - j) cc (xs.drop (j*6)) (by rw [hzs];exact hdl) hsrc (fun v hv=>h1 v (List.mem_of_mem_drop hv)) (by omega) (by rw [hzs,hdl,hcur];omega)
  rw [hzs] at h
  exact h
 obtain ⟨C1,hC1⟩:∃C1,C1=(cur.toList.take (i*6)++xs.drop (j*6)++cur.toList.drop (i*6+(xs.drop (j*6)).length)).toArray:=⟨_,rfl⟩
 rw [<-hC1] at hap
 have hC1s:C1.size=c*6:=by rw [hC1];simp only [List.size_toArray,List.length_append,List.length_take,hcl,hdl];rw [List.length_drop,hcl];omega
 obtain ⟨z,hzz,hzc,hzo⟩:∃z,i0.zero=some z/\z.cells.size=6/\∀k,k<z.cells.size->(z.cells[k]!).oneCell'=true:=⟨_,hz0,rfl,fun k hk=>by
  have:k<6:=hk
  rcases k with _|_|_|_|_|_|k<;>first|rfl|omega⟩
 have hzv:∀w,(zeroValue 62).run Tryz.prog w= .ok z w:=fun w=>by simp [zeroValue,typeInfo,hi0,hzz]
 have hgW:(w.drew.setRow g C1).heap[g]? =some (.cells C1 62 (0,0)):=setRow_heap w.drew g cur C1 62 (0,0) hg
 obtain ⟨W1,hW1⟩:∃W1,w.drew.setRow g C1=W1:=⟨_,rfl⟩
 have hcr:∀ty,(Builtin.clear_ #[27] ty #[.slice (some ⟨g,(i+(n - j))*6,none⟩) (n - (i+(n - j))) (c - (i+(n - j)))]).run Tryz.prog W1= .ok (.tuple #[]) (W1.setRow g (C1.toList.take ((i+(n - j))*6)++(Builtin.zeroCells z.cells (n - (i+(n - j)))).toList++C1.toList.drop ((i+(n - j))*6+(Builtin.zeroCells z.cells (n - (i+(n - j)))).toList.length)).toArray):=fun ty=>
  zc7 W1 27 62 ty z Tryz.underlying27 hzv g ((i+(n - j))*6) (n - (i+(n - j))) _ C1 62 (by omega) (by rw [<-hW1];exact hgW) (by omega) hzo (by rw [hzc,hC1s];omega)
 obtain ⟨zs,hzs'⟩:∃zs,(Builtin.zeroCells z.cells (n - (i+(n - j)))).toList=zs:=⟨_,rfl⟩
 have hzl:zs.length=(n - (i+(n - j)))*6:=by rw [<-hzs',Array.length_toList,size_zeroCells,hzc]
 rw [hzs'] at hcr
 obtain ⟨C2,hC2⟩:∃C2,C2=(C1.toList.take ((i+(n - j))*6)++zs++C1.toList.drop ((i+(n - j))*6+zs.length)).toArray:=⟨_,rfl⟩
 rw [<-hC2] at hcr
 have hC2s:C2.size=c*6:=by
  have:C1.toList.length=c*6:=by simpa using hC1s
  rw [hC2];simp only [List.size_toArray,List.length_append,List.length_take,List.length_drop,this,hzl];omega
 have hC2t:C2.toList.take ((i+(n - j))*6)=xs.take (i*6)++xs.drop (j*6):=by
  have h:=zbs cur.toList zs (C1.toList.drop ((i+(n - j))*6+zs.length)) (i*6) (j*6) (n*6) (by omega) (by omega) (by omega)
  rw [hxs] at h
  rw [hC2,show (i+(n - j))*6=i*6+(n*6 - j*6) by omega]
  rw [show (i+(n - j))*6=i*6+(n*6 - j*6) by omega] at h
  rw [hC1] at h ⊢
  exact h
 have HS:=qh hC2s;have HT:=qh hC2t;have HL:=qh hxl;have HGW:=qh hgW
 obtain ⟨R,hR⟩:∃R,RowPost w base 62 6 (.slice (some ⟨g,0,none⟩) n c) (i+(n - j)) (xs.take (i*6)++xs.drop (j*6))=R:=⟨_,rfl⟩
 have HR:=qh hR
 have mixed:Tryz.prog.follows .mixedOrders=true:=by kernel_rfl
 have HW1:=qh hW1
 have HAP:=qh hap
 rw [hR]
 have hz1:¬((i:Int)=(j:Int)):=by omega
 have hz2:¬(c=i):=by omega
 have hz3:¬(c=i+(n - j)):=by omega
 have hic:i<=c:=by omega
 have hjc:j<=c:=by omega
 have hij2:i<=j:=by omega
 clear hR hC2s hC2t hC1s hC1 hC2 hxs hdl hxl hcl hzz hzo hzc hzv hsrc hcell hap hgW hW1 hzs' hzl
 go_enter Tryz.func114,Tryz.ntmps114
 go_wp2_with fail
 go_region_law_o (refine zbj rfl _ _ 27 rfl (.slice (some ⟨g,0,none⟩) i c) (.slice (some A) (n - j) (c - j)) (by simp [Act.eval,Act.put]) (by simp [Act.eval,Act.put]) (HAP.out _ _) ?_)
 rw [HW1.out]
 go_wp2_with fail
 rw [<-HR.out]
 exact ⟨_,rfl,⟨by simp only [List.length_append,List.length_take,List.length_drop,HL.out];omega, .inr ⟨g,c,C2,rfl,hbg,setRow_heap W1 g C1 C2 62 (0,0) (by rw [<-HW1.out];exact HGW.out),by omega,hc,HS.out,HT.out⟩⟩,
  by rw [<-HW1.out];exact ⟨rfl,rfl,rfl,by simp,fun k hk hne=>(setRow_other _ g k _ (fun e=>hne (by rw [e];rfl))).trans (setRow_other w.drew g k _ (fun e=>hne (by rw [e];rfl)))⟩, .inl rfl⟩
theorem zju (w:World) (base n i:Nat) (u:Value) (xs:List Value) (hown:w.ownsRow base 62 6 u n xs) (hi:i<n) (h1:∀v ∈ xs,v.oneCell'=true):
 uP 114 #[u, .int .i64 (i:Int), .int .i64 ((i:Int)+1)] w (RowPost w base 62 6 u (n - 1) (xs.take (i*6)++xs.drop ((i+1)*6))):=by
 delta uP
 rcases hown.2 with ⟨rfl,h0⟩|⟨g,c,cur,rfl,hbg,hg,hnc,hcm,hcs,htk⟩
 .omega
 .have h:=zix w base g n c i (i+1) cur xs hbg hg hcs (by omega) (by omega) hnc hcm htk h1
  rw [show i+(n - (i+1))=n - 1 by omega] at h
  exact h
end Go.Proofs.YtbgheehjfnoiiaaGreatDoor
