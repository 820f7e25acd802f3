/-
  Contracts of the functions that the law reaches: An object whose keys rise, in which a.
-/
import Derived.Test.YtnjgbiachcfigaaGreatDoorCt29
import Derived.Laws.RangeString
import Derived.Laws.RangeAny
import Derived.Lib.RuneCount
import Derived.Lib.RuneCountTail
namespace Go.Proofs.YtnjgbiachcfigaaGreatDoor
open Go.RowKit
set_option maxHeartbeats 4000000
def remF (o:List (ByteArray×V)) (key:ByteArray):List (ByteArray×V):=o.take (fieldK o key)++o.drop (if fieldIs o key=true then fieldK o key+1 else fieldK o key)
def newF (o:List (ByteArray×V)) (key:ByteArray) (v:V) (del:Bool):List (ByteArray×V):=if del=true then remF o key else withF o key v
def finF (key:ByteArray) (v:V) (s:List (ByteArray×V)×Bool):List (ByteArray×V):=if s.2=false then s.1++ [(key,v)] else s.1
theorem zi2 {f:ByteArray×V} :∀ {r:List (ByteArray×V)},rising (f::r)=true->(∀g ∈ r,Op.bytesLess f.1.toList g.1.toList=true)/\rising r=true:=by
 intro r
 induction r generalizing f with
 |nil=>intro _;exact ⟨fun g hg=>by simp at hg,rfl⟩
 | cons b r ih=>
   intro h
   simp only [rising,Bool.and_eq_true] at h
   obtain ⟨h1,h2⟩:=ih h.2
   refine ⟨fun g hg=> ?_,h.2⟩
   rcases List.mem_cons.1 hg with rfl|hg
   .exact h.1
   .exact Jt h.1 (h1 g hg)
theorem Jc (key:ByteArray) (v:V):∀(o acc:List (ByteArray×V)),(∀f ∈ o,f.1.toList≠key.toList)->o.foldl (fldStep key v) (acc,true)=(acc++o,true):=by
 intro o
 induction o with
 |nil=>intro acc _;simp
 | cons f r ih=>
   intro acc h
   rw [List.foldl_cons]
   have h1:fldStep key v (acc,true) f=(acc++ [f],true):=by
    unfold fldStep
    rw [if_neg (by simp),if_neg (h f (List.mem_cons_self ..))]
   rw [h1,ih _ (fun g hg=>h g (List.mem_cons_of_mem _ hg))]
   simp
theorem zg0 (key:ByteArray) (v:V) (del:Bool):∀(o acc:List (ByteArray×V)),rising o=true->finF key v (o.foldl (fldStep key v) (acc,del))=acc++newF o key v del:=by
 intro o
 induction o with
 |nil=>intro acc _;cases del<;>simp [finF,newF,remF,withF]
 | cons f r ih=>
   intro acc h
   obtain ⟨ha,hr⟩:=zi2 h
   rw [List.foldl_cons]
   by_cases hf:Op.bytesLess f.1.toList key.toList=true
   .have hne:f.1.toList≠key.toList:=(Jm _ _ hf).2
    have h1:fldStep key v (acc,del) f=(acc++ [f],del):=by
     unfold fldStep
     rw [if_neg (by rw [hf];simp),if_neg hne]
    have hk:fieldK (f::r) key=fieldK r key+1:=by
     unfold fieldK;rw [List.takeWhile_cons,if_pos hf,List.length_cons]
    have hi:fieldIs (f::r) key=fieldIs r key:=by
     unfold fieldIs;rw [hk,List.getElem?_cons_succ]
    rw [h1,ih _ hr]
    have:newF (f::r) key v del=f::newF r key v del:=by
     unfold newF remF withF
     rw [hk,hi]
     have e:(if fieldIs r key=true then fieldK r key+1+1 else fieldK r key+1)=(if fieldIs r key=true then fieldK r key+1 else fieldK r key)+1:=by split<;>rfl
     rw [e,List.drop_succ_cons,List.take_succ_cons]
     cases del<;>simp
    rw [this];simp
   .have hf':Op.bytesLess f.1.toList key.toList=false:=by simpa using hf
    have hne:∀g ∈ r,g.1.toList≠key.toList:=fun g hg e=>by
     have:=ha g hg
     rw [e,hf'] at this;cases this
    have hk:fieldK (f::r) key=0:=by
     unfold fieldK;rw [List.takeWhile_cons,if_neg hf];rfl
    have hi:fieldIs (f::r) key=(f.1.toList==key.toList):=by
     unfold fieldIs;rw [hk];rfl
    unfold newF remF withF
    rw [hk,hi]
    by_cases he:f.1.toList=key.toList
    .cases del with
     | true=>
       have h1:fldStep key v (acc,true) f=(acc,true):=by
        unfold fldStep
        rw [if_neg (by simp),if_pos he]
       rw [h1,Jc key v r acc hne]
       simp [finF,he]
     | false=>
       have h1:fldStep key v (acc,false) f=(acc++ [(key,v)],true):=by
        unfold fldStep
        rw [if_pos ⟨rfl,hf'⟩,if_pos he]
       rw [h1,Jc key v r _ hne]
       simp [finF,he]
    .have heb:(f.1.toList==key.toList)=false:=by simpa using he
     cases del with
     | true=>
       have h1:fldStep key v (acc,true) f=(acc++ [f],true):=by
        unfold fldStep
        rw [if_neg (by simp),if_neg he]
       rw [h1,Jc key v r _ hne]
       simp [finF,heb]
     | false=>
       have h1:fldStep key v (acc,false) f=(acc++ [(key,v)] ++ [f],true):=by
        unfold fldStep
        rw [if_pos ⟨rfl,hf'⟩,if_neg he]
       rw [h1,Jc key v r _ hne]
       simp [finF,heb]
theorem Q3 {o:List (ByteArray×V)} (h:rising o=true) (key:ByteArray) (v:V) (del:Bool):fieldsDo o key v del=newF o key v del:=by
 have:=zg0 key v del o [] h
 rw [List.nil_append] at this
 rw [<-this];rfl
theorem zf4 (o:List (ByteArray×V)) (key:ByteArray) (v:V):(remF o key).take (fieldK o key)++(key,v)::(remF o key).drop (fieldK o key)=withF o key v:=by
 have hl:(o.take (fieldK o key)).length=fieldK o key:=by rw [List.length_take,Nat.min_eq_left (Yh o key)]
 unfold remF withF
 rw [List.take_left' hl,List.drop_left' hl]
theorem za6 (co:List (ByteArray×VC)):∀i,(co.flatMap fcells).take (i*6)=(co.take i).flatMap fcells:=by
 induction co with
 |nil=>intro i;simp
 | cons c r ih=>
   intro i
   cases i with
   |zero=>simp
   | succ i=>
     rw [List.flatMap_cons,List.take_succ_cons,List.flatMap_cons, <-ih i,List.take_append,List.take_of_length_le (by simp [fcells];omega),show (i+1)*6 - (fcells c).length=i*6 by simp [fcells];omega]
theorem zcb (co:List (ByteArray×VC)):∀i,(co.flatMap fcells).drop (i*6)=(co.drop i).flatMap fcells:=by
 induction co with
 |nil=>intro i;simp
 | cons c r ih=>
   intro i
   cases i with
   |zero=>simp
   | succ i=>
     rw [List.flatMap_cons,List.drop_succ_cons, <-ih i,List.drop_append,List.drop_eq_nil_of_le (by simp [fcells];omega),List.nil_append,show (i+1)*6 - (fcells c).length=i*6 by simp [fcells];omega]
theorem zk9 {w:World} {B1:Nat} {S:Nat->Prop} {v:Value} {l:List V} {cs:List VC} (hown:w.ownsRow B1 36 5 v l.length (cs.flatMap vcells)) (hS:∀g,v.ownBlock=some g->S g) (hl:cs.length=l.length) (hels:∀i,i<l.length->PV l cs (only S w) w.heap.size i) (hfew:l.length<=1466015503701):
 ∃a n c,v= .slice a n c/\IsVals (only S w) w.heap.size l a n c/\(a=none->c=0):=by
 obtain ⟨a,c,hv,hr⟩:=OwnRow.of (base':=B1) hown (Nat.le_refl _)
 have hI:=Xq (w:=only S w) (B:=w.heap.size) (k:=0) (n:=0) (s:= .empty) (l:=l) (o:= []) (a:=a) (m:=l.length) (c:=c) (a':=none) (m':=0) (c':=0) (cl:=cs) (co:= []) (by omega) (by omega) (by omega) (by omega) (by decide) rfl rfl hl rfl hfew (by simp) hr.cap hr.max (by omega) (by omega) (fun hp=>by
  obtain ⟨g,e,hg,hbc⟩:=hr.row (.inl hp)
  have hSg:=hS g (by rw [hv,e];rfl)
  exact ⟨g,e,hbc.lt,fun i hi=>Yd hSg (Yo hbc hi)⟩) (fun h=>absurd h (by omega)) hels (fun i h=>absurd h (by simp))
 refine ⟨a,l.length,c,hv,hI.lists.2.2.2.2.1,fun ha=> ?_⟩
 by_cases hn:l.length=0
 .exact hr.none_ hn ha
 .obtain ⟨g,e,_⟩:=hr.row (.inl (by omega))
  rw [ha] at e;cases e
theorem zd2 {w:World} {B1:Nat} {S:Nat->Prop} {v:Value} {l:List (ByteArray×V)} {cs:List (ByteArray×VC)} (hown:w.ownsRow B1 75 6 v l.length (cs.flatMap fcells)) (hS:∀g,v.ownBlock=some g->S g) (hl:cs.length=l.length) (hels:∀i,i<l.length->PF l cs (only S w) w.heap.size i) (hfew:l.length<=1466015503701):
 ∃a n c,v= .slice a n c/\IsFields (only S w) w.heap.size l a n c/\(a=none->c=0):=by
 obtain ⟨a,c,hv,hr⟩:=OwnRow.of (base':=B1) hown (Nat.le_refl _)
 have hI:=Xq (w:=only S w) (B:=w.heap.size) (k:=0) (n:=0) (s:= .empty) (l:= []) (o:=l) (a:=none) (m:=0) (c:=0) (a':=a) (m':=l.length) (c':=c) (cl:= []) (co:=cs) (by omega) (by omega) (by omega) (by omega) (by decide) rfl rfl rfl hl (by simp) hfew (by omega) (by omega) hr.cap hr.max (fun h=>absurd h (by omega)) (fun hp=>by
  obtain ⟨g,e,hg,hbc⟩:=hr.row (.inl hp)
  have hSg:=hS g (by rw [hv,e];rfl)
  exact ⟨g,e,hbc.lt,fun i hi=>⟨Z3 hSg (Z2 hbc hi).1,Yd hSg (Z2 hbc hi).2⟩⟩) (fun i h=>absurd h (by simp)) hels
 refine ⟨a,l.length,c,hv,hI.lists.2.2.2.2.2,fun ha=> ?_⟩
 by_cases hn:l.length=0
 .exact hr.none_ hn ha
 .obtain ⟨g,e,_⟩:=hr.row (.inl (by omega))
  rw [ha] at e;cases e
structure FRow (w:World) (base:Nat) (S:Nat->Prop) (u:Value) (o:List (ByteArray×V)) (co:List (ByteArray×VC)):Prop where
 len:co.length=o.length
 own:w.ownsRow base 75 6 u o.length (co.flatMap fcells)
 keys:∀i (h:i<o.length) (h':i<co.length),co[i].1=o[i].1/\o[i].1.size<=140737488355328
 els:∀i (h:i<o.length) (h':i<co.length),IsVal (only (fun k=>S k/\u.ownBlock≠some k) w) w.heap.size o[i].2 co[i].2
theorem FRow.of {w:World} {base:Nat} {S:Nat->Prop} {o:List (ByteArray×V)} {d:VC} {x:V} (h:Whole w base x d) (hx:x.os=o) (hS:∀k,base<=k->k<w.heap.size->S k):∃co,FRow w base S (.slice d.oa d.ol d.oc) o co:=by
 obtain ⟨h1,h2,cl,co,s,W0,h3⟩:=h
 subst hx
 refine ⟨co,h3.lenO,h3.rowO,h3.keys,fun i hi hi'=> ?_⟩
 obtain ⟨T,t1,_,t3⟩:=h3.elsO i hi hi' (by omega)
 refine t3.isVal fun k hk=> ?_
 have h0:=h3.mono 0 (x.ls.length+i) (Nat.zero_le _) (by omega)
 have:=t1 k hk
 have hb:=t3.bnd k hk
 exact ⟨hS k (by have:=h3.s0;omega) hb,fun e=>by have:=h3.loO k e;omega⟩
theorem Whole.lists {w:World} {base:Nat} {S:Nat->Prop} {d:VC} {x:V} (h:Whole w base x d) (hS:∀k,base<=k->k<w.heap.size->S k) (hfew:x.ls.length<=1466015503701):
 IsVals (only (fun k=>S k/\(Value.slice d.oa d.ol d.oc).ownBlock≠some k) w) w.heap.size x.ls d.la d.ll d.lc:=by
 obtain ⟨h1,h2,cl,co,s,W0,h3⟩:=h
 have h:=zk9 (S:=fun k=>S k/\(Value.slice d.oa d.ol d.oc).ownBlock≠some k) h3.rowL (fun g hg=>⟨hS g (h3.rowL.lt g hg).1 (h3.rowL.lt g hg).2,h3.apart g hg⟩) h3.lenL (fun i hi hi'=> ?_) hfew
 .obtain ⟨a,n,c,e,hI,_⟩:=h
  injection e with e1 e2 e3
  rw [e1,e2,e3];exact hI
 .have e:cl.getD i vzero=cl[i]'(by have:=h3.lenL;omega):=by rw [List.getD_eq_getElem?_getD,List.getElem?_eq_getElem (by have:=h3.lenL;omega)];rfl
  rw [e]
  obtain ⟨T,t1,_,t3⟩:=h3.elsL i hi (by have:=h3.lenL;omega) (by omega)
  refine t3.isVal fun k hk=> ?_
  have h0:=h3.mono 0 i (Nat.zero_le _) (by omega)
  have:=t1 k hk
  have hb:=t3.bnd k hk
  exact ⟨hS k (by have:=h3.s0;omega) hb,fun e=>by have:=h3.loO k e;omega⟩
theorem FRow.later {w w':World} {base:Nat} {S:Nat->Prop} {u:Value} {o:List (ByteArray×V)} {co:List (ByteArray×VC)} (h:FRow w base S u o co) (hb:Below w.heap.size w w'):FRow w' base S u o co:=
 ⟨h.len,h.own.kept (row:=none) ⟨hb.os,hb.tape,hb.output,hb.size,fun k hk _=>hb.block k hk⟩ (by cases hv:u.ownBlock<;>simp),h.keys,fun i hi hi'=>((h.els i hi hi').sub (Ze fun k hk hl=>⟨hk,hb.block k hl⟩)).more hb.size⟩
theorem zb0 {w w':World} {S:Nat->Prop} {u u':Value} (hg:w.grownBy w' u.ownBlock) (hu:u'.ownBlock=u.ownBlock∨u'.ownBlock=some w.heap.size):Shows (only (fun k=>S k/\u.ownBlock≠some k) w) (only (fun k=>S k/\u'.ownBlock≠some k) w') w.heap.size:=
 Ze fun k hk hl=>⟨⟨hk.1,fun e=>by
  rcases hu with hu|hu
  .exact hk.2 (hu ▸ e)
  .rw [hu] at e;injection e with e;omega⟩,hg.block k hl (fun e=>hk.2 e.symm)⟩
theorem FRow.ins {w w':World} {base i:Nat} {S:Nat->Prop} {u u':Value} {o:List (ByteArray×V)} {co:List (ByteArray×VC)} {key:ByteArray} {x:V} {cx:VC} (h:FRow w base S u o co) (hi:i<=o.length) (hks:key.size<=140737488355328) (hx:IsVal (only (fun k=>S k/\u.ownBlock≠some k) w) w.heap.size x cx)
 (ho:w'.ownsRow base 75 6 u' (o.length+1) ((co.flatMap fcells).take (i*6)++fcells (key,cx)++(co.flatMap fcells).drop (i*6))) (hg:w.grownBy w' u.ownBlock) (hu:u'.ownBlock=u.ownBlock∨u'.ownBlock=some w.heap.size):
 FRow w' base S u' (o.take i++(key,x)::o.drop i) (co.take i++(key,cx)::co.drop i):=by
 have hl:=h.len
 have mv:∀ {y:V} {c:VC},IsVal (only (fun k=>S k/\u.ownBlock≠some k) w) w.heap.size y c->IsVal (only (fun k=>S k/\u'.ownBlock≠some k) w') w'.heap.size y c:=fun hy=>(hy.sub (zb0 hg hu)).more hg.size
 have e:(o.take i++(key,x)::o.drop i).length=o.length+1:=by simp;omega
 have els:∀k (hk:k<(o.take i++(key,x)::o.drop i).length) (hk':k<(co.take i++(key,cx)::co.drop i).length),((co.take i++(key,cx)::co.drop i)[k].1=(o.take i++(key,x)::o.drop i)[k].1/\(o.take i++(key,x)::o.drop i)[k].1.size<=140737488355328)/\IsVal (only (fun k=>S k/\u'.ownBlock≠some k) w') w'.heap.size (o.take i++(key,x)::o.drop i)[k].2 (co.take i++(key,cx)::co.drop i)[k].2:=by
  intro k hk hk'
  by_cases h1:k<i
  .rw [List.getElem_append_left (by rw [List.length_take];omega),List.getElem_append_left (by rw [List.length_take];omega),List.getElem_take,List.getElem_take]
   exact ⟨h.keys k (by omega) (by omega),mv (h.els k (by omega) (by omega))⟩
  .rw [List.getElem_append_right (by rw [List.length_take];omega),List.getElem_append_right (by rw [List.length_take];omega)]
   have e1:k - (o.take i).length=k - i:=by rw [List.length_take];omega
   have e2:k - (co.take i).length=k - i:=by rw [List.length_take];omega
   simp only [e1,e2]
   rw [e] at hk
   by_cases h2:k - i=0
   .rw [List.getElem_cons,List.getElem_cons,dif_pos h2,dif_pos h2]
    exact ⟨⟨rfl,hks⟩,mv hx⟩
   .rw [List.getElem_cons,List.getElem_cons,dif_neg h2,dif_neg h2,List.getElem_drop,List.getElem_drop]
    exact ⟨h.keys (i+(k - i - 1)) (by omega) (by omega),mv (h.els (i+(k - i - 1)) (by omega) (by omega))⟩
 refine ⟨by simp [hl], ?_,fun k hk hk'=>(els k hk hk').1,fun k hk hk'=>(els k hk hk').2⟩
 rw [za6,zcb] at ho
 rw [e,List.flatMap_append,List.flatMap_cons, <-List.append_assoc]
 exact ho
theorem FRow.rem {w w':World} {base i:Nat} {S:Nat->Prop} {u u':Value} {o:List (ByteArray×V)} {co:List (ByteArray×VC)} (h:FRow w base S u o co) (hi:i<o.length)
 (ho:w'.ownsRow base 75 6 u' (o.length - 1) ((co.flatMap fcells).take (i*6)++(co.flatMap fcells).drop ((i+1)*6))) (hg:w.grownBy w' u.ownBlock) (hu:u'.ownBlock=u.ownBlock∨u'.ownBlock=some w.heap.size):
 FRow w' base S u' (o.take i++o.drop (i+1)) (co.take i++co.drop (i+1)):=by
 have hl:=h.len
 have mv:∀ {y:V} {c:VC},IsVal (only (fun k=>S k/\u.ownBlock≠some k) w) w.heap.size y c->IsVal (only (fun k=>S k/\u'.ownBlock≠some k) w') w'.heap.size y c:=fun hy=>(hy.sub (zb0 hg hu)).more hg.size
 have e:(o.take i++o.drop (i+1)).length=o.length - 1:=by simp;omega
 have els:∀k (hk:k<(o.take i++o.drop (i+1)).length) (hk':k<(co.take i++co.drop (i+1)).length),((co.take i++co.drop (i+1))[k].1=(o.take i++o.drop (i+1))[k].1/\(o.take i++o.drop (i+1))[k].1.size<=140737488355328)/\IsVal (only (fun k=>S k/\u'.ownBlock≠some k) w') w'.heap.size (o.take i++o.drop (i+1))[k].2 (co.take i++co.drop (i+1))[k].2:=by
  intro k hk hk'
  rw [e] at hk
  by_cases h1:k<i
  .rw [List.getElem_append_left (by rw [List.length_take];omega),List.getElem_append_left (by rw [List.length_take];omega),List.getElem_take,List.getElem_take]
   exact ⟨h.keys k (by omega) (by omega),mv (h.els k (by omega) (by omega))⟩
  .rw [List.getElem_append_right (by rw [List.length_take];omega),List.getElem_append_right (by rw [List.length_take];omega)]
   have e1:k - (o.take i).length=k - i:=by rw [List.length_take];omega
   have e2:k - (co.take i).length=k - i:=by rw [List.length_take];omega
   simp only [e1,e2,List.getElem_drop]
   exact ⟨h.keys (i+1+(k - i)) (by omega) (by omega),mv (h.els (i+1+(k - i)) (by omega) (by omega))⟩
 refine ⟨by simp [hl], ?_,fun k hk hk'=>(els k hk hk').1,fun k hk hk'=>(els k hk hk').2⟩
 rw [za6,zcb] at ho
 rw [e,List.flatMap_append]
 exact ho
theorem FRow.flds {w:World} {base:Nat} {S:Nat->Prop} {u:Value} {o:List (ByteArray×V)} {co:List (ByteArray×VC)} (h:FRow w base S u o co) (hS:∀g,u.ownBlock=some g->S g) (hfew:o.length<=1466015503701):∃a n c,u= .slice a n c/\IsFields (only S w) w.heap.size o a n c/\(a=none->c=0):=by
 refine zd2 h.own hS h.len (fun i hi=> ?_) hfew
 intro hi'
 have e:co.getD i fzero=co[i]'(by have:=h.len;omega):=by rw [List.getD_eq_getElem?_getD,List.getElem?_eq_getElem (by have:=h.len;omega)];rfl
 rw [e]
 obtain ⟨k1,k2⟩:=h.keys i hi (by have:=h.len;omega)
 exact ⟨k1,k2,(h.els i hi (by have:=h.len;omega)).sub (Ze fun k hk _=>⟨hk.1,rfl⟩)⟩
theorem BC.grown {w w':World} {b:Nat} {u:Option Nat} {cs:List Value} (h:BC w b cs) (hg:w.grownBy w' u) (hne:u≠some b):BC w' b cs:=by
 have hb:=hg.block b h.lt (fun e=>hne e.symm)
 exact ⟨fun j x hj=>(World.cell?_of_block hb).trans (h.at_ j x hj),fun j=>(Yj hb).trans (h.fr j),Nat.lt_of_lt_of_le h.lt hg.size⟩
theorem K4 (s:ByteArray) (i:Nat):s.extract i s.size=⟨(s.data.toList.drop i).toArray⟩:=by
 apply ByteArray.ext
 apply Array.ext'
 rw [ByteArray.data_extract,Array.toList_extract,List.extract_eq_take_drop]
 exact List.take_of_length_le (by rw [List.length_drop,Array.length_toList];exact Nat.le_refl _)
theorem zbd (s:ByteArray) (i:Nat):Utf8.decode s i=Lib.decodeL (s.data.toList.drop i):=by
 have h:=Lib.tail_decode s i 0
 rw [Nat.add_zero,K4] at h
 exact h.symm
theorem zkm (s:ByteArray) (f:Nat):∀i,Lib.runeCountFrom s f i=(cutsP f i (s.data.toList.drop i)).length:=by
 induction f with
 |zero=>intro i;rfl
 | succ f ih=>
   intro i
   have hz:s.data.toList.length=s.size:=Array.length_toList
   unfold cutsP Lib.runeCountFrom
   by_cases h:i<s.size
   .rw [if_pos h,if_neg (fun e=>by have:=congrArg List.length e;rw [List.length_drop,hz] at this;simp at this;omega),List.length_cons,ih,zbd,List.drop_drop]
    omega
   .rw [if_neg h,if_pos (List.drop_eq_nil_of_le (by omega))];rfl
theorem ze9 (s:ByteArray):Lib.runeCount s=textN s:=by
 rw [Lib.runeCount,zkm,List.drop_zero,textN,cuts,List.length_append];rfl
theorem zi7 (w:World) (s:ByteArray) (hs:s.size<=1000000000000):
 Calls Tryz.prog 101 #[.string s] w fun e w'=>e= .returned (.int .i64 (textN s:Int))/\Below w.heap.size w w':=by
 have HC:=qh (Tryz.utf8_RuneCountInString s w (by omega))
 rw [<-ze9]
 go_enter Tryz.func101,Tryz.ntmps101
 go_wp2_with fail
 refine HC.out.mono ?_
 rintro e w1 ⟨rfl,pos,rfl⟩
 go_wp2_with fail
 go_returns
 exact ⟨rfl,(Below.refl _ _).alloc (Nat.le_refl _) _⟩
theorem zb1 (s:ByteArray) (i:Nat):(cuts s).getD i s.size=(cutsP s.size 0 s.data.toList).getD i s.size:=by
 rw [cuts,List.getD_eq_getElem?_getD,List.getD_eq_getElem?_getD]
 by_cases h:i<(cutsP s.size 0 s.data.toList).length
 .rw [List.getElem?_append_left h]
 .rw [List.getElem?_append_right (by omega),List.getElem?_eq_none (l:=cutsP s.size 0 s.data.toList) (by omega)]
  by_cases e:i - (cutsP s.size 0 s.data.toList).length=0
  .rw [e];rfl
  .rw [List.getElem?_eq_none (by simp;omega)]
set_option maxRecDepth 100000 in
theorem zb2 (w:World) (s:ByteArray) (i:Nat) (hi:i<=9223372036854775807):
 Calls Tryz.prog 124 #[.string s, .int .i64 (i:Int)] w fun e w'=>e= .returned (.int .i64 ((cuts s).getD i s.size:Int))/\Below w.heap.size w w':=by
 rw [zb1]
 have hz:s.data.toList.length=s.size:=Array.length_toList
 have HZ:=qh hz
 obtain ⟨R,hR⟩:∃R,(cutsP s.size 0 s.data.toList).getD i s.size=R:=⟨_,rfl⟩
 have HR:=qh hR
 rw [hR]
 clear hR hz
 go_enter Tryz.func124,Tryz.ntmps124
 go_wp2_with fail
 go_loopw [1,5] (fun iv _ wr=>∃(pos m:Nat),wr=w.iter s pos/\m<=i/\iv= .int .i64 (m:Int)/\Hid ((cutsP (s.data.toList.drop pos).length pos (s.data.toList.drop pos)).getD m s.size=R)) (fun _ _ wr=>s.size - wr.iterPos w.heap.size)
 case atStart=>exact ⟨0,i,rfl,Nat.le_refl _,rfl,qh (by rw [List.drop_zero,HZ.out];exact HR.out)⟩
 case round=>
  obtain ⟨pos,m,rfl,hm,rfl,HC⟩:=hrel
  by_cases hp:pos<s.size
  .have hnx:∀ty,(Instr.next (.pointer (some ⟨w.heap.size,0,none⟩)) true ty).run Tryz.prog (w.iter s pos)=_:=fun ty=>run_next_any w s pos ty hp
   have hwd:=Lib.decode_width_pos s pos hp
   have hne:s.data.toList.drop pos≠ [] :=fun e=>by
    have:=congrArg List.length e
    rw [List.length_drop,HZ.out] at this
    simp at this;omega
   have hcs:=HC.out
   rw [Kf hne, <-zbd,List.drop_drop] at hcs
   have HCS:=qh hcs
   have hw1:IntKind.i64.wrap ((m:Int) - 1)=(m:Int) - 1:=IntWalk.i64_in _ (by omega)
   clear hcs hne
   by_cases h0:m=0
   .subst h0
    have hr:pos=R:=by have:=HCS.out;rwa [List.getD_cons_zero] at this
    subst hr
    clear HCS HC
    go_wp2_with fail
    go_returns
    exact ⟨rfl,(Below.refl _ _).alloc (Nat.le_refl _) _⟩
   .have f0:((m:Int)==0)=false:=by simp;omega
    go_wp2_with fail
    go_roundw
    case rel=>
     obtain ⟨m',rfl⟩:∃m',m=m'+1:=⟨m - 1,by omega⟩
     refine ⟨pos+(Utf8.decode s pos).2,m',rfl,by omega,by go_num,qh ?_⟩
     have:=HCS.out
     rwa [List.getD_cons_succ] at this
    case measure=>
     simp
     omega
  .have hnx:∀ty,(Instr.next (.pointer (some ⟨w.heap.size,0,none⟩)) true ty).run Tryz.prog (w.iter s pos)=_:=fun ty=>run_next_end w s pos ty hp
   have hr:s.size=R:=by
    have:=HC.out
    rw [List.drop_eq_nil_of_le (by rw [HZ.out];omega)] at this
    exact this
   subst hr
   clear HC HR
   go_wp2_with fail
   go_returns
   exact ⟨rfl,(Below.refl _ _).alloc (Nat.le_refl _) _⟩
set_option maxRecDepth 100000 in
theorem zb4 (w:World) (s:ByteArray) (c:CC) (hb:c.Bnd) (hs:s.size<=1000000000000):
 Calls Tryz.prog 114 #[.string s, .agg #[.int .u8 c.k, .slice c.pa c.pl c.pc, .string c.key, .int .i64 c.i, .int .i64 c.j, .int .i64 c.n, .int .u8 c.v.k, .int .i64 c.v.n, .string c.v.s, .slice c.v.la c.v.ll c.v.lc, .slice c.v.oa c.v.ol c.v.oc, .string c.s]] w fun e w'=>e= .returned (.int .u16 (tCheck s c.k c.i c.n))/\Below w.heap.size w w':=by
 have n0:=hb.n0;have n1:=hb.n1;have i0:=hb.i0;have i1:=hb.i1
 obtain ⟨N,hN⟩:∃N,textN s=N:=⟨_,rfl⟩
 have hNl:N<=1000000000000:=by have:=(Xp s).2;rw [<-hN,textN];omega
 have HN:Hid (∀W,Below w.heap.size w W->Calls Tryz.prog 101 #[.string s] W fun e w'=>e= .returned (.int .i64 (N:Int))/\Below W.heap.size W w'):=fun W hW=>by rw [<-hN];exact zi7 W s hs
 have HBX:=qh (BC.start w #[.int .u8 c.k, .slice c.pa c.pl c.pc, .string c.key, .int .i64 c.i, .int .i64 c.j, .int .i64 c.n, .int .u8 c.v.k, .int .i64 c.v.n, .string c.v.s, .slice c.v.la c.v.ll c.v.lc, .slice c.v.oa c.v.ol c.v.oc, .string c.s] 39)
 have HAL:=qh ((Below.refl _ _).alloc (Nat.le_refl _) (.cells #[.int .u8 c.k, .slice c.pa c.pl c.pc, .string c.key, .int .i64 c.i, .int .i64 c.j, .int .i64 c.n, .int .u8 c.v.k, .int .i64 c.v.n, .string c.v.s, .slice c.v.la c.v.ll c.v.lc, .slice c.v.oa c.v.ol c.v.oc, .string c.s] 39):Below w.heap.size w _)
 obtain ⟨R,hR⟩:∃R,tCheck s c.k c.i c.n=R:=⟨_,rfl⟩
 rw [hR]
 rw [tCheck,hN] at hR
 have HR:=qh hR
 obtain ⟨ck,hck⟩:∃ck,c.k=ck:=⟨_,rfl⟩
 obtain ⟨ci,hci⟩:∃ci,c.i=ci:=⟨_,rfl⟩
 obtain ⟨cn,hcn⟩:∃cn,c.n=cn:=⟨_,rfl⟩
 rw [hck,hci,hcn] at HR
 rw [hcn] at n0 n1
 rw [hci] at i0 i1
 rw [hck,hci,hcn] at HBX HAL ⊢
 clear hR hN hb hck hci hcn
 by_cases e8:ck=8
 .cases e8
  have f9:((8:Int)==9)=false:=rfl
  by_cases hi0:ci<0
  .obtain rfl:R=32:=by rw [<-HR.out];simp [hi0]
   go_enter Tryz.func114,Tryz.ntmps114
   go_wp2_with fail
   refine (HN.out _ HAL.out).mono ?_
   rintro e w1 ⟨rfl,hb1⟩
   have D:=HBX.out.keep hb1 (by simp)
   have b0:=D.at_ 0 _ rfl;have b1:=D.at_ 1 _ rfl;have b2:=D.at_ 2 _ rfl;have b3:=D.at_ 3 _ rfl;have b4:=D.at_ 4 _ rfl;have b5:=D.at_ 5 _ rfl;have b6:=D.at_ 6 _ rfl;have b7:=D.at_ 7 _ rfl;have b8:=D.at_ 8 _ rfl;have b9:=D.at_ 9 _ rfl;have b10:=D.at_ 10 _ rfl;have b11:=D.at_ 11 _ rfl
   have zs:=D.lt
   have HBL:=qh (HAL.out.trans (hb1.mono (by simp)))
   clear D hb1
   go_wp2_with fail
   go_returns
   exact ⟨rfl,HBL.out⟩
  .by_cases hi1:(N:Int)<ci
   .obtain rfl:R=32:=by rw [<-HR.out];simp [hi1]
    go_enter Tryz.func114,Tryz.ntmps114
    go_wp2_with fail
    refine (HN.out _ HAL.out).mono ?_
    rintro e w1 ⟨rfl,hb1⟩
    have D:=HBX.out.keep hb1 (by simp)
    have b0:=D.at_ 0 _ rfl;have b1:=D.at_ 1 _ rfl;have b2:=D.at_ 2 _ rfl;have b3:=D.at_ 3 _ rfl;have b4:=D.at_ 4 _ rfl;have b5:=D.at_ 5 _ rfl;have b6:=D.at_ 6 _ rfl;have b7:=D.at_ 7 _ rfl;have b8:=D.at_ 8 _ rfl;have b9:=D.at_ 9 _ rfl;have b10:=D.at_ 10 _ rfl;have b11:=D.at_ 11 _ rfl
    have zs:=D.lt
    have HBL:=qh (HAL.out.trans (hb1.mono (by simp)))
    clear D hb1
    go_wp2_with fail
    go_returns
    exact ⟨rfl,HBL.out⟩
   .obtain rfl:R=0:=by rw [<-HR.out];simp [hi0,hi1]
    go_enter Tryz.func114,Tryz.ntmps114
    go_wp2_with fail
    refine (HN.out _ HAL.out).mono ?_
    rintro e w1 ⟨rfl,hb1⟩
    have D:=HBX.out.keep hb1 (by simp)
    have b0:=D.at_ 0 _ rfl;have b1:=D.at_ 1 _ rfl;have b2:=D.at_ 2 _ rfl;have b3:=D.at_ 3 _ rfl;have b4:=D.at_ 4 _ rfl;have b5:=D.at_ 5 _ rfl;have b6:=D.at_ 6 _ rfl;have b7:=D.at_ 7 _ rfl;have b8:=D.at_ 8 _ rfl;have b9:=D.at_ 9 _ rfl;have b10:=D.at_ 10 _ rfl;have b11:=D.at_ 11 _ rfl
    have zs:=D.lt
    have HBL:=qh (HAL.out.trans (hb1.mono (by simp)))
    clear D hb1
    go_wp2_with fail
    go_returns
    exact ⟨rfl,HBL.out⟩
 .have f8 : (ck !=8)=true:=by simp [e8]
  by_cases e9:ck=9
  .cases e9
   by_cases hi0:ci<0
   .obtain rfl:R=32:=by rw [<-HR.out];simp [hi0]
    go_enter Tryz.func114,Tryz.ntmps114
    go_wp2_with fail
    refine (HN.out _ HAL.out).mono ?_
    rintro e w1 ⟨rfl,hb1⟩
    have D:=HBX.out.keep hb1 (by simp)
    have b0:=D.at_ 0 _ rfl;have b1:=D.at_ 1 _ rfl;have b2:=D.at_ 2 _ rfl;have b3:=D.at_ 3 _ rfl;have b4:=D.at_ 4 _ rfl;have b5:=D.at_ 5 _ rfl;have b6:=D.at_ 6 _ rfl;have b7:=D.at_ 7 _ rfl;have b8:=D.at_ 8 _ rfl;have b9:=D.at_ 9 _ rfl;have b10:=D.at_ 10 _ rfl;have b11:=D.at_ 11 _ rfl
    have zs:=D.lt
    have HBL:=qh (HAL.out.trans (hb1.mono (by simp)))
    clear D hb1
    go_wp2_with fail
    go_returns
    exact ⟨rfl,HBL.out⟩
   .by_cases hi1:(N:Int)<ci
    .obtain rfl:R=32:=by rw [<-HR.out];simp [hi1]
     go_enter Tryz.func114,Tryz.ntmps114
     go_wp2_with fail
     refine (HN.out _ HAL.out).mono ?_
     rintro e w1 ⟨rfl,hb1⟩
     have D:=HBX.out.keep hb1 (by simp)
     have b0:=D.at_ 0 _ rfl;have b1:=D.at_ 1 _ rfl;have b2:=D.at_ 2 _ rfl;have b3:=D.at_ 3 _ rfl;have b4:=D.at_ 4 _ rfl;have b5:=D.at_ 5 _ rfl;have b6:=D.at_ 6 _ rfl;have b7:=D.at_ 7 _ rfl;have b8:=D.at_ 8 _ rfl;have b9:=D.at_ 9 _ rfl;have b10:=D.at_ 10 _ rfl;have b11:=D.at_ 11 _ rfl
     have zs:=D.lt
     have HBL:=qh (HAL.out.trans (hb1.mono (by simp)))
     clear D hb1
     go_wp2_with fail
     go_returns
     exact ⟨rfl,HBL.out⟩
    .have hw1:IntKind.i64.wrap ((N:Int) - ci)=(N:Int) - ci:=IntWalk.i64_in _ (by omega)
     by_cases hn1:cn<1
     .obtain rfl:R=32:=by rw [<-HR.out];simp [hi0,hi1,hn1]
      go_enter Tryz.func114,Tryz.ntmps114
      go_wp2_with fail
      refine (HN.out _ HAL.out).mono ?_
      rintro e w1 ⟨rfl,hb1⟩
      have D:=HBX.out.keep hb1 (by simp)
      have b0:=D.at_ 0 _ rfl;have b1:=D.at_ 1 _ rfl;have b2:=D.at_ 2 _ rfl;have b3:=D.at_ 3 _ rfl;have b4:=D.at_ 4 _ rfl;have b5:=D.at_ 5 _ rfl;have b6:=D.at_ 6 _ rfl;have b7:=D.at_ 7 _ rfl;have b8:=D.at_ 8 _ rfl;have b9:=D.at_ 9 _ rfl;have b10:=D.at_ 10 _ rfl;have b11:=D.at_ 11 _ rfl
      have zs:=D.lt
      have HBL:=qh (HAL.out.trans (hb1.mono (by simp)))
      clear D hb1
      go_wp2_with fail
      go_returns
      exact ⟨rfl,HBL.out⟩
     .by_cases hn2:(N:Int) - ci<cn
      .obtain rfl:R=32:=by rw [<-HR.out];simp [hi0,hi1,hn2]
       go_enter Tryz.func114,Tryz.ntmps114
       go_wp2_with fail
       refine (HN.out _ HAL.out).mono ?_
       rintro e w1 ⟨rfl,hb1⟩
       have D:=HBX.out.keep hb1 (by simp)
       have b0:=D.at_ 0 _ rfl;have b1:=D.at_ 1 _ rfl;have b2:=D.at_ 2 _ rfl;have b3:=D.at_ 3 _ rfl;have b4:=D.at_ 4 _ rfl;have b5:=D.at_ 5 _ rfl;have b6:=D.at_ 6 _ rfl;have b7:=D.at_ 7 _ rfl;have b8:=D.at_ 8 _ rfl;have b9:=D.at_ 9 _ rfl;have b10:=D.at_ 10 _ rfl;have b11:=D.at_ 11 _ rfl
       have zs:=D.lt
       have HBL:=qh (HAL.out.trans (hb1.mono (by simp)))
       clear D hb1
       go_wp2_with fail
       go_returns
       exact ⟨rfl,HBL.out⟩
      .obtain rfl:R=0:=by rw [<-HR.out];simp [hi0,hi1,hn1,hn2]
       go_enter Tryz.func114,Tryz.ntmps114
       go_wp2_with fail
       refine (HN.out _ HAL.out).mono ?_
       rintro e w1 ⟨rfl,hb1⟩
       have D:=HBX.out.keep hb1 (by simp)
       have b0:=D.at_ 0 _ rfl;have b1:=D.at_ 1 _ rfl;have b2:=D.at_ 2 _ rfl;have b3:=D.at_ 3 _ rfl;have b4:=D.at_ 4 _ rfl;have b5:=D.at_ 5 _ rfl;have b6:=D.at_ 6 _ rfl;have b7:=D.at_ 7 _ rfl;have b8:=D.at_ 8 _ rfl;have b9:=D.at_ 9 _ rfl;have b10:=D.at_ 10 _ rfl;have b11:=D.at_ 11 _ rfl
       have zs:=D.lt
       have HBL:=qh (HAL.out.trans (hb1.mono (by simp)))
       clear D hb1
       go_wp2_with fail
       go_returns
       exact ⟨rfl,HBL.out⟩
  .have f9:(ck !=9)=true:=by simp [e9]
   obtain rfl:R=31:=by rw [<-HR.out];simp [e8,e9]
   go_enter Tryz.func114,Tryz.ntmps114
   go_wp2_with fail
   refine (HN.out _ HAL.out).mono ?_
   rintro e w1 ⟨rfl,hb1⟩
   have D:=HBX.out.keep hb1 (by simp)
   have b0:=D.at_ 0 _ rfl;have b1:=D.at_ 1 _ rfl;have b2:=D.at_ 2 _ rfl;have b3:=D.at_ 3 _ rfl;have b4:=D.at_ 4 _ rfl;have b5:=D.at_ 5 _ rfl;have b6:=D.at_ 6 _ rfl;have b7:=D.at_ 7 _ rfl;have b8:=D.at_ 8 _ rfl;have b9:=D.at_ 9 _ rfl;have b10:=D.at_ 10 _ rfl;have b11:=D.at_ 11 _ rfl
   have zs:=D.lt
   have HBL:=qh (HAL.out.trans (hb1.mono (by simp)))
   clear D hb1
   go_wp2_with fail
   go_returns
   exact ⟨rfl,HBL.out⟩
end Go.Proofs.YtnjgbiachcfigaaGreatDoor
