/-
  Contracts of the functions that the law reaches: Reading, in plain Lean; values in new memory. reader.cut.
-/
import Derived.Test.YthceefjafklcmaaGreatDoorMd10
import Derived.Defers
import Derived.Recover
namespace Go.Proofs.YthceefjafklcmaaGreatDoor
open Go.RowKit
def num (l:List UInt8):Nat:=l.foldl (fun n b=>n*256+b.toNat) 0
theorem num_snoc (l:List UInt8) (b:UInt8):num (l++ [b])=num l*256+b.toNat:=by simp [num]
theorem num_lt_aux (l:List UInt8):∀a,l.foldl (fun n b=>n*256+b.toNat) a<(a+1)*256 ^ l.length:=by
  induction l with
  |nil=>intro a;simp
  | cons b l ih=>
    intro a
    have h1:=ih (a*256+b.toNat)
    have h2:=b.toNat_lt
    have h3:(a*256+b.toNat+1)*256 ^ l.length≤((a+1)*256)*256 ^ l.length:=Nat.mul_le_mul_right _ (by omega)
    have h4:((a+1)*256)*256 ^ l.length=(a+1)*256 ^ (b::l).length:=by
      rw [List.length_cons,Nat.pow_succ,Nat.mul_assoc,Nat.mul_comm 256]
    simp only [List.foldl_cons]
    omega
theorem num_lt (l:List UInt8):num l<256 ^ l.length:=by have:=num_lt_aux l 0;simpa [num] using this
def rdN (k:Nat) (bs:List UInt8):Option (Nat×List UInt8):=if k≤bs.length then some (num (bs.take k),bs.drop k) else none
def rdM (k:Nat) (bs:List UInt8):Option (Nat×List UInt8):=(rdN k bs).bind fun p=>if p.1≤p.2.length then some p else none
def rdT (bs:List UInt8):Option (ByteArray×List UInt8):=(rdM 4 bs).bind fun p=>some (⟨(p.2.take p.1).toArray⟩,p.2.drop p.1)
def rdL {α:Type} (f:List UInt8→Option (α×List UInt8)):Nat→List UInt8→Option (List α×List UInt8)
  |0,bs=>some ([],bs)
  |n+1,bs=>(rdL f n bs).bind fun p=>(f p.2).bind fun q=>some (p.1++ [q.1],q.2)
def rdV:Nat→List UInt8→Option (V×List UInt8)
  |0,_=>none
  | d+1,bs=>(rdN 1 bs).bind fun p=>
    if p.1=1∨p.1=2 then (rdN 8 p.2).bind fun q=>some (.mk p.1 (wrap64 q.1) .empty [] [],q.2)
    else if p.1=3 then (rdT p.2).bind fun q=>some (.mk p.1 0 q.1 [] [],q.2)
    else if p.1=4 then (rdM 4 p.2).bind fun q=>(rdL (fun x=>rdV d x) q.1 q.2).bind fun r=>some (.mk p.1 0 .empty r.1 [],r.2)
    else if p.1=5 then (rdM 4 p.2).bind fun q=>(rdL (fun x=>(rdT x).bind fun y=>(rdV d y.2).bind fun z=>some ((y.1,z.1),z.2)) q.1 q.2).bind fun r=>some (.mk p.1 0 .empty [] r.1,r.2)
    else some (.mk p.1 0 .empty [] [],p.2)
def rdS (bs:List UInt8):Option (St×List UInt8):=(rdN 1 bs).bind fun p=>
  if p.1=1 then (rdN 8 p.2).bind fun q=>some (⟨true,wrap64 q.1, .empty⟩,q.2) else (rdT p.2).bind fun q=>some (⟨false,0,q.1⟩,q.2)
def rdI (bs:List UInt8):Option (Int×List UInt8):=(rdN 8 bs).bind fun q=>some (wrap64 q.1,q.2)
def rdIf {α:Type} (b:Bool) (z:α) (f:List UInt8→Option (α×List UInt8)) (bs:List UInt8):Option (α×List UInt8):=if b=true then f bs else some (z,bs)
def rdC (bs:List UInt8):Option (Cm×List UInt8):=(rdN 1 bs).bind fun p=>(rdM 1 p.2).bind fun n=>(rdL rdS n.1 n.2).bind fun q=>
  (rdIf (hasB (saysB p.1) 75) .empty rdT q.2).bind fun k=>(rdIf (hasB (saysB p.1) 73) 0 rdI k.2).bind fun i=>(rdIf (hasB (saysB p.1) 74) 0 rdI i.2).bind fun j=>
  (rdIf (hasB (saysB p.1) 78) 0 rdI j.2).bind fun m=>(rdIf (hasB (saysB p.1) 86) V.none (rdV 18) m.2).bind fun v=>(rdIf (hasB (saysB p.1) 83) .empty rdT v.2).bind fun s=>
  some (⟨p.1,q.1,k.1,i.1,j.1,m.1,v.1,s.1⟩,s.2)
def rdE (bs:List UInt8):Option (En×List UInt8):=(rdN 1 bs).bind fun p=>(rdN 4 p.2).bind fun s=>(rdN 4 s.2).bind fun q=>
  if p.1=1 then (rdV 18 q.2).bind fun v=>some (⟨p.1,s.1,q.1,v.1, []⟩,v.2)
  else if p.1=2 then (rdM 4 q.2).bind fun n=>(rdL rdC n.1 n.2).bind fun l=>some (⟨p.1,s.1,q.1,V.none,l.1⟩,l.2)
  else some (⟨p.1,s.1,q.1,V.none, []⟩,q.2)
theorem rdL_none {α:Type} {f:List UInt8→Option (α×List UInt8)} {i n:Nat} {bs:List UInt8} (h:rdL f i bs=none) (hn:i≤n):rdL f n bs=none:=by
  induction n with
  | zero => have:i=0:=by omega
            subst this;exact h
  | succ n ih=>
    by_cases hi:i=n+1
    · subst hi;exact h
    · rw [rdL,ih (by omega)];rfl
open Classical in
noncomputable def only (S:Nat→Prop) (w:World):World:= { w with heap:=w.heap.mapIdx fun k o=>if S k then o else .cells #[] 0 (0,0) }
theorem only_size (S:Nat→Prop) (w:World):(only S w).heap.size=w.heap.size:=by simp [only]
theorem only_block {S:Nat→Prop} {w:World} {k:Nat} (h:S k):(only S w).heap[k]? =w.heap[k]? :=by
  simp [only,h]
theorem only_cell {S:Nat→Prop} {w:World} {b o:Nat} {u:Value} (h:(only S w).cell? ⟨b,o,none⟩=some u):S b∧w.cell? ⟨b,o,none⟩=some u:=by
  by_cases hs:S b
  · exact ⟨hs,(World.cell?_of_block (w':=only S w) (w:=w) (by exact only_block hs)).symm.trans h⟩
  · exfalso
    have hlt:=World.block_lt_of_cell? _ _ h
    rw [only_size] at hlt
    have hk:(only S w).heap[b]? =some (.cells #[] 0 (0,0)):=by simp [only,hs,hlt]
    rw [cell_of_row _ b o #[] 0 (0,0) hk] at h
    simp at h
theorem only_cell' {S:Nat→Prop} {w:World} {b o:Nat} {u:Value} (hs:S b) (h:w.cell? ⟨b,o,none⟩=some u):(only S w).cell? ⟨b,o,none⟩=some u:=
  (World.cell?_of_block (w':=only S w) (w:=w) (by exact only_block hs)).trans h
def Shows (w w':World) (B:Nat):Prop:=∀b o u,b<B→w.cell? ⟨b,o,none⟩=some u→w'.cell? ⟨b,o,none⟩=some u
theorem ValAt.sub {w w':World} {B b o:Nat} {c:VC} (h:ValAt w b o c) (hs:Shows w w' B) (hB:b<B):ValAt w' b o c:=
  ⟨hs _ _ _ hB h.c0,hs _ _ _ hB h.c1,hs _ _ _ hB h.c2,hs _ _ _ hB h.c3,hs _ _ _ hB h.c4⟩
theorem IsVal.sub {w w':World} {B:Nat} (hs:Shows w w' B) {v:V} {c:VC} (h:IsVal w B v c):IsVal w' B v c:=by
  induction h with
  | mk c l o cl co lb lo ob oo hbd hl ho hla hoa hlc hlv hoc hov ihl iho=>
    refine .mk c l o cl co lb lo ob oo hbd hl ho hla hoa (fun i hi=>(hlc i hi).sub hs (hla (by omega)).2) ihl (fun i hi=> ?_) iho
    have hB:=(hoa (by omega)).2
    obtain ⟨h1,h2,h3⟩:=hoc i hi
    exact ⟨hs _ _ _ hB h1,h2,h3.sub hs hB⟩
theorem IsSteps.sub {w w':World} {B:Nat} (hs:Shows w w' B) {p:List St} {a:Option Addr} {n c:Nat} (h:IsSteps w B p a n c):IsSteps w' B p a n c:=by
  obtain ⟨h1,h2,h3,h4,b,o,h5,h6⟩:=h
  exact ⟨h1,h2,h3,h4,b,o,h5,fun i hi=>⟨⟨hs _ _ _ (h5 (by omega)).2 (h6 i hi).1.c0,hs _ _ _ (h5 (by omega)).2 (h6 i hi).1.c1,hs _ _ _ (h5 (by omega)).2 (h6 i hi).1.c2⟩,(h6 i hi).2⟩⟩
theorem IsComp.sub {w w':World} {B:Nat} (hs:Shows w w' B) {x:Cm} {c:CC} (h:IsComp w B x c):IsComp w' B x c:=by
  cases h with
  |mk c p v hbd hp hv=>exact .mk c p v hbd (hp.sub hs) (hv.sub hs)
theorem IsComps.sub {w w':World} {B:Nat} (hs:Shows w w' B) {l:List Cm} {a:Option Addr} {n c:Nat} (h:IsComps w B l a n c):IsComps w' B l a n c:=by
  obtain ⟨h1,h2,h3,h4,b,o,f,h5,h6⟩:=h
  refine ⟨h1,h2,h3,h4,b,o,f,h5,fun i hi=>⟨?_,(h6 i hi).2.sub hs⟩⟩
  have hB:=(h5 (by omega)).2
  have x:=(h6 i hi).1
  exact ⟨hs _ _ _ hB x.c0,hs _ _ _ hB x.c1,hs _ _ _ hB x.c2,hs _ _ _ hB x.c3,hs _ _ _ hB x.c4,hs _ _ _ hB x.c5,x.c6.sub hs hB,hs _ _ _ hB x.c11⟩
theorem IsEntry.sub {w w':World} {B:Nat} (hs:Shows w w' B) {x:En} {c:EC} (h:IsEntry w B x c):IsEntry w' B x c:=by
  cases h with
  |mk c v l hbd hv ho=>exact .mk c v l hbd (hv.sub hs) (ho.sub hs)
theorem shows_only (S:Nat→Prop) (w:World) (B:Nat):Shows (only S w) w B:=fun _ _ _ _ h=>(only_cell h).2
theorem shows_step {S S':Nat→Prop} {w w':World} (h:∀k,S k→k<w.heap.size→S' k∧w'.heap[k]? =w.heap[k]?):Shows (only S w) (only S' w') w.heap.size:=by
  intro b o u hb hc
  obtain ⟨hs,hc⟩:=only_cell hc
  obtain ⟨h1,h2⟩:=h b hs hb
  exact only_cell' h1 ((World.cell?_of_block h2).trans hc)
structure RStep (w w':World) (rb:Nat):Prop where
  os:w'.os=w.os
  tape:w'.tape=w.tape
  output:w'.output=w.output
  size:w.heap.size≤w'.heap.size
  block:∀k,k<w.heap.size→k≠rb→w'.heap[k]? =w.heap[k]?
theorem RStep.refl (w:World) (rb:Nat):RStep w w rb:=⟨rfl,rfl,rfl,Nat.le_refl _,fun _ _ _=>rfl⟩
theorem RStep.trans {w w1 w2:World} {rb:Nat} (h:RStep w w1 rb) (g:RStep w1 w2 rb):RStep w w2 rb:=
  ⟨g.os.trans h.os,g.tape.trans h.tape,g.output.trans h.output,Nat.le_trans h.size g.size,fun k hk hr=>(g.block k (Nat.lt_of_lt_of_le hk h.size) hr).trans (h.block k hk hr)⟩
theorem RStep.of_below {w w':World} (rb:Nat) (h:Below w.heap.size w w'):RStep w w' rb:=⟨h.os,h.tape,h.output,h.size,fun k hk _=>h.block k hk⟩
theorem RStep.below {w w':World} {rb:Nat} (h:RStep w w' rb) (hB:rb≤w.heap.size):Below rb w w':=⟨h.os,h.tape,h.output,h.size,fun k hk=>h.block k (by omega) (by omega)⟩
theorem RStep.cell {w w':World} {rb:Nat} (h:RStep w w' rb) {b o:Nat} {u:Value} (hc:w.cell? ⟨b,o,none⟩=some u) (hb:b≠rb):w'.cell? ⟨b,o,none⟩=some u:=
  (World.cell?_of_block (h.block b (World.block_lt_of_cell? w _ hc) hb)).trans hc
structure Rdr (w:World) (rb:Nat) (bs:List UInt8) (d:Int):Prop where
  at_:∃a n c,w.cell? ⟨rb,0,none⟩=some (.slice a n c)∧IsB w rb a n c bs
  deep:w.cell? ⟨rb,1,none⟩=some (.int .i64 d)
  f0:w.frozen? ⟨rb,0,none⟩=false
  f1:w.frozen? ⟨rb,1,none⟩=false
theorem Rdr.lt {w:World} {rb:Nat} {bs:List UInt8} {d:Int} (h:Rdr w rb bs d):rb<w.heap.size:=World.block_lt_of_cell? w _ h.deep
theorem Rdr.of_below {w w':World} {rb:Nat} {bs:List UInt8} {d:Int} (h:Rdr w rb bs d) (hb:Below w.heap.size w w'):Rdr w' rb bs d:=by
  have hlt:=h.lt
  obtain ⟨⟨a,n,c,h0,hI⟩,h1,h2,h3⟩:=h
  exact ⟨⟨a,n,c,keep_cell hb h0 hlt,hI.keep (hb.mono (Nat.le_of_lt hlt))⟩,keep_cell hb h1 hlt,(hb.frozen hlt).trans h2,(hb.frozen hlt).trans h3⟩
theorem IsB.take {w:World} {B:Nat} {a:Option Addr} {n c:Nat} {bs:List UInt8} (h:IsB w B a n c bs) (k:Nat) (hk:k≤n):IsB w B a k c (bs.take k):=by
  obtain ⟨h1,h2,h3,b,o,h5,h6⟩:=h
  refine ⟨by rw [List.length_take];omega,by omega,h3,b,o,fun hn=>h5 (by omega),fun i hi=> ?_⟩
  rw [List.length_take] at hi
  have:=h6 i (by omega)
  rw [List.getElem_take];exact this
theorem IsB.get {w:World} {B:Nat} {a:Option Addr} {n c:Nat} {bs:List UInt8} (h:IsB w B a n c bs) {k:Nat} (hk:k<n):
    ∃b o,∃hp:k<bs.length,a=some ⟨b,o,none⟩∧b<B∧w.cell? ⟨b,o+k,none⟩=some (.int .u8 (bs[k].toNat:Int)):=by
  obtain ⟨h1,h2,h3,b,o,h5,h6⟩:=h
  exact ⟨b,o,by omega,(h5 (by omega)).1,(h5 (by omega)).2,h6 k (by omega)⟩
end Go.Proofs.YthceefjafklcmaaGreatDoor
namespace Go.Proofs.YthceefjafklcmaaGreatDoor
open Go.RowKit
def short:PanicEntry:= { v:= .iface 121 (.agg #[]),recovered:=false }
theorem add_at (b o k:Nat):(⟨b,o,none⟩:Addr).add k=⟨b,o+k,none⟩:=by unfold Addr.add;split<;>simp_all
theorem IsB.drop {w:World} {B:Nat} {a:Option Addr} {n c:Nat} {bs:List UInt8} (h:IsB w B a n c bs) (k:Nat) (hk:k≤n):IsB w B (a.map (fun x=>x.add k)) (n - k) (c - k) (bs.drop k):=by
  obtain ⟨h1,h2,h3,b,o,h5,h6⟩:=h
  refine ⟨by rw [List.length_drop];omega,by omega,by omega,b,o+k,fun hn=> ?_,fun i hi=> ?_⟩
  · obtain ⟨e,hb⟩:=h5 (by omega)
    exact ⟨by rw [e,Option.map_some,add_at],hb⟩
  · rw [List.length_drop] at hi
    have:=h6 (k+i) (by omega)
    rw [List.getElem_drop,Nat.add_assoc];exact this
theorem IsB.none_left {w:World} {B:Nat} {a a':Option Addr} {n c:Nat} {bs:List UInt8} (h:IsB w B a n c bs) (hn:n=0):IsB w B a' 0 0 bs:=by
  obtain ⟨h1,h2,h3,b,o,h5,h6⟩:=h
  exact ⟨by omega,by omega,by omega,b,o,fun h=>by omega,h6⟩
theorem Rdr.set {w:World} {rb:Nat} {bs bs':List UInt8} {d:Int} (h:Rdr w rb bs d) {a:Option Addr} {n c:Nat} (hI:IsB w rb a n c bs'):Rdr (w.setCell ⟨rb,0,none⟩ (.slice a n c)) rb bs' d∧RStep w (w.setCell ⟨rb,0,none⟩ (.slice a n c)) rb:=by
  obtain ⟨⟨a0,n0,c0,h0,_⟩,h1,h2,h3⟩:=h
  have hb:RStep w (w.setCell ⟨rb,0,none⟩ (.slice a n c)) rb:=⟨rfl,rfl,rfl,by simp,fun k hk hr=>heap_setCell_other _ _ _ _ hr⟩
  refine ⟨⟨⟨a,n,c,World.cell?_setCell_same _ _ _ h0,hI.keep (hb.below (Nat.le_of_lt (World.block_lt_of_cell? w _ h1)))⟩, ?_,by simpa using h2,by simpa using h3⟩,hb⟩
  rw [World.cell?_setCell_other]
  · exact h1
  · simp
theorem Rdr.setDeep {w:World} {rb:Nat} {bs:List UInt8} {d d':Int} (h:Rdr w rb bs d):Rdr (w.setCell ⟨rb,1,none⟩ (.int .i64 d')) rb bs d'∧RStep w (w.setCell ⟨rb,1,none⟩ (.int .i64 d')) rb:=by
  obtain ⟨⟨a0,n0,c0,h0,hI⟩,h1,h2,h3⟩:=h
  have hb:RStep w (w.setCell ⟨rb,1,none⟩ (.int .i64 d')) rb:=⟨rfl,rfl,rfl,by simp,fun k hk hr=>heap_setCell_other _ _ _ _ hr⟩
  refine ⟨⟨⟨a0,n0,c0, ?_,hI.keep (hb.below (Nat.le_of_lt (World.block_lt_of_cell? w _ h1)))⟩,World.cell?_setCell_same _ _ _ h1,by simpa using h2,by simpa using h3⟩,hb⟩
  rw [World.cell?_setCell_other]
  · exact h0
  · simp
theorem cut_none (w:World) (rb:Nat) (bs:List UInt8) (d:Int) (h:Rdr w rb bs d) (k:Nat) (hk:bs.length<k):
    Calls Tryz.prog 102 #[.pointer (some ⟨rb,0,none⟩), .int .i64 k] w fun e w'=>e= .panicked [short] ∧w'=w:=by
  obtain ⟨⟨a,n,c,h0,hI⟩,h1,h2,h3⟩:=h
  have hn:=hI.len
  have hkn:n<k:=by omega
  clear hI hk hn
  go_enter Tryz.func102,Tryz.ntmps102
  go_wp2_with fail
  exact ⟨rfl,rfl,rfl⟩
theorem cut_some (w:World) (rb:Nat) (bs:List UInt8) (d:Int) (h:Rdr w rb bs d) (k:Nat) (hk:k≤bs.length):
    Calls Tryz.prog 102 #[.pointer (some ⟨rb,0,none⟩), .int .i64 k] w fun e w'=>(∃a n c,e= .returned (.slice a n c)∧IsB w' rb a n c (bs.take k))∧Rdr w' rb (bs.drop k) d∧RStep w w' rb:=by
  have H:=Lib.hid h
  obtain ⟨⟨a,n,c,h0,hI⟩,h1,h2,h3⟩:=h
  have HI:=Lib.hid hI
  have hn:=hI.len
  have hc:=hI.cap
  have hm:=hI.max
  have hkn:k≤n:=by omega
  have hlt:rb<w.heap.size:=World.block_lt_of_cell? w _ h1
  clear hI hk hn
  by_cases e:c=k
  · subst e
    have hz:n - c=0:=by omega
    go_enter Tryz.func102,Tryz.ntmps102
    go_wp2_with fail
    go_returns
    have hD:=H.out.set ((HI.out.drop c hkn).none_left (a':=a) hz)
    exact ⟨⟨a,c,c,rfl,(HI.out.take c hkn).keep (hD.2.below (Nat.le_of_lt hlt))⟩,hD⟩
  · have hck:k<c:=by omega
    go_enter Tryz.func102,Tryz.ntmps102
    go_wp2_with fail
    go_returns
    have hD:=H.out.set (HI.out.drop k hkn)
    exact ⟨⟨a,k,c,rfl,(HI.out.take k hkn).keep (hD.2.below (Nat.le_of_lt hlt))⟩,hD⟩
end Go.Proofs.YthceefjafklcmaaGreatDoor
