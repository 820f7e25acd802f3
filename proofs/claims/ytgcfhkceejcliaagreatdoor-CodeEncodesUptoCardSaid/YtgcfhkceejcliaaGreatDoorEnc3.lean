/-
  Contracts of the functions that the law reaches: Reading, in plain Lean; values in new memory. reader.cut. take, many, text of the program's reader. reader.value's deferred call, and how the function is left. Rows that are being built, of what lies in new memory. reader.value: what stands in memory while it runs. reader.value, but for lists and objects. reader.value's loops: what stands at the head of a round. reader.step; boxes of cells while a reader runs. reader.value: a list. A field's zero. A value whose list and object lie in rows of their own. One of a row's values is another one: list, object. Pieces (Tok) in memory. What Raw builds of pieces, in plain Lean. reader.value's loop over an object's fields: what stands at the head of a round. reader.value: an object. raw: what stands in memory while it runs. raw. Raw.
-/
import Derived.Test.YtgcfhkceejcliaaGreatDoorEnc2
import Derived.Defers
import Derived.Recover
import Derived.Laws.BitsAllLaws
import Derived.Laws.IdiomStrings
import Derived.Lib.BufferRead
namespace Go.Proofs.YtgcfhkceejcliaaGreatDoor
open Go.RowKit
def num (l:List UInt8):Nat:=l.foldl (fun n b=>n*256+b.toNat) 0
theorem num_snoc (l:List UInt8) (b:UInt8):num (l++ [b])=num l*256+b.toNat:=by simp [num]
theorem num_lt_aux (l:List UInt8):∀a,l.foldl (fun n b=>n*256+b.toNat) a<(a+1)*256 ^ l.length:=by
  induction l with
  |nil=>intro a;simp
  | cons b l ih=>
    intro a
    have h1:=ih (a*256+b.toNat)
    have h2:=b.toNat_lt
    have h3:(a*256+b.toNat+1)*256 ^ l.length≤((a+1)*256)*256 ^ l.length:=Nat.mul_le_mul_right _ (by omega)
    have h4:((a+1)*256)*256 ^ l.length=(a+1)*256 ^ (b::l).length:=by
      rw [List.length_cons,Nat.pow_succ,Nat.mul_assoc,Nat.mul_comm 256]
    simp only [List.foldl_cons]
    omega
theorem num_lt (l:List UInt8):num l<256 ^ l.length:=by have:=num_lt_aux l 0;simpa [num] using this
def rdN (k:Nat) (bs:List UInt8):Option (Nat×List UInt8):=if k≤bs.length then some (num (bs.take k),bs.drop k) else none
def rdM (k:Nat) (bs:List UInt8):Option (Nat×List UInt8):=(rdN k bs).bind fun p=>if p.1≤p.2.length then some p else none
def rdT (bs:List UInt8):Option (ByteArray×List UInt8):=(rdM 4 bs).bind fun p=>some (⟨(p.2.take p.1).toArray⟩,p.2.drop p.1)
def rdL {α:Type} (f:List UInt8→Option (α×List UInt8)):Nat→List UInt8→Option (List α×List UInt8)
  |0,bs=>some ([],bs)
  |n+1,bs=>(rdL f n bs).bind fun p=>(f p.2).bind fun q=>some (p.1++ [q.1],q.2)
def rdV:Nat→List UInt8→Option (V×List UInt8)
  |0,_=>none
  | d+1,bs=>(rdN 1 bs).bind fun p=>
    if p.1=1∨p.1=2 then (rdN 8 p.2).bind fun q=>some (.mk p.1 (wrap64 q.1) .empty [] [],q.2)
    else if p.1=3 then (rdT p.2).bind fun q=>some (.mk p.1 0 q.1 [] [],q.2)
    else if p.1=4 then (rdM 4 p.2).bind fun q=>(rdL (fun x=>rdV d x) q.1 q.2).bind fun r=>some (.mk p.1 0 .empty r.1 [],r.2)
    else if p.1=5 then (rdM 4 p.2).bind fun q=>(rdL (fun x=>(rdT x).bind fun y=>(rdV d y.2).bind fun z=>some ((y.1,z.1),z.2)) q.1 q.2).bind fun r=>some (.mk p.1 0 .empty [] r.1,r.2)
    else some (.mk p.1 0 .empty [] [],p.2)
def rdS (bs:List UInt8):Option (St×List UInt8):=(rdN 1 bs).bind fun p=>
  if p.1=1 then (rdN 8 p.2).bind fun q=>some (⟨true,wrap64 q.1, .empty⟩,q.2) else (rdT p.2).bind fun q=>some (⟨false,0,q.1⟩,q.2)
def rdI (bs:List UInt8):Option (Int×List UInt8):=(rdN 8 bs).bind fun q=>some (wrap64 q.1,q.2)
def rdIf {α:Type} (b:Bool) (z:α) (f:List UInt8→Option (α×List UInt8)) (bs:List UInt8):Option (α×List UInt8):=if b=true then f bs else some (z,bs)
def rdC (bs:List UInt8):Option (Cm×List UInt8):=(rdN 1 bs).bind fun p=>(rdM 1 p.2).bind fun n=>(rdL rdS n.1 n.2).bind fun q=>
  (rdIf (hasB (saysB p.1) 75) .empty rdT q.2).bind fun k=>(rdIf (hasB (saysB p.1) 73) 0 rdI k.2).bind fun i=>(rdIf (hasB (saysB p.1) 74) 0 rdI i.2).bind fun j=>
  (rdIf (hasB (saysB p.1) 78) 0 rdI j.2).bind fun m=>(rdIf (hasB (saysB p.1) 86) V.none (rdV 18) m.2).bind fun v=>(rdIf (hasB (saysB p.1) 83) .empty rdT v.2).bind fun s=>
  some (⟨p.1,q.1,k.1,i.1,j.1,m.1,v.1,s.1⟩,s.2)
def rdE (bs:List UInt8):Option (En×List UInt8):=(rdN 1 bs).bind fun p=>(rdN 4 p.2).bind fun s=>(rdN 4 s.2).bind fun q=>
  if p.1=1 then (rdV 18 q.2).bind fun v=>some (⟨p.1,s.1,q.1,v.1, []⟩,v.2)
  else if p.1=2 then (rdM 4 q.2).bind fun n=>(rdL rdC n.1 n.2).bind fun l=>some (⟨p.1,s.1,q.1,V.none,l.1⟩,l.2)
  else some (⟨p.1,s.1,q.1,V.none, []⟩,q.2)
open Classical in
noncomputable def only (S:Nat→Prop) (w:World):World:= { w with heap:=w.heap.mapIdx fun k o=>if S k then o else .cells #[] 0 (0,0) }
theorem only_size (S:Nat→Prop) (w:World):(only S w).heap.size=w.heap.size:=by simp [only]
theorem only_block {S:Nat→Prop} {w:World} {k:Nat} (h:S k):(only S w).heap[k]? =w.heap[k]? :=by
  simp [only,h]
theorem only_cell {S:Nat→Prop} {w:World} {b o:Nat} {u:Value} (h:(only S w).cell? ⟨b,o,none⟩=some u):S b∧w.cell? ⟨b,o,none⟩=some u:=by
  by_cases hs:S b
  · exact ⟨hs,(World.cell?_of_block (w':=only S w) (w:=w) (by exact only_block hs)).symm.trans h⟩
  · exfalso
    have hlt:=World.block_lt_of_cell? _ _ h
    rw [only_size] at hlt
    have hk:(only S w).heap[b]? =some (.cells #[] 0 (0,0)):=by simp [only,hs,hlt]
    rw [cell_of_row _ b o #[] 0 (0,0) hk] at h
    simp at h
theorem only_cell' {S:Nat→Prop} {w:World} {b o:Nat} {u:Value} (hs:S b) (h:w.cell? ⟨b,o,none⟩=some u):(only S w).cell? ⟨b,o,none⟩=some u:=
  (World.cell?_of_block (w':=only S w) (w:=w) (by exact only_block hs)).trans h
def Shows (w w':World) (B:Nat):Prop:=∀b o u,b<B→w.cell? ⟨b,o,none⟩=some u→w'.cell? ⟨b,o,none⟩=some u
theorem ValAt.sub {w w':World} {B b o:Nat} {c:VC} (h:ValAt w b o c) (hs:Shows w w' B) (hB:b<B):ValAt w' b o c:=
  ⟨hs _ _ _ hB h.c0,hs _ _ _ hB h.c1,hs _ _ _ hB h.c2,hs _ _ _ hB h.c3,hs _ _ _ hB h.c4⟩
theorem IsVal.sub {w w':World} {B:Nat} (hs:Shows w w' B) {v:V} {c:VC} (h:IsVal w B v c):IsVal w' B v c:=by
  induction h with
  | mk c l o cl co lb lo ob oo hbd hl ho hla hoa hlc hlv hoc hov ihl iho=>
    refine .mk c l o cl co lb lo ob oo hbd hl ho hla hoa (fun i hi=>(hlc i hi).sub hs (hla (by omega)).2) ihl (fun i hi=> ?_) iho
    have hB:=(hoa (by omega)).2
    obtain ⟨h1,h2,h3⟩:=hoc i hi
    exact ⟨hs _ _ _ hB h1,h2,h3.sub hs hB⟩
theorem IsSteps.sub {w w':World} {B:Nat} (hs:Shows w w' B) {p:List St} {a:Option Addr} {n c:Nat} (h:IsSteps w B p a n c):IsSteps w' B p a n c:=by
  obtain ⟨h1,h2,h3,h4,b,o,h5,h6⟩:=h
  exact ⟨h1,h2,h3,h4,b,o,h5,fun i hi=>⟨⟨hs _ _ _ (h5 (by omega)).2 (h6 i hi).1.c0,hs _ _ _ (h5 (by omega)).2 (h6 i hi).1.c1,hs _ _ _ (h5 (by omega)).2 (h6 i hi).1.c2⟩,(h6 i hi).2⟩⟩
theorem IsComp.sub {w w':World} {B:Nat} (hs:Shows w w' B) {x:Cm} {c:CC} (h:IsComp w B x c):IsComp w' B x c:=by
  cases h with
  |mk c p v hbd hp hv=>exact .mk c p v hbd (hp.sub hs) (hv.sub hs)
theorem IsComps.sub {w w':World} {B:Nat} (hs:Shows w w' B) {l:List Cm} {a:Option Addr} {n c:Nat} (h:IsComps w B l a n c):IsComps w' B l a n c:=by
  obtain ⟨h1,h2,h3,h4,b,o,f,h5,h6⟩:=h
  refine ⟨h1,h2,h3,h4,b,o,f,h5,fun i hi=>⟨?_,(h6 i hi).2.sub hs⟩⟩
  have hB:=(h5 (by omega)).2
  have x:=(h6 i hi).1
  exact ⟨hs _ _ _ hB x.c0,hs _ _ _ hB x.c1,hs _ _ _ hB x.c2,hs _ _ _ hB x.c3,hs _ _ _ hB x.c4,hs _ _ _ hB x.c5,x.c6.sub hs hB,hs _ _ _ hB x.c11⟩
theorem IsEntry.sub {w w':World} {B:Nat} (hs:Shows w w' B) {x:En} {c:EC} (h:IsEntry w B x c):IsEntry w' B x c:=by
  cases h with
  |mk c v l hbd hv ho=>exact .mk c v l hbd (hv.sub hs) (ho.sub hs)
theorem shows_only (S:Nat→Prop) (w:World) (B:Nat):Shows (only S w) w B:=fun _ _ _ _ h=>(only_cell h).2
theorem shows_step {S S':Nat→Prop} {w w':World} (h:∀k,S k→k<w.heap.size→S' k∧w'.heap[k]? =w.heap[k]?):Shows (only S w) (only S' w') w.heap.size:=by
  intro b o u hb hc
  obtain ⟨hs,hc⟩:=only_cell hc
  obtain ⟨h1,h2⟩:=h b hs hb
  exact only_cell' h1 ((World.cell?_of_block h2).trans hc)
structure RStep (w w':World) (rb:Nat):Prop where
  os:w'.os=w.os
  tape:w'.tape=w.tape
  output:w'.output=w.output
  size:w.heap.size≤w'.heap.size
  block:∀k,k<w.heap.size→k≠rb→w'.heap[k]? =w.heap[k]?
theorem RStep.refl (w:World) (rb:Nat):RStep w w rb:=⟨rfl,rfl,rfl,Nat.le_refl _,fun _ _ _=>rfl⟩
theorem RStep.trans {w w1 w2:World} {rb:Nat} (h:RStep w w1 rb) (g:RStep w1 w2 rb):RStep w w2 rb:=
  ⟨g.os.trans h.os,g.tape.trans h.tape,g.output.trans h.output,Nat.le_trans h.size g.size,fun k hk hr=>(g.block k (Nat.lt_of_lt_of_le hk h.size) hr).trans (h.block k hk hr)⟩
theorem RStep.of_below {w w':World} (rb:Nat) (h:Below w.heap.size w w'):RStep w w' rb:=⟨h.os,h.tape,h.output,h.size,fun k hk _=>h.block k hk⟩
theorem RStep.below {w w':World} {rb:Nat} (h:RStep w w' rb) (hB:rb≤w.heap.size):Below rb w w':=⟨h.os,h.tape,h.output,h.size,fun k hk=>h.block k (by omega) (by omega)⟩
theorem RStep.cell {w w':World} {rb:Nat} (h:RStep w w' rb) {b o:Nat} {u:Value} (hc:w.cell? ⟨b,o,none⟩=some u) (hb:b≠rb):w'.cell? ⟨b,o,none⟩=some u:=
  (World.cell?_of_block (h.block b (World.block_lt_of_cell? w _ hc) hb)).trans hc
structure Rdr (w:World) (rb:Nat) (bs:List UInt8) (d:Int):Prop where
  at_:∃a n c,w.cell? ⟨rb,0,none⟩=some (.slice a n c)∧IsB w rb a n c bs
  deep:w.cell? ⟨rb,1,none⟩=some (.int .i64 d)
  f0:w.frozen? ⟨rb,0,none⟩=false
  f1:w.frozen? ⟨rb,1,none⟩=false
theorem Rdr.lt {w:World} {rb:Nat} {bs:List UInt8} {d:Int} (h:Rdr w rb bs d):rb<w.heap.size:=World.block_lt_of_cell? w _ h.deep
theorem Rdr.of_below {w w':World} {rb:Nat} {bs:List UInt8} {d:Int} (h:Rdr w rb bs d) (hb:Below w.heap.size w w'):Rdr w' rb bs d:=by
  have hlt:=h.lt
  obtain ⟨⟨a,n,c,h0,hI⟩,h1,h2,h3⟩:=h
  exact ⟨⟨a,n,c,keep_cell hb h0 hlt,hI.keep (hb.mono (Nat.le_of_lt hlt))⟩,keep_cell hb h1 hlt,(hb.frozen hlt).trans h2,(hb.frozen hlt).trans h3⟩
theorem IsB.take {w:World} {B:Nat} {a:Option Addr} {n c:Nat} {bs:List UInt8} (h:IsB w B a n c bs) (k:Nat) (hk:k≤n):IsB w B a k c (bs.take k):=by
  obtain ⟨h1,h2,h3,b,o,h5,h6⟩:=h
  refine ⟨by rw [List.length_take];omega,by omega,h3,b,o,fun hn=>h5 (by omega),fun i hi=> ?_⟩
  rw [List.length_take] at hi
  have:=h6 i (by omega)
  rw [List.getElem_take];exact this
theorem IsB.get {w:World} {B:Nat} {a:Option Addr} {n c:Nat} {bs:List UInt8} (h:IsB w B a n c bs) {k:Nat} (hk:k<n):
    ∃b o,∃hp:k<bs.length,a=some ⟨b,o,none⟩∧b<B∧w.cell? ⟨b,o+k,none⟩=some (.int .u8 (bs[k].toNat:Int)):=by
  obtain ⟨h1,h2,h3,b,o,h5,h6⟩:=h
  exact ⟨b,o,by omega,(h5 (by omega)).1,(h5 (by omega)).2,h6 k (by omega)⟩
end Go.Proofs.YtgcfhkceejcliaaGreatDoor
namespace Go.Proofs.YtgcfhkceejcliaaGreatDoor
open Go.RowKit
def short:PanicEntry:= { v:= .iface 114 (.agg #[]),recovered:=false }
theorem add_at (b o k:Nat):(⟨b,o,none⟩:Addr).add k=⟨b,o+k,none⟩:=by unfold Addr.add;split<;>simp_all
theorem IsB.drop {w:World} {B:Nat} {a:Option Addr} {n c:Nat} {bs:List UInt8} (h:IsB w B a n c bs) (k:Nat) (hk:k≤n):IsB w B (a.map (fun x=>x.add k)) (n - k) (c - k) (bs.drop k):=by
  obtain ⟨h1,h2,h3,b,o,h5,h6⟩:=h
  refine ⟨by rw [List.length_drop];omega,by omega,by omega,b,o+k,fun hn=> ?_,fun i hi=> ?_⟩
  · obtain ⟨e,hb⟩:=h5 (by omega)
    exact ⟨by rw [e,Option.map_some,add_at],hb⟩
  · rw [List.length_drop] at hi
    have:=h6 (k+i) (by omega)
    rw [List.getElem_drop,Nat.add_assoc];exact this
theorem IsB.none_left {w:World} {B:Nat} {a a':Option Addr} {n c:Nat} {bs:List UInt8} (h:IsB w B a n c bs) (hn:n=0):IsB w B a' 0 0 bs:=by
  obtain ⟨h1,h2,h3,b,o,h5,h6⟩:=h
  exact ⟨by omega,by omega,by omega,b,o,fun h=>by omega,h6⟩
theorem Rdr.set {w:World} {rb:Nat} {bs bs':List UInt8} {d:Int} (h:Rdr w rb bs d) {a:Option Addr} {n c:Nat} (hI:IsB w rb a n c bs'):Rdr (w.setCell ⟨rb,0,none⟩ (.slice a n c)) rb bs' d∧RStep w (w.setCell ⟨rb,0,none⟩ (.slice a n c)) rb:=by
  obtain ⟨⟨a0,n0,c0,h0,_⟩,h1,h2,h3⟩:=h
  have hb:RStep w (w.setCell ⟨rb,0,none⟩ (.slice a n c)) rb:=⟨rfl,rfl,rfl,by simp,fun k hk hr=>heap_setCell_other _ _ _ _ hr⟩
  refine ⟨⟨⟨a,n,c,World.cell?_setCell_same _ _ _ h0,hI.keep (hb.below (Nat.le_of_lt (World.block_lt_of_cell? w _ h1)))⟩, ?_,by simpa using h2,by simpa using h3⟩,hb⟩
  rw [World.cell?_setCell_other]
  · exact h1
  · simp
theorem Rdr.setDeep {w:World} {rb:Nat} {bs:List UInt8} {d d':Int} (h:Rdr w rb bs d):Rdr (w.setCell ⟨rb,1,none⟩ (.int .i64 d')) rb bs d'∧RStep w (w.setCell ⟨rb,1,none⟩ (.int .i64 d')) rb:=by
  obtain ⟨⟨a0,n0,c0,h0,hI⟩,h1,h2,h3⟩:=h
  have hb:RStep w (w.setCell ⟨rb,1,none⟩ (.int .i64 d')) rb:=⟨rfl,rfl,rfl,by simp,fun k hk hr=>heap_setCell_other _ _ _ _ hr⟩
  refine ⟨⟨⟨a0,n0,c0, ?_,hI.keep (hb.below (Nat.le_of_lt (World.block_lt_of_cell? w _ h1)))⟩,World.cell?_setCell_same _ _ _ h1,by simpa using h2,by simpa using h3⟩,hb⟩
  rw [World.cell?_setCell_other]
  · exact h0
  · simp
theorem cut_none (w:World) (rb:Nat) (bs:List UInt8) (d:Int) (h:Rdr w rb bs d) (k:Nat) (hk:bs.length<k):
    Calls Tryz.prog 95 #[.pointer (some ⟨rb,0,none⟩), .int .i64 k] w fun e w'=>e= .panicked [short] ∧w'=w:=by
  obtain ⟨⟨a,n,c,h0,hI⟩,h1,h2,h3⟩:=h
  have hn:=hI.len
  have hkn:n<k:=by omega
  clear hI hk hn
  go_enter Tryz.func95,Tryz.ntmps95
  go_wp2_with fail
  exact ⟨rfl,rfl,rfl⟩
theorem cut_some (w:World) (rb:Nat) (bs:List UInt8) (d:Int) (h:Rdr w rb bs d) (k:Nat) (hk:k≤bs.length):
    Calls Tryz.prog 95 #[.pointer (some ⟨rb,0,none⟩), .int .i64 k] w fun e w'=>(∃a n c,e= .returned (.slice a n c)∧IsB w' rb a n c (bs.take k))∧Rdr w' rb (bs.drop k) d∧RStep w w' rb:=by
  have H:=Lib.hid h
  obtain ⟨⟨a,n,c,h0,hI⟩,h1,h2,h3⟩:=h
  have HI:=Lib.hid hI
  have hn:=hI.len
  have hc:=hI.cap
  have hm:=hI.max
  have hkn:k≤n:=by omega
  have hlt:rb<w.heap.size:=World.block_lt_of_cell? w _ h1
  clear hI hk hn
  by_cases e:c=k
  · subst e
    have hz:n - c=0:=by omega
    go_enter Tryz.func95,Tryz.ntmps95
    go_wp2_with fail
    go_returns
    have hD:=H.out.set ((HI.out.drop c hkn).none_left (a':=a) hz)
    exact ⟨⟨a,c,c,rfl,(HI.out.take c hkn).keep (hD.2.below (Nat.le_of_lt hlt))⟩,hD⟩
  · have hck:k<c:=by omega
    go_enter Tryz.func95,Tryz.ntmps95
    go_wp2_with fail
    go_returns
    have hD:=H.out.set (HI.out.drop k hkn)
    exact ⟨⟨a,k,c,rfl,(HI.out.take k hkn).keep (hD.2.below (Nat.le_of_lt hlt))⟩,hD⟩
end Go.Proofs.YtgcfhkceejcliaaGreatDoor
namespace Go.Proofs.YtgcfhkceejcliaaGreatDoor
open Go.RowKit
theorem num_take (l:List UInt8) (k:Nat) (h:k<l.length):num (l.take (k+1))=num (l.take k)*256+l[k].toNat:=by
  rw [take_snoc l k h,num_snoc]
theorem or_byte (m y:Nat) (hm:m<72057594037927936) (hy:y<256):bits BinOp.or IntKind.u64 ((m:Int)*256) (y:Int)=((m*256+y:Nat):Int):=by
  have e:(m:Int)*256=((m*256:Nat):Int):=by omega
  have h:m*256+y=m*256|||y:=by
    have:=Nat.shiftLeft_add_eq_or_of_lt (show y<2 ^ 8 by omega) m
    simpa [Nat.shiftLeft_eq] using this
  have h2:=u64_or_nat (m*256) y (by omega) (by omega)
  have h3:bits BinOp.or IntKind.u64 ((m:Int)*256) (y:Int)=bits BinOp.or IntKind.u64 ((m*256:Nat):Int) (y:Int):=congrArg (fun z=>bits BinOp.or IntKind.u64 z (y:Int)) e
  exact h3.trans (h2.trans (congrArg (fun z:Nat=>(z:Int)) h.symm))
theorem wrapEq (x:Int):IntKind.i64.wrap x=wrap64 x:=by
  rw [IntKind.wrap_i64,wrap64]
theorem conv_isB {w:World} {B:Nat} {a:Option Addr} {n c:Nat} {bs:List UInt8} (h:IsB w B a n c bs):(convert 38 9 (.slice a n c)).run Tryz.prog w= .ok (.string ⟨bs.toArray⟩) w:=by
  have hu:Tryz.prog.underlying 5=some (.int .u8):=by kernel_rfl
  obtain ⟨rfl,h2,h3,b,o,h5,h6⟩:=h
  cases a with
  | some a=>
    by_cases hz:0<bs.length
    · obtain ⟨e,hb⟩:=h5 hz
      have e:=Option.some.inj e
      subst e
      exact run_convert_bytes_back w _ _ 5 _ c bs Tryz.underlying38 hu Tryz.underlying9 (fun j hj=>by rw [add_at];exact h6 j hj)
    · have:bs= [] :=List.length_eq_zero_iff.1 (by omega)
      subst this
      exact run_convert_bytes_back w _ _ 5 _ c [] Tryz.underlying38 hu Tryz.underlying9 (fun j hj=>by cases hj)
  | none=>
    have:bs= [] :=by
      cases bs with
      |nil=>rfl
      |cons x r=>obtain ⟨e,_⟩:=h5 (by simp);cases e
    subst this
    exact Lib.run_convert_nil_bytes w _ _ 5 c Tryz.underlying38 hu Tryz.underlying9
set_option maxHeartbeats 4000000 in
set_option maxRecDepth 100000 in
theorem takeU8_cut (w:World) (rb:Nat) (bs:List UInt8) (d:Int) (h:Rdr w rb bs d) (k:Nat) (hk8:k≤8) (hk:k≤bs.length):
    Calls Tryz.prog 70 #[.pointer (some ⟨rb,0,none⟩), .int .i64 k] w fun e w'=>e= .returned (.int .u8 (IntKind.u8.wrap (num (bs.take k))))∧Rdr w' rb (bs.drop k) d∧RStep w w' rb:=by
  have HC:=Lib.hid (cut_some w rb bs d h k hk)
  have hl:(bs.take k).length=k:=by rw [List.length_take];omega
  obtain ⟨ts,hts⟩:∃ts,bs.take k=ts:=⟨_,rfl⟩
  rw [hts] at HC hl ⊢
  clear h hts hk
  go_enter Tryz.func70,Tryz.ntmps70
  go_wp2_with (go_at_call 95;(with_reducible refine (HC.out).mono ?_);rintro e w1 ⟨⟨a,n,c,rfl,hI⟩,hR,hS⟩;have hn:=hI.len;have hc1:=hI.cap;have hc2:=hI.max;have HI:=Lib.hid hI;have HN:=Lib.hid hn;clear hI hn)
  go_loopw [5,7,12] (fun x _ i wr=>wr=w1∧∃j:Nat,j≤n∧i= .int .i64 j∧x= .int .u64 (num (ts.take j):Int)) (fun _ _ i _=>n - (intOf i).toNat)
  case atStart=>exact ⟨rfl,0,Nat.zero_le _,rfl,rfl⟩
  case round=>
    obtain ⟨rfl,j,hj,rfl,rfl⟩:=hrel
    by_cases hlt:j<n
    · obtain ⟨b,o,hp,rfl,hb,hcell⟩:=HI.out.get hlt
      have hlt2:num (ts.take j)<72057594037927936:=by
        have h1:=num_lt (ts.take j)
        have h2:(ts.take j).length≤7:=by rw [List.length_take];have:=HN.out;omega
        exact Nat.lt_of_lt_of_le h1 (Nat.le_trans (Nat.pow_le_pow_right (by omega) h2) (by decide))
      obtain ⟨m,hm⟩:∃m,num (ts.take j)=m:=⟨_,rfl⟩
      obtain ⟨y,hy⟩:∃y,(ts[j]'hp).toNat=y:=⟨_,rfl⟩
      have hy2:y<256:=by rw [←hy];exact (ts[j]'hp).toNat_lt
      have ht:=num_take ts j hp
      rw [hm,hy] at ht
      rw [hm] at hlt2 ⊢
      rw [hy] at hcell
      have HT:=Lib.hid ht
      have HO:=Lib.hid (or_byte m y hlt2 hy2)
      clear ht hm hy
      go_wp2_with fail
      go_roundw
      case rel=>exact ⟨trivial,j+1,by omega,by go_num,by rw [HT.out,HO.out]⟩
      case measure=>simp [intOf];omega
    · go_wp2_with fail
      go_returns
      exact ⟨by rw [List.take_of_length_le (by have:=HN.out;omega)] <;>rfl,hR,hS⟩
set_option maxHeartbeats 1000000 in
set_option maxRecDepth 100000 in
theorem takeU8_none (w:World) (rb:Nat) (bs:List UInt8) (d:Int) (h:Rdr w rb bs d) (k:Nat) (hr:rdN k bs=none):
    Calls Tryz.prog 70 #[.pointer (some ⟨rb,0,none⟩), .int .i64 k] w fun e w'=>e= .panicked [short] ∧w'=w:=by
  have HC:=Lib.hid (cut_none w rb bs d h k (by unfold rdN at hr;split at hr<;>first|omega|cases hr))
  clear h hr
  go_enter Tryz.func70,Tryz.ntmps70
  go_wp2_with (go_at_call 95;(with_reducible refine (HC.out).mono ?_);rintro e w1 ⟨rfl,rfl⟩)
  exact ⟨rfl,rfl,rfl⟩
theorem rdN_some {k n:Nat} {bs r:List UInt8} (hr:rdN k bs=some (n,r)):k≤bs.length∧num (bs.take k)=n∧bs.drop k=r:=by
  unfold rdN at hr;split at hr
  · injection hr with hr;injection hr with h1 h2;exact ⟨by assumption,h1,h2⟩
  · cases hr
theorem takeU8_some (w:World) (rb:Nat) (bs:List UInt8) (d:Int) (h:Rdr w rb bs d) (k:Nat) (hk8:k≤8) {n:Nat} {r:List UInt8} (hr:rdN k bs=some (n,r)):
    Calls Tryz.prog 70 #[.pointer (some ⟨rb,0,none⟩), .int .i64 k] w fun e w'=>e= .returned (.int .u8 (IntKind.u8.wrap n))∧Rdr w' rb r d∧RStep w w' rb:=by
  obtain ⟨h1,rfl,rfl⟩:=rdN_some hr
  exact takeU8_cut w rb bs d h k hk8 h1
set_option maxHeartbeats 4000000 in
set_option maxRecDepth 100000 in
theorem takeU32_cut (w:World) (rb:Nat) (bs:List UInt8) (d:Int) (h:Rdr w rb bs d) (k:Nat) (hk8:k≤8) (hk:k≤bs.length):
    Calls Tryz.prog 71 #[.pointer (some ⟨rb,0,none⟩), .int .i64 k] w fun e w'=>e= .returned (.int .u32 (IntKind.u32.wrap (num (bs.take k))))∧Rdr w' rb (bs.drop k) d∧RStep w w' rb:=by
  have HC:=Lib.hid (cut_some w rb bs d h k hk)
  have hl:(bs.take k).length=k:=by rw [List.length_take];omega
  obtain ⟨ts,hts⟩:∃ts,bs.take k=ts:=⟨_,rfl⟩
  rw [hts] at HC hl ⊢
  clear h hts hk
  go_enter Tryz.func71,Tryz.ntmps71
  go_wp2_with (go_at_call 95;(with_reducible refine (HC.out).mono ?_);rintro e w1 ⟨⟨a,n,c,rfl,hI⟩,hR,hS⟩;have hn:=hI.len;have hc1:=hI.cap;have hc2:=hI.max;have HI:=Lib.hid hI;have HN:=Lib.hid hn;clear hI hn)
  go_loopw [5,7,12] (fun x _ i wr=>wr=w1∧∃j:Nat,j≤n∧i= .int .i64 j∧x= .int .u64 (num (ts.take j):Int)) (fun _ _ i _=>n - (intOf i).toNat)
  case atStart=>exact ⟨rfl,0,Nat.zero_le _,rfl,rfl⟩
  case round=>
    obtain ⟨rfl,j,hj,rfl,rfl⟩:=hrel
    by_cases hlt:j<n
    · obtain ⟨b,o,hp,rfl,hb,hcell⟩:=HI.out.get hlt
      have hlt2:num (ts.take j)<72057594037927936:=by
        have h1:=num_lt (ts.take j)
        have h2:(ts.take j).length≤7:=by rw [List.length_take];have:=HN.out;omega
        exact Nat.lt_of_lt_of_le h1 (Nat.le_trans (Nat.pow_le_pow_right (by omega) h2) (by decide))
      obtain ⟨m,hm⟩:∃m,num (ts.take j)=m:=⟨_,rfl⟩
      obtain ⟨y,hy⟩:∃y,(ts[j]'hp).toNat=y:=⟨_,rfl⟩
      have hy2:y<256:=by rw [←hy];exact (ts[j]'hp).toNat_lt
      have ht:=num_take ts j hp
      rw [hm,hy] at ht
      rw [hm] at hlt2 ⊢
      rw [hy] at hcell
      have HT:=Lib.hid ht
      have HO:=Lib.hid (or_byte m y hlt2 hy2)
      clear ht hm hy
      go_wp2_with fail
      go_roundw
      case rel=>exact ⟨trivial,j+1,by omega,by go_num,by rw [HT.out,HO.out]⟩
      case measure=>simp [intOf];omega
    · go_wp2_with fail
      go_returns
      exact ⟨by rw [List.take_of_length_le (by have:=HN.out;omega)] <;>rfl,hR,hS⟩
set_option maxHeartbeats 1000000 in
set_option maxRecDepth 100000 in
theorem takeU32_none (w:World) (rb:Nat) (bs:List UInt8) (d:Int) (h:Rdr w rb bs d) (k:Nat) (hr:rdN k bs=none):
    Calls Tryz.prog 71 #[.pointer (some ⟨rb,0,none⟩), .int .i64 k] w fun e w'=>e= .panicked [short] ∧w'=w:=by
  have HC:=Lib.hid (cut_none w rb bs d h k (by unfold rdN at hr;split at hr<;>first|omega|cases hr))
  clear h hr
  go_enter Tryz.func71,Tryz.ntmps71
  go_wp2_with (go_at_call 95;(with_reducible refine (HC.out).mono ?_);rintro e w1 ⟨rfl,rfl⟩)
  exact ⟨rfl,rfl,rfl⟩
theorem takeU32_some (w:World) (rb:Nat) (bs:List UInt8) (d:Int) (h:Rdr w rb bs d) (k:Nat) (hk8:k≤8) {n:Nat} {r:List UInt8} (hr:rdN k bs=some (n,r)):
    Calls Tryz.prog 71 #[.pointer (some ⟨rb,0,none⟩), .int .i64 k] w fun e w'=>e= .returned (.int .u32 (IntKind.u32.wrap n))∧Rdr w' rb r d∧RStep w w' rb:=by
  obtain ⟨h1,rfl,rfl⟩:=rdN_some hr
  exact takeU32_cut w rb bs d h k hk8 h1
theorem rdN_lt {k n:Nat} {bs r:List UInt8} (hr:rdN k bs=some (n,r)):n<256 ^ k:=by
  obtain ⟨h1,rfl,rfl⟩:=rdN_some hr
  have:=num_lt (bs.take k)
  rwa [List.length_take,Nat.min_eq_left h1] at this
theorem takeU81_some (w:World) (rb:Nat) (bs:List UInt8) (d:Int) (h:Rdr w rb bs d) {n:Nat} {r:List UInt8} (hr:rdN 1 bs=some (n,r)):
    Calls Tryz.prog 70 #[.pointer (some ⟨rb,0,none⟩), .int .i64 1] w fun e w'=>e= .returned (.int .u8 n)∧Rdr w' rb r d∧RStep w w' rb:=by
  have hb:=rdN_lt hr
  have:=takeU8_some w rb bs d h 1 (by omega) hr
  rwa [show IntKind.u8.wrap (n:Int)=n by simp [IntKind.wrap,IntKind.bits,IntKind.signed];omega] at this
theorem takeU81_none (w:World) (rb:Nat) (bs:List UInt8) (d:Int) (h:Rdr w rb bs d) (hr:rdN 1 bs=none):
    Calls Tryz.prog 70 #[.pointer (some ⟨rb,0,none⟩), .int .i64 1] w fun e w'=>e= .panicked [short] ∧w'=w:=takeU8_none w rb bs d h 1 hr
theorem takeU324_some (w:World) (rb:Nat) (bs:List UInt8) (d:Int) (h:Rdr w rb bs d) {n:Nat} {r:List UInt8} (hr:rdN 4 bs=some (n,r)):
    Calls Tryz.prog 71 #[.pointer (some ⟨rb,0,none⟩), .int .i64 4] w fun e w'=>e= .returned (.int .u32 n)∧Rdr w' rb r d∧RStep w w' rb:=by
  have hb:=rdN_lt hr
  have:=takeU32_some w rb bs d h 4 (by omega) hr
  rwa [show IntKind.u32.wrap (n:Int)=n by simp [IntKind.wrap,IntKind.bits,IntKind.signed];omega] at this
theorem takeU324_none (w:World) (rb:Nat) (bs:List UInt8) (d:Int) (h:Rdr w rb bs d) (hr:rdN 4 bs=none):
    Calls Tryz.prog 71 #[.pointer (some ⟨rb,0,none⟩), .int .i64 4] w fun e w'=>e= .panicked [short] ∧w'=w:=takeU32_none w rb bs d h 4 hr
end Go.Proofs.YtgcfhkceejcliaaGreatDoor
namespace Go.Proofs.YtgcfhkceejcliaaGreatDoor
open Go.RowKit
theorem down_any (u:FrameMode) (w:World) (bx rb:Nat) (d:Int) (hc:w.cell? ⟨bx,0,none⟩=some (.pointer (some ⟨rb,0,none⟩))) (h1:w.cell? ⟨rb,1,none⟩=some (.int .i64 (d+1))) (hf:w.frozen? ⟨rb,1,none⟩=false) (hd:0≤d) (hd2:d≤100):
    CallsD Tryz.prog 96 #[.pointer (some ⟨bx,0,none⟩)] u w fun e u' w'=>u'=u∧(e= .returned (.tuple #[])∧w'=w.setCell ⟨rb,1,none⟩ (.int .i64 d)):=by
  have e:d+1 - 1=d:=by omega
  go_enter_d Tryz.func96,Tryz.ntmps96
  go_wp2_with fail
  first|go_end0|skip
  all_goals first|exact ⟨rfl,rfl⟩|trace_state
theorem door {tmps:Array Value} {R:Ending→World→Prop} {u:FrameMode} {W:World} {bx rb:Nat} {bs:List UInt8} {d:Int} (hu:u= .returning∨u= .panicking [short]) (hc:W.cell? ⟨bx,0,none⟩=some (.pointer (some ⟨rb,0,none⟩))) (hR:Rdr W rb bs (d+1)) (hd:0≤d) (hd2:d≤100)
    (h:Rdr (W.setCell ⟨rb,1,none⟩ (.int .i64 d)) rb bs d→RStep W (W.setCell ⟨rb,1,none⟩ (.int .i64 d)) rb→Leaves Tryz.prog Tryz.f72 tmps R [] u (W.setCell ⟨rb,1,none⟩ (.int .i64 d))):
    Leaves Tryz.prog Tryz.f72 tmps R [{ target:= .fn (.func 96) #[.pointer (some ⟨bx,0,none⟩)],args:= #[] }] u W:=by
  have hs:settle u=u:=by rcases hu with rfl|rfl<;>rfl
  refine leaves_cons (f:=96) (args:= #[.pointer (some ⟨bx,0,none⟩)]) (by rcases hu with rfl|rfl<;>simp) (by simp [go_sem]) ?_
  refine (down_any u W bx rb d hc hR.deep hR.f1 hd hd2).mono ?_
  rintro e u' w'' ⟨rfl,rfl,rfl⟩
  show Leaves _ _ _ _ _ (settle u') _
  rw [hs]
  have:=hR.setDeep (d':=d)
  exact h this.1 this.2
theorem door_panic {tmps:Array Value} {R:Ending→World→Prop} {W:World} {bx rb:Nat} {bs:List UInt8} {d:Int} (hc:W.cell? ⟨bx,0,none⟩=some (.pointer (some ⟨rb,0,none⟩))) (hR:Rdr W rb bs (d+1)) (hd:0≤d) (hd2:d≤100)
    (h:Rdr (W.setCell ⟨rb,1,none⟩ (.int .i64 d)) rb bs d→RStep W (W.setCell ⟨rb,1,none⟩ (.int .i64 d)) rb→R (.panicked [short]) (W.setCell ⟨rb,1,none⟩ (.int .i64 d))):
    Leaves Tryz.prog Tryz.f72 tmps R [{ target:= .fn (.func 96) #[.pointer (some ⟨bx,0,none⟩)],args:= #[] }] (.panicking [short]) W:=
  door (.inr rfl) hc hR hd hd2 fun h1 h2=>h h1 h2
theorem results_value {tmps:Array Value} {W:World} {b:Nat} {c:VC} (ht:tmps[2]? =some (.pointer (some ⟨b,0,none⟩))) (hv:ValAt W b 0 c):(results Tryz.f72 tmps).run Tryz.prog W= .ok (.agg #[.int .u8 c.k, .int .i64 c.n, .string c.s, .slice c.la c.ll c.lc, .slice c.oa c.ol c.oc]) W:=by
  have h0:=hv.c0
  have h1:W.cell? ⟨b,1,none⟩=_:=hv.c1
  have h2:W.cell? ⟨b,2,none⟩=_:=hv.c2
  have h3:W.cell? ⟨b,3,none⟩=_:=hv.c3
  have h4:W.cell? ⟨b,4,none⟩=_:=hv.c4
  simp [results,Tryz.results72,go_sem,ht,h0,h1,h2,h3,h4]
theorem door_ret {tmps:Array Value} {R:Ending→World→Prop} {W:World} {bx b rb:Nat} {bs:List UInt8} {d:Int} {c:VC} (hc:W.cell? ⟨bx,0,none⟩=some (.pointer (some ⟨rb,0,none⟩))) (hR:Rdr W rb bs (d+1)) (hd:0≤d) (hd2:d≤100)
    (ht:tmps[2]? =some (.pointer (some ⟨b,0,none⟩))) (hv:ValAt W b 0 c) (hb:b≠rb)
    (h:Rdr (W.setCell ⟨rb,1,none⟩ (.int .i64 d)) rb bs d→RStep W (W.setCell ⟨rb,1,none⟩ (.int .i64 d)) rb→R (.returned (.agg #[.int .u8 c.k, .int .i64 c.n, .string c.s, .slice c.la c.ll c.lc, .slice c.oa c.ol c.oc])) (W.setCell ⟨rb,1,none⟩ (.int .i64 d))):
    Leaves Tryz.prog Tryz.f72 tmps R [{ target:= .fn (.func 96) #[.pointer (some ⟨bx,0,none⟩)],args:= #[] }] .returning W:=
  door (.inl rfl) hc hR hd hd2 fun h1 h2=>⟨_,results_value ht ⟨h2.cell hv.c0 hb,h2.cell hv.c1 hb,h2.cell hv.c2 hb,h2.cell hv.c3 hb,h2.cell hv.c4 hb⟩,h h1 h2⟩
end Go.Proofs.YtgcfhkceejcliaaGreatDoor
namespace Go.Proofs.YtgcfhkceejcliaaGreatDoor
open Go.RowKit
theorem flat_get {α:Type} (f:α→List Value) (m:Nat) (hf:∀x,(f x).length=m):∀(l:List α) (i t:Nat) (hi:i<l.length),t<m→(l.flatMap f)[i*m+t]? =(f l[i])[t]? :=by
  intro l
  induction l with
  |nil=>intro i t hi;cases hi
  | cons x l ih=>
    intro i t hi ht
    cases i with
    | zero=>
      simp only [List.flatMap_cons,Nat.zero_mul,Nat.zero_add,List.getElem_cons_zero]
      rw [List.getElem?_append_left (by rw [hf];exact ht)]
    | succ i=>
      have e:(i+1)*m+t=(f x).length+(i*m+t):=by rw [hf,Nat.add_mul];omega
      simp only [List.flatMap_cons,List.getElem_cons_succ]
      rw [e,List.getElem?_append_right (by omega),Nat.add_sub_cancel_left]
      exact ih i t (by simpa using hi) ht
theorem flat_length {α:Type} (f:α→List Value) (m:Nat) (hf:∀x,(f x).length=m) (l:List α):(l.flatMap f).length=l.length*m:=by
  induction l with
  |nil=>simp
  |cons x l ih=>simp only [List.flatMap_cons,List.length_append,hf,ih,List.length_cons,Nat.add_mul];omega
theorem flat_snoc {α:Type} (f:α→List Value) (l:List α) (x:α):(l++ [x]).flatMap f=l.flatMap f++f x:=by simp
def Closed (P:World→Nat→Nat→Prop):Prop:=∀W W' B B' i,Shows W W' B→B≤B'→P W B i→P W' B' i
def Free (base:Nat) (u:Value):Nat→Prop:=fun k=>base≤k∧some k≠u.ownBlock
structure Row (T:TypeId) (sz:Nat) (w:World) (base:Nat) (u:Value) (n:Nat) (cells:List Value) (P:World→Nat→Nat→Prop):Prop where
  own:w.ownsRow base T sz u n cells
  els:∀i,i<n→P (only (Free base u) w) w.heap.size i
theorem Row.nil (T:TypeId) (sz:Nat) (w:World) (base:Nat) (P:World→Nat→Nat→Prop):Row T sz w base (.slice none 0 0) 0 [] P:=
  ⟨⟨by simp, .inl ⟨rfl,rfl⟩⟩,fun i h=>by omega⟩
theorem Row.lt {T:TypeId} {sz:Nat} {w:World} {base:Nat} {u:Value} {n:Nat} {cells:List Value} {P:World→Nat→Nat→Prop} (h:Row T sz w base u n cells P):∀k,u.ownBlock=some k→base≤k∧k<w.heap.size:=h.own.lt
theorem Row.later {T:TypeId} {sz:Nat} {w w':World} {base rb:Nat} {u:Value} {n:Nat} {cells:List Value} {P:World→Nat→Nat→Prop} (hP:Closed P) (h:Row T sz w base u n cells P) (s:RStep w w' rb) (hr:rb<base):Row T sz w' base u n cells P:=by
  refine ⟨h.own.kept (row:=some rb) ⟨s.os,s.tape,s.output,s.size,fun k hk hne=>s.block k hk (fun e=>hne (by rw [e]))⟩ ?_,fun i hi=>hP _ _ _ _ i (shows_step fun k hk hlt=>⟨hk,s.block k hlt ?_⟩) s.size (h.els i hi)⟩
  · cases hu:u.ownBlock with
    |none=>simp
    | some k=>
      have:=(h.lt k hu).1
      right;intro e;injection e with e;omega
  · have:=hk.1;omega
theorem Row.set {T:TypeId} {sz:Nat} {w:World} {base b o:Nat} {u x:Value} {n:Nat} {cells:List Value} {P:World→Nat→Nat→Prop} (hP:Closed P) (h:Row T sz w base u n cells P) (hb:b<base):Row T sz (w.setCell ⟨b,o,none⟩ x) base u n cells P:=
  h.later hP (rb:=b) ⟨rfl,rfl,rfl,by simp,fun k hk hr=>heap_setCell_other _ _ _ _ hr⟩ hb
theorem Row.push {T:TypeId} {sz:Nat} {w w0 w1:World} {base:Nat} {u u':Value} {n:Nat} {cells news:List Value} {P P':World→Nat→Nat→Prop} (hP':Closed P') (h:Row T sz w base u n cells P)
    (hb:Below w.heap.size w w0) (hg:w0.grownBy w1 u.ownBlock) (hown:w1.ownsRow base T sz u' (n+1) (cells++news)) (hat:u'.ownBlock=u.ownBlock∨∀k,u'.ownBlock=some k→w.heap.size≤k)
    (hnew:P' (only (Free base u) w) w.heap.size n) (hold:∀W B i,i<n→P W B i→P' W B i):Row T sz w1 base u' (n+1) (cells++news) P':=by
  have hsz:w.heap.size≤w1.heap.size:=Nat.le_trans hb.size hg.size
  refine ⟨hown,fun i hi=> ?_⟩
  have hs:Shows (only (Free base u) w) (only (Free base u') w1) w.heap.size:=by
    refine shows_step fun k hk hlt=>⟨⟨hk.1,fun e=> ?_⟩, ?_⟩
    · rcases hat with e2|e2
      · exact hk.2 (e.trans e2)
      · have:=e2 k e.symm;omega
    · rw [hg.block k (Nat.lt_of_lt_of_le hlt hb.size) hk.2,hb.block k hlt]
  by_cases hin:i=n
  · subst hin;exact hP' _ _ _ _ _ hs hsz hnew
  · exact hP' _ _ _ _ _ hs hsz (hold _ _ _ (by omega) (h.els i (by omega)))
theorem Row.shows {T:TypeId} {sz:Nat} {w:World} {base lo:Nat} {u:Value} {n:Nat} {cells:List Value} {P:World→Nat→Nat→Prop} (hP:Closed P) (h:Row T sz w base u n cells P) (hlo:lo≤base):
    (∀g,u.ownBlock=some g→∀j x,cells[j]? =some x→(only (fun k=>lo≤k) w).cell? ⟨g,j,none⟩=some x)∧∀i,i<n→P (only (fun k=>lo≤k) w) w.heap.size i:=by
  refine ⟨fun g hg j x hx=>only_cell' (show lo≤g by have:=(h.lt g hg).1;omega) ?_,fun i hi=>hP _ _ _ _ i (shows_step fun k hk _=>⟨by have:=hk.1;omega,rfl⟩) (Nat.le_refl _) (h.els i hi)⟩
  have:=h.own.cells hg j x hx
  rw [add_at,Nat.zero_add] at this;exact this
def vcells (c:VC):List Value:= [.int .u8 c.k, .int .i64 c.n, .string c.s, .slice c.la c.ll c.lc, .slice c.oa c.ol c.oc]
def vzero:VC:=⟨0,0, .empty,none,0,0,none,0,0⟩
def PV (l:List V) (cs:List VC):World→Nat→Nat→Prop:=fun W B i=>∀h:i<l.length,IsVal W B l[i] (cs.getD i vzero)
theorem PV.closed (l:List V) (cs:List VC):Closed (PV l cs):=fun _ _ _ _ _ hs hB h hi=>((h hi).sub hs).more hB
theorem PV.snoc {l:List V} {cs:List VC} (hl:cs.length=l.length) (x:V) (c:VC):(∀W B,IsVal W B x c→PV (l++ [x]) (cs++ [c]) W B l.length)∧∀W B i,i<l.length→PV l cs W B i→PV (l++ [x]) (cs++ [c]) W B i:=by
  constructor
  · intro W B h hi
    simpa [List.getD_eq_getElem?_getD, ←hl] using h
  · intro W B i hi h hi2
    have h:=h hi
    have e:(cs++ [c]).getD i vzero=cs.getD i vzero:=by simp [List.getD_eq_getElem?_getD,List.getElem?_append_left (show i<cs.length by omega)]
    rw [List.getElem_append_left hi,e]
    exact h
abbrev RowV (w:World) (base:Nat) (u:Value) (l:List V) (cs:List VC):Prop:=Row 33 5 w base u l.length (cs.flatMap vcells) (PV l cs)
theorem RowV.val {w:World} {base lo:Nat} {l:List V} {cs:List VC} {a:Option Addr} {n cap:Nat} (h:RowV w base (.slice a n cap) l cs) (hl:cs.length=l.length) (hlo:lo≤base) (k:Int) (hk0:0≤k) (hk1:k<256) (hfew:l.length≤1466015503701):
    IsVal (only (fun b=>lo≤b) w) w.heap.size (.mk k 0 .empty l []) ⟨k,0, .empty,a,n,cap,none,0,0⟩:=by
  obtain ⟨h1,h2⟩:=Row.shows (PV.closed l cs) h hlo
  have hown:=h.own
  have hlt:=h.lt
  have hbd:∀n cap:Nat,n≤cap→cap≤9223372036854775807→n≤1466015503701→(⟨k,0, .empty,a,n,cap,none,0,0⟩:VC).Bnd:=fun n cap e1 e2 e3=>⟨hk0,hk1,(by decide:(-9223372036854775808:Int)≤0),(by decide:(0:Int)≤9223372036854775807),(by decide:ByteArray.empty.size≤140737488355328),e1,e2,e3,(by decide:(0:Nat)≤0),(by decide:(0:Nat)≤9223372036854775807),(by decide:(0:Nat)≤1466015503701)⟩
  rcases hown.2 with ⟨e,hn⟩|⟨g,cap',cur,e,hbg,hg,hnc,hcm,hcs,htake⟩
  · injection e with e1 e2 e3;subst e1 e2 e3
    have:l= [] :=List.length_eq_zero_iff.1 hn
    subst this
    exact .mk ⟨k,0, .empty,none,0,0,none,0,0⟩ [] [] (fun _=>vzero) (fun _=>vzero) 0 0 0 0 (hbd 0 0 (by omega) (by omega) (by omega)) rfl rfl (fun h=>by cases h) (fun h=>by cases h) (fun i h=>by cases h) (fun i h=>by cases h) (fun i h=>by cases h) (fun i h=>by cases h)
  · injection e with e1 e2 e3;subst e1 e2 e3
    refine .mk ⟨k,0, .empty,some ⟨g,0,none⟩,l.length,cap,none,0,0⟩ l [] (fun i=>cs.getD i vzero) (fun _=>vzero) g 0 0 0 (hbd _ _ hnc (by simpa [maxLen] using hcm) hfew) rfl rfl (fun _=>⟨rfl,(hlt g rfl).2⟩) (fun h=>by cases h) (fun i hi=> ?_) (fun i hi=>h2 i hi hi) (fun i h=>by cases h) (fun i h=>by cases h)
    have hi':i<cs.length:=by omega
    have hc:∀t x,t<5→(vcells cs[i])[t]? =some x→(only (fun b=>lo≤b) w).cell? ⟨g,0+i*5+t,none⟩=some x:=fun t x ht hx=>by
      rw [Nat.zero_add]
      exact h1 g rfl (i*5+t) x ((flat_get vcells 5 (fun _=>rfl) cs i t hi' ht).trans hx)
    have he:cs.getD i vzero=cs[i] :=by simp [List.getD_eq_getElem?_getD,hi']
    simp only [he]
    exact ⟨hc 0 _ (by omega) rfl,hc 1 _ (by omega) rfl,hc 2 _ (by omega) rfl,hc 3 _ (by omega) rfl,hc 4 _ (by omega) rfl⟩
def fcells (c:ByteArray×VC):List Value:= [.string c.1, .int .u8 c.2.k, .int .i64 c.2.n, .string c.2.s, .slice c.2.la c.2.ll c.2.lc, .slice c.2.oa c.2.ol c.2.oc]
def fzero:ByteArray×VC:=(.empty,vzero)
def PF (l:List (ByteArray×V)) (cs:List (ByteArray×VC)):World→Nat→Nat→Prop:=fun W B i=>∀h:i<l.length,(cs.getD i fzero).1=l[i].1∧l[i].1.size≤140737488355328∧IsVal W B l[i].2 (cs.getD i fzero).2
theorem PF.closed (l:List (ByteArray×V)) (cs:List (ByteArray×VC)):Closed (PF l cs):=fun _ _ _ _ _ hs hB h hi=>⟨(h hi).1,(h hi).2.1,((h hi).2.2.sub hs).more hB⟩
theorem PF.snoc {l:List (ByteArray×V)} {cs:List (ByteArray×VC)} (hl:cs.length=l.length) (s:ByteArray) (hs:s.size≤140737488355328) (x:V) (c:VC):(∀W B,IsVal W B x c→PF (l++ [(s,x)]) (cs++ [(s,c)]) W B l.length)∧∀W B i,i<l.length→PF l cs W B i→PF (l++ [(s,x)]) (cs++ [(s,c)]) W B i:=by
  constructor
  · intro W B h hi
    have e1:(l++ [(s,x)])[l.length]'hi=(s,x):=by simp
    have e2:(cs++ [(s,c)]).getD l.length fzero=(s,c):=by simp [List.getD_eq_getElem?_getD, ←hl]
    rw [e1,e2];exact ⟨rfl,hs,h⟩
  · intro W B i hi h hi2
    have h:=h hi
    have e:(cs++ [(s,c)]).getD i fzero=cs.getD i fzero:=by simp [List.getD_eq_getElem?_getD,List.getElem?_append_left (show i<cs.length by omega)]
    rw [List.getElem_append_left hi,e]
    exact h
abbrev RowF (w:World) (base:Nat) (u:Value) (l:List (ByteArray×V)) (cs:List (ByteArray×VC)):Prop:=Row 98 6 w base u l.length (cs.flatMap fcells) (PF l cs)
theorem RowF.val {w:World} {base lo:Nat} {l:List (ByteArray×V)} {cs:List (ByteArray×VC)} {a:Option Addr} {n cap:Nat} (h:RowF w base (.slice a n cap) l cs) (hl:cs.length=l.length) (hlo:lo≤base) (k:Int) (hk0:0≤k) (hk1:k<256) (hfew:l.length≤1466015503701):
    IsVal (only (fun b=>lo≤b) w) w.heap.size (.mk k 0 .empty [] l) ⟨k,0, .empty,none,0,0,a,n,cap⟩:=by
  obtain ⟨h1,h2⟩:=Row.shows (PF.closed l cs) h hlo
  have hown:=h.own
  have hlt:=h.lt
  have hbd:∀n cap:Nat,n≤cap→cap≤9223372036854775807→n≤1466015503701→(⟨k,0, .empty,none,0,0,a,n,cap⟩:VC).Bnd:=fun n cap e1 e2 e3=>⟨hk0,hk1,(by decide:(-9223372036854775808:Int)≤0),(by decide:(0:Int)≤9223372036854775807),(by decide:ByteArray.empty.size≤140737488355328),(by decide:(0:Nat)≤0),(by decide:(0:Nat)≤9223372036854775807),(by decide:(0:Nat)≤1466015503701),e1,e2,e3⟩
  rcases hown.2 with ⟨e,hn⟩|⟨g,cap',cur,e,hbg,hg,hnc,hcm,hcs,htake⟩
  · injection e with e1 e2 e3;subst e1 e2 e3
    have:l= [] :=List.length_eq_zero_iff.1 hn
    subst this
    exact .mk ⟨k,0, .empty,none,0,0,none,0,0⟩ [] [] (fun _=>vzero) (fun _=>vzero) 0 0 0 0 (hbd 0 0 (by omega) (by omega) (by omega)) rfl rfl (fun h=>by cases h) (fun h=>by cases h) (fun i h=>by cases h) (fun i h=>by cases h) (fun i h=>by cases h) (fun i h=>by cases h)
  · injection e with e1 e2 e3;subst e1 e2 e3
    refine .mk ⟨k,0, .empty,none,0,0,some ⟨g,0,none⟩,l.length,cap⟩ [] l (fun _=>vzero) (fun i=>(cs.getD i fzero).2) 0 0 g 0 (hbd _ _ hnc (by simpa [maxLen] using hcm) hfew) rfl rfl (fun h=>by cases h) (fun _=>⟨rfl,(hlt g rfl).2⟩) (fun i h=>by cases h) (fun i h=>by cases h) (fun i hi=> ?_) (fun i hi=>(h2 i hi hi).2.2)
    have hi':i<cs.length:=by omega
    have hc:∀t x,t<6→(fcells cs[i])[t]? =some x→(only (fun b=>lo≤b) w).cell? ⟨g,0+i*6+t,none⟩=some x:=fun t x ht hx=>by
      rw [Nat.zero_add]
      exact h1 g rfl (i*6+t) x ((flat_get fcells 6 (fun _=>rfl) cs i t hi' ht).trans hx)
    have he:cs.getD i fzero=cs[i] :=by simp [List.getD_eq_getElem?_getD,hi']
    obtain ⟨p1,p2,_⟩:=h2 i hi hi
    rw [he] at p1
    simp only [he]
    exact ⟨by rw [←p1];exact hc 0 _ (by omega) rfl,p2,hc 1 _ (by omega) rfl,hc 2 _ (by omega) rfl,hc 3 _ (by omega) rfl,hc 4 _ (by omega) rfl,hc 5 _ (by omega) rfl⟩
end Go.Proofs.YtgcfhkceejcliaaGreatDoor
namespace Go.Proofs.YtgcfhkceejcliaaGreatDoor
open Go.RowKit
theorem RStep.frozen {w w':World} {rb:Nat} (h:RStep w w' rb) {b o:Nat} (hl:b<w.heap.size) (hb:b≠rb):w'.frozen? ⟨b,o,none⟩=w.frozen? ⟨b,o,none⟩:=
  World.frozen?_of_block (h.block b hl hb)
theorem RStep.setNew {w W:World} {rb b o:Nat} {x:Value} (h:RStep w W rb) (hb:w.heap.size≤b):RStep w (W.setCell ⟨b,o,none⟩ x) rb:=
  ⟨h.os,h.tape,h.output,by simpa using h.size,fun k hk hr=>(heap_setCell_other _ _ _ _ (show k≠b by omega)).trans (h.block k hk hr)⟩
theorem Rdr.setNew {W:World} {rb b o:Nat} {x:Value} {bs:List UInt8} {d:Int} (h:Rdr W rb bs d) (hb:rb<b):Rdr (W.setCell ⟨b,o,none⟩ x) rb bs d:=by
  obtain ⟨⟨a,n,c,h0,hI⟩,h1,h2,h3⟩:=h
  have hb':Below b W (W.setCell ⟨b,o,none⟩ x):=⟨rfl,rfl,rfl,by simp,fun k hk=>heap_setCell_other _ _ _ _ (show k≠b by omega)⟩
  exact ⟨⟨a,n,c,keep_cell hb' h0 hb,hI.keep (hb'.mono (Nat.le_of_lt hb))⟩,keep_cell hb' h1 hb,by simpa using h2,by simpa using h3⟩
structure RB (w W:World) (rb:Nat) (bs:List UInt8) (d:Int) (c:VC):Prop where
  rdr:Rdr W rb bs d
  st:RStep w W rb
  box:W.cell? ⟨w.heap.size,0,none⟩=some (.pointer (some ⟨rb,0,none⟩))
  res:ValAt W (w.heap.size+1) 0 c
  frz:∀j,j<5→W.frozen? ⟨w.heap.size+1,j,none⟩=false
  lt:rb<w.heap.size
  size:w.heap.size+2≤W.heap.size
theorem RB.next {w W W':World} {rb:Nat} {bs bs':List UInt8} {d:Int} {c:VC} (h:RB w W rb bs d c) (s:RStep W W' rb) (hR:Rdr W' rb bs' d):RB w W' rb bs' d c:=by
  have hlt:=h.lt;have hsz:=h.size
  refine ⟨hR,h.st.trans s,s.cell h.box (by omega),⟨s.cell h.res.c0 (by omega),s.cell h.res.c1 (by omega),s.cell h.res.c2 (by omega),s.cell h.res.c3 (by omega),s.cell h.res.c4 (by omega)⟩,fun j hj=>(s.frozen (by omega) (by omega)).trans (h.frz j hj),hlt,Nat.le_trans hsz s.size⟩
theorem RB.behind {w W W':World} {rb:Nat} {bs:List UInt8} {d:Int} {c:VC} (h:RB w W rb bs d c) (hb:Below W.heap.size W W'):RB w W' rb bs d c:=h.next (.of_below rb hb) (h.rdr.of_below hb)
theorem RB.set {w W:World} {rb b o:Nat} {x:Value} {bs:List UInt8} {d:Int} {c:VC} (h:RB w W rb bs d c) (hb:w.heap.size+1<b):RB w (W.setCell ⟨b,o,none⟩ x) rb bs d c:=by
  have hlt:=h.lt
  have hb':Below b W (W.setCell ⟨b,o,none⟩ x):=⟨rfl,rfl,rfl,by simp,fun k hk=>heap_setCell_other _ _ _ _ (show k≠b by omega)⟩
  exact ⟨h.rdr.setNew (by omega),h.st.setNew (by omega),keep_cell hb' h.box (by omega),h.res.keep hb' hb,fun j hj=>by simpa using h.frz j hj,hlt,by simpa using h.size⟩
theorem RB.start {w:World} {rb:Nat} {bs:List UInt8} {d d':Int} (h:Rdr w rb bs d) (t1 t2:TypeId):
    RB w (((w.setCell ⟨rb,1,none⟩ (.int .i64 d')).alloc (.cells #[.pointer (some ⟨rb,0,none⟩)] t1)).alloc (.cells #[.int .u8 0, .int .i64 0, .string { data:= #[] }, .slice none 0 0, .slice none 0 0] t2)) rb bs d' vzero:=by
  obtain ⟨hR,hS⟩:=h.setDeep (d':=d')
  obtain ⟨w0,hw0⟩:∃w0,w.setCell ⟨rb,1,none⟩ (.int .i64 d')=w0:=⟨_,rfl⟩
  have hsz:w.heap.size=w0.heap.size:=by rw [←hw0];simp
  rw [hw0] at hR hS ⊢
  obtain ⟨w1,hw1⟩:∃w1,w0.alloc (.cells #[.pointer (some ⟨rb,0,none⟩)] t1)=w1:=⟨_,rfl⟩
  have b1:Below w0.heap.size w0 w1:=by rw [←hw1];exact (Below.refl _ _).alloc (Nat.le_refl _) _
  have hs1:w1.heap.size=w.heap.size+1:=by rw [←hw1,World.size_alloc,hsz]
  have hc:=cells_new w0 #[.pointer (some ⟨rb,0,none⟩)] t1 0 _ rfl
  rw [hw1] at hc ⊢
  have b2:Below w1.heap.size w1 (w1.alloc (.cells #[.int .u8 0, .int .i64 0, .string { data:= #[] }, .slice none 0 0, .slice none 0 0] t2)):=(Below.refl _ _).alloc (Nat.le_refl _) _
  have hn:=cells_new w1 #[.int .u8 0, .int .i64 0, .string { data:= #[] }, .slice none 0 0, .slice none 0 0] t2
  have hlt:=h.lt
  refine ⟨(hR.of_below b1).of_below b2,hS.trans ((RStep.of_below rb b1).trans (.of_below rb b2)), ?_, ?_,fun j hj=> ?_,hlt,by rw [World.size_alloc,hs1];omega⟩
  · exact keep_cell b2 (by rw [hsz];exact hc) (by rw [hs1];omega)
  · rw [←hs1];exact ⟨hn 0 _ rfl,hn 1 _ rfl,hn 2 _ rfl,hn 3 _ rfl,hn 4 _ rfl⟩
  · rw [←hs1];exact frozen_new w1 _ t2 j
structure VB (W:World) (vb:Nat) (c:VC):Prop where
  at_:ValAt W vb 0 c
  fr:∀j,W.frozen? ⟨vb,j,none⟩=false
theorem VB.lt {W:World} {vb:Nat} {c:VC} (h:VB W vb c):vb<W.heap.size:=World.block_lt_of_cell? W _ h.at_.c0
theorem VB.next {W W':World} {vb rb:Nat} {c:VC} (h:VB W vb c) (s:RStep W W' rb) (hv:vb≠rb):VB W' vb c:=
  ⟨⟨s.cell h.at_.c0 hv,s.cell h.at_.c1 hv,s.cell h.at_.c2 hv,s.cell h.at_.c3 hv,s.cell h.at_.c4 hv⟩,fun j=>(s.frozen h.lt hv).trans (h.fr j)⟩
theorem VB.start (w:World) (c:VC) (t:TypeId):VB (w.alloc (.cells #[.int .u8 c.k, .int .i64 c.n, .string c.s, .slice c.la c.ll c.lc, .slice c.oa c.ol c.oc] t)) w.heap.size c:=
  ⟨valAt_new w c t,fun j=>frozen_new w _ t j⟩
theorem valAt_stored {W:World} {b:Nat} {c0:VC} (h:ValAt W b 0 c0) (c:VC):
    ValAt (((((W.setCell ⟨b,0,none⟩ (.int .u8 c.k)).setCell ⟨b,1,none⟩ (.int .i64 c.n)).setCell ⟨b,2,none⟩ (.string c.s)).setCell ⟨b,3,none⟩ (.slice c.la c.ll c.lc)).setCell ⟨b,4,none⟩ (.slice c.oa c.ol c.oc)) b 0 c:=by
  have g0:=h.c0
  have g1:W.cell? ⟨b,1,none⟩=_:=h.c1
  have g2:W.cell? ⟨b,2,none⟩=_:=h.c2
  have g3:W.cell? ⟨b,3,none⟩=_:=h.c3
  have g4:W.cell? ⟨b,4,none⟩=_:=h.c4
  constructor<;>simp [go_sem,g0,g1,g2,g3,g4]
theorem RB.store {w W:World} {rb:Nat} {bs:List UInt8} {d:Int} {c0:VC} (h:RB w W rb bs d c0) (c:VC):
    RB w (((((W.setCell ⟨w.heap.size+1,0,none⟩ (.int .u8 c.k)).setCell ⟨w.heap.size+1,1,none⟩ (.int .i64 c.n)).setCell ⟨w.heap.size+1,2,none⟩ (.string c.s)).setCell ⟨w.heap.size+1,3,none⟩ (.slice c.la c.ll c.lc)).setCell ⟨w.heap.size+1,4,none⟩ (.slice c.oa c.ol c.oc)) rb bs d c:=by
  have hlt:=h.lt
  have hn:w.heap.size≤w.heap.size+1:=by omega
  have hr:rb<w.heap.size+1:=by omega
  refine ⟨((((h.rdr.setNew hr).setNew hr).setNew hr).setNew hr).setNew hr,((((h.st.setNew hn).setNew hn).setNew hn).setNew hn).setNew hn, ?_,valAt_stored h.res c,fun j hj=>by simpa using h.frz j hj,hlt,by simpa using h.size⟩
  simp [go_sem,h.box]
theorem isVal_leaf (W:World) (B:Nat) (k n:Int) (s:ByteArray) (hk0:0≤k) (hk1:k<256) (hn0: -9223372036854775808≤n) (hn1:n≤9223372036854775807) (hs:s.size≤140737488355328):IsVal W B (.mk k n s [] []) ⟨k,n,s,none,0,0,none,0,0⟩:=
  .mk ⟨k,n,s,none,0,0,none,0,0⟩ [] [] (fun _=>vzero) (fun _=>vzero) 0 0 0 0 ⟨hk0,hk1,hn0,hn1,hs,(by decide:(0:Nat)≤0),(by decide:(0:Nat)≤9223372036854775807),(by decide:(0:Nat)≤1466015503701),(by decide:(0:Nat)≤0),(by decide:(0:Nat)≤9223372036854775807),(by decide:(0:Nat)≤1466015503701)⟩ rfl rfl (fun h=>by cases h) (fun h=>by cases h) (fun i h=>by cases h) (fun i h=>by cases h) (fun i h=>by cases h) (fun i h=>by cases h)
def RVPost (w:World) (rb:Nat) (d:Int) (r:Option (V×List UInt8)) (e:Ending) (w':World):Prop:=
  RStep w w' rb∧match r with
    |some (x,r)=>(∃c:VC,e= .returned (.agg #[.int .u8 c.k, .int .i64 c.n, .string c.s, .slice c.la c.ll c.lc, .slice c.oa c.ol c.oc])∧IsVal (only (fun b=>w.heap.size≤b) w') w'.heap.size x c)∧Rdr w' rb r d
    |none=>e= .panicked [short] ∧∃bs',Rdr w' rb bs' d
theorem RB.leave {w W:World} {rb base:Nat} {r:List UInt8} {d:Int} {c:VC} {x:V} {tmps:Array Value} (h:RB w W rb r (d+1) c) (hx:IsVal (only (fun b=>base≤b) W) W.heap.size x c) (hb:w.heap.size≤base) (hd:0≤d) (hd2:d≤100) (ht:tmps[2]? =some (.pointer (some ⟨w.heap.size+1,0,none⟩))):
    Leaves Tryz.prog Tryz.f72 tmps (RVPost w rb d (some (x,r))) [{ target:= .fn (.func 96) #[.pointer (some ⟨w.heap.size,0,none⟩)],args:= #[] }] .returning W:=by
  have hlt:=h.lt
  refine door_ret h.box h.rdr hd hd2 ht h.res (by omega) fun hR hS=>⟨h.st.trans hS,⟨c,rfl, ?_⟩,hR⟩
  exact (hx.sub (shows_step fun k hk hl=>⟨by omega,hS.block k hl (by omega)⟩)).more hS.size
theorem RB.panic {w W:World} {rb:Nat} {r:List UInt8} {d:Int} {c:VC} {tmps:Array Value} (h:RB w W rb r (d+1) c) (hd:0≤d) (hd2:d≤100):
    Leaves Tryz.prog Tryz.f72 tmps (RVPost w rb d none) [{ target:= .fn (.func 96) #[.pointer (some ⟨w.heap.size,0,none⟩)],args:= #[] }] (.panicking [short]) W:=
  door_panic h.box h.rdr hd hd2 fun hR hS=>⟨h.st.trans hS,rfl,r,hR⟩
end Go.Proofs.YtgcfhkceejcliaaGreatDoor
namespace Go.Proofs.YtgcfhkceejcliaaGreatDoor
open Go.RowKit
theorem i64_lo (x:Int): -9223372036854775808≤wrap64 x:=by unfold wrap64;omega
theorem i64_hi (x:Int):wrap64 x≤9223372036854775807:=by unfold wrap64;omega
theorem rdM_some {k n:Nat} {bs r:List UInt8} (hr:rdM k bs=some (n,r)):rdN k bs=some (n,r)∧n≤r.length:=by
  unfold rdM at hr
  cases h:rdN k bs with
  |none=>rw [h] at hr;cases hr
  | some p=>
    rw [h] at hr
    simp only [Option.bind_some] at hr
    split at hr
    · injection hr with hr;subst hr;exact ⟨rfl,by assumption⟩
    · cases hr
theorem rdT_some {bs r:List UInt8} {s:ByteArray} (hr:rdT bs=some (s,r)):∃n q,rdM 4 bs=some (n,q)∧s=⟨(q.take n).toArray⟩∧r=q.drop n:=by
  unfold rdT at hr
  cases h:rdM 4 bs with
  |none=>rw [h] at hr;cases hr
  | some p=>
    obtain ⟨n,q⟩:=p
    rw [h] at hr
    simp only [Option.bind_some] at hr
    injection hr with hr;injection hr with h1 h2
    exact ⟨n,q,rfl,h1.symm,h2.symm⟩
theorem rdT_size {bs r:List UInt8} {s:ByteArray} (hr:rdT bs=some (s,r)):s.size≤140737488355328:=by
  obtain ⟨n,q,h1,rfl,rfl⟩:=rdT_some hr
  have h2:=rdN_lt (rdM_some h1).1
  have h3:(⟨(q.take n).toArray⟩:ByteArray).size=(q.take n).length:=by simp [ByteArray.size]
  rw [h3,List.length_take]
  omega
end Go.Proofs.YtgcfhkceejcliaaGreatDoor
namespace Go.Proofs.YtgcfhkceejcliaaGreatDoor
open Go.RowKit
theorem grown_below {w w':World} {row:Option Nat} {B:Nat} (hg:w.grownBy w' row) (hr:∀k,row=some k→B≤k) (hB:B≤w.heap.size):Below B w w':=
  ⟨hg.os,hg.tape,hg.output,hg.size,fun k hk=>hg.block k (by omega) (fun e=>by have:=hr k e.symm;omega)⟩
theorem Rdr.below {w w':World} {rb B:Nat} {bs:List UInt8} {d:Int} (h:Rdr w rb bs d) (hb:Below B w w') (hB:rb<B):Rdr w' rb bs d:=by
  obtain ⟨⟨a,n,c,h0,hI⟩,h1,h2,h3⟩:=h
  exact ⟨⟨a,n,c,keep_cell hb h0 hB,hI.keep (hb.mono (Nat.le_of_lt hB))⟩,keep_cell hb h1 hB,(hb.frozen hB).trans h2,(hb.frozen hB).trans h3⟩
theorem RB.below {w W W':World} {rb:Nat} {bs:List UInt8} {d:Int} {c:VC} (h:RB w W rb bs d c) (hb:Below (w.heap.size+2) W W'):RB w W' rb bs d c:=by
  have hlt:=h.lt
  have hs:RStep w W' rb:=⟨hb.os.trans h.st.os,hb.tape.trans h.st.tape,hb.output.trans h.st.output,Nat.le_trans h.st.size hb.size,fun k hk hr=>(hb.block k (by omega)).trans (h.st.block k hk hr)⟩
  exact ⟨h.rdr.below hb (by omega),hs,keep_cell hb h.box (by omega),h.res.keep hb (by omega),fun j hj=>(hb.frozen (p:=⟨w.heap.size+1,j,none⟩) (show w.heap.size+1<w.heap.size+2 by omega)).trans (h.frz j hj),hlt,Nat.le_trans h.size hb.size⟩
theorem VB.keep {W W':World} {vb B:Nat} {c:VC} (h:VB W vb c) (hb:Below B W W') (hB:vb<B):VB W' vb c:=
  ⟨h.at_.keep hb hB,fun j=>(hb.frozen hB).trans (h.fr j)⟩
theorem VB.setL {W:World} {vb:Nat} {c:VC} (h:VB W vb c) (a:Option Addr) (n cp:Nat):VB (W.setCell ⟨vb,3,none⟩ (.slice a n cp)) vb ⟨c.k,c.n,c.s,a,n,cp,c.oa,c.ol,c.oc⟩:=by
  have g0:=h.at_.c0
  have g1:W.cell? ⟨vb,1,none⟩=_:=h.at_.c1
  have g2:W.cell? ⟨vb,2,none⟩=_:=h.at_.c2
  have g3:W.cell? ⟨vb,3,none⟩=_:=h.at_.c3
  have g4:W.cell? ⟨vb,4,none⟩=_:=h.at_.c4
  refine ⟨?_,fun j=>by simpa using h.fr j⟩
  constructor<;>simp [go_sem,g0,g1,g2,g3,g4]
theorem VB.setO {W:World} {vb:Nat} {c:VC} (h:VB W vb c) (a:Option Addr) (n cp:Nat):VB (W.setCell ⟨vb,4,none⟩ (.slice a n cp)) vb ⟨c.k,c.n,c.s,c.la,c.ll,c.lc,a,n,cp⟩:=by
  have g0:=h.at_.c0
  have g1:W.cell? ⟨vb,1,none⟩=_:=h.at_.c1
  have g2:W.cell? ⟨vb,2,none⟩=_:=h.at_.c2
  have g3:W.cell? ⟨vb,3,none⟩=_:=h.at_.c3
  have g4:W.cell? ⟨vb,4,none⟩=_:=h.at_.c4
  refine ⟨?_,fun j=>by simpa using h.fr j⟩
  constructor<;>simp [go_sem,g0,g1,g2,g3,g4]
theorem drew_below (w:World):Below w.heap.size w w.drew:=(Below.refl _ _).drew
structure LI (w wr:World) (rb vb:Nat) (d:Int) (k:Nat) (kd:Nat) (q:List UInt8) (j:Nat) (a:Option Addr) (m c:Nat) (xs:List V) (cs:List VC) (rj:List UInt8):Prop where
  rd:rdL (fun x=>rdV k x) j q=some (xs,rj)
  len:xs.length=j
  cen:cs.length=j
  box:RB w wr rb rj (d+1) vzero
  vb_:VB wr vb ⟨kd,0, .empty,a,m,c,none,0,0⟩
  row:RowV wr (vb+1) (.slice a m c) xs cs
  lo:w.heap.size+2≤vb
theorem LI.round {w wr w4 w5:World} {rb vb:Nat} {d:Int} {k kd:Nat} {q:List UInt8} {j:Nat} {a:Option Addr} {m c:Nat} {xs:List V} {cs:List VC} {rj r2:List UInt8} {x:V} {cx:VC} {g cap:Nat} {t:TypeId}
    (h:LI w wr rb vb d k kd q j a m c xs cs rj) (hx:rdV k rj=some (x,r2)) (hS:RStep wr.drew w4 rb) (hI:IsVal (only (fun b=>wr.drew.heap.size≤b) w4) w4.heap.size x cx) (hR:Rdr w4 rb r2 (d+1))
    (hown:w5.ownsRow (vb+1) 33 5 (.slice (some ⟨g,0,none⟩) (j+1) cap) (j+1) (cs.flatMap vcells++vcells cx)) (hg:(w4.alloc (.cells #[.int .u8 cx.k, .int .i64 cx.n, .string cx.s, .slice cx.la cx.ll cx.lc, .slice cx.oa cx.ol cx.oc] t)).grownBy w5 (Value.slice a m c).ownBlock)
    (hat:(Value.slice a m c).ownBlock=some g∨g=w4.heap.size+1):
    LI w (w5.setCell ⟨vb,3,none⟩ (.slice (some ⟨g,0,none⟩) (j+1) cap)) rb vb d k kd q (j+1) (some ⟨g,0,none⟩) (j+1) cap (xs++ [x]) (cs++ [cx]) r2:=by
  have hlo:=h.lo
  have hlt:=h.box.lt
  have hdz:wr.drew.heap.size=wr.heap.size:=rfl
  have hb1:=drew_below wr
  have hrow:=(h.row.later (PV.closed xs cs) (.of_below rb hb1) (by omega)).later (PV.closed xs cs) hS (by omega)
  have hrlt:∀b,(Value.slice a m c).ownBlock=some b→vb+1≤b∧b<wr.heap.size:=h.row.lt
  have hba:Below w4.heap.size w4 (w4.alloc (.cells #[.int .u8 cx.k, .int .i64 cx.n, .string cx.s, .slice cx.la cx.ll cx.lc, .slice cx.oa cx.ol cx.oc] t)):=(Below.refl _ _).alloc (Nat.le_refl _) _
  have hsz4:wr.heap.size≤w4.heap.size:=hS.size
  have hvlt:=h.vb_.lt
  have hgb:Below (vb+1) (w4.alloc (.cells #[.int .u8 cx.k, .int .i64 cx.n, .string cx.s, .slice cx.la cx.ll cx.lc, .slice cx.oa cx.ol cx.oc] t)) w5:=grown_below hg (fun b hb=>(hrlt b hb).1) (by simp;omega)
  have hb45:Below (vb+1) w4 w5:=(hba.mono (by omega)).trans hgb
  obtain ⟨s1,s2⟩:=PV.snoc (l:=xs) (cs:=cs) (by rw [h.len,h.cen]) x cx
  have hnew:PV (xs++ [x]) (cs++ [cx]) (only (Free (vb+1) (.slice a m c)) w4) w4.heap.size xs.length:=s1 _ _ (hI.sub (shows_step fun b hb _=>⟨⟨by rw [hdz] at hb;omega,fun e=>by have:=(hrlt b e.symm).2;rw [hdz] at hb;omega⟩,rfl⟩))
  have hpush:=Row.push (PV.closed (xs++ [x]) (cs++ [cx])) hrow hba hg (u':= .slice (some ⟨g,0,none⟩) (j+1) cap) (news:=vcells cx) (by rw [h.len];exact hown) (by
    rcases hat with e|e
    · left;rw [e];rfl
    · right;intro b hb;have:g=b:=by simpa [Value.ownBlock] using hb
      omega) hnew s2
  have hbox:=((h.box.behind hb1).next hS hR).below (hb45.mono (by omega))
  have hvb:=((h.vb_.keep hb1 hvlt).next hS (by omega)).keep hb45 (by omega)
  refine ⟨?_,by simp [h.len],by simp [h.cen],hbox.set (by omega),hvb.setL _ _ _, ?_,hlo⟩
  · rw [rdL,h.rd];simp only [Option.bind_some,hx]
  · have hr2:RowV w5 (vb+1) (.slice (some ⟨g,0,none⟩) (j+1) cap) (xs++ [x]) (cs++ [cx]):=by
      show Row _ _ _ _ _ _ _ _
      rw [flat_snoc,List.length_append,List.length_singleton]
      exact hpush
    exact hr2.set (PV.closed _ _) (by omega)
def PanicP (D:List Deferred) (Pw:World→Prop) (Q:Exit→Act→World→Prop):Exit→Act→World→Prop
  | .panic c,a,w=>a.defers=D∧c= [short] ∧Pw w
  |e,a,w=>Q e a w
theorem PanicP.normal {D:List Deferred} {Pw:World→Prop} {Q:Exit→Act→World→Prop} {a:Act} {w:World} (h:Q .normal a w):PanicP D Pw Q .normal a w:=h
theorem RStep.self {W:World} {b o:Nat} {x:Value} :RStep W (W.setCell ⟨b,o,none⟩ x) b:=⟨rfl,rfl,rfl,by simp,fun k hk hr=>heap_setCell_other _ _ _ _ hr⟩
theorem isVal_far {W W':World} {b base:Nat} {x:V} {c:VC} (h:IsVal (only (fun k=>base≤k) W) W.heap.size x c) (s:RStep W W' b) (hb:b<base):IsVal (only (fun k=>base≤k) W') W'.heap.size x c:=
  (h.sub (shows_step fun k hk hl=>⟨hk,s.block k hl (by omega)⟩)).more s.size
end Go.Proofs.YtgcfhkceejcliaaGreatDoor
namespace Go.Proofs.YtgcfhkceejcliaaGreatDoor
open Go.RowKit
structure BC (W:World) (b:Nat) (cs:List Value):Prop where
  at_:∀j x,cs[j]? =some x→W.cell? ⟨b,j,none⟩=some x
  fr:∀j,W.frozen? ⟨b,j,none⟩=false
  lt:b<W.heap.size
theorem BC.start (w:World) (cs:Array Value) (t:TypeId):BC (w.alloc (.cells cs t)) w.heap.size cs.toList:=
  ⟨fun j x hj=>cells_new w cs t j x (by rw [←hj];simp),fun j=>frozen_new w cs t j,by simp⟩
theorem BC.next {W W':World} {b rb:Nat} {cs:List Value} (h:BC W b cs) (s:RStep W W' rb) (hb:b≠rb):BC W' b cs:=
  ⟨fun j x hj=>s.cell (h.at_ j x hj) hb,fun j=>(s.frozen h.lt hb).trans (h.fr j),Nat.lt_of_lt_of_le h.lt s.size⟩
theorem BC.keep {W W':World} {b B:Nat} {cs:List Value} (h:BC W b cs) (hb:Below B W W') (hB:b<B):BC W' b cs:=
  ⟨fun j x hj=>keep_cell hb (h.at_ j x hj) hB,fun j=>(hb.frozen (p:=⟨b,j,none⟩) hB).trans (h.fr j),Nat.lt_of_lt_of_le h.lt hb.size⟩
theorem BC.set {W:World} {b i:Nat} {x:Value} {cs:List Value} (h:BC W b cs) (hi:i<cs.length):BC (W.setCell ⟨b,i,none⟩ x) b (cs.set i x):=by
  refine ⟨fun j y hj=> ?_,fun j=>by simpa using h.fr j,by simpa using h.lt⟩
  by_cases e:i=j
  · subst e
    rw [List.getElem?_set_self hi] at hj
    injection hj with hj
    subst hj
    exact World.cell?_setCell_same _ _ _ (h.at_ i cs[i] (by simp [hi]))
  · rw [List.getElem?_set_ne e] at hj
    rw [World.cell?_setCell_other]
    · exact h.at_ j y hj
    · intro e2;injection e2 with _ e3;exact e (by first|exact e3|exact e3.symm)
theorem BC.far {W:World} {b b' o:Nat} {x:Value} {cs:List Value} (h:BC W b cs) (hb:b≠b'):BC (W.setCell ⟨b',o,none⟩ x) b cs:=
  h.next RStep.self hb
theorem rdS_bnd {bs r:List UInt8} {s:St} (h:rdS bs=some (s,r)):s.Bnd:=by
  unfold rdS at h
  cases h1:rdN 1 bs with
  |none=>rw [h1] at h;cases h
  | some p=>
    rw [h1] at h
    simp only [Option.bind_some] at h
    split at h
    · cases h2:rdN 8 p.2 with
      |none=>rw [h2] at h;cases h
      | some q=>
        rw [h2] at h
        simp only [Option.bind_some] at h
        injection h with h;injection h with h h';subst h
        exact ⟨i64_lo _,i64_hi _,(by decide:ByteArray.empty.size≤140737488355328)⟩
    · cases h2:rdT p.2 with
      |none=>rw [h2] at h;cases h
      | some q=>
        rw [h2] at h
        simp only [Option.bind_some] at h
        injection h with h;injection h with h h';subst h
        exact ⟨(by decide:(-9223372036854775808:Int)≤0),(by decide:(0:Int)≤9223372036854775807),rdT_size h2⟩
end Go.Proofs.YtgcfhkceejcliaaGreatDoor
namespace Go.Proofs.YtgcfhkceejcliaaGreatDoor
open Go.RowKit
theorem ginfoV:(Tryz.prog.info? 33).map (fun i=>(i.zero,i.size,i.bytes))=some (some (.agg #[.int .u8 0, .int .i64 0, .string { data:= #[] }, .slice none 0 0, .slice none 0 0]),5,80):=by kernel_rfl
end Go.Proofs.YtgcfhkceejcliaaGreatDoor
namespace Go.Proofs.YtgcfhkceejcliaaGreatDoor
open Go.RowKit
theorem ginfoFR:(Tryz.prog.info? 98).map (fun i=>(i.zero,i.size,i.bytes))=some (some (.agg #[.string { data:= #[] }, .int .u8 0, .int .i64 0, .string { data:= #[] }, .slice none 0 0, .slice none 0 0]),6,96):=by kernel_rfl
end Go.Proofs.YtgcfhkceejcliaaGreatDoor
namespace Go.Proofs.YtgcfhkceejcliaaGreatDoor
open Go.RowKit
def V.kd:V→Int
  | .mk k _ _ _ _=>k
def V.nm:V→Int
  | .mk _ n _ _ _=>n
def V.ls:V→List V
  | .mk _ _ _ l _=>l
def V.os:V→List (ByteArray×V)
  | .mk _ _ _ _ o=>o
theorem V.eta (v:V):∃k n s l o,v= .mk k n s l o:=by cases v;exact ⟨_,_,_,_,_,rfl⟩
def Free2 (base:Nat) (u uo:Value):Nat→Prop:=fun k=>base≤k∧some k≠u.ownBlock∧some k≠uo.ownBlock
structure OwnRow (w:World) (base:Nat) (a:Option Addr) (n c:Nat) (cells:List Value):Prop where
  cap:n≤c
  max:c≤9223372036854775807
  none_:n=0→a=none→c=0
  row:0<n∨a≠none→∃g,a=some ⟨g,0,none⟩∧base≤g∧BC w g cells
theorem OwnRow.of {w:World} {base base':Nat} {T:TypeId} {sz:Nat} {u:Value} {n:Nat} {cells:List Value} (h:w.ownsRow base T sz u n cells) (hB:base'≤base):∃a c,u= .slice a n c∧OwnRow w base' a n c cells:=by
  have hcl:∀g,u.ownBlock=some g→∀j x,cells[j]? =some x→w.cell? ((⟨g,0,none⟩:Addr).add j)=some x:=fun g hg=>h.cells hg
  have hl:=h.1
  rcases h.2 with ⟨rfl,rfl⟩|⟨g,cap,cur,rfl,h1,h2,h3,h4,h5,h6⟩
  · exact ⟨none,0,rfl,Nat.le_refl _,by omega,fun _ _=>rfl,fun h=>by rcases h with h|h<;>simp at h⟩
  · refine ⟨_,cap,rfl,h3,by simpa [maxLen] using h4,fun _ h=>(by cases h),fun _=>⟨g,rfl,Nat.le_trans hB h1,fun j x hj=> ?_,fun j=> ?_, ?_⟩⟩
    · have:=hcl g rfl j x hj
      rwa [add_at,Nat.zero_add] at this
    · simp [World.frozen?,h2]
    · exact (Array.getElem?_eq_some_iff.1 h2).1
structure Fresh (w:World) (base:Nat) (l:List V) (o:List (ByteArray×V)) (a:Option Addr) (n c:Nat) (a':Option Addr) (n' c':Nat) (cl:List VC) (co:List (ByteArray×VC)):Prop where
  len:n=l.length
  len':n'=o.length
  ll:cl.length=l.length
  lo:co.length=o.length
  few:l.length≤1466015503701
  few':o.length≤1466015503701
  ownL:OwnRow w base a n c (cl.flatMap vcells)
  ownO:OwnRow w base a' n' c' (co.flatMap fcells)
  ne:∀g,(Value.slice a n c).ownBlock=some g→(Value.slice a' n' c').ownBlock≠some g
  lv:∀i,i<l.length→PV l cl (only (Free2 base (.slice a n c) (.slice a' n' c')) w) w.heap.size i
  ov:∀i,i<o.length→PF o co (only (Free2 base (.slice a n c) (.slice a' n' c')) w) w.heap.size i
theorem valAt_flat {W:World} {g:Nat} {cl:List VC} (h:BC W g (cl.flatMap vcells)) {i:Nat} (hi:i<cl.length):ValAt W g (i*5) cl[i] :=by
  have hc:∀t x,t<5→(vcells cl[i])[t]? =some x→W.cell? ⟨g,i*5+t,none⟩=some x:=fun t x ht hx=>h.at_ _ _ ((flat_get vcells 5 (fun _=>rfl) cl i t hi ht).trans hx)
  exact ⟨hc 0 _ (by omega) rfl,hc 1 _ (by omega) rfl,hc 2 _ (by omega) rfl,hc 3 _ (by omega) rfl,hc 4 _ (by omega) rfl⟩
theorem fldAt_flat {W:World} {g:Nat} {co:List (ByteArray×VC)} (h:BC W g (co.flatMap fcells)) {i:Nat} (hi:i<co.length):W.cell? ⟨g,i*6,none⟩=some (.string co[i].1)∧ValAt W g (i*6+1) co[i].2:=by
  have hc:∀t x,t<6→(fcells co[i])[t]? =some x→W.cell? ⟨g,i*6+t,none⟩=some x:=fun t x ht hx=>h.at_ _ _ ((flat_get fcells 6 (fun _=>rfl) co i t hi ht).trans hx)
  exact ⟨hc 0 _ (by omega) rfl,hc 1 _ (by omega) rfl,hc 2 _ (by omega) rfl,hc 3 _ (by omega) rfl,hc 4 _ (by omega) rfl,hc 5 _ (by omega) rfl⟩
theorem isVal_rows {w:World} {B:Nat} {k n:Int} {s:ByteArray} {l:List V} {o:List (ByteArray×V)} {a:Option Addr} {m c:Nat} {a':Option Addr} {m' c':Nat} {cl:List VC} {co:List (ByteArray×VC)}
    (hk0:0≤k) (hk1:k<256) (hn0: -9223372036854775808≤n) (hn1:n≤9223372036854775807) (hs:s.size≤140737488355328)
    (hl:m=l.length) (hl':m'=o.length) (ll:cl.length=l.length) (lo:co.length=o.length) (few:l.length≤1466015503701) (few':o.length≤1466015503701)
    (c1:m≤c) (c2:c≤9223372036854775807) (c1':m'≤c') (c2':c'≤9223372036854775807)
    (ha:0<m→∃g,a=some ⟨g,0,none⟩∧g<B∧∀i (hi:i<cl.length),ValAt w g (i*5) cl[i])
    (ha':0<m'→∃g,a'=some ⟨g,0,none⟩∧g<B∧∀i (hi:i<co.length),w.cell? ⟨g,i*6,none⟩=some (.string co[i].1)∧ValAt w g (i*6+1) co[i].2)
    (lv:∀i,i<l.length→PV l cl w B i) (ov:∀i,i<o.length→PF o co w B i):IsVal w B (.mk k n s l o) ⟨k,n,s,a,m,c,a',m',c'⟩:=by
  obtain ⟨lb,hlb⟩:∃lb,0<m→a=some ⟨lb,0,none⟩∧lb<B∧∀i (hi:i<cl.length),ValAt w lb (i*5) cl[i] :=by
    by_cases h:0<m
    · obtain ⟨g,hg⟩:=ha h;exact ⟨g,fun _=>hg⟩
    · exact ⟨0,fun h'=>absurd h' h⟩
  obtain ⟨ob,hob⟩:∃ob,0<m'→a'=some ⟨ob,0,none⟩∧ob<B∧∀i (hi:i<co.length),w.cell? ⟨ob,i*6,none⟩=some (.string co[i].1)∧ValAt w ob (i*6+1) co[i].2:=by
    by_cases h:0<m'
    · obtain ⟨g,hg⟩:=ha' h;exact ⟨g,fun _=>hg⟩
    · exact ⟨0,fun h'=>absurd h' h⟩
  refine .mk ⟨k,n,s,a,m,c,a',m',c'⟩ l o (fun i=>cl.getD i vzero) (fun i=>(co.getD i fzero).2) lb 0 ob 0 ⟨hk0,hk1,hn0,hn1,hs,c1,c2,by show m≤_;omega,c1',c2',by show m'≤_;omega⟩ hl hl' (fun h=>⟨(hlb h).1,(hlb h).2.1⟩) (fun h=>⟨(hob h).1,(hob h).2.1⟩) (fun i hi=> ?_) (fun i hi=>lv i hi hi) (fun i hi=> ?_) (fun i hi=>(ov i hi hi).2.2)
  · have he:cl.getD i vzero=cl[i]'(by omega):=by simp [List.getD_eq_getElem?_getD,show i<cl.length by omega]
    simp only [he,Nat.zero_add]
    exact (hlb (by omega)).2.2 i (by omega)
  · have he:co.getD i fzero=co[i]'(by omega):=by simp [List.getD_eq_getElem?_getD,show i<co.length by omega]
    obtain ⟨p1,p2,p3⟩:=ov i hi hi
    obtain ⟨q1,q2⟩:=(hob (by omega)).2.2 i (by omega)
    rw [he] at p1
    simp only [he,Nat.zero_add]
    exact ⟨by rw [←p1];exact q1,p2,q2⟩
theorem only_cellV {P:Nat→Prop} {w:World} {b o:Nat} {c:VC} (hb:P b) (h:ValAt w b o c):ValAt (only P w) b o c:=⟨only_cell' hb h.c0,only_cell' hb h.c1,only_cell' hb h.c2,only_cell' hb h.c3,only_cell' hb h.c4⟩
theorem Fresh.val {w:World} {base:Nat} {l:List V} {o:List (ByteArray×V)} {a:Option Addr} {m c:Nat} {a':Option Addr} {m' c':Nat} {cl:List VC} {co:List (ByteArray×VC)} (h:Fresh w base l o a m c a' m' c' cl co)
    {k n:Int} {s:ByteArray} (hk0:0≤k) (hk1:k<256) (hn0: -9223372036854775808≤n) (hn1:n≤9223372036854775807) (hs:s.size≤140737488355328):IsVal (only (fun b=>base≤b) w) w.heap.size (.mk k n s l o) ⟨k,n,s,a,m,c,a',m',c'⟩:=by
  have hsh:Shows (only (Free2 base (.slice a m c) (.slice a' m' c')) w) (only (fun b=>base≤b) w) w.heap.size:=shows_step fun k hk _=>⟨hk.1,rfl⟩
  refine isVal_rows hk0 hk1 hn0 hn1 hs h.len h.len' h.ll h.lo h.few h.few' h.ownL.cap h.ownL.max h.ownO.cap h.ownO.max (fun hp=> ?_) (fun hp=> ?_) (fun i hi=>PV.closed _ _ _ _ _ _ i hsh (Nat.le_refl _) (h.lv i hi)) (fun i hi=>PF.closed _ _ _ _ _ _ i hsh (Nat.le_refl _) (h.ov i hi))
  · obtain ⟨g,e,hg,hbc⟩:=h.ownL.row (.inl hp)
    exact ⟨g,e,hbc.lt,fun i hi=>only_cellV hg (valAt_flat hbc hi)⟩
  · obtain ⟨g,e,hg,hbc⟩:=h.ownO.row (.inl hp)
    exact ⟨g,e,hbc.lt,fun i hi=>⟨only_cell' hg (fldAt_flat hbc hi).1,only_cellV hg (fldAt_flat hbc hi).2⟩⟩
end Go.Proofs.YtgcfhkceejcliaaGreatDoor
namespace Go.Proofs.YtgcfhkceejcliaaGreatDoor
open Go.RowKit
def V.setL:V→Nat→V→V
  | .mk k n s l o,i,z=> .mk k n s (l.set i z) o
def putO (o:List (ByteArray×V)) (i:Nat) (z:V):List (ByteArray×V):=o.set i ((o.getD i (.empty,V.none)).1,z)
def V.setO:V→Nat→V→V
  | .mk k n s l o,i,z=> .mk k n s l (putO o i z)
def setV (W:World) (g o:Nat) (c:VC):World:=((((W.setCell ⟨g,o,none⟩ (.int .u8 c.k)).setCell ⟨g,o+1,none⟩ (.int .i64 c.n)).setCell ⟨g,o+2,none⟩ (.string c.s)).setCell ⟨g,o+3,none⟩ (.slice c.la c.ll c.lc)).setCell ⟨g,o+4,none⟩ (.slice c.oa c.ol c.oc)
theorem setV_step (W:World) (g o:Nat) (c:VC):RStep W (setV W g o c) g:=(((RStep.self.trans RStep.self).trans RStep.self).trans RStep.self).trans RStep.self
theorem bc_store {W:World} {b:Nat} {c0:VC} (h:BC W b (vcells c0)) (c:VC):BC (setV W b 0 c) b (vcells c):=
  ((((h.set (i:=0) (x:= .int .u8 c.k) (by simp [vcells])).set (i:=1) (x:= .int .i64 c.n) (by simp [vcells])).set (i:=2) (x:= .string c.s) (by simp [vcells])).set (i:=3) (x:= .slice c.la c.ll c.lc) (by simp [vcells])).set (i:=4) (x:= .slice c.oa c.ol c.oc) (by simp [vcells])
theorem flat_set5 (cl:List VC) (k:Nat) (hk:k<cl.length) (z:VC):(((((cl.flatMap vcells).set (k*5) (.int .u8 z.k)).set (k*5+1) (.int .i64 z.n)).set (k*5+2) (.string z.s)).set (k*5+3) (.slice z.la z.ll z.lc)).set (k*5+4) (.slice z.oa z.ol z.oc)=(cl.set k z).flatMap vcells:=by
  induction cl generalizing k with
  |nil=>cases hk
  | cons c r ih=>
    cases k with
    |zero=>simp [vcells]
    | succ k=>
      have e:∀t,(k+1)*5+t=(vcells c).length+(k*5+t):=fun t=>by show _=5+_;omega
      have e0:(k+1)*5=(vcells c).length+(k*5):=by show _=5+_;omega
      rw [e 1,e 2,e 3,e 4,e0]
      simp only [List.flatMap_cons,List.set_cons_succ]
      rw [←ih k (by simpa using hk)]
      simp only [List.set_append_right _ _ (Nat.le_add_right _ _),Nat.add_sub_cancel_left]
theorem flat_set6 (co:List (ByteArray×VC)) (k:Nat) (hk:k<co.length) (z:VC):(((((co.flatMap fcells).set (k*6+1) (.int .u8 z.k)).set (k*6+1+1) (.int .i64 z.n)).set (k*6+1+2) (.string z.s)).set (k*6+1+3) (.slice z.la z.ll z.lc)).set (k*6+1+4) (.slice z.oa z.ol z.oc)=(co.set k (co[k].1,z)).flatMap fcells:=by
  induction co generalizing k with
  |nil=>cases hk
  | cons c r ih=>
    cases k with
    |zero=>simp [fcells]
    | succ k=>
      have e:∀t,(k+1)*6+1+t=(fcells c).length+(k*6+1+t):=fun t=>by show _=6+_;omega
      have e0:(k+1)*6+1=(fcells c).length+(k*6+1):=by show _=6+_;omega
      rw [e 1,e 2,e 3,e 4,e0]
      simp only [List.flatMap_cons,List.set_cons_succ,List.getElem_cons_succ]
      rw [←ih k (by simpa using hk)]
      simp only [List.set_append_right _ _ (Nat.le_add_right _ _),Nat.add_sub_cancel_left]
theorem bc_setV {W:World} {g:Nat} {cl:List VC} (h:BC W g (cl.flatMap vcells)) {k:Nat} (hk:k<cl.length) (z:VC):BC (setV W g (k*5) z) g ((cl.set k z).flatMap vcells):=by
  have hl:(cl.flatMap vcells).length=cl.length*5:=flat_length vcells 5 (fun _=>rfl) cl
  rw [←flat_set5 cl k hk z]
  exact ((((h.set (by omega)).set (by simp only [List.length_set];omega)).set (by simp only [List.length_set];omega)).set (by simp only [List.length_set];omega)).set (by simp only [List.length_set];omega)
theorem bc_setF {W:World} {g:Nat} {co:List (ByteArray×VC)} (h:BC W g (co.flatMap fcells)) {k:Nat} (hk:k<co.length) (z:VC):BC (setV W g (k*6+1) z) g ((co.set k (co[k].1,z)).flatMap fcells):=by
  have hl:(co.flatMap fcells).length=co.length*6:=flat_length fcells 6 (fun _=>rfl) co
  rw [←flat_set6 co k hk z]
  exact ((((h.set (by omega)).set (by simp only [List.length_set];omega)).set (by simp only [List.length_set];omega)).set (by simp only [List.length_set];omega)).set (by simp only [List.length_set];omega)
theorem own_ne {a:Option Addr} {n c g:Nat} (e:a=some ⟨g,0,none⟩):(Value.slice a n c).ownBlock=some g:=by subst e;rfl
theorem PV.set {l:List V} {cl:List VC} {W:World} {B:Nat} (hl:cl.length=l.length) (h:∀i,i<l.length→PV l cl W B i) {z:V} {cz:VC} (hz:IsVal W B z cz) (k:Nat):∀i,i<(l.set k z).length→PV (l.set k z) (cl.set k cz) W B i:=by
  intro i hi hi2
  rw [List.length_set] at hi
  rw [List.getD_eq_getElem?_getD]
  by_cases e:k=i
  · subst e
    rw [List.getElem?_set_self (by omega),List.getElem_set_self]
    exact hz
  · rw [List.getElem?_set_ne e,List.getElem_set_ne e, ←List.getD_eq_getElem?_getD]
    exact h i hi hi
theorem PF.put {o:List (ByteArray×V)} {co:List (ByteArray×VC)} {W:World} {B:Nat} (h:∀i,i<o.length→PF o co W B i) {z:V} {cz:VC} (hz:IsVal W B z cz) (k:Nat) (hk:k<co.length):∀i,i<(putO o k z).length→PF (putO o k z) (co.set k (co[k].1,cz)) W B i:=by
  intro i hi hi2
  unfold putO at hi hi2 ⊢
  rw [List.length_set] at hi
  rw [List.getD_eq_getElem?_getD]
  by_cases e:k=i
  · subst e
    rw [List.getElem?_set_self (by omega)]
    simp only [List.getElem_set_self]
    obtain ⟨p1,p2,_⟩:=h k hi hi
    have he:co.getD k fzero=co[k] :=by simp [List.getD_eq_getElem?_getD,hk]
    have he2:o.getD k (.empty,V.none)=o[k] :=by simp [List.getD_eq_getElem?_getD,hi]
    rw [he] at p1
    rw [he2]
    exact ⟨p1,p2,hz⟩
  · rw [List.getElem?_set_ne e, ←List.getD_eq_getElem?_getD]
    simp only [List.getElem_set_ne e]
    exact h i hi hi
theorem putO_length (o:List (ByteArray×V)) (k:Nat) (z:V):(putO o k z).length=o.length:=List.length_set
section
variable {w:World} {base base':Nat} {l:List V} {o:List (ByteArray×V)} {a:Option Addr} {m c:Nat} {a':Option Addr} {m' c':Nat} {cl:List VC} {co:List (ByteArray×VC)}
theorem Fresh.setL (h:Fresh w base l o a m c a' m' c' cl co) (hB:base'≤base) {kk:Nat} (hkk:kk<l.length) {z:V} {cz:VC} {g:Nat} (hg:a=some ⟨g,0,none⟩)
    (hz:IsVal (only (fun b=>base'≤b∧b≠g) w) w.heap.size z cz) {k n:Int} {s:ByteArray} (hk0:0≤k) (hk1:k<256) (hn0: -9223372036854775808≤n) (hn1:n≤9223372036854775807) (hs:s.size≤140737488355328):
    IsVal (only (fun b=>base'≤b) (setV w g (kk*5) cz)) (setV w g (kk*5) cz).heap.size (.mk k n s (l.set kk z) o) ⟨k,n,s,a,m,c,a',m',c'⟩:=by
  obtain ⟨g',e,hgb,hbc⟩:=h.ownL.row (.inr (by rw [hg];simp))
  obtain rfl:g=g':=by rw [hg] at e;injection e with e;injection e
  have st:=setV_step w g (kk*5) cz
  have hu:(Value.slice a m c).ownBlock=some g:=own_ne hg
  have hsh:Shows (only (Free2 base (.slice a m c) (.slice a' m' c')) w) (only (fun b=>base'≤b) (setV w g (kk*5) cz)) w.heap.size:=shows_step fun q hq hl=>⟨Nat.le_trans hB hq.1,st.block q hl (fun e=>hq.2.1 (by rw [e,hu]))⟩
  have hsz:Shows (only (fun b=>base'≤b∧b≠g) w) (only (fun b=>base'≤b) (setV w g (kk*5) cz)) w.heap.size:=shows_step fun q hq hl=>⟨hq.1,st.block q hl hq.2⟩
  refine isVal_rows hk0 hk1 hn0 hn1 hs (by rw [List.length_set];exact h.len) h.len' (cl:=cl.set kk cz) (co:=co) (by simp [h.ll]) h.lo (by rw [List.length_set];exact h.few) h.few' h.ownL.cap h.ownL.max h.ownO.cap h.ownO.max (fun hp=> ?_) (fun hp=> ?_) (PV.set h.ll (fun i hi=>PV.closed _ _ _ _ _ _ i hsh st.size (h.lv i hi)) ((hz.sub hsz).more st.size) kk) (fun i hi=>PF.closed _ _ _ _ _ _ i hsh st.size (h.ov i hi))
  · exact ⟨g,hg,Nat.lt_of_lt_of_le hbc.lt st.size,fun i hi=>only_cellV (Nat.le_trans hB hgb) (valAt_flat (bc_setV hbc (by rw [h.ll];exact hkk) cz) hi)⟩
  · obtain ⟨q,e,hq,hbo⟩:=h.ownO.row (.inl hp)
    have hne:q≠g:=fun e2=>h.ne g hu (by rw [own_ne e,e2])
    have hbo':=hbo.next st hne
    exact ⟨q,e,hbo'.lt,fun i hi=>⟨only_cell' (Nat.le_trans hB hq) (fldAt_flat hbo' hi).1,only_cellV (Nat.le_trans hB hq) (fldAt_flat hbo' hi).2⟩⟩
theorem Fresh.setO (h:Fresh w base l o a m c a' m' c' cl co) (hB:base'≤base) {kk:Nat} (hkk:kk<o.length) {z:V} {cz:VC} {g:Nat} (hg:a'=some ⟨g,0,none⟩)
    (hz:IsVal (only (fun b=>base'≤b∧b≠g) w) w.heap.size z cz) {k n:Int} {s:ByteArray} (hk0:0≤k) (hk1:k<256) (hn0: -9223372036854775808≤n) (hn1:n≤9223372036854775807) (hs:s.size≤140737488355328):
    IsVal (only (fun b=>base'≤b) (setV w g (kk*6+1) cz)) (setV w g (kk*6+1) cz).heap.size (.mk k n s l (putO o kk z)) ⟨k,n,s,a,m,c,a',m',c'⟩:=by
  obtain ⟨g',e,hgb,hbc⟩:=h.ownO.row (.inr (by rw [hg];simp))
  obtain rfl:g=g':=by rw [hg] at e;injection e with e;injection e
  have st:=setV_step w g (kk*6+1) cz
  have hu:(Value.slice a' m' c').ownBlock=some g:=own_ne hg
  have hsh:Shows (only (Free2 base (.slice a m c) (.slice a' m' c')) w) (only (fun b=>base'≤b) (setV w g (kk*6+1) cz)) w.heap.size:=shows_step fun q hq hl=>⟨Nat.le_trans hB hq.1,st.block q hl (fun e=>hq.2.2 (by rw [e,hu]))⟩
  have hsz:Shows (only (fun b=>base'≤b∧b≠g) w) (only (fun b=>base'≤b) (setV w g (kk*6+1) cz)) w.heap.size:=shows_step fun q hq hl=>⟨hq.1,st.block q hl hq.2⟩
  refine isVal_rows hk0 hk1 hn0 hn1 hs h.len (by rw [putO_length];exact h.len') (cl:=cl) (co:=co.set kk ((co[kk]'(by rw [h.lo];exact hkk)).1,cz)) h.ll (by rw [putO_length];simp [h.lo]) h.few (by rw [putO_length];exact h.few') h.ownL.cap h.ownL.max h.ownO.cap h.ownO.max (fun hp=> ?_) (fun hp=> ?_) (fun i hi=>PV.closed _ _ _ _ _ _ i hsh st.size (h.lv i hi)) (PF.put (fun i hi=>PF.closed _ _ _ _ _ _ i hsh st.size (h.ov i hi)) ((hz.sub hsz).more st.size) kk (by rw [h.lo];exact hkk))
  · obtain ⟨q,e,hq,hbo⟩:=h.ownL.row (.inl hp)
    have hne:q≠g:=fun e2=>h.ne q (own_ne e) (by rw [hu,e2])
    have hbo':=hbo.next st hne
    exact ⟨q,e,hbo'.lt,fun i hi=>only_cellV (Nat.le_trans hB hq) (valAt_flat hbo' hi)⟩
  · have hb2:=bc_setF hbc (k:=kk) (by rw [h.lo];exact hkk) cz
    exact ⟨g,hg,hb2.lt,fun i hi=>⟨only_cell' (Nat.le_trans hB hgb) (fldAt_flat hb2 hi).1,only_cellV (Nat.le_trans hB hgb) (fldAt_flat hb2 hi).2⟩⟩
end
end Go.Proofs.YtgcfhkceejcliaaGreatDoor
namespace Go.Proofs.YtgcfhkceejcliaaGreatDoor
open Go.RowKit
structure Tk where
  k:Int
  n:Int
  s:ByteArray
  m:Int
structure Tk.Bnd (t:Tk):Prop where
  k0:0≤t.k
  k1:t.k<256
  n0: -9223372036854775808≤t.n
  n1:t.n≤9223372036854775807
  s1:t.s.size≤140737488355328
  m0:0≤t.m
  m1:t.m<256
structure TkAt (w:World) (b o:Nat) (t:Tk):Prop where
  c0:w.cell? ⟨b,o,none⟩=some (.int .u8 t.k)
  c1:w.cell? ⟨b,o+1,none⟩=some (.int .i64 t.n)
  c2:w.cell? ⟨b,o+2,none⟩=some (.string t.s)
  c3:w.cell? ⟨b,o+3,none⟩=some (.int .u8 t.m)
theorem TkAt.keep {w w':World} {B b o:Nat} {t:Tk} (h:TkAt w b o t) (hb:Below B w w') (hB:b<B):TkAt w' b o t:=
  ⟨keep_cell hb h.c0 hB,keep_cell hb h.c1 hB,keep_cell hb h.c2 hB,keep_cell hb h.c3 hB⟩
structure IsToks (w:World) (B:Nat) (l:List Tk) (a:Option Addr) (n c:Nat):Prop where
  len:n=l.length
  cap:n≤c
  max:c≤9223372036854775807
  at_:∃b o,(0<n→a=some ⟨b,o,none⟩∧b<B)∧∀i (h:i<l.length),TkAt w b (o+i*4) l[i] ∧l[i].Bnd
theorem IsToks.keep {w w':World} {B:Nat} {l:List Tk} {a:Option Addr} {n c:Nat} (h:IsToks w B l a n c) (hb:Below B w w'):IsToks w' B l a n c:=by
  obtain ⟨h1,h2,h3,b,o,h5,h6⟩:=h
  exact ⟨h1,h2,h3,b,o,h5,fun i hi=>⟨(h6 i hi).1.keep hb (h5 (by omega)).2,(h6 i hi).2⟩⟩
theorem IsToks.more {w:World} {B B':Nat} {l:List Tk} {a:Option Addr} {n c:Nat} (h:IsToks w B l a n c) (hB:B≤B'):IsToks w B' l a n c:=by
  obtain ⟨h1,h2,h3,b,o,h5,h6⟩:=h
  exact ⟨h1,h2,h3,b,o,fun hn=>⟨(h5 hn).1,Nat.lt_of_lt_of_le (h5 hn).2 hB⟩,h6⟩
theorem IsToks.later_ {w w':World} {l:List Tk} {a:Option Addr} {n c:Nat} (h:IsToks w w.heap.size l a n c) (hb:Below w.heap.size w w'):IsToks w' w'.heap.size l a n c:=(h.keep hb).more hb.size
theorem IsToks.get {w:World} {B:Nat} {l:List Tk} {a:Option Addr} {n c:Nat} (h:IsToks w B l a n c) {k:Nat} (hk:k<n):
    ∃b o,∃hp:k<l.length,a=some ⟨b,o,none⟩∧b<B∧TkAt w b (o+k*4) l[k] ∧l[k].Bnd:=by
  obtain ⟨h1,h2,h3,b,o,h5,h6⟩:=h
  exact ⟨b,o,by omega,(h5 (by omega)).1,(h5 (by omega)).2,h6 k (by omega)⟩
theorem IsToks.drop {w:World} {B:Nat} {l:List Tk} {a:Option Addr} {n c:Nat} (h:IsToks w B l a n c) (k:Nat) (hk:k≤n):IsToks w B (l.drop k) (a.map (fun x=>x.add (k*4))) (n - k) (c - k):=by
  obtain ⟨h1,h2,h3,b,o,h5,h6⟩:=h
  refine ⟨by rw [List.length_drop];omega,by omega,by omega,b,o+k*4,fun hn=> ?_,fun i hi=> ?_⟩
  · obtain ⟨e,hb⟩:=h5 (by omega)
    exact ⟨by rw [e,Option.map_some,add_at],hb⟩
  · rw [List.length_drop] at hi
    have:=h6 (k+i) (by omega)
    rw [List.getElem_drop,show o+k*4+i*4=o+(k+i)*4 by rw [Nat.add_mul];omega];exact this
theorem IsToks.none_left {w:World} {B:Nat} {l:List Tk} {a a':Option Addr} {n c:Nat} (h:IsToks w B l a n c) (hn:n=0):IsToks w B l a' 0 0:=by
  obtain ⟨h1,h2,h3,b,o,h5,h6⟩:=h
  exact ⟨by omega,by omega,by omega,b,o,fun h=>by omega,h6⟩
theorem IsToks.take {w:World} {B:Nat} {l:List Tk} {a:Option Addr} {n c:Nat} (h:IsToks w B l a n c) (k:Nat) (hk:k≤n):IsToks w B (l.take k) a k c:=by
  obtain ⟨h1,h2,h3,b,o,h5,h6⟩:=h
  refine ⟨by rw [List.length_take];omega,by omega,h3,b,o,fun hn=>h5 (by omega),fun i hi=> ?_⟩
  rw [List.length_take] at hi
  rw [List.getElem_take];exact h6 i (by omega)
end Go.Proofs.YtgcfhkceejcliaaGreatDoor
namespace Go.Proofs.YtgcfhkceejcliaaGreatDoor
open Go.RowKit
def V.str:V→ByteArray
  | .mk _ _ s _ _=>s
def fR (f:List Tk→V×Nat) (l:List Tk):Nat→List V×Nat×Bool
  |0=>([],1,false)
  | i+1=>if (fR f l i).2.2=true then fR f l i else if (f (l.drop (fR f l i).2.1)).2=0 then ((fR f l i).1,(fR f l i).2.1,true)
    else ((fR f l i).1++ [(f (l.drop (fR f l i).2.1)).1],(fR f l i).2.1+(f (l.drop (fR f l i).2.1)).2,false)
def rawV (t:Tk) (xs:List V):V:=if t.k % 2=0 then .mk t.k t.n t.s xs [] else .mk t.k t.n t.s [] (xs.map fun x=>(x.str,x))
def rawP:Nat→List Tk→V×Nat
  |_, [] =>(V.none,0)
  |0,t::_=>(.mk t.k t.n t.s [] [],1)
  |d+1,t::r=>(rawV t (fR (rawP d) (t::r) (t.m % 4).toNat).1,(fR (rawP d) (t::r) (t.m % 4).toNat).2.1)
theorem fR_stop {f:List Tk→V×Nat} {l:List Tk} {j n:Nat} (h:(fR f l j).2.2=true) (hj:j≤n):fR f l n=fR f l j:=by
  induction n with
  | zero => have:j=0:=by omega
            subst this;rfl
  | succ n ih=>
    by_cases hi:j=n+1
    · subst hi;rfl
    · have:=ih (by omega)
      rw [fR,this,if_pos h]
theorem fR_used {f:List Tk→V×Nat} (hf:∀l,(f l).2≤l.length) {l:List Tk} (hl:1≤l.length) (j:Nat):1≤(fR f l j).2.1∧(fR f l j).2.1≤l.length∧(fR f l j).1.length+1≤(fR f l j).2.1:=by
  induction j with
  |zero=>exact ⟨Nat.le_refl _,hl,Nat.le_refl _⟩
  | succ j ih=>
    rw [fR]
    split
    · exact ih
    · split
      · exact ih
      · rename_i h1 h2
        have:=hf (l.drop (fR f l j).2.1)
        rw [List.length_drop] at this
        have h3:1≤(f (l.drop (fR f l j).2.1)).2:=by omega
        refine ⟨by dsimp only;omega,by dsimp only;omega,by dsimp only;rw [List.length_append,List.length_singleton];omega⟩
theorem rawP_used (d:Nat):∀l,(rawP d l).2≤l.length:=by
  induction d with
  | zero=>
    intro l
    cases l with
    |nil=>simp [rawP]
    |cons t r=>simp [rawP]
  | succ d ih=>
    intro l
    cases l with
    |nil=>simp [rawP]
    |cons t r=>rw [rawP];exact (fR_used ih (by simp) _).2.1
end Go.Proofs.YtgcfhkceejcliaaGreatDoor
namespace Go.Proofs.YtgcfhkceejcliaaGreatDoor
open Go.RowKit
structure LF (w wr:World) (rb vb:Nat) (d:Int) (k:Nat) (kd:Nat) (q:List UInt8) (j:Nat) (a:Option Addr) (m c:Nat) (xs:List (ByteArray×V)) (cs:List (ByteArray×VC)) (rj rc:List UInt8):Prop where
  rd:rdL (fun x=>(rdT x).bind fun y=>(rdV k y.2).bind fun z=>some ((y.1,z.1),z.2)) j q=some (xs,rj)
  len:xs.length=j
  cen:cs.length=j
  box:RB w wr rb rc (d+1) vzero
  vb_:VB wr vb ⟨kd,0, .empty,none,0,0,a,m,c⟩
  row:RowF wr (vb+1) (.slice a m c) xs cs
  lo:w.heap.size+2≤vb
theorem LF.round {w wr w4 w5:World} {rb vb:Nat} {d:Int} {k kd:Nat} {q:List UInt8} {j:Nat} {a:Option Addr} {m c:Nat} {xs:List (ByteArray×V)} {cs:List (ByteArray×VC)} {rj r3 r2:List UInt8} {sk:ByteArray} {x:V} {cx:VC} {g cap:Nat} {t:TypeId}
    (h:LF w wr rb vb d k kd q j a m c xs cs rj r3) (ht:rdT rj=some (sk,r3)) (hx:rdV k r3=some (x,r2)) (hS:RStep wr.drew w4 rb) (hI:IsVal (only (fun b=>wr.drew.heap.size≤b) w4) w4.heap.size x cx) (hR:Rdr w4 rb r2 (d+1))
    (hown:w5.ownsRow (vb+1) 98 6 (.slice (some ⟨g,0,none⟩) (j+1) cap) (j+1) (cs.flatMap fcells++fcells (sk,cx))) (hg:(w4.alloc (.cells #[.string sk, .int .u8 cx.k, .int .i64 cx.n, .string cx.s, .slice cx.la cx.ll cx.lc, .slice cx.oa cx.ol cx.oc] t)).grownBy w5 (Value.slice a m c).ownBlock)
    (hat:(Value.slice a m c).ownBlock=some g∨g=w4.heap.size+1):
    LF w (w5.setCell ⟨vb,4,none⟩ (.slice (some ⟨g,0,none⟩) (j+1) cap)) rb vb d k kd q (j+1) (some ⟨g,0,none⟩) (j+1) cap (xs++ [(sk,x)]) (cs++ [(sk,cx)]) r2 r2:=by
  have hlo:=h.lo
  have hlt:=h.box.lt
  have hdz:wr.drew.heap.size=wr.heap.size:=rfl
  have hb1:=drew_below wr
  have hrow:=(h.row.later (PF.closed xs cs) (.of_below rb hb1) (by omega)).later (PF.closed xs cs) hS (by omega)
  have hrlt:∀b,(Value.slice a m c).ownBlock=some b→vb+1≤b∧b<wr.heap.size:=h.row.lt
  have hba:Below w4.heap.size w4 (w4.alloc (.cells #[.string sk, .int .u8 cx.k, .int .i64 cx.n, .string cx.s, .slice cx.la cx.ll cx.lc, .slice cx.oa cx.ol cx.oc] t)):=(Below.refl _ _).alloc (Nat.le_refl _) _
  have hsz4:wr.heap.size≤w4.heap.size:=hS.size
  have hvlt:=h.vb_.lt
  have hgb:Below (vb+1) (w4.alloc (.cells #[.string sk, .int .u8 cx.k, .int .i64 cx.n, .string cx.s, .slice cx.la cx.ll cx.lc, .slice cx.oa cx.ol cx.oc] t)) w5:=grown_below hg (fun b hb=>(hrlt b hb).1) (by simp;omega)
  have hb45:Below (vb+1) w4 w5:=(hba.mono (by omega)).trans hgb
  obtain ⟨s1,s2⟩:=PF.snoc (l:=xs) (cs:=cs) (by rw [h.len,h.cen]) sk (rdT_size ht) x cx
  have hnew:PF (xs++ [(sk,x)]) (cs++ [(sk,cx)]) (only (Free (vb+1) (.slice a m c)) w4) w4.heap.size xs.length:=s1 _ _ (hI.sub (shows_step fun b hb _=>⟨⟨by rw [hdz] at hb;omega,fun e=>by have:=(hrlt b e.symm).2;rw [hdz] at hb;omega⟩,rfl⟩))
  have hpush:=Row.push (PF.closed (xs++ [(sk,x)]) (cs++ [(sk,cx)])) hrow hba hg (u':= .slice (some ⟨g,0,none⟩) (j+1) cap) (news:=fcells (sk,cx)) (by rw [h.len];exact hown) (by
    rcases hat with e|e
    · left;rw [e];rfl
    · right;intro b hb;have:g=b:=by simpa [Value.ownBlock] using hb
      omega) hnew s2
  have hbox:=((h.box.behind hb1).next hS hR).below (hb45.mono (by omega))
  have hvb:=((h.vb_.keep hb1 hvlt).next hS (by omega)).keep hb45 (by omega)
  refine ⟨?_,by simp [h.len],by simp [h.cen],hbox.set (by omega),hvb.setO _ _ _, ?_,hlo⟩
  · rw [rdL,h.rd];simp only [Option.bind_some,ht,hx]
  · have hr2:RowF w5 (vb+1) (.slice (some ⟨g,0,none⟩) (j+1) cap) (xs++ [(sk,x)]) (cs++ [(sk,cx)]):=by
      show Row _ _ _ _ _ _ _ _
      rw [flat_snoc,List.length_append,List.length_singleton]
      exact hpush
    exact hr2.set (PF.closed _ _) (by omega)
theorem LF.text {w wr w3:World} {rb vb:Nat} {d:Int} {k kd:Nat} {q:List UInt8} {j:Nat} {a:Option Addr} {m c:Nat} {xs:List (ByteArray×V)} {cs:List (ByteArray×VC)} {rj rc r3:List UInt8} (h:LF w wr rb vb d k kd q j a m c xs cs rj rc) (hS:RStep wr w3 rb) (hR:Rdr w3 rb r3 (d+1)):LF w w3 rb vb d k kd q j a m c xs cs rj r3:=by
  have hlo:=h.lo
  have hlt:=h.box.lt
  exact ⟨h.rd,h.len,h.cen,h.box.next hS hR,h.vb_.next hS (by omega),h.row.later (PF.closed xs cs) hS (by omega),hlo⟩
end Go.Proofs.YtgcfhkceejcliaaGreatDoor
namespace Go.Proofs.YtgcfhkceejcliaaGreatDoor
open Go.RowKit
end Go.Proofs.YtgcfhkceejcliaaGreatDoor
namespace Go.Proofs.YtgcfhkceejcliaaGreatDoor
open Go.RowKit
theorem isVal_with {w:World} {B:Nat} {k:Int} {l:List V} {o:List (ByteArray×V)} {c:VC} (h:IsVal w B (.mk k 0 .empty l o) c) (n:Int) (s:ByteArray) (hn0: -9223372036854775808≤n) (hn1:n≤9223372036854775807) (hs:s.size≤140737488355328):IsVal w B (.mk k n s l o) ⟨c.k,n,s,c.la,c.ll,c.lc,c.oa,c.ol,c.oc⟩:=by
  obtain ⟨v,hv⟩:∃v,(V.mk k 0 .empty l o)=v:=⟨_,rfl⟩
  rw [hv] at h
  cases h with
  | mk c l2 o2 cl co lb lo ob oo hbd hl ho hla hoa hlc hlv hoc hov=>
    injection hv with e1 e2 e3 e4 e5
    subst e4 e5
    rw [e1]
    exact .mk ⟨c.k,n,s,c.la,c.ll,c.lc,c.oa,c.ol,c.oc⟩ l o cl co lb lo ob oo ⟨hbd.k0,hbd.k1,hn0,hn1,hs,hbd.l1,hbd.l2,hbd.l3,hbd.o1,hbd.o2,hbd.o3⟩ hl ho hla hoa hlc hlv hoc hov
theorem isVal_str {w:World} {B:Nat} {v:V} {c:VC} (h:IsVal w B v c):v.str=c.s∧c.s.size≤140737488355328:=by
  cases h with
  |mk c l o cl co lb lo ob oo hbd=>exact ⟨rfl,hbd.s1⟩
structure QR (w wr:World) (t:Tk) (c:VC):Prop where
  res:BC wr w.heap.size [.int .u8 0, .int .i64 0, .string { data:= #[] }, .slice none 0 0, .slice none 0 0]
  tok:BC wr (w.heap.size+1) [.int .u8 t.k, .int .i64 t.n, .string t.s, .int .u8 t.m]
  val:BC wr (w.heap.size+2) (vcells c)
  below:Below w.heap.size w wr
theorem QR.next {w wr W:World} {t:Tk} {c:VC} (h:QR w wr t c) (hb:Below wr.heap.size wr W):QR w W t c:=
  ⟨h.res.keep hb h.res.lt,h.tok.keep hb h.tok.lt,h.val.keep hb h.val.lt,h.below.trans (hb.mono (Nat.le_of_lt h.res.lt))⟩
theorem QR.below_ {w wr W:World} {t:Tk} {c:VC} (h:QR w wr t c) {B:Nat} (hb:Below B wr W) (hB:w.heap.size+3≤B):QR w W t c:=
  ⟨h.res.keep hb (by omega),h.tok.keep hb (by omega),h.val.keep hb (by omega),h.below.trans (hb.mono (by omega))⟩
theorem QR.start (w:World) (t:Tk) (t1 t2 t3:TypeId) (W:World) (hW:W=((w.alloc (.cells #[.int .u8 0, .int .i64 0, .string { data:= #[] }, .slice none 0 0, .slice none 0 0] t1)).alloc (.cells #[.int .u8 t.k, .int .i64 t.n, .string t.s, .int .u8 t.m] t2)).alloc (.cells #[.int .u8 t.k, .int .i64 t.n, .string t.s, .slice none 0 0, .slice none 0 0] t3)):
    QR w W t ⟨t.k,t.n,t.s,none,0,0,none,0,0⟩∧W.heap.size=w.heap.size+3:=by
  obtain ⟨w1,hw1⟩:∃w1,w.alloc (.cells #[.int .u8 0, .int .i64 0, .string { data:= #[] }, .slice none 0 0, .slice none 0 0] t1)=w1:=⟨_,rfl⟩
  have s1:w1.heap.size=w.heap.size+1:=by rw [←hw1,World.size_alloc]
  have b1:Below w.heap.size w w1:=by rw [←hw1];exact (Below.refl _ _).alloc (Nat.le_refl _) _
  have c1:BC w1 w.heap.size [.int .u8 0, .int .i64 0, .string { data:= #[] }, .slice none 0 0, .slice none 0 0] :=by rw [←hw1];exact BC.start w #[.int .u8 0, .int .i64 0, .string { data:= #[] }, .slice none 0 0, .slice none 0 0] t1
  rw [hw1] at hW
  obtain ⟨w2,hw2⟩:∃w2,w1.alloc (.cells #[.int .u8 t.k, .int .i64 t.n, .string t.s, .int .u8 t.m] t2)=w2:=⟨_,rfl⟩
  have s2:w2.heap.size=w.heap.size+2:=by rw [←hw2,World.size_alloc,s1]
  have b2:Below w1.heap.size w1 w2:=by rw [←hw2];exact (Below.refl _ _).alloc (Nat.le_refl _) _
  have c2:=BC.start w1 #[.int .u8 t.k, .int .i64 t.n, .string t.s, .int .u8 t.m] t2
  rw [hw2,s1] at c2
  rw [hw2] at hW
  subst hW
  have b3:Below w2.heap.size w2 (w2.alloc (.cells #[.int .u8 t.k, .int .i64 t.n, .string t.s, .slice none 0 0, .slice none 0 0] t3)):=(Below.refl _ _).alloc (Nat.le_refl _) _
  have c3:=BC.start w2 #[.int .u8 t.k, .int .i64 t.n, .string t.s, .slice none 0 0, .slice none 0 0] t3
  rw [s2] at c3
  exact ⟨⟨(c1.keep b2 (by omega)).keep b3 (by omega),c2.keep b3 (by omega),c3,(b1.trans (b2.mono (by omega))).trans (b3.mono (by omega))⟩,by rw [World.size_alloc,s2]⟩
def RawPost (w:World) (r:V×Nat) (e:Ending) (w':World):Prop:=
  (∃c:VC,e= .returned (.tuple #[.agg #[.int .u8 c.k, .int .i64 c.n, .string c.s, .slice c.la c.ll c.lc, .slice c.oa c.ol c.oc], .int .i64 (r.2:Int)])∧IsVal (only (fun b=>w.heap.size≤b) w') w'.heap.size r.1 c)∧Below w.heap.size w w'
theorem results_raw {tmps:Array Value} {W:World} {b:Nat} {c:VC} {x:Value} (ht:tmps[4]? =some (.pointer (some ⟨b,0,none⟩))) (ht':tmps[5]? =some x) (h:BC W b (vcells c)):
    (results Tryz.f40 tmps).run Tryz.prog W= .ok (.tuple #[.agg #[.int .u8 c.k, .int .i64 c.n, .string c.s, .slice c.la c.ll c.lc, .slice c.oa c.ol c.oc],x]) W:=by
  obtain ⟨r0,r1,r2,r3,r4⟩:=(⟨h.at_ 0 _ rfl,h.at_ 1 _ rfl,h.at_ 2 _ rfl,h.at_ 3 _ rfl,h.at_ 4 _ rfl⟩:W.cell? ⟨b,0,none⟩=some (.int .u8 c.k)∧W.cell? ⟨b,1,none⟩=some (.int .i64 c.n)∧W.cell? ⟨b,2,none⟩=some (.string c.s)∧W.cell? ⟨b,3,none⟩=some (.slice c.la c.ll c.lc)∧W.cell? ⟨b,4,none⟩=some (.slice c.oa c.ol c.oc))
  simp [results,Tryz.results40,go_sem,ht,ht',r0,r1,r2,r3,r4]
theorem raw_leave {w W:World} {c:VC} {r:V×Nat} {a:Act} (h:BC W w.heap.size (vcells c)) (hb:Below w.heap.size w W) (hv:IsVal (only (fun b=>w.heap.size≤b) W) W.heap.size r.1 c) (hd:a.defers= []) (ht:a.tmps[4]? =some (.pointer (some ⟨w.heap.size,0,none⟩))) (ht':a.tmps[5]? =some (.int .i64 (r.2:Int))):
    bodyPost Tryz.prog Tryz.f40 (RawPost w r) .ret a W:=
  ⟨hd,_,results_raw ht ht' h,⟨c,rfl,hv⟩,hb⟩
theorem QR.stored {w W:World} {t:Tk} {c0:VC} (h:QR w W t c0) (c:VC):BC (((((W.setCell ⟨w.heap.size,0,none⟩ (.int .u8 c.k)).setCell ⟨w.heap.size,1,none⟩ (.int .i64 c.n)).setCell ⟨w.heap.size,2,none⟩ (.string c.s)).setCell ⟨w.heap.size,3,none⟩ (.slice c.la c.ll c.lc)).setCell ⟨w.heap.size,4,none⟩ (.slice c.oa c.ol c.oc)) w.heap.size (vcells c)∧Below w.heap.size w (((((W.setCell ⟨w.heap.size,0,none⟩ (.int .u8 c.k)).setCell ⟨w.heap.size,1,none⟩ (.int .i64 c.n)).setCell ⟨w.heap.size,2,none⟩ (.string c.s)).setCell ⟨w.heap.size,3,none⟩ (.slice c.la c.ll c.lc)).setCell ⟨w.heap.size,4,none⟩ (.slice c.oa c.ol c.oc))∧RStep W (((((W.setCell ⟨w.heap.size,0,none⟩ (.int .u8 c.k)).setCell ⟨w.heap.size,1,none⟩ (.int .i64 c.n)).setCell ⟨w.heap.size,2,none⟩ (.string c.s)).setCell ⟨w.heap.size,3,none⟩ (.slice c.la c.ll c.lc)).setCell ⟨w.heap.size,4,none⟩ (.slice c.oa c.ol c.oc)) w.heap.size:=by
  have s1:RStep W (((((W.setCell ⟨w.heap.size,0,none⟩ (.int .u8 c.k)).setCell ⟨w.heap.size,1,none⟩ (.int .i64 c.n)).setCell ⟨w.heap.size,2,none⟩ (.string c.s)).setCell ⟨w.heap.size,3,none⟩ (.slice c.la c.ll c.lc)).setCell ⟨w.heap.size,4,none⟩ (.slice c.oa c.ol c.oc)) w.heap.size:=(((RStep.self.trans RStep.self).trans RStep.self).trans RStep.self).trans RStep.self
  refine ⟨((((h.res.set (i:=0) (x:= .int .u8 c.k) (by simp)).set (i:=1) (x:= .int .i64 c.n) (by simp)).set (i:=2) (x:= .string c.s) (by simp)).set (i:=3) (x:= .slice c.la c.ll c.lc) (by simp)).set (i:=4) (x:= .slice c.oa c.ol c.oc) (by simp),h.below.trans (s1.below (Nat.le_of_lt h.res.lt)),s1⟩
structure RLL (w wr:World) (d:Nat) (l:List Tk) (t:Tk) (j:Nat) (a:Option Addr) (m c:Nat) (xs:List V) (cs:List VC) (u:Nat):Prop where
  rd:fR (rawP d) l j=(xs,u,false)
  len:xs.length=j
  cen:cs.length=j
  box:QR w wr t ⟨t.k,t.n,t.s,a,m,c,none,0,0⟩
  row:RowV wr (w.heap.size+3) (.slice a m c) xs cs
theorem RLL.round {w wr w4 w6 w7:World} {d:Nat} {l:List Tk} {t:Tk} {j:Nat} {a:Option Addr} {m c:Nat} {xs:List V} {cs:List VC} {u:Nat} {x:V} {q:Nat} {cx:VC} {g cap:Nat}
    (h:RLL w wr d l t j a m c xs cs u) (hx:rawP d (l.drop u)=(x,q)) (hq:q≠0) (hb4:Below wr.heap.size wr w4) (hI:IsVal (only (fun b=>wr.heap.size≤b) w4) w4.heap.size x cx) (hb6:Below w4.heap.size w4 w6)
    (hown:w7.ownsRow (w.heap.size+3) 33 5 (.slice (some ⟨g,0,none⟩) (j+1) cap) (j+1) (cs.flatMap vcells++vcells cx)) (hg:w6.grownBy w7 (Value.slice a m c).ownBlock)
    (hat:(Value.slice a m c).ownBlock=some g∨w4.heap.size≤g):
    RLL w (w7.setCell ⟨w.heap.size+2,3,none⟩ (.slice (some ⟨g,0,none⟩) (j+1) cap)) d l t (j+1) (some ⟨g,0,none⟩) (j+1) cap (xs++ [x]) (cs++ [cx]) (u+q):=by
  have hrow:=h.row.later (PV.closed xs cs) (.of_below 0 hb4) (by omega)
  have hrlt:∀b,(Value.slice a m c).ownBlock=some b→w.heap.size+3≤b∧b<wr.heap.size:=h.row.lt
  have hsz:=h.box.val.lt
  have hsz4:=hb4.size
  have hsz6:=hb6.size
  have hgb:Below (w.heap.size+3) w6 w7:=grown_below hg (fun b hb=>(hrlt b hb).1) (by omega)
  have hb67:Below (w.heap.size+3) w4 w7:=(hb6.mono (by omega)).trans hgb
  obtain ⟨s1,s2⟩:=PV.snoc (l:=xs) (cs:=cs) (by rw [h.len,h.cen]) x cx
  have hnew:PV (xs++ [x]) (cs++ [cx]) (only (Free (w.heap.size+3) (.slice a m c)) w4) w4.heap.size xs.length:=s1 _ _ (hI.sub (shows_step fun b hb _=>⟨⟨by omega,fun e=>by have:=(hrlt b e.symm).2;omega⟩,rfl⟩))
  have hpush:=Row.push (PV.closed (xs++ [x]) (cs++ [cx])) hrow hb6 hg (u':= .slice (some ⟨g,0,none⟩) (j+1) cap) (news:=vcells cx) (by rw [h.len];exact hown) (by
    rcases hat with e|e
    · left;rw [e];rfl
    · right;intro b hb;have:g=b:=by simpa [Value.ownBlock] using hb
      omega) hnew s2
  have hbox:=(h.box.next hb4).below_ hb67 (Nat.le_refl _)
  refine ⟨?_,by simp [h.len],by simp [h.cen], ?_, ?_⟩
  · rw [fR,if_neg (by rw [h.rd];simp),h.rd]
    dsimp only
    rw [hx,if_neg hq]
  · exact ⟨hbox.res.far (by omega),hbox.tok.far (by omega),hbox.val.set (i:=3) (x:= .slice (some ⟨g,0,none⟩) (j+1) cap) (by simp [vcells]),hbox.below.trans ((RStep.self (b:=w.heap.size+2) (o:=3)).below (by have:=hbox.val.lt;omega)|>.mono (by omega))⟩
  · have hr2:RowV w7 (w.heap.size+3) (.slice (some ⟨g,0,none⟩) (j+1) cap) (xs++ [x]) (cs++ [cx]):=by
      show Row _ _ _ _ _ _ _ _
      rw [flat_snoc,List.length_append,List.length_singleton]
      exact hpush
    exact hr2.set (PV.closed (xs++ [x]) (cs++ [cx])) (by omega)
def fld (xs:List V):List (ByteArray×V):=xs.map fun x=>(x.str,x)
def fldc (cs:List VC):List (ByteArray×VC):=cs.map fun c=>(c.s,c)
theorem fld_snoc (xs:List V) (x:V):fld (xs++ [x])=fld xs++ [(x.str,x)] :=by simp [fld]
theorem fldc_snoc (cs:List VC) (c:VC):fldc (cs++ [c])=fldc cs++ [(c.s,c)] :=by simp [fldc]
structure RLO (w wr:World) (d:Nat) (l:List Tk) (t:Tk) (j:Nat) (a:Option Addr) (m c:Nat) (xs:List V) (cs:List VC) (u:Nat):Prop where
  rd:fR (rawP d) l j=(xs,u,false)
  len:xs.length=j
  cen:cs.length=j
  box:QR w wr t ⟨t.k,t.n,t.s,none,0,0,a,m,c⟩
  row:RowF wr (w.heap.size+3) (.slice a m c) (fld xs) (fldc cs)
theorem RLO.round {w wr w4 w6 w7:World} {d:Nat} {l:List Tk} {t:Tk} {j:Nat} {a:Option Addr} {m c:Nat} {xs:List V} {cs:List VC} {u:Nat} {x:V} {q:Nat} {cx:VC} {g cap:Nat}
    (h:RLO w wr d l t j a m c xs cs u) (hx:rawP d (l.drop u)=(x,q)) (hq:q≠0) (hb4:Below wr.heap.size wr w4) (hI:IsVal (only (fun b=>wr.heap.size≤b) w4) w4.heap.size x cx) (hb6:Below w4.heap.size w4 w6)
    (hown:w7.ownsRow (w.heap.size+3) 98 6 (.slice (some ⟨g,0,none⟩) (j+1) cap) (j+1) ((fldc cs).flatMap fcells++fcells (cx.s,cx))) (hg:w6.grownBy w7 (Value.slice a m c).ownBlock)
    (hat:(Value.slice a m c).ownBlock=some g∨w4.heap.size≤g):
    RLO w (w7.setCell ⟨w.heap.size+2,4,none⟩ (.slice (some ⟨g,0,none⟩) (j+1) cap)) d l t (j+1) (some ⟨g,0,none⟩) (j+1) cap (xs++ [x]) (cs++ [cx]) (u+q):=by
  have hrow:=h.row.later (PF.closed (fld xs) (fldc cs)) (.of_below 0 hb4) (by omega)
  have hrlt:∀b,(Value.slice a m c).ownBlock=some b→w.heap.size+3≤b∧b<wr.heap.size:=h.row.lt
  have hsz:=h.box.val.lt
  have hsz4:=hb4.size
  have hsz6:=hb6.size
  have hgb:Below (w.heap.size+3) w6 w7:=grown_below hg (fun b hb=>(hrlt b hb).1) (by omega)
  have hb67:Below (w.heap.size+3) w4 w7:=(hb6.mono (by omega)).trans hgb
  obtain ⟨s1,s2⟩:=PF.snoc (l:=fld xs) (cs:=fldc cs) (by simp [fld,fldc,h.len,h.cen]) cx.s (isVal_str hI).2 x cx
  have hnew:PF (fld xs++ [(cx.s,x)]) (fldc cs++ [(cx.s,cx)]) (only (Free (w.heap.size+3) (.slice a m c)) w4) w4.heap.size (fld xs).length:=s1 _ _ (hI.sub (shows_step fun b hb _=>⟨⟨by omega,fun e=>by have:=(hrlt b e.symm).2;omega⟩,rfl⟩))
  have hpush:=Row.push (PF.closed (fld xs++ [(cx.s,x)]) (fldc cs++ [(cx.s,cx)])) hrow hb6 hg (u':= .slice (some ⟨g,0,none⟩) (j+1) cap) (news:=fcells (cx.s,cx)) (by rw [show (fld xs).length=j by simp [fld,h.len]];exact hown) (by
    rcases hat with e|e
    · left;rw [e];rfl
    · right;intro b hb;have:g=b:=by simpa [Value.ownBlock] using hb
      omega) hnew s2
  have hbox:=(h.box.next hb4).below_ hb67 (Nat.le_refl _)
  refine ⟨?_,by simp [h.len],by simp [h.cen], ?_, ?_⟩
  · rw [fR,if_neg (by rw [h.rd];simp),h.rd]
    dsimp only
    rw [hx,if_neg hq]
  · exact ⟨hbox.res.far (by omega),hbox.tok.far (by omega),hbox.val.set (i:=4) (x:= .slice (some ⟨g,0,none⟩) (j+1) cap) (by simp [vcells]),hbox.below.trans ((RStep.self (b:=w.heap.size+2) (o:=4)).below (by have:=hbox.val.lt;omega)|>.mono (by omega))⟩
  · have hr2:RowF w7 (w.heap.size+3) (.slice (some ⟨g,0,none⟩) (j+1) cap) (fld (xs++ [x])) (fldc (cs++ [cx])):=by
      show Row _ _ _ _ _ _ _ _
      rw [fld_snoc,fldc_snoc,(isVal_str hI).1,flat_snoc,List.length_append,List.length_singleton]
      exact hpush
    exact hr2.set (PF.closed _ _) (by omega)
end Go.Proofs.YtgcfhkceejcliaaGreatDoor
namespace Go.Proofs.YtgcfhkceejcliaaGreatDoor
open Go.RowKit
set_option maxHeartbeats 8000000 in
set_option maxRecDepth 100000 in
theorem raw_list (w:World) (dd:Int) (hd0:0≤dd) (hd:dd≤19) (d:Nat) (t:Tk) (r:List Tk) (a:Option Addr) (n c:Nat) (h:IsToks w w.heap.size (t::r) a n c) (IH:∀(W:World) (l:List Tk) (a:Option Addr) (n c:Nat),IsToks W W.heap.size l a n c→Calls Tryz.prog 40 #[.slice a n c, .int .i64 (dd+1)] W (RawPost W (rawP d l))) (hk:t.k % 2=0):
    Calls Tryz.prog 40 #[.slice a n c, .int .i64 dd] w (RawPost w (rawP (d+1) (t::r))):=by
  obtain ⟨i0,hi0,hz0,hz1,hz2⟩:=info_parts ginfoV
  have hw1:IntKind.i64.wrap (dd+1)=dd+1:=IntWalk.i64_in _ (by omega)
  obtain ⟨b,o,hp,rfl,hb,htk,hbd⟩:=h.get (k:=0) (by have:=h.len;rw [this];simp)
  have ht:TkAt w b o t:=by simpa using htk
  replace hbd:t.Bnd:=by simpa using hbd
  have c0:=ht.c0;have c1:=ht.c1;have c2:=ht.c2;have c3:=ht.c3
  have b0:=hbd.k0;have b1:=hbd.k1;have b2:=hbd.m0;have b3:=hbd.m1
  have hlen:=h.len
  have hcap:=h.cap
  have hmax:=h.max
  have hnp:0<n:=by rw [hlen];simp
  have hne:((n:Int)==0)=false:=by simp;omega
  obtain ⟨K,hK⟩:∃K:Nat,(t.m % 4).toNat=K:=⟨_,rfl⟩
  have hK1:t.m % 4=(K:Int):=by omega
  have hK2:Int.tmod t.m 4=(K:Int):=by rw [Int.tmod_eq_emod_of_nonneg b2];exact hK1
  have hK3:K≤3:=by omega
  have HI:=Lib.hid h
  have HQR:=Lib.hid (QR.start w t 33 51 33)
  have HBD:=Lib.hid hbd
  have IHH:=Lib.hid IH
  have HLEN:=Lib.hid hlen
  have HKK:=Lib.hid hK
  clear h ht htk hp hbd IH hlen hK
  have hk2:Int.tmod t.k 2=0:=by rw [Int.tmod_eq_emod_of_nonneg b0];exact hk
  have HK:=Lib.hid hk
  clear hk
  go_enter Tryz.func40,Tryz.ntmps40
  generalize hQ0:bodyPost _ _ _=Q0
  have HQ:=Lib.hid hQ0
  clear hQ0
  go_wp2_with fail
  go_loopw [8,9,10,11] (fun u i _ _ wr=>∃(j:Nat) (a':Option Addr) (m c':Nat) (xs:List V) (cs:List VC) (un:Nat),j≤K∧u= .int .i64 un∧i= .int .u8 j∧RLL w wr d (t::r) t j a' m c' xs cs un) (fun _ i _ _ _=>K - (intOf i).toNat)
  case atStart=>exact ⟨0,none,0,0, [], [],1,Nat.zero_le _,rfl,rfl,⟨rfl,rfl,rfl,(HQR.out _ rfl).1,Row.nil _ _ _ _ _⟩⟩
  case round=>
    obtain ⟨j,a',m,c',xs,cs,un,hj,rfl,rfl,L⟩:=hrel
    have k0:=L.box.tok.at_ 0 _ rfl;have k3:=L.box.tok.at_ 3 _ rfl
    obtain ⟨v0,v1,v2,v3,v4⟩:=row5 L.box.val.at_
    have p0:=L.box.val.fr 3
    obtain ⟨r0,r1,r2,r3,r4⟩:=row5 L.box.res.at_
    have g0:=L.box.res.fr 0;have g1:=L.box.res.fr 1;have g2:=L.box.res.fr 2;have g3:=L.box.res.fr 3;have g4:=L.box.res.fr 4
    have zs2:=L.box.val.lt;have zs1:=L.box.tok.lt;have zs0:=L.box.res.lt
    obtain ⟨hu1,hu2,_⟩:1≤un∧un≤n∧True:=by
      have:=fR_used (rawP_used d) (l:=t::r) (by simp) j
      rw [L.rd] at this
      exact ⟨this.1,by rw [HLEN.out];exact this.2.1,trivial⟩
    by_cases hlt:j<K
    · have hz9:c=un→n - un=0:=by omega
      obtain ⟨⟨x,q⟩,hx⟩:∃p,rawP d ((t::r).drop un)=p:=⟨_,rfl⟩
      have hq2:un+q≤n:=by have:=rawP_used d ((t::r).drop un);rw [hx,List.length_drop] at this;have:=HLEN.out;dsimp only at*;omega
      have HX:=Lib.hid hx
      have HIW:=(HI.out.later_ L.box.below).drop un hu2
      have HC:Hid (Calls Tryz.prog 40 #[if c=un then .slice (some ⟨b,o,none⟩) 0 0 else .slice (some ⟨b,o+un*4,none⟩) (n - un) (c - un), .int .i64 (dd+1)] wr (RawPost wr (x,q))):=by
        unfold Hid
        rw [←HX.out]
        by_cases hc:c=un
        · rw [if_pos hc];exact IHH.out wr _ _ _ _ (HIW.none_left (hz9 hc))
        · rw [if_neg hc];rw [Option.map_some,add_at] at HIW;exact IHH.out wr _ _ _ _ HIW
      have LL:=Lib.hid L
      clear L HIW hx
      by_cases hc:c=un
      · rw [if_pos hc] at HC
        have hz:=hz9 hc
        clear hz9
        subst hc
        go_wp2_with fail
        refine (HC.out).mono ?_
        rintro e w4 ⟨⟨cx,rfl,hI4⟩,hb4⟩
        have L:=LL.out
        have B4:=L.box.next hb4
        have k0:=B4.tok.at_ 0 _ rfl;have k3:=B4.tok.at_ 3 _ rfl
        obtain ⟨v0,v1,v2,v3,v4⟩:=row5 B4.val.at_
        have p0:=B4.val.fr 3
        obtain ⟨r0,r1,r2,r3,r4⟩:=row5 B4.res.at_
        have g0:=B4.res.fr 0;have g1:=B4.res.fr 1;have g2:=B4.res.fr 2;have g3:=B4.res.fr 3;have g4:=B4.res.fr 4
        have zt2:=B4.val.lt;have zt1:=B4.tok.lt;have zt0:=B4.res.lt
        have hrow:RowV w4 (w.heap.size+3) (.slice a' m c') xs cs:=L.row.later (PV.closed xs cs) (.of_below 0 hb4) (by omega)
        by_cases hq:q=0
        · subst hq
          have hs1:fR (rawP d) (t::r) (j+1)=(xs,c,true):=by rw [fR,if_neg (by rw [L.rd];simp),L.rd];dsimp only;rw [HX.out,if_pos rfl]
          have hs2:=fR_stop (f:=rawP d) (l:=t::r) (j:=j+1) (n:=K) (by rw [hs1]) (by omega)
          have hR:rawP (d+1) (t::r)=(.mk t.k t.n t.s xs [],c):=by
            rw [rawP,HKK.out,hs2,hs1];dsimp only;congr 1;rw [rawV,if_pos HK.out]
          have hv:=isVal_with (RowV.val hrow (lo:=w.heap.size+3) (by rw [L.len,L.cen]) (Nat.le_refl _) t.k b0 b1 (by rw [L.len];omega)) t.n t.s HBD.out.n0 HBD.out.n1 HBD.out.s1
          have HV:=Lib.hid hv
          clear hv
          have LB:=Lib.hid B4
          have HR:=Lib.hid hR
          clear L B4 hrow hs1 hs2 hR hI4 hb4
          go_wp2_with fail
          have hR:=HR.out
          have ST:=LB.out.stored ⟨t.k,t.n,t.s,a',m,c',none,0,0⟩
          rw [←HQ.out,hR]
          exact raw_leave (c:=⟨t.k,t.n,t.s,a',m,c',none,0,0⟩) (ST.1.keep ((Below.refl _ _).alloc (Nat.le_refl _) _) ST.1.lt) (ST.2.1.alloc ST.2.1.size _) (((isVal_far HV.out ST.2.2 (by omega)).sub (shows_step (S':=fun b=>w.heap.size≤b) fun k hk hl=>⟨by omega,((Below.refl _ _).alloc (Nat.le_refl _) _:Below _ _ _).block k hl⟩)).more (by simp)) rfl rfl rfl
        · exfalso;apply hq
          have h0:=HX.out
          rw [List.drop_eq_nil_of_le (by have:=HLEN.out;omega)] at h0
          cases d<;>(rw [rawP] at h0;injection h0 with h1 h2;exact h2.symm)
      · rw [if_neg hc] at HC
        have huc:un<c:=by omega
        clear hz9 hc
        go_wp2_with fail
        refine (HC.out).mono ?_
        rintro e w4 ⟨⟨cx,rfl,hI4⟩,hb4⟩
        have L:=LL.out
        have B4:=L.box.next hb4
        have k0:=B4.tok.at_ 0 _ rfl;have k3:=B4.tok.at_ 3 _ rfl
        obtain ⟨v0,v1,v2,v3,v4⟩:=row5 B4.val.at_
        have p0:=B4.val.fr 3
        obtain ⟨r0,r1,r2,r3,r4⟩:=row5 B4.res.at_
        have g0:=B4.res.fr 0;have g1:=B4.res.fr 1;have g2:=B4.res.fr 2;have g3:=B4.res.fr 3;have g4:=B4.res.fr 4
        have zt2:=B4.val.lt;have zt1:=B4.tok.lt;have zt0:=B4.res.lt
        have hrow:RowV w4 (w.heap.size+3) (.slice a' m c') xs cs:=L.row.later (PV.closed xs cs) (.of_below 0 hb4) (by omega)
        by_cases hq:q=0
        · subst hq
          have hs1:fR (rawP d) (t::r) (j+1)=(xs,un,true):=by rw [fR,if_neg (by rw [L.rd];simp),L.rd];dsimp only;rw [HX.out,if_pos rfl]
          have hs2:=fR_stop (f:=rawP d) (l:=t::r) (j:=j+1) (n:=K) (by rw [hs1]) (by omega)
          have hR:rawP (d+1) (t::r)=(.mk t.k t.n t.s xs [],un):=by
            rw [rawP,HKK.out,hs2,hs1];dsimp only;congr 1;rw [rawV,if_pos HK.out]
          have hv:=isVal_with (RowV.val hrow (lo:=w.heap.size+3) (by rw [L.len,L.cen]) (Nat.le_refl _) t.k b0 b1 (by rw [L.len];omega)) t.n t.s HBD.out.n0 HBD.out.n1 HBD.out.s1
          have HV:=Lib.hid hv
          clear hv
          have LB:=Lib.hid B4
          have HR:=Lib.hid hR
          clear L B4 hrow hs1 hs2 hR hI4 hb4
          go_wp2_with fail
          have hR:=HR.out
          have ST:=LB.out.stored ⟨t.k,t.n,t.s,a',m,c',none,0,0⟩
          rw [←HQ.out,hR]
          exact raw_leave (c:=⟨t.k,t.n,t.s,a',m,c',none,0,0⟩) (ST.1.keep ((Below.refl _ _).alloc (Nat.le_refl _) _) ST.1.lt) (ST.2.1.alloc ST.2.1.size _) (((isVal_far HV.out ST.2.2 (by omega)).sub (shows_step (S':=fun b=>w.heap.size≤b) fun k hk hl=>⟨by omega,((Below.refl _ _).alloc (Nat.le_refl _) _:Below _ _ _).block k hl⟩)).more (by simp)) rfl rfl rfl
        · have hqn:((q:Int)==0)=false:=by simp;omega
          have hne2:(Value.slice a' m c').ownBlock≠some (w.heap.size+2):=fun e=>by have:=(L.row.lt _ e).1;omega
          have ho4:=hrow.own
          rw [L.len] at ho4
          have hu3:(un:Int)+q≤9223372036854775807:=by omega
          have HI4:=Lib.hid hI4
          have HB4:=Lib.hid hb4
          have hnw:∀jj u,(vcells cx)[jj]? =some u→((w4.alloc (.cells #[.int .u8 cx.k, .int .i64 cx.n, .string cx.s, .slice cx.la cx.ll cx.lc, .slice cx.oa cx.ol cx.oc] 33)).alloc (.cells #[.int .u8 cx.k, .int .i64 cx.n, .string cx.s, .slice cx.la cx.ll cx.lc, .slice cx.oa cx.ol cx.oc] 33)).cell? ((⟨w4.heap.size+1,0,none⟩:Addr).add jj)=some u:=by
            have:=World.news_of_block (t:=33) (fr:=(0,0)) (heap_alloc_new (w4.alloc (.cells #[.int .u8 cx.k, .int .i64 cx.n, .string cx.s, .slice cx.la cx.ll cx.lc, .slice cx.oa cx.ol cx.oc] 33)) (.cells #[.int .u8 cx.k, .int .i64 cx.n, .string cx.s, .slice cx.la cx.ll cx.lc, .slice cx.oa cx.ol cx.oc] 33))
            intro jj u hu
            simpa using this jj u (by simpa [vcells] using hu)
          have HNW:=Lib.hid hnw
          have HB44:=Lib.hid B4
          clear L B4 hrow hI4 hb4 hnw
          go_wp2_with (at_builtin;refine wpList_append_lies _ rfl (.tmp 53) (.tmp 55) 30 (by rfl) (w.heap.size+3) 33 i0 _ 5 80 Tryz.underlying30 hi0 hz0 hz1 hz2 rfl (by omega) (.slice a' m c') j (cs.flatMap vcells) (by rfl) ((ho4.alloc _).alloc _) ⟨w4.heap.size+1,0,none⟩ 1 1 (vcells cx) (by rfl) (by rfl) HNW.out (by simp [vcells,Value.oneCell']) (by omega) (by unfold maxLen;omega) (by omega) (by simp;omega) (w4.heap.size+1+1) (by simp) ?_;intro g cap w7 hown7 hgrow7 hat7 hlt7;have hc7:w7.cell? ⟨w.heap.size+2,3,none⟩=some (.slice a' m c'):=(hgrow7.cell_far ⟨w.heap.size+2,3,none⟩ (by simp;omega) (Ne.symm hne2)).trans (keep_cell ((Below.refl _ _).alloc (by simp) _) (keep_cell ((Below.refl _ _).alloc (Nat.le_refl _) _) (HB44.out.val.at_ 3 _ rfl) zt2) zt2);have hf7:w7.frozen? ⟨w.heap.size+2,3,none⟩=false:=(hgrow7.frozen_far ⟨w.heap.size+2,3,none⟩ (by simp;omega) (Ne.symm hne2)).trans ((((Below.refl _ _).alloc (by simp) _:Below w4.heap.size (w4.alloc _) ((w4.alloc _).alloc _)).frozen (p:=⟨w.heap.size+2,3,none⟩) zt2).trans ((((Below.refl _ _).alloc (Nat.le_refl _) _:Below w4.heap.size w4 (w4.alloc _)).frozen (p:=⟨w.heap.size+2,3,none⟩) zt2).trans (HB44.out.val.fr 3))))
          go_roundw
          case rel=>exact ⟨j+1,some ⟨g,0,none⟩,j+1,cap,xs++ [x],cs++ [cx],un+q,by omega,by go_num,by go_num,LL.out.round HX.out hq HB4.out HI4.out (((Below.refl _ _).alloc (Nat.le_refl _) _).alloc (by simp) _) hown7 hgrow7 (hat7.imp_right fun e=>by omega)⟩
          case measure=>simp [intOf];omega
    · have hjn:j=K:=by omega
      subst hjn
      have hR:rawP (d+1) (t::r)=(.mk t.k t.n t.s xs [],un):=by
        rw [rawP,HKK.out,L.rd];dsimp only;congr 1;rw [rawV,if_pos HK.out]
      have hv:=isVal_with (RowV.val L.row (lo:=w.heap.size+3) (by rw [L.len,L.cen]) (Nat.le_refl _) t.k b0 b1 (by rw [L.len];omega)) t.n t.s HBD.out.n0 HBD.out.n1 HBD.out.s1
      have HV:=Lib.hid hv
      clear hv
      have LB:=Lib.hid L.box
      clear L
      go_wp2_with fail
      have ST:=LB.out.stored ⟨t.k,t.n,t.s,a',m,c',none,0,0⟩
      rw [←HQ.out,hR]
      exact raw_leave (c:=⟨t.k,t.n,t.s,a',m,c',none,0,0⟩) ST.1 ST.2.1 ((isVal_far HV.out ST.2.2 (by omega)).sub (shows_step fun k hk _=>⟨by omega,rfl⟩)) rfl rfl rfl
set_option maxHeartbeats 8000000 in
set_option maxRecDepth 100000 in
theorem raw_obj (w:World) (dd:Int) (hd0:0≤dd) (hd:dd≤19) (d:Nat) (t:Tk) (r:List Tk) (a:Option Addr) (n c:Nat) (h:IsToks w w.heap.size (t::r) a n c) (IH:∀(W:World) (l:List Tk) (a:Option Addr) (n c:Nat),IsToks W W.heap.size l a n c→Calls Tryz.prog 40 #[.slice a n c, .int .i64 (dd+1)] W (RawPost W (rawP d l))) (hk:t.k % 2=1):
    Calls Tryz.prog 40 #[.slice a n c, .int .i64 dd] w (RawPost w (rawP (d+1) (t::r))):=by
  obtain ⟨i0,hi0,hz0,hz1,hz2⟩:=info_parts ginfoFR
  have hw1:IntKind.i64.wrap (dd+1)=dd+1:=IntWalk.i64_in _ (by omega)
  obtain ⟨b,o,hp,rfl,hb,htk,hbd⟩:=h.get (k:=0) (by have:=h.len;rw [this];simp)
  have ht:TkAt w b o t:=by simpa using htk
  replace hbd:t.Bnd:=by simpa using hbd
  have c0:=ht.c0;have c1:=ht.c1;have c2:=ht.c2;have c3:=ht.c3
  have b0:=hbd.k0;have b1:=hbd.k1;have b2:=hbd.m0;have b3:=hbd.m1
  have hlen:=h.len
  have hcap:=h.cap
  have hmax:=h.max
  have hnp:0<n:=by rw [hlen];simp
  have hne:((n:Int)==0)=false:=by simp;omega
  obtain ⟨K,hK⟩:∃K:Nat,(t.m % 4).toNat=K:=⟨_,rfl⟩
  have hK1:t.m % 4=(K:Int):=by omega
  have hK2:Int.tmod t.m 4=(K:Int):=by rw [Int.tmod_eq_emod_of_nonneg b2];exact hK1
  have hK3:K≤3:=by omega
  have HI:=Lib.hid h
  have HQR:=Lib.hid (QR.start w t 33 51 33)
  have HBD:=Lib.hid hbd
  have IHH:=Lib.hid IH
  have HLEN:=Lib.hid hlen
  have HKK:=Lib.hid hK
  clear h ht htk hp hbd IH hlen hK
  have hk2:Int.tmod t.k 2=1:=by rw [Int.tmod_eq_emod_of_nonneg b0];exact hk
  have HK:=Lib.hid hk
  clear hk
  go_enter Tryz.func40,Tryz.ntmps40
  generalize hQ0:bodyPost _ _ _=Q0
  have HQ:=Lib.hid hQ0
  clear hQ0
  go_wp2_with fail
  go_loopw [8,9,10,11] (fun u i _ _ wr=>∃(j:Nat) (a':Option Addr) (m c':Nat) (xs:List V) (cs:List VC) (un:Nat),j≤K∧u= .int .i64 un∧i= .int .u8 j∧RLO w wr d (t::r) t j a' m c' xs cs un) (fun _ i _ _ _=>K - (intOf i).toNat)
  case atStart=>exact ⟨0,none,0,0, [], [],1,Nat.zero_le _,rfl,rfl,⟨rfl,rfl,rfl,(HQR.out _ rfl).1,Row.nil _ _ _ _ _⟩⟩
  case round=>
    obtain ⟨j,a',m,c',xs,cs,un,hj,rfl,rfl,L⟩:=hrel
    have k0:=L.box.tok.at_ 0 _ rfl;have k3:=L.box.tok.at_ 3 _ rfl
    obtain ⟨v0,v1,v2,v3,v4⟩:=row5 L.box.val.at_
    have p0:=L.box.val.fr 4
    obtain ⟨r0,r1,r2,r3,r4⟩:=row5 L.box.res.at_
    have g0:=L.box.res.fr 0;have g1:=L.box.res.fr 1;have g2:=L.box.res.fr 2;have g3:=L.box.res.fr 3;have g4:=L.box.res.fr 4
    have zs2:=L.box.val.lt;have zs1:=L.box.tok.lt;have zs0:=L.box.res.lt
    obtain ⟨hu1,hu2,_⟩:1≤un∧un≤n∧True:=by
      have:=fR_used (rawP_used d) (l:=t::r) (by simp) j
      rw [L.rd] at this
      exact ⟨this.1,by rw [HLEN.out];exact this.2.1,trivial⟩
    by_cases hlt:j<K
    · have hz9:c=un→n - un=0:=by omega
      obtain ⟨⟨x,q⟩,hx⟩:∃p,rawP d ((t::r).drop un)=p:=⟨_,rfl⟩
      have hq2:un+q≤n:=by have:=rawP_used d ((t::r).drop un);rw [hx,List.length_drop] at this;have:=HLEN.out;dsimp only at*;omega
      have HX:=Lib.hid hx
      have HIW:=(HI.out.later_ L.box.below).drop un hu2
      have HC:Hid (Calls Tryz.prog 40 #[if c=un then .slice (some ⟨b,o,none⟩) 0 0 else .slice (some ⟨b,o+un*4,none⟩) (n - un) (c - un), .int .i64 (dd+1)] wr (RawPost wr (x,q))):=by
        unfold Hid
        rw [←HX.out]
        by_cases hc:c=un
        · rw [if_pos hc];exact IHH.out wr _ _ _ _ (HIW.none_left (hz9 hc))
        · rw [if_neg hc];rw [Option.map_some,add_at] at HIW;exact IHH.out wr _ _ _ _ HIW
      have LL:=Lib.hid L
      clear L HIW hx
      by_cases hc:c=un
      · rw [if_pos hc] at HC
        have hz:=hz9 hc
        clear hz9
        subst hc
        go_wp2_with fail
        refine (HC.out).mono ?_
        rintro e w4 ⟨⟨cx,rfl,hI4⟩,hb4⟩
        have L:=LL.out
        have B4:=L.box.next hb4
        have k0:=B4.tok.at_ 0 _ rfl;have k3:=B4.tok.at_ 3 _ rfl
        obtain ⟨v0,v1,v2,v3,v4⟩:=row5 B4.val.at_
        have p0:=B4.val.fr 4
        obtain ⟨r0,r1,r2,r3,r4⟩:=row5 B4.res.at_
        have g0:=B4.res.fr 0;have g1:=B4.res.fr 1;have g2:=B4.res.fr 2;have g3:=B4.res.fr 3;have g4:=B4.res.fr 4
        have zt2:=B4.val.lt;have zt1:=B4.tok.lt;have zt0:=B4.res.lt
        have hrow:RowF w4 (w.heap.size+3) (.slice a' m c') (fld xs) (fldc cs):=L.row.later (PF.closed (fld xs) (fldc cs)) (.of_below 0 hb4) (by omega)
        by_cases hq:q=0
        · subst hq
          have hs1:fR (rawP d) (t::r) (j+1)=(xs,c,true):=by rw [fR,if_neg (by rw [L.rd];simp),L.rd];dsimp only;rw [HX.out,if_pos rfl]
          have hs2:=fR_stop (f:=rawP d) (l:=t::r) (j:=j+1) (n:=K) (by rw [hs1]) (by omega)
          have hR:rawP (d+1) (t::r)=(.mk t.k t.n t.s [] (fld xs),c):=by
            rw [rawP,HKK.out,hs2,hs1];dsimp only;congr 1;rw [rawV,if_neg (by rw [HK.out];decide)];rfl
          have hv:=isVal_with (RowF.val hrow (lo:=w.heap.size+3) (by simp [fld,fldc,L.len,L.cen]) (Nat.le_refl _) t.k b0 b1 (by rw [show (fld xs).length=xs.length by simp [fld],L.len];omega)) t.n t.s HBD.out.n0 HBD.out.n1 HBD.out.s1
          have HV:=Lib.hid hv
          clear hv
          have LB:=Lib.hid B4
          have HR:=Lib.hid hR
          clear L B4 hrow hs1 hs2 hR hI4 hb4
          go_wp2_with fail
          have hR:=HR.out
          have ST:=LB.out.stored ⟨t.k,t.n,t.s,none,0,0,a',m,c'⟩
          rw [←HQ.out,hR]
          exact raw_leave (c:=⟨t.k,t.n,t.s,none,0,0,a',m,c'⟩) (ST.1.keep ((Below.refl _ _).alloc (Nat.le_refl _) _) ST.1.lt) (ST.2.1.alloc ST.2.1.size _) (((isVal_far HV.out ST.2.2 (by omega)).sub (shows_step (S':=fun b=>w.heap.size≤b) fun k hk hl=>⟨by omega,((Below.refl _ _).alloc (Nat.le_refl _) _:Below _ _ _).block k hl⟩)).more (by simp)) rfl rfl rfl
        · exfalso;apply hq
          have h0:=HX.out
          rw [List.drop_eq_nil_of_le (by have:=HLEN.out;omega)] at h0
          cases d<;>(rw [rawP] at h0;injection h0 with h1 h2;exact h2.symm)
      · rw [if_neg hc] at HC
        have huc:un<c:=by omega
        clear hz9 hc
        go_wp2_with fail
        refine (HC.out).mono ?_
        rintro e w4 ⟨⟨cx,rfl,hI4⟩,hb4⟩
        have L:=LL.out
        have B4:=L.box.next hb4
        have k0:=B4.tok.at_ 0 _ rfl;have k3:=B4.tok.at_ 3 _ rfl
        obtain ⟨v0,v1,v2,v3,v4⟩:=row5 B4.val.at_
        have p0:=B4.val.fr 4
        obtain ⟨r0,r1,r2,r3,r4⟩:=row5 B4.res.at_
        have g0:=B4.res.fr 0;have g1:=B4.res.fr 1;have g2:=B4.res.fr 2;have g3:=B4.res.fr 3;have g4:=B4.res.fr 4
        have zt2:=B4.val.lt;have zt1:=B4.tok.lt;have zt0:=B4.res.lt
        have hrow:RowF w4 (w.heap.size+3) (.slice a' m c') (fld xs) (fldc cs):=L.row.later (PF.closed (fld xs) (fldc cs)) (.of_below 0 hb4) (by omega)
        by_cases hq:q=0
        · subst hq
          have hs1:fR (rawP d) (t::r) (j+1)=(xs,un,true):=by rw [fR,if_neg (by rw [L.rd];simp),L.rd];dsimp only;rw [HX.out,if_pos rfl]
          have hs2:=fR_stop (f:=rawP d) (l:=t::r) (j:=j+1) (n:=K) (by rw [hs1]) (by omega)
          have hR:rawP (d+1) (t::r)=(.mk t.k t.n t.s [] (fld xs),un):=by
            rw [rawP,HKK.out,hs2,hs1];dsimp only;congr 1;rw [rawV,if_neg (by rw [HK.out];decide)];rfl
          have hv:=isVal_with (RowF.val hrow (lo:=w.heap.size+3) (by simp [fld,fldc,L.len,L.cen]) (Nat.le_refl _) t.k b0 b1 (by rw [show (fld xs).length=xs.length by simp [fld],L.len];omega)) t.n t.s HBD.out.n0 HBD.out.n1 HBD.out.s1
          have HV:=Lib.hid hv
          clear hv
          have LB:=Lib.hid B4
          have HR:=Lib.hid hR
          clear L B4 hrow hs1 hs2 hR hI4 hb4
          go_wp2_with fail
          have hR:=HR.out
          have ST:=LB.out.stored ⟨t.k,t.n,t.s,none,0,0,a',m,c'⟩
          rw [←HQ.out,hR]
          exact raw_leave (c:=⟨t.k,t.n,t.s,none,0,0,a',m,c'⟩) (ST.1.keep ((Below.refl _ _).alloc (Nat.le_refl _) _) ST.1.lt) (ST.2.1.alloc ST.2.1.size _) (((isVal_far HV.out ST.2.2 (by omega)).sub (shows_step (S':=fun b=>w.heap.size≤b) fun k hk hl=>⟨by omega,((Below.refl _ _).alloc (Nat.le_refl _) _:Below _ _ _).block k hl⟩)).more (by simp)) rfl rfl rfl
        · have hqn:((q:Int)==0)=false:=by simp;omega
          have hne2:(Value.slice a' m c').ownBlock≠some (w.heap.size+2):=fun e=>by have:=(L.row.lt _ e).1;omega
          have ho4:=hrow.own
          rw [show (fld xs).length=j by simp [fld,L.len]] at ho4
          have hu3:(un:Int)+q≤9223372036854775807:=by omega
          have HI4:=Lib.hid hI4
          have HB4:=Lib.hid hb4
          have hnw:∀jj u,(fcells (cx.s,cx))[jj]? =some u→((w4.alloc (.cells #[.int .u8 cx.k, .int .i64 cx.n, .string cx.s, .slice cx.la cx.ll cx.lc, .slice cx.oa cx.ol cx.oc] 33)).alloc (.cells #[.string cx.s, .int .u8 cx.k, .int .i64 cx.n, .string cx.s, .slice cx.la cx.ll cx.lc, .slice cx.oa cx.ol cx.oc] 98)).cell? ((⟨w4.heap.size+1,0,none⟩:Addr).add jj)=some u:=by
            have:=World.news_of_block (t:=98) (fr:=(0,0)) (heap_alloc_new (w4.alloc (.cells #[.int .u8 cx.k, .int .i64 cx.n, .string cx.s, .slice cx.la cx.ll cx.lc, .slice cx.oa cx.ol cx.oc] 33)) (.cells #[.string cx.s, .int .u8 cx.k, .int .i64 cx.n, .string cx.s, .slice cx.la cx.ll cx.lc, .slice cx.oa cx.ol cx.oc] 98))
            intro jj u hu
            simpa using this jj u (by simpa [fcells] using hu)
          have HNW:=Lib.hid hnw
          have HB44:=Lib.hid B4
          clear L B4 hrow hI4 hb4 hnw
          go_wp2_with (at_builtin;refine wpList_append_lies _ rfl (.tmp 59) (.tmp 64) 31 (by rfl) (w.heap.size+3) 98 i0 _ 6 96 Tryz.underlying31 hi0 hz0 hz1 hz2 rfl (by omega) (.slice a' m c') j ((fldc cs).flatMap fcells) (by rfl) ((ho4.alloc _).alloc _) ⟨w4.heap.size+1,0,none⟩ 1 1 (fcells (cx.s,cx)) (by rfl) (by rfl) HNW.out (by simp [fcells,Value.oneCell']) (by omega) (by unfold maxLen;omega) (by omega) (by simp;omega) (w4.heap.size+1+1) (by simp) ?_;intro g cap w7 hown7 hgrow7 hat7 hlt7;have hc7:w7.cell? ⟨w.heap.size+2,4,none⟩=some (.slice a' m c'):=(hgrow7.cell_far ⟨w.heap.size+2,4,none⟩ (by simp;omega) (Ne.symm hne2)).trans (keep_cell ((Below.refl _ _).alloc (by simp) _) (keep_cell ((Below.refl _ _).alloc (Nat.le_refl _) _) (HB44.out.val.at_ 4 _ rfl) zt2) zt2);have hf7:w7.frozen? ⟨w.heap.size+2,4,none⟩=false:=(hgrow7.frozen_far ⟨w.heap.size+2,4,none⟩ (by simp;omega) (Ne.symm hne2)).trans ((((Below.refl _ _).alloc (by simp) _:Below w4.heap.size (w4.alloc _) ((w4.alloc _).alloc _)).frozen (p:=⟨w.heap.size+2,4,none⟩) zt2).trans ((((Below.refl _ _).alloc (Nat.le_refl _) _:Below w4.heap.size w4 (w4.alloc _)).frozen (p:=⟨w.heap.size+2,4,none⟩) zt2).trans (HB44.out.val.fr 4))))
          go_roundw
          case rel=>exact ⟨j+1,some ⟨g,0,none⟩,j+1,cap,xs++ [x],cs++ [cx],un+q,by omega,by go_num,by go_num,LL.out.round HX.out hq HB4.out HI4.out (((Below.refl _ _).alloc (Nat.le_refl _) _).alloc (by simp) _) hown7 hgrow7 (hat7.imp_right fun e=>by omega)⟩
          case measure=>simp [intOf];omega
    · have hjn:j=K:=by omega
      subst hjn
      have hR:rawP (d+1) (t::r)=(.mk t.k t.n t.s [] (fld xs),un):=by
        rw [rawP,HKK.out,L.rd];dsimp only;congr 1;rw [rawV,if_neg (by rw [HK.out];decide)];rfl
      have hv:=isVal_with (RowF.val L.row (lo:=w.heap.size+3) (by simp [fld,fldc,L.len,L.cen]) (Nat.le_refl _) t.k b0 b1 (by rw [show (fld xs).length=xs.length by simp [fld],L.len];omega)) t.n t.s HBD.out.n0 HBD.out.n1 HBD.out.s1
      have HV:=Lib.hid hv
      clear hv
      have LB:=Lib.hid L.box
      clear L
      go_wp2_with fail
      have ST:=LB.out.stored ⟨t.k,t.n,t.s,none,0,0,a',m,c'⟩
      rw [←HQ.out,hR]
      exact raw_leave (c:=⟨t.k,t.n,t.s,none,0,0,a',m,c'⟩) ST.1 ST.2.1 ((isVal_far HV.out ST.2.2 (by omega)).sub (shows_step fun k hk _=>⟨by omega,rfl⟩)) rfl rfl rfl
set_option maxHeartbeats 2000000 in
set_option maxRecDepth 100000 in
theorem raw_nil (w:World) (dd:Int) (a:Option Addr) (c:Nat):
    Calls Tryz.prog 40 #[.slice a 0 c, .int .i64 dd] w (RawPost w (V.none,0)):=by
  go_enter Tryz.func40,Tryz.ntmps40
  generalize hQ0:bodyPost _ _ _=Q0
  have HQ:=Lib.hid hQ0
  clear hQ0
  go_wp2_with fail
  rw [←HQ.out]
  exact raw_leave (c:=vzero) (BC.start w #[.int .u8 0, .int .i64 0, .string { data:= #[] }, .slice none 0 0, .slice none 0 0] _) ((Below.refl _ _).alloc (Nat.le_refl _) _) (isVal_none _ _) rfl rfl rfl
set_option maxHeartbeats 4000000 in
set_option maxRecDepth 100000 in
theorem raw_end (w:World) (t:Tk) (r:List Tk) (a:Option Addr) (n c:Nat) (h:IsToks w w.heap.size (t::r) a n c):
    Calls Tryz.prog 40 #[.slice a n c, .int .i64 20] w (RawPost w (rawP 0 (t::r))):=by
  obtain ⟨b,o,hp,rfl,hb,htk,hbd⟩:=h.get (k:=0) (by have:=h.len;rw [this];simp)
  have ht:TkAt w b o t:=by simpa using htk
  replace hbd:t.Bnd:=by simpa using hbd
  have c0:=ht.c0;have c1:=ht.c1;have c2:=ht.c2;have c3:=ht.c3
  have b2:=hbd.m0;have b3:=hbd.m1
  have hnp:0<n:=by rw [h.len];simp
  have hne:((n:Int)==0)=false:=by simp;omega
  obtain ⟨K,hK⟩:∃K:Nat,(t.m % 4).toNat=K:=⟨_,rfl⟩
  have hK2:Int.tmod t.m 4=(K:Int):=by rw [Int.tmod_eq_emod_of_nonneg b2];omega
  have HQR:=Lib.hid (QR.start w t 33 51 33)
  have HBD:=Lib.hid hbd
  clear h ht htk hp hbd hK
  go_enter Tryz.func40,Tryz.ntmps40
  generalize hQ0:bodyPost _ _ _=Q0
  have HQ:=Lib.hid hQ0
  clear hQ0
  go_wp2_with fail
  go_loopw [8,9,10,11] (fun u i _ _ wr=>u= .int .i64 1∧i= .int .u8 0∧QR w wr t ⟨t.k,t.n,t.s,none,0,0,none,0,0⟩) (fun _ _ _ _ _=>0)
  case atStart=>exact ⟨rfl,rfl,(HQR.out _ rfl).1⟩
  case round=>
    obtain ⟨rfl,rfl,L⟩:=hrel
    have k0:=L.tok.at_ 0 _ rfl;have k3:=L.tok.at_ 3 _ rfl
    obtain ⟨v0,v1,v2,v3,v4⟩:=row5 L.val.at_
    obtain ⟨r0,r1,r2,r3,r4⟩:=row5 L.res.at_
    have g0:=L.res.fr 0;have g1:=L.res.fr 1;have g2:=L.res.fr 2;have g3:=L.res.fr 3;have g4:=L.res.fr 4
    have zs2:=L.val.lt;have zs1:=L.tok.lt;have zs0:=L.res.lt
    have LB:=Lib.hid L
    clear L
    by_cases hK0:0<K
    all_goals
      go_wp2_with fail
      have ST:=LB.out.stored ⟨t.k,t.n,t.s,none,0,0,none,0,0⟩
      rw [←HQ.out]
      exact raw_leave (c:=⟨t.k,t.n,t.s,none,0,0,none,0,0⟩) ST.1 ST.2.1 (isVal_leaf _ _ t.k t.n t.s HBD.out.k0 HBD.out.k1 HBD.out.n0 HBD.out.n1 HBD.out.s1) rfl rfl rfl
theorem raw_any (d:Nat):∀(dd:Int),0≤dd→dd+d=20→∀(w:World) (l:List Tk) (a:Option Addr) (n c:Nat),IsToks w w.heap.size l a n c→
    Calls Tryz.prog 40 #[.slice a n c, .int .i64 dd] w (RawPost w (rawP d l)):=by
  induction d with
  | zero=>
    intro dd _ hd w l a n c h
    cases l with
    |nil=>obtain rfl:n=0:=h.len;exact raw_nil w dd a c
    | cons t r=>
      obtain rfl:dd=20:=by omega
      exact raw_end w t r a n c h
  | succ d ih=>
    intro dd hd0 hd w l a n c h
    cases l with
    |nil=>obtain rfl:n=0:=h.len;exact raw_nil w dd a c
    | cons t r=>
      have IH:=fun W l a n c h=>ih (dd+1) (by omega) (by omega) W l a n c h
      by_cases hk:t.k % 2=0
      · exact raw_list w dd hd0 (by omega) d t r a n c h IH hk
      · exact raw_obj w dd hd0 (by omega) d t r a n c h IH (by omega)
end Go.Proofs.YtgcfhkceejcliaaGreatDoor
namespace Go.Proofs.YtgcfhkceejcliaaGreatDoor
open Go.RowKit
theorem results_rawF {tmps:Array Value} {W:World} {b:Nat} {c:VC} (ht:tmps[2]? =some (.pointer (some ⟨b,0,none⟩))) (h:BC W b (vcells c)):
    (results Tryz.f16 tmps).run Tryz.prog W= .ok (.agg #[.int .u8 c.k, .int .i64 c.n, .string c.s, .slice c.la c.ll c.lc, .slice c.oa c.ol c.oc]) W:=by
  obtain ⟨r0,r1,r2,r3,r4⟩:=(⟨h.at_ 0 _ rfl,h.at_ 1 _ rfl,h.at_ 2 _ rfl,h.at_ 3 _ rfl,h.at_ 4 _ rfl⟩:W.cell? ⟨b,0,none⟩=some (.int .u8 c.k)∧W.cell? ⟨b,1,none⟩=some (.int .i64 c.n)∧W.cell? ⟨b,2,none⟩=some (.string c.s)∧W.cell? ⟨b,3,none⟩=some (.slice c.la c.ll c.lc)∧W.cell? ⟨b,4,none⟩=some (.slice c.oa c.ol c.oc))
  simp [results,Tryz.results16,go_sem,ht,r0,r1,r2,r3,r4]
set_option maxHeartbeats 4000000 in
set_option maxRecDepth 100000 in
theorem rawF_own (w:World) (l:List Tk) (a:Option Addr) (n c:Nat) (h:IsToks w w.heap.size l a n c):
    Calls Tryz.prog 16 #[.slice a n c] w fun e w'=>(∃cv:VC,e= .returned (.agg #[.int .u8 cv.k, .int .i64 cv.n, .string cv.s, .slice cv.la cv.ll cv.lc, .slice cv.oa cv.ol cv.oc])∧IsVal (only (fun b=>w.heap.size≤b) w') w'.heap.size (rawP 20 (l.take 60)).1 cv)∧Below w.heap.size w w':=by
  have hlen:=h.len
  have hcap:=h.cap
  have hmax:=h.max
  have HD:=Lib.hid (BC.start w #[.int .u8 0, .int .i64 0, .string { data:= #[] }, .slice none 0 0, .slice none 0 0] 33)
  have hal:Below w.heap.size w (w.alloc (.cells #[.int .u8 0, .int .i64 0, .string { data:= #[] }, .slice none 0 0, .slice none 0 0] 33)):=(Below.refl _ _).alloc (Nat.le_refl _) _
  have HAL:=Lib.hid hal
  obtain ⟨N,hN⟩:∃N,min n 60=N:=⟨_,rfl⟩
  have hN2:N≤n:=by omega
  have htk:l.take N=l.take 60:=by
    by_cases hq:n≤60
    · rw [List.take_of_length_le (by omega),List.take_of_length_le (by omega)]
    · rw [show N=60 by omega]
  have HI:=Lib.hid ((h.later_ hal).take N hN2)
  rw [htk] at HI
  obtain ⟨p,hp⟩:∃p,rawP 20 (l.take 60)=p:=⟨_,rfl⟩
  have HP:=Lib.hid hp
  rw [hp]
  have hcs:(n≤60∧N=n)∨(60<n∧N=60):=by omega
  clear hN hN2
  rcases hcs with ⟨hq,rfl⟩|⟨hq,rfl⟩
  all_goals
    clear h hlen hal htk hp
    go_enter Tryz.func16,Tryz.ntmps16
    generalize hQ0:bodyPost _ _ _=Q0
    have HQ:=Lib.hid hQ0
    clear hQ0
    go_wp2_with fail
    refine (raw_any 20 0 (by omega) (by omega) _ _ _ _ _ HI.out).mono ?_
    rw [HP.out]
    rintro e w3 ⟨⟨cv,rfl,hI3⟩,hb3⟩
    have D:=HD.out.keep hb3 (by simp)
    obtain ⟨r0,r1,r2,r3,r4⟩:=row5 D.at_
    have g0:=D.fr 0;have g1:=D.fr 1;have g2:=D.fr 2;have g3:=D.fr 3;have g4:=D.fr 4
    have zs3:w.heap.size<w3.heap.size:=D.lt
    have HD3:=Lib.hid D
    have HI3:=Lib.hid hI3
    have HB3:=Lib.hid (HAL.out.trans (hb3.mono (by simp)))
    clear D hI3 hb3
    go_wp2_with fail
    rw [←HQ.out]
    have s1:RStep w3 (((((w3.setCell ⟨w.heap.size,0,none⟩ (.int .u8 cv.k)).setCell ⟨w.heap.size,1,none⟩ (.int .i64 cv.n)).setCell ⟨w.heap.size,2,none⟩ (.string cv.s)).setCell ⟨w.heap.size,3,none⟩ (.slice cv.la cv.ll cv.lc)).setCell ⟨w.heap.size,4,none⟩ (.slice cv.oa cv.ol cv.oc)) w.heap.size:=(((RStep.self.trans RStep.self).trans RStep.self).trans RStep.self).trans RStep.self
    have hbc:BC (((((w3.setCell ⟨w.heap.size,0,none⟩ (.int .u8 cv.k)).setCell ⟨w.heap.size,1,none⟩ (.int .i64 cv.n)).setCell ⟨w.heap.size,2,none⟩ (.string cv.s)).setCell ⟨w.heap.size,3,none⟩ (.slice cv.la cv.ll cv.lc)).setCell ⟨w.heap.size,4,none⟩ (.slice cv.oa cv.ol cv.oc)) w.heap.size (vcells cv):=((((HD3.out.set (i:=0) (x:= .int .u8 cv.k) (by simp)).set (i:=1) (x:= .int .i64 cv.n) (by simp)).set (i:=2) (x:= .string cv.s) (by simp)).set (i:=3) (x:= .slice cv.la cv.ll cv.lc) (by simp)).set (i:=4) (x:= .slice cv.oa cv.ol cv.oc) (by simp)
    have hv:=fun ob=>(isVal_far (isVal_far HI3.out s1 (by simp)) (RStep.of_below w.heap.size ((Below.refl _ _).alloc (Nat.le_refl _) ob)) (by simp)).sub (shows_step (S':=fun b=>w.heap.size≤b) fun k hk _=>⟨by simp at hk;omega,rfl⟩)
    have hB:=HB3.out.trans (s1.below (by omega))
    exact ⟨rfl,_,results_rawF rfl (hbc.keep ((Below.refl _ _).alloc (Nat.le_refl _) _) hbc.lt),⟨cv,rfl,hv _⟩,hB.alloc hB.size _⟩
end Go.Proofs.YtgcfhkceejcliaaGreatDoor
