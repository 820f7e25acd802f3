/-
  Contracts of the functions that the law reaches: Steps, components and entries in memory. val.Same, with slices.EqualFunc over values and over fields: true just if they are the same value.
-/
import Derived.Test.YthceefjafklcmaaGreatDoorMd1
namespace Go.Proofs.YthceefjafklcmaaGreatDoor
open Go.RowKit
noncomputable def eqB {α:Type} (a b:α):Bool:= @decide (a=b) (Classical.propDecidable _)
theorem eqB_no {α:Type} {a b:α} (h:a≠b):eqB a b=false:=by simp [eqB,h]
theorem eqB_yes {α:Type} {a b:α} (h:a=b):eqB a b=true:=by simp [eqB,h]
theorem eq_of_eqB {α:Type} {a b:α} (h:eqB a b=true):a=b:=by simpa [eqB] using h
theorem ne_of_eqB {α:Type} {a b:α} (h:eqB a b=false):a≠b:=by simpa [eqB] using h
structure St where
  list:Bool
  i:Int
  key:ByteArray
structure St.Bnd (s:St):Prop where
  i0: -9223372036854775808≤s.i
  i1:s.i≤9223372036854775807
  k1:s.key.size≤140737488355328
structure StepAt (w:World) (b o:Nat) (s:St):Prop where
  c0:w.cell? ⟨b,o,none⟩=some (.bool s.list)
  c1:w.cell? ⟨b,o+1,none⟩=some (.int .i64 s.i)
  c2:w.cell? ⟨b,o+2,none⟩=some (.string s.key)
theorem StepAt.keep {w w':World} {B b o:Nat} {s:St} (h:StepAt w b o s) (hb:Below B w w') (hB:b<B):StepAt w' b o s:=
  ⟨keep_cell hb h.c0 hB,keep_cell hb h.c1 hB,keep_cell hb h.c2 hB⟩
structure IsSteps (w:World) (B:Nat) (p:List St) (a:Option Addr) (n c:Nat):Prop where
  len:n=p.length
  cap:n≤c
  max:c≤9223372036854775807
  few:n≤1466015503701
  at_:∃b o,(0<n→a=some ⟨b,o,none⟩∧b<B)∧∀i (h:i<p.length),StepAt w b (o+i*3) p[i] ∧p[i].Bnd
theorem IsSteps.keep {w w':World} {B:Nat} {p:List St} {a:Option Addr} {n c:Nat} (h:IsSteps w B p a n c) (hb:Below B w w'):IsSteps w' B p a n c:=by
  obtain ⟨h1,h2,h3,h4,b,o,h5,h6⟩:=h
  exact ⟨h1,h2,h3,h4,b,o,h5,fun i hi=>⟨(h6 i hi).1.keep hb (h5 (by omega)).2,(h6 i hi).2⟩⟩
theorem IsSteps.more {w:World} {B B':Nat} {p:List St} {a:Option Addr} {n c:Nat} (h:IsSteps w B p a n c) (hB:B≤B'):IsSteps w B' p a n c:=by
  obtain ⟨h1,h2,h3,h4,b,o,h5,h6⟩:=h
  exact ⟨h1,h2,h3,h4,b,o,fun hn=>⟨(h5 hn).1,by have:=(h5 hn).2;omega⟩,h6⟩
theorem IsSteps.later_ {w w':World} {p:List St} {a:Option Addr} {n c:Nat} (h:IsSteps w w.heap.size p a n c) (hb:Below w.heap.size w w'):IsSteps w' w'.heap.size p a n c:=
  (h.keep hb).more hb.size
theorem IsSteps.get {w:World} {B:Nat} {p:List St} {a:Option Addr} {n c k:Nat} (h:IsSteps w B p a n c) (hk:k<n):
    ∃b o,∃hp:k<p.length,a=some ⟨b,o,none⟩∧b<B∧StepAt w b (o+k*3) p[k] ∧p[k].Bnd:=by
  obtain ⟨h1,h2,h3,h4,b,o,h5,h6⟩:=h
  have hp:k<p.length:=by omega
  exact ⟨b,o,hp,(h5 (by omega)).1,(h5 (by omega)).2,(h6 k hp).1,(h6 k hp).2⟩
theorem IsSteps.nil (w:World) (B:Nat):IsSteps w B [] none 0 0:=⟨rfl,Nat.le_refl _,by omega,by omega,0,0,fun h=>by omega,fun i hi=>by cases hi⟩
structure Cm where
  k:Int
  path:List St
  key:ByteArray
  i:Int
  j:Int
  n:Int
  v:V
  s:ByteArray
structure CC where
  k:Int
  pa:Option Addr
  pl:Nat
  pc:Nat
  key:ByteArray
  i:Int
  j:Int
  n:Int
  v:VC
  s:ByteArray
def CC.agg (c:CC):Value:= .agg #[.int .u8 c.k, .slice c.pa c.pl c.pc, .string c.key, .int .i64 c.i, .int .i64 c.j, .int .i64 c.n, .int .u8 c.v.k, .int .i64 c.v.n, .string c.v.s, .slice c.v.la c.v.ll c.v.lc, .slice c.v.oa c.v.ol c.v.oc, .string c.s]
structure CompAt (w:World) (b o:Nat) (c:CC):Prop where
  c0:w.cell? ⟨b,o,none⟩=some (.int .u8 c.k)
  c1:w.cell? ⟨b,o+1,none⟩=some (.slice c.pa c.pl c.pc)
  c2:w.cell? ⟨b,o+2,none⟩=some (.string c.key)
  c3:w.cell? ⟨b,o+3,none⟩=some (.int .i64 c.i)
  c4:w.cell? ⟨b,o+4,none⟩=some (.int .i64 c.j)
  c5:w.cell? ⟨b,o+5,none⟩=some (.int .i64 c.n)
  c6:ValAt w b (o+6) c.v
  c11:w.cell? ⟨b,o+11,none⟩=some (.string c.s)
theorem CompAt.keep {w w':World} {B b o:Nat} {c:CC} (h:CompAt w b o c) (hb:Below B w w') (hB:b<B):CompAt w' b o c:=
  ⟨keep_cell hb h.c0 hB,keep_cell hb h.c1 hB,keep_cell hb h.c2 hB,keep_cell hb h.c3 hB,keep_cell hb h.c4 hB,keep_cell hb h.c5 hB,h.c6.keep hb hB,keep_cell hb h.c11 hB⟩
structure CC.Bnd (c:CC):Prop where
  k0:0≤c.k
  k1:c.k<256
  i0: -9223372036854775808≤c.i
  i1:c.i≤9223372036854775807
  j0: -9223372036854775808≤c.j
  j1:c.j≤9223372036854775807
  n0: -9223372036854775808≤c.n
  n1:c.n≤9223372036854775807
  key1:c.key.size≤140737488355328
  s1:c.s.size≤140737488355328
inductive IsComp (w:World) (B:Nat):Cm→CC→Prop
  |mk (c:CC) (p:List St) (v:V) (hb:c.Bnd) (hp:IsSteps w B p c.pa c.pl c.pc) (hv:IsVal w B v c.v):IsComp w B ⟨c.k,p,c.key,c.i,c.j,c.n,v,c.s⟩ c
theorem IsComp.keep {w w':World} {B:Nat} (hb:Below B w w') {x:Cm} {c:CC} (h:IsComp w B x c):IsComp w' B x c:=by
  cases h with
  |mk c p v hbd hp hv=>exact .mk c p v hbd (hp.keep hb) (hv.keep hb)
theorem IsComp.more {w:World} {B B':Nat} (hB:B≤B') {x:Cm} {c:CC} (h:IsComp w B x c):IsComp w B' x c:=by
  cases h with
  |mk c p v hbd hp hv=>exact .mk c p v hbd (hp.more hB) (hv.more hB)
theorem IsComp.later_ {w w':World} (hb:Below w.heap.size w w') {x:Cm} {c:CC} (h:IsComp w w.heap.size x c):IsComp w' w'.heap.size x c:=(h.keep hb).more hb.size
structure IsComps (w:World) (B:Nat) (l:List Cm) (a:Option Addr) (n c:Nat):Prop where
  len:n=l.length
  cap:n≤c
  max:c≤9223372036854775807
  few:n≤1466015503701
  at_:∃b o,∃f:Nat→CC,(0<n→a=some ⟨b,o,none⟩∧b<B)∧∀i (h:i<l.length),CompAt w b (o+i*12) (f i)∧IsComp w B l[i] (f i)
theorem IsComps.keep {w w':World} {B:Nat} {l:List Cm} {a:Option Addr} {n c:Nat} (h:IsComps w B l a n c) (hb:Below B w w'):IsComps w' B l a n c:=by
  obtain ⟨h1,h2,h3,h4,b,o,f,h5,h6⟩:=h
  exact ⟨h1,h2,h3,h4,b,o,f,h5,fun i hi=>⟨(h6 i hi).1.keep hb (h5 (by omega)).2,(h6 i hi).2.keep hb⟩⟩
theorem IsComps.more {w:World} {B B':Nat} {l:List Cm} {a:Option Addr} {n c:Nat} (h:IsComps w B l a n c) (hB:B≤B'):IsComps w B' l a n c:=by
  obtain ⟨h1,h2,h3,h4,b,o,f,h5,h6⟩:=h
  exact ⟨h1,h2,h3,h4,b,o,f,fun hn=>⟨(h5 hn).1,by have:=(h5 hn).2;omega⟩,fun i hi=>⟨(h6 i hi).1,(h6 i hi).2.more hB⟩⟩
theorem IsComps.later_ {w w':World} {l:List Cm} {a:Option Addr} {n c:Nat} (h:IsComps w w.heap.size l a n c) (hb:Below w.heap.size w w'):IsComps w' w'.heap.size l a n c:=
  (h.keep hb).more hb.size
theorem IsComps.get {w:World} {B:Nat} {l:List Cm} {a:Option Addr} {n c k:Nat} (h:IsComps w B l a n c) (hk:k<n):
    ∃b o,∃f:CC,∃hp:k<l.length,a=some ⟨b,o,none⟩∧b<B∧CompAt w b (o+k*12) f∧IsComp w B l[k] f:=by
  obtain ⟨h1,h2,h3,h4,b,o,f,h5,h6⟩:=h
  have hp:k<l.length:=by omega
  exact ⟨b,o,f k,hp,(h5 (by omega)).1,(h5 (by omega)).2,(h6 k hp).1,(h6 k hp).2⟩
theorem IsComps.nil (w:World) (B:Nat):IsComps w B [] none 0 0:=⟨rfl,Nat.le_refl _,by omega,by omega,0,0,fun _=>⟨0,none,0,0, .empty,0,0,0,⟨0,0, .empty,none,0,0,none,0,0⟩, .empty⟩,fun h=>by omega,fun i hi=>by cases hi⟩
structure En where
  k:Int
  src:Int
  seq:Int
  v:V
  op:List Cm
structure EC where
  k:Int
  src:Int
  seq:Int
  v:VC
  oa:Option Addr
  ol:Nat
  oc:Nat
structure EC.Bnd (c:EC):Prop where
  k0:0≤c.k
  k1:c.k<256
  s0:0≤c.src
  s1:c.src<4294967296
  q0:0≤c.seq
  q1:c.seq<4294967296
structure EntryAt (w:World) (b o:Nat) (c:EC):Prop where
  c0:w.cell? ⟨b,o,none⟩=some (.int .u8 c.k)
  c1:w.cell? ⟨b,o+1,none⟩=some (.int .u32 c.src)
  c2:w.cell? ⟨b,o+2,none⟩=some (.int .u32 c.seq)
  c3:ValAt w b (o+3) c.v
  c8:w.cell? ⟨b,o+8,none⟩=some (.slice c.oa c.ol c.oc)
theorem EntryAt.keep {w w':World} {B b o:Nat} {c:EC} (h:EntryAt w b o c) (hb:Below B w w') (hB:b<B):EntryAt w' b o c:=
  ⟨keep_cell hb h.c0 hB,keep_cell hb h.c1 hB,keep_cell hb h.c2 hB,h.c3.keep hb hB,keep_cell hb h.c8 hB⟩
inductive IsEntry (w:World) (B:Nat):En→EC→Prop
  |mk (c:EC) (v:V) (l:List Cm) (hb:c.Bnd) (hv:IsVal w B v c.v) (ho:IsComps w B l c.oa c.ol c.oc):IsEntry w B ⟨c.k,c.src,c.seq,v,l⟩ c
theorem IsEntry.keep {w w':World} {B:Nat} (hb:Below B w w') {x:En} {c:EC} (h:IsEntry w B x c):IsEntry w' B x c:=by
  cases h with
  |mk c v l hbd hv ho=>exact .mk c v l hbd (hv.keep hb) (ho.keep hb)
theorem IsEntry.more {w:World} {B B':Nat} (hB:B≤B') {x:En} {c:EC} (h:IsEntry w B x c):IsEntry w B' x c:=by
  cases h with
  |mk c v l hbd hv ho=>exact .mk c v l hbd (hv.more hB) (ho.more hB)
theorem IsEntry.later_ {w w':World} (hb:Below w.heap.size w w') {x:En} {c:EC} (h:IsEntry w w.heap.size x c):IsEntry w' w'.heap.size x c:=(h.keep hb).more hb.size
def V.none:V:= .mk 0 0 .empty [] []
theorem isVal_none (w:World) (B:Nat):IsVal w B V.none ⟨0,0, .empty, .none,0,0, .none,0,0⟩:=
  .mk ⟨0,0, .empty, .none,0,0, .none,0,0⟩ [] [] (fun _=>⟨0,0, .empty, .none,0,0, .none,0,0⟩) (fun _=>⟨0,0, .empty, .none,0,0, .none,0,0⟩) 0 0 0 0
    ⟨by decide,by decide,by decide,by decide,by decide,by decide,by decide,by decide,by decide,by decide,by decide⟩ rfl rfl (fun h=>by cases h) (fun h=>by cases h) (fun i h=>by cases h) (fun i h=>by cases h) (fun i h=>by cases h) (fun i h=>by cases h)
end Go.Proofs.YthceefjafklcmaaGreatDoor
namespace Go.Proofs.YthceefjafklcmaaGreatDoor
open Go.RowKit
def VSame (a:V):Prop:=∀(b:V) (w:World) (c d:VC),IsVal w w.heap.size a c→IsVal w w.heap.size b d→
    Calls Tryz.prog 37 #[.agg #[.int .u8 c.k, .int .i64 c.n, .string c.s, .slice c.la c.ll c.lc, .slice c.oa c.ol c.oc], .agg #[.int .u8 d.k, .int .i64 d.n, .string d.s, .slice d.la d.ll d.lc, .slice d.oa d.ol d.oc]] w fun e w'=>e= .returned (.bool (eqv a b))∧Below w.heap.size w w'
structure IsVals (w:World) (B:Nat) (l:List V) (a:Option Addr) (n c:Nat):Prop where
  len:n=l.length
  cap:n≤c
  max:c≤9223372036854775807
  few:n≤1466015503701
  at_:∃b o,∃f:Nat→VC,(0<n→a=some ⟨b,o,none⟩∧b<B)∧∀i (h:i<l.length),ValAt w b (o+i*5) (f i)∧IsVal w B l[i] (f i)
theorem IsVals.get {w:World} {B:Nat} {l:List V} {a:Option Addr} {n c k:Nat} (h:IsVals w B l a n c) (hk:k<n):
    ∃b o,∃f:VC,∃hp:k<l.length,a=some ⟨b,o,none⟩∧b<B∧ValAt w b (o+k*5) f∧IsVal w B l[k] f:=by
  obtain ⟨h1,h2,h3,h4,b,o,f,h5,h6⟩:=h
  have hp:k<l.length:=by omega
  exact ⟨b,o,f k,hp,(h5 (by omega)).1,(h5 (by omega)).2,(h6 k hp).1,(h6 k hp).2⟩
structure IsFields (w:World) (B:Nat) (l:List (ByteArray×V)) (a:Option Addr) (n c:Nat):Prop where
  len:n=l.length
  cap:n≤c
  max:c≤9223372036854775807
  few:n≤1466015503701
  at_:∃b o,∃f:Nat→VC,(0<n→a=some ⟨b,o,none⟩∧b<B)∧∀i (h:i<l.length),w.cell? ⟨b,o+i*6,none⟩=some (.string l[i].1)∧l[i].1.size≤140737488355328∧ValAt w b (o+i*6+1) (f i)∧IsVal w B l[i].2 (f i)
theorem IsFields.get {w:World} {B:Nat} {l:List (ByteArray×V)} {a:Option Addr} {n c k:Nat} (h:IsFields w B l a n c) (hk:k<n):
    ∃b o,∃f:VC,∃hp:k<l.length,a=some ⟨b,o,none⟩∧b<B∧w.cell? ⟨b,o+k*6,none⟩=some (.string l[k].1)∧l[k].1.size≤140737488355328∧ValAt w b (o+k*6+1) f∧IsVal w B l[k].2 f:=by
  obtain ⟨h1,h2,h3,h4,b,o,f,h5,h6⟩:=h
  have hp:k<l.length:=by omega
  exact ⟨b,o,f k,hp,(h5 (by omega)).1,(h5 (by omega)).2,h6 k hp⟩
theorem IsVals.keep {w w':World} {B:Nat} {l:List V} {a:Option Addr} {n c:Nat} (h:IsVals w B l a n c) (hb:Below B w w'):IsVals w' B l a n c:=by
  obtain ⟨h1,h2,h3,h4,b,o,f,h5,h6⟩:=h
  exact ⟨h1,h2,h3,h4,b,o,f,h5,fun i hi=>⟨(h6 i hi).1.keep hb (h5 (by omega)).2,(h6 i hi).2.keep hb⟩⟩
theorem IsFields.keep {w w':World} {B:Nat} {l:List (ByteArray×V)} {a:Option Addr} {n c:Nat} (h:IsFields w B l a n c) (hb:Below B w w'):IsFields w' B l a n c:=by
  obtain ⟨h1,h2,h3,h4,b,o,f,h5,h6⟩:=h
  refine ⟨h1,h2,h3,h4,b,o,f,h5,fun i hi=> ?_⟩
  obtain ⟨g1,g2,g3,g4⟩:=h6 i hi
  have hB:=(h5 (by omega)).2
  exact ⟨keep_cell hb g1 hB,g2,g3.keep hb hB,g4.keep hb⟩
theorem IsVals.more {w:World} {B B':Nat} {l:List V} {a:Option Addr} {n c:Nat} (h:IsVals w B l a n c) (hB:B≤B'):IsVals w B' l a n c:=by
  obtain ⟨h1,h2,h3,h4,b,o,f,h5,h6⟩:=h
  exact ⟨h1,h2,h3,h4,b,o,f,fun hn=>⟨(h5 hn).1,by have:=(h5 hn).2;omega⟩,fun i hi=>⟨(h6 i hi).1,(h6 i hi).2.more hB⟩⟩
theorem IsFields.more {w:World} {B B':Nat} {l:List (ByteArray×V)} {a:Option Addr} {n c:Nat} (h:IsFields w B l a n c) (hB:B≤B'):IsFields w B' l a n c:=by
  obtain ⟨h1,h2,h3,h4,b,o,f,h5,h6⟩:=h
  refine ⟨h1,h2,h3,h4,b,o,f,fun hn=>⟨(h5 hn).1,by have:=(h5 hn).2;omega⟩,fun i hi=> ?_⟩
  obtain ⟨g1,g2,g3,g4⟩:=h6 i hi
  exact ⟨g1,g2,g3,g4.more hB⟩
theorem IsVals.later_ {w w':World} {l:List V} {a:Option Addr} {n c:Nat} (h:IsVals w w.heap.size l a n c) (hb:Below w.heap.size w w'):IsVals w' w'.heap.size l a n c:=(h.keep hb).more hb.size
theorem IsFields.later_ {w w':World} {l:List (ByteArray×V)} {a:Option Addr} {n c:Nat} (h:IsFields w w.heap.size l a n c) (hb:Below w.heap.size w w'):IsFields w' w'.heap.size l a n c:=(h.keep hb).more hb.size
theorem IsVal.lists {w:World} {B:Nat} {k n:Int} {s:ByteArray} {l:List V} {o:List (ByteArray×V)} {c:VC} (h:IsVal w B (.mk k n s l o) c):
    c.k=k∧c.n=n∧c.s=s∧c.Bnd∧IsVals w B l c.la c.ll c.lc∧IsFields w B o c.oa c.ol c.oc:=by
  cases h with
  | mk _ _ _ cl co lb lo ob oo hb hl ho hla hoa hlc hlv hoc hov=>
    exact ⟨rfl,rfl,rfl,hb,⟨hl,hb.l1,hb.l2,hb.l3,lb,lo,cl,hla,fun i hi=>⟨hlc i hi,hlv i hi⟩⟩,⟨ho,hb.o1,hb.o2,hb.o3,ob,oo,co,hoa,fun i hi=>⟨(hoc i hi).1,(hoc i hi).2.1,(hoc i hi).2.2,hov i hi⟩⟩⟩
set_option maxHeartbeats 2000000 in
set_option maxRecDepth 100000 in
theorem equalFuncVal (l l':List V) (IH:∀v ∈ l,VSame v) (w:World) (a a':Option Addr) (n m c c':Nat) (h:IsVals w w.heap.size l a n c) (h':IsVals w w.heap.size l' a' m c'):
    Calls Tryz.prog 60 #[.slice a n c, .slice a' m c', .func (.func 37) #[] #[]] w fun e w'=>e= .returned (.bool (eqB l l'))∧Below w.heap.size w w':=by
  have HI:=Lib.hid IH
  have k1:=h.max;have k2:=h.few;have k3:=h'.max;have k4:=h'.few
  have HLn:=Lib.hid h.len;have HLm:=Lib.hid h'.len
  clear IH
  by_cases e:n=m
  case neg=>
    go_enter Tryz.func60,Tryz.ntmps60
    have f1:((n:Int) !=(m:Int))=true:=by simp;omega
    go_wp2_with fail
    go_ret
    exact ⟨ret_bool (eqB_no (fun h=>e (by rw [HLn.out,HLm.out,h]))).symm,Below.refl _ _⟩
  subst e
  go_enter Tryz.func60,Tryz.ntmps60
  go_wp2_with fail
  go_loopw [17] (fun i wr=>∃k:Nat,k≤n∧i= .int .i64 k∧Hid (∀j,j<k→l[j]? =l'[j]?)∧Below w.heap.size w wr) (fun i _=>n - (intOf i).toNat)
  case atStart=>exact ⟨0,Nat.zero_le _,rfl,fun j hj=>by omega,Below.refl _ _⟩
  case round=>
    obtain ⟨k,hk,rfl,HJ,hB⟩:=hrel
    by_cases hlt:k<n
    · obtain ⟨b,o,f,kl,rfl,hb,x1,v1⟩:=h.get hlt
      obtain ⟨b',o',f',kl',rfl,hb',x2,v2⟩:=h'.get hlt
      have x1:=x1.keep hB hb
      have x2:=x2.keep hB hb'
      have r0:=x1.c0;have r1:=x1.c1;have r2:=x1.c2;have r3:=x1.c3;have r4:=x1.c4
      have s0:=x2.c0;have s1:=x2.c1;have s2:=x2.c2;have s3:=x2.c3;have s4:=x2.c4
      have hbr:b<wr.heap.size:=by have:=hB.size;omega
      have hbr':b'<wr.heap.size:=by have:=hB.size;omega
      clear x1 x2 h h'
      go_wp2_with fail
      refine (HI.out _ (List.getElem_mem kl) (l'[k]'kl') _ f f' ((v1.later_ hB).later_ (((Below.refl _ _).alloc (Nat.le_refl _) _).alloc (by simp) _)) ((v2.later_ hB).later_ (((Below.refl _ _).alloc (Nat.le_refl _) _).alloc (by simp) _))).mono ?_
      rintro e w' ⟨rfl,hb3⟩
      have hB2:=hB.on (Below.two hb3) hB.size
      clear hb3 r0 r1 r2 r3 r4 s0 s1 s2 s3 s4
      cases ev:eqv l[k] l'[k] with
      | true=>
        have EV:=Lib.hid ev
        clear ev
        go_wp2_with fail
        go_roundw
        case rel=>exact ⟨k+1,by omega,by go_num,same_step HJ kl kl' EV.out,hB2⟩
        case measure=>simp [intOf];omega
      | false=>
        have EV:=Lib.hid ev
        clear ev
        go_wp2_with fail
        go_ret
        exact ⟨ret_bool (eqB_no (fun h=>by subst h;exact ne_of_eqv EV.out rfl)).symm,hB2⟩
    · go_wp2_with fail
      go_ret
      exact ⟨ret_bool (eqB_yes (list_of_same HJ.out (by have:=HLn.out;omega) (by have:=HLm.out;omega))).symm,hB⟩
set_option maxHeartbeats 2000000 in
set_option maxRecDepth 100000 in
theorem sameField (k k':ByteArray) (v v':V) (IH:VSame v) (w:World) (f f':VC) (h:IsVal w w.heap.size v f) (h':IsVal w w.heap.size v' f'):
    Calls Tryz.prog 62 #[.agg #[.string k, .int .u8 f.k, .int .i64 f.n, .string f.s, .slice f.la f.ll f.lc, .slice f.oa f.ol f.oc], .agg #[.string k', .int .u8 f'.k, .int .i64 f'.n, .string f'.s, .slice f'.la f'.ll f'.lc, .slice f'.oa f'.ol f'.oc]] w fun e w'=>e= .returned (.bool (eqB (k,v) (k',v')))∧Below w.heap.size w w':=by
  have HI:=Lib.hid IH
  clear IH
  by_cases e:k.toList=k'.toList
  case neg=>
    go_enter Tryz.func62,Tryz.ntmps62
    have f1:(k.toList==k'.toList)=false:=by simp [e]
    have He:=Lib.hid e
    clear e
    go_wp2_with fail
    go_ret
    exact ⟨ret_bool (eqB_no (fun h=>by injection h with h1;exact He.out (by rw [h1]))).symm,((Below.refl _ _).alloc (Nat.le_refl _) _).alloc (by simp) _⟩
  go_enter Tryz.func62,Tryz.ntmps62
  have f1:(k.toList==k'.toList)=true:=by rw [e];simp
  have He:=Lib.hid e
  clear e
  go_wp2_with fail
  refine (HI.out v' _ f f' (h.later_ (((Below.refl _ _).alloc (Nat.le_refl _) _).alloc (by simp) _)) (h'.later_ (((Below.refl _ _).alloc (Nat.le_refl _) _).alloc (by simp) _))).mono ?_
  rintro e w' ⟨rfl,hb⟩
  cases ev:eqv v v' with
  | true=>
    have EV:=Lib.hid ev
    clear ev
    go_wp2_with fail
    go_ret
    exact ⟨ret_bool (eqB_yes (Prod.ext (bytes_ext He.out) (eq_of_eqv EV.out))).symm,hb.two⟩
  | false=>
    have EV:=Lib.hid ev
    clear ev
    go_wp2_with fail
    go_ret
    exact ⟨ret_bool (eqB_no (fun h=>by injection h with h1 h2;exact ne_of_eqv EV.out h2)).symm,hb.two⟩
theorem same_stepB {α:Type} {l l':List α} {k:Nat} (h:Hid (∀j,j<k→l[j]? =l'[j]?)) (kl:k<l.length) (kl':k<l'.length) (e:eqB l[k] l'[k] =true):Hid (∀j,j<k+1→l[j]? =l'[j]?):=by
  intro j hj
  by_cases hjk:j=k
  · subst hjk;rw [List.getElem?_eq_getElem kl,List.getElem?_eq_getElem kl',eq_of_eqB e]
  · exact h.out j (by omega)
set_option maxHeartbeats 2000000 in
set_option maxRecDepth 100000 in
theorem equalFuncField (l l':List (ByteArray×V)) (IH:∀v ∈ l,VSame v.2) (w:World) (a a':Option Addr) (n m c c':Nat) (h:IsFields w w.heap.size l a n c) (h':IsFields w w.heap.size l' a' m c'):
    Calls Tryz.prog 61 #[.slice a n c, .slice a' m c', .func (.func 62) #[] #[]] w fun e w'=>e= .returned (.bool (eqB l l'))∧Below w.heap.size w w':=by
  have HI:=Lib.hid IH
  have k1:=h.max;have k2:=h.few;have k3:=h'.max;have k4:=h'.few
  have HLn:=Lib.hid h.len;have HLm:=Lib.hid h'.len
  clear IH
  by_cases e:n=m
  case neg=>
    go_enter Tryz.func61,Tryz.ntmps61
    have f1:((n:Int) !=(m:Int))=true:=by simp;omega
    go_wp2_with fail
    go_ret
    exact ⟨ret_bool (eqB_no (fun h=>e (by rw [HLn.out,HLm.out,h]))).symm,Below.refl _ _⟩
  subst e
  go_enter Tryz.func61,Tryz.ntmps61
  go_wp2_with fail
  go_loopw [17] (fun i wr=>∃k:Nat,k≤n∧i= .int .i64 k∧Hid (∀j,j<k→l[j]? =l'[j]?)∧Below w.heap.size w wr) (fun i _=>n - (intOf i).toNat)
  case atStart=>exact ⟨0,Nat.zero_le _,rfl,fun j hj=>by omega,Below.refl _ _⟩
  case round=>
    obtain ⟨k,hk,rfl,HJ,hB⟩:=hrel
    by_cases hlt:k<n
    · obtain ⟨b,o,f,kl,rfl,hb,g1,_,x1,v1⟩:=h.get hlt
      obtain ⟨b',o',f',kl',rfl,hb',g2,_,x2,v2⟩:=h'.get hlt
      have x1:=x1.keep hB hb
      have x2:=x2.keep hB hb'
      have g1:=keep_cell hB g1 hb
      have g2:=keep_cell hB g2 hb'
      have r0:=x1.c0;have r1:=x1.c1;have r2:=x1.c2;have r3:=x1.c3;have r4:=x1.c4
      have s0:=x2.c0;have s1:=x2.c1;have s2:=x2.c2;have s3:=x2.c3;have s4:=x2.c4
      have hbr:b<wr.heap.size:=by have:=hB.size;omega
      have hbr':b'<wr.heap.size:=by have:=hB.size;omega
      clear x1 x2 h h'
      go_wp2_with fail
      refine (sameField l[k].1 (l'[k]'kl').1 l[k].2 (l'[k]'kl').2 (HI.out _ (List.getElem_mem kl)) _ f f' ((v1.later_ hB).later_ (((Below.refl _ _).alloc (Nat.le_refl _) _).alloc (by simp) _)) ((v2.later_ hB).later_ (((Below.refl _ _).alloc (Nat.le_refl _) _).alloc (by simp) _))).mono ?_
      rintro e w' ⟨rfl,hb3⟩
      have hB2:=hB.on (Below.two hb3) hB.size
      clear hb3 r0 r1 r2 r3 r4 s0 s1 s2 s3 s4 g1 g2
      cases ev:eqB (l[k].1,l[k].2) ((l'[k]'kl').1,(l'[k]'kl').2) with
      | true=>
        have EV:=Lib.hid ev
        clear ev
        go_wp2_with fail
        go_roundw
        case rel=>exact ⟨k+1,by omega,by go_num,same_stepB HJ kl kl' EV.out,hB2⟩
        case measure=>simp [intOf];omega
      | false=>
        have EV:=Lib.hid ev
        clear ev
        go_wp2_with fail
        go_ret
        exact ⟨ret_bool (eqB_no (fun h=>by subst h;exact ne_of_eqB EV.out rfl)).symm,hB2⟩
    · go_wp2_with fail
      go_ret
      exact ⟨ret_bool (eqB_yes (list_of_same HJ.out (by have:=HLn.out;omega) (by have:=HLm.out;omega))).symm,hB⟩
set_option maxHeartbeats 2000000 in
set_option maxRecDepth 100000 in
theorem valSame_any (a:V):VSame a:=by
  induction a using V.ind with
  |h k n s l o ihl iho=>
  have IHL:=Lib.hid ihl;have IHO:=Lib.hid iho;clear ihl iho
  intro b w c d ha hb
  obtain ⟨k',n',s',l',o'⟩:=b
  obtain ⟨rfl,rfl,rfl,cbd,hl,ho⟩:=ha.lists
  obtain ⟨rfl,rfl,rfl,dbd,hl',ho'⟩:=hb.lists
  clear ha hb cbd dbd
  have hst:=boxed2_start w c d 28
  by_cases e1:c.k=d.k
  case neg=>
    go_enter Tryz.func37,Tryz.ntmps37
    have f1:(c.k==d.k)=false:=by simp [e1]
    go_wp2_with fail
    go_ret
    exact ⟨ret_bool (eqv_no (fun h=>by injection h with h1;exact e1 h1)).symm,hst.below⟩
  by_cases e2:c.n=d.n
  case neg=>
    go_enter Tryz.func37,Tryz.ntmps37
    have f1:(c.k==d.k)=true:=by rw [e1];simp
    have f2:(c.n==d.n)=false:=by simp [e2]
    clear e1
    go_wp2_with fail
    go_ret
    exact ⟨ret_bool (eqv_no (fun h=>by injection h with _ h1;exact e2 h1)).symm,hst.below⟩
  by_cases e3:c.s.toList=d.s.toList
  case neg=>
    go_enter Tryz.func37,Tryz.ntmps37
    have f1:(c.k==d.k)=true:=by rw [e1];simp
    have f2:(c.n==d.n)=true:=by rw [e2];simp
    have f3:(c.s.toList==d.s.toList)=false:=by simp [e3]
    have H3:=Lib.hid e3
    clear e1 e2 e3
    go_wp2_with fail
    go_ret
    exact ⟨ret_bool (eqv_no (fun h=>by injection h with _ _ h1;exact H3.out (by rw [h1]))).symm,hst.below⟩
  go_enter Tryz.func37,Tryz.ntmps37
  have f1:(c.k==d.k)=true:=by rw [e1];simp
  have f2:(c.n==d.n)=true:=by rw [e2];simp
  have f3:(c.s.toList==d.s.toList)=true:=by rw [e3];simp
  have He1:=Lib.hid e1;have He2:=Lib.hid e2;have He3:=Lib.hid e3;clear e1 e2 e3
  go_wp2_with fail
  refine (equalFuncVal l l' IHL.out _ _ _ _ _ _ _ (hl.later_ hst.below) (hl'.later_ hst.below)).mono ?_
  rintro e w1 ⟨rfl,hb1⟩
  have hB:=hst.step hb1
  have b1:w1.cell? ⟨w.heap.size,4,none⟩=some (.slice c.oa c.ol c.oc):=hB.a.c4
  have b2:w1.cell? ⟨w.heap.size+1,4,none⟩=some (.slice d.oa d.ol d.oc):=hB.b.c4
  clear hst hb1
  cases e4:eqB l l' with
  | false=>
    have EV:=Lib.hid e4
    clear e4
    go_wp2_with fail
    go_ret
    exact ⟨ret_bool (eqv_no (fun h=>by injection h with _ _ _ h1;exact ne_of_eqB EV.out h1)).symm,hB.below⟩
  | true=>
    have EV:=Lib.hid e4
    clear e4
    go_wp2_with fail
    refine (equalFuncField o o' IHO.out _ _ _ _ _ _ _ (ho.later_ hB.below) (ho'.later_ hB.below)).mono ?_
    rintro e w2 ⟨rfl,hb2⟩
    have hB2:=hB.step hb2
    cases e5:eqB o o' with
    | false=>
      have EV2:=Lib.hid e5
      clear e5
      go_wp2_with fail
      go_ret
      exact ⟨ret_bool (eqv_no (fun h=>by injection h with _ _ _ _ h1;exact ne_of_eqB EV2.out h1)).symm,hB2.below⟩
    | true=>
      have EV2:=Lib.hid e5
      clear e5
      go_wp2_with fail
      go_ret
      exact ⟨ret_bool (eqv_yes (by rw [He1.out,He2.out,bytes_ext He3.out,eq_of_eqB EV.out,eq_of_eqB EV2.out])).symm,hB2.below⟩
end Go.Proofs.YthceefjafklcmaaGreatDoor
