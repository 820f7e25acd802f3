/-
  Contracts of the functions that the law reaches: Words for the memory of a call: the class of later worlds, a value of package api in memory. Plain functions on values: weight, depth, soundness. No program in sight. conciliatorref01.Same: two values in memory are compared: true just if they are the same value. Steps, components and entries in memory. val.Same, with slices.EqualFunc over values and over fields: true just if they are the same value. val.within: the iterator over all values in one. conciliatorref06.in and says, conciliatorref10.in. val.Weight: of a value in memory it is the plain function's answer. val.Deep: of a value in memory it is the plain function's answer. Writers: a block that holds a slice of bytes which grows. code.lay, conciliatorref10.Writer.number: a number is written. writer.text, Writer.text: a string is written. writer.value and Writer.value: a value is written. Writer.value: a value is written. conciliatorref10.says.
-/
import Derived.Test.YthceefjafklcmaaDoorProg
import Derived.WalkKit
import Derived.WalkSpells
import Derived.WalkLawsBesides
import Derived.Lib.Hide
import Derived.BigQuiet
import Derived.Deep.QuietTactic
import Derived.Lib.ValidU
import Derived.Lib.ValidLaws
import Derived.RangeFuncNested
import Derived.RangeFuncBound
import Derived.RangeFuncCalls
import Derived.RangeFuncLeaves
import Derived.Shelf.Abstract
import Derived.Shelf.RegionOpen
import Derived.OwnWalkIn
import Derived.TacticsInMore
import Derived.LoopNIn
import Derived.LoopIn
import Derived.Handy
import Derived.Deep.RegionLaw
import Derived.Deep.RegionHeld3
import Derived.Deep.AppendLies
import Derived.Lib.AppendStr
namespace Go.Proofs.YthceefjafklcmaaDoor
open Go.RowKit
structure LaterBy where
  d:Nat
  os:Array Obj
  deriving Inhabited
def later (w:World) (p:LaterBy):World:= { heap:=w.heap++p.os,tape:=w.tape,drawn:=p.d,os:=w.os,output:=w.output }
theorem later_cell {w:World} {a:Addr} {v:Value} (h:w.cell? a=some v) (p:LaterBy):(later w p).cell? a=some v:=by
  have hb:=World.block_lt_of_cell? w a h
  rw [←h]
  exact World.cell?_of_block (by simp [later,Array.getElem?_append,hb])
theorem below_later (w:World) (p:LaterBy):Below w.heap.size w (later w p):=
  ⟨rfl,rfl,rfl,by simp [later],fun k hk=>by simp [later,Array.getElem?_append,hk]⟩
theorem later_of_below {w w':World} (h:Below w.heap.size w w'):∃p,w'=later w p:=by
  refine ⟨⟨w'.drawn,w'.heap.extract w.heap.size w'.heap.size⟩, ?_⟩
  obtain ⟨hp,tp,dr,o,out⟩:=w'
  obtain ⟨h1,h2,h3,h4,h5⟩:=h
  simp only [later] at*
  subst h1 h2 h3
  congr 1
  apply Array.ext_getElem?
  intro k
  simp only [Array.getElem?_append,Array.getElem?_extract]
  split
  · rename_i hk;rw [h5 k hk]
  · rename_i hk
    have:w.heap.size+(k - w.heap.size)=k:=by omega
    rw [this]
    split
    · rfl
    · rw [Array.getElem?_eq_none (by omega)]
theorem later_zero (w:World):({ w with drawn:=w.drawn+1 } :World)=later w ⟨w.drawn+1, #[]⟩:=by
  simp [later]
theorem wp_region_later {P:Program} {id:Nat} {Q:Exit→Act→World→Prop} {a:Act} {w:World} {l:List Oper} (hm:P.follows .mixedOrders=true) (hB:Region.lexB .any l.toArray=true)
    (h:wpQuiet P l.toArray (fun w'=>∃p:LaterBy,w'=later w p) (fun a'=>∀w',(∃p:LaterBy,w'=later w p)→Q .normal a' w') l a):(Code.region id l.toArray true).wp P Q a w:=
  wp_region_quiet (C:=fun w'=>∃p:LaterBy,w'=later w p) hm hB ⟨_,later_zero w⟩ (by simpa using h)
theorem later_call {P:Program} {f:FuncId} {args:Array Value} {w:World} {p:LaterBy} {v:Value}
    (h:Calls P f args (later w p) fun e w'=>e= .returned v∧Below (later w p).heap.size (later w p) w'):Calls P f args (later w p) fun e w''=>e= .returned v∧∃q:LaterBy,w''=later w q:=
  h.mono fun _ _ ⟨he,hb⟩=>⟨he,later_of_below ((below_later w p).trans (hb.mono (by simp [later])))⟩
theorem bcell {W w1:World} (hb:Below W.heap.size W w1):(∀b o,b<W.heap.size→w1.cell? ⟨b,o,none⟩=W.cell? ⟨b,o,none⟩)∧(∀b o,b<W.heap.size→w1.frozen? ⟨b,o,none⟩=W.frozen? ⟨b,o,none⟩):=
  ⟨fun _ _ h=>hb.cell h,fun _ _ h=>hb.frozen h⟩
theorem keep_cell {W w1:World} {B:Nat} (hb:Below B W w1) {b o:Nat} {v:Value} (h:W.cell? ⟨b,o,none⟩=some v) (hB:b<B):w1.cell? ⟨b,o,none⟩=some v:=
  (hb.cell (p:=⟨b,o,none⟩) hB).trans h
theorem ret_bool {a b:Bool} (h:a=b):Ending.returned (.bool a)=Ending.returned (.bool b):=by rw [h]
theorem ret_int {k:IntKind} {a b:Int} (h:a=b):Ending.returned (.int k a)=Ending.returned (.int k b):=by rw [h]
theorem num_eq {k:IntKind} {a b:Int} (h:a=b):Value.int k a=Value.int k b:=by rw [h]
theorem bytes_ext {a b:ByteArray} (h:a.toList=b.toList):a=b:=by
  rw [ByteArray.toList_eq,ByteArray.toList_eq] at h
  exact ByteArray.ext (Array.ext' h)
theorem _root_.Go.RowKit.Below.on {B:Nat} {a w w':World} (h:Below B a w) (hb:Below w.heap.size w w') (hB:B≤w.heap.size):Below B a w':=h.trans (hb.mono hB)
theorem _root_.Go.RowKit.Below.two {w w':World} {o1 o2:Obj} (hb:Below ((w.alloc o1).alloc o2).heap.size ((w.alloc o1).alloc o2) w'):Below w.heap.size w w':=
  (((Below.refl _ _).alloc (Nat.le_refl _) _).alloc (by simp) _).trans (hb.mono (by simp;omega))
theorem _root_.Go.RowKit.Below.one {w w':World} {o1:Obj} (hb:Below (w.alloc o1).heap.size (w.alloc o1) w'):Below w.heap.size w w':=
  ((Below.refl _ _).alloc (Nat.le_refl _) _).trans (hb.mono (by simp))
inductive V where
  |mk (k n:Int) (s:ByteArray) (l:List V) (o:List (ByteArray×V))
theorem V.ind {P:V→Prop} (h:∀k n s l o,(∀v ∈ l,P v)→(∀f ∈ o,P f.2)→P (.mk k n s l o)):∀v,P v:=by
  intro v
  refine V.rec (motive_1:=P) (motive_2:=fun l=>∀v ∈ l,P v) (motive_3:=fun o=>∀f ∈ o,P f.2) (motive_4:=fun f=>P f.2) ?_ ?_ ?_ ?_ ?_ ?_ v
  · exact fun k n s l o hl ho=>h k n s l o hl ho
  · intro v hv;cases hv
  · intro v l hv hl x hx
    rcases List.mem_cons.1 hx with rfl|hx
    · exact hv
    · exact hl x hx
  · intro f hf;cases hf
  · intro f o hf ho x hx
    rcases List.mem_cons.1 hx with rfl|hx
    · exact hf
    · exact ho x hx
  · intro k v hv;exact hv
structure VC where
  k:Int
  n:Int
  s:ByteArray
  la:Option Addr
  ll:Nat
  lc:Nat
  oa:Option Addr
  ol:Nat
  oc:Nat
def VC.agg (c:VC):Value:= .agg #[.int .u8 c.k, .int .i64 c.n, .string c.s, .slice c.la c.ll c.lc, .slice c.oa c.ol c.oc]
structure ValAt (w:World) (b o:Nat) (c:VC):Prop where
  c0:w.cell? ⟨b,o,none⟩=some (.int .u8 c.k)
  c1:w.cell? ⟨b,o+1,none⟩=some (.int .i64 c.n)
  c2:w.cell? ⟨b,o+2,none⟩=some (.string c.s)
  c3:w.cell? ⟨b,o+3,none⟩=some (.slice c.la c.ll c.lc)
  c4:w.cell? ⟨b,o+4,none⟩=some (.slice c.oa c.ol c.oc)
structure VC.Bnd (c:VC):Prop where
  k0:0≤c.k
  k1:c.k<256
  n0: -9223372036854775808≤c.n
  n1:c.n≤9223372036854775807
  s1:c.s.size≤140737488355328
  l1:c.ll≤c.lc
  l2:c.lc≤9223372036854775807
  l3:c.ll≤1466015503701
  o1:c.ol≤c.oc
  o2:c.oc≤9223372036854775807
  o3:c.ol≤1466015503701
inductive IsVal (w:World) (B:Nat):V→VC→Prop
  |mk (c:VC) (l:List V) (o:List (ByteArray×V)) (cl co:Nat→VC) (lb lo ob oo:Nat) (hb:c.Bnd)
      (hl:c.ll=l.length) (ho:c.ol=o.length)
      (hla:0<c.ll→c.la=some ⟨lb,lo,none⟩∧lb<B) (hoa:0<c.ol→c.oa=some ⟨ob,oo,none⟩∧ob<B)
      (hlc:∀i,i<l.length→ValAt w lb (lo+i*5) (cl i))
      (hlv:∀i (h:i<l.length),IsVal w B l[i] (cl i))
      (hoc:∀i (h:i<o.length),w.cell? ⟨ob,oo+i*6,none⟩=some (.string o[i].1)∧o[i].1.size≤140737488355328∧ValAt w ob (oo+i*6+1) (co i))
      (hov:∀i (h:i<o.length),IsVal w B o[i].2 (co i)):IsVal w B (.mk c.k c.n c.s l o) c
theorem ValAt.keep {w w':World} {B b o:Nat} {c:VC} (h:ValAt w b o c) (hb:Below B w w') (hB:b<B):ValAt w' b o c:=
  ⟨keep_cell hb h.c0 hB,keep_cell hb h.c1 hB,keep_cell hb h.c2 hB,keep_cell hb h.c3 hB,keep_cell hb h.c4 hB⟩
theorem IsVal.keep {w w':World} {B:Nat} (hb:Below B w w') {v:V} {c:VC} (h:IsVal w B v c):IsVal w' B v c:=by
  induction h with
  | mk c l o cl co lb lo ob oo hbd hl ho hla hoa hlc hlv hoc hov ihl iho=>
    refine .mk c l o cl co lb lo ob oo hbd hl ho hla hoa (fun i hi=>(hlc i hi).keep hb (hla (by omega)).2) ihl (fun i hi=> ?_) iho
    have hB:=(hoa (by omega)).2
    obtain ⟨h1,h2,h3⟩:=hoc i hi
    exact ⟨keep_cell hb h1 hB,h2,h3.keep hb hB⟩
theorem IsVal.more {w:World} {B B':Nat} (hB:B≤B') {v:V} {c:VC} (h:IsVal w B v c):IsVal w B' v c:=by
  induction h with
  | mk c l o cl co lb lo ob oo hbd hl ho hla hoa hlc hlv hoc hov ihl iho=>
    exact .mk c l o cl co lb lo ob oo hbd hl ho (fun h=>⟨(hla h).1,by have:=(hla h).2;omega⟩) (fun h=>⟨(hoa h).1,by have:=(hoa h).2;omega⟩) hlc ihl hoc iho
theorem IsVal.later_ {w w':World} (hb:Below w.heap.size w w') {v:V} {c:VC} (h:IsVal w w.heap.size v c):IsVal w' w'.heap.size v c:=
  (h.keep hb).more hb.size
theorem IsVal.bnd {w:World} {B:Nat} {v:V} {c:VC} (h:IsVal w B v c):c.Bnd:=by cases h;assumption
structure Boxed2 (w wr:World) (c d:VC):Prop where
  a:ValAt wr w.heap.size 0 c
  b:ValAt wr (w.heap.size+1) 0 d
  below:Below w.heap.size w wr
  size:w.heap.size+2≤wr.heap.size
theorem cells_new (w:World) (cs:Array Value) (t:TypeId) (j:Nat) (u:Value) (h:cs[j]? =some u):(w.alloc (.cells cs t)).cell? ⟨w.heap.size,j,none⟩=some u:=by
  rw [cell_of_row (w.alloc (.cells cs t)) w.heap.size j cs t (0,0) (heap_alloc_new w _)];exact h
theorem valAt_new (w:World) (c:VC) (t:TypeId):ValAt (w.alloc (.cells #[.int .u8 c.k, .int .i64 c.n, .string c.s, .slice c.la c.ll c.lc, .slice c.oa c.ol c.oc] t)) w.heap.size 0 c:=
  ⟨cells_new _ _ _ _ _ rfl,cells_new _ _ _ _ _ rfl,cells_new _ _ _ _ _ rfl,cells_new _ _ _ _ _ rfl,cells_new _ _ _ _ _ rfl⟩
theorem boxed2_start (w:World) (c d:VC) (t:TypeId):Boxed2 w ((w.alloc (.cells #[.int .u8 c.k, .int .i64 c.n, .string c.s, .slice c.la c.ll c.lc, .slice c.oa c.ol c.oc] t)).alloc (.cells #[.int .u8 d.k, .int .i64 d.n, .string d.s, .slice d.la d.ll d.lc, .slice d.oa d.ol d.oc] t)) c d:=by
  refine ⟨?_, ?_,((Below.refl _ _).alloc (Nat.le_refl _) _).alloc (by simp) _,by simp⟩
  · exact (valAt_new w c t).keep (B:=w.heap.size+1) ((Below.refl _ _).alloc (by simp) _) (by omega)
  · have h:=valAt_new (w.alloc (.cells #[.int .u8 c.k, .int .i64 c.n, .string c.s, .slice c.la c.ll c.lc, .slice c.oa c.ol c.oc] t)) d t
    rw [World.size_alloc] at h
    exact h
theorem Boxed2.step {w wr w':World} {c d:VC} (h:Boxed2 w wr c d) (hb:Below wr.heap.size wr w'):Boxed2 w w' c d:=
  ⟨h.a.keep hb (by have:=h.size;omega),h.b.keep hb (by have:=h.size;omega),h.below.trans (hb.mono (by have:=h.size;omega)),by have:=h.size;have:=hb.size;omega⟩
end Go.Proofs.YthceefjafklcmaaDoor
namespace Go.Proofs.YthceefjafklcmaaDoor
open Go.RowKit
mutual
def V.weight:V→Nat
  | .mk _ _ s l o=>1+s.size+weightL l+weightO o
def weightL:List V→Nat
  | [] =>0
  |v::r=>v.weight+weightL r
def weightO:List (ByteArray×V)→Nat
  | [] =>0
  |f::r=>weightF f+weightO r
def weightF:ByteArray×V→Nat
  |(k,v)=>k.size+v.weight
end
mutual
def V.deep:V→Nat
  | .mk _ _ _ l o=>max (deepL l) (deepO o)
def deepL:List V→Nat
  | [] =>0
  |v::r=>max (v.deep+1) (deepL r)
def deepO:List (ByteArray×V)→Nat
  | [] =>0
  |f::r=>max (deepF f+1) (deepO r)
def deepF:ByteArray×V→Nat
  |(_,v)=>v.deep
end
theorem weightL_append (a b:List V):weightL (a++b)=weightL a+weightL b:=by
  induction a with
  |nil=>simp [weightL]
  |cons v r ih=>simp only [List.cons_append,weightL,ih];omega
theorem weightO_append (a b:List (ByteArray×V)):weightO (a++b)=weightO a+weightO b:=by
  induction a with
  |nil=>simp [weightO]
  |cons v r ih=>simp only [List.cons_append,weightO,ih];omega
theorem weightF_eq (f:ByteArray×V):weightF f=f.1.size+f.2.weight:=by cases f;simp [weightF]
theorem deepF_eq (f:ByteArray×V):deepF f=f.2.deep:=by cases f;simp [deepF]
theorem deepL_append (a b:List V):deepL (a++b)=max (deepL a) (deepL b):=by
  induction a with
  |nil=>simp [deepL]
  |cons v r ih=>simp only [List.cons_append,deepL,ih];omega
theorem deepO_append (a b:List (ByteArray×V)):deepO (a++b)=max (deepO a) (deepO b):=by
  induction a with
  |nil=>simp [deepO]
  |cons v r ih=>simp only [List.cons_append,deepO,ih];omega
theorem take_snoc {α:Type} (l:List α) (k:Nat) (h:k<l.length):l.take (k+1)=l.take k++ [l[k]] :=by
  rw [List.take_succ_eq_append_getElem h]
theorem weightL_take (l:List V) (k:Nat) (h:k<l.length):weightL (l.take (k+1))=weightL (l.take k)+l[k].weight:=by
  rw [take_snoc l k h,weightL_append];simp [weightL]
theorem weightO_take (o:List (ByteArray×V)) (k:Nat) (h:k<o.length):weightO (o.take (k+1))=weightO (o.take k)+(o[k].1.size+o[k].2.weight):=by
  rw [take_snoc o k h,weightO_append];simp [weightO,weightF_eq]
theorem deepL_take (l:List V) (k:Nat) (h:k<l.length):deepL (l.take (k+1))=max (deepL (l.take k)) (l[k].deep+1):=by
  rw [take_snoc l k h,deepL_append];simp [deepL]
theorem deepO_take (o:List (ByteArray×V)) (k:Nat) (h:k<o.length):deepO (o.take (k+1))=max (deepO (o.take k)) (o[k].2.deep+1):=by
  rw [take_snoc o k h,deepO_append];simp [deepO,deepF_eq]
theorem weightL_take_le (l:List V) (k:Nat):weightL (l.take k)≤weightL l:=by
  have h:=weightL_append (l.take k) (l.drop k)
  rw [List.take_append_drop] at h;omega
theorem weightO_take_le (l:List (ByteArray×V)) (k:Nat):weightO (l.take k)≤weightO l:=by
  have h:=weightO_append (l.take k) (l.drop k)
  rw [List.take_append_drop] at h;omega
theorem weightL_mem (l:List V) (k:Nat) (h:k<l.length):l[k].weight≤weightL l:=by
  have:=weightL_take l k h;have:=weightL_take_le l (k+1);omega
theorem weightO_mem (l:List (ByteArray×V)) (k:Nat) (h:k<l.length):l[k].1.size+l[k].2.weight≤weightO l:=by
  have:=weightO_take l k h;have:=weightO_take_le l (k+1);omega
theorem V.deep_lt (v:V):v.deep<v.weight:=by
  induction v using V.ind with
  | h k n s l o ihl iho=>
    have hl:∀l:List V,(∀v ∈ l,v.deep<v.weight)→deepL l≤weightL l:=by
      intro l
      induction l with
      |nil=>intro _;simp [deepL]
      | cons v r ih=>
        intro h
        have h1:=h v (by simp)
        have h2:=ih (fun x hx=>h x (by simp [hx]))
        simp only [deepL,weightL];omega
    have ho:∀o:List (ByteArray×V),(∀f ∈ o,f.2.deep<f.2.weight)→deepO o≤weightO o:=by
      intro o
      induction o with
      |nil=>intro _;simp [deepO]
      | cons f r ih=>
        intro h
        have h1:=h f (by simp)
        have h2:=ih (fun x hx=>h x (by simp [hx]))
        simp only [deepO,weightO,weightF_eq,deepF_eq];omega
    have:=hl l ihl
    have:=ho o iho
    simp only [V.deep,V.weight];omega
def plainB (k n:Int) (s:ByteArray) (ll ol:Nat):Bool:=
  if k=0 then n==0 && s.toList.isEmpty && ll==0 && ol==0
  else if k=1 then (n==0||n==1) && s.toList.isEmpty && ll==0 && ol==0
  else if k=2 then s.toList.isEmpty && ll==0 && ol==0
  else if k=3 then n==0 && Lib.validD s.data.toList && ll==0 && ol==0
  else if k=4 then n==0 && s.toList.isEmpty && ol==0
  else if k=5 then n==0 && s.toList.isEmpty && ll==0
  else false
def rising:List (ByteArray×V)→Bool
  | [] =>true
  | [_] =>true
  |a::b::r=>Op.bytesLess a.1.toList b.1.toList && rising (b::r)
mutual
def V.sound:V→Bool
  | .mk k n s l o=>plainB k n s l.length o.length && rising o && soundL l && soundO o
def soundL:List V→Bool
  | [] =>true
  |v::r=>v.sound && soundL r
def soundO:List (ByteArray×V)→Bool
  | [] =>true
  |f::r=>soundF f && soundO r
def soundF:ByteArray×V→Bool
  |(k,v)=>Lib.validD k.data.toList && v.sound
end
theorem soundF_eq (f:ByteArray×V):soundF f=(Lib.validD f.1.data.toList && f.2.sound):=by cases f;simp [soundF]
theorem soundL_iff (l:List V):soundL l=true↔∀v ∈ l,v.sound=true:=by
  induction l with
  |nil=>simp [soundL]
  |cons v r ih=>simp [soundL,ih]
theorem soundO_iff (l:List (ByteArray×V)):soundO l=true↔∀f ∈ l,Lib.validD f.1.data.toList=true∧f.2.sound=true:=by
  induction l with
  |nil=>simp [soundO]
  |cons v r ih=>simp [soundO,ih,soundF_eq]
theorem rising_iff:∀o:List (ByteArray×V),rising o=true↔∀i (h:i+1<o.length),Op.bytesLess o[i].1.toList o[i+1].1.toList=true
  | [] =>by simp [rising]
  | [_] =>by simp [rising]
  | a ::b::r=>by
    have ih:=rising_iff (b::r)
    simp only [rising,Bool.and_eq_true,ih]
    constructor
    · rintro ⟨h1,h2⟩ i hi
      cases i with
      |zero=>exact h1
      |succ i=>exact h2 i (by simpa using hi)
    · intro h
      exact ⟨h 0 (by simp),fun i hi=>h (i+1) (by simpa using hi)⟩
end Go.Proofs.YthceefjafklcmaaDoor
namespace Go.Proofs.YthceefjafklcmaaDoor
open Go.RowKit
noncomputable def eqv (a b:V):Bool:= @decide (a=b) (Classical.propDecidable _)
theorem eqv_no {a b:V} (h:a≠b):eqv a b=false:=by simp [eqv,h]
theorem eqv_yes {a b:V} (h:a=b):eqv a b=true:=by simp [eqv,h]
theorem eq_of_eqv {a b:V} (h:eqv a b=true):a=b:=by simpa [eqv] using h
theorem ne_of_eqv {a b:V} (h:eqv a b=false):a≠b:=by simpa [eqv] using h
theorem same_step {l l':List V} {k:Nat} (h:Hid (∀j,j<k→l[j]? =l'[j]?)) (kl:k<l.length) (kl':k<l'.length) (e:eqv l[k] l'[k] =true):Hid (∀j,j<k+1→l[j]? =l'[j]?):=by
  intro j hj
  by_cases hjk:j=k
  · subst hjk;rw [List.getElem?_eq_getElem kl,List.getElem?_eq_getElem kl',eq_of_eqv e]
  · exact h.out j (by omega)
theorem same_stepF {o o':List (ByteArray×V)} {k:Nat} (h:Hid (∀j,j<k→o[j]? =o'[j]?)) (kl:k<o.length) (kl':k<o'.length) (e:eqv o[k].2 o'[k].2=true) (e1:o[k].1.toList=o'[k].1.toList):Hid (∀j,j<k+1→o[j]? =o'[j]?):=by
  intro j hj
  by_cases hjk:j=k
  · subst hjk;rw [List.getElem?_eq_getElem kl,List.getElem?_eq_getElem kl',Prod.ext (bytes_ext e1) (eq_of_eqv e)]
  · exact h.out j (by omega)
theorem eqv_no_l {k n k' n':Int} {s s':ByteArray} {l l':List V} {o o':List (ByteArray×V)} {j:Nat} (kl:j<l.length) (kl':j<l'.length) (e:eqv l[j] l'[j] =false):eqv (.mk k n s l o) (.mk k' n' s' l' o')=false:=
  eqv_no fun h=>by
    injection h with _ _ _ h4 _
    subst h4
    exact ne_of_eqv e rfl
theorem eqv_no_o {k n k' n':Int} {s s':ByteArray} {l l':List V} {o o':List (ByteArray×V)} {j:Nat} (kl:j<o.length) (kl':j<o'.length) (e:eqv o[j].2 o'[j].2=false∨o[j].1.toList≠o'[j].1.toList):eqv (.mk k n s l o) (.mk k' n' s' l' o')=false:=
  eqv_no fun h=>by
    injection h with _ _ _ _ h5
    subst h5
    rcases e with e|e
    · exact ne_of_eqv e rfl
    · exact e rfl
theorem list_of_same {α:Type} {l l':List α} {k:Nat} (h:∀j,j<k→l[j]? =l'[j]?) (hk:k=l.length) (hk':k=l'.length):l=l':=by
  apply List.ext_getElem?
  intro j
  by_cases hj:j<k
  · exact h j hj
  · rw [List.getElem?_eq_none (by omega),List.getElem?_eq_none (by omega)]
set_option maxHeartbeats 2000000 in
set_option maxRecDepth 100000 in
theorem refSame_any (a:V):∀(b:V) (w:World) (c d:VC),IsVal w w.heap.size a c→IsVal w w.heap.size b d→
    Calls Tryd.prog 15 #[.agg #[.int .u8 c.k, .int .i64 c.n, .string c.s, .slice c.la c.ll c.lc, .slice c.oa c.ol c.oc], .agg #[.int .u8 d.k, .int .i64 d.n, .string d.s, .slice d.la d.ll d.lc, .slice d.oa d.ol d.oc]] w fun e w'=>e= .returned (.bool (eqv a b))∧Below w.heap.size w w':=by
  induction a using V.ind with
  |h k n s l o ihl iho=>
  have IHL:=Lib.hid ihl;have IHO:=Lib.hid iho;clear ihl iho
  intro b w c d ha hb
  cases ha with
  |mk c l o cl co lb lo ob oo cbd hl ho hla hoa hlc hlv hoc hov=>
  cases hb with
  |mk d l' o' cl' co' lb' lo' ob' oo' dbd hl' ho' hla' hoa' hlc' hlv' hoc' hov'=>
  have c1:=cbd.l1;have c2:=cbd.l2;have c3:=cbd.o1;have c4:=cbd.o2;have d1:=dbd.l1;have d2:=dbd.l2;have d3:=dbd.o1;have d4:=dbd.o2
  have Hl:=Lib.hid hl;have Ho:=Lib.hid ho;have Hl':=Lib.hid hl';have Ho':=Lib.hid ho';clear hl ho hl' ho'
  have hst:=boxed2_start w c d 28
  by_cases e1:c.k=d.k
  case neg=>
    go_enter Tryd.func15,Tryd.ntmps15
    go_wp2_with fail
    go_ret
    exact ⟨ret_bool (eqv_no (fun h=>by injection h with h1;exact e1 h1)).symm,hst.below⟩
  by_cases e2:c.n=d.n
  case neg=>
    go_enter Tryd.func15,Tryd.ntmps15
    have H1:=Lib.hid e1;have f1:(c.k !=d.k)=false:=by rw [e1];simp
    clear e1
    go_wp2_with fail
    go_ret
    exact ⟨ret_bool (eqv_no (fun h=>by injection h with _ h1;exact e2 h1)).symm,hst.below⟩
  by_cases e3:c.s.toList=d.s.toList
  case neg=>
    go_enter Tryd.func15,Tryd.ntmps15
    have f1:(c.k !=d.k)=false:=by rw [e1];simp
    have f2:(c.n !=d.n)=false:=by rw [e2];simp
    have f3:(c.s.toList==d.s.toList)=false:=by simp [e3]
    have H3:=Lib.hid e3
    clear e1 e2 e3
    go_wp2_with fail
    go_ret
    exact ⟨ret_bool (eqv_no (fun h=>by injection h with _ _ h1;exact H3.out (by rw [h1]))).symm,hst.below⟩
  by_cases e4:c.ll=d.ll
  case neg=>
    go_enter Tryd.func15,Tryd.ntmps15
    have f1:(c.k !=d.k)=false:=by rw [e1];simp
    have f2:(c.n !=d.n)=false:=by rw [e2];simp
    have f3:(c.s.toList==d.s.toList)=true:=by rw [e3];simp
    have f4:((c.ll:Int) !=(d.ll:Int))=true:=by simp;omega
    clear e1 e2 e3
    go_wp2_with fail
    go_ret
    exact ⟨ret_bool (eqv_no (fun h=>by injection h with _ _ _ h1;exact e4 (by rw [Hl.out,Hl'.out,h1]))).symm,hst.below⟩
  by_cases e5:c.ol=d.ol
  case neg=>
    go_enter Tryd.func15,Tryd.ntmps15
    have f1:(c.k !=d.k)=false:=by rw [e1];simp
    have f2:(c.n !=d.n)=false:=by rw [e2];simp
    have f3:(c.s.toList==d.s.toList)=true:=by rw [e3];simp
    have f4:((c.ll:Int) !=(d.ll:Int))=false:=by rw [e4];simp
    have f5:((c.ol:Int) !=(d.ol:Int))=true:=by simp;omega
    clear e1 e2 e3 e4
    go_wp2_with fail
    go_ret
    exact ⟨ret_bool (eqv_no (fun h=>by injection h with _ _ _ _ h1;exact e5 (by rw [Ho.out,Ho'.out,h1]))).symm,hst.below⟩
  go_enter Tryd.func15,Tryd.ntmps15
  have f1:(c.k !=d.k)=false:=by rw [e1];simp
  have f2:(c.n !=d.n)=false:=by rw [e2];simp
  have f3:(c.s.toList==d.s.toList)=true:=by rw [e3];simp
  have f4:((c.ll:Int) !=(d.ll:Int))=false:=by rw [e4];simp
  have f5:((c.ol:Int) !=(d.ol:Int))=false:=by rw [e5];simp
  have He1:=Lib.hid e1;have He2:=Lib.hid e2;have He3:=Lib.hid e3;have He4:=Lib.hid e4;have He5:=Lib.hid e5;clear e1 e2 e3 e4 e5
  go_wp2_with fail
  go_loopw [5] (fun i wr=>∃k:Nat,k≤c.ll∧i= .int .i64 k∧Hid (∀j,j<k→l[j]? =l'[j]?)∧Boxed2 w wr c d) (fun i _=>c.ll - (intOf i).toNat)
  case atStart=>exact ⟨0,Nat.zero_le _,rfl,fun j hj=>by omega,hst⟩
  case round =>
    obtain ⟨k,hk,rfl,HJ,hB⟩:=hrel
    clear hst
    have b1:wr.cell? ⟨w.heap.size,3,none⟩=some (.slice c.la c.ll c.lc):=hB.a.c3
    by_cases hlt:k<c.ll
    · have hlt':k<d.ll:=by rw [←He4.out];exact hlt
      obtain ⟨ela,hlb⟩:=hla (by omega)
      obtain ⟨ela',hlb'⟩:=hla' (by omega)
      have kl:k<l.length:=by rw [←Hl.out];exact hlt
      have kl':k<l'.length:=by rw [←Hl'.out];exact hlt'
      have x1:=(hlc k kl).keep hB.below hlb
      have x2:=(hlc' k kl').keep hB.below hlb'
      have q1:=later_cell b1
      have q2:=later_cell (show wr.cell? ⟨w.heap.size+1,3,none⟩=some (.slice d.la d.ll d.lc) from hB.b.c3)
      rw [ela] at q1;rw [ela'] at q2
      have r0:=later_cell x1.c0;have r1:=later_cell x1.c1;have r2:=later_cell x1.c2;have r3:=later_cell x1.c3;have r4:=later_cell x1.c4
      have s0:=later_cell x2.c0;have s1:=later_cell x2.c1;have s2:=later_cell x2.c2;have s3:=later_cell x2.c3;have s4:=later_cell x2.c4
      clear ela ela' x1 x2
      go_wp2_with fail
      refine wp_region_later (by kernel_rfl) (by kernel_rfl) ?_
      repeat (go_big_quiet_step (((go_at_call 15;refine later_call (IHL.out _ (List.getElem_mem kl) (l'[k]'kl') _ _ _ ?_ ?_);exact ((hlv k kl).later_ (hB.below)).later_ (below_later _ _);exact ((hlv' k kl').later_ (hB.below)).later_ (below_later _ _)))))
      refine wpQuiet_nil ?_
      intro _ hw'
      obtain ⟨pq,hw''⟩:=hw'
      subst hw''
      clear r0 r1 r2 r3 r4 s0 s1 s2 s3 s4 q1 q2
      have hB2:=hB.step (below_later wr pq)
      by_cases ev:eqv l[k] l'[k] =true
      · have EV:=Lib.hid ev
        go_wp2_with fail
        go_roundw
        case rel=>exact ⟨k+1,by omega,by go_num,same_step HJ kl kl' EV.out,hB2⟩
        case measure=>simp [intOf];omega
      · have ev2:eqv l[k] l'[k] =false:=by simpa using ev
        have EV:=Lib.hid ev2
        go_wp2_with fail
        go_ret
        exact ⟨ret_bool (eqv_no_l kl kl' EV.out).symm,hB2.below⟩
    · go_wp2_with fail
      go_loopw [7] (fun i wr=>∃k:Nat,k≤c.ol∧i= .int .i64 k∧Hid (∀j,j<k→o[j]? =o'[j]?)∧Boxed2 w wr c d) (fun i _=>c.ol - (intOf i).toNat)
      case atStart=>exact ⟨0,Nat.zero_le _,rfl,fun j hj=>by omega,hB⟩
      case round=>
        have HL:Hid (l=l'):=list_of_same HJ.out (by have:=Hl.out;omega) (by have:=Hl'.out;have:=He4.out;omega)
        clear HJ b1 hB hlt hk
        obtain ⟨k2,hk,rfl,HJ,hB⟩:=hrel
        have b1:wr.cell? ⟨w.heap.size,4,none⟩=some (.slice c.oa c.ol c.oc):=hB.a.c4
        by_cases hlt:k2<c.ol
        · have hlt':k2<d.ol:=by rw [←He5.out];exact hlt
          obtain ⟨ela,hlb⟩:=hoa (by omega)
          obtain ⟨ela',hlb'⟩:=hoa' (by omega)
          have kl:k2<o.length:=by rw [←Ho.out];exact hlt
          have kl':k2<o'.length:=by rw [←Ho'.out];exact hlt'
          obtain ⟨g1,_,x1⟩:=hoc k2 kl
          obtain ⟨g2,_,x2⟩:=hoc' k2 kl'
          have x1:=x1.keep hB.below hlb
          have x2:=x2.keep hB.below hlb'
          have g1:=keep_cell hB.below g1 hlb
          have g2:=keep_cell hB.below g2 hlb'
          have b2:wr.cell? ⟨w.heap.size+1,4,none⟩=some (.slice d.oa d.ol d.oc):=hB.b.c4
          have q1:=later_cell b1
          have q2:=later_cell b2
          rw [ela] at q1 b1;rw [ela'] at q2 b2
          have r0:=later_cell x1.c0;have r1:=later_cell x1.c1;have r2:=later_cell x1.c2;have r3:=later_cell x1.c3;have r4:=later_cell x1.c4
          have s0:=later_cell x2.c0;have s1:=later_cell x2.c1;have s2:=later_cell x2.c2;have s3:=later_cell x2.c3;have s4:=later_cell x2.c4
          have t1:=later_cell g1;have t2:=later_cell g2
          clear ela ela' x1 x2
          go_wp2_with fail
          refine wp_region_later (by kernel_rfl) (by kernel_rfl) ?_
          repeat (go_big_quiet_step (((go_at_call 15;refine later_call (IHO.out _ (List.getElem_mem kl) (o'[k2]'kl').2 _ _ _ ?_ ?_);exact ((hov k2 kl).later_ (hB.below)).later_ (below_later _ _);exact ((hov' k2 kl').later_ (hB.below)).later_ (below_later _ _)))))
          refine wpQuiet_nil ?_
          intro _ hw'
          obtain ⟨pq,hw''⟩:=hw'
          subst hw''
          clear r0 r1 r2 r3 r4 s0 s1 s2 s3 s4
          have t1':=later_cell (t1 pq);have t2':=later_cell (t2 pq);have q1':=later_cell (q1 pq);have q2':=later_cell (q2 pq)
          clear t1 t2 q1 q2 g1 g2 b1 b2
          have hB2:=hB.step (below_later wr pq)
          by_cases ev:eqv o[k2].2 o'[k2].2=true
          · have EV:=Lib.hid ev
            by_cases es:o[k2].1.toList=o'[k2].1.toList
            · have fs:(o[k2].1.toList==o'[k2].1.toList)=true:=by rw [es];simp
              have ES:=Lib.hid es
              clear es
              go_wp2_with fail
              refine wp_region_later (by kernel_rfl) (by kernel_rfl) ?_
              repeat (go_big_quiet_step (fail))
              refine wpQuiet_nil ?_
              intro _ hw'
              obtain ⟨pr,hw''⟩:=hw'
              subst hw''
              have hB3:=hB2.step (below_later (later wr pq) pr)
              go_wp2_with fail
              go_roundw
              case rel=>exact ⟨k2+1,by omega,by go_num,same_stepF HJ kl kl' EV.out ES.out,hB3⟩
              case measure=>simp [intOf];omega
            · have fs:(o[k2].1.toList==o'[k2].1.toList)=false:=by simp [es]
              have ES:=Lib.hid es
              clear es
              go_wp2_with fail
              refine wp_region_later (by kernel_rfl) (by kernel_rfl) ?_
              repeat (go_big_quiet_step (fail))
              refine wpQuiet_nil ?_
              intro _ hw'
              obtain ⟨pr,hw''⟩:=hw'
              subst hw''
              have hB3:=hB2.step (below_later (later wr pq) pr)
              go_wp2_with fail
              go_ret
              exact ⟨ret_bool (eqv_no_o kl kl' (.inr ES.out)).symm,hB3.below⟩
          · have ev2:eqv o[k2].2 o'[k2].2=false:=by simpa using ev
            have EV:=Lib.hid ev2
            go_wp2_with fail
            refine wp_region_later (by kernel_rfl) (by kernel_rfl) ?_
            repeat (go_big_quiet_step (fail))
            refine wpQuiet_nil ?_
            intro _ hw'
            obtain ⟨pr,hw''⟩:=hw'
            subst hw''
            have hB3:=hB2.step (below_later (later wr pq) pr)
            go_wp2_with fail
            go_ret
            exact ⟨ret_bool (eqv_no_o kl kl' (.inl EV.out)).symm,hB3.below⟩
        · go_wp2_with fail
          go_ret
          refine ⟨ret_bool (eqv_yes ?_).symm,hB.below⟩
          rw [He1.out,He2.out,bytes_ext He3.out,HL.out,list_of_same HJ.out (by have:=Ho.out;omega) (by have:=Ho'.out;have:=He5.out;omega)]
end Go.Proofs.YthceefjafklcmaaDoor
namespace Go.Proofs.YthceefjafklcmaaDoor
open Go.RowKit
noncomputable def eqB {α:Type} (a b:α):Bool:= @decide (a=b) (Classical.propDecidable _)
theorem eqB_no {α:Type} {a b:α} (h:a≠b):eqB a b=false:=by simp [eqB,h]
theorem eqB_yes {α:Type} {a b:α} (h:a=b):eqB a b=true:=by simp [eqB,h]
theorem eq_of_eqB {α:Type} {a b:α} (h:eqB a b=true):a=b:=by simpa [eqB] using h
theorem ne_of_eqB {α:Type} {a b:α} (h:eqB a b=false):a≠b:=by simpa [eqB] using h
structure St where
  list:Bool
  i:Int
  key:ByteArray
structure St.Bnd (s:St):Prop where
  i0: -9223372036854775808≤s.i
  i1:s.i≤9223372036854775807
  k1:s.key.size≤140737488355328
structure StepAt (w:World) (b o:Nat) (s:St):Prop where
  c0:w.cell? ⟨b,o,none⟩=some (.bool s.list)
  c1:w.cell? ⟨b,o+1,none⟩=some (.int .i64 s.i)
  c2:w.cell? ⟨b,o+2,none⟩=some (.string s.key)
theorem StepAt.keep {w w':World} {B b o:Nat} {s:St} (h:StepAt w b o s) (hb:Below B w w') (hB:b<B):StepAt w' b o s:=
  ⟨keep_cell hb h.c0 hB,keep_cell hb h.c1 hB,keep_cell hb h.c2 hB⟩
structure IsSteps (w:World) (B:Nat) (p:List St) (a:Option Addr) (n c:Nat):Prop where
  len:n=p.length
  cap:n≤c
  max:c≤9223372036854775807
  few:n≤1466015503701
  at_:∃b o,(0<n→a=some ⟨b,o,none⟩∧b<B)∧∀i (h:i<p.length),StepAt w b (o+i*3) p[i] ∧p[i].Bnd
theorem IsSteps.keep {w w':World} {B:Nat} {p:List St} {a:Option Addr} {n c:Nat} (h:IsSteps w B p a n c) (hb:Below B w w'):IsSteps w' B p a n c:=by
  obtain ⟨h1,h2,h3,h4,b,o,h5,h6⟩:=h
  exact ⟨h1,h2,h3,h4,b,o,h5,fun i hi=>⟨(h6 i hi).1.keep hb (h5 (by omega)).2,(h6 i hi).2⟩⟩
theorem IsSteps.more {w:World} {B B':Nat} {p:List St} {a:Option Addr} {n c:Nat} (h:IsSteps w B p a n c) (hB:B≤B'):IsSteps w B' p a n c:=by
  obtain ⟨h1,h2,h3,h4,b,o,h5,h6⟩:=h
  exact ⟨h1,h2,h3,h4,b,o,fun hn=>⟨(h5 hn).1,by have:=(h5 hn).2;omega⟩,h6⟩
theorem IsSteps.later_ {w w':World} {p:List St} {a:Option Addr} {n c:Nat} (h:IsSteps w w.heap.size p a n c) (hb:Below w.heap.size w w'):IsSteps w' w'.heap.size p a n c:=
  (h.keep hb).more hb.size
theorem IsSteps.get {w:World} {B:Nat} {p:List St} {a:Option Addr} {n c k:Nat} (h:IsSteps w B p a n c) (hk:k<n):
    ∃b o,∃hp:k<p.length,a=some ⟨b,o,none⟩∧b<B∧StepAt w b (o+k*3) p[k] ∧p[k].Bnd:=by
  obtain ⟨h1,h2,h3,h4,b,o,h5,h6⟩:=h
  have hp:k<p.length:=by omega
  exact ⟨b,o,hp,(h5 (by omega)).1,(h5 (by omega)).2,(h6 k hp).1,(h6 k hp).2⟩
theorem IsSteps.nil (w:World) (B:Nat):IsSteps w B [] none 0 0:=⟨rfl,Nat.le_refl _,by omega,by omega,0,0,fun h=>by omega,fun i hi=>by cases hi⟩
structure Cm where
  k:Int
  path:List St
  key:ByteArray
  i:Int
  j:Int
  n:Int
  v:V
  s:ByteArray
structure CC where
  k:Int
  pa:Option Addr
  pl:Nat
  pc:Nat
  key:ByteArray
  i:Int
  j:Int
  n:Int
  v:VC
  s:ByteArray
def CC.agg (c:CC):Value:= .agg #[.int .u8 c.k, .slice c.pa c.pl c.pc, .string c.key, .int .i64 c.i, .int .i64 c.j, .int .i64 c.n, .int .u8 c.v.k, .int .i64 c.v.n, .string c.v.s, .slice c.v.la c.v.ll c.v.lc, .slice c.v.oa c.v.ol c.v.oc, .string c.s]
structure CompAt (w:World) (b o:Nat) (c:CC):Prop where
  c0:w.cell? ⟨b,o,none⟩=some (.int .u8 c.k)
  c1:w.cell? ⟨b,o+1,none⟩=some (.slice c.pa c.pl c.pc)
  c2:w.cell? ⟨b,o+2,none⟩=some (.string c.key)
  c3:w.cell? ⟨b,o+3,none⟩=some (.int .i64 c.i)
  c4:w.cell? ⟨b,o+4,none⟩=some (.int .i64 c.j)
  c5:w.cell? ⟨b,o+5,none⟩=some (.int .i64 c.n)
  c6:ValAt w b (o+6) c.v
  c11:w.cell? ⟨b,o+11,none⟩=some (.string c.s)
theorem CompAt.keep {w w':World} {B b o:Nat} {c:CC} (h:CompAt w b o c) (hb:Below B w w') (hB:b<B):CompAt w' b o c:=
  ⟨keep_cell hb h.c0 hB,keep_cell hb h.c1 hB,keep_cell hb h.c2 hB,keep_cell hb h.c3 hB,keep_cell hb h.c4 hB,keep_cell hb h.c5 hB,h.c6.keep hb hB,keep_cell hb h.c11 hB⟩
structure CC.Bnd (c:CC):Prop where
  k0:0≤c.k
  k1:c.k<256
  i0: -9223372036854775808≤c.i
  i1:c.i≤9223372036854775807
  j0: -9223372036854775808≤c.j
  j1:c.j≤9223372036854775807
  n0: -9223372036854775808≤c.n
  n1:c.n≤9223372036854775807
  key1:c.key.size≤140737488355328
  s1:c.s.size≤140737488355328
inductive IsComp (w:World) (B:Nat):Cm→CC→Prop
  |mk (c:CC) (p:List St) (v:V) (hb:c.Bnd) (hp:IsSteps w B p c.pa c.pl c.pc) (hv:IsVal w B v c.v):IsComp w B ⟨c.k,p,c.key,c.i,c.j,c.n,v,c.s⟩ c
theorem IsComp.keep {w w':World} {B:Nat} (hb:Below B w w') {x:Cm} {c:CC} (h:IsComp w B x c):IsComp w' B x c:=by
  cases h with
  |mk c p v hbd hp hv=>exact .mk c p v hbd (hp.keep hb) (hv.keep hb)
theorem IsComp.more {w:World} {B B':Nat} (hB:B≤B') {x:Cm} {c:CC} (h:IsComp w B x c):IsComp w B' x c:=by
  cases h with
  |mk c p v hbd hp hv=>exact .mk c p v hbd (hp.more hB) (hv.more hB)
theorem IsComp.later_ {w w':World} (hb:Below w.heap.size w w') {x:Cm} {c:CC} (h:IsComp w w.heap.size x c):IsComp w' w'.heap.size x c:=(h.keep hb).more hb.size
structure IsComps (w:World) (B:Nat) (l:List Cm) (a:Option Addr) (n c:Nat):Prop where
  len:n=l.length
  cap:n≤c
  max:c≤9223372036854775807
  few:n≤1466015503701
  at_:∃b o,∃f:Nat→CC,(0<n→a=some ⟨b,o,none⟩∧b<B)∧∀i (h:i<l.length),CompAt w b (o+i*12) (f i)∧IsComp w B l[i] (f i)
theorem IsComps.keep {w w':World} {B:Nat} {l:List Cm} {a:Option Addr} {n c:Nat} (h:IsComps w B l a n c) (hb:Below B w w'):IsComps w' B l a n c:=by
  obtain ⟨h1,h2,h3,h4,b,o,f,h5,h6⟩:=h
  exact ⟨h1,h2,h3,h4,b,o,f,h5,fun i hi=>⟨(h6 i hi).1.keep hb (h5 (by omega)).2,(h6 i hi).2.keep hb⟩⟩
theorem IsComps.more {w:World} {B B':Nat} {l:List Cm} {a:Option Addr} {n c:Nat} (h:IsComps w B l a n c) (hB:B≤B'):IsComps w B' l a n c:=by
  obtain ⟨h1,h2,h3,h4,b,o,f,h5,h6⟩:=h
  exact ⟨h1,h2,h3,h4,b,o,f,fun hn=>⟨(h5 hn).1,by have:=(h5 hn).2;omega⟩,fun i hi=>⟨(h6 i hi).1,(h6 i hi).2.more hB⟩⟩
theorem IsComps.later_ {w w':World} {l:List Cm} {a:Option Addr} {n c:Nat} (h:IsComps w w.heap.size l a n c) (hb:Below w.heap.size w w'):IsComps w' w'.heap.size l a n c:=
  (h.keep hb).more hb.size
theorem IsComps.get {w:World} {B:Nat} {l:List Cm} {a:Option Addr} {n c k:Nat} (h:IsComps w B l a n c) (hk:k<n):
    ∃b o,∃f:CC,∃hp:k<l.length,a=some ⟨b,o,none⟩∧b<B∧CompAt w b (o+k*12) f∧IsComp w B l[k] f:=by
  obtain ⟨h1,h2,h3,h4,b,o,f,h5,h6⟩:=h
  have hp:k<l.length:=by omega
  exact ⟨b,o,f k,hp,(h5 (by omega)).1,(h5 (by omega)).2,(h6 k hp).1,(h6 k hp).2⟩
theorem IsComps.nil (w:World) (B:Nat):IsComps w B [] none 0 0:=⟨rfl,Nat.le_refl _,by omega,by omega,0,0,fun _=>⟨0,none,0,0, .empty,0,0,0,⟨0,0, .empty,none,0,0,none,0,0⟩, .empty⟩,fun h=>by omega,fun i hi=>by cases hi⟩
structure En where
  k:Int
  src:Int
  seq:Int
  v:V
  op:List Cm
structure EC where
  k:Int
  src:Int
  seq:Int
  v:VC
  oa:Option Addr
  ol:Nat
  oc:Nat
structure EC.Bnd (c:EC):Prop where
  k0:0≤c.k
  k1:c.k<256
  s0:0≤c.src
  s1:c.src<4294967296
  q0:0≤c.seq
  q1:c.seq<4294967296
structure EntryAt (w:World) (b o:Nat) (c:EC):Prop where
  c0:w.cell? ⟨b,o,none⟩=some (.int .u8 c.k)
  c1:w.cell? ⟨b,o+1,none⟩=some (.int .u32 c.src)
  c2:w.cell? ⟨b,o+2,none⟩=some (.int .u32 c.seq)
  c3:ValAt w b (o+3) c.v
  c8:w.cell? ⟨b,o+8,none⟩=some (.slice c.oa c.ol c.oc)
theorem EntryAt.keep {w w':World} {B b o:Nat} {c:EC} (h:EntryAt w b o c) (hb:Below B w w') (hB:b<B):EntryAt w' b o c:=
  ⟨keep_cell hb h.c0 hB,keep_cell hb h.c1 hB,keep_cell hb h.c2 hB,h.c3.keep hb hB,keep_cell hb h.c8 hB⟩
inductive IsEntry (w:World) (B:Nat):En→EC→Prop
  |mk (c:EC) (v:V) (l:List Cm) (hb:c.Bnd) (hv:IsVal w B v c.v) (ho:IsComps w B l c.oa c.ol c.oc):IsEntry w B ⟨c.k,c.src,c.seq,v,l⟩ c
theorem IsEntry.keep {w w':World} {B:Nat} (hb:Below B w w') {x:En} {c:EC} (h:IsEntry w B x c):IsEntry w' B x c:=by
  cases h with
  |mk c v l hbd hv ho=>exact .mk c v l hbd (hv.keep hb) (ho.keep hb)
theorem IsEntry.more {w:World} {B B':Nat} (hB:B≤B') {x:En} {c:EC} (h:IsEntry w B x c):IsEntry w B' x c:=by
  cases h with
  |mk c v l hbd hv ho=>exact .mk c v l hbd (hv.more hB) (ho.more hB)
theorem IsEntry.later_ {w w':World} (hb:Below w.heap.size w w') {x:En} {c:EC} (h:IsEntry w w.heap.size x c):IsEntry w' w'.heap.size x c:=(h.keep hb).more hb.size
def V.none:V:= .mk 0 0 .empty [] []
theorem isVal_none (w:World) (B:Nat):IsVal w B V.none ⟨0,0, .empty, .none,0,0, .none,0,0⟩:=
  .mk ⟨0,0, .empty, .none,0,0, .none,0,0⟩ [] [] (fun _=>⟨0,0, .empty, .none,0,0, .none,0,0⟩) (fun _=>⟨0,0, .empty, .none,0,0, .none,0,0⟩) 0 0 0 0
    ⟨by decide,by decide,by decide,by decide,by decide,by decide,by decide,by decide,by decide,by decide,by decide⟩ rfl rfl (fun h=>by cases h) (fun h=>by cases h) (fun i h=>by cases h) (fun i h=>by cases h) (fun i h=>by cases h) (fun i h=>by cases h)
end Go.Proofs.YthceefjafklcmaaDoor
namespace Go.Proofs.YthceefjafklcmaaDoor
open Go.RowKit
def VSame (a:V):Prop:=∀(b:V) (w:World) (c d:VC),IsVal w w.heap.size a c→IsVal w w.heap.size b d→
    Calls Tryd.prog 30 #[.agg #[.int .u8 c.k, .int .i64 c.n, .string c.s, .slice c.la c.ll c.lc, .slice c.oa c.ol c.oc], .agg #[.int .u8 d.k, .int .i64 d.n, .string d.s, .slice d.la d.ll d.lc, .slice d.oa d.ol d.oc]] w fun e w'=>e= .returned (.bool (eqv a b))∧Below w.heap.size w w'
structure IsVals (w:World) (B:Nat) (l:List V) (a:Option Addr) (n c:Nat):Prop where
  len:n=l.length
  cap:n≤c
  max:c≤9223372036854775807
  few:n≤1466015503701
  at_:∃b o,∃f:Nat→VC,(0<n→a=some ⟨b,o,none⟩∧b<B)∧∀i (h:i<l.length),ValAt w b (o+i*5) (f i)∧IsVal w B l[i] (f i)
theorem IsVals.get {w:World} {B:Nat} {l:List V} {a:Option Addr} {n c k:Nat} (h:IsVals w B l a n c) (hk:k<n):
    ∃b o,∃f:VC,∃hp:k<l.length,a=some ⟨b,o,none⟩∧b<B∧ValAt w b (o+k*5) f∧IsVal w B l[k] f:=by
  obtain ⟨h1,h2,h3,h4,b,o,f,h5,h6⟩:=h
  have hp:k<l.length:=by omega
  exact ⟨b,o,f k,hp,(h5 (by omega)).1,(h5 (by omega)).2,(h6 k hp).1,(h6 k hp).2⟩
structure IsFields (w:World) (B:Nat) (l:List (ByteArray×V)) (a:Option Addr) (n c:Nat):Prop where
  len:n=l.length
  cap:n≤c
  max:c≤9223372036854775807
  few:n≤1466015503701
  at_:∃b o,∃f:Nat→VC,(0<n→a=some ⟨b,o,none⟩∧b<B)∧∀i (h:i<l.length),w.cell? ⟨b,o+i*6,none⟩=some (.string l[i].1)∧l[i].1.size≤140737488355328∧ValAt w b (o+i*6+1) (f i)∧IsVal w B l[i].2 (f i)
theorem IsFields.get {w:World} {B:Nat} {l:List (ByteArray×V)} {a:Option Addr} {n c k:Nat} (h:IsFields w B l a n c) (hk:k<n):
    ∃b o,∃f:VC,∃hp:k<l.length,a=some ⟨b,o,none⟩∧b<B∧w.cell? ⟨b,o+k*6,none⟩=some (.string l[k].1)∧l[k].1.size≤140737488355328∧ValAt w b (o+k*6+1) f∧IsVal w B l[k].2 f:=by
  obtain ⟨h1,h2,h3,h4,b,o,f,h5,h6⟩:=h
  have hp:k<l.length:=by omega
  exact ⟨b,o,f k,hp,(h5 (by omega)).1,(h5 (by omega)).2,h6 k hp⟩
theorem IsVals.keep {w w':World} {B:Nat} {l:List V} {a:Option Addr} {n c:Nat} (h:IsVals w B l a n c) (hb:Below B w w'):IsVals w' B l a n c:=by
  obtain ⟨h1,h2,h3,h4,b,o,f,h5,h6⟩:=h
  exact ⟨h1,h2,h3,h4,b,o,f,h5,fun i hi=>⟨(h6 i hi).1.keep hb (h5 (by omega)).2,(h6 i hi).2.keep hb⟩⟩
theorem IsFields.keep {w w':World} {B:Nat} {l:List (ByteArray×V)} {a:Option Addr} {n c:Nat} (h:IsFields w B l a n c) (hb:Below B w w'):IsFields w' B l a n c:=by
  obtain ⟨h1,h2,h3,h4,b,o,f,h5,h6⟩:=h
  refine ⟨h1,h2,h3,h4,b,o,f,h5,fun i hi=> ?_⟩
  obtain ⟨g1,g2,g3,g4⟩:=h6 i hi
  have hB:=(h5 (by omega)).2
  exact ⟨keep_cell hb g1 hB,g2,g3.keep hb hB,g4.keep hb⟩
theorem IsVals.more {w:World} {B B':Nat} {l:List V} {a:Option Addr} {n c:Nat} (h:IsVals w B l a n c) (hB:B≤B'):IsVals w B' l a n c:=by
  obtain ⟨h1,h2,h3,h4,b,o,f,h5,h6⟩:=h
  exact ⟨h1,h2,h3,h4,b,o,f,fun hn=>⟨(h5 hn).1,by have:=(h5 hn).2;omega⟩,fun i hi=>⟨(h6 i hi).1,(h6 i hi).2.more hB⟩⟩
theorem IsFields.more {w:World} {B B':Nat} {l:List (ByteArray×V)} {a:Option Addr} {n c:Nat} (h:IsFields w B l a n c) (hB:B≤B'):IsFields w B' l a n c:=by
  obtain ⟨h1,h2,h3,h4,b,o,f,h5,h6⟩:=h
  refine ⟨h1,h2,h3,h4,b,o,f,fun hn=>⟨(h5 hn).1,by have:=(h5 hn).2;omega⟩,fun i hi=> ?_⟩
  obtain ⟨g1,g2,g3,g4⟩:=h6 i hi
  exact ⟨g1,g2,g3,g4.more hB⟩
theorem IsVals.later_ {w w':World} {l:List V} {a:Option Addr} {n c:Nat} (h:IsVals w w.heap.size l a n c) (hb:Below w.heap.size w w'):IsVals w' w'.heap.size l a n c:=(h.keep hb).more hb.size
theorem IsFields.later_ {w w':World} {l:List (ByteArray×V)} {a:Option Addr} {n c:Nat} (h:IsFields w w.heap.size l a n c) (hb:Below w.heap.size w w'):IsFields w' w'.heap.size l a n c:=(h.keep hb).more hb.size
theorem IsVal.lists {w:World} {B:Nat} {k n:Int} {s:ByteArray} {l:List V} {o:List (ByteArray×V)} {c:VC} (h:IsVal w B (.mk k n s l o) c):
    c.k=k∧c.n=n∧c.s=s∧c.Bnd∧IsVals w B l c.la c.ll c.lc∧IsFields w B o c.oa c.ol c.oc:=by
  cases h with
  | mk _ _ _ cl co lb lo ob oo hb hl ho hla hoa hlc hlv hoc hov=>
    exact ⟨rfl,rfl,rfl,hb,⟨hl,hb.l1,hb.l2,hb.l3,lb,lo,cl,hla,fun i hi=>⟨hlc i hi,hlv i hi⟩⟩,⟨ho,hb.o1,hb.o2,hb.o3,ob,oo,co,hoa,fun i hi=>⟨(hoc i hi).1,(hoc i hi).2.1,(hoc i hi).2.2,hov i hi⟩⟩⟩
set_option maxHeartbeats 2000000 in
set_option maxRecDepth 100000 in
theorem equalFuncVal (l l':List V) (IH:∀v ∈ l,VSame v) (w:World) (a a':Option Addr) (n m c c':Nat) (h:IsVals w w.heap.size l a n c) (h':IsVals w w.heap.size l' a' m c'):
    Calls Tryd.prog 47 #[.slice a n c, .slice a' m c', .func (.func 30) #[] #[]] w fun e w'=>e= .returned (.bool (eqB l l'))∧Below w.heap.size w w':=by
  have HI:=Lib.hid IH
  have k1:=h.max;have k2:=h.few;have k3:=h'.max;have k4:=h'.few
  have HLn:=Lib.hid h.len;have HLm:=Lib.hid h'.len
  clear IH
  by_cases e:n=m
  case neg=>
    go_enter Tryd.func47,Tryd.ntmps47
    have f1:((n:Int) !=(m:Int))=true:=by simp;omega
    go_wp2_with fail
    go_ret
    exact ⟨ret_bool (eqB_no (fun h=>e (by rw [HLn.out,HLm.out,h]))).symm,Below.refl _ _⟩
  subst e
  go_enter Tryd.func47,Tryd.ntmps47
  go_wp2_with fail
  go_loopw [17] (fun i wr=>∃k:Nat,k≤n∧i= .int .i64 k∧Hid (∀j,j<k→l[j]? =l'[j]?)∧Below w.heap.size w wr) (fun i _=>n - (intOf i).toNat)
  case atStart=>exact ⟨0,Nat.zero_le _,rfl,fun j hj=>by omega,Below.refl _ _⟩
  case round=>
    obtain ⟨k,hk,rfl,HJ,hB⟩:=hrel
    by_cases hlt:k<n
    · obtain ⟨b,o,f,kl,rfl,hb,x1,v1⟩:=h.get hlt
      obtain ⟨b',o',f',kl',rfl,hb',x2,v2⟩:=h'.get hlt
      have x1:=x1.keep hB hb
      have x2:=x2.keep hB hb'
      have r0:=x1.c0;have r1:=x1.c1;have r2:=x1.c2;have r3:=x1.c3;have r4:=x1.c4
      have s0:=x2.c0;have s1:=x2.c1;have s2:=x2.c2;have s3:=x2.c3;have s4:=x2.c4
      have hbr:b<wr.heap.size:=by have:=hB.size;omega
      have hbr':b'<wr.heap.size:=by have:=hB.size;omega
      clear x1 x2 h h'
      go_wp2_with fail
      refine (HI.out _ (List.getElem_mem kl) (l'[k]'kl') _ f f' ((v1.later_ hB).later_ (((Below.refl _ _).alloc (Nat.le_refl _) _).alloc (by simp) _)) ((v2.later_ hB).later_ (((Below.refl _ _).alloc (Nat.le_refl _) _).alloc (by simp) _))).mono ?_
      rintro e w' ⟨rfl,hb3⟩
      have hB2:=hB.on (Below.two hb3) hB.size
      clear hb3 r0 r1 r2 r3 r4 s0 s1 s2 s3 s4
      cases ev:eqv l[k] l'[k] with
      | true=>
        have EV:=Lib.hid ev
        clear ev
        go_wp2_with fail
        go_roundw
        case rel=>exact ⟨k+1,by omega,by go_num,same_step HJ kl kl' EV.out,hB2⟩
        case measure=>simp [intOf];omega
      | false=>
        have EV:=Lib.hid ev
        clear ev
        go_wp2_with fail
        go_ret
        exact ⟨ret_bool (eqB_no (fun h=>by subst h;exact ne_of_eqv EV.out rfl)).symm,hB2⟩
    · go_wp2_with fail
      go_ret
      exact ⟨ret_bool (eqB_yes (list_of_same HJ.out (by have:=HLn.out;omega) (by have:=HLm.out;omega))).symm,hB⟩
set_option maxHeartbeats 2000000 in
set_option maxRecDepth 100000 in
theorem sameField (k k':ByteArray) (v v':V) (IH:VSame v) (w:World) (f f':VC) (h:IsVal w w.heap.size v f) (h':IsVal w w.heap.size v' f'):
    Calls Tryd.prog 49 #[.agg #[.string k, .int .u8 f.k, .int .i64 f.n, .string f.s, .slice f.la f.ll f.lc, .slice f.oa f.ol f.oc], .agg #[.string k', .int .u8 f'.k, .int .i64 f'.n, .string f'.s, .slice f'.la f'.ll f'.lc, .slice f'.oa f'.ol f'.oc]] w fun e w'=>e= .returned (.bool (eqB (k,v) (k',v')))∧Below w.heap.size w w':=by
  have HI:=Lib.hid IH
  clear IH
  by_cases e:k.toList=k'.toList
  case neg=>
    go_enter Tryd.func49,Tryd.ntmps49
    have f1:(k.toList==k'.toList)=false:=by simp [e]
    have He:=Lib.hid e
    clear e
    go_wp2_with fail
    go_ret
    exact ⟨ret_bool (eqB_no (fun h=>by injection h with h1;exact He.out (by rw [h1]))).symm,((Below.refl _ _).alloc (Nat.le_refl _) _).alloc (by simp) _⟩
  go_enter Tryd.func49,Tryd.ntmps49
  have f1:(k.toList==k'.toList)=true:=by rw [e];simp
  have He:=Lib.hid e
  clear e
  go_wp2_with fail
  refine (HI.out v' _ f f' (h.later_ (((Below.refl _ _).alloc (Nat.le_refl _) _).alloc (by simp) _)) (h'.later_ (((Below.refl _ _).alloc (Nat.le_refl _) _).alloc (by simp) _))).mono ?_
  rintro e w' ⟨rfl,hb⟩
  cases ev:eqv v v' with
  | true=>
    have EV:=Lib.hid ev
    clear ev
    go_wp2_with fail
    go_ret
    exact ⟨ret_bool (eqB_yes (Prod.ext (bytes_ext He.out) (eq_of_eqv EV.out))).symm,hb.two⟩
  | false=>
    have EV:=Lib.hid ev
    clear ev
    go_wp2_with fail
    go_ret
    exact ⟨ret_bool (eqB_no (fun h=>by injection h with h1 h2;exact ne_of_eqv EV.out h2)).symm,hb.two⟩
theorem same_stepB {α:Type} {l l':List α} {k:Nat} (h:Hid (∀j,j<k→l[j]? =l'[j]?)) (kl:k<l.length) (kl':k<l'.length) (e:eqB l[k] l'[k] =true):Hid (∀j,j<k+1→l[j]? =l'[j]?):=by
  intro j hj
  by_cases hjk:j=k
  · subst hjk;rw [List.getElem?_eq_getElem kl,List.getElem?_eq_getElem kl',eq_of_eqB e]
  · exact h.out j (by omega)
set_option maxHeartbeats 2000000 in
set_option maxRecDepth 100000 in
theorem equalFuncField (l l':List (ByteArray×V)) (IH:∀v ∈ l,VSame v.2) (w:World) (a a':Option Addr) (n m c c':Nat) (h:IsFields w w.heap.size l a n c) (h':IsFields w w.heap.size l' a' m c'):
    Calls Tryd.prog 48 #[.slice a n c, .slice a' m c', .func (.func 49) #[] #[]] w fun e w'=>e= .returned (.bool (eqB l l'))∧Below w.heap.size w w':=by
  have HI:=Lib.hid IH
  have k1:=h.max;have k2:=h.few;have k3:=h'.max;have k4:=h'.few
  have HLn:=Lib.hid h.len;have HLm:=Lib.hid h'.len
  clear IH
  by_cases e:n=m
  case neg=>
    go_enter Tryd.func48,Tryd.ntmps48
    have f1:((n:Int) !=(m:Int))=true:=by simp;omega
    go_wp2_with fail
    go_ret
    exact ⟨ret_bool (eqB_no (fun h=>e (by rw [HLn.out,HLm.out,h]))).symm,Below.refl _ _⟩
  subst e
  go_enter Tryd.func48,Tryd.ntmps48
  go_wp2_with fail
  go_loopw [17] (fun i wr=>∃k:Nat,k≤n∧i= .int .i64 k∧Hid (∀j,j<k→l[j]? =l'[j]?)∧Below w.heap.size w wr) (fun i _=>n - (intOf i).toNat)
  case atStart=>exact ⟨0,Nat.zero_le _,rfl,fun j hj=>by omega,Below.refl _ _⟩
  case round=>
    obtain ⟨k,hk,rfl,HJ,hB⟩:=hrel
    by_cases hlt:k<n
    · obtain ⟨b,o,f,kl,rfl,hb,g1,_,x1,v1⟩:=h.get hlt
      obtain ⟨b',o',f',kl',rfl,hb',g2,_,x2,v2⟩:=h'.get hlt
      have x1:=x1.keep hB hb
      have x2:=x2.keep hB hb'
      have g1:=keep_cell hB g1 hb
      have g2:=keep_cell hB g2 hb'
      have r0:=x1.c0;have r1:=x1.c1;have r2:=x1.c2;have r3:=x1.c3;have r4:=x1.c4
      have s0:=x2.c0;have s1:=x2.c1;have s2:=x2.c2;have s3:=x2.c3;have s4:=x2.c4
      have hbr:b<wr.heap.size:=by have:=hB.size;omega
      have hbr':b'<wr.heap.size:=by have:=hB.size;omega
      clear x1 x2 h h'
      go_wp2_with fail
      refine (sameField l[k].1 (l'[k]'kl').1 l[k].2 (l'[k]'kl').2 (HI.out _ (List.getElem_mem kl)) _ f f' ((v1.later_ hB).later_ (((Below.refl _ _).alloc (Nat.le_refl _) _).alloc (by simp) _)) ((v2.later_ hB).later_ (((Below.refl _ _).alloc (Nat.le_refl _) _).alloc (by simp) _))).mono ?_
      rintro e w' ⟨rfl,hb3⟩
      have hB2:=hB.on (Below.two hb3) hB.size
      clear hb3 r0 r1 r2 r3 r4 s0 s1 s2 s3 s4 g1 g2
      cases ev:eqB (l[k].1,l[k].2) ((l'[k]'kl').1,(l'[k]'kl').2) with
      | true=>
        have EV:=Lib.hid ev
        clear ev
        go_wp2_with fail
        go_roundw
        case rel=>exact ⟨k+1,by omega,by go_num,same_stepB HJ kl kl' EV.out,hB2⟩
        case measure=>simp [intOf];omega
      | false=>
        have EV:=Lib.hid ev
        clear ev
        go_wp2_with fail
        go_ret
        exact ⟨ret_bool (eqB_no (fun h=>by subst h;exact ne_of_eqB EV.out rfl)).symm,hB2⟩
    · go_wp2_with fail
      go_ret
      exact ⟨ret_bool (eqB_yes (list_of_same HJ.out (by have:=HLn.out;omega) (by have:=HLm.out;omega))).symm,hB⟩
set_option maxHeartbeats 2000000 in
set_option maxRecDepth 100000 in
theorem valSame_any (a:V):VSame a:=by
  induction a using V.ind with
  |h k n s l o ihl iho=>
  have IHL:=Lib.hid ihl;have IHO:=Lib.hid iho;clear ihl iho
  intro b w c d ha hb
  obtain ⟨k',n',s',l',o'⟩:=b
  obtain ⟨rfl,rfl,rfl,cbd,hl,ho⟩:=ha.lists
  obtain ⟨rfl,rfl,rfl,dbd,hl',ho'⟩:=hb.lists
  clear ha hb cbd dbd
  have hst:=boxed2_start w c d 28
  by_cases e1:c.k=d.k
  case neg=>
    go_enter Tryd.func30,Tryd.ntmps30
    have f1:(c.k==d.k)=false:=by simp [e1]
    go_wp2_with fail
    go_ret
    exact ⟨ret_bool (eqv_no (fun h=>by injection h with h1;exact e1 h1)).symm,hst.below⟩
  by_cases e2:c.n=d.n
  case neg=>
    go_enter Tryd.func30,Tryd.ntmps30
    have f1:(c.k==d.k)=true:=by rw [e1];simp
    have f2:(c.n==d.n)=false:=by simp [e2]
    clear e1
    go_wp2_with fail
    go_ret
    exact ⟨ret_bool (eqv_no (fun h=>by injection h with _ h1;exact e2 h1)).symm,hst.below⟩
  by_cases e3:c.s.toList=d.s.toList
  case neg=>
    go_enter Tryd.func30,Tryd.ntmps30
    have f1:(c.k==d.k)=true:=by rw [e1];simp
    have f2:(c.n==d.n)=true:=by rw [e2];simp
    have f3:(c.s.toList==d.s.toList)=false:=by simp [e3]
    have H3:=Lib.hid e3
    clear e1 e2 e3
    go_wp2_with fail
    go_ret
    exact ⟨ret_bool (eqv_no (fun h=>by injection h with _ _ h1;exact H3.out (by rw [h1]))).symm,hst.below⟩
  go_enter Tryd.func30,Tryd.ntmps30
  have f1:(c.k==d.k)=true:=by rw [e1];simp
  have f2:(c.n==d.n)=true:=by rw [e2];simp
  have f3:(c.s.toList==d.s.toList)=true:=by rw [e3];simp
  have He1:=Lib.hid e1;have He2:=Lib.hid e2;have He3:=Lib.hid e3;clear e1 e2 e3
  go_wp2_with fail
  refine (equalFuncVal l l' IHL.out _ _ _ _ _ _ _ (hl.later_ hst.below) (hl'.later_ hst.below)).mono ?_
  rintro e w1 ⟨rfl,hb1⟩
  have hB:=hst.step hb1
  have b1:w1.cell? ⟨w.heap.size,4,none⟩=some (.slice c.oa c.ol c.oc):=hB.a.c4
  have b2:w1.cell? ⟨w.heap.size+1,4,none⟩=some (.slice d.oa d.ol d.oc):=hB.b.c4
  clear hst hb1
  cases e4:eqB l l' with
  | false=>
    have EV:=Lib.hid e4
    clear e4
    go_wp2_with fail
    go_ret
    exact ⟨ret_bool (eqv_no (fun h=>by injection h with _ _ _ h1;exact ne_of_eqB EV.out h1)).symm,hB.below⟩
  | true=>
    have EV:=Lib.hid e4
    clear e4
    go_wp2_with fail
    refine (equalFuncField o o' IHO.out _ _ _ _ _ _ _ (ho.later_ hB.below) (ho'.later_ hB.below)).mono ?_
    rintro e w2 ⟨rfl,hb2⟩
    have hB2:=hB.step hb2
    cases e5:eqB o o' with
    | false=>
      have EV2:=Lib.hid e5
      clear e5
      go_wp2_with fail
      go_ret
      exact ⟨ret_bool (eqv_no (fun h=>by injection h with _ _ _ _ h1;exact ne_of_eqB EV2.out h1)).symm,hB2.below⟩
    | true=>
      have EV2:=Lib.hid e5
      clear e5
      go_wp2_with fail
      go_ret
      exact ⟨ret_bool (eqv_yes (by rw [He1.out,He2.out,bytes_ext He3.out,eq_of_eqB EV.out,eq_of_eqB EV2.out])).symm,hB2.below⟩
end Go.Proofs.YthceefjafklcmaaDoor
namespace Go.Proofs.YthceefjafklcmaaDoor
open Go.RowKit Go.Shelf
attribute [local go_sem] Oper.semAt_some
structure KeepAt (m₀ Bs:Nat) (W W':World):Prop where
  size:W.heap.size≤W'.heap.size
  block:∀k,k<m₀∨k=Bs→W'.heap[k]? =W.heap[k]?
theorem KeepAt.refl (m₀ Bs:Nat) (W:World):KeepAt m₀ Bs W W:=⟨Nat.le_refl _,fun _ _=>rfl⟩
theorem KeepAt.trans {m₀ Bs:Nat} {A B C:World} (h:KeepAt m₀ Bs A B) (k:KeepAt m₀ Bs B C):KeepAt m₀ Bs A C:=⟨Nat.le_trans h.size k.size,fun i hi=>(k.block i hi).trans (h.block i hi)⟩
theorem KeepAt.cell {m₀ Bs b o:Nat} {v:Value} {W W':World} (h:KeepAt m₀ Bs W W') (hb:b<m₀∨b=Bs) (hc:W.cell? ⟨b,o,none⟩=some v):W'.cell? ⟨b,o,none⟩=some v:=
  (World.cell?_of_block (h.block b hb)).trans hc
theorem KeepAt.of_below {m₀ Bs n:Nat} {W W':World} (h:Below n W W') (h1:m₀≤n) (h2:Bs<n):KeepAt m₀ Bs W W':=
  ⟨h.size,fun k hk=>h.block k (by omega)⟩
theorem KeepAt.of_below_any {n:Nat} {W W':World} (h:Below n W W'):KeepAt n W'.heap.size W W':=
  ⟨h.size,fun k hk=>by
    rcases hk with hk|rfl
    · exact h.block k hk
    · rw [Array.getElem?_eq_none (Nat.le_refl _),Array.getElem?_eq_none h.size]⟩
theorem KeepAt.alloc {m₀ Bs:Nat} (W:World) (o:Obj) (h1:m₀≤W.heap.size) (h2:Bs<W.heap.size):KeepAt m₀ Bs W (W.alloc o):=
  .of_below ((Below.refl W.heap.size W).alloc (Nat.le_refl _) o) h1 h2
theorem KeepAt.setCell {m₀ Bs:Nat} (W:World) {p:Addr} (u:Value) (h1:m₀≤p.block) (h2:Bs≠p.block):KeepAt m₀ Bs W (W.setCell p u):=
  ⟨by simp [World.setCell],fun k hk=>Below.heap_setCell _ _ _ _ (by omega)⟩
theorem keepAt_t {m₀ Bs:Nat} :∀ {A B C:World},KeepAt m₀ Bs A B→KeepAt m₀ Bs B C→KeepAt m₀ Bs A C:=fun h k=>h.trans k
theorem keepAt_b {m₀ Bs n:Nat} (h1:m₀≤n) (h2:Bs<n):∀(W:World) (l:Nat) (o o':Obj),n≤l→W.heap[l]? =some o→o.isCells=false→o.isWalk=false→KeepAt m₀ Bs W (W.putObj l o'):=
  fun W l _ o' hl ho _ _=>⟨(grownBy_putObj' W l o').size,fun k hk=>
    (grownBy_putObj' W l o').block k (by have:=(Array.getElem?_eq_some_iff.1 ho).1;omega) (fun e=>by cases e;omega)⟩
theorem ValAt.keepAt {m₀ Bs b o:Nat} {c:VC} {W W':World} (h:ValAt W b o c) (hk:KeepAt m₀ Bs W W') (hb:b<m₀∨b=Bs):ValAt W' b o c:=
  ⟨hk.cell hb h.c0,hk.cell hb h.c1,hk.cell hb h.c2,hk.cell hb h.c3,hk.cell hb h.c4⟩
structure IsKids {α:Type} (kk:α→ByteArray) (kv:α→VC) (n₀:Nat) (w:World) (c:VC) (ks:List α):Prop where
  len:ks.length=c.ll+c.ol
  l:∀i (h:i<ks.length),i<c.ll→kk ks[i] =⟨#[]⟩∧∃b o,c.la=some ⟨b,o,none⟩∧b<n₀∧ValAt w b (o+i*5) (kv ks[i])
  o:∀i (h:c.ll+i<ks.length),∃b o,c.oa=some ⟨b,o,none⟩∧b<n₀∧w.cell? ⟨b,o+i*6,none⟩=some (.string (kk ks[c.ll+i]))∧ValAt w b (o+i*6+1) (kv ks[c.ll+i])
theorem IsKids.keep {α:Type} {kk:α→ByteArray} {kv:α→VC} {n₀:Nat} {w w':World} {c:VC} {ks:List α} (h:IsKids kk kv n₀ w c ks) {Bs:Nat} (hb:KeepAt n₀ Bs w w'):IsKids kk kv n₀ w' c ks:=by
  refine ⟨h.len,fun i hi hl=> ?_,fun i hi=> ?_⟩
  · obtain ⟨h1,b,o,h2,h3,h4⟩:=h.l i hi hl
    exact ⟨h1,b,o,h2,h3,h4.keepAt hb (.inl h3)⟩
  · obtain ⟨b,o,h2,h3,h4,h5⟩:=h.o i hi
    exact ⟨b,o,h2,h3,hb.cell (.inl h3) h4,h5.keepAt hb (.inl h3)⟩
set_option maxHeartbeats 2000000 in
set_option maxRecDepth 100000 in
theorem within_in (F:Fence) (n:Nat) (hf:F.fn 89) (hro:F.round=none) (c:VC) (w:World):
    CallsIn F n Tryd.prog 89 #[.agg #[.int .u8 c.k, .int .i64 c.n, .string c.s, .slice c.la c.ll c.lc, .slice c.oa c.ol c.oc]] w fun e w'=>e= .returned (.func (.func 93) #[] #[.pointer (some ⟨w.heap.size,0,none⟩)])∧w'=w.alloc (.cells #[.int .u8 c.k, .int .i64 c.n, .string c.s, .slice c.la c.ll c.lc, .slice c.oa c.ol c.oc] 28):=by
  refine callsIn_of_wp Tryd.func89 rfl hf ?_ hro
  simp only [Tryd.ntmps89,List.size_toArray,List.length_cons,List.length_nil,Nat.reduceAdd,Nat.reduceSub,Array.replicate_succ,Array.replicate_zero,List.push_toArray,List.append_toArray,List.nil_append,List.cons_append]
  gi_wp2
  go_ret
  exact ⟨rfl,rfl⟩
set_option maxHeartbeats 4000000 in
set_option maxRecDepth 100000 in
theorem within1_in {α:Type} (kk:α→ByteArray) (kv:α→VC) (F:Fence) (n:Nat) (h1:F.fn 93) (hro:F.round=none) (hn:1≤n) (l Bs n₀:Nat) (c:VC) (cbd:c.Bnd) (ks:List α) (J Jx:List α→World→Prop)
    (W:World) (hJ:AbidesFrom W.heap.size J) (hY:∀pre x W,J pre W→pre.length<ks.length→YieldAt F (n - 1) Tryd.prog l #[.string (kk x), .agg #[.int .u8 (kv x).k, .int .i64 (kv x).n, .string (kv x).s, .slice (kv x).la (kv x).ll (kv x).lc, .slice (kv x).oa (kv x).ol (kv x).oc]] W fun e W'=>
      (e= .returned (.bool true)∧J (pre++ [x]) W'∧KeepAt n₀ Bs W W')∨(e= .returned (.bool false)∧Jx (pre++ [x]) W'))
    (hBs:ValAt W Bs 0 c) (hBn:Bs<W.heap.size) (hn₀:n₀≤W.heap.size) (hk:IsKids kk kv n₀ W c ks) (h0:J [] W):
    CallsIn F n Tryd.prog 93 #[.func (.yield l) #[] #[], .pointer (some ⟨Bs,0,none⟩)] W fun e W'=>(∃v,e= .returned v)∧
      ((∃ys,ys=ks∧J ys W')∨(∃pre,pre<+:ks∧Jx pre W')):=by
  have c1:=cbd.l1;have c2:=cbd.l2;have c3:=cbd.o1;have c4:=cbd.o2;have c5:=cbd.l3;have c6:=cbd.o3
  have HLen:=Lib.hid hk.len
  have b4:W.cell? ⟨Bs,4,none⟩=some (.slice c.oa c.ol c.oc):=hBs.c4
  have b3:W.cell? ⟨Bs,3,none⟩=some (.slice c.la c.ll c.lc):=hBs.c3
  obtain ⟨ck,cn,cs,la,ll,lc,oa,ol,oc⟩:=c
  dsimp only at*
  clear hBs cbd
  have HB4:=Lib.hid b4
  clear b4
  refine callsIn_of_wp Tryd.func93 rfl h1 ?_ hro
  simp only [Tryd.ntmps93,List.size_toArray,List.length_cons,List.length_nil,Nat.reduceAdd,Nat.reduceSub,Array.replicate_succ,Array.replicate_zero,List.push_toArray,List.append_toArray,List.nil_append,List.cons_append]
  gi_wp2
  gi_loopw [10] (fun i wr=>∃k:Nat,k≤ll∧i= .int .i64 k∧J (ks.take k) wr∧KeepAt n₀ Bs W wr)
    (fun i _=>ll - (intOf i).toNat)
  case atStart=>exact ⟨0,Nat.zero_le _,rfl,h0,KeepAt.refl _ _ _⟩
  case round=>
    obtain ⟨k,hkk,rfl,hJs,hB⟩:=hrel
    by_cases hlt:k<ll
    · have kl:k<ks.length:=by rw [HLen.out];omega
      obtain ⟨ek,b,o,ea,hb,x1⟩:=(hk.keep hB).l k kl hlt
      dsimp only at ea
      subst ea
      have r0:=x1.c0;have r1:=x1.c1;have r2:=x1.c2;have r3:=x1.c3;have r4:=x1.c4
      have hJ2:=hJ _ _ (wr.alloc (.cells #[.int .u8 (kv ks[k]).k, .int .i64 (kv ks[k]).n, .string (kv ks[k]).s, .slice (kv ks[k]).la (kv ks[k]).ll (kv ks[k]).lc, .slice (kv ks[k]).oa (kv ks[k]).ol (kv ks[k]).oc] 28)) none hJs (World.grownBy_alloc _ _ _) (fun r e=>by cases e)
      obtain ⟨fn,tmps,assign,body,hy,hR⟩:=hY _ ks[k] _ hJ2 (by rw [List.length_take];omega)
      rw [ek] at hy
      clear hJ2 x1
      have Hek:=Lib.hid ek
      clear ek
      gi_wp2
      refine hR.mono ?_
      rintro e W3 (⟨rfl,hJ3,hk3⟩|⟨rfl,hJx3⟩)
      · clear hy r0 r1 r2 r3 r4
        have hB3:=hB.trans ((KeepAt.alloc wr _ (by have:=hB.size;omega) (by have:=hB.size;omega)).trans hk3)
        gi_wp2
        go_roundw
        case rel=>exact ⟨k+1,by omega,by simp,by rw [take_snoc ks k kl];exact hJ3,hB3⟩
        case measure=>simp [intOf];omega
      · gi_wp2
        refine bodyPost_ret (results_none rfl _ _ _) rfl ?_
        exact ⟨⟨_,rfl⟩, .inr ⟨_,by rw [←take_snoc ks k kl];exact List.take_prefix _ _,hJx3⟩⟩
    · obtain rfl:k=ll:=by omega
      have b4:wr.cell? ⟨Bs,4,none⟩=some (.slice oa ol oc):=hB.cell (.inr rfl) HB4.out
      gi_wp2
      clear b4
      have hB0:=hB
      have hJs0:=hJs
      clear hB hJs hlt hkk
      gi_loopw [22] (fun i wr=>∃j:Nat,j≤ol∧i= .int .i64 j∧J (ks.take (k+j)) wr∧KeepAt n₀ Bs W wr)
        (fun i _=>ol - (intOf i).toNat)
      case atStart=>exact ⟨0,Nat.zero_le _,rfl,hJs0,hB0⟩
      case round=>
        clear hB0 hJs0
        obtain ⟨j,hkk,rfl,hJs,hB⟩:=hrel
        by_cases hlt:j<ol
        · have kl:k+j<ks.length:=by rw [HLen.out];omega
          obtain ⟨b,o,ea,hb,g1,x1⟩:=(hk.keep hB).o j kl
          dsimp only at ea
          subst ea
          dsimp only at g1 x1
          have r0:=x1.c0;have r1:=x1.c1;have r2:=x1.c2;have r3:=x1.c3;have r4:=x1.c4
          have hJ2:=hJ _ _ (wr.alloc (.cells #[.string (kk ks[k+j]), .int .u8 (kv ks[k+j]).k, .int .i64 (kv ks[k+j]).n, .string (kv ks[k+j]).s, .slice (kv ks[k+j]).la (kv ks[k+j]).ll (kv ks[k+j]).lc, .slice (kv ks[k+j]).oa (kv ks[k+j]).ol (kv ks[k+j]).oc] 67)) none hJs (World.grownBy_alloc _ _ _) (fun r e=>by cases e)
          obtain ⟨fn,tmps,assign,body,hy,hR⟩:=hY _ ks[k+j] _ hJ2 (by rw [List.length_take];omega)
          clear hJ2 x1
          gi_wp2
          refine hR.mono ?_
          rintro e W3 (⟨rfl,hJ3,hk3⟩|⟨rfl,hJx3⟩)
          · clear hy r0 r1 r2 r3 r4 g1
            have hB3:=hB.trans ((KeepAt.alloc wr _ (by have:=hB.size;omega) (by have:=hB.size;omega)).trans hk3)
            gi_wp2
            go_roundw
            case rel=>exact ⟨j+1,by omega,by simp,by rw [←Nat.add_assoc,take_snoc ks (k+j) kl];exact hJ3,hB3⟩
            case measure=>simp [intOf];omega
          · gi_wp2
            refine bodyPost_ret (results_none rfl _ _ _) rfl ?_
            exact ⟨⟨_,rfl⟩, .inr ⟨_,by rw [←take_snoc ks (k+j) kl];exact List.take_prefix _ _,hJx3⟩⟩
        · gi_wp2
          go_end0
          exact ⟨⟨_,rfl⟩, .inl ⟨_,rfl,by rw [List.take_of_length_le (by rw [HLen.out];omega)] at hJs;exact hJs⟩⟩
structure Kid (w:World) (P:V→Prop) where
  kk:ByteArray
  v:V
  kv:VC
  is:IsVal w w.heap.size v kv
  sz:kk.size≤140737488355328
  p:P v
def Kid.pair {w:World} {P:V→Prop} (x:Kid w P):ByteArray×V:=(x.kk,x.v)
def Kid.encs {w:World} {P:V→Prop} (x:Kid w P):Array Value:= #[.string x.kk, .agg #[.int .u8 x.kv.k, .int .i64 x.kv.n, .string x.kv.s, .slice x.kv.la x.kv.ll x.kv.lc, .slice x.kv.oa x.kv.ol x.kv.oc]]
def pairs (l:List V) (o:List (ByteArray×V)):List (ByteArray×V):=l.map (fun v=>(⟨#[]⟩,v))++o
theorem kids_of (w:World) (P:V→Prop) (l:List V) (o:List (ByteArray×V)) (c:VC) (h1:IsVals w w.heap.size l c.la c.ll c.lc) (h2:IsFields w w.heap.size o c.oa c.ol c.oc) (hl:∀v ∈ l,P v) (ho:∀f ∈ o,P f.2):
    ∃ks:List (Kid w P),IsKids Kid.kk Kid.kv w.heap.size w c ks∧ks.map Kid.pair=pairs l o:=by
  obtain ⟨l1,l2,l3,l4,lb,lo,lf,l5,l6⟩:=h1
  obtain ⟨o1,o2,o3,o4,ob,oo,of,o5,o6⟩:=h2
  refine ⟨List.ofFn (fun i:Fin l.length=>(⟨⟨#[]⟩,l[i],lf i,(l6 i i.2).2,Nat.zero_le _,hl _ (List.getElem_mem i.2)⟩:Kid w P))++List.ofFn (fun i:Fin o.length=>(⟨o[i].1,o[i].2,of i,(o6 i i.2).2.2.2,(o6 i i.2).2.1,ho _ (List.getElem_mem i.2)⟩:Kid w P)),⟨?_, ?_, ?_⟩, ?_⟩
  · simp [l1,o1]
  · intro i hi hil
    rw [List.getElem_append_left (by simp;omega)]
    simp only [List.getElem_ofFn]
    exact ⟨trivial,lb,lo,(l5 (by omega)).1,(l5 (by omega)).2,(l6 i (by omega)).1⟩
  · intro i hi
    simp only [List.length_append,List.length_ofFn] at hi
    rw [List.getElem_append_right (by simp;omega)]
    simp only [List.getElem_ofFn,List.length_ofFn,l1,Nat.add_sub_cancel_left]
    have hio:i<o.length:=by omega
    exact ⟨ob,oo,(o5 (by omega)).1,(o5 (by omega)).2,(o6 i hio).1,(o6 i hio).2.2.1⟩
  · simp only [List.map_append,pairs]
    congr 1
    · apply List.ext_getElem
      · simp
      · intro i h1 h2;simp [Kid.pair]
    · apply List.ext_getElem
      · simp
      · intro i h1 h2;simp [Kid.pair]
theorem within_stops (F:Fence) (n:Nat) (h1:F.fn 93) (hro:F.round=none) (hn:1≤n) (w0:World) (P:V→Prop) (Bs:Nat) (c:VC) (cbd:c.Bnd) (ks:List (Kid w0 P)) (w:World) (n₀:Nat) (hn₀:n₀≤w.heap.size) (hBn:Bs<w.heap.size)
    (hBs:ValAt w Bs 0 c) (hk:IsKids Kid.kk Kid.kv n₀ w c ks):
    SeqStopsK F n Tryd.prog 93 #[.pointer (some ⟨Bs,0,none⟩)] Kid.encs (KeepAt n₀ Bs) (fun ys=>ys=ks) (fun pre=>pre<+:ks) ks.length w:=fun l J Jx W hW hJ _ hY h0=>
  within1_in Kid.kk Kid.kv F n h1 hro hn l Bs n₀ c cbd ks J Jx W hJ hY (hBs.keep hW hBn) (by have:=hW.size;omega) (by have:=hW.size;omega) (hk.keep (Bs:=Bs) (.of_below hW hn₀ hBn)) h0
end Go.Proofs.YthceefjafklcmaaDoor
namespace Go.Proofs.YthceefjafklcmaaDoor
open Go.RowKit
def hasB (s:ByteArray) (b:Nat):Bool:=s.data.toList.any (fun x=>x.toNat==b)
theorem hasB_yes {s:ByteArray} {b k:Nat} (h:k<s.size) (e:(s[k]'h).toNat=b):hasB s b=true:=by
  unfold hasB;rw [List.any_eq_true]
  exact ⟨s.data.toList[k]'(by simpa using h),List.getElem_mem _,beq_iff_eq.2 e⟩
theorem hasB_no {s:ByteArray} {b:Nat} (h:∀j (hj:j<s.size),(s[j]'hj).toNat≠b):hasB s b=false:=by
  unfold hasB;rw [List.any_eq_false]
  intro x hx
  obtain ⟨j,hj,rfl⟩:=List.getElem_of_mem hx
  have hj':j<s.size:=by simpa using hj
  have h2:¬((s.data.toList[j]'hj).toNat=b):=h j hj'
  simpa using h2
def saysB (k:Int):ByteArray:=
  if k=1 then { data:= #[78] } else
  if k=2 then { data:= #[75,86] } else
  if k=3 then { data:= #[75] } else
  if k=4 then { data:= #[73,86] } else
  if k=5 then { data:= #[73] } else
  if k=6 then { data:= #[73,86] } else
  if k=7 then { data:= #[73,74] } else
  if k=8 then { data:= #[73,83] } else
  if k=9 then { data:= #[73,78] } else
  { data:= #[] }
set_option maxHeartbeats 2000000 in
set_option maxRecDepth 100000 in
theorem in06_any (s:ByteArray) (b:Nat) (w:World) (hs:s.size≤140737488355328):
    Calls Tryd.prog 62 #[.string s, .int .u8 b] w fun e w'=>e= .returned (.bool (hasB s b))∧Below w.heap.size w w':=by
  go_enter Tryd.func62,Tryd.ntmps62
  go_wp2_with fail
  go_loopw [5] (fun i wr=>∃k:Nat,k≤s.size∧i= .int .i64 k∧Hid (∀j,j<k→∀hj:j<s.size,(s[j]'hj).toNat≠b)∧Below w.heap.size w wr) (fun i _=>s.size - (intOf i).toNat)
  case atStart=>exact ⟨0,Nat.zero_le _,rfl,fun j hj=>by omega,Below.refl _ _⟩
  case round=>
    obtain ⟨k,hk,rfl,HJ,hB⟩:=hrel
    by_cases hlt:k<s.size
    · by_cases e:(s[k]'hlt).toNat=b
      · have H:=Lib.hid e
        have f:(((s[k]'hlt).toNat:Int)==(b:Int))=true:=by simp [e]
        clear e
        go_wp2_with fail
        go_ret
        exact ⟨ret_bool (hasB_yes hlt H.out).symm,hB⟩
      · have H:=Lib.hid e
        have f:(((s[k]'hlt).toNat:Int)==(b:Int))=false:=by simp;omega
        clear e
        go_wp2_with fail
        go_roundw
        case rel=>
          refine ⟨k+1,by omega,by go_num,fun j hj hs=> ?_,hB⟩
          by_cases hjk:j=k
          · subst hjk;exact H.out
          · exact HJ.out j (by omega) hs
        case measure=>simp [intOf];omega
    · go_wp2_with fail
      go_ret
      exact ⟨ret_bool (hasB_no (fun j hj=>HJ.out j (by omega) hj)).symm,hB⟩
set_option maxHeartbeats 2000000 in
set_option maxRecDepth 100000 in
theorem says06_any (k:Int) (w:World):
    Calls Tryd.prog 60 #[.int .u8 k] w fun e w'=>e= .returned (.string (saysB k))∧Below w.heap.size w w':=by
  by_cases e1:k=1
  case pos=>
    subst e1
    go_enter Tryd.func60,Tryd.ntmps60
    go_wp2_with fail
    go_ret
    exact ⟨rfl,Below.refl _ _⟩
  have f1:(k==1)=false:=by simp [e1]
  by_cases e2:k=2
  case pos=>
    subst e2
    go_enter Tryd.func60,Tryd.ntmps60
    go_wp2_with fail
    go_ret
    exact ⟨rfl,Below.refl _ _⟩
  have f2:(k==2)=false:=by simp [e2]
  by_cases e3:k=3
  case pos=>
    subst e3
    go_enter Tryd.func60,Tryd.ntmps60
    go_wp2_with fail
    go_ret
    exact ⟨rfl,Below.refl _ _⟩
  have f3:(k==3)=false:=by simp [e3]
  by_cases e4:k=4
  case pos=>
    subst e4
    go_enter Tryd.func60,Tryd.ntmps60
    go_wp2_with fail
    go_ret
    exact ⟨rfl,Below.refl _ _⟩
  have f4:(k==4)=false:=by simp [e4]
  by_cases e5:k=5
  case pos=>
    subst e5
    go_enter Tryd.func60,Tryd.ntmps60
    go_wp2_with fail
    go_ret
    exact ⟨rfl,Below.refl _ _⟩
  have f5:(k==5)=false:=by simp [e5]
  by_cases e6:k=6
  case pos=>
    subst e6
    go_enter Tryd.func60,Tryd.ntmps60
    go_wp2_with fail
    go_ret
    exact ⟨rfl,Below.refl _ _⟩
  have f6:(k==6)=false:=by simp [e6]
  by_cases e7:k=7
  case pos=>
    subst e7
    go_enter Tryd.func60,Tryd.ntmps60
    go_wp2_with fail
    go_ret
    exact ⟨rfl,Below.refl _ _⟩
  have f7:(k==7)=false:=by simp [e7]
  by_cases e8:k=8
  case pos=>
    subst e8
    go_enter Tryd.func60,Tryd.ntmps60
    go_wp2_with fail
    go_ret
    exact ⟨rfl,Below.refl _ _⟩
  have f8:(k==8)=false:=by simp [e8]
  by_cases e9:k=9
  case pos=>
    subst e9
    go_enter Tryd.func60,Tryd.ntmps60
    go_wp2_with fail
    go_ret
    exact ⟨rfl,Below.refl _ _⟩
  have f9:(k==9)=false:=by simp [e9]
  have hR:saysB k= { data:= #[] } :=by simp [saysB,e1,e2,e3,e4,e5,e6,e7,e8,e9]
  have HR:=Lib.hid hR
  clear hR e1 e2 e3 e4 e5 e6 e7 e8 e9
  go_enter Tryd.func60,Tryd.ntmps60
  go_wp2_with fail
  go_ret
  exact ⟨by rw [HR.out];rfl,Below.refl _ _⟩
end Go.Proofs.YthceefjafklcmaaDoor
namespace Go.Proofs.YthceefjafklcmaaDoor
open Go.RowKit Go.Shelf
attribute [local go_sem] Oper.semAt_some
def VWeight (v:V):Prop:=v.weight≤4611686018427387904→∀(w:World) (c:VC),IsVal w w.heap.size v c→
    Calls Tryd.prog 75 #[.agg #[.int .u8 c.k, .int .i64 c.n, .string c.s, .slice c.la c.ll c.lc, .slice c.oa c.ol c.oc]] w fun e w'=>e= .returned (.int .i64 v.weight)∧Below w.heap.size w w'
theorem ValAt.own {β:Type} (b o:Nat) (c:β→VC):Own (fun (x:β) W=>ValAt W b o (c x)):=
  fun _ _ _ _ hs hg hr=>⟨cell_kept hs.c0 hg hr,cell_kept hs.c1 hg hr,cell_kept hs.c2 hg hr,cell_kept hs.c3 hg hr,cell_kept hs.c4 hg hr⟩
theorem keepsOthers_below {W W':World} (h:Below W.heap.size W W'):KeepsOthers W W':=
  ⟨h.size,fun k _ hk _=>(h.block k (Array.getElem?_eq_some_iff.1 hk).1).trans hk⟩
theorem kids_snoc {w:World} {P:V→Prop} (pre:List (Kid w P)) (x:Kid w P):weightO ((pre++ [x]).map Kid.pair)=weightO (pre.map Kid.pair)+(x.kk.size+x.v.weight):=by
  rw [List.map_append,weightO_append];simp [weightO,weightF_eq,Kid.pair]
theorem wsum (d a b c:Int) (hd:d=a+(b+c)):wrap64 d=IntKind.i64.wrap (wrap64 a+IntKind.i64.wrap (b+c)):=by
  subst hd
  simp only [IntKind.wrap_i64,wrap64]
  omega
theorem wrap64_small {x:Int} (h0: -9223372036854775808≤x) (h1:x≤9223372036854775807):wrap64 x=x:=by unfold wrap64;omega
theorem pairs_weight (l:List V) (o:List (ByteArray×V)):weightO (pairs l o)=weightL l+weightO o:=by
  unfold pairs
  rw [weightO_append]
  congr 1
  induction l with
  |nil=>rfl
  |cons v r ih=>simp only [List.map_cons,weightO,weightF_eq,weightL,ih];simp [ByteArray.size]
set_option maxHeartbeats 4000000 in
set_option maxRecDepth 100000 in
theorem valWeight_any (a:V):VWeight a:=by
  induction a using V.ind with
  |h k n s l o ihl iho=>
  intro hw w c ha
  obtain ⟨rfl,rfl,rfl,cbd,hl,ho⟩:=ha.lists
  have hw0:1+c.s.size+weightL l+weightO o≤4611686018427387904:=by simpa only [V.weight] using hw
  obtain ⟨ks,hks,hpr⟩:=kids_of w (fun v=>VWeight v∧v.weight≤4611686018427387904) l o c hl ho
    (fun v hv=>⟨ihl v hv,by obtain ⟨i,hi,rfl⟩:=List.getElem_of_mem hv;have:=weightL_mem l i hi;omega⟩)
    (fun f hf=>⟨iho f hf,by obtain ⟨i,hi,rfl⟩:=List.getElem_of_mem hf;have:=weightO_mem o i hi;omega⟩)
  clear ihl iho ha hl ho
  have c5:=cbd.s1
  refine callsIn_wide (n:=3)|>.1 ?_
  refine callsIn_of_wp_marks Tryd.func75 rfl trivial ?_ rfl
  simp only [Tryd.ntmps75,List.size_toArray,List.length_cons,List.length_nil,Nat.reduceAdd,Nat.reduceSub,Array.replicate_succ,Array.replicate_zero,List.push_toArray,List.append_toArray,List.nil_append,List.cons_append]
  gi_wp2_with (refine ⟨trivial, ?_⟩;gi_at_call 89;refine (within_in _ _ trivial rfl c _).mono ?_;rintro e w' ⟨rfl,rfl⟩)
  obtain ⟨W0,hW0⟩:∃W0,(((w.alloc (.cells #[.int .u8 c.k, .int .i64 c.n, .string c.s, .slice c.la c.ll c.lc, .slice c.oa c.ol c.oc] 28)).alloc (.cells #[.int .i64 (1+(c.s.size:Int))] 3)).alloc (.cells #[.int .u8 c.k, .int .i64 c.n, .string c.s, .slice c.la c.ll c.lc, .slice c.oa c.ol c.oc] 28))=W0:=⟨_,rfl⟩
  have hB0:Below w.heap.size w W0:=by rw [←hW0];exact (((Below.refl _ _).alloc (Nat.le_refl _) _).alloc (by simp) _).alloc (by simp;omega) _
  have hsz:W0.heap.size=w.heap.size+3:=by rw [←hW0];simp
  have hbx:ValAt W0 (w.heap.size+1+1) 0 c:=by
    rw [←hW0]
    have h:=valAt_new ((w.alloc (.cells #[.int .u8 c.k, .int .i64 c.n, .string c.s, .slice c.la c.ll c.lc, .slice c.oa c.ol c.oc] 28)).alloc (.cells #[.int .i64 (1+(c.s.size:Int))] 3)) c 28
    simp only [World.size_alloc] at h
    exact h
  have hn:Boxed W0 (w.heap.size+1) 3 (.int .i64 (1+(c.s.size:Int))):=by
    rw [←hW0]
    have h:=Boxed.new (w.alloc (.cells #[.int .u8 c.k, .int .i64 c.n, .string c.s, .slice c.la c.ll c.lc, .slice c.oa c.ol c.oc] 28)) 3 (.int .i64 (1+(c.s.size:Int)))
    rw [World.size_alloc] at h
    exact h.alloc _
  rw [hW0]
  clear hW0
  refine wpIn_rangeFunc_ownH (α:=Kid w (fun v=>VWeight v∧v.weight≤4611686018427387904)) rfl (by omega) (gf:=93) (lb:= #[.pointer (some ⟨w.heap.size+1+1,0,none⟩)]) rfl trivial (enters_of Tryd.func93 (by kernel_rfl) rfl)
    (within_stops Fence.wide 2 trivial rfl (by omega) w (fun v=>VWeight v∧v.weight≤4611686018427387904) (w.heap.size+1+1) c cbd ks W0 w.heap.size (by omega) (by omega) hbx (hks.keep (.of_below_any hB0))) keepAt_t (keepAt_b (by omega) (by omega)) (Below.refl _ _) (fun _=>rfl)
    (fun pre W=>(Boxed W (w.heap.size+1) 3 (.int .i64 (wrap64 ((1+c.s.size+weightO (pre.map Kid.pair):Nat):Int))))∧Below w.heap.size w W∧W0.heap.size≤W.heap.size)
    (fun _ _ _=>False)
    (OwnFrom.and (Own.from (boxed_own _ _ _) _) (OwnFrom.and (ownFrom_below (Nat.le_refl _) (by omega)) (fun _ _ _ _ hs hg _=>Nat.le_trans hs hg.size)))
    (fun _ _ _ _ _ hs _ _=>hs)
    ⟨by simp only [List.map_nil,weightO,Nat.add_zero];rw [wrap64_small (by omega) (by omega)];simp only [Int.natCast_add,Int.natCast_one];exact hn,hB0,Nat.le_refl _⟩
    (fun x a' W=>∃Bx,W0.heap.size≤Bx∧ValAt W Bx 0 x.kv∧a'= { tmps:= #[.agg #[.int .u8 c.k, .int .i64 c.n, .string c.s, .slice c.la c.ll c.lc, .slice c.oa c.ol c.oc], .pointer (some ⟨w.heap.size,0,none⟩), .int .i64 0, .pointer (some ⟨w.heap.size+1,0,none⟩), .string x.kk, .pointer (some ⟨Bx,0,none⟩), .pointer (some ⟨w.heap.size,2,none⟩), .string c.s, .int .i64 (c.s.size:Int), .int .i64 (1+(c.s.size:Int)), .agg #[.int .u8 c.k, .int .i64 c.n, .string c.s, .slice c.la c.ll c.lc, .slice c.oa c.ol c.oc], .func (.func 93) #[] #[.pointer (some ⟨w.heap.size+1+1,0,none⟩)], .string x.kk, .agg #[.int .u8 x.kv.k, .int .i64 x.kv.n, .string x.kv.s, .slice x.kv.la x.kv.ll x.kv.lc, .slice x.kv.oa x.kv.ol x.kv.oc],undef,undef,undef,undef,undef,undef,undef,undef],defers:= [] })
    (fun x a' _ X Y row hs hg hr=>by
      obtain ⟨Bx,h1,h2,h3⟩:=hs
      exact ⟨Bx,h1,ValAt.own (β:=Unit) Bx 0 (fun _=>x.kv) () X Y row h2 hg (fun r e=>(hr r e).2),h3⟩)
    ?assign ?body ?done ?stop
  case assign=>
    rintro l pre x W K ⟨bS1,hB1,hz1⟩ hK
    dsimp only [Kid.encs]
    gi_wp2
    exact hK _ _ ((KeepsOthers.alloc _ _).from _) (KeepAt.alloc W _ (by omega) (by omega)) ⟨bS1.alloc _,hB1.alloc hB1.size _,by simp;omega⟩ ⟨W.heap.size,hz1,valAt_new W x.kv _,rfl⟩
  case body=>
    rintro l pre x a' W hl _ ⟨bS1,hB1,hz1⟩ ⟨Bx,hBx,vX,rfl⟩ hlt
    have cS:=bS1.cell
    have fS:=bS1.frozen
    have r0:W.cell? ⟨Bx,0,none⟩=some (.int .u8 x.kv.k):=vX.c0
    have r1:W.cell? ⟨Bx,1,none⟩=some (.int .i64 x.kv.n):=vX.c1
    have r2:W.cell? ⟨Bx,2,none⟩=some (.string x.kv.s):=vX.c2
    have r3:W.cell? ⟨Bx,3,none⟩=some (.slice x.kv.la x.kv.ll x.kv.lc):=vX.c3
    have r4:W.cell? ⟨Bx,4,none⟩=some (.slice x.kv.oa x.kv.ol x.kv.oc):=vX.c4
    have hmx:Tryd.prog.follows .mixedOrders=true:=by kernel_rfl
    have hcal:=fun (W':World) (h:Below w.heap.size w W')=>x.p.1 x.p.2 W' x.kv (x.is.later_ h)
    have HC:=Lib.hid hcal
    clear hcal vX
    gi_wp2
    gi_region_with_o (refine ⟨trivial, ?_⟩;gi_at_call 75;refine (CallsIn.inRound l (callsIn_wide.2 (HC.out _ hB1.drew))).mono ?_;rintro e w' ⟨rfl,hb⟩;have cS':=(hb.cell (p:=⟨w.heap.size+1,0,none⟩) (by exact bS1.lt)).trans cS;have fS':=(hb.frozen (p:=⟨w.heap.size+1,0,none⟩) (by exact bS1.lt)).trans fS)
    all_goals gi_wp2
    all_goals
      have hb':=(Below.refl W.heap.size W).drew.trans hb
      have hbx':Boxed w' (w.heap.size+1) 3 _:=(hb'.block _ bS1.lt).trans bS1
      exact ⟨((keepsOthers_below hb').trans (KeepsOthers.setCell _ _ _)).from _,(KeepAt.of_below hb' (by omega) (by omega)).trans (KeepAt.setCell _ _ (by simp) (by simp)),by rw [num_eq (wsum ((1+c.s.size+weightO (List.map Kid.pair (pre++ [x])):Nat):Int) (1+(c.s.size:Int)+(weightO (List.map Kid.pair pre):Int)) x.kk.size x.v.weight (by rw [kids_snoc];omega))];exact hbx'.set _,(hB1.on hb' hB1.size).setCell (by simp) _,by have:=hb'.size;simp [World.setCell];omega⟩
  case done=>
    rintro D ys W hD rfl ⟨bS,hB,hz1⟩ hK
    have cS:=bS.cell
    gi_wp2
    refine ⟨by simp, .inl ⟨_,_,rfl,run_takeDeferred hK, ?_⟩⟩
    refine ⟨_,results_tmp (t:=2) rfl _ _ _, ?_,hB.trans ((Below.refl _ _).grown (grownBy_putObj' _ D _) hB.size (fun k e=>by cases e;omega))⟩
    show Ending.returned (.int .i64 (wrap64 (1+(c.s.size:Int)+(weightO (pairs l o):Nat))))=_
    exact ret_int (by simp only [pairs_weight,V.weight];rw [wrap64_small (by omega) (by omega)];omega)
  case stop=>
    rintro D c' pre W _ _ h _
    exact h.elim
end Go.Proofs.YthceefjafklcmaaDoor
namespace Go.Proofs.YthceefjafklcmaaDoor
open Go.RowKit Go.Shelf
attribute [local go_sem] Oper.semAt_some
def VDeep (v:V):Prop:=v.weight≤4611686018427387904→∀(w:World) (c:VC),IsVal w w.heap.size v c→
    Calls Tryd.prog 74 #[.agg #[.int .u8 c.k, .int .i64 c.n, .string c.s, .slice c.la c.ll c.lc, .slice c.oa c.ol c.oc]] w fun e w'=>e= .returned (.int .i64 v.deep)∧Below w.heap.size w w'
theorem kids_deep {w:World} {P:V→Prop} (pre:List (Kid w P)) (x:Kid w P):((deepO ((pre++ [x]).map Kid.pair):Nat):Int)=max ((deepO (pre.map Kid.pair):Nat):Int) ((x.v.deep:Int)+1):=by
  rw [List.map_append,deepO_append];simp only [List.map_cons,List.map_nil,deepO,deepF_eq,Kid.pair];omega
theorem pairs_deep (l:List V) (o:List (ByteArray×V)):deepO (pairs l o)=max (deepL l) (deepO o):=by
  unfold pairs
  rw [deepO_append]
  congr 1
  induction l with
  |nil=>rfl
  |cons v r ih=>simp only [List.map_cons,deepO,deepF_eq,deepL,ih]
set_option maxHeartbeats 4000000 in
set_option maxRecDepth 100000 in
theorem valDeep_any (a:V):VDeep a:=by
  induction a using V.ind with
  |h k n s l o ihl iho=>
  intro hw w c ha
  obtain ⟨rfl,rfl,rfl,cbd,hl,ho⟩:=ha.lists
  have hw0:1+c.s.size+weightL l+weightO o≤4611686018427387904:=by simpa only [V.weight] using hw
  obtain ⟨ks,hks,hpr⟩:=kids_of w (fun v=>VDeep v∧v.weight≤4611686018427387904) l o c hl ho
    (fun v hv=>⟨ihl v hv,by obtain ⟨i,hi,rfl⟩:=List.getElem_of_mem hv;have:=weightL_mem l i hi;omega⟩)
    (fun f hf=>⟨iho f hf,by obtain ⟨i,hi,rfl⟩:=List.getElem_of_mem hf;have:=weightO_mem o i hi;omega⟩)
  clear ihl iho ha hl ho
  have c5:=cbd.s1
  refine callsIn_wide (n:=3)|>.1 ?_
  refine callsIn_of_wp_marks Tryd.func74 rfl trivial ?_ rfl
  simp only [Tryd.ntmps74,List.size_toArray,List.length_cons,List.length_nil,Nat.reduceAdd,Nat.reduceSub,Array.replicate_succ,Array.replicate_zero,List.push_toArray,List.append_toArray,List.nil_append,List.cons_append]
  gi_wp2_with (refine ⟨trivial, ?_⟩;gi_at_call 89;refine (within_in _ _ trivial rfl c _).mono ?_;rintro e w' ⟨rfl,rfl⟩)
  obtain ⟨W0,hW0⟩:∃W0,(((w.alloc (.cells #[.int .u8 c.k, .int .i64 c.n, .string c.s, .slice c.la c.ll c.lc, .slice c.oa c.ol c.oc] 28)).alloc (.cells #[.int .i64 0] 3)).alloc (.cells #[.int .u8 c.k, .int .i64 c.n, .string c.s, .slice c.la c.ll c.lc, .slice c.oa c.ol c.oc] 28))=W0:=⟨_,rfl⟩
  have hB0:Below w.heap.size w W0:=by rw [←hW0];exact (((Below.refl _ _).alloc (Nat.le_refl _) _).alloc (by simp) _).alloc (by simp;omega) _
  have hsz:W0.heap.size=w.heap.size+3:=by rw [←hW0];simp
  have hbx:ValAt W0 (w.heap.size+1+1) 0 c:=by
    rw [←hW0]
    have h:=valAt_new ((w.alloc (.cells #[.int .u8 c.k, .int .i64 c.n, .string c.s, .slice c.la c.ll c.lc, .slice c.oa c.ol c.oc] 28)).alloc (.cells #[.int .i64 0] 3)) c 28
    simp only [World.size_alloc] at h
    exact h
  have hn:Boxed W0 (w.heap.size+1) 3 (.int .i64 0):=by
    rw [←hW0]
    have h:=Boxed.new (w.alloc (.cells #[.int .u8 c.k, .int .i64 c.n, .string c.s, .slice c.la c.ll c.lc, .slice c.oa c.ol c.oc] 28)) 3 (.int .i64 0)
    rw [World.size_alloc] at h
    exact h.alloc _
  rw [hW0]
  clear hW0
  refine wpIn_rangeFunc_ownH (α:=Kid w (fun v=>VDeep v∧v.weight≤4611686018427387904)) rfl (by omega) (gf:=93) (lb:= #[.pointer (some ⟨w.heap.size+1+1,0,none⟩)]) rfl trivial (enters_of Tryd.func93 (by kernel_rfl) rfl)
    (within_stops Fence.wide 2 trivial rfl (by omega) w (fun v=>VDeep v∧v.weight≤4611686018427387904) (w.heap.size+1+1) c cbd ks W0 w.heap.size (by omega) (by omega) hbx (hks.keep (.of_below_any hB0))) keepAt_t (keepAt_b (by omega) (by omega)) (Below.refl _ _) (fun _=>rfl)
    (fun pre W=>(Boxed W (w.heap.size+1) 3 (.int .i64 ((deepO (pre.map Kid.pair):Nat):Int)))∧Below w.heap.size w W∧W0.heap.size≤W.heap.size)
    (fun _ _ _=>False)
    (OwnFrom.and (Own.from (boxed_own _ _ _) _) (OwnFrom.and (ownFrom_below (Nat.le_refl _) (by omega)) (fun _ _ _ _ hs hg _=>Nat.le_trans hs hg.size)))
    (fun _ _ _ _ _ hs _ _=>hs)
    ⟨by simp only [List.map_nil,deepO];exact hn,hB0,Nat.le_refl _⟩
    (fun x a' W=>∃Bx,W0.heap.size≤Bx∧ValAt W Bx 0 x.kv∧a'= { tmps:= #[.agg #[.int .u8 c.k, .int .i64 c.n, .string c.s, .slice c.la c.ll c.lc, .slice c.oa c.ol c.oc], .pointer (some ⟨w.heap.size,0,none⟩), .int .i64 0, .pointer (some ⟨w.heap.size+1,0,none⟩),undef, .pointer (some ⟨Bx,0,none⟩), .agg #[.int .u8 c.k, .int .i64 c.n, .string c.s, .slice c.la c.ll c.lc, .slice c.oa c.ol c.oc], .func (.func 93) #[] #[.pointer (some ⟨w.heap.size+1+1,0,none⟩)], .string x.kk, .agg #[.int .u8 x.kv.k, .int .i64 x.kv.n, .string x.kv.s, .slice x.kv.la x.kv.ll x.kv.lc, .slice x.kv.oa x.kv.ol x.kv.oc],undef,undef,undef,undef,undef,undef],defers:= [] })
    (fun x a' _ X Y row hs hg hr=>by
      obtain ⟨Bx,h1,h2,h3⟩:=hs
      exact ⟨Bx,h1,ValAt.own (β:=Unit) Bx 0 (fun _=>x.kv) () X Y row h2 hg (fun r e=>(hr r e).2),h3⟩)
    ?assign ?body ?done ?stop
  case assign=>
    rintro l pre x W K ⟨bS1,hB1,hz1⟩ hK
    dsimp only [Kid.encs]
    gi_wp2
    exact hK _ _ ((KeepsOthers.alloc _ _).from _) (KeepAt.alloc W _ (by omega) (by omega)) ⟨bS1.alloc _,hB1.alloc hB1.size _,by simp;omega⟩ ⟨W.heap.size,hz1,valAt_new W x.kv _,rfl⟩
  case body=>
    rintro l pre x a' W hl _ ⟨bS1,hB1,hz1⟩ ⟨Bx,hBx,vX,rfl⟩ hlt
    have cS:=bS1.cell
    have fS:=bS1.frozen
    have r0:W.cell? ⟨Bx,0,none⟩=some (.int .u8 x.kv.k):=vX.c0
    have r1:W.cell? ⟨Bx,1,none⟩=some (.int .i64 x.kv.n):=vX.c1
    have r2:W.cell? ⟨Bx,2,none⟩=some (.string x.kv.s):=vX.c2
    have r3:W.cell? ⟨Bx,3,none⟩=some (.slice x.kv.la x.kv.ll x.kv.lc):=vX.c3
    have r4:W.cell? ⟨Bx,4,none⟩=some (.slice x.kv.oa x.kv.ol x.kv.oc):=vX.c4
    have hmx:Tryd.prog.follows .mixedOrders=true:=by kernel_rfl
    have hcal:=fun (W':World) (h:Below w.heap.size w W')=>x.p.1 x.p.2 W' x.kv (x.is.later_ h)
    have HC:=Lib.hid hcal
    clear hcal vX
    have hd1:=V.deep_lt x.v
    have hd2:=x.p.2
    have e1:IntKind.i64.wrap ((x.v.deep:Int)+1)=(x.v.deep:Int)+1:=IntWalk.i64_in _ (by omega)
    gi_wp2
    gi_region_with_o (refine ⟨trivial, ?_⟩;gi_at_call 74;refine (CallsIn.inRound l (callsIn_wide.2 (HC.out _ hB1.drew))).mono ?_;rintro e w' ⟨rfl,hb⟩;have cS':=(hb.cell (p:=⟨w.heap.size+1,0,none⟩) (by exact bS1.lt)).trans cS;have fS':=(hb.frozen (p:=⟨w.heap.size+1,0,none⟩) (by exact bS1.lt)).trans fS)
    all_goals gi_wp2
    all_goals
      have hb':=(Below.refl W.heap.size W).drew.trans hb
      have hbx':Boxed w' (w.heap.size+1) 3 _:=(hb'.block _ bS1.lt).trans bS1
      exact ⟨((keepsOthers_below hb').trans (KeepsOthers.setCell _ _ _)).from _,(KeepAt.of_below hb' (by omega) (by omega)).trans (KeepAt.setCell _ _ (by simp) (by simp)),by first|(rw [num_eq (show ((deepO ((pre++ [x]).map Kid.pair):Nat):Int)=((deepO (pre.map Kid.pair):Nat):Int) from by rw [kids_deep];omega)];exact hbx'.set _)|(rw [num_eq (show ((deepO ((pre++ [x]).map Kid.pair):Nat):Int)=(x.v.deep:Int)+1 from by rw [kids_deep];omega)];exact hbx'.set _),(hB1.on hb' hB1.size).setCell (by simp) _,by have:=hb'.size;simp [World.setCell];omega⟩
  case done=>
    rintro D ys W hD rfl ⟨bS,hB,hz1⟩ hK
    have cS:=bS.cell
    gi_wp2
    refine ⟨by simp, .inl ⟨_,_,rfl,run_takeDeferred hK, ?_⟩⟩
    refine ⟨_,results_tmp (t:=2) rfl _ _ _, ?_,hB.trans ((Below.refl _ _).grown (grownBy_putObj' _ D _) hB.size (fun k e=>by cases e;omega))⟩
    show Ending.returned (.int .i64 ((deepO (pairs l o):Nat):Int))=_
    exact ret_int (by simp only [pairs_deep,V.deep])
  case stop=>
    rintro D c' pre W _ _ h _
    exact h.elim
end Go.Proofs.YthceefjafklcmaaDoor
namespace Go.Proofs.YthceefjafklcmaaDoor
open Go.RowKit
def outs (l:List UInt8):List Value:=l.map fun b=>Value.int .u8 (b.toNat:Int)
theorem outs_append (a b:List UInt8):outs (a++b)=outs a++outs b:=by simp [outs]
theorem outs_length (a:List UInt8):(outs a).length=a.length:=by simp [outs]
def be (n:Nat):Nat→List UInt8
  |0=> []
  |r+1=>UInt8.ofNat (n / 256 ^ r)::be n r
theorem be_length (n r:Nat):(be n r).length=r:=by
  induction r with
  |zero=>rfl
  |succ r ih=>simp [be,ih]
structure Wr (w:World) (B wb:Nat) (v:Value) (bs:List UInt8):Prop where
  cell:w.cell? ⟨wb,0,none⟩=some v
  frz:w.frozen? ⟨wb,0,none⟩=false
  own:w.ownsRow B 5 1 v bs.length (outs bs)
  ne:v.ownBlock≠some wb
  base:B≤wb
structure WStep (w w':World) (wb:Nat) (v v':Value):Prop where
  os:w'.os=w.os
  tape:w'.tape=w.tape
  output:w'.output=w.output
  size:w.heap.size≤w'.heap.size
  block:∀k,k<w.heap.size→k≠wb→some k≠v.ownBlock→w'.heap[k]? =w.heap[k]?
  own:v'.ownBlock=v.ownBlock∨∀k,v'.ownBlock=some k→w.heap.size≤k
theorem WStep.refl (w:World) (wb:Nat) (v:Value):WStep w w wb v v:=⟨rfl,rfl,rfl,Nat.le_refl _,fun _ _ _ _=>rfl, .inl rfl⟩
theorem WStep.trans {w w1 w2:World} {wb:Nat} {v v1 v2:Value} (h:WStep w w1 wb v v1) (g:WStep w1 w2 wb v1 v2):WStep w w2 wb v v2:=by
  refine ⟨g.os.trans h.os,g.tape.trans h.tape,g.output.trans h.output,Nat.le_trans h.size g.size,fun k hk hw hv=> ?_, ?_⟩
  · refine (g.block k (Nat.lt_of_lt_of_le hk h.size) hw (fun e=> ?_)).trans (h.block k hk hw hv)
    rcases h.own with o|o
    · exact hv (e.trans o)
    · have:=o k e.symm;omega
  · rcases g.own with o|o
    · rw [o];exact h.own
    · exact .inr fun k hk=>Nat.le_trans h.size (o k hk)
theorem WStep.of_below {w w':World} (wb:Nat) (v:Value) (h:Below w.heap.size w w'):WStep w w' wb v v:=
  ⟨h.os,h.tape,h.output,h.size,fun k hk _ _=>h.block k hk, .inl rfl⟩
theorem WStep.below {w w':World} {wb B:Nat} {v v':Value} (h:WStep w w' wb v v') (h1:B≤wb) (h2:∀k,v.ownBlock=some k→B≤k) (hB:B≤w.heap.size):Below B w w':=
  ⟨h.os,h.tape,h.output,h.size,fun k hk=>h.block k (by omega) (by omega) (fun e=>by have:=h2 k e.symm;omega)⟩
theorem Wr.lo {w:World} {B wb:Nat} {v:Value} {bs:List UInt8} (h:Wr w B wb v bs):∀k,v.ownBlock=some k→B≤k∧k<w.heap.size:=h.own.lt
theorem Wr.lt {w:World} {B wb:Nat} {v:Value} {bs:List UInt8} (h:Wr w B wb v bs):wb<w.heap.size:=World.block_lt_of_cell? w _ h.cell
theorem Wr.keeps {w w':World} {B wb:Nat} {v v':Value} {bs:List UInt8} (h:Wr w B wb v bs) (s:WStep w w' wb v v'):Below B w w':=s.below h.base (fun k hk=>(h.lo k hk).1) (Nat.le_trans h.base (Nat.le_of_lt h.lt))
theorem WStep.far {w w':World} {wb:Nat} {v v':Value} (h:WStep w w' wb v v') {b o:Nat} {u:Value} (hc:w.cell? ⟨b,o,none⟩=some u) (hw:b≠wb) (hv:v.ownBlock≠some b):w'.cell? ⟨b,o,none⟩=some u:=
  (World.cell?_of_block (h.block b (World.block_lt_of_cell? w _ hc) hw (fun e=>hv e.symm))).trans hc
theorem Wr.of_below {w w':World} {B wb:Nat} {v:Value} {bs:List UInt8} (h:Wr w B wb v bs) (hb:Below w.heap.size w w'):Wr w' B wb v bs:=
  ⟨keep_cell hb h.cell h.lt,(hb.frozen h.lt).trans h.frz,h.own.kept (row:=none) ⟨hb.os,hb.tape,hb.output,hb.size,fun k hk _=>hb.block k hk⟩ (by cases v.ownBlock<;>simp),h.ne,h.base⟩
theorem Wr.push {w w0 w1:World} {B wb:Nat} {u v':Value} {bs bs':List UInt8} (h:Wr w B wb u bs) (hw0:Below w.heap.size w w0) (hg:w0.grownBy w1 u.ownBlock)
    (hown:w1.ownsRow B 5 1 v' bs'.length (outs bs')) (hat:v'.ownBlock=u.ownBlock∨∀k,v'.ownBlock=some k→w.heap.size≤k):
    Wr (w1.setCell ⟨wb,0,none⟩ v') B wb v' bs'∧WStep w (w1.setCell ⟨wb,0,none⟩ v') wb u v':=by
  have hlt:=h.lt
  have h1:wb<w0.heap.size:=Nat.lt_of_lt_of_le hlt hw0.size
  have hc1:w1.cell? ⟨wb,0,none⟩=some u:=(hg.cell_far ⟨wb,0,none⟩ h1 (Ne.symm h.ne)).trans (keep_cell hw0 h.cell hlt)
  have hf1:w1.frozen? ⟨wb,0,none⟩=false:=(hg.frozen_far ⟨wb,0,none⟩ h1 (Ne.symm h.ne)).trans ((hw0.frozen (p:=⟨wb,0,none⟩) hlt).trans h.frz)
  have hne:v'.ownBlock≠some wb:=by
    rcases hat with e|e
    · rw [e];exact h.ne
    · intro e2;have:=e _ e2;omega
  refine ⟨⟨World.cell?_setCell_same _ _ _ hc1,by simpa using hf1, ?_,hne,h.base⟩,⟨?_, ?_, ?_, ?_,fun k hk hkw hkv=> ?_,hat⟩⟩
  · exact ownsRow_setCell_other hown (a:=⟨wb,0,none⟩) hne v'
  · exact hg.os.trans hw0.os
  · exact hg.tape.trans hw0.tape
  · exact hg.output.trans hw0.output
  · rw [World.size_setCell];exact Nat.le_trans hw0.size hg.size
  · rw [heap_setCell_other _ _ _ _ hkw,hg.block k (Nat.lt_of_lt_of_le hk hw0.size) hkv,hw0.block k hk]
theorem outs_snoc (l:List UInt8) (b:UInt8):outs l++ [Value.int .u8 (b.toNat:Int)] =outs (l++ [b]):=by simp [outs]
theorem ginfo8:(Tryd.prog.info? 5).map (fun i=>(i.zero,i.size,i.bytes))=some (some (.int .u8 0),1,1):=by kernel_rfl
theorem shr_nat (U r:Nat):(U:Int) / 2 ^ (8*(r:Int)).toNat=((U / 256 ^ r:Nat):Int):=by
  have e1:(8*(r:Int)).toNat=8*r:=by omega
  have e2:(2:Int) ^ (8*r)=((256 ^ r:Nat):Int):=by rw [Int.pow_mul];simp
  rw [e1,e2, ←Int.natCast_ediv]
theorem byte_u8 (n:Nat):IntKind.u8.wrap (n:Int)=((UInt8.ofNat n).toNat:Int):=by
  simp [IntKind.wrap,IntKind.bits,IntKind.signed]
theorem u64_mod (x:Int):IntKind.u64.wrap x=(((x % 18446744073709551616).toNat:Nat):Int):=by
  have:=Int.emod_nonneg x (show (18446744073709551616:Int)≠0 by decide)
  simp [IntKind.wrap,IntKind.bits,IntKind.signed]
  omega
end Go.Proofs.YthceefjafklcmaaDoor
namespace Go.Proofs.YthceefjafklcmaaDoor
open Go.RowKit
set_option maxHeartbeats 4000000 in
set_option maxRecDepth 100000 in
theorem layInt_any (x:Int) (width:Nat) (hw8:width≤8) (w:World) (B wb:Nat) (v:Value) (bs:List UInt8) (h:Wr w B wb v bs) (hsz:bs.length+width≤140737488355328):
    Calls Tryd.prog 53 #[.pointer (some ⟨wb,0,none⟩), .int .i64 x, .int .i64 width] w fun e w'=>e= .returned (.tuple #[])∧∃v',Wr w' B wb v' (bs++be (x % 18446744073709551616).toNat width)∧WStep w w' wb v v':=by
  obtain ⟨i0,hi0,hz0,hz1,hz2⟩:=info_parts ginfo8
  obtain ⟨U,hU⟩:∃U,(x % 18446744073709551616).toNat=U:=⟨_,rfl⟩
  rw [hU]
  have HU:=Lib.hid hU
  have H0:=Lib.hid h
  clear hU
  go_enter Tryd.func53,Tryd.ntmps53
  go_wp2_with fail
  go_loopw [6] (fun i wr=>∃(r:Nat) (pre:List UInt8) (u:Value),r≤width∧i= .int .i64 ((r:Int) - 1)∧Hid (pre++be U r=be U width)∧Wr wr B wb u (bs++pre)∧WStep w wr wb v u) (fun i _=>(intOf i+1).toNat)
  case atStart=>exact ⟨width, [],v,Nat.le_refl _,rfl,by show _=_;rfl,by simpa using h,WStep.refl _ _ _⟩
  case round=>
    clear h
    obtain ⟨r,pre,u,hr,rfl,HP,h,hs⟩:=hrel
    cases r with
    | zero=>
      go_wp2_with fail
      go_returns
      exact ⟨rfl,u,by rw [←HP.out,show be U 0= [] from rfl,List.append_nil];exact h,hs⟩
    | succ r=>
      have hc:=h.cell
      have hf:=h.frz
      have hne:=h.ne
      have hpl:pre.length+(r+1)=width:=by have:=congrArg List.length HP.out;simpa [be_length] using this
      have hlt:=h.lt
      have ei:((r+1:Nat):Int) - 1=(r:Int):=by omega
      rw [ei]
      have hr8:r<8:=by omega
      have hwr:IntKind.i64.wrap (8*(r:Int))=8*(r:Int):=by simp [IntKind.wrap,IntKind.bits,IntKind.signed];omega
      obtain ⟨Y,hY⟩:∃Y:Nat,U / 256 ^ r=Y:=⟨_,rfl⟩
      obtain ⟨b,hb⟩:∃b:UInt8,UInt8.ofNat Y=b:=⟨_,rfl⟩
      have hu8:IntKind.u8.wrap (IntKind.u64.wrap x / 2 ^ (8*(r:Int)).toNat)=((b.toNat:Nat):Int):=by rw [u64_mod,HU.out,shr_nat,hY,byte_u8,hb]
      have hB:=h.base
      have ha:∀o,(wr.alloc o).cell? ⟨wb,0,none⟩=some u:=fun o=>keep_cell ((Below.refl _ _).alloc (Nat.le_refl _) o) hc hlt
      have hfa:∀o,(wr.alloc o).frozen? ⟨wb,0,none⟩=false:=fun o=>(((Below.refl _ _).alloc (Nat.le_refl _) o:Below wr.heap.size wr (wr.alloc o)).frozen (p:=⟨wb,0,none⟩) hlt).trans hf
      have HY:=Lib.hid hY
      have HB:=Lib.hid hb
      clear hY hb
      go_wp2_with fail
      go_region_law
        ((refine step_append_lies _ (by rfl) _ _ _ (by rfl) B 5 i0 _ 1 1 Tryd.underlying22 hi0 hz0 hz1 hz2 rfl (by omega) u (bs++pre).length (outs (bs++pre)) (by rfl) ((h.own.alloc _).drew) ⟨wr.heap.size,0,none⟩ 1 1 [.int .u8 b.toNat] (by rfl) (by rfl) (World.news_of_block (cs:= #[.int .u8 b.toNat]) (t:=5) (fr:=(0,0)) (heap_alloc_new wr _)) (by simp [Value.oneCell']) (by omega) (by rw [List.length_append];unfold maxLen;omega) (by rw [List.length_append];omega) (by simp;omega) (wr.heap.size+1) (by simp) ?_;intro gg cap w1 hown1 hgrow hat hlt1;have hc1:w1.cell? ⟨wb,0,none⟩=some u:=(hgrow.cell_far ⟨wb,0,none⟩ (by simp;omega) (Ne.symm hne)).trans (by simpa using ha _);have hf1:w1.frozen? ⟨wb,0,none⟩=false:=(hgrow.frozen_far ⟨wb,0,none⟩ (by simp;omega) (Ne.symm hne)).trans (by simpa using hfa _)))
      all_goals
        clear hc hf ha hfa hc1 hf1 hu8
        rw [outs_snoc] at hown1
        have hP:=h.push (v':= .slice (some ⟨gg,0,none⟩) ((bs++pre).length+1) cap) (bs':=bs++pre++ [b]) (((Below.refl _ _).alloc (Nat.le_refl _) _).drew) hgrow (by simpa [Nat.add_assoc] using hown1) (by
          rcases hat with e|e
          · left;rw [e];rfl
          · right;intro k hk;have:gg=k:=by simpa [Value.ownBlock] using hk
            omega)
        rw [List.length_append] at hP
        have hQ:=hs.trans hP.2
        have hP:=hP.1
        clear hown1 hgrow hat hlt1 h hs
        go_wp2_with fail
        go_roundw
        case rel=>exact ⟨r,pre++ [b],_,by omega,rfl,by show _=_;rw [←HP.out,List.append_assoc];simp only [be,HY.out,HB.out,List.singleton_append],by rw [←List.append_assoc];exact hP,hQ⟩
        case measure=>first|(simp [intOf];done)|(simp [intOf];omega)
set_option maxHeartbeats 4000000 in
set_option maxRecDepth 100000 in
theorem layU8_any (x:Int) (width:Nat) (hw8:width≤8) (w:World) (B wb:Nat) (v:Value) (bs:List UInt8) (h:Wr w B wb v bs) (hsz:bs.length+width≤140737488355328):
    Calls Tryd.prog 50 #[.pointer (some ⟨wb,0,none⟩), .int .u8 x, .int .i64 width] w fun e w'=>e= .returned (.tuple #[])∧∃v',Wr w' B wb v' (bs++be (x % 18446744073709551616).toNat width)∧WStep w w' wb v v':=by
  obtain ⟨i0,hi0,hz0,hz1,hz2⟩:=info_parts ginfo8
  obtain ⟨U,hU⟩:∃U,(x % 18446744073709551616).toNat=U:=⟨_,rfl⟩
  rw [hU]
  have HU:=Lib.hid hU
  have H0:=Lib.hid h
  clear hU
  go_enter Tryd.func50,Tryd.ntmps50
  go_wp2_with fail
  go_loopw [6] (fun i wr=>∃(r:Nat) (pre:List UInt8) (u:Value),r≤width∧i= .int .i64 ((r:Int) - 1)∧Hid (pre++be U r=be U width)∧Wr wr B wb u (bs++pre)∧WStep w wr wb v u) (fun i _=>(intOf i+1).toNat)
  case atStart=>exact ⟨width, [],v,Nat.le_refl _,rfl,by show _=_;rfl,by simpa using h,WStep.refl _ _ _⟩
  case round=>
    clear h
    obtain ⟨r,pre,u,hr,rfl,HP,h,hs⟩:=hrel
    cases r with
    | zero=>
      go_wp2_with fail
      go_returns
      exact ⟨rfl,u,by rw [←HP.out,show be U 0= [] from rfl,List.append_nil];exact h,hs⟩
    | succ r=>
      have hc:=h.cell
      have hf:=h.frz
      have hne:=h.ne
      have hpl:pre.length+(r+1)=width:=by have:=congrArg List.length HP.out;simpa [be_length] using this
      have hlt:=h.lt
      have ei:((r+1:Nat):Int) - 1=(r:Int):=by omega
      rw [ei]
      have hr8:r<8:=by omega
      have hwr:IntKind.i64.wrap (8*(r:Int))=8*(r:Int):=by simp [IntKind.wrap,IntKind.bits,IntKind.signed];omega
      obtain ⟨Y,hY⟩:∃Y:Nat,U / 256 ^ r=Y:=⟨_,rfl⟩
      obtain ⟨b,hb⟩:∃b:UInt8,UInt8.ofNat Y=b:=⟨_,rfl⟩
      have hu8:IntKind.u8.wrap (IntKind.u64.wrap x / 2 ^ (8*(r:Int)).toNat)=((b.toNat:Nat):Int):=by rw [u64_mod,HU.out,shr_nat,hY,byte_u8,hb]
      have hB:=h.base
      have ha:∀o,(wr.alloc o).cell? ⟨wb,0,none⟩=some u:=fun o=>keep_cell ((Below.refl _ _).alloc (Nat.le_refl _) o) hc hlt
      have hfa:∀o,(wr.alloc o).frozen? ⟨wb,0,none⟩=false:=fun o=>(((Below.refl _ _).alloc (Nat.le_refl _) o:Below wr.heap.size wr (wr.alloc o)).frozen (p:=⟨wb,0,none⟩) hlt).trans hf
      have HY:=Lib.hid hY
      have HB:=Lib.hid hb
      clear hY hb
      go_wp2_with fail
      go_region_law
        ((refine step_append_lies _ (by rfl) _ _ _ (by rfl) B 5 i0 _ 1 1 Tryd.underlying22 hi0 hz0 hz1 hz2 rfl (by omega) u (bs++pre).length (outs (bs++pre)) (by rfl) ((h.own.alloc _).drew) ⟨wr.heap.size,0,none⟩ 1 1 [.int .u8 b.toNat] (by rfl) (by rfl) (World.news_of_block (cs:= #[.int .u8 b.toNat]) (t:=5) (fr:=(0,0)) (heap_alloc_new wr _)) (by simp [Value.oneCell']) (by omega) (by rw [List.length_append];unfold maxLen;omega) (by rw [List.length_append];omega) (by simp;omega) (wr.heap.size+1) (by simp) ?_;intro gg cap w1 hown1 hgrow hat hlt1;have hc1:w1.cell? ⟨wb,0,none⟩=some u:=(hgrow.cell_far ⟨wb,0,none⟩ (by simp;omega) (Ne.symm hne)).trans (by simpa using ha _);have hf1:w1.frozen? ⟨wb,0,none⟩=false:=(hgrow.frozen_far ⟨wb,0,none⟩ (by simp;omega) (Ne.symm hne)).trans (by simpa using hfa _)))
      all_goals
        clear hc hf ha hfa hc1 hf1 hu8
        rw [outs_snoc] at hown1
        have hP:=h.push (v':= .slice (some ⟨gg,0,none⟩) ((bs++pre).length+1) cap) (bs':=bs++pre++ [b]) (((Below.refl _ _).alloc (Nat.le_refl _) _).drew) hgrow (by simpa [Nat.add_assoc] using hown1) (by
          rcases hat with e|e
          · left;rw [e];rfl
          · right;intro k hk;have:gg=k:=by simpa [Value.ownBlock] using hk
            omega)
        rw [List.length_append] at hP
        have hQ:=hs.trans hP.2
        have hP:=hP.1
        clear hown1 hgrow hat hlt1 h hs
        go_wp2_with fail
        go_roundw
        case rel=>exact ⟨r,pre++ [b],_,by omega,rfl,by show _=_;rw [←HP.out,List.append_assoc];simp only [be,HY.out,HB.out,List.singleton_append],by rw [←List.append_assoc];exact hP,hQ⟩
        case measure=>first|(simp [intOf];done)|(simp [intOf];omega)
set_option maxHeartbeats 4000000 in
set_option maxRecDepth 100000 in
theorem layI64_any (x:Int) (width:Nat) (hw8:width≤8) (w:World) (B wb:Nat) (v:Value) (bs:List UInt8) (h:Wr w B wb v bs) (hsz:bs.length+width≤140737488355328):
    Calls Tryd.prog 80 #[.pointer (some ⟨wb,0,none⟩), .int .i64 x, .int .i64 width] w fun e w'=>e= .returned (.tuple #[])∧∃v',Wr w' B wb v' (bs++be (x % 18446744073709551616).toNat width)∧WStep w w' wb v v':=by
  obtain ⟨i0,hi0,hz0,hz1,hz2⟩:=info_parts ginfo8
  obtain ⟨U,hU⟩:∃U,(x % 18446744073709551616).toNat=U:=⟨_,rfl⟩
  rw [hU]
  have HU:=Lib.hid hU
  have H0:=Lib.hid h
  clear hU
  go_enter Tryd.func80,Tryd.ntmps80
  go_wp2_with fail
  go_loopw [6] (fun i wr=>∃(r:Nat) (pre:List UInt8) (u:Value),r≤width∧i= .int .i64 ((r:Int) - 1)∧Hid (pre++be U r=be U width)∧Wr wr B wb u (bs++pre)∧WStep w wr wb v u) (fun i _=>(intOf i+1).toNat)
  case atStart=>exact ⟨width, [],v,Nat.le_refl _,rfl,by show _=_;rfl,by simpa using h,WStep.refl _ _ _⟩
  case round=>
    clear h
    obtain ⟨r,pre,u,hr,rfl,HP,h,hs⟩:=hrel
    cases r with
    | zero=>
      go_wp2_with fail
      go_returns
      exact ⟨rfl,u,by rw [←HP.out,show be U 0= [] from rfl,List.append_nil];exact h,hs⟩
    | succ r=>
      have hc:=h.cell
      have hf:=h.frz
      have hne:=h.ne
      have hpl:pre.length+(r+1)=width:=by have:=congrArg List.length HP.out;simpa [be_length] using this
      have hlt:=h.lt
      have ei:((r+1:Nat):Int) - 1=(r:Int):=by omega
      rw [ei]
      have hr8:r<8:=by omega
      have hwr:IntKind.i64.wrap (8*(r:Int))=8*(r:Int):=by simp [IntKind.wrap,IntKind.bits,IntKind.signed];omega
      obtain ⟨Y,hY⟩:∃Y:Nat,U / 256 ^ r=Y:=⟨_,rfl⟩
      obtain ⟨b,hb⟩:∃b:UInt8,UInt8.ofNat Y=b:=⟨_,rfl⟩
      have hu8:IntKind.u8.wrap (IntKind.u64.wrap x / 2 ^ (8*(r:Int)).toNat)=((b.toNat:Nat):Int):=by rw [u64_mod,HU.out,shr_nat,hY,byte_u8,hb]
      have hB:=h.base
      have ha:∀o,(wr.alloc o).cell? ⟨wb,0,none⟩=some u:=fun o=>keep_cell ((Below.refl _ _).alloc (Nat.le_refl _) o) hc hlt
      have hfa:∀o,(wr.alloc o).frozen? ⟨wb,0,none⟩=false:=fun o=>(((Below.refl _ _).alloc (Nat.le_refl _) o:Below wr.heap.size wr (wr.alloc o)).frozen (p:=⟨wb,0,none⟩) hlt).trans hf
      have HY:=Lib.hid hY
      have HB:=Lib.hid hb
      clear hY hb
      go_wp2_with fail
      go_region_law
        ((refine step_append_lies _ (by rfl) _ _ _ (by rfl) B 5 i0 _ 1 1 Tryd.underlying22 hi0 hz0 hz1 hz2 rfl (by omega) u (bs++pre).length (outs (bs++pre)) (by rfl) ((h.own.alloc _).drew) ⟨wr.heap.size,0,none⟩ 1 1 [.int .u8 b.toNat] (by rfl) (by rfl) (World.news_of_block (cs:= #[.int .u8 b.toNat]) (t:=5) (fr:=(0,0)) (heap_alloc_new wr _)) (by simp [Value.oneCell']) (by omega) (by rw [List.length_append];unfold maxLen;omega) (by rw [List.length_append];omega) (by simp;omega) (wr.heap.size+1) (by simp) ?_;intro gg cap w1 hown1 hgrow hat hlt1;have hc1:w1.cell? ⟨wb,0,none⟩=some u:=(hgrow.cell_far ⟨wb,0,none⟩ (by simp;omega) (Ne.symm hne)).trans (by simpa using ha _);have hf1:w1.frozen? ⟨wb,0,none⟩=false:=(hgrow.frozen_far ⟨wb,0,none⟩ (by simp;omega) (Ne.symm hne)).trans (by simpa using hfa _)))
      all_goals
        clear hc hf ha hfa hc1 hf1 hu8
        rw [outs_snoc] at hown1
        have hP:=h.push (v':= .slice (some ⟨gg,0,none⟩) ((bs++pre).length+1) cap) (bs':=bs++pre++ [b]) (((Below.refl _ _).alloc (Nat.le_refl _) _).drew) hgrow (by simpa [Nat.add_assoc] using hown1) (by
          rcases hat with e|e
          · left;rw [e];rfl
          · right;intro k hk;have:gg=k:=by simpa [Value.ownBlock] using hk
            omega)
        rw [List.length_append] at hP
        have hQ:=hs.trans hP.2
        have hP:=hP.1
        clear hown1 hgrow hat hlt1 h hs
        go_wp2_with fail
        go_roundw
        case rel=>exact ⟨r,pre++ [b],_,by omega,rfl,by show _=_;rw [←HP.out,List.append_assoc];simp only [be,HY.out,HB.out,List.singleton_append],by rw [←List.append_assoc];exact hP,hQ⟩
        case measure=>first|(simp [intOf];done)|(simp [intOf];omega)
set_option maxHeartbeats 4000000 in
set_option maxRecDepth 100000 in
theorem layU32_any (x:Int) (width:Nat) (hw8:width≤8) (w:World) (B wb:Nat) (v:Value) (bs:List UInt8) (h:Wr w B wb v bs) (hsz:bs.length+width≤140737488355328):
    Calls Tryd.prog 51 #[.pointer (some ⟨wb,0,none⟩), .int .u32 x, .int .i64 width] w fun e w'=>e= .returned (.tuple #[])∧∃v',Wr w' B wb v' (bs++be (x % 18446744073709551616).toNat width)∧WStep w w' wb v v':=by
  obtain ⟨i0,hi0,hz0,hz1,hz2⟩:=info_parts ginfo8
  obtain ⟨U,hU⟩:∃U,(x % 18446744073709551616).toNat=U:=⟨_,rfl⟩
  rw [hU]
  have HU:=Lib.hid hU
  have H0:=Lib.hid h
  clear hU
  go_enter Tryd.func51,Tryd.ntmps51
  go_wp2_with fail
  go_loopw [6] (fun i wr=>∃(r:Nat) (pre:List UInt8) (u:Value),r≤width∧i= .int .i64 ((r:Int) - 1)∧Hid (pre++be U r=be U width)∧Wr wr B wb u (bs++pre)∧WStep w wr wb v u) (fun i _=>(intOf i+1).toNat)
  case atStart=>exact ⟨width, [],v,Nat.le_refl _,rfl,by show _=_;rfl,by simpa using h,WStep.refl _ _ _⟩
  case round=>
    clear h
    obtain ⟨r,pre,u,hr,rfl,HP,h,hs⟩:=hrel
    cases r with
    | zero=>
      go_wp2_with fail
      go_returns
      exact ⟨rfl,u,by rw [←HP.out,show be U 0= [] from rfl,List.append_nil];exact h,hs⟩
    | succ r=>
      have hc:=h.cell
      have hf:=h.frz
      have hne:=h.ne
      have hpl:pre.length+(r+1)=width:=by have:=congrArg List.length HP.out;simpa [be_length] using this
      have hlt:=h.lt
      have ei:((r+1:Nat):Int) - 1=(r:Int):=by omega
      rw [ei]
      have hr8:r<8:=by omega
      have hwr:IntKind.i64.wrap (8*(r:Int))=8*(r:Int):=by simp [IntKind.wrap,IntKind.bits,IntKind.signed];omega
      obtain ⟨Y,hY⟩:∃Y:Nat,U / 256 ^ r=Y:=⟨_,rfl⟩
      obtain ⟨b,hb⟩:∃b:UInt8,UInt8.ofNat Y=b:=⟨_,rfl⟩
      have hu8:IntKind.u8.wrap (IntKind.u64.wrap x / 2 ^ (8*(r:Int)).toNat)=((b.toNat:Nat):Int):=by rw [u64_mod,HU.out,shr_nat,hY,byte_u8,hb]
      have hB:=h.base
      have ha:∀o,(wr.alloc o).cell? ⟨wb,0,none⟩=some u:=fun o=>keep_cell ((Below.refl _ _).alloc (Nat.le_refl _) o) hc hlt
      have hfa:∀o,(wr.alloc o).frozen? ⟨wb,0,none⟩=false:=fun o=>(((Below.refl _ _).alloc (Nat.le_refl _) o:Below wr.heap.size wr (wr.alloc o)).frozen (p:=⟨wb,0,none⟩) hlt).trans hf
      have HY:=Lib.hid hY
      have HB:=Lib.hid hb
      clear hY hb
      go_wp2_with fail
      go_region_law
        ((refine step_append_lies _ (by rfl) _ _ _ (by rfl) B 5 i0 _ 1 1 Tryd.underlying22 hi0 hz0 hz1 hz2 rfl (by omega) u (bs++pre).length (outs (bs++pre)) (by rfl) ((h.own.alloc _).drew) ⟨wr.heap.size,0,none⟩ 1 1 [.int .u8 b.toNat] (by rfl) (by rfl) (World.news_of_block (cs:= #[.int .u8 b.toNat]) (t:=5) (fr:=(0,0)) (heap_alloc_new wr _)) (by simp [Value.oneCell']) (by omega) (by rw [List.length_append];unfold maxLen;omega) (by rw [List.length_append];omega) (by simp;omega) (wr.heap.size+1) (by simp) ?_;intro gg cap w1 hown1 hgrow hat hlt1;have hc1:w1.cell? ⟨wb,0,none⟩=some u:=(hgrow.cell_far ⟨wb,0,none⟩ (by simp;omega) (Ne.symm hne)).trans (by simpa using ha _);have hf1:w1.frozen? ⟨wb,0,none⟩=false:=(hgrow.frozen_far ⟨wb,0,none⟩ (by simp;omega) (Ne.symm hne)).trans (by simpa using hfa _)))
      all_goals
        clear hc hf ha hfa hc1 hf1 hu8
        rw [outs_snoc] at hown1
        have hP:=h.push (v':= .slice (some ⟨gg,0,none⟩) ((bs++pre).length+1) cap) (bs':=bs++pre++ [b]) (((Below.refl _ _).alloc (Nat.le_refl _) _).drew) hgrow (by simpa [Nat.add_assoc] using hown1) (by
          rcases hat with e|e
          · left;rw [e];rfl
          · right;intro k hk;have:gg=k:=by simpa [Value.ownBlock] using hk
            omega)
        rw [List.length_append] at hP
        have hQ:=hs.trans hP.2
        have hP:=hP.1
        clear hown1 hgrow hat hlt1 h hs
        go_wp2_with fail
        go_roundw
        case rel=>exact ⟨r,pre++ [b],_,by omega,rfl,by show _=_;rw [←HP.out,List.append_assoc];simp only [be,HY.out,HB.out,List.singleton_append],by rw [←List.append_assoc];exact hP,hQ⟩
        case measure=>first|(simp [intOf];done)|(simp [intOf];omega)
end Go.Proofs.YthceefjafklcmaaDoor
namespace Go.Proofs.YthceefjafklcmaaDoor
open Go.RowKit
theorem run_append_str {P:Program} (w:World) (base:Nat) (t u ty e:TypeId) (i:TypeInfo) (ht:P.underlying t=some (.slice e)) (hu:P.underlying u=some .string) (hi:P.info? e=some i) (hz:i.zero=some (.int .u8 0))
    (hsize:i.size=1) (hby:i.bytes=1) (v:Value) (n:Nat) (xs:List Value) (hown:w.ownsRow base e 1 v n xs) (s:ByteArray)
    (h63:n+s.size≤maxLen) (hbytes:n+s.size≤140737488355328) (hbase:base≤w.heap.size):
    ∃ v' w',(Builtin.append_ #[t,u] ty #[v, .string s]).run P w= .ok v' w'∧w'.ownsRow base e 1 v' (n+s.size) (xs++Lib.strCells s)∧w.grownBy w' v.ownBlock∧
      (v'.ownBlock=v.ownBlock∨v'.ownBlock=some w.heap.size):=by
  obtain ⟨v',w',hr,h2,h3,h4⟩:=Lib.run_append_own_string (P:=P) w base t u ty e i ht hu hi hz hsize hby v n xs hown s h63 hbytes hbase
  refine ⟨v',w',hr,h2,h3, ?_⟩
  have hxl:xs.length=n:=by simpa using hown.1
  rcases hown.2 with ⟨rfl,rfl⟩|⟨g,cap,cur,rfl,hbg,hg,hnc,hcm,hcs,htake⟩
  · by_cases hm:s.size=0
    · rw [h4.2 ⟨rfl,hm⟩];exact .inl rfl
    · have hr2:=run_append_nil_string (P:=P) w t u ty e i (.int .u8 0) ht hu hi hz s (by omega) (by omega) (by rw [hby];omega)
      rw [hr] at hr2
      injection hr2 with hv _
      right;rw [hv];rfl
  · by_cases hroom:n+s.size≤cap
    · have hcs':cur.size=cap:=by simpa using hcs
      have hr2:=Lib.run_append_room_string (P:=P) w t u ty e i ht hu hi hsize g n cap cur hg s hroom (by omega)
      rw [hr] at hr2
      injection hr2 with hv _
      left;rw [hv];rfl
    · have hr2:=Lib.run_append_grow_string (P:=P) w t u ty e i (.int .u8 0) ht hu hi hz ⟨g,0,none⟩ n cap xs (by rw [hsize];simpa using hxl) (hown.cells (g:=g) rfl) s (by omega) (by simp only [maxLen] at h63;omega) (by rw [hby];exact growslice_fits (by omega) (by omega))
      rw [hr] at hr2
      injection hr2 with hv _
      right;rw [hv];rfl
theorem owns_slice {w:World} {base:Nat} {e:TypeId} {size:Nat} {v:Value} {n:Nat} {xs:List Value} (h:w.ownsRow base e size v n xs):∃ao c,v= .slice ao n c:=by
  rcases h.2 with ⟨rfl,rfl⟩|⟨g,cap,cur,rfl,_⟩
  · exact ⟨none,0,rfl⟩
  · exact ⟨_,cap,rfl⟩
theorem wpList_append_str {P:Program} (w:World) {ops:Array Oper} {rest:List Oper} {o:Oper} {a:Act} {Q:Exit→Act→World→Prop} (hgd:o.guard=none) (sl x:Operand) (t u:TypeId)
    (ho:o.op= .call { callee:= .builtin .append,args:= #[sl,x],argTypes:= #[t,u] })
    (base:Nat) (e:TypeId) (i:TypeInfo) (ht:P.underlying t=some (.slice e)) (hu:P.underlying u=some .string) (hi:P.info? e=some i) (hz:i.zero=some (.int .u8 0))
    (hsize:i.size=1) (hby:i.bytes=1)
    (v:Value) (n:Nat) (xs:List Value) (hs:a.eval sl=v) (hown:w.ownsRow base e 1 v n xs) (s:ByteArray) (hx:a.eval x= .string s)
    (h63:n+s.size≤maxLen) (hbytes:n+s.size≤140737488355328) (hbase:base≤w.heap.size)
    (h:∀v' w',w'.ownsRow base e 1 v' (n+s.size) (xs++Lib.strCells s)→w.grownBy w' v.ownBlock→(v'.ownBlock=v.ownBlock∨v'.ownBlock=some w.heap.size)→wpList P ops Q rest (a.put o.dst v') w'):wpList P ops Q (o::rest) a w:=by
  refine wpList_plain hgd fun K hK=> ?_
  obtain ⟨v',w',hr,h2,h3,h4⟩:=run_append_str (P:=P) w base t u o.type e i ht hu hi hz hsize hby v n xs hown s h63 hbytes hbase
  unfold Oper.wp execOp
  simp only [ho,resolve,invoke,builtin,Sem.run_bind,Sem.run_pure,Result.andThen_ok,List.map_toArray,List.map_cons,List.map_nil,hs,hx,hr]
  exact hK _ _ (h v' w' h2 h3 h4)
def encS (s:ByteArray):List UInt8:=be s.size 4++s.data.toList
theorem encS_length (s:ByteArray):(encS s).length=4+s.size:=by
  have h:s.data.toList.length=s.size:=Array.length_toList
  rw [encS,List.length_append,be_length,h]
theorem outs_str (l:List UInt8) (s:ByteArray):outs l++Lib.strCells s=outs (l++s.data.toList):=by simp [outs,Lib.strCells]
theorem len_mod (n:Nat) (h:n≤140737488355328):((n:Int) % 18446744073709551616).toNat=n:=by omega
set_option maxHeartbeats 4000000 in
set_option maxRecDepth 100000 in
theorem text_any (s:ByteArray) (w:World) (B wb:Nat) (v:Value) (bs:List UInt8) (h:Wr w B wb v bs) (hsz:bs.length+(encS s).length≤140737488355328):
    Calls Tryd.prog 81 #[.pointer (some ⟨wb,0,none⟩), .string s] w fun e w'=>e= .returned (.tuple #[])∧∃v',Wr w' B wb v' (bs++encS s)∧WStep w w' wb v v':=by
  obtain ⟨i0,hi0,hz0,hz1,hz2⟩:=info_parts ginfo8
  rw [encS_length] at hsz
  have hc:=layInt_any s.size 4 (by omega) w B wb v bs h (by omega)
  rw [len_mod _ (by omega)] at hc
  have HC:=Lib.hid hc
  have hb0:(be s.size 4).length=4:=be_length _ _
  clear hc
  go_enter Tryd.func81,Tryd.ntmps81
  go_wp2_with (first
    |(go_at_call 53;refine HC.out.mono ?_;rintro e w1 ⟨rfl,v1,h1,s1⟩;have hc1:=h1.cell;have hf1:=h1.frz;have hB:=h1.base;have hlt:=h1.lt;have hown1:w1.ownsRow B 5 1 v1 (bs.length+4) (outs (bs++be s.size 4)):=by have:=h1.own;rwa [List.length_append,hb0] at this)
    |(at_builtin;refine wpList_append_str _ rfl (.tmp 12) (.tmp 13) 22 9 (by rfl) B 5 i0 Tryd.underlying22 Tryd.underlying9 hi0 hz0 hz1 hz2 v1 (bs.length+4) (outs (bs++be s.size 4)) (by rfl) hown1 s (by rfl) (by unfold maxLen;omega) (by omega) (by omega) ?_;intro v2 w2 hown2 hgrow2 hat2;obtain ⟨ao,cc,rfl⟩:=owns_slice hown2;have hc2:w2.cell? ⟨wb,0,none⟩=some v1:=(hgrow2.cell_far ⟨wb,0,none⟩ hlt (Ne.symm h1.ne)).trans hc1;have hf2:w2.frozen? ⟨wb,0,none⟩=false:=(hgrow2.frozen_far ⟨wb,0,none⟩ hlt (Ne.symm h1.ne)).trans hf1))
  go_returns
  rw [outs_str] at hown2
  have hl:(bs++be s.size 4++s.data.toList).length=bs.length+4+s.size:=by
    have h1:s.data.toList.length=s.size:=Array.length_toList
    rw [List.length_append,List.length_append,hb0,h1]
  have hP:=h1.push (v':= .slice ao (bs.length+4+s.size) cc) (bs':=bs++be s.size 4++s.data.toList) (Below.refl _ _) hgrow2 (by rw [hl];exact hown2) (by
    rcases hat2 with e|e
    · exact .inl e
    · right;intro k hk;rw [e] at hk;injection hk with hk;omega)
  exact ⟨rfl, .slice ao (bs.length+4+s.size) cc,by rw [encS, ←List.append_assoc];exact hP.1,s1.trans hP.2⟩
end Go.Proofs.YthceefjafklcmaaDoor
namespace Go.Proofs.YthceefjafklcmaaDoor
open Go.RowKit
mutual
def encV:V→List UInt8
  | .mk k n s l o=>be (k % 18446744073709551616).toNat 1++(if k=1∨k=2 then be (n % 18446744073709551616).toNat 8 else if k=3 then encS s else if k=4 then be l.length 4++encL l else if k=5 then be o.length 4++encO o else [])
def encL:List V→List UInt8
  | [] => []
  |v::r=>encV v++encL r
def encO:List (ByteArray×V)→List UInt8
  | [] => []
  |f::r=>encF f++encO r
def encF:ByteArray×V→List UInt8
  |(k,v)=>encS k++encV v
end
theorem encF_eq (f:ByteArray×V):encF f=encS f.1++encV f.2:=by cases f;simp [encF]
theorem encL_append (a b:List V):encL (a++b)=encL a++encL b:=by
  induction a with
  |nil=>simp [encL]
  |cons v r ih=>simp only [List.cons_append,encL,ih,List.append_assoc]
theorem encO_append (a b:List (ByteArray×V)):encO (a++b)=encO a++encO b:=by
  induction a with
  |nil=>simp [encO]
  |cons v r ih=>simp only [List.cons_append,encO,ih,List.append_assoc]
theorem encL_take (l:List V) (k:Nat) (h:k<l.length):encL (l.take (k+1))=encL (l.take k)++encV l[k] :=by
  rw [take_snoc l k h,encL_append];simp [encL]
theorem encO_take (o:List (ByteArray×V)) (k:Nat) (h:k<o.length):encO (o.take (k+1))=encO (o.take k)++encS o[k].1++encV o[k].2:=by
  rw [take_snoc o k h,encO_append];simp [encO,encF_eq]
theorem encL_le (l:List V) (k:Nat):(encL (l.take k)).length≤(encL l).length:=by
  have h:=encL_append (l.take k) (l.drop k)
  rw [List.take_append_drop] at h;rw [h,List.length_append];omega
theorem encO_le (l:List (ByteArray×V)) (k:Nat):(encO (l.take k)).length≤(encO l).length:=by
  have h:=encO_append (l.take k) (l.drop k)
  rw [List.take_append_drop] at h;rw [h,List.length_append];omega
structure WB (w wr:World) (B wb bx:Nat) (v u:Value) (bs:List UInt8) (c:VC):Prop where
  wrt:Wr wr B wb u bs
  st:WStep w wr wb v u
  at_:ValAt wr bx 0 c
  ne:bx≠wb
  lt:bx<wr.heap.size
  far:u.ownBlock≠some bx
theorem WB.next {w wr w2:World} {B wb bx:Nat} {v u u2:Value} {bs bs2:List UInt8} {c:VC} (h:WB w wr B wb bx v u bs c) (hr:Wr w2 B wb u2 bs2) (hs:WStep wr w2 wb u u2):WB w w2 B wb bx v u2 bs2 c:=by
  refine ⟨hr,h.st.trans hs,⟨hs.far h.at_.c0 h.ne h.far,hs.far h.at_.c1 h.ne h.far,hs.far h.at_.c2 h.ne h.far,hs.far h.at_.c3 h.ne h.far,hs.far h.at_.c4 h.ne h.far⟩,h.ne,Nat.lt_of_lt_of_le h.lt hs.size, ?_⟩
  rcases hs.own with e|e
  · rw [e];exact h.far
  · intro e2;have:=e _ e2;have:=h.lt;omega
theorem WB.behind {w wr w2:World} {B wb bx:Nat} {v u:Value} {bs:List UInt8} {c:VC} (h:WB w wr B wb bx v u bs c) (hb:Below wr.heap.size wr w2):WB w w2 B wb bx v u bs c:=
  h.next (h.wrt.of_below hb) (.of_below wb u hb)
theorem WB.start {w:World} {B wb:Nat} {v:Value} {bs:List UInt8} (h:Wr w B wb v bs) (c:VC) (t:TypeId):WB w (w.alloc (.cells #[.int .u8 c.k, .int .i64 c.n, .string c.s, .slice c.la c.ll c.lc, .slice c.oa c.ol c.oc] t)) B wb w.heap.size v v bs c:=by
  have hb:Below w.heap.size w (w.alloc (.cells #[.int .u8 c.k, .int .i64 c.n, .string c.s, .slice c.la c.ll c.lc, .slice c.oa c.ol c.oc] t)):=(Below.refl _ _).alloc (Nat.le_refl _) _
  exact ⟨h.of_below hb, .of_below wb v hb,valAt_new w c t,fun e=>by have:=h.lt;omega,by simp,fun e=>by have:=(h.lo _ e).2;omega⟩
def valueWP (x:V):Prop:=∀(w:World) (B wb:Nat) (v:Value) (bs:List UInt8) (c:VC),Wr w B wb v bs→IsVal w B x c→bs.length+(encV x).length≤140737488355328→
    Calls Tryd.prog 52 #[.pointer (some ⟨wb,0,none⟩), .agg #[.int .u8 c.k, .int .i64 c.n, .string c.s, .slice c.la c.ll c.lc, .slice c.oa c.ol c.oc]] w fun e w'=>e= .returned (.tuple #[])∧∃v',Wr w' B wb v' (bs++encV x)∧WStep w w' wb v v'
set_option maxHeartbeats 8000000 in
set_option maxRecDepth 100000 in
theorem valueW_any (x:V):valueWP x:=by
  induction x using V.ind with
  |h k n s l o ihl iho=>
  have IHL:=Lib.hid ihl;have IHO:=Lib.hid iho;clear ihl iho
  intro w B wb v bs c h hx hsz
  obtain ⟨rfl,rfl,rfl,cbd,hl,ho⟩:=hx.lists
  have HL:=Lib.hid hl;have HO:=Lib.hid ho;have H0:=Lib.hid h
  have c1:=cbd.l1;have c2:=cbd.l2;have c3:=cbd.o1;have c4:=cbd.o2;have c5:=cbd.s1;have c6:=cbd.l3;have c7:=cbd.o3;have k0:=cbd.k0;have k1:=cbd.k1;have n0:=cbd.n0;have n1:=cbd.n1
  have el:=hl.len;have eo:=ho.len
  have wx:=WB.start h c 28
  have hB:=h.base;have hlt:=h.lt
  clear hl ho hx cbd h
  by_cases e12:c.k=1∨c.k=2
  · have he:encV (.mk c.k c.n c.s l o)=be (c.k % 18446744073709551616).toNat 1++be (c.n % 18446744073709551616).toNat 8:=by rw [encV,if_pos e12]
    rw [he,List.length_append,be_length,be_length] at hsz
    rw [he]
    clear he el eo
    rcases e12 with e1|e1
    · have f1:(c.k==1)=true:=by simp [e1]
      clear e1
      go_enter Tryd.func52,Tryd.ntmps52
      go_wp2_with (first|(go_at_call 50;refine (layU8_any c.k 1 (by omega) _ B wb _ _ wx.wrt ?_).mono ?_;(focus (omega));rintro e w2 ⟨rfl,v2,hr2,hs2⟩;replace wx:=wx.next hr2 hs2;have y0:=wx.at_.c0;have y1:=wx.at_.c1;have y2:=wx.at_.c2;have y3:=wx.at_.c3;have y4:=wx.at_.c4)|(go_at_call 80;refine (layI64_any c.n 8 (by omega) _ B wb _ _ wx.wrt ?_).mono ?_;(focus (rw [List.length_append,be_length];omega));rintro e w2 ⟨rfl,v2,hr2,hs2⟩;replace wx:=wx.next hr2 hs2;have y0:=wx.at_.c0;have y1:=wx.at_.c1;have y2:=wx.at_.c2;have y3:=wx.at_.c3;have y4:=wx.at_.c4))
      go_returns
      exact ⟨rfl,_,by rw [←List.append_assoc];exact wx.wrt,wx.st⟩
    · have f1:(c.k==1)=false:=by simp [e1]
      have f2:(c.k==2)=true:=by simp [e1]
      clear e1
      go_enter Tryd.func52,Tryd.ntmps52
      go_wp2_with (first|(go_at_call 50;refine (layU8_any c.k 1 (by omega) _ B wb _ _ wx.wrt ?_).mono ?_;(focus (omega));rintro e w2 ⟨rfl,v2,hr2,hs2⟩;replace wx:=wx.next hr2 hs2;have y0:=wx.at_.c0;have y1:=wx.at_.c1;have y2:=wx.at_.c2;have y3:=wx.at_.c3;have y4:=wx.at_.c4)|(go_at_call 80;refine (layI64_any c.n 8 (by omega) _ B wb _ _ wx.wrt ?_).mono ?_;(focus (rw [List.length_append,be_length];omega));rintro e w2 ⟨rfl,v2,hr2,hs2⟩;replace wx:=wx.next hr2 hs2;have y0:=wx.at_.c0;have y1:=wx.at_.c1;have y2:=wx.at_.c2;have y3:=wx.at_.c3;have y4:=wx.at_.c4))
      go_returns
      exact ⟨rfl,_,by rw [←List.append_assoc];exact wx.wrt,wx.st⟩
  have e1:¬c.k=1:=fun e=>e12 (.inl e)
  have e2:¬c.k=2:=fun e=>e12 (.inr e)
  have f1:(c.k==1)=false:=by simp [e1]
  have f2:(c.k==2)=false:=by simp [e2]
  clear e1 e2
  by_cases e3:c.k=3
  · have he:encV (.mk c.k c.n c.s l o)=be (c.k % 18446744073709551616).toNat 1++encS c.s:=by rw [encV,if_neg e12,if_pos e3]
    rw [he,List.length_append,be_length] at hsz
    rw [he]
    have f3:(c.k==3)=true:=by simp [e3]
    clear he el eo e3 e12
    go_enter Tryd.func52,Tryd.ntmps52
    go_wp2_with (first|(go_at_call 50;refine (layU8_any c.k 1 (by omega) _ B wb _ _ wx.wrt ?_).mono ?_;(focus (omega));rintro e w2 ⟨rfl,v2,hr2,hs2⟩;replace wx:=wx.next hr2 hs2;have y0:=wx.at_.c0;have y1:=wx.at_.c1;have y2:=wx.at_.c2;have y3:=wx.at_.c3;have y4:=wx.at_.c4)|(go_at_call 81;refine (text_any c.s _ B wb _ _ wx.wrt ?_).mono ?_;(focus (rw [List.length_append,be_length];omega));rintro e w2 ⟨rfl,v2,hr2,hs2⟩;replace wx:=wx.next hr2 hs2;have y0:=wx.at_.c0;have y1:=wx.at_.c1;have y2:=wx.at_.c2;have y3:=wx.at_.c3;have y4:=wx.at_.c4))
    go_returns
    exact ⟨rfl,_,by rw [←List.append_assoc];exact wx.wrt,wx.st⟩
  have f3:(c.k==3)=false:=by simp [e3]
  by_cases e4:c.k=4
  · have he:encV (.mk c.k c.n c.s l o)=be (c.k % 18446744073709551616).toNat 1++(be l.length 4++encL l):=by rw [encV,if_neg e12,if_neg e3,if_pos e4]
    rw [he,List.length_append,List.length_append,be_length,be_length] at hsz
    rw [he]
    have f4:(c.k==4)=true:=by simp [e4]
    have ell:be ((c.ll:Int) % 18446744073709551616).toNat 4=be l.length 4:=by rw [len_mod _ (by omega),el]
    have ELL:=Lib.hid ell
    have EL:=Lib.hid el
    clear he el eo e3 e12 e4 ell
    obtain ⟨ck,cn,cs,la,ll,lc,oa,ol,oc⟩:=c
    dsimp only at*
    go_enter Tryd.func52,Tryd.ntmps52
    go_wp2_with (first|(go_at_call 50;refine (layU8_any ck 1 (by omega) _ B wb _ _ wx.wrt ?_).mono ?_;(focus (omega));rintro e w2 ⟨rfl,v2,hr2,hs2⟩;replace wx:=wx.next hr2 hs2;have y0:=wx.at_.c0;have y1:=wx.at_.c1;have y2:=wx.at_.c2;have y3:=wx.at_.c3;have y4:=wx.at_.c4)|(go_at_call 53;refine (layInt_any (ll:Int) 4 (by omega) _ B wb _ _ wx.wrt ?_).mono ?_;(focus (rw [List.length_append,be_length];omega));rintro e w2 ⟨rfl,v2,hr2,hs2⟩;replace wx:=wx.next hr2 hs2;have y0:=wx.at_.c0;have y1:=wx.at_.c1;have y2:=wx.at_.c2;have y3:=wx.at_.c3;have y4:=wx.at_.c4))
    obtain ⟨PRE,hPRE⟩:∃PRE,bs++be (ck % 18446744073709551616).toNat 1++be ((ll:Int) % 18446744073709551616).toNat 4=PRE:=⟨_,rfl⟩
    rw [hPRE] at wx
    have hPL:PRE.length+(encL l).length≤140737488355328:=by rw [←hPRE,List.length_append,List.length_append,be_length,be_length];omega
    have hPE:PRE=bs++be (ck % 18446744073709551616).toNat 1++be l.length 4:=by rw [←hPRE,ELL.out]
    have HPE:=Lib.hid hPE
    clear hr2 hs2 hPRE hPE y0 y1 y2 y3 y4
    go_loopw [37,5] (fun i _ wr=>∃(k:Nat) (u:Value),k≤ll∧i= .int .i64 k∧WB w wr B wb w.heap.size v u (PRE++encL (l.take k)) ⟨ck,cn,cs,la,ll,lc,oa,ol,oc⟩) (fun i _ _=>ll - (intOf i).toNat)
    case atStart=>exact ⟨0,v2,Nat.zero_le _,rfl,by simpa [encL] using wx⟩
    case round=>
      clear wx
      obtain ⟨k,u,hk,rfl,wx⟩:=hrel
      have y3:=wx.at_.c3
      by_cases hlt2:k<ll
      · obtain ⟨b,o',f,kl,rfl,hb,x1,xv⟩:=HL.out.get hlt2
        have hbW:=H0.out.keeps wx.st
        have x1:=x1.keep hbW hb
        have r0:=x1.c0;have r1:=x1.c1;have r2:=x1.c2;have r3:=x1.c3;have r4:=x1.c4
        have hle:=encL_le l (k+1)
        have ht:=encL_take l k kl
        have hlen:(PRE++encL (l.take k)).length+(encV l[k]).length≤140737488355328:=by
          rw [ht,List.length_append] at hle;rw [List.length_append];omega
        have HI:Hid (∀W,Below wr.heap.size wr W→Calls Tryd.prog 52 #[.pointer (some ⟨wb,0,none⟩), .agg #[.int .u8 f.k, .int .i64 f.n, .string f.s, .slice f.la f.ll f.lc, .slice f.oa f.ol f.oc]] W fun e w'=>e= .returned (.tuple #[])∧∃v',Wr w' B wb v' (PRE++encL (l.take (k+1)))∧WStep W w' wb u v'):=by
          intro W hW
          have hBw:B≤wr.heap.size:=Nat.le_trans hB (Nat.le_of_lt wx.wrt.lt)
          have:=IHL.out l[k] (List.getElem_mem kl) W B wb u _ f (wx.wrt.of_below hW) (xv.keep (hbW.trans (hW.mono hBw))) hlen
          rw [ht, ←List.append_assoc];exact this
        clear x1 xv hle ht hlen hbW
        go_wp2_with (go_at_call 52;refine (HI.out _ (by go_grown)).mono ?_;rintro e w2 ⟨rfl,v3,hr3,hs3⟩)
        go_roundw
        case rel=>exact ⟨k+1,v3,by omega,by go_num,(wx.behind (by go_grown)).next hr3 hs3⟩
        case measure=>simp [intOf];omega
      · go_wp2_with fail
        go_returns
        exact ⟨rfl,u,by rw [←List.append_assoc, ←List.append_assoc, ←HPE.out];have:=wx.wrt;rwa [List.take_of_length_le (by have:=EL.out;omega)] at this,wx.st⟩
  have f4:(c.k==4)=false:=by simp [e4]
  by_cases e5:c.k=5
  · have he:encV (.mk c.k c.n c.s l o)=be (c.k % 18446744073709551616).toNat 1++(be o.length 4++encO o):=by rw [encV,if_neg e12,if_neg e3,if_neg e4,if_pos e5]
    rw [he,List.length_append,List.length_append,be_length,be_length] at hsz
    rw [he]
    have f5:(c.k==5)=true:=by simp [e5]
    have ell:be ((c.ol:Int) % 18446744073709551616).toNat 4=be o.length 4:=by rw [len_mod _ (by omega),eo]
    have ELL:=Lib.hid ell
    have EL:=Lib.hid eo
    clear he el eo e3 e12 e4 e5 ell
    obtain ⟨ck,cn,cs,la,ll,lc,oa,ol,oc⟩:=c
    dsimp only at*
    go_enter Tryd.func52,Tryd.ntmps52
    go_wp2_with (first|(go_at_call 50;refine (layU8_any ck 1 (by omega) _ B wb _ _ wx.wrt ?_).mono ?_;(focus (omega));rintro e w2 ⟨rfl,v2,hr2,hs2⟩;replace wx:=wx.next hr2 hs2;have y0:=wx.at_.c0;have y1:=wx.at_.c1;have y2:=wx.at_.c2;have y3:=wx.at_.c3;have y4:=wx.at_.c4)|(go_at_call 53;refine (layInt_any (ol:Int) 4 (by omega) _ B wb _ _ wx.wrt ?_).mono ?_;(focus (rw [List.length_append,be_length];omega));rintro e w2 ⟨rfl,v2,hr2,hs2⟩;replace wx:=wx.next hr2 hs2;have y0:=wx.at_.c0;have y1:=wx.at_.c1;have y2:=wx.at_.c2;have y3:=wx.at_.c3;have y4:=wx.at_.c4))
    obtain ⟨PRE,hPRE⟩:∃PRE,bs++be (ck % 18446744073709551616).toNat 1++be ((ol:Int) % 18446744073709551616).toNat 4=PRE:=⟨_,rfl⟩
    rw [hPRE] at wx
    have hPL:PRE.length+(encO o).length≤140737488355328:=by rw [←hPRE,List.length_append,List.length_append,be_length,be_length];omega
    have hPE:PRE=bs++be (ck % 18446744073709551616).toNat 1++be o.length 4:=by rw [←hPRE,ELL.out]
    have HPE:=Lib.hid hPE
    clear hr2 hs2 hPRE hPE y0 y1 y2 y3 y4
    go_loopw [55,7] (fun i _ wr=>∃(k:Nat) (u:Value),k≤ol∧i= .int .i64 k∧WB w wr B wb w.heap.size v u (PRE++encO (o.take k)) ⟨ck,cn,cs,la,ll,lc,oa,ol,oc⟩) (fun i _ _=>ol - (intOf i).toNat)
    case atStart=>exact ⟨0,v2,Nat.zero_le _,rfl,by simpa [encO] using wx⟩
    case round=>
      clear wx
      obtain ⟨k,u,hk,rfl,wx⟩:=hrel
      have y4:=wx.at_.c4
      by_cases hlt2:k<ol
      · obtain ⟨b,o',f,kl,rfl,hb,g1,gk,x1,xv⟩:=HO.out.get hlt2
        have hbW:=H0.out.keeps wx.st
        have hBw:B≤wr.heap.size:=Nat.le_trans hB (Nat.le_of_lt wx.wrt.lt)
        have x1:=x1.keep hbW hb
        have xv:=xv.keep hbW
        have g0:=keep_cell hbW g1 hb
        have r0:=x1.c0;have r1:wr.cell? ⟨b,o'+k*6+2,none⟩=_:=x1.c1;have r2:wr.cell? ⟨b,o'+k*6+3,none⟩=_:=x1.c2;have r3:wr.cell? ⟨b,o'+k*6+4,none⟩=_:=x1.c3;have r4:wr.cell? ⟨b,o'+k*6+5,none⟩=_:=x1.c4
        have hle:=encO_le o (k+1)
        have ht:=encO_take o k kl
        have hlen1:(PRE++encO (o.take k)).length+(encS o[k].1).length≤140737488355328:=by
          rw [ht,List.length_append,List.length_append] at hle;rw [List.length_append];omega
        have hlen2:(PRE++encO (o.take k)++encS o[k].1).length+(encV o[k].2).length≤140737488355328:=by
          rw [ht,List.length_append,List.length_append] at hle;rw [List.length_append,List.length_append];omega
        have HT:=Lib.hid ht
        have hwz:wr.heap.size≠wb:=by have:=wx.wrt.lt;omega
        have hwo:u.ownBlock≠some wr.heap.size:=fun e=>by have:=(wx.wrt.lo _ e).2;omega
        clear hle ht g1
        go_wp2_with (first|(go_at_call 81;refine (text_any o[k].1 _ B wb _ _ (wx.wrt.of_below (by go_grown)) hlen1).mono ?_;rintro e w3 ⟨rfl,v3,hr3,hs3⟩;have hb3:Below B wr w3:=wx.wrt.keeps ((WStep.of_below wb u (by go_grown)).trans hs3);have q1:=hs3.far (b:=wr.heap.size) (o:=1) (cells_new _ _ _ 1 _ rfl) hwz hwo;have q2:=hs3.far (b:=wr.heap.size) (o:=2) (cells_new _ _ _ 2 _ rfl) hwz hwo;have q3:=hs3.far (b:=wr.heap.size) (o:=3) (cells_new _ _ _ 3 _ rfl) hwz hwo;have q4:=hs3.far (b:=wr.heap.size) (o:=4) (cells_new _ _ _ 4 _ rfl) hwz hwo;have q5:=hs3.far (b:=wr.heap.size) (o:=5) (cells_new _ _ _ 5 _ rfl) hwz hwo)|(go_at_call 52;refine (IHO.out o[k] (List.getElem_mem kl) _ B wb v3 _ f hr3 (xv.keep hb3) hlen2).mono ?_;rintro e w4 ⟨rfl,v4,hr4,hs4⟩))
        go_roundw
        case rel=>exact ⟨k+1,v4,by omega,by go_num,by rw [HT.out, ←List.append_assoc, ←List.append_assoc];exact ((wx.behind (by go_grown)).next hr3 hs3).next hr4 hs4⟩
        case measure=>simp [intOf];omega
      · go_wp2_with fail
        go_returns
        exact ⟨rfl,u,by rw [←List.append_assoc, ←List.append_assoc, ←HPE.out];have:=wx.wrt;rwa [List.take_of_length_le (by have:=EL.out;omega)] at this,wx.st⟩
  have f5:(c.k==5)=false:=by simp [e5]
  have he:encV (.mk c.k c.n c.s l o)=be (c.k % 18446744073709551616).toNat 1:=by rw [encV,if_neg e12,if_neg e3,if_neg e4,if_neg e5,List.append_nil]
  rw [he,be_length] at hsz
  rw [he]
  clear he el eo e3 e12 e4 e5
  go_enter Tryd.func52,Tryd.ntmps52
  go_wp2_with (go_at_call 50;refine (layU8_any c.k 1 (by omega) _ B wb _ _ wx.wrt ?_).mono ?_;(focus (omega));rintro e w2 ⟨rfl,v2,hr2,hs2⟩;replace wx:=wx.next hr2 hs2;have y0:=wx.at_.c0;have y1:=wx.at_.c1;have y2:=wx.at_.c2;have y3:=wx.at_.c3;have y4:=wx.at_.c4)
  go_returns
  exact ⟨rfl,_,wx.wrt,wx.st⟩
end Go.Proofs.YthceefjafklcmaaDoor
namespace Go.Proofs.YthceefjafklcmaaDoor
open Go.RowKit
end Go.Proofs.YthceefjafklcmaaDoor
namespace Go.Proofs.YthceefjafklcmaaDoor
open Go.RowKit
end Go.Proofs.YthceefjafklcmaaDoor
