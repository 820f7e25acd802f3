/-
  Contracts of the functions that the law reaches: Words for the memory of a call: the.
-/
import Derived.Test.YtnjgbiachcfigaaGreatDoorProg
import Derived.WalkKit
import Derived.WalkSpells
import Derived.WalkLawsBesides
import Derived.Lib.Hide
import Derived.BigQuiet
import Derived.Deep.QuietTactic
import Derived.Lib.ValidU
import Derived.Lib.ValidLaws
namespace Go.Proofs.YtnjgbiachcfigaaGreatDoor
open Go.RowKit
set_option maxHeartbeats 2000000
theorem qh {p:Prop} (h:p):Hid p:=Lib.hid h
structure LaterBy where
 d:Nat
 os:Array Obj
 deriving Inhabited
def later (w:World) (p:LaterBy):World:= { heap:=w.heap++p.os,tape:=w.tape,drawn:=p.d,os:=w.os,output:=w.output }
theorem Za {w:World} {a:Addr} {v:Value} (h:w.cell? a=some v) (p:LaterBy):(later w p).cell? a=some v:=by
 have hb:=World.block_lt_of_cell? w a h
 rw [<-h]
 exact World.cell?_of_block (by simp [later,Array.getElem?_append,hb])
theorem Zd (w:World) (p:LaterBy):Below w.heap.size w (later w p):=
 ⟨rfl,rfl,rfl,by simp [later],fun k hk=>by simp [later,Array.getElem?_append,hk]⟩
theorem zey {w w':World} (h:Below w.heap.size w w'):∃p,w'=later w p:=by
 refine ⟨⟨w'.drawn,w'.heap.extract w.heap.size w'.heap.size⟩, ?_⟩
 obtain ⟨hp,tp,dr,o,out⟩:=w'
 obtain ⟨h1,h2,h3,h4,h5⟩:=h
 simp only [later] at*
 subst h1 h2 h3
 congr 1
 apply Array.ext_getElem?
 intro k
 simp only [Array.getElem?_append,Array.getElem?_extract]
 split
 .rename_i hk;rw [h5 k hk]
 .rename_i hk
  have:w.heap.size+(k - w.heap.size)=k:=by omega
  rw [this]
  split
  .rfl
  .rw [Array.getElem?_eq_none (by omega)]
theorem zd5 (w:World):({ w with drawn:=w.drawn+1 } :World)=later w ⟨w.drawn+1, #[]⟩:=by
 simp [later]
theorem Zk {P:Program} {id:Nat} {Q:Exit->Act->World->Prop} {a:Act} {w:World} {l:List Oper} (hm:P.follows .mixedOrders=true) (hB:Region.lexB .any l.toArray=true)
 (h:wpQuiet P l.toArray (fun w'=>∃p:LaterBy,w'=later w p) (fun a'=>∀w',(∃p:LaterBy,w'=later w p)->Q .normal a' w') l a):(Code.region id l.toArray true).wp P Q a w:=
 wp_region_quiet (C:=fun w'=>∃p:LaterBy,w'=later w p) hm hB ⟨_,zd5 w⟩ (by simpa using h)
theorem Zg {P:Program} {f:FuncId} {args:Array Value} {w:World} {p:LaterBy} {v:Value}
 (h:Calls P f args (later w p) fun e w'=>e= .returned v/\Below (later w p).heap.size (later w p) w'):Calls P f args (later w p) fun e w''=>e= .returned v/\∃q:LaterBy,w''=later w q:=
 h.mono fun _ _ ⟨he,hb⟩=>⟨he,zey ((Zd w p).trans (hb.mono (by simp [later])))⟩
theorem Kn {W w1:World} (hb:Below W.heap.size W w1):(∀b o,b<W.heap.size->w1.cell? ⟨b,o,none⟩=W.cell? ⟨b,o,none⟩)/\(∀b o,b<W.heap.size->w1.frozen? ⟨b,o,none⟩=W.frozen? ⟨b,o,none⟩):=
 ⟨fun _ _ h=>hb.cell h,fun _ _ h=>hb.frozen h⟩
theorem Zb {W w1:World} {B:Nat} (hb:Below B W w1) {b o:Nat} {v:Value} (h:W.cell? ⟨b,o,none⟩=some v) (hB:b<B):w1.cell? ⟨b,o,none⟩=some v:=
 (hb.cell (p:=⟨b,o,none⟩) hB).trans h
theorem Zc {a b:Bool} (h:a=b):Ending.returned (.bool a)=Ending.returned (.bool b):=by rw [h]
theorem Qz {k:IntKind} {a b:Int} (h:a=b):Ending.returned (.int k a)=Ending.returned (.int k b):=by rw [h]
theorem X2 {k:IntKind} {a b:Int} (h:a=b):Value.int k a=Value.int k b:=by rw [h]
theorem Y6 {a b:ByteArray} (h:a.toList=b.toList):a=b:=by
 rw [ByteArray.toList_eq,ByteArray.toList_eq] at h
 exact ByteArray.ext (Array.ext' h)
theorem _root_.Go.RowKit.Below.on {B:Nat} {a w w':World} (h:Below B a w) (hb:Below w.heap.size w w') (hB:B<=w.heap.size):Below B a w':=h.trans (hb.mono hB)
theorem _root_.Go.RowKit.Below.two {w w':World} {o1 o2:Obj} (hb:Below ((w.alloc o1).alloc o2).heap.size ((w.alloc o1).alloc o2) w'):Below w.heap.size w w':=
 (((Below.refl _ _).alloc (Nat.le_refl _) _).alloc (by simp) _).trans (hb.mono (by simp;omega))
theorem _root_.Go.RowKit.Below.one {w w':World} {o1:Obj} (hb:Below (w.alloc o1).heap.size (w.alloc o1) w'):Below w.heap.size w w':=
 ((Below.refl _ _).alloc (Nat.le_refl _) _).trans (hb.mono (by simp))
inductive V where
 |mk (k n:Int) (s:ByteArray) (l:List V) (o:List (ByteArray×V))
theorem V.ind {P:V->Prop} (h:∀k n s l o,(∀v ∈ l,P v)->(∀f ∈ o,P f.2)->P (.mk k n s l o)):∀v,P v:=by
 intro v
 refine V.rec (motive_1:=P) (motive_2:=fun l=>∀v ∈ l,P v) (motive_3:=fun o=>∀f ∈ o,P f.2) (motive_4:=fun f=>P f.2) ?_ ?_ ?_ ?_ ?_ ?_ v
 .exact fun k n s l o hl ho=>h k n s l o hl ho
 .intro v hv;cases hv
 .intro v l hv hl x hx
  rcases List.mem_cons.1 hx with rfl|hx
  .exact hv
  .exact hl x hx
 .intro f hf;cases hf
 .intro f o hf ho x hx
  rcases List.mem_cons.1 hx with rfl|hx
  .exact hf
  .exact ho x hx
 .intro k v hv;exact hv
structure VC where
 k:Int
 n:Int
 s:ByteArray
 la:Option Addr
 ll:Nat
 lc:Nat
 oa:Option Addr
 ol:Nat
 oc:Nat
structure ValAt (w:World) (b o:Nat) (c:VC):Prop where
 c0:w.cell? ⟨b,o,none⟩=some (.int .u8 c.k)
 c1:w.cell? ⟨b,o+1,none⟩=some (.int .i64 c.n)
 c2:w.cell? ⟨b,o+2,none⟩=some (.string c.s)
 c3:w.cell? ⟨b,o+3,none⟩=some (.slice c.la c.ll c.lc)
 c4:w.cell? ⟨b,o+4,none⟩=some (.slice c.oa c.ol c.oc)
structure VC.Bnd (c:VC):Prop where
 k0:0<=c.k
 k1:c.k<256
 n0: -9223372036854775808<=c.n
 n1:c.n<=9223372036854775807
 s1:c.s.size<=140737488355328
 l1:c.ll<=c.lc
 l2:c.lc<=9223372036854775807
 l3:c.ll<=1466015503701
 o1:c.ol<=c.oc
 o2:c.oc<=9223372036854775807
 o3:c.ol<=1466015503701
inductive IsVal (w:World) (B:Nat):V->VC->Prop
 |mk (c:VC) (l:List V) (o:List (ByteArray×V)) (cl co:Nat->VC) (lb lo ob oo:Nat) (hb:c.Bnd)
     (hl:c.ll=l.length) (ho:c.ol=o.length)
     (hla:0<c.ll->c.la=some ⟨lb,lo,none⟩/\lb<B) (hoa:0<c.ol->c.oa=some ⟨ob,oo,none⟩/\ob<B)
     (hlc:∀i,i<l.length->ValAt w lb (lo+i*5) (cl i))
     (hlv:∀i (h:i<l.length),IsVal w B l[i] (cl i))
     (hoc:∀i (h:i<o.length),w.cell? ⟨ob,oo+i*6,none⟩=some (.string o[i].1)/\o[i].1.size<=140737488355328/\ValAt w ob (oo+i*6+1) (co i))
     (hov:∀i (h:i<o.length),IsVal w B o[i].2 (co i)):IsVal w B (.mk c.k c.n c.s l o) c
theorem ValAt.keep {w w':World} {B b o:Nat} {c:VC} (h:ValAt w b o c) (hb:Below B w w') (hB:b<B):ValAt w' b o c:=
 ⟨Zb hb h.c0 hB,Zb hb h.c1 hB,Zb hb h.c2 hB,Zb hb h.c3 hB,Zb hb h.c4 hB⟩
theorem IsVal.keep {w w':World} {B:Nat} (hb:Below B w w') {v:V} {c:VC} (h:IsVal w B v c):IsVal w' B v c:=by
 induction h with
 | mk c l o cl co lb lo ob oo hbd hl ho hla hoa hlc hlv hoc hov ihl iho=>
   refine .mk c l o cl co lb lo ob oo hbd hl ho hla hoa (fun i hi=>(hlc i hi).keep hb (hla (by omega)).2) ihl (fun i hi=> ?_) iho
   have hB:=(hoa (by omega)).2
   obtain ⟨h1,h2,h3⟩:=hoc i hi
   exact ⟨Zb hb h1 hB,h2,h3.keep hb hB⟩
theorem IsVal.more {w:World} {B B':Nat} (hB:B<=B') {v:V} {c:VC} (h:IsVal w B v c):IsVal w B' v c:=by
 induction h with
 | mk c l o cl co lb lo ob oo hbd hl ho hla hoa hlc hlv hoc hov ihl iho=>
   exact .mk c l o cl co lb lo ob oo hbd hl ho (fun h=>⟨(hla h).1,by have:=(hla h).2;omega⟩) (fun h=>⟨(hoa h).1,by have:=(hoa h).2;omega⟩) hlc ihl hoc iho
theorem IsVal.later_ {w w':World} (hb:Below w.heap.size w w') {v:V} {c:VC} (h:IsVal w w.heap.size v c):IsVal w' w'.heap.size v c:=
 (h.keep hb).more hb.size
theorem IsVal.bnd {w:World} {B:Nat} {v:V} {c:VC} (h:IsVal w B v c):c.Bnd:=by cases h;assumption
structure Boxed2 (w wr:World) (c d:VC):Prop where
 a:ValAt wr w.heap.size 0 c
 b:ValAt wr (w.heap.size+1) 0 d
 below:Below w.heap.size w wr
 size:w.heap.size+2<=wr.heap.size
theorem Zo (w:World) (cs:Array Value) (t:TypeId) (j:Nat) (u:Value) (h:cs[j]? =some u):(w.alloc (.cells cs t)).cell? ⟨w.heap.size,j,none⟩=some u:=by
 rw [cell_of_row (w.alloc (.cells cs t)) w.heap.size j cs t (0,0) (heap_alloc_new w _)];exact h
theorem Ym (w:World) (c:VC) (t:TypeId):ValAt (w.alloc (.cells #[.int .u8 c.k, .int .i64 c.n, .string c.s, .slice c.la c.ll c.lc, .slice c.oa c.ol c.oc] t)) w.heap.size 0 c:=
 ⟨Zo _ _ _ _ _ rfl,Zo _ _ _ _ _ rfl,Zo _ _ _ _ _ rfl,Zo _ _ _ _ _ rfl,Zo _ _ _ _ _ rfl⟩
theorem zal (w:World) (c d:VC) (t:TypeId):Boxed2 w ((w.alloc (.cells #[.int .u8 c.k, .int .i64 c.n, .string c.s, .slice c.la c.ll c.lc, .slice c.oa c.ol c.oc] t)).alloc (.cells #[.int .u8 d.k, .int .i64 d.n, .string d.s, .slice d.la d.ll d.lc, .slice d.oa d.ol d.oc] t)) c d:=by
 refine ⟨?_, ?_,((Below.refl _ _).alloc (Nat.le_refl _) _).alloc (by simp) _,by simp⟩
 .exact (Ym w c t).keep (B:=w.heap.size+1) ((Below.refl _ _).alloc (by simp) _) (by omega)
 .have h:=Ym (w.alloc (.cells #[.int .u8 c.k, .int .i64 c.n, .string c.s, .slice c.la c.ll c.lc, .slice c.oa c.ol c.oc] t)) d t
  rw [World.size_alloc] at h
  exact h
theorem Boxed2.step {w wr w':World} {c d:VC} (h:Boxed2 w wr c d) (hb:Below wr.heap.size wr w'):Boxed2 w w' c d:=
 ⟨h.a.keep hb (by have:=h.size;omega),h.b.keep hb (by have:=h.size;omega),h.below.trans (hb.mono (by have:=h.size;omega)),by have:=h.size;have:=hb.size;omega⟩
mutual
def V.weight:V->Nat
 | .mk _ _ s l o=>1+s.size+weightL l+weightO o
def weightL:List V->Nat
 | [] =>0
 |v::r=>v.weight+weightL r
def weightO:List (ByteArray×V)->Nat
 | [] =>0
 |f::r=>weightF f+weightO r
def weightF:ByteArray×V->Nat
 |(k,v)=>k.size+v.weight
end
mutual
def V.deep:V->Nat
 | .mk _ _ _ l o=>max (deepL l) (deepO o)
def deepL:List V->Nat
 | [] =>0
 |v::r=>max (v.deep+1) (deepL r)
def deepO:List (ByteArray×V)->Nat
 | [] =>0
 |f::r=>max (deepF f+1) (deepO r)
def deepF:ByteArray×V->Nat
 |(_,v)=>v.deep
end
theorem Km (a b:List V):weightL (a++b)=weightL a+weightL b:=by
 induction a with
 |nil=>simp [weightL]
 |cons v r ih=>simp only [List.cons_append,weightL,ih];omega
theorem Q4 (a b:List (ByteArray×V)):weightO (a++b)=weightO a+weightO b:=by
 induction a with
 |nil=>simp [weightO]
 |cons v r ih=>simp only [List.cons_append,weightO,ih];omega
theorem Xn (f:ByteArray×V):weightF f=f.1.size+f.2.weight:=by cases f;simp [weightF]
theorem Qp (f:ByteArray×V):deepF f=f.2.deep:=by cases f;simp [deepF]
theorem zj0 (a b:List V):deepL (a++b)=max (deepL a) (deepL b):=by
 induction a with
 |nil=>simp [deepL]
 |cons v r ih=>simp only [List.cons_append,deepL,ih];omega
theorem Jz (a b:List (ByteArray×V)):deepO (a++b)=max (deepO a) (deepO b):=by
 induction a with
 |nil=>simp [deepO]
 |cons v r ih=>simp only [List.cons_append,deepO,ih];omega
theorem Z5 {α:Type} (l:List α) (k:Nat) (h:k<l.length):l.take (k+1)=l.take k++ [l[k]] :=by
 rw [List.take_succ_eq_append_getElem h]
theorem zaf (l:List V) (k:Nat) (h:k<l.length):weightL (l.take (k+1))=weightL (l.take k)+l[k].weight:=by
 rw [Z5 l k h,Km];simp [weightL]
theorem zbl (o:List (ByteArray×V)) (k:Nat) (h:k<o.length):weightO (o.take (k+1))=weightO (o.take k)+(o[k].1.size+o[k].2.weight):=by
 rw [Z5 o k h,Q4];simp [weightO,Xn]
theorem zet (l:List V) (k:Nat) (h:k<l.length):deepL (l.take (k+1))=max (deepL (l.take k)) (l[k].deep+1):=by
 rw [Z5 l k h,zj0];simp [deepL]
theorem zjm (o:List (ByteArray×V)) (k:Nat) (h:k<o.length):deepO (o.take (k+1))=max (deepO (o.take k)) (o[k].2.deep+1):=by
 rw [Z5 o k h,Jz];simp [deepO,Qp]
theorem J8 (l:List V) (k:Nat):weightL (l.take k)<=weightL l:=by
 have h:=Km (l.take k) (l.drop k)
 rw [List.take_append_drop] at h;omega
theorem Jp (l:List (ByteArray×V)) (k:Nat):weightO (l.take k)<=weightO l:=by
 have h:=Q4 (l.take k) (l.drop k)
 rw [List.take_append_drop] at h;omega
theorem Qh (l:List V) (k:Nat) (h:k<l.length):l[k].weight<=weightL l:=by
 have:=zaf l k h;have:=J8 l (k+1);omega
theorem Qi (l:List (ByteArray×V)) (k:Nat) (h:k<l.length):l[k].1.size+l[k].2.weight<=weightO l:=by
 have:=zbl l k h;have:=Jp l (k+1);omega
theorem V.deep_lt (v:V):v.deep<v.weight:=by
 induction v using V.ind with
 | h k n s l o ihl iho=>
   have hl:∀l:List V,(∀v ∈ l,v.deep<v.weight)->deepL l<=weightL l:=by
    intro l
    induction l with
    |nil=>intro _;simp [deepL]
    | cons v r ih=>
      intro h
      have h1:=h v (by simp)
      have h2:=ih (fun x hx=>h x (by simp [hx]))
      simp only [deepL,weightL];omega
   have ho:∀o:List (ByteArray×V),(∀f ∈ o,f.2.deep<f.2.weight)->deepO o<=weightO o:=by
    intro o
    induction o with
    |nil=>intro _;simp [deepO]
    | cons f r ih=>
      intro h
      have h1:=h f (by simp)
      have h2:=ih (fun x hx=>h x (by simp [hx]))
      simp only [deepO,weightO,Xn,Qp];omega
   have:=hl l ihl
   have:=ho o iho
   simp only [V.deep,V.weight];omega
def plainB (k n:Int) (s:ByteArray) (ll ol:Nat):Bool:=
 if k=0 then n==0 && s.toList.isEmpty && ll==0 && ol==0
 else if k=1 then (n==0||n==1) && s.toList.isEmpty && ll==0 && ol==0
 else if k=2 then s.toList.isEmpty && ll==0 && ol==0
 else if k=3 then n==0 && Lib.validD s.data.toList && ll==0 && ol==0
 else if k=4 then n==0 && s.toList.isEmpty && ol==0
 else if k=5 then n==0 && s.toList.isEmpty && ll==0
 else false
def rising:List (ByteArray×V)->Bool
 | [] =>true
 | [_] =>true
 |a::b::r=>Op.bytesLess a.1.toList b.1.toList && rising (b::r)
mutual
def V.sound:V->Bool
 | .mk k n s l o=>plainB k n s l.length o.length && rising o && soundL l && soundO o
def soundL:List V->Bool
 | [] =>true
 |v::r=>v.sound && soundL r
def soundO:List (ByteArray×V)->Bool
 | [] =>true
 |f::r=>soundF f && soundO r
def soundF:ByteArray×V->Bool
 |(k,v)=>Lib.validD k.data.toList && v.sound
end
theorem Qr (f:ByteArray×V):soundF f=(Lib.validD f.1.data.toList && f.2.sound):=by cases f;simp [soundF]
theorem Jd (l:List V):soundL l=true↔∀v ∈ l,v.sound=true:=by
 induction l with
 |nil=>simp [soundL]
 |cons v r ih=>simp [soundL,ih]
theorem Jb (l:List (ByteArray×V)):soundO l=true↔∀f ∈ l,Lib.validD f.1.data.toList=true/\f.2.sound=true:=by
 induction l with
 |nil=>simp [soundO]
 |cons v r ih=>simp [soundO,ih,Qr]
theorem Qs:∀o:List (ByteArray×V),rising o=true↔∀i (h:i+1<o.length),Op.bytesLess o[i].1.toList o[i+1].1.toList=true
 | [] =>by simp [rising]
 | [_] =>by simp [rising]
 | a ::b::r=>by
   have ih:=Qs (b::r)
   simp only [rising,Bool.and_eq_true,ih]
   constructor
   .rintro ⟨h1,h2⟩ i hi
    cases i with
    |zero=>exact h1
    |succ i=>exact h2 i (by simpa using hi)
   .intro h
    exact ⟨h 0 (by simp),fun i hi=>h (i+1) (by simpa using hi)⟩
noncomputable def eqv (a b:V):Bool:= @decide (a=b) (Classical.propDecidable _)
theorem Z9 {a b:V} (h:a≠b):eqv a b=false:=by simp [eqv,h]
theorem Q9 {a b:V} (h:a=b):eqv a b=true:=by simp [eqv,h]
theorem X9 {a b:V} (h:eqv a b=true):a=b:=by simpa [eqv] using h
theorem Xy {a b:V} (h:eqv a b=false):a≠b:=by simpa [eqv] using h
theorem Kq {l l':List V} {k:Nat} (h:Hid (∀j,j<k->l[j]? =l'[j]?)) (kl:k<l.length) (kl':k<l'.length) (e:eqv l[k] l'[k] =true):Hid (∀j,j<k+1->l[j]? =l'[j]?):=by
 intro j hj
 by_cases hjk:j=k
 .subst hjk;rw [List.getElem?_eq_getElem kl,List.getElem?_eq_getElem kl',X9 e]
 .exact h.out j (by omega)
theorem zin {o o':List (ByteArray×V)} {k:Nat} (h:Hid (∀j,j<k->o[j]? =o'[j]?)) (kl:k<o.length) (kl':k<o'.length) (e:eqv o[k].2 o'[k].2=true) (e1:o[k].1.toList=o'[k].1.toList):Hid (∀j,j<k+1->o[j]? =o'[j]?):=by
 intro j hj
 by_cases hjk:j=k
 .subst hjk;rw [List.getElem?_eq_getElem kl,List.getElem?_eq_getElem kl',Prod.ext (Y6 e1) (X9 e)]
 .exact h.out j (by omega)
theorem zkd {k n k' n':Int} {s s':ByteArray} {l l':List V} {o o':List (ByteArray×V)} {j:Nat} (kl:j<l.length) (kl':j<l'.length) (e:eqv l[j] l'[j] =false):eqv (.mk k n s l o) (.mk k' n' s' l' o')=false:=
 Z9 fun h=>by
  injection h with _ _ _ h4 _
  subst h4
  exact Xy e rfl
theorem Ku {k n k' n':Int} {s s':ByteArray} {l l':List V} {o o':List (ByteArray×V)} {j:Nat} (kl:j<o.length) (kl':j<o'.length) (e:eqv o[j].2 o'[j].2=false∨o[j].1.toList≠o'[j].1.toList):eqv (.mk k n s l o) (.mk k' n' s' l' o')=false:=
 Z9 fun h=>by
  injection h with _ _ _ _ h5
  subst h5
  rcases e with e|e
  .exact Xy e rfl
  .exact e rfl
theorem Qq {α:Type} {l l':List α} {k:Nat} (h:∀j,j<k->l[j]? =l'[j]?) (hk:k=l.length) (hk':k=l'.length):l=l':=by
 apply List.ext_getElem?
 intro j
 by_cases hj:j<k
 .exact h j hj
 .rw [List.getElem?_eq_none (by omega),List.getElem?_eq_none (by omega)]
set_option maxRecDepth 100000 in
theorem zbc (a:V):∀(b:V) (w:World) (c d:VC),IsVal w w.heap.size a c->IsVal w w.heap.size b d->
 Calls Tryz.prog 17 #[.agg #[.int .u8 c.k, .int .i64 c.n, .string c.s, .slice c.la c.ll c.lc, .slice c.oa c.ol c.oc], .agg #[.int .u8 d.k, .int .i64 d.n, .string d.s, .slice d.la d.ll d.lc, .slice d.oa d.ol d.oc]] w fun e w'=>e= .returned (.bool (eqv a b))/\Below w.heap.size w w':=by
 induction a using V.ind with
 |h k n s l o ihl iho=>
 have IHL:=qh ihl;have IHO:=qh iho;clear ihl iho
 intro b w c d ha hb
 cases ha with
 |mk c l o cl co lb lo ob oo cbd hl ho hla hoa hlc hlv hoc hov=>
 cases hb with
 |mk d l' o' cl' co' lb' lo' ob' oo' dbd hl' ho' hla' hoa' hlc' hlv' hoc' hov'=>
 have c1:=cbd.l1;have c2:=cbd.l2;have c3:=cbd.o1;have c4:=cbd.o2;have d1:=dbd.l1;have d2:=dbd.l2;have d3:=dbd.o1;have d4:=dbd.o2
 have Hl:=qh hl;have Ho:=qh ho;have Hl':=qh hl';have Ho':=qh ho';clear hl ho hl' ho'
 have hst:=zal w c d 36
 by_cases e1:c.k=d.k
 case neg=>
  go_enter Tryz.func17,Tryz.ntmps17
  go_wp2_with fail
  go_ret
  exact ⟨Zc (Z9 (fun h=>by injection h with h1;exact e1 h1)).symm,hst.below⟩
 by_cases e2:c.n=d.n
 case neg=>
  go_enter Tryz.func17,Tryz.ntmps17
  have H1:=qh e1;have f1:(c.k !=d.k)=false:=by rw [e1];simp
  clear e1
  go_wp2_with fail
  go_ret
  exact ⟨Zc (Z9 (fun h=>by injection h with _ h1;exact e2 h1)).symm,hst.below⟩
 by_cases e3:c.s.toList=d.s.toList
 case neg=>
  go_enter Tryz.func17,Tryz.ntmps17
  have f1:(c.k !=d.k)=false:=by rw [e1];simp
  have f2:(c.n !=d.n)=false:=by rw [e2];simp
  have f3:(c.s.toList==d.s.toList)=false:=by simp [e3]
  have H3:=qh e3
  clear e1 e2 e3
  go_wp2_with fail
  go_ret
  exact ⟨Zc (Z9 (fun h=>by injection h with _ _ h1;exact H3.out (by rw [h1]))).symm,hst.below⟩
 by_cases e4:c.ll=d.ll
 case neg=>
  go_enter Tryz.func17,Tryz.ntmps17
  have f1:(c.k !=d.k)=false:=by rw [e1];simp
  have f2:(c.n !=d.n)=false:=by rw [e2];simp
  have f3:(c.s.toList==d.s.toList)=true:=by rw [e3];simp
  have f4:((c.ll:Int) !=(d.ll:Int))=true:=by simp;omega
  clear e1 e2 e3
  go_wp2_with fail
  go_ret
  exact ⟨Zc (Z9 (fun h=>by injection h with _ _ _ h1;exact e4 (by rw [Hl.out,Hl'.out,h1]))).symm,hst.below⟩
 by_cases e5:c.ol=d.ol
 case neg=>
  go_enter Tryz.func17,Tryz.ntmps17
  have f1:(c.k !=d.k)=false:=by rw [e1];simp
  have f2:(c.n !=d.n)=false:=by rw [e2];simp
  have f3:(c.s.toList==d.s.toList)=true:=by rw [e3];simp
  have f4:((c.ll:Int) !=(d.ll:Int))=false:=by rw [e4];simp
  have f5:((c.ol:Int) !=(d.ol:Int))=true:=by simp;omega
  clear e1 e2 e3 e4
  go_wp2_with fail
  go_ret
  exact ⟨Zc (Z9 (fun h=>by injection h with _ _ _ _ h1;exact e5 (by rw [Ho.out,Ho'.out,h1]))).symm,hst.below⟩
 go_enter Tryz.func17,Tryz.ntmps17
 have f1:(c.k !=d.k)=false:=by rw [e1];simp
 have f2:(c.n !=d.n)=false:=by rw [e2];simp
 have f3:(c.s.toList==d.s.toList)=true:=by rw [e3];simp
 have f4:((c.ll:Int) !=(d.ll:Int))=false:=by rw [e4];simp
 have f5:((c.ol:Int) !=(d.ol:Int))=false:=by rw [e5];simp
 have He1:=qh e1;have He2:=qh e2;have He3:=qh e3;have He4:=qh e4;have He5:=qh e5;clear e1 e2 e3 e4 e5
 go_wp2_with fail
 go_loopw [5] (fun i wr=>∃k:Nat,k<=c.ll/\i= .int .i64 k/\Hid (∀j,j<k->l[j]? =l'[j]?)/\Boxed2 w wr c d) (fun i _=>c.ll - (intOf i).toNat)
 case atStart=>exact ⟨0,Nat.zero_le _,rfl,fun j hj=>by omega,hst⟩
 case round =>
  obtain ⟨k,hk,rfl,HJ,hB⟩:=hrel
  clear hst
  have b1:wr.cell? ⟨w.heap.size,3,none⟩=some (.slice c.la c.ll c.lc):=hB.a.c3
  by_cases hlt:k<c.ll
  .have hlt':k<d.ll:=by rw [<-He4.out];exact hlt
   obtain ⟨ela,hlb⟩:=hla (by omega)
   obtain ⟨ela',hlb'⟩:=hla' (by omega)
   have kl:k<l.length:=by rw [<-Hl.out];exact hlt
   have kl':k<l'.length:=by rw [<-Hl'.out];exact hlt'
   have x1:=(hlc k kl).keep hB.below hlb
   have x2:=(hlc' k kl').keep hB.below hlb'
   have q1:=Za b1
   have q2:=Za (show wr.cell? ⟨w.heap.size+1,3,none⟩=some (.slice d.la d.ll d.lc) from hB.b.c3)
   rw [ela] at q1;rw [ela'] at q2
   have r0:=Za x1.c0;have r1:=Za x1.c1;have r2:=Za x1.c2;have r3:=Za x1.c3;have r4:=Za x1.c4
   have s0:=Za x2.c0;have s1:=Za x2.c1;have s2:=Za x2.c2;have s3:=Za x2.c3;have s4:=Za x2.c4
   clear ela ela' x1 x2
   go_wp2_with fail
   refine Zk (by kernel_rfl) (by kernel_rfl) ?_
   repeat (go_big_quiet_step (((go_at_call 17;refine Zg (IHL.out _ (List.getElem_mem kl) (l'[k]'kl') _ _ _ ?_ ?_);exact ((hlv k kl).later_ (hB.below)).later_ (Zd _ _);exact ((hlv' k kl').later_ (hB.below)).later_ (Zd _ _)))))
   refine wpQuiet_nil ?_
   intro _ hw'
   obtain ⟨pq,hw''⟩:=hw'
   subst hw''
   clear r0 r1 r2 r3 r4 s0 s1 s2 s3 s4 q1 q2
   have hB2:=hB.step (Zd wr pq)
   by_cases ev:eqv l[k] l'[k] =true
   .have EV:=qh ev
    go_wp2_with fail
    go_roundw
    case rel=>exact ⟨k+1,by omega,by go_num,Kq HJ kl kl' EV.out,hB2⟩
    case measure=>simp [intOf];omega
   .have ev2:eqv l[k] l'[k] =false:=by simpa using ev
    have EV:=qh ev2
    go_wp2_with fail
    go_ret
    exact ⟨Zc (zkd kl kl' EV.out).symm,hB2.below⟩
  .go_wp2_with fail
   go_loopw [7] (fun i wr=>∃k:Nat,k<=c.ol/\i= .int .i64 k/\Hid (∀j,j<k->o[j]? =o'[j]?)/\Boxed2 w wr c d) (fun i _=>c.ol - (intOf i).toNat)
   case atStart=>exact ⟨0,Nat.zero_le _,rfl,fun j hj=>by omega,hB⟩
   case round=>
    have HL:Hid (l=l'):=Qq HJ.out (by have:=Hl.out;omega) (by have:=Hl'.out;have:=He4.out;omega)
    clear HJ b1 hB hlt hk
    obtain ⟨k2,hk,rfl,HJ,hB⟩:=hrel
    have b1:wr.cell? ⟨w.heap.size,4,none⟩=some (.slice c.oa c.ol c.oc):=hB.a.c4
    by_cases hlt:k2<c.ol
    .have hlt':k2<d.ol:=by rw [<-He5.out];exact hlt
     obtain ⟨ela,hlb⟩:=hoa (by omega)
     obtain ⟨ela',hlb'⟩:=hoa' (by omega)
     have kl:k2<o.length:=by rw [<-Ho.out];exact hlt
     have kl':k2<o'.length:=by rw [<-Ho'.out];exact hlt'
     obtain ⟨g1,_,x1⟩:=hoc k2 kl
     obtain ⟨g2,_,x2⟩:=hoc' k2 kl'
     have x1:=x1.keep hB.below hlb
     have x2:=x2.keep hB.below hlb'
     have g1:=Zb hB.below g1 hlb
     have g2:=Zb hB.below g2 hlb'
     have b2:wr.cell? ⟨w.heap.size+1,4,none⟩=some (.slice d.oa d.ol d.oc):=hB.b.c4
     have q1:=Za b1
     have q2:=Za b2
     rw [ela] at q1 b1;rw [ela'] at q2 b2
     have r0:=Za x1.c0;have r1:=Za x1.c1;have r2:=Za x1.c2;have r3:=Za x1.c3;have r4:=Za x1.c4
     have s0:=Za x2.c0;have s1:=Za x2.c1;have s2:=Za x2.c2;have s3:=Za x2.c3;have s4:=Za x2.c4
     have t1:=Za g1;have t2:=Za g2
     clear ela ela' x1 x2
     go_wp2_with fail
     refine Zk (by kernel_rfl) (by kernel_rfl) ?_
     repeat (go_big_quiet_step (((go_at_call 17;refine Zg (IHO.out _ (List.getElem_mem kl) (o'[k2]'kl').2 _ _ _ ?_ ?_);exact ((hov k2 kl).later_ (hB.below)).later_ (Zd _ _);exact ((hov' k2 kl').later_ (hB.below)).later_ (Zd _ _)))))
     refine wpQuiet_nil ?_
     intro _ hw'
     obtain ⟨pq,hw''⟩:=hw'
     subst hw''
     clear r0 r1 r2 r3 r4 s0 s1 s2 s3 s4
     have t1':=Za (t1 pq);have t2':=Za (t2 pq);have q1':=Za (q1 pq);have q2':=Za (q2 pq)
     clear t1 t2 q1 q2 g1 g2 b1 b2
     have hB2:=hB.step (Zd wr pq)
     by_cases ev:eqv o[k2].2 o'[k2].2=true
     .have EV:=qh ev
      by_cases es:o[k2].1.toList=o'[k2].1.toList
      .have fs:(o[k2].1.toList==o'[k2].1.toList)=true:=by rw [es];simp
       have ES:=qh es
       clear es
       go_wp2_with fail
       refine Zk (by kernel_rfl) (by kernel_rfl) ?_
       repeat (go_big_quiet_step (fail))
       refine wpQuiet_nil ?_
       intro _ hw'
       obtain ⟨pr,hw''⟩:=hw'
       subst hw''
       have hB3:=hB2.step (Zd (later wr pq) pr)
       go_wp2_with fail
       go_roundw
       case rel=>exact ⟨k2+1,by omega,by go_num,zin HJ kl kl' EV.out ES.out,hB3⟩
       case measure=>simp [intOf];omega
      .have fs:(o[k2].1.toList==o'[k2].1.toList)=false:=by simp [es]
       have ES:=qh es
       clear es
       go_wp2_with fail
       refine Zk (by kernel_rfl) (by kernel_rfl) ?_
       repeat (go_big_quiet_step (fail))
       refine wpQuiet_nil ?_
       intro _ hw'
       obtain ⟨pr,hw''⟩:=hw'
       subst hw''
       have hB3:=hB2.step (Zd (later wr pq) pr)
       go_wp2_with fail
       go_ret
       exact ⟨Zc (Ku kl kl' (.inr ES.out)).symm,hB3.below⟩
     .have ev2:eqv o[k2].2 o'[k2].2=false:=by simpa using ev
      have EV:=qh ev2
      go_wp2_with fail
      refine Zk (by kernel_rfl) (by kernel_rfl) ?_
      repeat (go_big_quiet_step (fail))
      refine wpQuiet_nil ?_
      intro _ hw'
      obtain ⟨pr,hw''⟩:=hw'
      subst hw''
      have hB3:=hB2.step (Zd (later wr pq) pr)
      go_wp2_with fail
      go_ret
      exact ⟨Zc (Ku kl kl' (.inl EV.out)).symm,hB3.below⟩
    .go_wp2_with fail
     go_ret
     refine ⟨Zc (Q9 ?_).symm,hB.below⟩
     rw [He1.out,He2.out,Y6 He3.out,HL.out,Qq HJ.out (by have:=Ho.out;omega) (by have:=Ho'.out;have:=He5.out;omega)]
noncomputable def eqB {α:Type} (a b:α):Bool:= @decide (a=b) (Classical.propDecidable _)
theorem Yk {α:Type} {a b:α} (h:a≠b):eqB a b=false:=by simp [eqB,h]
theorem Xb {α:Type} {a b:α} (h:a=b):eqB a b=true:=by simp [eqB,h]
theorem Qc {α:Type} {a b:α} (h:eqB a b=true):a=b:=by simpa [eqB] using h
theorem Qd {α:Type} {a b:α} (h:eqB a b=false):a≠b:=by simpa [eqB] using h
structure St where
 list:Bool
 i:Int
 key:ByteArray
structure St.Bnd (s:St):Prop where
 i0: -9223372036854775808<=s.i
 i1:s.i<=9223372036854775807
 k1:s.key.size<=140737488355328
structure StepAt (w:World) (b o:Nat) (s:St):Prop where
 c0:w.cell? ⟨b,o,none⟩=some (.bool s.list)
 c1:w.cell? ⟨b,o+1,none⟩=some (.int .i64 s.i)
 c2:w.cell? ⟨b,o+2,none⟩=some (.string s.key)
theorem StepAt.keep {w w':World} {B b o:Nat} {s:St} (h:StepAt w b o s) (hb:Below B w w') (hB:b<B):StepAt w' b o s:=
 ⟨Zb hb h.c0 hB,Zb hb h.c1 hB,Zb hb h.c2 hB⟩
structure IsSteps (w:World) (B:Nat) (p:List St) (a:Option Addr) (n c:Nat):Prop where
 len:n=p.length
 cap:n<=c
 max:c<=9223372036854775807
 few:n<=1466015503701
 at_:∃b o,(0<n->a=some ⟨b,o,none⟩/\b<B)/\∀i (h:i<p.length),StepAt w b (o+i*3) p[i] /\p[i].Bnd
theorem IsSteps.keep {w w':World} {B:Nat} {p:List St} {a:Option Addr} {n c:Nat} (h:IsSteps w B p a n c) (hb:Below B w w'):IsSteps w' B p a n c:=by
 obtain ⟨h1,h2,h3,h4,b,o,h5,h6⟩:=h
 exact ⟨h1,h2,h3,h4,b,o,h5,fun i hi=>⟨(h6 i hi).1.keep hb (h5 (by omega)).2,(h6 i hi).2⟩⟩
theorem IsSteps.more {w:World} {B B':Nat} {p:List St} {a:Option Addr} {n c:Nat} (h:IsSteps w B p a n c) (hB:B<=B'):IsSteps w B' p a n c:=by
 obtain ⟨h1,h2,h3,h4,b,o,h5,h6⟩:=h
 exact ⟨h1,h2,h3,h4,b,o,fun hn=>⟨(h5 hn).1,by have:=(h5 hn).2;omega⟩,h6⟩
theorem IsSteps.later_ {w w':World} {p:List St} {a:Option Addr} {n c:Nat} (h:IsSteps w w.heap.size p a n c) (hb:Below w.heap.size w w'):IsSteps w' w'.heap.size p a n c:=
 (h.keep hb).more hb.size
theorem IsSteps.get {w:World} {B:Nat} {p:List St} {a:Option Addr} {n c k:Nat} (h:IsSteps w B p a n c) (hk:k<n):
 ∃b o,∃hp:k<p.length,a=some ⟨b,o,none⟩/\b<B/\StepAt w b (o+k*3) p[k] /\p[k].Bnd:=by
 obtain ⟨h1,h2,h3,h4,b,o,h5,h6⟩:=h
 have hp:k<p.length:=by omega
 exact ⟨b,o,hp,(h5 (by omega)).1,(h5 (by omega)).2,(h6 k hp).1,(h6 k hp).2⟩
theorem IsSteps.nil (w:World) (B:Nat):IsSteps w B [] none 0 0:=⟨rfl,Nat.le_refl _,by omega,by omega,0,0,fun h=>by omega,fun i hi=>by cases hi⟩
structure Cm where
 k:Int
 path:List St
 key:ByteArray
 i:Int
 j:Int
 n:Int
 v:V
 s:ByteArray
structure CC where
 k:Int
 pa:Option Addr
 pl:Nat
 pc:Nat
 key:ByteArray
 i:Int
 j:Int
 n:Int
 v:VC
 s:ByteArray
structure CompAt (w:World) (b o:Nat) (c:CC):Prop where
 c0:w.cell? ⟨b,o,none⟩=some (.int .u8 c.k)
 c1:w.cell? ⟨b,o+1,none⟩=some (.slice c.pa c.pl c.pc)
 c2:w.cell? ⟨b,o+2,none⟩=some (.string c.key)
 c3:w.cell? ⟨b,o+3,none⟩=some (.int .i64 c.i)
 c4:w.cell? ⟨b,o+4,none⟩=some (.int .i64 c.j)
 c5:w.cell? ⟨b,o+5,none⟩=some (.int .i64 c.n)
 c6:ValAt w b (o+6) c.v
 c11:w.cell? ⟨b,o+11,none⟩=some (.string c.s)
theorem CompAt.keep {w w':World} {B b o:Nat} {c:CC} (h:CompAt w b o c) (hb:Below B w w') (hB:b<B):CompAt w' b o c:=
 ⟨Zb hb h.c0 hB,Zb hb h.c1 hB,Zb hb h.c2 hB,Zb hb h.c3 hB,Zb hb h.c4 hB,Zb hb h.c5 hB,h.c6.keep hb hB,Zb hb h.c11 hB⟩
structure CC.Bnd (c:CC):Prop where
 k0:0<=c.k
 k1:c.k<256
 i0: -9223372036854775808<=c.i
 i1:c.i<=9223372036854775807
 j0: -9223372036854775808<=c.j
 j1:c.j<=9223372036854775807
 n0: -9223372036854775808<=c.n
 n1:c.n<=9223372036854775807
 key1:c.key.size<=140737488355328
 s1:c.s.size<=140737488355328
inductive IsComp (w:World) (B:Nat):Cm->CC->Prop
 |mk (c:CC) (p:List St) (v:V) (hb:c.Bnd) (hp:IsSteps w B p c.pa c.pl c.pc) (hv:IsVal w B v c.v):IsComp w B ⟨c.k,p,c.key,c.i,c.j,c.n,v,c.s⟩ c
theorem IsComp.keep {w w':World} {B:Nat} (hb:Below B w w') {x:Cm} {c:CC} (h:IsComp w B x c):IsComp w' B x c:=by
 cases h with
 |mk c p v hbd hp hv=>exact .mk c p v hbd (hp.keep hb) (hv.keep hb)
theorem IsComp.more {w:World} {B B':Nat} (hB:B<=B') {x:Cm} {c:CC} (h:IsComp w B x c):IsComp w B' x c:=by
 cases h with
 |mk c p v hbd hp hv=>exact .mk c p v hbd (hp.more hB) (hv.more hB)
theorem IsComp.later_ {w w':World} (hb:Below w.heap.size w w') {x:Cm} {c:CC} (h:IsComp w w.heap.size x c):IsComp w' w'.heap.size x c:=(h.keep hb).more hb.size
structure IsComps (w:World) (B:Nat) (l:List Cm) (a:Option Addr) (n c:Nat):Prop where
 len:n=l.length
 cap:n<=c
 max:c<=9223372036854775807
 few:n<=1466015503701
 at_:∃b o,∃f:Nat->CC,(0<n->a=some ⟨b,o,none⟩/\b<B)/\∀i (h:i<l.length),CompAt w b (o+i*12) (f i)/\IsComp w B l[i] (f i)
structure EC where
 k:Int
 src:Int
 seq:Int
 v:VC
 oa:Option Addr
 ol:Nat
 oc:Nat
def V.none:V:= .mk 0 0 .empty [] []
theorem Zx (w:World) (B:Nat):IsVal w B V.none ⟨0,0, .empty, .none,0,0, .none,0,0⟩:=
 .mk ⟨0,0, .empty, .none,0,0, .none,0,0⟩ [] [] (fun _=>⟨0,0, .empty, .none,0,0, .none,0,0⟩) (fun _=>⟨0,0, .empty, .none,0,0, .none,0,0⟩) 0 0 0 0
  ⟨by decide,by decide,by decide,by decide,by decide,by decide,by decide,by decide,by decide,by decide,by decide⟩ rfl rfl (fun h=>by cases h) (fun h=>by cases h) (fun i h=>by cases h) (fun i h=>by cases h) (fun i h=>by cases h) (fun i h=>by cases h)
end Go.Proofs.YtnjgbiachcfigaaGreatDoor
