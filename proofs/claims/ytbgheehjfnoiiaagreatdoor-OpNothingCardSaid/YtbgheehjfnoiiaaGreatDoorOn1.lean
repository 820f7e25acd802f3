/-
  Contracts of the functions that the law reaches: Words for the memory of a call: the.
-/
import Derived.Test.YtbgheehjfnoiiaaGreatDoorProg
import Derived.WalkKit
import Derived.WalkSpells
import Derived.WalkLawsBesides
import Derived.Lib.Hide
import Derived.BigQuiet
import Derived.Deep.QuietTactic
import Derived.Lib.ValidU
import Derived.Lib.ValidLaws
namespace Go.Proofs.YtbgheehjfnoiiaaGreatDoor
open Go.RowKit
theorem qh {p:Prop} (h:p):Hid p:=Lib.hid h
structure LaterBy where
 d:Nat
 os:Array Obj
 deriving Inhabited
def later (w:World) (p:LaterBy):World:= { heap:=w.heap++p.os,tape:=w.tape,drawn:=p.d,os:=w.os,output:=w.output }
theorem Za {w:World} {a:Addr} {v:Value} (h:w.cell? a=some v) (p:LaterBy):(later w p).cell? a=some v:=by
 have hb:=World.block_lt_of_cell? w a h
 rw [<-h]
 exact World.cell?_of_block (by simp [later,Array.getElem?_append,hb])
theorem Zd (w:World) (p:LaterBy):Below w.heap.size w (later w p):=
 ⟨rfl,rfl,rfl,by simp [later],fun k hk=>by simp [later,Array.getElem?_append,hk]⟩
theorem zew {w w':World} (h:Below w.heap.size w w'):∃p,w'=later w p:=by
 refine ⟨⟨w'.drawn,w'.heap.extract w.heap.size w'.heap.size⟩, ?_⟩
 obtain ⟨hp,tp,dr,o,out⟩:=w'
 obtain ⟨h1,h2,h3,h4,h5⟩:=h
 simp only [later] at*
 subst h1 h2 h3
 congr 1
 apply Array.ext_getElem?
 intro k
 simp only [Array.getElem?_append,Array.getElem?_extract]
 split
 .rename_i hk;rw [h5 k hk]
 .rename_i hk
  have:w.heap.size+(k - w.heap.size)=k:=by omega
  rw [this]
  split
  .rfl
  .rw [Array.getElem?_eq_none (by omega)]
theorem zhy (w:World):({ w with drawn:=w.drawn+1 } :World)=later w ⟨w.drawn+1, #[]⟩:=by
 simp [later]
theorem Zh {P:Program} {id:Nat} {Q:Exit->Act->World->Prop} {a:Act} {w:World} {l:List Oper} (hm:P.follows .mixedOrders=true) (hB:Region.lexB .any l.toArray=true)
 (h:wpQuiet P l.toArray (fun w'=>∃p:LaterBy,w'=later w p) (fun a'=>∀w',(∃p:LaterBy,w'=later w p)->Q .normal a' w') l a):(Code.region id l.toArray true).wp P Q a w:=
 wp_region_quiet (C:=fun w'=>∃p:LaterBy,w'=later w p) hm hB ⟨_,zhy w⟩ (by simpa using h)
theorem Zg {P:Program} {f:FuncId} {args:Array Value} {w:World} {p:LaterBy} {v:Value}
 (h:Calls P f args (later w p) fun e w'=>e= .returned v/\Below (later w p).heap.size (later w p) w'):Calls P f args (later w p) fun e w''=>e= .returned v/\∃q:LaterBy,w''=later w q:=
 h.mono fun _ _ ⟨he,hb⟩=>⟨he,zew ((Zd w p).trans (hb.mono (by simp [later])))⟩
theorem Ka {W w1:World} (hb:Below W.heap.size W w1):(∀b o,b<W.heap.size->w1.cell? ⟨b,o,none⟩=W.cell? ⟨b,o,none⟩)/\(∀b o,b<W.heap.size->w1.frozen? ⟨b,o,none⟩=W.frozen? ⟨b,o,none⟩):=
 ⟨fun _ _ h=>hb.cell h,fun _ _ h=>hb.frozen h⟩
theorem Zb {W w1:World} {B:Nat} (hb:Below B W w1) {b o:Nat} {v:Value} (h:W.cell? ⟨b,o,none⟩=some v) (hB:b<B):w1.cell? ⟨b,o,none⟩=some v:=
 (hb.cell (p:=⟨b,o,none⟩) hB).trans h
theorem Zc {a b:Bool} (h:a=b):Ending.returned (.bool a)=Ending.returned (.bool b):=by rw [h]
theorem Q8 {k:IntKind} {a b:Int} (h:a=b):Ending.returned (.int k a)=Ending.returned (.int k b):=by rw [h]
theorem Xq {k:IntKind} {a b:Int} (h:a=b):Value.int k a=Value.int k b:=by rw [h]
theorem Y8 {a b:ByteArray} (h:a.toList=b.toList):a=b:=by
 rw [ByteArray.toList_eq,ByteArray.toList_eq] at h
 exact ByteArray.ext (Array.ext' h)
theorem _root_.Go.RowKit.Below.on {B:Nat} {a w w':World} (h:Below B a w) (hb:Below w.heap.size w w') (hB:B<=w.heap.size):Below B a w':=h.trans (hb.mono hB)
theorem _root_.Go.RowKit.Below.two {w w':World} {o1 o2:Obj} (hb:Below ((w.alloc o1).alloc o2).heap.size ((w.alloc o1).alloc o2) w'):Below w.heap.size w w':=
 (((Below.refl _ _).alloc (Nat.le_refl _) _).alloc (by simp) _).trans (hb.mono (by simp;omega))
theorem _root_.Go.RowKit.Below.one {w w':World} {o1:Obj} (hb:Below (w.alloc o1).heap.size (w.alloc o1) w'):Below w.heap.size w w':=
 ((Below.refl _ _).alloc (Nat.le_refl _) _).trans (hb.mono (by simp))
inductive V where
 |mk (k n:Int) (s:ByteArray) (l:List V) (o:List (ByteArray×V))
theorem V.ind {P:V->Prop} (h:∀k n s l o,(∀v ∈ l,P v)->(∀f ∈ o,P f.2)->P (.mk k n s l o)):∀v,P v:=by
 intro v
 refine V.rec (motive_1:=P) (motive_2:=fun l=>∀v ∈ l,P v) (motive_3:=fun o=>∀f ∈ o,P f.2) (motive_4:=fun f=>P f.2) ?_ ?_ ?_ ?_ ?_ ?_ v
 .exact fun k n s l o hl ho=>h k n s l o hl ho
 .intro v hv;cases hv
 .intro v l hv hl x hx
  rcases List.mem_cons.1 hx with rfl|hx
  .exact hv
  .exact hl x hx
 .intro f hf;cases hf
 .intro f o hf ho x hx
  rcases List.mem_cons.1 hx with rfl|hx
  .exact hf
  .exact ho x hx
 .intro k v hv;exact hv
structure VC where
 k:Int
 n:Int
 s:ByteArray
 la:Option Addr
 ll:Nat
 lc:Nat
 oa:Option Addr
 ol:Nat
 oc:Nat
abbrev uV (c:VC):Array Value:= #[.int .u8 c.k, .int .i64 c.n, .string c.s, .slice c.la c.ll c.lc, .slice c.oa c.ol c.oc]
abbrev uU (k n:Int) (s:ByteArray) (la:Option Addr) (ll lc:Nat) (oa:Option Addr) (ol oc:Nat):Array Value:= #[.int .u8 k, .int .i64 n, .string s, .slice la ll lc, .slice oa ol oc]
abbrev uB (w W:World):Prop:=Below w.heap.size w W
abbrev uP:=Calls Tryz.prog
structure ValAt (w:World) (b o:Nat) (c:VC):Prop where
 c0:w.cell? ⟨b,o,none⟩=some (.int .u8 c.k)
 c1:w.cell? ⟨b,o+1,none⟩=some (.int .i64 c.n)
 c2:w.cell? ⟨b,o+2,none⟩=some (.string c.s)
 c3:w.cell? ⟨b,o+3,none⟩=some (.slice c.la c.ll c.lc)
 c4:w.cell? ⟨b,o+4,none⟩=some (.slice c.oa c.ol c.oc)
structure VC.Bnd (c:VC):Prop where
 k0:0<=c.k
 k1:c.k<256
 n0: -9223372036854775808<=c.n
 n1:c.n<=9223372036854775807
 s1:c.s.size<=140737488355328
 l1:c.ll<=c.lc
 l2:c.lc<=9223372036854775807
 l3:c.ll<=1466015503701
 o1:c.ol<=c.oc
 o2:c.oc<=9223372036854775807
 o3:c.ol<=1466015503701
inductive IsVal (w:World) (B:Nat):V->VC->Prop
 |mk (c:VC) (l:List V) (o:List (ByteArray×V)) (cl co:Nat->VC) (lb lo ob oo:Nat) (hb:c.Bnd)
     (hl:c.ll=l.length) (ho:c.ol=o.length)
     (hla:0<c.ll->c.la=some ⟨lb,lo,none⟩/\lb<B) (hoa:0<c.ol->c.oa=some ⟨ob,oo,none⟩/\ob<B)
     (hlc:∀i,i<l.length->ValAt w lb (lo+i*5) (cl i))
     (hlv:∀i (h:i<l.length),IsVal w B l[i] (cl i))
     (hoc:∀i (h:i<o.length),w.cell? ⟨ob,oo+i*6,none⟩=some (.string o[i].1)/\o[i].1.size<=140737488355328/\ValAt w ob (oo+i*6+1) (co i))
     (hov:∀i (h:i<o.length),IsVal w B o[i].2 (co i)):IsVal w B (.mk c.k c.n c.s l o) c
theorem ValAt.keep {w w':World} {B b o:Nat} {c:VC} (h:ValAt w b o c) (hb:Below B w w') (hB:b<B):ValAt w' b o c:=
 ⟨Zb hb h.c0 hB,Zb hb h.c1 hB,Zb hb h.c2 hB,Zb hb h.c3 hB,Zb hb h.c4 hB⟩
theorem IsVal.keep {w w':World} {B:Nat} (hb:Below B w w') {v:V} {c:VC} (h:IsVal w B v c):IsVal w' B v c:=by
 induction h with
 | mk c l o cl co lb lo ob oo hbd hl ho hla hoa hlc hlv hoc hov ihl iho=>
   refine .mk c l o cl co lb lo ob oo hbd hl ho hla hoa (fun i hi=>(hlc i hi).keep hb (hla (by omega)).2) ihl (fun i hi=> ?_) iho
   have hB:=(hoa (by omega)).2
   obtain ⟨h1,h2,h3⟩:=hoc i hi
   exact ⟨Zb hb h1 hB,h2,h3.keep hb hB⟩
theorem IsVal.more {w:World} {B B':Nat} (hB:B<=B') {v:V} {c:VC} (h:IsVal w B v c):IsVal w B' v c:=by
 induction h with
 | mk c l o cl co lb lo ob oo hbd hl ho hla hoa hlc hlv hoc hov ihl iho=>
   exact .mk c l o cl co lb lo ob oo hbd hl ho (fun h=>⟨(hla h).1,by have:=(hla h).2;omega⟩) (fun h=>⟨(hoa h).1,by have:=(hoa h).2;omega⟩) hlc ihl hoc iho
theorem IsVal.later_ {w w':World} (hb:Below w.heap.size w w') {v:V} {c:VC} (h:IsVal w w.heap.size v c):IsVal w' w'.heap.size v c:=
 (h.keep hb).more hb.size
theorem IsVal.bnd {w:World} {B:Nat} {v:V} {c:VC} (h:IsVal w B v c):c.Bnd:=by cases h;assumption
structure Boxed2 (w wr:World) (c d:VC):Prop where
 a:ValAt wr w.heap.size 0 c
 b:ValAt wr (w.heap.size+1) 0 d
 below:Below w.heap.size w wr
 size:w.heap.size+2<=wr.heap.size
theorem Zq (w:World) (cs:Array Value) (t:TypeId) (j:Nat) (u:Value) (h:cs[j]? =some u):(w.alloc (.cells cs t)).cell? ⟨w.heap.size,j,none⟩=some u:=by
 rw [cell_of_row (w.alloc (.cells cs t)) w.heap.size j cs t (0,0) (heap_alloc_new w _)];exact h
theorem Yu (w:World) (c:VC) (t:TypeId):ValAt (w.alloc (.cells #[.int .u8 c.k, .int .i64 c.n, .string c.s, .slice c.la c.ll c.lc, .slice c.oa c.ol c.oc] t)) w.heap.size 0 c:=
 ⟨Zq _ _ _ _ _ rfl,Zq _ _ _ _ _ rfl,Zq _ _ _ _ _ rfl,Zq _ _ _ _ _ rfl,Zq _ _ _ _ _ rfl⟩
theorem zah (w:World) (c d:VC) (t:TypeId):Boxed2 w ((w.alloc (.cells #[.int .u8 c.k, .int .i64 c.n, .string c.s, .slice c.la c.ll c.lc, .slice c.oa c.ol c.oc] t)).alloc (.cells #[.int .u8 d.k, .int .i64 d.n, .string d.s, .slice d.la d.ll d.lc, .slice d.oa d.ol d.oc] t)) c d:=by
 refine ⟨?_, ?_,((Below.refl _ _).alloc (Nat.le_refl _) _).alloc (by simp) _,by simp⟩
 .exact (Yu w c t).keep (B:=w.heap.size+1) ((Below.refl _ _).alloc (by simp) _) (by omega)
 .have h:=Yu (w.alloc (.cells #[.int .u8 c.k, .int .i64 c.n, .string c.s, .slice c.la c.ll c.lc, .slice c.oa c.ol c.oc] t)) d t
  rw [World.size_alloc] at h
  exact h
theorem Boxed2.step {w wr w':World} {c d:VC} (h:Boxed2 w wr c d) (hb:Below wr.heap.size wr w'):Boxed2 w w' c d:=
 ⟨h.a.keep hb (by have:=h.size;omega),h.b.keep hb (by have:=h.size;omega),h.below.trans (hb.mono (by have:=h.size;omega)),by have:=h.size;have:=hb.size;omega⟩
mutual
def V.weight:V->Nat
 | .mk _ _ s l o=>1+s.size+weightL l+weightO o
def weightL:List V->Nat
 | [] =>0
 |v::r=>v.weight+weightL r
def weightO:List (ByteArray×V)->Nat
 | [] =>0
 |f::r=>weightF f+weightO r
def weightF:ByteArray×V->Nat
 |(k,v)=>k.size+v.weight
end
mutual
def V.deep:V->Nat
 | .mk _ _ _ l o=>max (deepL l) (deepO o)
def deepL:List V->Nat
 | [] =>0
 |v::r=>max (v.deep+1) (deepL r)
def deepO:List (ByteArray×V)->Nat
 | [] =>0
 |f::r=>max (deepF f+1) (deepO r)
def deepF:ByteArray×V->Nat
 |(_,v)=>v.deep
end
theorem Xo (a b:List V):weightL (a++b)=weightL a+weightL b:=by
 induction a with
 |nil=>simp [weightL]
 |cons v r ih=>simp only [List.cons_append,weightL,ih];omega
theorem Y2 (a b:List (ByteArray×V)):weightO (a++b)=weightO a+weightO b:=by
 induction a with
 |nil=>simp [weightO]
 |cons v r ih=>simp only [List.cons_append,weightO,ih];omega
theorem Yg (f:ByteArray×V):weightF f=f.1.size+f.2.weight:=by cases f;simp [weightF]
theorem X5 (f:ByteArray×V):deepF f=f.2.deep:=by cases f;simp [deepF]
theorem zgn (a b:List V):deepL (a++b)=max (deepL a) (deepL b):=by
 induction a with
 |nil=>simp [deepL]
 |cons v r ih=>simp only [List.cons_append,deepL,ih];omega
theorem Kl (a b:List (ByteArray×V)):deepO (a++b)=max (deepO a) (deepO b):=by
 induction a with
 |nil=>simp [deepO]
 |cons v r ih=>simp only [List.cons_append,deepO,ih];omega
theorem Z2 {α:Type} (l:List α) (k:Nat) (h:k<l.length):l.take (k+1)=l.take k++ [l[k]] :=by
 rw [List.take_succ_eq_append_getElem h]
theorem zc5 (l:List V) (k:Nat) (h:k<l.length):weightL (l.take (k+1))=weightL (l.take k)+l[k].weight:=by
 rw [Z2 l k h,Xo];simp [weightL]
theorem zdn (o:List (ByteArray×V)) (k:Nat) (h:k<o.length):weightO (o.take (k+1))=weightO (o.take k)+(o[k].1.size+o[k].2.weight):=by
 rw [Z2 o k h,Y2];simp [weightO,Yg]
theorem zfr (l:List V) (k:Nat) (h:k<l.length):deepL (l.take (k+1))=max (deepL (l.take k)) (l[k].deep+1):=by
 rw [Z2 l k h,zgn];simp [deepL]
theorem zjp (o:List (ByteArray×V)) (k:Nat) (h:k<o.length):deepO (o.take (k+1))=max (deepO (o.take k)) (o[k].2.deep+1):=by
 rw [Z2 o k h,Kl];simp [deepO,X5]
theorem Jz (l:List V) (k:Nat):weightL (l.take k)<=weightL l:=by
 have h:=Xo (l.take k) (l.drop k)
 rw [List.take_append_drop] at h;omega
theorem Ke (l:List (ByteArray×V)) (k:Nat):weightO (l.take k)<=weightO l:=by
 have h:=Y2 (l.take k) (l.drop k)
 rw [List.take_append_drop] at h;omega
theorem Qd (l:List V) (k:Nat) (h:k<l.length):l[k].weight<=weightL l:=by
 have:=zc5 l k h;have:=Jz l (k+1);omega
theorem Qj (l:List (ByteArray×V)) (k:Nat) (h:k<l.length):l[k].1.size+l[k].2.weight<=weightO l:=by
 have:=zdn l k h;have:=Ke l (k+1);omega
theorem V.deep_lt (v:V):v.deep<v.weight:=by
 induction v using V.ind with
 | h k n s l o ihl iho=>
   have hl:∀l:List V,(∀v ∈ l,v.deep<v.weight)->deepL l<=weightL l:=by
    intro l
    induction l with
    |nil=>intro _;simp [deepL]
    | cons v r ih=>
      intro h
      have h1:=h v (by simp)
      have h2:=ih (fun x hx=>h x (by simp [hx]))
      simp only [deepL,weightL];omega
   have ho:∀o:List (ByteArray×V),(∀f ∈ o,f.2.deep<f.2.weight)->deepO o<=weightO o:=by
    intro o
    induction o with
    |nil=>intro _;simp [deepO]
    | cons f r ih=>
      intro h
      have h1:=h f (by simp)
      have h2:=ih (fun x hx=>h x (by simp [hx]))
      simp only [deepO,weightO,Yg,X5];omega
   have:=hl l ihl
   have:=ho o iho
   simp only [V.deep,V.weight];omega
def plainB (k n:Int) (s:ByteArray) (ll ol:Nat):Bool:=
 if k=0 then n==0 && s.toList.isEmpty && ll==0 && ol==0
 else if k=1 then (n==0||n==1) && s.toList.isEmpty && ll==0 && ol==0
 else if k=2 then s.toList.isEmpty && ll==0 && ol==0
 else if k=3 then n==0 && Lib.validD s.data.toList && ll==0 && ol==0
 else if k=4 then n==0 && s.toList.isEmpty && ol==0
 else if k=5 then n==0 && s.toList.isEmpty && ll==0
 else false
def rising:List (ByteArray×V)->Bool
 | [] =>true
 | [_] =>true
 |a::b::r=>Op.bytesLess a.1.toList b.1.toList && rising (b::r)
mutual
def V.sound:V->Bool
 | .mk k n s l o=>plainB k n s l.length o.length && rising o && soundL l && soundO o
def soundL:List V->Bool
 | [] =>true
 |v::r=>v.sound && soundL r
def soundO:List (ByteArray×V)->Bool
 | [] =>true
 |f::r=>soundF f && soundO r
def soundF:ByteArray×V->Bool
 |(k,v)=>Lib.validD k.data.toList && v.sound
end
theorem Q3 (f:ByteArray×V):soundF f=(Lib.validD f.1.data.toList && f.2.sound):=by cases f;simp [soundF]
theorem Jr (l:List V):soundL l=true↔∀v ∈ l,v.sound=true:=by
 induction l with
 |nil=>simp [soundL]
 |cons v r ih=>simp [soundL,ih]
theorem Jb (l:List (ByteArray×V)):soundO l=true↔∀f ∈ l,Lib.validD f.1.data.toList=true/\f.2.sound=true:=by
 induction l with
 |nil=>simp [soundO]
 |cons v r ih=>simp [soundO,ih,Q3]
theorem Q7:∀o:List (ByteArray×V),rising o=true↔∀i (h:i+1<o.length),Op.bytesLess o[i].1.toList o[i+1].1.toList=true
 | [] =>by simp [rising]
 | [_] =>by simp [rising]
 | a ::b::r=>by
   have ih:=Q7 (b::r)
   simp only [rising,Bool.and_eq_true,ih]
   constructor
   .rintro ⟨h1,h2⟩ i hi
    cases i with
    |zero=>exact h1
    |succ i=>exact h2 i (by simpa using hi)
   .intro h
    exact ⟨h 0 (by simp),fun i hi=>h (i+1) (by simpa using hi)⟩
end Go.Proofs.YtbgheehjfnoiiaaGreatDoor
