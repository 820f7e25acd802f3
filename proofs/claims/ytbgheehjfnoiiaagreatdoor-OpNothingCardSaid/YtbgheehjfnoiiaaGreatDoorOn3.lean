/-
  Contracts of the functions that the law reaches: Writers: a block that holds a slice of.
-/
import Derived.Test.YtbgheehjfnoiiaaGreatDoorOn2
import Derived.Handy
import Derived.Deep.RegionLaw
import Derived.Deep.RegionHeld3
import Derived.Deep.AppendLies
import Derived.Lib.AppendStr
import Derived.Defers
import Derived.Recover
import Derived.Laws.BitsAllLaws
import Derived.Laws.IdiomStrings
import Derived.Lib.BufferRead
import Derived.Lib.MapLaws
namespace Go.Proofs.YtbgheehjfnoiiaaGreatDoor
open Go.RowKit
set_option maxHeartbeats 2000000
def outs (l:List UInt8):List Value:=l.map fun b=>Value.int .u8 (b.toNat:Int)
theorem zbd (a b:List UInt8):outs (a++b)=outs a++outs b:=by simp [outs]
def be (n:Nat):Nat->List UInt8
 |0=> []
 |r+1=>UInt8.ofNat (n / 256 ^ r)::be n r
theorem Ye (n r:Nat):(be n r).length=r:=by
 induction r with
 |zero=>rfl
 |succ r ih=>simp [be,ih]
theorem zcz:(Tryz.prog.info? 5).map (fun i=>(i.zero,i.size,i.bytes))=some (some (.int .u8 0),1,1):=by kernel_rfl
def encS (s:ByteArray):List UInt8:=be s.size 4++s.data.toList
theorem zbv (s:ByteArray):(encS s).length=4+s.size:=by
 have h:s.data.toList.length=s.size:=Array.length_toList
 rw [encS,List.length_append,Ye,h]
mutual
def encV:V->List UInt8
 | .mk k n s l o=>be (k % 18446744073709551616).toNat 1++(if k=1∨k=2 then be (n % 18446744073709551616).toNat 8 else if k=3 then encS s else if k=4 then be l.length 4++encL l else if k=5 then be o.length 4++encO o else [])
def encL:List V->List UInt8
 | [] => []
 |v::r=>encV v++encL r
def encO:List (ByteArray×V)->List UInt8
 | [] => []
 |f::r=>encF f++encO r
def encF:ByteArray×V->List UInt8
 |(k,v)=>encS k++encV v
end
theorem zle (f:ByteArray×V):encF f=encS f.1++encV f.2:=by cases f;simp [encF]
theorem zks (a b:List V):encL (a++b)=encL a++encL b:=by
 induction a with
 |nil=>simp [encL]
 |cons v r ih=>simp only [List.cons_append,encL,ih,List.append_assoc]
def hasB (s:ByteArray) (b:Nat):Bool:=s.data.toList.any (fun x=>x.toNat==b)
theorem zkv {s:ByteArray} {b k:Nat} (h:k<s.size) (e:(s[k]'h).toNat=b):hasB s b=true:=by
 unfold hasB;rw [List.any_eq_true]
 exact ⟨s.data.toList[k]'(by simpa using h),List.getElem_mem _,beq_iff_eq.2 e⟩
theorem zig {s:ByteArray} {b:Nat} (h:∀j (hj:j<s.size),(s[j]'hj).toNat≠b):hasB s b=false:=by
 unfold hasB;rw [List.any_eq_false]
 intro x hx
 obtain ⟨j,hj,rfl⟩:=List.getElem_of_mem hx
 have hj':j<s.size:=by simpa using hj
 have h2:¬((s.data.toList[j]'hj).toNat=b):=h j hj'
 simpa using h2
def saysB (k:Int):ByteArray:=
 if k=1 then { data:= #[78] } else
 if k=2 then { data:= #[75,86] } else
 if k=3 then { data:= #[75] } else
 if k=4 then { data:= #[73,86] } else
 if k=5 then { data:= #[73] } else
 if k=6 then { data:= #[73,86] } else
 if k=7 then { data:= #[73,74] } else
 if k=8 then { data:= #[73,83] } else
 if k=9 then { data:= #[73,78] } else
 { data:= #[] }
set_option maxRecDepth 100000 in
theorem Yv (s:ByteArray) (b:Nat) (w:World) (hs:s.size<=140737488355328):
 uP 146 #[.string s, .int .u8 b] w fun e w'=>e= .returned (.bool (hasB s b))/\uB w w':=by
 delta uB uP
 go_enter Tryz.func146,Tryz.ntmps146
 go_wp2_with fail
 go_loopw [5] (fun i wr=>∃k:Nat,k<=s.size/\i= .int .i64 k/\Hid (∀j,j<k->∀hj:j<s.size,(s[j]'hj).toNat≠b)/\uB w wr) (fun i _=>s.size - (intOf i).toNat)
 case atStart=>exact ⟨0,Nat.zero_le _,rfl,fun j hj=>by omega,Below.refl _ _⟩
 case round=>
  obtain ⟨k,hk,rfl,HJ,hB⟩:=hrel
  by_cases hlt:k<s.size
  .by_cases e:(s[k]'hlt).toNat=b
   .have H:=qh e
    have f:(((s[k]'hlt).toNat:Int)==(b:Int))=true:=by simp [e]
    clear e
    go_wp2_with fail
    go_ret
    exact ⟨Zc (zkv hlt H.out).symm,hB⟩
   .have H:=qh e
    have f:(((s[k]'hlt).toNat:Int)==(b:Int))=false:=by simp;omega
    clear e
    go_wp2_with fail
    go_roundw
    case rel=>
     refine ⟨k+1,by omega,by go_num,fun j hj hs=> ?_,hB⟩
     by_cases hjk:j=k
     .subst hjk;exact H.out
     .exact HJ.out j (by omega) hs
    case measure=>simp [intOf];omega
  .go_wp2_with fail
   go_ret
   exact ⟨Zc (zig (fun j hj=>HJ.out j (by omega) hj)).symm,hB⟩
set_option maxRecDepth 100000 in
theorem zhp (k:Int) (w:World):
 uP 144 #[.int .u8 k] w fun e w'=>e= .returned (.string (saysB k))/\uB w w':=by
 delta uB uP
 by_cases e1:k=1
 case pos=>
  subst e1
  go_enter Tryz.func144,Tryz.ntmps144
  go_wp2_with fail
  go_ret
  exact ⟨rfl,Below.refl _ _⟩
 have f1:(k==1)=false:=by simp [e1]
 by_cases e2:k=2
 case pos=>
  subst e2
  go_enter Tryz.func144,Tryz.ntmps144
  go_wp2_with fail
  go_ret
  exact ⟨rfl,Below.refl _ _⟩
 have f2:(k==2)=false:=by simp [e2]
 by_cases e3:k=3
 case pos=>
  subst e3
  go_enter Tryz.func144,Tryz.ntmps144
  go_wp2_with fail
  go_ret
  exact ⟨rfl,Below.refl _ _⟩
 have f3:(k==3)=false:=by simp [e3]
 by_cases e4:k=4
 case pos=>
  subst e4
  go_enter Tryz.func144,Tryz.ntmps144
  go_wp2_with fail
  go_ret
  exact ⟨rfl,Below.refl _ _⟩
 have f4:(k==4)=false:=by simp [e4]
 by_cases e5:k=5
 case pos=>
  subst e5
  go_enter Tryz.func144,Tryz.ntmps144
  go_wp2_with fail
  go_ret
  exact ⟨rfl,Below.refl _ _⟩
 have f5:(k==5)=false:=by simp [e5]
 by_cases e6:k=6
 case pos=>
  subst e6
  go_enter Tryz.func144,Tryz.ntmps144
  go_wp2_with fail
  go_ret
  exact ⟨rfl,Below.refl _ _⟩
 have f6:(k==6)=false:=by simp [e6]
 by_cases e7:k=7
 case pos=>
  subst e7
  go_enter Tryz.func144,Tryz.ntmps144
  go_wp2_with fail
  go_ret
  exact ⟨rfl,Below.refl _ _⟩
 have f7:(k==7)=false:=by simp [e7]
 by_cases e8:k=8
 case pos=>
  subst e8
  go_enter Tryz.func144,Tryz.ntmps144
  go_wp2_with fail
  go_ret
  exact ⟨rfl,Below.refl _ _⟩
 have f8:(k==8)=false:=by simp [e8]
 by_cases e9:k=9
 case pos=>
  subst e9
  go_enter Tryz.func144,Tryz.ntmps144
  go_wp2_with fail
  go_ret
  exact ⟨rfl,Below.refl _ _⟩
 have f9:(k==9)=false:=by simp [e9]
 have hR:saysB k= { data:= #[] } :=by simp [saysB,e1,e2,e3,e4,e5,e6,e7,e8,e9]
 have HR:=qh hR
 clear hR e1 e2 e3 e4 e5 e6 e7 e8 e9
 go_enter Tryz.func144,Tryz.ntmps144
 go_wp2_with fail
 go_ret
 exact ⟨by rw [HR.out];rfl,Below.refl _ _⟩
end Go.Proofs.YtbgheehjfnoiiaaGreatDoor
namespace Go.Proofs.YtbgheehjfnoiiaaGreatDoor
theorem row5 {f:Nat->Option Value} {z0 z1 z2 z3 z4:Value} (h:∀k z, [z0,z1,z2,z3,z4][k]? =some z->f k=some z):f 0=some z0/\f 1=some z1/\f 2=some z2/\f 3=some z3/\f 4=some z4:=
 ⟨h 0 _ rfl,h 1 _ rfl,h 2 _ rfl,h 3 _ rfl,h 4 _ rfl⟩
theorem row12 {f:Nat->Option Value} {z0 z1 z2 z3 z4 z5 z6 z7 z8 z9 z10 z11:Value} (h:∀k z, [z0,z1,z2,z3,z4,z5,z6,z7,z8,z9,z10,z11][k]? =some z->f k=some z):f 0=some z0/\f 1=some z1/\f 2=some z2/\f 3=some z3/\f 4=some z4/\f 5=some z5/\f 6=some z6/\f 7=some z7/\f 8=some z8/\f 9=some z9/\f 10=some z10/\f 11=some z11:=
 ⟨h 0 _ rfl,h 1 _ rfl,h 2 _ rfl,h 3 _ rfl,h 4 _ rfl,h 5 _ rfl,h 6 _ rfl,h 7 _ rfl,h 8 _ rfl,h 9 _ rfl,h 10 _ rfl,h 11 _ rfl⟩
end Go.Proofs.YtbgheehjfnoiiaaGreatDoor
namespace Go.Proofs.YtbgheehjfnoiiaaGreatDoor
open Go.RowKit
structure BX (w W:World) (cs:List Value):Prop where
 at_:∀j x,cs[j]? =some x->W.cell? ⟨w.heap.size,j,none⟩=some x
 below:Below w.heap.size w W
 size:w.heap.size+1<=W.heap.size
theorem zfv (w:World) (cs:Array Value) (t:TypeId) (j:Nat):(w.alloc (.cells cs t)).frozen? ⟨w.heap.size,j,none⟩=false:=by
 simp [go_sem]
structure IsB (w:World) (B:Nat) (a:Option Addr) (n c:Nat) (bs:List UInt8):Prop where
 len:n=bs.length
 cap:n<=c
 max:c<=9223372036854775807
 at_:∃b o,(0<n->a=some ⟨b,o,none⟩/\b<B)/\∀i (h:i<bs.length),w.cell? ⟨b,o+i,none⟩=some (.int .u8 (bs[i].toNat:Int))
theorem IsB.keep {w w':World} {B:Nat} {a:Option Addr} {n c:Nat} {bs:List UInt8} (h:IsB w B a n c bs) (hb:Below B w w'):IsB w' B a n c bs:=by
 obtain ⟨h1,h2,h3,b,o,h5,h6⟩:=h
 exact ⟨h1,h2,h3,b,o,h5,fun i hi=>Zb hb (h6 i hi) (h5 (by omega)).2⟩
theorem IsB.nil (w:World) (B:Nat):IsB w B none 0 0 [] :=⟨rfl,Nat.le_refl _,by omega,0,0,fun h=>by omega,fun i hi=>by cases hi⟩
open Classical in
noncomputable def only (S:Nat->Prop) (w:World):World:= { w with heap:=w.heap.mapIdx fun k o=>if S k then o else .cells #[] 0 (0,0) }
theorem zef (S:Nat->Prop) (w:World):(only S w).heap.size=w.heap.size:=by simp [only]
theorem zbr {S:Nat->Prop} {w:World} {k:Nat} (h:S k):(only S w).heap[k]? =w.heap[k]? :=by
 simp [only,h]
theorem Z1 {S:Nat->Prop} {w:World} {b o:Nat} {u:Value} (h:(only S w).cell? ⟨b,o,none⟩=some u):S b/\w.cell? ⟨b,o,none⟩=some u:=by
 by_cases hs:S b
 .exact ⟨hs,(World.cell?_of_block (w':=only S w) (w:=w) (by exact zbr hs)).symm.trans h⟩
 .exfalso
  have hlt:=World.block_lt_of_cell? _ _ h
  rw [zef] at hlt
  have hk:(only S w).heap[b]? =some (.cells #[] 0 (0,0)):=by simp [only,hs,hlt]
  rw [cell_of_row _ b o #[] 0 (0,0) hk] at h
  simp at h
theorem Z0 {S:Nat->Prop} {w:World} {b o:Nat} {u:Value} (hs:S b) (h:w.cell? ⟨b,o,none⟩=some u):(only S w).cell? ⟨b,o,none⟩=some u:=
 (World.cell?_of_block (w':=only S w) (w:=w) (by exact zbr hs)).trans h
def Shows (w w':World) (B:Nat):Prop:=∀b o u,b<B->w.cell? ⟨b,o,none⟩=some u->w'.cell? ⟨b,o,none⟩=some u
theorem ValAt.sub {w w':World} {B b o:Nat} {c:VC} (h:ValAt w b o c) (hs:Shows w w' B) (hB:b<B):ValAt w' b o c:=
 ⟨hs _ _ _ hB h.c0,hs _ _ _ hB h.c1,hs _ _ _ hB h.c2,hs _ _ _ hB h.c3,hs _ _ _ hB h.c4⟩
theorem IsVal.sub {w w':World} {B:Nat} (hs:Shows w w' B) {v:V} {c:VC} (h:IsVal w B v c):IsVal w' B v c:=by
 induction h with
 | mk c l o cl co lb lo ob oo hbd hl ho hla hoa hlc hlv hoc hov ihl iho=>
   refine .mk c l o cl co lb lo ob oo hbd hl ho hla hoa (fun i hi=>(hlc i hi).sub hs (hla (by omega)).2) ihl (fun i hi=> ?_) iho
   have hB:=(hoa (by omega)).2
   obtain ⟨h1,h2,h3⟩:=hoc i hi
   exact ⟨hs _ _ _ hB h1,h2,h3.sub hs hB⟩
theorem IsSteps.sub {w w':World} {B:Nat} (hs:Shows w w' B) {p:List St} {a:Option Addr} {n c:Nat} (h:IsSteps w B p a n c):IsSteps w' B p a n c:=by
 obtain ⟨h1,h2,h3,h4,b,o,h5,h6⟩:=h
 exact ⟨h1,h2,h3,h4,b,o,h5,fun i hi=>⟨⟨hs _ _ _ (h5 (by omega)).2 (h6 i hi).1.c0,hs _ _ _ (h5 (by omega)).2 (h6 i hi).1.c1,hs _ _ _ (h5 (by omega)).2 (h6 i hi).1.c2⟩,(h6 i hi).2⟩⟩
theorem IsComp.sub {w w':World} {B:Nat} (hs:Shows w w' B) {x:Cm} {c:CC} (h:IsComp w B x c):IsComp w' B x c:=by
 cases h with
 |mk c p v hbd hp hv=>exact .mk c p v hbd (hp.sub hs) (hv.sub hs)
theorem IsComps.sub {w w':World} {B:Nat} (hs:Shows w w' B) {l:List Cm} {a:Option Addr} {n c:Nat} (h:IsComps w B l a n c):IsComps w' B l a n c:=by
 obtain ⟨h1,h2,h3,h4,b,o,f,h5,h6⟩:=h
 refine ⟨h1,h2,h3,h4,b,o,f,h5,fun i hi=>⟨?_,(h6 i hi).2.sub hs⟩⟩
 have hB:=(h5 (by omega)).2
 have x:=(h6 i hi).1
 exact ⟨hs _ _ _ hB x.c0,hs _ _ _ hB x.c1,hs _ _ _ hB x.c2,hs _ _ _ hB x.c3,hs _ _ _ hB x.c4,hs _ _ _ hB x.c5,x.c6.sub hs hB,hs _ _ _ hB x.c11⟩
theorem Zl (S:Nat->Prop) (w:World) (B:Nat):Shows (only S w) w B:=fun _ _ _ _ h=>(Z1 h).2
theorem Ze {S S':Nat->Prop} {w w':World} (h:∀k,S k->k<w.heap.size->S' k/\w'.heap[k]? =w.heap[k]?):Shows (only S w) (only S' w') w.heap.size:=by
 intro b o u hb hc
 obtain ⟨hs,hc⟩:=Z1 hc
 obtain ⟨h1,h2⟩:=h b hs hb
 exact Z0 h1 ((World.cell?_of_block h2).trans hc)
structure RStep (w w':World) (rb:Nat):Prop where
 os:w'.os=w.os
 tape:w'.tape=w.tape
 output:w'.output=w.output
 size:w.heap.size<=w'.heap.size
 block:∀k,k<w.heap.size->k≠rb->w'.heap[k]? =w.heap[k]?
theorem RStep.trans {w w1 w2:World} {rb:Nat} (h:RStep w w1 rb) (g:RStep w1 w2 rb):RStep w w2 rb:=
 ⟨g.os.trans h.os,g.tape.trans h.tape,g.output.trans h.output,Nat.le_trans h.size g.size,fun k hk hr=>(g.block k (Nat.lt_of_lt_of_le hk h.size) hr).trans (h.block k hk hr)⟩
theorem RStep.of_below {w w':World} (rb:Nat) (h:uB w w'):RStep w w' rb:=⟨h.os,h.tape,h.output,h.size,fun k hk _=>h.block k hk⟩
theorem RStep.below {w w':World} {rb:Nat} (h:RStep w w' rb) (hB:rb<=w.heap.size):Below rb w w':=⟨h.os,h.tape,h.output,h.size,fun k hk=>h.block k (by omega) (by omega)⟩
theorem RStep.cell {w w':World} {rb:Nat} (h:RStep w w' rb) {b o:Nat} {u:Value} (hc:w.cell? ⟨b,o,none⟩=some u) (hb:b≠rb):w'.cell? ⟨b,o,none⟩=some u:=
 (World.cell?_of_block (h.block b (World.block_lt_of_cell? w _ hc) hb)).trans hc
structure Rdr (w:World) (rb:Nat) (bs:List UInt8) (d:Int):Prop where
 at_:∃a n c,w.cell? ⟨rb,0,none⟩=some (.slice a n c)/\IsB w rb a n c bs
 deep:w.cell? ⟨rb,1,none⟩=some (.int .i64 d)
 f0:w.frozen? ⟨rb,0,none⟩=false
 f1:w.frozen? ⟨rb,1,none⟩=false
theorem Zv (b o k:Nat):(⟨b,o,none⟩:Addr).add k=⟨b,o+k,none⟩:=by unfold Addr.add;split<;>simp_all
theorem zmu (x:Int):IntKind.i64.wrap x=wrap64 x:=by
 rw [IntKind.wrap_i64,wrap64]
theorem Jh {w:World} {B:Nat} {a:Option Addr} {n c:Nat} {bs:List UInt8} (h:IsB w B a n c bs):(convert 68 9 (.slice a n c)).run Tryz.prog w= .ok (.string ⟨bs.toArray⟩) w:=by
 have hu:Tryz.prog.underlying 5=some (.int .u8):=by kernel_rfl
 obtain ⟨rfl,h2,h3,b,o,h5,h6⟩:=h
 cases a with
 | some a=>
   by_cases hz:0<bs.length
   .obtain ⟨e,hb⟩:=h5 hz
    have e:=Option.some.inj e
    subst e
    exact run_convert_bytes_back w _ _ 5 _ c bs Tryz.underlying68 hu Tryz.underlying9 (fun j hj=>by rw [Zv];exact h6 j hj)
   .have:bs= [] :=List.length_eq_zero_iff.1 (by omega)
    subst this
    exact run_convert_bytes_back w _ _ 5 _ c [] Tryz.underlying68 hu Tryz.underlying9 (fun j hj=>by cases hj)
 | none=>
   have:bs= [] :=by
    cases bs with
    |nil=>rfl
    |cons x r=>obtain ⟨e,_⟩:=h5 (by simp);cases e
   subst this
   exact Lib.run_convert_nil_bytes w _ _ 5 c Tryz.underlying68 hu Tryz.underlying9
theorem Y0 {α:Type} (f:α->List Value) (m:Nat) (hf:∀x,(f x).length=m):∀(l:List α) (i t:Nat) (hi:i<l.length),t<m->(l.flatMap f)[i*m+t]? =(f l[i])[t]? :=by
 intro l
 induction l with
 |nil=>intro i t hi;cases hi
 | cons x l ih=>
   intro i t hi ht
   cases i with
   | zero=>
     simp only [List.flatMap_cons,Nat.zero_mul,Nat.zero_add,List.getElem_cons_zero]
     rw [List.getElem?_append_left (by rw [hf];exact ht)]
   | succ i=>
     have e:(i+1)*m+t=(f x).length+(i*m+t):=by rw [hf,Nat.add_mul];omega
     simp only [List.flatMap_cons,List.getElem_cons_succ]
     rw [e,List.getElem?_append_right (by omega),Nat.add_sub_cancel_left]
     exact ih i t (by simpa using hi) ht
theorem Zk {α:Type} (f:α->List Value) (m:Nat) (hf:∀x,(f x).length=m) (l:List α):(l.flatMap f).length=l.length*m:=by
 induction l with
 |nil=>simp
 |cons x l ih=>simp only [List.flatMap_cons,List.length_append,hf,ih,List.length_cons,Nat.add_mul];omega
theorem Yf {α:Type} (f:α->List Value) (l:List α) (x:α):(l++ [x]).flatMap f=l.flatMap f++f x:=by simp
def Closed (P:World->Nat->Nat->Prop):Prop:=∀W W' B B' i,Shows W W' B->B<=B'->P W B i->P W' B' i
def Free (base:Nat) (u:Value):Nat->Prop:=fun k=>base<=k/\some k≠u.ownBlock
structure Row (T:TypeId) (sz:Nat) (w:World) (base:Nat) (u:Value) (n:Nat) (cells:List Value) (P:World->Nat->Nat->Prop):Prop where
 own:w.ownsRow base T sz u n cells
 els:∀i,i<n->P (only (Free base u) w) w.heap.size i
theorem Row.nil (T:TypeId) (sz:Nat) (w:World) (base:Nat) (P:World->Nat->Nat->Prop):Row T sz w base (.slice none 0 0) 0 [] P:=
 ⟨⟨by simp, .inl ⟨rfl,rfl⟩⟩,fun i h=>by omega⟩
theorem Row.lt {T:TypeId} {sz:Nat} {w:World} {base:Nat} {u:Value} {n:Nat} {cells:List Value} {P:World->Nat->Nat->Prop} (h:Row T sz w base u n cells P):∀k,u.ownBlock=some k->base<=k/\k<w.heap.size:=h.own.lt
theorem Row.later {T:TypeId} {sz:Nat} {w w':World} {base rb:Nat} {u:Value} {n:Nat} {cells:List Value} {P:World->Nat->Nat->Prop} (hP:Closed P) (h:Row T sz w base u n cells P) (s:RStep w w' rb) (hr:rb<base):Row T sz w' base u n cells P:=by
 refine ⟨h.own.kept (row:=some rb) ⟨s.os,s.tape,s.output,s.size,fun k hk hne=>s.block k hk (fun e=>hne (by rw [e]))⟩ ?_,fun i hi=>hP _ _ _ _ i (Ze fun k hk hlt=>⟨hk,s.block k hlt ?_⟩) s.size (h.els i hi)⟩
 .cases hu:u.ownBlock with
  |none=>simp
  | some k=>
    have:=(h.lt k hu).1
    right;intro e;injection e with e;omega
 .have:=hk.1;omega
theorem Row.set {T:TypeId} {sz:Nat} {w:World} {base b o:Nat} {u x:Value} {n:Nat} {cells:List Value} {P:World->Nat->Nat->Prop} (hP:Closed P) (h:Row T sz w base u n cells P) (hb:b<base):Row T sz (w.setCell ⟨b,o,none⟩ x) base u n cells P:=
 h.later hP (rb:=b) ⟨rfl,rfl,rfl,by simp,fun k hk hr=>heap_setCell_other _ _ _ _ hr⟩ hb
theorem Row.push {T:TypeId} {sz:Nat} {w w0 w1:World} {base:Nat} {u u':Value} {n:Nat} {cells news:List Value} {P P':World->Nat->Nat->Prop} (hP':Closed P') (h:Row T sz w base u n cells P)
 (hb:uB w w0) (hg:w0.grownBy w1 u.ownBlock) (hown:w1.ownsRow base T sz u' (n+1) (cells++news)) (hat:u'.ownBlock=u.ownBlock∨∀k,u'.ownBlock=some k->w.heap.size<=k)
 (hnew:P' (only (Free base u) w) w.heap.size n) (hold:∀W B i,i<n->P W B i->P' W B i):Row T sz w1 base u' (n+1) (cells++news) P':=by
 have hsz:w.heap.size<=w1.heap.size:=Nat.le_trans hb.size hg.size
 refine ⟨hown,fun i hi=> ?_⟩
 have hs:Shows (only (Free base u) w) (only (Free base u') w1) w.heap.size:=by
  refine Ze fun k hk hlt=>⟨⟨hk.1,fun e=> ?_⟩, ?_⟩
  .rcases hat with e2|e2
   .exact hk.2 (e.trans e2)
   .have:=e2 k e.symm;omega
  .rw [hg.block k (Nat.lt_of_lt_of_le hlt hb.size) hk.2,hb.block k hlt]
 by_cases hin:i=n
 .subst hin;exact hP' _ _ _ _ _ hs hsz hnew
 .exact hP' _ _ _ _ _ hs hsz (hold _ _ _ (by omega) (h.els i (by omega)))
theorem Row.shows {T:TypeId} {sz:Nat} {w:World} {base lo:Nat} {u:Value} {n:Nat} {cells:List Value} {P:World->Nat->Nat->Prop} (hP:Closed P) (h:Row T sz w base u n cells P) (hlo:lo<=base):
 (∀g,u.ownBlock=some g->∀j x,cells[j]? =some x->(only (fun k=>lo<=k) w).cell? ⟨g,j,none⟩=some x)/\∀i,i<n->P (only (fun k=>lo<=k) w) w.heap.size i:=by
 refine ⟨fun g hg j x hx=>Z0 (show lo<=g by have:=(h.lt g hg).1;omega) ?_,fun i hi=>hP _ _ _ _ i (Ze fun k hk _=>⟨by have:=hk.1;omega,rfl⟩) (Nat.le_refl _) (h.els i hi)⟩
 have:=h.own.cells hg j x hx
 rw [Zv,Nat.zero_add] at this;exact this
def vcells (c:VC):List Value:= [.int .u8 c.k, .int .i64 c.n, .string c.s, .slice c.la c.ll c.lc, .slice c.oa c.ol c.oc]
def vzero:VC:=⟨0,0, .empty,none,0,0,none,0,0⟩
def PV (l:List V) (cs:List VC):World->Nat->Nat->Prop:=fun W B i=>∀h:i<l.length,IsVal W B l[i] (cs.getD i vzero)
theorem PV.closed (l:List V) (cs:List VC):Closed (PV l cs):=fun _ _ _ _ _ hs hB h hi=>((h hi).sub hs).more hB
theorem PV.snoc {l:List V} {cs:List VC} (hl:cs.length=l.length) (x:V) (c:VC):(∀W B,IsVal W B x c->PV (l++ [x]) (cs++ [c]) W B l.length)/\∀W B i,i<l.length->PV l cs W B i->PV (l++ [x]) (cs++ [c]) W B i:=by
 constructor
 .intro W B h hi
  simpa [List.getD_eq_getElem?_getD, <-hl] using h
 .intro W B i hi h hi2
  have h:=h hi
  have e:(cs++ [c]).getD i vzero=cs.getD i vzero:=by simp [List.getD_eq_getElem?_getD,List.getElem?_append_left (show i<cs.length by omega)]
  rw [List.getElem_append_left hi,e]
  exact h
abbrev RowV (w:World) (base:Nat) (u:Value) (l:List V) (cs:List VC):Prop:=Row 29 5 w base u l.length (cs.flatMap vcells) (PV l cs)
theorem RowV.val {w:World} {base lo:Nat} {l:List V} {cs:List VC} {a:Option Addr} {n cap:Nat} (h:RowV w base (.slice a n cap) l cs) (hl:cs.length=l.length) (hlo:lo<=base) (k:Int) (hk0:0<=k) (hk1:k<256) (hfew:l.length<=1466015503701):
 IsVal (only (fun b=>lo<=b) w) w.heap.size (.mk k 0 .empty l []) ⟨k,0, .empty,a,n,cap,none,0,0⟩:=by
 obtain ⟨h1,h2⟩:=Row.shows (PV.closed l cs) h hlo
 have hown:=h.own
 have hlt:=h.lt
 have hbd:∀n cap:Nat,n<=cap->cap<=9223372036854775807->n<=1466015503701->(⟨k,0, .empty,a,n,cap,none,0,0⟩:VC).Bnd:=fun n cap e1 e2 e3=>⟨hk0,hk1,(by decide:(-9223372036854775808:Int)<=0),(by decide:(0:Int)<=9223372036854775807),(by decide:ByteArray.empty.size<=140737488355328),e1,e2,e3,(by decide:(0:Nat)<=0),(by decide:(0:Nat)<=9223372036854775807),(by decide:(0:Nat)<=1466015503701)⟩
 rcases hown.2 with ⟨e,hn⟩|⟨g,cap',cur,e,hbg,hg,hnc,hcm,hcs,htake⟩
 .injection e with e1 e2 e3;subst e1 e2 e3
  have:l= [] :=List.length_eq_zero_iff.1 hn
  subst this
  exact .mk ⟨k,0, .empty,none,0,0,none,0,0⟩ [] [] (fun _=>vzero) (fun _=>vzero) 0 0 0 0 (hbd 0 0 (by omega) (by omega) (by omega)) rfl rfl (fun h=>by cases h) (fun h=>by cases h) (fun i h=>by cases h) (fun i h=>by cases h) (fun i h=>by cases h) (fun i h=>by cases h)
 .injection e with e1 e2 e3;subst e1 e2 e3
  refine .mk ⟨k,0, .empty,some ⟨g,0,none⟩,l.length,cap,none,0,0⟩ l [] (fun i=>cs.getD i vzero) (fun _=>vzero) g 0 0 0 (hbd _ _ hnc (by simpa [maxLen] using hcm) hfew) rfl rfl (fun _=>⟨rfl,(hlt g rfl).2⟩) (fun h=>by cases h) (fun i hi=> ?_) (fun i hi=>h2 i hi hi) (fun i h=>by cases h) (fun i h=>by cases h)
  have hi':i<cs.length:=by omega
  have hc:∀t x,t<5->(vcells cs[i])[t]? =some x->(only (fun b=>lo<=b) w).cell? ⟨g,0+i*5+t,none⟩=some x:=fun t x ht hx=>by
   rw [Nat.zero_add]
   exact h1 g rfl (i*5+t) x ((Y0 vcells 5 (fun _=>rfl) cs i t hi' ht).trans hx)
  have he:cs.getD i vzero=cs[i] :=by simp [List.getD_eq_getElem?_getD,hi']
  simp only [he]
  exact ⟨hc 0 _ (by omega) rfl,hc 1 _ (by omega) rfl,hc 2 _ (by omega) rfl,hc 3 _ (by omega) rfl,hc 4 _ (by omega) rfl⟩
def fcells (c:ByteArray×VC):List Value:= [.string c.1, .int .u8 c.2.k, .int .i64 c.2.n, .string c.2.s, .slice c.2.la c.2.ll c.2.lc, .slice c.2.oa c.2.ol c.2.oc]
def fzero:ByteArray×VC:=(.empty,vzero)
def PF (l:List (ByteArray×V)) (cs:List (ByteArray×VC)):World->Nat->Nat->Prop:=fun W B i=>∀h:i<l.length,(cs.getD i fzero).1=l[i].1/\l[i].1.size<=140737488355328/\IsVal W B l[i].2 (cs.getD i fzero).2
theorem PF.closed (l:List (ByteArray×V)) (cs:List (ByteArray×VC)):Closed (PF l cs):=fun _ _ _ _ _ hs hB h hi=>⟨(h hi).1,(h hi).2.1,((h hi).2.2.sub hs).more hB⟩
theorem PF.snoc {l:List (ByteArray×V)} {cs:List (ByteArray×VC)} (hl:cs.length=l.length) (s:ByteArray) (hs:s.size<=140737488355328) (x:V) (c:VC):(∀W B,IsVal W B x c->PF (l++ [(s,x)]) (cs++ [(s,c)]) W B l.length)/\∀W B i,i<l.length->PF l cs W B i->PF (l++ [(s,x)]) (cs++ [(s,c)]) W B i:=by
 constructor
 .intro W B h hi
  have e1:(l++ [(s,x)])[l.length]'hi=(s,x):=by simp
  have e2:(cs++ [(s,c)]).getD l.length fzero=(s,c):=by simp [List.getD_eq_getElem?_getD, <-hl]
  rw [e1,e2];exact ⟨rfl,hs,h⟩
 .intro W B i hi h hi2
  have h:=h hi
  have e:(cs++ [(s,c)]).getD i fzero=cs.getD i fzero:=by simp [List.getD_eq_getElem?_getD,List.getElem?_append_left (show i<cs.length by omega)]
  rw [List.getElem_append_left hi,e]
  exact h
abbrev RowF (w:World) (base:Nat) (u:Value) (l:List (ByteArray×V)) (cs:List (ByteArray×VC)):Prop:=Row 62 6 w base u l.length (cs.flatMap fcells) (PF l cs)
theorem RowF.val {w:World} {base lo:Nat} {l:List (ByteArray×V)} {cs:List (ByteArray×VC)} {a:Option Addr} {n cap:Nat} (h:RowF w base (.slice a n cap) l cs) (hl:cs.length=l.length) (hlo:lo<=base) (k:Int) (hk0:0<=k) (hk1:k<256) (hfew:l.length<=1466015503701):
 IsVal (only (fun b=>lo<=b) w) w.heap.size (.mk k 0 .empty [] l) ⟨k,0, .empty,none,0,0,a,n,cap⟩:=by
 obtain ⟨h1,h2⟩:=Row.shows (PF.closed l cs) h hlo
 have hown:=h.own
 have hlt:=h.lt
 have hbd:∀n cap:Nat,n<=cap->cap<=9223372036854775807->n<=1466015503701->(⟨k,0, .empty,none,0,0,a,n,cap⟩:VC).Bnd:=fun n cap e1 e2 e3=>⟨hk0,hk1,(by decide:(-9223372036854775808:Int)<=0),(by decide:(0:Int)<=9223372036854775807),(by decide:ByteArray.empty.size<=140737488355328),(by decide:(0:Nat)<=0),(by decide:(0:Nat)<=9223372036854775807),(by decide:(0:Nat)<=1466015503701),e1,e2,e3⟩
 rcases hown.2 with ⟨e,hn⟩|⟨g,cap',cur,e,hbg,hg,hnc,hcm,hcs,htake⟩
 .injection e with e1 e2 e3;subst e1 e2 e3
  have:l= [] :=List.length_eq_zero_iff.1 hn
  subst this
  exact .mk ⟨k,0, .empty,none,0,0,none,0,0⟩ [] [] (fun _=>vzero) (fun _=>vzero) 0 0 0 0 (hbd 0 0 (by omega) (by omega) (by omega)) rfl rfl (fun h=>by cases h) (fun h=>by cases h) (fun i h=>by cases h) (fun i h=>by cases h) (fun i h=>by cases h) (fun i h=>by cases h)
 .injection e with e1 e2 e3;subst e1 e2 e3
  refine .mk ⟨k,0, .empty,none,0,0,some ⟨g,0,none⟩,l.length,cap⟩ [] l (fun _=>vzero) (fun i=>(cs.getD i fzero).2) 0 0 g 0 (hbd _ _ hnc (by simpa [maxLen] using hcm) hfew) rfl rfl (fun h=>by cases h) (fun _=>⟨rfl,(hlt g rfl).2⟩) (fun i h=>by cases h) (fun i h=>by cases h) (fun i hi=> ?_) (fun i hi=>(h2 i hi hi).2.2)
  have hi':i<cs.length:=by omega
  have hc:∀t x,t<6->(fcells cs[i])[t]? =some x->(only (fun b=>lo<=b) w).cell? ⟨g,0+i*6+t,none⟩=some x:=fun t x ht hx=>by
   rw [Nat.zero_add]
   exact h1 g rfl (i*6+t) x ((Y0 fcells 6 (fun _=>rfl) cs i t hi' ht).trans hx)
  have he:cs.getD i fzero=cs[i] :=by simp [List.getD_eq_getElem?_getD,hi']
  obtain ⟨p1,p2,_⟩:=h2 i hi hi
  rw [he] at p1
  simp only [he]
  exact ⟨by rw [<-p1];exact hc 0 _ (by omega) rfl,p2,hc 1 _ (by omega) rfl,hc 2 _ (by omega) rfl,hc 3 _ (by omega) rfl,hc 4 _ (by omega) rfl,hc 5 _ (by omega) rfl⟩
def cutsP:Nat->Nat->List UInt8->List Nat
 |0,_,_=> []
 |f+1,i,l=>if l= [] then [] else i::cutsP f (i+(Lib.decodeL l).2) (l.drop (Lib.decodeL l).2)
def cuts (s:ByteArray):List Nat:=cutsP s.size 0 s.data.toList++ [s.size]
def textN (s:ByteArray):Nat:=(cuts s).length - 1
theorem zma (f:Nat):∀(g i:Nat) (l:List UInt8),l.length<=f->f<=g->cutsP g i l=cutsP f i l:=by
 induction f with
 | zero=>
   intro g i l hl _
   have:l= [] :=List.length_eq_zero_iff.1 (by omega)
   subst this
   cases g<;>simp [cutsP]
 | succ f ih=>
   intro g i l hl hg
   obtain ⟨g',rfl⟩:∃g',g=g'+1:=⟨g - 1,by omega⟩
   unfold cutsP
   by_cases h:l= []
   .simp [h]
   .rw [if_neg h,if_neg h]
    have:=Lib.decodeL_width l
    rw [ih g' _ _ (by rw [List.length_drop];omega) (by omega)]
theorem Kg {l:List UInt8} (h:l≠ []) (i:Nat):cutsP l.length i l=i::cutsP (l.drop (Lib.decodeL l).2).length (i+(Lib.decodeL l).2) (l.drop (Lib.decodeL l).2):=by
 obtain ⟨m,hm⟩:∃m,l.length=m+1:=⟨l.length - 1,by have:=List.length_pos_iff.2 h;omega⟩
 rw [hm,cutsP,if_neg h]
 have:=Lib.decodeL_width l
 rw [zma _ m _ _ (Nat.le_refl _) (by rw [List.length_drop];omega)]
theorem zl5 (f:Nat):∀(i:Nat) (l:List UInt8),(cutsP f i l).length<=l.length:=by
 induction f with
 |zero=>intro i l;simp [cutsP]
 | succ f ih=>
   intro i l
   unfold cutsP
   split
   .simp
   .rename_i h
    have:=ih (i+(Lib.decodeL l).2) (l.drop (Lib.decodeL l).2)
    have h1:=Lib.decodeL_width l
    have h2:=List.length_pos_iff.2 h
    rw [List.length_drop] at this
    rw [List.length_cons];omega
theorem Kx (f:Nat):∀(i:Nat) (l:List UInt8),∀x ∈ cutsP f i l,i<=x/\x<=i+l.length:=by
 induction f with
 |zero=>intro i l x hx;simp [cutsP] at hx
 | succ f ih=>
   intro i l x hx
   unfold cutsP at hx
   split at hx
   .cases hx
   .rename_i h
    rcases List.mem_cons.1 hx with rfl|hx
    .omega
    .have:=ih _ _ x hx
     have h1:=Lib.decodeL_le l h
     rw [List.length_drop] at this
     omega
theorem Xl (s:ByteArray):0<(cuts s).length/\(cuts s).length<=s.size+1:=by
 have:=zl5 s.size 0 s.data.toList
 have e:s.data.toList.length=s.size:=Array.length_toList
 unfold cuts
 rw [List.length_append,List.length_singleton]
 omega
theorem J5 (s:ByteArray) (k:Nat) (h:k<(cuts s).length):(cuts s)[k] <=s.size:=by
 have hm:=List.getElem_mem h
 rcases List.mem_append.1 hm with h1|h1
 .have:=(Kx _ _ _ _ h1).2
  have e:s.data.toList.length=s.size:=Array.length_toList
  omega
 .have:=List.mem_singleton.1 h1;omega
end Go.Proofs.YtbgheehjfnoiiaaGreatDoor
namespace Go.Proofs.YtbgheehjfnoiiaaGreatDoor
open Go.RowKit Go.Shelf
set_option maxHeartbeats 4000000
attribute [local go_sem] Oper.semAt_some
def VWeight (v:V):Prop:=v.weight<=4611686018427387904->∀(w:World) (c:VC),IsVal w w.heap.size v c->
    Calls Tryz.prog 102 #[.agg #[.int .u8 c.k, .int .i64 c.n, .string c.s, .slice c.la c.ll c.lc, .slice c.oa c.ol c.oc]] w fun e w'=>e= .returned (.int .i64 v.weight)/\Below w.heap.size w w'
theorem ValAt.own {β:Type} (b o:Nat) (c:β->VC):Own (fun (x:β) W=>ValAt W b o (c x)):=
 fun _ _ _ _ hs hg hr=>⟨cell_kept hs.c0 hg hr,cell_kept hs.c1 hg hr,cell_kept hs.c2 hg hr,cell_kept hs.c3 hg hr,cell_kept hs.c4 hg hr⟩
theorem X8 {W W':World} (h:uB W W'):KeepsOthers W W':=
 ⟨h.size,fun k _ hk _=>(h.block k (Array.getElem?_eq_some_iff.1 hk).1).trans hk⟩
theorem zeq {w:World} {P:V->Prop} (pre:List (Kid w P)) (x:Kid w P):weightO ((pre++ [x]).map Kid.pair)=weightO (pre.map Kid.pair)+(x.kk.size+x.v.weight):=by
 rw [List.map_append,Y2];simp [weightO,Yg,Kid.pair]
theorem wsum (d a b c:Int) (hd:d=a+(b+c)):wrap64 d=IntKind.i64.wrap (wrap64 a+IntKind.i64.wrap (b+c)):=by
 subst hd
 simp only [IntKind.wrap_i64,wrap64]
 omega
theorem zcf {x:Int} (h0: -9223372036854775808<=x) (h1:x<=9223372036854775807):wrap64 x=x:=by unfold wrap64;omega
theorem zl7 (l:List V) (o:List (ByteArray×V)):weightO (pairs l o)=weightL l+weightO o:=by
 unfold pairs
 rw [Y2]
 congr 1
 induction l with
 |nil=>rfl
 |cons v r ih=>simp only [List.map_cons,weightO,Yg,weightL,ih];simp [ByteArray.size]
set_option maxRecDepth 100000 in
theorem zha (a:V):VWeight a:=by
 induction a using V.ind with
 |h k n s l o ihl iho=>
 intro hw w c ha
 obtain ⟨rfl,rfl,rfl,cbd,hl,ho⟩:=ha.lists
 have hw0:1+c.s.size+weightL l+weightO o<=4611686018427387904:=by simpa only [V.weight] using hw
 obtain ⟨ks,hks,hpr⟩:=Kf w (fun v=>VWeight v/\v.weight<=4611686018427387904) l o c hl ho
  (fun v hv=>⟨ihl v hv,by obtain ⟨i,hi,rfl⟩:=List.getElem_of_mem hv;have:=Qd l i hi;omega⟩)
  (fun f hf=>⟨iho f hf,by obtain ⟨i,hi,rfl⟩:=List.getElem_of_mem hf;have:=Qj o i hi;omega⟩)
 clear ihl iho ha hl ho
 have c5:=cbd.s1
 refine callsIn_wide (n:=3)|>.1 ?_
 refine callsIn_of_wp_marks Tryz.func102 rfl trivial ?_ rfl
 simp only [Tryz.ntmps102,List.size_toArray,List.length_cons,List.length_nil,Nat.reduceAdd,Nat.reduceSub,Array.replicate_succ,Array.replicate_zero,List.push_toArray,List.append_toArray,List.nil_append,List.cons_append]
 gi_wp2_with (refine ⟨trivial, ?_⟩;gi_at_call 143;refine (Kh _ _ trivial rfl c _).mono ?_;rintro e w' ⟨rfl,rfl⟩)
 obtain ⟨W0,hW0⟩:∃W0,(((w.alloc (.cells (uV c) 29)).alloc (.cells #[.int .i64 (1+(c.s.size:Int))] 3)).alloc (.cells (uV c) 29))=W0:=⟨_,rfl⟩
 have hB0:uB w W0:=by rw [<-hW0];exact (((Below.refl _ _).alloc (Nat.le_refl _) _).alloc (by simp) _).alloc (by simp;omega) _
 have hsz:W0.heap.size=w.heap.size+3:=by rw [<-hW0];simp
 have hbx:ValAt W0 (w.heap.size+1+1) 0 c:=by
  rw [<-hW0]
  have h:=Yu ((w.alloc (.cells (uV c) 29)).alloc (.cells #[.int .i64 (1+(c.s.size:Int))] 3)) c 29
  simp only [World.size_alloc] at h
  exact h
 have hn:Boxed W0 (w.heap.size+1) 3 (.int .i64 (1+(c.s.size:Int))):=by
  rw [<-hW0]
  have h:=Boxed.new (w.alloc (.cells (uV c) 29)) 3 (.int .i64 (1+(c.s.size:Int)))
  rw [World.size_alloc] at h
  exact h.alloc _
 rw [hW0]
 clear hW0
 refine wpIn_rangeFunc_ownH (α:=Kid w (fun v=>VWeight v/\v.weight<=4611686018427387904)) rfl (by omega) (gf:=172) (lb:= #[.pointer (some ⟨w.heap.size+1+1,0,none⟩)]) rfl trivial (enters_of Tryz.func172 (by kernel_rfl) rfl)
  (Kd Fence.wide 2 trivial rfl (by omega) w (fun v=>VWeight v/\v.weight<=4611686018427387904) (w.heap.size+1+1) c cbd ks W0 w.heap.size (by omega) (by omega) hbx (hks.keep (.of_below_any hB0))) J7 (Kc (by omega) (by omega)) (Below.refl _ _) (fun _=>rfl)
  (fun pre W=>(Boxed W (w.heap.size+1) 3 (.int .i64 (wrap64 ((1+c.s.size+weightO (pre.map Kid.pair):Nat):Int))))/\uB w W/\W0.heap.size<=W.heap.size)
  (fun _ _ _=>False)
  (OwnFrom.and (Own.from (boxed_own _ _ _) _) (OwnFrom.and (ownFrom_below (Nat.le_refl _) (by omega)) (fun _ _ _ _ hs hg _=>Nat.le_trans hs hg.size)))
  (fun _ _ _ _ _ hs _ _=>hs)
  ⟨by simp only [List.map_nil,weightO,Nat.add_zero];rw [zcf (by omega) (by omega)];simp only [Int.natCast_add,Int.natCast_one];exact hn,hB0,Nat.le_refl _⟩
  (fun x a' W=>∃Bx,W0.heap.size<=Bx/\ValAt W Bx 0 x.kv/\a'= { tmps:= #[.agg #[.int .u8 c.k, .int .i64 c.n, .string c.s, .slice c.la c.ll c.lc, .slice c.oa c.ol c.oc], .pointer (some ⟨w.heap.size,0,none⟩), .int .i64 0, .pointer (some ⟨w.heap.size+1,0,none⟩), .string x.kk, .pointer (some ⟨Bx,0,none⟩), .pointer (some ⟨w.heap.size,2,none⟩), .string c.s, .int .i64 (c.s.size:Int), .int .i64 (1+(c.s.size:Int)), .agg #[.int .u8 c.k, .int .i64 c.n, .string c.s, .slice c.la c.ll c.lc, .slice c.oa c.ol c.oc], .func (.func 172) #[] #[.pointer (some ⟨w.heap.size+1+1,0,none⟩)], .string x.kk, .agg #[.int .u8 x.kv.k, .int .i64 x.kv.n, .string x.kv.s, .slice x.kv.la x.kv.ll x.kv.lc, .slice x.kv.oa x.kv.ol x.kv.oc],undef,undef,undef,undef,undef,undef,undef,undef],defers:= [] })
  (fun x a' _ X Y row hs hg hr=>by
   obtain ⟨Bx,h1,h2,h3⟩:=hs
   exact ⟨Bx,h1,ValAt.own (β:=Unit) Bx 0 (fun _=>x.kv) () X Y row h2 hg (fun r e=>(hr r e).2),h3⟩)
  ?assign ?body ?done ?stop
 case assign=>
  rintro l pre x W K ⟨bS1,hB1,hz1⟩ hK
  dsimp only [Kid.encs]
  gi_wp2
  exact hK _ _ ((KeepsOthers.alloc _ _).from _) (KeepAt.alloc W _ (by omega) (by omega)) ⟨bS1.alloc _,hB1.alloc hB1.size _,by simp;omega⟩ ⟨W.heap.size,hz1,Yu W x.kv _,rfl⟩
 case body=>
  rintro l pre x a' W hl _ ⟨bS1,hB1,hz1⟩ ⟨Bx,hBx,vX,rfl⟩ hlt
  have cS:=bS1.cell
  have fS:=bS1.frozen
  have r0:W.cell? ⟨Bx,0,none⟩=some (.int .u8 x.kv.k):=vX.c0
  have r1:W.cell? ⟨Bx,1,none⟩=some (.int .i64 x.kv.n):=vX.c1
  have r2:W.cell? ⟨Bx,2,none⟩=some (.string x.kv.s):=vX.c2
  have r3:W.cell? ⟨Bx,3,none⟩=some (.slice x.kv.la x.kv.ll x.kv.lc):=vX.c3
  have r4:W.cell? ⟨Bx,4,none⟩=some (.slice x.kv.oa x.kv.ol x.kv.oc):=vX.c4
  have hmx:Tryz.prog.follows .mixedOrders=true:=by kernel_rfl
  have hcal:=fun (W':World) (h:uB w W')=>x.p.1 x.p.2 W' x.kv (x.is.later_ h)
  have HC:=qh hcal
  clear hcal vX
  gi_wp2
  gi_region_with_o (refine ⟨trivial, ?_⟩;gi_at_call 102;refine (CallsIn.inRound l (callsIn_wide.2 (HC.out _ hB1.drew))).mono ?_;rintro e w' ⟨rfl,hb⟩;have cS':=(hb.cell (p:=⟨w.heap.size+1,0,none⟩) (by exact bS1.lt)).trans cS;have fS':=(hb.frozen (p:=⟨w.heap.size+1,0,none⟩) (by exact bS1.lt)).trans fS)
  all_goals gi_wp2
  all_goals
   have hb':=(Below.refl W.heap.size W).drew.trans hb
   have hbx':Boxed w' (w.heap.size+1) 3 _:=(hb'.block _ bS1.lt).trans bS1
   exact ⟨((X8 hb').trans (KeepsOthers.setCell _ _ _)).from _,(KeepAt.of_below hb' (by omega) (by omega)).trans (KeepAt.setCell _ _ (by simp) (by simp)),by rw [Xq (wsum ((1+c.s.size+weightO (List.map Kid.pair (pre++ [x])):Nat):Int) (1+(c.s.size:Int)+(weightO (List.map Kid.pair pre):Int)) x.kk.size x.v.weight (by rw [zeq];omega))];exact hbx'.set _,(hB1.on hb' hB1.size).setCell (by simp) _,by have:=hb'.size;simp [World.setCell];omega⟩
 case done=>
  rintro D ys W hD rfl ⟨bS,hB,hz1⟩ hK
  have cS:=bS.cell
  gi_wp2
  refine ⟨by simp, .inl ⟨_,_,rfl,run_takeDeferred hK, ?_⟩⟩
  refine ⟨_,results_tmp (t:=2) rfl _ _ _, ?_,hB.trans ((Below.refl _ _).grown (grownBy_putObj' _ D _) hB.size (fun k e=>by cases e;omega))⟩
  show Ending.returned (.int .i64 (wrap64 (1+(c.s.size:Int)+(weightO (pairs l o):Nat))))=_
  exact Q8 (by simp only [zl7,V.weight];rw [zcf (by omega) (by omega)];omega)
 case stop=>
  rintro D c' pre W _ _ h _
  exact h.elim
end Go.Proofs.YtbgheehjfnoiiaaGreatDoor
