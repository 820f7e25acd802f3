/-
  Contracts of the functions that the law reaches: writer.value and Writer.value: a value.
-/
import Derived.Test.YtnjgbiachcfigaaGreatDoorIw1
import Derived.Defers
import Derived.Recover
import Derived.Laws.BitsAllLaws
import Derived.Laws.IdiomStrings
import Derived.Lib.BufferRead
import Derived.Laws.AppendOwn
namespace Go.Proofs.YtnjgbiachcfigaaGreatDoor
open Go.RowKit
set_option maxHeartbeats 2000000
mutual
def encV:V->List UInt8
 | .mk k n s l o=>be (k % 18446744073709551616).toNat 1++(if k=1∨k=2 then be (n % 18446744073709551616).toNat 8 else if k=3 then encS s else if k=4 then be l.length 4++encL l else if k=5 then be o.length 4++encO o else [])
def encL:List V->List UInt8
 | [] => []
 |v::r=>encV v++encL r
def encO:List (ByteArray×V)->List UInt8
 | [] => []
 |f::r=>encF f++encO r
def encF:ByteArray×V->List UInt8
 |(k,v)=>encS k++encV v
end
theorem zgi (f:ByteArray×V):encF f=encS f.1++encV f.2:=by cases f;simp [encF]
theorem zob (a b:List V):encL (a++b)=encL a++encL b:=by
 induction a with
 |nil=>simp [encL]
 |cons v r ih=>simp only [List.cons_append,encL,ih,List.append_assoc]
def hasB (s:ByteArray) (b:Nat):Bool:=s.data.toList.any (fun x=>x.toNat==b)
theorem zq1 {s:ByteArray} {b k:Nat} (h:k<s.size) (e:(s[k]'h).toNat=b):hasB s b=true:=by
 unfold hasB;rw [List.any_eq_true]
 exact ⟨s.data.toList[k]'(by simpa using h),List.getElem_mem _,beq_iff_eq.2 e⟩
theorem zfw {s:ByteArray} {b:Nat} (h:∀j (hj:j<s.size),(s[j]'hj).toNat≠b):hasB s b=false:=by
 unfold hasB;rw [List.any_eq_false]
 intro x hx
 obtain ⟨j,hj,rfl⟩:=List.getElem_of_mem hx
 have hj':j<s.size:=by simpa using hj
 have h2:¬((s.data.toList[j]'hj).toNat=b):=h j hj'
 simpa using h2
def saysB (k:Int):ByteArray:=
 if k=1 then { data:= #[78] } else
 if k=2 then { data:= #[75,86] } else
 if k=3 then { data:= #[75] } else
 if k=4 then { data:= #[73,86] } else
 if k=5 then { data:= #[73] } else
 if k=6 then { data:= #[73,86] } else
 if k=7 then { data:= #[73,74] } else
 if k=8 then { data:= #[73,83] } else
 if k=9 then { data:= #[73,78] } else
 { data:= #[] }
set_option maxRecDepth 100000 in
theorem Xj (s:ByteArray) (b:Nat) (w:World) (hs:s.size<=140737488355328):
 uP 108 #[.string s, .int .u8 b] w fun e w'=>e= .returned (.bool (hasB s b))/\uB w w':=by
 delta uB uP
 go_enter Tryz.func108,Tryz.ntmps108
 go_wp2_with fail
 go_loopw [5] (fun i wr=>∃k:Nat,k<=s.size/\i= .int .i64 k/\Hid (∀j,j<k->∀hj:j<s.size,(s[j]'hj).toNat≠b)/\uB w wr) (fun i _=>s.size - (intOf i).toNat)
 case atStart=>exact ⟨0,Nat.zero_le _,rfl,fun j hj=>by omega,Below.refl _ _⟩
 case round=>
  obtain ⟨k,hk,rfl,HJ,hB⟩:=hrel
  by_cases hlt:k<s.size
  .by_cases e:(s[k]'hlt).toNat=b
   .have H:=qh e
    have f:(((s[k]'hlt).toNat:Int)==(b:Int))=true:=by simp [e]
    clear e
    go_wp2_with fail
    go_ret
    exact ⟨Zc (zq1 hlt H.out).symm,hB⟩
   .have H:=qh e
    have f:(((s[k]'hlt).toNat:Int)==(b:Int))=false:=by simp;omega
    clear e
    go_wp2_with fail
    go_roundw
    case rel=>
     refine ⟨k+1,by omega,by go_num,fun j hj hs=> ?_,hB⟩
     by_cases hjk:j=k
     .subst hjk;exact H.out
     .exact HJ.out j (by omega) hs
    case measure=>simp [intOf];omega
  .go_wp2_with fail
   go_ret
   exact ⟨Zc (zfw (fun j hj=>HJ.out j (by omega) hj)).symm,hB⟩
set_option maxRecDepth 100000 in
theorem zno (k:Int) (w:World):
 uP 106 #[.int .u8 k] w fun e w'=>e= .returned (.string (saysB k))/\uB w w':=by
 delta uB uP
 by_cases e1:k=1
 case pos=>
  subst e1
  go_enter Tryz.func106,Tryz.ntmps106
  go_wp2_with fail
  go_ret
  exact ⟨rfl,Below.refl _ _⟩
 have f1:(k==1)=false:=by simp [e1]
 by_cases e2:k=2
 case pos=>
  subst e2
  go_enter Tryz.func106,Tryz.ntmps106
  go_wp2_with fail
  go_ret
  exact ⟨rfl,Below.refl _ _⟩
 have f2:(k==2)=false:=by simp [e2]
 by_cases e3:k=3
 case pos=>
  subst e3
  go_enter Tryz.func106,Tryz.ntmps106
  go_wp2_with fail
  go_ret
  exact ⟨rfl,Below.refl _ _⟩
 have f3:(k==3)=false:=by simp [e3]
 by_cases e4:k=4
 case pos=>
  subst e4
  go_enter Tryz.func106,Tryz.ntmps106
  go_wp2_with fail
  go_ret
  exact ⟨rfl,Below.refl _ _⟩
 have f4:(k==4)=false:=by simp [e4]
 by_cases e5:k=5
 case pos=>
  subst e5
  go_enter Tryz.func106,Tryz.ntmps106
  go_wp2_with fail
  go_ret
  exact ⟨rfl,Below.refl _ _⟩
 have f5:(k==5)=false:=by simp [e5]
 by_cases e6:k=6
 case pos=>
  subst e6
  go_enter Tryz.func106,Tryz.ntmps106
  go_wp2_with fail
  go_ret
  exact ⟨rfl,Below.refl _ _⟩
 have f6:(k==6)=false:=by simp [e6]
 by_cases e7:k=7
 case pos=>
  subst e7
  go_enter Tryz.func106,Tryz.ntmps106
  go_wp2_with fail
  go_ret
  exact ⟨rfl,Below.refl _ _⟩
 have f7:(k==7)=false:=by simp [e7]
 by_cases e8:k=8
 case pos=>
  subst e8
  go_enter Tryz.func106,Tryz.ntmps106
  go_wp2_with fail
  go_ret
  exact ⟨rfl,Below.refl _ _⟩
 have f8:(k==8)=false:=by simp [e8]
 by_cases e9:k=9
 case pos=>
  subst e9
  go_enter Tryz.func106,Tryz.ntmps106
  go_wp2_with fail
  go_ret
  exact ⟨rfl,Below.refl _ _⟩
 have f9:(k==9)=false:=by simp [e9]
 have hR:saysB k= { data:= #[] } :=by simp [saysB,e1,e2,e3,e4,e5,e6,e7,e8,e9]
 have HR:=qh hR
 clear hR e1 e2 e3 e4 e5 e6 e7 e8 e9
 go_enter Tryz.func106,Tryz.ntmps106
 go_wp2_with fail
 go_ret
 exact ⟨by rw [HR.out];rfl,Below.refl _ _⟩
end Go.Proofs.YtnjgbiachcfigaaGreatDoor
namespace Go.Proofs.YtnjgbiachcfigaaGreatDoor
theorem row5 {f:Nat->Option Value} {z0 z1 z2 z3 z4:Value} (h:∀k z, [z0,z1,z2,z3,z4][k]? =some z->f k=some z):f 0=some z0/\f 1=some z1/\f 2=some z2/\f 3=some z3/\f 4=some z4:=
 ⟨h 0 _ rfl,h 1 _ rfl,h 2 _ rfl,h 3 _ rfl,h 4 _ rfl⟩
theorem row12 {f:Nat->Option Value} {z0 z1 z2 z3 z4 z5 z6 z7 z8 z9 z10 z11:Value} (h:∀k z, [z0,z1,z2,z3,z4,z5,z6,z7,z8,z9,z10,z11][k]? =some z->f k=some z):f 0=some z0/\f 1=some z1/\f 2=some z2/\f 3=some z3/\f 4=some z4/\f 5=some z5/\f 6=some z6/\f 7=some z7/\f 8=some z8/\f 9=some z9/\f 10=some z10/\f 11=some z11:=
 ⟨h 0 _ rfl,h 1 _ rfl,h 2 _ rfl,h 3 _ rfl,h 4 _ rfl,h 5 _ rfl,h 6 _ rfl,h 7 _ rfl,h 8 _ rfl,h 9 _ rfl,h 10 _ rfl,h 11 _ rfl⟩
end Go.Proofs.YtnjgbiachcfigaaGreatDoor
namespace Go.Proofs.YtnjgbiachcfigaaGreatDoor
open Go.RowKit
set_option maxHeartbeats 4000000
structure BX (w W:World) (cs:List Value):Prop where
 at_:∀j x,cs[j]? =some x->W.cell? ⟨w.heap.size,j,none⟩=some x
 below:Below w.heap.size w W
 size:w.heap.size+1<=W.heap.size
theorem zqj (w:World) (cs:Array Value) (t:TypeId) (j:Nat):(w.alloc (.cells cs t)).frozen? ⟨w.heap.size,j,none⟩=false:=by
 simp [go_sem]
structure IsB (w:World) (B:Nat) (a:Option Addr) (n c:Nat) (bs:List UInt8):Prop where
 len:n=bs.length
 cap:n<=c
 max:c<=9223372036854775807
 at_:∃b o,(0<n->a=some ⟨b,o,none⟩/\b<B)/\∀i (h:i<bs.length),w.cell? ⟨b,o+i,none⟩=some (.int .u8 (bs[i].toNat:Int))
theorem IsB.keep {w w':World} {B:Nat} {a:Option Addr} {n c:Nat} {bs:List UInt8} (h:IsB w B a n c bs) (hb:Below B w w'):IsB w' B a n c bs:=by
 obtain ⟨h1,h2,h3,b,o,h5,h6⟩:=h
 exact ⟨h1,h2,h3,b,o,h5,fun i hi=>Za hb (h6 i hi) (h5 (by omega)).2⟩
theorem IsB.nil (w:World) (B:Nat):IsB w B none 0 0 [] :=⟨rfl,Nat.le_refl _,by omega,0,0,fun h=>by omega,fun i hi=>by cases hi⟩
open Classical in
noncomputable def only (S:Nat->Prop) (w:World):World:= { w with heap:=w.heap.mapIdx fun k o=>if S k then o else .cells #[] 0 (0,0) }
theorem zod (S:Nat->Prop) (w:World):(only S w).heap.size=w.heap.size:=by simp [only]
theorem zeh {S:Nat->Prop} {w:World} {k:Nat} (h:S k):(only S w).heap[k]? =w.heap[k]? :=by
 simp [only,h]
theorem Z9 {S:Nat->Prop} {w:World} {b o:Nat} {u:Value} (h:(only S w).cell? ⟨b,o,none⟩=some u):S b/\w.cell? ⟨b,o,none⟩=some u:=by
 by_cases hs:S b
 .exact ⟨hs,(World.cell?_of_block (w':=only S w) (w:=w) (by exact zeh hs)).symm.trans h⟩
 .exfalso
  have hlt:=World.block_lt_of_cell? _ _ h
  rw [zod] at hlt
  have hk:(only S w).heap[b]? =some (.cells #[] 0 (0,0)):=by simp [only,hs,hlt]
  rw [cell_of_row _ b o #[] 0 (0,0) hk] at h
  simp at h
theorem Z3 {S:Nat->Prop} {w:World} {b o:Nat} {u:Value} (hs:S b) (h:w.cell? ⟨b,o,none⟩=some u):(only S w).cell? ⟨b,o,none⟩=some u:=
 (World.cell?_of_block (w':=only S w) (w:=w) (by exact zeh hs)).trans h
def Shows (w w':World) (B:Nat):Prop:=∀b o u,b<B->w.cell? ⟨b,o,none⟩=some u->w'.cell? ⟨b,o,none⟩=some u
theorem ValAt.sub {w w':World} {B b o:Nat} {c:VC} (h:ValAt w b o c) (hs:Shows w w' B) (hB:b<B):ValAt w' b o c:=
 ⟨hs _ _ _ hB h.c0,hs _ _ _ hB h.c1,hs _ _ _ hB h.c2,hs _ _ _ hB h.c3,hs _ _ _ hB h.c4⟩
theorem IsVal.sub {w w':World} {B:Nat} (hs:Shows w w' B) {v:V} {c:VC} (h:IsVal w B v c):IsVal w' B v c:=by
 induction h with
 | mk c l o cl co lb lo ob oo hbd hl ho hla hoa hlc hlv hoc hov ihl iho=>
   refine .mk c l o cl co lb lo ob oo hbd hl ho hla hoa (fun i hi=>(hlc i hi).sub hs (hla (by omega)).2) ihl (fun i hi=> ?_) iho
   have hB:=(hoa (by omega)).2
   obtain ⟨h1,h2,h3⟩:=hoc i hi
   exact ⟨hs _ _ _ hB h1,h2,h3.sub hs hB⟩
theorem IsSteps.sub {w w':World} {B:Nat} (hs:Shows w w' B) {p:List St} {a:Option Addr} {n c:Nat} (h:IsSteps w B p a n c):IsSteps w' B p a n c:=by
 obtain ⟨h1,h2,h3,h4,b,o,h5,h6⟩:=h
 exact ⟨h1,h2,h3,h4,b,o,h5,fun i hi=>⟨⟨hs _ _ _ (h5 (by omega)).2 (h6 i hi).1.c0,hs _ _ _ (h5 (by omega)).2 (h6 i hi).1.c1,hs _ _ _ (h5 (by omega)).2 (h6 i hi).1.c2⟩,(h6 i hi).2⟩⟩
theorem IsComp.sub {w w':World} {B:Nat} (hs:Shows w w' B) {x:Cm} {c:CC} (h:IsComp w B x c):IsComp w' B x c:=by
 cases h with
 |mk c p v hbd hp hv=>exact .mk c p v hbd (hp.sub hs) (hv.sub hs)
theorem Zk (S:Nat->Prop) (w:World) (B:Nat):Shows (only S w) w B:=fun _ _ _ _ h=>(Z9 h).2
theorem Zd {S S':Nat->Prop} {w w':World} (h:∀k,S k->k<w.heap.size->S' k/\w'.heap[k]? =w.heap[k]?):Shows (only S w) (only S' w') w.heap.size:=by
 intro b o u hb hc
 obtain ⟨hs,hc⟩:=Z9 hc
 obtain ⟨h1,h2⟩:=h b hs hb
 exact Z3 h1 ((World.cell?_of_block h2).trans hc)
structure RStep (w w':World) (rb:Nat):Prop where
 os:w'.os=w.os
 tape:w'.tape=w.tape
 output:w'.output=w.output
 size:w.heap.size<=w'.heap.size
 block:∀k,k<w.heap.size->k≠rb->w'.heap[k]? =w.heap[k]?
theorem RStep.trans {w w1 w2:World} {rb:Nat} (h:RStep w w1 rb) (g:RStep w1 w2 rb):RStep w w2 rb:=
 ⟨g.os.trans h.os,g.tape.trans h.tape,g.output.trans h.output,Nat.le_trans h.size g.size,fun k hk hr=>(g.block k (Nat.lt_of_lt_of_le hk h.size) hr).trans (h.block k hk hr)⟩
theorem RStep.of_below {w w':World} (rb:Nat) (h:uB w w'):RStep w w' rb:=⟨h.os,h.tape,h.output,h.size,fun k hk _=>h.block k hk⟩
theorem RStep.below {w w':World} {rb:Nat} (h:RStep w w' rb) (hB:rb<=w.heap.size):Below rb w w':=⟨h.os,h.tape,h.output,h.size,fun k hk=>h.block k (by omega) (by omega)⟩
theorem RStep.cell {w w':World} {rb:Nat} (h:RStep w w' rb) {b o:Nat} {u:Value} (hc:w.cell? ⟨b,o,none⟩=some u) (hb:b≠rb):w'.cell? ⟨b,o,none⟩=some u:=
 (World.cell?_of_block (h.block b (World.block_lt_of_cell? w _ hc) hb)).trans hc
theorem Zw (b o k:Nat):(⟨b,o,none⟩:Addr).add k=⟨b,o+k,none⟩:=by unfold Addr.add;split<;>simp_all
theorem Kh {w:World} {B:Nat} {a:Option Addr} {n c:Nat} {bs:List UInt8} (h:IsB w B a n c bs):(convert 23 9 (.slice a n c)).run Tryz.prog w= .ok (.string ⟨bs.toArray⟩) w:=by
 have hu:Tryz.prog.underlying 5=some (.int .u8):=by kernel_rfl
 obtain ⟨rfl,h2,h3,b,o,h5,h6⟩:=h
 cases a with
 | some a=>
   by_cases hz:0<bs.length
   .obtain ⟨e,hb⟩:=h5 hz
    have e:=Option.some.inj e
    subst e
    exact run_convert_bytes_back w _ _ 5 _ c bs Tryz.underlying23 hu Tryz.underlying9 (fun j hj=>by rw [Zw];exact h6 j hj)
   .have:bs= [] :=List.length_eq_zero_iff.1 (by omega)
    subst this
    exact run_convert_bytes_back w _ _ 5 _ c [] Tryz.underlying23 hu Tryz.underlying9 (fun j hj=>by cases hj)
 | none=>
   have:bs= [] :=by
    cases bs with
    |nil=>rfl
    |cons x r=>obtain ⟨e,_⟩:=h5 (by simp);cases e
   subst this
   exact Lib.run_convert_nil_bytes w _ _ 5 c Tryz.underlying23 hu Tryz.underlying9
theorem Yv {α:Type} (f:α->List Value) (m:Nat) (hf:∀x,(f x).length=m):∀(l:List α) (i t:Nat) (hi:i<l.length),t<m->(l.flatMap f)[i*m+t]? =(f l[i])[t]? :=by
 intro l
 induction l with
 |nil=>intro i t hi;cases hi
 | cons x l ih=>
   intro i t hi ht
   cases i with
   | zero=>
     simp only [List.flatMap_cons,Nat.zero_mul,Nat.zero_add,List.getElem_cons_zero]
     rw [List.getElem?_append_left (by rw [hf];exact ht)]
   | succ i=>
     have e:(i+1)*m+t=(f x).length+(i*m+t):=by rw [hf,Nat.add_mul];omega
     simp only [List.flatMap_cons,List.getElem_cons_succ]
     rw [e,List.getElem?_append_right (by omega),Nat.add_sub_cancel_left]
     exact ih i t (by simpa using hi) ht
theorem Zn {α:Type} (f:α->List Value) (m:Nat) (hf:∀x,(f x).length=m) (l:List α):(l.flatMap f).length=l.length*m:=by
 induction l with
 |nil=>simp
 |cons x l ih=>simp only [List.flatMap_cons,List.length_append,hf,ih,List.length_cons,Nat.add_mul];omega
theorem Y4 {α:Type} (f:α->List Value) (l:List α) (x:α):(l++ [x]).flatMap f=l.flatMap f++f x:=by simp
def Closed (P:World->Nat->Nat->Prop):Prop:=∀W W' B B' i,Shows W W' B->B<=B'->P W B i->P W' B' i
def Free (base:Nat) (u:Value):Nat->Prop:=fun k=>base<=k/\some k≠u.ownBlock
structure Row (T:TypeId) (sz:Nat) (w:World) (base:Nat) (u:Value) (n:Nat) (cells:List Value) (P:World->Nat->Nat->Prop):Prop where
 own:w.ownsRow base T sz u n cells
 els:∀i,i<n->P (only (Free base u) w) w.heap.size i
theorem Row.nil (T:TypeId) (sz:Nat) (w:World) (base:Nat) (P:World->Nat->Nat->Prop):Row T sz w base (.slice none 0 0) 0 [] P:=
 ⟨⟨by simp, .inl ⟨rfl,rfl⟩⟩,fun i h=>by omega⟩
theorem Row.lt {T:TypeId} {sz:Nat} {w:World} {base:Nat} {u:Value} {n:Nat} {cells:List Value} {P:World->Nat->Nat->Prop} (h:Row T sz w base u n cells P):∀k,u.ownBlock=some k->base<=k/\k<w.heap.size:=h.own.lt
theorem Row.later {T:TypeId} {sz:Nat} {w w':World} {base rb:Nat} {u:Value} {n:Nat} {cells:List Value} {P:World->Nat->Nat->Prop} (hP:Closed P) (h:Row T sz w base u n cells P) (s:RStep w w' rb) (hr:rb<base):Row T sz w' base u n cells P:=by
 refine ⟨h.own.kept (row:=some rb) ⟨s.os,s.tape,s.output,s.size,fun k hk hne=>s.block k hk (fun e=>hne (by rw [e]))⟩ ?_,fun i hi=>hP _ _ _ _ i (Zd fun k hk hlt=>⟨hk,s.block k hlt ?_⟩) s.size (h.els i hi)⟩
 .cases hu:u.ownBlock with
  |none=>simp
  | some k=>
    have:=(h.lt k hu).1
    right;intro e;injection e with e;omega
 .have:=hk.1;omega
theorem Row.set {T:TypeId} {sz:Nat} {w:World} {base b o:Nat} {u x:Value} {n:Nat} {cells:List Value} {P:World->Nat->Nat->Prop} (hP:Closed P) (h:Row T sz w base u n cells P) (hb:b<base):Row T sz (w.setCell ⟨b,o,none⟩ x) base u n cells P:=
 h.later hP (rb:=b) ⟨rfl,rfl,rfl,by simp,fun k hk hr=>heap_setCell_other _ _ _ _ hr⟩ hb
theorem Row.push {T:TypeId} {sz:Nat} {w w0 w1:World} {base:Nat} {u u':Value} {n:Nat} {cells news:List Value} {P P':World->Nat->Nat->Prop} (hP':Closed P') (h:Row T sz w base u n cells P)
 (hb:uB w w0) (hg:w0.grownBy w1 u.ownBlock) (hown:w1.ownsRow base T sz u' (n+1) (cells++news)) (hat:u'.ownBlock=u.ownBlock∨∀k,u'.ownBlock=some k->w.heap.size<=k)
 (hnew:P' (only (Free base u) w) w.heap.size n) (hold:∀W B i,i<n->P W B i->P' W B i):Row T sz w1 base u' (n+1) (cells++news) P':=by
 have hsz:w.heap.size<=w1.heap.size:=Nat.le_trans hb.size hg.size
 refine ⟨hown,fun i hi=> ?_⟩
 have hs:Shows (only (Free base u) w) (only (Free base u') w1) w.heap.size:=by
  refine Zd fun k hk hlt=>⟨⟨hk.1,fun e=> ?_⟩, ?_⟩
  .rcases hat with e2|e2
   .exact hk.2 (e.trans e2)
   .have:=e2 k e.symm;omega
  .rw [hg.block k (Nat.lt_of_lt_of_le hlt hb.size) hk.2,hb.block k hlt]
 by_cases hin:i=n
 .subst hin;exact hP' _ _ _ _ _ hs hsz hnew
 .exact hP' _ _ _ _ _ hs hsz (hold _ _ _ (by omega) (h.els i (by omega)))
theorem Row.shows {T:TypeId} {sz:Nat} {w:World} {base lo:Nat} {u:Value} {n:Nat} {cells:List Value} {P:World->Nat->Nat->Prop} (hP:Closed P) (h:Row T sz w base u n cells P) (hlo:lo<=base):
 (∀g,u.ownBlock=some g->∀j x,cells[j]? =some x->(only (fun k=>lo<=k) w).cell? ⟨g,j,none⟩=some x)/\∀i,i<n->P (only (fun k=>lo<=k) w) w.heap.size i:=by
 refine ⟨fun g hg j x hx=>Z3 (show lo<=g by have:=(h.lt g hg).1;omega) ?_,fun i hi=>hP _ _ _ _ i (Zd fun k hk _=>⟨by have:=hk.1;omega,rfl⟩) (Nat.le_refl _) (h.els i hi)⟩
 have:=h.own.cells hg j x hx
 rw [Zw,Nat.zero_add] at this;exact this
def vcells (c:VC):List Value:= [.int .u8 c.k, .int .i64 c.n, .string c.s, .slice c.la c.ll c.lc, .slice c.oa c.ol c.oc]
def vzero:VC:=⟨0,0, .empty,none,0,0,none,0,0⟩
def PV (l:List V) (cs:List VC):World->Nat->Nat->Prop:=fun W B i=>∀h:i<l.length,IsVal W B l[i] (cs.getD i vzero)
theorem PV.closed (l:List V) (cs:List VC):Closed (PV l cs):=fun _ _ _ _ _ hs hB h hi=>((h hi).sub hs).more hB
theorem PV.snoc {l:List V} {cs:List VC} (hl:cs.length=l.length) (x:V) (c:VC):(∀W B,IsVal W B x c->PV (l++ [x]) (cs++ [c]) W B l.length)/\∀W B i,i<l.length->PV l cs W B i->PV (l++ [x]) (cs++ [c]) W B i:=by
 constructor
 .intro W B h hi
  simpa [List.getD_eq_getElem?_getD, <-hl] using h
 .intro W B i hi h hi2
  have h:=h hi
  have e:(cs++ [c]).getD i vzero=cs.getD i vzero:=by simp [List.getD_eq_getElem?_getD,List.getElem?_append_left (show i<cs.length by omega)]
  rw [List.getElem_append_left hi,e]
  exact h
abbrev RowV (w:World) (base:Nat) (u:Value) (l:List V) (cs:List VC):Prop:=Row 36 5 w base u l.length (cs.flatMap vcells) (PV l cs)
theorem RowV.val {w:World} {base lo:Nat} {l:List V} {cs:List VC} {a:Option Addr} {n cap:Nat} (h:RowV w base (.slice a n cap) l cs) (hl:cs.length=l.length) (hlo:lo<=base) (k:Int) (hk0:0<=k) (hk1:k<256) (hfew:l.length<=1466015503701):
 IsVal (only (fun b=>lo<=b) w) w.heap.size (.mk k 0 .empty l []) ⟨k,0, .empty,a,n,cap,none,0,0⟩:=by
 obtain ⟨h1,h2⟩:=Row.shows (PV.closed l cs) h hlo
 have hown:=h.own
 have hlt:=h.lt
 have hbd:∀n cap:Nat,n<=cap->cap<=9223372036854775807->n<=1466015503701->(⟨k,0, .empty,a,n,cap,none,0,0⟩:VC).Bnd:=fun n cap e1 e2 e3=>⟨hk0,hk1,(by decide:(-9223372036854775808:Int)<=0),(by decide:(0:Int)<=9223372036854775807),(by decide:ByteArray.empty.size<=140737488355328),e1,e2,e3,(by decide:(0:Nat)<=0),(by decide:(0:Nat)<=9223372036854775807),(by decide:(0:Nat)<=1466015503701)⟩
 rcases hown.2 with ⟨e,hn⟩|⟨g,cap',cur,e,hbg,hg,hnc,hcm,hcs,htake⟩
 .injection e with e1 e2 e3;subst e1 e2 e3
  have:l= [] :=List.length_eq_zero_iff.1 hn
  subst this
  exact .mk ⟨k,0, .empty,none,0,0,none,0,0⟩ [] [] (fun _=>vzero) (fun _=>vzero) 0 0 0 0 (hbd 0 0 (by omega) (by omega) (by omega)) rfl rfl (fun h=>by cases h) (fun h=>by cases h) (fun i h=>by cases h) (fun i h=>by cases h) (fun i h=>by cases h) (fun i h=>by cases h)
 .injection e with e1 e2 e3;subst e1 e2 e3
  refine .mk ⟨k,0, .empty,some ⟨g,0,none⟩,l.length,cap,none,0,0⟩ l [] (fun i=>cs.getD i vzero) (fun _=>vzero) g 0 0 0 (hbd _ _ hnc (by simpa [maxLen] using hcm) hfew) rfl rfl (fun _=>⟨rfl,(hlt g rfl).2⟩) (fun h=>by cases h) (fun i hi=> ?_) (fun i hi=>h2 i hi hi) (fun i h=>by cases h) (fun i h=>by cases h)
  have hi':i<cs.length:=by omega
  have hc:∀t x,t<5->(vcells cs[i])[t]? =some x->(only (fun b=>lo<=b) w).cell? ⟨g,0+i*5+t,none⟩=some x:=fun t x ht hx=>by
   rw [Nat.zero_add]
   exact h1 g rfl (i*5+t) x ((Yv vcells 5 (fun _=>rfl) cs i t hi' ht).trans hx)
  have he:cs.getD i vzero=cs[i] :=by simp [List.getD_eq_getElem?_getD,hi']
  simp only [he]
  exact ⟨hc 0 _ (by omega) rfl,hc 1 _ (by omega) rfl,hc 2 _ (by omega) rfl,hc 3 _ (by omega) rfl,hc 4 _ (by omega) rfl⟩
def fcells (c:ByteArray×VC):List Value:= [.string c.1, .int .u8 c.2.k, .int .i64 c.2.n, .string c.2.s, .slice c.2.la c.2.ll c.2.lc, .slice c.2.oa c.2.ol c.2.oc]
def fzero:ByteArray×VC:=(.empty,vzero)
def PF (l:List (ByteArray×V)) (cs:List (ByteArray×VC)):World->Nat->Nat->Prop:=fun W B i=>∀h:i<l.length,(cs.getD i fzero).1=l[i].1/\l[i].1.size<=140737488355328/\IsVal W B l[i].2 (cs.getD i fzero).2
theorem PF.closed (l:List (ByteArray×V)) (cs:List (ByteArray×VC)):Closed (PF l cs):=fun _ _ _ _ _ hs hB h hi=>⟨(h hi).1,(h hi).2.1,((h hi).2.2.sub hs).more hB⟩
theorem PF.snoc {l:List (ByteArray×V)} {cs:List (ByteArray×VC)} (hl:cs.length=l.length) (s:ByteArray) (hs:s.size<=140737488355328) (x:V) (c:VC):(∀W B,IsVal W B x c->PF (l++ [(s,x)]) (cs++ [(s,c)]) W B l.length)/\∀W B i,i<l.length->PF l cs W B i->PF (l++ [(s,x)]) (cs++ [(s,c)]) W B i:=by
 constructor
 .intro W B h hi
  have e1:(l++ [(s,x)])[l.length]'hi=(s,x):=by simp
  have e2:(cs++ [(s,c)]).getD l.length fzero=(s,c):=by simp [List.getD_eq_getElem?_getD, <-hl]
  rw [e1,e2];exact ⟨rfl,hs,h⟩
 .intro W B i hi h hi2
  have h:=h hi
  have e:(cs++ [(s,c)]).getD i fzero=cs.getD i fzero:=by simp [List.getD_eq_getElem?_getD,List.getElem?_append_left (show i<cs.length by omega)]
  rw [List.getElem_append_left hi,e]
  exact h
abbrev RowF (w:World) (base:Nat) (u:Value) (l:List (ByteArray×V)) (cs:List (ByteArray×VC)):Prop:=Row 75 6 w base u l.length (cs.flatMap fcells) (PF l cs)
theorem RowF.val {w:World} {base lo:Nat} {l:List (ByteArray×V)} {cs:List (ByteArray×VC)} {a:Option Addr} {n cap:Nat} (h:RowF w base (.slice a n cap) l cs) (hl:cs.length=l.length) (hlo:lo<=base) (k:Int) (hk0:0<=k) (hk1:k<256) (hfew:l.length<=1466015503701):
 IsVal (only (fun b=>lo<=b) w) w.heap.size (.mk k 0 .empty [] l) ⟨k,0, .empty,none,0,0,a,n,cap⟩:=by
 obtain ⟨h1,h2⟩:=Row.shows (PF.closed l cs) h hlo
 have hown:=h.own
 have hlt:=h.lt
 have hbd:∀n cap:Nat,n<=cap->cap<=9223372036854775807->n<=1466015503701->(⟨k,0, .empty,none,0,0,a,n,cap⟩:VC).Bnd:=fun n cap e1 e2 e3=>⟨hk0,hk1,(by decide:(-9223372036854775808:Int)<=0),(by decide:(0:Int)<=9223372036854775807),(by decide:ByteArray.empty.size<=140737488355328),(by decide:(0:Nat)<=0),(by decide:(0:Nat)<=9223372036854775807),(by decide:(0:Nat)<=1466015503701),e1,e2,e3⟩
 rcases hown.2 with ⟨e,hn⟩|⟨g,cap',cur,e,hbg,hg,hnc,hcm,hcs,htake⟩
 .injection e with e1 e2 e3;subst e1 e2 e3
  have:l= [] :=List.length_eq_zero_iff.1 hn
  subst this
  exact .mk ⟨k,0, .empty,none,0,0,none,0,0⟩ [] [] (fun _=>vzero) (fun _=>vzero) 0 0 0 0 (hbd 0 0 (by omega) (by omega) (by omega)) rfl rfl (fun h=>by cases h) (fun h=>by cases h) (fun i h=>by cases h) (fun i h=>by cases h) (fun i h=>by cases h) (fun i h=>by cases h)
 .injection e with e1 e2 e3;subst e1 e2 e3
  refine .mk ⟨k,0, .empty,none,0,0,some ⟨g,0,none⟩,l.length,cap⟩ [] l (fun _=>vzero) (fun i=>(cs.getD i fzero).2) 0 0 g 0 (hbd _ _ hnc (by simpa [maxLen] using hcm) hfew) rfl rfl (fun h=>by cases h) (fun _=>⟨rfl,(hlt g rfl).2⟩) (fun i h=>by cases h) (fun i h=>by cases h) (fun i hi=> ?_) (fun i hi=>(h2 i hi hi).2.2)
  have hi':i<cs.length:=by omega
  have hc:∀t x,t<6->(fcells cs[i])[t]? =some x->(only (fun b=>lo<=b) w).cell? ⟨g,0+i*6+t,none⟩=some x:=fun t x ht hx=>by
   rw [Nat.zero_add]
   exact h1 g rfl (i*6+t) x ((Yv fcells 6 (fun _=>rfl) cs i t hi' ht).trans hx)
  have he:cs.getD i fzero=cs[i] :=by simp [List.getD_eq_getElem?_getD,hi']
  obtain ⟨p1,p2,_⟩:=h2 i hi hi
  rw [he] at p1
  simp only [he]
  exact ⟨by rw [<-p1];exact hc 0 _ (by omega) rfl,p2,hc 1 _ (by omega) rfl,hc 2 _ (by omega) rfl,hc 3 _ (by omega) rfl,hc 4 _ (by omega) rfl,hc 5 _ (by omega) rfl⟩
theorem RStep.frozen {w w':World} {rb:Nat} (h:RStep w w' rb) {b o:Nat} (hl:b<w.heap.size) (hb:b≠rb):w'.frozen? ⟨b,o,none⟩=w.frozen? ⟨b,o,none⟩:=
 World.frozen?_of_block (h.block b hl hb)
theorem Qg (W:World) (B:Nat) (k n:Int) (s:ByteArray) (hk0:0<=k) (hk1:k<256) (hn0: -9223372036854775808<=n) (hn1:n<=9223372036854775807) (hs:s.size<=140737488355328):IsVal W B (.mk k n s [] []) ⟨k,n,s,none,0,0,none,0,0⟩:=
 .mk ⟨k,n,s,none,0,0,none,0,0⟩ [] [] (fun _=>vzero) (fun _=>vzero) 0 0 0 0 ⟨hk0,hk1,hn0,hn1,hs,(by decide:(0:Nat)<=0),(by decide:(0:Nat)<=9223372036854775807),(by decide:(0:Nat)<=1466015503701),(by decide:(0:Nat)<=0),(by decide:(0:Nat)<=9223372036854775807),(by decide:(0:Nat)<=1466015503701)⟩ rfl rfl (fun h=>by cases h) (fun h=>by cases h) (fun i h=>by cases h) (fun i h=>by cases h) (fun i h=>by cases h) (fun i h=>by cases h)
theorem Kq (x:Int): -9223372036854775808<=wrap64 x:=by unfold wrap64;omega
theorem Jz (x:Int):wrap64 x<=9223372036854775807:=by unfold wrap64;omega
theorem Zj {w w':World} {row:Option Nat} {B:Nat} (hg:w.grownBy w' row) (hr:∀k,row=some k->B<=k) (hB:B<=w.heap.size):Below B w w':=
 ⟨hg.os,hg.tape,hg.output,hg.size,fun k hk=>hg.block k (by omega) (fun e=>by have:=hr k e.symm;omega)⟩
theorem Zf (w:World):uB w w.drew:=(Below.refl _ _).drew
theorem RStep.self {W:World} {b o:Nat} {x:Value} :RStep W (W.setCell ⟨b,o,none⟩ x) b:=⟨rfl,rfl,rfl,by simp,fun k hk hr=>heap_setCell_other _ _ _ _ hr⟩
theorem Zm {W W':World} {b base:Nat} {x:V} {c:VC} (h:IsVal (only (fun k=>base<=k) W) W.heap.size x c) (s:RStep W W' b) (hb:b<base):IsVal (only (fun k=>base<=k) W') W'.heap.size x c:=
 (h.sub (Zd fun k hk hl=>⟨hk,s.block k hl (by omega)⟩)).more s.size
structure BC (W:World) (b:Nat) (cs:List Value):Prop where
 at_:∀j x,cs[j]? =some x->W.cell? ⟨b,j,none⟩=some x
 fr:∀j,W.frozen? ⟨b,j,none⟩=false
 lt:b<W.heap.size
theorem BC.start (w:World) (cs:Array Value) (t:TypeId):BC (w.alloc (.cells cs t)) w.heap.size cs.toList:=
 ⟨fun j x hj=>Zv w cs t j x (by rw [<-hj];simp),fun j=>zqj w cs t j,by simp⟩
theorem BC.next {W W':World} {b rb:Nat} {cs:List Value} (h:BC W b cs) (s:RStep W W' rb) (hb:b≠rb):BC W' b cs:=
 ⟨fun j x hj=>s.cell (h.at_ j x hj) hb,fun j=>(s.frozen h.lt hb).trans (h.fr j),Nat.lt_of_lt_of_le h.lt s.size⟩
theorem BC.keep {W W':World} {b B:Nat} {cs:List Value} (h:BC W b cs) (hb:Below B W W') (hB:b<B):BC W' b cs:=
 ⟨fun j x hj=>Za hb (h.at_ j x hj) hB,fun j=>(hb.frozen (p:=⟨b,j,none⟩) hB).trans (h.fr j),Nat.lt_of_lt_of_le h.lt hb.size⟩
theorem BC.set {W:World} {b i:Nat} {x:Value} {cs:List Value} (h:BC W b cs) (hi:i<cs.length):BC (W.setCell ⟨b,i,none⟩ x) b (cs.set i x):=by
 refine ⟨fun j y hj=> ?_,fun j=>by simpa using h.fr j,by simpa using h.lt⟩
 by_cases e:i=j
 .subst e
  rw [List.getElem?_set_self hi] at hj
  injection hj with hj
  subst hj
  exact World.cell?_setCell_same _ _ _ (h.at_ i cs[i] (by simp [hi]))
 .rw [List.getElem?_set_ne e] at hj
  rw [World.cell?_setCell_other]
  .exact h.at_ j y hj
  .intro e2;injection e2 with _ e3;exact e (by first|exact e3|exact e3.symm)
theorem BC.far {W:World} {b b' o:Nat} {x:Value} {cs:List Value} (h:BC W b cs) (hb:b≠b'):BC (W.setCell ⟨b',o,none⟩ x) b cs:=
 h.next RStep.self hb
theorem Yh:(Tryz.prog.info? 36).map (fun i=>(i.zero,i.size,i.bytes))=some (some (.agg #[.int .u8 0, .int .i64 0, .string { data:= #[] }, .slice none 0 0, .slice none 0 0]),5,80):=by kernel_rfl
theorem Yj:(Tryz.prog.info? 75).map (fun i=>(i.zero,i.size,i.bytes))=some (some (.agg #[.string { data:= #[] }, .int .u8 0, .int .i64 0, .string { data:= #[] }, .slice none 0 0, .slice none 0 0]),6,96):=by kernel_rfl
def V.kd:V->Int
 | .mk k _ _ _ _=>k
def V.nm:V->Int
 | .mk _ n _ _ _=>n
def V.ls:V->List V
 | .mk _ _ _ l _=>l
def V.os:V->List (ByteArray×V)
 | .mk _ _ _ _ o=>o
theorem V.eta (v:V):∃k n s l o,v= .mk k n s l o:=by cases v;exact ⟨_,_,_,_,_,rfl⟩
def Free2 (base:Nat) (u uo:Value):Nat->Prop:=fun k=>base<=k/\some k≠u.ownBlock/\some k≠uo.ownBlock
structure OwnRow (w:World) (base:Nat) (a:Option Addr) (n c:Nat) (cells:List Value):Prop where
 cap:n<=c
 max:c<=9223372036854775807
 none_:n=0->a=none->c=0
 row:0<n∨a≠none->∃g,a=some ⟨g,0,none⟩/\base<=g/\BC w g cells
theorem OwnRow.of {w:World} {base base':Nat} {T:TypeId} {sz:Nat} {u:Value} {n:Nat} {cells:List Value} (h:w.ownsRow base T sz u n cells) (hB:base'<=base):∃a c,u= .slice a n c/\OwnRow w base' a n c cells:=by
 have hcl:∀g,u.ownBlock=some g->∀j x,cells[j]? =some x->w.cell? ((⟨g,0,none⟩:Addr).add j)=some x:=fun g hg=>h.cells hg
 have hl:=h.1
 rcases h.2 with ⟨rfl,rfl⟩|⟨g,cap,cur,rfl,h1,h2,h3,h4,h5,h6⟩
 .exact ⟨none,0,rfl,Nat.le_refl _,by omega,fun _ _=>rfl,fun h=>by rcases h with h|h<;>simp at h⟩
 .refine ⟨_,cap,rfl,h3,by simpa [maxLen] using h4,fun _ h=>(by cases h),fun _=>⟨g,rfl,Nat.le_trans hB h1,fun j x hj=> ?_,fun j=> ?_, ?_⟩⟩
  .have:=hcl g rfl j x hj
   rwa [Zw,Nat.zero_add] at this
  .simp [World.frozen?,h2]
  .exact (Array.getElem?_eq_some_iff.1 h2).1
structure Fresh (w:World) (base:Nat) (l:List V) (o:List (ByteArray×V)) (a:Option Addr) (n c:Nat) (a':Option Addr) (n' c':Nat) (cl:List VC) (co:List (ByteArray×VC)):Prop where
 len:n=l.length
 len':n'=o.length
 ll:cl.length=l.length
 lo:co.length=o.length
 few:l.length<=1466015503701
 few':o.length<=1466015503701
 ownL:OwnRow w base a n c (cl.flatMap vcells)
 ownO:OwnRow w base a' n' c' (co.flatMap fcells)
 ne:∀g,(Value.slice a n c).ownBlock=some g->(Value.slice a' n' c').ownBlock≠some g
 lv:∀i,i<l.length->PV l cl (only (Free2 base (.slice a n c) (.slice a' n' c')) w) w.heap.size i
 ov:∀i,i<o.length->PF o co (only (Free2 base (.slice a n c) (.slice a' n' c')) w) w.heap.size i
theorem Y2 {W:World} {g:Nat} {cl:List VC} (h:BC W g (cl.flatMap vcells)) {i:Nat} (hi:i<cl.length):ValAt W g (i*5) cl[i] :=by
 have hc:∀t x,t<5->(vcells cl[i])[t]? =some x->W.cell? ⟨g,i*5+t,none⟩=some x:=fun t x ht hx=>h.at_ _ _ ((Yv vcells 5 (fun _=>rfl) cl i t hi ht).trans hx)
 exact ⟨hc 0 _ (by omega) rfl,hc 1 _ (by omega) rfl,hc 2 _ (by omega) rfl,hc 3 _ (by omega) rfl,hc 4 _ (by omega) rfl⟩
theorem Yd {W:World} {g:Nat} {co:List (ByteArray×VC)} (h:BC W g (co.flatMap fcells)) {i:Nat} (hi:i<co.length):W.cell? ⟨g,i*6,none⟩=some (.string co[i].1)/\ValAt W g (i*6+1) co[i].2:=by
 have hc:∀t x,t<6->(fcells co[i])[t]? =some x->W.cell? ⟨g,i*6+t,none⟩=some x:=fun t x ht hx=>h.at_ _ _ ((Yv fcells 6 (fun _=>rfl) co i t hi ht).trans hx)
 exact ⟨hc 0 _ (by omega) rfl,hc 1 _ (by omega) rfl,hc 2 _ (by omega) rfl,hc 3 _ (by omega) rfl,hc 4 _ (by omega) rfl,hc 5 _ (by omega) rfl⟩
theorem Qy {w:World} {B:Nat} {k n:Int} {s:ByteArray} {l:List V} {o:List (ByteArray×V)} {a:Option Addr} {m c:Nat} {a':Option Addr} {m' c':Nat} {cl:List VC} {co:List (ByteArray×VC)}
 (hk0:0<=k) (hk1:k<256) (hn0: -9223372036854775808<=n) (hn1:n<=9223372036854775807) (hs:s.size<=140737488355328)
 (hl:m=l.length) (hl':m'=o.length) (ll:cl.length=l.length) (lo:co.length=o.length) (few:l.length<=1466015503701) (few':o.length<=1466015503701)
 (c1:m<=c) (c2:c<=9223372036854775807) (c1':m'<=c') (c2':c'<=9223372036854775807)
 (ha:0<m->∃g,a=some ⟨g,0,none⟩/\g<B/\∀i (hi:i<cl.length),ValAt w g (i*5) cl[i])
 (ha':0<m'->∃g,a'=some ⟨g,0,none⟩/\g<B/\∀i (hi:i<co.length),w.cell? ⟨g,i*6,none⟩=some (.string co[i].1)/\ValAt w g (i*6+1) co[i].2)
 (lv:∀i,i<l.length->PV l cl w B i) (ov:∀i,i<o.length->PF o co w B i):IsVal w B (.mk k n s l o) ⟨k,n,s,a,m,c,a',m',c'⟩:=by
 obtain ⟨lb,hlb⟩:∃lb,0<m->a=some ⟨lb,0,none⟩/\lb<B/\∀i (hi:i<cl.length),ValAt w lb (i*5) cl[i] :=by
  by_cases h:0<m
  .obtain ⟨g,hg⟩:=ha h;exact ⟨g,fun _=>hg⟩
  .exact ⟨0,fun h'=>absurd h' h⟩
 obtain ⟨ob,hob⟩:∃ob,0<m'->a'=some ⟨ob,0,none⟩/\ob<B/\∀i (hi:i<co.length),w.cell? ⟨ob,i*6,none⟩=some (.string co[i].1)/\ValAt w ob (i*6+1) co[i].2:=by
  by_cases h:0<m'
  .obtain ⟨g,hg⟩:=ha' h;exact ⟨g,fun _=>hg⟩
  .exact ⟨0,fun h'=>absurd h' h⟩
 refine .mk ⟨k,n,s,a,m,c,a',m',c'⟩ l o (fun i=>cl.getD i vzero) (fun i=>(co.getD i fzero).2) lb 0 ob 0 ⟨hk0,hk1,hn0,hn1,hs,c1,c2,by show m<=_;omega,c1',c2',by show m'<=_;omega⟩ hl hl' (fun h=>⟨(hlb h).1,(hlb h).2.1⟩) (fun h=>⟨(hob h).1,(hob h).2.1⟩) (fun i hi=> ?_) (fun i hi=>lv i hi hi) (fun i hi=> ?_) (fun i hi=>(ov i hi hi).2.2)
 .have he:cl.getD i vzero=cl[i]'(by omega):=by simp [List.getD_eq_getElem?_getD,show i<cl.length by omega]
  simp only [he,Nat.zero_add]
  exact (hlb (by omega)).2.2 i (by omega)
 .have he:co.getD i fzero=co[i]'(by omega):=by simp [List.getD_eq_getElem?_getD,show i<co.length by omega]
  obtain ⟨p1,p2,p3⟩:=ov i hi hi
  obtain ⟨q1,q2⟩:=(hob (by omega)).2.2 i (by omega)
  rw [he] at p1
  simp only [he,Nat.zero_add]
  exact ⟨by rw [<-p1];exact q1,p2,q2⟩
theorem Yw {P:Nat->Prop} {w:World} {b o:Nat} {c:VC} (hb:P b) (h:ValAt w b o c):ValAt (only P w) b o c:=⟨Z3 hb h.c0,Z3 hb h.c1,Z3 hb h.c2,Z3 hb h.c3,Z3 hb h.c4⟩
theorem Fresh.val {w:World} {base:Nat} {l:List V} {o:List (ByteArray×V)} {a:Option Addr} {m c:Nat} {a':Option Addr} {m' c':Nat} {cl:List VC} {co:List (ByteArray×VC)} (h:Fresh w base l o a m c a' m' c' cl co)
 {k n:Int} {s:ByteArray} (hk0:0<=k) (hk1:k<256) (hn0: -9223372036854775808<=n) (hn1:n<=9223372036854775807) (hs:s.size<=140737488355328):IsVal (only (fun b=>base<=b) w) w.heap.size (.mk k n s l o) ⟨k,n,s,a,m,c,a',m',c'⟩:=by
 have hsh:Shows (only (Free2 base (.slice a m c) (.slice a' m' c')) w) (only (fun b=>base<=b) w) w.heap.size:=Zd fun k hk _=>⟨hk.1,rfl⟩
 refine Qy hk0 hk1 hn0 hn1 hs h.len h.len' h.ll h.lo h.few h.few' h.ownL.cap h.ownL.max h.ownO.cap h.ownO.max (fun hp=> ?_) (fun hp=> ?_) (fun i hi=>PV.closed _ _ _ _ _ _ i hsh (Nat.le_refl _) (h.lv i hi)) (fun i hi=>PF.closed _ _ _ _ _ _ i hsh (Nat.le_refl _) (h.ov i hi))
 .obtain ⟨g,e,hg,hbc⟩:=h.ownL.row (.inl hp)
  exact ⟨g,e,hbc.lt,fun i hi=>Yw hg (Y2 hbc hi)⟩
 .obtain ⟨g,e,hg,hbc⟩:=h.ownO.row (.inl hp)
  exact ⟨g,e,hbc.lt,fun i hi=>⟨Z3 hg (Yd hbc hi).1,Yw hg (Yd hbc hi).2⟩⟩
def V.setL:V->Nat->V->V
 | .mk k n s l o,i,z=> .mk k n s (l.set i z) o
def putO (o:List (ByteArray×V)) (i:Nat) (z:V):List (ByteArray×V):=o.set i ((o.getD i (.empty,V.none)).1,z)
def V.setO:V->Nat->V->V
 | .mk k n s l o,i,z=> .mk k n s l (putO o i z)
def setV (W:World) (g o:Nat) (c:VC):World:=((((W.setCell ⟨g,o,none⟩ (.int .u8 c.k)).setCell ⟨g,o+1,none⟩ (.int .i64 c.n)).setCell ⟨g,o+2,none⟩ (.string c.s)).setCell ⟨g,o+3,none⟩ (.slice c.la c.ll c.lc)).setCell ⟨g,o+4,none⟩ (.slice c.oa c.ol c.oc)
theorem Zi (W:World) (g o:Nat) (c:VC):RStep W (setV W g o c) g:=(((RStep.self.trans RStep.self).trans RStep.self).trans RStep.self).trans RStep.self
theorem Z5 {W:World} {b:Nat} {c0:VC} (h:BC W b (vcells c0)) (c:VC):BC (setV W b 0 c) b (vcells c):=
 ((((h.set (i:=0) (x:= .int .u8 c.k) (by simp [vcells])).set (i:=1) (x:= .int .i64 c.n) (by simp [vcells])).set (i:=2) (x:= .string c.s) (by simp [vcells])).set (i:=3) (x:= .slice c.la c.ll c.lc) (by simp [vcells])).set (i:=4) (x:= .slice c.oa c.ol c.oc) (by simp [vcells])
theorem zc1 (cl:List VC) (k:Nat) (hk:k<cl.length) (z:VC):(((((cl.flatMap vcells).set (k*5) (.int .u8 z.k)).set (k*5+1) (.int .i64 z.n)).set (k*5+2) (.string z.s)).set (k*5+3) (.slice z.la z.ll z.lc)).set (k*5+4) (.slice z.oa z.ol z.oc)=(cl.set k z).flatMap vcells:=by
 induction cl generalizing k with
 |nil=>cases hk
 | cons c r ih=>
   cases k with
   |zero=>simp [vcells]
   | succ k=>
     have e:∀t,(k+1)*5+t=(vcells c).length+(k*5+t):=fun t=>by show _=5+_;omega
     have e0:(k+1)*5=(vcells c).length+(k*5):=by show _=5+_;omega
     rw [e 1,e 2,e 3,e 4,e0]
     simp only [List.flatMap_cons,List.set_cons_succ]
     rw [<-ih k (by simpa using hk)]
     simp only [List.set_append_right _ _ (Nat.le_add_right _ _),Nat.add_sub_cancel_left]
theorem zew (co:List (ByteArray×VC)) (k:Nat) (hk:k<co.length) (z:VC):(((((co.flatMap fcells).set (k*6+1) (.int .u8 z.k)).set (k*6+1+1) (.int .i64 z.n)).set (k*6+1+2) (.string z.s)).set (k*6+1+3) (.slice z.la z.ll z.lc)).set (k*6+1+4) (.slice z.oa z.ol z.oc)=(co.set k (co[k].1,z)).flatMap fcells:=by
 induction co generalizing k with
 |nil=>cases hk
 | cons c r ih=>
   cases k with
   |zero=>simp [fcells]
   | succ k=>
     have e:∀t,(k+1)*6+1+t=(fcells c).length+(k*6+1+t):=fun t=>by show _=6+_;omega
     have e0:(k+1)*6+1=(fcells c).length+(k*6+1):=by show _=6+_;omega
     rw [e 1,e 2,e 3,e 4,e0]
     simp only [List.flatMap_cons,List.set_cons_succ,List.getElem_cons_succ]
     rw [<-ih k (by simpa using hk)]
     simp only [List.set_append_right _ _ (Nat.le_add_right _ _),Nat.add_sub_cancel_left]
structure Tk where
 k:Int
 n:Int
 s:ByteArray
 m:Int
structure Tk.Bnd (t:Tk):Prop where
 k0:0<=t.k
 k1:t.k<256
 n0: -9223372036854775808<=t.n
 n1:t.n<=9223372036854775807
 s1:t.s.size<=140737488355328
 m0:0<=t.m
 m1:t.m<256
structure TkAt (w:World) (b o:Nat) (t:Tk):Prop where
 c0:w.cell? ⟨b,o,none⟩=some (.int .u8 t.k)
 c1:w.cell? ⟨b,o+1,none⟩=some (.int .i64 t.n)
 c2:w.cell? ⟨b,o+2,none⟩=some (.string t.s)
 c3:w.cell? ⟨b,o+3,none⟩=some (.int .u8 t.m)
theorem TkAt.keep {w w':World} {B b o:Nat} {t:Tk} (h:TkAt w b o t) (hb:Below B w w') (hB:b<B):TkAt w' b o t:=
 ⟨Za hb h.c0 hB,Za hb h.c1 hB,Za hb h.c2 hB,Za hb h.c3 hB⟩
structure IsToks (w:World) (B:Nat) (l:List Tk) (a:Option Addr) (n c:Nat):Prop where
 len:n=l.length
 cap:n<=c
 max:c<=9223372036854775807
 at_:∃b o,(0<n->a=some ⟨b,o,none⟩/\b<B)/\∀i (h:i<l.length),TkAt w b (o+i*4) l[i] /\l[i].Bnd
theorem IsToks.keep {w w':World} {B:Nat} {l:List Tk} {a:Option Addr} {n c:Nat} (h:IsToks w B l a n c) (hb:Below B w w'):IsToks w' B l a n c:=by
 obtain ⟨h1,h2,h3,b,o,h5,h6⟩:=h
 exact ⟨h1,h2,h3,b,o,h5,fun i hi=>⟨(h6 i hi).1.keep hb (h5 (by omega)).2,(h6 i hi).2⟩⟩
theorem IsToks.more {w:World} {B B':Nat} {l:List Tk} {a:Option Addr} {n c:Nat} (h:IsToks w B l a n c) (hB:B<=B'):IsToks w B' l a n c:=by
 obtain ⟨h1,h2,h3,b,o,h5,h6⟩:=h
 exact ⟨h1,h2,h3,b,o,fun hn=>⟨(h5 hn).1,Nat.lt_of_lt_of_le (h5 hn).2 hB⟩,h6⟩
theorem IsToks.later_ {w w':World} {l:List Tk} {a:Option Addr} {n c:Nat} (h:IsToks w w.heap.size l a n c) (hb:uB w w'):IsToks w' w'.heap.size l a n c:=(h.keep hb).more hb.size
theorem IsToks.get {w:World} {B:Nat} {l:List Tk} {a:Option Addr} {n c:Nat} (h:IsToks w B l a n c) {k:Nat} (hk:k<n):
 ∃b o,∃hp:k<l.length,a=some ⟨b,o,none⟩/\b<B/\TkAt w b (o+k*4) l[k] /\l[k].Bnd:=by
 obtain ⟨h1,h2,h3,b,o,h5,h6⟩:=h
 exact ⟨b,o,by omega,(h5 (by omega)).1,(h5 (by omega)).2,h6 k (by omega)⟩
theorem IsToks.drop {w:World} {B:Nat} {l:List Tk} {a:Option Addr} {n c:Nat} (h:IsToks w B l a n c) (k:Nat) (hk:k<=n):IsToks w B (l.drop k) (a.map (fun x=>x.add (k*4))) (n - k) (c - k):=by
 obtain ⟨h1,h2,h3,b,o,h5,h6⟩:=h
 refine ⟨by rw [List.length_drop];omega,by omega,by omega,b,o+k*4,fun hn=> ?_,fun i hi=> ?_⟩
 .obtain ⟨e,hb⟩:=h5 (by omega)
  exact ⟨by rw [e,Option.map_some,Zw],hb⟩
 .rw [List.length_drop] at hi
  have:=h6 (k+i) (by omega)
  rw [List.getElem_drop,show o+k*4+i*4=o+(k+i)*4 by rw [Nat.add_mul];omega];exact this
theorem IsToks.none_left {w:World} {B:Nat} {l:List Tk} {a a':Option Addr} {n c:Nat} (h:IsToks w B l a n c) (hn:n=0):IsToks w B l a' 0 0:=by
 obtain ⟨h1,h2,h3,b,o,h5,h6⟩:=h
 exact ⟨by omega,by omega,by omega,b,o,fun h=>by omega,h6⟩
theorem IsToks.take {w:World} {B:Nat} {l:List Tk} {a:Option Addr} {n c:Nat} (h:IsToks w B l a n c) (k:Nat) (hk:k<=n):IsToks w B (l.take k) a k c:=by
 obtain ⟨h1,h2,h3,b,o,h5,h6⟩:=h
 refine ⟨by rw [List.length_take];omega,by omega,h3,b,o,fun hn=>h5 (by omega),fun i hi=> ?_⟩
 rw [List.length_take] at hi
 rw [List.getElem_take];exact h6 i (by omega)
def V.str:V->ByteArray
 | .mk _ _ s _ _=>s
def fR (f:List Tk->V×Nat) (l:List Tk):Nat->List V×Nat×Bool
 |0=>([],1,false)
 | i+1=>if (fR f l i).2.2=true then fR f l i else if (f (l.drop (fR f l i).2.1)).2=0 then ((fR f l i).1,(fR f l i).2.1,true)
   else ((fR f l i).1++ [(f (l.drop (fR f l i).2.1)).1],(fR f l i).2.1+(f (l.drop (fR f l i).2.1)).2,false)
theorem Xd {w:World} {B:Nat} {v:V} {c:VC} (h:IsVal w B v c):v.str=c.s/\c.s.size<=140737488355328:=by
 cases h with
 |mk c l o cl co lb lo ob oo hbd=>exact ⟨rfl,hbd.s1⟩
structure QR (w wr:World) (t:Tk) (c:VC):Prop where
 res:BC wr w.heap.size [.int .u8 0, .int .i64 0, .string { data:= #[] }, .slice none 0 0, .slice none 0 0]
 tok:BC wr (w.heap.size+1) [.int .u8 t.k, .int .i64 t.n, .string t.s, .int .u8 t.m]
 val:BC wr (w.heap.size+2) (vcells c)
 below:Below w.heap.size w wr
theorem QR.next {w wr W:World} {t:Tk} {c:VC} (h:QR w wr t c) (hb:uB wr W):QR w W t c:=
 ⟨h.res.keep hb h.res.lt,h.tok.keep hb h.tok.lt,h.val.keep hb h.val.lt,h.below.trans (hb.mono (Nat.le_of_lt h.res.lt))⟩
theorem QR.below_ {w wr W:World} {t:Tk} {c:VC} (h:QR w wr t c) {B:Nat} (hb:Below B wr W) (hB:w.heap.size+3<=B):QR w W t c:=
 ⟨h.res.keep hb (by omega),h.tok.keep hb (by omega),h.val.keep hb (by omega),h.below.trans (hb.mono (by omega))⟩
def RawPost (w:World) (r:V×Nat) (e:Ending) (w':World):Prop:=
 (∃c:VC,e= .returned (.tuple #[.agg #[.int .u8 c.k, .int .i64 c.n, .string c.s, .slice c.la c.ll c.lc, .slice c.oa c.ol c.oc], .int .i64 (r.2:Int)])/\IsVal (only (fun b=>w.heap.size<=b) w') w'.heap.size r.1 c)/\Below w.heap.size w w'
theorem QR.stored {w W:World} {t:Tk} {c0:VC} (h:QR w W t c0) (c:VC):BC (((((W.setCell ⟨w.heap.size,0,none⟩ (.int .u8 c.k)).setCell ⟨w.heap.size,1,none⟩ (.int .i64 c.n)).setCell ⟨w.heap.size,2,none⟩ (.string c.s)).setCell ⟨w.heap.size,3,none⟩ (.slice c.la c.ll c.lc)).setCell ⟨w.heap.size,4,none⟩ (.slice c.oa c.ol c.oc)) w.heap.size (vcells c)/\uB w (((((W.setCell ⟨w.heap.size,0,none⟩ (.int .u8 c.k)).setCell ⟨w.heap.size,1,none⟩ (.int .i64 c.n)).setCell ⟨w.heap.size,2,none⟩ (.string c.s)).setCell ⟨w.heap.size,3,none⟩ (.slice c.la c.ll c.lc)).setCell ⟨w.heap.size,4,none⟩ (.slice c.oa c.ol c.oc))/\RStep W (((((W.setCell ⟨w.heap.size,0,none⟩ (.int .u8 c.k)).setCell ⟨w.heap.size,1,none⟩ (.int .i64 c.n)).setCell ⟨w.heap.size,2,none⟩ (.string c.s)).setCell ⟨w.heap.size,3,none⟩ (.slice c.la c.ll c.lc)).setCell ⟨w.heap.size,4,none⟩ (.slice c.oa c.ol c.oc)) w.heap.size:=by
 delta uB
 have s1:RStep W (((((W.setCell ⟨w.heap.size,0,none⟩ (.int .u8 c.k)).setCell ⟨w.heap.size,1,none⟩ (.int .i64 c.n)).setCell ⟨w.heap.size,2,none⟩ (.string c.s)).setCell ⟨w.heap.size,3,none⟩ (.slice c.la c.ll c.lc)).setCell ⟨w.heap.size,4,none⟩ (.slice c.oa c.ol c.oc)) w.heap.size:=(((RStep.self.trans RStep.self).trans RStep.self).trans RStep.self).trans RStep.self
 refine ⟨((((h.res.set (i:=0) (x:= .int .u8 c.k) (by simp)).set (i:=1) (x:= .int .i64 c.n) (by simp)).set (i:=2) (x:= .string c.s) (by simp)).set (i:=3) (x:= .slice c.la c.ll c.lc) (by simp)).set (i:=4) (x:= .slice c.oa c.ol c.oc) (by simp),h.below.trans (s1.below (Nat.le_of_lt h.res.lt)),s1⟩
def fld (xs:List V):List (ByteArray×V):=xs.map fun x=>(x.str,x)
def low (b:UInt8):UInt8:=UInt8.ofNat (b.toNat % 128)
def plainL (l:List UInt8):List UInt8:=(l.take 40).map low
def plainS (s:ByteArray):ByteArray:=⟨(plainL s.data.toList).toArray⟩
set_option maxRecDepth 100000 in
theorem Kj {w:World} {B:Nat} {v:Value} {bs:List UInt8} (ho:w.ownsRow B 5 1 v bs.length (outs bs)):∃a n c,v= .slice a n c/\IsB w w.heap.size a n c bs:=by
 have hc:=fun g hg=>ho.cells (g:=g) hg
 have hlt:=ho.lt
 rcases ho.2 with ⟨rfl,hn⟩|⟨g,cap,cur,rfl,_,hg,hnc,hcm,_,_⟩
 .have:bs= [] :=List.length_eq_zero_iff.1 hn
  subst this
  exact ⟨none,0,0,rfl, .nil _ _⟩
 .refine ⟨_,_,_,rfl,rfl,hnc,by simpa [maxLen] using hcm,g,0,fun _=>⟨rfl,(hlt g rfl).2⟩,fun i hi=> ?_⟩
  have:=hc g rfl i (.int .u8 (bs[i].toNat:Int)) (by simp [outs,hi])
  rw [Zw] at this;exact this
theorem zcg (l:List UInt8) (j:Nat) (h:j<l.length):(l.take (j+1)).map low=(l.take j).map low++ [low l[j]] :=by
 rw [Yb l j h,List.map_append];rfl
theorem zdr (b:UInt8):(((low b).toNat:Nat):Int)=(b.toNat:Int) % 128:=by
 have h:(low b).toNat=b.toNat % 128:=by
  unfold low
  rw [UInt8.toNat_ofNat']
  omega
 rw [h];omega
structure PH (w wr:World) (s:ByteArray) (j:Nat) (u:Value):Prop where
 own:wr.ownsRow w.heap.size 5 1 u j (outs ((s.data.toList.take j).map low))
 below:Below w.heap.size w wr
set_option maxRecDepth 100000 in
theorem zd9 (w:World) (s:ByteArray) (hs:s.size<=140737488355328):
 uP 71 #[.string s] w fun e w'=>e= .returned (.string (plainS s))/\uB w w':=by
 delta uB uP
 obtain ⟨i0,hi0,hz0,hz1,hz2⟩:=info_parts zet
 have hsz:s.data.toList.length=s.size:=Array.length_toList
 have HS:=qh hsz
 clear hsz
 go_enter Tryz.func71,Tryz.ntmps71
 go_wp2_with fail
 go_loopw [3,4] (fun u i wr=>∃(j:Nat) (a:Option Addr) (m c:Nat),j<=40/\j<=s.size/\i= .int .i64 j/\u= .slice a m c/\PH w wr s j (.slice a m c)) (fun _ i _=>40 - (intOf i).toNat)
 case atStart=>exact ⟨0,none,0,0,by omega,Nat.zero_le _,rfl,rfl,⟨⟨by simp [outs], .inl ⟨rfl,rfl⟩⟩,Below.refl _ _⟩⟩
 case round=>
  obtain ⟨j,a,m,c,hj,hj2,rfl,rfl,L⟩:=hrel
  have hlen:=HS.out
  by_cases h1:j<s.size
  .by_cases h2:j<40
   .have hgb:s.data.toList[j]'(by omega)=s[j]'h1:=by simp [ByteArray.getElem_eq_getElem_data]
    have hsn:=zcg s.data.toList j (by omega)
    rw [hgb] at hsn
    have HSN:=qh hsn
    have hrlt:∀b,(Value.slice a m c).ownBlock=some b->w.heap.size<=b/\b<wr.heap.size:=L.own.lt
    have hb:=L.below.size
    have LL:=qh L
    have ho:=L.own
    clear hsn hgb L
    go_wp2_with (at_builtin;refine wpList_append_lies _ rfl (.tmp 15) (.tmp 20) 23 (by rfl) w.heap.size 5 i0 _ 1 1 Tryz.underlying23 hi0 hz0 hz1 hz2 rfl (by omega) (.slice a m c) j (outs ((s.data.toList.take j).map low)) (by rfl) (ho.alloc _) ⟨wr.heap.size,0,none⟩ 1 1 [.int .u8 ((s[j]'h1).toNat % 128:Int)] (by rfl) (by rfl) (World.news_of_block (cs:= #[.int .u8 ((s[j]'h1).toNat % 128:Int)]) (t:=5) (fr:=(0,0)) (heap_alloc_new wr _)) (by simp [Value.oneCell']) (by omega) (by unfold maxLen;omega) (by omega) (by simp;omega) (wr.heap.size+1) (by simp) ?_;intro g cap w7 hown7 hgrow7 hat7 hlt7)
    go_roundw
    case rel=>
     refine ⟨j+1,some ⟨g,0,none⟩,j+1,cap,by omega,by omega,by go_num,rfl,⟨?_, ?_⟩⟩
     .rw [HSN.out,zb6]
      have e:outs [low (s[j]'h1)] = [.int .u8 ((s[j]'h1).toNat % 128:Int)] :=by simp [outs,zdr]
      rw [e];exact hown7
     .exact (LL.out.below.trans (((Below.refl _ _).alloc (Nat.le_refl _) _).mono hb)).trans (Zj hgrow7 (fun k hk=>(hrlt k hk).1) (by simp;omega))
    case measure=>simp [intOf];omega
   .obtain ⟨a2,n2,c2,hv2,hI⟩:=Kj (bs:=(s.data.toList.take j).map low) (by rw [List.length_map,List.length_take,Nat.min_eq_left (by omega)];exact L.own)
    injection hv2 with h3 h4 h5;subst h3 h4 h5
    have hcv:=Kh hI
    have LL:=qh L
    have hp:((s.data.toList.take j).map low)=plainL s.data.toList:=by rw [plainL,show j=40 by omega]
    rw [hp] at hcv
    clear hI L hp
    go_wp2_with fail
    go_returns
    exact ⟨rfl,LL.out.below⟩
  .obtain ⟨a2,n2,c2,hv2,hI⟩:=Kj (bs:=(s.data.toList.take j).map low) (by rw [List.length_map,List.length_take,Nat.min_eq_left (by omega)];exact L.own)
   injection hv2 with h3 h4 h5;subst h3 h4 h5
   have hcv:=Kh hI
   have LL:=qh L
   have hp:((s.data.toList.take j).map low)=plainL s.data.toList:=by rw [plainL,List.take_of_length_le (by omega),List.take_of_length_le (by omega)]
   rw [hp] at hcv
   clear hI L hp
   go_wp2_with fail
   go_returns
   exact ⟨rfl,LL.out.below⟩
def fieldK (o:List (ByteArray×V)) (key:ByteArray):Nat:=(o.takeWhile fun f=>Op.bytesLess f.1.toList key.toList).length
def fieldIs (o:List (ByteArray×V)) (key:ByteArray):Bool:=match o[fieldK o key]? with
 |some f=>f.1.toList==key.toList
 |none=>false
theorem Qd (o:List (ByteArray×V)) (key:ByteArray) (j:Nat) (h:∀i (hi:i<o.length),i<j->Op.bytesLess (o[i]'hi).1.toList key.toList=true) (hj:j<=o.length) (he:j=o.length∨∃hi:j<o.length,Op.bytesLess (o[j]'hi).1.toList key.toList=false):fieldK o key=j:=by
 unfold fieldK
 induction o generalizing j with
 |nil=>simp at hj;subst hj;rfl
 | cons f o ih=>
   cases j with
   | zero=>
     rcases he with he|⟨hi,he⟩
     .simp at he
     .simp only [List.getElem_cons_zero] at he
      simp [he]
   | succ j=>
     have h0:=h 0 (by simp) (by omega)
     simp only [List.getElem_cons_zero] at h0
     have:=ih j (fun i hi hij=>by have:=h (i+1) (by simpa using hi) (by omega);simpa using this) (by simpa using hj) (by
      rcases he with he|⟨hi,he⟩
      .left;simpa using he
      .right;exact ⟨by simpa using hi,by simpa using he⟩)
     simp [h0,this]
theorem Ye {B:Nat} {a w:World} (h:Below B a w) (n:Nat):Below B a (w.drewN n):=h.trans ⟨rfl,rfl,rfl,Nat.le_refl _,fun _ _=>rfl⟩
set_option maxRecDepth 100000 in
theorem Yi (w:World) (o:List (ByteArray×V)) (key:ByteArray) (k n:Int) (s:ByteArray) (la:Option Addr) (ll lc:Nat) (oa:Option Addr) (ol oc:Nat) (h:IsFields w w.heap.size o oa ol oc):
 uP 75 #[.agg (uU k n s la ll lc oa ol oc), .string key] w fun e w'=>e= .returned (.tuple #[.int .i64 (fieldK o key:Int), .bool (fieldIs o key)])/\uB w w':=by
 delta uU uB uP
 have hlen:=h.len
 have HI:=qh h
 have HL:=qh hlen
 have k1:=h.max;have k2:=h.few
 have HB0:=qh (BC.start w (uU k n s la ll lc oa ol oc) 36)
 clear h hlen
 go_enter Tryz.func75,Tryz.ntmps75
 go_wp2_with fail
 go_loopw [6] (fun i wr=>BC wr w.heap.size [.int .u8 k, .int .i64 n, .string s, .slice la ll lc, .slice oa ol oc] /\uB w wr/\∃j:Nat,j<=ol/\i= .int .i64 j/\Hid (∀i (hi:i<o.length),i<j->Op.bytesLess (o[i]'hi).1.toList key.toList=true)) (fun i _=>ol - (intOf i).toNat)
 case atStart=>exact ⟨HB0.out,(Below.refl _ _).alloc (Nat.le_refl _) _,0,Nat.zero_le _,rfl,qh (fun i hi hj=>by omega)⟩
 case round=>
  obtain ⟨hbc,hbl,j,hj,rfl,hall⟩:=hrel
  have c4:=hbc.at_ 4 _ rfl
  have zs:=hbc.lt
  have HBC:=qh hbc
  have HBL:=qh hbl
  by_cases hlt:j<ol
  .obtain ⟨b,o',f,hp,rfl,hbB,hkey,hks,_⟩:=(HI.out.keep hbl).get hlt
   have hbw:b<wr.heap.size:=World.block_lt_of_cell? wr _ hkey
   obtain ⟨lb,hlb⟩:∃lb,Op.bytesLess (o[j]'hp).1.toList key.toList=lb:=⟨_,rfl⟩
   cases lb with
   | true=>
     have HLB:=qh hlb
     clear hbc hbl
     go_wp2_with fail
     go_roundw
     case rel=>exact ⟨HBC.out,HBL.out,j+1,by omega,by go_num,qh (fun i hi hij=>by
      by_cases e:i=j
      .subst e;exact HLB.out
      .exact hall.out i hi (by omega))⟩
     case measure=>simp [intOf];omega
   | false=>
     obtain ⟨eb,heb⟩:∃eb,((o[j]'hp).1.toList==key.toList)=eb:=⟨_,rfl⟩
     have hk:fieldK o key=j:=Qd o key j hall.out (by omega) (.inr ⟨hp,hlb⟩)
     have hi:fieldIs o key=eb:=by
      rw [fieldIs,hk,List.getElem?_eq_getElem hp];exact heb
     have HK:=qh hk
     have HII:=qh hi
     clear hbc hbl hk hi
     go_wp2_with fail
     go_quiet (fail)
     go_wp2_with fail
     go_returns
     exact ⟨by rw [HK.out,HII.out];rfl,Ye HBL.out _⟩
  .have hj2:j=ol:=by omega
   subst hj2
   have hk:fieldK o key=j:=Qd o key j hall.out (by rw [HL.out];exact Nat.le_refl _) (.inl HL.out)
   have hi:fieldIs o key=false:=by
    rw [fieldIs,hk,List.getElem?_eq_none (by rw [HL.out];exact Nat.le_refl _)]
   have HK:=qh hk
   have HII:=qh hi
   clear hbc hbl hk hi
   go_wp2_with fail
   go_quiet (fail)
   go_wp2_with fail
   go_returns
   exact ⟨by rw [HK.out,HII.out];rfl,Ye HBL.out _⟩
def withF (o:List (ByteArray×V)) (key:ByteArray) (x:V):List (ByteArray×V):=o.take (fieldK o key)++(key,x)::o.drop (if fieldIs o key=true then fieldK o key+1 else fieldK o key)
theorem Z7 (o:List (ByteArray×V)) (key:ByteArray):fieldK o key<=o.length:=(List.takeWhile_sublist _).length_le
theorem Z8 {o:List (ByteArray×V)} {key:ByteArray} (h:fieldIs o key=true):fieldK o key<o.length:=by
 unfold fieldIs at h
 by_cases hq:fieldK o key<o.length
 .exact hq
 .rw [List.getElem?_eq_none (by omega)] at h;cases h
theorem IsFields.cells {w:World} {B:Nat} {o:List (ByteArray×V)} {a:Option Addr} {n c:Nat} (h:IsFields w B o a n c):
 ∃(cs:List (ByteArray×VC)) (b off:Nat),cs.length=o.length/\(0<n->a=some ⟨b,off,none⟩/\b<B)/\(∀j u,(cs.flatMap fcells)[j]? =some u->w.cell? ⟨b,off+j,none⟩=some u)/\∀i,i<o.length->PF o cs w B i:=by
 obtain ⟨h1,h2,h3,h4,b,off,f,h5,h6⟩:=h
 have hlen:((List.range o.length).map fun i=>((o.getD i (.empty,V.none)).1,f i)).length=o.length:=by simp
 have hget:∀i (hi:i<o.length),((List.range o.length).map fun i=>((o.getD i (.empty,V.none)).1,f i))[i]? =some (o[i].1,f i):=by
  intro i hi
  simp [hi,List.getD_eq_getElem?_getD]
 refine ⟨(List.range o.length).map fun i=>((o.getD i (.empty,V.none)).1,f i),b,off,hlen,h5,fun j u hj=> ?_,fun i hi h=> ?_⟩
 .have hjl:j<o.length*6:=by
   have:=(List.getElem?_eq_some_iff.1 hj).1
   rw [Zn fcells 6 (fun _=>rfl),hlen] at this
   exact this
  have hi:j / 6<o.length:=by omega
  have hd:j=j / 6*6+j % 6:=by omega
  rw [hd,Yv fcells 6 (fun _=>rfl) _ (j / 6) (j % 6) (by rw [hlen];exact hi) (by omega)] at hj
  have he:((List.range o.length).map fun i=>((o.getD i (.empty,V.none)).1,f i))[j / 6]'(by rw [hlen];exact hi)=(o[j / 6].1,f (j / 6)):=by
   have:=hget (j / 6) hi
   rw [List.getElem?_eq_getElem (by rw [hlen];exact hi)] at this
   exact Option.some.inj this
  rw [he] at hj
  obtain ⟨g1,g2,g3,g4⟩:=h6 (j / 6) hi
  have hm:j % 6<6:=by omega
  rw [hd, <-Nat.add_assoc]
  obtain ⟨m,hmm⟩:∃m,j % 6=m:=⟨_,rfl⟩
  rw [hmm] at hj hm ⊢
  match m,hm with
  |0,_=>rw [<-hj];exact g1
  |1,_=>rw [<-hj];exact g3.c0
  |2,_=>rw [<-hj];exact g3.c1
  |3,_=>rw [<-hj];exact g3.c2
  |4,_=>rw [<-hj];exact g3.c3
  |5,_=>rw [<-hj];exact g3.c4
 .obtain ⟨g1,g2,g3,g4⟩:=h6 i hi
  have he:((List.range o.length).map fun i=>((o.getD i (.empty,V.none)).1,f i)).getD i fzero=(o[i].1,f i):=by
   rw [List.getD_eq_getElem?_getD,hget i hi];rfl
  rw [he]
  exact ⟨rfl,g2,g4⟩
theorem Jm {w:World} {B0 B1:Nat} {v:Value} {l:List (ByteArray×V)} {cs:List (ByteArray×VC)} (hown:w.ownsRow B1 75 6 v l.length (cs.flatMap fcells)) (hB:B0<=B1) (hl:cs.length=l.length) (hels:∀i,i<l.length->PF l cs (only (Free B0 v) w) w.heap.size i) (hfew:l.length<=1466015503701):
 ∃a n c,v= .slice a n c/\IsFields (only (fun b=>B0<=b) w) w.heap.size l a n c/\(a=none->c=0):=by
 have hown2:w.ownsRow B0 75 6 v l.length (cs.flatMap fcells):=by
  refine ⟨hown.1, ?_⟩
  rcases hown.2 with h|⟨g,cap,cur,h1,h2,h3⟩
  .exact .inl h
  .exact .inr ⟨g,cap,cur,h1,Nat.le_trans hB h2,h3⟩
 have hv:∃a n c,v= .slice a n c/\(a=none->c=0):=by
  rcases hown.2 with ⟨h,_⟩|⟨g,cap,cur,h1,_⟩
  .exact ⟨_,_,_,h,fun _=>rfl⟩
  .exact ⟨_,_,_,h1,fun h=>by cases h⟩
 obtain ⟨a,n,c,rfl,hz⟩:=hv
 have hrow:RowF w B0 (.slice a n c) l cs:=⟨hown2,hels⟩
 have:=(RowF.val hrow (lo:=B0) hl (Nat.le_refl _) 5 (by omega) (by omega) hfew).lists
 exact ⟨a,n,c,rfl,this.2.2.2.2.2,hz⟩
def WithPost (w:World) (B0:Nat) (l:List (ByteArray×V)) (e:Ending) (w':World):Prop:=
 (∃a n c,e= .returned (.slice a n c)/\IsFields (only (fun b=>B0<=b) w') w'.heap.size l a n c/\(a=none->c=0))/\Below w.heap.size w w'
def stepP (v:V) (s:St):Option (V×Nat):=
 if s.list=true then (if v.kd=4/\0<=s.i/\s.i<v.ls.length then some (v.ls.getD s.i.toNat V.none,s.i.toNat) else none)
 else if v.kd=5/\fieldIs v.os s.key=true then some ((v.os.getD (fieldK v.os s.key) (.empty,V.none)).2,fieldK v.os s.key) else none
def getP:V->List St->Option V
 |v, [] =>some v
 | v,s::r=>match stepP v s with
   |none=>none
   |some q=>getP q.1 r
def putP:V->List St->V->Option V
 |_, [],x=>some x
 | v,s::r,x=>match stepP v s with
   |none=>none
   | some q=>match putP q.1 r x with
     |none=>none
     |some z=>some (if s.list=true then v.setL q.2 z else v.setO q.2 z)
theorem Yy {v:V} {s:St} {x:V} {k:Nat} (h:stepP v s=some (x,k)):
 (s.list=true/\v.kd=4/\(k:Int)=s.i/\∃hk:k<v.ls.length,v.ls[k] =x)∨(s.list=false/\v.kd=5/\k=fieldK v.os s.key/\∃hk:k<v.os.length,v.os[k].2=x):=by
 unfold stepP at h
 by_cases hl:s.list=true
 .rw [if_pos hl] at h
  split at h
  .rename_i hc
   injection h with h;injection h with h1 h2
   have hk:k<v.ls.length:=by omega
   refine .inl ⟨hl,hc.1,by omega,hk, ?_⟩
   subst h2
   rw [<-h1]
   simp [List.getD_eq_getElem?_getD,hk]
  .cases h
 .rw [if_neg hl] at h
  split at h
  .rename_i hc
   injection h with h;injection h with h1 h2
   have hk:k<v.os.length:=by rw [<-h2];exact Z8 hc.2
   refine .inr ⟨by simpa using hl,hc.1,h2.symm,hk, ?_⟩
   subst h2
   rw [<-h1]
   simp [List.getD_eq_getElem?_getD,hk]
  .cases h
inductive Sep (w:World):(Nat->Prop)->V->VC->Prop
 |mk (S:Nat->Prop) (c:VC) (l:List V) (o:List (ByteArray×V)) (cl co:Nat->VC) (gl go:Nat) (TL TO:Nat->Nat->Prop) (hb:c.Bnd) (hl:c.ll=l.length) (ho:c.ol=o.length)
     (hS:∀k,S k->k<w.heap.size)
     (hla:0<c.ll->c.la=some ⟨gl,0,none⟩/\S gl) (hoa:0<c.ol->c.oa=some ⟨go,0,none⟩/\S go) (hne:0<c.ll->0<c.ol->gl≠go)
     (hlc:∀i,i<l.length->ValAt w gl (i*5) (cl i))
     (hoc:∀i (h:i<o.length),w.cell? ⟨go,i*6,none⟩=some (.string o[i].1)/\o[i].1.size<=140737488355328/\ValAt w go (i*6+1) (co i))
     (hlv:∀i (h:i<l.length),Sep w (TL i) l[i] (cl i)) (hov:∀i (h:i<o.length),Sep w (TO i) o[i].2 (co i))
     (hTL:∀i,i<l.length->∀k,TL i k->S k/\k≠gl/\(0<c.ol->k≠go)) (hTO:∀i,i<o.length->∀k,TO i k->S k/\k≠go/\(0<c.ll->k≠gl))
     (dL:∀i j,i<l.length->j<l.length->i≠j->∀k,TL i k->¬TL j k) (dO:∀i j,i<o.length->j<o.length->i≠j->∀k,TO i k->¬TO j k)
     (dLO:∀i j,i<l.length->j<o.length->∀k,TL i k->¬TO j k):Sep w S (.mk c.k c.n c.s l o) c
def Agree (S:Nat->Prop) (w w':World):Prop:=∀k q,S k->w'.cell? ⟨k,q,none⟩=w.cell? ⟨k,q,none⟩
theorem Agree.val {S:Nat->Prop} {w w':World} (h:Agree S w w') {b o:Nat} {c:VC} (hb:S b) (hv:ValAt w b o c):ValAt w' b o c:=
 ⟨(h _ _ hb).trans hv.c0,(h _ _ hb).trans hv.c1,(h _ _ hb).trans hv.c2,(h _ _ hb).trans hv.c3,(h _ _ hb).trans hv.c4⟩
theorem Sep.isVal {w:World} {S:Nat->Prop} {v:V} {c:VC} (h:Sep w S v c):∀ {P:Nat->Prop},(∀k,S k->P k)->IsVal (only P w) w.heap.size v c:=by
 induction h with
 | mk S c l o cl co gl go TL TO hb hl ho hS hla hoa hne hlc hoc hlv hov hTL hTO dL dO dLO ihl iho=>
   intro P hP
   refine .mk c l o cl co gl 0 go 0 hb hl ho (fun h=>⟨(hla h).1,hS _ (hla h).2⟩) (fun h=>⟨(hoa h).1,hS _ (hoa h).2⟩) (fun i hi=> ?_) (fun i hi=>ihl i hi fun k hk=>hP _ (hTL i hi k hk).1) (fun i hi=> ?_) (fun i hi=>iho i hi fun k hk=>hP _ (hTO i hi k hk).1)
   .rw [Nat.zero_add];exact Yw (hP _ (hla (by omega)).2) (hlc i hi)
   .rw [Nat.zero_add]
    have hg:=hP _ (hoa (by omega)).2
    exact ⟨Z3 hg (hoc i hi).1,(hoc i hi).2.1,Yw hg (hoc i hi).2.2⟩
theorem Sep.bnd {w:World} {S:Nat->Prop} {v:V} {c:VC} (h:Sep w S v c):∀k,S k->k<w.heap.size:=by
 cases h with
 |mk S c l o cl co gl go TL TO hb hl ho hS hla hoa hne hlc hoc hlv hov hTL hTO dL dO dLO=>exact hS
end Go.Proofs.YtnjgbiachcfigaaGreatDoor
