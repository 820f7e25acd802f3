/-
  Contracts of the functions that the law reaches: conciliatorref06.in and says.
-/
import Derived.Test.YtnjgbiachcfigaaGreatDoorCt2
import Derived.Defers
import Derived.Recover
import Derived.Laws.BitsAllLaws
import Derived.Laws.IdiomStrings
import Derived.Lib.BufferRead
namespace Go.Proofs.YtnjgbiachcfigaaGreatDoor
open Go.RowKit
set_option maxHeartbeats 2000000
def hasB (s:ByteArray) (b:Nat):Bool:=s.data.toList.any (fun x=>x.toNat==b)
theorem zk3 {s:ByteArray} {b k:Nat} (h:k<s.size) (e:(s[k]'h).toNat=b):hasB s b=true:=by
 unfold hasB;rw [List.any_eq_true]
 exact ⟨s.data.toList[k]'(by simpa using h),List.getElem_mem _,beq_iff_eq.2 e⟩
theorem zf3 {s:ByteArray} {b:Nat} (h:∀j (hj:j<s.size),(s[j]'hj).toNat≠b):hasB s b=false:=by
 unfold hasB;rw [List.any_eq_false]
 intro x hx
 obtain ⟨j,hj,rfl⟩:=List.getElem_of_mem hx
 have hj':j<s.size:=by simpa using hj
 have h2:¬((s.data.toList[j]'hj).toNat=b):=h j hj'
 simpa using h2
def saysB (k:Int):ByteArray:=
 if k=1 then { data:= #[78] } else
 if k=2 then { data:= #[75,86] } else
 if k=3 then { data:= #[75] } else
 if k=4 then { data:= #[73,86] } else
 if k=5 then { data:= #[73] } else
 if k=6 then { data:= #[73,86] } else
 if k=7 then { data:= #[73,74] } else
 if k=8 then { data:= #[73,83] } else
 if k=9 then { data:= #[73,78] } else
 { data:= #[] }
set_option maxRecDepth 100000 in
theorem Yy (s:ByteArray) (b:Nat) (w:World) (hs:s.size<=140737488355328):
 Calls Tryz.prog 108 #[.string s, .int .u8 b] w fun e w'=>e= .returned (.bool (hasB s b))/\Below w.heap.size w w':=by
 go_enter Tryz.func108,Tryz.ntmps108
 go_wp2_with fail
 go_loopw [5] (fun i wr=>∃k:Nat,k<=s.size/\i= .int .i64 k/\Hid (∀j,j<k->∀hj:j<s.size,(s[j]'hj).toNat≠b)/\Below w.heap.size w wr) (fun i _=>s.size - (intOf i).toNat)
 case atStart=>exact ⟨0,Nat.zero_le _,rfl,fun j hj=>by omega,Below.refl _ _⟩
 case round=>
  obtain ⟨k,hk,rfl,HJ,hB⟩:=hrel
  by_cases hlt:k<s.size
  .by_cases e:(s[k]'hlt).toNat=b
   .have H:=qh e
    have f:(((s[k]'hlt).toNat:Int)==(b:Int))=true:=by simp [e]
    clear e
    go_wp2_with fail
    go_ret
    exact ⟨Zc (zk3 hlt H.out).symm,hB⟩
   .have H:=qh e
    have f:(((s[k]'hlt).toNat:Int)==(b:Int))=false:=by simp;omega
    clear e
    go_wp2_with fail
    go_roundw
    case rel=>
     refine ⟨k+1,by omega,by go_num,fun j hj hs=> ?_,hB⟩
     by_cases hjk:j=k
     .subst hjk;exact H.out
     .exact HJ.out j (by omega) hs
    case measure=>simp [intOf];omega
  .go_wp2_with fail
   go_ret
   exact ⟨Zc (zf3 (fun j hj=>HJ.out j (by omega) hj)).symm,hB⟩
set_option maxRecDepth 100000 in
theorem zdm (k:Int) (w:World):
 Calls Tryz.prog 106 #[.int .u8 k] w fun e w'=>e= .returned (.string (saysB k))/\Below w.heap.size w w':=by
 by_cases e1:k=1
 case pos=>
  subst e1
  go_enter Tryz.func106,Tryz.ntmps106
  go_wp2_with fail
  go_ret
  exact ⟨rfl,Below.refl _ _⟩
 have f1:(k==1)=false:=by simp [e1]
 by_cases e2:k=2
 case pos=>
  subst e2
  go_enter Tryz.func106,Tryz.ntmps106
  go_wp2_with fail
  go_ret
  exact ⟨rfl,Below.refl _ _⟩
 have f2:(k==2)=false:=by simp [e2]
 by_cases e3:k=3
 case pos=>
  subst e3
  go_enter Tryz.func106,Tryz.ntmps106
  go_wp2_with fail
  go_ret
  exact ⟨rfl,Below.refl _ _⟩
 have f3:(k==3)=false:=by simp [e3]
 by_cases e4:k=4
 case pos=>
  subst e4
  go_enter Tryz.func106,Tryz.ntmps106
  go_wp2_with fail
  go_ret
  exact ⟨rfl,Below.refl _ _⟩
 have f4:(k==4)=false:=by simp [e4]
 by_cases e5:k=5
 case pos=>
  subst e5
  go_enter Tryz.func106,Tryz.ntmps106
  go_wp2_with fail
  go_ret
  exact ⟨rfl,Below.refl _ _⟩
 have f5:(k==5)=false:=by simp [e5]
 by_cases e6:k=6
 case pos=>
  subst e6
  go_enter Tryz.func106,Tryz.ntmps106
  go_wp2_with fail
  go_ret
  exact ⟨rfl,Below.refl _ _⟩
 have f6:(k==6)=false:=by simp [e6]
 by_cases e7:k=7
 case pos=>
  subst e7
  go_enter Tryz.func106,Tryz.ntmps106
  go_wp2_with fail
  go_ret
  exact ⟨rfl,Below.refl _ _⟩
 have f7:(k==7)=false:=by simp [e7]
 by_cases e8:k=8
 case pos=>
  subst e8
  go_enter Tryz.func106,Tryz.ntmps106
  go_wp2_with fail
  go_ret
  exact ⟨rfl,Below.refl _ _⟩
 have f8:(k==8)=false:=by simp [e8]
 by_cases e9:k=9
 case pos=>
  subst e9
  go_enter Tryz.func106,Tryz.ntmps106
  go_wp2_with fail
  go_ret
  exact ⟨rfl,Below.refl _ _⟩
 have f9:(k==9)=false:=by simp [e9]
 have hR:saysB k= { data:= #[] } :=by simp [saysB,e1,e2,e3,e4,e5,e6,e7,e8,e9]
 have HR:=qh hR
 clear hR e1 e2 e3 e4 e5 e6 e7 e8 e9
 go_enter Tryz.func106,Tryz.ntmps106
 go_wp2_with fail
 go_ret
 exact ⟨by rw [HR.out];rfl,Below.refl _ _⟩
end Go.Proofs.YtnjgbiachcfigaaGreatDoor
namespace Go.Proofs.YtnjgbiachcfigaaGreatDoor
theorem row5 {f:Nat->Option Value} {z0 z1 z2 z3 z4:Value} (h:∀k z, [z0,z1,z2,z3,z4][k]? =some z->f k=some z):f 0=some z0/\f 1=some z1/\f 2=some z2/\f 3=some z3/\f 4=some z4:=
 ⟨h 0 _ rfl,h 1 _ rfl,h 2 _ rfl,h 3 _ rfl,h 4 _ rfl⟩
theorem row12 {f:Nat->Option Value} {z0 z1 z2 z3 z4 z5 z6 z7 z8 z9 z10 z11:Value} (h:∀k z, [z0,z1,z2,z3,z4,z5,z6,z7,z8,z9,z10,z11][k]? =some z->f k=some z):f 0=some z0/\f 1=some z1/\f 2=some z2/\f 3=some z3/\f 4=some z4/\f 5=some z5/\f 6=some z6/\f 7=some z7/\f 8=some z8/\f 9=some z9/\f 10=some z10/\f 11=some z11:=
 ⟨h 0 _ rfl,h 1 _ rfl,h 2 _ rfl,h 3 _ rfl,h 4 _ rfl,h 5 _ rfl,h 6 _ rfl,h 7 _ rfl,h 8 _ rfl,h 9 _ rfl,h 10 _ rfl,h 11 _ rfl⟩
end Go.Proofs.YtnjgbiachcfigaaGreatDoor
namespace Go.Proofs.YtnjgbiachcfigaaGreatDoor
open Go.RowKit
structure BX (w W:World) (cs:List Value):Prop where
 at_:∀j x,cs[j]? =some x->W.cell? ⟨w.heap.size,j,none⟩=some x
 below:Below w.heap.size w W
 size:w.heap.size+1<=W.heap.size
theorem zdk (w:World) (cs:Array Value) (t:TypeId) (j:Nat):(w.alloc (.cells cs t)).frozen? ⟨w.heap.size,j,none⟩=false:=by
 simp [go_sem]
structure IsB (w:World) (B:Nat) (a:Option Addr) (n c:Nat) (bs:List UInt8):Prop where
 len:n=bs.length
 cap:n<=c
 max:c<=9223372036854775807
 at_:∃b o,(0<n->a=some ⟨b,o,none⟩/\b<B)/\∀i (h:i<bs.length),w.cell? ⟨b,o+i,none⟩=some (.int .u8 (bs[i].toNat:Int))
theorem IsB.keep {w w':World} {B:Nat} {a:Option Addr} {n c:Nat} {bs:List UInt8} (h:IsB w B a n c bs) (hb:Below B w w'):IsB w' B a n c bs:=by
 obtain ⟨h1,h2,h3,b,o,h5,h6⟩:=h
 exact ⟨h1,h2,h3,b,o,h5,fun i hi=>Zb hb (h6 i hi) (h5 (by omega)).2⟩
theorem IsB.nil (w:World) (B:Nat):IsB w B none 0 0 [] :=⟨rfl,Nat.le_refl _,by omega,0,0,fun h=>by omega,fun i hi=>by cases hi⟩
open Classical in
noncomputable def only (S:Nat->Prop) (w:World):World:= { w with heap:=w.heap.mapIdx fun k o=>if S k then o else .cells #[] 0 (0,0) }
theorem zi3 (S:Nat->Prop) (w:World):(only S w).heap.size=w.heap.size:=by simp [only]
theorem zb9 {S:Nat->Prop} {w:World} {k:Nat} (h:S k):(only S w).heap[k]? =w.heap[k]? :=by
 simp [only,h]
theorem Zw {S:Nat->Prop} {w:World} {b o:Nat} {u:Value} (h:(only S w).cell? ⟨b,o,none⟩=some u):S b/\w.cell? ⟨b,o,none⟩=some u:=by
 by_cases hs:S b
 .exact ⟨hs,(World.cell?_of_block (w':=only S w) (w:=w) (by exact zb9 hs)).symm.trans h⟩
 .exfalso
  have hlt:=World.block_lt_of_cell? _ _ h
  rw [zi3] at hlt
  have hk:(only S w).heap[b]? =some (.cells #[] 0 (0,0)):=by simp [only,hs,hlt]
  rw [cell_of_row _ b o #[] 0 (0,0) hk] at h
  simp at h
theorem Z3 {S:Nat->Prop} {w:World} {b o:Nat} {u:Value} (hs:S b) (h:w.cell? ⟨b,o,none⟩=some u):(only S w).cell? ⟨b,o,none⟩=some u:=
 (World.cell?_of_block (w':=only S w) (w:=w) (by exact zb9 hs)).trans h
def Shows (w w':World) (B:Nat):Prop:=∀b o u,b<B->w.cell? ⟨b,o,none⟩=some u->w'.cell? ⟨b,o,none⟩=some u
theorem ValAt.sub {w w':World} {B b o:Nat} {c:VC} (h:ValAt w b o c) (hs:Shows w w' B) (hB:b<B):ValAt w' b o c:=
 ⟨hs _ _ _ hB h.c0,hs _ _ _ hB h.c1,hs _ _ _ hB h.c2,hs _ _ _ hB h.c3,hs _ _ _ hB h.c4⟩
theorem IsVal.sub {w w':World} {B:Nat} (hs:Shows w w' B) {v:V} {c:VC} (h:IsVal w B v c):IsVal w' B v c:=by
 induction h with
 | mk c l o cl co lb lo ob oo hbd hl ho hla hoa hlc hlv hoc hov ihl iho=>
   refine .mk c l o cl co lb lo ob oo hbd hl ho hla hoa (fun i hi=>(hlc i hi).sub hs (hla (by omega)).2) ihl (fun i hi=> ?_) iho
   have hB:=(hoa (by omega)).2
   obtain ⟨h1,h2,h3⟩:=hoc i hi
   exact ⟨hs _ _ _ hB h1,h2,h3.sub hs hB⟩
theorem IsSteps.sub {w w':World} {B:Nat} (hs:Shows w w' B) {p:List St} {a:Option Addr} {n c:Nat} (h:IsSteps w B p a n c):IsSteps w' B p a n c:=by
 obtain ⟨h1,h2,h3,h4,b,o,h5,h6⟩:=h
 exact ⟨h1,h2,h3,h4,b,o,h5,fun i hi=>⟨⟨hs _ _ _ (h5 (by omega)).2 (h6 i hi).1.c0,hs _ _ _ (h5 (by omega)).2 (h6 i hi).1.c1,hs _ _ _ (h5 (by omega)).2 (h6 i hi).1.c2⟩,(h6 i hi).2⟩⟩
theorem IsComp.sub {w w':World} {B:Nat} (hs:Shows w w' B) {x:Cm} {c:CC} (h:IsComp w B x c):IsComp w' B x c:=by
 cases h with
 |mk c p v hbd hp hv=>exact .mk c p v hbd (hp.sub hs) (hv.sub hs)
theorem Zn (S:Nat->Prop) (w:World) (B:Nat):Shows (only S w) w B:=fun _ _ _ _ h=>(Zw h).2
theorem Ze {S S':Nat->Prop} {w w':World} (h:∀k,S k->k<w.heap.size->S' k/\w'.heap[k]? =w.heap[k]?):Shows (only S w) (only S' w') w.heap.size:=by
 intro b o u hb hc
 obtain ⟨hs,hc⟩:=Zw hc
 obtain ⟨h1,h2⟩:=h b hs hb
 exact Z3 h1 ((World.cell?_of_block h2).trans hc)
structure RStep (w w':World) (rb:Nat):Prop where
 os:w'.os=w.os
 tape:w'.tape=w.tape
 output:w'.output=w.output
 size:w.heap.size<=w'.heap.size
 block:∀k,k<w.heap.size->k≠rb->w'.heap[k]? =w.heap[k]?
theorem RStep.trans {w w1 w2:World} {rb:Nat} (h:RStep w w1 rb) (g:RStep w1 w2 rb):RStep w w2 rb:=
 ⟨g.os.trans h.os,g.tape.trans h.tape,g.output.trans h.output,Nat.le_trans h.size g.size,fun k hk hr=>(g.block k (Nat.lt_of_lt_of_le hk h.size) hr).trans (h.block k hk hr)⟩
theorem RStep.of_below {w w':World} (rb:Nat) (h:Below w.heap.size w w'):RStep w w' rb:=⟨h.os,h.tape,h.output,h.size,fun k hk _=>h.block k hk⟩
theorem RStep.below {w w':World} {rb:Nat} (h:RStep w w' rb) (hB:rb<=w.heap.size):Below rb w w':=⟨h.os,h.tape,h.output,h.size,fun k hk=>h.block k (by omega) (by omega)⟩
theorem RStep.cell {w w':World} {rb:Nat} (h:RStep w w' rb) {b o:Nat} {u:Value} (hc:w.cell? ⟨b,o,none⟩=some u) (hb:b≠rb):w'.cell? ⟨b,o,none⟩=some u:=
 (World.cell?_of_block (h.block b (World.block_lt_of_cell? w _ hc) hb)).trans hc
structure Rdr (w:World) (rb:Nat) (bs:List UInt8) (d:Int):Prop where
 at_:∃a n c,w.cell? ⟨rb,0,none⟩=some (.slice a n c)/\IsB w rb a n c bs
 deep:w.cell? ⟨rb,1,none⟩=some (.int .i64 d)
 f0:w.frozen? ⟨rb,0,none⟩=false
 f1:w.frozen? ⟨rb,1,none⟩=false
theorem Zt (b o k:Nat):(⟨b,o,none⟩:Addr).add k=⟨b,o+k,none⟩:=by unfold Addr.add;split<;>simp_all
theorem zdw (x:Int):IntKind.i64.wrap x=wrap64 x:=by
 rw [IntKind.wrap_i64,wrap64]
theorem Qv {w:World} {B:Nat} {a:Option Addr} {n c:Nat} {bs:List UInt8} (h:IsB w B a n c bs):(convert 23 9 (.slice a n c)).run Tryz.prog w= .ok (.string ⟨bs.toArray⟩) w:=by
 have hu:Tryz.prog.underlying 5=some (.int .u8):=by kernel_rfl
 obtain ⟨rfl,h2,h3,b,o,h5,h6⟩:=h
 cases a with
 | some a=>
   by_cases hz:0<bs.length
   .obtain ⟨e,hb⟩:=h5 hz
    have e:=Option.some.inj e
    subst e
    exact run_convert_bytes_back w _ _ 5 _ c bs Tryz.underlying23 hu Tryz.underlying9 (fun j hj=>by rw [Zt];exact h6 j hj)
   .have:bs= [] :=List.length_eq_zero_iff.1 (by omega)
    subst this
    exact run_convert_bytes_back w _ _ 5 _ c [] Tryz.underlying23 hu Tryz.underlying9 (fun j hj=>by cases hj)
 | none=>
   have:bs= [] :=by
    cases bs with
    |nil=>rfl
    |cons x r=>obtain ⟨e,_⟩:=h5 (by simp);cases e
   subst this
   exact Lib.run_convert_nil_bytes w _ _ 5 c Tryz.underlying23 hu Tryz.underlying9
theorem Xh {α:Type} (f:α->List Value) (m:Nat) (hf:∀x,(f x).length=m):∀(l:List α) (i t:Nat) (hi:i<l.length),t<m->(l.flatMap f)[i*m+t]? =(f l[i])[t]? :=by
 intro l
 induction l with
 |nil=>intro i t hi;cases hi
 | cons x l ih=>
   intro i t hi ht
   cases i with
   | zero=>
     simp only [List.flatMap_cons,Nat.zero_mul,Nat.zero_add,List.getElem_cons_zero]
     rw [List.getElem?_append_left (by rw [hf];exact ht)]
   | succ i=>
     have e:(i+1)*m+t=(f x).length+(i*m+t):=by rw [hf,Nat.add_mul];omega
     simp only [List.flatMap_cons,List.getElem_cons_succ]
     rw [e,List.getElem?_append_right (by omega),Nat.add_sub_cancel_left]
     exact ih i t (by simpa using hi) ht
theorem Zl {α:Type} (f:α->List Value) (m:Nat) (hf:∀x,(f x).length=m) (l:List α):(l.flatMap f).length=l.length*m:=by
 induction l with
 |nil=>simp
 |cons x l ih=>simp only [List.flatMap_cons,List.length_append,hf,ih,List.length_cons,Nat.add_mul];omega
theorem Xv {α:Type} (f:α->List Value) (l:List α) (x:α):(l++ [x]).flatMap f=l.flatMap f++f x:=by simp
def Closed (P:World->Nat->Nat->Prop):Prop:=∀W W' B B' i,Shows W W' B->B<=B'->P W B i->P W' B' i
def Free (base:Nat) (u:Value):Nat->Prop:=fun k=>base<=k/\some k≠u.ownBlock
structure Row (T:TypeId) (sz:Nat) (w:World) (base:Nat) (u:Value) (n:Nat) (cells:List Value) (P:World->Nat->Nat->Prop):Prop where
 own:w.ownsRow base T sz u n cells
 els:∀i,i<n->P (only (Free base u) w) w.heap.size i
theorem Row.nil (T:TypeId) (sz:Nat) (w:World) (base:Nat) (P:World->Nat->Nat->Prop):Row T sz w base (.slice none 0 0) 0 [] P:=
 ⟨⟨by simp, .inl ⟨rfl,rfl⟩⟩,fun i h=>by omega⟩
theorem Row.lt {T:TypeId} {sz:Nat} {w:World} {base:Nat} {u:Value} {n:Nat} {cells:List Value} {P:World->Nat->Nat->Prop} (h:Row T sz w base u n cells P):∀k,u.ownBlock=some k->base<=k/\k<w.heap.size:=h.own.lt
theorem Row.later {T:TypeId} {sz:Nat} {w w':World} {base rb:Nat} {u:Value} {n:Nat} {cells:List Value} {P:World->Nat->Nat->Prop} (hP:Closed P) (h:Row T sz w base u n cells P) (s:RStep w w' rb) (hr:rb<base):Row T sz w' base u n cells P:=by
 refine ⟨h.own.kept (row:=some rb) ⟨s.os,s.tape,s.output,s.size,fun k hk hne=>s.block k hk (fun e=>hne (by rw [e]))⟩ ?_,fun i hi=>hP _ _ _ _ i (Ze fun k hk hlt=>⟨hk,s.block k hlt ?_⟩) s.size (h.els i hi)⟩
 .cases hu:u.ownBlock with
  |none=>simp
  | some k=>
    have:=(h.lt k hu).1
    right;intro e;injection e with e;omega
 .have:=hk.1;omega
theorem Row.set {T:TypeId} {sz:Nat} {w:World} {base b o:Nat} {u x:Value} {n:Nat} {cells:List Value} {P:World->Nat->Nat->Prop} (hP:Closed P) (h:Row T sz w base u n cells P) (hb:b<base):Row T sz (w.setCell ⟨b,o,none⟩ x) base u n cells P:=
 h.later hP (rb:=b) ⟨rfl,rfl,rfl,by simp,fun k hk hr=>heap_setCell_other _ _ _ _ hr⟩ hb
theorem Row.push {T:TypeId} {sz:Nat} {w w0 w1:World} {base:Nat} {u u':Value} {n:Nat} {cells news:List Value} {P P':World->Nat->Nat->Prop} (hP':Closed P') (h:Row T sz w base u n cells P)
 (hb:Below w.heap.size w w0) (hg:w0.grownBy w1 u.ownBlock) (hown:w1.ownsRow base T sz u' (n+1) (cells++news)) (hat:u'.ownBlock=u.ownBlock∨∀k,u'.ownBlock=some k->w.heap.size<=k)
 (hnew:P' (only (Free base u) w) w.heap.size n) (hold:∀W B i,i<n->P W B i->P' W B i):Row T sz w1 base u' (n+1) (cells++news) P':=by
 have hsz:w.heap.size<=w1.heap.size:=Nat.le_trans hb.size hg.size
 refine ⟨hown,fun i hi=> ?_⟩
 have hs:Shows (only (Free base u) w) (only (Free base u') w1) w.heap.size:=by
  refine Ze fun k hk hlt=>⟨⟨hk.1,fun e=> ?_⟩, ?_⟩
  .rcases hat with e2|e2
   .exact hk.2 (e.trans e2)
   .have:=e2 k e.symm;omega
  .rw [hg.block k (Nat.lt_of_lt_of_le hlt hb.size) hk.2,hb.block k hlt]
 by_cases hin:i=n
 .subst hin;exact hP' _ _ _ _ _ hs hsz hnew
 .exact hP' _ _ _ _ _ hs hsz (hold _ _ _ (by omega) (h.els i (by omega)))
theorem Row.shows {T:TypeId} {sz:Nat} {w:World} {base lo:Nat} {u:Value} {n:Nat} {cells:List Value} {P:World->Nat->Nat->Prop} (hP:Closed P) (h:Row T sz w base u n cells P) (hlo:lo<=base):
 (∀g,u.ownBlock=some g->∀j x,cells[j]? =some x->(only (fun k=>lo<=k) w).cell? ⟨g,j,none⟩=some x)/\∀i,i<n->P (only (fun k=>lo<=k) w) w.heap.size i:=by
 refine ⟨fun g hg j x hx=>Z3 (show lo<=g by have:=(h.lt g hg).1;omega) ?_,fun i hi=>hP _ _ _ _ i (Ze fun k hk _=>⟨by have:=hk.1;omega,rfl⟩) (Nat.le_refl _) (h.els i hi)⟩
 have:=h.own.cells hg j x hx
 rw [Zt,Nat.zero_add] at this;exact this
def vcells (c:VC):List Value:= [.int .u8 c.k, .int .i64 c.n, .string c.s, .slice c.la c.ll c.lc, .slice c.oa c.ol c.oc]
def vzero:VC:=⟨0,0, .empty,none,0,0,none,0,0⟩
def PV (l:List V) (cs:List VC):World->Nat->Nat->Prop:=fun W B i=>∀h:i<l.length,IsVal W B l[i] (cs.getD i vzero)
theorem PV.closed (l:List V) (cs:List VC):Closed (PV l cs):=fun _ _ _ _ _ hs hB h hi=>((h hi).sub hs).more hB
theorem PV.snoc {l:List V} {cs:List VC} (hl:cs.length=l.length) (x:V) (c:VC):(∀W B,IsVal W B x c->PV (l++ [x]) (cs++ [c]) W B l.length)/\∀W B i,i<l.length->PV l cs W B i->PV (l++ [x]) (cs++ [c]) W B i:=by
 constructor
 .intro W B h hi
  simpa [List.getD_eq_getElem?_getD, <-hl] using h
 .intro W B i hi h hi2
  have h:=h hi
  have e:(cs++ [c]).getD i vzero=cs.getD i vzero:=by simp [List.getD_eq_getElem?_getD,List.getElem?_append_left (show i<cs.length by omega)]
  rw [List.getElem_append_left hi,e]
  exact h
abbrev RowV (w:World) (base:Nat) (u:Value) (l:List V) (cs:List VC):Prop:=Row 36 5 w base u l.length (cs.flatMap vcells) (PV l cs)
theorem RowV.val {w:World} {base lo:Nat} {l:List V} {cs:List VC} {a:Option Addr} {n cap:Nat} (h:RowV w base (.slice a n cap) l cs) (hl:cs.length=l.length) (hlo:lo<=base) (k:Int) (hk0:0<=k) (hk1:k<256) (hfew:l.length<=1466015503701):
 IsVal (only (fun b=>lo<=b) w) w.heap.size (.mk k 0 .empty l []) ⟨k,0, .empty,a,n,cap,none,0,0⟩:=by
 obtain ⟨h1,h2⟩:=Row.shows (PV.closed l cs) h hlo
 have hown:=h.own
 have hlt:=h.lt
 have hbd:∀n cap:Nat,n<=cap->cap<=9223372036854775807->n<=1466015503701->(⟨k,0, .empty,a,n,cap,none,0,0⟩:VC).Bnd:=fun n cap e1 e2 e3=>⟨hk0,hk1,(by decide:(-9223372036854775808:Int)<=0),(by decide:(0:Int)<=9223372036854775807),(by decide:ByteArray.empty.size<=140737488355328),e1,e2,e3,(by decide:(0:Nat)<=0),(by decide:(0:Nat)<=9223372036854775807),(by decide:(0:Nat)<=1466015503701)⟩
 rcases hown.2 with ⟨e,hn⟩|⟨g,cap',cur,e,hbg,hg,hnc,hcm,hcs,htake⟩
 .injection e with e1 e2 e3;subst e1 e2 e3
  have:l= [] :=List.length_eq_zero_iff.1 hn
  subst this
  exact .mk ⟨k,0, .empty,none,0,0,none,0,0⟩ [] [] (fun _=>vzero) (fun _=>vzero) 0 0 0 0 (hbd 0 0 (by omega) (by omega) (by omega)) rfl rfl (fun h=>by cases h) (fun h=>by cases h) (fun i h=>by cases h) (fun i h=>by cases h) (fun i h=>by cases h) (fun i h=>by cases h)
 .injection e with e1 e2 e3;subst e1 e2 e3
  refine .mk ⟨k,0, .empty,some ⟨g,0,none⟩,l.length,cap,none,0,0⟩ l [] (fun i=>cs.getD i vzero) (fun _=>vzero) g 0 0 0 (hbd _ _ hnc (by simpa [maxLen] using hcm) hfew) rfl rfl (fun _=>⟨rfl,(hlt g rfl).2⟩) (fun h=>by cases h) (fun i hi=> ?_) (fun i hi=>h2 i hi hi) (fun i h=>by cases h) (fun i h=>by cases h)
  have hi':i<cs.length:=by omega
  have hc:∀t x,t<5->(vcells cs[i])[t]? =some x->(only (fun b=>lo<=b) w).cell? ⟨g,0+i*5+t,none⟩=some x:=fun t x ht hx=>by
   rw [Nat.zero_add]
   exact h1 g rfl (i*5+t) x ((Xh vcells 5 (fun _=>rfl) cs i t hi' ht).trans hx)
  have he:cs.getD i vzero=cs[i] :=by simp [List.getD_eq_getElem?_getD,hi']
  simp only [he]
  exact ⟨hc 0 _ (by omega) rfl,hc 1 _ (by omega) rfl,hc 2 _ (by omega) rfl,hc 3 _ (by omega) rfl,hc 4 _ (by omega) rfl⟩
def fcells (c:ByteArray×VC):List Value:= [.string c.1, .int .u8 c.2.k, .int .i64 c.2.n, .string c.2.s, .slice c.2.la c.2.ll c.2.lc, .slice c.2.oa c.2.ol c.2.oc]
def fzero:ByteArray×VC:=(.empty,vzero)
def PF (l:List (ByteArray×V)) (cs:List (ByteArray×VC)):World->Nat->Nat->Prop:=fun W B i=>∀h:i<l.length,(cs.getD i fzero).1=l[i].1/\l[i].1.size<=140737488355328/\IsVal W B l[i].2 (cs.getD i fzero).2
theorem PF.closed (l:List (ByteArray×V)) (cs:List (ByteArray×VC)):Closed (PF l cs):=fun _ _ _ _ _ hs hB h hi=>⟨(h hi).1,(h hi).2.1,((h hi).2.2.sub hs).more hB⟩
theorem PF.snoc {l:List (ByteArray×V)} {cs:List (ByteArray×VC)} (hl:cs.length=l.length) (s:ByteArray) (hs:s.size<=140737488355328) (x:V) (c:VC):(∀W B,IsVal W B x c->PF (l++ [(s,x)]) (cs++ [(s,c)]) W B l.length)/\∀W B i,i<l.length->PF l cs W B i->PF (l++ [(s,x)]) (cs++ [(s,c)]) W B i:=by
 constructor
 .intro W B h hi
  have e1:(l++ [(s,x)])[l.length]'hi=(s,x):=by simp
  have e2:(cs++ [(s,c)]).getD l.length fzero=(s,c):=by simp [List.getD_eq_getElem?_getD, <-hl]
  rw [e1,e2];exact ⟨rfl,hs,h⟩
 .intro W B i hi h hi2
  have h:=h hi
  have e:(cs++ [(s,c)]).getD i fzero=cs.getD i fzero:=by simp [List.getD_eq_getElem?_getD,List.getElem?_append_left (show i<cs.length by omega)]
  rw [List.getElem_append_left hi,e]
  exact h
abbrev RowF (w:World) (base:Nat) (u:Value) (l:List (ByteArray×V)) (cs:List (ByteArray×VC)):Prop:=Row 75 6 w base u l.length (cs.flatMap fcells) (PF l cs)
theorem RowF.val {w:World} {base lo:Nat} {l:List (ByteArray×V)} {cs:List (ByteArray×VC)} {a:Option Addr} {n cap:Nat} (h:RowF w base (.slice a n cap) l cs) (hl:cs.length=l.length) (hlo:lo<=base) (k:Int) (hk0:0<=k) (hk1:k<256) (hfew:l.length<=1466015503701):
 IsVal (only (fun b=>lo<=b) w) w.heap.size (.mk k 0 .empty [] l) ⟨k,0, .empty,none,0,0,a,n,cap⟩:=by
 obtain ⟨h1,h2⟩:=Row.shows (PF.closed l cs) h hlo
 have hown:=h.own
 have hlt:=h.lt
 have hbd:∀n cap:Nat,n<=cap->cap<=9223372036854775807->n<=1466015503701->(⟨k,0, .empty,none,0,0,a,n,cap⟩:VC).Bnd:=fun n cap e1 e2 e3=>⟨hk0,hk1,(by decide:(-9223372036854775808:Int)<=0),(by decide:(0:Int)<=9223372036854775807),(by decide:ByteArray.empty.size<=140737488355328),(by decide:(0:Nat)<=0),(by decide:(0:Nat)<=9223372036854775807),(by decide:(0:Nat)<=1466015503701),e1,e2,e3⟩
 rcases hown.2 with ⟨e,hn⟩|⟨g,cap',cur,e,hbg,hg,hnc,hcm,hcs,htake⟩
 .injection e with e1 e2 e3;subst e1 e2 e3
  have:l= [] :=List.length_eq_zero_iff.1 hn
  subst this
  exact .mk ⟨k,0, .empty,none,0,0,none,0,0⟩ [] [] (fun _=>vzero) (fun _=>vzero) 0 0 0 0 (hbd 0 0 (by omega) (by omega) (by omega)) rfl rfl (fun h=>by cases h) (fun h=>by cases h) (fun i h=>by cases h) (fun i h=>by cases h) (fun i h=>by cases h) (fun i h=>by cases h)
 .injection e with e1 e2 e3;subst e1 e2 e3
  refine .mk ⟨k,0, .empty,none,0,0,some ⟨g,0,none⟩,l.length,cap⟩ [] l (fun _=>vzero) (fun i=>(cs.getD i fzero).2) 0 0 g 0 (hbd _ _ hnc (by simpa [maxLen] using hcm) hfew) rfl rfl (fun h=>by cases h) (fun _=>⟨rfl,(hlt g rfl).2⟩) (fun i h=>by cases h) (fun i h=>by cases h) (fun i hi=> ?_) (fun i hi=>(h2 i hi hi).2.2)
  have hi':i<cs.length:=by omega
  have hc:∀t x,t<6->(fcells cs[i])[t]? =some x->(only (fun b=>lo<=b) w).cell? ⟨g,0+i*6+t,none⟩=some x:=fun t x ht hx=>by
   rw [Nat.zero_add]
   exact h1 g rfl (i*6+t) x ((Xh fcells 6 (fun _=>rfl) cs i t hi' ht).trans hx)
  have he:cs.getD i fzero=cs[i] :=by simp [List.getD_eq_getElem?_getD,hi']
  obtain ⟨p1,p2,_⟩:=h2 i hi hi
  rw [he] at p1
  simp only [he]
  exact ⟨by rw [<-p1];exact hc 0 _ (by omega) rfl,p2,hc 1 _ (by omega) rfl,hc 2 _ (by omega) rfl,hc 3 _ (by omega) rfl,hc 4 _ (by omega) rfl,hc 5 _ (by omega) rfl⟩
end Go.Proofs.YtnjgbiachcfigaaGreatDoor
