/-
  Contracts of the functions that the law reaches: conciliatorref01.Same: two values in.
-/
import Derived.Test.YtbgheehjfnoiiaaGreatDoorOn1
import Derived.RangeFuncNested
import Derived.RangeFuncBound
import Derived.RangeFuncCalls
import Derived.RangeFuncLeaves
import Derived.Shelf.Abstract
import Derived.Shelf.RegionOpen
import Derived.OwnWalkIn
import Derived.TacticsInMore
import Derived.LoopNIn
import Derived.LoopIn
namespace Go.Proofs.YtbgheehjfnoiiaaGreatDoor
open Go.RowKit
set_option maxHeartbeats 2000000
noncomputable def eqv (a b:V):Bool:= @decide (a=b) (Classical.propDecidable _)
theorem Yb {a b:V} (h:a≠b):eqv a b=false:=by simp [eqv,h]
theorem Jc {a b:V} (h:a=b):eqv a b=true:=by simp [eqv,h]
theorem X1 {a b:V} (h:eqv a b=true):a=b:=by simpa [eqv] using h
theorem Qm {a b:V} (h:eqv a b=false):a≠b:=by simpa [eqv] using h
theorem zdg {l l':List V} {k:Nat} (h:Hid (∀j,j<k->l[j]? =l'[j]?)) (kl:k<l.length) (kl':k<l'.length) (e:eqv l[k] l'[k] =true):Hid (∀j,j<k+1->l[j]? =l'[j]?):=by
 intro j hj
 by_cases hjk:j=k
 .subst hjk;rw [List.getElem?_eq_getElem kl,List.getElem?_eq_getElem kl',X1 e]
 .exact h.out j (by omega)
theorem zdr {o o':List (ByteArray×V)} {k:Nat} (h:Hid (∀j,j<k->o[j]? =o'[j]?)) (kl:k<o.length) (kl':k<o'.length) (e:eqv o[k].2 o'[k].2=true) (e1:o[k].1.toList=o'[k].1.toList):Hid (∀j,j<k+1->o[j]? =o'[j]?):=by
 intro j hj
 by_cases hjk:j=k
 .subst hjk;rw [List.getElem?_eq_getElem kl,List.getElem?_eq_getElem kl',Prod.ext (Y8 e1) (X1 e)]
 .exact h.out j (by omega)
theorem znc {k n k' n':Int} {s s':ByteArray} {l l':List V} {o o':List (ByteArray×V)} {j:Nat} (kl:j<l.length) (kl':j<l'.length) (e:eqv l[j] l'[j] =false):eqv (.mk k n s l o) (.mk k' n' s' l' o')=false:=
 Yb fun h=>by
  injection h with _ _ _ h4 _
  subst h4
  exact Qm e rfl
theorem zbb {k n k' n':Int} {s s':ByteArray} {l l':List V} {o o':List (ByteArray×V)} {j:Nat} (kl:j<o.length) (kl':j<o'.length) (e:eqv o[j].2 o'[j].2=false∨o[j].1.toList≠o'[j].1.toList):eqv (.mk k n s l o) (.mk k' n' s' l' o')=false:=
 Yb fun h=>by
  injection h with _ _ _ _ h5
  subst h5
  rcases e with e|e
  .exact Qm e rfl
  .exact e rfl
theorem Xw {α:Type} {l l':List α} {k:Nat} (h:∀j,j<k->l[j]? =l'[j]?) (hk:k=l.length) (hk':k=l'.length):l=l':=by
 apply List.ext_getElem?
 intro j
 by_cases hj:j<k
 .exact h j hj
 .rw [List.getElem?_eq_none (by omega),List.getElem?_eq_none (by omega)]
set_option maxRecDepth 100000 in
theorem J3 (a:V):∀(b:V) (w:World) (c d:VC),IsVal w w.heap.size a c->IsVal w w.heap.size b d->
 uP 17 #[.agg (uV c), .agg (uV d)] w fun e w'=>e= .returned (.bool (eqv a b))/\uB w w':=by
 delta uV uB uP
 induction a using V.ind with
 |h k n s l o ihl iho=>
 have IHL:=qh ihl;have IHO:=qh iho;clear ihl iho
 intro b w c d ha hb
 cases ha with
 |mk c l o cl co lb lo ob oo cbd hl ho hla hoa hlc hlv hoc hov=>
 cases hb with
 |mk d l' o' cl' co' lb' lo' ob' oo' dbd hl' ho' hla' hoa' hlc' hlv' hoc' hov'=>
 have c1:=cbd.l1;have c2:=cbd.l2;have c3:=cbd.o1;have c4:=cbd.o2;have d1:=dbd.l1;have d2:=dbd.l2;have d3:=dbd.o1;have d4:=dbd.o2
 have Hl:=qh hl;have Ho:=qh ho;have Hl':=qh hl';have Ho':=qh ho';clear hl ho hl' ho'
 have hst:=zah w c d 29
 by_cases e1:c.k=d.k
 case neg=>
  go_enter Tryz.func17,Tryz.ntmps17
  go_wp2_with fail
  go_ret
  exact ⟨Zc (Yb (fun h=>by injection h with h1;exact e1 h1)).symm,hst.below⟩
 by_cases e2:c.n=d.n
 case neg=>
  go_enter Tryz.func17,Tryz.ntmps17
  have H1:=qh e1;have f1:(c.k !=d.k)=false:=by rw [e1];simp
  clear e1
  go_wp2_with fail
  go_ret
  exact ⟨Zc (Yb (fun h=>by injection h with _ h1;exact e2 h1)).symm,hst.below⟩
 by_cases e3:c.s.toList=d.s.toList
 case neg=>
  go_enter Tryz.func17,Tryz.ntmps17
  have f1:(c.k !=d.k)=false:=by rw [e1];simp
  have f2:(c.n !=d.n)=false:=by rw [e2];simp
  have f3:(c.s.toList==d.s.toList)=false:=by simp [e3]
  have H3:=qh e3
  clear e1 e2 e3
  go_wp2_with fail
  go_ret
  exact ⟨Zc (Yb (fun h=>by injection h with _ _ h1;exact H3.out (by rw [h1]))).symm,hst.below⟩
 by_cases e4:c.ll=d.ll
 case neg=>
  go_enter Tryz.func17,Tryz.ntmps17
  have f1:(c.k !=d.k)=false:=by rw [e1];simp
  have f2:(c.n !=d.n)=false:=by rw [e2];simp
  have f3:(c.s.toList==d.s.toList)=true:=by rw [e3];simp
  have f4:((c.ll:Int) !=(d.ll:Int))=true:=by simp;omega
  clear e1 e2 e3
  go_wp2_with fail
  go_ret
  exact ⟨Zc (Yb (fun h=>by injection h with _ _ _ h1;exact e4 (by rw [Hl.out,Hl'.out,h1]))).symm,hst.below⟩
 by_cases e5:c.ol=d.ol
 case neg=>
  go_enter Tryz.func17,Tryz.ntmps17
  have f1:(c.k !=d.k)=false:=by rw [e1];simp
  have f2:(c.n !=d.n)=false:=by rw [e2];simp
  have f3:(c.s.toList==d.s.toList)=true:=by rw [e3];simp
  have f4:((c.ll:Int) !=(d.ll:Int))=false:=by rw [e4];simp
  have f5:((c.ol:Int) !=(d.ol:Int))=true:=by simp;omega
  clear e1 e2 e3 e4
  go_wp2_with fail
  go_ret
  exact ⟨Zc (Yb (fun h=>by injection h with _ _ _ _ h1;exact e5 (by rw [Ho.out,Ho'.out,h1]))).symm,hst.below⟩
 go_enter Tryz.func17,Tryz.ntmps17
 have f1:(c.k !=d.k)=false:=by rw [e1];simp
 have f2:(c.n !=d.n)=false:=by rw [e2];simp
 have f3:(c.s.toList==d.s.toList)=true:=by rw [e3];simp
 have f4:((c.ll:Int) !=(d.ll:Int))=false:=by rw [e4];simp
 have f5:((c.ol:Int) !=(d.ol:Int))=false:=by rw [e5];simp
 have He1:=qh e1;have He2:=qh e2;have He3:=qh e3;have He4:=qh e4;have He5:=qh e5;clear e1 e2 e3 e4 e5
 go_wp2_with fail
 go_loopw [5] (fun i wr=>∃k:Nat,k<=c.ll/\i= .int .i64 k/\Hid (∀j,j<k->l[j]? =l'[j]?)/\Boxed2 w wr c d) (fun i _=>c.ll - (intOf i).toNat)
 case atStart=>exact ⟨0,Nat.zero_le _,rfl,fun j hj=>by omega,hst⟩
 case round =>
  obtain ⟨k,hk,rfl,HJ,hB⟩:=hrel
  clear hst
  have b1:wr.cell? ⟨w.heap.size,3,none⟩=some (.slice c.la c.ll c.lc):=hB.a.c3
  by_cases hlt:k<c.ll
  .have hlt':k<d.ll:=by rw [<-He4.out];exact hlt
   obtain ⟨ela,hlb⟩:=hla (by omega)
   obtain ⟨ela',hlb'⟩:=hla' (by omega)
   have kl:k<l.length:=by rw [<-Hl.out];exact hlt
   have kl':k<l'.length:=by rw [<-Hl'.out];exact hlt'
   have x1:=(hlc k kl).keep hB.below hlb
   have x2:=(hlc' k kl').keep hB.below hlb'
   have q1:=Za b1
   have q2:=Za (show wr.cell? ⟨w.heap.size+1,3,none⟩=some (.slice d.la d.ll d.lc) from hB.b.c3)
   rw [ela] at q1;rw [ela'] at q2
   have r0:=Za x1.c0;have r1:=Za x1.c1;have r2:=Za x1.c2;have r3:=Za x1.c3;have r4:=Za x1.c4
   have s0:=Za x2.c0;have s1:=Za x2.c1;have s2:=Za x2.c2;have s3:=Za x2.c3;have s4:=Za x2.c4
   clear ela ela' x1 x2
   go_wp2_with fail
   refine Zh (by kernel_rfl) (by kernel_rfl) ?_
   repeat (go_big_quiet_step (((go_at_call 17;refine Zg (IHL.out _ (List.getElem_mem kl) (l'[k]'kl') _ _ _ ?_ ?_);exact ((hlv k kl).later_ (hB.below)).later_ (Zd _ _);exact ((hlv' k kl').later_ (hB.below)).later_ (Zd _ _)))))
   refine wpQuiet_nil ?_
   intro _ hw'
   obtain ⟨pq,hw''⟩:=hw'
   subst hw''
   clear r0 r1 r2 r3 r4 s0 s1 s2 s3 s4 q1 q2
   have hB2:=hB.step (Zd wr pq)
   by_cases ev:eqv l[k] l'[k] =true
   .have EV:=qh ev
    go_wp2_with fail
    go_roundw
    case rel=>exact ⟨k+1,by omega,by go_num,zdg HJ kl kl' EV.out,hB2⟩
    case measure=>simp [intOf];omega
   .have ev2:eqv l[k] l'[k] =false:=by simpa using ev
    have EV:=qh ev2
    go_wp2_with fail
    go_ret
    exact ⟨Zc (znc kl kl' EV.out).symm,hB2.below⟩
  .go_wp2_with fail
   go_loopw [7] (fun i wr=>∃k:Nat,k<=c.ol/\i= .int .i64 k/\Hid (∀j,j<k->o[j]? =o'[j]?)/\Boxed2 w wr c d) (fun i _=>c.ol - (intOf i).toNat)
   case atStart=>exact ⟨0,Nat.zero_le _,rfl,fun j hj=>by omega,hB⟩
   case round=>
    have HL:Hid (l=l'):=Xw HJ.out (by have:=Hl.out;omega) (by have:=Hl'.out;have:=He4.out;omega)
    clear HJ b1 hB hlt hk
    obtain ⟨k2,hk,rfl,HJ,hB⟩:=hrel
    have b1:wr.cell? ⟨w.heap.size,4,none⟩=some (.slice c.oa c.ol c.oc):=hB.a.c4
    by_cases hlt:k2<c.ol
    .have hlt':k2<d.ol:=by rw [<-He5.out];exact hlt
     obtain ⟨ela,hlb⟩:=hoa (by omega)
     obtain ⟨ela',hlb'⟩:=hoa' (by omega)
     have kl:k2<o.length:=by rw [<-Ho.out];exact hlt
     have kl':k2<o'.length:=by rw [<-Ho'.out];exact hlt'
     obtain ⟨g1,_,x1⟩:=hoc k2 kl
     obtain ⟨g2,_,x2⟩:=hoc' k2 kl'
     have x1:=x1.keep hB.below hlb
     have x2:=x2.keep hB.below hlb'
     have g1:=Zb hB.below g1 hlb
     have g2:=Zb hB.below g2 hlb'
     have b2:wr.cell? ⟨w.heap.size+1,4,none⟩=some (.slice d.oa d.ol d.oc):=hB.b.c4
     have q1:=Za b1
     have q2:=Za b2
     rw [ela] at q1 b1;rw [ela'] at q2 b2
     have r0:=Za x1.c0;have r1:=Za x1.c1;have r2:=Za x1.c2;have r3:=Za x1.c3;have r4:=Za x1.c4
     have s0:=Za x2.c0;have s1:=Za x2.c1;have s2:=Za x2.c2;have s3:=Za x2.c3;have s4:=Za x2.c4
     have t1:=Za g1;have t2:=Za g2
     clear ela ela' x1 x2
     go_wp2_with fail
     refine Zh (by kernel_rfl) (by kernel_rfl) ?_
     repeat (go_big_quiet_step (((go_at_call 17;refine Zg (IHO.out _ (List.getElem_mem kl) (o'[k2]'kl').2 _ _ _ ?_ ?_);exact ((hov k2 kl).later_ (hB.below)).later_ (Zd _ _);exact ((hov' k2 kl').later_ (hB.below)).later_ (Zd _ _)))))
     refine wpQuiet_nil ?_
     intro _ hw'
     obtain ⟨pq,hw''⟩:=hw'
     subst hw''
     clear r0 r1 r2 r3 r4 s0 s1 s2 s3 s4
     have t1':=Za (t1 pq);have t2':=Za (t2 pq);have q1':=Za (q1 pq);have q2':=Za (q2 pq)
     clear t1 t2 q1 q2 g1 g2 b1 b2
     have hB2:=hB.step (Zd wr pq)
     by_cases ev:eqv o[k2].2 o'[k2].2=true
     .have EV:=qh ev
      by_cases es:o[k2].1.toList=o'[k2].1.toList
      .have fs:(o[k2].1.toList==o'[k2].1.toList)=true:=by rw [es];simp
       have ES:=qh es
       clear es
       go_wp2_with fail
       refine Zh (by kernel_rfl) (by kernel_rfl) ?_
       repeat (go_big_quiet_step (fail))
       refine wpQuiet_nil ?_
       intro _ hw'
       obtain ⟨pr,hw''⟩:=hw'
       subst hw''
       have hB3:=hB2.step (Zd (later wr pq) pr)
       go_wp2_with fail
       go_roundw
       case rel=>exact ⟨k2+1,by omega,by go_num,zdr HJ kl kl' EV.out ES.out,hB3⟩
       case measure=>simp [intOf];omega
      .have fs:(o[k2].1.toList==o'[k2].1.toList)=false:=by simp [es]
       have ES:=qh es
       clear es
       go_wp2_with fail
       refine Zh (by kernel_rfl) (by kernel_rfl) ?_
       repeat (go_big_quiet_step (fail))
       refine wpQuiet_nil ?_
       intro _ hw'
       obtain ⟨pr,hw''⟩:=hw'
       subst hw''
       have hB3:=hB2.step (Zd (later wr pq) pr)
       go_wp2_with fail
       go_ret
       exact ⟨Zc (zbb kl kl' (.inr ES.out)).symm,hB3.below⟩
     .have ev2:eqv o[k2].2 o'[k2].2=false:=by simpa using ev
      have EV:=qh ev2
      go_wp2_with fail
      refine Zh (by kernel_rfl) (by kernel_rfl) ?_
      repeat (go_big_quiet_step (fail))
      refine wpQuiet_nil ?_
      intro _ hw'
      obtain ⟨pr,hw''⟩:=hw'
      subst hw''
      have hB3:=hB2.step (Zd (later wr pq) pr)
      go_wp2_with fail
      go_ret
      exact ⟨Zc (zbb kl kl' (.inl EV.out)).symm,hB3.below⟩
    .go_wp2_with fail
     go_ret
     refine ⟨Zc (Jc ?_).symm,hB.below⟩
     rw [He1.out,He2.out,Y8 He3.out,HL.out,Xw HJ.out (by have:=Ho.out;omega) (by have:=Ho'.out;have:=He5.out;omega)]
noncomputable def eqB {α:Type} (a b:α):Bool:= @decide (a=b) (Classical.propDecidable _)
theorem Zx {α:Type} {a b:α} (h:a≠b):eqB a b=false:=by simp [eqB,h]
theorem Z8 {α:Type} {a b:α} (h:a=b):eqB a b=true:=by simp [eqB,h]
theorem Qi {α:Type} {a b:α} (h:eqB a b=true):a=b:=by simpa [eqB] using h
theorem Xk {α:Type} {a b:α} (h:eqB a b=false):a≠b:=by simpa [eqB] using h
structure St where
 list:Bool
 i:Int
 key:ByteArray
structure St.Bnd (s:St):Prop where
 i0: -9223372036854775808<=s.i
 i1:s.i<=9223372036854775807
 k1:s.key.size<=140737488355328
structure StepAt (w:World) (b o:Nat) (s:St):Prop where
 c0:w.cell? ⟨b,o,none⟩=some (.bool s.list)
 c1:w.cell? ⟨b,o+1,none⟩=some (.int .i64 s.i)
 c2:w.cell? ⟨b,o+2,none⟩=some (.string s.key)
theorem StepAt.keep {w w':World} {B b o:Nat} {s:St} (h:StepAt w b o s) (hb:Below B w w') (hB:b<B):StepAt w' b o s:=
 ⟨Zb hb h.c0 hB,Zb hb h.c1 hB,Zb hb h.c2 hB⟩
structure IsSteps (w:World) (B:Nat) (p:List St) (a:Option Addr) (n c:Nat):Prop where
 len:n=p.length
 cap:n<=c
 max:c<=9223372036854775807
 few:n<=1466015503701
 at_:∃b o,(0<n->a=some ⟨b,o,none⟩/\b<B)/\∀i (h:i<p.length),StepAt w b (o+i*3) p[i] /\p[i].Bnd
theorem IsSteps.keep {w w':World} {B:Nat} {p:List St} {a:Option Addr} {n c:Nat} (h:IsSteps w B p a n c) (hb:Below B w w'):IsSteps w' B p a n c:=by
 obtain ⟨h1,h2,h3,h4,b,o,h5,h6⟩:=h
 exact ⟨h1,h2,h3,h4,b,o,h5,fun i hi=>⟨(h6 i hi).1.keep hb (h5 (by omega)).2,(h6 i hi).2⟩⟩
theorem IsSteps.more {w:World} {B B':Nat} {p:List St} {a:Option Addr} {n c:Nat} (h:IsSteps w B p a n c) (hB:B<=B'):IsSteps w B' p a n c:=by
 obtain ⟨h1,h2,h3,h4,b,o,h5,h6⟩:=h
 exact ⟨h1,h2,h3,h4,b,o,fun hn=>⟨(h5 hn).1,by have:=(h5 hn).2;omega⟩,h6⟩
theorem IsSteps.later_ {w w':World} {p:List St} {a:Option Addr} {n c:Nat} (h:IsSteps w w.heap.size p a n c) (hb:Below w.heap.size w w'):IsSteps w' w'.heap.size p a n c:=
 (h.keep hb).more hb.size
theorem IsSteps.get {w:World} {B:Nat} {p:List St} {a:Option Addr} {n c k:Nat} (h:IsSteps w B p a n c) (hk:k<n):
 ∃b o,∃hp:k<p.length,a=some ⟨b,o,none⟩/\b<B/\StepAt w b (o+k*3) p[k] /\p[k].Bnd:=by
 obtain ⟨h1,h2,h3,h4,b,o,h5,h6⟩:=h
 have hp:k<p.length:=by omega
 exact ⟨b,o,hp,(h5 (by omega)).1,(h5 (by omega)).2,(h6 k hp).1,(h6 k hp).2⟩
theorem IsSteps.nil (w:World) (B:Nat):IsSteps w B [] none 0 0:=⟨rfl,Nat.le_refl _,by omega,by omega,0,0,fun h=>by omega,fun i hi=>by cases hi⟩
structure Cm where
 k:Int
 path:List St
 key:ByteArray
 i:Int
 j:Int
 n:Int
 v:V
 s:ByteArray
structure CC where
 k:Int
 pa:Option Addr
 pl:Nat
 pc:Nat
 key:ByteArray
 i:Int
 j:Int
 n:Int
 v:VC
 s:ByteArray
abbrev uC (c:CC):Array Value:= #[.int .u8 c.k, .slice c.pa c.pl c.pc, .string c.key, .int .i64 c.i, .int .i64 c.j, .int .i64 c.n, .int .u8 c.v.k, .int .i64 c.v.n, .string c.v.s, .slice c.v.la c.v.ll c.v.lc, .slice c.v.oa c.v.ol c.v.oc, .string c.s]
structure CompAt (w:World) (b o:Nat) (c:CC):Prop where
 c0:w.cell? ⟨b,o,none⟩=some (.int .u8 c.k)
 c1:w.cell? ⟨b,o+1,none⟩=some (.slice c.pa c.pl c.pc)
 c2:w.cell? ⟨b,o+2,none⟩=some (.string c.key)
 c3:w.cell? ⟨b,o+3,none⟩=some (.int .i64 c.i)
 c4:w.cell? ⟨b,o+4,none⟩=some (.int .i64 c.j)
 c5:w.cell? ⟨b,o+5,none⟩=some (.int .i64 c.n)
 c6:ValAt w b (o+6) c.v
 c11:w.cell? ⟨b,o+11,none⟩=some (.string c.s)
theorem CompAt.keep {w w':World} {B b o:Nat} {c:CC} (h:CompAt w b o c) (hb:Below B w w') (hB:b<B):CompAt w' b o c:=
 ⟨Zb hb h.c0 hB,Zb hb h.c1 hB,Zb hb h.c2 hB,Zb hb h.c3 hB,Zb hb h.c4 hB,Zb hb h.c5 hB,h.c6.keep hb hB,Zb hb h.c11 hB⟩
structure CC.Bnd (c:CC):Prop where
 k0:0<=c.k
 k1:c.k<256
 i0: -9223372036854775808<=c.i
 i1:c.i<=9223372036854775807
 j0: -9223372036854775808<=c.j
 j1:c.j<=9223372036854775807
 n0: -9223372036854775808<=c.n
 n1:c.n<=9223372036854775807
 key1:c.key.size<=140737488355328
 s1:c.s.size<=140737488355328
inductive IsComp (w:World) (B:Nat):Cm->CC->Prop
 |mk (c:CC) (p:List St) (v:V) (hb:c.Bnd) (hp:IsSteps w B p c.pa c.pl c.pc) (hv:IsVal w B v c.v):IsComp w B ⟨c.k,p,c.key,c.i,c.j,c.n,v,c.s⟩ c
theorem IsComp.keep {w w':World} {B:Nat} (hb:Below B w w') {x:Cm} {c:CC} (h:IsComp w B x c):IsComp w' B x c:=by
 cases h with
 |mk c p v hbd hp hv=>exact .mk c p v hbd (hp.keep hb) (hv.keep hb)
theorem IsComp.more {w:World} {B B':Nat} (hB:B<=B') {x:Cm} {c:CC} (h:IsComp w B x c):IsComp w B' x c:=by
 cases h with
 |mk c p v hbd hp hv=>exact .mk c p v hbd (hp.more hB) (hv.more hB)
theorem IsComp.later_ {w w':World} (hb:Below w.heap.size w w') {x:Cm} {c:CC} (h:IsComp w w.heap.size x c):IsComp w' w'.heap.size x c:=(h.keep hb).more hb.size
structure IsComps (w:World) (B:Nat) (l:List Cm) (a:Option Addr) (n c:Nat):Prop where
 len:n=l.length
 cap:n<=c
 max:c<=9223372036854775807
 few:n<=1466015503701
 at_:∃b o,∃f:Nat->CC,(0<n->a=some ⟨b,o,none⟩/\b<B)/\∀i (h:i<l.length),CompAt w b (o+i*12) (f i)/\IsComp w B l[i] (f i)
theorem IsComps.keep {w w':World} {B:Nat} {l:List Cm} {a:Option Addr} {n c:Nat} (h:IsComps w B l a n c) (hb:Below B w w'):IsComps w' B l a n c:=by
 obtain ⟨h1,h2,h3,h4,b,o,f,h5,h6⟩:=h
 exact ⟨h1,h2,h3,h4,b,o,f,h5,fun i hi=>⟨(h6 i hi).1.keep hb (h5 (by omega)).2,(h6 i hi).2.keep hb⟩⟩
theorem IsComps.more {w:World} {B B':Nat} {l:List Cm} {a:Option Addr} {n c:Nat} (h:IsComps w B l a n c) (hB:B<=B'):IsComps w B' l a n c:=by
 obtain ⟨h1,h2,h3,h4,b,o,f,h5,h6⟩:=h
 exact ⟨h1,h2,h3,h4,b,o,f,fun hn=>⟨(h5 hn).1,by have:=(h5 hn).2;omega⟩,fun i hi=>⟨(h6 i hi).1,(h6 i hi).2.more hB⟩⟩
theorem IsComps.later_ {w w':World} {l:List Cm} {a:Option Addr} {n c:Nat} (h:IsComps w w.heap.size l a n c) (hb:Below w.heap.size w w'):IsComps w' w'.heap.size l a n c:=
 (h.keep hb).more hb.size
theorem IsComps.get {w:World} {B:Nat} {l:List Cm} {a:Option Addr} {n c k:Nat} (h:IsComps w B l a n c) (hk:k<n):
 ∃b o,∃f:CC,∃hp:k<l.length,a=some ⟨b,o,none⟩/\b<B/\CompAt w b (o+k*12) f/\IsComp w B l[k] f:=by
 obtain ⟨h1,h2,h3,h4,b,o,f,h5,h6⟩:=h
 have hp:k<l.length:=by omega
 exact ⟨b,o,f k,hp,(h5 (by omega)).1,(h5 (by omega)).2,(h6 k hp).1,(h6 k hp).2⟩
theorem IsComps.nil (w:World) (B:Nat):IsComps w B [] none 0 0:=⟨rfl,Nat.le_refl _,by omega,by omega,0,0,fun _=>⟨0,none,0,0, .empty,0,0,0,⟨0,0, .empty,none,0,0,none,0,0⟩, .empty⟩,fun h=>by omega,fun i hi=>by cases hi⟩
structure EC where
 k:Int
 src:Int
 seq:Int
 v:VC
 oa:Option Addr
 ol:Nat
 oc:Nat
def V.none:V:= .mk 0 0 .empty [] []
theorem Zw (w:World) (B:Nat):IsVal w B V.none ⟨0,0, .empty, .none,0,0, .none,0,0⟩:=
 .mk ⟨0,0, .empty, .none,0,0, .none,0,0⟩ [] [] (fun _=>⟨0,0, .empty, .none,0,0, .none,0,0⟩) (fun _=>⟨0,0, .empty, .none,0,0, .none,0,0⟩) 0 0 0 0
  ⟨by decide,by decide,by decide,by decide,by decide,by decide,by decide,by decide,by decide,by decide,by decide⟩ rfl rfl (fun h=>by cases h) (fun h=>by cases h) (fun i h=>by cases h) (fun i h=>by cases h) (fun i h=>by cases h) (fun i h=>by cases h)
def VSame (a:V):Prop:=∀(b:V) (w:World) (c d:VC),IsVal w w.heap.size a c->IsVal w w.heap.size b d->
    Calls Tryz.prog 137 #[.agg #[.int .u8 c.k, .int .i64 c.n, .string c.s, .slice c.la c.ll c.lc, .slice c.oa c.ol c.oc], .agg #[.int .u8 d.k, .int .i64 d.n, .string d.s, .slice d.la d.ll d.lc, .slice d.oa d.ol d.oc]] w fun e w'=>e= .returned (.bool (eqv a b))/\Below w.heap.size w w'
structure IsVals (w:World) (B:Nat) (l:List V) (a:Option Addr) (n c:Nat):Prop where
 len:n=l.length
 cap:n<=c
 max:c<=9223372036854775807
 few:n<=1466015503701
 at_:∃b o,∃f:Nat->VC,(0<n->a=some ⟨b,o,none⟩/\b<B)/\∀i (h:i<l.length),ValAt w b (o+i*5) (f i)/\IsVal w B l[i] (f i)
theorem IsVals.get {w:World} {B:Nat} {l:List V} {a:Option Addr} {n c k:Nat} (h:IsVals w B l a n c) (hk:k<n):
 ∃b o,∃f:VC,∃hp:k<l.length,a=some ⟨b,o,none⟩/\b<B/\ValAt w b (o+k*5) f/\IsVal w B l[k] f:=by
 obtain ⟨h1,h2,h3,h4,b,o,f,h5,h6⟩:=h
 have hp:k<l.length:=by omega
 exact ⟨b,o,f k,hp,(h5 (by omega)).1,(h5 (by omega)).2,(h6 k hp).1,(h6 k hp).2⟩
structure IsFields (w:World) (B:Nat) (l:List (ByteArray×V)) (a:Option Addr) (n c:Nat):Prop where
 len:n=l.length
 cap:n<=c
 max:c<=9223372036854775807
 few:n<=1466015503701
 at_:∃b o,∃f:Nat->VC,(0<n->a=some ⟨b,o,none⟩/\b<B)/\∀i (h:i<l.length),w.cell? ⟨b,o+i*6,none⟩=some (.string l[i].1)/\l[i].1.size<=140737488355328/\ValAt w b (o+i*6+1) (f i)/\IsVal w B l[i].2 (f i)
theorem IsFields.get {w:World} {B:Nat} {l:List (ByteArray×V)} {a:Option Addr} {n c k:Nat} (h:IsFields w B l a n c) (hk:k<n):
 ∃b o,∃f:VC,∃hp:k<l.length,a=some ⟨b,o,none⟩/\b<B/\w.cell? ⟨b,o+k*6,none⟩=some (.string l[k].1)/\l[k].1.size<=140737488355328/\ValAt w b (o+k*6+1) f/\IsVal w B l[k].2 f:=by
 obtain ⟨h1,h2,h3,h4,b,o,f,h5,h6⟩:=h
 have hp:k<l.length:=by omega
 exact ⟨b,o,f k,hp,(h5 (by omega)).1,(h5 (by omega)).2,h6 k hp⟩
theorem IsVals.keep {w w':World} {B:Nat} {l:List V} {a:Option Addr} {n c:Nat} (h:IsVals w B l a n c) (hb:Below B w w'):IsVals w' B l a n c:=by
 obtain ⟨h1,h2,h3,h4,b,o,f,h5,h6⟩:=h
 exact ⟨h1,h2,h3,h4,b,o,f,h5,fun i hi=>⟨(h6 i hi).1.keep hb (h5 (by omega)).2,(h6 i hi).2.keep hb⟩⟩
theorem IsFields.keep {w w':World} {B:Nat} {l:List (ByteArray×V)} {a:Option Addr} {n c:Nat} (h:IsFields w B l a n c) (hb:Below B w w'):IsFields w' B l a n c:=by
 obtain ⟨h1,h2,h3,h4,b,o,f,h5,h6⟩:=h
 refine ⟨h1,h2,h3,h4,b,o,f,h5,fun i hi=> ?_⟩
 obtain ⟨g1,g2,g3,g4⟩:=h6 i hi
 have hB:=(h5 (by omega)).2
 exact ⟨Zb hb g1 hB,g2,g3.keep hb hB,g4.keep hb⟩
theorem IsVals.more {w:World} {B B':Nat} {l:List V} {a:Option Addr} {n c:Nat} (h:IsVals w B l a n c) (hB:B<=B'):IsVals w B' l a n c:=by
 obtain ⟨h1,h2,h3,h4,b,o,f,h5,h6⟩:=h
 exact ⟨h1,h2,h3,h4,b,o,f,fun hn=>⟨(h5 hn).1,by have:=(h5 hn).2;omega⟩,fun i hi=>⟨(h6 i hi).1,(h6 i hi).2.more hB⟩⟩
theorem IsFields.more {w:World} {B B':Nat} {l:List (ByteArray×V)} {a:Option Addr} {n c:Nat} (h:IsFields w B l a n c) (hB:B<=B'):IsFields w B' l a n c:=by
 obtain ⟨h1,h2,h3,h4,b,o,f,h5,h6⟩:=h
 refine ⟨h1,h2,h3,h4,b,o,f,fun hn=>⟨(h5 hn).1,by have:=(h5 hn).2;omega⟩,fun i hi=> ?_⟩
 obtain ⟨g1,g2,g3,g4⟩:=h6 i hi
 exact ⟨g1,g2,g3,g4.more hB⟩
theorem IsVals.later_ {w w':World} {l:List V} {a:Option Addr} {n c:Nat} (h:IsVals w w.heap.size l a n c) (hb:uB w w'):IsVals w' w'.heap.size l a n c:=(h.keep hb).more hb.size
theorem IsFields.later_ {w w':World} {l:List (ByteArray×V)} {a:Option Addr} {n c:Nat} (h:IsFields w w.heap.size l a n c) (hb:uB w w'):IsFields w' w'.heap.size l a n c:=(h.keep hb).more hb.size
theorem IsVal.lists {w:World} {B:Nat} {k n:Int} {s:ByteArray} {l:List V} {o:List (ByteArray×V)} {c:VC} (h:IsVal w B (.mk k n s l o) c):
 c.k=k/\c.n=n/\c.s=s/\c.Bnd/\IsVals w B l c.la c.ll c.lc/\IsFields w B o c.oa c.ol c.oc:=by
 cases h with
 | mk _ _ _ cl co lb lo ob oo hb hl ho hla hoa hlc hlv hoc hov=>
   exact ⟨rfl,rfl,rfl,hb,⟨hl,hb.l1,hb.l2,hb.l3,lb,lo,cl,hla,fun i hi=>⟨hlc i hi,hlv i hi⟩⟩,⟨ho,hb.o1,hb.o2,hb.o3,ob,oo,co,hoa,fun i hi=>⟨(hoc i hi).1,(hoc i hi).2.1,(hoc i hi).2.2,hov i hi⟩⟩⟩
theorem IsVal.of_lists {w:World} {B:Nat} {l:List V} {o:List (ByteArray×V)} {c:VC} (hb:c.Bnd) (h1:IsVals w B l c.la c.ll c.lc) (h2:IsFields w B o c.oa c.ol c.oc):IsVal w B (.mk c.k c.n c.s l o) c:=by
 obtain ⟨hl,_,_,_,lb,lo,cl,hla,h1⟩:=h1
 obtain ⟨ho,_,_,_,ob,oo,co,hoa,h2⟩:=h2
 exact .mk c l o cl co lb lo ob oo hb hl ho hla hoa (fun i hi=>(h1 i hi).1) (fun i hi=>(h1 i hi).2) (fun i hi=>⟨(h2 i hi).1,(h2 i hi).2.1,(h2 i hi).2.2.1⟩) (fun i hi=>(h2 i hi).2.2.2)
set_option maxRecDepth 100000 in
theorem zgt (l l':List V) (IH:∀v ∈ l,VSame v) (w:World) (a a':Option Addr) (n m c c':Nat) (h:IsVals w w.heap.size l a n c) (h':IsVals w w.heap.size l' a' m c'):
 uP 168 #[.slice a n c, .slice a' m c', .func (.func 137) #[] #[]] w fun e w'=>e= .returned (.bool (eqB l l'))/\uB w w':=by
 delta uB uP
 have HI:=qh IH
 have k1:=h.max;have k2:=h.few;have k3:=h'.max;have k4:=h'.few
 have HLn:=qh h.len;have HLm:=qh h'.len
 clear IH
 by_cases e:n=m
 case neg=>
  go_enter Tryz.func168,Tryz.ntmps168
  have f1:((n:Int) !=(m:Int))=true:=by simp;omega
  go_wp2_with fail
  go_ret
  exact ⟨Zc (Zx (fun h=>e (by rw [HLn.out,HLm.out,h]))).symm,Below.refl _ _⟩
 subst e
 go_enter Tryz.func168,Tryz.ntmps168
 go_wp2_with fail
 go_loopw [17] (fun i wr=>∃k:Nat,k<=n/\i= .int .i64 k/\Hid (∀j,j<k->l[j]? =l'[j]?)/\uB w wr) (fun i _=>n - (intOf i).toNat)
 case atStart=>exact ⟨0,Nat.zero_le _,rfl,fun j hj=>by omega,Below.refl _ _⟩
 case round=>
  obtain ⟨k,hk,rfl,HJ,hB⟩:=hrel
  by_cases hlt:k<n
  .obtain ⟨b,o,f,kl,rfl,hb,x1,v1⟩:=h.get hlt
   obtain ⟨b',o',f',kl',rfl,hb',x2,v2⟩:=h'.get hlt
   have x1:=x1.keep hB hb
   have x2:=x2.keep hB hb'
   have r0:=x1.c0;have r1:=x1.c1;have r2:=x1.c2;have r3:=x1.c3;have r4:=x1.c4
   have s0:=x2.c0;have s1:=x2.c1;have s2:=x2.c2;have s3:=x2.c3;have s4:=x2.c4
   have hbr:b<wr.heap.size:=by have:=hB.size;omega
   have hbr':b'<wr.heap.size:=by have:=hB.size;omega
   clear x1 x2 h h'
   go_wp2_with fail
   refine (HI.out _ (List.getElem_mem kl) (l'[k]'kl') _ f f' ((v1.later_ hB).later_ (((Below.refl _ _).alloc (Nat.le_refl _) _).alloc (by simp) _)) ((v2.later_ hB).later_ (((Below.refl _ _).alloc (Nat.le_refl _) _).alloc (by simp) _))).mono ?_
   rintro e w' ⟨rfl,hb3⟩
   have hB2:=hB.on (Below.two hb3) hB.size
   clear hb3 r0 r1 r2 r3 r4 s0 s1 s2 s3 s4
   cases ev:eqv l[k] l'[k] with
   | true=>
     have EV:=qh ev
     clear ev
     go_wp2_with fail
     go_roundw
     case rel=>exact ⟨k+1,by omega,by go_num,zdg HJ kl kl' EV.out,hB2⟩
     case measure=>simp [intOf];omega
   | false=>
     have EV:=qh ev
     clear ev
     go_wp2_with fail
     go_ret
     exact ⟨Zc (Zx (fun h=>by subst h;exact Qm EV.out rfl)).symm,hB2⟩
  .go_wp2_with fail
   go_ret
   exact ⟨Zc (Z8 (Xw HJ.out (by have:=HLn.out;omega) (by have:=HLm.out;omega))).symm,hB⟩
set_option maxRecDepth 100000 in
theorem zio (k k':ByteArray) (v v':V) (IH:VSame v) (w:World) (f f':VC) (h:IsVal w w.heap.size v f) (h':IsVal w w.heap.size v' f'):
 uP 170 #[.agg #[.string k, .int .u8 f.k, .int .i64 f.n, .string f.s, .slice f.la f.ll f.lc, .slice f.oa f.ol f.oc], .agg #[.string k', .int .u8 f'.k, .int .i64 f'.n, .string f'.s, .slice f'.la f'.ll f'.lc, .slice f'.oa f'.ol f'.oc]] w fun e w'=>e= .returned (.bool (eqB (k,v) (k',v')))/\uB w w':=by
 delta uB uP
 have HI:=qh IH
 clear IH
 by_cases e:k.toList=k'.toList
 case neg=>
  go_enter Tryz.func170,Tryz.ntmps170
  have f1:(k.toList==k'.toList)=false:=by simp [e]
  have He:=qh e
  clear e
  go_wp2_with fail
  go_ret
  exact ⟨Zc (Zx (fun h=>by injection h with h1;exact He.out (by rw [h1]))).symm,((Below.refl _ _).alloc (Nat.le_refl _) _).alloc (by simp) _⟩
 go_enter Tryz.func170,Tryz.ntmps170
 have f1:(k.toList==k'.toList)=true:=by rw [e];simp
 have He:=qh e
 clear e
 go_wp2_with fail
 refine (HI.out v' _ f f' (h.later_ (((Below.refl _ _).alloc (Nat.le_refl _) _).alloc (by simp) _)) (h'.later_ (((Below.refl _ _).alloc (Nat.le_refl _) _).alloc (by simp) _))).mono ?_
 rintro e w' ⟨rfl,hb⟩
 cases ev:eqv v v' with
 | true=>
   have EV:=qh ev
   clear ev
   go_wp2_with fail
   go_ret
   exact ⟨Zc (Z8 (Prod.ext (Y8 He.out) (X1 EV.out))).symm,hb.two⟩
 | false=>
   have EV:=qh ev
   clear ev
   go_wp2_with fail
   go_ret
   exact ⟨Zc (Zx (fun h=>by injection h with h1 h2;exact Qm EV.out h2)).symm,hb.two⟩
theorem Jv {α:Type} {l l':List α} {k:Nat} (h:Hid (∀j,j<k->l[j]? =l'[j]?)) (kl:k<l.length) (kl':k<l'.length) (e:eqB l[k] l'[k] =true):Hid (∀j,j<k+1->l[j]? =l'[j]?):=by
 intro j hj
 by_cases hjk:j=k
 .subst hjk;rw [List.getElem?_eq_getElem kl,List.getElem?_eq_getElem kl',Qi e]
 .exact h.out j (by omega)
set_option maxRecDepth 100000 in
theorem zlc (l l':List (ByteArray×V)) (IH:∀v ∈ l,VSame v.2) (w:World) (a a':Option Addr) (n m c c':Nat) (h:IsFields w w.heap.size l a n c) (h':IsFields w w.heap.size l' a' m c'):
 uP 169 #[.slice a n c, .slice a' m c', .func (.func 170) #[] #[]] w fun e w'=>e= .returned (.bool (eqB l l'))/\uB w w':=by
 delta uB uP
 have HI:=qh IH
 have k1:=h.max;have k2:=h.few;have k3:=h'.max;have k4:=h'.few
 have HLn:=qh h.len;have HLm:=qh h'.len
 clear IH
 by_cases e:n=m
 case neg=>
  go_enter Tryz.func169,Tryz.ntmps169
  have f1:((n:Int) !=(m:Int))=true:=by simp;omega
  go_wp2_with fail
  go_ret
  exact ⟨Zc (Zx (fun h=>e (by rw [HLn.out,HLm.out,h]))).symm,Below.refl _ _⟩
 subst e
 go_enter Tryz.func169,Tryz.ntmps169
 go_wp2_with fail
 go_loopw [17] (fun i wr=>∃k:Nat,k<=n/\i= .int .i64 k/\Hid (∀j,j<k->l[j]? =l'[j]?)/\uB w wr) (fun i _=>n - (intOf i).toNat)
 case atStart=>exact ⟨0,Nat.zero_le _,rfl,fun j hj=>by omega,Below.refl _ _⟩
 case round=>
  obtain ⟨k,hk,rfl,HJ,hB⟩:=hrel
  by_cases hlt:k<n
  .obtain ⟨b,o,f,kl,rfl,hb,g1,_,x1,v1⟩:=h.get hlt
   obtain ⟨b',o',f',kl',rfl,hb',g2,_,x2,v2⟩:=h'.get hlt
   have x1:=x1.keep hB hb
   have x2:=x2.keep hB hb'
   have g1:=Zb hB g1 hb
   have g2:=Zb hB g2 hb'
   have r0:=x1.c0;have r1:=x1.c1;have r2:=x1.c2;have r3:=x1.c3;have r4:=x1.c4
   have s0:=x2.c0;have s1:=x2.c1;have s2:=x2.c2;have s3:=x2.c3;have s4:=x2.c4
   have hbr:b<wr.heap.size:=by have:=hB.size;omega
   have hbr':b'<wr.heap.size:=by have:=hB.size;omega
   clear x1 x2 h h'
   go_wp2_with fail
   refine (zio l[k].1 (l'[k]'kl').1 l[k].2 (l'[k]'kl').2 (HI.out _ (List.getElem_mem kl)) _ f f' ((v1.later_ hB).later_ (((Below.refl _ _).alloc (Nat.le_refl _) _).alloc (by simp) _)) ((v2.later_ hB).later_ (((Below.refl _ _).alloc (Nat.le_refl _) _).alloc (by simp) _))).mono ?_
   rintro e w' ⟨rfl,hb3⟩
   have hB2:=hB.on (Below.two hb3) hB.size
   clear hb3 r0 r1 r2 r3 r4 s0 s1 s2 s3 s4 g1 g2
   cases ev:eqB (l[k].1,l[k].2) ((l'[k]'kl').1,(l'[k]'kl').2) with
   | true=>
     have EV:=qh ev
     clear ev
     go_wp2_with fail
     go_roundw
     case rel=>exact ⟨k+1,by omega,by go_num,Jv HJ kl kl' EV.out,hB2⟩
     case measure=>simp [intOf];omega
   | false=>
     have EV:=qh ev
     clear ev
     go_wp2_with fail
     go_ret
     exact ⟨Zc (Zx (fun h=>by subst h;exact Xk EV.out rfl)).symm,hB2⟩
  .go_wp2_with fail
   go_ret
   exact ⟨Zc (Z8 (Xw HJ.out (by have:=HLn.out;omega) (by have:=HLm.out;omega))).symm,hB⟩
set_option maxRecDepth 100000 in
theorem zmw (a:V):VSame a:=by
 induction a using V.ind with
 |h k n s l o ihl iho=>
 have IHL:=qh ihl;have IHO:=qh iho;clear ihl iho
 intro b w c d ha hb
 obtain ⟨k',n',s',l',o'⟩:=b
 obtain ⟨rfl,rfl,rfl,cbd,hl,ho⟩:=ha.lists
 obtain ⟨rfl,rfl,rfl,dbd,hl',ho'⟩:=hb.lists
 clear ha hb cbd dbd
 have hst:=zah w c d 29
 by_cases e1:c.k=d.k
 case neg=>
  go_enter Tryz.func137,Tryz.ntmps137
  have f1:(c.k==d.k)=false:=by simp [e1]
  go_wp2_with fail
  go_ret
  exact ⟨Zc (Yb (fun h=>by injection h with h1;exact e1 h1)).symm,hst.below⟩
 by_cases e2:c.n=d.n
 case neg=>
  go_enter Tryz.func137,Tryz.ntmps137
  have f1:(c.k==d.k)=true:=by rw [e1];simp
  have f2:(c.n==d.n)=false:=by simp [e2]
  clear e1
  go_wp2_with fail
  go_ret
  exact ⟨Zc (Yb (fun h=>by injection h with _ h1;exact e2 h1)).symm,hst.below⟩
 by_cases e3:c.s.toList=d.s.toList
 case neg=>
  go_enter Tryz.func137,Tryz.ntmps137
  have f1:(c.k==d.k)=true:=by rw [e1];simp
  have f2:(c.n==d.n)=true:=by rw [e2];simp
  have f3:(c.s.toList==d.s.toList)=false:=by simp [e3]
  have H3:=qh e3
  clear e1 e2 e3
  go_wp2_with fail
  go_ret
  exact ⟨Zc (Yb (fun h=>by injection h with _ _ h1;exact H3.out (by rw [h1]))).symm,hst.below⟩
 go_enter Tryz.func137,Tryz.ntmps137
 have f1:(c.k==d.k)=true:=by rw [e1];simp
 have f2:(c.n==d.n)=true:=by rw [e2];simp
 have f3:(c.s.toList==d.s.toList)=true:=by rw [e3];simp
 have He1:=qh e1;have He2:=qh e2;have He3:=qh e3;clear e1 e2 e3
 go_wp2_with fail
 refine (zgt l l' IHL.out _ _ _ _ _ _ _ (hl.later_ hst.below) (hl'.later_ hst.below)).mono ?_
 rintro e w1 ⟨rfl,hb1⟩
 have hB:=hst.step hb1
 have b1:w1.cell? ⟨w.heap.size,4,none⟩=some (.slice c.oa c.ol c.oc):=hB.a.c4
 have b2:w1.cell? ⟨w.heap.size+1,4,none⟩=some (.slice d.oa d.ol d.oc):=hB.b.c4
 clear hst hb1
 cases e4:eqB l l' with
 | false=>
   have EV:=qh e4
   clear e4
   go_wp2_with fail
   go_ret
   exact ⟨Zc (Yb (fun h=>by injection h with _ _ _ h1;exact Xk EV.out h1)).symm,hB.below⟩
 | true=>
   have EV:=qh e4
   clear e4
   go_wp2_with fail
   refine (zlc o o' IHO.out _ _ _ _ _ _ _ (ho.later_ hB.below) (ho'.later_ hB.below)).mono ?_
   rintro e w2 ⟨rfl,hb2⟩
   have hB2:=hB.step hb2
   cases e5:eqB o o' with
   | false=>
     have EV2:=qh e5
     clear e5
     go_wp2_with fail
     go_ret
     exact ⟨Zc (Yb (fun h=>by injection h with _ _ _ _ h1;exact Xk EV2.out h1)).symm,hB2.below⟩
   | true=>
     have EV2:=qh e5
     clear e5
     go_wp2_with fail
     go_ret
     exact ⟨Zc (Jc (by rw [He1.out,He2.out,Y8 He3.out,Qi EV.out,Qi EV2.out])).symm,hB2.below⟩
end Go.Proofs.YtbgheehjfnoiiaaGreatDoor
namespace Go.Proofs.YtbgheehjfnoiiaaGreatDoor
open Go.RowKit Go.Shelf
set_option maxHeartbeats 4000000
attribute [local go_sem] Oper.semAt_some
structure KeepAt (m₀ Bs:Nat) (W W':World):Prop where
 size:W.heap.size<=W'.heap.size
 block:∀k,k<m₀∨k=Bs->W'.heap[k]? =W.heap[k]?
theorem KeepAt.refl (m₀ Bs:Nat) (W:World):KeepAt m₀ Bs W W:=⟨Nat.le_refl _,fun _ _=>rfl⟩
theorem KeepAt.trans {m₀ Bs:Nat} {A B C:World} (h:KeepAt m₀ Bs A B) (k:KeepAt m₀ Bs B C):KeepAt m₀ Bs A C:=⟨Nat.le_trans h.size k.size,fun i hi=>(k.block i hi).trans (h.block i hi)⟩
theorem KeepAt.cell {m₀ Bs b o:Nat} {v:Value} {W W':World} (h:KeepAt m₀ Bs W W') (hb:b<m₀∨b=Bs) (hc:W.cell? ⟨b,o,none⟩=some v):W'.cell? ⟨b,o,none⟩=some v:=
 (World.cell?_of_block (h.block b hb)).trans hc
theorem KeepAt.of_below {m₀ Bs n:Nat} {W W':World} (h:Below n W W') (h1:m₀<=n) (h2:Bs<n):KeepAt m₀ Bs W W':=
 ⟨h.size,fun k hk=>h.block k (by omega)⟩
theorem KeepAt.of_below_any {n:Nat} {W W':World} (h:Below n W W'):KeepAt n W'.heap.size W W':=
 ⟨h.size,fun k hk=>by
  rcases hk with hk|rfl
  .exact h.block k hk
  .rw [Array.getElem?_eq_none (Nat.le_refl _),Array.getElem?_eq_none h.size]⟩
theorem KeepAt.alloc {m₀ Bs:Nat} (W:World) (o:Obj) (h1:m₀<=W.heap.size) (h2:Bs<W.heap.size):KeepAt m₀ Bs W (W.alloc o):=
 .of_below ((Below.refl W.heap.size W).alloc (Nat.le_refl _) o) h1 h2
theorem KeepAt.setCell {m₀ Bs:Nat} (W:World) {p:Addr} (u:Value) (h1:m₀<=p.block) (h2:Bs≠p.block):KeepAt m₀ Bs W (W.setCell p u):=
 ⟨by simp [World.setCell],fun k hk=>Below.heap_setCell _ _ _ _ (by omega)⟩
theorem J7 {m₀ Bs:Nat} :∀ {A B C:World},KeepAt m₀ Bs A B->KeepAt m₀ Bs B C->KeepAt m₀ Bs A C:=fun h k=>h.trans k
theorem Kc {m₀ Bs n:Nat} (h1:m₀<=n) (h2:Bs<n):∀(W:World) (l:Nat) (o o':Obj),n<=l->W.heap[l]? =some o->o.isCells=false->o.isWalk=false->KeepAt m₀ Bs W (W.putObj l o'):=
 fun W l _ o' hl ho _ _=>⟨(grownBy_putObj' W l o').size,fun k hk=>
  (grownBy_putObj' W l o').block k (by have:=(Array.getElem?_eq_some_iff.1 ho).1;omega) (fun e=>by cases e;omega)⟩
theorem ValAt.keepAt {m₀ Bs b o:Nat} {c:VC} {W W':World} (h:ValAt W b o c) (hk:KeepAt m₀ Bs W W') (hb:b<m₀∨b=Bs):ValAt W' b o c:=
 ⟨hk.cell hb h.c0,hk.cell hb h.c1,hk.cell hb h.c2,hk.cell hb h.c3,hk.cell hb h.c4⟩
structure IsKids {α:Type} (kk:α->ByteArray) (kv:α->VC) (n₀:Nat) (w:World) (c:VC) (ks:List α):Prop where
 len:ks.length=c.ll+c.ol
 l:∀i (h:i<ks.length),i<c.ll->kk ks[i] =⟨#[]⟩/\∃b o,c.la=some ⟨b,o,none⟩/\b<n₀/\ValAt w b (o+i*5) (kv ks[i])
 o:∀i (h:c.ll+i<ks.length),∃b o,c.oa=some ⟨b,o,none⟩/\b<n₀/\w.cell? ⟨b,o+i*6,none⟩=some (.string (kk ks[c.ll+i]))/\ValAt w b (o+i*6+1) (kv ks[c.ll+i])
theorem IsKids.keep {α:Type} {kk:α->ByteArray} {kv:α->VC} {n₀:Nat} {w w':World} {c:VC} {ks:List α} (h:IsKids kk kv n₀ w c ks) {Bs:Nat} (hb:KeepAt n₀ Bs w w'):IsKids kk kv n₀ w' c ks:=by
 refine ⟨h.len,fun i hi hl=> ?_,fun i hi=> ?_⟩
 .obtain ⟨h1,b,o,h2,h3,h4⟩:=h.l i hi hl
  exact ⟨h1,b,o,h2,h3,h4.keepAt hb (.inl h3)⟩
 .obtain ⟨b,o,h2,h3,h4,h5⟩:=h.o i hi
  exact ⟨b,o,h2,h3,hb.cell (.inl h3) h4,h5.keepAt hb (.inl h3)⟩
set_option maxRecDepth 100000 in
theorem Kh (F:Fence) (n:Nat) (hf:F.fn 143) (hro:F.round=none) (c:VC) (w:World):
 CallsIn F n Tryz.prog 143 #[.agg #[.int .u8 c.k, .int .i64 c.n, .string c.s, .slice c.la c.ll c.lc, .slice c.oa c.ol c.oc]] w fun e w'=>e= .returned (.func (.func 172) #[] #[.pointer (some ⟨w.heap.size,0,none⟩)])/\w'=w.alloc (.cells #[.int .u8 c.k, .int .i64 c.n, .string c.s, .slice c.la c.ll c.lc, .slice c.oa c.ol c.oc] 29):=by
 refine callsIn_of_wp Tryz.func143 rfl hf ?_ hro
 simp only [Tryz.ntmps143,List.size_toArray,List.length_cons,List.length_nil,Nat.reduceAdd,Nat.reduceSub,Array.replicate_succ,Array.replicate_zero,List.push_toArray,List.append_toArray,List.nil_append,List.cons_append]
 gi_wp2
 go_ret
 exact ⟨rfl,rfl⟩
set_option maxRecDepth 100000 in
theorem zea {α:Type} (kk:α->ByteArray) (kv:α->VC) (F:Fence) (n:Nat) (h1:F.fn 172) (hro:F.round=none) (hn:1<=n) (l Bs n₀:Nat) (c:VC) (cbd:c.Bnd) (ks:List α) (J Jx:List α->World->Prop)
 (W:World) (hJ:AbidesFrom W.heap.size J) (hY:∀pre x W,J pre W->pre.length<ks.length->YieldAt F (n - 1) Tryz.prog l #[.string (kk x), .agg #[.int .u8 (kv x).k, .int .i64 (kv x).n, .string (kv x).s, .slice (kv x).la (kv x).ll (kv x).lc, .slice (kv x).oa (kv x).ol (kv x).oc]] W fun e W'=>
  (e= .returned (.bool true)/\J (pre++ [x]) W'/\KeepAt n₀ Bs W W')∨(e= .returned (.bool false)/\Jx (pre++ [x]) W'))
 (hBs:ValAt W Bs 0 c) (hBn:Bs<W.heap.size) (hn₀:n₀<=W.heap.size) (hk:IsKids kk kv n₀ W c ks) (h0:J [] W):
 CallsIn F n Tryz.prog 172 #[.func (.yield l) #[] #[], .pointer (some ⟨Bs,0,none⟩)] W fun e W'=>(∃v,e= .returned v)/\
  ((∃ys,ys=ks/\J ys W')∨(∃pre,pre<+:ks/\Jx pre W')):=by
 have c1:=cbd.l1;have c2:=cbd.l2;have c3:=cbd.o1;have c4:=cbd.o2;have c5:=cbd.l3;have c6:=cbd.o3
 have HLen:=qh hk.len
 have b4:W.cell? ⟨Bs,4,none⟩=some (.slice c.oa c.ol c.oc):=hBs.c4
 have b3:W.cell? ⟨Bs,3,none⟩=some (.slice c.la c.ll c.lc):=hBs.c3
 obtain ⟨ck,cn,cs,la,ll,lc,oa,ol,oc⟩:=c
 dsimp only at*
 clear hBs cbd
 have HB4:=qh b4
 clear b4
 refine callsIn_of_wp Tryz.func172 rfl h1 ?_ hro
 simp only [Tryz.ntmps172,List.size_toArray,List.length_cons,List.length_nil,Nat.reduceAdd,Nat.reduceSub,Array.replicate_succ,Array.replicate_zero,List.push_toArray,List.append_toArray,List.nil_append,List.cons_append]
 gi_wp2
 gi_loopw [10] (fun i wr=>∃k:Nat,k<=ll/\i= .int .i64 k/\J (ks.take k) wr/\KeepAt n₀ Bs W wr)
  (fun i _=>ll - (intOf i).toNat)
 case atStart=>exact ⟨0,Nat.zero_le _,rfl,h0,KeepAt.refl _ _ _⟩
 case round=>
  obtain ⟨k,hkk,rfl,hJs,hB⟩:=hrel
  by_cases hlt:k<ll
  .have kl:k<ks.length:=by rw [HLen.out];omega
   obtain ⟨ek,b,o,ea,hb,x1⟩:=(hk.keep hB).l k kl hlt
   dsimp only at ea
   subst ea
   have r0:=x1.c0;have r1:=x1.c1;have r2:=x1.c2;have r3:=x1.c3;have r4:=x1.c4
   have hJ2:=hJ _ _ (wr.alloc (.cells (uV (kv ks[k])) 29)) none hJs (World.grownBy_alloc _ _ _) (fun r e=>by cases e)
   obtain ⟨fn,tmps,assign,body,hy,hR⟩:=hY _ ks[k] _ hJ2 (by rw [List.length_take];omega)
   rw [ek] at hy
   clear hJ2 x1
   have Hek:=qh ek
   clear ek
   gi_wp2
   refine hR.mono ?_
   rintro e W3 (⟨rfl,hJ3,hk3⟩|⟨rfl,hJx3⟩)
   .clear hy r0 r1 r2 r3 r4
    have hB3:=hB.trans ((KeepAt.alloc wr _ (by have:=hB.size;omega) (by have:=hB.size;omega)).trans hk3)
    gi_wp2
    go_roundw
    case rel=>exact ⟨k+1,by omega,by simp,by rw [Z2 ks k kl];exact hJ3,hB3⟩
    case measure=>simp [intOf];omega
   .gi_wp2
    refine bodyPost_ret (results_none rfl _ _ _) rfl ?_
    exact ⟨⟨_,rfl⟩, .inr ⟨_,by rw [<-Z2 ks k kl];exact List.take_prefix _ _,hJx3⟩⟩
  .obtain rfl:k=ll:=by omega
   have b4:wr.cell? ⟨Bs,4,none⟩=some (.slice oa ol oc):=hB.cell (.inr rfl) HB4.out
   gi_wp2
   clear b4
   have hB0:=hB
   have hJs0:=hJs
   clear hB hJs hlt hkk
   gi_loopw [22] (fun i wr=>∃j:Nat,j<=ol/\i= .int .i64 j/\J (ks.take (k+j)) wr/\KeepAt n₀ Bs W wr)
    (fun i _=>ol - (intOf i).toNat)
   case atStart=>exact ⟨0,Nat.zero_le _,rfl,hJs0,hB0⟩
   case round=>
    clear hB0 hJs0
    obtain ⟨j,hkk,rfl,hJs,hB⟩:=hrel
    by_cases hlt:j<ol
    .have kl:k+j<ks.length:=by rw [HLen.out];omega
     obtain ⟨b,o,ea,hb,g1,x1⟩:=(hk.keep hB).o j kl
     dsimp only at ea
     subst ea
     dsimp only at g1 x1
     have r0:=x1.c0;have r1:=x1.c1;have r2:=x1.c2;have r3:=x1.c3;have r4:=x1.c4
     have hJ2:=hJ _ _ (wr.alloc (.cells #[.string (kk ks[k+j]), .int .u8 (kv ks[k+j]).k, .int .i64 (kv ks[k+j]).n, .string (kv ks[k+j]).s, .slice (kv ks[k+j]).la (kv ks[k+j]).ll (kv ks[k+j]).lc, .slice (kv ks[k+j]).oa (kv ks[k+j]).ol (kv ks[k+j]).oc] 62)) none hJs (World.grownBy_alloc _ _ _) (fun r e=>by cases e)
     obtain ⟨fn,tmps,assign,body,hy,hR⟩:=hY _ ks[k+j] _ hJ2 (by rw [List.length_take];omega)
     clear hJ2 x1
     gi_wp2
     refine hR.mono ?_
     rintro e W3 (⟨rfl,hJ3,hk3⟩|⟨rfl,hJx3⟩)
     .clear hy r0 r1 r2 r3 r4 g1
      have hB3:=hB.trans ((KeepAt.alloc wr _ (by have:=hB.size;omega) (by have:=hB.size;omega)).trans hk3)
      gi_wp2
      go_roundw
      case rel=>exact ⟨j+1,by omega,by simp,by rw [<-Nat.add_assoc,Z2 ks (k+j) kl];exact hJ3,hB3⟩
      case measure=>simp [intOf];omega
     .gi_wp2
      refine bodyPost_ret (results_none rfl _ _ _) rfl ?_
      exact ⟨⟨_,rfl⟩, .inr ⟨_,by rw [<-Z2 ks (k+j) kl];exact List.take_prefix _ _,hJx3⟩⟩
    .gi_wp2
     go_end0
     exact ⟨⟨_,rfl⟩, .inl ⟨_,rfl,by rw [List.take_of_length_le (by rw [HLen.out];omega)] at hJs;exact hJs⟩⟩
structure Kid (w:World) (P:V->Prop) where
 kk:ByteArray
 v:V
 kv:VC
 is:IsVal w w.heap.size v kv
 sz:kk.size<=140737488355328
 p:P v
def Kid.pair {w:World} {P:V->Prop} (x:Kid w P):ByteArray×V:=(x.kk,x.v)
def Kid.encs {w:World} {P:V->Prop} (x:Kid w P):Array Value:= #[.string x.kk, .agg #[.int .u8 x.kv.k, .int .i64 x.kv.n, .string x.kv.s, .slice x.kv.la x.kv.ll x.kv.lc, .slice x.kv.oa x.kv.ol x.kv.oc]]
def pairs (l:List V) (o:List (ByteArray×V)):List (ByteArray×V):=l.map (fun v=>(⟨#[]⟩,v))++o
theorem Kf (w:World) (P:V->Prop) (l:List V) (o:List (ByteArray×V)) (c:VC) (h1:IsVals w w.heap.size l c.la c.ll c.lc) (h2:IsFields w w.heap.size o c.oa c.ol c.oc) (hl:∀v ∈ l,P v) (ho:∀f ∈ o,P f.2):
 ∃ks:List (Kid w P),IsKids Kid.kk Kid.kv w.heap.size w c ks/\ks.map Kid.pair=pairs l o:=by
 obtain ⟨l1,l2,l3,l4,lb,lo,lf,l5,l6⟩:=h1
 obtain ⟨o1,o2,o3,o4,ob,oo,of,o5,o6⟩:=h2
 refine ⟨List.ofFn (fun i:Fin l.length=>(⟨⟨#[]⟩,l[i],lf i,(l6 i i.2).2,Nat.zero_le _,hl _ (List.getElem_mem i.2)⟩:Kid w P))++List.ofFn (fun i:Fin o.length=>(⟨o[i].1,o[i].2,of i,(o6 i i.2).2.2.2,(o6 i i.2).2.1,ho _ (List.getElem_mem i.2)⟩:Kid w P)),⟨?_, ?_, ?_⟩, ?_⟩
 .simp [l1,o1]
 .intro i hi hil
  rw [List.getElem_append_left (by simp;omega)]
  simp only [List.getElem_ofFn]
  exact ⟨trivial,lb,lo,(l5 (by omega)).1,(l5 (by omega)).2,(l6 i (by omega)).1⟩
 .intro i hi
  simp only [List.length_append,List.length_ofFn] at hi
  rw [List.getElem_append_right (by simp;omega)]
  simp only [List.getElem_ofFn,List.length_ofFn,l1,Nat.add_sub_cancel_left]
  have hio:i<o.length:=by omega
  exact ⟨ob,oo,(o5 (by omega)).1,(o5 (by omega)).2,(o6 i hio).1,(o6 i hio).2.2.1⟩
 .simp only [List.map_append,pairs]
  congr 1
  .apply List.ext_getElem
   .simp
   .intro i h1 h2;simp [Kid.pair]
  .apply List.ext_getElem
   .simp
   .intro i h1 h2;simp [Kid.pair]
theorem Kd (F:Fence) (n:Nat) (h1:F.fn 172) (hro:F.round=none) (hn:1<=n) (w0:World) (P:V->Prop) (Bs:Nat) (c:VC) (cbd:c.Bnd) (ks:List (Kid w0 P)) (w:World) (n₀:Nat) (hn₀:n₀<=w.heap.size) (hBn:Bs<w.heap.size)
 (hBs:ValAt w Bs 0 c) (hk:IsKids Kid.kk Kid.kv n₀ w c ks):
 SeqStopsK F n Tryz.prog 172 #[.pointer (some ⟨Bs,0,none⟩)] Kid.encs (KeepAt n₀ Bs) (fun ys=>ys=ks) (fun pre=>pre<+:ks) ks.length w:=fun l J Jx W hW hJ _ hY h0=>
 zea Kid.kk Kid.kv F n h1 hro hn l Bs n₀ c cbd ks J Jx W hJ hY (hBs.keep hW hBn) (by have:=hW.size;omega) (by have:=hW.size;omega) (hk.keep (Bs:=Bs) (.of_below hW hn₀ hBn)) h0
end Go.Proofs.YtbgheehjfnoiiaaGreatDoor
