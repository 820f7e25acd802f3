/-
  Contracts of the functions that the law reaches: conciliatorref01.Sound: of a value in.
-/
import Derived.Test.YtnjgbiachcfigaaGreatDoorIw5
import Derived.Test.YtnjgbiachcfigaaGreatDoorIw11
import Derived.Laws.StructEq
namespace Go.Proofs.YtnjgbiachcfigaaGreatDoor
open Go.RowKit
set_option maxHeartbeats 16000000
set_option maxRecDepth 100000 in
theorem Jv (w:World) (k n:Int) (s:ByteArray) (la:Option Addr) (lc:Nat) (oa:Option Addr) (oc:Nat) (hT:Tabs w) (hsz:s.size<=140737488355328)
 (hp:(k=0/\n=0/\s.toList= [])∨(k=1/\(n=0∨n=1)/\s.toList= [])∨(k=2/\s.toList= [])∨(k=3/\n=0/\Lib.validD s.data.toList=true)):
 uP 18 #[.agg (uU k n s la 0 lc oa 0 oc)] w fun e w'=>e= .returned (.bool true)/\uB w w':=by
 delta uU uB uP
 have hv:Lib.validD s.data.toList=true:=by
  rcases hp with ⟨_,_,h⟩|⟨_,_,h⟩|⟨_,h⟩|⟨_,_,h⟩
  .exact Jo h
  .exact Jo h
  .exact Jo h
  .exact h
 have hc:=fun (W:World) hT=>(Ym s W hsz hT)
 rw [hv] at hc
 have HC:=qh hc
 clear hc hv
 rcases hp with ⟨rfl,rfl,h⟩|⟨rfl,rfl|rfl,h⟩|⟨rfl,h⟩|⟨rfl,rfl,h⟩
 all_goals
  go_enter Tryz.func18,Tryz.ntmps18
  go_wp2_with (go_at_call 52;refine (HC.out _ (hT.below ((Below.refl _ _).alloc (Nat.le_refl _) _))).mono ?_;rintro e w' ⟨rfl,hb⟩;obtain ⟨hc,hf⟩:=za4 hb;have hz:=hb.size;simp only [World.size_alloc] at hz)
  refine wp_loop_rounds 1 ?_
  rw [rounds_succ]
  go_wp2_with fail
  refine wp_loop_rounds 1 ?_
  rw [rounds_succ]
  go_wp2_with fail
  go_ret
  exact ⟨rfl,((Below.refl _ _).alloc (Nat.le_refl _) _).trans (hb.mono (by simp))⟩
set_option maxRecDepth 100000 in
theorem zgb (a:V):∀(w:World) (c:VC),IsVal w w.heap.size a c->Tabs w->
 uP 18 #[.agg (uV c)] w fun e w'=>e= .returned (.bool a.sound)/\uB w w':=by
 delta uV uB uP
 induction a using V.ind with
 |h k n s l o ihl iho=>
 have IHL:=qh ihl;have IHO:=qh iho;clear ihl iho
 intro w c ha hT
 cases ha with
 |mk c l o cl co lb lo ob oo cbd hl ho hla hoa hlc hlv hoc hov=>
 have c1:=cbd.l1;have c2:=cbd.l2;have c3:=cbd.o1;have c4:=cbd.o2;have hsz:=cbd.s1
 by_cases hp:plainB c.k c.n c.s c.ll c.ol=true
 case neg=>
  have hp:plainB c.k c.n c.s c.ll c.ol=false:=by simpa using hp
  refine (zop w c hT cbd hp).mono ?_
  rintro e w' ⟨rfl,hb⟩
  exact ⟨Zc (zdk (by rw [<-hl, <-ho];exact hp)).symm,hb⟩
 have hst:=K2 w c 36
 have hsd:(V.mk c.k c.n c.s l o).sound=(rising o && soundL l && soundO o):=by simp [V.sound, <-hl, <-ho,hp]
 obtain ⟨k,n,s,la,ll,lc,oa,ol,oc⟩:=c
 dsimp only at*
 have Hl:=qh hl;have Ho:=qh ho;clear hl ho
 have hval:=fun (W:World) hT=>(Ym s W hsz hT)
 rcases zqq hp with ⟨h1,h2,h3,h4,h5⟩|⟨h1,h2,h3,h4,h5⟩|⟨h1,h3,h4,h5⟩|⟨h1,h2,h3,h4,h5⟩|⟨h1,h2,h3,h5⟩|⟨h1,h2,h3,h4⟩
 .obtain rfl:l= [] :=len0 Hl.out h4
  obtain rfl:o= [] :=len0 Ho.out h5
  subst h4 h5
  refine (Jv w k n s la lc oa oc hT hsz (.inl ⟨h1,h2,h3⟩)).mono ?_
  rintro e w' ⟨rfl,hb⟩
  exact ⟨Zc (by rw [hsd];rfl),hb⟩
 .obtain rfl:l= [] :=len0 Hl.out h4
  obtain rfl:o= [] :=len0 Ho.out h5
  subst h4 h5
  refine (Jv w k n s la lc oa oc hT hsz (.inr (.inl ⟨h1,h2,h3⟩))).mono ?_
  rintro e w' ⟨rfl,hb⟩
  exact ⟨Zc (by rw [hsd];rfl),hb⟩
 .obtain rfl:l= [] :=len0 Hl.out h4
  obtain rfl:o= [] :=len0 Ho.out h5
  subst h4 h5
  refine (Jv w k n s la lc oa oc hT hsz (.inr (.inr (.inl ⟨h1,h3⟩)))).mono ?_
  rintro e w' ⟨rfl,hb⟩
  exact ⟨Zc (by rw [hsd];rfl),hb⟩
 .obtain rfl:l= [] :=len0 Hl.out h4
  obtain rfl:o= [] :=len0 Ho.out h5
  subst h4 h5
  refine (Jv w k n s la lc oa oc hT hsz (.inr (.inr (.inr ⟨h1,h2,h3⟩)))).mono ?_
  rintro e w' ⟨rfl,hb⟩
  exact ⟨Zc (by rw [hsd];rfl),hb⟩
 .-- a list
  obtain rfl:o= [] :=len0 Ho.out h5
  subst h1 h2 h5
  rw [Jo h3] at hval
  have HC:=qh hval
  have HSD:Hid ((V.mk 4 0 s l []).sound=soundL l):=hsd.trans (by simp [rising,soundO])
  clear hval hp hsd hoc hov hoa
  obtain ⟨W,hW⟩:∃W,(V.mk 4 0 s l []).sound=W:=⟨_,rfl⟩
  rw [hW]
  have HW:=qh hW
  clear hW
  go_enter Tryz.func18,Tryz.ntmps18
  go_wp2_with (go_at_call 52;refine (HC.out _ (hT.below ((Below.refl _ _).alloc (Nat.le_refl _) _))).mono ?_;rintro e w' ⟨rfl,hb⟩;obtain ⟨hc,hf⟩:=za4 hb;have hz:=hb.size;simp only [World.size_alloc] at hz)
  have hB0:=hst.step hb
  clear hst hb hc hf hz
  go_loopw [3] (fun i wr=>∃k:Nat,k<=ll/\i= .int .i64 k/\Hid (soundL (l.take k)=true)/\Boxed1 w wr ⟨4,0,s,la,ll,lc,oa,0,oc⟩) (fun i _=>ll - (intOf i).toNat)
  case atStart=>exact ⟨0,Nat.zero_le _,rfl,by rfl,hB0⟩
  case round=>
   clear hB0
   obtain ⟨k,hk,rfl,HJ,hB⟩:=hrel
   have b1:wr.cell? ⟨w.heap.size,3,none⟩=some (.slice la ll lc):=hB.a.c3
   by_cases hlt:k<ll
   .obtain ⟨ela,hlb⟩:=hla (by omega)
    have kl:k<l.length:=by rw [<-Hl.out];exact hlt
    have x1:=(hlc k kl).keep hB.below hlb
    rw [ela] at b1
    have r0:=x1.c0;have r1:=x1.c1;have r2:=x1.c2;have r3:=x1.c3;have r4:=x1.c4
    clear ela x1
    have ih:=IHL.out _ (List.getElem_mem kl) wr (cl k) ((hlv k kl).later_ hB.below) (hT.below hB.below)
    cases hx:l[k].sound with
    | true=>
      rw [hx] at ih
      have HX:=qh hx
      have H:=qh ih
      clear ih hx
      go_wp2_with (go_at_call 18;refine H.out.mono ?_;rintro e w' ⟨rfl,hb⟩)
      go_roundw
      case rel=>exact ⟨k+1,by omega,by go_num,zh7 HJ.out kl HX.out,hB.step hb⟩
      case measure=>simp [intOf];omega
    | false=>
      rw [hx] at ih
      have HX:=qh hx
      have H:=qh ih
      clear ih hx
      go_wp2_with (go_at_call 18;refine H.out.mono ?_;rintro e w' ⟨rfl,hb⟩)
      go_ret
      exact ⟨Zc (by rw [<-HW.out,HSD.out,zpp kl HX.out]),(hB.step hb).below⟩
   .have b2:wr.cell? ⟨w.heap.size,4,none⟩=some (.slice oa 0 oc):=hB.a.c4
    go_wp2_with fail
    refine wp_loop_rounds 1 ?_
    rw [rounds_succ]
    go_wp2_with fail
    go_ret
    exact ⟨Zc (by rw [<-HW.out,HSD.out, <-HJ.out,List.take_of_length_le (by have:=Hl.out;omega)]),hB.below⟩
 .-- an object
  obtain rfl:l= [] :=len0 Hl.out h4
  subst h1 h2 h4
  rw [Jo h3] at hval
  have HC:=qh hval
  have HSD:Hid ((V.mk 5 0 s [] o).sound=(rising o && soundO o)):=hsd.trans (by simp [soundL])
  clear hval hp hsd hlc hlv hla
  obtain ⟨W,hW⟩:∃W,(V.mk 5 0 s [] o).sound=W:=⟨_,rfl⟩
  rw [hW]
  have HW:=qh hW
  clear hW
  go_enter Tryz.func18,Tryz.ntmps18
  go_wp2_with (go_at_call 52;refine (HC.out _ (hT.below ((Below.refl _ _).alloc (Nat.le_refl _) _))).mono ?_;rintro e w' ⟨rfl,hb⟩;obtain ⟨hc,hf⟩:=za4 hb;have hz:=hb.size;simp only [World.size_alloc] at hz)
  have hB0:=hst.step hb
  clear hst hb
  refine wp_loop_rounds 1 ?_
  rw [rounds_succ]
  go_wp2_with fail
  clear hc hf hz
  go_loopw [5] (fun i wr=>∃k:Nat,k<=ol/\i= .int .i64 k/\Hid (soundO (o.take k)=true/\rising (o.take k)=true)/\Boxed1 w wr ⟨5,0,s,la,0,lc,oa,ol,oc⟩) (fun i _=>ol - (intOf i).toNat)
  case atStart=>exact ⟨0,Nat.zero_le _,rfl,⟨by rfl,by rfl⟩,hB0⟩
  case round =>
   clear hB0
   obtain ⟨k,hk,hi,HJ,hB⟩:=hrel
   have b1:wr.cell? ⟨w.heap.size,4,none⟩=some (.slice oa ol oc):=hB.a.c4
   by_cases hlt:k<ol
   .obtain ⟨ela,hlb⟩:=hoa (by omega)
    have kl:k<o.length:=by rw [<-Ho.out];exact hlt
    obtain ⟨g1,ksz,x1⟩:=hoc k kl
    have x1:=x1.keep hB.below hlb
    have g1:=Za hB.below g1 hlb
    have hval:=fun (W:World) hT=>(Ym o[k].1 W ksz hT)
    have q1:=Zb b1
    rw [ela] at b1 q1
    have r0:=x1.c0;have r1:=x1.c1;have r2:=x1.c2;have r3:=x1.c3;have r4:=x1.c4
    have ih:=IHO.out _ (List.getElem_mem kl) wr (co k) ((hov k kl).later_ hB.below) (hT.below hB.below)
    cases hx:o[k].2.sound with
    | false=>
      rw [hx] at ih
      have HX:=qh hx
      have H:=qh ih
      clear ih hx ela x1 hval q1 g1
      subst hi
      go_wp2_with (go_at_call 18;refine H.out.mono ?_;rintro e w' ⟨rfl,hb⟩)
      refine Zl (by kernel_rfl) (by kernel_rfl) ?_
      repeat (go_big_quiet_step (fail))
      refine wpQuiet_nil ?_
      intro _ hw'
      obtain ⟨pq,hw''⟩:=hw'
      subst hw''
      go_wp2_with fail
      go_ret
      exact ⟨Zc (by rw [<-HW.out,HSD.out,zc2 kl (.inr HX.out)];simp),((hB.step hb).step (Ze _ _)).below⟩
    | true =>
      rw [hx] at ih
      have HX:=qh hx
      have H:=qh ih
      clear ih hx x1 ela
      cases hv:Lib.validD o[k].1.data.toList with
      | false=>
        rw [hv] at hval
        have HV:=qh hv
        have HVC:=qh hval
        clear hv hval
        subst hi
        go_wp2_with (go_at_call 18;refine H.out.mono ?_;rintro e w' ⟨rfl,hb⟩)
        have q2:=Zb (Za hb b1 (by have:=hB.size;omega))
        have t1:=Zb (Za hb g1 (by have:=hB.below.size;omega))
        clear q1
        refine Zl (by kernel_rfl) (by kernel_rfl) ?_
        repeat (go_big_quiet_step (((go_at_call 52;exact Zg (HVC.out _ (hT.below ((hB.step hb).below.trans ((Ze _ _).mono (by have:=(hB.step hb).size;omega)))))))))
        refine wpQuiet_nil ?_
        intro _ hw'
        obtain ⟨pq,hw''⟩:=hw'
        subst hw''
        go_wp2_with fail
        go_ret
        exact ⟨Zc (by rw [<-HW.out,HSD.out,zc2 kl (.inl HV.out)];simp),((hB.step hb).step (Ze _ _)).below⟩
      | true =>
        rw [hv] at hval
        have HV:=qh hv
        have HVC:=qh hval
        clear hv hval
        rcases k with _|j
        .subst hi
         clear hoa
         go_wp2_with (go_at_call 18;refine H.out.mono ?_;rintro e w' ⟨rfl,hb⟩)
         have q2:=Zb (Za hb b1 (by have:=hB.size;omega))
         have t1:=Zb (Za hb g1 (by have:=hB.below.size;omega))
         simp only [Nat.zero_mul,Nat.add_zero] at t1
         clear q1
         refine Zl (by kernel_rfl) (by kernel_rfl) ?_
         repeat (go_big_quiet_step (((go_at_call 52;exact Zg (HVC.out _ (hT.below ((hB.step hb).below.trans ((Ze _ _).mono (by have:=(hB.step hb).size;omega)))))))))
         refine wpQuiet_nil ?_
         intro _ hw'
         obtain ⟨pq,hw''⟩:=hw'
         subst hw''
         go_wp2_with fail
         go_roundw
         case rel=>exact ⟨1,by omega,by go_num,⟨zbq HJ.out.1 kl HV.out HX.out,zel o⟩,(hB.step hb).step (Ze _ _)⟩
         case measure=>simp [intOf];omega
        .have hi2:=hi.trans (show Value.int .i64 ((j+1:Nat):Int)= .int .i64 ((j:Int)+1) by go_num)
         clear hi
         subst hi2
         have jl:j<o.length:=by omega
         obtain ⟨g2,_,_⟩:=hoc j jl
         have g2:=Za hB.below g2 hlb
         go_wp2_with (go_at_call 18;refine H.out.mono ?_;rintro e w' ⟨rfl,hb⟩)
         have q2:=Zb (Za hb b1 (by have:=hB.size;omega))
         have t1:=Zb (Za hb g1 (by have:=hB.below.size;omega))
         have t2:=Zb (Za hb g2 (by have:=hB.below.size;omega))
         clear q1 g1 g2 r0 r1 r2 r3 r4
         by_cases hr:Op.bytesLess o[j].1.toList o[j+1].1.toList=true
         .obtain ⟨a1,a2⟩:=X8 _ _ hr
          have a3:(o[j+1].1.toList==o[j].1.toList)=false:=by simp [Ne.symm a2]
          have HR:=qh hr
          clear hr a2
          refine Zl (by kernel_rfl) (by kernel_rfl) ?_
          repeat (go_big_quiet_step (((go_at_call 52;exact Zg (HVC.out _ (hT.below ((hB.step hb).below.trans ((Ze _ _).mono (by have:=(hB.step hb).size;omega)))))))))
          refine wpQuiet_nil ?_
          intro _ hw'
          obtain ⟨pq,hw''⟩:=hw'
          subst hw''
          clear q2 t1 t2 a1 a3
          go_wp2_with fail
          go_roundw
          case rel=>exact ⟨j+1+1,by omega,by go_num,⟨zbq HJ.out.1 kl HV.out HX.out,zb9 HJ.out.2 kl HR.out⟩,(hB.step hb).step (Ze _ _)⟩
          case measure=>simp [intOf];omega
         .have hr:Op.bytesLess o[j].1.toList o[j+1].1.toList=false:=by simpa using hr
          have HR:=qh hr
          have a1:Op.bytesLess o[j+1].1.toList o[j].1.toList=true∨(Op.bytesLess o[j+1].1.toList o[j].1.toList=false/\o[j+1].1.toList=o[j].1.toList):=by
           rcases zbj o[j+1].1.toList o[j].1.toList with h|h|h
           .exact .inl h
           .cases hq:Op.bytesLess o[j+1].1.toList o[j].1.toList with
            |true=>exact .inl rfl
            |false=>exact .inr ⟨rfl,h⟩
           .rw [hr] at h;cases h
          clear hr
          rcases a1 with a1|⟨a1,a2⟩
          .refine Zl (by kernel_rfl) (by kernel_rfl) ?_
           repeat (go_big_quiet_step (((go_at_call 52;exact Zg (HVC.out _ (hT.below ((hB.step hb).below.trans ((Ze _ _).mono (by have:=(hB.step hb).size;omega)))))))))
           refine wpQuiet_nil ?_
           intro _ hw'
           obtain ⟨pq,hw''⟩:=hw'
           subst hw''
           clear q2 t1 t2 a1
           go_wp2_with fail
           go_ret
           exact ⟨Zc (by rw [<-HW.out,HSD.out,Jw kl HR.out];simp),((hB.step hb).step (Ze _ _)).below⟩
          .have a3:(o[j+1].1.toList==o[j].1.toList)=true:=by rw [a2];simp
           clear a2
           refine Zl (by kernel_rfl) (by kernel_rfl) ?_
           repeat (go_big_quiet_step (((go_at_call 52;exact Zg (HVC.out _ (hT.below ((hB.step hb).below.trans ((Ze _ _).mono (by have:=(hB.step hb).size;omega)))))))))
           refine wpQuiet_nil ?_
           intro _ hw'
           obtain ⟨pq,hw''⟩:=hw'
           subst hw''
           clear q2 t1 t2 a1 a3
           go_wp2_with fail
           go_ret
           exact ⟨Zc (by rw [<-HW.out,HSD.out,Jw kl HR.out];simp),((hB.step hb).step (Ze _ _)).below⟩
   .subst hi
    go_wp2_with fail
    go_ret
    refine ⟨Zc ?_,hB.below⟩
    have hjo:=HJ.out
    rw [List.take_of_length_le (by have:=Ho.out;omega)] at hjo
    rw [<-HW.out,HSD.out,hjo.1,hjo.2]
    rfl
def St.ok (s:St):Bool:=if s.list then s.key.toList.isEmpty && decide (0<=s.i) else s.i==0 && Lib.validD s.key.data.toList
def pathSound (p:List St):Bool:=decide (p.length<=16) && p.all St.ok
theorem St.ext' {a b:St} (h1:a.list=b.list) (h2:a.i=b.i) (h3:a.key=b.key):a=b:=by
 cases a;cases b;simp_all
def stNe (a b:St):Bool:= !(a.list==b.list && a.i==b.i && a.key.toList==b.key.toList)
theorem Ki (a b:St):stNe a b= !eqB a b:=by
 unfold stNe
 congr 1
 by_cases h:a=b
 .subst h;simp [eqB]
 .rw [Yg h]
  cases h1:(a.list==b.list && a.i==b.i && a.key.toList==b.key.toList) with
  |false=>rfl
  | true=>
    simp at h1
    exact absurd (St.ext' h1.1.1 h1.1.2 (Xq h1.2)) h
theorem zc6 (a b:St) (w:World):(binOp .neq 77 (.agg #[.bool a.list, .int .i64 a.i, .string a.key]) (.agg #[.bool b.list, .int .i64 b.i, .string b.key])).run Tryz.prog w= .ok (.bool (stNe a b)) w:=by
 have hS:Tryz.prog.underlying 77=some (.struct (Tryz.prog.fieldsOf 77)):=by kernel_rfl
 have hp:Tryz.prog.stoodInHeld 77=false:=by kernel_rfl
 rw [run_neq_struct,show (10000:Nat)=9999+1 from rfl,run_equalIn_agg w 9999 77 _ _ hS hp]
 simp only [Program.fieldsOf,Tryz.underlying77,stNe]
 go_simp
 by_cases h1:a.list=b.list<;>by_cases h2:a.i=b.i<;>by_cases h3:a.key.toList=b.key.toList<;>simp [h1,h2,h3]
set_option maxRecDepth 100000 in
theorem zk5 (l l':List St) (w:World) (a a':Option Addr) (n m c c':Nat) (h:IsSteps w w.heap.size l a n c) (h':IsSteps w w.heap.size l' a' m c'):
 uP 92 #[.slice a n c, .slice a' m c'] w fun e w'=>e= .returned (.bool (eqB l l'))/\uB w w':=by
 delta uB uP
 have k1:=h.max;have k2:=h.few;have k3:=h'.max;have k4:=h'.few
 have HLn:=qh h.len;have HLm:=qh h'.len
 by_cases e:n=m
 case neg=>
  go_enter Tryz.func92,Tryz.ntmps92
  have f1:((n:Int) !=(m:Int))=true:=by simp;omega
  go_wp2_with fail
  go_ret
  exact ⟨Zc (Yg (fun h=>e (by rw [HLn.out,HLm.out,h]))).symm,Below.refl _ _⟩
 subst e
 go_enter Tryz.func92,Tryz.ntmps92
 go_wp2_with fail
 go_loopw [13] (fun i wr=>∃k:Nat,k<=n/\i= .int .i64 k/\Hid (∀j,j<k->l[j]? =l'[j]?)/\uB w wr) (fun i _=>n - (intOf i).toNat)
 case atStart=>exact ⟨0,Nat.zero_le _,rfl,fun j hj=>by omega,Below.refl _ _⟩
 case round=>
  obtain ⟨k,hk,rfl,HJ,hB⟩:=hrel
  by_cases hlt:k<n
  .obtain ⟨b,o,kl,rfl,hb,x1,_⟩:=h.get hlt
   obtain ⟨b',o',kl',rfl,hb',x2,_⟩:=h'.get hlt
   have x1:=x1.keep hB hb
   have x2:=x2.keep hB hb'
   have r0:=Zb x1.c0;have r1:=Zb x1.c1;have r2:=Zb x1.c2
   have s0:=Zb x2.c0;have s1:=Zb x2.c1;have s2:=Zb x2.c2
   clear x1 x2 h h'
   go_wp2_with fail
   have hne:=fun W=>zc6 l[k] l'[k] W
   refine Zl (by kernel_rfl) (by kernel_rfl) ?_
   repeat (go_big_quiet_step (fail))
   refine wpQuiet_nil ?_
   intro _ hw'
   obtain ⟨pq,hw''⟩:=hw'
   subst hw''
   clear r0 r1 r2 s0 s1 s2 hne
   have hB2:=hB.on (Ze wr pq) hB.size
   generalize hx:stNe l[k] (l'[k]'kl')=bx
   cases bx with
   | false=>
     have EV:Hid (eqB l[k] (l'[k]'kl')=true):=by rw [Ki] at hx;show _=_;simpa using hx
     clear hx
     go_wp2_with fail
     go_roundw
     case rel=>exact ⟨k+1,by omega,by go_num,zah HJ kl kl' EV.out,hB2⟩
     case measure=>simp [intOf];omega
   | true=>
     have EV:Hid (eqB l[k] (l'[k]'kl')=false):=by rw [Ki] at hx;show _=_;simpa using hx
     clear hx
     go_wp2_with fail
     go_ret
     exact ⟨Zc (Yg (fun h=>by subst h;exact Qe EV.out rfl)).symm,hB2⟩
  .go_wp2_with fail
   go_ret
   exact ⟨Zc (Ys (Ji HJ.out (by have:=HLn.out;omega) (by have:=HLm.out;omega))).symm,hB⟩
noncomputable def begins {α:Type} (p q:List α):Bool:=eqB (p.take q.length) q
theorem zny {α:Type} {p q:List α} (h:p.length<q.length):begins p q=false:=Yg fun e=>by
 have:=congrArg List.length e
 simp at this;omega
theorem zio {α:Type} {p q:List α} (h:∀j,j<q.length->p[j]? =q[j]?) (hl:q.length<=p.length):begins p q=true:=Ys (by
 apply List.ext_getElem?
 intro j
 by_cases hj:j<q.length
 .rw [List.getElem?_take_of_lt hj];exact h j hj
 .rw [List.getElem?_eq_none (by simp;omega),List.getElem?_eq_none (by omega)])
theorem zi9 {α:Type} {p q:List α} {j:Nat} (h1:j<p.length) (h2:j<q.length) (h:eqB p[j] q[j] =false):begins p q=false:=Yg fun e=>by
 have h3:=congrArg (fun l=>l[j]?) e
 simp only [List.getElem?_take_of_lt h2] at h3
 rw [List.getElem?_eq_getElem h1,List.getElem?_eq_getElem h2] at h3
 exact Qe h (Option.some.inj h3)
set_option maxRecDepth 100000 in
theorem zo2 (l l':List St) (w:World) (a a':Option Addr) (n m c c':Nat) (h:IsSteps w w.heap.size l a n c) (h':IsSteps w w.heap.size l' a' m c'):
 uP 111 #[.slice a n c, .slice a' m c'] w fun e w'=>e= .returned (.bool (begins l l'))/\uB w w':=by
 delta uB uP
 have k1:=h.max;have k2:=h.few;have k3:=h'.max;have k4:=h'.few
 have HLn:=qh h.len;have HLm:=qh h'.len
 by_cases e:n<m
 case pos=>
  go_enter Tryz.func111,Tryz.ntmps111
  go_wp2_with fail
  go_ret
  exact ⟨Zc (zny (by rw [<-HLn.out, <-HLm.out];exact e)).symm,Below.refl _ _⟩
 have e:m<=n:=by omega
 go_enter Tryz.func111,Tryz.ntmps111
 go_wp2_with fail
 go_loopw [5] (fun i wr=>∃k:Nat,k<=m/\i= .int .i64 k/\Hid (∀j,j<k->l[j]? =l'[j]?)/\uB w wr) (fun i _=>m - (intOf i).toNat)
 case atStart=>exact ⟨0,Nat.zero_le _,rfl,fun j hj=>by omega,Below.refl _ _⟩
 case round=>
  obtain ⟨k,hk,rfl,HJ,hB⟩:=hrel
  by_cases hlt:k<m
  .obtain ⟨b,o,kl,rfl,hb,x1,_⟩:=h.get (show k<n by omega)
   obtain ⟨b',o',kl',rfl,hb',x2,_⟩:=h'.get hlt
   have hlt2:k<n:=by omega
   have x1:=x1.keep hB hb
   have x2:=x2.keep hB hb'
   have r0:=Zb x1.c0;have r1:=Zb x1.c1;have r2:=Zb x1.c2
   have s0:=Zb x2.c0;have s1:=Zb x2.c1;have s2:=Zb x2.c2
   clear x1 x2 h h'
   go_wp2_with fail
   have hne:=fun W=>zc6 l[k] l'[k] W
   refine Zl (by kernel_rfl) (by kernel_rfl) ?_
   repeat (go_big_quiet_step (fail))
   refine wpQuiet_nil ?_
   intro _ hw'
   obtain ⟨pq,hw''⟩:=hw'
   subst hw''
   clear r0 r1 r2 s0 s1 s2 hne
   have hB2:=hB.on (Ze wr pq) hB.size
   generalize hx:stNe l[k] (l'[k]'kl')=bx
   cases bx with
   | false=>
     have EV:Hid (eqB l[k] (l'[k]'kl')=true):=by rw [Ki] at hx;show _=_;simpa using hx
     clear hx
     go_wp2_with fail
     go_roundw
     case rel=>exact ⟨k+1,by omega,by go_num,zah HJ kl kl' EV.out,hB2⟩
     case measure=>simp [intOf];omega
   | true=>
     have EV:Hid (eqB l[k] (l'[k]'kl')=false):=by rw [Ki] at hx;show _=_;simpa using hx
     clear hx
     go_wp2_with fail
     go_ret
     exact ⟨Zc (zi9 kl kl' EV.out).symm,hB2⟩
  .go_wp2_with fail
   go_ret
   exact ⟨Zc (zio (fun j hj=>HJ.out j (by have:=HLm.out;omega)) (by have:=HLn.out;have:=HLm.out;omega)).symm,hB⟩
theorem zoj {p q:List St} (h:p.length=q.length):begins p q=eqB p q:=by
 unfold begins
 rw [List.take_of_length_le (by omega)]
set_option maxRecDepth 100000 in
theorem zmp (l l':List St) (w:World) (a a':Option Addr) (n m c c':Nat) (h:IsSteps w w.heap.size l a n c) (h':IsSteps w w.heap.size l' a' m c'):
 uP 67 #[.slice a n c, .slice a' m c'] w fun e w'=>e= .returned (.bool (eqB l l'))/\uB w w':=by
 delta uB uP
 have HLn:=qh h.len;have HLm:=qh h'.len
 by_cases e:n=m
 case neg=>
  go_enter Tryz.func67,Tryz.ntmps67
  have f1:((n:Int)==(m:Int))=false:=by simp;omega
  go_wp2_with fail
  go_ret
  exact ⟨Zc (Yg (fun h=>e (by rw [HLn.out,HLm.out,h]))).symm,Below.refl _ _⟩
 subst e
 have hc:=zo2 l l' w a a' n n c c' h h'
 rw [zoj (by rw [<-HLn.out, <-HLm.out])] at hc
 have HC:=qh hc
 clear hc h h'
 go_enter Tryz.func67,Tryz.ntmps67
 have f1:((n:Int)==(n:Int))=true:=by simp
 go_wp2_with (go_at_call 111;refine HC.out.mono ?_;rintro e w' ⟨rfl,hb⟩)
 go_ret
 exact ⟨rfl,hb⟩
set_option maxRecDepth 100000 in
theorem zkz (s:St) (w:World) (hT:Tabs w) (hb:s.Bnd):
 uP 93 #[.agg #[.bool s.list, .int .i64 s.i, .string s.key]] w fun e w'=>e= .returned (.bool !s.ok)/\uB w w':=by
 delta uB uP
 have hsz:=hb.k1
 have hv:=fun W hT=>Ym s.key W hsz hT
 obtain ⟨ls,i,key⟩:=s
 dsimp only at*
 obtain ⟨vd,hvd⟩:∃vd,Lib.validD key.data.toList=vd:=⟨_,rfl⟩
 rw [hvd] at hv
 have HV:=qh hv
 have HVD:=qh hvd
 obtain ⟨be,hbe⟩:∃be,key.toList.isEmpty=be:=⟨_,rfl⟩
 obtain ⟨R,hR⟩:∃R,(!(St.ok ⟨ls,i,key⟩))=R:=⟨_,rfl⟩
 rw [hR]
 have hR2:R= !(if ls then be && decide (0<=i) else i==0 && vd):=by rw [<-hR];simp only [St.ok];rw [hbe,hvd]
 have HR:=qh hR2
 clear hv hvd hR hR2 hb
 cases ls with
 | true=>
   have f0:(key.toList== [])=be:=by rw [<-hbe];cases key.toList<;>rfl
   clear hbe
   cases be with
   | false=>
     go_enter Tryz.func93,Tryz.ntmps93
     go_wp2_with fail
     go_ret
     exact ⟨Zc (by rw [HR.out];rfl),(Below.refl _ _).alloc (Nat.le_refl _) _⟩
   | true=>
     by_cases hi:i<0
     .go_enter Tryz.func93,Tryz.ntmps93
      go_wp2_with fail
      go_ret
      exact ⟨Zc (by rw [HR.out];simp;omega),(Below.refl _ _).alloc (Nat.le_refl _) _⟩
     .go_enter Tryz.func93,Tryz.ntmps93
      go_wp2_with fail
      go_ret
      exact ⟨Zc (by rw [HR.out];simp;omega),(Below.refl _ _).alloc (Nat.le_refl _) _⟩
 | false=>
   clear hbe
   by_cases hi:i=0
   .subst hi
    go_enter Tryz.func93,Tryz.ntmps93
    go_wp2_with (go_at_call 52;refine (HV.out _ (hT.below ((Below.refl _ _).alloc (Nat.le_refl _) _))).mono ?_;rintro e w' ⟨rfl,hb⟩)
    go_ret
    exact ⟨Zc (by rw [HR.out];simp),hb.one⟩
   .have f1:(i !=0)=true:=by simp [hi]
    have Hi:=qh hi
    clear hi
    go_enter Tryz.func93,Tryz.ntmps93
    go_wp2_with fail
    go_ret
    exact ⟨Zc (by rw [HR.out];simp [Hi.out]),(Below.refl _ _).alloc (Nat.le_refl _) _⟩
theorem zq3 {α:Type} {l:List α} {p:α->Bool} {k:Nat} (kl:k<l.length) (h:p l[k] =true):l.any p=true:=by
 rw [List.any_eq_true];exact ⟨l[k],List.getElem_mem kl,h⟩
theorem zjv {α:Type} {l:List α} {p:α->Bool} {n:Nat} (hn:n=l.length) (h:∀j,j<n->∀hj:j<l.length,p l[j] =false):l.any p=false:=by
 rw [List.any_eq_false]
 intro x hx
 obtain ⟨j,hj,rfl⟩:=List.getElem_of_mem hx
 rw [h j (by omega) hj];simp
theorem zm6 {α:Type} {l:List α} {p:α->Bool} {k:Nat} (h:Hid (∀j,j<k->∀hj:j<l.length,p l[j] =false)) (kl:k<l.length) (e:p l[k] =false):Hid (∀j,j<k+1->∀hj:j<l.length,p l[j] =false):=by
 intro j hj hl
 by_cases hjk:j=k
 .subst hjk;exact e
 .exact h.out j (by omega) hl
set_option maxRecDepth 100000 in
theorem zgl (l:List St) (w:World) (a:Option Addr) (n c:Nat) (h:IsSteps w w.heap.size l a n c) (p:St->Bool) (g:Nat) (eg:∀args w,(callFunc g args).run Tryz.prog w= .ok (.enter g args) w)
 (hg:∀(s:St) (W:World),s.Bnd->uB w W->uP g #[.agg #[.bool s.list, .int .i64 s.i, .string s.key]] W fun e w'=>e= .returned (.bool (p s))/\uB W w'):
 uP 130 #[.slice a n c, .func (.func g) #[] #[]] w fun e w'=>(∃r:Int,e= .returned (.int .i64 r)/\Hid (decide (0<=r)=l.any p)/\ -1<=r/\r<=9223372036854775807)/\uB w w':=by
 delta uB uP
 have k1:=h.max;have k2:=h.few
 have HLn:=qh h.len
 have HG:=qh hg
 clear hg
 go_enter Tryz.func130,Tryz.ntmps130
 go_wp2_with fail
 go_loopw [5,8] (fun _ i wr=>∃k:Nat,k<=n/\i= .int .i64 k/\Hid (∀j,j<k->∀hj:j<l.length,p l[j] =false)/\uB w wr) (fun _ i _=>n - (intOf i).toNat)
 case atStart=>exact ⟨0,Nat.zero_le _,rfl,fun j hj=>by omega,Below.refl _ _⟩
 case round=>
  obtain ⟨k,hk,rfl,HJ,hB⟩:=hrel
  by_cases hlt:k<n
  .obtain ⟨b,o,kl,rfl,hb,x1,xb⟩:=h.get hlt
   have x1:=x1.keep hB hb
   have r0:=x1.c0;have r1:=x1.c1;have r2:=x1.c2
   have hc:=HG.out l[k] wr xb hB
   clear x1 h
   generalize hx:p l[k] =bx at hc
   have HX:=qh hx
   have HC:=qh hc
   clear hx hc
   cases bx with
   | false=>
     go_wp2_with (go_at_fn g;refine HC.out.mono ?_;rintro e w' ⟨rfl,hb'⟩)
     go_roundw
     case rel=>exact ⟨k+1,by omega,by go_num,zm6 HJ kl HX.out,hB.on hb' hB.size⟩
     case measure=>simp [intOf];omega
   | true=>
     go_wp2_with (go_at_fn g;refine HC.out.mono ?_;rintro e w' ⟨rfl,hb'⟩)
     go_ret
     exact ⟨⟨k,rfl,by show _=_;rw [zq3 kl HX.out];simp,by omega,by omega⟩,hB.on hb' hB.size⟩
  .go_wp2_with fail
   go_ret
   exact ⟨⟨-1,rfl,by show _=_;rw [zjv (n:=n) HLn.out (fun j hj=>HJ.out j (by omega))];rfl,by omega,by omega⟩,hB⟩
set_option maxRecDepth 100000 in
theorem zmu (l:List St) (w:World) (a:Option Addr) (n c:Nat) (h:IsSteps w w.heap.size l a n c) (p:St->Bool) (g:Nat) (eg:∀args w,(callFunc g args).run Tryz.prog w= .ok (.enter g args) w)
 (hg:∀(s:St) (W:World),s.Bnd->uB w W->uP g #[.agg #[.bool s.list, .int .i64 s.i, .string s.key]] W fun e w'=>e= .returned (.bool (p s))/\uB W w'):
 uP 94 #[.slice a n c, .func (.func g) #[] #[]] w fun e w'=>e= .returned (.bool (l.any p))/\uB w w':=by
 delta uB uP
 have k1:=h.max;have k2:=h.few
 have hc:=zgl l w a n c h p g eg hg
 have HC:=qh hc
 clear hg hc h eg
 go_enter Tryz.func94,Tryz.ntmps94
 go_wp2_with (go_at_call 130;refine HC.out.mono ?_;rintro e w' ⟨⟨r,rfl,hr,h1,h2⟩,hb⟩)
 go_ret
 exact ⟨Zc (by rw [<-hr.out]),hb⟩
set_option maxRecDepth 100000 in
theorem zk0 (l:List St) (w:World) (hT:Tabs w) (a:Option Addr) (n c:Nat) (h:IsSteps w w.heap.size l a n c):
 uP 55 #[.slice a n c] w fun e w'=>e= .returned (.bool (pathSound l))/\uB w w':=by
 delta uB uP
 have k1:=h.max;have k2:=h.few
 have HLn:=qh h.len
 have hc:=zmu l w a n c h (fun s=> !s.ok) 93 (enters_of Tryz.func93 (by kernel_rfl) rfl) (fun s W hb hW=>zkz s W (hT.below hW) hb)
 have HC:=qh hc
 clear hc h
 obtain ⟨R,hR⟩:∃R,pathSound l=R:=⟨_,rfl⟩
 obtain ⟨A,hA⟩:∃A,l.any (fun s=> !s.ok)=A:=⟨_,rfl⟩
 have hR2:R=(decide (n<=16) && !A):=by
  rw [<-hR, <-hA,HLn.out,pathSound];congr 1;rw [List.not_any_eq_all_not];simp
 rw [hR];rw [hA] at HC
 have HR:=qh hR2
 clear hR hR2 hA
 by_cases hn:n<=16
 .go_enter Tryz.func55,Tryz.ntmps55
  go_wp2_with (go_at_call 94;refine HC.out.mono ?_;rintro e w' ⟨rfl,hb⟩)
  go_ret
  exact ⟨Zc (by rw [HR.out];simp [hn]),hb⟩
 .go_enter Tryz.func55,Tryz.ntmps55
  go_wp2_with fail
  go_ret
  exact ⟨Zc (by rw [HR.out];simp [hn]),Below.refl _ _⟩
theorem Kv {l:List St} {k:Nat} {s:St} (kl:k<l.length) (hs:l[k] =s) (h:s.ok=false):pathSound l=false:=by
 unfold pathSound
 rw [Bool.and_eq_false_iff];right
 rw [List.all_eq_false]
 exact ⟨l[k],List.getElem_mem kl,by rw [hs,h];simp⟩
theorem zd2 {l:List St} {k:Nat} {s:St} (h:Hid (∀j,j<k->∀hj:j<l.length,l[j].ok=true)) (kl:k<l.length) (hs:l[k] =s) (e:s.ok=true):Hid (∀j,j<k+1->∀hj:j<l.length,l[j].ok=true):=by
 intro j hj hl
 by_cases hjk:j=k
 .subst hjk;rw [hs];exact e
 .exact h.out j (by omega) hl
theorem zko {l:List St} {n:Nat} (hn:n=l.length) (h:∀j,j<n->∀hj:j<l.length,l[j].ok=true):pathSound l=decide (n<=16):=by
 have:l.all St.ok=true:=by
  rw [List.all_eq_true]
  intro x hx
  obtain ⟨j,hj,rfl⟩:=List.getElem_of_mem hx
  exact h j (by omega) hj
 rw [pathSound,this,hn];simp
set_option maxRecDepth 100000 in
theorem zhy (l:List St) (w:World) (hT:Tabs w) (a:Option Addr) (n c:Nat) (h:IsSteps w w.heap.size l a n c):
 uP 107 #[.slice a n c] w fun e w'=>e= .returned (.bool (pathSound l))/\uB w w':=by
 delta uB uP
 have k1:=h.max;have k2:=h.few
 have HLn:=qh h.len
 go_enter Tryz.func107,Tryz.ntmps107
 go_wp2_with fail
 go_loopw [3] (fun i wr=>∃k:Nat,k<=n/\i= .int .i64 k/\Hid (∀j,j<k->∀hj:j<l.length,l[j].ok=true)/\uB w wr) (fun i _=>n - (intOf i).toNat)
 case atStart=>exact ⟨0,Nat.zero_le _,rfl,fun j hj=>by omega,Below.refl _ _⟩
 case round=>
  obtain ⟨k,hk,rfl,HJ,hB⟩:=hrel
  by_cases hlt:k<n
  .obtain ⟨b,o,kl,rfl,hb,x1,xb⟩:=h.get hlt
   have x1:=x1.keep hB hb
   have hTr:=hT.below hB
   obtain ⟨s,hs⟩:∃s,l[k] =s:=⟨_,rfl⟩
   rw [hs] at x1 xb
   have HS:=qh hs
   obtain ⟨ls,i,key⟩:=s
   have r0:=x1.c0;have r1:=x1.c1;have r2:=x1.c2
   dsimp only at r0 r1 r2
   have hv:=Ym key wr xb.k1 hTr
   obtain ⟨vd,hvd⟩:∃vd,Lib.validD key.data.toList=vd:=⟨_,rfl⟩
   rw [hvd] at hv
   have HV:=qh hv
   have HVD:=qh hvd
   obtain ⟨be,hbe⟩:∃be,key.toList.isEmpty=be:=⟨_,rfl⟩
   obtain ⟨R,hR⟩:∃R,(St.ok ⟨ls,i,key⟩)=R:=⟨_,rfl⟩
   have hR2:R=(if ls then be && decide (0<=i) else i==0 && vd):=by rw [<-hR];simp only [St.ok];rw [hbe,hvd]
   have HR2:=qh hR2
   have HR:=qh hR
   have hempty:be=true->vd=true:=by
    intro hb1
    have:key.toList= [] :=by simpa [hb1] using hbe
    rw [ByteArray.toList_eq] at this
    rw [<-hvd,this];decide
   have HE:=qh hempty
   clear x1 h hs hv hvd hR2 hR xb hempty hTr
   cases ls with
   | true=>
     have f0:(key.toList== [])=be:=by rw [<-hbe];cases key.toList<;>rfl
     clear hbe
     cases be with
     | false=>
       go_wp2_with fail
       go_ret
       exact ⟨Zc (Kv kl HS.out (by rw [HR.out,HR2.out];simp)).symm,hB⟩
     | true=>
       by_cases hi:i<0
       .go_wp2_with fail
        go_ret
        exact ⟨Zc (Kv kl HS.out (by rw [HR.out,HR2.out];simp;omega)).symm,hB⟩
       .have hvt:=HE.out rfl
        rw [hvt] at HV
        clear hvt
        go_wp2_with (go_at_call 52;refine HV.out.mono ?_;rintro e w' ⟨rfl,hb'⟩)
        go_roundw
        case rel=>exact ⟨k+1,by omega,by go_num,zd2 HJ kl HS.out (by rw [HR.out,HR2.out];simp;omega),hB.on hb' hB.size⟩
        case measure=>simp [intOf];omega
   | false=>
     clear hbe
     by_cases hi:i=0
     .subst hi
      cases vd with
      | false=>
        go_wp2_with (go_at_call 52;refine HV.out.mono ?_;rintro e w' ⟨rfl,hb'⟩)
        go_ret
        exact ⟨Zc (Kv kl HS.out (by rw [HR.out,HR2.out];simp)).symm,hB.on hb' hB.size⟩
      | true=>
        go_wp2_with (go_at_call 52;refine HV.out.mono ?_;rintro e w' ⟨rfl,hb'⟩)
        go_roundw
        case rel=>exact ⟨k+1,by omega,by go_num,zd2 HJ kl HS.out (by rw [HR.out,HR2.out];simp),hB.on hb' hB.size⟩
        case measure=>simp [intOf];omega
     .have f1:(i !=0)=true:=by simp [hi]
      have Hi:=qh hi
      clear hi
      go_wp2_with fail
      go_ret
      exact ⟨Zc (Kv kl HS.out (by rw [HR.out,HR2.out];simp [Hi.out])).symm,hB⟩
  .go_wp2_with fail
   go_ret
   refine ⟨Zc ?_,hB⟩
   rw [zko (n:=n) HLn.out (fun j hj=>HJ.out j (by omega))]
   simp;omega
theorem Cm.ne {a b:Cm} (h:a.k≠b.k∨a.key.toList≠b.key.toList∨a.i≠b.i∨a.j≠b.j∨a.n≠b.n∨a.s.toList≠b.s.toList∨eqv a.v b.v=false∨eqB a.path b.path=false):eqB a b=false:=Yg fun e=>by
 subst e
 rcases h with h|h|h|h|h|h|h|h
 .exact h rfl
 .exact h rfl
 .exact h rfl
 .exact h rfl
 .exact h rfl
 .exact h rfl
 .exact Jf h rfl
 .exact Qe h rfl
theorem Cm.same {a b:Cm} (h1:a.k=b.k) (h2:a.key.toList=b.key.toList) (h3:a.i=b.i) (h4:a.j=b.j) (h5:a.n=b.n) (h6:a.s.toList=b.s.toList) (h7:eqv a.v b.v=true) (h8:eqB a.path b.path=true):eqB a b=true:=Ys (by
 have h7:=Jk h7;have h8:=Qi h8;have h2:=Xq h2;have h6:=Xq h6
 cases a;cases b;simp_all)
theorem _root_.Go.RowKit.Below.cellA {w w1:World} {cs ds:Array Value} {t u:TypeId} (hb:uB ((w.alloc (.cells cs t)).alloc (.cells ds u)) w1) (j:Nat) (v:Value) (h:cs[j]? =some v):w1.cell? ⟨w.heap.size,j,none⟩=some v:=
 Za hb (Za ((Below.refl _ _).alloc (Nat.le_refl _) _) (Zv w cs t j v h) (by simp)) (by simp;omega)
theorem _root_.Go.RowKit.Below.cellB {w w1:World} {cs ds:Array Value} {t u:TypeId} (hb:uB ((w.alloc (.cells cs t)).alloc (.cells ds u)) w1) (j:Nat) (v:Value) (h:ds[j]? =some v):w1.cell? ⟨w.heap.size+1,j,none⟩=some v:=
 Za hb (by have:=Zv (w.alloc (.cells cs t)) ds u j v h;rwa [World.size_alloc] at this) (by simp)
set_option maxRecDepth 100000 in
theorem zlo (x y:Cm) (w:World) (c d:CC) (hx:IsComp w w.heap.size x c) (hy:IsComp w w.heap.size y d):
 uP 54 #[.agg (uC c), .agg (uC d)] w fun e w'=>e= .returned (.bool (eqB x y))/\uB w w':=by
 delta uC uB uP
 cases hx with
 |mk c p v hb hp hv=>
 cases hy with
 |mk d q u hb' hq hu=>
 have HV:Hid (∀W,uB w W->uP 91 #[.agg (uV c.v), .agg (uV d.v)] W fun e w'=>e= .returned (.bool (eqv v u))/\uB W w'):=fun W hW=>zoh v u W c.v d.v (hv.later_ hW) (hu.later_ hW)
 have HP:Hid (∀W,uB w W->uP 92 #[.slice c.pa c.pl c.pc, .slice d.pa d.pl d.pc] W fun e w'=>e= .returned (.bool (eqB p q))/\uB W w'):=fun W hW=>zk5 p q W _ _ _ _ _ _ (hp.later_ hW) (hq.later_ hW)
 obtain ⟨R,hR⟩:∃R,eqB (Cm.mk c.k p c.key c.i c.j c.n v c.s) (Cm.mk d.k q d.key d.i d.j d.n u d.s)=R:=⟨_,rfl⟩
 rw [hR]
 have HR:=qh hR
 clear hR hb hp hv hb' hq hu
 by_cases e0:c.k=d.k
 case neg=>
  have f0:(c.k==d.k)=false:=by simp [e0]
  have H0:=qh e0
  clear e0
  go_enter Tryz.func54,Tryz.ntmps54
  go_wp2_with fail
  go_ret
  exact ⟨Zc (by rw [<-HR.out];exact (Cm.ne (Or.inl H0.out)).symm),((Below.refl _ _).alloc (Nat.le_refl _) _).alloc (by simp) _⟩
 have f0:(c.k==d.k)=true:=by simp [e0]
 have H0:=qh e0
 clear e0
 by_cases e1:c.key.toList=d.key.toList
 case neg=>
  have f1:(c.key.toList==d.key.toList)=false:=by simp [e1]
  have H1:=qh e1
  clear e1
  go_enter Tryz.func54,Tryz.ntmps54
  go_wp2_with fail
  go_ret
  exact ⟨Zc (by rw [<-HR.out];exact (Cm.ne (Or.inr<| .inl H1.out)).symm),((Below.refl _ _).alloc (Nat.le_refl _) _).alloc (by simp) _⟩
 have f1:(c.key.toList==d.key.toList)=true:=by simp [e1]
 have H1:=qh e1
 clear e1
 by_cases e2:c.i=d.i
 case neg=>
  have f2:(c.i==d.i)=false:=by simp [e2]
  have H2:=qh e2
  clear e2
  go_enter Tryz.func54,Tryz.ntmps54
  go_wp2_with fail
  go_ret
  exact ⟨Zc (by rw [<-HR.out];exact (Cm.ne (Or.inr<| .inr<| .inl H2.out)).symm),((Below.refl _ _).alloc (Nat.le_refl _) _).alloc (by simp) _⟩
 have f2:(c.i==d.i)=true:=by simp [e2]
 have H2:=qh e2
 clear e2
 by_cases e3:c.j=d.j
 case neg=>
  have f3:(c.j==d.j)=false:=by simp [e3]
  have H3:=qh e3
  clear e3
  go_enter Tryz.func54,Tryz.ntmps54
  go_wp2_with fail
  go_ret
  exact ⟨Zc (by rw [<-HR.out];exact (Cm.ne (Or.inr<| .inr<| .inr<| .inl H3.out)).symm),((Below.refl _ _).alloc (Nat.le_refl _) _).alloc (by simp) _⟩
 have f3:(c.j==d.j)=true:=by simp [e3]
 have H3:=qh e3
 clear e3
 by_cases e4:c.n=d.n
 case neg=>
  have f4:(c.n==d.n)=false:=by simp [e4]
  have H4:=qh e4
  clear e4
  go_enter Tryz.func54,Tryz.ntmps54
  go_wp2_with fail
  go_ret
  exact ⟨Zc (by rw [<-HR.out];exact (Cm.ne (Or.inr<| .inr<| .inr<| .inr<| .inl H4.out)).symm),((Below.refl _ _).alloc (Nat.le_refl _) _).alloc (by simp) _⟩
 have f4:(c.n==d.n)=true:=by simp [e4]
 have H4:=qh e4
 clear e4
 by_cases e5:c.s.toList=d.s.toList
 case neg=>
  have f5:(c.s.toList==d.s.toList)=false:=by simp [e5]
  have H5:=qh e5
  clear e5
  go_enter Tryz.func54,Tryz.ntmps54
  go_wp2_with fail
  go_ret
  exact ⟨Zc (by rw [<-HR.out];exact (Cm.ne (Or.inr<| .inr<| .inr<| .inr<| .inr<| .inl H5.out)).symm),((Below.refl _ _).alloc (Nat.le_refl _) _).alloc (by simp) _⟩
 have f5:(c.s.toList==d.s.toList)=true:=by simp [e5]
 have H5:=qh e5
 clear e5
 cases ev:eqv v u with
 | false=>
   have EV:=qh ev
   rw [ev] at HV
   clear ev
   go_enter Tryz.func54,Tryz.ntmps54
   go_wp2_with (first|(go_at_call 91;refine (HV.out _ (((Below.refl _ _).alloc (Nat.le_refl _) _).alloc (by simp) _)).mono ?_;rintro e w1 ⟨rfl,hb1⟩;have q1:=hb1.cellA 1 _ rfl;have q2:=hb1.cellB 1 _ rfl)|(go_at_call 92;refine (HP.out _ hb1.two).mono ?_;rintro e w2 ⟨rfl,hb2⟩))
   go_ret
   exact ⟨Zc (by rw [<-HR.out];exact (Cm.ne (Or.inr<| .inr<| .inr<| .inr<| .inr<| .inr<| .inl EV.out)).symm),hb1.two⟩
 | true=>
   have EV:=qh ev
   rw [ev] at HV
   clear ev
   cases eb:eqB p q with
   | false=>
     have HB:=qh eb
     rw [eb] at HP
     clear eb
     go_enter Tryz.func54,Tryz.ntmps54
     go_wp2_with (first|(go_at_call 91;refine (HV.out _ (((Below.refl _ _).alloc (Nat.le_refl _) _).alloc (by simp) _)).mono ?_;rintro e w1 ⟨rfl,hb1⟩;have q1:=hb1.cellA 1 _ rfl;have q2:=hb1.cellB 1 _ rfl)|(go_at_call 92;refine (HP.out _ hb1.two).mono ?_;rintro e w2 ⟨rfl,hb2⟩))
     go_ret
     exact ⟨Zc (by rw [<-HR.out];exact (Cm.ne (Or.inr<| .inr<| .inr<| .inr<| .inr<| .inr<| .inr HB.out)).symm),hb1.two.on hb2 hb1.two.size⟩
   | true=>
     have HB:=qh eb
     rw [eb] at HP
     clear eb
     go_enter Tryz.func54,Tryz.ntmps54
     go_wp2_with (first|(go_at_call 91;refine (HV.out _ (((Below.refl _ _).alloc (Nat.le_refl _) _).alloc (by simp) _)).mono ?_;rintro e w1 ⟨rfl,hb1⟩;have q1:=hb1.cellA 1 _ rfl;have q2:=hb1.cellB 1 _ rfl)|(go_at_call 92;refine (HP.out _ hb1.two).mono ?_;rintro e w2 ⟨rfl,hb2⟩))
     go_ret
     exact ⟨Zc (by rw [<-HR.out];exact (Cm.same H0.out H1.out H2.out H3.out H4.out H5.out EV.out HB.out).symm),hb1.two.on hb2 hb1.two.size⟩
def kIs (k:Int):Bool:=decide (1<=k) && decide (k<=9)
def kKey (k:Int):Bool:=k==2||k==3
def kI (k:Int):Bool:=decide (4<=k) && decide (k<=9)
def kJ (k:Int):Bool:=k==7
def kN (k:Int):Bool:=k==1||k==9
def kV (k:Int):Bool:=k==2||k==4||k==6
def kS (k:Int):Bool:=k==8
def VC.none:VC:=⟨0,0, .empty, .none,0,0, .none,0,0⟩
def CC.bare (c:CC):CC:=⟨c.k,c.pa,c.pl,c.pc,if kKey c.k then .empty else c.key,if kI c.k then 0 else c.i,if kJ c.k then 0 else c.j,if kN c.k then 0 else c.n,if kV c.k then VC.none else c.v,if kS c.k then .empty else c.s⟩
def Cm.bare (x:Cm):Cm:=⟨x.k,x.path,if kKey x.k then .empty else x.key,if kI x.k then 0 else x.i,if kJ x.k then 0 else x.j,if kN x.k then 0 else x.n,if kV x.k then V.none else x.v,if kS x.k then .empty else x.s⟩
theorem IsComp.bare {w:World} {B:Nat} {x:Cm} {c:CC} (h:IsComp w B x c):IsComp w B x.bare c.bare:=by
 cases h with
 |mk c p v hb hp hv=>
 have hv2:IsVal w B (if kV c.k then V.none else v) (if kV c.k then VC.none else c.v):=by
  split
  .exact Zq w B
  .exact hv
 have hb2:c.bare.Bnd:=by
  have h1:=hb.i0;have h2:=hb.i1;have h3:=hb.j0;have h4:=hb.j1;have h5:=hb.n0;have h6:=hb.n1;have h7:=hb.key1;have h8:=hb.s1
  refine ⟨hb.k0,hb.k1, ?_, ?_, ?_, ?_, ?_, ?_, ?_, ?_⟩<;>(simp only [CC.bare];split<;>first|assumption|decide)
 exact .mk c.bare p _ hb2 hp hv2
set_option maxRecDepth 100000 in
theorem zhh (c:CC) (w:World) (hb:c.Bnd):
 uP 53 #[.agg (uC c)] w fun e w'=>(∃d:CC,e= .returned (.tuple #[.agg #[.int .u8 d.k, .slice d.pa d.pl d.pc, .string d.key, .int .i64 d.i, .int .i64 d.j, .int .i64 d.n, .int .u8 d.v.k, .int .i64 d.v.n, .string d.v.s, .slice d.v.la d.v.ll d.v.lc, .slice d.v.oa d.v.ol d.v.oc, .string d.s], .bool (kIs c.k)])/\Hid (d=c.bare))/\uB w w':=by
 delta uC uB uP
 have hk0:=hb.k0;have hk1:=hb.k1
 clear hb
 obtain ⟨k,pa,pl,pc,key,i,j,n,v,s⟩:=c
 dsimp only at hk0 hk1 ⊢
 by_cases e1:k=1
 case pos=>
  subst e1
  go_enter Tryz.func53,Tryz.ntmps53
  go_wp2_with fail
  go_returns
  exact ⟨⟨CC.bare ⟨1,pa,pl,pc,key,i,j,n,v,s⟩,rfl,rfl⟩,by go_grown⟩
 have f1:(k==1)=false:=by simp [e1]
 by_cases e2:k=2
 case pos=>
  subst e2
  go_enter Tryz.func53,Tryz.ntmps53
  go_wp2_with fail
  go_returns
  exact ⟨⟨CC.bare ⟨2,pa,pl,pc,key,i,j,n,v,s⟩,rfl,rfl⟩,by go_grown⟩
 have f2:(k==2)=false:=by simp [e2]
 by_cases e3:k=3
 case pos=>
  subst e3
  go_enter Tryz.func53,Tryz.ntmps53
  go_wp2_with fail
  go_returns
  exact ⟨⟨CC.bare ⟨3,pa,pl,pc,key,i,j,n,v,s⟩,rfl,rfl⟩,by go_grown⟩
 have f3:(k==3)=false:=by simp [e3]
 by_cases e4:k=4
 case pos=>
  subst e4
  go_enter Tryz.func53,Tryz.ntmps53
  go_wp2_with fail
  go_returns
  exact ⟨⟨CC.bare ⟨4,pa,pl,pc,key,i,j,n,v,s⟩,rfl,rfl⟩,by go_grown⟩
 have f4:(k==4)=false:=by simp [e4]
 by_cases e5:k=5
 case pos=>
  subst e5
  go_enter Tryz.func53,Tryz.ntmps53
  go_wp2_with fail
  go_returns
  exact ⟨⟨CC.bare ⟨5,pa,pl,pc,key,i,j,n,v,s⟩,rfl,rfl⟩,by go_grown⟩
 have f5:(k==5)=false:=by simp [e5]
 by_cases e6:k=6
 case pos=>
  subst e6
  go_enter Tryz.func53,Tryz.ntmps53
  go_wp2_with fail
  go_returns
  exact ⟨⟨CC.bare ⟨6,pa,pl,pc,key,i,j,n,v,s⟩,rfl,rfl⟩,by go_grown⟩
 have f6:(k==6)=false:=by simp [e6]
 by_cases e7:k=7
 case pos=>
  subst e7
  go_enter Tryz.func53,Tryz.ntmps53
  go_wp2_with fail
  go_returns
  exact ⟨⟨CC.bare ⟨7,pa,pl,pc,key,i,j,n,v,s⟩,rfl,rfl⟩,by go_grown⟩
 have f7:(k==7)=false:=by simp [e7]
 by_cases e8:k=8
 case pos=>
  subst e8
  go_enter Tryz.func53,Tryz.ntmps53
  go_wp2_with fail
  go_returns
  exact ⟨⟨CC.bare ⟨8,pa,pl,pc,key,i,j,n,v,s⟩,rfl,rfl⟩,by go_grown⟩
 have f8:(k==8)=false:=by simp [e8]
 by_cases e9:k=9
 case pos=>
  subst e9
  go_enter Tryz.func53,Tryz.ntmps53
  go_wp2_with fail
  go_returns
  exact ⟨⟨CC.bare ⟨9,pa,pl,pc,key,i,j,n,v,s⟩,rfl,rfl⟩,by go_grown⟩
 have f9:(k==9)=false:=by simp [e9]
 go_enter Tryz.func53,Tryz.ntmps53
 go_wp2_with fail
 go_returns
 refine ⟨⟨⟨k,pa,pl,pc,key,i,j,n,v,s⟩, ?_, ?_⟩,by go_grown⟩
 .have:kIs k=false:=by simp only [kIs,Bool.and_eq_false_iff,decide_eq_false_iff_not];omega
  rw [this]
 .have h1:kKey k=false:=by simp [kKey,e2,e3]
  have h2:kI k=false:=by simp only [kI,Bool.and_eq_false_iff,decide_eq_false_iff_not];omega
  have h3:kJ k=false:=by simp [kJ,e7]
  have h4:kN k=false:=by simp [kN,e1,e9]
  have h5:kV k=false:=by simp [kV,e2,e4,e6]
  have h6:kS k=false:=by simp [kS,e8]
  show _=_
  simp only [CC.bare,h1,h2,h3,h4,h5,h6];rfl
set_option maxRecDepth 100000 in
theorem zhg (w:World) (c:VC) (hT:Tabs w) (hbd:c.Bnd):
 uP 95 #[.agg (uV c)] w fun e w'=>e= .returned (.bool (plainB c.k c.n c.s c.ll c.ol))/\uB w w':=by
 delta uV uB uP
 have k0:=hbd.k0
 have hsz:=hbd.s1
 have hst:=K2 w c 36
 obtain ⟨k,n,s,la,ll,lc,oa,ol,oc⟩:=c
 dsimp only at*
 have q1:=Zb (show (w.alloc (.cells (uU k n s la ll lc oa ol oc) 36)).cell? ⟨w.heap.size,1,none⟩=some (.int .i64 n) from hst.a.c1)
 have q2:=Zb (show (w.alloc (.cells (uU k n s la ll lc oa ol oc) 36)).cell? ⟨w.heap.size,2,none⟩=some (.string s) from hst.a.c2)
 have q3:=Zb (show (w.alloc (.cells (uU k n s la ll lc oa ol oc) 36)).cell? ⟨w.heap.size,3,none⟩=some (.slice la ll lc) from hst.a.c3)
 have q4:=Zb (show (w.alloc (.cells (uU k n s la ll lc oa ol oc) 36)).cell? ⟨w.heap.size,4,none⟩=some (.slice oa ol oc) from hst.a.c4)
 have q0:(w.alloc (.cells (uU k n s la ll lc oa ol oc) 36)).cell? ⟨w.heap.size,0,none⟩=some (.int .u8 k):=hst.a.c0
 obtain ⟨bn,hbn⟩:∃bn,(n==0)=bn:=⟨_,rfl⟩
 obtain ⟨bs,hbs⟩:∃bs,s.toList.isEmpty=bs:=⟨_,rfl⟩
 obtain ⟨bl,hbl⟩:∃bl,((ll:Int)==0)=bl:=⟨_,rfl⟩
 obtain ⟨bo,hbo⟩:∃bo,((ol:Int)==0)=bo:=⟨_,rfl⟩
 obtain ⟨R,hR⟩:∃R,plainB k n s ll ol=R:=⟨_,rfl⟩
 rw [hR]
 have HR0:=qh hR
 clear hR
 go_enter Tryz.func95,Tryz.ntmps95
 generalize hW:(w.alloc (.cells (uU k n s la ll lc oa ol oc) 36))=W at*
 go_wp2_with fail
 refine Zl (by kernel_rfl) (by kernel_rfl) ?_
 repeat (go_big_quiet_step (fail))
 refine wpQuiet_nil ?_
 intro _ hw'
 obtain ⟨pq,hw''⟩:=hw'
 subst hw''
 have hT2:Tabs (later W pq):=(hT.below hst.below).below (Ze W pq)
 have q0':=Zb q0 pq
 have q2':=Zb (q2 pq)
 have hbb:uB w (later W pq):=hst.below.on (Ze W pq) hst.below.size
 have hbs1:w.heap.size<(later W pq).heap.size:=by have:=(Ze W pq).size;have:=hst.size;omega
 have q1':=q1 pq
 have q2'':=q2 pq
 clear hst q1 q2 q3 q4 q0 q2' hW hT
 generalize later W pq=W2 at*
 have hc:=fun _:Unit=>Ym s W2 hsz hT2
 obtain ⟨vd,hvd⟩:∃vd,Lib.validD s.data.toList=vd:=⟨_,rfl⟩
 rw [hvd] at hc
 have HC:=qh hc
 have HBB:=qh hbb
 have hll:(ll==0)=bl:=by rw [<-hbl];rw [Bool.eq_iff_iff];simp
 have hol:(ol==0)=bo:=by rw [<-hbo];rw [Bool.eq_iff_iff];simp
 have hk:k=0∨k=1∨k=2∨k=3∨k=4∨k=5∨5<k:=by omega
 obtain ⟨b1,hb1⟩:∃b1,(n==1)=b1:=⟨_,rfl⟩
 have hR:=HR0.out
 have hR2:R=(if k=0 then bn && bs && bl && bo else if k=1 then (bn||b1) && bs && bl && bo else if k=2 then bs && bl && bo else if k=3 then bn && vd && bl && bo else if k=4 then bn && bs && bo else if k=5 then bn && bs && bl else false):=by
  rw [<-hR];unfold plainB;rw [hbn,hb1,hbs,hvd,hll,hol]
 have HR:=qh hR2
 clear hc hbb hll hol hR hR2 hvd hbl hbo hbs hbn hT2 hbd
 have f0:(n==1)=b1:=hb1
 clear hb1
 rcases hk with rfl|rfl|rfl|rfl|rfl|rfl|hk
 .cases bn<;>cases bs<;>cases bl<;>cases bo
  all_goals
   go_wp2_with fail
   go_ret
   exact ⟨Zc (by rw [HR.out];rfl),HBB.out⟩
 .cases bn<;>cases b1<;>cases bs<;>cases bl<;>cases bo
  all_goals
   go_wp2_with fail
   go_ret
   exact ⟨Zc (by rw [HR.out];rfl),HBB.out⟩
 .cases bs<;>cases bl<;>cases bo
  all_goals
   go_wp2_with fail
   go_ret
   exact ⟨Zc (by rw [HR.out];rfl),HBB.out⟩
 .cases bn
  .go_wp2_with fail
   go_ret
   exact ⟨Zc (by rw [HR.out];rfl),HBB.out⟩
  .cases vd<;>cases bl<;>cases bo
   all_goals
    go_wp2_with (go_at_call 52;refine (HC.out ()).mono ?_;rintro e w' ⟨rfl,hb⟩)
    go_ret
    exact ⟨Zc (by rw [HR.out];rfl),HBB.out.on hb (by omega)⟩
 .cases bn<;>cases bs<;>cases bo
  all_goals
   go_wp2_with fail
   go_ret
   exact ⟨Zc (by rw [HR.out];rfl),HBB.out⟩
 .cases bn<;>cases bs<;>cases bl
  all_goals
   go_wp2_with fail
   go_ret
   exact ⟨Zc (by rw [HR.out];rfl),HBB.out⟩
 .go_wp2_with fail
  go_ret
  exact ⟨Zc (by rw [HR.out,if_neg (by omega),if_neg (by omega),if_neg (by omega),if_neg (by omega),if_neg (by omega),if_neg (by omega)]),HBB.out⟩
set_option maxRecDepth 100000 in
theorem zja (l:List (ByteArray×V)) (w:World) (a:Option Addr) (n c:Nat) (h:IsFields w w.heap.size l a n c):
 uP 96 #[.slice a n c] w fun e w'=>e= .returned (.bool (rising l))/\uB w w':=by
 delta uB uP
 have k1:=h.max;have k2:=h.few
 have HLn:=qh h.len
 obtain ⟨R,hR⟩:∃R,rising l=R:=⟨_,rfl⟩
 rw [hR]
 have HR:=qh hR
 clear hR
 go_enter Tryz.func96,Tryz.ntmps96
 go_wp2_with fail
 go_loopw [6] (fun i wr=>∃k:Nat,k<=n/\i= .int .i64 k/\Hid (rising (l.take k)=true)/\uB w wr) (fun i _=>n - (intOf i).toNat)
 case atStart=>exact ⟨0,Nat.zero_le _,rfl,by rfl,Below.refl _ _⟩
 case round =>
  obtain ⟨k,hk,hi,HJ,hB⟩:=hrel
  by_cases hlt:k<n
  .obtain ⟨b,o,f,kl,ea,hb,g1,_,_,_⟩:=h.get hlt
   have g1:=Za hB g1 hb
   rcases k with _|j
   .subst hi
    clear h
    subst ea
    go_wp2_with fail
    refine Zl (by kernel_rfl) (by kernel_rfl) ?_
    repeat (go_big_quiet_step (fail))
    refine wpQuiet_nil ?_
    intro _ hw'
    obtain ⟨pq,hw''⟩:=hw'
    subst hw''
    go_wp2_with fail
    go_roundw
    case rel=>exact ⟨1,by omega,by go_num,zel l,hB.on (Ze _ _) hB.size⟩
    case measure=>simp [intOf];omega
   .have hi2:=hi.trans (show Value.int .i64 ((j+1:Nat):Int)= .int .i64 ((j:Int)+1) by go_num)
    clear hi
    subst hi2
    obtain ⟨b',o',f',jl,ea',hb',g2,_,_,_⟩:=h.get (show j<n by omega)
    clear h
    subst ea
    cases ea'
    have g2:=Za hB g2 hb
    have t1:=Zb g1
    have t2:=Zb g2
    clear g1 g2
    by_cases hr:Op.bytesLess l[j].1.toList l[j+1].1.toList=true
    .obtain ⟨a1,a2⟩:=X8 _ _ hr
     have a3:(l[j+1].1.toList==l[j].1.toList)=false:=by simp [Ne.symm a2]
     have HL:=qh hr
     clear hr a2
     go_wp2_with fail
     refine Zl (by kernel_rfl) (by kernel_rfl) ?_
     repeat (go_big_quiet_step (fail))
     refine wpQuiet_nil ?_
     intro _ hw'
     obtain ⟨pq,hw''⟩:=hw'
     subst hw''
     clear t1 t2 a1 a3
     go_wp2_with fail
     go_roundw
     case rel=>exact ⟨j+1+1,by omega,by go_num,zb9 HJ.out kl HL.out,hB.on (Ze _ _) hB.size⟩
     case measure=>simp [intOf];omega
    .have hr:Op.bytesLess l[j].1.toList l[j+1].1.toList=false:=by simpa using hr
     have HL:=qh hr
     have a1:Op.bytesLess l[j+1].1.toList l[j].1.toList=true∨(Op.bytesLess l[j+1].1.toList l[j].1.toList=false/\l[j+1].1.toList=l[j].1.toList):=by
      rcases zbj l[j+1].1.toList l[j].1.toList with h|h|h
      .exact .inl h
      .cases hq:Op.bytesLess l[j+1].1.toList l[j].1.toList with
       |true=>exact .inl rfl
       |false=>exact .inr ⟨rfl,h⟩
      .rw [hr] at h;cases h
     clear hr
     rcases a1 with a1|⟨a1,a2⟩
     .go_wp2_with fail
      refine Zl (by kernel_rfl) (by kernel_rfl) ?_
      repeat (go_big_quiet_step (fail))
      refine wpQuiet_nil ?_
      intro _ hw'
      obtain ⟨pq,hw''⟩:=hw'
      subst hw''
      clear t1 t2 a1
      go_wp2_with fail
      go_ret
      exact ⟨Zc (by rw [<-HR.out,Jw kl HL.out]),hB.on (Ze _ _) hB.size⟩
     .have a3:(l[j+1].1.toList==l[j].1.toList)=true:=by rw [a2];simp
      clear a2
      go_wp2_with fail
      refine Zl (by kernel_rfl) (by kernel_rfl) ?_
      repeat (go_big_quiet_step (fail))
      refine wpQuiet_nil ?_
      intro _ hw'
      obtain ⟨pq,hw''⟩:=hw'
      subst hw''
      clear t1 t2 a1 a3
      go_wp2_with fail
      go_ret
      exact ⟨Zc (by rw [<-HR.out,Jw kl HL.out]),hB.on (Ze _ _) hB.size⟩
  .subst hi
   clear h
   go_wp2_with fail
   go_ret
   refine ⟨Zc ?_,hB⟩
   have hjo:=HJ.out
   rw [List.take_of_length_le (by have:=HLn.out;omega)] at hjo
   rw [<-HR.out,hjo]
end Go.Proofs.YtnjgbiachcfigaaGreatDoor
namespace Go.Proofs.YtnjgbiachcfigaaGreatDoor
open Go.RowKit Go.Shelf
attribute [local go_sem] Oper.semAt_some
def VSound (v:V):Prop:=∀(w:World) (c:VC),IsVal w w.heap.size v c->Tabs w->
    Calls Tryz.prog 56 #[.agg #[.int .u8 c.k, .int .i64 c.n, .string c.s, .slice c.la c.ll c.lc, .slice c.oa c.ol c.oc]] w fun e w'=>e= .returned (.bool v.sound)/\Below w.heap.size w w'
theorem Jt (a b:List (ByteArray×V)):soundO (a++b)=(soundO a && soundO b):=by
 induction a with
 |nil=>simp [soundO]
 |cons f r ih=>simp [soundO,ih,Bool.and_assoc]
theorem zer {w:World} {P:V->Prop} (pre:List (Kid w P)) (x:Kid w P) (h:Lib.validD x.kk.data.toList=false∨x.v.sound=false):Hid (soundO ((pre++ [x]).map Kid.pair)=false):=by
 show _=_
 rw [List.map_append,Jt]
 rcases h with h|h<;>simp [soundO,K1,Kid.pair,h]
theorem ziz {w:World} {P:V->Prop} (pre:List (Kid w P)) (x:Kid w P) (h:soundO (pre.map Kid.pair)=true) (h1:Lib.validD x.kk.data.toList=true) (h2:x.v.sound=true):Hid (soundO ((pre++ [x]).map Kid.pair)=true):=by
 show _=_
 rw [List.map_append,Jt]
 simp [soundO,K1,Kid.pair,h,h1,h2]
theorem zon {w:World} {P:V->Prop} {pre ks:List (Kid w P)} (hp:pre<+:ks) (h:soundO (pre.map Kid.pair)=false):soundO (ks.map Kid.pair)=false:=by
 obtain ⟨r,rfl⟩:=hp
 rw [List.map_append,Jt,h,Bool.false_and]
theorem zdf (l:List V) (o:List (ByteArray×V)):soundO (pairs l o)=(soundL l && soundO o):=by
 unfold pairs
 rw [Jt]
 congr 1
 induction l with
 |nil=>rfl
 |cons v r ih=>simp only [List.map_cons,soundO,K1,soundL,ih];rw [show Lib.validD (⟨#[]⟩:ByteArray).data.toList=true from Lib.validD_nil,Bool.true_and]
end Go.Proofs.YtnjgbiachcfigaaGreatDoor
