/-
  Contracts of the functions that the law reaches: conciliatorref01.Sound: of a value in.
-/
import Derived.Test.YtnjgbiachcfigaaGreatDoorCt22
import Derived.Sort.Walk0
import Derived.Laws.StructEq
namespace Go.Proofs.YtnjgbiachcfigaaGreatDoor
open Go.RowKit
set_option maxHeartbeats 4000000
theorem Ki (x y:List UInt8):Op.bytesLess x y=true∨x=y∨Op.bytesLess y x=true:=by
 simp only [bytesLess_eq,decide_eq_true_eq]
 by_cases h:x<y
 .exact .inl h
 .by_cases h2:y<x
  .exact .inr (.inr h2)
  .exact .inr (.inl (List.le_antisymm h2 h))
theorem Jm (x y:List UInt8) (h:Op.bytesLess x y=true):Op.bytesLess y x=false/\x≠y:=by
 simp only [bytesLess_eq,decide_eq_true_eq,decide_eq_false_iff_not] at h ⊢
 exact ⟨List.lt_asymm h,fun e=>by subst e;exact List.lt_irrefl _ h⟩
theorem zgk {l:List V} {k:Nat} (h:soundL (l.take k)=true) (kl:k<l.length) (e:l[k].sound=true):Hid (soundL (l.take (k+1))=true):=by
 rw [Z5 l k kl]
 show soundL _=true
 rw [Jd] at h ⊢
 intro v hv
 rcases List.mem_append.1 hv with h1|h1
 .exact h v h1
 .rw [List.mem_singleton] at h1;rw [h1];exact e
theorem zku {l:List V} {k:Nat} (kl:k<l.length) (e:l[k].sound=false):soundL l=false:=by
 cases h:soundL l with
 |false=>rfl
 |true=>rw [Jd] at h;rw [h _ (List.getElem_mem kl)] at e;cases e
theorem zas {o:List (ByteArray×V)} {k:Nat} (h:soundO (o.take k)=true) (kl:k<o.length) (e1:Lib.validD o[k].1.data.toList=true) (e:o[k].2.sound=true):soundO (o.take (k+1))=true:=by
 rw [Z5 o k kl]
 rw [Jb] at h ⊢
 intro v hv
 rcases List.mem_append.1 hv with h1|h1
 .exact h v h1
 .rw [List.mem_singleton] at h1;rw [h1];exact ⟨e1,e⟩
theorem zau {o:List (ByteArray×V)} {k:Nat} (kl:k<o.length) (e:Lib.validD o[k].1.data.toList=false∨o[k].2.sound=false):soundO o=false:=by
 cases h:soundO o with
 |false=>rfl
 | true=>
   rw [Jb] at h
   have:=h _ (List.getElem_mem kl)
   rcases e with e|e
   .rw [this.1] at e;cases e
   .rw [this.2] at e;cases e
theorem zcj {o:List (ByteArray×V)} {j:Nat} (h:rising (o.take (j+1))=true) (kl:j+1<o.length) (e:Op.bytesLess o[j].1.toList o[j+1].1.toList=true):rising (o.take (j+1+1))=true:=by
 rw [Qs] at h ⊢
 intro i hi
 simp only [List.length_take] at hi
 simp only [List.getElem_take]
 by_cases hij:i=j
 .subst hij;exact e
 .have:=h i (by simp only [List.length_take];omega)
  simpa only [List.getElem_take] using this
theorem Q5 {o:List (ByteArray×V)} {j:Nat} (kl:j+1<o.length) (e:Op.bytesLess o[j].1.toList o[j+1].1.toList=false):rising o=false:=by
 cases h:rising o with
 |false=>rfl
 |true=>rw [Qs] at h;rw [h j kl] at e;cases e
theorem za2 (o:List (ByteArray×V)):rising (o.take 1)=true:=by
 cases o with
 |nil=>rfl
 |cons f r=>simp [rising]
theorem len0 {α:Type} {l:List α} {n:Nat} (h:n=l.length) (h0:n=0):l= [] :=List.eq_nil_of_length_eq_zero (by omega)
theorem ziu {k n:Int} {s:ByteArray} {ll ol:Nat} (h:plainB k n s ll ol=true):
 (k=0/\n=0/\s.toList= [] /\ll=0/\ol=0)∨(k=1/\(n=0∨n=1)/\s.toList= [] /\ll=0/\ol=0)∨(k=2/\s.toList= [] /\ll=0/\ol=0)∨
 (k=3/\n=0/\Lib.validD s.data.toList=true/\ll=0/\ol=0)∨(k=4/\n=0/\s.toList= [] /\ol=0)∨(k=5/\n=0/\s.toList= [] /\ll=0):=by
 unfold plainB at h
 split at h
 .rename_i hk;simp at h;simp [hk,h]
 .split at h
  .rename_i hk;simp at h;simp [hk,h]
  .split at h
   .rename_i hk;simp at h;simp [hk,h]
   .split at h
    .rename_i hk;simp at h;simp [hk,h]
    .split at h
     .rename_i hk;simp at h;simp [hk,h]
     .split at h
      .rename_i hk;simp at h;simp [hk,h]
      .cases h
theorem X3 {s:ByteArray} (h:s.toList= []):Lib.validD s.data.toList=true:=by
 rw [<-ByteArray.toList_eq,h];exact Lib.validD_nil
set_option maxRecDepth 100000 in
theorem Ja (w:World) (k n:Int) (s:ByteArray) (la:Option Addr) (lc:Nat) (oa:Option Addr) (oc:Nat) (hT:Tabs w) (hsz:s.size<=140737488355328)
 (hp:(k=0/\n=0/\s.toList= [])∨(k=1/\(n=0∨n=1)/\s.toList= [])∨(k=2/\s.toList= [])∨(k=3/\n=0/\Lib.validD s.data.toList=true)):
 Calls Tryz.prog 18 #[.agg #[.int .u8 k, .int .i64 n, .string s, .slice la 0 lc, .slice oa 0 oc]] w fun e w'=>e= .returned (.bool true)/\Below w.heap.size w w':=by
 have hv:Lib.validD s.data.toList=true:=by
  rcases hp with ⟨_,_,h⟩|⟨_,_,h⟩|⟨_,h⟩|⟨_,_,h⟩
  .exact X3 h
  .exact X3 h
  .exact X3 h
  .exact h
 have hc:=fun (W:World) hT=>(Yb s W hsz hT)
 rw [hv] at hc
 have HC:=qh hc
 clear hc hv
 rcases hp with ⟨rfl,rfl,h⟩|⟨rfl,rfl|rfl,h⟩|⟨rfl,h⟩|⟨rfl,rfl,h⟩
 all_goals
  go_enter Tryz.func18,Tryz.ntmps18
  go_wp2_with (go_at_call 52;refine (HC.out _ (hT.below ((Below.refl _ _).alloc (Nat.le_refl _) _))).mono ?_;rintro e w' ⟨rfl,hb⟩;obtain ⟨hc,hf⟩:=Kn hb;have hz:=hb.size;simp only [World.size_alloc] at hz)
  refine wp_loop_rounds 1 ?_
  rw [rounds_succ]
  go_wp2_with fail
  refine wp_loop_rounds 1 ?_
  rw [rounds_succ]
  go_wp2_with fail
  go_ret
  exact ⟨rfl,((Below.refl _ _).alloc (Nat.le_refl _) _).trans (hb.mono (by simp))⟩
set_option maxRecDepth 100000 in
theorem zbu (a:V):∀(w:World) (c:VC),IsVal w w.heap.size a c->Tabs w->
 Calls Tryz.prog 18 #[.agg #[.int .u8 c.k, .int .i64 c.n, .string c.s, .slice c.la c.ll c.lc, .slice c.oa c.ol c.oc]] w fun e w'=>e= .returned (.bool a.sound)/\Below w.heap.size w w':=by
 induction a using V.ind with
 |h k n s l o ihl iho=>
 have IHL:=qh ihl;have IHO:=qh iho;clear ihl iho
 intro w c ha hT
 cases ha with
 |mk c l o cl co lb lo ob oo cbd hl ho hla hoa hlc hlv hoc hov=>
 have c1:=cbd.l1;have c2:=cbd.l2;have c3:=cbd.o1;have c4:=cbd.o2;have hsz:=cbd.s1
 by_cases hp:plainB c.k c.n c.s c.ll c.ol=true
 case neg=>
  have hp:plainB c.k c.n c.s c.ll c.ol=false:=by simpa using hp
  refine (ze2 w c hT cbd hp).mono ?_
  rintro e w' ⟨rfl,hb⟩
  exact ⟨Zc (zae (by rw [<-hl, <-ho];exact hp)).symm,hb⟩
 have hst:=Jj w c 36
 have hsd:(V.mk c.k c.n c.s l o).sound=(rising o && soundL l && soundO o):=by simp [V.sound, <-hl, <-ho,hp]
 obtain ⟨k,n,s,la,ll,lc,oa,ol,oc⟩:=c
 dsimp only at*
 have Hl:=qh hl;have Ho:=qh ho;clear hl ho
 have hval:=fun (W:World) hT=>(Yb s W hsz hT)
 rcases ziu hp with ⟨h1,h2,h3,h4,h5⟩|⟨h1,h2,h3,h4,h5⟩|⟨h1,h3,h4,h5⟩|⟨h1,h2,h3,h4,h5⟩|⟨h1,h2,h3,h5⟩|⟨h1,h2,h3,h4⟩
 .obtain rfl:l= [] :=len0 Hl.out h4
  obtain rfl:o= [] :=len0 Ho.out h5
  subst h4 h5
  refine (Ja w k n s la lc oa oc hT hsz (.inl ⟨h1,h2,h3⟩)).mono ?_
  rintro e w' ⟨rfl,hb⟩
  exact ⟨Zc (by rw [hsd];rfl),hb⟩
 .obtain rfl:l= [] :=len0 Hl.out h4
  obtain rfl:o= [] :=len0 Ho.out h5
  subst h4 h5
  refine (Ja w k n s la lc oa oc hT hsz (.inr (.inl ⟨h1,h2,h3⟩))).mono ?_
  rintro e w' ⟨rfl,hb⟩
  exact ⟨Zc (by rw [hsd];rfl),hb⟩
 .obtain rfl:l= [] :=len0 Hl.out h4
  obtain rfl:o= [] :=len0 Ho.out h5
  subst h4 h5
  refine (Ja w k n s la lc oa oc hT hsz (.inr (.inr (.inl ⟨h1,h3⟩)))).mono ?_
  rintro e w' ⟨rfl,hb⟩
  exact ⟨Zc (by rw [hsd];rfl),hb⟩
 .obtain rfl:l= [] :=len0 Hl.out h4
  obtain rfl:o= [] :=len0 Ho.out h5
  subst h4 h5
  refine (Ja w k n s la lc oa oc hT hsz (.inr (.inr (.inr ⟨h1,h2,h3⟩)))).mono ?_
  rintro e w' ⟨rfl,hb⟩
  exact ⟨Zc (by rw [hsd];rfl),hb⟩
 .-- a list
  obtain rfl:o= [] :=len0 Ho.out h5
  subst h1 h2 h5
  rw [X3 h3] at hval
  have HC:=qh hval
  have HSD:Hid ((V.mk 4 0 s l []).sound=soundL l):=hsd.trans (by simp [rising,soundO])
  clear hval hp hsd hoc hov hoa
  obtain ⟨W,hW⟩:∃W,(V.mk 4 0 s l []).sound=W:=⟨_,rfl⟩
  rw [hW]
  have HW:=qh hW
  clear hW
  go_enter Tryz.func18,Tryz.ntmps18
  go_wp2_with (go_at_call 52;refine (HC.out _ (hT.below ((Below.refl _ _).alloc (Nat.le_refl _) _))).mono ?_;rintro e w' ⟨rfl,hb⟩;obtain ⟨hc,hf⟩:=Kn hb;have hz:=hb.size;simp only [World.size_alloc] at hz)
  have hB0:=hst.step hb
  clear hst hb hc hf hz
  go_loopw [3] (fun i wr=>∃k:Nat,k<=ll/\i= .int .i64 k/\Hid (soundL (l.take k)=true)/\Boxed1 w wr ⟨4,0,s,la,ll,lc,oa,0,oc⟩) (fun i _=>ll - (intOf i).toNat)
  case atStart=>exact ⟨0,Nat.zero_le _,rfl,by rfl,hB0⟩
  case round=>
   clear hB0
   obtain ⟨k,hk,rfl,HJ,hB⟩:=hrel
   have b1:wr.cell? ⟨w.heap.size,3,none⟩=some (.slice la ll lc):=hB.a.c3
   by_cases hlt:k<ll
   .obtain ⟨ela,hlb⟩:=hla (by omega)
    have kl:k<l.length:=by rw [<-Hl.out];exact hlt
    have x1:=(hlc k kl).keep hB.below hlb
    rw [ela] at b1
    have r0:=x1.c0;have r1:=x1.c1;have r2:=x1.c2;have r3:=x1.c3;have r4:=x1.c4
    clear ela x1
    have ih:=IHL.out _ (List.getElem_mem kl) wr (cl k) ((hlv k kl).later_ hB.below) (hT.below hB.below)
    cases hx:l[k].sound with
    | true=>
      rw [hx] at ih
      have HX:=qh hx
      have H:=qh ih
      clear ih hx
      go_wp2_with (go_at_call 18;refine H.out.mono ?_;rintro e w' ⟨rfl,hb⟩)
      go_roundw
      case rel=>exact ⟨k+1,by omega,by go_num,zgk HJ.out kl HX.out,hB.step hb⟩
      case measure=>simp [intOf];omega
    | false=>
      rw [hx] at ih
      have HX:=qh hx
      have H:=qh ih
      clear ih hx
      go_wp2_with (go_at_call 18;refine H.out.mono ?_;rintro e w' ⟨rfl,hb⟩)
      go_ret
      exact ⟨Zc (by rw [<-HW.out,HSD.out,zku kl HX.out]),(hB.step hb).below⟩
   .have b2:wr.cell? ⟨w.heap.size,4,none⟩=some (.slice oa 0 oc):=hB.a.c4
    go_wp2_with fail
    refine wp_loop_rounds 1 ?_
    rw [rounds_succ]
    go_wp2_with fail
    go_ret
    exact ⟨Zc (by rw [<-HW.out,HSD.out, <-HJ.out,List.take_of_length_le (by have:=Hl.out;omega)]),hB.below⟩
 .-- an object
  obtain rfl:l= [] :=len0 Hl.out h4
  subst h1 h2 h4
  rw [X3 h3] at hval
  have HC:=qh hval
  have HSD:Hid ((V.mk 5 0 s [] o).sound=(rising o && soundO o)):=hsd.trans (by simp [soundL])
  clear hval hp hsd hlc hlv hla
  obtain ⟨W,hW⟩:∃W,(V.mk 5 0 s [] o).sound=W:=⟨_,rfl⟩
  rw [hW]
  have HW:=qh hW
  clear hW
  go_enter Tryz.func18,Tryz.ntmps18
  go_wp2_with (go_at_call 52;refine (HC.out _ (hT.below ((Below.refl _ _).alloc (Nat.le_refl _) _))).mono ?_;rintro e w' ⟨rfl,hb⟩;obtain ⟨hc,hf⟩:=Kn hb;have hz:=hb.size;simp only [World.size_alloc] at hz)
  have hB0:=hst.step hb
  clear hst hb
  refine wp_loop_rounds 1 ?_
  rw [rounds_succ]
  go_wp2_with fail
  clear hc hf hz
  go_loopw [5] (fun i wr=>∃k:Nat,k<=ol/\i= .int .i64 k/\Hid (soundO (o.take k)=true/\rising (o.take k)=true)/\Boxed1 w wr ⟨5,0,s,la,0,lc,oa,ol,oc⟩) (fun i _=>ol - (intOf i).toNat)
  case atStart=>exact ⟨0,Nat.zero_le _,rfl,⟨by rfl,by rfl⟩,hB0⟩
  case round =>
   clear hB0
   obtain ⟨k,hk,hi,HJ,hB⟩:=hrel
   have b1:wr.cell? ⟨w.heap.size,4,none⟩=some (.slice oa ol oc):=hB.a.c4
   by_cases hlt:k<ol
   .obtain ⟨ela,hlb⟩:=hoa (by omega)
    have kl:k<o.length:=by rw [<-Ho.out];exact hlt
    obtain ⟨g1,ksz,x1⟩:=hoc k kl
    have x1:=x1.keep hB.below hlb
    have g1:=Zb hB.below g1 hlb
    have hval:=fun (W:World) hT=>(Yb o[k].1 W ksz hT)
    have q1:=Za b1
    rw [ela] at b1 q1
    have r0:=x1.c0;have r1:=x1.c1;have r2:=x1.c2;have r3:=x1.c3;have r4:=x1.c4
    have ih:=IHO.out _ (List.getElem_mem kl) wr (co k) ((hov k kl).later_ hB.below) (hT.below hB.below)
    cases hx:o[k].2.sound with
    | false=>
      rw [hx] at ih
      have HX:=qh hx
      have H:=qh ih
      clear ih hx ela x1 hval q1 g1
      subst hi
      go_wp2_with (go_at_call 18;refine H.out.mono ?_;rintro e w' ⟨rfl,hb⟩)
      refine Zk (by kernel_rfl) (by kernel_rfl) ?_
      repeat (go_big_quiet_step (fail))
      refine wpQuiet_nil ?_
      intro _ hw'
      obtain ⟨pq,hw''⟩:=hw'
      subst hw''
      go_wp2_with fail
      go_ret
      exact ⟨Zc (by rw [<-HW.out,HSD.out,zau kl (.inr HX.out)];simp),((hB.step hb).step (Zd _ _)).below⟩
    | true =>
      rw [hx] at ih
      have HX:=qh hx
      have H:=qh ih
      clear ih hx x1 ela
      cases hv:Lib.validD o[k].1.data.toList with
      | false=>
        rw [hv] at hval
        have HV:=qh hv
        have HVC:=qh hval
        clear hv hval
        subst hi
        go_wp2_with (go_at_call 18;refine H.out.mono ?_;rintro e w' ⟨rfl,hb⟩)
        have q2:=Za (Zb hb b1 (by have:=hB.size;omega))
        have t1:=Za (Zb hb g1 (by have:=hB.below.size;omega))
        clear q1
        refine Zk (by kernel_rfl) (by kernel_rfl) ?_
        repeat (go_big_quiet_step (((go_at_call 52;exact Zg (HVC.out _ (hT.below ((hB.step hb).below.trans ((Zd _ _).mono (by have:=(hB.step hb).size;omega)))))))))
        refine wpQuiet_nil ?_
        intro _ hw'
        obtain ⟨pq,hw''⟩:=hw'
        subst hw''
        go_wp2_with fail
        go_ret
        exact ⟨Zc (by rw [<-HW.out,HSD.out,zau kl (.inl HV.out)];simp),((hB.step hb).step (Zd _ _)).below⟩
      | true =>
        rw [hv] at hval
        have HV:=qh hv
        have HVC:=qh hval
        clear hv hval
        rcases k with _|j
        .subst hi
         clear hoa
         go_wp2_with (go_at_call 18;refine H.out.mono ?_;rintro e w' ⟨rfl,hb⟩)
         have q2:=Za (Zb hb b1 (by have:=hB.size;omega))
         have t1:=Za (Zb hb g1 (by have:=hB.below.size;omega))
         simp only [Nat.zero_mul,Nat.add_zero] at t1
         clear q1
         refine Zk (by kernel_rfl) (by kernel_rfl) ?_
         repeat (go_big_quiet_step (((go_at_call 52;exact Zg (HVC.out _ (hT.below ((hB.step hb).below.trans ((Zd _ _).mono (by have:=(hB.step hb).size;omega)))))))))
         refine wpQuiet_nil ?_
         intro _ hw'
         obtain ⟨pq,hw''⟩:=hw'
         subst hw''
         go_wp2_with fail
         go_roundw
         case rel=>exact ⟨1,by omega,by go_num,⟨zas HJ.out.1 kl HV.out HX.out,za2 o⟩,(hB.step hb).step (Zd _ _)⟩
         case measure=>simp [intOf];omega
        .have hi2:=hi.trans (show Value.int .i64 ((j+1:Nat):Int)= .int .i64 ((j:Int)+1) by go_num)
         clear hi
         subst hi2
         have jl:j<o.length:=by omega
         obtain ⟨g2,_,_⟩:=hoc j jl
         have g2:=Zb hB.below g2 hlb
         go_wp2_with (go_at_call 18;refine H.out.mono ?_;rintro e w' ⟨rfl,hb⟩)
         have q2:=Za (Zb hb b1 (by have:=hB.size;omega))
         have t1:=Za (Zb hb g1 (by have:=hB.below.size;omega))
         have t2:=Za (Zb hb g2 (by have:=hB.below.size;omega))
         clear q1 g1 g2 r0 r1 r2 r3 r4
         by_cases hr:Op.bytesLess o[j].1.toList o[j+1].1.toList=true
         .obtain ⟨a1,a2⟩:=Jm _ _ hr
          have a3:(o[j+1].1.toList==o[j].1.toList)=false:=by simp [Ne.symm a2]
          have HR:=qh hr
          clear hr a2
          refine Zk (by kernel_rfl) (by kernel_rfl) ?_
          repeat (go_big_quiet_step (((go_at_call 52;exact Zg (HVC.out _ (hT.below ((hB.step hb).below.trans ((Zd _ _).mono (by have:=(hB.step hb).size;omega)))))))))
          refine wpQuiet_nil ?_
          intro _ hw'
          obtain ⟨pq,hw''⟩:=hw'
          subst hw''
          clear q2 t1 t2 a1 a3
          go_wp2_with fail
          go_roundw
          case rel=>exact ⟨j+1+1,by omega,by go_num,⟨zas HJ.out.1 kl HV.out HX.out,zcj HJ.out.2 kl HR.out⟩,(hB.step hb).step (Zd _ _)⟩
          case measure=>simp [intOf];omega
         .have hr:Op.bytesLess o[j].1.toList o[j+1].1.toList=false:=by simpa using hr
          have HR:=qh hr
          have a1:Op.bytesLess o[j+1].1.toList o[j].1.toList=true∨(Op.bytesLess o[j+1].1.toList o[j].1.toList=false/\o[j+1].1.toList=o[j].1.toList):=by
           rcases Ki o[j+1].1.toList o[j].1.toList with h|h|h
           .exact .inl h
           .cases hq:Op.bytesLess o[j+1].1.toList o[j].1.toList with
            |true=>exact .inl rfl
            |false=>exact .inr ⟨rfl,h⟩
           .rw [hr] at h;cases h
          clear hr
          rcases a1 with a1|⟨a1,a2⟩
          .refine Zk (by kernel_rfl) (by kernel_rfl) ?_
           repeat (go_big_quiet_step (((go_at_call 52;exact Zg (HVC.out _ (hT.below ((hB.step hb).below.trans ((Zd _ _).mono (by have:=(hB.step hb).size;omega)))))))))
           refine wpQuiet_nil ?_
           intro _ hw'
           obtain ⟨pq,hw''⟩:=hw'
           subst hw''
           clear q2 t1 t2 a1
           go_wp2_with fail
           go_ret
           exact ⟨Zc (by rw [<-HW.out,HSD.out,Q5 kl HR.out];simp),((hB.step hb).step (Zd _ _)).below⟩
          .have a3:(o[j+1].1.toList==o[j].1.toList)=true:=by rw [a2];simp
           clear a2
           refine Zk (by kernel_rfl) (by kernel_rfl) ?_
           repeat (go_big_quiet_step (((go_at_call 52;exact Zg (HVC.out _ (hT.below ((hB.step hb).below.trans ((Zd _ _).mono (by have:=(hB.step hb).size;omega)))))))))
           refine wpQuiet_nil ?_
           intro _ hw'
           obtain ⟨pq,hw''⟩:=hw'
           subst hw''
           clear q2 t1 t2 a1 a3
           go_wp2_with fail
           go_ret
           exact ⟨Zc (by rw [<-HW.out,HSD.out,Q5 kl HR.out];simp),((hB.step hb).step (Zd _ _)).below⟩
   .subst hi
    go_wp2_with fail
    go_ret
    refine ⟨Zc ?_,hB.below⟩
    have hjo:=HJ.out
    rw [List.take_of_length_le (by have:=Ho.out;omega)] at hjo
    rw [<-HW.out,HSD.out,hjo.1,hjo.2]
    rfl
def St.ok (s:St):Bool:=if s.list then s.key.toList.isEmpty && decide (0<=s.i) else s.i==0 && Lib.validD s.key.data.toList
def pathSound (p:List St):Bool:=decide (p.length<=16) && p.all St.ok
theorem St.ext' {a b:St} (h1:a.list=b.list) (h2:a.i=b.i) (h3:a.key=b.key):a=b:=by
 cases a;cases b;simp_all
def stNe (a b:St):Bool:= !(a.list==b.list && a.i==b.i && a.key.toList==b.key.toList)
theorem zcv (a b:St):stNe a b= !eqB a b:=by
 unfold stNe
 congr 1
 by_cases h:a=b
 .subst h;simp [eqB]
 .rw [Yk h]
  cases h1:(a.list==b.list && a.i==b.i && a.key.toList==b.key.toList) with
  |false=>rfl
  | true=>
    simp at h1
    exact absurd (St.ext' h1.1.1 h1.1.2 (Y6 h1.2)) h
theorem zcy (a b:St) (w:World):(binOp .neq 77 (.agg #[.bool a.list, .int .i64 a.i, .string a.key]) (.agg #[.bool b.list, .int .i64 b.i, .string b.key])).run Tryz.prog w= .ok (.bool (stNe a b)) w:=by
 have hS:Tryz.prog.underlying 77=some (.struct (Tryz.prog.fieldsOf 77)):=by kernel_rfl
 have hp:Tryz.prog.stoodInHeld 77=false:=by kernel_rfl
 rw [run_neq_struct,show (10000:Nat)=9999+1 from rfl,run_equalIn_agg w 9999 77 _ _ hS hp]
 simp only [Program.fieldsOf,Tryz.underlying77,stNe]
 go_simp
 by_cases h1:a.list=b.list<;>by_cases h2:a.i=b.i<;>by_cases h3:a.key.toList=b.key.toList<;>simp [h1,h2,h3]
set_option maxRecDepth 100000 in
theorem zgm (l l':List St) (w:World) (a a':Option Addr) (n m c c':Nat) (h:IsSteps w w.heap.size l a n c) (h':IsSteps w w.heap.size l' a' m c'):
 Calls Tryz.prog 92 #[.slice a n c, .slice a' m c'] w fun e w'=>e= .returned (.bool (eqB l l'))/\Below w.heap.size w w':=by
 have k1:=h.max;have k2:=h.few;have k3:=h'.max;have k4:=h'.few
 have HLn:=qh h.len;have HLm:=qh h'.len
 by_cases e:n=m
 case neg=>
  go_enter Tryz.func92,Tryz.ntmps92
  have f1:((n:Int) !=(m:Int))=true:=by simp;omega
  go_wp2_with fail
  go_ret
  exact ⟨Zc (Yk (fun h=>e (by rw [HLn.out,HLm.out,h]))).symm,Below.refl _ _⟩
 subst e
 go_enter Tryz.func92,Tryz.ntmps92
 go_wp2_with fail
 go_loopw [13] (fun i wr=>∃k:Nat,k<=n/\i= .int .i64 k/\Hid (∀j,j<k->l[j]? =l'[j]?)/\Below w.heap.size w wr) (fun i _=>n - (intOf i).toNat)
 case atStart=>exact ⟨0,Nat.zero_le _,rfl,fun j hj=>by omega,Below.refl _ _⟩
 case round=>
  obtain ⟨k,hk,rfl,HJ,hB⟩:=hrel
  by_cases hlt:k<n
  .obtain ⟨b,o,kl,rfl,hb,x1,_⟩:=h.get hlt
   obtain ⟨b',o',kl',rfl,hb',x2,_⟩:=h'.get hlt
   have x1:=x1.keep hB hb
   have x2:=x2.keep hB hb'
   have r0:=Za x1.c0;have r1:=Za x1.c1;have r2:=Za x1.c2
   have s0:=Za x2.c0;have s1:=Za x2.c1;have s2:=Za x2.c2
   clear x1 x2 h h'
   go_wp2_with fail
   have hne:=fun W=>zcy l[k] l'[k] W
   refine Zk (by kernel_rfl) (by kernel_rfl) ?_
   repeat (go_big_quiet_step (fail))
   refine wpQuiet_nil ?_
   intro _ hw'
   obtain ⟨pq,hw''⟩:=hw'
   subst hw''
   clear r0 r1 r2 s0 s1 s2 hne
   have hB2:=hB.on (Zd wr pq) hB.size
   generalize hx:stNe l[k] (l'[k]'kl')=bx
   cases bx with
   | false=>
     have EV:Hid (eqB l[k] (l'[k]'kl')=true):=by rw [zcv] at hx;show _=_;simpa using hx
     clear hx
     go_wp2_with fail
     go_roundw
     case rel=>exact ⟨k+1,by omega,by go_num,zcc HJ kl kl' EV.out,hB2⟩
     case measure=>simp [intOf];omega
   | true=>
     have EV:Hid (eqB l[k] (l'[k]'kl')=false):=by rw [zcv] at hx;show _=_;simpa using hx
     clear hx
     go_wp2_with fail
     go_ret
     exact ⟨Zc (Yk (fun h=>by subst h;exact Qd EV.out rfl)).symm,hB2⟩
  .go_wp2_with fail
   go_ret
   exact ⟨Zc (Xb (Qq HJ.out (by have:=HLn.out;omega) (by have:=HLm.out;omega))).symm,hB⟩
set_option maxRecDepth 100000 in
theorem ze8 (s:St) (w:World) (hT:Tabs w) (hb:s.Bnd):
 Calls Tryz.prog 93 #[.agg #[.bool s.list, .int .i64 s.i, .string s.key]] w fun e w'=>e= .returned (.bool !s.ok)/\Below w.heap.size w w':=by
 have hsz:=hb.k1
 have hv:=fun W hT=>Yb s.key W hsz hT
 obtain ⟨ls,i,key⟩:=s
 dsimp only at*
 obtain ⟨vd,hvd⟩:∃vd,Lib.validD key.data.toList=vd:=⟨_,rfl⟩
 rw [hvd] at hv
 have HV:=qh hv
 have HVD:=qh hvd
 obtain ⟨be,hbe⟩:∃be,key.toList.isEmpty=be:=⟨_,rfl⟩
 obtain ⟨R,hR⟩:∃R,(!(St.ok ⟨ls,i,key⟩))=R:=⟨_,rfl⟩
 rw [hR]
 have hR2:R= !(if ls then be && decide (0<=i) else i==0 && vd):=by rw [<-hR];simp only [St.ok];rw [hbe,hvd]
 have HR:=qh hR2
 clear hv hvd hR hR2 hb
 cases ls with
 | true=>
   have f0:(key.toList== [])=be:=by rw [<-hbe];cases key.toList<;>rfl
   clear hbe
   cases be with
   | false=>
     go_enter Tryz.func93,Tryz.ntmps93
     go_wp2_with fail
     go_ret
     exact ⟨Zc (by rw [HR.out];rfl),(Below.refl _ _).alloc (Nat.le_refl _) _⟩
   | true=>
     by_cases hi:i<0
     .go_enter Tryz.func93,Tryz.ntmps93
      go_wp2_with fail
      go_ret
      exact ⟨Zc (by rw [HR.out];simp;omega),(Below.refl _ _).alloc (Nat.le_refl _) _⟩
     .go_enter Tryz.func93,Tryz.ntmps93
      go_wp2_with fail
      go_ret
      exact ⟨Zc (by rw [HR.out];simp;omega),(Below.refl _ _).alloc (Nat.le_refl _) _⟩
 | false=>
   clear hbe
   by_cases hi:i=0
   .subst hi
    go_enter Tryz.func93,Tryz.ntmps93
    go_wp2_with (go_at_call 52;refine (HV.out _ (hT.below ((Below.refl _ _).alloc (Nat.le_refl _) _))).mono ?_;rintro e w' ⟨rfl,hb⟩)
    go_ret
    exact ⟨Zc (by rw [HR.out];simp),hb.one⟩
   .have f1:(i !=0)=true:=by simp [hi]
    have Hi:=qh hi
    clear hi
    go_enter Tryz.func93,Tryz.ntmps93
    go_wp2_with fail
    go_ret
    exact ⟨Zc (by rw [HR.out];simp [Hi.out]),(Below.refl _ _).alloc (Nat.le_refl _) _⟩
theorem zjb {α:Type} {l:List α} {p:α->Bool} {k:Nat} (kl:k<l.length) (h:p l[k] =true):l.any p=true:=by
 rw [List.any_eq_true];exact ⟨l[k],List.getElem_mem kl,h⟩
theorem zh1 {α:Type} {l:List α} {p:α->Bool} {n:Nat} (hn:n=l.length) (h:∀j,j<n->∀hj:j<l.length,p l[j] =false):l.any p=false:=by
 rw [List.any_eq_false]
 intro x hx
 obtain ⟨j,hj,rfl⟩:=List.getElem_of_mem hx
 rw [h j (by omega) hj];simp
theorem zfn {α:Type} {l:List α} {p:α->Bool} {k:Nat} (h:Hid (∀j,j<k->∀hj:j<l.length,p l[j] =false)) (kl:k<l.length) (e:p l[k] =false):Hid (∀j,j<k+1->∀hj:j<l.length,p l[j] =false):=by
 intro j hj hl
 by_cases hjk:j=k
 .subst hjk;exact e
 .exact h.out j (by omega) hl
set_option maxRecDepth 100000 in
theorem zgw (l:List St) (w:World) (a:Option Addr) (n c:Nat) (h:IsSteps w w.heap.size l a n c) (p:St->Bool) (g:Nat) (eg:∀args w,(callFunc g args).run Tryz.prog w= .ok (.enter g args) w)
 (hg:∀(s:St) (W:World),s.Bnd->Below w.heap.size w W->Calls Tryz.prog g #[.agg #[.bool s.list, .int .i64 s.i, .string s.key]] W fun e w'=>e= .returned (.bool (p s))/\Below W.heap.size W w'):
 Calls Tryz.prog 130 #[.slice a n c, .func (.func g) #[] #[]] w fun e w'=>(∃r:Int,e= .returned (.int .i64 r)/\Hid (decide (0<=r)=l.any p)/\ -1<=r/\r<=9223372036854775807)/\Below w.heap.size w w':=by
 have k1:=h.max;have k2:=h.few
 have HLn:=qh h.len
 have HG:=qh hg
 clear hg
 go_enter Tryz.func130,Tryz.ntmps130
 go_wp2_with fail
 go_loopw [5,8] (fun _ i wr=>∃k:Nat,k<=n/\i= .int .i64 k/\Hid (∀j,j<k->∀hj:j<l.length,p l[j] =false)/\Below w.heap.size w wr) (fun _ i _=>n - (intOf i).toNat)
 case atStart=>exact ⟨0,Nat.zero_le _,rfl,fun j hj=>by omega,Below.refl _ _⟩
 case round=>
  obtain ⟨k,hk,rfl,HJ,hB⟩:=hrel
  by_cases hlt:k<n
  .obtain ⟨b,o,kl,rfl,hb,x1,xb⟩:=h.get hlt
   have x1:=x1.keep hB hb
   have r0:=x1.c0;have r1:=x1.c1;have r2:=x1.c2
   have hc:=HG.out l[k] wr xb hB
   clear x1 h
   generalize hx:p l[k] =bx at hc
   have HX:=qh hx
   have HC:=qh hc
   clear hx hc
   cases bx with
   | false=>
     go_wp2_with (go_at_fn g;refine HC.out.mono ?_;rintro e w' ⟨rfl,hb'⟩)
     go_roundw
     case rel=>exact ⟨k+1,by omega,by go_num,zfn HJ kl HX.out,hB.on hb' hB.size⟩
     case measure=>simp [intOf];omega
   | true=>
     go_wp2_with (go_at_fn g;refine HC.out.mono ?_;rintro e w' ⟨rfl,hb'⟩)
     go_ret
     exact ⟨⟨k,rfl,by show _=_;rw [zjb kl HX.out];simp,by omega,by omega⟩,hB.on hb' hB.size⟩
  .go_wp2_with fail
   go_ret
   exact ⟨⟨-1,rfl,by show _=_;rw [zh1 (n:=n) HLn.out (fun j hj=>HJ.out j (by omega))];rfl,by omega,by omega⟩,hB⟩
set_option maxRecDepth 100000 in
theorem zjg (l:List St) (w:World) (a:Option Addr) (n c:Nat) (h:IsSteps w w.heap.size l a n c) (p:St->Bool) (g:Nat) (eg:∀args w,(callFunc g args).run Tryz.prog w= .ok (.enter g args) w)
 (hg:∀(s:St) (W:World),s.Bnd->Below w.heap.size w W->Calls Tryz.prog g #[.agg #[.bool s.list, .int .i64 s.i, .string s.key]] W fun e w'=>e= .returned (.bool (p s))/\Below W.heap.size W w'):
 Calls Tryz.prog 94 #[.slice a n c, .func (.func g) #[] #[]] w fun e w'=>e= .returned (.bool (l.any p))/\Below w.heap.size w w':=by
 have k1:=h.max;have k2:=h.few
 have hc:=zgw l w a n c h p g eg hg
 have HC:=qh hc
 clear hg hc h eg
 go_enter Tryz.func94,Tryz.ntmps94
 go_wp2_with (go_at_call 130;refine HC.out.mono ?_;rintro e w' ⟨⟨r,rfl,hr,h1,h2⟩,hb⟩)
 go_ret
 exact ⟨Zc (by rw [<-hr.out]),hb⟩
set_option maxRecDepth 100000 in
theorem zhj (l:List St) (w:World) (hT:Tabs w) (a:Option Addr) (n c:Nat) (h:IsSteps w w.heap.size l a n c):
 Calls Tryz.prog 55 #[.slice a n c] w fun e w'=>e= .returned (.bool (pathSound l))/\Below w.heap.size w w':=by
 have k1:=h.max;have k2:=h.few
 have HLn:=qh h.len
 have hc:=zjg l w a n c h (fun s=> !s.ok) 93 (enters_of Tryz.func93 (by kernel_rfl) rfl) (fun s W hb hW=>ze8 s W (hT.below hW) hb)
 have HC:=qh hc
 clear hc h
 obtain ⟨R,hR⟩:∃R,pathSound l=R:=⟨_,rfl⟩
 obtain ⟨A,hA⟩:∃A,l.any (fun s=> !s.ok)=A:=⟨_,rfl⟩
 have hR2:R=(decide (n<=16) && !A):=by
  rw [<-hR, <-hA,HLn.out,pathSound];congr 1;rw [List.not_any_eq_all_not];simp
 rw [hR];rw [hA] at HC
 have HR:=qh hR2
 clear hR hR2 hA
 by_cases hn:n<=16
 .go_enter Tryz.func55,Tryz.ntmps55
  go_wp2_with (go_at_call 94;refine HC.out.mono ?_;rintro e w' ⟨rfl,hb⟩)
  go_ret
  exact ⟨Zc (by rw [HR.out];simp [hn]),hb⟩
 .go_enter Tryz.func55,Tryz.ntmps55
  go_wp2_with fail
  go_ret
  exact ⟨Zc (by rw [HR.out];simp [hn]),Below.refl _ _⟩
theorem Jf {l:List St} {k:Nat} {s:St} (kl:k<l.length) (hs:l[k] =s) (h:s.ok=false):pathSound l=false:=by
 unfold pathSound
 rw [Bool.and_eq_false_iff];right
 rw [List.all_eq_false]
 exact ⟨l[k],List.getElem_mem kl,by rw [hs,h];simp⟩
theorem Ko {l:List St} {k:Nat} {s:St} (h:Hid (∀j,j<k->∀hj:j<l.length,l[j].ok=true)) (kl:k<l.length) (hs:l[k] =s) (e:s.ok=true):Hid (∀j,j<k+1->∀hj:j<l.length,l[j].ok=true):=by
 intro j hj hl
 by_cases hjk:j=k
 .subst hjk;rw [hs];exact e
 .exact h.out j (by omega) hl
theorem zgf {l:List St} {n:Nat} (hn:n=l.length) (h:∀j,j<n->∀hj:j<l.length,l[j].ok=true):pathSound l=decide (n<=16):=by
 have:l.all St.ok=true:=by
  rw [List.all_eq_true]
  intro x hx
  obtain ⟨j,hj,rfl⟩:=List.getElem_of_mem hx
  exact h j (by omega) hj
 rw [pathSound,this,hn];simp
set_option maxRecDepth 100000 in
theorem zfw (l:List St) (w:World) (hT:Tabs w) (a:Option Addr) (n c:Nat) (h:IsSteps w w.heap.size l a n c):
 Calls Tryz.prog 107 #[.slice a n c] w fun e w'=>e= .returned (.bool (pathSound l))/\Below w.heap.size w w':=by
 have k1:=h.max;have k2:=h.few
 have HLn:=qh h.len
 go_enter Tryz.func107,Tryz.ntmps107
 go_wp2_with fail
 go_loopw [3] (fun i wr=>∃k:Nat,k<=n/\i= .int .i64 k/\Hid (∀j,j<k->∀hj:j<l.length,l[j].ok=true)/\Below w.heap.size w wr) (fun i _=>n - (intOf i).toNat)
 case atStart=>exact ⟨0,Nat.zero_le _,rfl,fun j hj=>by omega,Below.refl _ _⟩
 case round=>
  obtain ⟨k,hk,rfl,HJ,hB⟩:=hrel
  by_cases hlt:k<n
  .obtain ⟨b,o,kl,rfl,hb,x1,xb⟩:=h.get hlt
   have x1:=x1.keep hB hb
   have hTr:=hT.below hB
   obtain ⟨s,hs⟩:∃s,l[k] =s:=⟨_,rfl⟩
   rw [hs] at x1 xb
   have HS:=qh hs
   obtain ⟨ls,i,key⟩:=s
   have r0:=x1.c0;have r1:=x1.c1;have r2:=x1.c2
   dsimp only at r0 r1 r2
   have hv:=Yb key wr xb.k1 hTr
   obtain ⟨vd,hvd⟩:∃vd,Lib.validD key.data.toList=vd:=⟨_,rfl⟩
   rw [hvd] at hv
   have HV:=qh hv
   have HVD:=qh hvd
   obtain ⟨be,hbe⟩:∃be,key.toList.isEmpty=be:=⟨_,rfl⟩
   obtain ⟨R,hR⟩:∃R,(St.ok ⟨ls,i,key⟩)=R:=⟨_,rfl⟩
   have hR2:R=(if ls then be && decide (0<=i) else i==0 && vd):=by rw [<-hR];simp only [St.ok];rw [hbe,hvd]
   have HR2:=qh hR2
   have HR:=qh hR
   have hempty:be=true->vd=true:=by
    intro hb1
    have:key.toList= [] :=by simpa [hb1] using hbe
    rw [ByteArray.toList_eq] at this
    rw [<-hvd,this];decide
   have HE:=qh hempty
   clear x1 h hs hv hvd hR2 hR xb hempty hTr
   cases ls with
   | true=>
     have f0:(key.toList== [])=be:=by rw [<-hbe];cases key.toList<;>rfl
     clear hbe
     cases be with
     | false=>
       go_wp2_with fail
       go_ret
       exact ⟨Zc (Jf kl HS.out (by rw [HR.out,HR2.out];simp)).symm,hB⟩
     | true=>
       by_cases hi:i<0
       .go_wp2_with fail
        go_ret
        exact ⟨Zc (Jf kl HS.out (by rw [HR.out,HR2.out];simp;omega)).symm,hB⟩
       .have hvt:=HE.out rfl
        rw [hvt] at HV
        clear hvt
        go_wp2_with (go_at_call 52;refine HV.out.mono ?_;rintro e w' ⟨rfl,hb'⟩)
        go_roundw
        case rel=>exact ⟨k+1,by omega,by go_num,Ko HJ kl HS.out (by rw [HR.out,HR2.out];simp;omega),hB.on hb' hB.size⟩
        case measure=>simp [intOf];omega
   | false=>
     clear hbe
     by_cases hi:i=0
     .subst hi
      cases vd with
      | false=>
        go_wp2_with (go_at_call 52;refine HV.out.mono ?_;rintro e w' ⟨rfl,hb'⟩)
        go_ret
        exact ⟨Zc (Jf kl HS.out (by rw [HR.out,HR2.out];simp)).symm,hB.on hb' hB.size⟩
      | true=>
        go_wp2_with (go_at_call 52;refine HV.out.mono ?_;rintro e w' ⟨rfl,hb'⟩)
        go_roundw
        case rel=>exact ⟨k+1,by omega,by go_num,Ko HJ kl HS.out (by rw [HR.out,HR2.out];simp),hB.on hb' hB.size⟩
        case measure=>simp [intOf];omega
     .have f1:(i !=0)=true:=by simp [hi]
      have Hi:=qh hi
      clear hi
      go_wp2_with fail
      go_ret
      exact ⟨Zc (Jf kl HS.out (by rw [HR.out,HR2.out];simp [Hi.out])).symm,hB⟩
  .go_wp2_with fail
   go_ret
   refine ⟨Zc ?_,hB⟩
   rw [zgf (n:=n) HLn.out (fun j hj=>HJ.out j (by omega))]
   simp;omega
end Go.Proofs.YtnjgbiachcfigaaGreatDoor
