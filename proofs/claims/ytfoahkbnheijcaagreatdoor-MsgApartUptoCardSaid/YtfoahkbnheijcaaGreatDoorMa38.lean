/-
  Contracts of the functions that the law reaches: conciliatorref07.Same.
-/
import Derived.Test.YtfoahkbnheijcaaGreatDoorMa37
import Derived.Test.YtfoahkbnheijcaaGreatDoorMa19
import Derived.Deep.MidRow
namespace Go.Proofs.YtfoahkbnheijcaaGreatDoor
open Go.RowKit
set_option maxHeartbeats 8000000
set_option maxRecDepth 100000 in
theorem zht (l l':List Cm) (w:World) (a a':Option Addr) (n m c c':Nat) (h:IsComps w w.heap.size l a n c) (h':IsComps w w.heap.size l' a' m c'):
 Calls Tryz.prog 39 #[.slice a n c, .slice a' m c'] w fun e w'=>e= .returned (.bool (eqB l l'))/\Below w.heap.size w w':=by
 have HLn:=qh h.len;have HLm:=qh h'.len
 have k1:=h.few;have k2:=h.max;have k3:=h.cap;have k1':=h'.few;have k2':=h'.max;have k3':=h'.cap
 by_cases e:n=m
 case neg=>
  go_enter Tryz.func39,Tryz.ntmps39
  have f1:((n:Int) !=(m:Int))=true:=by simp;omega
  go_wp2_with fail
  go_ret
  exact ⟨Zb (Zu (fun h=>e (by rw [HLn.out,HLm.out,h]))).symm,Below.refl _ _⟩
 subst e
 go_enter Tryz.func39,Tryz.ntmps39
 have f1:((n:Int) !=(n:Int))=false:=by simp
 go_wp2_with fail
 clear f1
 go_loopw [5] (fun i wr=>∃k:Nat,k<=n/\i= .int .i64 k/\Hid (∀j,j<k->l[j]? =l'[j]?)/\Below w.heap.size w wr) (fun i _=>n - (intOf i).toNat)
 case atStart=>exact ⟨0,Nat.zero_le _,rfl,fun j hj=>by omega,Below.refl _ _⟩
 case round=>
  obtain ⟨k,hk,rfl,HJ,hB⟩:=hrel
  by_cases hlt:k<n
  .obtain ⟨b,o,d,kl,ho2,hb,x1,xb⟩:=h.get hlt
   obtain ⟨b',o',d',kl',ho2',hb',x1',xb'⟩:=h'.get hlt
   subst ho2 ho2'
   have x1:=x1.keep hB hb
   have x1':=x1'.keep hB hb'
   have r0:=Za x1.c0;have r1:=Za x1.c1;have r2:=Za x1.c2;have r3:=Za x1.c3;have r4:=Za x1.c4;have r5:=Za x1.c5;have r6:=Za x1.c6.c0;have r7:=Za x1.c7;have r8:=Za x1.c8;have r9:=Za x1.c9;have r10:=Za x1.c10;have r11:=Za x1.c11
   have s0:=Za x1'.c0;have s1:=Za x1'.c1;have s2:=Za x1'.c2;have s3:=Za x1'.c3;have s4:=Za x1'.c4;have s5:=Za x1'.c5;have s6:=Za x1'.c6.c0;have s7:=Za x1'.c7;have s8:=Za x1'.c8;have s9:=Za x1'.c9;have s10:=Za x1'.c10;have s11:=Za x1'.c11
   have HC:Hid (∀W,Below w.heap.size w W->Calls Tryz.prog 35 #[.agg #[.int .u8 d.k, .slice d.pa d.pl d.pc, .string d.key, .int .i64 d.i, .int .i64 d.j, .int .i64 d.n, .int .u8 d.v.k, .int .i64 d.v.n, .string d.v.s, .slice d.v.la d.v.ll d.v.lc, .slice d.v.oa d.v.ol d.v.oc, .string d.s], .agg #[.int .u8 d'.k, .slice d'.pa d'.pl d'.pc, .string d'.key, .int .i64 d'.i, .int .i64 d'.j, .int .i64 d'.n, .int .u8 d'.v.k, .int .i64 d'.v.n, .string d'.v.s, .slice d'.v.la d'.v.ll d'.v.lc, .slice d'.v.oa d'.v.ol d'.v.oc, .string d'.s]] W fun e w'=>e= .returned (.bool (eqB l[k] l'[k]))/\Below W.heap.size W w'):=fun W hW=>zks _ _ W d d' (xb.later_ hW) (xb'.later_ hW)
   clear x1 x1' xb xb'
   generalize hev:eqB l[k] l'[k] =ev at HC
   have HEV:=qh hev
   have HH:=qh h;have HH':=qh h'
   clear hev h h'
   go_wp2_with fail
   refine Zh (by kernel_rfl) (by kernel_rfl) ?_
   repeat (go_big_quiet_step ((go_at_call 35;exact Zg (HC.out _ (hB.on (Ze _ _) hB.size)))))
   refine wpQuiet_nil ?_
   intro _ hw'
   obtain ⟨pq,hw''⟩:=hw'
   subst hw''
   clear r0 r1 r2 r3 r4 r5 r6 r7 r8 r9 r10 r11 s0 s1 s2 s3 s4 s5 s6 s7 s8 s9 s10 s11
   have hB2:=hB.on (Ze wr pq) hB.size
   cases ev with
   | true=>
     go_wp2_with fail
     go_roundw
     case rel=>exact ⟨k+1,by omega,by go_num,Qq HJ kl kl' HEV.out,hB2⟩
     case measure=>simp [intOf];omega
   | false=>
     go_wp2_with fail
     go_ret
     exact ⟨Zb (Zu (fun h=>Yy HEV.out (by simp only [h]))).symm,hB2⟩
  .go_wp2_with fail
   go_ret
   exact ⟨Zb (Zy (Xo HJ.out (by have:=HLn.out;omega) (by have:=HLm.out;omega))).symm,hB⟩
theorem zgc (c d:EC) (l l':List Cm) (v u:V):eqB (En.mk c.k c.src c.seq v l) (En.mk d.k d.src d.seq u l')=((c.k==d.k) && ((c.src==d.src) && ((c.seq==d.seq) && (eqv v u && eqB l l')))):=by
 apply Bool.eq_iff_iff.2
 simp only [Bool.and_eq_true,beq_iff_eq]
 constructor
 .intro h
  have h:=Z6 h
  injection h with h1 h2 h3 h4 h5
  exact ⟨h1,h2,h3,J8 h4,Zy h5⟩
 .rintro ⟨h1,h2,h3,h4,h5⟩
  exact Zy (by rw [h1,h2,h3,X5 h4,Z6 h5])
set_option maxRecDepth 100000 in
theorem zch (x y:En) (w:World) (c d:EC) (hx:IsEntry w w.heap.size x c) (hy:IsEntry w w.heap.size y d):
 Calls Tryz.prog 15 #[.agg #[.int .u8 c.k, .int .u32 c.src, .int .u32 c.seq, .int .u8 c.v.k, .int .i64 c.v.n, .string c.v.s, .slice c.v.la c.v.ll c.v.lc, .slice c.v.oa c.v.ol c.v.oc, .slice c.oa c.ol c.oc], .agg #[.int .u8 d.k, .int .u32 d.src, .int .u32 d.seq, .int .u8 d.v.k, .int .i64 d.v.n, .string d.v.s, .slice d.v.la d.v.ll d.v.lc, .slice d.v.oa d.v.ol d.v.oc, .slice d.oa d.ol d.oc]] w fun e w'=>e= .returned (.bool (eqB x y))/\Below w.heap.size w w':=by
 cases hx with
 |mk c v l hb hv hl=>
 cases hy with
 |mk d u l' hb' hu hl'=>
 have HV:Hid (∀W,Below w.heap.size w W->Calls Tryz.prog 23 #[.agg #[.int .u8 c.v.k, .int .i64 c.v.n, .string c.v.s, .slice c.v.la c.v.ll c.v.lc, .slice c.v.oa c.v.ol c.v.oc], .agg #[.int .u8 d.v.k, .int .i64 d.v.n, .string d.v.s, .slice d.v.la d.v.ll d.v.lc, .slice d.v.oa d.v.ol d.v.oc]] W fun e w'=>e= .returned (.bool (eqv v u))/\Below W.heap.size W w'):=fun W hW=>K2 v u W c.v d.v (hv.later_ hW) (hu.later_ hW)
 have HP:Hid (∀W,Below w.heap.size w W->Calls Tryz.prog 39 #[.slice c.oa c.ol c.oc, .slice d.oa d.ol d.oc] W fun e w'=>e= .returned (.bool (eqB l l'))/\Below W.heap.size W w'):=fun W hW=>zht l l' W _ _ _ _ _ _ (hl.later_ hW) (hl'.later_ hW)
 rw [zgc]
 generalize eqv v u=ev at HV ⊢
 generalize eqB l l'=ep at HP ⊢
 obtain ⟨f0,h0⟩:∃b,(c.k==d.k)=b:=⟨_,rfl⟩
 obtain ⟨f1,h1⟩:∃b,(c.src==d.src)=b:=⟨_,rfl⟩
 obtain ⟨f2,h2⟩:∃b,(c.seq==d.seq)=b:=⟨_,rfl⟩
 rw [h0,h1,h2]
 clear hb hl hv hb' hl' hu
 rcases bcT f0 (bcT f1 (bcT f2 (bcT ev trivial))) with rfl|⟨rfl,(rfl|⟨rfl,(rfl|⟨rfl,(rfl|⟨rfl,_⟩)⟩)⟩)⟩
 all_goals
  go_enter Tryz.func15,Tryz.ntmps15
  go_wp2_with (first|(go_at_call 23;(with_reducible refine (HV.out _ (((Below.refl _ _).alloc (Nat.le_refl _) _).alloc (by simp) _)).mono ?_);rintro e w1 ⟨rfl,hb1⟩;have q1:=hb1.cellA 8 _ rfl;have q2:=hb1.cellB 8 _ rfl)|(go_at_call 39;(with_reducible refine (HP.out _ hb1.two).mono ?_);rintro e w2 ⟨rfl,hb2⟩))
  go_ret
  exact ⟨Zb (by simp),by first|exact ((Below.refl _ _).alloc (Nat.le_refl _) _).alloc (by simp) _|exact hb1.two|exact hb1.two.on hb2 hb1.two.size⟩
structure Ms where
 k:Int
 doc:ByteArray
 n:Int
 e:En
 src:Int
 seq:Int
 err:Int
 there:Bool
 v:V
 f:List ByteArray
structure MC where
 k:Int
 doc:ByteArray
 n:Int
 e:EC
 src:Int
 seq:Int
 err:Int
 there:Bool
 v:VC
 fa:Option Addr
 fl:Nat
 fc:Nat
structure MC.Bnd (c:MC):Prop where
 k0:0<=c.k
 k1:c.k<256
 d1:c.doc.size<=140737488355328
 n0: -9223372036854775808<=c.n
 n1:c.n<=9223372036854775807
 s0:0<=c.src
 s1:c.src<4294967296
 q0:0<=c.seq
 q1:c.seq<4294967296
 e0:0<=c.err
 e1:c.err<65536
inductive IsMsg (w:World) (B:Nat):Ms->MC->Prop
 |mk (c:MC) (e:En) (v:V) (f:List ByteArray) (hb:c.Bnd) (he:IsEntry w B e c.e) (hv:IsVal w B v c.v) (hf:IsStrs w B f c.fa c.fl c.fc):IsMsg w B ⟨c.k,c.doc,c.n,e,c.src,c.seq,c.err,c.there,v,f⟩ c
theorem IsMsg.later_ {w w':World} {m:Ms} {c:MC} (h:IsMsg w w.heap.size m c) (hb:Below w.heap.size w w'):IsMsg w' w'.heap.size m c:=by
 cases h with
 |mk c e v f h1 h2 h3 h4=>exact .mk c e v f h1 (h2.later_ hb) (h3.later_ hb) (h4.later_ hb)
def Ms.none:Ms:=⟨0, .empty,0,En.none,0,0,0,false,V.none, []⟩
def mzero:MC:=⟨0, .empty,0,ezero,0,0,0,false,VC.none,none,0,0⟩
def mcells (c:MC):List Value:= [.int .u8 c.k, .string c.doc, .int .i64 c.n, .int .u8 c.e.k, .int .u32 c.e.src, .int .u32 c.e.seq, .int .u8 c.e.v.k, .int .i64 c.e.v.n, .string c.e.v.s, .slice c.e.v.la c.e.v.ll c.e.v.lc, .slice c.e.v.oa c.e.v.ol c.e.v.oc, .slice c.e.oa c.e.ol c.e.oc, .int .u32 c.src, .int .u32 c.seq, .int .u16 c.err, .bool c.there, .int .u8 c.v.k, .int .i64 c.v.n, .string c.v.s, .slice c.v.la c.v.ll c.v.lc, .slice c.v.oa c.v.ol c.v.oc, .slice c.fa c.fl c.fc]
theorem Xh (w:World) (B:Nat):IsMsg w B Ms.none mzero:= .mk mzero En.none V.none [] ⟨by decide,by decide,by decide,by decide,by decide,by decide,by decide,by decide,by decide,by decide,by decide⟩ (Xq w B) (Zo _ _) (IsStrs.nil _ _)
def numberedB (k:Int):Bool:= !(k==2) && !(k==6)
def bringsB (k:Int):Bool:=k==3||k==5
noncomputable def enNone (e:En):Bool:=(e.k==0) && ((e.src==0) && ((e.seq==0) && ((e.op.length==0) && eqv e.v V.none)))
set_option maxRecDepth 100000 in
theorem Y3 (k:Int) (w:World):Calls Tryz.prog 44 #[.int .u8 k] w fun e w'=>e= .returned (.bool (numberedB k))/\w'=w:=by
 by_cases h1:k=2
 .subst h1
  go_enter Tryz.func44,Tryz.ntmps44
  go_wp2_with fail
  go_ret
  exact ⟨rfl,rfl⟩
 .by_cases h2:k=6
  .subst h2
   go_enter Tryz.func44,Tryz.ntmps44
   go_wp2_with fail
   go_ret
   exact ⟨rfl,rfl⟩
  .have f1:(k==2)=false:=by simp [h1]
   have f2:(k==6)=false:=by simp [h2]
   have HR:Hid (numberedB k=true):=by show _=_;rw [numberedB,f1,f2];rfl
   go_enter Tryz.func44,Tryz.ntmps44
   go_wp2_with fail
   go_ret
   exact ⟨Zb (by rw [HR.out];simp [bne,f1,f2]),rfl⟩
set_option maxRecDepth 100000 in
theorem zjy (k:Int) (w:World):Calls Tryz.prog 87 #[.int .u8 k] w fun e w'=>e= .returned (.bool (bringsB k))/\w'=w:=by
 obtain ⟨a,ha⟩:∃b,(k==3)=b:=⟨_,rfl⟩
 obtain ⟨b,hb⟩:∃b,(k==5)=b:=⟨_,rfl⟩
 have HR:Hid (bringsB k=(a||b)):=by show _=_;rw [bringsB,ha,hb]
 go_enter Tryz.func87,Tryz.ntmps87
 rcases bcF a (bcF b trivial) with rfl|⟨rfl,(rfl|⟨rfl,_⟩)⟩
 all_goals
  go_wp2_with fail
  go_ret
  exact ⟨Zb (by rw [HR.out];rfl),rfl⟩
set_option maxRecDepth 100000 in
theorem zl2 (x:En) (w:World) (c:EC) (hx:IsEntry w w.heap.size x c):
 Calls Tryz.prog 88 #[.agg #[.int .u8 c.k, .int .u32 c.src, .int .u32 c.seq, .int .u8 c.v.k, .int .i64 c.v.n, .string c.v.s, .slice c.v.la c.v.ll c.v.lc, .slice c.v.oa c.v.ol c.v.oc, .slice c.oa c.ol c.oc]] w fun e w'=>e= .returned (.bool (enNone x))/\Below w.heap.size w w':=by
 cases hx with
 |mk c v l hb hv hl=>
 have HV:Hid (∀W,Below w.heap.size w W->Calls Tryz.prog 90 #[.agg #[.int .u8 c.v.k, .int .i64 c.v.n, .string c.v.s, .slice c.v.la c.v.ll c.v.lc, .slice c.v.oa c.v.ol c.v.oc], .agg #[.int .u8 0, .int .i64 0, .string { data:= #[] }, .slice none 0 0, .slice none 0 0]] W fun e w'=>e= .returned (.bool (eqv v V.none))/\Below W.heap.size W w'):=fun W hW=>J7 v V.none W c.v VC.none (hv.later_ hW) (Zo _ _)
 have HL:=qh hl.len
 obtain ⟨f0,h0⟩:∃b,(c.k==0)=b:=⟨_,rfl⟩
 obtain ⟨f1,h1⟩:∃b,(c.src==0)=b:=⟨_,rfl⟩
 obtain ⟨f2,h2⟩:∃b,(c.seq==0)=b:=⟨_,rfl⟩
 obtain ⟨f3,h3⟩:∃b,(((c.ol:Nat):Int)==0)=b:=⟨_,rfl⟩
 have h4:(l.length==0)=f3:=by rw [<-h3, <-HL.out];cases c.ol<;>simp<;>omega
 have HR:Hid (enNone ⟨c.k,c.src,c.seq,v,l⟩=(f0 && (f1 && (f2 && (f3 && eqv v V.none))))):=by show _=_;rw [enNone];simp only [];rw [h0,h1,h2,h4]
 generalize eqv v V.none=ev at HV HR
 clear hb hv hl h4
 rcases bcT f0 (bcT f1 (bcT f2 (bcT f3 trivial))) with rfl|⟨rfl,(rfl|⟨rfl,(rfl|⟨rfl,(rfl|⟨rfl,_⟩)⟩)⟩)⟩
 all_goals
  go_enter Tryz.func88,Tryz.ntmps88
  go_wp2_with (go_at_call 90;(with_reducible refine (HV.out _ ((Below.refl _ _).alloc (Nat.le_refl _) _)).mono ?_);rintro e w1 ⟨rfl,hb1⟩)
  go_ret
  exact ⟨Zb (by rw [HR.out];simp),by first|exact (Below.refl _ _).alloc (Nat.le_refl _) _|exact hb1.one⟩
def sameB (c d:MC) (eq:Bool):Bool:=(c.k==d.k) && ((c.doc.toList==d.doc.toList) && ((c.n==d.n) && ((c.src==d.src) && ((c.seq==d.seq) && ((c.err==d.err) && ((c.there==d.there) && eq))))))
set_option maxRecDepth 100000 in
theorem zj5 (w:World) (c d:MC) (l l':List ByteArray) (hl:IsStrs w w.heap.size l c.fa c.fl c.fc) (hl':IsStrs w w.heap.size l' d.fa d.fl d.fc):
 Calls Tryz.prog 86 #[.agg #[.int .u8 c.k, .string c.doc, .int .i64 c.n, .int .u8 c.e.k, .int .u32 c.e.src, .int .u32 c.e.seq, .int .u8 c.e.v.k, .int .i64 c.e.v.n, .string c.e.v.s, .slice c.e.v.la c.e.v.ll c.e.v.lc, .slice c.e.v.oa c.e.v.ol c.e.v.oc, .slice c.e.oa c.e.ol c.e.oc, .int .u32 c.src, .int .u32 c.seq, .int .u16 c.err, .bool c.there, .int .u8 c.v.k, .int .i64 c.v.n, .string c.v.s, .slice c.v.la c.v.ll c.v.lc, .slice c.v.oa c.v.ol c.v.oc, .slice c.fa c.fl c.fc], .agg #[.int .u8 d.k, .string d.doc, .int .i64 d.n, .int .u8 d.e.k, .int .u32 d.e.src, .int .u32 d.e.seq, .int .u8 d.e.v.k, .int .i64 d.e.v.n, .string d.e.v.s, .slice d.e.v.la d.e.v.ll d.e.v.lc, .slice d.e.v.oa d.e.v.ol d.e.v.oc, .slice d.e.oa d.e.ol d.e.oc, .int .u32 d.src, .int .u32 d.seq, .int .u16 d.err, .bool d.there, .int .u8 d.v.k, .int .i64 d.v.n, .string d.v.s, .slice d.v.la d.v.ll d.v.lc, .slice d.v.oa d.v.ol d.v.oc, .slice d.fa d.fl d.fc]] w fun e w'=>e= .returned (.bool (sameB c d (eqB l l')))/\Below w.heap.size w w':=by
 have HL:Hid (∀W,Below w.heap.size w W->Calls Tryz.prog 140 #[.slice c.fa c.fl c.fc, .slice d.fa d.fl d.fc] W fun e w'=>e= .returned (.bool (eqB l l'))/\Below W.heap.size W w'):=fun W hW=>zgz l l' W _ _ _ _ _ _ (hl.later_ hW) (hl'.later_ hW)
 generalize eqB l l'=ep at HL ⊢
 rw [sameB]
 obtain ⟨f0,h0⟩:∃b,(c.k==d.k)=b:=⟨_,rfl⟩
 obtain ⟨f1,h1⟩:∃b,(c.doc.toList==d.doc.toList)=b:=⟨_,rfl⟩
 obtain ⟨f2,h2⟩:∃b,(c.n==d.n)=b:=⟨_,rfl⟩
 obtain ⟨f3,h3⟩:∃b,(c.src==d.src)=b:=⟨_,rfl⟩
 obtain ⟨f4,h4⟩:∃b,(c.seq==d.seq)=b:=⟨_,rfl⟩
 obtain ⟨f5,h5⟩:∃b,(c.err==d.err)=b:=⟨_,rfl⟩
 obtain ⟨f6,h6⟩:∃b,(c.there==d.there)=b:=⟨_,rfl⟩
 rw [h0,h1,h2,h3,h4,h5,h6]
 clear hl hl'
 rcases bcT f0 (bcT f1 (bcT f2 (bcT f3 (bcT f4 (bcT f5 (bcT f6 trivial)))))) with rfl|⟨rfl,(rfl|⟨rfl,(rfl|⟨rfl,(rfl|⟨rfl,(rfl|⟨rfl,(rfl|⟨rfl,(rfl|⟨rfl,_⟩)⟩)⟩)⟩)⟩)⟩)⟩
 all_goals
  go_enter Tryz.func86,Tryz.ntmps86
  go_wp2_with (go_at_call 140;(with_reducible refine (HL.out _ (((Below.refl _ _).alloc (Nat.le_refl _) _).alloc (by simp) _)).mono ?_);rintro e w1 ⟨rfl,hb1⟩)
  go_ret
  exact ⟨Zb (by simp),by first|exact ((Below.refl _ _).alloc (Nat.le_refl _) _).alloc (by simp) _|exact hb1.two⟩
theorem Ql:(Tryz.prog.info? 46).map (·.size)=some 22:=by kernel_rfl
theorem BC.range {W:World} {b:Nat} {cs:List Value} (h:BC W b cs):W.rangeAt b 0 cs:=fun j v hv=>by rw [Nat.zero_add];exact h.at_ j v hv
theorem zaj {W:World} {b n:Nat} {cs:List Value} (h:BC W b cs) (hn:n<=cs.length:=by simp):W.there b 0 n:=fun j hj=>by
 rw [Nat.zero_add]
 exact ⟨by rw [h.at_ j (cs[j]'(by omega)) (List.getElem?_eq_getElem _)];rfl,h.fr j⟩
theorem Kp {b:Nat} :∀(vs pre cs:List Value) (W:World),cs.length=vs.length->BC W b (pre++cs)->BC (W.setCells b pre.length vs) b (pre++vs)
 | [],pre,cs,_,h,hb=>by
   have:cs= [] :=List.length_eq_zero_iff.1 h
   subst this;exact hb
 | v ::vs,pre,cs,_,h,hb=>by
   cases cs with
   |nil=>cases h
   | cons x cs=>
     have h1:=hb.set (i:=pre.length) (x:=v) (by simp)
     have e:(pre++x::cs).set pre.length v=(pre++ [v])++cs:=by simp
     rw [e] at h1
     have h2:=Kp vs (pre++ [v]) cs _ (by simpa using h) h1
     have e2:(pre++ [v]).length=pre.length+1:=by simp
     rw [e2] at h2
     simpa [World.setCells] using h2
theorem K3 {b b':Nat} (hb:b≠b') {cs:List Value} :∀(vs:List Value) (o:Nat) (W:World),BC W b cs->BC (W.setCells b' o vs) b cs
 | [],_,_,h=>h
 |_::vs,o,_,h=>K3 hb vs (o+1) _ (h.far hb)
theorem za7 {B b:Nat} (hb:B<=b):∀(vs:List Value) (o:Nat) (w W:World),Below B w W->Below B w (W.setCells b o vs)
 | [],_,_,_,h=>h
 |v::vs,o,w,_,h=>za7 hb vs (o+1) w _ (h.setCell (by exact hb) v)
theorem Yo {W:World} {b:Nat} {cs:List Value} (h:BC W b cs):BC W.drew b cs:=⟨fun j x hj=>h.at_ j x hj,h.fr,h.lt⟩
theorem genM (w:World) (cs:Array Value) (t t':TypeId) (zs:Array Value) (xs:List Value) {n:Nat} (hn:n=w.heap.size+1) (hz:zs.size=xs.length) {M:World->Prop} (h:∀W2,BC W2 w.heap.size cs.toList->BC W2 (w.heap.size+1) xs->Below w.heap.size w W2->M W2):
 M (((w.alloc (.cells cs t)).alloc (.cells zs t')).setCells n 0 xs.toArray.toList):=by
 subst hn
 have h1:=BC.start (w.alloc (.cells cs t)) zs t'
 rw [show (w.alloc (.cells cs t)).heap.size=w.heap.size+1 by simp] at h1
 have hb:Below w.heap.size w ((w.alloc (.cells cs t)).alloc (.cells zs t')):=((Below.refl _ _).alloc (Nat.le_refl _) _).alloc (by simp) _
 refine h _ (K3 (by omega) _ _ _ ((BC.start w cs t).keep ((Below.refl _ _).alloc (Nat.le_refl _) _) (by simp))) ?_ (za7 (by omega) _ _ _ _ hb)
 exact Kp xs [] zs.toList _ (by simpa using hz) h1
theorem Zp {ops:Array Oper} {rest:List Oper} {op:Oper} {a:Act} {Q:Exit->Act->World->Prop} {W:World} (hgd:op.guard=none) (x:Operand) (ho:op.op= .load 46 x)
 (h:∃(b:Nat) (cs:List Value),a.eval x= .pointer (some ⟨b,0,none⟩)/\cs.length=22/\BC W b cs/\wpList Tryz.prog ops Q rest (a.put op.dst (.agg cs.toArray)) W):wpList Tryz.prog ops Q (op::rest) a W:=by
 obtain ⟨b,cs,h1,h2,h3,h4⟩:=h
 exact wpList_load_mid hgd _ x ho b 0 h1 cs _ h3.range Tryz.underlying46 rfl (by rw [Ql,h2]) h4
theorem Xm {ops:Array Oper} {rest:List Oper} {op:Oper} {a:Act} {Q:Exit->Act->World->Prop} {W:World} (hgd:op.guard=none) (x y:Operand) (ho:op.op= .store 46 x y)
 (h:∃(w:World) (cs:Array Value) (t t':TypeId) (zs:Array Value) (xs:List Value),W=((w.alloc (.cells cs t)).alloc (.cells zs t'))/\a.eval x= .pointer (some ⟨w.heap.size+1,0,none⟩)/\a.eval y= .agg xs.toArray/\zs.size=xs.length/\xs.length=22/\xs.all (·.oneCell')=true/\
  ∀W2,BC W2 w.heap.size cs.toList->BC W2 (w.heap.size+1) xs->Below w.heap.size w W2->wpList Tryz.prog ops Q rest (a.put op.dst undef) W2):wpList Tryz.prog ops Q (op::rest) a W:=by
 obtain ⟨w,cs,t,t',zs,xs,rfl,hx,hy,hz,hl,h1,h⟩:=h
 have hb:=BC.start (w.alloc (.cells cs t)) zs t'
 rw [show (w.alloc (.cells cs t)).heap.size=w.heap.size+1 by simp] at hb
 refine wpList_store_mid hgd _ x y ho _ 0 _ hx hy (zaj hb (by simp [hz])) (by rw [Ql];simp [hl]) (all_oneCell_toArray (List.all_eq_true.1 h1)) ?_
 exact genM w cs t t' zs xs rfl hz h
noncomputable def sndM (doc:ByteArray) (n lo hi:Int) (sm br nn sd th vn er fs:Bool):Bool:=
 !(doc.toList== []) && (decide (doc.size<=20) && (decide (lo<=n) && (decide (n<=hi) && (sm && ((if br then !nn && sd else nn) && ((th||vn) && (!er && fs)))))))
structure MsH (w:World) (c:MC) (nn sd vn fs:Bool):Prop where
 HN:Hid (Behind w 88 #[.agg #[.int .u8 c.e.k, .int .u32 c.e.src, .int .u32 c.e.seq, .int .u8 c.e.v.k, .int .i64 c.e.v.n, .string c.e.v.s, .slice c.e.v.la c.e.v.ll c.e.v.lc, .slice c.e.v.oa c.e.v.ol c.e.v.oc, .slice c.e.oa c.e.ol c.e.oc]] (.bool nn))
 HS:Hid (Behind w 89 #[.agg #[.int .u8 c.e.k, .int .u32 c.e.src, .int .u32 c.e.seq, .int .u8 c.e.v.k, .int .i64 c.e.v.n, .string c.e.v.s, .slice c.e.v.la c.e.v.ll c.e.v.lc, .slice c.e.v.oa c.e.v.ol c.e.v.oc, .slice c.e.oa c.e.ol c.e.oc]] (.bool sd))
 HV:Hid (Behind w 90 #[.agg #[.int .u8 c.v.k, .int .i64 c.v.n, .string c.v.s, .slice c.v.la c.v.ll c.v.lc, .slice c.v.oa c.v.ol c.v.oc], .agg #[.int .u8 0, .int .i64 0, .string { data:= #[] }, .slice none 0 0, .slice none 0 0]] (.bool vn))
 HF:Hid (Behind w 91 #[.slice c.fa c.fl c.fc] (.bool fs))
theorem Yd (k:Int) {b:Bool} (h:bringsB k=b) (w:World):Calls Tryz.prog 87 #[.int .u8 k] w fun e w'=>e= .returned (.bool b)/\Below w.heap.size w w':=
 (zjy k w).mono fun e w' ⟨h1,h2⟩=>⟨by rw [h1,h],by rw [h2];exact Below.refl _ _⟩
theorem bcO (a b:Bool) {P:Prop} (h:P):(a=false/\b=false)∨(a=true∨a=false/\b=true)/\P:=by
 cases a
 .cases b
  .exact .inl ⟨rfl,rfl⟩
  .exact .inr ⟨.inr ⟨rfl,rfl⟩,h⟩
 .exact .inr ⟨.inl rfl,h⟩
end Go.Proofs.YtfoahkbnheijcaaGreatDoor
