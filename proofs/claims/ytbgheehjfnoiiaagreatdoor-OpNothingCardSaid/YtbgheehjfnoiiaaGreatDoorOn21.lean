/-
  Contracts of the functions that the law reaches: Paths: slices.Equal over steps.
-/
import Derived.Test.YtbgheehjfnoiiaaGreatDoorOn2
import Derived.Test.YtbgheehjfnoiiaaGreatDoorOn17
import Derived.Laws.StructEq
import Derived.Handy
namespace Go.Proofs.YtbgheehjfnoiiaaGreatDoor
open Go.RowKit
set_option maxHeartbeats 4000000
def St.ok (s:St):Bool:=if s.list then s.key.toList.isEmpty && decide (0<=s.i) else s.i==0 && Lib.validD s.key.data.toList
def pathSound (p:List St):Bool:=decide (p.length<=16) && p.all St.ok
theorem St.ext' {a b:St} (h1:a.list=b.list) (h2:a.i=b.i) (h3:a.key=b.key):a=b:=by
 cases a;cases b;simp_all
def stNe (a b:St):Bool:= !(a.list==b.list && a.i==b.i && a.key.toList==b.key.toList)
theorem Je (a b:St):stNe a b= !eqB a b:=by
 unfold stNe
 congr 1
 by_cases h:a=b
 .subst h;simp [eqB]
 .rw [Zx h]
  cases h1:(a.list==b.list && a.i==b.i && a.key.toList==b.key.toList) with
  |false=>rfl
  | true=>
    simp at h1
    exact absurd (St.ext' h1.1.1 h1.1.2 (Y8 h1.2)) h
theorem zce (a b:St) (w:World):(binOp .neq 82 (.agg #[.bool a.list, .int .i64 a.i, .string a.key]) (.agg #[.bool b.list, .int .i64 b.i, .string b.key])).run Tryz.prog w= .ok (.bool (stNe a b)) w:=by
 have hS:Tryz.prog.underlying 82=some (.struct (Tryz.prog.fieldsOf 82)):=by kernel_rfl
 have hp:Tryz.prog.stoodInHeld 82=false:=by kernel_rfl
 rw [run_neq_struct,show (10000:Nat)=9999+1 from rfl,run_equalIn_agg w 9999 82 _ _ hS hp]
 simp only [Program.fieldsOf,Tryz.underlying82,stNe]
 go_simp
 by_cases h1:a.list=b.list<;>by_cases h2:a.i=b.i<;>by_cases h3:a.key.toList=b.key.toList<;>simp [h1,h2,h3]
set_option maxRecDepth 100000 in
theorem Kk (l l':List St) (w:World) (a a':Option Addr) (n m c c':Nat) (h:IsSteps w w.heap.size l a n c) (h':IsSteps w w.heap.size l' a' m c'):
 uP 48 #[.slice a n c, .slice a' m c'] w fun e w'=>e= .returned (.bool (eqB l l'))/\uB w w':=by
 delta uB uP
 have k1:=h.max;have k2:=h.few;have k3:=h'.max;have k4:=h'.few
 have HLn:=qh h.len;have HLm:=qh h'.len
 by_cases e:n=m
 case neg=>
  go_enter Tryz.func48,Tryz.ntmps48
  have f1:((n:Int) !=(m:Int))=true:=by simp;omega
  go_wp2_with fail
  go_ret
  exact ⟨Zc (Zx (fun h=>e (by rw [HLn.out,HLm.out,h]))).symm,Below.refl _ _⟩
 subst e
 go_enter Tryz.func48,Tryz.ntmps48
 go_wp2_with fail
 go_loopw [13] (fun i wr=>∃k:Nat,k<=n/\i= .int .i64 k/\Hid (∀j,j<k->l[j]? =l'[j]?)/\uB w wr) (fun i _=>n - (intOf i).toNat)
 case atStart=>exact ⟨0,Nat.zero_le _,rfl,fun j hj=>by omega,Below.refl _ _⟩
 case round=>
  obtain ⟨k,hk,rfl,HJ,hB⟩:=hrel
  by_cases hlt:k<n
  .obtain ⟨b,o,kl,rfl,hb,x1,_⟩:=h.get hlt
   obtain ⟨b',o',kl',rfl,hb',x2,_⟩:=h'.get hlt
   have x1:=x1.keep hB hb
   have x2:=x2.keep hB hb'
   have r0:=Za x1.c0;have r1:=Za x1.c1;have r2:=Za x1.c2
   have s0:=Za x2.c0;have s1:=Za x2.c1;have s2:=Za x2.c2
   clear x1 x2 h h'
   go_wp2_with fail
   have hne:=fun W=>zce l[k] l'[k] W
   refine Zh (by kernel_rfl) (by kernel_rfl) ?_
   repeat (go_big_quiet_step (fail))
   refine wpQuiet_nil ?_
   intro _ hw'
   obtain ⟨pq,hw''⟩:=hw'
   subst hw''
   clear r0 r1 r2 s0 s1 s2 hne
   have hB2:=hB.on (Zd wr pq) hB.size
   generalize hx:stNe l[k] (l'[k]'kl')=bx
   cases bx with
   | false=>
     have EV:Hid (eqB l[k] (l'[k]'kl')=true):=by rw [Je] at hx;show _=_;simpa using hx
     clear hx
     go_wp2_with fail
     go_roundw
     case rel=>exact ⟨k+1,by omega,by go_num,Jv HJ kl kl' EV.out,hB2⟩
     case measure=>simp [intOf];omega
   | true=>
     have EV:Hid (eqB l[k] (l'[k]'kl')=false):=by rw [Je] at hx;show _=_;simpa using hx
     clear hx
     go_wp2_with fail
     go_ret
     exact ⟨Zc (Zx (fun h=>by subst h;exact Xk EV.out rfl)).symm,hB2⟩
  .go_wp2_with fail
   go_ret
   exact ⟨Zc (Z8 (Xw HJ.out (by have:=HLn.out;omega) (by have:=HLm.out;omega))).symm,hB⟩
noncomputable def begins {α:Type} (p q:List α):Bool:=eqB (p.take q.length) q
theorem zey {α:Type} {p q:List α} (h:p.length<q.length):begins p q=false:=Zx fun e=>by
 have:=congrArg List.length e
 simp at this;omega
theorem zj9 {α:Type} {p q:List α} (h:∀j,j<q.length->p[j]? =q[j]?) (hl:q.length<=p.length):begins p q=true:=Z8 (by
 apply List.ext_getElem?
 intro j
 by_cases hj:j<q.length
 .rw [List.getElem?_take_of_lt hj];exact h j hj
 .rw [List.getElem?_eq_none (by simp;omega),List.getElem?_eq_none (by omega)])
theorem zm9 {α:Type} {p q:List α} {j:Nat} (h1:j<p.length) (h2:j<q.length) (h:eqB p[j] q[j] =false):begins p q=false:=Zx fun e=>by
 have h3:=congrArg (fun l=>l[j]?) e
 simp only [List.getElem?_take_of_lt h2] at h3
 rw [List.getElem?_eq_getElem h1,List.getElem?_eq_getElem h2] at h3
 exact Xk h (Option.some.inj h3)
set_option maxRecDepth 100000 in
theorem zne (l l':List St) (w:World) (a a':Option Addr) (n m c c':Nat) (h:IsSteps w w.heap.size l a n c) (h':IsSteps w w.heap.size l' a' m c'):
 uP 79 #[.slice a n c, .slice a' m c'] w fun e w'=>e= .returned (.bool (begins l l'))/\uB w w':=by
 delta uB uP
 have k1:=h.max;have k2:=h.few;have k3:=h'.max;have k4:=h'.few
 have HLn:=qh h.len;have HLm:=qh h'.len
 by_cases e:n<m
 case pos=>
  go_enter Tryz.func79,Tryz.ntmps79
  go_wp2_with fail
  go_ret
  exact ⟨Zc (zey (by rw [<-HLn.out, <-HLm.out];exact e)).symm,Below.refl _ _⟩
 have e:m<=n:=by omega
 go_enter Tryz.func79,Tryz.ntmps79
 go_wp2_with fail
 go_loopw [5] (fun i wr=>∃k:Nat,k<=m/\i= .int .i64 k/\Hid (∀j,j<k->l[j]? =l'[j]?)/\uB w wr) (fun i _=>m - (intOf i).toNat)
 case atStart=>exact ⟨0,Nat.zero_le _,rfl,fun j hj=>by omega,Below.refl _ _⟩
 case round=>
  obtain ⟨k,hk,rfl,HJ,hB⟩:=hrel
  by_cases hlt:k<m
  .obtain ⟨b,o,kl,rfl,hb,x1,_⟩:=h.get (show k<n by omega)
   obtain ⟨b',o',kl',rfl,hb',x2,_⟩:=h'.get hlt
   have hlt2:k<n:=by omega
   have x1:=x1.keep hB hb
   have x2:=x2.keep hB hb'
   have r0:=Za x1.c0;have r1:=Za x1.c1;have r2:=Za x1.c2
   have s0:=Za x2.c0;have s1:=Za x2.c1;have s2:=Za x2.c2
   clear x1 x2 h h'
   go_wp2_with fail
   have hne:=fun W=>zce l[k] l'[k] W
   refine Zh (by kernel_rfl) (by kernel_rfl) ?_
   repeat (go_big_quiet_step (fail))
   refine wpQuiet_nil ?_
   intro _ hw'
   obtain ⟨pq,hw''⟩:=hw'
   subst hw''
   clear r0 r1 r2 s0 s1 s2 hne
   have hB2:=hB.on (Zd wr pq) hB.size
   generalize hx:stNe l[k] (l'[k]'kl')=bx
   cases bx with
   | false=>
     have EV:Hid (eqB l[k] (l'[k]'kl')=true):=by rw [Je] at hx;show _=_;simpa using hx
     clear hx
     go_wp2_with fail
     go_roundw
     case rel=>exact ⟨k+1,by omega,by go_num,Jv HJ kl kl' EV.out,hB2⟩
     case measure=>simp [intOf];omega
   | true=>
     have EV:Hid (eqB l[k] (l'[k]'kl')=false):=by rw [Je] at hx;show _=_;simpa using hx
     clear hx
     go_wp2_with fail
     go_ret
     exact ⟨Zc (zm9 kl kl' EV.out).symm,hB2⟩
  .go_wp2_with fail
   go_ret
   exact ⟨Zc (zj9 (fun j hj=>HJ.out j (by have:=HLm.out;omega)) (by have:=HLn.out;have:=HLm.out;omega)).symm,hB⟩
theorem zk3 {p q:List St} (h:p.length=q.length):begins p q=eqB p q:=by
 unfold begins
 rw [List.take_of_length_le (by omega)]
set_option maxRecDepth 100000 in
theorem zhd (l l':List St) (w:World) (a a':Option Addr) (n m c c':Nat) (h:IsSteps w w.heap.size l a n c) (h':IsSteps w w.heap.size l' a' m c'):
 uP 86 #[.slice a n c, .slice a' m c'] w fun e w'=>e= .returned (.bool (eqB l l'))/\uB w w':=by
 delta uB uP
 have HLn:=qh h.len;have HLm:=qh h'.len
 by_cases e:n=m
 case neg=>
  go_enter Tryz.func86,Tryz.ntmps86
  have f1:((n:Int)==(m:Int))=false:=by simp;omega
  go_wp2_with fail
  go_ret
  exact ⟨Zc (Zx (fun h=>e (by rw [HLn.out,HLm.out,h]))).symm,Below.refl _ _⟩
 subst e
 have hc:=zne l l' w a a' n n c c' h h'
 rw [zk3 (by rw [<-HLn.out, <-HLm.out])] at hc
 have HC:=qh hc
 clear hc h h'
 go_enter Tryz.func86,Tryz.ntmps86
 have f1:((n:Int)==(n:Int))=true:=by simp
 go_wp2_with (go_at_call 79;refine HC.out.mono ?_;rintro e w' ⟨rfl,hb⟩)
 go_ret
 exact ⟨rfl,hb⟩
set_option maxRecDepth 100000 in
theorem zmc (s:St) (w:World) (hT:Tabs w) (hb:s.Bnd):
 uP 138 #[.agg #[.bool s.list, .int .i64 s.i, .string s.key]] w fun e w'=>e= .returned (.bool !s.ok)/\uB w w':=by
 delta uB uP
 have hsz:=hb.k1
 have hv:=fun W hT=>Yd s.key W hsz hT
 obtain ⟨ls,i,key⟩:=s
 dsimp only at*
 obtain ⟨vd,hvd⟩:∃vd,Lib.validD key.data.toList=vd:=⟨_,rfl⟩
 rw [hvd] at hv
 have HV:=qh hv
 have HVD:=qh hvd
 obtain ⟨be,hbe⟩:∃be,key.toList.isEmpty=be:=⟨_,rfl⟩
 obtain ⟨R,hR⟩:∃R,(!(St.ok ⟨ls,i,key⟩))=R:=⟨_,rfl⟩
 rw [hR]
 have hR2:R= !(if ls then be && decide (0<=i) else i==0 && vd):=by rw [<-hR];simp only [St.ok];rw [hbe,hvd]
 have HR:=qh hR2
 clear hv hvd hR hR2 hb
 cases ls with
 | true=>
   have f0:(key.toList== [])=be:=by rw [<-hbe];cases key.toList<;>rfl
   clear hbe
   cases be with
   | false=>
     go_enter Tryz.func138,Tryz.ntmps138
     go_wp2_with fail
     go_ret
     exact ⟨Zc (by rw [HR.out];rfl),(Below.refl _ _).alloc (Nat.le_refl _) _⟩
   | true=>
     by_cases hi:i<0
     .go_enter Tryz.func138,Tryz.ntmps138
      go_wp2_with fail
      go_ret
      exact ⟨Zc (by rw [HR.out];simp;omega),(Below.refl _ _).alloc (Nat.le_refl _) _⟩
     .go_enter Tryz.func138,Tryz.ntmps138
      go_wp2_with fail
      go_ret
      exact ⟨Zc (by rw [HR.out];simp;omega),(Below.refl _ _).alloc (Nat.le_refl _) _⟩
 | false=>
   clear hbe
   by_cases hi:i=0
   .subst hi
    go_enter Tryz.func138,Tryz.ntmps138
    go_wp2_with (go_at_call 99;refine (HV.out _ (hT.below ((Below.refl _ _).alloc (Nat.le_refl _) _))).mono ?_;rintro e w' ⟨rfl,hb⟩)
    go_ret
    exact ⟨Zc (by rw [HR.out];simp),hb.one⟩
   .have f1:(i !=0)=true:=by simp [hi]
    have Hi:=qh hi
    clear hi
    go_enter Tryz.func138,Tryz.ntmps138
    go_wp2_with fail
    go_ret
    exact ⟨Zc (by rw [HR.out];simp [Hi.out]),(Below.refl _ _).alloc (Nat.le_refl _) _⟩
theorem zk8 {α:Type} {l:List α} {p:α->Bool} {k:Nat} (kl:k<l.length) (h:p l[k] =true):l.any p=true:=by
 rw [List.any_eq_true];exact ⟨l[k],List.getElem_mem kl,h⟩
theorem zfn {α:Type} {l:List α} {p:α->Bool} {n:Nat} (hn:n=l.length) (h:∀j,j<n->∀hj:j<l.length,p l[j] =false):l.any p=false:=by
 rw [List.any_eq_false]
 intro x hx
 obtain ⟨j,hj,rfl⟩:=List.getElem_of_mem hx
 rw [h j (by omega) hj];simp
theorem ze6 {α:Type} {l:List α} {p:α->Bool} {k:Nat} (h:Hid (∀j,j<k->∀hj:j<l.length,p l[j] =false)) (kl:k<l.length) (e:p l[k] =false):Hid (∀j,j<k+1->∀hj:j<l.length,p l[j] =false):=by
 intro j hj hl
 by_cases hjk:j=k
 .subst hjk;exact e
 .exact h.out j (by omega) hl
set_option maxRecDepth 100000 in
theorem znh (l:List St) (w:World) (a:Option Addr) (n c:Nat) (h:IsSteps w w.heap.size l a n c) (p:St->Bool) (g:Nat) (eg:∀args w,(callFunc g args).run Tryz.prog w= .ok (.enter g args) w)
 (hg:∀(s:St) (W:World),s.Bnd->uB w W->uP g #[.agg #[.bool s.list, .int .i64 s.i, .string s.key]] W fun e w'=>e= .returned (.bool (p s))/\uB W w'):
 uP 171 #[.slice a n c, .func (.func g) #[] #[]] w fun e w'=>(∃r:Int,e= .returned (.int .i64 r)/\Hid (decide (0<=r)=l.any p)/\ -1<=r/\r<=9223372036854775807)/\uB w w':=by
 delta uB uP
 have k1:=h.max;have k2:=h.few
 have HLn:=qh h.len
 have HG:=qh hg
 clear hg
 go_enter Tryz.func171,Tryz.ntmps171
 go_wp2_with fail
 go_loopw [5,8] (fun _ i wr=>∃k:Nat,k<=n/\i= .int .i64 k/\Hid (∀j,j<k->∀hj:j<l.length,p l[j] =false)/\uB w wr) (fun _ i _=>n - (intOf i).toNat)
 case atStart=>exact ⟨0,Nat.zero_le _,rfl,fun j hj=>by omega,Below.refl _ _⟩
 case round=>
  obtain ⟨k,hk,rfl,HJ,hB⟩:=hrel
  by_cases hlt:k<n
  .obtain ⟨b,o,kl,rfl,hb,x1,xb⟩:=h.get hlt
   have x1:=x1.keep hB hb
   have r0:=x1.c0;have r1:=x1.c1;have r2:=x1.c2
   have hc:=HG.out l[k] wr xb hB
   clear x1 h
   generalize hx:p l[k] =bx at hc
   have HX:=qh hx
   have HC:=qh hc
   clear hx hc
   cases bx with
   | false=>
     go_wp2_with (go_at_fn g;refine HC.out.mono ?_;rintro e w' ⟨rfl,hb'⟩)
     go_roundw
     case rel=>exact ⟨k+1,by omega,by go_num,ze6 HJ kl HX.out,hB.on hb' hB.size⟩
     case measure=>simp [intOf];omega
   | true=>
     go_wp2_with (go_at_fn g;refine HC.out.mono ?_;rintro e w' ⟨rfl,hb'⟩)
     go_ret
     exact ⟨⟨k,rfl,by show _=_;rw [zk8 kl HX.out];simp,by omega,by omega⟩,hB.on hb' hB.size⟩
  .go_wp2_with fail
   go_ret
   exact ⟨⟨-1,rfl,by show _=_;rw [zfn (n:=n) HLn.out (fun j hj=>HJ.out j (by omega))];rfl,by omega,by omega⟩,hB⟩
set_option maxRecDepth 100000 in
theorem zfh (l:List St) (w:World) (a:Option Addr) (n c:Nat) (h:IsSteps w w.heap.size l a n c) (p:St->Bool) (g:Nat) (eg:∀args w,(callFunc g args).run Tryz.prog w= .ok (.enter g args) w)
 (hg:∀(s:St) (W:World),s.Bnd->uB w W->uP g #[.agg #[.bool s.list, .int .i64 s.i, .string s.key]] W fun e w'=>e= .returned (.bool (p s))/\uB W w'):
 uP 139 #[.slice a n c, .func (.func g) #[] #[]] w fun e w'=>e= .returned (.bool (l.any p))/\uB w w':=by
 delta uB uP
 have k1:=h.max;have k2:=h.few
 have hc:=znh l w a n c h p g eg hg
 have HC:=qh hc
 clear hg hc h eg
 go_enter Tryz.func139,Tryz.ntmps139
 go_wp2_with (go_at_call 171;refine HC.out.mono ?_;rintro e w' ⟨⟨r,rfl,hr,h1,h2⟩,hb⟩)
 go_ret
 exact ⟨Zc (by rw [<-hr.out]),hb⟩
set_option maxRecDepth 100000 in
theorem zfl (l:List St) (w:World) (hT:Tabs w) (a:Option Addr) (n c:Nat) (h:IsSteps w w.heap.size l a n c):
 uP 98 #[.slice a n c] w fun e w'=>e= .returned (.bool (pathSound l))/\uB w w':=by
 delta uB uP
 have k1:=h.max;have k2:=h.few
 have HLn:=qh h.len
 have hc:=zfh l w a n c h (fun s=> !s.ok) 138 (enters_of Tryz.func138 (by kernel_rfl) rfl) (fun s W hb hW=>zmc s W (hT.below hW) hb)
 have HC:=qh hc
 clear hc h
 obtain ⟨R,hR⟩:∃R,pathSound l=R:=⟨_,rfl⟩
 obtain ⟨A,hA⟩:∃A,l.any (fun s=> !s.ok)=A:=⟨_,rfl⟩
 have hR2:R=(decide (n<=16) && !A):=by
  rw [<-hR, <-hA,HLn.out,pathSound];congr 1;rw [List.not_any_eq_all_not];simp
 rw [hR];rw [hA] at HC
 have HR:=qh hR2
 clear hR hR2 hA
 by_cases hn:n<=16
 .go_enter Tryz.func98,Tryz.ntmps98
  go_wp2_with (go_at_call 139;refine HC.out.mono ?_;rintro e w' ⟨rfl,hb⟩)
  go_ret
  exact ⟨Zc (by rw [HR.out];simp [hn]),hb⟩
 .go_enter Tryz.func98,Tryz.ntmps98
  go_wp2_with fail
  go_ret
  exact ⟨Zc (by rw [HR.out];simp [hn]),Below.refl _ _⟩
theorem Qu {l:List St} {k:Nat} {s:St} (kl:k<l.length) (hs:l[k] =s) (h:s.ok=false):pathSound l=false:=by
 unfold pathSound
 rw [Bool.and_eq_false_iff];right
 rw [List.all_eq_false]
 exact ⟨l[k],List.getElem_mem kl,by rw [hs,h];simp⟩
theorem zbc {l:List St} {k:Nat} {s:St} (h:Hid (∀j,j<k->∀hj:j<l.length,l[j].ok=true)) (kl:k<l.length) (hs:l[k] =s) (e:s.ok=true):Hid (∀j,j<k+1->∀hj:j<l.length,l[j].ok=true):=by
 intro j hj hl
 by_cases hjk:j=k
 .subst hjk;rw [hs];exact e
 .exact h.out j (by omega) hl
theorem zhx {l:List St} {n:Nat} (hn:n=l.length) (h:∀j,j<n->∀hj:j<l.length,l[j].ok=true):pathSound l=decide (n<=16):=by
 have:l.all St.ok=true:=by
  rw [List.all_eq_true]
  intro x hx
  obtain ⟨j,hj,rfl⟩:=List.getElem_of_mem hx
  exact h j (by omega) hj
 rw [pathSound,this,hn];simp
set_option maxRecDepth 100000 in
theorem ze4 (l:List St) (w:World) (hT:Tabs w) (a:Option Addr) (n c:Nat) (h:IsSteps w w.heap.size l a n c):
 uP 145 #[.slice a n c] w fun e w'=>e= .returned (.bool (pathSound l))/\uB w w':=by
 delta uB uP
 have k1:=h.max;have k2:=h.few
 have HLn:=qh h.len
 go_enter Tryz.func145,Tryz.ntmps145
 go_wp2_with fail
 go_loopw [3] (fun i wr=>∃k:Nat,k<=n/\i= .int .i64 k/\Hid (∀j,j<k->∀hj:j<l.length,l[j].ok=true)/\uB w wr) (fun i _=>n - (intOf i).toNat)
 case atStart=>exact ⟨0,Nat.zero_le _,rfl,fun j hj=>by omega,Below.refl _ _⟩
 case round=>
  obtain ⟨k,hk,rfl,HJ,hB⟩:=hrel
  by_cases hlt:k<n
  .obtain ⟨b,o,kl,rfl,hb,x1,xb⟩:=h.get hlt
   have x1:=x1.keep hB hb
   have hTr:=hT.below hB
   obtain ⟨s,hs⟩:∃s,l[k] =s:=⟨_,rfl⟩
   rw [hs] at x1 xb
   have HS:=qh hs
   obtain ⟨ls,i,key⟩:=s
   have r0:=x1.c0;have r1:=x1.c1;have r2:=x1.c2
   dsimp only at r0 r1 r2
   have hv:=Yd key wr xb.k1 hTr
   obtain ⟨vd,hvd⟩:∃vd,Lib.validD key.data.toList=vd:=⟨_,rfl⟩
   rw [hvd] at hv
   have HV:=qh hv
   have HVD:=qh hvd
   obtain ⟨be,hbe⟩:∃be,key.toList.isEmpty=be:=⟨_,rfl⟩
   obtain ⟨R,hR⟩:∃R,(St.ok ⟨ls,i,key⟩)=R:=⟨_,rfl⟩
   have hR2:R=(if ls then be && decide (0<=i) else i==0 && vd):=by rw [<-hR];simp only [St.ok];rw [hbe,hvd]
   have HR2:=qh hR2
   have HR:=qh hR
   have hempty:be=true->vd=true:=by
    intro hb1
    have:key.toList= [] :=by simpa [hb1] using hbe
    rw [ByteArray.toList_eq] at this
    rw [<-hvd,this];decide
   have HE:=qh hempty
   clear x1 h hs hv hvd hR2 hR xb hempty hTr
   cases ls with
   | true=>
     have f0:(key.toList== [])=be:=by rw [<-hbe];cases key.toList<;>rfl
     clear hbe
     cases be with
     | false=>
       go_wp2_with fail
       go_ret
       exact ⟨Zc (Qu kl HS.out (by rw [HR.out,HR2.out];simp)).symm,hB⟩
     | true=>
       by_cases hi:i<0
       .go_wp2_with fail
        go_ret
        exact ⟨Zc (Qu kl HS.out (by rw [HR.out,HR2.out];simp;omega)).symm,hB⟩
       .have hvt:=HE.out rfl
        rw [hvt] at HV
        clear hvt
        go_wp2_with (go_at_call 99;refine HV.out.mono ?_;rintro e w' ⟨rfl,hb'⟩)
        go_roundw
        case rel=>exact ⟨k+1,by omega,by go_num,zbc HJ kl HS.out (by rw [HR.out,HR2.out];simp;omega),hB.on hb' hB.size⟩
        case measure=>simp [intOf];omega
   | false=>
     clear hbe
     by_cases hi:i=0
     .subst hi
      cases vd with
      | false=>
        go_wp2_with (go_at_call 99;refine HV.out.mono ?_;rintro e w' ⟨rfl,hb'⟩)
        go_ret
        exact ⟨Zc (Qu kl HS.out (by rw [HR.out,HR2.out];simp)).symm,hB.on hb' hB.size⟩
      | true=>
        go_wp2_with (go_at_call 99;refine HV.out.mono ?_;rintro e w' ⟨rfl,hb'⟩)
        go_roundw
        case rel=>exact ⟨k+1,by omega,by go_num,zbc HJ kl HS.out (by rw [HR.out,HR2.out];simp),hB.on hb' hB.size⟩
        case measure=>simp [intOf];omega
     .have f1:(i !=0)=true:=by simp [hi]
      have Hi:=qh hi
      clear hi
      go_wp2_with fail
      go_ret
      exact ⟨Zc (Qu kl HS.out (by rw [HR.out,HR2.out];simp [Hi.out])).symm,hB⟩
  .go_wp2_with fail
   go_ret
   refine ⟨Zc ?_,hB⟩
   rw [zhx (n:=n) HLn.out (fun j hj=>HJ.out j (by omega))]
   simp;omega
theorem Cm.ne {a b:Cm} (h:a.k≠b.k∨a.key.toList≠b.key.toList∨a.i≠b.i∨a.j≠b.j∨a.n≠b.n∨a.s.toList≠b.s.toList∨eqv a.v b.v=false∨eqB a.path b.path=false):eqB a b=false:=Zx fun e=>by
 subst e
 rcases h with h|h|h|h|h|h|h|h
 .exact h rfl
 .exact h rfl
 .exact h rfl
 .exact h rfl
 .exact h rfl
 .exact h rfl
 .exact Qm h rfl
 .exact Xk h rfl
theorem Cm.same {a b:Cm} (h1:a.k=b.k) (h2:a.key.toList=b.key.toList) (h3:a.i=b.i) (h4:a.j=b.j) (h5:a.n=b.n) (h6:a.s.toList=b.s.toList) (h7:eqv a.v b.v=true) (h8:eqB a.path b.path=true):eqB a b=true:=Z8 (by
 have h7:=X1 h7;have h8:=Qi h8;have h2:=Y8 h2;have h6:=Y8 h6
 cases a;cases b;simp_all)
theorem _root_.Go.RowKit.Below.cellA {w w1:World} {cs ds:Array Value} {t u:TypeId} (hb:uB ((w.alloc (.cells cs t)).alloc (.cells ds u)) w1) (j:Nat) (v:Value) (h:cs[j]? =some v):w1.cell? ⟨w.heap.size,j,none⟩=some v:=
 Zb hb (Zb ((Below.refl _ _).alloc (Nat.le_refl _) _) (Zq w cs t j v h) (by simp)) (by simp;omega)
theorem _root_.Go.RowKit.Below.cellB {w w1:World} {cs ds:Array Value} {t u:TypeId} (hb:uB ((w.alloc (.cells cs t)).alloc (.cells ds u)) w1) (j:Nat) (v:Value) (h:ds[j]? =some v):w1.cell? ⟨w.heap.size+1,j,none⟩=some v:=
 Zb hb (by have:=Zq (w.alloc (.cells cs t)) ds u j v h;rwa [World.size_alloc] at this) (by simp)
set_option maxRecDepth 100000 in
theorem zkk (x y:Cm) (w:World) (c d:CC) (hx:IsComp w w.heap.size x c) (hy:IsComp w w.heap.size y d):
 uP 97 #[.agg (uC c), .agg (uC d)] w fun e w'=>e= .returned (.bool (eqB x y))/\uB w w':=by
 delta uC uB uP
 cases hx with
 |mk c p v hb hp hv=>
 cases hy with
 |mk d q u hb' hq hu=>
 have HV:Hid (∀W,uB w W->uP 137 #[.agg (uV c.v), .agg (uV d.v)] W fun e w'=>e= .returned (.bool (eqv v u))/\uB W w'):=fun W hW=>zmw v u W c.v d.v (hv.later_ hW) (hu.later_ hW)
 have HP:Hid (∀W,uB w W->uP 48 #[.slice c.pa c.pl c.pc, .slice d.pa d.pl d.pc] W fun e w'=>e= .returned (.bool (eqB p q))/\uB W w'):=fun W hW=>Kk p q W _ _ _ _ _ _ (hp.later_ hW) (hq.later_ hW)
 obtain ⟨R,hR⟩:∃R,eqB (Cm.mk c.k p c.key c.i c.j c.n v c.s) (Cm.mk d.k q d.key d.i d.j d.n u d.s)=R:=⟨_,rfl⟩
 rw [hR]
 have HR:=qh hR
 clear hR hb hp hv hb' hq hu
 by_cases e0:c.k=d.k
 case neg=>
  have f0:(c.k==d.k)=false:=by simp [e0]
  have H0:=qh e0
  clear e0
  go_enter Tryz.func97,Tryz.ntmps97
  go_wp2_with fail
  go_ret
  exact ⟨Zc (by rw [<-HR.out];exact (Cm.ne (Or.inl H0.out)).symm),((Below.refl _ _).alloc (Nat.le_refl _) _).alloc (by simp) _⟩
 have f0:(c.k==d.k)=true:=by simp [e0]
 have H0:=qh e0
 clear e0
 by_cases e1:c.key.toList=d.key.toList
 case neg=>
  have f1:(c.key.toList==d.key.toList)=false:=by simp [e1]
  have H1:=qh e1
  clear e1
  go_enter Tryz.func97,Tryz.ntmps97
  go_wp2_with fail
  go_ret
  exact ⟨Zc (by rw [<-HR.out];exact (Cm.ne (Or.inr<| .inl H1.out)).symm),((Below.refl _ _).alloc (Nat.le_refl _) _).alloc (by simp) _⟩
 have f1:(c.key.toList==d.key.toList)=true:=by simp [e1]
 have H1:=qh e1
 clear e1
 by_cases e2:c.i=d.i
 case neg=>
  have f2:(c.i==d.i)=false:=by simp [e2]
  have H2:=qh e2
  clear e2
  go_enter Tryz.func97,Tryz.ntmps97
  go_wp2_with fail
  go_ret
  exact ⟨Zc (by rw [<-HR.out];exact (Cm.ne (Or.inr<| .inr<| .inl H2.out)).symm),((Below.refl _ _).alloc (Nat.le_refl _) _).alloc (by simp) _⟩
 have f2:(c.i==d.i)=true:=by simp [e2]
 have H2:=qh e2
 clear e2
 by_cases e3:c.j=d.j
 case neg=>
  have f3:(c.j==d.j)=false:=by simp [e3]
  have H3:=qh e3
  clear e3
  go_enter Tryz.func97,Tryz.ntmps97
  go_wp2_with fail
  go_ret
  exact ⟨Zc (by rw [<-HR.out];exact (Cm.ne (Or.inr<| .inr<| .inr<| .inl H3.out)).symm),((Below.refl _ _).alloc (Nat.le_refl _) _).alloc (by simp) _⟩
 have f3:(c.j==d.j)=true:=by simp [e3]
 have H3:=qh e3
 clear e3
 by_cases e4:c.n=d.n
 case neg=>
  have f4:(c.n==d.n)=false:=by simp [e4]
  have H4:=qh e4
  clear e4
  go_enter Tryz.func97,Tryz.ntmps97
  go_wp2_with fail
  go_ret
  exact ⟨Zc (by rw [<-HR.out];exact (Cm.ne (Or.inr<| .inr<| .inr<| .inr<| .inl H4.out)).symm),((Below.refl _ _).alloc (Nat.le_refl _) _).alloc (by simp) _⟩
 have f4:(c.n==d.n)=true:=by simp [e4]
 have H4:=qh e4
 clear e4
 by_cases e5:c.s.toList=d.s.toList
 case neg=>
  have f5:(c.s.toList==d.s.toList)=false:=by simp [e5]
  have H5:=qh e5
  clear e5
  go_enter Tryz.func97,Tryz.ntmps97
  go_wp2_with fail
  go_ret
  exact ⟨Zc (by rw [<-HR.out];exact (Cm.ne (Or.inr<| .inr<| .inr<| .inr<| .inr<| .inl H5.out)).symm),((Below.refl _ _).alloc (Nat.le_refl _) _).alloc (by simp) _⟩
 have f5:(c.s.toList==d.s.toList)=true:=by simp [e5]
 have H5:=qh e5
 clear e5
 cases ev:eqv v u with
 | false=>
   have EV:=qh ev
   rw [ev] at HV
   clear ev
   go_enter Tryz.func97,Tryz.ntmps97
   go_wp2_with (first|(go_at_call 137;refine (HV.out _ (((Below.refl _ _).alloc (Nat.le_refl _) _).alloc (by simp) _)).mono ?_;rintro e w1 ⟨rfl,hb1⟩;have q1:=hb1.cellA 1 _ rfl;have q2:=hb1.cellB 1 _ rfl)|(go_at_call 48;refine (HP.out _ hb1.two).mono ?_;rintro e w2 ⟨rfl,hb2⟩))
   go_ret
   exact ⟨Zc (by rw [<-HR.out];exact (Cm.ne (Or.inr<| .inr<| .inr<| .inr<| .inr<| .inr<| .inl EV.out)).symm),hb1.two⟩
 | true=>
   have EV:=qh ev
   rw [ev] at HV
   clear ev
   cases eb:eqB p q with
   | false=>
     have HB:=qh eb
     rw [eb] at HP
     clear eb
     go_enter Tryz.func97,Tryz.ntmps97
     go_wp2_with (first|(go_at_call 137;refine (HV.out _ (((Below.refl _ _).alloc (Nat.le_refl _) _).alloc (by simp) _)).mono ?_;rintro e w1 ⟨rfl,hb1⟩;have q1:=hb1.cellA 1 _ rfl;have q2:=hb1.cellB 1 _ rfl)|(go_at_call 48;refine (HP.out _ hb1.two).mono ?_;rintro e w2 ⟨rfl,hb2⟩))
     go_ret
     exact ⟨Zc (by rw [<-HR.out];exact (Cm.ne (Or.inr<| .inr<| .inr<| .inr<| .inr<| .inr<| .inr HB.out)).symm),hb1.two.on hb2 hb1.two.size⟩
   | true=>
     have HB:=qh eb
     rw [eb] at HP
     clear eb
     go_enter Tryz.func97,Tryz.ntmps97
     go_wp2_with (first|(go_at_call 137;refine (HV.out _ (((Below.refl _ _).alloc (Nat.le_refl _) _).alloc (by simp) _)).mono ?_;rintro e w1 ⟨rfl,hb1⟩;have q1:=hb1.cellA 1 _ rfl;have q2:=hb1.cellB 1 _ rfl)|(go_at_call 48;refine (HP.out _ hb1.two).mono ?_;rintro e w2 ⟨rfl,hb2⟩))
     go_ret
     exact ⟨Zc (by rw [<-HR.out];exact (Cm.same H0.out H1.out H2.out H3.out H4.out H5.out EV.out HB.out).symm),hb1.two.on hb2 hb1.two.size⟩
set_option maxRecDepth 100000 in
theorem zim (x y:Cm) (w:World) (c d:CC) (hx:IsComp w w.heap.size x c) (hy:IsComp w w.heap.size y d):
 uP 45 #[.agg (uC c), .agg (uC d)] w fun e w'=>e= .returned (.bool (eqB x y))/\uB w w':=by
 delta uC uB uP
 cases hx with
 |mk c p v hb hp hv=>
 cases hy with
 |mk d q u hb' hq hu=>
 have HV:Hid (∀W,uB w W->uP 17 #[.agg (uV c.v), .agg (uV d.v)] W fun e w'=>e= .returned (.bool (eqv v u))/\uB W w'):=fun W hW=>J3 v u W c.v d.v (hv.later_ hW) (hu.later_ hW)
 have HP:Hid (∀W,uB w W->uP 86 #[.slice c.pa c.pl c.pc, .slice d.pa d.pl d.pc] W fun e w'=>e= .returned (.bool (eqB p q))/\uB W w'):=fun W hW=>zhd p q W _ _ _ _ _ _ (hp.later_ hW) (hq.later_ hW)
 obtain ⟨R,hR⟩:∃R,eqB (Cm.mk c.k p c.key c.i c.j c.n v c.s) (Cm.mk d.k q d.key d.i d.j d.n u d.s)=R:=⟨_,rfl⟩
 rw [hR]
 have HR:=qh hR
 clear hR hb hp hv hb' hq hu
 by_cases e0:c.k=d.k
 case neg=>
  have f0:(c.k==d.k)=false:=by simp [e0]
  have H0:=qh e0
  clear e0
  go_enter Tryz.func45,Tryz.ntmps45
  go_wp2_with fail
  go_ret
  exact ⟨Zc (by rw [<-HR.out];exact (Cm.ne (Or.inl H0.out)).symm),((Below.refl _ _).alloc (Nat.le_refl _) _).alloc (by simp) _⟩
 have f0:(c.k==d.k)=true:=by simp [e0]
 have H0:=qh e0
 clear e0
 by_cases e1:c.key.toList=d.key.toList
 case neg=>
  have f1:(c.key.toList==d.key.toList)=false:=by simp [e1]
  have H1:=qh e1
  clear e1
  go_enter Tryz.func45,Tryz.ntmps45
  go_wp2_with fail
  go_ret
  exact ⟨Zc (by rw [<-HR.out];exact (Cm.ne (Or.inr<| .inl H1.out)).symm),((Below.refl _ _).alloc (Nat.le_refl _) _).alloc (by simp) _⟩
 have f1:(c.key.toList==d.key.toList)=true:=by simp [e1]
 have H1:=qh e1
 clear e1
 by_cases e2:c.i=d.i
 case neg=>
  have f2:(c.i==d.i)=false:=by simp [e2]
  have H2:=qh e2
  clear e2
  go_enter Tryz.func45,Tryz.ntmps45
  go_wp2_with fail
  go_ret
  exact ⟨Zc (by rw [<-HR.out];exact (Cm.ne (Or.inr<| .inr<| .inl H2.out)).symm),((Below.refl _ _).alloc (Nat.le_refl _) _).alloc (by simp) _⟩
 have f2:(c.i==d.i)=true:=by simp [e2]
 have H2:=qh e2
 clear e2
 by_cases e3:c.j=d.j
 case neg=>
  have f3:(c.j==d.j)=false:=by simp [e3]
  have H3:=qh e3
  clear e3
  go_enter Tryz.func45,Tryz.ntmps45
  go_wp2_with fail
  go_ret
  exact ⟨Zc (by rw [<-HR.out];exact (Cm.ne (Or.inr<| .inr<| .inr<| .inl H3.out)).symm),((Below.refl _ _).alloc (Nat.le_refl _) _).alloc (by simp) _⟩
 have f3:(c.j==d.j)=true:=by simp [e3]
 have H3:=qh e3
 clear e3
 by_cases e4:c.n=d.n
 case neg=>
  have f4:(c.n==d.n)=false:=by simp [e4]
  have H4:=qh e4
  clear e4
  go_enter Tryz.func45,Tryz.ntmps45
  go_wp2_with fail
  go_ret
  exact ⟨Zc (by rw [<-HR.out];exact (Cm.ne (Or.inr<| .inr<| .inr<| .inr<| .inl H4.out)).symm),((Below.refl _ _).alloc (Nat.le_refl _) _).alloc (by simp) _⟩
 have f4:(c.n==d.n)=true:=by simp [e4]
 have H4:=qh e4
 clear e4
 by_cases e5:c.s.toList=d.s.toList
 case neg=>
  have f5:(c.s.toList==d.s.toList)=false:=by simp [e5]
  have H5:=qh e5
  clear e5
  go_enter Tryz.func45,Tryz.ntmps45
  go_wp2_with fail
  go_ret
  exact ⟨Zc (by rw [<-HR.out];exact (Cm.ne (Or.inr<| .inr<| .inr<| .inr<| .inr<| .inl H5.out)).symm),((Below.refl _ _).alloc (Nat.le_refl _) _).alloc (by simp) _⟩
 have f5:(c.s.toList==d.s.toList)=true:=by simp [e5]
 have H5:=qh e5
 clear e5
 cases ev:eqv v u with
 | false=>
   have EV:=qh ev
   rw [ev] at HV
   clear ev
   go_enter Tryz.func45,Tryz.ntmps45
   go_wp2_with (first|(go_at_call 17;refine (HV.out _ (((Below.refl _ _).alloc (Nat.le_refl _) _).alloc (by simp) _)).mono ?_;rintro e w1 ⟨rfl,hb1⟩;have q1:=hb1.cellA 1 _ rfl;have q2:=hb1.cellB 1 _ rfl)|(go_at_call 86;refine (HP.out _ hb1.two).mono ?_;rintro e w2 ⟨rfl,hb2⟩))
   go_ret
   exact ⟨Zc (by rw [<-HR.out];exact (Cm.ne (Or.inr<| .inr<| .inr<| .inr<| .inr<| .inr<| .inl EV.out)).symm),hb1.two⟩
 | true=>
   have EV:=qh ev
   rw [ev] at HV
   clear ev
   cases eb:eqB p q with
   | false=>
     have HB:=qh eb
     rw [eb] at HP
     clear eb
     go_enter Tryz.func45,Tryz.ntmps45
     go_wp2_with (first|(go_at_call 17;refine (HV.out _ (((Below.refl _ _).alloc (Nat.le_refl _) _).alloc (by simp) _)).mono ?_;rintro e w1 ⟨rfl,hb1⟩;have q1:=hb1.cellA 1 _ rfl;have q2:=hb1.cellB 1 _ rfl)|(go_at_call 86;refine (HP.out _ hb1.two).mono ?_;rintro e w2 ⟨rfl,hb2⟩))
     go_ret
     exact ⟨Zc (by rw [<-HR.out];exact (Cm.ne (Or.inr<| .inr<| .inr<| .inr<| .inr<| .inr<| .inr HB.out)).symm),hb1.two.on hb2 hb1.two.size⟩
   | true=>
     have HB:=qh eb
     rw [eb] at HP
     clear eb
     go_enter Tryz.func45,Tryz.ntmps45
     go_wp2_with (first|(go_at_call 17;refine (HV.out _ (((Below.refl _ _).alloc (Nat.le_refl _) _).alloc (by simp) _)).mono ?_;rintro e w1 ⟨rfl,hb1⟩;have q1:=hb1.cellA 1 _ rfl;have q2:=hb1.cellB 1 _ rfl)|(go_at_call 86;refine (HP.out _ hb1.two).mono ?_;rintro e w2 ⟨rfl,hb2⟩))
     go_ret
     exact ⟨Zc (by rw [<-HR.out];exact (Cm.same H0.out H1.out H2.out H3.out H4.out H5.out EV.out HB.out).symm),hb1.two.on hb2 hb1.two.size⟩
def kIs (k:Int):Bool:=decide (1<=k) && decide (k<=9)
def kKey (k:Int):Bool:=k==2||k==3
def kI (k:Int):Bool:=decide (4<=k) && decide (k<=9)
def kJ (k:Int):Bool:=k==7
def kN (k:Int):Bool:=k==1||k==9
def kV (k:Int):Bool:=k==2||k==4||k==6
def kS (k:Int):Bool:=k==8
def VC.none:VC:=⟨0,0, .empty, .none,0,0, .none,0,0⟩
def CC.bare (c:CC):CC:=⟨c.k,c.pa,c.pl,c.pc,if kKey c.k then .empty else c.key,if kI c.k then 0 else c.i,if kJ c.k then 0 else c.j,if kN c.k then 0 else c.n,if kV c.k then VC.none else c.v,if kS c.k then .empty else c.s⟩
def Cm.bare (x:Cm):Cm:=⟨x.k,x.path,if kKey x.k then .empty else x.key,if kI x.k then 0 else x.i,if kJ x.k then 0 else x.j,if kN x.k then 0 else x.n,if kV x.k then V.none else x.v,if kS x.k then .empty else x.s⟩
theorem IsComp.bare {w:World} {B:Nat} {x:Cm} {c:CC} (h:IsComp w B x c):IsComp w B x.bare c.bare:=by
 cases h with
 |mk c p v hb hp hv=>
 have hv2:IsVal w B (if kV c.k then V.none else v) (if kV c.k then VC.none else c.v):=by
  split
  .exact Zw w B
  .exact hv
 have hb2:c.bare.Bnd:=by
  have h1:=hb.i0;have h2:=hb.i1;have h3:=hb.j0;have h4:=hb.j1;have h5:=hb.n0;have h6:=hb.n1;have h7:=hb.key1;have h8:=hb.s1
  refine ⟨hb.k0,hb.k1, ?_, ?_, ?_, ?_, ?_, ?_, ?_, ?_⟩<;>(simp only [CC.bare];split<;>first|assumption|decide)
 exact .mk c.bare p _ hb2 hp hv2
set_option maxRecDepth 100000 in
theorem ziz (c:CC) (w:World) (hb:c.Bnd):
 uP 96 #[.agg (uC c)] w fun e w'=>(∃d:CC,e= .returned (.tuple #[.agg #[.int .u8 d.k, .slice d.pa d.pl d.pc, .string d.key, .int .i64 d.i, .int .i64 d.j, .int .i64 d.n, .int .u8 d.v.k, .int .i64 d.v.n, .string d.v.s, .slice d.v.la d.v.ll d.v.lc, .slice d.v.oa d.v.ol d.v.oc, .string d.s], .bool (kIs c.k)])/\Hid (d=c.bare))/\uB w w':=by
 delta uC uB uP
 have hk0:=hb.k0;have hk1:=hb.k1
 clear hb
 obtain ⟨k,pa,pl,pc,key,i,j,n,v,s⟩:=c
 dsimp only at hk0 hk1 ⊢
 by_cases e1:k=1
 case pos=>
  subst e1
  go_enter Tryz.func96,Tryz.ntmps96
  go_wp2_with fail
  go_returns
  exact ⟨⟨CC.bare ⟨1,pa,pl,pc,key,i,j,n,v,s⟩,rfl,rfl⟩,by go_grown⟩
 have f1:(k==1)=false:=by simp [e1]
 by_cases e2:k=2
 case pos=>
  subst e2
  go_enter Tryz.func96,Tryz.ntmps96
  go_wp2_with fail
  go_returns
  exact ⟨⟨CC.bare ⟨2,pa,pl,pc,key,i,j,n,v,s⟩,rfl,rfl⟩,by go_grown⟩
 have f2:(k==2)=false:=by simp [e2]
 by_cases e3:k=3
 case pos=>
  subst e3
  go_enter Tryz.func96,Tryz.ntmps96
  go_wp2_with fail
  go_returns
  exact ⟨⟨CC.bare ⟨3,pa,pl,pc,key,i,j,n,v,s⟩,rfl,rfl⟩,by go_grown⟩
 have f3:(k==3)=false:=by simp [e3]
 by_cases e4:k=4
 case pos=>
  subst e4
  go_enter Tryz.func96,Tryz.ntmps96
  go_wp2_with fail
  go_returns
  exact ⟨⟨CC.bare ⟨4,pa,pl,pc,key,i,j,n,v,s⟩,rfl,rfl⟩,by go_grown⟩
 have f4:(k==4)=false:=by simp [e4]
 by_cases e5:k=5
 case pos=>
  subst e5
  go_enter Tryz.func96,Tryz.ntmps96
  go_wp2_with fail
  go_returns
  exact ⟨⟨CC.bare ⟨5,pa,pl,pc,key,i,j,n,v,s⟩,rfl,rfl⟩,by go_grown⟩
 have f5:(k==5)=false:=by simp [e5]
 by_cases e6:k=6
 case pos=>
  subst e6
  go_enter Tryz.func96,Tryz.ntmps96
  go_wp2_with fail
  go_returns
  exact ⟨⟨CC.bare ⟨6,pa,pl,pc,key,i,j,n,v,s⟩,rfl,rfl⟩,by go_grown⟩
 have f6:(k==6)=false:=by simp [e6]
 by_cases e7:k=7
 case pos=>
  subst e7
  go_enter Tryz.func96,Tryz.ntmps96
  go_wp2_with fail
  go_returns
  exact ⟨⟨CC.bare ⟨7,pa,pl,pc,key,i,j,n,v,s⟩,rfl,rfl⟩,by go_grown⟩
 have f7:(k==7)=false:=by simp [e7]
 by_cases e8:k=8
 case pos=>
  subst e8
  go_enter Tryz.func96,Tryz.ntmps96
  go_wp2_with fail
  go_returns
  exact ⟨⟨CC.bare ⟨8,pa,pl,pc,key,i,j,n,v,s⟩,rfl,rfl⟩,by go_grown⟩
 have f8:(k==8)=false:=by simp [e8]
 by_cases e9:k=9
 case pos=>
  subst e9
  go_enter Tryz.func96,Tryz.ntmps96
  go_wp2_with fail
  go_returns
  exact ⟨⟨CC.bare ⟨9,pa,pl,pc,key,i,j,n,v,s⟩,rfl,rfl⟩,by go_grown⟩
 have f9:(k==9)=false:=by simp [e9]
 go_enter Tryz.func96,Tryz.ntmps96
 go_wp2_with fail
 go_returns
 refine ⟨⟨⟨k,pa,pl,pc,key,i,j,n,v,s⟩, ?_, ?_⟩,by go_grown⟩
 .have:kIs k=false:=by simp only [kIs,Bool.and_eq_false_iff,decide_eq_false_iff_not];omega
  rw [this]
 .have h1:kKey k=false:=by simp [kKey,e2,e3]
  have h2:kI k=false:=by simp only [kI,Bool.and_eq_false_iff,decide_eq_false_iff_not];omega
  have h3:kJ k=false:=by simp [kJ,e7]
  have h4:kN k=false:=by simp [kN,e1,e9]
  have h5:kV k=false:=by simp [kV,e2,e4,e6]
  have h6:kS k=false:=by simp [kS,e8]
  show _=_
  simp only [CC.bare,h1,h2,h3,h4,h5,h6];rfl
end Go.Proofs.YtbgheehjfnoiiaaGreatDoor
