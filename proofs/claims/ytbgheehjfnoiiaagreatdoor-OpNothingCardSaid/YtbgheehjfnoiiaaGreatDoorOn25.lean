/-
  Contracts of the functions that the law reaches: conciliatorref06.kinds. Which values may.
-/
import Derived.Test.YtbgheehjfnoiiaaGreatDoorOn14
import Derived.Test.YtbgheehjfnoiiaaGreatDoorOn20
import Derived.Test.YtbgheehjfnoiiaaGreatDoorOn22
namespace Go.Proofs.YtbgheehjfnoiiaaGreatDoor
open Go.RowKit
set_option maxHeartbeats 8000000
def kindsP (x:V) (k i j n:Int) (key:ByteArray):Int:=
 if k=1 then (if x.kd≠2 then 31 else 0)
 else if k=2∨k=3 then (if x.kd≠5 then 31 else if k=3/\fieldIs x.os key=false then 33 else 0)
 else if k=8∨k=9 then (if x.kd≠3 then 31 else tCheck x.str k i n)
 else if x.kd≠4 then 31 else lCheck x.ls.length k i j
structure KBk (w W:World) (c:VC) (cc:CC):Prop where
 v:BC W w.heap.size (vcells c)
 c:BC W (w.heap.size+1) (ccells cc)
 below:Below w.heap.size w W
theorem KBk.start (w:World) (c:VC) (cc:CC) (t1 t2:TypeId):KBk w ((w.alloc (.cells #[.int .u8 c.k, .int .i64 c.n, .string c.s, .slice c.la c.ll c.lc, .slice c.oa c.ol c.oc] t1)).alloc (.cells #[.int .u8 cc.k, .slice cc.pa cc.pl cc.pc, .string cc.key, .int .i64 cc.i, .int .i64 cc.j, .int .i64 cc.n, .int .u8 cc.v.k, .int .i64 cc.v.n, .string cc.v.s, .slice cc.v.la cc.v.ll cc.v.lc, .slice cc.v.oa cc.v.ol cc.v.oc, .string cc.s] t2)) c cc:=by
 have c2:=BC.start (w.alloc (.cells (uV c) t1)) #[.int .u8 cc.k, .slice cc.pa cc.pl cc.pc, .string cc.key, .int .i64 cc.i, .int .i64 cc.j, .int .i64 cc.n, .int .u8 cc.v.k, .int .i64 cc.v.n, .string cc.v.s, .slice cc.v.la cc.v.ll cc.v.lc, .slice cc.v.oa cc.v.ol cc.v.oc, .string cc.s] t2
 rw [World.size_alloc] at c2
 exact ⟨(BC.start w (uV c) t1).keep ((Below.refl _ _).alloc (Nat.le_refl _) _) (by simp),c2,((Below.refl _ _).alloc (Nat.le_refl _) _).alloc (by simp) _⟩
theorem KBk.next {w W W':World} {c:VC} {cc:CC} {B:Nat} (h:KBk w W c cc) (hb:Below B W W') (hB:w.heap.size+2<=B):KBk w W' c cc:=
 ⟨h.v.keep hb (by omega),h.c.keep hb (by omega),h.below.trans (hb.mono (by omega))⟩
set_option maxRecDepth 100000 in
theorem zip (w:World) (vk vn:Int) (vs:ByteArray) (la:Option Addr) (ll lc:Nat) (oa:Option Addr) (ol oc:Nat) (v:V) (hv:IsVal w w.heap.size v ⟨vk,vn,vs,la,ll,lc,oa,ol,oc⟩) (hs:vs.size<=1000000000000) (cc:CC) (hcb:cc.Bnd) (hT:Tabs w):
 uP 107 #[.agg #[.int .u8 vk, .int .i64 vn, .string vs, .slice la ll lc, .slice oa ol oc], .agg #[.int .u8 cc.k, .slice cc.pa cc.pl cc.pc, .string cc.key, .int .i64 cc.i, .int .i64 cc.j, .int .i64 cc.n, .int .u8 cc.v.k, .int .i64 cc.v.n, .string cc.v.s, .slice cc.v.la cc.v.ll cc.v.lc, .slice cc.v.oa cc.v.ol cc.v.oc, .string cc.s]] w fun e w'=>e= .returned (.int .i64 (kindsP v cc.k cc.i cc.j cc.n cc.key))/\uB w w':=by
 delta uB uP
 obtain ⟨k',n',s',l,o,rfl⟩:=v.eta
 obtain ⟨e1,e2,e3,hbd,hvl,hvo⟩:=hv.lists
 dsimp only at e1 e2 e3 hvl hvo
 subst e1 e2 e3
 have k1:=hvl.few;have k2:=hvl.max;have k3:=hvo.few;have k4:=hvo.max
 have HF:Hid (∀W,uB w W->uP 103 #[.agg #[.int .u8 vk, .int .i64 vn, .string vs, .slice la ll lc, .slice oa ol oc], .string cc.key] W fun e w'=>e= .returned (.tuple #[.int .i64 (fieldK o cc.key:Int), .bool (fieldIs o cc.key)])/\uB W w'):=fun W hW=>Yj W o cc.key vk vn vs la ll lc oa ol oc (hvo.later_ hW)
 have HTC:Hid (∀W,uB w W->uP 108 #[.string vs, .agg #[.int .u8 cc.k, .slice cc.pa cc.pl cc.pc, .string cc.key, .int .i64 cc.i, .int .i64 cc.j, .int .i64 cc.n, .int .u8 cc.v.k, .int .i64 cc.v.n, .string cc.v.s, .slice cc.v.la cc.v.ll cc.v.lc, .slice cc.v.oa cc.v.ol cc.v.oc, .string cc.s]] W fun e w'=>e= .returned (.int .i64 (tCheck vs cc.k cc.i cc.n))/\uB W w'):=fun W hW=>zaw W vs cc hcb hs (hT.below hW)
 have HLC:Hid (∀W,uB w W->uP 110 #[.int .i64 ll, .agg #[.int .u8 cc.k, .slice cc.pa cc.pl cc.pc, .string cc.key, .int .i64 cc.i, .int .i64 cc.j, .int .i64 cc.n, .int .u8 cc.v.k, .int .i64 cc.v.n, .string cc.v.s, .slice cc.v.la cc.v.ll cc.v.lc, .slice cc.v.oa cc.v.ol cc.v.oc, .string cc.s]] W fun e w'=>e= .returned (.int .i64 (lCheck ll cc.k cc.i cc.j))/\uB W w'):=fun W _=>Qk W ll (by omega) cc
 obtain ⟨K,hK⟩:∃K,fieldK o cc.key=K:=⟨_,rfl⟩
 obtain ⟨is,hi⟩:∃is,fieldIs o cc.key=is:=⟨_,rfl⟩
 rw [hK,hi] at HF
 obtain ⟨R,hR⟩:∃R,kindsP (.mk vk vn vs l o) cc.k cc.i cc.j cc.n cc.key=R:=⟨_,rfl⟩
 rw [hR]
 simp only [kindsP,V.kd,V.os,V.ls,V.str,hi, <-hvl.len] at hR
 have HB:=qh (KBk.start w ⟨vk,vn,vs,la,ll,lc,oa,ol,oc⟩ cc 29 54)
 obtain ⟨tc,htc⟩:∃tc,tCheck vs cc.k cc.i cc.n=tc:=⟨_,rfl⟩
 obtain ⟨lk,hlk⟩:∃lk,lCheck ll cc.k cc.i cc.j=lk:=⟨_,rfl⟩
 rw [htc] at HTC
 rw [hlk] at HLC
 rw [htc,hlk] at hR
 obtain ⟨ck,hck⟩:∃ck,cc.k=ck:=⟨_,rfl⟩
 rw [hck] at hR HTC HLC HB ⊢
 have HCK:=qh hck
 have HR:=qh hR
 clear hvl hvo hv hbd hK hi hR hT hcb htc hlk hck
 by_cases e1:ck=1
 .cases e1
  by_cases h:vk=2
  .cases h
   obtain rfl:R=0:=by rw [<-HR.out];rfl
   go_enter Tryz.func107,Tryz.ntmps107
   go_wp2_with fail
   go_returns
   exact ⟨rfl,HB.out.below⟩
  .have f:(vk !=2)=true:=by simp [h]
   obtain rfl:R=31:=by rw [<-HR.out];simp [h]
   go_enter Tryz.func107,Tryz.ntmps107
   go_wp2_with fail
   go_returns
   exact ⟨rfl,HB.out.below⟩
 have g1:(ck==1)=false:=by simp [e1]
 by_cases e2:ck=2
 .cases e2
  by_cases h:vk=5
  .cases h
   obtain rfl:R=0:=by rw [<-HR.out];simp
   go_enter Tryz.func107,Tryz.ntmps107
   go_wp2_with fail
   refine (HF.out _ HB.out.below).mono ?_
   rintro e W ⟨rfl,hb1⟩
   have B:=HB.out.next hb1 (by simp)
   obtain ⟨v0,v1,v2,v3,v4⟩:=row5 B.v.at_
   obtain ⟨b0,b1,b2,b3,b4,b5,b6,b7,b8,b9,b10,b11⟩:=row12 B.c.at_
   have z0:=B.v.lt;have z1:=B.c.lt
   rw [HCK.out] at b0
   have HBW:=qh B.below
   clear B hb1
   go_wp2_with fail
   go_returns
   exact ⟨rfl,HBW.out⟩
  .have f:(vk !=5)=true:=by simp [h]
   obtain rfl:R=31:=by rw [<-HR.out];simp [h]
   go_enter Tryz.func107,Tryz.ntmps107
   go_wp2_with fail
   refine (HF.out _ HB.out.below).mono ?_
   rintro e W ⟨rfl,hb1⟩
   have B:=HB.out.next hb1 (by simp)
   obtain ⟨v0,v1,v2,v3,v4⟩:=row5 B.v.at_
   obtain ⟨b0,b1,b2,b3,b4,b5,b6,b7,b8,b9,b10,b11⟩:=row12 B.c.at_
   have z0:=B.v.lt;have z1:=B.c.lt
   rw [HCK.out] at b0
   have HBW:=qh B.below
   clear B hb1
   go_wp2_with fail
   go_returns
   exact ⟨rfl,HBW.out⟩
 have g2:(ck==2)=false:=by simp [e2]
 by_cases e3:ck=3
 .cases e3
  by_cases h:vk=5
  .cases h
   cases is with
   | true=>
     obtain rfl:R=0:=by rw [<-HR.out];simp
     go_enter Tryz.func107,Tryz.ntmps107
     go_wp2_with fail
     refine (HF.out _ HB.out.below).mono ?_
     rintro e W ⟨rfl,hb1⟩
     have B:=HB.out.next hb1 (by simp)
     obtain ⟨v0,v1,v2,v3,v4⟩:=row5 B.v.at_
     obtain ⟨b0,b1,b2,b3,b4,b5,b6,b7,b8,b9,b10,b11⟩:=row12 B.c.at_
     have z0:=B.v.lt;have z1:=B.c.lt
     rw [HCK.out] at b0
     have HBW:=qh B.below
     clear B hb1
     go_wp2_with fail
     go_returns
     exact ⟨rfl,HBW.out⟩
   | false=>
     obtain rfl:R=33:=by rw [<-HR.out];simp
     go_enter Tryz.func107,Tryz.ntmps107
     go_wp2_with fail
     refine (HF.out _ HB.out.below).mono ?_
     rintro e W ⟨rfl,hb1⟩
     have B:=HB.out.next hb1 (by simp)
     obtain ⟨v0,v1,v2,v3,v4⟩:=row5 B.v.at_
     obtain ⟨b0,b1,b2,b3,b4,b5,b6,b7,b8,b9,b10,b11⟩:=row12 B.c.at_
     have z0:=B.v.lt;have z1:=B.c.lt
     rw [HCK.out] at b0
     have HBW:=qh B.below
     clear B hb1
     go_wp2_with fail
     go_returns
     exact ⟨rfl,HBW.out⟩
  .have f:(vk !=5)=true:=by simp [h]
   obtain rfl:R=31:=by rw [<-HR.out];simp [h]
   go_enter Tryz.func107,Tryz.ntmps107
   go_wp2_with fail
   refine (HF.out _ HB.out.below).mono ?_
   rintro e W ⟨rfl,hb1⟩
   have B:=HB.out.next hb1 (by simp)
   obtain ⟨v0,v1,v2,v3,v4⟩:=row5 B.v.at_
   obtain ⟨b0,b1,b2,b3,b4,b5,b6,b7,b8,b9,b10,b11⟩:=row12 B.c.at_
   have z0:=B.v.lt;have z1:=B.c.lt
   rw [HCK.out] at b0
   have HBW:=qh B.below
   clear B hb1
   go_wp2_with fail
   go_returns
   exact ⟨rfl,HBW.out⟩
 have g3:(ck==3)=false:=by simp [e3]
 by_cases e8:ck=8
 .cases e8
  by_cases h:vk=3
  .cases h
   obtain rfl:R=tc:=by rw [<-HR.out];simp
   go_enter Tryz.func107,Tryz.ntmps107
   go_wp2_with fail
   refine (HTC.out _ HB.out.below).mono ?_
   rintro e W ⟨rfl,hb1⟩
   have B:=HB.out.next hb1 (by simp)
   obtain ⟨v0,v1,v2,v3,v4⟩:=row5 B.v.at_
   obtain ⟨b0,b1,b2,b3,b4,b5,b6,b7,b8,b9,b10,b11⟩:=row12 B.c.at_
   have z0:=B.v.lt;have z1:=B.c.lt
   rw [HCK.out] at b0
   have HBW:=qh B.below
   clear B hb1
   go_wp2_with fail
   go_returns
   exact ⟨rfl,HBW.out⟩
  .have f:(vk !=3)=true:=by simp [h]
   obtain rfl:R=31:=by rw [<-HR.out];simp [h]
   go_enter Tryz.func107,Tryz.ntmps107
   go_wp2_with fail
   go_returns
   exact ⟨rfl,HB.out.below⟩
 have g8:(ck==8)=false:=by simp [e8]
 by_cases e9:ck=9
 .cases e9
  by_cases h:vk=3
  .cases h
   obtain rfl:R=tc:=by rw [<-HR.out];simp
   go_enter Tryz.func107,Tryz.ntmps107
   go_wp2_with fail
   refine (HTC.out _ HB.out.below).mono ?_
   rintro e W ⟨rfl,hb1⟩
   have B:=HB.out.next hb1 (by simp)
   obtain ⟨v0,v1,v2,v3,v4⟩:=row5 B.v.at_
   obtain ⟨b0,b1,b2,b3,b4,b5,b6,b7,b8,b9,b10,b11⟩:=row12 B.c.at_
   have z0:=B.v.lt;have z1:=B.c.lt
   rw [HCK.out] at b0
   have HBW:=qh B.below
   clear B hb1
   go_wp2_with fail
   go_returns
   exact ⟨rfl,HBW.out⟩
  .have f:(vk !=3)=true:=by simp [h]
   obtain rfl:R=31:=by rw [<-HR.out];simp [h]
   go_enter Tryz.func107,Tryz.ntmps107
   go_wp2_with fail
   go_returns
   exact ⟨rfl,HB.out.below⟩
 have g9:(ck==9)=false:=by simp [e9]
 by_cases h:vk=4
 .cases h
  obtain rfl:R=lk:=by rw [<-HR.out];rw [if_neg e1,if_neg (by omega),if_neg (by omega),if_neg (by omega)]
  go_enter Tryz.func107,Tryz.ntmps107
  go_wp2_with fail
  refine (HLC.out _ HB.out.below).mono ?_
  rintro e W ⟨rfl,hb1⟩
  have B:=HB.out.next hb1 (by simp)
  obtain ⟨v0,v1,v2,v3,v4⟩:=row5 B.v.at_
  obtain ⟨b0,b1,b2,b3,b4,b5,b6,b7,b8,b9,b10,b11⟩:=row12 B.c.at_
  have z0:=B.v.lt;have z1:=B.c.lt
  rw [HCK.out] at b0
  have HBW:=qh B.below
  clear B hb1
  go_wp2_with fail
  go_returns
  exact ⟨rfl,HBW.out⟩
 .have f:(vk !=4)=true:=by simp [h]
  obtain rfl:R=31:=by rw [<-HR.out];rw [if_neg e1,if_neg (by omega),if_neg (by omega),if_pos h]
  go_enter Tryz.func107,Tryz.ntmps107
  go_wp2_with fail
  go_returns
  exact ⟨rfl,HB.out.below⟩
theorem CompAt.c7 {w:World} {b o:Nat} {c:CC} (h:CompAt w b o c):w.cell? ⟨b,o+7,none⟩=some (.int .i64 c.v.n):=h.c6.c1
theorem CompAt.c8 {w:World} {b o:Nat} {c:CC} (h:CompAt w b o c):w.cell? ⟨b,o+8,none⟩=some (.string c.v.s):=h.c6.c2
theorem CompAt.c9 {w:World} {b o:Nat} {c:CC} (h:CompAt w b o c):w.cell? ⟨b,o+9,none⟩=some (.slice c.v.la c.v.ll c.v.lc):=h.c6.c3
theorem CompAt.c10 {w:World} {b o:Nat} {c:CC} (h:CompAt w b o c):w.cell? ⟨b,o+10,none⟩=some (.slice c.v.oa c.v.ol c.v.oc):=h.c6.c4
def lightB (v:V):Bool:=v.sound && decide (v.deep<=16) && decide (v.weight<=20000)
set_option maxRecDepth 100000 in
theorem za6 (l l':List Cm) (w:World) (a a':Option Addr) (n m c c':Nat) (h:IsComps w w.heap.size l a n c) (h':IsComps w w.heap.size l' a' m c'):
 uP 23 #[.slice a n c, .slice a' m c'] w fun e w'=>e= .returned (.bool (eqB l l'))/\uB w w':=by
 delta uB uP
 have k1:=h.max;have k2:=h.few;have k3:=h'.max;have k4:=h'.few
 have HLn:=qh h.len;have HLm:=qh h'.len
 by_cases e:n=m
 case neg=>
  go_enter Tryz.func23,Tryz.ntmps23
  have f1:((n:Int) !=(m:Int))=true:=by simp;omega
  go_wp2_with fail
  go_ret
  exact ⟨Zc (Zx (fun h=>e (by rw [HLn.out,HLm.out,h]))).symm,Below.refl _ _⟩
 subst e
 go_enter Tryz.func23,Tryz.ntmps23
 go_wp2_with fail
 go_loopw [5] (fun i wr=>∃k:Nat,k<=n/\i= .int .i64 k/\Hid (∀j,j<k->l[j]? =l'[j]?)/\uB w wr) (fun i _=>n - (intOf i).toNat)
 case atStart=>exact ⟨0,Nat.zero_le _,rfl,fun j hj=>by omega,Below.refl _ _⟩
 case round=>
  obtain ⟨k,hk,rfl,HJ,hB⟩:=hrel
  by_cases hlt:k<n
  .obtain ⟨b,o,d,kl,rfl,hb,x1,xb⟩:=h.get hlt
   obtain ⟨b',o',d',kl',rfl,hb',x2,xb'⟩:=h'.get hlt
   have x1:=x1.keep hB hb
   have x2:=x2.keep hB hb'
   have r0:=Za x1.c0;have r1:=Za x1.c1;have r2:=Za x1.c2;have r3:=Za x1.c3;have r4:=Za x1.c4;have r5:=Za x1.c5;have r6:=Za x1.c6.c0;have r7:=Za x1.c7;have r8:=Za x1.c8;have r9:=Za x1.c9;have r10:=Za x1.c10;have r11:=Za x1.c11
   have s0:=Za x2.c0;have s1:=Za x2.c1;have s2:=Za x2.c2;have s3:=Za x2.c3;have s4:=Za x2.c4;have s5:=Za x2.c5;have s6:=Za x2.c6.c0;have s7:=Za x2.c7;have s8:=Za x2.c8;have s9:=Za x2.c9;have s10:=Za x2.c10;have s11:=Za x2.c11
   have HC:Hid (∀p:LaterBy,uP 45 #[.agg (uC d), .agg (uC d')] (later wr p) fun e w'=>e= .returned (.bool (eqB l[k] (l'[k]'kl')))/\uB (later wr p) w'):=fun p=>zim l[k] (l'[k]'kl') (later wr p) d d' ((xb.later_ hB).later_ (Zd _ _)) ((xb'.later_ hB).later_ (Zd _ _))
   clear x1 x2 h h'
   generalize hx:eqB l[k] (l'[k]'kl')=bx at HC
   have HX:=qh hx
   clear hx
   cases bx with
   | false=>
     go_wp2_with fail
     refine Zh (by kernel_rfl) (by kernel_rfl) ?_
     repeat (go_big_quiet_step (((go_at_call 45;exact Zg (HC.out _)))))
     refine wpQuiet_nil ?_
     intro _ hw'
     obtain ⟨pq,hw''⟩:=hw'
     subst hw''
     clear r0 r1 r2 r3 r4 r5 r6 r7 r8 r9 r10 r11 s0 s1 s2 s3 s4 s5 s6 s7 s8 s9 s10 s11
     have hB2:=hB.on (Zd wr pq) hB.size
     go_wp2_with fail
     go_ret
     exact ⟨Zc (Zx (fun h=>by subst h;exact Xk HX.out rfl)).symm,hB2⟩
   | true=>
     go_wp2_with fail
     refine Zh (by kernel_rfl) (by kernel_rfl) ?_
     repeat (go_big_quiet_step (((go_at_call 45;exact Zg (HC.out _)))))
     refine wpQuiet_nil ?_
     intro _ hw'
     obtain ⟨pq,hw''⟩:=hw'
     subst hw''
     clear r0 r1 r2 r3 r4 r5 r6 r7 r8 r9 r10 r11 s0 s1 s2 s3 s4 s5 s6 s7 s8 s9 s10 s11
     have hB2:=hB.on (Zd wr pq) hB.size
     go_wp2_with fail
     go_roundw
     case rel=>exact ⟨k+1,by omega,by go_num,Jv HJ kl kl' HX.out,hB2⟩
     case measure=>simp [intOf];omega
  .go_wp2_with fail
   go_ret
   exact ⟨Zc (Z8 (Xw HJ.out (by have:=HLn.out;omega) (by have:=HLm.out;omega))).symm,hB⟩
theorem zjj (b:UInt8):(low b).toNat<128:=by
 unfold low;rw [UInt8.toNat_ofNat'];omega
theorem zkf {l:List UInt8} (h:∀b ∈ l,b.toNat<128):Lib.validD l=true:=by
 have:=Lib.validD_ascii l.length l (fun b hb=>h b (List.mem_of_mem_take hb))
 rw [this,List.drop_length];rfl
theorem zcj (s:ByteArray):Lib.validD (plainS s).data.toList=true:=by
 refine zkf fun b hb=> ?_
 have:b ∈ plainL s.data.toList:=by simpa [plainS] using hb
 obtain ⟨c,_,rfl⟩:=List.mem_map.1 this
 exact zjj c
theorem zd5 (l:List Tk) (u:Nat):Lib.validD (keyP l u).data.toList=true:=by
 unfold keyP
 split
 .exact zcj _
 .rfl
theorem zfk (o:List (ByteArray×V)) (key:ByteArray):∀i a,o[i]? =some a->i<fieldK o key->Op.bytesLess a.1.toList key.toList=true:=by
 unfold fieldK
 induction o with
 |nil=>intro i a h;simp at h
 | cons f o ih=>
   intro i a h hi
   by_cases hf:Op.bytesLess f.1.toList key.toList=true
   .rw [List.takeWhile_cons,if_pos hf,List.length_cons] at hi
    cases i with
    |zero=>simp at h;subst h;exact hf
    |succ i=>exact ih i a (by simpa using h) (by omega)
   .rw [List.takeWhile_cons,if_neg hf] at hi
    simp at hi
theorem zmf (o:List (ByteArray×V)) (key:ByteArray):∀a,o[fieldK o key]? =some a->Op.bytesLess a.1.toList key.toList=false:=by
 unfold fieldK
 induction o with
 |nil=>intro a h;simp at h
 | cons f o ih=>
   intro a h
   by_cases hf:Op.bytesLess f.1.toList key.toList=true
   .rw [List.takeWhile_cons,if_pos hf,List.length_cons] at h
    exact ih a (by simpa using h)
   .rw [List.takeWhile_cons,if_neg hf] at h
    simp at h;subst h
    cases hq:Op.bytesLess f.1.toList key.toList with
    |true=>exact absurd hq hf
    |false=>rfl
theorem zkn {x y z:List UInt8} (h:Op.bytesLess x y=true) (g:Op.bytesLess y z=true):Op.bytesLess x z=true:=by
 simp only [bytesLess_eq,decide_eq_true_eq] at*
 exact List.lt_trans h g
theorem zdy {o:List (ByteArray×V)} :rising o=true↔∀i a b,o[i]? =some a->o[i+1]? =some b->Op.bytesLess a.1.toList b.1.toList=true:=by
 rw [Q7]
 constructor
 .intro h i a b ha hb
  have hb1:=(List.getElem?_eq_some_iff.1 hb).1
  have:=h i hb1
  rw [List.getElem?_eq_getElem (by omega)] at ha
  rw [List.getElem?_eq_getElem hb1] at hb
  injection ha with ha;injection hb with hb
  rw [<-ha, <-hb];exact this
 .intro h i hi
  exact h i _ _ (List.getElem?_eq_getElem (by omega)) (List.getElem?_eq_getElem hi)
theorem zg1 {o:List (ByteArray×V)} (key:ByteArray) (x:V) (h:rising o=true):rising (withF o key x)=true:=by
 rw [zdy] at h ⊢
 obtain ⟨k,hk⟩:∃k,fieldK o key=k:=⟨_,rfl⟩
 have hkl:=Yo o key
 have hlt:=zfk o key
 have hst:=zmf o key
 obtain ⟨k',hk'⟩:∃k',(if fieldIs o key=true then fieldK o key+1 else fieldK o key)=k':=⟨_,rfl⟩
 have hnext:∀b,o[k']? =some b->Op.bytesLess key.toList b.1.toList=true:=by
  intro b hb
  by_cases e:fieldIs o key=true
  .rw [if_pos e,hk] at hk'
   unfold fieldIs at e
   rw [hk] at e
   cases hf:o[k]? with
   |none=>rw [hf] at e;cases e
   | some f=>
     rw [hf] at e
     have e:f.1.toList=key.toList:=by simpa using e
     rw [<-e]
     rw [<-hk'] at hb
     exact h k f b hf hb
  .rw [if_neg e,hk] at hk'
   unfold fieldIs at e
   rw [<-hk'] at hb
   have h1:=hst b (by rw [hk];exact hb)
   rw [hk,hb] at e
   rcases Kj b.1.toList key.toList with h2|h2|h2
   .rw [h1] at h2;cases h2
   .exact absurd (by simpa using h2) e
   .exact h2
 rw [hk] at hkl hlt
 have hw:withF o key x=o.take k++(key,x)::o.drop k':=by rw [withF,hk',hk]
 rw [hw]
 have l1:(o.take k).length=k:=by rw [List.length_take,Nat.min_eq_left hkl]
 have g1:∀i,i<k->(o.take k++(key,x)::o.drop k')[i]? =o[i]? :=fun i hi=>by
  rw [List.getElem?_append_left (by omega),List.getElem?_take_of_lt hi]
 have g2:(o.take k++(key,x)::o.drop k')[k]? =some (key,x):=by
  rw [List.getElem?_append_right (by omega),l1,Nat.sub_self];rfl
 have g3:∀m,(o.take k++(key,x)::o.drop k')[k+1+m]? =o[k'+m]? :=fun m=>by
  rw [List.getElem?_append_right (by omega),l1,show k+1+m - k=m+1 by omega,List.getElem?_cons_succ,List.getElem?_drop]
 intro i a b ha hb
 by_cases e1:i+1<k
 .rw [g1 _ (by omega)] at ha
  rw [g1 _ e1] at hb
  exact h i a b ha hb
 .by_cases e2:i+1=k
  .rw [g1 _ (by omega)] at ha
   rw [e2,g2] at hb
   injection hb with hb;subst hb
   exact hlt i a ha (by omega)
  .by_cases e3:i=k
   .subst e3
    rw [g2] at ha
    injection ha with ha;subst ha
    have:=g3 0
    rw [Nat.add_zero,Nat.add_zero] at this
    rw [this] at hb
    exact hnext b hb
   .obtain ⟨m,rfl⟩:∃m,i=k+1+m:=⟨i - k - 1,by omega⟩
    rw [g3] at ha
    rw [show k+1+m+1=k+1+(m+1) by omega,g3] at hb
    exact h (k'+m) a b ha hb
theorem zep {o:List (ByteArray×V)} {key:ByteArray} {x:V} {f:ByteArray×V} (h:f ∈ withF o key x):f ∈ o∨f=(key,x):=by
 unfold withF at h
 rcases List.mem_append.1 h with h|h
 .exact .inl (List.mem_of_mem_take h)
 .rcases List.mem_cons.1 h with h|h
  .exact .inr h
  .exact .inl (List.mem_of_mem_drop h)
theorem za2 (g:ByteArray×V->Nat) (o:List (ByteArray×V)) (key:ByteArray) (x:V):((withF o key x).map g).sum<=(o.map g).sum+g (key,x):=by
 have hd:∀n,((o.drop (n+1)).map g).sum<=((o.drop n).map g).sum:=fun n=>by
  rw [<-List.drop_drop,List.drop_one]
  cases o.drop n with
  |nil=>simp
  |cons a r=>simp
 have ht:((o.take (fieldK o key)).map g).sum+((o.drop (fieldK o key)).map g).sum=(o.map g).sum:=by
  rw [<-List.sum_append, <-List.map_append,List.take_append_drop]
 unfold withF
 rw [List.map_append,List.map_cons,List.sum_append,List.sum_cons]
 split
 .have:=hd (fieldK o key);omega
 .omega
theorem zaa (o:List (ByteArray×V)):weightO o=(o.map fun f=>f.1.size+f.2.weight).sum:=by
 induction o with
 |nil=>rfl
 |cons f r ih=>rw [weightO,Yg,ih,List.map_cons,List.sum_cons]
theorem zdi (o:List (ByteArray×V)):(encO o).length=(o.map fun f=>(encF f).length).sum:=by
 induction o with
 |nil=>rfl
 |cons f r ih=>rw [encO,List.length_append,ih,List.map_cons,List.sum_cons]
theorem zga {l:List V} {n:Nat} (h:∀v ∈ l,v.deep+1<=n):deepL l<=n:=by
 induction l with
 |nil=>simp [deepL]
 | cons v r ih=>
   rw [deepL]
   have h1:=h v (by simp)
   have h2:=ih fun x hx=>h x (by simp [hx])
   omega
theorem zib {o:List (ByteArray×V)} {n:Nat} (h:∀f ∈ o,f.2.deep+1<=n):deepO o<=n:=by
 induction o with
 |nil=>simp [deepO]
 | cons v r ih=>
   rw [deepO,X5]
   have h1:=h v (by simp)
   have h2:=ih fun x hx=>h x (by simp [hx])
   omega
structure Built (d:Nat) (v:V) (u:Nat):Prop where
 sound:v.sound=true
 deep:v.deep<=d
 wt:v.weight+40<=81*(3*u+1)
 len:(encV v).length+44<=90*(3*u+1)
theorem J1 (d:Nat):Built d V.none 0:=⟨by simp [V.none,V.sound,plainB,rising,soundL,soundO],by simp [V.none,V.deep,deepL,deepO],by simp [V.none,V.weight,weightL,weightO],by simp [V.none,encV,Ye]⟩
theorem Built.more {d u u':Nat} {v:V} (h:Built d v u) (hu:u<=u'):Built d v u':=⟨h.sound,h.deep,by have:=h.wt;omega,by have:=h.len;omega⟩
theorem zbf (d:Nat) (t:Tk):Built d (leafP t) 1:=by
 have hp:=Y5 t.s
 have hv:=zcj t.s
 unfold leafP
 split
 .have:t.n % 2=0∨t.n % 2=1:=by omega
  refine ⟨?_,by simp [V.deep,deepL,deepO],by simp [V.weight,weightL,weightO],by simp [encV,Ye]⟩
  rcases this with h|h<;>simp [h,V.sound,plainB,rising,soundL,soundO]
 .split
  .exact ⟨by simp [V.sound,plainB,rising,soundL,soundO],by simp [V.deep,deepL,deepO],by simp [V.weight,weightL,weightO],by simp [encV,Ye]⟩
  .split
   .exact ⟨by simp [V.sound,plainB,rising,soundL,soundO,hv],by simp [V.deep,deepL,deepO],by simp [V.weight,weightL,weightO];omega,by simp [encV,Ye,zbv];omega⟩
   .split
    .exact ⟨by simp [V.sound,plainB,rising,soundL,soundO],by simp [V.deep,deepL,deepO],by simp [V.weight,weightL,weightO],by simp [encV,encL,Ye]⟩
    .split
     .exact ⟨by simp [V.sound,plainB,rising,soundL,soundO],by simp [V.deep,deepL,deepO],by simp [V.weight,weightL,weightO],by simp [encV,encO,Ye]⟩
     .exact (J1 d).more (by omega)
theorem zes {d:Nat} {f:List Tk->V×Nat} (hf:∀l,Built d (f l).1 (f l).2) (l:List Tk):∀j,(∀v ∈ (bL f l j).1,v.sound=true/\v.deep<=d)/\1<=(bL f l j).2/\weightL (bL f l j).1+40*j<=81*(3*((bL f l j).2 - 1)+j)/\(encL (bL f l j).1).length+44*j<=90*(3*((bL f l j).2 - 1)+j):=by
 intro j
 induction j with
 |zero=>exact ⟨by simp [bL],by simp [bL],by simp [bL,weightL],by simp [bL,encL]⟩
 | succ j ih=>
   obtain ⟨h1,h2,h3,h4⟩:=ih
   rw [bL]
   have hb:=hf (l.drop (bL f l j).2)
   have hw:=hb.wt
   have hn:=hb.len
   dsimp only
   rw [Xo,zks,List.length_append]
   simp only [weightL,encL,List.append_nil]
   refine ⟨fun v hv=> ?_,by omega,by omega,by omega⟩
   rcases List.mem_append.1 hv with hv|hv
   .exact h1 v hv
   .rw [List.mem_singleton] at hv;subst hv;exact ⟨hb.sound,hb.deep⟩
theorem zel {d:Nat} {f:List Tk->V×Nat} (hf:∀l,Built d (f l).1 (f l).2) (l:List Tk):∀j,(∀g ∈ (bO f l j).1,Lib.validD g.1.data.toList=true/\g.2.sound=true/\g.2.deep<=d)/\rising (bO f l j).1=true/\1<=(bO f l j).2/\weightO (bO f l j).1<=81*(3*((bO f l j).2 - 1)+j)/\(encO (bO f l j).1).length<=90*(3*((bO f l j).2 - 1)+j):=by
 intro j
 induction j with
 |zero=>exact ⟨by simp [bO],by simp [bO,rising],by simp [bO],by simp [bO,weightO],by simp [bO,encO]⟩
 | succ j ih=>
   obtain ⟨h1,h5,h2,h3,h4⟩:=ih
   rw [bO]
   have hb:=hf (l.drop (bO f l j).2)
   have hw:=hb.wt
   have hn:=hb.len
   have hk:=zcb l (bO f l j).2
   have s1:=za2 (fun f=>f.1.size+f.2.weight) (bO f l j).1 (keyP l (bO f l j).2) (f (l.drop (bO f l j).2)).1
   have s2:=za2 (fun f=>(encF f).length) (bO f l j).1 (keyP l (bO f l j).2) (f (l.drop (bO f l j).2)).1
   rw [<-zaa, <-zaa] at s1
   rw [<-zdi, <-zdi] at s2
   rw [zle,List.length_append,zbv] at s2
   dsimp only at*
   refine ⟨fun v hv=> ?_,zg1 _ _ h5,by omega,by omega,by omega⟩
   rcases zep hv with hv|hv
   .exact h1 v hv
   .subst hv;exact ⟨zd5 _ _,hb.sound,hb.deep⟩
theorem zds (d:Nat):∀l,Built d (oneP d l).1 (oneP d l).2:=by
 induction d with
 | zero=>
   intro l
   cases l with
   |nil=>exact J1 0
   |cons t r=>exact zbf 0 t
 | succ d ih=>
   intro l
   cases l with
   |nil=>exact J1 _
   | cons t r=>
     have hK:(t.m % 4).toNat<=3:=by omega
     obtain ⟨K,hk⟩:∃K,(t.m % 4).toNat=K:=⟨_,rfl⟩
     rw [oneP,hk]
     rw [hk] at hK
     split
     .obtain ⟨h1,h2,h3,h4⟩:=zes ih (t::r) K
      obtain ⟨p,hp⟩:∃p,bL (oneP d) (t::r) K=p:=⟨_,rfl⟩
      rw [hp] at h1 h2 h3 h4 ⊢
      refine ⟨?_, ?_, ?_, ?_⟩
      .simp only [V.sound,Bool.and_eq_true]
       exact ⟨⟨⟨by simp [plainB],rfl⟩,(Jr _).2 fun v hv=>(h1 v hv).1⟩,rfl⟩
      .simp only [V.deep,deepO]
       have:=zga (n:=d+1) fun v hv=>by have:=(h1 v hv).2;omega
       omega
      .simp only [V.weight,weightO,show ByteArray.empty.size=0 from rfl];omega
      .rw [encV,if_neg (by omega),if_neg (by omega),if_pos rfl,List.length_append,List.length_append,Ye,Ye];omega
     .split
      .obtain ⟨h1,h5,h2,h3,h4⟩:=zel ih (t::r) K
       obtain ⟨p,hp⟩:∃p,bO (oneP d) (t::r) K=p:=⟨_,rfl⟩
       rw [hp] at h1 h5 h2 h3 h4 ⊢
       refine ⟨?_, ?_, ?_, ?_⟩
       .simp only [V.sound,Bool.and_eq_true]
        exact ⟨⟨⟨by simp [plainB],h5⟩,rfl⟩,(Jb _).2 fun v hv=>⟨(h1 v hv).1,(h1 v hv).2.1⟩⟩
       .simp only [V.deep,deepL]
        have:=zib (n:=d+1) fun v hv=>by have:=(h1 v hv).2.2;omega
        omega
       .simp only [V.weight,weightL,show ByteArray.empty.size=0 from rfl];omega
       .rw [encV,if_neg (by omega),if_neg (by omega),if_neg (by omega),if_pos rfl,List.length_append,List.length_append,Ye,Ye];omega
      .exact zbf _ t
theorem Kr (l:List Tk):lightB (oneP 6 (l.take 60)).1=true/\(oneP 6 (l.take 60)).1.weight<=20000/\(oneP 6 (l.take 60)).1.deep<=6/\(oneP 6 (l.take 60)).1.sound=true/\(encV (oneP 6 (l.take 60)).1).length<=60000:=by
 have hb:=zds 6 (l.take 60)
 have hu:=Qs 6 (l.take 60)
 rw [List.length_take] at hu
 have h1:=hb.wt
 have h2:=hb.len
 have h3:=hb.deep
 refine ⟨?_,by omega,h3,hb.sound,by omega⟩
 rw [lightB,hb.sound,decide_eq_true (by omega:(oneP 6 (l.take 60)).1.deep<=16),decide_eq_true (by omega:(oneP 6 (l.take 60)).1.weight<=20000)];rfl
def wcells (d:VC) (cc:CC):List Value:=vcells d++ccells cc
set_option maxRecDepth 100000 in
theorem zlb (w:World) (B:Nat) (d:VC) (cc:CC) (hB:BC w B (wcells d cc)):
 uP 67 #[.pointer (some ⟨B,0,none⟩)] w fun e w'=>e= .returned (.tuple #[])/\∃W,uB w W/\w'=W.setCell ⟨B,1,none⟩ (.int .i64 (wrap64 (d.n+cc.n))):=by
 delta uB uP
 have c1:=hB.at_ 1 _ rfl;have c10:=hB.at_ 10 _ rfl;have f1:=hB.fr 1
 have zs:=hB.lt
 have mixed:Tryz.prog.follows .mixedOrders=true:=by kernel_rfl
 clear hB
 go_enter Tryz.func67,Tryz.ntmps67
 go_wp2_with fail
 go_region
 all_goals (go_wp2_with fail;exact ⟨rfl, .tuple #[],by simp [results,Tryz.results67,go_sem],rfl,w.drew,(Below.refl _ _).drew,rfl⟩)
set_option maxRecDepth 100000 in
theorem zkt (w:World) (B:Nat) (d:VC) (cc:CC) (hB:BC w B (wcells d cc)) (hcb:cc.Bnd) (hs:d.s.size<=1000000000000) (hc:tCheck d.s cc.k cc.i cc.n=0):
 uP 70 #[.pointer (some ⟨B,0,none⟩)] w fun e w'=>e= .returned (.tuple #[])/\∃W,uB w W/\w'=W.setCell ⟨B,2,none⟩ (.string (textDo d.s cc.k cc.i cc.n cc.s)):=by
 delta uB uP
 have HTD:Hid (∀W,uP 117 #[.string d.s, .agg (uC cc)] W fun e w'=>e= .returned (.tuple #[.string (textDo d.s cc.k cc.i cc.n cc.s), .int .u16 0])/\uB W w'):=fun W=>zhv W d.s cc hcb hs hc
 have HB:=qh hB
 have c2:=hB.at_ 2 _ rfl;have f2:=hB.fr 2
 have c5:=hB.at_ 5 _ rfl;have c6:=hB.at_ 6 _ rfl;have c7:=hB.at_ 7 _ rfl;have c8:=hB.at_ 8 _ rfl;have c9:=hB.at_ 9 _ rfl;have c10:=hB.at_ 10 _ rfl;have c11:=hB.at_ 11 _ rfl;have c12:=hB.at_ 12 _ rfl;have c13:=hB.at_ 13 _ rfl;have c14:=hB.at_ 14 _ rfl;have c15:=hB.at_ 15 _ rfl;have c16:=hB.at_ 16 _ rfl
 have zs:=hB.lt
 have mixed:Tryz.prog.follows .mixedOrders=true:=by kernel_rfl
 obtain ⟨TD,hTD⟩:∃TD,textDo d.s cc.k cc.i cc.n cc.s=TD:=⟨_,rfl⟩
 rw [hTD] at HTD ⊢
 clear hB hTD hc hs hcb
 go_enter Tryz.func70,Tryz.ntmps70
 go_wp2_with fail
 go_region_with (go_simp;go_at_call 117;(with_reducible refine (HTD.out _).mono ?_);rintro e w4 ⟨rfl,hb4⟩;have B4:=HB.out.keep ((Zf w).trans hb4) HB.out.lt;have g2:=B4.at_ 2 _ rfl;have f2':=B4.fr 2;have z4:=B4.lt;have HB4:=qh ((Zf w).trans hb4);clear hb4 B4)
 all_goals (go_wp2_with fail;exact ⟨rfl, .tuple #[],by simp [results,Tryz.results70,go_sem],rfl,w4,HB4.out,rfl⟩)
set_option maxRecDepth 100000 in
theorem zi2 (w:World) (c:CC):
 uP 160 #[.agg (uC c)] w fun e w'=>e= .returned (.bool (decide (4<=c.k/\c.k<=7)))/\uB w w':=by
 delta uC uB uP
 have HBX:=qh (BC.start w #[.int .u8 c.k, .slice c.pa c.pl c.pc, .string c.key, .int .i64 c.i, .int .i64 c.j, .int .i64 c.n, .int .u8 c.v.k, .int .i64 c.v.n, .string c.v.s, .slice c.v.la c.v.ll c.v.lc, .slice c.v.oa c.v.ol c.v.oc, .string c.s] 54)
 have HAL:=qh ((Below.refl _ _).alloc (Nat.le_refl _) (.cells #[.int .u8 c.k, .slice c.pa c.pl c.pc, .string c.key, .int .i64 c.i, .int .i64 c.j, .int .i64 c.n, .int .u8 c.v.k, .int .i64 c.v.n, .string c.v.s, .slice c.v.la c.v.ll c.v.lc, .slice c.v.oa c.v.ol c.v.oc, .string c.s] 54):uB w _)
 obtain ⟨R,hR⟩:∃R,decide (4<=c.k/\c.k<=7)=R:=⟨_,rfl⟩
 rw [hR]
 obtain ⟨ck,hck⟩:∃ck,c.k=ck:=⟨_,rfl⟩
 rw [hck] at HBX HAL hR ⊢
 have HR:=qh hR
 clear hck hR
 by_cases e4:ck=4
 .cases e4
  obtain rfl:R=true:=by rw [<-HR.out];rfl
  go_enter Tryz.func160,Tryz.ntmps160
  go_wp2_with fail
  go_returns
  exact ⟨rfl,HAL.out⟩
 have f4:(ck==4)=false:=by simp [e4]
 by_cases e5:ck=5
 .cases e5
  obtain rfl:R=true:=by rw [<-HR.out];rfl
  go_enter Tryz.func160,Tryz.ntmps160
  go_wp2_with fail
  go_returns
  exact ⟨rfl,HAL.out⟩
 have f5:(ck==5)=false:=by simp [e5]
 by_cases e6:ck=6
 .cases e6
  obtain rfl:R=true:=by rw [<-HR.out];rfl
  go_enter Tryz.func160,Tryz.ntmps160
  go_wp2_with fail
  go_returns
  exact ⟨rfl,HAL.out⟩
 have f6:(ck==6)=false:=by simp [e6]
 by_cases e7:ck=7
 .cases e7
  obtain rfl:R=true:=by rw [<-HR.out];rfl
  go_enter Tryz.func160,Tryz.ntmps160
  go_wp2_with fail
  go_returns
  exact ⟨rfl,HAL.out⟩
 have f7:(ck==7)=false:=by simp [e7]
 obtain rfl:R=false:=by rw [<-HR.out];simp;omega
 go_enter Tryz.func160,Tryz.ntmps160
 go_wp2_with fail
 go_returns
 exact ⟨rfl,HAL.out⟩
set_option maxRecDepth 100000 in
theorem X3 (w:World) (n:Nat) (hn:n<=9223372036854775807) (c:CC):
 uP 134 #[.int .i64 n, .agg #[.int .u8 c.k, .slice c.pa c.pl c.pc, .string c.key, .int .i64 c.i, .int .i64 c.j, .int .i64 c.n, .int .u8 c.v.k, .int .i64 c.v.n, .string c.v.s, .slice c.v.la c.v.ll c.v.lc, .slice c.v.oa c.v.ol c.v.oc, .string c.s]] w fun e w'=>e= .returned (.int .u16 (lCheck n c.k c.i c.j))/\uB w w':=by
 delta uB uP
 have HBX:=qh (BC.start w #[.int .u8 c.k, .slice c.pa c.pl c.pc, .string c.key, .int .i64 c.i, .int .i64 c.j, .int .i64 c.n, .int .u8 c.v.k, .int .i64 c.v.n, .string c.v.s, .slice c.v.la c.v.ll c.v.lc, .slice c.v.oa c.v.ol c.v.oc, .string c.s] 54)
 have HAL:=qh ((Below.refl _ _).alloc (Nat.le_refl _) (.cells #[.int .u8 c.k, .slice c.pa c.pl c.pc, .string c.key, .int .i64 c.i, .int .i64 c.j, .int .i64 c.n, .int .u8 c.v.k, .int .i64 c.v.n, .string c.v.s, .slice c.v.la c.v.ll c.v.lc, .slice c.v.oa c.v.ol c.v.oc, .string c.s] 54):uB w _)
 have HKN:Hid (∀W,uP 160 #[.agg #[.int .u8 c.k, .slice c.pa c.pl c.pc, .string c.key, .int .i64 c.i, .int .i64 c.j, .int .i64 c.n, .int .u8 c.v.k, .int .i64 c.v.n, .string c.v.s, .slice c.v.la c.v.ll c.v.lc, .slice c.v.oa c.v.ol c.v.oc, .string c.s]] W fun e w'=>e= .returned (.bool (decide (4<=c.k/\c.k<=7)))/\uB W w'):=fun W=>zi2 W c
 obtain ⟨KN,hKN⟩:∃KN,decide (4<=c.k/\c.k<=7)=KN:=⟨_,rfl⟩
 rw [hKN] at HKN
 obtain ⟨R,hR⟩:∃R,lCheck n c.k c.i c.j=R:=⟨_,rfl⟩
 rw [hR]
 rw [lCheck] at hR
 obtain ⟨ck,hck⟩:∃ck,c.k=ck:=⟨_,rfl⟩
 obtain ⟨ci,hci⟩:∃ci,c.i=ci:=⟨_,rfl⟩
 obtain ⟨cj,hcj⟩:∃cj,c.j=cj:=⟨_,rfl⟩
 rw [hck,hci,hcj] at hR HKN HBX HAL ⊢
 rw [hck] at hKN
 have HR:=qh hR
 have HKE:=qh hKN
 have hw1:IntKind.i64.wrap ((n:Int) - 1)=(n:Int) - 1:=IntWalk.i64_in _ (by omega)
 clear hR hck hci hcj hKN
 cases KN with
 | false=>
   have hk:¬(4<=ck/\ck<=7):=by simpa using HKE.out
   have f4:(ck==4)=false:=by simp;omega
   have HK:=qh hk
   clear hk
   obtain rfl:R=31:=by rw [<-HR.out];rw [if_pos HK.out]
   go_enter Tryz.func134,Tryz.ntmps134
   go_wp2_with fail
   refine (HKN.out _).mono ?_
   rintro e w1 ⟨rfl,hb1⟩
   have D:=HBX.out.keep hb1 (by simp)
   obtain ⟨b0,b1,b2,b3,b4,b5,b6,b7,b8,b9,b10,b11⟩:=row12 D.at_
   have zs:=D.lt
   have HBL:=qh (HAL.out.trans (hb1.mono (by simp)))
   clear D hb1
   go_wp2_with fail
   go_returns
   exact ⟨rfl,HBL.out⟩
 | true =>
   have hk:4<=ck/\ck<=7:=by simpa using HKE.out
   have HK:=qh hk
   clear hk
   by_cases h1:ci<0
   .obtain rfl:R=32:=by rw [<-HR.out,if_neg (fun h=>h HK.out),if_pos (.inl h1)]
    by_cases h4:ck=4
    .cases h4
     go_enter Tryz.func134,Tryz.ntmps134
     go_wp2_with fail
     refine (HKN.out _).mono ?_
     rintro e w1 ⟨rfl,hb1⟩
     have D:=HBX.out.keep hb1 (by simp)
     obtain ⟨b0,b1,b2,b3,b4,b5,b6,b7,b8,b9,b10,b11⟩:=row12 D.at_
     have zs:=D.lt
     have HBL:=qh (HAL.out.trans (hb1.mono (by simp)))
     clear D hb1
     go_wp2_with fail
     go_returns
     exact ⟨rfl,HBL.out⟩
    .have f4:(ck==4)=false:=by simp [h4]
     go_enter Tryz.func134,Tryz.ntmps134
     go_wp2_with fail
     refine (HKN.out _).mono ?_
     rintro e w1 ⟨rfl,hb1⟩
     have D:=HBX.out.keep hb1 (by simp)
     obtain ⟨b0,b1,b2,b3,b4,b5,b6,b7,b8,b9,b10,b11⟩:=row12 D.at_
     have zs:=D.lt
     have HBL:=qh (HAL.out.trans (hb1.mono (by simp)))
     clear D hb1
     go_wp2_with fail
     go_returns
     exact ⟨rfl,HBL.out⟩
   by_cases h4:ck=4
   .cases h4
    by_cases h2:(n:Int)<ci
    .obtain rfl:R=32:=by rw [<-HR.out];rw [if_neg (fun h=>h HK.out),if_pos (.inr (.inl h2))]
     go_enter Tryz.func134,Tryz.ntmps134
     go_wp2_with fail
     refine (HKN.out _).mono ?_
     rintro e w1 ⟨rfl,hb1⟩
     have D:=HBX.out.keep hb1 (by simp)
     obtain ⟨b0,b1,b2,b3,b4,b5,b6,b7,b8,b9,b10,b11⟩:=row12 D.at_
     have zs:=D.lt
     have HBL:=qh (HAL.out.trans (hb1.mono (by simp)))
     clear D hb1
     go_wp2_with fail
     go_returns
     exact ⟨rfl,HBL.out⟩
    obtain rfl:R=0:=by rw [<-HR.out];rw [if_neg (fun h=>h HK.out),if_neg (by omega),if_neg (by omega)]
    go_enter Tryz.func134,Tryz.ntmps134
    go_wp2_with fail
    refine (HKN.out _).mono ?_
    rintro e w1 ⟨rfl,hb1⟩
    have D:=HBX.out.keep hb1 (by simp)
    obtain ⟨b0,b1,b2,b3,b4,b5,b6,b7,b8,b9,b10,b11⟩:=row12 D.at_
    have zs:=D.lt
    have HBL:=qh (HAL.out.trans (hb1.mono (by simp)))
    clear D hb1
    go_wp2_with fail
    go_returns
    exact ⟨rfl,HBL.out⟩
   have f4:(ck==4)=false:=by simp [h4]
   by_cases h3:(n:Int) - 1<ci
   .obtain rfl:R=32:=by rw [<-HR.out];rw [if_neg (fun h=>h HK.out),if_pos (by omega)]
    go_enter Tryz.func134,Tryz.ntmps134
    go_wp2_with fail
    refine (HKN.out _).mono ?_
    rintro e w1 ⟨rfl,hb1⟩
    have D:=HBX.out.keep hb1 (by simp)
    obtain ⟨b0,b1,b2,b3,b4,b5,b6,b7,b8,b9,b10,b11⟩:=row12 D.at_
    have zs:=D.lt
    have HBL:=qh (HAL.out.trans (hb1.mono (by simp)))
    clear D hb1
    go_wp2_with fail
    go_returns
    exact ⟨rfl,HBL.out⟩
   by_cases h7:ck=7
   .cases h7
    by_cases h8:cj<0
    .obtain rfl:R=32:=by rw [<-HR.out];rw [if_neg (fun h=>h HK.out),if_neg (by omega),if_pos (by omega)]
     go_enter Tryz.func134,Tryz.ntmps134
     go_wp2_with fail
     refine (HKN.out _).mono ?_
     rintro e w1 ⟨rfl,hb1⟩
     have D:=HBX.out.keep hb1 (by simp)
     obtain ⟨b0,b1,b2,b3,b4,b5,b6,b7,b8,b9,b10,b11⟩:=row12 D.at_
     have zs:=D.lt
     have HBL:=qh (HAL.out.trans (hb1.mono (by simp)))
     clear D hb1
     go_wp2_with fail
     go_returns
     exact ⟨rfl,HBL.out⟩
    .by_cases h9:(n:Int)<=cj
     .obtain rfl:R=32:=by rw [<-HR.out];rw [if_neg (fun h=>h HK.out),if_neg (by omega),if_pos (by omega)]
      go_enter Tryz.func134,Tryz.ntmps134
      go_wp2_with fail
      refine (HKN.out _).mono ?_
      rintro e w1 ⟨rfl,hb1⟩
      have D:=HBX.out.keep hb1 (by simp)
      obtain ⟨b0,b1,b2,b3,b4,b5,b6,b7,b8,b9,b10,b11⟩:=row12 D.at_
      have zs:=D.lt
      have HBL:=qh (HAL.out.trans (hb1.mono (by simp)))
      clear D hb1
      go_wp2_with fail
      go_returns
      exact ⟨rfl,HBL.out⟩
     .obtain rfl:R=0:=by rw [<-HR.out];rw [if_neg (fun h=>h HK.out),if_neg (by omega),if_neg (by omega)]
      go_enter Tryz.func134,Tryz.ntmps134
      go_wp2_with fail
      refine (HKN.out _).mono ?_
      rintro e w1 ⟨rfl,hb1⟩
      have D:=HBX.out.keep hb1 (by simp)
      obtain ⟨b0,b1,b2,b3,b4,b5,b6,b7,b8,b9,b10,b11⟩:=row12 D.at_
      have zs:=D.lt
      have HBL:=qh (HAL.out.trans (hb1.mono (by simp)))
      clear D hb1
      go_wp2_with fail
      go_returns
      exact ⟨rfl,HBL.out⟩
   .have f7:(ck==7)=false:=by simp [h7]
    obtain rfl:R=0:=by rw [<-HR.out];rw [if_neg (fun h=>h HK.out),if_neg (by omega),if_neg (by omega)]
    go_enter Tryz.func134,Tryz.ntmps134
    go_wp2_with fail
    refine (HKN.out _).mono ?_
    rintro e w1 ⟨rfl,hb1⟩
    have D:=HBX.out.keep hb1 (by simp)
    obtain ⟨b0,b1,b2,b3,b4,b5,b6,b7,b8,b9,b10,b11⟩:=row12 D.at_
    have zs:=D.lt
    have HBL:=qh (HAL.out.trans (hb1.mono (by simp)))
    clear D hb1
    go_wp2_with fail
    go_returns
    exact ⟨rfl,HBL.out⟩
end Go.Proofs.YtbgheehjfnoiiaaGreatDoor
