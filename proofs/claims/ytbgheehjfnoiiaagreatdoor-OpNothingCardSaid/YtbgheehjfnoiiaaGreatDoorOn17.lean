/-
  Contracts of the functions that the law reaches: DERIVED: THE SHELF's CONTRACTS AT THIS.
-/
import Derived.Test.YtbgheehjfnoiiaaGreatDoorOn1
import Derived.Ground.NamesProg
import Derived.Shelf.Unicode.ValidAny
import Derived.Shelf.Utf8.RuneCount
import Derived.Sort.Walk0
namespace Go.Proofs
open Go.Shelf
def Tryz.lays196_ren:Go.Shelf.Ren:=⟨fun|196=>99|259=>140|n=>n,fun|9=>9|4=>4|3=>3|5=>5|12=>12|119=>151|0=>0|46=>155|139=>154|138=>153|53=>178|n=>n,fun|3=>0|4=>1|n=>n⟩
theorem Tryz.lays196:Go.Proofs.Lays.n196 Tryz.prog Tryz.lays196_ren:= {
 mixed:=by kernel_rfl
 f196:=Tryz.func99.trans (congrArg some (by kernel_rfl))
 f259:=Tryz.func140.trans (congrArg some (by kernel_rfl))
 t0:=Tryz.underlying0
 a0:=Tryz.isAgg0
 z0:=Tryz.sizeOf0
 v0:=Tryz.zeroValue0
 t3:=Tryz.underlying3
 a3:=Tryz.isAgg3
 z3:=Tryz.sizeOf3
 v3:=Tryz.zeroValue3
 t4:=Tryz.underlying4
 a4:=Tryz.isAgg4
 z4:=Tryz.sizeOf4
 v4:=Tryz.zeroValue4
 t5:=Tryz.underlying5
 a5:=Tryz.isAgg5
 z5:=Tryz.sizeOf5
 v5:=Tryz.zeroValue5
 t9:=Tryz.underlying9
 a9:=Tryz.isAgg9
 z9:=Tryz.sizeOf9
 v9:=Tryz.zeroValue9
 t12:=Tryz.underlying12
 a12:=Tryz.isAgg12
 z12:=Tryz.sizeOf12
 v12:=Tryz.zeroValue12
 t46:=Tryz.underlying155
 a46:=Tryz.isAgg155
 z46:=Tryz.sizeOf155
 v46:=Tryz.zeroValue155
 t53:=Tryz.underlying178
 a53:=Tryz.isAgg178
 z53:=Tryz.sizeOf178
 v53:=Tryz.zeroValue178
 t119:=Tryz.underlying151
 a119:=Tryz.isAgg151
 z119:=Tryz.sizeOf151
 t138:=Tryz.underlying153
 a138:=Tryz.isAgg153
 z138:=Tryz.sizeOf153
 v138:=Tryz.zeroValue153
 t139:=Tryz.underlying154
 a139:=Tryz.isAgg154
 z139:=Tryz.sizeOf154
 v139:=Tryz.zeroValue154
 g3:=by kernel_rfl
 g4:=by kernel_rfl }
open Go.RowKit Go.Lib in
theorem Tryz.utf8_ValidString (s:ByteArray) (w:World) (hs:s.size<=9223372036854775807) (hT:Lib.Utf8Tabs 0 1 w):
 Calls Tryz.prog 99 #[.string s] w fun e w'=>e= .returned (.bool (Lib.validD s.data.toList))/\Below w.heap.size w w':=Any.utf8_ValidString Tryz.lays196 s w hs hT
def Tryz.lays197_ren:Go.Shelf.Ren:=⟨fun|197=>150|260=>173|n=>n,fun|9=>9|21=>21|3=>3|4=>4|5=>5|105=>162|119=>151|0=>0|46=>155|139=>154|138=>153|n=>n,fun|3=>0|4=>1|n=>n⟩
theorem Tryz.lays197:Go.Proofs.Lays.n197 Tryz.prog Tryz.lays197_ren:= {
 mixed:=by kernel_rfl
 f197:=Tryz.func150.trans (congrArg some (by kernel_rfl))
 f260:=Tryz.func173.trans (congrArg some (by kernel_rfl))
 t0:=Tryz.underlying0
 a0:=Tryz.isAgg0
 z0:=Tryz.sizeOf0
 v0:=Tryz.zeroValue0
 t3:=Tryz.underlying3
 a3:=Tryz.isAgg3
 z3:=Tryz.sizeOf3
 v3:=Tryz.zeroValue3
 t4:=Tryz.underlying4
 a4:=Tryz.isAgg4
 z4:=Tryz.sizeOf4
 v4:=Tryz.zeroValue4
 t5:=Tryz.underlying5
 a5:=Tryz.isAgg5
 z5:=Tryz.sizeOf5
 v5:=Tryz.zeroValue5
 t9:=Tryz.underlying9
 a9:=Tryz.isAgg9
 z9:=Tryz.sizeOf9
 v9:=Tryz.zeroValue9
 t21:=Tryz.underlying21
 a21:=Tryz.isAgg21
 z21:=Tryz.sizeOf21
 v21:=Tryz.zeroValue21
 t46:=Tryz.underlying155
 a46:=Tryz.isAgg155
 z46:=Tryz.sizeOf155
 v46:=Tryz.zeroValue155
 t105:=Tryz.underlying162
 a105:=Tryz.isAgg162
 z105:=Tryz.sizeOf162
 v105:=Tryz.zeroValue162
 t119:=Tryz.underlying151
 a119:=Tryz.isAgg151
 z119:=Tryz.sizeOf151
 t138:=Tryz.underlying153
 a138:=Tryz.isAgg153
 z138:=Tryz.sizeOf153
 v138:=Tryz.zeroValue153
 t139:=Tryz.underlying154
 a139:=Tryz.isAgg154
 z139:=Tryz.sizeOf154
 v139:=Tryz.zeroValue154
 g3:=by kernel_rfl
 g4:=by kernel_rfl }
open Go.RowKit Go.Lib in
theorem Tryz.utf8_DecodeRuneInString (s:ByteArray) (w:World) (hT:Lib.Utf8Tabs 0 1 w):
 Calls Tryz.prog 150 #[.string s] w fun e w'=>e= .returned (.tuple #[.int .i32 (Lib.decodeGo s).1, .int .i64 (Lib.decodeGo s).2])/\Below w.heap.size w w':=Any.utf8_DecodeRuneInString Tryz.lays197 s w hT
def Tryz.lays195_ren:Go.Shelf.Ren:=⟨fun|195=>132|n=>n,fun|9=>9|3=>3|0=>0|4=>4|n=>n,fun|n=>n⟩
theorem Tryz.lays195:Go.Proofs.Lays.n195 Tryz.prog Tryz.lays195_ren:= {
 mixed:=by kernel_rfl
 f195:=Tryz.func132.trans (congrArg some (by kernel_rfl))
 t0:=Tryz.underlying0
 a0:=Tryz.isAgg0
 z0:=Tryz.sizeOf0
 v0:=Tryz.zeroValue0
 t3:=Tryz.underlying3
 a3:=Tryz.isAgg3
 z3:=Tryz.sizeOf3
 v3:=Tryz.zeroValue3
 t4:=Tryz.underlying4
 a4:=Tryz.isAgg4
 z4:=Tryz.sizeOf4
 v4:=Tryz.zeroValue4
 t9:=Tryz.underlying9
 a9:=Tryz.isAgg9
 z9:=Tryz.sizeOf9
 v9:=Tryz.zeroValue9 }
open Go.RowKit Go.Lib in
theorem Tryz.utf8_RuneCountInString (s:ByteArray) (w:World) (hs:s.size<9223372036854775807):
 Calls Tryz.prog 132 #[.string s] w fun e w'=>e= .returned (.int .i64 (Lib.runeCount s))/\∃pos,w'=w.iter s pos:=Any.utf8_RuneCountInString Tryz.lays195 s w hs
end Go.Proofs
namespace Go.Proofs.YtbgheehjfnoiiaaGreatDoor
open Go.RowKit
set_option maxHeartbeats 4000000
structure Boxed1 (w wr:World) (c:VC):Prop where
 a:ValAt wr w.heap.size 0 c
 below:Below w.heap.size w wr
 size:w.heap.size+1<=wr.heap.size
theorem Jw (w:World) (c:VC) (t:TypeId):Boxed1 w (w.alloc (.cells #[.int .u8 c.k, .int .i64 c.n, .string c.s, .slice c.la c.ll c.lc, .slice c.oa c.ol c.oc] t)) c:=
 ⟨Yu w c t,(Below.refl _ _).alloc (Nat.le_refl _) _,by simp⟩
theorem Boxed1.step {w wr w':World} {c:VC} (h:Boxed1 w wr c) (hb:uB wr w'):Boxed1 w w' c:=
 ⟨h.a.keep hb (by have:=h.size;omega),h.below.trans (hb.mono (by have:=h.size;omega)),by have:=h.size;have:=hb.size;omega⟩
set_option maxRecDepth 100000 in
theorem zj1 (a:V):∀(w:World) (c:VC),IsVal w w.heap.size a c->a.weight<=4611686018427387904->
 uP 149 #[.agg (uV c)] w fun e w'=>e= .returned (.int .i64 a.weight)/\uB w w':=by
 delta uV uB uP
 induction a using V.ind with
 |h k n s l o ihl iho=>
 have IHL:=qh ihl;have IHO:=qh iho;clear ihl iho
 intro w c ha hw
 cases ha with
 |mk c l o cl co lb lo ob oo cbd hl ho hla hoa hlc hlv hoc hov=>
 have c1:=cbd.l1;have c2:=cbd.l2;have c3:=cbd.o1;have c4:=cbd.o2;have c5:=cbd.s1
 have Hl:=qh hl;have Ho:=qh ho;clear hl ho
 have hst:=Jw w c 29
 have hw0:1+c.s.size+weightL l+weightO o<=4611686018427387904:=by simpa only [V.weight] using hw
 obtain ⟨W,hW⟩:∃W,V.weight (V.mk c.k c.n c.s l o)=W:=⟨_,rfl⟩
 rw [hW]
 have hW2:1+c.s.size+weightL l+weightO o=W:=by simpa only [V.weight] using hW
 have HW:=qh hW2
 clear hW hw hW2
 go_enter Tryz.func149,Tryz.ntmps149
 go_wp2_with fail
 go_loopw [3,4] (fun t i wr=>∃k:Nat,k<=c.ll/\i= .int .i64 k/\t= .int .i64 ((1+c.s.size+weightL (l.take k):Nat):Int)/\Boxed1 w wr c) (fun _ i _=>c.ll - (intOf i).toNat)
 case atStart=>exact ⟨0,Nat.zero_le _,rfl,by simp [weightL],hst⟩
 case round=>
  obtain ⟨k,hk,rfl,rfl,hB⟩:=hrel
  clear hst
  have b1:wr.cell? ⟨w.heap.size,3,none⟩=some (.slice c.la c.ll c.lc):=hB.a.c3
  have hle:=Jz l k
  by_cases hlt:k<c.ll
  .obtain ⟨ela,hlb⟩:=hla (by omega)
   have kl:k<l.length:=by rw [<-Hl.out];exact hlt
   have x1:=(hlc k kl).keep hB.below hlb
   rw [ela] at b1
   have r0:=x1.c0;have r1:=x1.c1;have r2:=x1.c2;have r3:=x1.c3;have r4:=x1.c4
   clear ela x1
   have hm:=Qd l k kl
   have hs:=zc5 l k kl
   have hle2:=Jz l (k+1)
   have HS:=qh hs
   obtain ⟨A,hA⟩:∃A,1+c.s.size+weightL (l.take k)=A:=⟨_,rfl⟩
   obtain ⟨X,hX⟩:∃X,l[k].weight=X:=⟨_,rfl⟩
   have hAX:A+X<=4611686018427387904:=by omega
   have ih:=IHL.out _ (List.getElem_mem kl) wr (cl k) ((hlv k kl).later_ hB.below) (by omega)
   rw [hA]
   rw [hX] at ih
   have H:=qh ih
   have HA:=qh hA;have HX:=qh hX
   clear ih hA hX hs hm hle hle2
   go_wp2_with (go_at_call 149;refine H.out.mono ?_;rintro e w' ⟨rfl,hb⟩)
   go_roundw
   case rel=>exact ⟨k+1,by omega,by go_num,by rw [HS.out, <-Nat.add_assoc,HA.out,HX.out];go_num,hB.step hb⟩
   case measure=>simp [intOf];omega
  .go_wp2_with fail
   go_loopw [3,5] (fun t i wr=>∃k:Nat,k<=c.ol/\i= .int .i64 k/\t= .int .i64 ((1+c.s.size+weightL l+weightO (o.take k):Nat):Int)/\Boxed1 w wr c) (fun _ i _=>c.ol - (intOf i).toNat)
   case atStart=>exact ⟨0,Nat.zero_le _,rfl,by rw [List.take_of_length_le (by have:=Hl.out;omega)];simp [weightO],hB⟩
   case round=>
    clear b1 hB hle hlt hk
    obtain ⟨k2,hk,rfl,rfl,hB⟩:=hrel
    have b1:wr.cell? ⟨w.heap.size,4,none⟩=some (.slice c.oa c.ol c.oc):=hB.a.c4
    have hle:=Ke o k2
    by_cases hlt:k2<c.ol
    .obtain ⟨ela,hlb⟩:=hoa (by omega)
     have kl:k2<o.length:=by rw [<-Ho.out];exact hlt
     obtain ⟨g1,ksz,x1⟩:=hoc k2 kl
     have x1:=x1.keep hB.below hlb
     have g1:=Zb hB.below g1 hlb
     have q1:=Za b1
     rw [ela] at q1
     have r0:=Za x1.c0;have r1:=Za x1.c1;have r2:=Za x1.c2;have r3:=Za x1.c3;have r4:=Za x1.c4
     have t1:=Za g1
     clear ela x1 g1
     have hm:=Qj o k2 kl
     have hs:=zdn o k2 kl
     have hle2:=Ke o (k2+1)
     have HS:=qh hs
     obtain ⟨A,hA⟩:∃A,1+c.s.size+weightL l+weightO (o.take k2)=A:=⟨_,rfl⟩
     obtain ⟨X,hX⟩:∃X,o[k2].2.weight=X:=⟨_,rfl⟩
     obtain ⟨Y,hY⟩:∃Y,o[k2].1=Y:=⟨_,rfl⟩
     have hAX:A+(Y.size+X)<=4611686018427387904:=by rw [<-hA, <-hX, <-hY];omega
     have ih:=fun p=>IHO.out _ (List.getElem_mem kl) (later wr p) (co k2) (((hov k2 kl).later_ hB.below).later_ (Zd _ _)) (by rw [hX];omega)
     rw [hA]
     rw [hX] at ih
     rw [hY] at t1 ksz
     have H:=qh ih
     have HA:=qh hA;have HX:=qh hX;have HY:=qh hY
     clear ih hA hX hY hs hm hle hle2
     have e1:IntKind.i64.wrap ((Y.size:Int)+(X:Int))=(Y.size:Int)+(X:Int):=IntWalk.i64_in _ (by omega)
     have e2:IntKind.i64.wrap ((A:Int)+((Y.size:Int)+(X:Int)))=(A:Int)+((Y.size:Int)+(X:Int)):=IntWalk.i64_in _ (by omega)
     go_wp2_with fail
     refine Zh (by kernel_rfl) (by kernel_rfl) ?_
     repeat (go_big_quiet_step (((go_at_call 149;exact Zg (H.out _)))))
     refine wpQuiet_nil ?_
     intro _ hw'
     obtain ⟨pq,hw''⟩:=hw'
     subst hw''
     clear e1 e2 r0 r1 r2 r3 r4 t1 q1 b1
     go_wp2_with fail
     go_roundw
     case rel=>exact ⟨k2+1,by omega,by go_num,by rw [HS.out, <-Nat.add_assoc,HA.out,HX.out,HY.out];go_num,hB.step (Zd wr pq)⟩
     case measure=>simp [intOf];omega
    .go_wp2_with fail
     go_ret
     exact ⟨Q8 (by rw [<-HW.out,List.take_of_length_le (by have:=Ho.out;omega)]),hB.below⟩
set_option maxRecDepth 100000 in
theorem zdq (a:V):∀(w:World) (c:VC),IsVal w w.heap.size a c->a.weight<=4611686018427387904->
 uP 148 #[.agg (uV c)] w fun e w'=>e= .returned (.int .i64 a.deep)/\uB w w':=by
 delta uV uB uP
 induction a using V.ind with
 |h k n s l o ihl iho=>
 have IHL:=qh ihl;have IHO:=qh iho;clear ihl iho
 intro w c ha hw
 cases ha with
 |mk c l o cl co lb lo ob oo cbd hl ho hla hoa hlc hlv hoc hov=>
 have c1:=cbd.l1;have c2:=cbd.l2;have c3:=cbd.o1;have c4:=cbd.o2;have c5:=cbd.s1
 have Hl:=qh hl;have Ho:=qh ho;clear hl ho
 have hst:=Jw w c 29
 have hw0:1+c.s.size+weightL l+weightO o<=4611686018427387904:=by simpa only [V.weight] using hw
 have hdw:=V.deep_lt (V.mk c.k c.n c.s l o)
 have hdd:max (deepL l) (deepO o)<=4611686018427387904:=by simp only [V.deep,V.weight] at hdw;omega
 obtain ⟨W,hW⟩:∃W,V.deep (V.mk c.k c.n c.s l o)=W:=⟨_,rfl⟩
 rw [hW]
 have hW2:max (deepL l) (deepO o)=W:=by simpa only [V.deep] using hW
 have HW:=qh hW2;have HDD:=qh hdd
 clear hW hw hW2 hdw hdd
 go_enter Tryz.func148,Tryz.ntmps148
 go_wp2_with fail
 go_loopw [3,4] (fun t i wr=>∃k:Nat,k<=c.ll/\i= .int .i64 k/\t= .int .i64 ((deepL (l.take k):Nat):Int)/\Boxed1 w wr c) (fun _ i _=>c.ll - (intOf i).toNat)
 case atStart=>exact ⟨0,Nat.zero_le _,rfl,by simp [deepL],hst⟩
 case round=>
  obtain ⟨k,hk,rfl,rfl,hB⟩:=hrel
  clear hst
  have b1:wr.cell? ⟨w.heap.size,3,none⟩=some (.slice c.la c.ll c.lc):=hB.a.c3
  by_cases hlt:k<c.ll
  .obtain ⟨ela,hlb⟩:=hla (by omega)
   have kl:k<l.length:=by rw [<-Hl.out];exact hlt
   have x1:=(hlc k kl).keep hB.below hlb
   rw [ela] at b1
   have r0:=x1.c0;have r1:=x1.c1;have r2:=x1.c2;have r3:=x1.c3;have r4:=x1.c4
   clear ela x1
   have hm:=Qd l k kl
   have hs:=zfr l k kl
   have HS:=qh hs
   have hdl:=V.deep_lt l[k]
   obtain ⟨A,hA⟩:∃A,deepL (l.take k)=A:=⟨_,rfl⟩
   obtain ⟨X,hX⟩:∃X,l[k].deep=X:=⟨_,rfl⟩
   have hAX:X<=4611686018427387904:=by omega
   have ih:=IHL.out _ (List.getElem_mem kl) wr (cl k) ((hlv k kl).later_ hB.below) (by omega)
   rw [hA]
   rw [hX] at ih
   have H:=qh ih
   have HA:=qh hA;have HX:=qh hX
   clear ih hA hX hs hm hdl
   go_wp2_with (go_at_call 148;refine H.out.mono ?_;rintro e w' ⟨rfl,hb⟩)
   go_roundw
   case rel=>exact ⟨k+1,by omega,by go_num,Xq (by rw [HS.out,HA.out,HX.out];omega),hB.step hb⟩
   case measure=>simp [intOf];omega
  .go_wp2_with fail
   go_loopw [3,5] (fun t i wr=>∃k:Nat,k<=c.ol/\i= .int .i64 k/\t= .int .i64 ((max (deepL l) (deepO (o.take k)):Nat):Int)/\Boxed1 w wr c) (fun _ i _=>c.ol - (intOf i).toNat)
   case atStart=>exact ⟨0,Nat.zero_le _,rfl,by rw [List.take_of_length_le (by have:=Hl.out;omega)];simp [deepO],hB⟩
   case round=>
    clear b1 hB hlt hk
    obtain ⟨k2,hk,rfl,rfl,hB⟩:=hrel
    have b1:wr.cell? ⟨w.heap.size,4,none⟩=some (.slice c.oa c.ol c.oc):=hB.a.c4
    by_cases hlt:k2<c.ol
    .obtain ⟨ela,hlb⟩:=hoa (by omega)
     have kl:k2<o.length:=by rw [<-Ho.out];exact hlt
     obtain ⟨g1,ksz,x1⟩:=hoc k2 kl
     have x1:=x1.keep hB.below hlb
     rw [ela] at b1
     have r0:=x1.c0;have r1:=x1.c1;have r2:=x1.c2;have r3:=x1.c3;have r4:=x1.c4
     clear ela x1 g1
     have hm:=Qj o k2 kl
     have hs:=zjp o k2 kl
     have HS:=qh hs
     have hdl:=V.deep_lt o[k2].2
     obtain ⟨A,hA⟩:∃A,max (deepL l) (deepO (o.take k2))=A:=⟨_,rfl⟩
     obtain ⟨X,hX⟩:∃X,o[k2].2.deep=X:=⟨_,rfl⟩
     have hAX:X<=4611686018427387904:=by omega
     have ih:=IHO.out _ (List.getElem_mem kl) wr (co k2) ((hov k2 kl).later_ hB.below) (by omega)
     rw [hA]
     rw [hX] at ih
     have H:=qh ih
     have HA:=qh hA;have HX:=qh hX
     clear ih hA hX hs hm hdl
     go_wp2_with (go_at_call 148;refine H.out.mono ?_;rintro e w' ⟨rfl,hb⟩)
     go_roundw
     case rel=>exact ⟨k2+1,by omega,by go_num,Xq (by rw [HS.out, <-HA.out,HX.out];omega),hB.step hb⟩
     case measure=>simp [intOf];omega
    .go_wp2_with fail
     go_ret
     exact ⟨Q8 (by rw [<-HW.out,List.take_of_length_le (by have:=Ho.out;omega)]),hB.below⟩
def Tabs (w:World):Prop:=Lib.Utf8Tabs 0 1 w
theorem Tabs.below {w w':World} (h:Tabs w) (hb:uB w w'):Tabs w':=Utf8Tabs_below h hb
theorem Yd (s:ByteArray) (w:World) (hs:s.size<=140737488355328) (hT:Tabs w):
 uP 99 #[.string s] w fun e w'=>e= .returned (.bool (Lib.validD s.data.toList))/\uB w w':=
 Tryz.utf8_ValidString s w (by omega) hT
theorem zcc {k n:Int} {s:ByteArray} {l:List V} {o:List (ByteArray×V)} (h:plainB k n s l.length o.length=false):(V.mk k n s l o).sound=false:=by
 simp [V.sound,h]
theorem zlj {n:Int} {s:ByteArray} {ll ol:Nat} (hs:s.toList= []) (hl:ll=0) (ho:ol=0) (hn:n=0):plainB 0 n s ll ol=true:=by simp [plainB,hs,hl,ho,hn]
theorem zlt {n:Int} {s:ByteArray} {ll ol:Nat} (hs:s.toList= []) (hl:ll=0) (ho:ol=0) (hn:n=0∨n=1):plainB 1 n s ll ol=true:=by
 rcases hn with rfl|rfl<;>simp [plainB,hs,hl,ho]
theorem zgi {n:Int} {s:ByteArray} {ll ol:Nat} (hs:s.toList= []) (hl:ll=0) (ho:ol=0):plainB 2 n s ll ol=true:=by simp [plainB,hs,hl,ho]
theorem ze9 {n:Int} {s:ByteArray} {ll ol:Nat} (hs:Lib.validD s.data.toList=true) (hl:ll=0) (ho:ol=0) (hn:n=0):plainB 3 n s ll ol=true:=by simp [plainB,hs,hl,ho,hn]
theorem zk5 {n:Int} {s:ByteArray} {ll ol:Nat} (hs:s.toList= []) (ho:ol=0) (hn:n=0):plainB 4 n s ll ol=true:=by simp [plainB,hs,ho,hn]
theorem zei {n:Int} {s:ByteArray} {ll ol:Nat} (hs:s.toList= []) (hl:ll=0) (hn:n=0):plainB 5 n s ll ol=true:=by simp [plainB,hs,hl,hn]
set_option maxRecDepth 100000 in
theorem zfp (w:World) (c:VC) (hT:Tabs w) (hbd:c.Bnd) (hp:plainB c.k c.n c.s c.ll c.ol=false):
 uP 147 #[.agg (uV c)] w fun e w'=>e= .returned (.bool false)/\uB w w':=by
 delta uV uB uP
 have k0:=hbd.k0
 have l3:=hbd.l3
 have o3:=hbd.o3
 have hsz:=hbd.s1
 obtain ⟨vd,hvd⟩:∃vd,Lib.validD c.s.data.toList=vd:=⟨_,rfl⟩
 have HVD:=qh hvd
 clear hbd hvd
 obtain ⟨k,n,s,la,ll,lc,oa,ol,oc⟩:=c
 dsimp only at*
 have hk:k=0∨k=1∨k=2∨k=3∨k=4∨k=5∨5<k:=by omega
 have H0:=qh hp
 clear hp
 rcases hk with rfl|rfl|rfl|rfl|rfl|rfl|hk
 .go_enter Tryz.func147,Tryz.ntmps147
  go_wp2_with fail
  all_goals first
   |(go_ret;exact ⟨rfl,(Below.refl _ _).alloc (Nat.le_refl _) _⟩)
   |exact absurd (zlj (n:=n) (s:=s) (ll:=ll) (ol:=ol) (by assumption) (by omega) (by omega) (by omega)) (by rw [H0.out];simp)
 .go_enter Tryz.func147,Tryz.ntmps147
  go_wp2_with fail
  all_goals first
   |(go_ret;exact ⟨rfl,(Below.refl _ _).alloc (Nat.le_refl _) _⟩)
   |exact absurd (zlt (n:=n) (s:=s) (ll:=ll) (ol:=ol) (by assumption) (by omega) (by omega) (by omega)) (by rw [H0.out];simp)
 .go_enter Tryz.func147,Tryz.ntmps147
  go_wp2_with fail
  all_goals first
   |(go_ret;exact ⟨rfl,(Below.refl _ _).alloc (Nat.le_refl _) _⟩)
   |exact absurd (zgi (n:=n) (s:=s) (ll:=ll) (ol:=ol) (by assumption) (by omega) (by omega)) (by rw [H0.out];simp)
 .go_enter Tryz.func147,Tryz.ntmps147
  go_wp2_with fail
  all_goals first
   |(go_ret;exact ⟨rfl,(Below.refl _ _).alloc (Nat.le_refl _) _⟩)
   | (have hv:vd=false:=by
       have h:=H0.out
       cases vd with
       |false=>rfl
       |true=>rw [ze9 HVD.out (by omega) (by omega) (by omega)] at h;cases h
      subst hv
      refine (Yd s _ hsz (hT.below ((Below.refl _ _).alloc (Nat.le_refl _) _))).mono ?_
      rintro e w' ⟨rfl,hb⟩
      rw [HVD.out]
      go_wp2_with fail
      go_ret
      exact ⟨rfl,((Below.refl _ _).alloc (Nat.le_refl _) _).trans (hb.mono (by simp))⟩)
 .go_enter Tryz.func147,Tryz.ntmps147
  go_wp2_with fail
  all_goals first
   |(go_ret;exact ⟨rfl,(Below.refl _ _).alloc (Nat.le_refl _) _⟩)
   |exact absurd (zk5 (n:=n) (s:=s) (ll:=ll) (ol:=ol) (by assumption) (by omega) (by omega)) (by rw [H0.out];simp)
 .go_enter Tryz.func147,Tryz.ntmps147
  go_wp2_with fail
  all_goals first
   |(go_ret;exact ⟨rfl,(Below.refl _ _).alloc (Nat.le_refl _) _⟩)
   |exact absurd (zei (n:=n) (s:=s) (ll:=ll) (ol:=ol) (by assumption) (by omega) (by omega)) (by rw [H0.out];simp)
 .go_enter Tryz.func147,Tryz.ntmps147
  go_wp2_with fail
  go_ret
  exact ⟨rfl,(Below.refl _ _).alloc (Nat.le_refl _) _⟩
theorem Kj (x y:List UInt8):Op.bytesLess x y=true∨x=y∨Op.bytesLess y x=true:=by
 simp only [bytesLess_eq,decide_eq_true_eq]
 by_cases h:x<y
 .exact .inl h
 .by_cases h2:y<x
  .exact .inr (.inr h2)
  .exact .inr (.inl (List.le_antisymm h2 h))
theorem Kb (x y:List UInt8) (h:Op.bytesLess x y=true):Op.bytesLess y x=false/\x≠y:=by
 simp only [bytesLess_eq,decide_eq_true_eq,decide_eq_false_iff_not] at h ⊢
 exact ⟨List.lt_asymm h,fun e=>by subst e;exact List.lt_irrefl _ h⟩
theorem zmm {l:List V} {k:Nat} (h:soundL (l.take k)=true) (kl:k<l.length) (e:l[k].sound=true):Hid (soundL (l.take (k+1))=true):=by
 rw [Z2 l k kl]
 show soundL _=true
 rw [Jr] at h ⊢
 intro v hv
 rcases List.mem_append.1 hv with h1|h1
 .exact h v h1
 .rw [List.mem_singleton] at h1;rw [h1];exact e
theorem zgr {l:List V} {k:Nat} (kl:k<l.length) (e:l[k].sound=false):soundL l=false:=by
 cases h:soundL l with
 |false=>rfl
 |true=>rw [Jr] at h;rw [h _ (List.getElem_mem kl)] at e;cases e
theorem zdf {o:List (ByteArray×V)} {k:Nat} (h:soundO (o.take k)=true) (kl:k<o.length) (e1:Lib.validD o[k].1.data.toList=true) (e:o[k].2.sound=true):soundO (o.take (k+1))=true:=by
 rw [Z2 o k kl]
 rw [Jb] at h ⊢
 intro v hv
 rcases List.mem_append.1 hv with h1|h1
 .exact h v h1
 .rw [List.mem_singleton] at h1;rw [h1];exact ⟨e1,e⟩
theorem zaz {o:List (ByteArray×V)} {k:Nat} (kl:k<o.length) (e:Lib.validD o[k].1.data.toList=false∨o[k].2.sound=false):soundO o=false:=by
 cases h:soundO o with
 |false=>rfl
 | true=>
   rw [Jb] at h
   have:=h _ (List.getElem_mem kl)
   rcases e with e|e
   .rw [this.1] at e;cases e
   .rw [this.2] at e;cases e
theorem zbe {o:List (ByteArray×V)} {j:Nat} (h:rising (o.take (j+1))=true) (kl:j+1<o.length) (e:Op.bytesLess o[j].1.toList o[j+1].1.toList=true):rising (o.take (j+1+1))=true:=by
 rw [Q7] at h ⊢
 intro i hi
 simp only [List.length_take] at hi
 simp only [List.getElem_take]
 by_cases hij:i=j
 .subst hij;exact e
 .have:=h i (by simp only [List.length_take];omega)
  simpa only [List.getElem_take] using this
theorem Js {o:List (ByteArray×V)} {j:Nat} (kl:j+1<o.length) (e:Op.bytesLess o[j].1.toList o[j+1].1.toList=false):rising o=false:=by
 cases h:rising o with
 |false=>rfl
 |true=>rw [Q7] at h;rw [h j kl] at e;cases e
theorem zap (o:List (ByteArray×V)):rising (o.take 1)=true:=by
 cases o with
 |nil=>rfl
 |cons f r=>simp [rising]
theorem len0 {α:Type} {l:List α} {n:Nat} (h:n=l.length) (h0:n=0):l= [] :=List.eq_nil_of_length_eq_zero (by omega)
theorem zjr {k n:Int} {s:ByteArray} {ll ol:Nat} (h:plainB k n s ll ol=true):
 (k=0/\n=0/\s.toList= [] /\ll=0/\ol=0)∨(k=1/\(n=0∨n=1)/\s.toList= [] /\ll=0/\ol=0)∨(k=2/\s.toList= [] /\ll=0/\ol=0)∨
 (k=3/\n=0/\Lib.validD s.data.toList=true/\ll=0/\ol=0)∨(k=4/\n=0/\s.toList= [] /\ol=0)∨(k=5/\n=0/\s.toList= [] /\ll=0):=by
 unfold plainB at h
 split at h
 .rename_i hk;simp at h;simp [hk,h]
 .split at h
  .rename_i hk;simp at h;simp [hk,h]
  .split at h
   .rename_i hk;simp at h;simp [hk,h]
   .split at h
    .rename_i hk;simp at h;simp [hk,h]
    .split at h
     .rename_i hk;simp at h;simp [hk,h]
     .split at h
      .rename_i hk;simp at h;simp [hk,h]
      .cases h
theorem Qb {s:ByteArray} (h:s.toList= []):Lib.validD s.data.toList=true:=by
 rw [<-ByteArray.toList_eq,h];exact Lib.validD_nil
set_option maxRecDepth 100000 in
theorem Jk (w:World) (k n:Int) (s:ByteArray) (la:Option Addr) (lc:Nat) (oa:Option Addr) (oc:Nat) (hT:Tabs w) (hsz:s.size<=140737488355328)
 (hp:(k=0/\n=0/\s.toList= [])∨(k=1/\(n=0∨n=1)/\s.toList= [])∨(k=2/\s.toList= [])∨(k=3/\n=0/\Lib.validD s.data.toList=true)):
 uP 147 #[.agg (uU k n s la 0 lc oa 0 oc)] w fun e w'=>e= .returned (.bool true)/\uB w w':=by
 delta uU uB uP
 have hv:Lib.validD s.data.toList=true:=by
  rcases hp with ⟨_,_,h⟩|⟨_,_,h⟩|⟨_,h⟩|⟨_,_,h⟩
  .exact Qb h
  .exact Qb h
  .exact Qb h
  .exact h
 have hc:=fun (W:World) hT=>(Yd s W hsz hT)
 rw [hv] at hc
 have HC:=qh hc
 clear hc hv
 rcases hp with ⟨rfl,rfl,h⟩|⟨rfl,rfl|rfl,h⟩|⟨rfl,h⟩|⟨rfl,rfl,h⟩
 all_goals
  go_enter Tryz.func147,Tryz.ntmps147
  go_wp2_with (go_at_call 99;refine (HC.out _ (hT.below ((Below.refl _ _).alloc (Nat.le_refl _) _))).mono ?_;rintro e w' ⟨rfl,hb⟩;obtain ⟨hc,hf⟩:=Ka hb;have hz:=hb.size;simp only [World.size_alloc] at hz)
  refine wp_loop_rounds 1 ?_
  rw [rounds_succ]
  go_wp2_with fail
  refine wp_loop_rounds 1 ?_
  rw [rounds_succ]
  go_wp2_with fail
  go_ret
  exact ⟨rfl,((Below.refl _ _).alloc (Nat.le_refl _) _).trans (hb.mono (by simp))⟩
set_option maxRecDepth 100000 in
theorem zko (a:V):∀(w:World) (c:VC),IsVal w w.heap.size a c->Tabs w->
 uP 147 #[.agg (uV c)] w fun e w'=>e= .returned (.bool a.sound)/\uB w w':=by
 delta uV uB uP
 induction a using V.ind with
 |h k n s l o ihl iho=>
 have IHL:=qh ihl;have IHO:=qh iho;clear ihl iho
 intro w c ha hT
 cases ha with
 |mk c l o cl co lb lo ob oo cbd hl ho hla hoa hlc hlv hoc hov=>
 have c1:=cbd.l1;have c2:=cbd.l2;have c3:=cbd.o1;have c4:=cbd.o2;have hsz:=cbd.s1
 by_cases hp:plainB c.k c.n c.s c.ll c.ol=true
 case neg=>
  have hp:plainB c.k c.n c.s c.ll c.ol=false:=by simpa using hp
  refine (zfp w c hT cbd hp).mono ?_
  rintro e w' ⟨rfl,hb⟩
  exact ⟨Zc (zcc (by rw [<-hl, <-ho];exact hp)).symm,hb⟩
 have hst:=Jw w c 29
 have hsd:(V.mk c.k c.n c.s l o).sound=(rising o && soundL l && soundO o):=by simp [V.sound, <-hl, <-ho,hp]
 obtain ⟨k,n,s,la,ll,lc,oa,ol,oc⟩:=c
 dsimp only at*
 have Hl:=qh hl;have Ho:=qh ho;clear hl ho
 have hval:=fun (W:World) hT=>(Yd s W hsz hT)
 rcases zjr hp with ⟨h1,h2,h3,h4,h5⟩|⟨h1,h2,h3,h4,h5⟩|⟨h1,h3,h4,h5⟩|⟨h1,h2,h3,h4,h5⟩|⟨h1,h2,h3,h5⟩|⟨h1,h2,h3,h4⟩
 .obtain rfl:l= [] :=len0 Hl.out h4
  obtain rfl:o= [] :=len0 Ho.out h5
  subst h4 h5
  refine (Jk w k n s la lc oa oc hT hsz (.inl ⟨h1,h2,h3⟩)).mono ?_
  rintro e w' ⟨rfl,hb⟩
  exact ⟨Zc (by rw [hsd];rfl),hb⟩
 .obtain rfl:l= [] :=len0 Hl.out h4
  obtain rfl:o= [] :=len0 Ho.out h5
  subst h4 h5
  refine (Jk w k n s la lc oa oc hT hsz (.inr (.inl ⟨h1,h2,h3⟩))).mono ?_
  rintro e w' ⟨rfl,hb⟩
  exact ⟨Zc (by rw [hsd];rfl),hb⟩
 .obtain rfl:l= [] :=len0 Hl.out h4
  obtain rfl:o= [] :=len0 Ho.out h5
  subst h4 h5
  refine (Jk w k n s la lc oa oc hT hsz (.inr (.inr (.inl ⟨h1,h3⟩)))).mono ?_
  rintro e w' ⟨rfl,hb⟩
  exact ⟨Zc (by rw [hsd];rfl),hb⟩
 .obtain rfl:l= [] :=len0 Hl.out h4
  obtain rfl:o= [] :=len0 Ho.out h5
  subst h4 h5
  refine (Jk w k n s la lc oa oc hT hsz (.inr (.inr (.inr ⟨h1,h2,h3⟩)))).mono ?_
  rintro e w' ⟨rfl,hb⟩
  exact ⟨Zc (by rw [hsd];rfl),hb⟩
 .-- a list
  obtain rfl:o= [] :=len0 Ho.out h5
  subst h1 h2 h5
  rw [Qb h3] at hval
  have HC:=qh hval
  have HSD:Hid ((V.mk 4 0 s l []).sound=soundL l):=hsd.trans (by simp [rising,soundO])
  clear hval hp hsd hoc hov hoa
  obtain ⟨W,hW⟩:∃W,(V.mk 4 0 s l []).sound=W:=⟨_,rfl⟩
  rw [hW]
  have HW:=qh hW
  clear hW
  go_enter Tryz.func147,Tryz.ntmps147
  go_wp2_with (go_at_call 99;refine (HC.out _ (hT.below ((Below.refl _ _).alloc (Nat.le_refl _) _))).mono ?_;rintro e w' ⟨rfl,hb⟩;obtain ⟨hc,hf⟩:=Ka hb;have hz:=hb.size;simp only [World.size_alloc] at hz)
  have hB0:=hst.step hb
  clear hst hb hc hf hz
  go_loopw [3] (fun i wr=>∃k:Nat,k<=ll/\i= .int .i64 k/\Hid (soundL (l.take k)=true)/\Boxed1 w wr ⟨4,0,s,la,ll,lc,oa,0,oc⟩) (fun i _=>ll - (intOf i).toNat)
  case atStart=>exact ⟨0,Nat.zero_le _,rfl,by rfl,hB0⟩
  case round=>
   clear hB0
   obtain ⟨k,hk,rfl,HJ,hB⟩:=hrel
   have b1:wr.cell? ⟨w.heap.size,3,none⟩=some (.slice la ll lc):=hB.a.c3
   by_cases hlt:k<ll
   .obtain ⟨ela,hlb⟩:=hla (by omega)
    have kl:k<l.length:=by rw [<-Hl.out];exact hlt
    have x1:=(hlc k kl).keep hB.below hlb
    rw [ela] at b1
    have r0:=x1.c0;have r1:=x1.c1;have r2:=x1.c2;have r3:=x1.c3;have r4:=x1.c4
    clear ela x1
    have ih:=IHL.out _ (List.getElem_mem kl) wr (cl k) ((hlv k kl).later_ hB.below) (hT.below hB.below)
    cases hx:l[k].sound with
    | true=>
      rw [hx] at ih
      have HX:=qh hx
      have H:=qh ih
      clear ih hx
      go_wp2_with (go_at_call 147;refine H.out.mono ?_;rintro e w' ⟨rfl,hb⟩)
      go_roundw
      case rel=>exact ⟨k+1,by omega,by go_num,zmm HJ.out kl HX.out,hB.step hb⟩
      case measure=>simp [intOf];omega
    | false=>
      rw [hx] at ih
      have HX:=qh hx
      have H:=qh ih
      clear ih hx
      go_wp2_with (go_at_call 147;refine H.out.mono ?_;rintro e w' ⟨rfl,hb⟩)
      go_ret
      exact ⟨Zc (by rw [<-HW.out,HSD.out,zgr kl HX.out]),(hB.step hb).below⟩
   .have b2:wr.cell? ⟨w.heap.size,4,none⟩=some (.slice oa 0 oc):=hB.a.c4
    go_wp2_with fail
    refine wp_loop_rounds 1 ?_
    rw [rounds_succ]
    go_wp2_with fail
    go_ret
    exact ⟨Zc (by rw [<-HW.out,HSD.out, <-HJ.out,List.take_of_length_le (by have:=Hl.out;omega)]),hB.below⟩
 .-- an object
  obtain rfl:l= [] :=len0 Hl.out h4
  subst h1 h2 h4
  rw [Qb h3] at hval
  have HC:=qh hval
  have HSD:Hid ((V.mk 5 0 s [] o).sound=(rising o && soundO o)):=hsd.trans (by simp [soundL])
  clear hval hp hsd hlc hlv hla
  obtain ⟨W,hW⟩:∃W,(V.mk 5 0 s [] o).sound=W:=⟨_,rfl⟩
  rw [hW]
  have HW:=qh hW
  clear hW
  go_enter Tryz.func147,Tryz.ntmps147
  go_wp2_with (go_at_call 99;refine (HC.out _ (hT.below ((Below.refl _ _).alloc (Nat.le_refl _) _))).mono ?_;rintro e w' ⟨rfl,hb⟩;obtain ⟨hc,hf⟩:=Ka hb;have hz:=hb.size;simp only [World.size_alloc] at hz)
  have hB0:=hst.step hb
  clear hst hb
  refine wp_loop_rounds 1 ?_
  rw [rounds_succ]
  go_wp2_with fail
  clear hc hf hz
  go_loopw [5] (fun i wr=>∃k:Nat,k<=ol/\i= .int .i64 k/\Hid (soundO (o.take k)=true/\rising (o.take k)=true)/\Boxed1 w wr ⟨5,0,s,la,0,lc,oa,ol,oc⟩) (fun i _=>ol - (intOf i).toNat)
  case atStart=>exact ⟨0,Nat.zero_le _,rfl,⟨by rfl,by rfl⟩,hB0⟩
  case round =>
   clear hB0
   obtain ⟨k,hk,hi,HJ,hB⟩:=hrel
   have b1:wr.cell? ⟨w.heap.size,4,none⟩=some (.slice oa ol oc):=hB.a.c4
   by_cases hlt:k<ol
   .obtain ⟨ela,hlb⟩:=hoa (by omega)
    have kl:k<o.length:=by rw [<-Ho.out];exact hlt
    obtain ⟨g1,ksz,x1⟩:=hoc k kl
    have x1:=x1.keep hB.below hlb
    have g1:=Zb hB.below g1 hlb
    have hval:=fun (W:World) hT=>(Yd o[k].1 W ksz hT)
    have q1:=Za b1
    rw [ela] at b1 q1
    have r0:=x1.c0;have r1:=x1.c1;have r2:=x1.c2;have r3:=x1.c3;have r4:=x1.c4
    have ih:=IHO.out _ (List.getElem_mem kl) wr (co k) ((hov k kl).later_ hB.below) (hT.below hB.below)
    cases hx:o[k].2.sound with
    | false=>
      rw [hx] at ih
      have HX:=qh hx
      have H:=qh ih
      clear ih hx ela x1 hval q1 g1
      subst hi
      go_wp2_with (go_at_call 147;refine H.out.mono ?_;rintro e w' ⟨rfl,hb⟩)
      refine Zh (by kernel_rfl) (by kernel_rfl) ?_
      repeat (go_big_quiet_step (fail))
      refine wpQuiet_nil ?_
      intro _ hw'
      obtain ⟨pq,hw''⟩:=hw'
      subst hw''
      go_wp2_with fail
      go_ret
      exact ⟨Zc (by rw [<-HW.out,HSD.out,zaz kl (.inr HX.out)];simp),((hB.step hb).step (Zd _ _)).below⟩
    | true =>
      rw [hx] at ih
      have HX:=qh hx
      have H:=qh ih
      clear ih hx x1 ela
      cases hv:Lib.validD o[k].1.data.toList with
      | false=>
        rw [hv] at hval
        have HV:=qh hv
        have HVC:=qh hval
        clear hv hval
        subst hi
        go_wp2_with (go_at_call 147;refine H.out.mono ?_;rintro e w' ⟨rfl,hb⟩)
        have q2:=Za (Zb hb b1 (by have:=hB.size;omega))
        have t1:=Za (Zb hb g1 (by have:=hB.below.size;omega))
        clear q1
        refine Zh (by kernel_rfl) (by kernel_rfl) ?_
        repeat (go_big_quiet_step (((go_at_call 99;exact Zg (HVC.out _ (hT.below ((hB.step hb).below.trans ((Zd _ _).mono (by have:=(hB.step hb).size;omega)))))))))
        refine wpQuiet_nil ?_
        intro _ hw'
        obtain ⟨pq,hw''⟩:=hw'
        subst hw''
        go_wp2_with fail
        go_ret
        exact ⟨Zc (by rw [<-HW.out,HSD.out,zaz kl (.inl HV.out)];simp),((hB.step hb).step (Zd _ _)).below⟩
      | true =>
        rw [hv] at hval
        have HV:=qh hv
        have HVC:=qh hval
        clear hv hval
        rcases k with _|j
        .subst hi
         clear hoa
         go_wp2_with (go_at_call 147;refine H.out.mono ?_;rintro e w' ⟨rfl,hb⟩)
         have q2:=Za (Zb hb b1 (by have:=hB.size;omega))
         have t1:=Za (Zb hb g1 (by have:=hB.below.size;omega))
         simp only [Nat.zero_mul,Nat.add_zero] at t1
         clear q1
         refine Zh (by kernel_rfl) (by kernel_rfl) ?_
         repeat (go_big_quiet_step (((go_at_call 99;exact Zg (HVC.out _ (hT.below ((hB.step hb).below.trans ((Zd _ _).mono (by have:=(hB.step hb).size;omega)))))))))
         refine wpQuiet_nil ?_
         intro _ hw'
         obtain ⟨pq,hw''⟩:=hw'
         subst hw''
         go_wp2_with fail
         go_roundw
         case rel=>exact ⟨1,by omega,by go_num,⟨zdf HJ.out.1 kl HV.out HX.out,zap o⟩,(hB.step hb).step (Zd _ _)⟩
         case measure=>simp [intOf];omega
        .have hi2:=hi.trans (show Value.int .i64 ((j+1:Nat):Int)= .int .i64 ((j:Int)+1) by go_num)
         clear hi
         subst hi2
         have jl:j<o.length:=by omega
         obtain ⟨g2,_,_⟩:=hoc j jl
         have g2:=Zb hB.below g2 hlb
         go_wp2_with (go_at_call 147;refine H.out.mono ?_;rintro e w' ⟨rfl,hb⟩)
         have q2:=Za (Zb hb b1 (by have:=hB.size;omega))
         have t1:=Za (Zb hb g1 (by have:=hB.below.size;omega))
         have t2:=Za (Zb hb g2 (by have:=hB.below.size;omega))
         clear q1 g1 g2 r0 r1 r2 r3 r4
         by_cases hr:Op.bytesLess o[j].1.toList o[j+1].1.toList=true
         .obtain ⟨a1,a2⟩:=Kb _ _ hr
          have a3:(o[j+1].1.toList==o[j].1.toList)=false:=by simp [Ne.symm a2]
          have HR:=qh hr
          clear hr a2
          refine Zh (by kernel_rfl) (by kernel_rfl) ?_
          repeat (go_big_quiet_step (((go_at_call 99;exact Zg (HVC.out _ (hT.below ((hB.step hb).below.trans ((Zd _ _).mono (by have:=(hB.step hb).size;omega)))))))))
          refine wpQuiet_nil ?_
          intro _ hw'
          obtain ⟨pq,hw''⟩:=hw'
          subst hw''
          clear q2 t1 t2 a1 a3
          go_wp2_with fail
          go_roundw
          case rel=>exact ⟨j+1+1,by omega,by go_num,⟨zdf HJ.out.1 kl HV.out HX.out,zbe HJ.out.2 kl HR.out⟩,(hB.step hb).step (Zd _ _)⟩
          case measure=>simp [intOf];omega
         .have hr:Op.bytesLess o[j].1.toList o[j+1].1.toList=false:=by simpa using hr
          have HR:=qh hr
          have a1:Op.bytesLess o[j+1].1.toList o[j].1.toList=true∨(Op.bytesLess o[j+1].1.toList o[j].1.toList=false/\o[j+1].1.toList=o[j].1.toList):=by
           rcases Kj o[j+1].1.toList o[j].1.toList with h|h|h
           .exact .inl h
           .cases hq:Op.bytesLess o[j+1].1.toList o[j].1.toList with
            |true=>exact .inl rfl
            |false=>exact .inr ⟨rfl,h⟩
           .rw [hr] at h;cases h
          clear hr
          rcases a1 with a1|⟨a1,a2⟩
          .refine Zh (by kernel_rfl) (by kernel_rfl) ?_
           repeat (go_big_quiet_step (((go_at_call 99;exact Zg (HVC.out _ (hT.below ((hB.step hb).below.trans ((Zd _ _).mono (by have:=(hB.step hb).size;omega)))))))))
           refine wpQuiet_nil ?_
           intro _ hw'
           obtain ⟨pq,hw''⟩:=hw'
           subst hw''
           clear q2 t1 t2 a1
           go_wp2_with fail
           go_ret
           exact ⟨Zc (by rw [<-HW.out,HSD.out,Js kl HR.out];simp),((hB.step hb).step (Zd _ _)).below⟩
          .have a3:(o[j+1].1.toList==o[j].1.toList)=true:=by rw [a2];simp
           clear a2
           refine Zh (by kernel_rfl) (by kernel_rfl) ?_
           repeat (go_big_quiet_step (((go_at_call 99;exact Zg (HVC.out _ (hT.below ((hB.step hb).below.trans ((Zd _ _).mono (by have:=(hB.step hb).size;omega)))))))))
           refine wpQuiet_nil ?_
           intro _ hw'
           obtain ⟨pq,hw''⟩:=hw'
           subst hw''
           clear q2 t1 t2 a1 a3
           go_wp2_with fail
           go_ret
           exact ⟨Zc (by rw [<-HW.out,HSD.out,Js kl HR.out];simp),((hB.step hb).step (Zd _ _)).below⟩
   .subst hi
    go_wp2_with fail
    go_ret
    refine ⟨Zc ?_,hB.below⟩
    have hjo:=HJ.out
    rw [List.take_of_length_le (by have:=Ho.out;omega)] at hjo
    rw [<-HW.out,HSD.out,hjo.1,hjo.2]
    rfl
end Go.Proofs.YtbgheehjfnoiiaaGreatDoor
