/-
  Contracts of the functions that the law reaches: DERIVED: THE SHELF's CONTRACTS AT THIS.
-/
import Derived.Test.YtnjgbiachcfigaaGreatDoorCt10
import Derived.Test.YtnjgbiachcfigaaGreatDoorCt11
import Derived.Ground.NamesProg
import Derived.Shelf.Unicode.ValidAny
import Derived.Shelf.Utf8.RuneCount
namespace Go.Proofs
open Go.Shelf
def Tryz.lays196_ren:Go.Shelf.Ren:=⟨fun|196=>52|259=>90|n=>n,fun|9=>9|4=>4|3=>3|5=>5|12=>12|119=>126|0=>0|46=>130|139=>129|138=>128|53=>158|n=>n,fun|3=>0|4=>1|n=>n⟩
theorem Tryz.lays196:Go.Proofs.Lays.n196 Tryz.prog Tryz.lays196_ren:= {
 mixed:=by kernel_rfl
 f196:=Tryz.func52.trans (congrArg some (by kernel_rfl))
 f259:=Tryz.func90.trans (congrArg some (by kernel_rfl))
 t0:=Tryz.underlying0
 a0:=Tryz.isAgg0
 z0:=Tryz.sizeOf0
 v0:=Tryz.zeroValue0
 t3:=Tryz.underlying3
 a3:=Tryz.isAgg3
 z3:=Tryz.sizeOf3
 v3:=Tryz.zeroValue3
 t4:=Tryz.underlying4
 a4:=Tryz.isAgg4
 z4:=Tryz.sizeOf4
 v4:=Tryz.zeroValue4
 t5:=Tryz.underlying5
 a5:=Tryz.isAgg5
 z5:=Tryz.sizeOf5
 v5:=Tryz.zeroValue5
 t9:=Tryz.underlying9
 a9:=Tryz.isAgg9
 z9:=Tryz.sizeOf9
 v9:=Tryz.zeroValue9
 t12:=Tryz.underlying12
 a12:=Tryz.isAgg12
 z12:=Tryz.sizeOf12
 v12:=Tryz.zeroValue12
 t46:=Tryz.underlying130
 a46:=Tryz.isAgg130
 z46:=Tryz.sizeOf130
 v46:=Tryz.zeroValue130
 t53:=Tryz.underlying158
 a53:=Tryz.isAgg158
 z53:=Tryz.sizeOf158
 v53:=Tryz.zeroValue158
 t119:=Tryz.underlying126
 a119:=Tryz.isAgg126
 z119:=Tryz.sizeOf126
 t138:=Tryz.underlying128
 a138:=Tryz.isAgg128
 z138:=Tryz.sizeOf128
 v138:=Tryz.zeroValue128
 t139:=Tryz.underlying129
 a139:=Tryz.isAgg129
 z139:=Tryz.sizeOf129
 v139:=Tryz.zeroValue129
 g3:=by kernel_rfl
 g4:=by kernel_rfl }
open Go.RowKit Go.Lib in
theorem Tryz.utf8_ValidString (s:ByteArray) (w:World) (hs:s.size<=9223372036854775807) (hT:Lib.Utf8Tabs 0 1 w):
 Calls Tryz.prog 52 #[.string s] w fun e w'=>e= .returned (.bool (Lib.validD s.data.toList))/\Below w.heap.size w w':=Any.utf8_ValidString Tryz.lays196 s w hs hT
def Tryz.lays197_ren:Go.Shelf.Ren:=⟨fun|197=>125|260=>138|n=>n,fun|9=>9|21=>21|3=>3|4=>4|5=>5|105=>156|119=>126|0=>0|46=>130|139=>129|138=>128|n=>n,fun|3=>0|4=>1|n=>n⟩
theorem Tryz.lays197:Go.Proofs.Lays.n197 Tryz.prog Tryz.lays197_ren:= {
 mixed:=by kernel_rfl
 f197:=Tryz.func125.trans (congrArg some (by kernel_rfl))
 f260:=Tryz.func138.trans (congrArg some (by kernel_rfl))
 t0:=Tryz.underlying0
 a0:=Tryz.isAgg0
 z0:=Tryz.sizeOf0
 v0:=Tryz.zeroValue0
 t3:=Tryz.underlying3
 a3:=Tryz.isAgg3
 z3:=Tryz.sizeOf3
 v3:=Tryz.zeroValue3
 t4:=Tryz.underlying4
 a4:=Tryz.isAgg4
 z4:=Tryz.sizeOf4
 v4:=Tryz.zeroValue4
 t5:=Tryz.underlying5
 a5:=Tryz.isAgg5
 z5:=Tryz.sizeOf5
 v5:=Tryz.zeroValue5
 t9:=Tryz.underlying9
 a9:=Tryz.isAgg9
 z9:=Tryz.sizeOf9
 v9:=Tryz.zeroValue9
 t21:=Tryz.underlying21
 a21:=Tryz.isAgg21
 z21:=Tryz.sizeOf21
 v21:=Tryz.zeroValue21
 t46:=Tryz.underlying130
 a46:=Tryz.isAgg130
 z46:=Tryz.sizeOf130
 v46:=Tryz.zeroValue130
 t105:=Tryz.underlying156
 a105:=Tryz.isAgg156
 z105:=Tryz.sizeOf156
 v105:=Tryz.zeroValue156
 t119:=Tryz.underlying126
 a119:=Tryz.isAgg126
 z119:=Tryz.sizeOf126
 t138:=Tryz.underlying128
 a138:=Tryz.isAgg128
 z138:=Tryz.sizeOf128
 v138:=Tryz.zeroValue128
 t139:=Tryz.underlying129
 a139:=Tryz.isAgg129
 z139:=Tryz.sizeOf129
 v139:=Tryz.zeroValue129
 g3:=by kernel_rfl
 g4:=by kernel_rfl }
open Go.RowKit Go.Lib in
theorem Tryz.utf8_DecodeRuneInString (s:ByteArray) (w:World) (hT:Lib.Utf8Tabs 0 1 w):
 Calls Tryz.prog 125 #[.string s] w fun e w'=>e= .returned (.tuple #[.int .i32 (Lib.decodeGo s).1, .int .i64 (Lib.decodeGo s).2])/\Below w.heap.size w w':=Any.utf8_DecodeRuneInString Tryz.lays197 s w hT
def Tryz.lays195_ren:Go.Shelf.Ren:=⟨fun|195=>132|n=>n,fun|9=>9|3=>3|0=>0|4=>4|n=>n,fun|n=>n⟩
theorem Tryz.lays195:Go.Proofs.Lays.n195 Tryz.prog Tryz.lays195_ren:= {
 mixed:=by kernel_rfl
 f195:=Tryz.func132.trans (congrArg some (by kernel_rfl))
 t0:=Tryz.underlying0
 a0:=Tryz.isAgg0
 z0:=Tryz.sizeOf0
 v0:=Tryz.zeroValue0
 t3:=Tryz.underlying3
 a3:=Tryz.isAgg3
 z3:=Tryz.sizeOf3
 v3:=Tryz.zeroValue3
 t4:=Tryz.underlying4
 a4:=Tryz.isAgg4
 z4:=Tryz.sizeOf4
 v4:=Tryz.zeroValue4
 t9:=Tryz.underlying9
 a9:=Tryz.isAgg9
 z9:=Tryz.sizeOf9
 v9:=Tryz.zeroValue9 }
open Go.RowKit Go.Lib in
theorem Tryz.utf8_RuneCountInString (s:ByteArray) (w:World) (hs:s.size<9223372036854775807):
 Calls Tryz.prog 132 #[.string s] w fun e w'=>e= .returned (.int .i64 (Lib.runeCount s))/\∃pos,w'=w.iter s pos:=Any.utf8_RuneCountInString Tryz.lays195 s w hs
end Go.Proofs
namespace Go.Proofs.YtnjgbiachcfigaaGreatDoor
open Go.RowKit
set_option maxHeartbeats 4000000
structure Boxed1 (w wr:World) (c:VC):Prop where
 a:ValAt wr w.heap.size 0 c
 below:Below w.heap.size w wr
 size:w.heap.size+1<=wr.heap.size
theorem Jj (w:World) (c:VC) (t:TypeId):Boxed1 w (w.alloc (.cells #[.int .u8 c.k, .int .i64 c.n, .string c.s, .slice c.la c.ll c.lc, .slice c.oa c.ol c.oc] t)) c:=
 ⟨Ym w c t,(Below.refl _ _).alloc (Nat.le_refl _) _,by simp⟩
theorem Boxed1.step {w wr w':World} {c:VC} (h:Boxed1 w wr c) (hb:Below wr.heap.size wr w'):Boxed1 w w' c:=
 ⟨h.a.keep hb (by have:=h.size;omega),h.below.trans (hb.mono (by have:=h.size;omega)),by have:=h.size;have:=hb.size;omega⟩
set_option maxRecDepth 100000 in
theorem zj1 (a:V):∀(w:World) (c:VC),IsVal w w.heap.size a c->a.weight<=4611686018427387904->
 Calls Tryz.prog 110 #[.agg #[.int .u8 c.k, .int .i64 c.n, .string c.s, .slice c.la c.ll c.lc, .slice c.oa c.ol c.oc]] w fun e w'=>e= .returned (.int .i64 a.weight)/\Below w.heap.size w w':=by
 induction a using V.ind with
 |h k n s l o ihl iho=>
 have IHL:=qh ihl;have IHO:=qh iho;clear ihl iho
 intro w c ha hw
 cases ha with
 |mk c l o cl co lb lo ob oo cbd hl ho hla hoa hlc hlv hoc hov=>
 have c1:=cbd.l1;have c2:=cbd.l2;have c3:=cbd.o1;have c4:=cbd.o2;have c5:=cbd.s1
 have Hl:=qh hl;have Ho:=qh ho;clear hl ho
 have hst:=Jj w c 36
 have hw0:1+c.s.size+weightL l+weightO o<=4611686018427387904:=by simpa only [V.weight] using hw
 obtain ⟨W,hW⟩:∃W,V.weight (V.mk c.k c.n c.s l o)=W:=⟨_,rfl⟩
 rw [hW]
 have hW2:1+c.s.size+weightL l+weightO o=W:=by simpa only [V.weight] using hW
 have HW:=qh hW2
 clear hW hw hW2
 go_enter Tryz.func110,Tryz.ntmps110
 go_wp2_with fail
 go_loopw [3,4] (fun t i wr=>∃k:Nat,k<=c.ll/\i= .int .i64 k/\t= .int .i64 ((1+c.s.size+weightL (l.take k):Nat):Int)/\Boxed1 w wr c) (fun _ i _=>c.ll - (intOf i).toNat)
 case atStart=>exact ⟨0,Nat.zero_le _,rfl,by simp [weightL],hst⟩
 case round=>
  obtain ⟨k,hk,rfl,rfl,hB⟩:=hrel
  clear hst
  have b1:wr.cell? ⟨w.heap.size,3,none⟩=some (.slice c.la c.ll c.lc):=hB.a.c3
  have hle:=J8 l k
  by_cases hlt:k<c.ll
  .obtain ⟨ela,hlb⟩:=hla (by omega)
   have kl:k<l.length:=by rw [<-Hl.out];exact hlt
   have x1:=(hlc k kl).keep hB.below hlb
   rw [ela] at b1
   have r0:=x1.c0;have r1:=x1.c1;have r2:=x1.c2;have r3:=x1.c3;have r4:=x1.c4
   clear ela x1
   have hm:=Qh l k kl
   have hs:=zaf l k kl
   have hle2:=J8 l (k+1)
   have HS:=qh hs
   obtain ⟨A,hA⟩:∃A,1+c.s.size+weightL (l.take k)=A:=⟨_,rfl⟩
   obtain ⟨X,hX⟩:∃X,l[k].weight=X:=⟨_,rfl⟩
   have hAX:A+X<=4611686018427387904:=by omega
   have ih:=IHL.out _ (List.getElem_mem kl) wr (cl k) ((hlv k kl).later_ hB.below) (by omega)
   rw [hA]
   rw [hX] at ih
   have H:=qh ih
   have HA:=qh hA;have HX:=qh hX
   clear ih hA hX hs hm hle hle2
   go_wp2_with (go_at_call 110;refine H.out.mono ?_;rintro e w' ⟨rfl,hb⟩)
   go_roundw
   case rel=>exact ⟨k+1,by omega,by go_num,by rw [HS.out, <-Nat.add_assoc,HA.out,HX.out];go_num,hB.step hb⟩
   case measure=>simp [intOf];omega
  .go_wp2_with fail
   go_loopw [3,5] (fun t i wr=>∃k:Nat,k<=c.ol/\i= .int .i64 k/\t= .int .i64 ((1+c.s.size+weightL l+weightO (o.take k):Nat):Int)/\Boxed1 w wr c) (fun _ i _=>c.ol - (intOf i).toNat)
   case atStart=>exact ⟨0,Nat.zero_le _,rfl,by rw [List.take_of_length_le (by have:=Hl.out;omega)];simp [weightO],hB⟩
   case round=>
    clear b1 hB hle hlt hk
    obtain ⟨k2,hk,rfl,rfl,hB⟩:=hrel
    have b1:wr.cell? ⟨w.heap.size,4,none⟩=some (.slice c.oa c.ol c.oc):=hB.a.c4
    have hle:=Jp o k2
    by_cases hlt:k2<c.ol
    .obtain ⟨ela,hlb⟩:=hoa (by omega)
     have kl:k2<o.length:=by rw [<-Ho.out];exact hlt
     obtain ⟨g1,ksz,x1⟩:=hoc k2 kl
     have x1:=x1.keep hB.below hlb
     have g1:=Zb hB.below g1 hlb
     have q1:=Za b1
     rw [ela] at q1
     have r0:=Za x1.c0;have r1:=Za x1.c1;have r2:=Za x1.c2;have r3:=Za x1.c3;have r4:=Za x1.c4
     have t1:=Za g1
     clear ela x1 g1
     have hm:=Qi o k2 kl
     have hs:=zbl o k2 kl
     have hle2:=Jp o (k2+1)
     have HS:=qh hs
     obtain ⟨A,hA⟩:∃A,1+c.s.size+weightL l+weightO (o.take k2)=A:=⟨_,rfl⟩
     obtain ⟨X,hX⟩:∃X,o[k2].2.weight=X:=⟨_,rfl⟩
     obtain ⟨Y,hY⟩:∃Y,o[k2].1=Y:=⟨_,rfl⟩
     have hAX:A+(Y.size+X)<=4611686018427387904:=by rw [<-hA, <-hX, <-hY];omega
     have ih:=fun p=>IHO.out _ (List.getElem_mem kl) (later wr p) (co k2) (((hov k2 kl).later_ hB.below).later_ (Zd _ _)) (by rw [hX];omega)
     rw [hA]
     rw [hX] at ih
     rw [hY] at t1 ksz
     have H:=qh ih
     have HA:=qh hA;have HX:=qh hX;have HY:=qh hY
     clear ih hA hX hY hs hm hle hle2
     have e1:IntKind.i64.wrap ((Y.size:Int)+(X:Int))=(Y.size:Int)+(X:Int):=IntWalk.i64_in _ (by omega)
     have e2:IntKind.i64.wrap ((A:Int)+((Y.size:Int)+(X:Int)))=(A:Int)+((Y.size:Int)+(X:Int)):=IntWalk.i64_in _ (by omega)
     go_wp2_with fail
     refine Zk (by kernel_rfl) (by kernel_rfl) ?_
     repeat (go_big_quiet_step (((go_at_call 110;exact Zg (H.out _)))))
     refine wpQuiet_nil ?_
     intro _ hw'
     obtain ⟨pq,hw''⟩:=hw'
     subst hw''
     clear e1 e2 r0 r1 r2 r3 r4 t1 q1 b1
     go_wp2_with fail
     go_roundw
     case rel=>exact ⟨k2+1,by omega,by go_num,by rw [HS.out, <-Nat.add_assoc,HA.out,HX.out,HY.out];go_num,hB.step (Zd wr pq)⟩
     case measure=>simp [intOf];omega
    .go_wp2_with fail
     go_ret
     exact ⟨Qz (by rw [<-HW.out,List.take_of_length_le (by have:=Ho.out;omega)]),hB.below⟩
set_option maxRecDepth 100000 in
theorem zgq (a:V):∀(w:World) (c:VC),IsVal w w.heap.size a c->a.weight<=4611686018427387904->
 Calls Tryz.prog 109 #[.agg #[.int .u8 c.k, .int .i64 c.n, .string c.s, .slice c.la c.ll c.lc, .slice c.oa c.ol c.oc]] w fun e w'=>e= .returned (.int .i64 a.deep)/\Below w.heap.size w w':=by
 induction a using V.ind with
 |h k n s l o ihl iho=>
 have IHL:=qh ihl;have IHO:=qh iho;clear ihl iho
 intro w c ha hw
 cases ha with
 |mk c l o cl co lb lo ob oo cbd hl ho hla hoa hlc hlv hoc hov=>
 have c1:=cbd.l1;have c2:=cbd.l2;have c3:=cbd.o1;have c4:=cbd.o2;have c5:=cbd.s1
 have Hl:=qh hl;have Ho:=qh ho;clear hl ho
 have hst:=Jj w c 36
 have hw0:1+c.s.size+weightL l+weightO o<=4611686018427387904:=by simpa only [V.weight] using hw
 have hdw:=V.deep_lt (V.mk c.k c.n c.s l o)
 have hdd:max (deepL l) (deepO o)<=4611686018427387904:=by simp only [V.deep,V.weight] at hdw;omega
 obtain ⟨W,hW⟩:∃W,V.deep (V.mk c.k c.n c.s l o)=W:=⟨_,rfl⟩
 rw [hW]
 have hW2:max (deepL l) (deepO o)=W:=by simpa only [V.deep] using hW
 have HW:=qh hW2;have HDD:=qh hdd
 clear hW hw hW2 hdw hdd
 go_enter Tryz.func109,Tryz.ntmps109
 go_wp2_with fail
 go_loopw [3,4] (fun t i wr=>∃k:Nat,k<=c.ll/\i= .int .i64 k/\t= .int .i64 ((deepL (l.take k):Nat):Int)/\Boxed1 w wr c) (fun _ i _=>c.ll - (intOf i).toNat)
 case atStart=>exact ⟨0,Nat.zero_le _,rfl,by simp [deepL],hst⟩
 case round=>
  obtain ⟨k,hk,rfl,rfl,hB⟩:=hrel
  clear hst
  have b1:wr.cell? ⟨w.heap.size,3,none⟩=some (.slice c.la c.ll c.lc):=hB.a.c3
  by_cases hlt:k<c.ll
  .obtain ⟨ela,hlb⟩:=hla (by omega)
   have kl:k<l.length:=by rw [<-Hl.out];exact hlt
   have x1:=(hlc k kl).keep hB.below hlb
   rw [ela] at b1
   have r0:=x1.c0;have r1:=x1.c1;have r2:=x1.c2;have r3:=x1.c3;have r4:=x1.c4
   clear ela x1
   have hm:=Qh l k kl
   have hs:=zet l k kl
   have HS:=qh hs
   have hdl:=V.deep_lt l[k]
   obtain ⟨A,hA⟩:∃A,deepL (l.take k)=A:=⟨_,rfl⟩
   obtain ⟨X,hX⟩:∃X,l[k].deep=X:=⟨_,rfl⟩
   have hAX:X<=4611686018427387904:=by omega
   have ih:=IHL.out _ (List.getElem_mem kl) wr (cl k) ((hlv k kl).later_ hB.below) (by omega)
   rw [hA]
   rw [hX] at ih
   have H:=qh ih
   have HA:=qh hA;have HX:=qh hX
   clear ih hA hX hs hm hdl
   go_wp2_with (go_at_call 109;refine H.out.mono ?_;rintro e w' ⟨rfl,hb⟩)
   go_roundw
   case rel=>exact ⟨k+1,by omega,by go_num,X2 (by rw [HS.out,HA.out,HX.out];omega),hB.step hb⟩
   case measure=>simp [intOf];omega
  .go_wp2_with fail
   go_loopw [3,5] (fun t i wr=>∃k:Nat,k<=c.ol/\i= .int .i64 k/\t= .int .i64 ((max (deepL l) (deepO (o.take k)):Nat):Int)/\Boxed1 w wr c) (fun _ i _=>c.ol - (intOf i).toNat)
   case atStart=>exact ⟨0,Nat.zero_le _,rfl,by rw [List.take_of_length_le (by have:=Hl.out;omega)];simp [deepO],hB⟩
   case round=>
    clear b1 hB hlt hk
    obtain ⟨k2,hk,rfl,rfl,hB⟩:=hrel
    have b1:wr.cell? ⟨w.heap.size,4,none⟩=some (.slice c.oa c.ol c.oc):=hB.a.c4
    by_cases hlt:k2<c.ol
    .obtain ⟨ela,hlb⟩:=hoa (by omega)
     have kl:k2<o.length:=by rw [<-Ho.out];exact hlt
     obtain ⟨g1,ksz,x1⟩:=hoc k2 kl
     have x1:=x1.keep hB.below hlb
     rw [ela] at b1
     have r0:=x1.c0;have r1:=x1.c1;have r2:=x1.c2;have r3:=x1.c3;have r4:=x1.c4
     clear ela x1 g1
     have hm:=Qi o k2 kl
     have hs:=zjm o k2 kl
     have HS:=qh hs
     have hdl:=V.deep_lt o[k2].2
     obtain ⟨A,hA⟩:∃A,max (deepL l) (deepO (o.take k2))=A:=⟨_,rfl⟩
     obtain ⟨X,hX⟩:∃X,o[k2].2.deep=X:=⟨_,rfl⟩
     have hAX:X<=4611686018427387904:=by omega
     have ih:=IHO.out _ (List.getElem_mem kl) wr (co k2) ((hov k2 kl).later_ hB.below) (by omega)
     rw [hA]
     rw [hX] at ih
     have H:=qh ih
     have HA:=qh hA;have HX:=qh hX
     clear ih hA hX hs hm hdl
     go_wp2_with (go_at_call 109;refine H.out.mono ?_;rintro e w' ⟨rfl,hb⟩)
     go_roundw
     case rel=>exact ⟨k2+1,by omega,by go_num,X2 (by rw [HS.out, <-HA.out,HX.out];omega),hB.step hb⟩
     case measure=>simp [intOf];omega
    .go_wp2_with fail
     go_ret
     exact ⟨Qz (by rw [<-HW.out,List.take_of_length_le (by have:=Ho.out;omega)]),hB.below⟩
def Tabs (w:World):Prop:=Lib.Utf8Tabs 0 1 w
theorem Tabs.below {w w':World} (h:Tabs w) (hb:Below w.heap.size w w'):Tabs w':=Utf8Tabs_below h hb
theorem Yb (s:ByteArray) (w:World) (hs:s.size<=140737488355328) (hT:Tabs w):
 Calls Tryz.prog 52 #[.string s] w fun e w'=>e= .returned (.bool (Lib.validD s.data.toList))/\Below w.heap.size w w':=
 Tryz.utf8_ValidString s w (by omega) hT
theorem zae {k n:Int} {s:ByteArray} {l:List V} {o:List (ByteArray×V)} (h:plainB k n s l.length o.length=false):(V.mk k n s l o).sound=false:=by
 simp [V.sound,h]
theorem zed {n:Int} {s:ByteArray} {ll ol:Nat} (hs:s.toList= []) (hl:ll=0) (ho:ol=0) (hn:n=0):plainB 0 n s ll ol=true:=by simp [plainB,hs,hl,ho,hn]
theorem zjr {n:Int} {s:ByteArray} {ll ol:Nat} (hs:s.toList= []) (hl:ll=0) (ho:ol=0) (hn:n=0∨n=1):plainB 1 n s ll ol=true:=by
 rcases hn with rfl|rfl<;>simp [plainB,hs,hl,ho]
theorem zg5 {n:Int} {s:ByteArray} {ll ol:Nat} (hs:s.toList= []) (hl:ll=0) (ho:ol=0):plainB 2 n s ll ol=true:=by simp [plainB,hs,hl,ho]
theorem zkg {n:Int} {s:ByteArray} {ll ol:Nat} (hs:Lib.validD s.data.toList=true) (hl:ll=0) (ho:ol=0) (hn:n=0):plainB 3 n s ll ol=true:=by simp [plainB,hs,hl,ho,hn]
theorem zj7 {n:Int} {s:ByteArray} {ll ol:Nat} (hs:s.toList= []) (ho:ol=0) (hn:n=0):plainB 4 n s ll ol=true:=by simp [plainB,hs,ho,hn]
theorem zic {n:Int} {s:ByteArray} {ll ol:Nat} (hs:s.toList= []) (hl:ll=0) (hn:n=0):plainB 5 n s ll ol=true:=by simp [plainB,hs,hl,hn]
set_option maxRecDepth 100000 in
theorem ze2 (w:World) (c:VC) (hT:Tabs w) (hbd:c.Bnd) (hp:plainB c.k c.n c.s c.ll c.ol=false):
 Calls Tryz.prog 18 #[.agg #[.int .u8 c.k, .int .i64 c.n, .string c.s, .slice c.la c.ll c.lc, .slice c.oa c.ol c.oc]] w fun e w'=>e= .returned (.bool false)/\Below w.heap.size w w':=by
 have k0:=hbd.k0
 have l3:=hbd.l3
 have o3:=hbd.o3
 have hsz:=hbd.s1
 obtain ⟨vd,hvd⟩:∃vd,Lib.validD c.s.data.toList=vd:=⟨_,rfl⟩
 have HVD:=qh hvd
 clear hbd hvd
 obtain ⟨k,n,s,la,ll,lc,oa,ol,oc⟩:=c
 dsimp only at*
 have hk:k=0∨k=1∨k=2∨k=3∨k=4∨k=5∨5<k:=by omega
 have H0:=qh hp
 clear hp
 rcases hk with rfl|rfl|rfl|rfl|rfl|rfl|hk
 .go_enter Tryz.func18,Tryz.ntmps18
  go_wp2_with fail
  all_goals first
   |(go_ret;exact ⟨rfl,(Below.refl _ _).alloc (Nat.le_refl _) _⟩)
   |exact absurd (zed (n:=n) (s:=s) (ll:=ll) (ol:=ol) (by assumption) (by omega) (by omega) (by omega)) (by rw [H0.out];simp)
 .go_enter Tryz.func18,Tryz.ntmps18
  go_wp2_with fail
  all_goals first
   |(go_ret;exact ⟨rfl,(Below.refl _ _).alloc (Nat.le_refl _) _⟩)
   |exact absurd (zjr (n:=n) (s:=s) (ll:=ll) (ol:=ol) (by assumption) (by omega) (by omega) (by omega)) (by rw [H0.out];simp)
 .go_enter Tryz.func18,Tryz.ntmps18
  go_wp2_with fail
  all_goals first
   |(go_ret;exact ⟨rfl,(Below.refl _ _).alloc (Nat.le_refl _) _⟩)
   |exact absurd (zg5 (n:=n) (s:=s) (ll:=ll) (ol:=ol) (by assumption) (by omega) (by omega)) (by rw [H0.out];simp)
 .go_enter Tryz.func18,Tryz.ntmps18
  go_wp2_with fail
  all_goals first
   |(go_ret;exact ⟨rfl,(Below.refl _ _).alloc (Nat.le_refl _) _⟩)
   | (have hv:vd=false:=by
       have h:=H0.out
       cases vd with
       |false=>rfl
       |true=>rw [zkg HVD.out (by omega) (by omega) (by omega)] at h;cases h
      subst hv
      refine (Yb s _ hsz (hT.below ((Below.refl _ _).alloc (Nat.le_refl _) _))).mono ?_
      rintro e w' ⟨rfl,hb⟩
      rw [HVD.out]
      go_wp2_with fail
      go_ret
      exact ⟨rfl,((Below.refl _ _).alloc (Nat.le_refl _) _).trans (hb.mono (by simp))⟩)
 .go_enter Tryz.func18,Tryz.ntmps18
  go_wp2_with fail
  all_goals first
   |(go_ret;exact ⟨rfl,(Below.refl _ _).alloc (Nat.le_refl _) _⟩)
   |exact absurd (zj7 (n:=n) (s:=s) (ll:=ll) (ol:=ol) (by assumption) (by omega) (by omega)) (by rw [H0.out];simp)
 .go_enter Tryz.func18,Tryz.ntmps18
  go_wp2_with fail
  all_goals first
   |(go_ret;exact ⟨rfl,(Below.refl _ _).alloc (Nat.le_refl _) _⟩)
   |exact absurd (zic (n:=n) (s:=s) (ll:=ll) (ol:=ol) (by assumption) (by omega) (by omega)) (by rw [H0.out];simp)
 .go_enter Tryz.func18,Tryz.ntmps18
  go_wp2_with fail
  go_ret
  exact ⟨rfl,(Below.refl _ _).alloc (Nat.le_refl _) _⟩
theorem zkk:(Tryz.prog.info? 3).map (fun i=>(i.zero,i.size,i.bytes))=some (some (.int .i64 0),1,8):=by kernel_rfl
def ints (l:List Nat):List Value:=l.map fun (n:Nat)=>Value.int .i64 (n:Int)
theorem zaw (a b:List Nat):ints (a++b)=ints a++ints b:=by simp [ints]
def IntsPost (w:World) (l:List Nat) (e:Ending) (w':World):Prop:=
 (∃g c,e= .returned (.slice (some ⟨g,0,none⟩) l.length c)/\l.length<=c/\c<=9223372036854775807/\g<w'.heap.size/\∀i (h:i<l.length),w'.cell? ⟨g,i,none⟩=some (.int .i64 (l[i] :Int)))/\Below w.heap.size w w'
theorem zkh (s:ByteArray) (i:Nat) (h:i<s.size):(Lib.decodeGo (s.extract i s.size)).2=(Lib.decodeL (s.data.toList.drop i)).2:=by
 have hd:(s.extract i s.size)=⟨(s.data.toList.drop i).toArray⟩:=by
  apply ByteArray.ext
  apply Array.ext'
  rw [ByteArray.data_extract,Array.toList_extract,List.extract_eq_take_drop]
  exact List.take_of_length_le (by rw [List.length_drop,Array.length_toList];exact Nat.le_refl _)
 have hz:(s.extract i s.size).size≠0:=by rw [ByteArray.size_extract];omega
 unfold Lib.decodeGo Lib.decodeL
 rw [if_neg hz,hd]
structure CUH (w wr:World) (s:ByteArray) (i:Nat) (l:List Nat) (u:Value):Prop where
 rest:l++cutsP (s.data.toList.drop i).length i (s.data.toList.drop i)=cutsP s.size 0 s.data.toList
 own:wr.ownsRow w.heap.size 3 1 u l.length (ints l)
 below:Below w.heap.size w wr
set_option maxRecDepth 100000 in
theorem zcg (w:World) (s:ByteArray) (hs:s.size<=1000000000000) (hT:Tabs w):
 Calls Tryz.prog 86 #[.string s] w (IntsPost w (cuts s)):=by
 obtain ⟨i0,hi0,hz0,hz1,hz2⟩:=info_parts zkk
 have hsz:s.data.toList.length=s.size:=Array.length_toList
 have HS:=qh hsz
 have HTT:=qh hT
 clear hsz hT
 go_enter Tryz.func86,Tryz.ntmps86
 go_wp2_with fail
 go_loopw [3,4,5,6] (fun u i _ _ wr=>∃(j:Nat) (l:List Nat) (a:Option Addr) (m c:Nat),j<=s.size/\l.length<=j/\i= .int .i64 j/\u= .slice a m c/\CUH w wr s j l (.slice a m c)) (fun _ i _ _ _=>s.size - (intOf i).toNat)
 case atStart=>exact ⟨0, [],none,0,0,Nat.zero_le _,Nat.le_refl _,rfl,rfl,⟨by rw [List.drop_zero,HS.out];rfl,⟨rfl, .inl ⟨rfl,rfl⟩⟩,Below.refl _ _⟩⟩
 case round=>
  obtain ⟨j,l,a,m,c,hj,hlj,rfl,rfl,L⟩:=hrel
  have hrlt:∀b,(Value.slice a m c).ownBlock=some b->w.heap.size<=b/\b<wr.heap.size:=L.own.lt
  have hb:=L.below.size
  by_cases hlt:j<s.size
  .have hne:s.data.toList.drop j≠ [] :=fun e=>by
    have:=congrArg List.length e
    rw [List.length_drop,HS.out] at this
    simp at this;omega
   have hw1:=Lib.decodeL_width (s.data.toList.drop j)
   have hw2:=Lib.decodeL_le _ hne
   rw [List.length_drop,HS.out] at hw2
   obtain ⟨k,hk⟩:∃k,(Lib.decodeL (s.data.toList.drop j)).2=k:=⟨_,rfl⟩
   have hd:=zkh s j hlt
   rw [hk] at hd hw1 hw2
   have hrs:=L.rest
   rw [Kf hne,hk] at hrs
   have HRS:=qh hrs
   obtain ⟨rn,hrn⟩:∃rn,(Lib.decodeGo (s.extract j s.size)).1=rn:=⟨_,rfl⟩
   have HD:Hid (∀W,Below w.heap.size w W->Calls Tryz.prog 125 #[.string (s.extract j s.size)] W fun e w'=>e= .returned (.tuple #[.int .i32 rn, .int .i64 k])/\Below W.heap.size W w'):=fun W hW=>by
    have:=Tryz.utf8_DecodeRuneInString (s.extract j s.size) W (HTT.out.below hW)
    rw [hrn,hd] at this;exact this
   have LL:=qh L
   have ho:=L.own
   clear hrs hne hk hd hrn L
   go_wp2_with (at_builtin;refine wpList_append_lies _ rfl (.tmp 11) (.tmp 13) 120 (by rfl) w.heap.size 3 i0 _ 1 8 Tryz.underlying120 hi0 hz0 hz1 hz2 rfl (by omega) (.slice a m c) l.length (ints l) (by rfl) (ho.alloc _) ⟨wr.heap.size,0,none⟩ 1 1 [.int .i64 (j:Int)] (by rfl) (by rfl) (World.news_of_block (cs:= #[.int .i64 (j:Int)]) (t:=3) (fr:=(0,0)) (heap_alloc_new wr _)) (by simp [Value.oneCell']) (by omega) (by unfold maxLen;omega) (by omega) (by simp;omega) (wr.heap.size+1) (by simp) ?_;intro g cap w7 hown7 hgrow7 hat7 hlt7)
   have hb7:Below w.heap.size w w7:=(LL.out.below.trans (((Below.refl _ _).alloc (Nat.le_refl _) _).mono hb)).trans (Zj hgrow7 (fun k hk=>(hrlt k hk).1) (by simp;omega))
   refine (HD.out w7 hb7).mono ?_
   rintro e w8 ⟨rfl,hb8⟩
   have hb9:Below w.heap.size w7 w8:=hb8.mono hb7.size
   have hlt9:∀b,(Value.slice (some ⟨g,0,none⟩) (l.length+1) cap).ownBlock=some b->w.heap.size<=b/\b<w7.heap.size:=hown7.lt
   go_wp2_with fail
   go_roundw
   case rel=>
    refine ⟨j+k,l++ [j],some ⟨g,0,none⟩,l.length+1,cap,by omega,by simp;omega,by go_num,rfl,⟨?_, ?_,hb7.trans hb9⟩⟩
    .rw [List.append_assoc,List.singleton_append, <-HRS.out,List.drop_drop]
    .rw [zaw,List.length_append,List.length_singleton]
     exact hown7.kept (row:=none) ⟨hb8.os,hb8.tape,hb8.output,hb8.size,fun q hq _=>hb8.block q hq⟩ (by right;simp [Value.ownBlock])
   case measure=>simp [intOf];omega
  .have hjs:j=s.size:=by omega
   have hrs:=L.rest
   have hdz:s.data.toList.drop j= [] :=by rw [hjs, <-HS.out,List.drop_length]
   rw [hdz] at hrs
   simp only [List.length_nil,cutsP,List.append_nil] at hrs
   have HRS:=qh hrs
   have HJ:=qh hjs
   have LL:=qh L
   have ho:=L.own
   have hll:l.length<=1000000000000:=by omega
   clear hrs hdz L hjs
   go_wp2_with (at_builtin;refine wpList_append_lies _ rfl (.tmp 25) (.tmp 28) 120 (by rfl) w.heap.size 3 i0 _ 1 8 Tryz.underlying120 hi0 hz0 hz1 hz2 rfl (by omega) (.slice a m c) l.length (ints l) (by rfl) (ho.alloc _) ⟨wr.heap.size,0,none⟩ 1 1 [.int .i64 (s.size:Int)] (by rfl) (by rfl) (World.news_of_block (cs:= #[.int .i64 (s.size:Int)]) (t:=3) (fr:=(0,0)) (heap_alloc_new wr _)) (by simp [Value.oneCell']) (by omega) (by unfold maxLen;omega) (by omega) (by simp;omega) (wr.heap.size+1) (by simp) ?_;intro g cap w7 hown7 hgrow7 hat7 hlt7)
   have hb7:Below w.heap.size w w7:=(LL.out.below.trans (((Below.refl _ _).alloc (Nat.le_refl _) _).mono hb)).trans (Zj hgrow7 (fun k hk=>(hrlt k hk).1) (by simp;omega))
   go_returns
   have hcu:cuts s=l++ [s.size] :=by rw [cuts, <-HRS.out]
   rw [hcu]
   have hown8:w7.ownsRow w.heap.size 3 1 (.slice (some ⟨g,0,none⟩) (l.length+1) cap) (l.length+1) (ints (l++ [s.size])):=by rw [zaw];exact hown7
   refine ⟨⟨g,cap,by rw [List.length_append,List.length_singleton];rfl, ?_⟩,hb7⟩
   obtain ⟨_,c',e',ho'⟩:=OwnRow.of (base':=w.heap.size) hown8 (Nat.le_refl _)
   injection e' with e1 e2 e3
   subst e1 e3
   obtain ⟨g',e',_,hbc⟩:=ho'.row (.inl (by omega))
   obtain rfl:g=g':=by injection e' with e';injection e'
   refine ⟨by rw [List.length_append,List.length_singleton];exact ho'.cap,ho'.max,hbc.lt,fun i hi=>hbc.at_ i _ ?_⟩
   unfold ints
   rw [List.getElem?_map,List.getElem?_eq_getElem hi]
   rfl
theorem zg7 (w:World) (s:ByteArray) (hs:s.size<=1000000000000) (hT:Tabs w):
 Calls Tryz.prog 104 #[.string s] w fun e w'=>e= .returned (.int .i64 (textN s:Int))/\Below w.heap.size w w':=by
 have hl:=Xp s
 obtain ⟨L,hL⟩:∃L,(cuts s).length=L:=⟨_,rfl⟩
 have HC:=qh (zcg w s hs hT)
 have hn:textN s=L - 1:=by rw [textN,hL]
 rw [hn]
 rw [hL] at hl
 have hw1:IntKind.i64.wrap ((L:Int) - 1)=(L:Int) - 1:=IntWalk.i64_in _ (by omega)
 have hw2:((L - 1:Nat):Int)=(L:Int) - 1:=by omega
 rw [hw2]
 have HL:=qh hL
 clear hL hT hn
 go_enter Tryz.func104,Tryz.ntmps104
 go_wp2_with fail
 refine HC.out.mono ?_
 rintro e w1 ⟨⟨g,c,rfl,_,_,_,_⟩,hb1⟩
 rw [HL.out]
 go_wp2_with fail
 go_returns
 exact ⟨rfl,hb1⟩
def tCheck (s:ByteArray) (k i n:Int):Int:=
 if k≠8/\k≠9 then 31 else if i<0∨(textN s:Int)<i then 32 else if k=9/\(n<1∨(textN s:Int) - i<n) then 32 else 0
set_option maxRecDepth 100000 in
theorem zbn (w:World) (s:ByteArray) (c:CC) (hb:c.Bnd) (hs:s.size<=1000000000000) (hT:Tabs w):
 Calls Tryz.prog 85 #[.string s, .agg #[.int .u8 c.k, .slice c.pa c.pl c.pc, .string c.key, .int .i64 c.i, .int .i64 c.j, .int .i64 c.n, .int .u8 c.v.k, .int .i64 c.v.n, .string c.v.s, .slice c.v.la c.v.ll c.v.lc, .slice c.v.oa c.v.ol c.v.oc, .string c.s]] w fun e w'=>e= .returned (.int .i64 (tCheck s c.k c.i c.n))/\Below w.heap.size w w':=by
 have n0:=hb.n0;have n1:=hb.n1;have i0:=hb.i0;have i1:=hb.i1
 obtain ⟨N,hN⟩:∃N,textN s=N:=⟨_,rfl⟩
 have hNl:N<=1000000000000:=by have:=(Xp s).2;rw [<-hN,textN];omega
 have HN:Hid (∀W,Below w.heap.size w W->Calls Tryz.prog 104 #[.string s] W fun e w'=>e= .returned (.int .i64 (N:Int))/\Below W.heap.size W w'):=fun W hW=>by rw [<-hN];exact zg7 W s hs (hT.below hW)
 have HBX:=qh (BC.start w #[.int .u8 c.k, .slice c.pa c.pl c.pc, .string c.key, .int .i64 c.i, .int .i64 c.j, .int .i64 c.n, .int .u8 c.v.k, .int .i64 c.v.n, .string c.v.s, .slice c.v.la c.v.ll c.v.lc, .slice c.v.oa c.v.ol c.v.oc, .string c.s] 39)
 have HAL:=qh ((Below.refl _ _).alloc (Nat.le_refl _) (.cells #[.int .u8 c.k, .slice c.pa c.pl c.pc, .string c.key, .int .i64 c.i, .int .i64 c.j, .int .i64 c.n, .int .u8 c.v.k, .int .i64 c.v.n, .string c.v.s, .slice c.v.la c.v.ll c.v.lc, .slice c.v.oa c.v.ol c.v.oc, .string c.s] 39):Below w.heap.size w _)
 obtain ⟨R,hR⟩:∃R,tCheck s c.k c.i c.n=R:=⟨_,rfl⟩
 rw [hR]
 rw [tCheck,hN] at hR
 have HR:=qh hR
 obtain ⟨ck,hck⟩:∃ck,c.k=ck:=⟨_,rfl⟩
 obtain ⟨ci,hci⟩:∃ci,c.i=ci:=⟨_,rfl⟩
 obtain ⟨cn,hcn⟩:∃cn,c.n=cn:=⟨_,rfl⟩
 rw [hck,hci,hcn] at HR
 rw [hcn] at n0 n1
 rw [hci] at i0 i1
 rw [hck,hci,hcn] at HBX HAL ⊢
 clear hR hN hT hb hck hci hcn
 by_cases e8:ck=8
 .cases e8
  have f9:((8:Int)==9)=false:=rfl
  by_cases hi0:ci<0
  .obtain rfl:R=32:=by rw [<-HR.out];simp [hi0]
   go_enter Tryz.func85,Tryz.ntmps85
   go_wp2_with fail
   refine (HN.out _ HAL.out).mono ?_
   rintro e w1 ⟨rfl,hb1⟩
   have D:=HBX.out.keep hb1 (by simp)
   obtain ⟨b0,b1,b2,b3,b4,b5,b6,b7,b8,b9,b10,b11⟩:=row12 D.at_
   have zs:=D.lt
   have HBL:=qh (HAL.out.trans (hb1.mono (by simp)))
   clear D hb1
   go_wp2_with fail
   go_returns
   exact ⟨rfl,HBL.out⟩
  .by_cases hi1:(N:Int)<ci
   .obtain rfl:R=32:=by rw [<-HR.out];simp [hi1]
    go_enter Tryz.func85,Tryz.ntmps85
    go_wp2_with fail
    refine (HN.out _ HAL.out).mono ?_
    rintro e w1 ⟨rfl,hb1⟩
    have D:=HBX.out.keep hb1 (by simp)
    obtain ⟨b0,b1,b2,b3,b4,b5,b6,b7,b8,b9,b10,b11⟩:=row12 D.at_
    have zs:=D.lt
    have HBL:=qh (HAL.out.trans (hb1.mono (by simp)))
    clear D hb1
    go_wp2_with fail
    go_returns
    exact ⟨rfl,HBL.out⟩
   .obtain rfl:R=0:=by rw [<-HR.out];simp [hi0,hi1]
    go_enter Tryz.func85,Tryz.ntmps85
    go_wp2_with fail
    refine (HN.out _ HAL.out).mono ?_
    rintro e w1 ⟨rfl,hb1⟩
    have D:=HBX.out.keep hb1 (by simp)
    obtain ⟨b0,b1,b2,b3,b4,b5,b6,b7,b8,b9,b10,b11⟩:=row12 D.at_
    have zs:=D.lt
    have HBL:=qh (HAL.out.trans (hb1.mono (by simp)))
    clear D hb1
    go_wp2_with fail
    go_returns
    exact ⟨rfl,HBL.out⟩
 .have f8 : (ck !=8)=true:=by simp [e8]
  by_cases e9:ck=9
  .cases e9
   by_cases hi0:ci<0
   .obtain rfl:R=32:=by rw [<-HR.out];simp [hi0]
    go_enter Tryz.func85,Tryz.ntmps85
    go_wp2_with fail
    refine (HN.out _ HAL.out).mono ?_
    rintro e w1 ⟨rfl,hb1⟩
    have D:=HBX.out.keep hb1 (by simp)
    obtain ⟨b0,b1,b2,b3,b4,b5,b6,b7,b8,b9,b10,b11⟩:=row12 D.at_
    have zs:=D.lt
    have HBL:=qh (HAL.out.trans (hb1.mono (by simp)))
    clear D hb1
    go_wp2_with fail
    go_returns
    exact ⟨rfl,HBL.out⟩
   .by_cases hi1:(N:Int)<ci
    .obtain rfl:R=32:=by rw [<-HR.out];simp [hi1]
     go_enter Tryz.func85,Tryz.ntmps85
     go_wp2_with fail
     refine (HN.out _ HAL.out).mono ?_
     rintro e w1 ⟨rfl,hb1⟩
     have D:=HBX.out.keep hb1 (by simp)
     obtain ⟨b0,b1,b2,b3,b4,b5,b6,b7,b8,b9,b10,b11⟩:=row12 D.at_
     have zs:=D.lt
     have HBL:=qh (HAL.out.trans (hb1.mono (by simp)))
     clear D hb1
     go_wp2_with fail
     go_returns
     exact ⟨rfl,HBL.out⟩
    .have hw1:IntKind.i64.wrap ((N:Int) - ci)=(N:Int) - ci:=IntWalk.i64_in _ (by omega)
     by_cases hn1:cn<1
     .obtain rfl:R=32:=by rw [<-HR.out];simp [hi0,hi1,hn1]
      go_enter Tryz.func85,Tryz.ntmps85
      go_wp2_with fail
      refine (HN.out _ HAL.out).mono ?_
      rintro e w1 ⟨rfl,hb1⟩
      have D:=HBX.out.keep hb1 (by simp)
      obtain ⟨b0,b1,b2,b3,b4,b5,b6,b7,b8,b9,b10,b11⟩:=row12 D.at_
      have zs:=D.lt
      have HBL:=qh (HAL.out.trans (hb1.mono (by simp)))
      clear D hb1
      go_wp2_with fail
      go_returns
      exact ⟨rfl,HBL.out⟩
     .by_cases hn2:(N:Int) - ci<cn
      .obtain rfl:R=32:=by rw [<-HR.out];simp [hi0,hi1,hn2]
       go_enter Tryz.func85,Tryz.ntmps85
       go_wp2_with fail
       refine (HN.out _ HAL.out).mono ?_
       rintro e w1 ⟨rfl,hb1⟩
       have D:=HBX.out.keep hb1 (by simp)
       obtain ⟨b0,b1,b2,b3,b4,b5,b6,b7,b8,b9,b10,b11⟩:=row12 D.at_
       have zs:=D.lt
       have HBL:=qh (HAL.out.trans (hb1.mono (by simp)))
       clear D hb1
       go_wp2_with fail
       go_returns
       exact ⟨rfl,HBL.out⟩
      .obtain rfl:R=0:=by rw [<-HR.out];simp [hi0,hi1,hn1,hn2]
       go_enter Tryz.func85,Tryz.ntmps85
       go_wp2_with fail
       refine (HN.out _ HAL.out).mono ?_
       rintro e w1 ⟨rfl,hb1⟩
       have D:=HBX.out.keep hb1 (by simp)
       obtain ⟨b0,b1,b2,b3,b4,b5,b6,b7,b8,b9,b10,b11⟩:=row12 D.at_
       have zs:=D.lt
       have HBL:=qh (HAL.out.trans (hb1.mono (by simp)))
       clear D hb1
       go_wp2_with fail
       go_returns
       exact ⟨rfl,HBL.out⟩
  .have f9:(ck !=9)=true:=by simp [e9]
   obtain rfl:R=31:=by rw [<-HR.out];simp [e8,e9]
   go_enter Tryz.func85,Tryz.ntmps85
   go_wp2_with fail
   go_returns
   exact ⟨rfl,HAL.out⟩
end Go.Proofs.YtnjgbiachcfigaaGreatDoor
