/-
  Contracts of the functions that the law reaches: DERIVED: THE SHELF's CONTRACTS AT THIS.
-/
import Derived.Test.YtnjgbiachcfigaaGreatDoorIw4
import Derived.Ground.NamesProg
import Derived.Shelf.Unicode.ValidAny
import Derived.Shelf.Utf8.RuneCount
import Derived.Sort.Walk0
namespace Go.Proofs
open Go.Shelf
def Tryz.lays196_ren:Go.Shelf.Ren:=⟨fun|196=>52|259=>90|n=>n,fun|9=>9|4=>4|3=>3|5=>5|12=>12|119=>126|0=>0|46=>130|139=>129|138=>128|53=>158|n=>n,fun|3=>0|4=>1|n=>n⟩
theorem Tryz.lays196:Go.Proofs.Lays.n196 Tryz.prog Tryz.lays196_ren:= {
 mixed:=by kernel_rfl
 f196:=Tryz.func52.trans (congrArg some (by kernel_rfl))
 f259:=Tryz.func90.trans (congrArg some (by kernel_rfl))
 t0:=Tryz.underlying0
 a0:=Tryz.isAgg0
 z0:=Tryz.sizeOf0
 v0:=Tryz.zeroValue0
 t3:=Tryz.underlying3
 a3:=Tryz.isAgg3
 z3:=Tryz.sizeOf3
 v3:=Tryz.zeroValue3
 t4:=Tryz.underlying4
 a4:=Tryz.isAgg4
 z4:=Tryz.sizeOf4
 v4:=Tryz.zeroValue4
 t5:=Tryz.underlying5
 a5:=Tryz.isAgg5
 z5:=Tryz.sizeOf5
 v5:=Tryz.zeroValue5
 t9:=Tryz.underlying9
 a9:=Tryz.isAgg9
 z9:=Tryz.sizeOf9
 v9:=Tryz.zeroValue9
 t12:=Tryz.underlying12
 a12:=Tryz.isAgg12
 z12:=Tryz.sizeOf12
 v12:=Tryz.zeroValue12
 t46:=Tryz.underlying130
 a46:=Tryz.isAgg130
 z46:=Tryz.sizeOf130
 v46:=Tryz.zeroValue130
 t53:=Tryz.underlying158
 a53:=Tryz.isAgg158
 z53:=Tryz.sizeOf158
 v53:=Tryz.zeroValue158
 t119:=Tryz.underlying126
 a119:=Tryz.isAgg126
 z119:=Tryz.sizeOf126
 t138:=Tryz.underlying128
 a138:=Tryz.isAgg128
 z138:=Tryz.sizeOf128
 v138:=Tryz.zeroValue128
 t139:=Tryz.underlying129
 a139:=Tryz.isAgg129
 z139:=Tryz.sizeOf129
 v139:=Tryz.zeroValue129
 g3:=by kernel_rfl
 g4:=by kernel_rfl }
open Go.RowKit Go.Lib in
theorem Tryz.utf8_ValidString (s:ByteArray) (w:World) (hs:s.size<=9223372036854775807) (hT:Lib.Utf8Tabs 0 1 w):
 Calls Tryz.prog 52 #[.string s] w fun e w'=>e= .returned (.bool (Lib.validD s.data.toList))/\Below w.heap.size w w':=Any.utf8_ValidString Tryz.lays196 s w hs hT
def Tryz.lays197_ren:Go.Shelf.Ren:=⟨fun|197=>125|260=>138|n=>n,fun|9=>9|21=>21|3=>3|4=>4|5=>5|105=>156|119=>126|0=>0|46=>130|139=>129|138=>128|n=>n,fun|3=>0|4=>1|n=>n⟩
theorem Tryz.lays197:Go.Proofs.Lays.n197 Tryz.prog Tryz.lays197_ren:= {
 mixed:=by kernel_rfl
 f197:=Tryz.func125.trans (congrArg some (by kernel_rfl))
 f260:=Tryz.func138.trans (congrArg some (by kernel_rfl))
 t0:=Tryz.underlying0
 a0:=Tryz.isAgg0
 z0:=Tryz.sizeOf0
 v0:=Tryz.zeroValue0
 t3:=Tryz.underlying3
 a3:=Tryz.isAgg3
 z3:=Tryz.sizeOf3
 v3:=Tryz.zeroValue3
 t4:=Tryz.underlying4
 a4:=Tryz.isAgg4
 z4:=Tryz.sizeOf4
 v4:=Tryz.zeroValue4
 t5:=Tryz.underlying5
 a5:=Tryz.isAgg5
 z5:=Tryz.sizeOf5
 v5:=Tryz.zeroValue5
 t9:=Tryz.underlying9
 a9:=Tryz.isAgg9
 z9:=Tryz.sizeOf9
 v9:=Tryz.zeroValue9
 t21:=Tryz.underlying21
 a21:=Tryz.isAgg21
 z21:=Tryz.sizeOf21
 v21:=Tryz.zeroValue21
 t46:=Tryz.underlying130
 a46:=Tryz.isAgg130
 z46:=Tryz.sizeOf130
 v46:=Tryz.zeroValue130
 t105:=Tryz.underlying156
 a105:=Tryz.isAgg156
 z105:=Tryz.sizeOf156
 v105:=Tryz.zeroValue156
 t119:=Tryz.underlying126
 a119:=Tryz.isAgg126
 z119:=Tryz.sizeOf126
 t138:=Tryz.underlying128
 a138:=Tryz.isAgg128
 z138:=Tryz.sizeOf128
 v138:=Tryz.zeroValue128
 t139:=Tryz.underlying129
 a139:=Tryz.isAgg129
 z139:=Tryz.sizeOf129
 v139:=Tryz.zeroValue129
 g3:=by kernel_rfl
 g4:=by kernel_rfl }
open Go.RowKit Go.Lib in
theorem Tryz.utf8_DecodeRuneInString (s:ByteArray) (w:World) (hT:Lib.Utf8Tabs 0 1 w):
 Calls Tryz.prog 125 #[.string s] w fun e w'=>e= .returned (.tuple #[.int .i32 (Lib.decodeGo s).1, .int .i64 (Lib.decodeGo s).2])/\Below w.heap.size w w':=Any.utf8_DecodeRuneInString Tryz.lays197 s w hT
def Tryz.lays195_ren:Go.Shelf.Ren:=⟨fun|195=>132|n=>n,fun|9=>9|3=>3|0=>0|4=>4|n=>n,fun|n=>n⟩
theorem Tryz.lays195:Go.Proofs.Lays.n195 Tryz.prog Tryz.lays195_ren:= {
 mixed:=by kernel_rfl
 f195:=Tryz.func132.trans (congrArg some (by kernel_rfl))
 t0:=Tryz.underlying0
 a0:=Tryz.isAgg0
 z0:=Tryz.sizeOf0
 v0:=Tryz.zeroValue0
 t3:=Tryz.underlying3
 a3:=Tryz.isAgg3
 z3:=Tryz.sizeOf3
 v3:=Tryz.zeroValue3
 t4:=Tryz.underlying4
 a4:=Tryz.isAgg4
 z4:=Tryz.sizeOf4
 v4:=Tryz.zeroValue4
 t9:=Tryz.underlying9
 a9:=Tryz.isAgg9
 z9:=Tryz.sizeOf9
 v9:=Tryz.zeroValue9 }
open Go.RowKit Go.Lib in
theorem Tryz.utf8_RuneCountInString (s:ByteArray) (w:World) (hs:s.size<9223372036854775807):
 Calls Tryz.prog 132 #[.string s] w fun e w'=>e= .returned (.int .i64 (Lib.runeCount s))/\∃pos,w'=w.iter s pos:=Any.utf8_RuneCountInString Tryz.lays195 s w hs
end Go.Proofs
namespace Go.Proofs.YtnjgbiachcfigaaGreatDoor
open Go.RowKit
set_option maxHeartbeats 8000000
structure Boxed1 (w wr:World) (c:VC):Prop where
 a:ValAt wr w.heap.size 0 c
 below:Below w.heap.size w wr
 size:w.heap.size+1<=wr.heap.size
theorem K2 (w:World) (c:VC) (t:TypeId):Boxed1 w (w.alloc (.cells (uV c) t)) c:=
 ⟨Y9 w c t,(Below.refl _ _).alloc (Nat.le_refl _) _,by simp⟩
theorem Boxed1.step {w wr w':World} {c:VC} (h:Boxed1 w wr c) (hb:uB wr w'):Boxed1 w w' c:=
 ⟨h.a.keep hb (by have:=h.size;omega),h.below.trans (hb.mono (by have:=h.size;omega)),by have:=h.size;have:=hb.size;omega⟩
set_option maxRecDepth 100000 in
theorem zfu (a:V):∀(w:World) (c:VC),IsVal w w.heap.size a c->a.weight<=4611686018427387904->
 uP 110 #[.agg (uV c)] w fun e w'=>e= .returned (.int .i64 a.weight)/\uB w w':=by
 delta uV uB uP
 induction a using V.ind with
 |h k n s l o ihl iho=>
 have IHL:=qh ihl;have IHO:=qh iho;clear ihl iho
 intro w c ha hw
 cases ha with
 |mk c l o cl co lb lo ob oo cbd hl ho hla hoa hlc hlv hoc hov=>
 have c1:=cbd.l1;have c2:=cbd.l2;have c3:=cbd.o1;have c4:=cbd.o2;have c5:=cbd.s1
 have Hl:=qh hl;have Ho:=qh ho;clear hl ho
 have hst:=K2 w c 36
 have hw0:1+c.s.size+weightL l+weightO o<=4611686018427387904:=by simpa only [V.weight] using hw
 obtain ⟨W,hW⟩:∃W,V.weight (V.mk c.k c.n c.s l o)=W:=⟨_,rfl⟩
 rw [hW]
 have hW2:1+c.s.size+weightL l+weightO o=W:=by simpa only [V.weight] using hW
 have HW:=qh hW2
 clear hW hw hW2
 go_enter Tryz.func110,Tryz.ntmps110
 go_wp2_with fail
 go_loopw [3,4] (fun t i wr=>∃k:Nat,k<=c.ll/\i= .int .i64 k/\t= .int .i64 ((1+c.s.size+weightL (l.take k):Nat):Int)/\Boxed1 w wr c) (fun _ i _=>c.ll - (intOf i).toNat)
 case atStart=>exact ⟨0,Nat.zero_le _,rfl,by simp [weightL],hst⟩
 case round=>
  obtain ⟨k,hk,rfl,rfl,hB⟩:=hrel
  clear hst
  have b1:wr.cell? ⟨w.heap.size,3,none⟩=some (.slice c.la c.ll c.lc):=hB.a.c3
  have hle:=zac l k
  by_cases hlt:k<c.ll
  .obtain ⟨ela,hlb⟩:=hla (by omega)
   have kl:k<l.length:=by rw [<-Hl.out];exact hlt
   have x1:=(hlc k kl).keep hB.below hlb
   rw [ela] at b1
   have r0:=x1.c0;have r1:=x1.c1;have r2:=x1.c2;have r3:=x1.c3;have r4:=x1.c4
   clear ela x1
   have hm:=Qf l k kl
   have hs:=zdi l k kl
   have hle2:=zac l (k+1)
   have HS:=qh hs
   obtain ⟨A,hA⟩:∃A,1+c.s.size+weightL (l.take k)=A:=⟨_,rfl⟩
   obtain ⟨X,hX⟩:∃X,l[k].weight=X:=⟨_,rfl⟩
   have hAX:A+X<=4611686018427387904:=by omega
   have ih:=IHL.out _ (List.getElem_mem kl) wr (cl k) ((hlv k kl).later_ hB.below) (by omega)
   rw [hA]
   rw [hX] at ih
   have H:=qh ih
   have HA:=qh hA;have HX:=qh hX
   clear ih hA hX hs hm hle hle2
   go_wp2_with (go_at_call 110;refine H.out.mono ?_;rintro e w' ⟨rfl,hb⟩)
   go_roundw
   case rel=>exact ⟨k+1,by omega,by go_num,by rw [HS.out, <-Nat.add_assoc,HA.out,HX.out];go_num,hB.step hb⟩
   case measure=>simp [intOf];omega
  .go_wp2_with fail
   go_loopw [3,5] (fun t i wr=>∃k:Nat,k<=c.ol/\i= .int .i64 k/\t= .int .i64 ((1+c.s.size+weightL l+weightO (o.take k):Nat):Int)/\Boxed1 w wr c) (fun _ i _=>c.ol - (intOf i).toNat)
   case atStart=>exact ⟨0,Nat.zero_le _,rfl,by rw [List.take_of_length_le (by have:=Hl.out;omega)];simp [weightO],hB⟩
   case round=>
    clear b1 hB hle hlt hk
    obtain ⟨k2,hk,rfl,rfl,hB⟩:=hrel
    have b1:wr.cell? ⟨w.heap.size,4,none⟩=some (.slice c.oa c.ol c.oc):=hB.a.c4
    have hle:=zag o k2
    by_cases hlt:k2<c.ol
    .obtain ⟨ela,hlb⟩:=hoa (by omega)
     have kl:k2<o.length:=by rw [<-Ho.out];exact hlt
     obtain ⟨g1,ksz,x1⟩:=hoc k2 kl
     have x1:=x1.keep hB.below hlb
     have g1:=Za hB.below g1 hlb
     have q1:=Zb b1
     rw [ela] at q1
     have r0:=Zb x1.c0;have r1:=Zb x1.c1;have r2:=Zb x1.c2;have r3:=Zb x1.c3;have r4:=Zb x1.c4
     have t1:=Zb g1
     clear ela x1 g1
     have hm:=Qv o k2 kl
     have hs:=zfn o k2 kl
     have hle2:=zag o (k2+1)
     have HS:=qh hs
     obtain ⟨A,hA⟩:∃A,1+c.s.size+weightL l+weightO (o.take k2)=A:=⟨_,rfl⟩
     obtain ⟨X,hX⟩:∃X,o[k2].2.weight=X:=⟨_,rfl⟩
     obtain ⟨Y,hY⟩:∃Y,o[k2].1=Y:=⟨_,rfl⟩
     have hAX:A+(Y.size+X)<=4611686018427387904:=by rw [<-hA, <-hX, <-hY];omega
     have ih:=fun p=>IHO.out _ (List.getElem_mem kl) (later wr p) (co k2) (((hov k2 kl).later_ hB.below).later_ (Ze _ _)) (by rw [hX];omega)
     rw [hA]
     rw [hX] at ih
     rw [hY] at t1 ksz
     have H:=qh ih
     have HA:=qh hA;have HX:=qh hX;have HY:=qh hY
     clear ih hA hX hY hs hm hle hle2
     have e1:IntKind.i64.wrap ((Y.size:Int)+(X:Int))=(Y.size:Int)+(X:Int):=IntWalk.i64_in _ (by omega)
     have e2:IntKind.i64.wrap ((A:Int)+((Y.size:Int)+(X:Int)))=(A:Int)+((Y.size:Int)+(X:Int)):=IntWalk.i64_in _ (by omega)
     go_wp2_with fail
     refine Zl (by kernel_rfl) (by kernel_rfl) ?_
     repeat (go_big_quiet_step (((go_at_call 110;exact Zg (H.out _)))))
     refine wpQuiet_nil ?_
     intro _ hw'
     obtain ⟨pq,hw''⟩:=hw'
     subst hw''
     clear e1 e2 r0 r1 r2 r3 r4 t1 q1 b1
     go_wp2_with fail
     go_roundw
     case rel=>exact ⟨k2+1,by omega,by go_num,by rw [HS.out, <-Nat.add_assoc,HA.out,HX.out,HY.out];go_num,hB.step (Ze wr pq)⟩
     case measure=>simp [intOf];omega
    .go_wp2_with fail
     go_ret
     exact ⟨Ju (by rw [<-HW.out,List.take_of_length_le (by have:=Ho.out;omega)]),hB.below⟩
set_option maxRecDepth 100000 in
theorem znj (a:V):∀(w:World) (c:VC),IsVal w w.heap.size a c->a.weight<=4611686018427387904->
 uP 109 #[.agg (uV c)] w fun e w'=>e= .returned (.int .i64 a.deep)/\uB w w':=by
 delta uV uB uP
 induction a using V.ind with
 |h k n s l o ihl iho=>
 have IHL:=qh ihl;have IHO:=qh iho;clear ihl iho
 intro w c ha hw
 cases ha with
 |mk c l o cl co lb lo ob oo cbd hl ho hla hoa hlc hlv hoc hov=>
 have c1:=cbd.l1;have c2:=cbd.l2;have c3:=cbd.o1;have c4:=cbd.o2;have c5:=cbd.s1
 have Hl:=qh hl;have Ho:=qh ho;clear hl ho
 have hst:=K2 w c 36
 have hw0:1+c.s.size+weightL l+weightO o<=4611686018427387904:=by simpa only [V.weight] using hw
 have hdw:=V.deep_lt (V.mk c.k c.n c.s l o)
 have hdd:max (deepL l) (deepO o)<=4611686018427387904:=by simp only [V.deep,V.weight] at hdw;omega
 obtain ⟨W,hW⟩:∃W,V.deep (V.mk c.k c.n c.s l o)=W:=⟨_,rfl⟩
 rw [hW]
 have hW2:max (deepL l) (deepO o)=W:=by simpa only [V.deep] using hW
 have HW:=qh hW2;have HDD:=qh hdd
 clear hW hw hW2 hdw hdd
 go_enter Tryz.func109,Tryz.ntmps109
 go_wp2_with fail
 go_loopw [3,4] (fun t i wr=>∃k:Nat,k<=c.ll/\i= .int .i64 k/\t= .int .i64 ((deepL (l.take k):Nat):Int)/\Boxed1 w wr c) (fun _ i _=>c.ll - (intOf i).toNat)
 case atStart=>exact ⟨0,Nat.zero_le _,rfl,by simp [deepL],hst⟩
 case round=>
  obtain ⟨k,hk,rfl,rfl,hB⟩:=hrel
  clear hst
  have b1:wr.cell? ⟨w.heap.size,3,none⟩=some (.slice c.la c.ll c.lc):=hB.a.c3
  by_cases hlt:k<c.ll
  .obtain ⟨ela,hlb⟩:=hla (by omega)
   have kl:k<l.length:=by rw [<-Hl.out];exact hlt
   have x1:=(hlc k kl).keep hB.below hlb
   rw [ela] at b1
   have r0:=x1.c0;have r1:=x1.c1;have r2:=x1.c2;have r3:=x1.c3;have r4:=x1.c4
   clear ela x1
   have hm:=Qf l k kl
   have hs:=zmk l k kl
   have HS:=qh hs
   have hdl:=V.deep_lt l[k]
   obtain ⟨A,hA⟩:∃A,deepL (l.take k)=A:=⟨_,rfl⟩
   obtain ⟨X,hX⟩:∃X,l[k].deep=X:=⟨_,rfl⟩
   have hAX:X<=4611686018427387904:=by omega
   have ih:=IHL.out _ (List.getElem_mem kl) wr (cl k) ((hlv k kl).later_ hB.below) (by omega)
   rw [hA]
   rw [hX] at ih
   have H:=qh ih
   have HA:=qh hA;have HX:=qh hX
   clear ih hA hX hs hm hdl
   go_wp2_with (go_at_call 109;refine H.out.mono ?_;rintro e w' ⟨rfl,hb⟩)
   go_roundw
   case rel=>exact ⟨k+1,by omega,by go_num,Qs (by rw [HS.out,HA.out,HX.out];omega),hB.step hb⟩
   case measure=>simp [intOf];omega
  .go_wp2_with fail
   go_loopw [3,5] (fun t i wr=>∃k:Nat,k<=c.ol/\i= .int .i64 k/\t= .int .i64 ((max (deepL l) (deepO (o.take k)):Nat):Int)/\Boxed1 w wr c) (fun _ i _=>c.ol - (intOf i).toNat)
   case atStart=>exact ⟨0,Nat.zero_le _,rfl,by rw [List.take_of_length_le (by have:=Hl.out;omega)];simp [deepO],hB⟩
   case round=>
    clear b1 hB hlt hk
    obtain ⟨k2,hk,rfl,rfl,hB⟩:=hrel
    have b1:wr.cell? ⟨w.heap.size,4,none⟩=some (.slice c.oa c.ol c.oc):=hB.a.c4
    by_cases hlt:k2<c.ol
    .obtain ⟨ela,hlb⟩:=hoa (by omega)
     have kl:k2<o.length:=by rw [<-Ho.out];exact hlt
     obtain ⟨g1,ksz,x1⟩:=hoc k2 kl
     have x1:=x1.keep hB.below hlb
     rw [ela] at b1
     have r0:=x1.c0;have r1:=x1.c1;have r2:=x1.c2;have r3:=x1.c3;have r4:=x1.c4
     clear ela x1 g1
     have hm:=Qv o k2 kl
     have hs:=zq2 o k2 kl
     have HS:=qh hs
     have hdl:=V.deep_lt o[k2].2
     obtain ⟨A,hA⟩:∃A,max (deepL l) (deepO (o.take k2))=A:=⟨_,rfl⟩
     obtain ⟨X,hX⟩:∃X,o[k2].2.deep=X:=⟨_,rfl⟩
     have hAX:X<=4611686018427387904:=by omega
     have ih:=IHO.out _ (List.getElem_mem kl) wr (co k2) ((hov k2 kl).later_ hB.below) (by omega)
     rw [hA]
     rw [hX] at ih
     have H:=qh ih
     have HA:=qh hA;have HX:=qh hX
     clear ih hA hX hs hm hdl
     go_wp2_with (go_at_call 109;refine H.out.mono ?_;rintro e w' ⟨rfl,hb⟩)
     go_roundw
     case rel=>exact ⟨k2+1,by omega,by go_num,Qs (by rw [HS.out, <-HA.out,HX.out];omega),hB.step hb⟩
     case measure=>simp [intOf];omega
    .go_wp2_with fail
     go_ret
     exact ⟨Ju (by rw [<-HW.out,List.take_of_length_le (by have:=Ho.out;omega)]),hB.below⟩
def Tabs (w:World):Prop:=Lib.Utf8Tabs 0 1 w
theorem Tabs.below {w w':World} (h:Tabs w) (hb:uB w w'):Tabs w':=Utf8Tabs_below h hb
theorem Ym (s:ByteArray) (w:World) (hs:s.size<=140737488355328) (hT:Tabs w):
 uP 52 #[.string s] w fun e w'=>e= .returned (.bool (Lib.validD s.data.toList))/\uB w w':=
 Tryz.utf8_ValidString s w (by omega) hT
theorem zdk {k n:Int} {s:ByteArray} {l:List V} {o:List (ByteArray×V)} (h:plainB k n s l.length o.length=false):(V.mk k n s l o).sound=false:=by
 simp [V.sound,h]
theorem zl4 {n:Int} {s:ByteArray} {ll ol:Nat} (hs:s.toList= []) (hl:ll=0) (ho:ol=0) (hn:n=0):plainB 0 n s ll ol=true:=by simp [plainB,hs,hl,ho,hn]
theorem zma {n:Int} {s:ByteArray} {ll ol:Nat} (hs:s.toList= []) (hl:ll=0) (ho:ol=0) (hn:n=0∨n=1):plainB 1 n s ll ol=true:=by
 rcases hn with rfl|rfl<;>simp [plainB,hs,hl,ho]
theorem zj4 {n:Int} {s:ByteArray} {ll ol:Nat} (hs:s.toList= []) (hl:ll=0) (ho:ol=0):plainB 2 n s ll ol=true:=by simp [plainB,hs,hl,ho]
theorem zgs {n:Int} {s:ByteArray} {ll ol:Nat} (hs:Lib.validD s.data.toList=true) (hl:ll=0) (ho:ol=0) (hn:n=0):plainB 3 n s ll ol=true:=by simp [plainB,hs,hl,ho,hn]
theorem zlx {n:Int} {s:ByteArray} {ll ol:Nat} (hs:s.toList= []) (ho:ol=0) (hn:n=0):plainB 4 n s ll ol=true:=by simp [plainB,hs,ho,hn]
theorem zlk {n:Int} {s:ByteArray} {ll ol:Nat} (hs:s.toList= []) (hl:ll=0) (hn:n=0):plainB 5 n s ll ol=true:=by simp [plainB,hs,hl,hn]
set_option maxRecDepth 100000 in
theorem zop (w:World) (c:VC) (hT:Tabs w) (hbd:c.Bnd) (hp:plainB c.k c.n c.s c.ll c.ol=false):
 uP 18 #[.agg (uV c)] w fun e w'=>e= .returned (.bool false)/\uB w w':=by
 delta uV uB uP
 have k0:=hbd.k0
 have l3:=hbd.l3
 have o3:=hbd.o3
 have hsz:=hbd.s1
 obtain ⟨vd,hvd⟩:∃vd,Lib.validD c.s.data.toList=vd:=⟨_,rfl⟩
 have HVD:=qh hvd
 clear hbd hvd
 obtain ⟨k,n,s,la,ll,lc,oa,ol,oc⟩:=c
 dsimp only at*
 have hk:k=0∨k=1∨k=2∨k=3∨k=4∨k=5∨5<k:=by omega
 have H0:=qh hp
 clear hp
 rcases hk with rfl|rfl|rfl|rfl|rfl|rfl|hk
 .go_enter Tryz.func18,Tryz.ntmps18
  go_wp2_with fail
  all_goals first
   |(go_ret;exact ⟨rfl,(Below.refl _ _).alloc (Nat.le_refl _) _⟩)
   |exact absurd (zl4 (n:=n) (s:=s) (ll:=ll) (ol:=ol) (by assumption) (by omega) (by omega) (by omega)) (by rw [H0.out];simp)
 .go_enter Tryz.func18,Tryz.ntmps18
  go_wp2_with fail
  all_goals first
   |(go_ret;exact ⟨rfl,(Below.refl _ _).alloc (Nat.le_refl _) _⟩)
   |exact absurd (zma (n:=n) (s:=s) (ll:=ll) (ol:=ol) (by assumption) (by omega) (by omega) (by omega)) (by rw [H0.out];simp)
 .go_enter Tryz.func18,Tryz.ntmps18
  go_wp2_with fail
  all_goals first
   |(go_ret;exact ⟨rfl,(Below.refl _ _).alloc (Nat.le_refl _) _⟩)
   |exact absurd (zj4 (n:=n) (s:=s) (ll:=ll) (ol:=ol) (by assumption) (by omega) (by omega)) (by rw [H0.out];simp)
 .go_enter Tryz.func18,Tryz.ntmps18
  go_wp2_with fail
  all_goals first
   |(go_ret;exact ⟨rfl,(Below.refl _ _).alloc (Nat.le_refl _) _⟩)
   | (have hv:vd=false:=by
       have h:=H0.out
       cases vd with
       |false=>rfl
       |true=>rw [zgs HVD.out (by omega) (by omega) (by omega)] at h;cases h
      subst hv
      refine (Ym s _ hsz (hT.below ((Below.refl _ _).alloc (Nat.le_refl _) _))).mono ?_
      rintro e w' ⟨rfl,hb⟩
      rw [HVD.out]
      go_wp2_with fail
      go_ret
      exact ⟨rfl,((Below.refl _ _).alloc (Nat.le_refl _) _).trans (hb.mono (by simp))⟩)
 .go_enter Tryz.func18,Tryz.ntmps18
  go_wp2_with fail
  all_goals first
   |(go_ret;exact ⟨rfl,(Below.refl _ _).alloc (Nat.le_refl _) _⟩)
   |exact absurd (zlx (n:=n) (s:=s) (ll:=ll) (ol:=ol) (by assumption) (by omega) (by omega)) (by rw [H0.out];simp)
 .go_enter Tryz.func18,Tryz.ntmps18
  go_wp2_with fail
  all_goals first
   |(go_ret;exact ⟨rfl,(Below.refl _ _).alloc (Nat.le_refl _) _⟩)
   |exact absurd (zlk (n:=n) (s:=s) (ll:=ll) (ol:=ol) (by assumption) (by omega) (by omega)) (by rw [H0.out];simp)
 .go_enter Tryz.func18,Tryz.ntmps18
  go_wp2_with fail
  go_ret
  exact ⟨rfl,(Below.refl _ _).alloc (Nat.le_refl _) _⟩
theorem zf9:(Tryz.prog.info? 3).map (fun i=>(i.zero,i.size,i.bytes))=some (some (.int .i64 0),1,8):=by kernel_rfl
def ints (l:List Nat):List Value:=l.map fun (n:Nat)=>Value.int .i64 (n:Int)
theorem zdc (a b:List Nat):ints (a++b)=ints a++ints b:=by simp [ints]
def IntsPost (w:World) (l:List Nat) (e:Ending) (w':World):Prop:=
 (∃g c,e= .returned (.slice (some ⟨g,0,none⟩) l.length c)/\l.length<=c/\c<=9223372036854775807/\g<w'.heap.size/\∀i (h:i<l.length),w'.cell? ⟨g,i,none⟩=some (.int .i64 (l[i] :Int)))/\Below w.heap.size w w'
theorem zm5 (s:ByteArray) (i:Nat) (h:i<s.size):(Lib.decodeGo (s.extract i s.size)).2=(Lib.decodeL (s.data.toList.drop i)).2:=by
 have hd:(s.extract i s.size)=⟨(s.data.toList.drop i).toArray⟩:=by
  apply ByteArray.ext
  apply Array.ext'
  rw [ByteArray.data_extract,Array.toList_extract,List.extract_eq_take_drop]
  exact List.take_of_length_le (by rw [List.length_drop,Array.length_toList];exact Nat.le_refl _)
 have hz:(s.extract i s.size).size≠0:=by rw [ByteArray.size_extract];omega
 unfold Lib.decodeGo Lib.decodeL
 rw [if_neg hz,hd]
structure CUH (w wr:World) (s:ByteArray) (i:Nat) (l:List Nat) (u:Value):Prop where
 rest:l++cutsP (s.data.toList.drop i).length i (s.data.toList.drop i)=cutsP s.size 0 s.data.toList
 own:wr.ownsRow w.heap.size 3 1 u l.length (ints l)
 below:Below w.heap.size w wr
set_option maxRecDepth 100000 in
theorem zek (w:World) (s:ByteArray) (hs:s.size<=1000000000000) (hT:Tabs w):
 uP 86 #[.string s] w (IntsPost w (cuts s)):=by
 delta uP
 obtain ⟨i0,hi0,hz0,hz1,hz2⟩:=info_parts zf9
 have hsz:s.data.toList.length=s.size:=Array.length_toList
 have HS:=qh hsz
 have HTT:=qh hT
 clear hsz hT
 go_enter Tryz.func86,Tryz.ntmps86
 go_wp2_with fail
 go_loopw [3,4,5,6] (fun u i _ _ wr=>∃(j:Nat) (l:List Nat) (a:Option Addr) (m c:Nat),j<=s.size/\l.length<=j/\i= .int .i64 j/\u= .slice a m c/\CUH w wr s j l (.slice a m c)) (fun _ i _ _ _=>s.size - (intOf i).toNat)
 case atStart=>exact ⟨0, [],none,0,0,Nat.zero_le _,Nat.le_refl _,rfl,rfl,⟨by rw [List.drop_zero,HS.out];rfl,⟨rfl, .inl ⟨rfl,rfl⟩⟩,Below.refl _ _⟩⟩
 case round=>
  obtain ⟨j,l,a,m,c,hj,hlj,rfl,rfl,L⟩:=hrel
  have hrlt:∀b,(Value.slice a m c).ownBlock=some b->w.heap.size<=b/\b<wr.heap.size:=L.own.lt
  have hb:=L.below.size
  by_cases hlt:j<s.size
  .have hne:s.data.toList.drop j≠ [] :=fun e=>by
    have:=congrArg List.length e
    rw [List.length_drop,HS.out] at this
    simp at this;omega
   have hw1:=Lib.decodeL_width (s.data.toList.drop j)
   have hw2:=Lib.decodeL_le _ hne
   rw [List.length_drop,HS.out] at hw2
   obtain ⟨k,hk⟩:∃k,(Lib.decodeL (s.data.toList.drop j)).2=k:=⟨_,rfl⟩
   have hd:=zm5 s j hlt
   rw [hk] at hd hw1 hw2
   have hrs:=L.rest
   rw [Y8 hne,hk] at hrs
   have HRS:=qh hrs
   obtain ⟨rn,hrn⟩:∃rn,(Lib.decodeGo (s.extract j s.size)).1=rn:=⟨_,rfl⟩
   have HD:Hid (∀W,uB w W->uP 125 #[.string (s.extract j s.size)] W fun e w'=>e= .returned (.tuple #[.int .i32 rn, .int .i64 k])/\uB W w'):=fun W hW=>by
    have:=Tryz.utf8_DecodeRuneInString (s.extract j s.size) W (HTT.out.below hW)
    rw [hrn,hd] at this;exact this
   have LL:=qh L
   have ho:=L.own
   clear hrs hne hk hd hrn L
   go_wp2_with (at_builtin;refine wpList_append_lies _ rfl (.tmp 11) (.tmp 13) 120 (by rfl) w.heap.size 3 i0 _ 1 8 Tryz.underlying120 hi0 hz0 hz1 hz2 rfl (by omega) (.slice a m c) l.length (ints l) (by rfl) (ho.alloc _) ⟨wr.heap.size,0,none⟩ 1 1 [.int .i64 (j:Int)] (by rfl) (by rfl) (World.news_of_block (cs:= #[.int .i64 (j:Int)]) (t:=3) (fr:=(0,0)) (heap_alloc_new wr _)) (by simp [Value.oneCell']) (by omega) (by unfold maxLen;omega) (by omega) (by simp;omega) (wr.heap.size+1) (by simp) ?_;intro g cap w7 hown7 hgrow7 hat7 hlt7)
   have hb7:uB w w7:=(LL.out.below.trans (((Below.refl _ _).alloc (Nat.le_refl _) _).mono hb)).trans (Zj hgrow7 (fun k hk=>(hrlt k hk).1) (by simp;omega))
   refine (HD.out w7 hb7).mono ?_
   rintro e w8 ⟨rfl,hb8⟩
   have hb9:Below w.heap.size w7 w8:=hb8.mono hb7.size
   have hlt9:∀b,(Value.slice (some ⟨g,0,none⟩) (l.length+1) cap).ownBlock=some b->w.heap.size<=b/\b<w7.heap.size:=hown7.lt
   go_wp2_with fail
   go_roundw
   case rel=>
    refine ⟨j+k,l++ [j],some ⟨g,0,none⟩,l.length+1,cap,by omega,by simp;omega,by go_num,rfl,⟨?_, ?_,hb7.trans hb9⟩⟩
    .rw [List.append_assoc,List.singleton_append, <-HRS.out,List.drop_drop]
    .rw [zdc,List.length_append,List.length_singleton]
     exact hown7.kept (row:=none) ⟨hb8.os,hb8.tape,hb8.output,hb8.size,fun q hq _=>hb8.block q hq⟩ (by right;simp [Value.ownBlock])
   case measure=>simp [intOf];omega
  .have hjs:j=s.size:=by omega
   have hrs:=L.rest
   have hdz:s.data.toList.drop j= [] :=by rw [hjs, <-HS.out,List.drop_length]
   rw [hdz] at hrs
   simp only [List.length_nil,cutsP,List.append_nil] at hrs
   have HRS:=qh hrs
   have HJ:=qh hjs
   have LL:=qh L
   have ho:=L.own
   have hll:l.length<=1000000000000:=by omega
   clear hrs hdz L hjs
   go_wp2_with (at_builtin;refine wpList_append_lies _ rfl (.tmp 25) (.tmp 28) 120 (by rfl) w.heap.size 3 i0 _ 1 8 Tryz.underlying120 hi0 hz0 hz1 hz2 rfl (by omega) (.slice a m c) l.length (ints l) (by rfl) (ho.alloc _) ⟨wr.heap.size,0,none⟩ 1 1 [.int .i64 (s.size:Int)] (by rfl) (by rfl) (World.news_of_block (cs:= #[.int .i64 (s.size:Int)]) (t:=3) (fr:=(0,0)) (heap_alloc_new wr _)) (by simp [Value.oneCell']) (by omega) (by unfold maxLen;omega) (by omega) (by simp;omega) (wr.heap.size+1) (by simp) ?_;intro g cap w7 hown7 hgrow7 hat7 hlt7)
   have hb7:uB w w7:=(LL.out.below.trans (((Below.refl _ _).alloc (Nat.le_refl _) _).mono hb)).trans (Zj hgrow7 (fun k hk=>(hrlt k hk).1) (by simp;omega))
   go_returns
   have hcu:cuts s=l++ [s.size] :=by rw [cuts, <-HRS.out]
   rw [hcu]
   have hown8:w7.ownsRow w.heap.size 3 1 (.slice (some ⟨g,0,none⟩) (l.length+1) cap) (l.length+1) (ints (l++ [s.size])):=by rw [zdc];exact hown7
   refine ⟨⟨g,cap,by rw [List.length_append,List.length_singleton];rfl, ?_⟩,hb7⟩
   obtain ⟨_,c',e',ho'⟩:=OwnRow.of (base':=w.heap.size) hown8 (Nat.le_refl _)
   injection e' with e1 e2 e3
   subst e1 e3
   obtain ⟨g',e',_,hbc⟩:=ho'.row (.inl (by omega))
   obtain rfl:g=g':=by injection e' with e';injection e'
   refine ⟨by rw [List.length_append,List.length_singleton];exact ho'.cap,ho'.max,hbc.lt,fun i hi=>hbc.at_ i _ ?_⟩
   unfold ints
   rw [List.getElem?_map,List.getElem?_eq_getElem hi]
   rfl
theorem zam (w:World) (s:ByteArray) (hs:s.size<=1000000000000) (hT:Tabs w):
 uP 104 #[.string s] w fun e w'=>e= .returned (.int .i64 (textN s:Int))/\uB w w':=by
 delta uB uP
 have hl:=Yo s
 obtain ⟨L,hL⟩:∃L,(cuts s).length=L:=⟨_,rfl⟩
 have HC:=qh (zek w s hs hT)
 have hn:textN s=L - 1:=by rw [textN,hL]
 rw [hn]
 rw [hL] at hl
 have hw1:IntKind.i64.wrap ((L:Int) - 1)=(L:Int) - 1:=IntWalk.i64_in _ (by omega)
 have hw2:((L - 1:Nat):Int)=(L:Int) - 1:=by omega
 rw [hw2]
 have HL:=qh hL
 clear hL hT hn
 go_enter Tryz.func104,Tryz.ntmps104
 go_wp2_with fail
 refine HC.out.mono ?_
 rintro e w1 ⟨⟨g,c,rfl,_,_,_,_⟩,hb1⟩
 rw [HL.out]
 go_wp2_with fail
 go_returns
 exact ⟨rfl,hb1⟩
def tCheck (s:ByteArray) (k i n:Int):Int:=
 if k≠8/\k≠9 then 31 else if i<0∨(textN s:Int)<i then 32 else if k=9/\(n<1∨(textN s:Int) - i<n) then 32 else 0
set_option maxRecDepth 100000 in
theorem zc7 (w:World) (s:ByteArray) (c:CC) (hb:c.Bnd) (hs:s.size<=1000000000000) (hT:Tabs w):
 uP 85 #[.string s, .agg #[.int .u8 c.k, .slice c.pa c.pl c.pc, .string c.key, .int .i64 c.i, .int .i64 c.j, .int .i64 c.n, .int .u8 c.v.k, .int .i64 c.v.n, .string c.v.s, .slice c.v.la c.v.ll c.v.lc, .slice c.v.oa c.v.ol c.v.oc, .string c.s]] w fun e w'=>e= .returned (.int .i64 (tCheck s c.k c.i c.n))/\Below w.heap.size w w':=by
 delta uP
 have n0:=hb.n0;have n1:=hb.n1;have i0:=hb.i0;have i1:=hb.i1
 obtain ⟨N,hN⟩:∃N,textN s=N:=⟨_,rfl⟩
 have hNl:N<=1000000000000:=by have:=(Yo s).2;rw [<-hN,textN];omega
 have HN:Hid (∀W,Below w.heap.size w W->uP 104 #[.string s] W fun e w'=>e= .returned (.int .i64 (N:Int))/\Below W.heap.size W w'):=fun W hW=>by rw [<-hN];exact zam W s hs (hT.below hW)
 have HBX:=qh (BC.start w #[.int .u8 c.k, .slice c.pa c.pl c.pc, .string c.key, .int .i64 c.i, .int .i64 c.j, .int .i64 c.n, .int .u8 c.v.k, .int .i64 c.v.n, .string c.v.s, .slice c.v.la c.v.ll c.v.lc, .slice c.v.oa c.v.ol c.v.oc, .string c.s] 39)
 have HAL:=qh ((Below.refl _ _).alloc (Nat.le_refl _) (.cells #[.int .u8 c.k, .slice c.pa c.pl c.pc, .string c.key, .int .i64 c.i, .int .i64 c.j, .int .i64 c.n, .int .u8 c.v.k, .int .i64 c.v.n, .string c.v.s, .slice c.v.la c.v.ll c.v.lc, .slice c.v.oa c.v.ol c.v.oc, .string c.s] 39):Below w.heap.size w _)
 obtain ⟨R,hR⟩:∃R,tCheck s c.k c.i c.n=R:=⟨_,rfl⟩
 rw [hR]
 rw [tCheck,hN] at hR
 have HR:=qh hR
 obtain ⟨ck,hck⟩:∃ck,c.k=ck:=⟨_,rfl⟩
 obtain ⟨ci,hci⟩:∃ci,c.i=ci:=⟨_,rfl⟩
 obtain ⟨cn,hcn⟩:∃cn,c.n=cn:=⟨_,rfl⟩
 rw [hck,hci,hcn] at HR
 rw [hcn] at n0 n1
 rw [hci] at i0 i1
 rw [hck,hci,hcn] at HBX HAL ⊢
 clear hR hN hT hb hck hci hcn
 by_cases e8:ck=8
 .cases e8
  have f9:((8:Int)==9)=false:=rfl
  by_cases hi0:ci<0
  .obtain rfl:R=32:=by rw [<-HR.out];simp [hi0]
   go_enter Tryz.func85,Tryz.ntmps85
   go_wp2_with fail
   refine (HN.out _ HAL.out).mono ?_
   rintro e w1 ⟨rfl,hb1⟩
   have D:=HBX.out.keep hb1 (by simp)
   obtain ⟨b0,b1,b2,b3,b4,b5,b6,b7,b8,b9,b10,b11⟩:=row12 D.at_
   have zs:=D.lt
   have HBL:=qh (HAL.out.trans (hb1.mono (by simp)))
   clear D hb1
   go_wp2_with fail
   go_returns
   exact ⟨rfl,HBL.out⟩
  .by_cases hi1:(N:Int)<ci
   .obtain rfl:R=32:=by rw [<-HR.out];simp [hi1]
    go_enter Tryz.func85,Tryz.ntmps85
    go_wp2_with fail
    refine (HN.out _ HAL.out).mono ?_
    rintro e w1 ⟨rfl,hb1⟩
    have D:=HBX.out.keep hb1 (by simp)
    obtain ⟨b0,b1,b2,b3,b4,b5,b6,b7,b8,b9,b10,b11⟩:=row12 D.at_
    have zs:=D.lt
    have HBL:=qh (HAL.out.trans (hb1.mono (by simp)))
    clear D hb1
    go_wp2_with fail
    go_returns
    exact ⟨rfl,HBL.out⟩
   .obtain rfl:R=0:=by rw [<-HR.out];simp [hi0,hi1]
    go_enter Tryz.func85,Tryz.ntmps85
    go_wp2_with fail
    refine (HN.out _ HAL.out).mono ?_
    rintro e w1 ⟨rfl,hb1⟩
    have D:=HBX.out.keep hb1 (by simp)
    obtain ⟨b0,b1,b2,b3,b4,b5,b6,b7,b8,b9,b10,b11⟩:=row12 D.at_
    have zs:=D.lt
    have HBL:=qh (HAL.out.trans (hb1.mono (by simp)))
    clear D hb1
    go_wp2_with fail
    go_returns
    exact ⟨rfl,HBL.out⟩
 .have f8 : (ck !=8)=true:=by simp [e8]
  by_cases e9:ck=9
  .cases e9
   by_cases hi0:ci<0
   .obtain rfl:R=32:=by rw [<-HR.out];simp [hi0]
    go_enter Tryz.func85,Tryz.ntmps85
    go_wp2_with fail
    refine (HN.out _ HAL.out).mono ?_
    rintro e w1 ⟨rfl,hb1⟩
    have D:=HBX.out.keep hb1 (by simp)
    obtain ⟨b0,b1,b2,b3,b4,b5,b6,b7,b8,b9,b10,b11⟩:=row12 D.at_
    have zs:=D.lt
    have HBL:=qh (HAL.out.trans (hb1.mono (by simp)))
    clear D hb1
    go_wp2_with fail
    go_returns
    exact ⟨rfl,HBL.out⟩
   .by_cases hi1:(N:Int)<ci
    .obtain rfl:R=32:=by rw [<-HR.out];simp [hi1]
     go_enter Tryz.func85,Tryz.ntmps85
     go_wp2_with fail
     refine (HN.out _ HAL.out).mono ?_
     rintro e w1 ⟨rfl,hb1⟩
     have D:=HBX.out.keep hb1 (by simp)
     obtain ⟨b0,b1,b2,b3,b4,b5,b6,b7,b8,b9,b10,b11⟩:=row12 D.at_
     have zs:=D.lt
     have HBL:=qh (HAL.out.trans (hb1.mono (by simp)))
     clear D hb1
     go_wp2_with fail
     go_returns
     exact ⟨rfl,HBL.out⟩
    .have hw1:IntKind.i64.wrap ((N:Int) - ci)=(N:Int) - ci:=IntWalk.i64_in _ (by omega)
     by_cases hn1:cn<1
     .obtain rfl:R=32:=by rw [<-HR.out];simp [hi0,hi1,hn1]
      go_enter Tryz.func85,Tryz.ntmps85
      go_wp2_with fail
      refine (HN.out _ HAL.out).mono ?_
      rintro e w1 ⟨rfl,hb1⟩
      have D:=HBX.out.keep hb1 (by simp)
      obtain ⟨b0,b1,b2,b3,b4,b5,b6,b7,b8,b9,b10,b11⟩:=row12 D.at_
      have zs:=D.lt
      have HBL:=qh (HAL.out.trans (hb1.mono (by simp)))
      clear D hb1
      go_wp2_with fail
      go_returns
      exact ⟨rfl,HBL.out⟩
     .by_cases hn2:(N:Int) - ci<cn
      .obtain rfl:R=32:=by rw [<-HR.out];simp [hi0,hi1,hn2]
       go_enter Tryz.func85,Tryz.ntmps85
       go_wp2_with fail
       refine (HN.out _ HAL.out).mono ?_
       rintro e w1 ⟨rfl,hb1⟩
       have D:=HBX.out.keep hb1 (by simp)
       obtain ⟨b0,b1,b2,b3,b4,b5,b6,b7,b8,b9,b10,b11⟩:=row12 D.at_
       have zs:=D.lt
       have HBL:=qh (HAL.out.trans (hb1.mono (by simp)))
       clear D hb1
       go_wp2_with fail
       go_returns
       exact ⟨rfl,HBL.out⟩
      .obtain rfl:R=0:=by rw [<-HR.out];simp [hi0,hi1,hn1,hn2]
       go_enter Tryz.func85,Tryz.ntmps85
       go_wp2_with fail
       refine (HN.out _ HAL.out).mono ?_
       rintro e w1 ⟨rfl,hb1⟩
       have D:=HBX.out.keep hb1 (by simp)
       obtain ⟨b0,b1,b2,b3,b4,b5,b6,b7,b8,b9,b10,b11⟩:=row12 D.at_
       have zs:=D.lt
       have HBL:=qh (HAL.out.trans (hb1.mono (by simp)))
       clear D hb1
       go_wp2_with fail
       go_returns
       exact ⟨rfl,HBL.out⟩
  .have f9:(ck !=9)=true:=by simp [e9]
   obtain rfl:R=31:=by rw [<-HR.out];simp [e8,e9]
   go_enter Tryz.func85,Tryz.ntmps85
   go_wp2_with fail
   go_returns
   exact ⟨rfl,HAL.out⟩
def textDo (s:ByteArray) (k i n:Int) (cs:ByteArray):ByteArray:=
 if k=8 then s.extract 0 ((cuts s).getD i.toNat 0)++cs++s.extract ((cuts s).getD i.toNat 0) s.size
 else s.extract 0 ((cuts s).getD i.toNat 0)++s.extract ((cuts s).getD (i+n).toNat 0) s.size
theorem J0 {s:ByteArray} {k i n:Int} (h:tCheck s k i n=0):(k=8∨(k=9/\1<=n/\i+n<=textN s))/\0<=i/\i<=textN s:=by
 unfold tCheck at h
 by_cases h1:k≠8/\k≠9
 .rw [if_pos h1] at h;omega
 .rw [if_neg h1] at h
  by_cases h2:i<0∨(textN s:Int)<i
  .rw [if_pos h2] at h;omega
  .rw [if_neg h2] at h
   by_cases h3:k=9/\(n<1∨(textN s:Int) - i<n)
   .rw [if_pos h3] at h;omega
   .omega
set_option maxRecDepth 100000 in
theorem zix (w:World) (c:CC):
 uP 126 #[.agg #[.int .u8 c.k, .slice c.pa c.pl c.pc, .string c.key, .int .i64 c.i, .int .i64 c.j, .int .i64 c.n, .int .u8 c.v.k, .int .i64 c.v.n, .string c.v.s, .slice c.v.la c.v.ll c.v.lc, .slice c.v.oa c.v.ol c.v.oc, .string c.s]] w fun e w'=>e= .returned (.bool (decide (4<=c.k/\c.k<=7)))/\Below w.heap.size w w':=by
 delta uP
 have HBX:=qh (BC.start w #[.int .u8 c.k, .slice c.pa c.pl c.pc, .string c.key, .int .i64 c.i, .int .i64 c.j, .int .i64 c.n, .int .u8 c.v.k, .int .i64 c.v.n, .string c.v.s, .slice c.v.la c.v.ll c.v.lc, .slice c.v.oa c.v.ol c.v.oc, .string c.s] 39)
 have HAL:=qh ((Below.refl _ _).alloc (Nat.le_refl _) (.cells #[.int .u8 c.k, .slice c.pa c.pl c.pc, .string c.key, .int .i64 c.i, .int .i64 c.j, .int .i64 c.n, .int .u8 c.v.k, .int .i64 c.v.n, .string c.v.s, .slice c.v.la c.v.ll c.v.lc, .slice c.v.oa c.v.ol c.v.oc, .string c.s] 39):Below w.heap.size w _)
 obtain ⟨R,hR⟩:∃R,decide (4<=c.k/\c.k<=7)=R:=⟨_,rfl⟩
 rw [hR]
 obtain ⟨ck,hck⟩:∃ck,c.k=ck:=⟨_,rfl⟩
 rw [hck] at HBX HAL hR ⊢
 have HR:=qh hR
 clear hck hR
 by_cases e4:ck=4
 .cases e4
  obtain rfl:R=true:=by rw [<-HR.out];rfl
  go_enter Tryz.func126,Tryz.ntmps126
  go_wp2_with fail
  go_returns
  exact ⟨rfl,HAL.out⟩
 have f4:(ck==4)=false:=by simp [e4]
 by_cases e5:ck=5
 .cases e5
  obtain rfl:R=true:=by rw [<-HR.out];rfl
  go_enter Tryz.func126,Tryz.ntmps126
  go_wp2_with fail
  go_returns
  exact ⟨rfl,HAL.out⟩
 have f5:(ck==5)=false:=by simp [e5]
 by_cases e6:ck=6
 .cases e6
  obtain rfl:R=true:=by rw [<-HR.out];rfl
  go_enter Tryz.func126,Tryz.ntmps126
  go_wp2_with fail
  go_returns
  exact ⟨rfl,HAL.out⟩
 have f6:(ck==6)=false:=by simp [e6]
 by_cases e7:ck=7
 .cases e7
  obtain rfl:R=true:=by rw [<-HR.out];rfl
  go_enter Tryz.func126,Tryz.ntmps126
  go_wp2_with fail
  go_returns
  exact ⟨rfl,HAL.out⟩
 have f7:(ck==7)=false:=by simp [e7]
 obtain rfl:R=false:=by rw [<-HR.out];simp;omega
 go_enter Tryz.func126,Tryz.ntmps126
 go_wp2_with fail
 go_returns
 exact ⟨rfl,HAL.out⟩
def lCheck (n:Nat) (k i j:Int):Int:=
 if ¬(4<=k/\k<=7) then 31 else if i<0∨(n:Int)<i∨(i=n/\k≠4) then 32 else if k=7/\(j<0∨(n:Int)<=j) then 32 else 0
theorem Yx {n:Nat} {k i j:Int} (h:lCheck n k i j=0):4<=k/\k<=7/\0<=i/\i<=n/\(k≠4->i<n)/\(k=7->0<=j/\j<n):=by
 unfold lCheck at h
 by_cases h1:¬(4<=k/\k<=7)
 .rw [if_pos h1] at h;omega
 .rw [if_neg h1] at h
  by_cases h2:i<0∨(n:Int)<i∨(i=n/\k≠4)
  .rw [if_pos h2] at h;omega
  .rw [if_neg h2] at h
   by_cases h3:k=7/\(j<0∨(n:Int)<=j)
   .rw [if_pos h3] at h;omega
   .omega
set_option maxRecDepth 100000 in
theorem Q9 (w:World) (n:Nat) (hn:n<=9223372036854775807) (c:CC):
 uP 87 #[.int .i64 n, .agg #[.int .u8 c.k, .slice c.pa c.pl c.pc, .string c.key, .int .i64 c.i, .int .i64 c.j, .int .i64 c.n, .int .u8 c.v.k, .int .i64 c.v.n, .string c.v.s, .slice c.v.la c.v.ll c.v.lc, .slice c.v.oa c.v.ol c.v.oc, .string c.s]] w fun e w'=>e= .returned (.int .i64 (lCheck n c.k c.i c.j))/\Below w.heap.size w w':=by
 delta uP
 have HBX:=qh (BC.start w #[.int .u8 c.k, .slice c.pa c.pl c.pc, .string c.key, .int .i64 c.i, .int .i64 c.j, .int .i64 c.n, .int .u8 c.v.k, .int .i64 c.v.n, .string c.v.s, .slice c.v.la c.v.ll c.v.lc, .slice c.v.oa c.v.ol c.v.oc, .string c.s] 39)
 have HAL:=qh ((Below.refl _ _).alloc (Nat.le_refl _) (.cells #[.int .u8 c.k, .slice c.pa c.pl c.pc, .string c.key, .int .i64 c.i, .int .i64 c.j, .int .i64 c.n, .int .u8 c.v.k, .int .i64 c.v.n, .string c.v.s, .slice c.v.la c.v.ll c.v.lc, .slice c.v.oa c.v.ol c.v.oc, .string c.s] 39):Below w.heap.size w _)
 have HKN:Hid (∀W,uP 126 #[.agg #[.int .u8 c.k, .slice c.pa c.pl c.pc, .string c.key, .int .i64 c.i, .int .i64 c.j, .int .i64 c.n, .int .u8 c.v.k, .int .i64 c.v.n, .string c.v.s, .slice c.v.la c.v.ll c.v.lc, .slice c.v.oa c.v.ol c.v.oc, .string c.s]] W fun e w'=>e= .returned (.bool (decide (4<=c.k/\c.k<=7)))/\Below W.heap.size W w'):=fun W=>zix W c
 obtain ⟨KN,hKN⟩:∃KN,decide (4<=c.k/\c.k<=7)=KN:=⟨_,rfl⟩
 rw [hKN] at HKN
 obtain ⟨R,hR⟩:∃R,lCheck n c.k c.i c.j=R:=⟨_,rfl⟩
 rw [hR]
 rw [lCheck] at hR
 obtain ⟨ck,hck⟩:∃ck,c.k=ck:=⟨_,rfl⟩
 obtain ⟨ci,hci⟩:∃ci,c.i=ci:=⟨_,rfl⟩
 obtain ⟨cj,hcj⟩:∃cj,c.j=cj:=⟨_,rfl⟩
 rw [hck,hci,hcj] at hR HKN HBX HAL ⊢
 rw [hck] at hKN
 have HR:=qh hR
 have HKE:=qh hKN
 clear hR hck hci hcj hKN
 cases KN with
 | false=>
   have hk:¬(4<=ck/\ck<=7):=by simpa using HKE.out
   have HK:=qh hk
   clear hk
   obtain rfl:R=31:=by rw [<-HR.out];rw [if_pos HK.out]
   go_enter Tryz.func87,Tryz.ntmps87
   go_wp2_with fail
   refine (HKN.out _).mono ?_
   rintro e w1 ⟨rfl,hb1⟩
   have D:=HBX.out.keep hb1 (by simp)
   obtain ⟨b0,b1,b2,b3,b4,b5,b6,b7,b8,b9,b10,b11⟩:=row12 D.at_
   have zs:=D.lt
   have HBL:=qh (HAL.out.trans (hb1.mono (by simp)))
   clear D hb1
   go_wp2_with fail
   go_returns
   exact ⟨rfl,HBL.out⟩
 | true =>
   have hk:4<=ck/\ck<=7:=by simpa using HKE.out
   have HK:=qh hk
   clear hk
   by_cases h1:ci<0
   .obtain rfl:R=32:=by rw [<-HR.out];rw [if_neg (fun h=>h HK.out),if_pos (.inl h1)]
    go_enter Tryz.func87,Tryz.ntmps87
    go_wp2_with fail
    refine (HKN.out _).mono ?_
    rintro e w1 ⟨rfl,hb1⟩
    have D:=HBX.out.keep hb1 (by simp)
    obtain ⟨b0,b1,b2,b3,b4,b5,b6,b7,b8,b9,b10,b11⟩:=row12 D.at_
    have zs:=D.lt
    have HBL:=qh (HAL.out.trans (hb1.mono (by simp)))
    clear D hb1
    go_wp2_with fail
    go_returns
    exact ⟨rfl,HBL.out⟩
   by_cases h2:(n:Int)<ci
   .obtain rfl:R=32:=by rw [<-HR.out];rw [if_neg (fun h=>h HK.out),if_pos (.inr (.inl h2))]
    go_enter Tryz.func87,Tryz.ntmps87
    go_wp2_with fail
    refine (HKN.out _).mono ?_
    rintro e w1 ⟨rfl,hb1⟩
    have D:=HBX.out.keep hb1 (by simp)
    obtain ⟨b0,b1,b2,b3,b4,b5,b6,b7,b8,b9,b10,b11⟩:=row12 D.at_
    have zs:=D.lt
    have HBL:=qh (HAL.out.trans (hb1.mono (by simp)))
    clear D hb1
    go_wp2_with fail
    go_returns
    exact ⟨rfl,HBL.out⟩
   by_cases h3:ci=n
   .cases h3
    by_cases h4:ck=4
    .cases h4
     obtain rfl:R=0:=by rw [<-HR.out];rw [if_neg (fun h=>h HK.out),if_neg (by omega),if_neg (by omega)]
     go_enter Tryz.func87,Tryz.ntmps87
     go_wp2_with fail
     refine (HKN.out _).mono ?_
     rintro e w1 ⟨rfl,hb1⟩
     have D:=HBX.out.keep hb1 (by simp)
     obtain ⟨b0,b1,b2,b3,b4,b5,b6,b7,b8,b9,b10,b11⟩:=row12 D.at_
     have zs:=D.lt
     have HBL:=qh (HAL.out.trans (hb1.mono (by simp)))
     clear D hb1
     go_wp2_with fail
     go_returns
     exact ⟨rfl,HBL.out⟩
    .have f4:(ck !=4)=true:=by simp [h4]
     obtain rfl:R=32:=by rw [<-HR.out];rw [if_neg (fun h=>h HK.out),if_pos (.inr (.inr ⟨rfl,h4⟩))]
     go_enter Tryz.func87,Tryz.ntmps87
     go_wp2_with fail
     refine (HKN.out _).mono ?_
     rintro e w1 ⟨rfl,hb1⟩
     have D:=HBX.out.keep hb1 (by simp)
     obtain ⟨b0,b1,b2,b3,b4,b5,b6,b7,b8,b9,b10,b11⟩:=row12 D.at_
     have zs:=D.lt
     have HBL:=qh (HAL.out.trans (hb1.mono (by simp)))
     clear D hb1
     go_wp2_with fail
     go_returns
     exact ⟨rfl,HBL.out⟩
   .have f3:(ci==(n:Int))=false:=by simp [h3]
    by_cases h7:ck=7
    .cases h7
     by_cases h8:cj<0
     .obtain rfl:R=32:=by rw [<-HR.out];rw [if_neg (fun h=>h HK.out),if_neg (by omega),if_pos (by omega)]
      go_enter Tryz.func87,Tryz.ntmps87
      go_wp2_with fail
      refine (HKN.out _).mono ?_
      rintro e w1 ⟨rfl,hb1⟩
      have D:=HBX.out.keep hb1 (by simp)
      obtain ⟨b0,b1,b2,b3,b4,b5,b6,b7,b8,b9,b10,b11⟩:=row12 D.at_
      have zs:=D.lt
      have HBL:=qh (HAL.out.trans (hb1.mono (by simp)))
      clear D hb1
      go_wp2_with fail
      go_returns
      exact ⟨rfl,HBL.out⟩
     .by_cases h9:(n:Int)<=cj
      .obtain rfl:R=32:=by rw [<-HR.out];rw [if_neg (fun h=>h HK.out),if_neg (by omega),if_pos (by omega)]
       go_enter Tryz.func87,Tryz.ntmps87
       go_wp2_with fail
       refine (HKN.out _).mono ?_
       rintro e w1 ⟨rfl,hb1⟩
       have D:=HBX.out.keep hb1 (by simp)
       obtain ⟨b0,b1,b2,b3,b4,b5,b6,b7,b8,b9,b10,b11⟩:=row12 D.at_
       have zs:=D.lt
       have HBL:=qh (HAL.out.trans (hb1.mono (by simp)))
       clear D hb1
       go_wp2_with fail
       go_returns
       exact ⟨rfl,HBL.out⟩
      .obtain rfl:R=0:=by rw [<-HR.out];rw [if_neg (fun h=>h HK.out),if_neg (by omega),if_neg (by omega)]
       go_enter Tryz.func87,Tryz.ntmps87
       go_wp2_with fail
       refine (HKN.out _).mono ?_
       rintro e w1 ⟨rfl,hb1⟩
       have D:=HBX.out.keep hb1 (by simp)
       obtain ⟨b0,b1,b2,b3,b4,b5,b6,b7,b8,b9,b10,b11⟩:=row12 D.at_
       have zs:=D.lt
       have HBL:=qh (HAL.out.trans (hb1.mono (by simp)))
       clear D hb1
       go_wp2_with fail
       go_returns
       exact ⟨rfl,HBL.out⟩
    .have f7:(ck==7)=false:=by simp [h7]
     obtain rfl:R=0:=by rw [<-HR.out];rw [if_neg (fun h=>h HK.out),if_neg (by omega),if_neg (by omega)]
     go_enter Tryz.func87,Tryz.ntmps87
     go_wp2_with fail
     refine (HKN.out _).mono ?_
     rintro e w1 ⟨rfl,hb1⟩
     have D:=HBX.out.keep hb1 (by simp)
     obtain ⟨b0,b1,b2,b3,b4,b5,b6,b7,b8,b9,b10,b11⟩:=row12 D.at_
     have zs:=D.lt
     have HBL:=qh (HAL.out.trans (hb1.mono (by simp)))
     clear D hb1
     go_wp2_with fail
     go_returns
     exact ⟨rfl,HBL.out⟩
def listDo (l:List V) (k i j:Int) (v:V):List V:=
 if k=4 then insL l i.toNat v else if k=5 then remL l i.toNat else if k=6 then l.set i.toNat v else insL (remL l i.toNat) j.toNat (l.getD i.toNat V.none)
theorem Xm {w W:World} {B0 B1:Nat} {l:List V} {a:Option Addr} {n c:Nat} (h:IsVals (only (fun b=>B1<=b) w) w.heap.size l a n c) (hB:B0<=B1) (hb:uB w W):IsVals (only (fun b=>B0<=b) W) W.heap.size l a n c:=by
 have hsh:Shows (only (fun b=>B1<=b) w) (only (fun b=>B0<=b) W) w.heap.size:=Zd fun k hk hl=>⟨Nat.le_trans hB hk,hb.block k hl⟩
 obtain ⟨h1,h2,h3,h4,b,o,f,h5,h6⟩:=h
 exact ⟨h1,h2,h3,h4,b,o,f,fun hp=>⟨(h5 hp).1,Nat.lt_of_lt_of_le (h5 hp).2 hb.size⟩,fun i hi=>⟨(h6 i hi).1.sub hsh (h5 (by omega)).2,((h6 i hi).2.sub hsh).more hb.size⟩⟩
theorem zay (w:World) (B:Nat):IsFields w B [] none 0 0:=⟨rfl,Nat.le_refl _,by omega,by omega,0,0,fun _=>vzero,fun h=>absurd h (by omega),fun i h=>absurd h (by simp)⟩
theorem Xl (W:World) (k n:Int) (s:ByteArray) (a:Option Addr) (m c:Nat) (a':Option Addr) (m' c':Nat):
 (Instr.field 36 (.agg #[.int .u8 k, .int .i64 n, .string s, .slice a m c, .slice a' m' c']) 3).run Tryz.prog W= .ok (.slice a m c) W:=by
 first
  |kernel_rfl
  |(simp [Instr.field,run_underlying Tryz.underlying36,go_sem];done)
def kindsP (x:V) (k i j n:Int) (key:ByteArray):Int:=
 if k=1 then (if x.kd≠2 then 31 else 0)
 else if k=2∨k=3 then (if x.kd≠5 then 31 else if k=3/\fieldIs x.os key=false then 33 else 0)
 else if k=8∨k=9 then (if x.kd≠3 then 31 else tCheck x.str k i n)
 else if x.kd≠4 then 31 else lCheck x.ls.length k i j
structure KBk (w W:World) (c:VC) (cc:CC):Prop where
 v:BC W w.heap.size (vcells c)
 c:BC W (w.heap.size+1) (ccells cc)
 below:Below w.heap.size w W
theorem KBk.start (w:World) (c:VC) (cc:CC) (t1 t2:TypeId):KBk w ((w.alloc (.cells #[.int .u8 c.k, .int .i64 c.n, .string c.s, .slice c.la c.ll c.lc, .slice c.oa c.ol c.oc] t1)).alloc (.cells #[.int .u8 cc.k, .slice cc.pa cc.pl cc.pc, .string cc.key, .int .i64 cc.i, .int .i64 cc.j, .int .i64 cc.n, .int .u8 cc.v.k, .int .i64 cc.v.n, .string cc.v.s, .slice cc.v.la cc.v.ll cc.v.lc, .slice cc.v.oa cc.v.ol cc.v.oc, .string cc.s] t2)) c cc:=by
 have c2:=BC.start (w.alloc (.cells (uV c) t1)) #[.int .u8 cc.k, .slice cc.pa cc.pl cc.pc, .string cc.key, .int .i64 cc.i, .int .i64 cc.j, .int .i64 cc.n, .int .u8 cc.v.k, .int .i64 cc.v.n, .string cc.v.s, .slice cc.v.la cc.v.ll cc.v.lc, .slice cc.v.oa cc.v.ol cc.v.oc, .string cc.s] t2
 rw [World.size_alloc] at c2
 exact ⟨(BC.start w (uV c) t1).keep ((Below.refl _ _).alloc (Nat.le_refl _) _) (by simp),c2,((Below.refl _ _).alloc (Nat.le_refl _) _).alloc (by simp) _⟩
theorem KBk.next {w W W':World} {c:VC} {cc:CC} {B:Nat} (h:KBk w W c cc) (hb:Below B W W') (hB:w.heap.size+2<=B):KBk w W' c cc:=
 ⟨h.v.keep hb (by omega),h.c.keep hb (by omega),h.below.trans (hb.mono (by omega))⟩
set_option maxRecDepth 100000 in
theorem zqs (w:World) (vk vn:Int) (vs:ByteArray) (la:Option Addr) (ll lc:Nat) (oa:Option Addr) (ol oc:Nat) (v:V) (hv:IsVal w w.heap.size v ⟨vk,vn,vs,la,ll,lc,oa,ol,oc⟩) (hs:vs.size<=1000000000000) (cc:CC) (hcb:cc.Bnd) (hT:Tabs w):
 uP 69 #[.agg #[.int .u8 vk, .int .i64 vn, .string vs, .slice la ll lc, .slice oa ol oc], .agg #[.int .u8 cc.k, .slice cc.pa cc.pl cc.pc, .string cc.key, .int .i64 cc.i, .int .i64 cc.j, .int .i64 cc.n, .int .u8 cc.v.k, .int .i64 cc.v.n, .string cc.v.s, .slice cc.v.la cc.v.ll cc.v.lc, .slice cc.v.oa cc.v.ol cc.v.oc, .string cc.s]] w fun e w'=>e= .returned (.int .i64 (kindsP v cc.k cc.i cc.j cc.n cc.key))/\uB w w':=by
 delta uB uP
 obtain ⟨k',n',s',l,o,rfl⟩:=v.eta
 obtain ⟨e1,e2,e3,hbd,hvl,hvo⟩:=hv.lists
 dsimp only at e1 e2 e3 hvl hvo
 subst e1 e2 e3
 have k1:=hvl.few;have k2:=hvl.max;have k3:=hvo.few;have k4:=hvo.max
 have HF:Hid (∀W,uB w W->uP 75 #[.agg #[.int .u8 vk, .int .i64 vn, .string vs, .slice la ll lc, .slice oa ol oc], .string cc.key] W fun e w'=>e= .returned (.tuple #[.int .i64 (fieldK o cc.key:Int), .bool (fieldIs o cc.key)])/\uB W w'):=fun W hW=>Yi W o cc.key vk vn vs la ll lc oa ol oc (hvo.later_ hW)
 have HTC:Hid (∀W,uB w W->uP 85 #[.string vs, .agg #[.int .u8 cc.k, .slice cc.pa cc.pl cc.pc, .string cc.key, .int .i64 cc.i, .int .i64 cc.j, .int .i64 cc.n, .int .u8 cc.v.k, .int .i64 cc.v.n, .string cc.v.s, .slice cc.v.la cc.v.ll cc.v.lc, .slice cc.v.oa cc.v.ol cc.v.oc, .string cc.s]] W fun e w'=>e= .returned (.int .i64 (tCheck vs cc.k cc.i cc.n))/\uB W w'):=fun W hW=>zc7 W vs cc hcb hs (hT.below hW)
 have HLC:Hid (∀W,uB w W->uP 87 #[.int .i64 ll, .agg #[.int .u8 cc.k, .slice cc.pa cc.pl cc.pc, .string cc.key, .int .i64 cc.i, .int .i64 cc.j, .int .i64 cc.n, .int .u8 cc.v.k, .int .i64 cc.v.n, .string cc.v.s, .slice cc.v.la cc.v.ll cc.v.lc, .slice cc.v.oa cc.v.ol cc.v.oc, .string cc.s]] W fun e w'=>e= .returned (.int .i64 (lCheck ll cc.k cc.i cc.j))/\uB W w'):=fun W _=>Q9 W ll (by omega) cc
 obtain ⟨K,hK⟩:∃K,fieldK o cc.key=K:=⟨_,rfl⟩
 obtain ⟨is,hi⟩:∃is,fieldIs o cc.key=is:=⟨_,rfl⟩
 rw [hK,hi] at HF
 obtain ⟨R,hR⟩:∃R,kindsP (.mk vk vn vs l o) cc.k cc.i cc.j cc.n cc.key=R:=⟨_,rfl⟩
 rw [hR]
 simp only [kindsP,V.kd,V.os,V.ls,V.str,hi, <-hvl.len] at hR
 have HB:=qh (KBk.start w ⟨vk,vn,vs,la,ll,lc,oa,ol,oc⟩ cc 36 39)
 obtain ⟨tc,htc⟩:∃tc,tCheck vs cc.k cc.i cc.n=tc:=⟨_,rfl⟩
 obtain ⟨lk,hlk⟩:∃lk,lCheck ll cc.k cc.i cc.j=lk:=⟨_,rfl⟩
 rw [htc] at HTC
 rw [hlk] at HLC
 rw [htc,hlk] at hR
 obtain ⟨ck,hck⟩:∃ck,cc.k=ck:=⟨_,rfl⟩
 rw [hck] at hR HTC HLC HB ⊢
 have HCK:=qh hck
 have HR:=qh hR
 clear hvl hvo hv hbd hK hi hR hT hcb htc hlk hck
 by_cases e1:ck=1
 .cases e1
  by_cases h:vk=2
  .cases h
   obtain rfl:R=0:=by rw [<-HR.out];rfl
   go_enter Tryz.func69,Tryz.ntmps69
   go_wp2_with fail
   go_returns
   exact ⟨rfl,HB.out.below⟩
  .have f:(vk !=2)=true:=by simp [h]
   obtain rfl:R=31:=by rw [<-HR.out];simp [h]
   go_enter Tryz.func69,Tryz.ntmps69
   go_wp2_with fail
   go_returns
   exact ⟨rfl,HB.out.below⟩
 have g1:(ck==1)=false:=by simp [e1]
 by_cases e2:ck=2
 .cases e2
  by_cases h:vk=5
  .cases h
   obtain rfl:R=0:=by rw [<-HR.out];simp
   go_enter Tryz.func69,Tryz.ntmps69
   go_wp2_with fail
   refine (HF.out _ HB.out.below).mono ?_
   rintro e W ⟨rfl,hb1⟩
   have B:=HB.out.next hb1 (by simp)
   obtain ⟨v0,v1,v2,v3,v4⟩:=row5 B.v.at_
   obtain ⟨b0,b1,b2,b3,b4,b5,b6,b7,b8,b9,b10,b11⟩:=row12 B.c.at_
   have z0:=B.v.lt;have z1:=B.c.lt
   rw [HCK.out] at b0
   have HBW:=qh B.below
   clear B hb1
   go_wp2_with fail
   go_returns
   exact ⟨rfl,HBW.out⟩
  .have f:(vk !=5)=true:=by simp [h]
   obtain rfl:R=31:=by rw [<-HR.out];simp [h]
   go_enter Tryz.func69,Tryz.ntmps69
   go_wp2_with fail
   refine (HF.out _ HB.out.below).mono ?_
   rintro e W ⟨rfl,hb1⟩
   have B:=HB.out.next hb1 (by simp)
   obtain ⟨v0,v1,v2,v3,v4⟩:=row5 B.v.at_
   obtain ⟨b0,b1,b2,b3,b4,b5,b6,b7,b8,b9,b10,b11⟩:=row12 B.c.at_
   have z0:=B.v.lt;have z1:=B.c.lt
   rw [HCK.out] at b0
   have HBW:=qh B.below
   clear B hb1
   go_wp2_with fail
   go_returns
   exact ⟨rfl,HBW.out⟩
 have g2:(ck==2)=false:=by simp [e2]
 by_cases e3:ck=3
 .cases e3
  by_cases h:vk=5
  .cases h
   cases is with
   | true=>
     obtain rfl:R=0:=by rw [<-HR.out];simp
     go_enter Tryz.func69,Tryz.ntmps69
     go_wp2_with fail
     refine (HF.out _ HB.out.below).mono ?_
     rintro e W ⟨rfl,hb1⟩
     have B:=HB.out.next hb1 (by simp)
     obtain ⟨v0,v1,v2,v3,v4⟩:=row5 B.v.at_
     obtain ⟨b0,b1,b2,b3,b4,b5,b6,b7,b8,b9,b10,b11⟩:=row12 B.c.at_
     have z0:=B.v.lt;have z1:=B.c.lt
     rw [HCK.out] at b0
     have HBW:=qh B.below
     clear B hb1
     go_wp2_with fail
     go_returns
     exact ⟨rfl,HBW.out⟩
   | false=>
     obtain rfl:R=33:=by rw [<-HR.out];simp
     go_enter Tryz.func69,Tryz.ntmps69
     go_wp2_with fail
     refine (HF.out _ HB.out.below).mono ?_
     rintro e W ⟨rfl,hb1⟩
     have B:=HB.out.next hb1 (by simp)
     obtain ⟨v0,v1,v2,v3,v4⟩:=row5 B.v.at_
     obtain ⟨b0,b1,b2,b3,b4,b5,b6,b7,b8,b9,b10,b11⟩:=row12 B.c.at_
     have z0:=B.v.lt;have z1:=B.c.lt
     rw [HCK.out] at b0
     have HBW:=qh B.below
     clear B hb1
     go_wp2_with fail
     go_returns
     exact ⟨rfl,HBW.out⟩
  .have f:(vk !=5)=true:=by simp [h]
   obtain rfl:R=31:=by rw [<-HR.out];simp [h]
   go_enter Tryz.func69,Tryz.ntmps69
   go_wp2_with fail
   refine (HF.out _ HB.out.below).mono ?_
   rintro e W ⟨rfl,hb1⟩
   have B:=HB.out.next hb1 (by simp)
   obtain ⟨v0,v1,v2,v3,v4⟩:=row5 B.v.at_
   obtain ⟨b0,b1,b2,b3,b4,b5,b6,b7,b8,b9,b10,b11⟩:=row12 B.c.at_
   have z0:=B.v.lt;have z1:=B.c.lt
   rw [HCK.out] at b0
   have HBW:=qh B.below
   clear B hb1
   go_wp2_with fail
   go_returns
   exact ⟨rfl,HBW.out⟩
 have g3:(ck==3)=false:=by simp [e3]
 by_cases e8:ck=8
 .cases e8
  by_cases h:vk=3
  .cases h
   obtain rfl:R=tc:=by rw [<-HR.out];simp
   go_enter Tryz.func69,Tryz.ntmps69
   go_wp2_with fail
   refine (HTC.out _ HB.out.below).mono ?_
   rintro e W ⟨rfl,hb1⟩
   have B:=HB.out.next hb1 (by simp)
   obtain ⟨v0,v1,v2,v3,v4⟩:=row5 B.v.at_
   obtain ⟨b0,b1,b2,b3,b4,b5,b6,b7,b8,b9,b10,b11⟩:=row12 B.c.at_
   have z0:=B.v.lt;have z1:=B.c.lt
   rw [HCK.out] at b0
   have HBW:=qh B.below
   clear B hb1
   go_wp2_with fail
   go_returns
   exact ⟨rfl,HBW.out⟩
  .have f:(vk !=3)=true:=by simp [h]
   obtain rfl:R=31:=by rw [<-HR.out];simp [h]
   go_enter Tryz.func69,Tryz.ntmps69
   go_wp2_with fail
   go_returns
   exact ⟨rfl,HB.out.below⟩
 have g8:(ck==8)=false:=by simp [e8]
 by_cases e9:ck=9
 .cases e9
  by_cases h:vk=3
  .cases h
   obtain rfl:R=tc:=by rw [<-HR.out];simp
   go_enter Tryz.func69,Tryz.ntmps69
   go_wp2_with fail
   refine (HTC.out _ HB.out.below).mono ?_
   rintro e W ⟨rfl,hb1⟩
   have B:=HB.out.next hb1 (by simp)
   obtain ⟨v0,v1,v2,v3,v4⟩:=row5 B.v.at_
   obtain ⟨b0,b1,b2,b3,b4,b5,b6,b7,b8,b9,b10,b11⟩:=row12 B.c.at_
   have z0:=B.v.lt;have z1:=B.c.lt
   rw [HCK.out] at b0
   have HBW:=qh B.below
   clear B hb1
   go_wp2_with fail
   go_returns
   exact ⟨rfl,HBW.out⟩
  .have f:(vk !=3)=true:=by simp [h]
   obtain rfl:R=31:=by rw [<-HR.out];simp [h]
   go_enter Tryz.func69,Tryz.ntmps69
   go_wp2_with fail
   go_returns
   exact ⟨rfl,HB.out.below⟩
 have g9:(ck==9)=false:=by simp [e9]
 by_cases h:vk=4
 .cases h
  obtain rfl:R=lk:=by rw [<-HR.out];rw [if_neg e1,if_neg (by omega),if_neg (by omega),if_neg (by omega)]
  go_enter Tryz.func69,Tryz.ntmps69
  go_wp2_with fail
  refine (HLC.out _ HB.out.below).mono ?_
  rintro e W ⟨rfl,hb1⟩
  have B:=HB.out.next hb1 (by simp)
  obtain ⟨v0,v1,v2,v3,v4⟩:=row5 B.v.at_
  obtain ⟨b0,b1,b2,b3,b4,b5,b6,b7,b8,b9,b10,b11⟩:=row12 B.c.at_
  have z0:=B.v.lt;have z1:=B.c.lt
  rw [HCK.out] at b0
  have HBW:=qh B.below
  clear B hb1
  go_wp2_with fail
  go_returns
  exact ⟨rfl,HBW.out⟩
 .have f:(vk !=4)=true:=by simp [h]
  obtain rfl:R=31:=by rw [<-HR.out];rw [if_neg e1,if_neg (by omega),if_neg (by omega),if_pos h]
  go_enter Tryz.func69,Tryz.ntmps69
  go_wp2_with fail
  go_returns
  exact ⟨rfl,HB.out.below⟩
theorem zbj (x y:List UInt8):Op.bytesLess x y=true∨x=y∨Op.bytesLess y x=true:=by
 simp only [bytesLess_eq,decide_eq_true_eq]
 by_cases h:x<y
 .exact .inl h
 .by_cases h2:y<x
  .exact .inr (.inr h2)
  .exact .inr (.inl (List.le_antisymm h2 h))
theorem X8 (x y:List UInt8) (h:Op.bytesLess x y=true):Op.bytesLess y x=false/\x≠y:=by
 simp only [bytesLess_eq,decide_eq_true_eq,decide_eq_false_iff_not] at h ⊢
 exact ⟨List.lt_asymm h,fun e=>by subst e;exact List.lt_irrefl _ h⟩
theorem zh7 {l:List V} {k:Nat} (h:soundL (l.take k)=true) (kl:k<l.length) (e:l[k].sound=true):Hid (soundL (l.take (k+1))=true):=by
 rw [Yb l k kl]
 show soundL _=true
 rw [Kw] at h ⊢
 intro v hv
 rcases List.mem_append.1 hv with h1|h1
 .exact h v h1
 .rw [List.mem_singleton] at h1;rw [h1];exact e
theorem zpp {l:List V} {k:Nat} (kl:k<l.length) (e:l[k].sound=false):soundL l=false:=by
 cases h:soundL l with
 |false=>rfl
 |true=>rw [Kw] at h;rw [h _ (List.getElem_mem kl)] at e;cases e
theorem zbq {o:List (ByteArray×V)} {k:Nat} (h:soundO (o.take k)=true) (kl:k<o.length) (e1:Lib.validD o[k].1.data.toList=true) (e:o[k].2.sound=true):soundO (o.take (k+1))=true:=by
 rw [Yb o k kl]
 rw [K0] at h ⊢
 intro v hv
 rcases List.mem_append.1 hv with h1|h1
 .exact h v h1
 .rw [List.mem_singleton] at h1;rw [h1];exact ⟨e1,e⟩
theorem zc2 {o:List (ByteArray×V)} {k:Nat} (kl:k<o.length) (e:Lib.validD o[k].1.data.toList=false∨o[k].2.sound=false):soundO o=false:=by
 cases h:soundO o with
 |false=>rfl
 | true=>
   rw [K0] at h
   have:=h _ (List.getElem_mem kl)
   rcases e with e|e
   .rw [this.1] at e;cases e
   .rw [this.2] at e;cases e
theorem zb9 {o:List (ByteArray×V)} {j:Nat} (h:rising (o.take (j+1))=true) (kl:j+1<o.length) (e:Op.bytesLess o[j].1.toList o[j+1].1.toList=true):rising (o.take (j+1+1))=true:=by
 rw [Kp] at h ⊢
 intro i hi
 simp only [List.length_take] at hi
 simp only [List.getElem_take]
 by_cases hij:i=j
 .subst hij;exact e
 .have:=h i (by simp only [List.length_take];omega)
  simpa only [List.getElem_take] using this
theorem Jw {o:List (ByteArray×V)} {j:Nat} (kl:j+1<o.length) (e:Op.bytesLess o[j].1.toList o[j+1].1.toList=false):rising o=false:=by
 cases h:rising o with
 |false=>rfl
 |true=>rw [Kp] at h;rw [h j kl] at e;cases e
theorem zel (o:List (ByteArray×V)):rising (o.take 1)=true:=by
 cases o with
 |nil=>rfl
 |cons f r=>simp [rising]
theorem len0 {α:Type} {l:List α} {n:Nat} (h:n=l.length) (h0:n=0):l= [] :=List.eq_nil_of_length_eq_zero (by omega)
theorem zqq {k n:Int} {s:ByteArray} {ll ol:Nat} (h:plainB k n s ll ol=true):
 (k=0/\n=0/\s.toList= [] /\ll=0/\ol=0)∨(k=1/\(n=0∨n=1)/\s.toList= [] /\ll=0/\ol=0)∨(k=2/\s.toList= [] /\ll=0/\ol=0)∨
 (k=3/\n=0/\Lib.validD s.data.toList=true/\ll=0/\ol=0)∨(k=4/\n=0/\s.toList= [] /\ol=0)∨(k=5/\n=0/\s.toList= [] /\ll=0):=by
 unfold plainB at h
 split at h
 .rename_i hk;simp at h;simp [hk,h]
 .split at h
  .rename_i hk;simp at h;simp [hk,h]
  .split at h
   .rename_i hk;simp at h;simp [hk,h]
   .split at h
    .rename_i hk;simp at h;simp [hk,h]
    .split at h
     .rename_i hk;simp at h;simp [hk,h]
     .split at h
      .rename_i hk;simp at h;simp [hk,h]
      .cases h
theorem Jo {s:ByteArray} (h:s.toList= []):Lib.validD s.data.toList=true:=by
 rw [<-ByteArray.toList_eq,h];exact Lib.validD_nil
end Go.Proofs.YtnjgbiachcfigaaGreatDoor
