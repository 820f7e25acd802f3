/-
  Contracts of the functions that the law reaches: DERIVED: THE SHELF's CONTRACTS AT THIS DUMP, IN PLAIN WORDS (tools/lay-plain.mjs out of 'YtgcfhkceejcliaaGreatDoorShelf.lean', which tools/lay-shelf.mjs wrote): THE SAME DECLARATIONS UNDER THE SAME NAMES: 'import', 'namespace', 'open', 'def', 'theorem' AND NOTHING ELSE: no command of the shelf's: FOR A HAND-IN. Each laying: the table of numbers ('.._ren') and one theorem, a field a fact of the dump's own or the kernel's comparison; each contract: ONE APPLICATION. conciliatorref01: Weight, Deep and Sound of a value in memory are the plain functions' answers. conciliatorref01.Sound: of a value in memory it is the plain function's answer. conciliatorref04.cuts, Len. conciliatorref04.Len, Check. conciliatorref04.Do, where it may be done. conciliatorref05.known, Check. conciliatorref05.Do, where it may be done. conciliatorref06.kinds. conciliatorref01.Sound: of a value in memory it is the plain function's answer. Paths: slices.Equal over steps, conciliatorref03.Begins, Same and Sound, path.Sound. slices.IndexFunc and ContainsFunc over steps, path.Sound, conciliatorref03.Sound. conciliatorref03.Sound.
-/
import Derived.Test.YtgcfhkceejcliaaGreatDoorEnc7
import Derived.Ground.NamesProg
import Derived.Shelf.Unicode.ValidAny
import Derived.Test.YtgcfhkceejcliaaGreatDoorProg
import Derived.Laws.AppendOwn
import Derived.Sort.Walk0
import Derived.Laws.StructEq
namespace Go.Proofs
open Go.Shelf
def Tryz.lays196_ren:Go.Shelf.Ren:=⟨fun|196=>60|259=>93|n=>n,fun|9=>9|4=>4|3=>3|5=>5|12=>12|119=>144|0=>0|46=>100|139=>147|138=>146|53=>78|n=>n,fun|3=>0|4=>1|n=>n⟩
theorem Tryz.lays196:Go.Proofs.Lays.n196 Tryz.prog Tryz.lays196_ren:= {
  mixed:=by kernel_rfl
  f196:=Tryz.func60.trans (congrArg some (by kernel_rfl))
  f259:=Tryz.func93.trans (congrArg some (by kernel_rfl))
  t0:=Tryz.underlying0
  a0:=Tryz.isAgg0
  z0:=Tryz.sizeOf0
  v0:=Tryz.zeroValue0
  t3:=Tryz.underlying3
  a3:=Tryz.isAgg3
  z3:=Tryz.sizeOf3
  v3:=Tryz.zeroValue3
  t4:=Tryz.underlying4
  a4:=Tryz.isAgg4
  z4:=Tryz.sizeOf4
  v4:=Tryz.zeroValue4
  t5:=Tryz.underlying5
  a5:=Tryz.isAgg5
  z5:=Tryz.sizeOf5
  v5:=Tryz.zeroValue5
  t9:=Tryz.underlying9
  a9:=Tryz.isAgg9
  z9:=Tryz.sizeOf9
  v9:=Tryz.zeroValue9
  t12:=Tryz.underlying12
  a12:=Tryz.isAgg12
  z12:=Tryz.sizeOf12
  v12:=Tryz.zeroValue12
  t46:=Tryz.underlying100
  a46:=Tryz.isAgg100
  z46:=Tryz.sizeOf100
  v46:=Tryz.zeroValue100
  t53:=Tryz.underlying78
  a53:=Tryz.isAgg78
  z53:=Tryz.sizeOf78
  v53:=Tryz.zeroValue78
  t119:=Tryz.underlying144
  a119:=Tryz.isAgg144
  z119:=Tryz.sizeOf144
  t138:=Tryz.underlying146
  a138:=Tryz.isAgg146
  z138:=Tryz.sizeOf146
  v138:=Tryz.zeroValue146
  t139:=Tryz.underlying147
  a139:=Tryz.isAgg147
  z139:=Tryz.sizeOf147
  v139:=Tryz.zeroValue147
  g3:=by kernel_rfl
  g4:=by kernel_rfl }
open Go.RowKit Go.Lib in
theorem Tryz.utf8_ValidString (s:ByteArray) (w:World) (hs:s.size≤9223372036854775807) (hT:Lib.Utf8Tabs 0 1 w):
    Calls Tryz.prog 60 #[.string s] w fun e w'=>e= .returned (.bool (Lib.validD s.data.toList))∧Below w.heap.size w w':=Any.utf8_ValidString Tryz.lays196 s w hs hT
def Tryz.lays197_ren:Go.Shelf.Ren:=⟨fun|197=>115|260=>117|n=>n,fun|9=>9|21=>21|3=>3|4=>4|5=>5|105=>167|119=>144|0=>0|46=>100|139=>147|138=>146|n=>n,fun|3=>0|4=>1|n=>n⟩
theorem Tryz.lays197:Go.Proofs.Lays.n197 Tryz.prog Tryz.lays197_ren:= {
  mixed:=by kernel_rfl
  f197:=Tryz.func115.trans (congrArg some (by kernel_rfl))
  f260:=Tryz.func117.trans (congrArg some (by kernel_rfl))
  t0:=Tryz.underlying0
  a0:=Tryz.isAgg0
  z0:=Tryz.sizeOf0
  v0:=Tryz.zeroValue0
  t3:=Tryz.underlying3
  a3:=Tryz.isAgg3
  z3:=Tryz.sizeOf3
  v3:=Tryz.zeroValue3
  t4:=Tryz.underlying4
  a4:=Tryz.isAgg4
  z4:=Tryz.sizeOf4
  v4:=Tryz.zeroValue4
  t5:=Tryz.underlying5
  a5:=Tryz.isAgg5
  z5:=Tryz.sizeOf5
  v5:=Tryz.zeroValue5
  t9:=Tryz.underlying9
  a9:=Tryz.isAgg9
  z9:=Tryz.sizeOf9
  v9:=Tryz.zeroValue9
  t21:=Tryz.underlying21
  a21:=Tryz.isAgg21
  z21:=Tryz.sizeOf21
  v21:=Tryz.zeroValue21
  t46:=Tryz.underlying100
  a46:=Tryz.isAgg100
  z46:=Tryz.sizeOf100
  v46:=Tryz.zeroValue100
  t105:=Tryz.underlying167
  a105:=Tryz.isAgg167
  z105:=Tryz.sizeOf167
  v105:=Tryz.zeroValue167
  t119:=Tryz.underlying144
  a119:=Tryz.isAgg144
  z119:=Tryz.sizeOf144
  t138:=Tryz.underlying146
  a138:=Tryz.isAgg146
  z138:=Tryz.sizeOf146
  v138:=Tryz.zeroValue146
  t139:=Tryz.underlying147
  a139:=Tryz.isAgg147
  z139:=Tryz.sizeOf147
  v139:=Tryz.zeroValue147
  g3:=by kernel_rfl
  g4:=by kernel_rfl }
open Go.RowKit Go.Lib in
theorem Tryz.utf8_DecodeRuneInString (s:ByteArray) (w:World) (hT:Lib.Utf8Tabs 0 1 w):
    Calls Tryz.prog 115 #[.string s] w fun e w'=>e= .returned (.tuple #[.int .i32 (Lib.decodeGo s).1, .int .i64 (Lib.decodeGo s).2])∧Below w.heap.size w w':=Any.utf8_DecodeRuneInString Tryz.lays197 s w hT
end Go.Proofs
namespace Go.Proofs.YtgcfhkceejcliaaGreatDoor
open Go.RowKit
structure Boxed1 (w wr:World) (c:VC):Prop where
  a:ValAt wr w.heap.size 0 c
  below:Below w.heap.size w wr
  size:w.heap.size+1≤wr.heap.size
theorem boxed1_start (w:World) (c:VC) (t:TypeId):Boxed1 w (w.alloc (.cells #[.int .u8 c.k, .int .i64 c.n, .string c.s, .slice c.la c.ll c.lc, .slice c.oa c.ol c.oc] t)) c:=
  ⟨valAt_new w c t,(Below.refl _ _).alloc (Nat.le_refl _) _,by simp⟩
theorem Boxed1.step {w wr w':World} {c:VC} (h:Boxed1 w wr c) (hb:Below wr.heap.size wr w'):Boxed1 w w' c:=
  ⟨h.a.keep hb (by have:=h.size;omega),h.below.trans (hb.mono (by have:=h.size;omega)),by have:=h.size;have:=hb.size;omega⟩
set_option maxHeartbeats 2000000 in
set_option maxRecDepth 100000 in
theorem refWeight_any (a:V):∀(w:World) (c:VC),IsVal w w.heap.size a c→a.weight≤4611686018427387904→
    Calls Tryz.prog 63 #[.agg #[.int .u8 c.k, .int .i64 c.n, .string c.s, .slice c.la c.ll c.lc, .slice c.oa c.ol c.oc]] w fun e w'=>e= .returned (.int .i64 a.weight)∧Below w.heap.size w w':=by
  induction a using V.ind with
  |h k n s l o ihl iho=>
  have IHL:=Lib.hid ihl;have IHO:=Lib.hid iho;clear ihl iho
  intro w c ha hw
  cases ha with
  |mk c l o cl co lb lo ob oo cbd hl ho hla hoa hlc hlv hoc hov=>
  have c1:=cbd.l1;have c2:=cbd.l2;have c3:=cbd.o1;have c4:=cbd.o2;have c5:=cbd.s1
  have Hl:=Lib.hid hl;have Ho:=Lib.hid ho;clear hl ho
  have hst:=boxed1_start w c 33
  have hw0:1+c.s.size+weightL l+weightO o≤4611686018427387904:=by simpa only [V.weight] using hw
  obtain ⟨W,hW⟩:∃W,V.weight (V.mk c.k c.n c.s l o)=W:=⟨_,rfl⟩
  rw [hW]
  have hW2:1+c.s.size+weightL l+weightO o=W:=by simpa only [V.weight] using hW
  have HW:=Lib.hid hW2
  clear hW hw hW2
  go_enter Tryz.func63,Tryz.ntmps63
  go_wp2_with fail
  go_loopw [3,4] (fun t i wr=>∃k:Nat,k≤c.ll∧i= .int .i64 k∧t= .int .i64 ((1+c.s.size+weightL (l.take k):Nat):Int)∧Boxed1 w wr c) (fun _ i _=>c.ll - (intOf i).toNat)
  case atStart=>exact ⟨0,Nat.zero_le _,rfl,by simp [weightL],hst⟩
  case round=>
    obtain ⟨k,hk,rfl,rfl,hB⟩:=hrel
    clear hst
    have b1:wr.cell? ⟨w.heap.size,3,none⟩=some (.slice c.la c.ll c.lc):=hB.a.c3
    have hle:=weightL_take_le l k
    by_cases hlt:k<c.ll
    · obtain ⟨ela,hlb⟩:=hla (by omega)
      have kl:k<l.length:=by rw [←Hl.out];exact hlt
      have x1:=(hlc k kl).keep hB.below hlb
      rw [ela] at b1
      have r0:=x1.c0;have r1:=x1.c1;have r2:=x1.c2;have r3:=x1.c3;have r4:=x1.c4
      clear ela x1
      have hm:=weightL_mem l k kl
      have hs:=weightL_take l k kl
      have hle2:=weightL_take_le l (k+1)
      have HS:=Lib.hid hs
      obtain ⟨A,hA⟩:∃A,1+c.s.size+weightL (l.take k)=A:=⟨_,rfl⟩
      obtain ⟨X,hX⟩:∃X,l[k].weight=X:=⟨_,rfl⟩
      have hAX:A+X≤4611686018427387904:=by omega
      have ih:=IHL.out _ (List.getElem_mem kl) wr (cl k) ((hlv k kl).later_ hB.below) (by omega)
      rw [hA]
      rw [hX] at ih
      have H:=Lib.hid ih
      have HA:=Lib.hid hA;have HX:=Lib.hid hX
      clear ih hA hX hs hm hle hle2
      go_wp2_with (go_at_call 63;refine H.out.mono ?_;rintro e w' ⟨rfl,hb⟩)
      go_roundw
      case rel=>exact ⟨k+1,by omega,by go_num,by rw [HS.out, ←Nat.add_assoc,HA.out,HX.out];go_num,hB.step hb⟩
      case measure=>simp [intOf];omega
    · go_wp2_with fail
      go_loopw [3,5] (fun t i wr=>∃k:Nat,k≤c.ol∧i= .int .i64 k∧t= .int .i64 ((1+c.s.size+weightL l+weightO (o.take k):Nat):Int)∧Boxed1 w wr c) (fun _ i _=>c.ol - (intOf i).toNat)
      case atStart=>exact ⟨0,Nat.zero_le _,rfl,by rw [List.take_of_length_le (by have:=Hl.out;omega)];simp [weightO],hB⟩
      case round=>
        clear b1 hB hle hlt hk
        obtain ⟨k2,hk,rfl,rfl,hB⟩:=hrel
        have b1:wr.cell? ⟨w.heap.size,4,none⟩=some (.slice c.oa c.ol c.oc):=hB.a.c4
        have hle:=weightO_take_le o k2
        by_cases hlt:k2<c.ol
        · obtain ⟨ela,hlb⟩:=hoa (by omega)
          have kl:k2<o.length:=by rw [←Ho.out];exact hlt
          obtain ⟨g1,ksz,x1⟩:=hoc k2 kl
          have x1:=x1.keep hB.below hlb
          have g1:=keep_cell hB.below g1 hlb
          have q1:=later_cell b1
          rw [ela] at q1
          have r0:=later_cell x1.c0;have r1:=later_cell x1.c1;have r2:=later_cell x1.c2;have r3:=later_cell x1.c3;have r4:=later_cell x1.c4
          have t1:=later_cell g1
          clear ela x1 g1
          have hm:=weightO_mem o k2 kl
          have hs:=weightO_take o k2 kl
          have hle2:=weightO_take_le o (k2+1)
          have HS:=Lib.hid hs
          obtain ⟨A,hA⟩:∃A,1+c.s.size+weightL l+weightO (o.take k2)=A:=⟨_,rfl⟩
          obtain ⟨X,hX⟩:∃X,o[k2].2.weight=X:=⟨_,rfl⟩
          obtain ⟨Y,hY⟩:∃Y,o[k2].1=Y:=⟨_,rfl⟩
          have hAX:A+(Y.size+X)≤4611686018427387904:=by rw [←hA, ←hX, ←hY];omega
          have ih:=fun p=>IHO.out _ (List.getElem_mem kl) (later wr p) (co k2) (((hov k2 kl).later_ hB.below).later_ (below_later _ _)) (by rw [hX];omega)
          rw [hA]
          rw [hX] at ih
          rw [hY] at t1 ksz
          have H:=Lib.hid ih
          have HA:=Lib.hid hA;have HX:=Lib.hid hX;have HY:=Lib.hid hY
          clear ih hA hX hY hs hm hle hle2
          have e1:IntKind.i64.wrap ((Y.size:Int)+(X:Int))=(Y.size:Int)+(X:Int):=IntWalk.i64_in _ (by omega)
          have e2:IntKind.i64.wrap ((A:Int)+((Y.size:Int)+(X:Int)))=(A:Int)+((Y.size:Int)+(X:Int)):=IntWalk.i64_in _ (by omega)
          go_wp2_with fail
          refine wp_region_later (by kernel_rfl) (by kernel_rfl) ?_
          repeat (go_big_quiet_step (((go_at_call 63;exact later_call (H.out _)))))
          refine wpQuiet_nil ?_
          intro _ hw'
          obtain ⟨pq,hw''⟩:=hw'
          subst hw''
          clear e1 e2 r0 r1 r2 r3 r4 t1 q1 b1
          go_wp2_with fail
          go_roundw
          case rel=>exact ⟨k2+1,by omega,by go_num,by rw [HS.out, ←Nat.add_assoc,HA.out,HX.out,HY.out];go_num,hB.step (below_later wr pq)⟩
          case measure=>simp [intOf];omega
        · go_wp2_with fail
          go_ret
          exact ⟨ret_int (by rw [←HW.out,List.take_of_length_le (by have:=Ho.out;omega)]),hB.below⟩
set_option maxHeartbeats 2000000 in
set_option maxRecDepth 100000 in
theorem refDeep_any (a:V):∀(w:World) (c:VC),IsVal w w.heap.size a c→a.weight≤4611686018427387904→
    Calls Tryz.prog 62 #[.agg #[.int .u8 c.k, .int .i64 c.n, .string c.s, .slice c.la c.ll c.lc, .slice c.oa c.ol c.oc]] w fun e w'=>e= .returned (.int .i64 a.deep)∧Below w.heap.size w w':=by
  induction a using V.ind with
  |h k n s l o ihl iho=>
  have IHL:=Lib.hid ihl;have IHO:=Lib.hid iho;clear ihl iho
  intro w c ha hw
  cases ha with
  |mk c l o cl co lb lo ob oo cbd hl ho hla hoa hlc hlv hoc hov=>
  have c1:=cbd.l1;have c2:=cbd.l2;have c3:=cbd.o1;have c4:=cbd.o2;have c5:=cbd.s1
  have Hl:=Lib.hid hl;have Ho:=Lib.hid ho;clear hl ho
  have hst:=boxed1_start w c 33
  have hw0:1+c.s.size+weightL l+weightO o≤4611686018427387904:=by simpa only [V.weight] using hw
  have hdw:=V.deep_lt (V.mk c.k c.n c.s l o)
  have hdd:max (deepL l) (deepO o)≤4611686018427387904:=by simp only [V.deep,V.weight] at hdw;omega
  obtain ⟨W,hW⟩:∃W,V.deep (V.mk c.k c.n c.s l o)=W:=⟨_,rfl⟩
  rw [hW]
  have hW2:max (deepL l) (deepO o)=W:=by simpa only [V.deep] using hW
  have HW:=Lib.hid hW2;have HDD:=Lib.hid hdd
  clear hW hw hW2 hdw hdd
  go_enter Tryz.func62,Tryz.ntmps62
  go_wp2_with fail
  go_loopw [3,4] (fun t i wr=>∃k:Nat,k≤c.ll∧i= .int .i64 k∧t= .int .i64 ((deepL (l.take k):Nat):Int)∧Boxed1 w wr c) (fun _ i _=>c.ll - (intOf i).toNat)
  case atStart=>exact ⟨0,Nat.zero_le _,rfl,by simp [deepL],hst⟩
  case round=>
    obtain ⟨k,hk,rfl,rfl,hB⟩:=hrel
    clear hst
    have b1:wr.cell? ⟨w.heap.size,3,none⟩=some (.slice c.la c.ll c.lc):=hB.a.c3
    by_cases hlt:k<c.ll
    · obtain ⟨ela,hlb⟩:=hla (by omega)
      have kl:k<l.length:=by rw [←Hl.out];exact hlt
      have x1:=(hlc k kl).keep hB.below hlb
      rw [ela] at b1
      have r0:=x1.c0;have r1:=x1.c1;have r2:=x1.c2;have r3:=x1.c3;have r4:=x1.c4
      clear ela x1
      have hm:=weightL_mem l k kl
      have hs:=deepL_take l k kl
      have HS:=Lib.hid hs
      have hdl:=V.deep_lt l[k]
      obtain ⟨A,hA⟩:∃A,deepL (l.take k)=A:=⟨_,rfl⟩
      obtain ⟨X,hX⟩:∃X,l[k].deep=X:=⟨_,rfl⟩
      have hAX:X≤4611686018427387904:=by omega
      have ih:=IHL.out _ (List.getElem_mem kl) wr (cl k) ((hlv k kl).later_ hB.below) (by omega)
      rw [hA]
      rw [hX] at ih
      have H:=Lib.hid ih
      have HA:=Lib.hid hA;have HX:=Lib.hid hX
      clear ih hA hX hs hm hdl
      go_wp2_with (go_at_call 62;refine H.out.mono ?_;rintro e w' ⟨rfl,hb⟩)
      go_roundw
      case rel=>exact ⟨k+1,by omega,by go_num,num_eq (by rw [HS.out,HA.out,HX.out];omega),hB.step hb⟩
      case measure=>simp [intOf];omega
    · go_wp2_with fail
      go_loopw [3,5] (fun t i wr=>∃k:Nat,k≤c.ol∧i= .int .i64 k∧t= .int .i64 ((max (deepL l) (deepO (o.take k)):Nat):Int)∧Boxed1 w wr c) (fun _ i _=>c.ol - (intOf i).toNat)
      case atStart=>exact ⟨0,Nat.zero_le _,rfl,by rw [List.take_of_length_le (by have:=Hl.out;omega)];simp [deepO],hB⟩
      case round=>
        clear b1 hB hlt hk
        obtain ⟨k2,hk,rfl,rfl,hB⟩:=hrel
        have b1:wr.cell? ⟨w.heap.size,4,none⟩=some (.slice c.oa c.ol c.oc):=hB.a.c4
        by_cases hlt:k2<c.ol
        · obtain ⟨ela,hlb⟩:=hoa (by omega)
          have kl:k2<o.length:=by rw [←Ho.out];exact hlt
          obtain ⟨g1,ksz,x1⟩:=hoc k2 kl
          have x1:=x1.keep hB.below hlb
          rw [ela] at b1
          have r0:=x1.c0;have r1:=x1.c1;have r2:=x1.c2;have r3:=x1.c3;have r4:=x1.c4
          clear ela x1 g1
          have hm:=weightO_mem o k2 kl
          have hs:=deepO_take o k2 kl
          have HS:=Lib.hid hs
          have hdl:=V.deep_lt o[k2].2
          obtain ⟨A,hA⟩:∃A,max (deepL l) (deepO (o.take k2))=A:=⟨_,rfl⟩
          obtain ⟨X,hX⟩:∃X,o[k2].2.deep=X:=⟨_,rfl⟩
          have hAX:X≤4611686018427387904:=by omega
          have ih:=IHO.out _ (List.getElem_mem kl) wr (co k2) ((hov k2 kl).later_ hB.below) (by omega)
          rw [hA]
          rw [hX] at ih
          have H:=Lib.hid ih
          have HA:=Lib.hid hA;have HX:=Lib.hid hX
          clear ih hA hX hs hm hdl
          go_wp2_with (go_at_call 62;refine H.out.mono ?_;rintro e w' ⟨rfl,hb⟩)
          go_roundw
          case rel=>exact ⟨k2+1,by omega,by go_num,num_eq (by rw [HS.out, ←HA.out,HX.out];omega),hB.step hb⟩
          case measure=>simp [intOf];omega
        · go_wp2_with fail
          go_ret
          exact ⟨ret_int (by rw [←HW.out,List.take_of_length_le (by have:=Ho.out;omega)]),hB.below⟩
end Go.Proofs.YtgcfhkceejcliaaGreatDoor
namespace Go.Proofs.YtgcfhkceejcliaaGreatDoor
open Go.RowKit
def Tabs (w:World):Prop:=Lib.Utf8Tabs 0 1 w
theorem Tabs.below {w w':World} (h:Tabs w) (hb:Below w.heap.size w w'):Tabs w':=Utf8Tabs_below h hb
theorem valid_any (s:ByteArray) (w:World) (hs:s.size≤140737488355328) (hT:Tabs w):
    Calls Tryz.prog 60 #[.string s] w fun e w'=>e= .returned (.bool (Lib.validD s.data.toList))∧Below w.heap.size w w':=
  Tryz.utf8_ValidString s w (by omega) hT
theorem sound_plain {k n:Int} {s:ByteArray} {l:List V} {o:List (ByteArray×V)} (h:plainB k n s l.length o.length=false):(V.mk k n s l o).sound=false:=by
  simp [V.sound,h]
theorem plain_k0 {n:Int} {s:ByteArray} {ll ol:Nat} (hs:s.toList= []) (hl:ll=0) (ho:ol=0) (hn:n=0):plainB 0 n s ll ol=true:=by simp [plainB,hs,hl,ho,hn]
theorem plain_k1 {n:Int} {s:ByteArray} {ll ol:Nat} (hs:s.toList= []) (hl:ll=0) (ho:ol=0) (hn:n=0∨n=1):plainB 1 n s ll ol=true:=by
  rcases hn with rfl|rfl<;>simp [plainB,hs,hl,ho]
theorem plain_k2 {n:Int} {s:ByteArray} {ll ol:Nat} (hs:s.toList= []) (hl:ll=0) (ho:ol=0):plainB 2 n s ll ol=true:=by simp [plainB,hs,hl,ho]
theorem plain_k3 {n:Int} {s:ByteArray} {ll ol:Nat} (hs:Lib.validD s.data.toList=true) (hl:ll=0) (ho:ol=0) (hn:n=0):plainB 3 n s ll ol=true:=by simp [plainB,hs,hl,ho,hn]
theorem plain_k4 {n:Int} {s:ByteArray} {ll ol:Nat} (hs:s.toList= []) (ho:ol=0) (hn:n=0):plainB 4 n s ll ol=true:=by simp [plainB,hs,ho,hn]
theorem plain_k5 {n:Int} {s:ByteArray} {ll ol:Nat} (hs:s.toList= []) (hl:ll=0) (hn:n=0):plainB 5 n s ll ol=true:=by simp [plainB,hs,hl,hn]
set_option maxHeartbeats 4000000 in
set_option maxRecDepth 100000 in
theorem refSound_no (w:World) (c:VC) (hT:Tabs w) (hbd:c.Bnd) (hp:plainB c.k c.n c.s c.ll c.ol=false):
    Calls Tryz.prog 61 #[.agg #[.int .u8 c.k, .int .i64 c.n, .string c.s, .slice c.la c.ll c.lc, .slice c.oa c.ol c.oc]] w fun e w'=>e= .returned (.bool false)∧Below w.heap.size w w':=by
  have k0:=hbd.k0
  have l3:=hbd.l3
  have o3:=hbd.o3
  have hsz:=hbd.s1
  obtain ⟨vd,hvd⟩:∃vd,Lib.validD c.s.data.toList=vd:=⟨_,rfl⟩
  have HVD:=Lib.hid hvd
  clear hbd hvd
  obtain ⟨k,n,s,la,ll,lc,oa,ol,oc⟩:=c
  dsimp only at*
  have hk:k=0∨k=1∨k=2∨k=3∨k=4∨k=5∨5<k:=by omega
  have H0:=Lib.hid hp
  clear hp
  rcases hk with rfl|rfl|rfl|rfl|rfl|rfl|hk
  · go_enter Tryz.func61,Tryz.ntmps61
    go_wp2_with fail
    all_goals first
      |(go_ret;exact ⟨rfl,(Below.refl _ _).alloc (Nat.le_refl _) _⟩)
      |exact absurd (plain_k0 (n:=n) (s:=s) (ll:=ll) (ol:=ol) (by assumption) (by omega) (by omega) (by omega)) (by rw [H0.out];simp)
  · go_enter Tryz.func61,Tryz.ntmps61
    go_wp2_with fail
    all_goals first
      |(go_ret;exact ⟨rfl,(Below.refl _ _).alloc (Nat.le_refl _) _⟩)
      |exact absurd (plain_k1 (n:=n) (s:=s) (ll:=ll) (ol:=ol) (by assumption) (by omega) (by omega) (by omega)) (by rw [H0.out];simp)
  · go_enter Tryz.func61,Tryz.ntmps61
    go_wp2_with fail
    all_goals first
      |(go_ret;exact ⟨rfl,(Below.refl _ _).alloc (Nat.le_refl _) _⟩)
      |exact absurd (plain_k2 (n:=n) (s:=s) (ll:=ll) (ol:=ol) (by assumption) (by omega) (by omega)) (by rw [H0.out];simp)
  · go_enter Tryz.func61,Tryz.ntmps61
    go_wp2_with fail
    all_goals first
      |(go_ret;exact ⟨rfl,(Below.refl _ _).alloc (Nat.le_refl _) _⟩)
      | (have hv:vd=false:=by
           have h:=H0.out
           cases vd with
           |false=>rfl
           |true=>rw [plain_k3 HVD.out (by omega) (by omega) (by omega)] at h;cases h
         subst hv
         refine (valid_any s _ hsz (hT.below ((Below.refl _ _).alloc (Nat.le_refl _) _))).mono ?_
         rintro e w' ⟨rfl,hb⟩
         rw [HVD.out]
         go_wp2_with fail
         go_ret
         exact ⟨rfl,((Below.refl _ _).alloc (Nat.le_refl _) _).trans (hb.mono (by simp))⟩)
  · go_enter Tryz.func61,Tryz.ntmps61
    go_wp2_with fail
    all_goals first
      |(go_ret;exact ⟨rfl,(Below.refl _ _).alloc (Nat.le_refl _) _⟩)
      |exact absurd (plain_k4 (n:=n) (s:=s) (ll:=ll) (ol:=ol) (by assumption) (by omega) (by omega)) (by rw [H0.out];simp)
  · go_enter Tryz.func61,Tryz.ntmps61
    go_wp2_with fail
    all_goals first
      |(go_ret;exact ⟨rfl,(Below.refl _ _).alloc (Nat.le_refl _) _⟩)
      |exact absurd (plain_k5 (n:=n) (s:=s) (ll:=ll) (ol:=ol) (by assumption) (by omega) (by omega)) (by rw [H0.out];simp)
  · go_enter Tryz.func61,Tryz.ntmps61
    go_wp2_with fail
    go_ret
    exact ⟨rfl,(Below.refl _ _).alloc (Nat.le_refl _) _⟩
end Go.Proofs.YtgcfhkceejcliaaGreatDoor
namespace Go.Proofs.YtgcfhkceejcliaaGreatDoor
open Go.RowKit
theorem ginfoI:(Tryz.prog.info? 3).map (fun i=>(i.zero,i.size,i.bytes))=some (some (.int .i64 0),1,8):=by kernel_rfl
def ints (l:List Nat):List Value:=l.map fun (n:Nat)=>Value.int .i64 (n:Int)
theorem ints_append (a b:List Nat):ints (a++b)=ints a++ints b:=by simp [ints]
def IntsPost (w:World) (l:List Nat) (e:Ending) (w':World):Prop:=
  (∃g c,e= .returned (.slice (some ⟨g,0,none⟩) l.length c)∧l.length≤c∧c≤9223372036854775807∧g<w'.heap.size∧∀i (h:i<l.length),w'.cell? ⟨g,i,none⟩=some (.int .i64 (l[i] :Int)))∧Below w.heap.size w w'
theorem decode_from (s:ByteArray) (i:Nat) (h:i<s.size):(Lib.decodeGo (s.extract i s.size)).2=(Lib.decodeL (s.data.toList.drop i)).2:=by
  have hd:(s.extract i s.size)=⟨(s.data.toList.drop i).toArray⟩:=by
    apply ByteArray.ext
    apply Array.ext'
    rw [ByteArray.data_extract,Array.toList_extract,List.extract_eq_take_drop]
    exact List.take_of_length_le (by rw [List.length_drop,Array.length_toList];exact Nat.le_refl _)
  have hz:(s.extract i s.size).size≠0:=by rw [ByteArray.size_extract];omega
  unfold Lib.decodeGo Lib.decodeL
  rw [if_neg hz,hd]
structure CUH (w wr:World) (s:ByteArray) (i:Nat) (l:List Nat) (u:Value):Prop where
  rest:l++cutsP (s.data.toList.drop i).length i (s.data.toList.drop i)=cutsP s.size 0 s.data.toList
  own:wr.ownsRow w.heap.size 3 1 u l.length (ints l)
  below:Below w.heap.size w wr
set_option maxHeartbeats 4000000 in
set_option maxRecDepth 100000 in
theorem cuts_any (w:World) (s:ByteArray) (hs:s.size≤1000000000000) (hT:Tabs w):
    Calls Tryz.prog 107 #[.string s] w (IntsPost w (cuts s)):=by
  obtain ⟨i0,hi0,hz0,hz1,hz2⟩:=info_parts ginfoI
  have hsz:s.data.toList.length=s.size:=Array.length_toList
  have HS:=Lib.hid hsz
  have HTT:=Lib.hid hT
  clear hsz hT
  go_enter Tryz.func107,Tryz.ntmps107
  go_wp2_with fail
  go_loopw [3,4,5,6] (fun u i _ _ wr=>∃(j:Nat) (l:List Nat) (a:Option Addr) (m c:Nat),j≤s.size∧l.length≤j∧i= .int .i64 j∧u= .slice a m c∧CUH w wr s j l (.slice a m c)) (fun _ i _ _ _=>s.size - (intOf i).toNat)
  case atStart=>exact ⟨0, [],none,0,0,Nat.zero_le _,Nat.le_refl _,rfl,rfl,⟨by rw [List.drop_zero,HS.out];rfl,⟨rfl, .inl ⟨rfl,rfl⟩⟩,Below.refl _ _⟩⟩
  case round=>
    obtain ⟨j,l,a,m,c,hj,hlj,rfl,rfl,L⟩:=hrel
    have hrlt:∀b,(Value.slice a m c).ownBlock=some b→w.heap.size≤b∧b<wr.heap.size:=L.own.lt
    have hb:=L.below.size
    by_cases hlt:j<s.size
    · have hne:s.data.toList.drop j≠ [] :=fun e=>by
        have:=congrArg List.length e
        rw [List.length_drop,HS.out] at this
        simp at this;omega
      have hw1:=Lib.decodeL_width (s.data.toList.drop j)
      have hw2:=Lib.decodeL_le _ hne
      rw [List.length_drop,HS.out] at hw2
      obtain ⟨k,hk⟩:∃k,(Lib.decodeL (s.data.toList.drop j)).2=k:=⟨_,rfl⟩
      have hd:=decode_from s j hlt
      rw [hk] at hd hw1 hw2
      have hrs:=L.rest
      rw [cutsP_step hne,hk] at hrs
      have HRS:=Lib.hid hrs
      obtain ⟨rn,hrn⟩:∃rn,(Lib.decodeGo (s.extract j s.size)).1=rn:=⟨_,rfl⟩
      have HD:Hid (∀W,Below w.heap.size w W→Calls Tryz.prog 115 #[.string (s.extract j s.size)] W fun e w'=>e= .returned (.tuple #[.int .i32 rn, .int .i64 k])∧Below W.heap.size W w'):=fun W hW=>by
        have:=Tryz.utf8_DecodeRuneInString (s.extract j s.size) W (HTT.out.below hW)
        rw [hrn,hd] at this;exact this
      have LL:=Lib.hid L
      have ho:=L.own
      clear hrs hne hk hd hrn L
      go_wp2_with (at_builtin;refine wpList_append_lies _ rfl (.tmp 11) (.tmp 13) 159 (by rfl) w.heap.size 3 i0 _ 1 8 Tryz.underlying159 hi0 hz0 hz1 hz2 rfl (by omega) (.slice a m c) l.length (ints l) (by rfl) (ho.alloc _) ⟨wr.heap.size,0,none⟩ 1 1 [.int .i64 (j:Int)] (by rfl) (by rfl) (World.news_of_block (cs:= #[.int .i64 (j:Int)]) (t:=3) (fr:=(0,0)) (heap_alloc_new wr _)) (by simp [Value.oneCell']) (by omega) (by unfold maxLen;omega) (by omega) (by simp;omega) (wr.heap.size+1) (by simp) ?_;intro g cap w7 hown7 hgrow7 hat7 hlt7)
      have hb7:Below w.heap.size w w7:=(LL.out.below.trans (((Below.refl _ _).alloc (Nat.le_refl _) _).mono hb)).trans (grown_below hgrow7 (fun k hk=>(hrlt k hk).1) (by simp;omega))
      refine (HD.out w7 hb7).mono ?_
      rintro e w8 ⟨rfl,hb8⟩
      have hb9:Below w.heap.size w7 w8:=hb8.mono hb7.size
      have hlt9:∀b,(Value.slice (some ⟨g,0,none⟩) (l.length+1) cap).ownBlock=some b→w.heap.size≤b∧b<w7.heap.size:=hown7.lt
      go_wp2_with fail
      go_roundw
      case rel=>
        refine ⟨j+k,l++ [j],some ⟨g,0,none⟩,l.length+1,cap,by omega,by simp;omega,by go_num,rfl,⟨?_, ?_,hb7.trans hb9⟩⟩
        · rw [List.append_assoc,List.singleton_append, ←HRS.out,List.drop_drop]
        · rw [ints_append,List.length_append,List.length_singleton]
          exact hown7.kept (row:=none) ⟨hb8.os,hb8.tape,hb8.output,hb8.size,fun q hq _=>hb8.block q hq⟩ (by right;simp [Value.ownBlock])
      case measure=>simp [intOf];omega
    · have hjs:j=s.size:=by omega
      have hrs:=L.rest
      have hdz:s.data.toList.drop j= [] :=by rw [hjs, ←HS.out,List.drop_length]
      rw [hdz] at hrs
      simp only [List.length_nil,cutsP,List.append_nil] at hrs
      have HRS:=Lib.hid hrs
      have HJ:=Lib.hid hjs
      have LL:=Lib.hid L
      have ho:=L.own
      have hll:l.length≤1000000000000:=by omega
      clear hrs hdz L hjs
      go_wp2_with (at_builtin;refine wpList_append_lies _ rfl (.tmp 25) (.tmp 28) 159 (by rfl) w.heap.size 3 i0 _ 1 8 Tryz.underlying159 hi0 hz0 hz1 hz2 rfl (by omega) (.slice a m c) l.length (ints l) (by rfl) (ho.alloc _) ⟨wr.heap.size,0,none⟩ 1 1 [.int .i64 (s.size:Int)] (by rfl) (by rfl) (World.news_of_block (cs:= #[.int .i64 (s.size:Int)]) (t:=3) (fr:=(0,0)) (heap_alloc_new wr _)) (by simp [Value.oneCell']) (by omega) (by unfold maxLen;omega) (by omega) (by simp;omega) (wr.heap.size+1) (by simp) ?_;intro g cap w7 hown7 hgrow7 hat7 hlt7)
      have hb7:Below w.heap.size w w7:=(LL.out.below.trans (((Below.refl _ _).alloc (Nat.le_refl _) _).mono hb)).trans (grown_below hgrow7 (fun k hk=>(hrlt k hk).1) (by simp;omega))
      go_returns
      have hcu:cuts s=l++ [s.size] :=by rw [cuts, ←HRS.out]
      rw [hcu]
      have hown8:w7.ownsRow w.heap.size 3 1 (.slice (some ⟨g,0,none⟩) (l.length+1) cap) (l.length+1) (ints (l++ [s.size])):=by rw [ints_append];exact hown7
      refine ⟨⟨g,cap,by rw [List.length_append,List.length_singleton];rfl, ?_⟩,hb7⟩
      obtain ⟨_,c',e',ho'⟩:=OwnRow.of (base':=w.heap.size) hown8 (Nat.le_refl _)
      injection e' with e1 e2 e3
      subst e1 e3
      obtain ⟨g',e',_,hbc⟩:=ho'.row (.inl (by omega))
      obtain rfl:g=g':=by injection e' with e';injection e'
      refine ⟨by rw [List.length_append,List.length_singleton];exact ho'.cap,ho'.max,hbc.lt,fun i hi=>hbc.at_ i _ ?_⟩
      unfold ints
      rw [List.getElem?_map,List.getElem?_eq_getElem hi]
      rfl
end Go.Proofs.YtgcfhkceejcliaaGreatDoor
namespace Go.Proofs.YtgcfhkceejcliaaGreatDoor
open Go.RowKit
theorem len_any (w:World) (s:ByteArray) (hs:s.size≤1000000000000) (hT:Tabs w):
    Calls Tryz.prog 114 #[.string s] w fun e w'=>e= .returned (.int .i64 (textN s:Int))∧Below w.heap.size w w':=by
  have hl:=cuts_len s
  obtain ⟨L,hL⟩:∃L,(cuts s).length=L:=⟨_,rfl⟩
  have HC:=Lib.hid (cuts_any w s hs hT)
  have hn:textN s=L - 1:=by rw [textN,hL]
  rw [hn]
  rw [hL] at hl
  have hw1:IntKind.i64.wrap ((L:Int) - 1)=(L:Int) - 1:=IntWalk.i64_in _ (by omega)
  have hw2:((L - 1:Nat):Int)=(L:Int) - 1:=by omega
  rw [hw2]
  have HL:=Lib.hid hL
  clear hL hT hn
  go_enter Tryz.func114,Tryz.ntmps114
  go_wp2_with fail
  refine HC.out.mono ?_
  rintro e w1 ⟨⟨g,c,rfl,_,_,_,_⟩,hb1⟩
  rw [HL.out]
  go_wp2_with fail
  go_returns
  exact ⟨rfl,hb1⟩
def tCheck (s:ByteArray) (k i n:Int):Int:=
  if k≠8∧k≠9 then 31 else if i<0∨(textN s:Int)<i then 32 else if k=9∧(n<1∨(textN s:Int) - i<n) then 32 else 0
set_option maxHeartbeats 4000000 in
set_option maxRecDepth 100000 in
theorem textCheck_any (w:World) (s:ByteArray) (c:CC) (hb:c.Bnd) (hs:s.size≤1000000000000) (hT:Tabs w):
    Calls Tryz.prog 106 #[.string s, .agg #[.int .u8 c.k, .slice c.pa c.pl c.pc, .string c.key, .int .i64 c.i, .int .i64 c.j, .int .i64 c.n, .int .u8 c.v.k, .int .i64 c.v.n, .string c.v.s, .slice c.v.la c.v.ll c.v.lc, .slice c.v.oa c.v.ol c.v.oc, .string c.s]] w fun e w'=>e= .returned (.int .i64 (tCheck s c.k c.i c.n))∧Below w.heap.size w w':=by
  have n0:=hb.n0;have n1:=hb.n1;have i0:=hb.i0;have i1:=hb.i1
  obtain ⟨N,hN⟩:∃N,textN s=N:=⟨_,rfl⟩
  have hNl:N≤1000000000000:=by have:=(cuts_len s).2;rw [←hN,textN];omega
  have HN:Hid (∀W,Below w.heap.size w W→Calls Tryz.prog 114 #[.string s] W fun e w'=>e= .returned (.int .i64 (N:Int))∧Below W.heap.size W w'):=fun W hW=>by rw [←hN];exact len_any W s hs (hT.below hW)
  have HBX:=Lib.hid (BC.start w #[.int .u8 c.k, .slice c.pa c.pl c.pc, .string c.key, .int .i64 c.i, .int .i64 c.j, .int .i64 c.n, .int .u8 c.v.k, .int .i64 c.v.n, .string c.v.s, .slice c.v.la c.v.ll c.v.lc, .slice c.v.oa c.v.ol c.v.oc, .string c.s] 63)
  have HAL:=Lib.hid ((Below.refl _ _).alloc (Nat.le_refl _) (.cells #[.int .u8 c.k, .slice c.pa c.pl c.pc, .string c.key, .int .i64 c.i, .int .i64 c.j, .int .i64 c.n, .int .u8 c.v.k, .int .i64 c.v.n, .string c.v.s, .slice c.v.la c.v.ll c.v.lc, .slice c.v.oa c.v.ol c.v.oc, .string c.s] 63):Below w.heap.size w _)
  obtain ⟨R,hR⟩:∃R,tCheck s c.k c.i c.n=R:=⟨_,rfl⟩
  rw [hR]
  rw [tCheck,hN] at hR
  have HR:=Lib.hid hR
  obtain ⟨ck,hck⟩:∃ck,c.k=ck:=⟨_,rfl⟩
  obtain ⟨ci,hci⟩:∃ci,c.i=ci:=⟨_,rfl⟩
  obtain ⟨cn,hcn⟩:∃cn,c.n=cn:=⟨_,rfl⟩
  rw [hck,hci,hcn] at HR
  rw [hcn] at n0 n1
  rw [hci] at i0 i1
  rw [hck,hci,hcn] at HBX HAL ⊢
  clear hR hN hT hb hck hci hcn
  by_cases e8:ck=8
  · cases e8
    have f9:((8:Int)==9)=false:=rfl
    by_cases hi0:ci<0
    · obtain rfl:R=32:=by rw [←HR.out];simp [hi0]
      go_enter Tryz.func106,Tryz.ntmps106
      go_wp2_with fail
      refine (HN.out _ HAL.out).mono ?_
      rintro e w1 ⟨rfl,hb1⟩
      have D:=HBX.out.keep hb1 (by simp)
      obtain ⟨b0,b1,b2,b3,b4,b5,b6,b7,b8,b9,b10,b11⟩:=row12 D.at_
      have zs:=D.lt
      have HBL:=Lib.hid (HAL.out.trans (hb1.mono (by simp)))
      clear D hb1
      go_wp2_with fail
      go_returns
      exact ⟨rfl,HBL.out⟩
    · by_cases hi1:(N:Int)<ci
      · obtain rfl:R=32:=by rw [←HR.out];simp [hi1]
        go_enter Tryz.func106,Tryz.ntmps106
        go_wp2_with fail
        refine (HN.out _ HAL.out).mono ?_
        rintro e w1 ⟨rfl,hb1⟩
        have D:=HBX.out.keep hb1 (by simp)
        obtain ⟨b0,b1,b2,b3,b4,b5,b6,b7,b8,b9,b10,b11⟩:=row12 D.at_
        have zs:=D.lt
        have HBL:=Lib.hid (HAL.out.trans (hb1.mono (by simp)))
        clear D hb1
        go_wp2_with fail
        go_returns
        exact ⟨rfl,HBL.out⟩
      · obtain rfl:R=0:=by rw [←HR.out];simp [hi0,hi1]
        go_enter Tryz.func106,Tryz.ntmps106
        go_wp2_with fail
        refine (HN.out _ HAL.out).mono ?_
        rintro e w1 ⟨rfl,hb1⟩
        have D:=HBX.out.keep hb1 (by simp)
        obtain ⟨b0,b1,b2,b3,b4,b5,b6,b7,b8,b9,b10,b11⟩:=row12 D.at_
        have zs:=D.lt
        have HBL:=Lib.hid (HAL.out.trans (hb1.mono (by simp)))
        clear D hb1
        go_wp2_with fail
        go_returns
        exact ⟨rfl,HBL.out⟩
  · have f8 : (ck !=8)=true:=by simp [e8]
    by_cases e9:ck=9
    · cases e9
      by_cases hi0:ci<0
      · obtain rfl:R=32:=by rw [←HR.out];simp [hi0]
        go_enter Tryz.func106,Tryz.ntmps106
        go_wp2_with fail
        refine (HN.out _ HAL.out).mono ?_
        rintro e w1 ⟨rfl,hb1⟩
        have D:=HBX.out.keep hb1 (by simp)
        obtain ⟨b0,b1,b2,b3,b4,b5,b6,b7,b8,b9,b10,b11⟩:=row12 D.at_
        have zs:=D.lt
        have HBL:=Lib.hid (HAL.out.trans (hb1.mono (by simp)))
        clear D hb1
        go_wp2_with fail
        go_returns
        exact ⟨rfl,HBL.out⟩
      · by_cases hi1:(N:Int)<ci
        · obtain rfl:R=32:=by rw [←HR.out];simp [hi1]
          go_enter Tryz.func106,Tryz.ntmps106
          go_wp2_with fail
          refine (HN.out _ HAL.out).mono ?_
          rintro e w1 ⟨rfl,hb1⟩
          have D:=HBX.out.keep hb1 (by simp)
          obtain ⟨b0,b1,b2,b3,b4,b5,b6,b7,b8,b9,b10,b11⟩:=row12 D.at_
          have zs:=D.lt
          have HBL:=Lib.hid (HAL.out.trans (hb1.mono (by simp)))
          clear D hb1
          go_wp2_with fail
          go_returns
          exact ⟨rfl,HBL.out⟩
        · have hw1:IntKind.i64.wrap ((N:Int) - ci)=(N:Int) - ci:=IntWalk.i64_in _ (by omega)
          by_cases hn1:cn<1
          · obtain rfl:R=32:=by rw [←HR.out];simp [hi0,hi1,hn1]
            go_enter Tryz.func106,Tryz.ntmps106
            go_wp2_with fail
            refine (HN.out _ HAL.out).mono ?_
            rintro e w1 ⟨rfl,hb1⟩
            have D:=HBX.out.keep hb1 (by simp)
            obtain ⟨b0,b1,b2,b3,b4,b5,b6,b7,b8,b9,b10,b11⟩:=row12 D.at_
            have zs:=D.lt
            have HBL:=Lib.hid (HAL.out.trans (hb1.mono (by simp)))
            clear D hb1
            go_wp2_with fail
            go_returns
            exact ⟨rfl,HBL.out⟩
          · by_cases hn2:(N:Int) - ci<cn
            · obtain rfl:R=32:=by rw [←HR.out];simp [hi0,hi1,hn2]
              go_enter Tryz.func106,Tryz.ntmps106
              go_wp2_with fail
              refine (HN.out _ HAL.out).mono ?_
              rintro e w1 ⟨rfl,hb1⟩
              have D:=HBX.out.keep hb1 (by simp)
              obtain ⟨b0,b1,b2,b3,b4,b5,b6,b7,b8,b9,b10,b11⟩:=row12 D.at_
              have zs:=D.lt
              have HBL:=Lib.hid (HAL.out.trans (hb1.mono (by simp)))
              clear D hb1
              go_wp2_with fail
              go_returns
              exact ⟨rfl,HBL.out⟩
            · obtain rfl:R=0:=by rw [←HR.out];simp [hi0,hi1,hn1,hn2]
              go_enter Tryz.func106,Tryz.ntmps106
              go_wp2_with fail
              refine (HN.out _ HAL.out).mono ?_
              rintro e w1 ⟨rfl,hb1⟩
              have D:=HBX.out.keep hb1 (by simp)
              obtain ⟨b0,b1,b2,b3,b4,b5,b6,b7,b8,b9,b10,b11⟩:=row12 D.at_
              have zs:=D.lt
              have HBL:=Lib.hid (HAL.out.trans (hb1.mono (by simp)))
              clear D hb1
              go_wp2_with fail
              go_returns
              exact ⟨rfl,HBL.out⟩
    · have f9:(ck !=9)=true:=by simp [e9]
      obtain rfl:R=31:=by rw [←HR.out];simp [e8,e9]
      go_enter Tryz.func106,Tryz.ntmps106
      go_wp2_with fail
      go_returns
      exact ⟨rfl,HAL.out⟩
end Go.Proofs.YtgcfhkceejcliaaGreatDoor
namespace Go.Proofs.YtgcfhkceejcliaaGreatDoor
open Go.RowKit
def textDo (s:ByteArray) (k i n:Int) (cs:ByteArray):ByteArray:=
  if k=8 then s.extract 0 ((cuts s).getD i.toNat 0)++cs++s.extract ((cuts s).getD i.toNat 0) s.size
  else s.extract 0 ((cuts s).getD i.toNat 0)++s.extract ((cuts s).getD (i+n).toNat 0) s.size
theorem tCheck_ok {s:ByteArray} {k i n:Int} (h:tCheck s k i n=0):(k=8∨(k=9∧1≤n∧i+n≤textN s))∧0≤i∧i≤textN s:=by
  unfold tCheck at h
  by_cases h1:k≠8∧k≠9
  · rw [if_pos h1] at h;omega
  · rw [if_neg h1] at h
    by_cases h2:i<0∨(textN s:Int)<i
    · rw [if_pos h2] at h;omega
    · rw [if_neg h2] at h
      by_cases h3:k=9∧(n<1∨(textN s:Int) - i<n)
      · rw [if_pos h3] at h;omega
      · omega
set_option maxHeartbeats 8000000 in
set_option maxRecDepth 100000 in
theorem textDo_any (w:World) (s:ByteArray) (c:CC) (hb:c.Bnd) (hs:s.size≤1000000000000) (hT:Tabs w) (hc:tCheck s c.k c.i c.n=0):
    Calls Tryz.prog 84 #[.string s, .agg #[.int .u8 c.k, .slice c.pa c.pl c.pc, .string c.key, .int .i64 c.i, .int .i64 c.j, .int .i64 c.n, .int .u8 c.v.k, .int .i64 c.v.n, .string c.v.s, .slice c.v.la c.v.ll c.v.lc, .slice c.v.oa c.v.ol c.v.oc, .string c.s]] w fun e w'=>e= .returned (.tuple #[.string (textDo s c.k c.i c.n c.s), .int .i64 0])∧Below w.heap.size w w':=by
  have HCK:Hid (∀W,Below w.heap.size w W→Calls Tryz.prog 106 #[.string s, .agg #[.int .u8 c.k, .slice c.pa c.pl c.pc, .string c.key, .int .i64 c.i, .int .i64 c.j, .int .i64 c.n, .int .u8 c.v.k, .int .i64 c.v.n, .string c.v.s, .slice c.v.la c.v.ll c.v.lc, .slice c.v.oa c.v.ol c.v.oc, .string c.s]] W fun e w'=>e= .returned (.int .i64 0)∧Below W.heap.size W w'):=fun W hW=>by
    have:=textCheck_any W s c hb hs (hT.below hW)
    rw [hc] at this;exact this
  obtain ⟨hk,hi0,hi1⟩:=tCheck_ok hc
  have hcl:=cuts_len s
  have hcle:=cuts_le s
  obtain ⟨C,hC⟩:∃C,cuts s=C:=⟨_,rfl⟩
  have HCU:Hid (∀W,Below w.heap.size w W→Calls Tryz.prog 107 #[.string s] W (IntsPost W C)):=fun W hW=>by rw [←hC];exact cuts_any W s hs (hT.below hW)
  have HBX:=Lib.hid (BC.start w #[.int .u8 c.k, .slice c.pa c.pl c.pc, .string c.key, .int .i64 c.i, .int .i64 c.j, .int .i64 c.n, .int .u8 c.v.k, .int .i64 c.v.n, .string c.v.s, .slice c.v.la c.v.ll c.v.lc, .slice c.v.oa c.v.ol c.v.oc, .string c.s] 63)
  have HAL:=Lib.hid ((Below.refl _ _).alloc (Nat.le_refl _) (.cells #[.int .u8 c.k, .slice c.pa c.pl c.pc, .string c.key, .int .i64 c.i, .int .i64 c.j, .int .i64 c.n, .int .u8 c.v.k, .int .i64 c.v.n, .string c.v.s, .slice c.v.la c.v.ll c.v.lc, .slice c.v.oa c.v.ol c.v.oc, .string c.s] 63):Below w.heap.size w _)
  obtain ⟨R,hR⟩:∃R,textDo s c.k c.i c.n c.s=R:=⟨_,rfl⟩
  rw [hR]
  rw [textDo,hC] at hR
  rw [hC] at hcl hcle
  rw [textN,hC] at hi1
  obtain ⟨I,hI⟩:∃I:Nat,c.i=I:=⟨c.i.toNat,by omega⟩
  have hIl:I<C.length:=by omega
  rw [hI,Int.toNat_natCast,List.getD_eq_getElem?_getD,List.getElem?_eq_getElem hIl,Option.getD_some] at hR
  have hpl:=hcle I hIl
  obtain ⟨p,hp⟩:∃p,C[I] =p:=⟨_,rfl⟩
  rw [hp] at hR hpl
  have HP:=Lib.hid hp
  have hk2:(c.k=8)∨(c.k=9∧∃J:Nat,c.n=J∧I+J<C.length):=by
    rw [textN,hC] at hk
    rcases hk with h|⟨h1,h2,h3⟩
    · exact .inl h
    · exact .inr ⟨h1,c.n.toNat,by omega,by omega⟩
  obtain ⟨ck,hck⟩:∃ck,c.k=ck:=⟨_,rfl⟩
  obtain ⟨cn,hcn⟩:∃cn,c.n=cn:=⟨_,rfl⟩
  rw [hck,hcn] at hR hk2
  rw [hck,hI,hcn] at HCK HBX HAL ⊢
  have HCLE:=Lib.hid hcle
  have hsz:s.size≤9223372036854775807:=by omega
  have hs1:=hb.s1
  have hq1:¬(9223372036854775807<p+c.s.size):=by omega
  have hq2:¬(9223372036854775807<p+c.s.size+(s.size - p)):=by omega
  clear hC hT hb hc hk hck hcn hi0 hi1 hcle hI hp
  rcases hk2 with e8|⟨e9,J,hJ,hIJ⟩
  · cases e8
    rw [if_pos rfl] at hR
    have HR:=Lib.hid hR
    clear hR
    go_enter Tryz.func84,Tryz.ntmps84
    go_wp2_with fail
    refine (HCK.out _ HAL.out).mono ?_
    rintro e w1 ⟨rfl,hb1⟩
    have D1:=HBX.out.keep hb1 (by simp)
    have hbl1:=HAL.out.trans (hb1.mono (by simp))
    have HD1:=Lib.hid D1
    have HBL1:=Lib.hid hbl1
    clear D1 hb1 hbl1
    go_wp2_with fail
    refine (HCU.out _ HBL1.out).mono ?_
    rintro e w2 ⟨⟨g,gc,rfl,hc1,hc2,hgl,hcell⟩,hb2⟩
    have D2:=HD1.out.keep hb2 HD1.out.lt
    obtain ⟨b0,b1,b2,b3,b4,b5,b6,b7,b8,b9,b10,b11⟩:=row12 D2.at_
    have zs:=D2.lt
    have hcI:=hcell I hIl
    rw [HP.out] at hcI
    have HBL2:=Lib.hid (HBL1.out.trans (hb2.mono HBL1.out.size))
    clear D2 hb2 hcell
    go_wp2_with fail
    go_region
    go_wp2_with fail
    go_returns
    exact ⟨by rw [←HR.out];rfl,HBL2.out.drew⟩
  · cases e9
    cases hJ
    rw [if_neg (by omega),show ((I:Int)+(J:Int)).toNat=I+J by omega,List.getD_eq_getElem?_getD,List.getElem?_eq_getElem hIJ,Option.getD_some] at hR
    have hql:=HCLE.out (I+J) hIJ
    obtain ⟨q,hq⟩:∃q,C[I+J] =q:=⟨_,rfl⟩
    rw [hq] at hR hql
    have HQ:=Lib.hid hq
    have hw:IntKind.i64.wrap ((I:Int)+(J:Int))=((I+J:Nat):Int):=by rw [IntWalk.i64_in _ (by omega)];omega
    have hq1:¬(9223372036854775807<p+(s.size - q)):=by omega
    have HR:=Lib.hid hR
    clear hR hq
    go_enter Tryz.func84,Tryz.ntmps84
    go_wp2_with fail
    refine (HCK.out _ HAL.out).mono ?_
    rintro e w1 ⟨rfl,hb1⟩
    have D1:=HBX.out.keep hb1 (by simp)
    have hbl1:=HAL.out.trans (hb1.mono (by simp))
    have HD1:=Lib.hid D1
    have HBL1:=Lib.hid hbl1
    clear D1 hb1 hbl1
    go_wp2_with fail
    refine (HCU.out _ HBL1.out).mono ?_
    rintro e w2 ⟨⟨g,gc,rfl,hc1,hc2,hgl,hcell⟩,hb2⟩
    have D2:=HD1.out.keep hb2 HD1.out.lt
    obtain ⟨b0,b1,b2,b3,b4,b5,b6,b7,b8,b9,b10,b11⟩:=row12 D2.at_
    have zs:=D2.lt
    have hcI:=hcell I hIl
    rw [HP.out] at hcI
    have hcJ:=hcell (I+J) hIJ
    rw [HQ.out] at hcJ
    have HBL2:=Lib.hid (HBL1.out.trans (hb2.mono HBL1.out.size))
    clear D2 hb2 hcell
    go_wp2_with fail
    go_region
    go_wp2_with fail
    go_returns
    exact ⟨by rw [←HR.out];rfl,HBL2.out.drew⟩
end Go.Proofs.YtgcfhkceejcliaaGreatDoor
namespace Go.Proofs.YtgcfhkceejcliaaGreatDoor
open Go.RowKit
set_option maxHeartbeats 4000000 in
set_option maxRecDepth 100000 in
theorem known05_any (w:World) (c:CC):
    Calls Tryz.prog 116 #[.agg #[.int .u8 c.k, .slice c.pa c.pl c.pc, .string c.key, .int .i64 c.i, .int .i64 c.j, .int .i64 c.n, .int .u8 c.v.k, .int .i64 c.v.n, .string c.v.s, .slice c.v.la c.v.ll c.v.lc, .slice c.v.oa c.v.ol c.v.oc, .string c.s]] w fun e w'=>e= .returned (.bool (decide (4≤c.k∧c.k≤7)))∧Below w.heap.size w w':=by
  have HBX:=Lib.hid (BC.start w #[.int .u8 c.k, .slice c.pa c.pl c.pc, .string c.key, .int .i64 c.i, .int .i64 c.j, .int .i64 c.n, .int .u8 c.v.k, .int .i64 c.v.n, .string c.v.s, .slice c.v.la c.v.ll c.v.lc, .slice c.v.oa c.v.ol c.v.oc, .string c.s] 63)
  have HAL:=Lib.hid ((Below.refl _ _).alloc (Nat.le_refl _) (.cells #[.int .u8 c.k, .slice c.pa c.pl c.pc, .string c.key, .int .i64 c.i, .int .i64 c.j, .int .i64 c.n, .int .u8 c.v.k, .int .i64 c.v.n, .string c.v.s, .slice c.v.la c.v.ll c.v.lc, .slice c.v.oa c.v.ol c.v.oc, .string c.s] 63):Below w.heap.size w _)
  obtain ⟨R,hR⟩:∃R,decide (4≤c.k∧c.k≤7)=R:=⟨_,rfl⟩
  rw [hR]
  obtain ⟨ck,hck⟩:∃ck,c.k=ck:=⟨_,rfl⟩
  rw [hck] at HBX HAL hR ⊢
  have HR:=Lib.hid hR
  clear hck hR
  by_cases e4:ck=4
  · cases e4
    obtain rfl:R=true:=by rw [←HR.out];rfl
    go_enter Tryz.func116,Tryz.ntmps116
    go_wp2_with fail
    go_returns
    exact ⟨rfl,HAL.out⟩
  have f4:(ck==4)=false:=by simp [e4]
  by_cases e5:ck=5
  · cases e5
    obtain rfl:R=true:=by rw [←HR.out];rfl
    go_enter Tryz.func116,Tryz.ntmps116
    go_wp2_with fail
    go_returns
    exact ⟨rfl,HAL.out⟩
  have f5:(ck==5)=false:=by simp [e5]
  by_cases e6:ck=6
  · cases e6
    obtain rfl:R=true:=by rw [←HR.out];rfl
    go_enter Tryz.func116,Tryz.ntmps116
    go_wp2_with fail
    go_returns
    exact ⟨rfl,HAL.out⟩
  have f6:(ck==6)=false:=by simp [e6]
  by_cases e7:ck=7
  · cases e7
    obtain rfl:R=true:=by rw [←HR.out];rfl
    go_enter Tryz.func116,Tryz.ntmps116
    go_wp2_with fail
    go_returns
    exact ⟨rfl,HAL.out⟩
  have f7:(ck==7)=false:=by simp [e7]
  obtain rfl:R=false:=by rw [←HR.out];simp;omega
  go_enter Tryz.func116,Tryz.ntmps116
  go_wp2_with fail
  go_returns
  exact ⟨rfl,HAL.out⟩
def lCheck (n:Nat) (k i j:Int):Int:=
  if ¬(4≤k∧k≤7) then 31 else if i<0∨(n:Int)<i∨(i=n∧k≠4) then 32 else if k=7∧(j<0∨(n:Int)≤j) then 32 else 0
theorem lCheck_ok {n:Nat} {k i j:Int} (h:lCheck n k i j=0):4≤k∧k≤7∧0≤i∧i≤n∧(k≠4→i<n)∧(k=7→0≤j∧j<n):=by
  unfold lCheck at h
  by_cases h1:¬(4≤k∧k≤7)
  · rw [if_pos h1] at h;omega
  · rw [if_neg h1] at h
    by_cases h2:i<0∨(n:Int)<i∨(i=n∧k≠4)
    · rw [if_pos h2] at h;omega
    · rw [if_neg h2] at h
      by_cases h3:k=7∧(j<0∨(n:Int)≤j)
      · rw [if_pos h3] at h;omega
      · omega
set_option maxHeartbeats 8000000 in
set_option maxRecDepth 100000 in
theorem listCheck_any (w:World) (n:Nat) (hn:n≤9223372036854775807) (c:CC):
    Calls Tryz.prog 108 #[.int .i64 n, .agg #[.int .u8 c.k, .slice c.pa c.pl c.pc, .string c.key, .int .i64 c.i, .int .i64 c.j, .int .i64 c.n, .int .u8 c.v.k, .int .i64 c.v.n, .string c.v.s, .slice c.v.la c.v.ll c.v.lc, .slice c.v.oa c.v.ol c.v.oc, .string c.s]] w fun e w'=>e= .returned (.int .i64 (lCheck n c.k c.i c.j))∧Below w.heap.size w w':=by
  have HBX:=Lib.hid (BC.start w #[.int .u8 c.k, .slice c.pa c.pl c.pc, .string c.key, .int .i64 c.i, .int .i64 c.j, .int .i64 c.n, .int .u8 c.v.k, .int .i64 c.v.n, .string c.v.s, .slice c.v.la c.v.ll c.v.lc, .slice c.v.oa c.v.ol c.v.oc, .string c.s] 63)
  have HAL:=Lib.hid ((Below.refl _ _).alloc (Nat.le_refl _) (.cells #[.int .u8 c.k, .slice c.pa c.pl c.pc, .string c.key, .int .i64 c.i, .int .i64 c.j, .int .i64 c.n, .int .u8 c.v.k, .int .i64 c.v.n, .string c.v.s, .slice c.v.la c.v.ll c.v.lc, .slice c.v.oa c.v.ol c.v.oc, .string c.s] 63):Below w.heap.size w _)
  have HKN:Hid (∀W,Calls Tryz.prog 116 #[.agg #[.int .u8 c.k, .slice c.pa c.pl c.pc, .string c.key, .int .i64 c.i, .int .i64 c.j, .int .i64 c.n, .int .u8 c.v.k, .int .i64 c.v.n, .string c.v.s, .slice c.v.la c.v.ll c.v.lc, .slice c.v.oa c.v.ol c.v.oc, .string c.s]] W fun e w'=>e= .returned (.bool (decide (4≤c.k∧c.k≤7)))∧Below W.heap.size W w'):=fun W=>known05_any W c
  obtain ⟨KN,hKN⟩:∃KN,decide (4≤c.k∧c.k≤7)=KN:=⟨_,rfl⟩
  rw [hKN] at HKN
  obtain ⟨R,hR⟩:∃R,lCheck n c.k c.i c.j=R:=⟨_,rfl⟩
  rw [hR]
  rw [lCheck] at hR
  obtain ⟨ck,hck⟩:∃ck,c.k=ck:=⟨_,rfl⟩
  obtain ⟨ci,hci⟩:∃ci,c.i=ci:=⟨_,rfl⟩
  obtain ⟨cj,hcj⟩:∃cj,c.j=cj:=⟨_,rfl⟩
  rw [hck,hci,hcj] at hR HKN HBX HAL ⊢
  rw [hck] at hKN
  have HR:=Lib.hid hR
  have HKE:=Lib.hid hKN
  clear hR hck hci hcj hKN
  cases KN with
  | false=>
    have hk:¬(4≤ck∧ck≤7):=by simpa using HKE.out
    have HK:=Lib.hid hk
    clear hk
    obtain rfl:R=31:=by rw [←HR.out];rw [if_pos HK.out]
    go_enter Tryz.func108,Tryz.ntmps108
    go_wp2_with fail
    refine (HKN.out _).mono ?_
    rintro e w1 ⟨rfl,hb1⟩
    have D:=HBX.out.keep hb1 (by simp)
    obtain ⟨b0,b1,b2,b3,b4,b5,b6,b7,b8,b9,b10,b11⟩:=row12 D.at_
    have zs:=D.lt
    have HBL:=Lib.hid (HAL.out.trans (hb1.mono (by simp)))
    clear D hb1
    go_wp2_with fail
    go_returns
    exact ⟨rfl,HBL.out⟩
  | true =>
    have hk:4≤ck∧ck≤7:=by simpa using HKE.out
    have HK:=Lib.hid hk
    clear hk
    by_cases h1:ci<0
    · obtain rfl:R=32:=by rw [←HR.out];rw [if_neg (fun h=>h HK.out),if_pos (.inl h1)]
      go_enter Tryz.func108,Tryz.ntmps108
      go_wp2_with fail
      refine (HKN.out _).mono ?_
      rintro e w1 ⟨rfl,hb1⟩
      have D:=HBX.out.keep hb1 (by simp)
      obtain ⟨b0,b1,b2,b3,b4,b5,b6,b7,b8,b9,b10,b11⟩:=row12 D.at_
      have zs:=D.lt
      have HBL:=Lib.hid (HAL.out.trans (hb1.mono (by simp)))
      clear D hb1
      go_wp2_with fail
      go_returns
      exact ⟨rfl,HBL.out⟩
    by_cases h2:(n:Int)<ci
    · obtain rfl:R=32:=by rw [←HR.out];rw [if_neg (fun h=>h HK.out),if_pos (.inr (.inl h2))]
      go_enter Tryz.func108,Tryz.ntmps108
      go_wp2_with fail
      refine (HKN.out _).mono ?_
      rintro e w1 ⟨rfl,hb1⟩
      have D:=HBX.out.keep hb1 (by simp)
      obtain ⟨b0,b1,b2,b3,b4,b5,b6,b7,b8,b9,b10,b11⟩:=row12 D.at_
      have zs:=D.lt
      have HBL:=Lib.hid (HAL.out.trans (hb1.mono (by simp)))
      clear D hb1
      go_wp2_with fail
      go_returns
      exact ⟨rfl,HBL.out⟩
    by_cases h3:ci=n
    · cases h3
      by_cases h4:ck=4
      · cases h4
        obtain rfl:R=0:=by rw [←HR.out];rw [if_neg (fun h=>h HK.out),if_neg (by omega),if_neg (by omega)]
        go_enter Tryz.func108,Tryz.ntmps108
        go_wp2_with fail
        refine (HKN.out _).mono ?_
        rintro e w1 ⟨rfl,hb1⟩
        have D:=HBX.out.keep hb1 (by simp)
        obtain ⟨b0,b1,b2,b3,b4,b5,b6,b7,b8,b9,b10,b11⟩:=row12 D.at_
        have zs:=D.lt
        have HBL:=Lib.hid (HAL.out.trans (hb1.mono (by simp)))
        clear D hb1
        go_wp2_with fail
        go_returns
        exact ⟨rfl,HBL.out⟩
      · have f4:(ck !=4)=true:=by simp [h4]
        obtain rfl:R=32:=by rw [←HR.out];rw [if_neg (fun h=>h HK.out),if_pos (.inr (.inr ⟨rfl,h4⟩))]
        go_enter Tryz.func108,Tryz.ntmps108
        go_wp2_with fail
        refine (HKN.out _).mono ?_
        rintro e w1 ⟨rfl,hb1⟩
        have D:=HBX.out.keep hb1 (by simp)
        obtain ⟨b0,b1,b2,b3,b4,b5,b6,b7,b8,b9,b10,b11⟩:=row12 D.at_
        have zs:=D.lt
        have HBL:=Lib.hid (HAL.out.trans (hb1.mono (by simp)))
        clear D hb1
        go_wp2_with fail
        go_returns
        exact ⟨rfl,HBL.out⟩
    · have f3:(ci==(n:Int))=false:=by simp [h3]
      by_cases h7:ck=7
      · cases h7
        by_cases h8:cj<0
        · obtain rfl:R=32:=by rw [←HR.out];rw [if_neg (fun h=>h HK.out),if_neg (by omega),if_pos (by omega)]
          go_enter Tryz.func108,Tryz.ntmps108
          go_wp2_with fail
          refine (HKN.out _).mono ?_
          rintro e w1 ⟨rfl,hb1⟩
          have D:=HBX.out.keep hb1 (by simp)
          obtain ⟨b0,b1,b2,b3,b4,b5,b6,b7,b8,b9,b10,b11⟩:=row12 D.at_
          have zs:=D.lt
          have HBL:=Lib.hid (HAL.out.trans (hb1.mono (by simp)))
          clear D hb1
          go_wp2_with fail
          go_returns
          exact ⟨rfl,HBL.out⟩
        · by_cases h9:(n:Int)≤cj
          · obtain rfl:R=32:=by rw [←HR.out];rw [if_neg (fun h=>h HK.out),if_neg (by omega),if_pos (by omega)]
            go_enter Tryz.func108,Tryz.ntmps108
            go_wp2_with fail
            refine (HKN.out _).mono ?_
            rintro e w1 ⟨rfl,hb1⟩
            have D:=HBX.out.keep hb1 (by simp)
            obtain ⟨b0,b1,b2,b3,b4,b5,b6,b7,b8,b9,b10,b11⟩:=row12 D.at_
            have zs:=D.lt
            have HBL:=Lib.hid (HAL.out.trans (hb1.mono (by simp)))
            clear D hb1
            go_wp2_with fail
            go_returns
            exact ⟨rfl,HBL.out⟩
          · obtain rfl:R=0:=by rw [←HR.out];rw [if_neg (fun h=>h HK.out),if_neg (by omega),if_neg (by omega)]
            go_enter Tryz.func108,Tryz.ntmps108
            go_wp2_with fail
            refine (HKN.out _).mono ?_
            rintro e w1 ⟨rfl,hb1⟩
            have D:=HBX.out.keep hb1 (by simp)
            obtain ⟨b0,b1,b2,b3,b4,b5,b6,b7,b8,b9,b10,b11⟩:=row12 D.at_
            have zs:=D.lt
            have HBL:=Lib.hid (HAL.out.trans (hb1.mono (by simp)))
            clear D hb1
            go_wp2_with fail
            go_returns
            exact ⟨rfl,HBL.out⟩
      · have f7:(ck==7)=false:=by simp [h7]
        obtain rfl:R=0:=by rw [←HR.out];rw [if_neg (fun h=>h HK.out),if_neg (by omega),if_neg (by omega)]
        go_enter Tryz.func108,Tryz.ntmps108
        go_wp2_with fail
        refine (HKN.out _).mono ?_
        rintro e w1 ⟨rfl,hb1⟩
        have D:=HBX.out.keep hb1 (by simp)
        obtain ⟨b0,b1,b2,b3,b4,b5,b6,b7,b8,b9,b10,b11⟩:=row12 D.at_
        have zs:=D.lt
        have HBL:=Lib.hid (HAL.out.trans (hb1.mono (by simp)))
        clear D hb1
        go_wp2_with fail
        go_returns
        exact ⟨rfl,HBL.out⟩
end Go.Proofs.YtgcfhkceejcliaaGreatDoor
namespace Go.Proofs.YtgcfhkceejcliaaGreatDoor
open Go.RowKit
def listDo (l:List V) (k i j:Int) (v:V):List V:=
  if k=4 then insL l i.toNat v else if k=5 then remL l i.toNat else if k=6 then l.set i.toNat v else insL (remL l i.toNat) j.toNat (l.getD i.toNat V.none)
def DoLPost (w:World) (r:List V) (e:Ending) (w':World):Prop:=
  (∃a n c,e= .returned (.tuple #[.slice a n c, .int .i64 0])∧IsVals (only (fun b=>w.heap.size≤b) w') w'.heap.size r a n c)∧Below w.heap.size w w'
theorem isVals_only {w W:World} {B0 B1:Nat} {l:List V} {a:Option Addr} {n c:Nat} (h:IsVals (only (fun b=>B1≤b) w) w.heap.size l a n c) (hB:B0≤B1) (hb:Below w.heap.size w W):IsVals (only (fun b=>B0≤b) W) W.heap.size l a n c:=by
  have hsh:Shows (only (fun b=>B1≤b) w) (only (fun b=>B0≤b) W) w.heap.size:=shows_step fun k hk hl=>⟨Nat.le_trans hB hk,hb.block k hl⟩
  obtain ⟨h1,h2,h3,h4,b,o,f,h5,h6⟩:=h
  exact ⟨h1,h2,h3,h4,b,o,f,fun hp=>⟨(h5 hp).1,Nat.lt_of_lt_of_le (h5 hp).2 hb.size⟩,fun i hi=>⟨(h6 i hi).1.sub hsh (h5 (by omega)).2,((h6 i hi).2.sub hsh).more hb.size⟩⟩
theorem isVal_only {w W:World} {B0 B1:Nat} {x:V} {c:VC} (h:IsVal (only (fun b=>B1≤b) w) w.heap.size x c) (hB:B0≤B1) (hb:Below w.heap.size w W):IsVal (only (fun b=>B0≤b) W) W.heap.size x c:=
  (h.sub (shows_step fun k hk hl=>⟨Nat.le_trans hB hk,hb.block k hl⟩)).more hb.size
theorem fields_none (w:World) (B:Nat):IsFields w B [] none 0 0:=⟨rfl,Nat.le_refl _,by omega,by omega,0,0,fun _=>vzero,fun h=>absurd h (by omega),fun i h=>absurd h (by simp)⟩
theorem own_list (w:World) (l:List V) (a:Option Addr) (n c:Nat) (hl:IsVals w w.heap.size l a n c):Calls Tryz.prog 103 #[.agg #[.int .u8 0, .int .i64 0, .string { data:= #[] }, .slice a n c, .slice none 0 0]] w (CopyPost w 0 0 { data:= #[] } l []):=by
  have hv:IsVal w w.heap.size (.mk 0 0 .empty l []) ⟨0,0, .empty,a,n,c,none,0,0⟩:=
    IsVal.of_lists (c:=⟨0,0, .empty,a,n,c,none,0,0⟩) ⟨by show (0:Int)≤0;decide,by show (0:Int)<256;decide,by show (-9223372036854775808:Int)≤0;decide,by show (0:Int)≤9223372036854775807;decide,by show ByteArray.empty.size≤140737488355328;decide,hl.cap,hl.max,hl.few,by show (0:Nat)≤0;decide,by show (0:Nat)≤9223372036854775807;decide,by show (0:Nat)≤1466015503701;decide⟩ hl (fields_none w _)
  exact copy_any w (.mk 0 0 .empty l []) 0 0 { data:= #[] } a n c none 0 0 hv
theorem run_field3 (W:World) (k n:Int) (s:ByteArray) (a:Option Addr) (m c:Nat) (a':Option Addr) (m' c':Nat):
    (Instr.field 33 (.agg #[.int .u8 k, .int .i64 n, .string s, .slice a m c, .slice a' m' c']) 3).run Tryz.prog W= .ok (.slice a m c) W:=by
  first
    |kernel_rfl
    |(simp [Instr.field,run_underlying Tryz.underlying33,go_sem];done)
theorem Fresh.neat {w:World} {base:Nat} {l:List V} {o:List (ByteArray×V)} {a:Option Addr} {m c:Nat} {a':Option Addr} {m' c':Nat} {cl:List VC} {co:List (ByteArray×VC)} (h:Fresh w base l o a m c a' m' c' cl co):Neat2 a c:=by
  cases ha:a with
  | none=>
    by_cases hm:0<m
    · obtain ⟨g,e,_⟩:=h.ownL.row (.inl hm)
      rw [ha] at e;cases e
    · exact .inl ⟨rfl,h.ownL.none_ (by omega) ha⟩
  | some ad=>
    obtain ⟨g,e,_⟩:=h.ownL.row (.inr (by rw [ha];simp))
    rw [ha] at e
    exact .inr ⟨g,0,e⟩
theorem Fresh.vals {w:World} {base:Nat} {l:List V} {o:List (ByteArray×V)} {a:Option Addr} {m c:Nat} {a':Option Addr} {m' c':Nat} {cl:List VC} {co:List (ByteArray×VC)} (h:Fresh w base l o a m c a' m' c' cl co):IsVals (only (fun b=>base≤b) w) w.heap.size l a m c:=
  (h.val (k:=0) (n:=0) (s:= .empty) (by omega) (by omega) (by omega) (by omega) (by decide)).lists.2.2.2.2.1
set_option maxHeartbeats 8000000 in
set_option maxRecDepth 100000 in
theorem listDo_4 (w:World) (l:List V) (a:Option Addr) (n c:Nat) (hl:IsVals w w.heap.size l a n c) (hfew:n≤100000000) (cc:CC) (x:V) (hx:IsVal w w.heap.size x cc.v) (hc:lCheck n cc.k cc.i cc.j=0) (hk:cc.k=4):
    Calls Tryz.prog 85 #[.slice a n c, .agg #[.int .u8 cc.k, .slice cc.pa cc.pl cc.pc, .string cc.key, .int .i64 cc.i, .int .i64 cc.j, .int .i64 cc.n, .int .u8 cc.v.k, .int .i64 cc.v.n, .string cc.v.s, .slice cc.v.la cc.v.ll cc.v.lc, .slice cc.v.oa cc.v.ol cc.v.oc, .string cc.s]] w (DoLPost w (listDo l cc.k cc.i cc.j x)):=by
  have hmax:=hl.max
  have hlen:=hl.len
  obtain ⟨_,_,hi0,hi1,hi2,hj⟩:=lCheck_ok hc
  have HCK:Hid (∀W,Below w.heap.size w W→Calls Tryz.prog 108 #[.int .i64 n, .agg #[.int .u8 cc.k, .slice cc.pa cc.pl cc.pc, .string cc.key, .int .i64 cc.i, .int .i64 cc.j, .int .i64 cc.n, .int .u8 cc.v.k, .int .i64 cc.v.n, .string cc.v.s, .slice cc.v.la cc.v.ll cc.v.lc, .slice cc.v.oa cc.v.ol cc.v.oc, .string cc.s]] W fun e w'=>e= .returned (.int .i64 0)∧Below W.heap.size W w'):=fun W hW=>by
    have:=listCheck_any W n (by omega) cc
    rw [hc] at this;exact this
  have HOW:Hid (∀W,Below w.heap.size w W→Calls Tryz.prog 103 #[.agg #[.int .u8 0, .int .i64 0, .string { data:= #[] }, .slice a n c, .slice none 0 0]] W (CopyPost W 0 0 { data:= #[] } l [])):=fun W hW=>own_list W l a n c (hl.later_ hW)
  have HCV:Hid (∀W,Below w.heap.size w W→Calls Tryz.prog 103 #[.agg #[.int .u8 cc.v.k, .int .i64 cc.v.n, .string cc.v.s, .slice cc.v.la cc.v.ll cc.v.lc, .slice cc.v.oa cc.v.ol cc.v.oc]] W (NewVal W x)):=fun W hW=>copyIH x W cc.v (hx.later_ hW)
  have HBX:=Lib.hid (BC.start w #[.int .u8 cc.k, .slice cc.pa cc.pl cc.pc, .string cc.key, .int .i64 cc.i, .int .i64 cc.j, .int .i64 cc.n, .int .u8 cc.v.k, .int .i64 cc.v.n, .string cc.v.s, .slice cc.v.la cc.v.ll cc.v.lc, .slice cc.v.oa cc.v.ol cc.v.oc, .string cc.s] 63)
  have HAL:=Lib.hid ((Below.refl _ _).alloc (Nat.le_refl _) (.cells #[.int .u8 cc.k, .slice cc.pa cc.pl cc.pc, .string cc.key, .int .i64 cc.i, .int .i64 cc.j, .int .i64 cc.n, .int .u8 cc.v.k, .int .i64 cc.v.n, .string cc.v.s, .slice cc.v.la cc.v.ll cc.v.lc, .slice cc.v.oa cc.v.ol cc.v.oc, .string cc.s] 63):Below w.heap.size w _)
  obtain ⟨R,hR⟩:∃R,listDo l cc.k cc.i cc.j x=R:=⟨_,rfl⟩
  rw [hR]
  rw [listDo,hk] at hR
  have HL:=Lib.hid hlen
  obtain ⟨i,hi⟩:∃i:Nat,cc.i=i:=⟨cc.i.toNat,by omega⟩
  rw [hi] at hR hi1 hi2
  rw [hk,hi] at HCK HBX HAL ⊢
  rw [Int.toNat_natCast] at hR
  have HR:=Lib.hid hR
  clear hl hx hc hlen hR hi hi0 hj
  go_enter Tryz.func85,Tryz.ntmps85
  go_wp2_with fail
  refine (HCK.out _ HAL.out).mono ?_
  rintro e w1 ⟨rfl,hb1⟩
  have HD1:=Lib.hid (HBX.out.keep hb1 (by simp))
  have HBL1:=Lib.hid (HAL.out.trans (hb1.mono (by simp)))
  clear hb1
  go_wp2_with fail
  refine (HOW.out _ HBL1.out).mono ?_
  rintro e w2 ⟨⟨a0,m0,c0,a1,m1,c1,cl,co,rfl,hF⟩,hb2⟩
  have D2:=HD1.out.keep hb2 HD1.out.lt
  obtain ⟨b0,b1,b2,b3,b4,b5,b6,b7,b8,b9,b10,b11⟩:=row12 D2.at_
  have zs2:=D2.lt
  have HBL2:=Lib.hid (HBL1.out.trans (hb2.mono HBL1.out.size))
  have hm0:m0=n:=by rw [hF.len, ←HL.out]
  subst hm0
  have hw12:=hb2.size
  have hw1:=HBL1.out.size
  have HF:=Lib.hid hF
  have HD2:=Lib.hid D2
  have hfld:=run_field3 w2 0 0 { data:= #[] } a0 m0 c0 a1 m1 c1
  clear hb2 hF D2
  go_wp2_with fail
  refine (HCV.out _ HBL2.out).mono ?_
  rintro e w3 ⟨⟨f,rfl,hI3⟩,hb3⟩
  have D3:=HD2.out.keep hb3 zs2
  clear b0 b1 b2 b3 b4 b5 b6 b7 b8 b9 b10 b11
  obtain ⟨b0,b1,b2,b3,b4,b5,b6,b7,b8,b9,b10,b11⟩:=row12 D3.at_
  have zs3:=D3.lt
  have HBL3:=Lib.hid (HBL2.out.trans (hb3.mono HBL2.out.size))
  have hw23:=hb3.size
  have HF3:=Lib.hid (HF.out.later_ hb3)
  have HI3:=Lib.hid hI3
  have HAL3:=Lib.hid (((Below.refl _ _).alloc (Nat.le_refl _) (.cells #[.int .u8 f.k, .int .i64 f.n, .string f.s, .slice f.la f.ll f.lc, .slice f.oa f.ol f.oc] 33)):Below w3.heap.size w3 _)
  have HW:Hid (Calls Tryz.prog 109 #[.slice a0 m0 c0, .int .i64 i, .agg #[.int .u8 f.k, .int .i64 f.n, .string f.s, .slice f.la f.ll f.lc, .slice f.oa f.ol f.oc]] (w3.alloc (.cells #[.int .u8 f.k, .int .i64 f.n, .string f.s, .slice f.la f.ll f.lc, .slice f.oa f.ol f.oc] 33)) (ListPost (w3.alloc (.cells #[.int .u8 f.k, .int .i64 f.n, .string f.s, .slice f.la f.ll f.lc, .slice f.oa f.ol f.oc] 33)) w.heap.size (insL l i x))):=with05_any (w3.alloc (.cells #[.int .u8 f.k, .int .i64 f.n, .string f.s, .slice f.la f.ll f.lc, .slice f.oa f.ol f.oc] 33)) w.heap.size (by simp;omega) l a0 m0 c0 (isVals_only HF3.out.vals hw1 HAL3.out) HF3.out.neat i (by omega) x f.k f.n f.s f.la f.ll f.lc f.oa f.ol f.oc (isVal_only HI3.out (by omega) HAL3.out) (by omega)
  obtain rfl:R=insL l i x:=by rw [←HR.out];rfl
  clear hb3 hI3 D3
  go_wp2_with fail
  refine HW.out.mono ?_
  rintro e w5 ⟨⟨a5,n5,c5,rfl,hI5,_⟩,hb5⟩
  go_wp2_with fail
  go_returns
  exact ⟨⟨a5,n5,c5,rfl,hI5⟩,(HBL3.out.trans (HAL3.out.mono HBL3.out.size)).trans (hb5.mono (by simp;omega))⟩
set_option maxHeartbeats 8000000 in
set_option maxRecDepth 100000 in
theorem listDo_5 (w:World) (l:List V) (a:Option Addr) (n c:Nat) (hl:IsVals w w.heap.size l a n c) (hfew:n≤100000000) (cc:CC) (x:V) (hx:IsVal w w.heap.size x cc.v) (hc:lCheck n cc.k cc.i cc.j=0) (hk:cc.k=5):
    Calls Tryz.prog 85 #[.slice a n c, .agg #[.int .u8 cc.k, .slice cc.pa cc.pl cc.pc, .string cc.key, .int .i64 cc.i, .int .i64 cc.j, .int .i64 cc.n, .int .u8 cc.v.k, .int .i64 cc.v.n, .string cc.v.s, .slice cc.v.la cc.v.ll cc.v.lc, .slice cc.v.oa cc.v.ol cc.v.oc, .string cc.s]] w (DoLPost w (listDo l cc.k cc.i cc.j x)):=by
  have hmax:=hl.max
  have hlen:=hl.len
  obtain ⟨_,_,hi0,hi1,hi2,hj⟩:=lCheck_ok hc
  have HCK:Hid (∀W,Below w.heap.size w W→Calls Tryz.prog 108 #[.int .i64 n, .agg #[.int .u8 cc.k, .slice cc.pa cc.pl cc.pc, .string cc.key, .int .i64 cc.i, .int .i64 cc.j, .int .i64 cc.n, .int .u8 cc.v.k, .int .i64 cc.v.n, .string cc.v.s, .slice cc.v.la cc.v.ll cc.v.lc, .slice cc.v.oa cc.v.ol cc.v.oc, .string cc.s]] W fun e w'=>e= .returned (.int .i64 0)∧Below W.heap.size W w'):=fun W hW=>by
    have:=listCheck_any W n (by omega) cc
    rw [hc] at this;exact this
  have HOW:Hid (∀W,Below w.heap.size w W→Calls Tryz.prog 103 #[.agg #[.int .u8 0, .int .i64 0, .string { data:= #[] }, .slice a n c, .slice none 0 0]] W (CopyPost W 0 0 { data:= #[] } l [])):=fun W hW=>own_list W l a n c (hl.later_ hW)
  have HCV:Hid (∀W,Below w.heap.size w W→Calls Tryz.prog 103 #[.agg #[.int .u8 cc.v.k, .int .i64 cc.v.n, .string cc.v.s, .slice cc.v.la cc.v.ll cc.v.lc, .slice cc.v.oa cc.v.ol cc.v.oc]] W (NewVal W x)):=fun W hW=>copyIH x W cc.v (hx.later_ hW)
  have HBX:=Lib.hid (BC.start w #[.int .u8 cc.k, .slice cc.pa cc.pl cc.pc, .string cc.key, .int .i64 cc.i, .int .i64 cc.j, .int .i64 cc.n, .int .u8 cc.v.k, .int .i64 cc.v.n, .string cc.v.s, .slice cc.v.la cc.v.ll cc.v.lc, .slice cc.v.oa cc.v.ol cc.v.oc, .string cc.s] 63)
  have HAL:=Lib.hid ((Below.refl _ _).alloc (Nat.le_refl _) (.cells #[.int .u8 cc.k, .slice cc.pa cc.pl cc.pc, .string cc.key, .int .i64 cc.i, .int .i64 cc.j, .int .i64 cc.n, .int .u8 cc.v.k, .int .i64 cc.v.n, .string cc.v.s, .slice cc.v.la cc.v.ll cc.v.lc, .slice cc.v.oa cc.v.ol cc.v.oc, .string cc.s] 63):Below w.heap.size w _)
  obtain ⟨R,hR⟩:∃R,listDo l cc.k cc.i cc.j x=R:=⟨_,rfl⟩
  rw [hR]
  rw [listDo,hk] at hR
  have HL:=Lib.hid hlen
  obtain ⟨i,hi⟩:∃i:Nat,cc.i=i:=⟨cc.i.toNat,by omega⟩
  rw [hi] at hR hi1 hi2
  rw [hk,hi] at HCK HBX HAL ⊢
  rw [Int.toNat_natCast] at hR
  have HR:=Lib.hid hR
  clear hl hx hc hlen hR hi hi0 hj
  go_enter Tryz.func85,Tryz.ntmps85
  go_wp2_with fail
  refine (HCK.out _ HAL.out).mono ?_
  rintro e w1 ⟨rfl,hb1⟩
  have HD1:=Lib.hid (HBX.out.keep hb1 (by simp))
  have HBL1:=Lib.hid (HAL.out.trans (hb1.mono (by simp)))
  clear hb1
  go_wp2_with fail
  refine (HOW.out _ HBL1.out).mono ?_
  rintro e w2 ⟨⟨a0,m0,c0,a1,m1,c1,cl,co,rfl,hF⟩,hb2⟩
  have D2:=HD1.out.keep hb2 HD1.out.lt
  obtain ⟨b0,b1,b2,b3,b4,b5,b6,b7,b8,b9,b10,b11⟩:=row12 D2.at_
  have zs2:=D2.lt
  have HBL2:=Lib.hid (HBL1.out.trans (hb2.mono HBL1.out.size))
  have hm0:m0=n:=by rw [hF.len, ←HL.out]
  subst hm0
  have hw12:=hb2.size
  have hw1:=HBL1.out.size
  have HF:=Lib.hid hF
  have HD2:=Lib.hid D2
  have hfld:=run_field3 w2 0 0 { data:= #[] } a0 m0 c0 a1 m1 c1
  clear hb2 hF D2
  go_wp2_with fail
  refine (HCV.out _ HBL2.out).mono ?_
  rintro e w3 ⟨⟨f,rfl,hI3⟩,hb3⟩
  have D3:=HD2.out.keep hb3 zs2
  clear b0 b1 b2 b3 b4 b5 b6 b7 b8 b9 b10 b11
  obtain ⟨b0,b1,b2,b3,b4,b5,b6,b7,b8,b9,b10,b11⟩:=row12 D3.at_
  have zs3:=D3.lt
  have HBL3:=Lib.hid (HBL2.out.trans (hb3.mono HBL2.out.size))
  have hw23:=hb3.size
  have HF3:=Lib.hid (HF.out.later_ hb3)
  have HI3:=Lib.hid hI3
  have HAL3:=Lib.hid (((Below.refl _ _).alloc (Nat.le_refl _) (.cells #[.int .u8 f.k, .int .i64 f.n, .string f.s, .slice f.la f.ll f.lc, .slice f.oa f.ol f.oc] 33)):Below w3.heap.size w3 _)
  have HW:Hid (Calls Tryz.prog 110 #[.slice a0 m0 c0, .int .i64 i] (w3.alloc (.cells #[.int .u8 f.k, .int .i64 f.n, .string f.s, .slice f.la f.ll f.lc, .slice f.oa f.ol f.oc] 33)) (ListPost (w3.alloc (.cells #[.int .u8 f.k, .int .i64 f.n, .string f.s, .slice f.la f.ll f.lc, .slice f.oa f.ol f.oc] 33)) w.heap.size (remL l i))):=without05_any (w3.alloc (.cells #[.int .u8 f.k, .int .i64 f.n, .string f.s, .slice f.la f.ll f.lc, .slice f.oa f.ol f.oc] 33)) w.heap.size (by simp;omega) l a0 m0 c0 (isVals_only HF3.out.vals hw1 HAL3.out) i (by omega) (by omega)
  obtain rfl:R=remL l i:=by rw [←HR.out];rfl
  clear hb3 hI3 D3
  go_wp2_with fail
  refine HW.out.mono ?_
  rintro e w5 ⟨⟨a5,n5,c5,rfl,hI5,_⟩,hb5⟩
  go_wp2_with fail
  go_returns
  exact ⟨⟨a5,n5,c5,rfl,hI5⟩,(HBL3.out.trans (HAL3.out.mono HBL3.out.size)).trans (hb5.mono (by simp;omega))⟩
set_option maxHeartbeats 8000000 in
set_option maxRecDepth 100000 in
theorem listDo_6 (w:World) (l:List V) (a:Option Addr) (n c:Nat) (hl:IsVals w w.heap.size l a n c) (hfew:n≤100000000) (cc:CC) (x:V) (hx:IsVal w w.heap.size x cc.v) (hc:lCheck n cc.k cc.i cc.j=0) (hk:cc.k=6):
    Calls Tryz.prog 85 #[.slice a n c, .agg #[.int .u8 cc.k, .slice cc.pa cc.pl cc.pc, .string cc.key, .int .i64 cc.i, .int .i64 cc.j, .int .i64 cc.n, .int .u8 cc.v.k, .int .i64 cc.v.n, .string cc.v.s, .slice cc.v.la cc.v.ll cc.v.lc, .slice cc.v.oa cc.v.ol cc.v.oc, .string cc.s]] w (DoLPost w (listDo l cc.k cc.i cc.j x)):=by
  have hmax:=hl.max
  have hlen:=hl.len
  obtain ⟨_,_,hi0,hi1,hi2,hj⟩:=lCheck_ok hc
  have HCK:Hid (∀W,Below w.heap.size w W→Calls Tryz.prog 108 #[.int .i64 n, .agg #[.int .u8 cc.k, .slice cc.pa cc.pl cc.pc, .string cc.key, .int .i64 cc.i, .int .i64 cc.j, .int .i64 cc.n, .int .u8 cc.v.k, .int .i64 cc.v.n, .string cc.v.s, .slice cc.v.la cc.v.ll cc.v.lc, .slice cc.v.oa cc.v.ol cc.v.oc, .string cc.s]] W fun e w'=>e= .returned (.int .i64 0)∧Below W.heap.size W w'):=fun W hW=>by
    have:=listCheck_any W n (by omega) cc
    rw [hc] at this;exact this
  have HOW:Hid (∀W,Below w.heap.size w W→Calls Tryz.prog 103 #[.agg #[.int .u8 0, .int .i64 0, .string { data:= #[] }, .slice a n c, .slice none 0 0]] W (CopyPost W 0 0 { data:= #[] } l [])):=fun W hW=>own_list W l a n c (hl.later_ hW)
  have HCV:Hid (∀W,Below w.heap.size w W→Calls Tryz.prog 103 #[.agg #[.int .u8 cc.v.k, .int .i64 cc.v.n, .string cc.v.s, .slice cc.v.la cc.v.ll cc.v.lc, .slice cc.v.oa cc.v.ol cc.v.oc]] W (NewVal W x)):=fun W hW=>copyIH x W cc.v (hx.later_ hW)
  have HBX:=Lib.hid (BC.start w #[.int .u8 cc.k, .slice cc.pa cc.pl cc.pc, .string cc.key, .int .i64 cc.i, .int .i64 cc.j, .int .i64 cc.n, .int .u8 cc.v.k, .int .i64 cc.v.n, .string cc.v.s, .slice cc.v.la cc.v.ll cc.v.lc, .slice cc.v.oa cc.v.ol cc.v.oc, .string cc.s] 63)
  have HAL:=Lib.hid ((Below.refl _ _).alloc (Nat.le_refl _) (.cells #[.int .u8 cc.k, .slice cc.pa cc.pl cc.pc, .string cc.key, .int .i64 cc.i, .int .i64 cc.j, .int .i64 cc.n, .int .u8 cc.v.k, .int .i64 cc.v.n, .string cc.v.s, .slice cc.v.la cc.v.ll cc.v.lc, .slice cc.v.oa cc.v.ol cc.v.oc, .string cc.s] 63):Below w.heap.size w _)
  obtain ⟨R,hR⟩:∃R,listDo l cc.k cc.i cc.j x=R:=⟨_,rfl⟩
  rw [hR]
  rw [listDo,hk] at hR
  have HL:=Lib.hid hlen
  obtain ⟨i,hi⟩:∃i:Nat,cc.i=i:=⟨cc.i.toNat,by omega⟩
  rw [hk] at hi2
  rw [hi] at hR hi1 hi2
  rw [hk,hi] at HCK HBX HAL ⊢
  rw [Int.toNat_natCast] at hR
  have HR:=Lib.hid hR
  clear hl hx hc hlen hR hi hi0 hj
  go_enter Tryz.func85,Tryz.ntmps85
  go_wp2_with fail
  refine (HCK.out _ HAL.out).mono ?_
  rintro e w1 ⟨rfl,hb1⟩
  have HD1:=Lib.hid (HBX.out.keep hb1 (by simp))
  have HBL1:=Lib.hid (HAL.out.trans (hb1.mono (by simp)))
  clear hb1
  go_wp2_with fail
  refine (HOW.out _ HBL1.out).mono ?_
  rintro e w2 ⟨⟨a0,m0,c0,a1,m1,c1,cl,co,rfl,hF⟩,hb2⟩
  have D2:=HD1.out.keep hb2 HD1.out.lt
  obtain ⟨b0,b1,b2,b3,b4,b5,b6,b7,b8,b9,b10,b11⟩:=row12 D2.at_
  have zs2:=D2.lt
  have HBL2:=Lib.hid (HBL1.out.trans (hb2.mono HBL1.out.size))
  have hm0:m0=n:=by rw [hF.len, ←HL.out]
  subst hm0
  have hw12:=hb2.size
  have hw1:=HBL1.out.size
  have HF:=Lib.hid hF
  have HD2:=Lib.hid D2
  have hfld:=run_field3 w2 0 0 { data:= #[] } a0 m0 c0 a1 m1 c1
  clear hb2 hF D2
  go_wp2_with fail
  refine (HCV.out _ HBL2.out).mono ?_
  rintro e w3 ⟨⟨f,rfl,hI3⟩,hb3⟩
  have D3:=HD2.out.keep hb3 zs2
  clear b0 b1 b2 b3 b4 b5 b6 b7 b8 b9 b10 b11
  obtain ⟨b0,b1,b2,b3,b4,b5,b6,b7,b8,b9,b10,b11⟩:=row12 D3.at_
  have zs3:=D3.lt
  have HBL3:=Lib.hid (HBL2.out.trans (hb3.mono HBL2.out.size))
  have hw23:=hb3.size
  have HF3:=Lib.hid (HF.out.later_ hb3)
  have HI3:=Lib.hid hI3
  have HAL3:=Lib.hid (((Below.refl _ _).alloc (Nat.le_refl _) (.cells #[.int .u8 f.k, .int .i64 f.n, .string f.s, .slice f.la f.ll f.lc, .slice f.oa f.ol f.oc] 33)):Below w3.heap.size w3 _)
  obtain ⟨g,eg,hgb,hbc2⟩:=HF.out.ownL.row (.inl (by omega))
  subst eg
  have hg2:=hbc2.lt
  have hbc:=hbc2.keep hb3 hg2
  have hil:i<cl.length:=by rw [HF.out.ll, ←HL.out];omega
  have hat:=valAt_flat hbc hil
  have q0:=hat.c0;have q1:=hat.c1;have q2:=hat.c2;have q3:=hat.c3;have q4:=hat.c4
  have qf:=fun j=>hbc.fr j
  have qlt:=hbc.lt
  have him:i<m0:=by omega
  have hgn:g≠w3.heap.size:=by omega
  have hz:IsVal (only (fun b=>w.heap.size≤b∧b≠g) w3) w3.heap.size x f:=HI3.out.sub (shows_step fun k hk hl=>⟨⟨by omega,by omega⟩,rfl⟩)
  have hset:=(HF3.out.setL (base':=w.heap.size) hw1 (kk:=i) (by rw [←HL.out];omega) rfl hz (k:=0) (n:=0) (s:= .empty) (by omega) (by omega) (by omega) (by omega) (by decide)).lists.2.2.2.2.1
  obtain rfl:R=l.set i x:=by rw [←HR.out];rfl
  have HSET:=Lib.hid hset
  have hbs:Below w.heap.size w3 (setV w3 g (i*5) f):=((setV_step w3 g (i*5) f).below (Nat.le_of_lt qlt)).mono (by omega)
  have HBS:=Lib.hid hbs
  clear hb3 hI3 D3 hbc2 hbc hat hz hset hbs
  go_wp2_with fail
  go_returns
  exact ⟨⟨_,_,_,rfl,isVals_only HSET.out (Nat.le_refl _) ((Below.refl _ _).alloc (Nat.le_refl _) _)⟩,(HBL3.out.trans HBS.out).alloc (by have:=HBS.out.size;have:=HBL3.out.size;omega) _⟩
set_option maxHeartbeats 8000000 in
set_option maxRecDepth 100000 in
theorem listDo_7 (w:World) (l:List V) (a:Option Addr) (n c:Nat) (hl:IsVals w w.heap.size l a n c) (hfew:n≤100000000) (cc:CC) (x:V) (hx:IsVal w w.heap.size x cc.v) (hc:lCheck n cc.k cc.i cc.j=0) (hk:cc.k=7):
    Calls Tryz.prog 85 #[.slice a n c, .agg #[.int .u8 cc.k, .slice cc.pa cc.pl cc.pc, .string cc.key, .int .i64 cc.i, .int .i64 cc.j, .int .i64 cc.n, .int .u8 cc.v.k, .int .i64 cc.v.n, .string cc.v.s, .slice cc.v.la cc.v.ll cc.v.lc, .slice cc.v.oa cc.v.ol cc.v.oc, .string cc.s]] w (DoLPost w (listDo l cc.k cc.i cc.j x)):=by
  have hmax:=hl.max
  have hlen:=hl.len
  obtain ⟨_,_,hi0,hi1,hi2,hj⟩:=lCheck_ok hc
  have HCK:Hid (∀W,Below w.heap.size w W→Calls Tryz.prog 108 #[.int .i64 n, .agg #[.int .u8 cc.k, .slice cc.pa cc.pl cc.pc, .string cc.key, .int .i64 cc.i, .int .i64 cc.j, .int .i64 cc.n, .int .u8 cc.v.k, .int .i64 cc.v.n, .string cc.v.s, .slice cc.v.la cc.v.ll cc.v.lc, .slice cc.v.oa cc.v.ol cc.v.oc, .string cc.s]] W fun e w'=>e= .returned (.int .i64 0)∧Below W.heap.size W w'):=fun W hW=>by
    have:=listCheck_any W n (by omega) cc
    rw [hc] at this;exact this
  have HOW:Hid (∀W,Below w.heap.size w W→Calls Tryz.prog 103 #[.agg #[.int .u8 0, .int .i64 0, .string { data:= #[] }, .slice a n c, .slice none 0 0]] W (CopyPost W 0 0 { data:= #[] } l [])):=fun W hW=>own_list W l a n c (hl.later_ hW)
  have HCV:Hid (∀W,Below w.heap.size w W→Calls Tryz.prog 103 #[.agg #[.int .u8 cc.v.k, .int .i64 cc.v.n, .string cc.v.s, .slice cc.v.la cc.v.ll cc.v.lc, .slice cc.v.oa cc.v.ol cc.v.oc]] W (NewVal W x)):=fun W hW=>copyIH x W cc.v (hx.later_ hW)
  have HBX:=Lib.hid (BC.start w #[.int .u8 cc.k, .slice cc.pa cc.pl cc.pc, .string cc.key, .int .i64 cc.i, .int .i64 cc.j, .int .i64 cc.n, .int .u8 cc.v.k, .int .i64 cc.v.n, .string cc.v.s, .slice cc.v.la cc.v.ll cc.v.lc, .slice cc.v.oa cc.v.ol cc.v.oc, .string cc.s] 63)
  have HAL:=Lib.hid ((Below.refl _ _).alloc (Nat.le_refl _) (.cells #[.int .u8 cc.k, .slice cc.pa cc.pl cc.pc, .string cc.key, .int .i64 cc.i, .int .i64 cc.j, .int .i64 cc.n, .int .u8 cc.v.k, .int .i64 cc.v.n, .string cc.v.s, .slice cc.v.la cc.v.ll cc.v.lc, .slice cc.v.oa cc.v.ol cc.v.oc, .string cc.s] 63):Below w.heap.size w _)
  obtain ⟨R,hR⟩:∃R,listDo l cc.k cc.i cc.j x=R:=⟨_,rfl⟩
  rw [hR]
  rw [listDo,hk] at hR
  have HL:=Lib.hid hlen
  obtain ⟨i,hi⟩:∃i:Nat,cc.i=i:=⟨cc.i.toNat,by omega⟩
  rw [hk] at hi2
  obtain ⟨j,hj2⟩:∃j:Nat,cc.j=j:=⟨cc.j.toNat,by have:=hj hk;omega⟩
  have hj3:j<n:=by have:=hj hk;omega
  rw [hi] at hR hi1 hi2
  rw [hk,hi] at HCK HBX HAL ⊢
  rw [hj2] at hR HCK HBX HAL
  rw [Int.toNat_natCast j] at hR
  rw [Int.toNat_natCast] at hR
  have HR:=Lib.hid hR
  clear hl hx hc hlen hR hi hi0 hj
  go_enter Tryz.func85,Tryz.ntmps85
  go_wp2_with fail
  refine (HCK.out _ HAL.out).mono ?_
  rintro e w1 ⟨rfl,hb1⟩
  have HD1:=Lib.hid (HBX.out.keep hb1 (by simp))
  have HBL1:=Lib.hid (HAL.out.trans (hb1.mono (by simp)))
  clear hb1
  go_wp2_with fail
  refine (HOW.out _ HBL1.out).mono ?_
  rintro e w2 ⟨⟨a0,m0,c0,a1,m1,c1,cl,co,rfl,hF⟩,hb2⟩
  have D2:=HD1.out.keep hb2 HD1.out.lt
  obtain ⟨b0,b1,b2,b3,b4,b5,b6,b7,b8,b9,b10,b11⟩:=row12 D2.at_
  have zs2:=D2.lt
  have HBL2:=Lib.hid (HBL1.out.trans (hb2.mono HBL1.out.size))
  have hm0:m0=n:=by rw [hF.len, ←HL.out]
  subst hm0
  have hw12:=hb2.size
  have hw1:=HBL1.out.size
  have HF:=Lib.hid hF
  have HD2:=Lib.hid D2
  have hfld:=run_field3 w2 0 0 { data:= #[] } a0 m0 c0 a1 m1 c1
  clear hb2 hF D2
  go_wp2_with fail
  refine (HCV.out _ HBL2.out).mono ?_
  rintro e w3 ⟨⟨f,rfl,hI3⟩,hb3⟩
  have D3:=HD2.out.keep hb3 zs2
  clear b0 b1 b2 b3 b4 b5 b6 b7 b8 b9 b10 b11
  obtain ⟨b0,b1,b2,b3,b4,b5,b6,b7,b8,b9,b10,b11⟩:=row12 D3.at_
  have zs3:=D3.lt
  have HBL3:=Lib.hid (HBL2.out.trans (hb3.mono HBL2.out.size))
  have hw23:=hb3.size
  have HF3:=Lib.hid (HF.out.later_ hb3)
  have HI3:=Lib.hid hI3
  have HAL3:=Lib.hid (((Below.refl _ _).alloc (Nat.le_refl _) (.cells #[.int .u8 f.k, .int .i64 f.n, .string f.s, .slice f.la f.ll f.lc, .slice f.oa f.ol f.oc] 33)):Below w3.heap.size w3 _)
  obtain ⟨g,eg,hgb,hbc2⟩:=HF.out.ownL.row (.inl (by omega))
  subst eg
  have hg2:=hbc2.lt
  have hbc:=hbc2.keep hb3 hg2
  have hill:i<l.length:=by rw [←HL.out];omega
  have hil:i<cl.length:=by rw [HF.out.ll];exact hill
  have hat:=valAt_flat hbc hil
  have hpi:=HF3.out.lv i hill hill
  have he:cl.getD i vzero=cl[i] :=by simp [List.getD_eq_getElem?_getD,hil]
  rw [he] at hpi
  obtain ⟨fi,hfi⟩:∃fi,cl[i] =fi:=⟨_,rfl⟩
  rw [hfi] at hat hpi
  have q0:=hat.c0;have q1:=hat.c1;have q2:=hat.c2;have q3:=hat.c3;have q4:=hat.c4
  have qlt:=hbc.lt
  have him:i<m0:=by omega
  have HPI:Hid (∀W,Below w3.heap.size w3 W→IsVal (only (fun b=>w.heap.size≤b) W) W.heap.size l[i] fi):=fun W hW=>(hpi.sub (shows_step fun k hk hl=>⟨by have:=hk.1;omega,hW.block k hl⟩)).more hW.size
  obtain rfl:R=insL (remL l i) j l[i] :=by
    rw [←HR.out,if_neg (by omega),if_neg (by omega),if_neg (by omega),List.getD_eq_getElem?_getD,List.getElem?_eq_getElem hill];rfl
  have HWO:Hid (∀W,Below w3.heap.size w3 W→Calls Tryz.prog 110 #[.slice (some ⟨g,0,none⟩) m0 c0, .int .i64 i] W (ListPost W w.heap.size (remL l i))):=fun W hW=>without05_any W w.heap.size (by have:=hW.size;omega) l _ m0 c0 (isVals_only HF3.out.vals hw1 hW) i him (by omega)
  have hlr:(remL l i).length=m0 - 1:=by rw [remL,List.length_append,List.length_take,List.length_drop, ←HL.out];omega
  have HLR:=Lib.hid hlr
  have HB3:=Lib.hid hb3
  clear hb3 hI3 D3 hbc2 hbc hat hpi he hfi hlr
  go_wp2_with fail
  obtain ⟨W3,hW3⟩:∃W3,(w3.alloc (.cells #[.int .u8 f.k, .int .i64 f.n, .string f.s, .slice f.la f.ll f.lc, .slice f.oa f.ol f.oc] 33))=W3:=⟨_,rfl⟩
  have hal3:=HAL3.out
  rw [hW3] at hal3 ⊢
  have hz3:=hal3.size
  have HAL4:=Lib.hid hal3
  have HFB:Hid (∀W,Below W3.heap.size W3.drew W→W.cell? ⟨w.heap.size,3,none⟩=some (.int .i64 i)∧W.cell? ⟨w.heap.size,4,none⟩=some (.int .i64 j)∧W.cell? ⟨g,i*5,none⟩=some (.int .u8 fi.k)∧W.cell? ⟨g,i*5+1,none⟩=some (.int .i64 fi.n)∧W.cell? ⟨g,i*5+2,none⟩=some (.string fi.s)∧W.cell? ⟨g,i*5+3,none⟩=some (.slice fi.la fi.ll fi.lc)∧W.cell? ⟨g,i*5+4,none⟩=some (.slice fi.oa fi.ol fi.oc)):=by
    intro W hW
    have hk:∀b o u,b<w3.heap.size→w3.cell? ⟨b,o,none⟩=some u→W.cell? ⟨b,o,none⟩=some u:=fun b o u hb h=>keep_cell hW (keep_cell (drew_below W3) (keep_cell HAL4.out h hb) (by omega)) (by omega)
    exact ⟨hk _ _ _ zs3 b3,hk _ _ _ zs3 b4,hk _ _ _ qlt q0,hk _ _ _ qlt q1,hk _ _ _ qlt q2,hk _ _ _ qlt q3,hk _ _ _ qlt q4⟩
  have hdr:∀W,Below W3.heap.size W3.drew W→Below w3.heap.size w3 W:=fun W hW=>(HAL4.out.trans ((drew_below W3).mono hz3)).trans (hW.mono hz3)
  have HDR:=Lib.hid hdr
  clear hal3 hW3 HAL3 hdr
  refine wp_region_noPanic ?_
  go_region_held_law (fun W=>W.cell? ⟨w.heap.size,3,none⟩=some (.int .i64 i)∧W.cell? ⟨w.heap.size,4,none⟩=some (.int .i64 j)∧W.cell? ⟨g,i*5,none⟩=some (.int .u8 fi.k)∧W.cell? ⟨g,i*5+1,none⟩=some (.int .i64 fi.n)∧W.cell? ⟨g,i*5+2,none⟩=some (.string fi.s)∧W.cell? ⟨g,i*5+3,none⟩=some (.slice fi.la fi.ll fi.lc)∧W.cell? ⟨g,i*5+4,none⟩=some (.slice fi.oa fi.ol fi.oc))
    ((refine HFB.out _ ?_;(first|(with_reducible exact Below.refl _ _)|(with_reducible exact bl6)|(with_reducible exact bl5))))
    (first
      |(go_at_call 110;(with_reducible refine (HWO.out _ (HDR.out _ (Below.refl _ _))).mono ?_);rintro e w5 ⟨⟨a5,n5,c5,rfl,hI5,hN5⟩,hb5⟩;have bl5:Below W3.heap.size W3.drew w5:=hb5)
      |(go_at_call 109;refine (with05_any w5 w.heap.size (by have:=(HDR.out w5 bl5).size;omega) (remL l i) a5 n5 c5 hI5 hN5 j (by have:=hI5.len;have:=HLR.out;omega) l[i] fi.k fi.n fi.s fi.la fi.ll fi.lc fi.oa fi.ol fi.oc (HPI.out w5 (HDR.out w5 bl5)) (by have:=hI5.len;have:=HLR.out;omega)).mono ?_;rintro e w6 ⟨⟨a6,n6,c6,rfl,hI6,hN6⟩,hb6⟩;have bl6:Below W3.heap.size W3.drew w6:=bl5.trans (hb6.mono bl5.size)))
  all_goals
    refine NoPanic.normal ?_
    go_wp2_with fail
    go_returns
    exact ⟨⟨a6,n6,c6,rfl,hI6⟩,HBL3.out.trans ((HDR.out w6 bl6).mono HBL3.out.size)⟩
theorem listDo_any (w:World) (l:List V) (a:Option Addr) (n c:Nat) (hl:IsVals w w.heap.size l a n c) (hfew:n≤100000000) (cc:CC) (x:V) (hx:IsVal w w.heap.size x cc.v) (hc:lCheck n cc.k cc.i cc.j=0):
    Calls Tryz.prog 85 #[.slice a n c, .agg #[.int .u8 cc.k, .slice cc.pa cc.pl cc.pc, .string cc.key, .int .i64 cc.i, .int .i64 cc.j, .int .i64 cc.n, .int .u8 cc.v.k, .int .i64 cc.v.n, .string cc.v.s, .slice cc.v.la cc.v.ll cc.v.lc, .slice cc.v.oa cc.v.ol cc.v.oc, .string cc.s]] w (DoLPost w (listDo l cc.k cc.i cc.j x)):=by
  obtain ⟨h1,h2,_⟩:=lCheck_ok hc
  by_cases e4:cc.k=4
  · exact listDo_4 w l a n c hl hfew cc x hx hc e4
  by_cases e5:cc.k=5
  · exact listDo_5 w l a n c hl hfew cc x hx hc e5
  by_cases e6:cc.k=6
  · exact listDo_6 w l a n c hl hfew cc x hx hc e6
  · exact listDo_7 w l a n c hl hfew cc x hx hc (by omega)
end Go.Proofs.YtgcfhkceejcliaaGreatDoor
namespace Go.Proofs.YtgcfhkceejcliaaGreatDoor
open Go.RowKit
def kindsP (x:V) (k i j n:Int) (key:ByteArray):Int:=
  if k=1 then (if x.kd≠2 then 31 else 0)
  else if k=2∨k=3 then (if x.kd≠5 then 31 else if k=3∧fieldIs x.os key=false then 33 else 0)
  else if k=8∨k=9 then (if x.kd≠3 then 31 else tCheck x.str k i n)
  else if x.kd≠4 then 31 else lCheck x.ls.length k i j
structure KB (w W:World) (c:VC) (cc:CC):Prop where
  v:BC W w.heap.size (vcells c)
  c:BC W (w.heap.size+1) (ccells cc)
  below:Below w.heap.size w W
theorem KB.start (w:World) (c:VC) (cc:CC) (t1 t2:TypeId):KB w ((w.alloc (.cells #[.int .u8 c.k, .int .i64 c.n, .string c.s, .slice c.la c.ll c.lc, .slice c.oa c.ol c.oc] t1)).alloc (.cells #[.int .u8 cc.k, .slice cc.pa cc.pl cc.pc, .string cc.key, .int .i64 cc.i, .int .i64 cc.j, .int .i64 cc.n, .int .u8 cc.v.k, .int .i64 cc.v.n, .string cc.v.s, .slice cc.v.la cc.v.ll cc.v.lc, .slice cc.v.oa cc.v.ol cc.v.oc, .string cc.s] t2)) c cc:=by
  have c2:=BC.start (w.alloc (.cells #[.int .u8 c.k, .int .i64 c.n, .string c.s, .slice c.la c.ll c.lc, .slice c.oa c.ol c.oc] t1)) #[.int .u8 cc.k, .slice cc.pa cc.pl cc.pc, .string cc.key, .int .i64 cc.i, .int .i64 cc.j, .int .i64 cc.n, .int .u8 cc.v.k, .int .i64 cc.v.n, .string cc.v.s, .slice cc.v.la cc.v.ll cc.v.lc, .slice cc.v.oa cc.v.ol cc.v.oc, .string cc.s] t2
  rw [World.size_alloc] at c2
  exact ⟨(BC.start w #[.int .u8 c.k, .int .i64 c.n, .string c.s, .slice c.la c.ll c.lc, .slice c.oa c.ol c.oc] t1).keep ((Below.refl _ _).alloc (Nat.le_refl _) _) (by simp),c2,((Below.refl _ _).alloc (Nat.le_refl _) _).alloc (by simp) _⟩
theorem KB.next {w W W':World} {c:VC} {cc:CC} {B:Nat} (h:KB w W c cc) (hb:Below B W W') (hB:w.heap.size+2≤B):KB w W' c cc:=
  ⟨h.v.keep hb (by omega),h.c.keep hb (by omega),h.below.trans (hb.mono (by omega))⟩
set_option maxHeartbeats 8000000 in
set_option maxRecDepth 100000 in
theorem kinds_any (w:World) (vk vn:Int) (vs:ByteArray) (la:Option Addr) (ll lc:Nat) (oa:Option Addr) (ol oc:Nat) (v:V) (hv:IsVal w w.heap.size v ⟨vk,vn,vs,la,ll,lc,oa,ol,oc⟩) (hs:vs.size≤1000000000000) (cc:CC) (hcb:cc.Bnd) (hT:Tabs w):
    Calls Tryz.prog 105 #[.agg #[.int .u8 vk, .int .i64 vn, .string vs, .slice la ll lc, .slice oa ol oc], .agg #[.int .u8 cc.k, .slice cc.pa cc.pl cc.pc, .string cc.key, .int .i64 cc.i, .int .i64 cc.j, .int .i64 cc.n, .int .u8 cc.v.k, .int .i64 cc.v.n, .string cc.v.s, .slice cc.v.la cc.v.ll cc.v.lc, .slice cc.v.oa cc.v.ol cc.v.oc, .string cc.s]] w fun e w'=>e= .returned (.int .i64 (kindsP v cc.k cc.i cc.j cc.n cc.key))∧Below w.heap.size w w':=by
  obtain ⟨k',n',s',l,o,rfl⟩:=v.eta
  obtain ⟨e1,e2,e3,hbd,hvl,hvo⟩:=hv.lists
  dsimp only at e1 e2 e3 hvl hvo
  subst e1 e2 e3
  have k1:=hvl.few;have k2:=hvl.max;have k3:=hvo.few;have k4:=hvo.max
  have HF:Hid (∀W,Below w.heap.size w W→Calls Tryz.prog 101 #[.agg #[.int .u8 vk, .int .i64 vn, .string vs, .slice la ll lc, .slice oa ol oc], .string cc.key] W fun e w'=>e= .returned (.tuple #[.int .i64 (fieldK o cc.key:Int), .bool (fieldIs o cc.key)])∧Below W.heap.size W w'):=fun W hW=>field_any W o cc.key vk vn vs la ll lc oa ol oc (hvo.later_ hW)
  have HTC:Hid (∀W,Below w.heap.size w W→Calls Tryz.prog 106 #[.string vs, .agg #[.int .u8 cc.k, .slice cc.pa cc.pl cc.pc, .string cc.key, .int .i64 cc.i, .int .i64 cc.j, .int .i64 cc.n, .int .u8 cc.v.k, .int .i64 cc.v.n, .string cc.v.s, .slice cc.v.la cc.v.ll cc.v.lc, .slice cc.v.oa cc.v.ol cc.v.oc, .string cc.s]] W fun e w'=>e= .returned (.int .i64 (tCheck vs cc.k cc.i cc.n))∧Below W.heap.size W w'):=fun W hW=>textCheck_any W vs cc hcb hs (hT.below hW)
  have HLC:Hid (∀W,Below w.heap.size w W→Calls Tryz.prog 108 #[.int .i64 ll, .agg #[.int .u8 cc.k, .slice cc.pa cc.pl cc.pc, .string cc.key, .int .i64 cc.i, .int .i64 cc.j, .int .i64 cc.n, .int .u8 cc.v.k, .int .i64 cc.v.n, .string cc.v.s, .slice cc.v.la cc.v.ll cc.v.lc, .slice cc.v.oa cc.v.ol cc.v.oc, .string cc.s]] W fun e w'=>e= .returned (.int .i64 (lCheck ll cc.k cc.i cc.j))∧Below W.heap.size W w'):=fun W _=>listCheck_any W ll (by omega) cc
  obtain ⟨K,hK⟩:∃K,fieldK o cc.key=K:=⟨_,rfl⟩
  obtain ⟨is,hi⟩:∃is,fieldIs o cc.key=is:=⟨_,rfl⟩
  rw [hK,hi] at HF
  obtain ⟨R,hR⟩:∃R,kindsP (.mk vk vn vs l o) cc.k cc.i cc.j cc.n cc.key=R:=⟨_,rfl⟩
  rw [hR]
  simp only [kindsP,V.kd,V.os,V.ls,V.str,hi, ←hvl.len] at hR
  have HB:=Lib.hid (KB.start w ⟨vk,vn,vs,la,ll,lc,oa,ol,oc⟩ cc 33 63)
  obtain ⟨tc,htc⟩:∃tc,tCheck vs cc.k cc.i cc.n=tc:=⟨_,rfl⟩
  obtain ⟨lk,hlk⟩:∃lk,lCheck ll cc.k cc.i cc.j=lk:=⟨_,rfl⟩
  rw [htc] at HTC
  rw [hlk] at HLC
  rw [htc,hlk] at hR
  obtain ⟨ck,hck⟩:∃ck,cc.k=ck:=⟨_,rfl⟩
  rw [hck] at hR HTC HLC HB ⊢
  have HCK:=Lib.hid hck
  have HR:=Lib.hid hR
  clear hvl hvo hv hbd hK hi hR hT hcb htc hlk hck
  by_cases e1:ck=1
  · cases e1
    by_cases h:vk=2
    · cases h
      obtain rfl:R=0:=by rw [←HR.out];rfl
      go_enter Tryz.func105,Tryz.ntmps105
      go_wp2_with fail
      go_returns
      exact ⟨rfl,HB.out.below⟩
    · have f:(vk !=2)=true:=by simp [h]
      obtain rfl:R=31:=by rw [←HR.out];simp [h]
      go_enter Tryz.func105,Tryz.ntmps105
      go_wp2_with fail
      go_returns
      exact ⟨rfl,HB.out.below⟩
  have g1:(ck==1)=false:=by simp [e1]
  by_cases e2:ck=2
  · cases e2
    by_cases h:vk=5
    · cases h
      obtain rfl:R=0:=by rw [←HR.out];simp
      go_enter Tryz.func105,Tryz.ntmps105
      go_wp2_with fail
      refine (HF.out _ HB.out.below).mono ?_
      rintro e W ⟨rfl,hb1⟩
      have B:=HB.out.next hb1 (by simp)
      obtain ⟨v0,v1,v2,v3,v4⟩:=row5 B.v.at_
      obtain ⟨b0,b1,b2,b3,b4,b5,b6,b7,b8,b9,b10,b11⟩:=row12 B.c.at_
      have z0:=B.v.lt;have z1:=B.c.lt
      rw [HCK.out] at b0
      have HBW:=Lib.hid B.below
      clear B hb1
      go_wp2_with fail
      go_returns
      exact ⟨rfl,HBW.out⟩
    · have f:(vk !=5)=true:=by simp [h]
      obtain rfl:R=31:=by rw [←HR.out];simp [h]
      go_enter Tryz.func105,Tryz.ntmps105
      go_wp2_with fail
      refine (HF.out _ HB.out.below).mono ?_
      rintro e W ⟨rfl,hb1⟩
      have B:=HB.out.next hb1 (by simp)
      obtain ⟨v0,v1,v2,v3,v4⟩:=row5 B.v.at_
      obtain ⟨b0,b1,b2,b3,b4,b5,b6,b7,b8,b9,b10,b11⟩:=row12 B.c.at_
      have z0:=B.v.lt;have z1:=B.c.lt
      rw [HCK.out] at b0
      have HBW:=Lib.hid B.below
      clear B hb1
      go_wp2_with fail
      go_returns
      exact ⟨rfl,HBW.out⟩
  have g2:(ck==2)=false:=by simp [e2]
  by_cases e3:ck=3
  · cases e3
    by_cases h:vk=5
    · cases h
      cases is with
      | true=>
        obtain rfl:R=0:=by rw [←HR.out];simp
        go_enter Tryz.func105,Tryz.ntmps105
        go_wp2_with fail
        refine (HF.out _ HB.out.below).mono ?_
        rintro e W ⟨rfl,hb1⟩
        have B:=HB.out.next hb1 (by simp)
        obtain ⟨v0,v1,v2,v3,v4⟩:=row5 B.v.at_
        obtain ⟨b0,b1,b2,b3,b4,b5,b6,b7,b8,b9,b10,b11⟩:=row12 B.c.at_
        have z0:=B.v.lt;have z1:=B.c.lt
        rw [HCK.out] at b0
        have HBW:=Lib.hid B.below
        clear B hb1
        go_wp2_with fail
        go_returns
        exact ⟨rfl,HBW.out⟩
      | false=>
        obtain rfl:R=33:=by rw [←HR.out];simp
        go_enter Tryz.func105,Tryz.ntmps105
        go_wp2_with fail
        refine (HF.out _ HB.out.below).mono ?_
        rintro e W ⟨rfl,hb1⟩
        have B:=HB.out.next hb1 (by simp)
        obtain ⟨v0,v1,v2,v3,v4⟩:=row5 B.v.at_
        obtain ⟨b0,b1,b2,b3,b4,b5,b6,b7,b8,b9,b10,b11⟩:=row12 B.c.at_
        have z0:=B.v.lt;have z1:=B.c.lt
        rw [HCK.out] at b0
        have HBW:=Lib.hid B.below
        clear B hb1
        go_wp2_with fail
        go_returns
        exact ⟨rfl,HBW.out⟩
    · have f:(vk !=5)=true:=by simp [h]
      obtain rfl:R=31:=by rw [←HR.out];simp [h]
      go_enter Tryz.func105,Tryz.ntmps105
      go_wp2_with fail
      refine (HF.out _ HB.out.below).mono ?_
      rintro e W ⟨rfl,hb1⟩
      have B:=HB.out.next hb1 (by simp)
      obtain ⟨v0,v1,v2,v3,v4⟩:=row5 B.v.at_
      obtain ⟨b0,b1,b2,b3,b4,b5,b6,b7,b8,b9,b10,b11⟩:=row12 B.c.at_
      have z0:=B.v.lt;have z1:=B.c.lt
      rw [HCK.out] at b0
      have HBW:=Lib.hid B.below
      clear B hb1
      go_wp2_with fail
      go_returns
      exact ⟨rfl,HBW.out⟩
  have g3:(ck==3)=false:=by simp [e3]
  by_cases e8:ck=8
  · cases e8
    by_cases h:vk=3
    · cases h
      obtain rfl:R=tc:=by rw [←HR.out];simp
      go_enter Tryz.func105,Tryz.ntmps105
      go_wp2_with fail
      refine (HTC.out _ HB.out.below).mono ?_
      rintro e W ⟨rfl,hb1⟩
      have B:=HB.out.next hb1 (by simp)
      obtain ⟨v0,v1,v2,v3,v4⟩:=row5 B.v.at_
      obtain ⟨b0,b1,b2,b3,b4,b5,b6,b7,b8,b9,b10,b11⟩:=row12 B.c.at_
      have z0:=B.v.lt;have z1:=B.c.lt
      rw [HCK.out] at b0
      have HBW:=Lib.hid B.below
      clear B hb1
      go_wp2_with fail
      go_returns
      exact ⟨rfl,HBW.out⟩
    · have f:(vk !=3)=true:=by simp [h]
      obtain rfl:R=31:=by rw [←HR.out];simp [h]
      go_enter Tryz.func105,Tryz.ntmps105
      go_wp2_with fail
      go_returns
      exact ⟨rfl,HB.out.below⟩
  have g8:(ck==8)=false:=by simp [e8]
  by_cases e9:ck=9
  · cases e9
    by_cases h:vk=3
    · cases h
      obtain rfl:R=tc:=by rw [←HR.out];simp
      go_enter Tryz.func105,Tryz.ntmps105
      go_wp2_with fail
      refine (HTC.out _ HB.out.below).mono ?_
      rintro e W ⟨rfl,hb1⟩
      have B:=HB.out.next hb1 (by simp)
      obtain ⟨v0,v1,v2,v3,v4⟩:=row5 B.v.at_
      obtain ⟨b0,b1,b2,b3,b4,b5,b6,b7,b8,b9,b10,b11⟩:=row12 B.c.at_
      have z0:=B.v.lt;have z1:=B.c.lt
      rw [HCK.out] at b0
      have HBW:=Lib.hid B.below
      clear B hb1
      go_wp2_with fail
      go_returns
      exact ⟨rfl,HBW.out⟩
    · have f:(vk !=3)=true:=by simp [h]
      obtain rfl:R=31:=by rw [←HR.out];simp [h]
      go_enter Tryz.func105,Tryz.ntmps105
      go_wp2_with fail
      go_returns
      exact ⟨rfl,HB.out.below⟩
  have g9:(ck==9)=false:=by simp [e9]
  by_cases h:vk=4
  · cases h
    obtain rfl:R=lk:=by rw [←HR.out];rw [if_neg e1,if_neg (by omega),if_neg (by omega),if_neg (by omega)]
    go_enter Tryz.func105,Tryz.ntmps105
    go_wp2_with fail
    refine (HLC.out _ HB.out.below).mono ?_
    rintro e W ⟨rfl,hb1⟩
    have B:=HB.out.next hb1 (by simp)
    obtain ⟨v0,v1,v2,v3,v4⟩:=row5 B.v.at_
    obtain ⟨b0,b1,b2,b3,b4,b5,b6,b7,b8,b9,b10,b11⟩:=row12 B.c.at_
    have z0:=B.v.lt;have z1:=B.c.lt
    rw [HCK.out] at b0
    have HBW:=Lib.hid B.below
    clear B hb1
    go_wp2_with fail
    go_returns
    exact ⟨rfl,HBW.out⟩
  · have f:(vk !=4)=true:=by simp [h]
    obtain rfl:R=31:=by rw [←HR.out];rw [if_neg e1,if_neg (by omega),if_neg (by omega),if_pos h]
    go_enter Tryz.func105,Tryz.ntmps105
    go_wp2_with fail
    go_returns
    exact ⟨rfl,HB.out.below⟩
end Go.Proofs.YtgcfhkceejcliaaGreatDoor
namespace Go.Proofs.YtgcfhkceejcliaaGreatDoor
open Go.RowKit
theorem less_total (x y:List UInt8):Op.bytesLess x y=true∨x=y∨Op.bytesLess y x=true:=by
  simp only [bytesLess_eq,decide_eq_true_eq]
  by_cases h:x<y
  · exact .inl h
  · by_cases h2:y<x
    · exact .inr (.inr h2)
    · exact .inr (.inl (List.le_antisymm h2 h))
theorem less_asym (x y:List UInt8) (h:Op.bytesLess x y=true):Op.bytesLess y x=false∧x≠y:=by
  simp only [bytesLess_eq,decide_eq_true_eq,decide_eq_false_iff_not] at h ⊢
  exact ⟨List.lt_asymm h,fun e=>by subst e;exact List.lt_irrefl _ h⟩
theorem soundL_step {l:List V} {k:Nat} (h:soundL (l.take k)=true) (kl:k<l.length) (e:l[k].sound=true):Hid (soundL (l.take (k+1))=true):=by
  rw [take_snoc l k kl]
  show soundL _=true
  rw [soundL_iff] at h ⊢
  intro v hv
  rcases List.mem_append.1 hv with h1|h1
  · exact h v h1
  · rw [List.mem_singleton] at h1;rw [h1];exact e
theorem soundL_no {l:List V} {k:Nat} (kl:k<l.length) (e:l[k].sound=false):soundL l=false:=by
  cases h:soundL l with
  |false=>rfl
  |true=>rw [soundL_iff] at h;rw [h _ (List.getElem_mem kl)] at e;cases e
theorem soundO_step {o:List (ByteArray×V)} {k:Nat} (h:soundO (o.take k)=true) (kl:k<o.length) (e1:Lib.validD o[k].1.data.toList=true) (e:o[k].2.sound=true):soundO (o.take (k+1))=true:=by
  rw [take_snoc o k kl]
  rw [soundO_iff] at h ⊢
  intro v hv
  rcases List.mem_append.1 hv with h1|h1
  · exact h v h1
  · rw [List.mem_singleton] at h1;rw [h1];exact ⟨e1,e⟩
theorem soundO_no {o:List (ByteArray×V)} {k:Nat} (kl:k<o.length) (e:Lib.validD o[k].1.data.toList=false∨o[k].2.sound=false):soundO o=false:=by
  cases h:soundO o with
  |false=>rfl
  | true=>
    rw [soundO_iff] at h
    have:=h _ (List.getElem_mem kl)
    rcases e with e|e
    · rw [this.1] at e;cases e
    · rw [this.2] at e;cases e
theorem rising_step {o:List (ByteArray×V)} {j:Nat} (h:rising (o.take (j+1))=true) (kl:j+1<o.length) (e:Op.bytesLess o[j].1.toList o[j+1].1.toList=true):rising (o.take (j+1+1))=true:=by
  rw [rising_iff] at h ⊢
  intro i hi
  simp only [List.length_take] at hi
  simp only [List.getElem_take]
  by_cases hij:i=j
  · subst hij;exact e
  · have:=h i (by simp only [List.length_take];omega)
    simpa only [List.getElem_take] using this
theorem rising_no {o:List (ByteArray×V)} {j:Nat} (kl:j+1<o.length) (e:Op.bytesLess o[j].1.toList o[j+1].1.toList=false):rising o=false:=by
  cases h:rising o with
  |false=>rfl
  |true=>rw [rising_iff] at h;rw [h j kl] at e;cases e
theorem rising_one (o:List (ByteArray×V)):rising (o.take 1)=true:=by
  cases o with
  |nil=>rfl
  |cons f r=>simp [rising]
theorem len0 {α:Type} {l:List α} {n:Nat} (h:n=l.length) (h0:n=0):l= [] :=List.eq_nil_of_length_eq_zero (by omega)
theorem plain_true {k n:Int} {s:ByteArray} {ll ol:Nat} (h:plainB k n s ll ol=true):
    (k=0∧n=0∧s.toList= [] ∧ll=0∧ol=0)∨(k=1∧(n=0∨n=1)∧s.toList= [] ∧ll=0∧ol=0)∨(k=2∧s.toList= [] ∧ll=0∧ol=0)∨
    (k=3∧n=0∧Lib.validD s.data.toList=true∧ll=0∧ol=0)∨(k=4∧n=0∧s.toList= [] ∧ol=0)∨(k=5∧n=0∧s.toList= [] ∧ll=0):=by
  unfold plainB at h
  split at h
  · rename_i hk;simp at h;simp [hk,h]
  · split at h
    · rename_i hk;simp at h;simp [hk,h]
    · split at h
      · rename_i hk;simp at h;simp [hk,h]
      · split at h
        · rename_i hk;simp at h;simp [hk,h]
        · split at h
          · rename_i hk;simp at h;simp [hk,h]
          · split at h
            · rename_i hk;simp at h;simp [hk,h]
            · cases h
theorem valid_nil {s:ByteArray} (h:s.toList= []):Lib.validD s.data.toList=true:=by
  rw [←ByteArray.toList_eq,h];exact Lib.validD_nil
set_option maxHeartbeats 4000000 in
set_option maxRecDepth 100000 in
theorem refSound_scalar (w:World) (k n:Int) (s:ByteArray) (la:Option Addr) (lc:Nat) (oa:Option Addr) (oc:Nat) (hT:Tabs w) (hsz:s.size≤140737488355328)
    (hp:(k=0∧n=0∧s.toList= [])∨(k=1∧(n=0∨n=1)∧s.toList= [])∨(k=2∧s.toList= [])∨(k=3∧n=0∧Lib.validD s.data.toList=true)):
    Calls Tryz.prog 61 #[.agg #[.int .u8 k, .int .i64 n, .string s, .slice la 0 lc, .slice oa 0 oc]] w fun e w'=>e= .returned (.bool true)∧Below w.heap.size w w':=by
  have hv:Lib.validD s.data.toList=true:=by
    rcases hp with ⟨_,_,h⟩|⟨_,_,h⟩|⟨_,h⟩|⟨_,_,h⟩
    · exact valid_nil h
    · exact valid_nil h
    · exact valid_nil h
    · exact h
  have hc:=fun (W:World) hT=>(valid_any s W hsz hT)
  rw [hv] at hc
  have HC:=Lib.hid hc
  clear hc hv
  rcases hp with ⟨rfl,rfl,h⟩|⟨rfl,rfl|rfl,h⟩|⟨rfl,h⟩|⟨rfl,rfl,h⟩
  all_goals
    go_enter Tryz.func61,Tryz.ntmps61
    go_wp2_with (go_at_call 60;refine (HC.out _ (hT.below ((Below.refl _ _).alloc (Nat.le_refl _) _))).mono ?_;rintro e w' ⟨rfl,hb⟩;obtain ⟨hc,hf⟩:=bcell hb;have hz:=hb.size;simp only [World.size_alloc] at hz)
    refine wp_loop_rounds 1 ?_
    rw [rounds_succ]
    go_wp2_with fail
    refine wp_loop_rounds 1 ?_
    rw [rounds_succ]
    go_wp2_with fail
    go_ret
    exact ⟨rfl,((Below.refl _ _).alloc (Nat.le_refl _) _).trans (hb.mono (by simp))⟩
set_option maxHeartbeats 4000000 in
set_option maxRecDepth 100000 in
theorem refSound_any (a:V):∀(w:World) (c:VC),IsVal w w.heap.size a c→Tabs w→
    Calls Tryz.prog 61 #[.agg #[.int .u8 c.k, .int .i64 c.n, .string c.s, .slice c.la c.ll c.lc, .slice c.oa c.ol c.oc]] w fun e w'=>e= .returned (.bool a.sound)∧Below w.heap.size w w':=by
  induction a using V.ind with
  |h k n s l o ihl iho=>
  have IHL:=Lib.hid ihl;have IHO:=Lib.hid iho;clear ihl iho
  intro w c ha hT
  cases ha with
  |mk c l o cl co lb lo ob oo cbd hl ho hla hoa hlc hlv hoc hov=>
  have c1:=cbd.l1;have c2:=cbd.l2;have c3:=cbd.o1;have c4:=cbd.o2;have hsz:=cbd.s1
  by_cases hp:plainB c.k c.n c.s c.ll c.ol=true
  case neg=>
    have hp:plainB c.k c.n c.s c.ll c.ol=false:=by simpa using hp
    refine (refSound_no w c hT cbd hp).mono ?_
    rintro e w' ⟨rfl,hb⟩
    exact ⟨ret_bool (sound_plain (by rw [←hl, ←ho];exact hp)).symm,hb⟩
  have hst:=boxed1_start w c 33
  have hsd:(V.mk c.k c.n c.s l o).sound=(rising o && soundL l && soundO o):=by simp [V.sound, ←hl, ←ho,hp]
  obtain ⟨k,n,s,la,ll,lc,oa,ol,oc⟩:=c
  dsimp only at*
  have Hl:=Lib.hid hl;have Ho:=Lib.hid ho;clear hl ho
  have hval:=fun (W:World) hT=>(valid_any s W hsz hT)
  rcases plain_true hp with ⟨h1,h2,h3,h4,h5⟩|⟨h1,h2,h3,h4,h5⟩|⟨h1,h3,h4,h5⟩|⟨h1,h2,h3,h4,h5⟩|⟨h1,h2,h3,h5⟩|⟨h1,h2,h3,h4⟩
  · obtain rfl:l= [] :=len0 Hl.out h4
    obtain rfl:o= [] :=len0 Ho.out h5
    subst h4 h5
    refine (refSound_scalar w k n s la lc oa oc hT hsz (.inl ⟨h1,h2,h3⟩)).mono ?_
    rintro e w' ⟨rfl,hb⟩
    exact ⟨ret_bool (by rw [hsd];rfl),hb⟩
  · obtain rfl:l= [] :=len0 Hl.out h4
    obtain rfl:o= [] :=len0 Ho.out h5
    subst h4 h5
    refine (refSound_scalar w k n s la lc oa oc hT hsz (.inr (.inl ⟨h1,h2,h3⟩))).mono ?_
    rintro e w' ⟨rfl,hb⟩
    exact ⟨ret_bool (by rw [hsd];rfl),hb⟩
  · obtain rfl:l= [] :=len0 Hl.out h4
    obtain rfl:o= [] :=len0 Ho.out h5
    subst h4 h5
    refine (refSound_scalar w k n s la lc oa oc hT hsz (.inr (.inr (.inl ⟨h1,h3⟩)))).mono ?_
    rintro e w' ⟨rfl,hb⟩
    exact ⟨ret_bool (by rw [hsd];rfl),hb⟩
  · obtain rfl:l= [] :=len0 Hl.out h4
    obtain rfl:o= [] :=len0 Ho.out h5
    subst h4 h5
    refine (refSound_scalar w k n s la lc oa oc hT hsz (.inr (.inr (.inr ⟨h1,h2,h3⟩)))).mono ?_
    rintro e w' ⟨rfl,hb⟩
    exact ⟨ret_bool (by rw [hsd];rfl),hb⟩
  · -- a list
    obtain rfl:o= [] :=len0 Ho.out h5
    subst h1 h2 h5
    rw [valid_nil h3] at hval
    have HC:=Lib.hid hval
    have HSD:Hid ((V.mk 4 0 s l []).sound=soundL l):=hsd.trans (by simp [rising,soundO])
    clear hval hp hsd hoc hov hoa
    obtain ⟨W,hW⟩:∃W,(V.mk 4 0 s l []).sound=W:=⟨_,rfl⟩
    rw [hW]
    have HW:=Lib.hid hW
    clear hW
    go_enter Tryz.func61,Tryz.ntmps61
    go_wp2_with (go_at_call 60;refine (HC.out _ (hT.below ((Below.refl _ _).alloc (Nat.le_refl _) _))).mono ?_;rintro e w' ⟨rfl,hb⟩;obtain ⟨hc,hf⟩:=bcell hb;have hz:=hb.size;simp only [World.size_alloc] at hz)
    have hB0:=hst.step hb
    clear hst hb hc hf hz
    go_loopw [3] (fun i wr=>∃k:Nat,k≤ll∧i= .int .i64 k∧Hid (soundL (l.take k)=true)∧Boxed1 w wr ⟨4,0,s,la,ll,lc,oa,0,oc⟩) (fun i _=>ll - (intOf i).toNat)
    case atStart=>exact ⟨0,Nat.zero_le _,rfl,by rfl,hB0⟩
    case round=>
      clear hB0
      obtain ⟨k,hk,rfl,HJ,hB⟩:=hrel
      have b1:wr.cell? ⟨w.heap.size,3,none⟩=some (.slice la ll lc):=hB.a.c3
      by_cases hlt:k<ll
      · obtain ⟨ela,hlb⟩:=hla (by omega)
        have kl:k<l.length:=by rw [←Hl.out];exact hlt
        have x1:=(hlc k kl).keep hB.below hlb
        rw [ela] at b1
        have r0:=x1.c0;have r1:=x1.c1;have r2:=x1.c2;have r3:=x1.c3;have r4:=x1.c4
        clear ela x1
        have ih:=IHL.out _ (List.getElem_mem kl) wr (cl k) ((hlv k kl).later_ hB.below) (hT.below hB.below)
        cases hx:l[k].sound with
        | true=>
          rw [hx] at ih
          have HX:=Lib.hid hx
          have H:=Lib.hid ih
          clear ih hx
          go_wp2_with (go_at_call 61;refine H.out.mono ?_;rintro e w' ⟨rfl,hb⟩)
          go_roundw
          case rel=>exact ⟨k+1,by omega,by go_num,soundL_step HJ.out kl HX.out,hB.step hb⟩
          case measure=>simp [intOf];omega
        | false=>
          rw [hx] at ih
          have HX:=Lib.hid hx
          have H:=Lib.hid ih
          clear ih hx
          go_wp2_with (go_at_call 61;refine H.out.mono ?_;rintro e w' ⟨rfl,hb⟩)
          go_ret
          exact ⟨ret_bool (by rw [←HW.out,HSD.out,soundL_no kl HX.out]),(hB.step hb).below⟩
      · have b2:wr.cell? ⟨w.heap.size,4,none⟩=some (.slice oa 0 oc):=hB.a.c4
        go_wp2_with fail
        refine wp_loop_rounds 1 ?_
        rw [rounds_succ]
        go_wp2_with fail
        go_ret
        exact ⟨ret_bool (by rw [←HW.out,HSD.out, ←HJ.out,List.take_of_length_le (by have:=Hl.out;omega)]),hB.below⟩
  · -- an object
    obtain rfl:l= [] :=len0 Hl.out h4
    subst h1 h2 h4
    rw [valid_nil h3] at hval
    have HC:=Lib.hid hval
    have HSD:Hid ((V.mk 5 0 s [] o).sound=(rising o && soundO o)):=hsd.trans (by simp [soundL])
    clear hval hp hsd hlc hlv hla
    obtain ⟨W,hW⟩:∃W,(V.mk 5 0 s [] o).sound=W:=⟨_,rfl⟩
    rw [hW]
    have HW:=Lib.hid hW
    clear hW
    go_enter Tryz.func61,Tryz.ntmps61
    go_wp2_with (go_at_call 60;refine (HC.out _ (hT.below ((Below.refl _ _).alloc (Nat.le_refl _) _))).mono ?_;rintro e w' ⟨rfl,hb⟩;obtain ⟨hc,hf⟩:=bcell hb;have hz:=hb.size;simp only [World.size_alloc] at hz)
    have hB0:=hst.step hb
    clear hst hb
    refine wp_loop_rounds 1 ?_
    rw [rounds_succ]
    go_wp2_with fail
    clear hc hf hz
    go_loopw [5] (fun i wr=>∃k:Nat,k≤ol∧i= .int .i64 k∧Hid (soundO (o.take k)=true∧rising (o.take k)=true)∧Boxed1 w wr ⟨5,0,s,la,0,lc,oa,ol,oc⟩) (fun i _=>ol - (intOf i).toNat)
    case atStart=>exact ⟨0,Nat.zero_le _,rfl,⟨by rfl,by rfl⟩,hB0⟩
    case round =>
      clear hB0
      obtain ⟨k,hk,hi,HJ,hB⟩:=hrel
      have b1:wr.cell? ⟨w.heap.size,4,none⟩=some (.slice oa ol oc):=hB.a.c4
      by_cases hlt:k<ol
      · obtain ⟨ela,hlb⟩:=hoa (by omega)
        have kl:k<o.length:=by rw [←Ho.out];exact hlt
        obtain ⟨g1,ksz,x1⟩:=hoc k kl
        have x1:=x1.keep hB.below hlb
        have g1:=keep_cell hB.below g1 hlb
        have hval:=fun (W:World) hT=>(valid_any o[k].1 W ksz hT)
        have q1:=later_cell b1
        rw [ela] at b1 q1
        have r0:=x1.c0;have r1:=x1.c1;have r2:=x1.c2;have r3:=x1.c3;have r4:=x1.c4
        have ih:=IHO.out _ (List.getElem_mem kl) wr (co k) ((hov k kl).later_ hB.below) (hT.below hB.below)
        cases hx:o[k].2.sound with
        | false=>
          rw [hx] at ih
          have HX:=Lib.hid hx
          have H:=Lib.hid ih
          clear ih hx ela x1 hval q1 g1
          subst hi
          go_wp2_with (go_at_call 61;refine H.out.mono ?_;rintro e w' ⟨rfl,hb⟩)
          refine wp_region_later (by kernel_rfl) (by kernel_rfl) ?_
          repeat (go_big_quiet_step (fail))
          refine wpQuiet_nil ?_
          intro _ hw'
          obtain ⟨pq,hw''⟩:=hw'
          subst hw''
          go_wp2_with fail
          go_ret
          exact ⟨ret_bool (by rw [←HW.out,HSD.out,soundO_no kl (.inr HX.out)];simp),((hB.step hb).step (below_later _ _)).below⟩
        | true =>
          rw [hx] at ih
          have HX:=Lib.hid hx
          have H:=Lib.hid ih
          clear ih hx x1 ela
          cases hv:Lib.validD o[k].1.data.toList with
          | false=>
            rw [hv] at hval
            have HV:=Lib.hid hv
            have HVC:=Lib.hid hval
            clear hv hval
            subst hi
            go_wp2_with (go_at_call 61;refine H.out.mono ?_;rintro e w' ⟨rfl,hb⟩)
            have q2:=later_cell (keep_cell hb b1 (by have:=hB.size;omega))
            have t1:=later_cell (keep_cell hb g1 (by have:=hB.below.size;omega))
            clear q1
            refine wp_region_later (by kernel_rfl) (by kernel_rfl) ?_
            repeat (go_big_quiet_step (((go_at_call 60;exact later_call (HVC.out _ (hT.below ((hB.step hb).below.trans ((below_later _ _).mono (by have:=(hB.step hb).size;omega)))))))))
            refine wpQuiet_nil ?_
            intro _ hw'
            obtain ⟨pq,hw''⟩:=hw'
            subst hw''
            go_wp2_with fail
            go_ret
            exact ⟨ret_bool (by rw [←HW.out,HSD.out,soundO_no kl (.inl HV.out)];simp),((hB.step hb).step (below_later _ _)).below⟩
          | true =>
            rw [hv] at hval
            have HV:=Lib.hid hv
            have HVC:=Lib.hid hval
            clear hv hval
            rcases k with _|j
            · subst hi
              clear hoa
              go_wp2_with (go_at_call 61;refine H.out.mono ?_;rintro e w' ⟨rfl,hb⟩)
              have q2:=later_cell (keep_cell hb b1 (by have:=hB.size;omega))
              have t1:=later_cell (keep_cell hb g1 (by have:=hB.below.size;omega))
              simp only [Nat.zero_mul,Nat.add_zero] at t1
              clear q1
              refine wp_region_later (by kernel_rfl) (by kernel_rfl) ?_
              repeat (go_big_quiet_step (((go_at_call 60;exact later_call (HVC.out _ (hT.below ((hB.step hb).below.trans ((below_later _ _).mono (by have:=(hB.step hb).size;omega)))))))))
              refine wpQuiet_nil ?_
              intro _ hw'
              obtain ⟨pq,hw''⟩:=hw'
              subst hw''
              go_wp2_with fail
              go_roundw
              case rel=>exact ⟨1,by omega,by go_num,⟨soundO_step HJ.out.1 kl HV.out HX.out,rising_one o⟩,(hB.step hb).step (below_later _ _)⟩
              case measure=>simp [intOf];omega
            · have hi2:=hi.trans (show Value.int .i64 ((j+1:Nat):Int)= .int .i64 ((j:Int)+1) by go_num)
              clear hi
              subst hi2
              have jl:j<o.length:=by omega
              obtain ⟨g2,_,_⟩:=hoc j jl
              have g2:=keep_cell hB.below g2 hlb
              go_wp2_with (go_at_call 61;refine H.out.mono ?_;rintro e w' ⟨rfl,hb⟩)
              have q2:=later_cell (keep_cell hb b1 (by have:=hB.size;omega))
              have t1:=later_cell (keep_cell hb g1 (by have:=hB.below.size;omega))
              have t2:=later_cell (keep_cell hb g2 (by have:=hB.below.size;omega))
              clear q1 g1 g2 r0 r1 r2 r3 r4
              by_cases hr:Op.bytesLess o[j].1.toList o[j+1].1.toList=true
              · obtain ⟨a1,a2⟩:=less_asym _ _ hr
                have a3:(o[j+1].1.toList==o[j].1.toList)=false:=by simp [Ne.symm a2]
                have HR:=Lib.hid hr
                clear hr a2
                refine wp_region_later (by kernel_rfl) (by kernel_rfl) ?_
                repeat (go_big_quiet_step (((go_at_call 60;exact later_call (HVC.out _ (hT.below ((hB.step hb).below.trans ((below_later _ _).mono (by have:=(hB.step hb).size;omega)))))))))
                refine wpQuiet_nil ?_
                intro _ hw'
                obtain ⟨pq,hw''⟩:=hw'
                subst hw''
                clear q2 t1 t2 a1 a3
                go_wp2_with fail
                go_roundw
                case rel=>exact ⟨j+1+1,by omega,by go_num,⟨soundO_step HJ.out.1 kl HV.out HX.out,rising_step HJ.out.2 kl HR.out⟩,(hB.step hb).step (below_later _ _)⟩
                case measure=>simp [intOf];omega
              · have hr:Op.bytesLess o[j].1.toList o[j+1].1.toList=false:=by simpa using hr
                have HR:=Lib.hid hr
                have a1:Op.bytesLess o[j+1].1.toList o[j].1.toList=true∨(Op.bytesLess o[j+1].1.toList o[j].1.toList=false∧o[j+1].1.toList=o[j].1.toList):=by
                  rcases less_total o[j+1].1.toList o[j].1.toList with h|h|h
                  · exact .inl h
                  · cases hq:Op.bytesLess o[j+1].1.toList o[j].1.toList with
                    |true=>exact .inl rfl
                    |false=>exact .inr ⟨rfl,h⟩
                  · rw [hr] at h;cases h
                clear hr
                rcases a1 with a1|⟨a1,a2⟩
                · refine wp_region_later (by kernel_rfl) (by kernel_rfl) ?_
                  repeat (go_big_quiet_step (((go_at_call 60;exact later_call (HVC.out _ (hT.below ((hB.step hb).below.trans ((below_later _ _).mono (by have:=(hB.step hb).size;omega)))))))))
                  refine wpQuiet_nil ?_
                  intro _ hw'
                  obtain ⟨pq,hw''⟩:=hw'
                  subst hw''
                  clear q2 t1 t2 a1
                  go_wp2_with fail
                  go_ret
                  exact ⟨ret_bool (by rw [←HW.out,HSD.out,rising_no kl HR.out];simp),((hB.step hb).step (below_later _ _)).below⟩
                · have a3:(o[j+1].1.toList==o[j].1.toList)=true:=by rw [a2];simp
                  clear a2
                  refine wp_region_later (by kernel_rfl) (by kernel_rfl) ?_
                  repeat (go_big_quiet_step (((go_at_call 60;exact later_call (HVC.out _ (hT.below ((hB.step hb).below.trans ((below_later _ _).mono (by have:=(hB.step hb).size;omega)))))))))
                  refine wpQuiet_nil ?_
                  intro _ hw'
                  obtain ⟨pq,hw''⟩:=hw'
                  subst hw''
                  clear q2 t1 t2 a1 a3
                  go_wp2_with fail
                  go_ret
                  exact ⟨ret_bool (by rw [←HW.out,HSD.out,rising_no kl HR.out];simp),((hB.step hb).step (below_later _ _)).below⟩
      · subst hi
        go_wp2_with fail
        go_ret
        refine ⟨ret_bool ?_,hB.below⟩
        have hjo:=HJ.out
        rw [List.take_of_length_le (by have:=Ho.out;omega)] at hjo
        rw [←HW.out,HSD.out,hjo.1,hjo.2]
        rfl
end Go.Proofs.YtgcfhkceejcliaaGreatDoor
namespace Go.Proofs.YtgcfhkceejcliaaGreatDoor
open Go.RowKit
def St.ok (s:St):Bool:=if s.list then s.key.toList.isEmpty && decide (0≤s.i) else s.i==0 && Lib.validD s.key.data.toList
def pathSound (p:List St):Bool:=decide (p.length≤16) && p.all St.ok
theorem St.ext' {a b:St} (h1:a.list=b.list) (h2:a.i=b.i) (h3:a.key=b.key):a=b:=by
  cases a;cases b;simp_all
def stNe (a b:St):Bool:= !(a.list==b.list && a.i==b.i && a.key.toList==b.key.toList)
theorem stNe_eqB (a b:St):stNe a b= !eqB a b:=by
  unfold stNe
  congr 1
  by_cases h:a=b
  · subst h;simp [eqB]
  · rw [eqB_no h]
    cases h1:(a.list==b.list && a.i==b.i && a.key.toList==b.key.toList) with
    |false=>rfl
    | true=>
      simp at h1
      exact absurd (St.ext' h1.1.1 h1.1.2 (bytes_ext h1.2)) h
theorem step_neq (a b:St) (w:World):(binOp .neq 56 (.agg #[.bool a.list, .int .i64 a.i, .string a.key]) (.agg #[.bool b.list, .int .i64 b.i, .string b.key])).run Tryz.prog w= .ok (.bool (stNe a b)) w:=by
  have hS:Tryz.prog.underlying 56=some (.struct (Tryz.prog.fieldsOf 56)):=by kernel_rfl
  have hp:Tryz.prog.stoodInHeld 56=false:=by kernel_rfl
  rw [run_neq_struct,show (10000:Nat)=9999+1 from rfl,run_equalIn_agg w 9999 56 _ _ hS hp]
  simp only [Program.fieldsOf,Tryz.underlying56,stNe]
  go_simp
  by_cases h1:a.list=b.list<;>by_cases h2:a.i=b.i<;>by_cases h3:a.key.toList=b.key.toList<;>simp [h1,h2,h3]
set_option maxHeartbeats 2000000 in
set_option maxRecDepth 100000 in
theorem equalSteps_any (l l':List St) (w:World) (a a':Option Addr) (n m c c':Nat) (h:IsSteps w w.heap.size l a n c) (h':IsSteps w w.heap.size l' a' m c'):
    Calls Tryz.prog 90 #[.slice a n c, .slice a' m c'] w fun e w'=>e= .returned (.bool (eqB l l'))∧Below w.heap.size w w':=by
  have k1:=h.max;have k2:=h.few;have k3:=h'.max;have k4:=h'.few
  have HLn:=Lib.hid h.len;have HLm:=Lib.hid h'.len
  by_cases e:n=m
  case neg=>
    go_enter Tryz.func90,Tryz.ntmps90
    have f1:((n:Int) !=(m:Int))=true:=by simp;omega
    go_wp2_with fail
    go_ret
    exact ⟨ret_bool (eqB_no (fun h=>e (by rw [HLn.out,HLm.out,h]))).symm,Below.refl _ _⟩
  subst e
  go_enter Tryz.func90,Tryz.ntmps90
  go_wp2_with fail
  go_loopw [13] (fun i wr=>∃k:Nat,k≤n∧i= .int .i64 k∧Hid (∀j,j<k→l[j]? =l'[j]?)∧Below w.heap.size w wr) (fun i _=>n - (intOf i).toNat)
  case atStart=>exact ⟨0,Nat.zero_le _,rfl,fun j hj=>by omega,Below.refl _ _⟩
  case round=>
    obtain ⟨k,hk,rfl,HJ,hB⟩:=hrel
    by_cases hlt:k<n
    · obtain ⟨b,o,kl,rfl,hb,x1,_⟩:=h.get hlt
      obtain ⟨b',o',kl',rfl,hb',x2,_⟩:=h'.get hlt
      have x1:=x1.keep hB hb
      have x2:=x2.keep hB hb'
      have r0:=later_cell x1.c0;have r1:=later_cell x1.c1;have r2:=later_cell x1.c2
      have s0:=later_cell x2.c0;have s1:=later_cell x2.c1;have s2:=later_cell x2.c2
      clear x1 x2 h h'
      go_wp2_with fail
      have hne:=fun W=>step_neq l[k] l'[k] W
      refine wp_region_later (by kernel_rfl) (by kernel_rfl) ?_
      repeat (go_big_quiet_step (fail))
      refine wpQuiet_nil ?_
      intro _ hw'
      obtain ⟨pq,hw''⟩:=hw'
      subst hw''
      clear r0 r1 r2 s0 s1 s2 hne
      have hB2:=hB.on (below_later wr pq) hB.size
      generalize hx:stNe l[k] (l'[k]'kl')=bx
      cases bx with
      | false=>
        have EV:Hid (eqB l[k] (l'[k]'kl')=true):=by rw [stNe_eqB] at hx;show _=_;simpa using hx
        clear hx
        go_wp2_with fail
        go_roundw
        case rel=>exact ⟨k+1,by omega,by go_num,same_stepB HJ kl kl' EV.out,hB2⟩
        case measure=>simp [intOf];omega
      | true=>
        have EV:Hid (eqB l[k] (l'[k]'kl')=false):=by rw [stNe_eqB] at hx;show _=_;simpa using hx
        clear hx
        go_wp2_with fail
        go_ret
        exact ⟨ret_bool (eqB_no (fun h=>by subst h;exact ne_of_eqB EV.out rfl)).symm,hB2⟩
    · go_wp2_with fail
      go_ret
      exact ⟨ret_bool (eqB_yes (list_of_same HJ.out (by have:=HLn.out;omega) (by have:=HLm.out;omega))).symm,hB⟩
set_option maxHeartbeats 2000000 in
set_option maxRecDepth 100000 in
theorem stepBad_any (s:St) (w:World) (hT:Tabs w) (hb:s.Bnd):
    Calls Tryz.prog 91 #[.agg #[.bool s.list, .int .i64 s.i, .string s.key]] w fun e w'=>e= .returned (.bool !s.ok)∧Below w.heap.size w w':=by
  have hsz:=hb.k1
  have hv:=fun W hT=>valid_any s.key W hsz hT
  obtain ⟨ls,i,key⟩:=s
  dsimp only at*
  obtain ⟨vd,hvd⟩:∃vd,Lib.validD key.data.toList=vd:=⟨_,rfl⟩
  rw [hvd] at hv
  have HV:=Lib.hid hv
  have HVD:=Lib.hid hvd
  obtain ⟨be,hbe⟩:∃be,key.toList.isEmpty=be:=⟨_,rfl⟩
  obtain ⟨R,hR⟩:∃R,(!(St.ok ⟨ls,i,key⟩))=R:=⟨_,rfl⟩
  rw [hR]
  have hR2:R= !(if ls then be && decide (0≤i) else i==0 && vd):=by rw [←hR];simp only [St.ok];rw [hbe,hvd]
  have HR:=Lib.hid hR2
  clear hv hvd hR hR2 hb
  cases ls with
  | true=>
    have f0:(key.toList== [])=be:=by rw [←hbe];cases key.toList<;>rfl
    clear hbe
    cases be with
    | false=>
      go_enter Tryz.func91,Tryz.ntmps91
      go_wp2_with fail
      go_ret
      exact ⟨ret_bool (by rw [HR.out];rfl),(Below.refl _ _).alloc (Nat.le_refl _) _⟩
    | true=>
      by_cases hi:i<0
      · go_enter Tryz.func91,Tryz.ntmps91
        go_wp2_with fail
        go_ret
        exact ⟨ret_bool (by rw [HR.out];simp;omega),(Below.refl _ _).alloc (Nat.le_refl _) _⟩
      · go_enter Tryz.func91,Tryz.ntmps91
        go_wp2_with fail
        go_ret
        exact ⟨ret_bool (by rw [HR.out];simp;omega),(Below.refl _ _).alloc (Nat.le_refl _) _⟩
  | false=>
    clear hbe
    by_cases hi:i=0
    · subst hi
      go_enter Tryz.func91,Tryz.ntmps91
      go_wp2_with (go_at_call 60;refine (HV.out _ (hT.below ((Below.refl _ _).alloc (Nat.le_refl _) _))).mono ?_;rintro e w' ⟨rfl,hb⟩)
      go_ret
      exact ⟨ret_bool (by rw [HR.out];simp),hb.one⟩
    · have f1:(i !=0)=true:=by simp [hi]
      have Hi:=Lib.hid hi
      clear hi
      go_enter Tryz.func91,Tryz.ntmps91
      go_wp2_with fail
      go_ret
      exact ⟨ret_bool (by rw [HR.out];simp [Hi.out]),(Below.refl _ _).alloc (Nat.le_refl _) _⟩
end Go.Proofs.YtgcfhkceejcliaaGreatDoor
namespace Go.Proofs.YtgcfhkceejcliaaGreatDoor
open Go.RowKit
theorem any_hit {α:Type} {l:List α} {p:α→Bool} {k:Nat} (kl:k<l.length) (h:p l[k] =true):l.any p=true:=by
  rw [List.any_eq_true];exact ⟨l[k],List.getElem_mem kl,h⟩
theorem any_none {α:Type} {l:List α} {p:α→Bool} {n:Nat} (hn:n=l.length) (h:∀j,j<n→∀hj:j<l.length,p l[j] =false):l.any p=false:=by
  rw [List.any_eq_false]
  intro x hx
  obtain ⟨j,hj,rfl⟩:=List.getElem_of_mem hx
  rw [h j (by omega) hj];simp
theorem none_step {α:Type} {l:List α} {p:α→Bool} {k:Nat} (h:Hid (∀j,j<k→∀hj:j<l.length,p l[j] =false)) (kl:k<l.length) (e:p l[k] =false):Hid (∀j,j<k+1→∀hj:j<l.length,p l[j] =false):=by
  intro j hj hl
  by_cases hjk:j=k
  · subst hjk;exact e
  · exact h.out j (by omega) hl
def St.val (s:St):Value:= .agg #[.bool s.list, .int .i64 s.i, .string s.key]
set_option maxHeartbeats 2000000 in
set_option maxRecDepth 100000 in
theorem indexStep_any (l:List St) (w:World) (a:Option Addr) (n c:Nat) (h:IsSteps w w.heap.size l a n c) (p:St→Bool) (g:Nat) (eg:∀args w,(callFunc g args).run Tryz.prog w= .ok (.enter g args) w)
    (hg:∀(s:St) (W:World),s.Bnd→Below w.heap.size w W→Calls Tryz.prog g #[.agg #[.bool s.list, .int .i64 s.i, .string s.key]] W fun e w'=>e= .returned (.bool (p s))∧Below W.heap.size W w'):
    Calls Tryz.prog 112 #[.slice a n c, .func (.func g) #[] #[]] w fun e w'=>(∃r:Int,e= .returned (.int .i64 r)∧Hid (decide (0≤r)=l.any p)∧ -1≤r∧r≤9223372036854775807)∧Below w.heap.size w w':=by
  have k1:=h.max;have k2:=h.few
  have HLn:=Lib.hid h.len
  have HG:=Lib.hid hg
  clear hg
  go_enter Tryz.func112,Tryz.ntmps112
  go_wp2_with fail
  go_loopw [5,8] (fun _ i wr=>∃k:Nat,k≤n∧i= .int .i64 k∧Hid (∀j,j<k→∀hj:j<l.length,p l[j] =false)∧Below w.heap.size w wr) (fun _ i _=>n - (intOf i).toNat)
  case atStart=>exact ⟨0,Nat.zero_le _,rfl,fun j hj=>by omega,Below.refl _ _⟩
  case round=>
    obtain ⟨k,hk,rfl,HJ,hB⟩:=hrel
    by_cases hlt:k<n
    · obtain ⟨b,o,kl,rfl,hb,x1,xb⟩:=h.get hlt
      have x1:=x1.keep hB hb
      have r0:=x1.c0;have r1:=x1.c1;have r2:=x1.c2
      have hc:=HG.out l[k] wr xb hB
      clear x1 h
      generalize hx:p l[k] =bx at hc
      have HX:=Lib.hid hx
      have HC:=Lib.hid hc
      clear hx hc
      cases bx with
      | false=>
        go_wp2_with (go_at_fn g;refine HC.out.mono ?_;rintro e w' ⟨rfl,hb'⟩)
        go_roundw
        case rel=>exact ⟨k+1,by omega,by go_num,none_step HJ kl HX.out,hB.on hb' hB.size⟩
        case measure=>simp [intOf];omega
      | true=>
        go_wp2_with (go_at_fn g;refine HC.out.mono ?_;rintro e w' ⟨rfl,hb'⟩)
        go_ret
        exact ⟨⟨k,rfl,by show _=_;rw [any_hit kl HX.out];simp,by omega,by omega⟩,hB.on hb' hB.size⟩
    · go_wp2_with fail
      go_ret
      exact ⟨⟨-1,rfl,by show _=_;rw [any_none (n:=n) HLn.out (fun j hj=>HJ.out j (by omega))];rfl,by omega,by omega⟩,hB⟩
set_option maxHeartbeats 2000000 in
set_option maxRecDepth 100000 in
theorem containsStep_any (l:List St) (w:World) (a:Option Addr) (n c:Nat) (h:IsSteps w w.heap.size l a n c) (p:St→Bool) (g:Nat) (eg:∀args w,(callFunc g args).run Tryz.prog w= .ok (.enter g args) w)
    (hg:∀(s:St) (W:World),s.Bnd→Below w.heap.size w W→Calls Tryz.prog g #[.agg #[.bool s.list, .int .i64 s.i, .string s.key]] W fun e w'=>e= .returned (.bool (p s))∧Below W.heap.size W w'):
    Calls Tryz.prog 92 #[.slice a n c, .func (.func g) #[] #[]] w fun e w'=>e= .returned (.bool (l.any p))∧Below w.heap.size w w':=by
  have k1:=h.max;have k2:=h.few
  have hc:=indexStep_any l w a n c h p g eg hg
  have HC:=Lib.hid hc
  clear hg hc h eg
  go_enter Tryz.func92,Tryz.ntmps92
  go_wp2_with (go_at_call 112;refine HC.out.mono ?_;rintro e w' ⟨⟨r,rfl,hr,h1,h2⟩,hb⟩)
  go_ret
  exact ⟨ret_bool (by rw [←hr.out]),hb⟩
set_option maxHeartbeats 2000000 in
set_option maxRecDepth 100000 in
theorem pathSound_any (l:List St) (w:World) (hT:Tabs w) (a:Option Addr) (n c:Nat) (h:IsSteps w w.heap.size l a n c):
    Calls Tryz.prog 59 #[.slice a n c] w fun e w'=>e= .returned (.bool (pathSound l))∧Below w.heap.size w w':=by
  have k1:=h.max;have k2:=h.few
  have HLn:=Lib.hid h.len
  have hc:=containsStep_any l w a n c h (fun s=> !s.ok) 91 (enters_of Tryz.func91 (by kernel_rfl) rfl) (fun s W hb hW=>stepBad_any s W (hT.below hW) hb)
  have HC:=Lib.hid hc
  clear hc h
  obtain ⟨R,hR⟩:∃R,pathSound l=R:=⟨_,rfl⟩
  obtain ⟨A,hA⟩:∃A,l.any (fun s=> !s.ok)=A:=⟨_,rfl⟩
  have hR2:R=(decide (n≤16) && !A):=by
    rw [←hR, ←hA,HLn.out,pathSound];congr 1;rw [List.not_any_eq_all_not];simp
  rw [hR];rw [hA] at HC
  have HR:=Lib.hid hR2
  clear hR hR2 hA
  by_cases hn:n≤16
  · go_enter Tryz.func59,Tryz.ntmps59
    go_wp2_with (go_at_call 92;refine HC.out.mono ?_;rintro e w' ⟨rfl,hb⟩)
    go_ret
    exact ⟨ret_bool (by rw [HR.out];simp [hn]),hb⟩
  · go_enter Tryz.func59,Tryz.ntmps59
    go_wp2_with fail
    go_ret
    exact ⟨ret_bool (by rw [HR.out];simp [hn]),Below.refl _ _⟩
end Go.Proofs.YtgcfhkceejcliaaGreatDoor
namespace Go.Proofs.YtgcfhkceejcliaaGreatDoor
open Go.RowKit
theorem pathSound_no {l:List St} {k:Nat} {s:St} (kl:k<l.length) (hs:l[k] =s) (h:s.ok=false):pathSound l=false:=by
  unfold pathSound
  rw [Bool.and_eq_false_iff];right
  rw [List.all_eq_false]
  exact ⟨l[k],List.getElem_mem kl,by rw [hs,h];simp⟩
theorem ok_step {l:List St} {k:Nat} {s:St} (h:Hid (∀j,j<k→∀hj:j<l.length,l[j].ok=true)) (kl:k<l.length) (hs:l[k] =s) (e:s.ok=true):Hid (∀j,j<k+1→∀hj:j<l.length,l[j].ok=true):=by
  intro j hj hl
  by_cases hjk:j=k
  · subst hjk;rw [hs];exact e
  · exact h.out j (by omega) hl
theorem pathSound_all {l:List St} {n:Nat} (hn:n=l.length) (h:∀j,j<n→∀hj:j<l.length,l[j].ok=true):pathSound l=decide (n≤16):=by
  have:l.all St.ok=true:=by
    rw [List.all_eq_true]
    intro x hx
    obtain ⟨j,hj,rfl⟩:=List.getElem_of_mem hx
    exact h j (by omega) hj
  rw [pathSound,this,hn];simp
set_option maxHeartbeats 4000000 in
set_option maxRecDepth 100000 in
theorem refPathSound_any (l:List St) (w:World) (hT:Tabs w) (a:Option Addr) (n c:Nat) (h:IsSteps w w.heap.size l a n c):
    Calls Tryz.prog 65 #[.slice a n c] w fun e w'=>e= .returned (.bool (pathSound l))∧Below w.heap.size w w':=by
  have k1:=h.max;have k2:=h.few
  have HLn:=Lib.hid h.len
  go_enter Tryz.func65,Tryz.ntmps65
  go_wp2_with fail
  go_loopw [3] (fun i wr=>∃k:Nat,k≤n∧i= .int .i64 k∧Hid (∀j,j<k→∀hj:j<l.length,l[j].ok=true)∧Below w.heap.size w wr) (fun i _=>n - (intOf i).toNat)
  case atStart=>exact ⟨0,Nat.zero_le _,rfl,fun j hj=>by omega,Below.refl _ _⟩
  case round=>
    obtain ⟨k,hk,rfl,HJ,hB⟩:=hrel
    by_cases hlt:k<n
    · obtain ⟨b,o,kl,rfl,hb,x1,xb⟩:=h.get hlt
      have x1:=x1.keep hB hb
      have hTr:=hT.below hB
      obtain ⟨s,hs⟩:∃s,l[k] =s:=⟨_,rfl⟩
      rw [hs] at x1 xb
      have HS:=Lib.hid hs
      obtain ⟨ls,i,key⟩:=s
      have r0:=x1.c0;have r1:=x1.c1;have r2:=x1.c2
      dsimp only at r0 r1 r2
      have hv:=valid_any key wr xb.k1 hTr
      obtain ⟨vd,hvd⟩:∃vd,Lib.validD key.data.toList=vd:=⟨_,rfl⟩
      rw [hvd] at hv
      have HV:=Lib.hid hv
      have HVD:=Lib.hid hvd
      obtain ⟨be,hbe⟩:∃be,key.toList.isEmpty=be:=⟨_,rfl⟩
      obtain ⟨R,hR⟩:∃R,(St.ok ⟨ls,i,key⟩)=R:=⟨_,rfl⟩
      have hR2:R=(if ls then be && decide (0≤i) else i==0 && vd):=by rw [←hR];simp only [St.ok];rw [hbe,hvd]
      have HR2:=Lib.hid hR2
      have HR:=Lib.hid hR
      have hempty:be=true→vd=true:=by
        intro hb1
        have:key.toList= [] :=by simpa [hb1] using hbe
        rw [ByteArray.toList_eq] at this
        rw [←hvd,this];decide
      have HE:=Lib.hid hempty
      clear x1 h hs hv hvd hR2 hR xb hempty hTr
      cases ls with
      | true=>
        have f0:(key.toList== [])=be:=by rw [←hbe];cases key.toList<;>rfl
        clear hbe
        cases be with
        | false=>
          go_wp2_with fail
          go_ret
          exact ⟨ret_bool (pathSound_no kl HS.out (by rw [HR.out,HR2.out];simp)).symm,hB⟩
        | true=>
          by_cases hi:i<0
          · go_wp2_with fail
            go_ret
            exact ⟨ret_bool (pathSound_no kl HS.out (by rw [HR.out,HR2.out];simp;omega)).symm,hB⟩
          · have hvt:=HE.out rfl
            rw [hvt] at HV
            clear hvt
            go_wp2_with (go_at_call 60;refine HV.out.mono ?_;rintro e w' ⟨rfl,hb'⟩)
            go_roundw
            case rel=>exact ⟨k+1,by omega,by go_num,ok_step HJ kl HS.out (by rw [HR.out,HR2.out];simp;omega),hB.on hb' hB.size⟩
            case measure=>simp [intOf];omega
      | false=>
        clear hbe
        by_cases hi:i=0
        · subst hi
          cases vd with
          | false=>
            go_wp2_with (go_at_call 60;refine HV.out.mono ?_;rintro e w' ⟨rfl,hb'⟩)
            go_ret
            exact ⟨ret_bool (pathSound_no kl HS.out (by rw [HR.out,HR2.out];simp)).symm,hB.on hb' hB.size⟩
          | true=>
            go_wp2_with (go_at_call 60;refine HV.out.mono ?_;rintro e w' ⟨rfl,hb'⟩)
            go_roundw
            case rel=>exact ⟨k+1,by omega,by go_num,ok_step HJ kl HS.out (by rw [HR.out,HR2.out];simp),hB.on hb' hB.size⟩
            case measure=>simp [intOf];omega
        · have f1:(i !=0)=true:=by simp [hi]
          have Hi:=Lib.hid hi
          clear hi
          go_wp2_with fail
          go_ret
          exact ⟨ret_bool (pathSound_no kl HS.out (by rw [HR.out,HR2.out];simp [Hi.out])).symm,hB⟩
    · go_wp2_with fail
      go_ret
      refine ⟨ret_bool ?_,hB⟩
      rw [pathSound_all (n:=n) HLn.out (fun j hj=>HJ.out j (by omega))]
      simp;omega
end Go.Proofs.YtgcfhkceejcliaaGreatDoor
