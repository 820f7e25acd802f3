/-
  Contracts of the functions that the law reaches: DERIVED: THE SHELF's CONTRACTS AT THIS DUMP, IN PLAIN WORDS (tools/lay-plain.mjs out of 'YthceefjafklcmaaDoorShelf.lean', which tools/lay-shelf.mjs wrote): THE SAME DECLARATIONS UNDER THE SAME NAMES: 'import', 'namespace', 'open', 'def', 'theorem' AND NOTHING ELSE: no command of the shelf's: FOR A HAND-IN. Each laying: the table of numbers ('.._ren') and one theorem, a field a fact of the dump's own or the kernel's comparison; each contract: ONE APPLICATION. conciliatorref01: Weight, Deep and Sound of a value in memory are the plain functions' answers. conciliatorref01.Sound: of a value in memory it is the plain function's answer. conciliatorref01.Sound: of a value in memory it is the plain function's answer. Paths: slices.Equal over steps, conciliatorref03.Begins, Same and Sound, path.Sound. slices.IndexFunc and ContainsFunc over steps, path.Sound, conciliatorref03.Sound. conciliatorref03.Sound. comp.Same and conciliatorref06.Same: two components are compared. comp.bare, by kinds. val.plain and val.rising. val.Sound: of a value in memory it is the plain function's answer. comp.Sound.
-/
import Derived.Test.YthceefjafklcmaaDoorMo4
import Derived.Ground.NamesProg
import Derived.Shelf.Unicode.ValidAny
import Derived.Test.YthceefjafklcmaaDoorProg
import Derived.Sort.Walk0
import Derived.Laws.StructEq
import Derived.Handy
namespace Go.Proofs
open Go.Shelf
def Tryd.lays196_ren:Go.Shelf.Ren:=⟨fun|196=>34|259=>56|n=>n,fun|9=>9|4=>4|3=>3|5=>5|12=>12|119=>99|0=>0|46=>59|139=>102|138=>101|53=>120|n=>n,fun|3=>0|4=>1|n=>n⟩
theorem Tryd.lays196:Go.Proofs.Lays.n196 Tryd.prog Tryd.lays196_ren:= {
  mixed:=by kernel_rfl
  f196:=Tryd.func34.trans (congrArg some (by kernel_rfl))
  f259:=Tryd.func56.trans (congrArg some (by kernel_rfl))
  t0:=Tryd.underlying0
  a0:=Tryd.isAgg0
  z0:=Tryd.sizeOf0
  v0:=Tryd.zeroValue0
  t3:=Tryd.underlying3
  a3:=Tryd.isAgg3
  z3:=Tryd.sizeOf3
  v3:=Tryd.zeroValue3
  t4:=Tryd.underlying4
  a4:=Tryd.isAgg4
  z4:=Tryd.sizeOf4
  v4:=Tryd.zeroValue4
  t5:=Tryd.underlying5
  a5:=Tryd.isAgg5
  z5:=Tryd.sizeOf5
  v5:=Tryd.zeroValue5
  t9:=Tryd.underlying9
  a9:=Tryd.isAgg9
  z9:=Tryd.sizeOf9
  v9:=Tryd.zeroValue9
  t12:=Tryd.underlying12
  a12:=Tryd.isAgg12
  z12:=Tryd.sizeOf12
  v12:=Tryd.zeroValue12
  t46:=Tryd.underlying59
  a46:=Tryd.isAgg59
  z46:=Tryd.sizeOf59
  v46:=Tryd.zeroValue59
  t53:=Tryd.underlying120
  a53:=Tryd.isAgg120
  z53:=Tryd.sizeOf120
  v53:=Tryd.zeroValue120
  t119:=Tryd.underlying99
  a119:=Tryd.isAgg99
  z119:=Tryd.sizeOf99
  t138:=Tryd.underlying101
  a138:=Tryd.isAgg101
  z138:=Tryd.sizeOf101
  v138:=Tryd.zeroValue101
  t139:=Tryd.underlying102
  a139:=Tryd.isAgg102
  z139:=Tryd.sizeOf102
  v139:=Tryd.zeroValue102
  g3:=by kernel_rfl
  g4:=by kernel_rfl }
open Go.RowKit Go.Lib in
theorem Tryd.utf8_ValidString (s:ByteArray) (w:World) (hs:s.size≤9223372036854775807) (hT:Lib.Utf8Tabs 0 1 w):
    Calls Tryd.prog 34 #[.string s] w fun e w'=>e= .returned (.bool (Lib.validD s.data.toList))∧Below w.heap.size w w':=Any.utf8_ValidString Tryd.lays196 s w hs hT
end Go.Proofs
namespace Go.Proofs.YthceefjafklcmaaDoor
open Go.RowKit
structure Boxed1 (w wr:World) (c:VC):Prop where
  a:ValAt wr w.heap.size 0 c
  below:Below w.heap.size w wr
  size:w.heap.size+1≤wr.heap.size
theorem boxed1_start (w:World) (c:VC) (t:TypeId):Boxed1 w (w.alloc (.cells #[.int .u8 c.k, .int .i64 c.n, .string c.s, .slice c.la c.ll c.lc, .slice c.oa c.ol c.oc] t)) c:=
  ⟨valAt_new w c t,(Below.refl _ _).alloc (Nat.le_refl _) _,by simp⟩
theorem Boxed1.step {w wr w':World} {c:VC} (h:Boxed1 w wr c) (hb:Below wr.heap.size wr w'):Boxed1 w w' c:=
  ⟨h.a.keep hb (by have:=h.size;omega),h.below.trans (hb.mono (by have:=h.size;omega)),by have:=h.size;have:=hb.size;omega⟩
set_option maxHeartbeats 2000000 in
set_option maxRecDepth 100000 in
theorem refWeight_any (a:V):∀(w:World) (c:VC),IsVal w w.heap.size a c→a.weight≤4611686018427387904→
    Calls Tryd.prog 59 #[.agg #[.int .u8 c.k, .int .i64 c.n, .string c.s, .slice c.la c.ll c.lc, .slice c.oa c.ol c.oc]] w fun e w'=>e= .returned (.int .i64 a.weight)∧Below w.heap.size w w':=by
  induction a using V.ind with
  |h k n s l o ihl iho=>
  have IHL:=Lib.hid ihl;have IHO:=Lib.hid iho;clear ihl iho
  intro w c ha hw
  cases ha with
  |mk c l o cl co lb lo ob oo cbd hl ho hla hoa hlc hlv hoc hov=>
  have c1:=cbd.l1;have c2:=cbd.l2;have c3:=cbd.o1;have c4:=cbd.o2;have c5:=cbd.s1
  have Hl:=Lib.hid hl;have Ho:=Lib.hid ho;clear hl ho
  have hst:=boxed1_start w c 28
  have hw0:1+c.s.size+weightL l+weightO o≤4611686018427387904:=by simpa only [V.weight] using hw
  obtain ⟨W,hW⟩:∃W,V.weight (V.mk c.k c.n c.s l o)=W:=⟨_,rfl⟩
  rw [hW]
  have hW2:1+c.s.size+weightL l+weightO o=W:=by simpa only [V.weight] using hW
  have HW:=Lib.hid hW2
  clear hW hw hW2
  go_enter Tryd.func59,Tryd.ntmps59
  go_wp2_with fail
  go_loopw [3,4] (fun t i wr=>∃k:Nat,k≤c.ll∧i= .int .i64 k∧t= .int .i64 ((1+c.s.size+weightL (l.take k):Nat):Int)∧Boxed1 w wr c) (fun _ i _=>c.ll - (intOf i).toNat)
  case atStart=>exact ⟨0,Nat.zero_le _,rfl,by simp [weightL],hst⟩
  case round=>
    obtain ⟨k,hk,rfl,rfl,hB⟩:=hrel
    clear hst
    have b1:wr.cell? ⟨w.heap.size,3,none⟩=some (.slice c.la c.ll c.lc):=hB.a.c3
    have hle:=weightL_take_le l k
    by_cases hlt:k<c.ll
    · obtain ⟨ela,hlb⟩:=hla (by omega)
      have kl:k<l.length:=by rw [←Hl.out];exact hlt
      have x1:=(hlc k kl).keep hB.below hlb
      rw [ela] at b1
      have r0:=x1.c0;have r1:=x1.c1;have r2:=x1.c2;have r3:=x1.c3;have r4:=x1.c4
      clear ela x1
      have hm:=weightL_mem l k kl
      have hs:=weightL_take l k kl
      have hle2:=weightL_take_le l (k+1)
      have HS:=Lib.hid hs
      obtain ⟨A,hA⟩:∃A,1+c.s.size+weightL (l.take k)=A:=⟨_,rfl⟩
      obtain ⟨X,hX⟩:∃X,l[k].weight=X:=⟨_,rfl⟩
      have hAX:A+X≤4611686018427387904:=by omega
      have ih:=IHL.out _ (List.getElem_mem kl) wr (cl k) ((hlv k kl).later_ hB.below) (by omega)
      rw [hA]
      rw [hX] at ih
      have H:=Lib.hid ih
      have HA:=Lib.hid hA;have HX:=Lib.hid hX
      clear ih hA hX hs hm hle hle2
      go_wp2_with (go_at_call 59;refine H.out.mono ?_;rintro e w' ⟨rfl,hb⟩)
      go_roundw
      case rel=>exact ⟨k+1,by omega,by go_num,by rw [HS.out, ←Nat.add_assoc,HA.out,HX.out];go_num,hB.step hb⟩
      case measure=>simp [intOf];omega
    · go_wp2_with fail
      go_loopw [3,5] (fun t i wr=>∃k:Nat,k≤c.ol∧i= .int .i64 k∧t= .int .i64 ((1+c.s.size+weightL l+weightO (o.take k):Nat):Int)∧Boxed1 w wr c) (fun _ i _=>c.ol - (intOf i).toNat)
      case atStart=>exact ⟨0,Nat.zero_le _,rfl,by rw [List.take_of_length_le (by have:=Hl.out;omega)];simp [weightO],hB⟩
      case round=>
        clear b1 hB hle hlt hk
        obtain ⟨k2,hk,rfl,rfl,hB⟩:=hrel
        have b1:wr.cell? ⟨w.heap.size,4,none⟩=some (.slice c.oa c.ol c.oc):=hB.a.c4
        have hle:=weightO_take_le o k2
        by_cases hlt:k2<c.ol
        · obtain ⟨ela,hlb⟩:=hoa (by omega)
          have kl:k2<o.length:=by rw [←Ho.out];exact hlt
          obtain ⟨g1,ksz,x1⟩:=hoc k2 kl
          have x1:=x1.keep hB.below hlb
          have g1:=keep_cell hB.below g1 hlb
          have q1:=later_cell b1
          rw [ela] at q1
          have r0:=later_cell x1.c0;have r1:=later_cell x1.c1;have r2:=later_cell x1.c2;have r3:=later_cell x1.c3;have r4:=later_cell x1.c4
          have t1:=later_cell g1
          clear ela x1 g1
          have hm:=weightO_mem o k2 kl
          have hs:=weightO_take o k2 kl
          have hle2:=weightO_take_le o (k2+1)
          have HS:=Lib.hid hs
          obtain ⟨A,hA⟩:∃A,1+c.s.size+weightL l+weightO (o.take k2)=A:=⟨_,rfl⟩
          obtain ⟨X,hX⟩:∃X,o[k2].2.weight=X:=⟨_,rfl⟩
          obtain ⟨Y,hY⟩:∃Y,o[k2].1=Y:=⟨_,rfl⟩
          have hAX:A+(Y.size+X)≤4611686018427387904:=by rw [←hA, ←hX, ←hY];omega
          have ih:=fun p=>IHO.out _ (List.getElem_mem kl) (later wr p) (co k2) (((hov k2 kl).later_ hB.below).later_ (below_later _ _)) (by rw [hX];omega)
          rw [hA]
          rw [hX] at ih
          rw [hY] at t1 ksz
          have H:=Lib.hid ih
          have HA:=Lib.hid hA;have HX:=Lib.hid hX;have HY:=Lib.hid hY
          clear ih hA hX hY hs hm hle hle2
          have e1:IntKind.i64.wrap ((Y.size:Int)+(X:Int))=(Y.size:Int)+(X:Int):=IntWalk.i64_in _ (by omega)
          have e2:IntKind.i64.wrap ((A:Int)+((Y.size:Int)+(X:Int)))=(A:Int)+((Y.size:Int)+(X:Int)):=IntWalk.i64_in _ (by omega)
          go_wp2_with fail
          refine wp_region_later (by kernel_rfl) (by kernel_rfl) ?_
          repeat (go_big_quiet_step (((go_at_call 59;exact later_call (H.out _)))))
          refine wpQuiet_nil ?_
          intro _ hw'
          obtain ⟨pq,hw''⟩:=hw'
          subst hw''
          clear e1 e2 r0 r1 r2 r3 r4 t1 q1 b1
          go_wp2_with fail
          go_roundw
          case rel=>exact ⟨k2+1,by omega,by go_num,by rw [HS.out, ←Nat.add_assoc,HA.out,HX.out,HY.out];go_num,hB.step (below_later wr pq)⟩
          case measure=>simp [intOf];omega
        · go_wp2_with fail
          go_ret
          exact ⟨ret_int (by rw [←HW.out,List.take_of_length_le (by have:=Ho.out;omega)]),hB.below⟩
set_option maxHeartbeats 2000000 in
set_option maxRecDepth 100000 in
theorem refDeep_any (a:V):∀(w:World) (c:VC),IsVal w w.heap.size a c→a.weight≤4611686018427387904→
    Calls Tryd.prog 58 #[.agg #[.int .u8 c.k, .int .i64 c.n, .string c.s, .slice c.la c.ll c.lc, .slice c.oa c.ol c.oc]] w fun e w'=>e= .returned (.int .i64 a.deep)∧Below w.heap.size w w':=by
  induction a using V.ind with
  |h k n s l o ihl iho=>
  have IHL:=Lib.hid ihl;have IHO:=Lib.hid iho;clear ihl iho
  intro w c ha hw
  cases ha with
  |mk c l o cl co lb lo ob oo cbd hl ho hla hoa hlc hlv hoc hov=>
  have c1:=cbd.l1;have c2:=cbd.l2;have c3:=cbd.o1;have c4:=cbd.o2;have c5:=cbd.s1
  have Hl:=Lib.hid hl;have Ho:=Lib.hid ho;clear hl ho
  have hst:=boxed1_start w c 28
  have hw0:1+c.s.size+weightL l+weightO o≤4611686018427387904:=by simpa only [V.weight] using hw
  have hdw:=V.deep_lt (V.mk c.k c.n c.s l o)
  have hdd:max (deepL l) (deepO o)≤4611686018427387904:=by simp only [V.deep,V.weight] at hdw;omega
  obtain ⟨W,hW⟩:∃W,V.deep (V.mk c.k c.n c.s l o)=W:=⟨_,rfl⟩
  rw [hW]
  have hW2:max (deepL l) (deepO o)=W:=by simpa only [V.deep] using hW
  have HW:=Lib.hid hW2;have HDD:=Lib.hid hdd
  clear hW hw hW2 hdw hdd
  go_enter Tryd.func58,Tryd.ntmps58
  go_wp2_with fail
  go_loopw [3,4] (fun t i wr=>∃k:Nat,k≤c.ll∧i= .int .i64 k∧t= .int .i64 ((deepL (l.take k):Nat):Int)∧Boxed1 w wr c) (fun _ i _=>c.ll - (intOf i).toNat)
  case atStart=>exact ⟨0,Nat.zero_le _,rfl,by simp [deepL],hst⟩
  case round=>
    obtain ⟨k,hk,rfl,rfl,hB⟩:=hrel
    clear hst
    have b1:wr.cell? ⟨w.heap.size,3,none⟩=some (.slice c.la c.ll c.lc):=hB.a.c3
    by_cases hlt:k<c.ll
    · obtain ⟨ela,hlb⟩:=hla (by omega)
      have kl:k<l.length:=by rw [←Hl.out];exact hlt
      have x1:=(hlc k kl).keep hB.below hlb
      rw [ela] at b1
      have r0:=x1.c0;have r1:=x1.c1;have r2:=x1.c2;have r3:=x1.c3;have r4:=x1.c4
      clear ela x1
      have hm:=weightL_mem l k kl
      have hs:=deepL_take l k kl
      have HS:=Lib.hid hs
      have hdl:=V.deep_lt l[k]
      obtain ⟨A,hA⟩:∃A,deepL (l.take k)=A:=⟨_,rfl⟩
      obtain ⟨X,hX⟩:∃X,l[k].deep=X:=⟨_,rfl⟩
      have hAX:X≤4611686018427387904:=by omega
      have ih:=IHL.out _ (List.getElem_mem kl) wr (cl k) ((hlv k kl).later_ hB.below) (by omega)
      rw [hA]
      rw [hX] at ih
      have H:=Lib.hid ih
      have HA:=Lib.hid hA;have HX:=Lib.hid hX
      clear ih hA hX hs hm hdl
      go_wp2_with (go_at_call 58;refine H.out.mono ?_;rintro e w' ⟨rfl,hb⟩)
      go_roundw
      case rel=>exact ⟨k+1,by omega,by go_num,num_eq (by rw [HS.out,HA.out,HX.out];omega),hB.step hb⟩
      case measure=>simp [intOf];omega
    · go_wp2_with fail
      go_loopw [3,5] (fun t i wr=>∃k:Nat,k≤c.ol∧i= .int .i64 k∧t= .int .i64 ((max (deepL l) (deepO (o.take k)):Nat):Int)∧Boxed1 w wr c) (fun _ i _=>c.ol - (intOf i).toNat)
      case atStart=>exact ⟨0,Nat.zero_le _,rfl,by rw [List.take_of_length_le (by have:=Hl.out;omega)];simp [deepO],hB⟩
      case round=>
        clear b1 hB hlt hk
        obtain ⟨k2,hk,rfl,rfl,hB⟩:=hrel
        have b1:wr.cell? ⟨w.heap.size,4,none⟩=some (.slice c.oa c.ol c.oc):=hB.a.c4
        by_cases hlt:k2<c.ol
        · obtain ⟨ela,hlb⟩:=hoa (by omega)
          have kl:k2<o.length:=by rw [←Ho.out];exact hlt
          obtain ⟨g1,ksz,x1⟩:=hoc k2 kl
          have x1:=x1.keep hB.below hlb
          rw [ela] at b1
          have r0:=x1.c0;have r1:=x1.c1;have r2:=x1.c2;have r3:=x1.c3;have r4:=x1.c4
          clear ela x1 g1
          have hm:=weightO_mem o k2 kl
          have hs:=deepO_take o k2 kl
          have HS:=Lib.hid hs
          have hdl:=V.deep_lt o[k2].2
          obtain ⟨A,hA⟩:∃A,max (deepL l) (deepO (o.take k2))=A:=⟨_,rfl⟩
          obtain ⟨X,hX⟩:∃X,o[k2].2.deep=X:=⟨_,rfl⟩
          have hAX:X≤4611686018427387904:=by omega
          have ih:=IHO.out _ (List.getElem_mem kl) wr (co k2) ((hov k2 kl).later_ hB.below) (by omega)
          rw [hA]
          rw [hX] at ih
          have H:=Lib.hid ih
          have HA:=Lib.hid hA;have HX:=Lib.hid hX
          clear ih hA hX hs hm hdl
          go_wp2_with (go_at_call 58;refine H.out.mono ?_;rintro e w' ⟨rfl,hb⟩)
          go_roundw
          case rel=>exact ⟨k2+1,by omega,by go_num,num_eq (by rw [HS.out, ←HA.out,HX.out];omega),hB.step hb⟩
          case measure=>simp [intOf];omega
        · go_wp2_with fail
          go_ret
          exact ⟨ret_int (by rw [←HW.out,List.take_of_length_le (by have:=Ho.out;omega)]),hB.below⟩
end Go.Proofs.YthceefjafklcmaaDoor
namespace Go.Proofs.YthceefjafklcmaaDoor
open Go.RowKit
def Tabs (w:World):Prop:=Lib.Utf8Tabs 0 1 w
theorem Tabs.below {w w':World} (h:Tabs w) (hb:Below w.heap.size w w'):Tabs w':=Utf8Tabs_below h hb
theorem valid_any (s:ByteArray) (w:World) (hs:s.size≤140737488355328) (hT:Tabs w):
    Calls Tryd.prog 34 #[.string s] w fun e w'=>e= .returned (.bool (Lib.validD s.data.toList))∧Below w.heap.size w w':=
  Tryd.utf8_ValidString s w (by omega) hT
theorem sound_plain {k n:Int} {s:ByteArray} {l:List V} {o:List (ByteArray×V)} (h:plainB k n s l.length o.length=false):(V.mk k n s l o).sound=false:=by
  simp [V.sound,h]
theorem plain_k0 {n:Int} {s:ByteArray} {ll ol:Nat} (hs:s.toList= []) (hl:ll=0) (ho:ol=0) (hn:n=0):plainB 0 n s ll ol=true:=by simp [plainB,hs,hl,ho,hn]
theorem plain_k1 {n:Int} {s:ByteArray} {ll ol:Nat} (hs:s.toList= []) (hl:ll=0) (ho:ol=0) (hn:n=0∨n=1):plainB 1 n s ll ol=true:=by
  rcases hn with rfl|rfl<;>simp [plainB,hs,hl,ho]
theorem plain_k2 {n:Int} {s:ByteArray} {ll ol:Nat} (hs:s.toList= []) (hl:ll=0) (ho:ol=0):plainB 2 n s ll ol=true:=by simp [plainB,hs,hl,ho]
theorem plain_k3 {n:Int} {s:ByteArray} {ll ol:Nat} (hs:Lib.validD s.data.toList=true) (hl:ll=0) (ho:ol=0) (hn:n=0):plainB 3 n s ll ol=true:=by simp [plainB,hs,hl,ho,hn]
theorem plain_k4 {n:Int} {s:ByteArray} {ll ol:Nat} (hs:s.toList= []) (ho:ol=0) (hn:n=0):plainB 4 n s ll ol=true:=by simp [plainB,hs,ho,hn]
theorem plain_k5 {n:Int} {s:ByteArray} {ll ol:Nat} (hs:s.toList= []) (hl:ll=0) (hn:n=0):plainB 5 n s ll ol=true:=by simp [plainB,hs,hl,hn]
set_option maxHeartbeats 4000000 in
set_option maxRecDepth 100000 in
theorem refSound_no (w:World) (c:VC) (hT:Tabs w) (hbd:c.Bnd) (hp:plainB c.k c.n c.s c.ll c.ol=false):
    Calls Tryd.prog 57 #[.agg #[.int .u8 c.k, .int .i64 c.n, .string c.s, .slice c.la c.ll c.lc, .slice c.oa c.ol c.oc]] w fun e w'=>e= .returned (.bool false)∧Below w.heap.size w w':=by
  have k0:=hbd.k0
  have l3:=hbd.l3
  have o3:=hbd.o3
  have hsz:=hbd.s1
  obtain ⟨vd,hvd⟩:∃vd,Lib.validD c.s.data.toList=vd:=⟨_,rfl⟩
  have HVD:=Lib.hid hvd
  clear hbd hvd
  obtain ⟨k,n,s,la,ll,lc,oa,ol,oc⟩:=c
  dsimp only at*
  have hk:k=0∨k=1∨k=2∨k=3∨k=4∨k=5∨5<k:=by omega
  have H0:=Lib.hid hp
  clear hp
  rcases hk with rfl|rfl|rfl|rfl|rfl|rfl|hk
  · go_enter Tryd.func57,Tryd.ntmps57
    go_wp2_with fail
    all_goals first
      |(go_ret;exact ⟨rfl,(Below.refl _ _).alloc (Nat.le_refl _) _⟩)
      |exact absurd (plain_k0 (n:=n) (s:=s) (ll:=ll) (ol:=ol) (by assumption) (by omega) (by omega) (by omega)) (by rw [H0.out];simp)
  · go_enter Tryd.func57,Tryd.ntmps57
    go_wp2_with fail
    all_goals first
      |(go_ret;exact ⟨rfl,(Below.refl _ _).alloc (Nat.le_refl _) _⟩)
      |exact absurd (plain_k1 (n:=n) (s:=s) (ll:=ll) (ol:=ol) (by assumption) (by omega) (by omega) (by omega)) (by rw [H0.out];simp)
  · go_enter Tryd.func57,Tryd.ntmps57
    go_wp2_with fail
    all_goals first
      |(go_ret;exact ⟨rfl,(Below.refl _ _).alloc (Nat.le_refl _) _⟩)
      |exact absurd (plain_k2 (n:=n) (s:=s) (ll:=ll) (ol:=ol) (by assumption) (by omega) (by omega)) (by rw [H0.out];simp)
  · go_enter Tryd.func57,Tryd.ntmps57
    go_wp2_with fail
    all_goals first
      |(go_ret;exact ⟨rfl,(Below.refl _ _).alloc (Nat.le_refl _) _⟩)
      | (have hv:vd=false:=by
           have h:=H0.out
           cases vd with
           |false=>rfl
           |true=>rw [plain_k3 HVD.out (by omega) (by omega) (by omega)] at h;cases h
         subst hv
         refine (valid_any s _ hsz (hT.below ((Below.refl _ _).alloc (Nat.le_refl _) _))).mono ?_
         rintro e w' ⟨rfl,hb⟩
         rw [HVD.out]
         go_wp2_with fail
         go_ret
         exact ⟨rfl,((Below.refl _ _).alloc (Nat.le_refl _) _).trans (hb.mono (by simp))⟩)
  · go_enter Tryd.func57,Tryd.ntmps57
    go_wp2_with fail
    all_goals first
      |(go_ret;exact ⟨rfl,(Below.refl _ _).alloc (Nat.le_refl _) _⟩)
      |exact absurd (plain_k4 (n:=n) (s:=s) (ll:=ll) (ol:=ol) (by assumption) (by omega) (by omega)) (by rw [H0.out];simp)
  · go_enter Tryd.func57,Tryd.ntmps57
    go_wp2_with fail
    all_goals first
      |(go_ret;exact ⟨rfl,(Below.refl _ _).alloc (Nat.le_refl _) _⟩)
      |exact absurd (plain_k5 (n:=n) (s:=s) (ll:=ll) (ol:=ol) (by assumption) (by omega) (by omega)) (by rw [H0.out];simp)
  · go_enter Tryd.func57,Tryd.ntmps57
    go_wp2_with fail
    go_ret
    exact ⟨rfl,(Below.refl _ _).alloc (Nat.le_refl _) _⟩
end Go.Proofs.YthceefjafklcmaaDoor
namespace Go.Proofs.YthceefjafklcmaaDoor
open Go.RowKit
theorem less_total (x y:List UInt8):Op.bytesLess x y=true∨x=y∨Op.bytesLess y x=true:=by
  simp only [bytesLess_eq,decide_eq_true_eq]
  by_cases h:x<y
  · exact .inl h
  · by_cases h2:y<x
    · exact .inr (.inr h2)
    · exact .inr (.inl (List.le_antisymm h2 h))
theorem less_asym (x y:List UInt8) (h:Op.bytesLess x y=true):Op.bytesLess y x=false∧x≠y:=by
  simp only [bytesLess_eq,decide_eq_true_eq,decide_eq_false_iff_not] at h ⊢
  exact ⟨List.lt_asymm h,fun e=>by subst e;exact List.lt_irrefl _ h⟩
theorem soundL_step {l:List V} {k:Nat} (h:soundL (l.take k)=true) (kl:k<l.length) (e:l[k].sound=true):Hid (soundL (l.take (k+1))=true):=by
  rw [take_snoc l k kl]
  show soundL _=true
  rw [soundL_iff] at h ⊢
  intro v hv
  rcases List.mem_append.1 hv with h1|h1
  · exact h v h1
  · rw [List.mem_singleton] at h1;rw [h1];exact e
theorem soundL_no {l:List V} {k:Nat} (kl:k<l.length) (e:l[k].sound=false):soundL l=false:=by
  cases h:soundL l with
  |false=>rfl
  |true=>rw [soundL_iff] at h;rw [h _ (List.getElem_mem kl)] at e;cases e
theorem soundO_step {o:List (ByteArray×V)} {k:Nat} (h:soundO (o.take k)=true) (kl:k<o.length) (e1:Lib.validD o[k].1.data.toList=true) (e:o[k].2.sound=true):soundO (o.take (k+1))=true:=by
  rw [take_snoc o k kl]
  rw [soundO_iff] at h ⊢
  intro v hv
  rcases List.mem_append.1 hv with h1|h1
  · exact h v h1
  · rw [List.mem_singleton] at h1;rw [h1];exact ⟨e1,e⟩
theorem soundO_no {o:List (ByteArray×V)} {k:Nat} (kl:k<o.length) (e:Lib.validD o[k].1.data.toList=false∨o[k].2.sound=false):soundO o=false:=by
  cases h:soundO o with
  |false=>rfl
  | true=>
    rw [soundO_iff] at h
    have:=h _ (List.getElem_mem kl)
    rcases e with e|e
    · rw [this.1] at e;cases e
    · rw [this.2] at e;cases e
theorem rising_step {o:List (ByteArray×V)} {j:Nat} (h:rising (o.take (j+1))=true) (kl:j+1<o.length) (e:Op.bytesLess o[j].1.toList o[j+1].1.toList=true):rising (o.take (j+1+1))=true:=by
  rw [rising_iff] at h ⊢
  intro i hi
  simp only [List.length_take] at hi
  simp only [List.getElem_take]
  by_cases hij:i=j
  · subst hij;exact e
  · have:=h i (by simp only [List.length_take];omega)
    simpa only [List.getElem_take] using this
theorem rising_no {o:List (ByteArray×V)} {j:Nat} (kl:j+1<o.length) (e:Op.bytesLess o[j].1.toList o[j+1].1.toList=false):rising o=false:=by
  cases h:rising o with
  |false=>rfl
  |true=>rw [rising_iff] at h;rw [h j kl] at e;cases e
theorem rising_one (o:List (ByteArray×V)):rising (o.take 1)=true:=by
  cases o with
  |nil=>rfl
  |cons f r=>simp [rising]
theorem len0 {α:Type} {l:List α} {n:Nat} (h:n=l.length) (h0:n=0):l= [] :=List.eq_nil_of_length_eq_zero (by omega)
theorem plain_true {k n:Int} {s:ByteArray} {ll ol:Nat} (h:plainB k n s ll ol=true):
    (k=0∧n=0∧s.toList= [] ∧ll=0∧ol=0)∨(k=1∧(n=0∨n=1)∧s.toList= [] ∧ll=0∧ol=0)∨(k=2∧s.toList= [] ∧ll=0∧ol=0)∨
    (k=3∧n=0∧Lib.validD s.data.toList=true∧ll=0∧ol=0)∨(k=4∧n=0∧s.toList= [] ∧ol=0)∨(k=5∧n=0∧s.toList= [] ∧ll=0):=by
  unfold plainB at h
  split at h
  · rename_i hk;simp at h;simp [hk,h]
  · split at h
    · rename_i hk;simp at h;simp [hk,h]
    · split at h
      · rename_i hk;simp at h;simp [hk,h]
      · split at h
        · rename_i hk;simp at h;simp [hk,h]
        · split at h
          · rename_i hk;simp at h;simp [hk,h]
          · split at h
            · rename_i hk;simp at h;simp [hk,h]
            · cases h
theorem valid_nil {s:ByteArray} (h:s.toList= []):Lib.validD s.data.toList=true:=by
  rw [←ByteArray.toList_eq,h];exact Lib.validD_nil
set_option maxHeartbeats 4000000 in
set_option maxRecDepth 100000 in
theorem refSound_scalar (w:World) (k n:Int) (s:ByteArray) (la:Option Addr) (lc:Nat) (oa:Option Addr) (oc:Nat) (hT:Tabs w) (hsz:s.size≤140737488355328)
    (hp:(k=0∧n=0∧s.toList= [])∨(k=1∧(n=0∨n=1)∧s.toList= [])∨(k=2∧s.toList= [])∨(k=3∧n=0∧Lib.validD s.data.toList=true)):
    Calls Tryd.prog 57 #[.agg #[.int .u8 k, .int .i64 n, .string s, .slice la 0 lc, .slice oa 0 oc]] w fun e w'=>e= .returned (.bool true)∧Below w.heap.size w w':=by
  have hv:Lib.validD s.data.toList=true:=by
    rcases hp with ⟨_,_,h⟩|⟨_,_,h⟩|⟨_,h⟩|⟨_,_,h⟩
    · exact valid_nil h
    · exact valid_nil h
    · exact valid_nil h
    · exact h
  have hc:=fun (W:World) hT=>(valid_any s W hsz hT)
  rw [hv] at hc
  have HC:=Lib.hid hc
  clear hc hv
  rcases hp with ⟨rfl,rfl,h⟩|⟨rfl,rfl|rfl,h⟩|⟨rfl,h⟩|⟨rfl,rfl,h⟩
  all_goals
    go_enter Tryd.func57,Tryd.ntmps57
    go_wp2_with (go_at_call 34;refine (HC.out _ (hT.below ((Below.refl _ _).alloc (Nat.le_refl _) _))).mono ?_;rintro e w' ⟨rfl,hb⟩;obtain ⟨hc,hf⟩:=bcell hb;have hz:=hb.size;simp only [World.size_alloc] at hz)
    refine wp_loop_rounds 1 ?_
    rw [rounds_succ]
    go_wp2_with fail
    refine wp_loop_rounds 1 ?_
    rw [rounds_succ]
    go_wp2_with fail
    go_ret
    exact ⟨rfl,((Below.refl _ _).alloc (Nat.le_refl _) _).trans (hb.mono (by simp))⟩
set_option maxHeartbeats 4000000 in
set_option maxRecDepth 100000 in
theorem refSound_any (a:V):∀(w:World) (c:VC),IsVal w w.heap.size a c→Tabs w→
    Calls Tryd.prog 57 #[.agg #[.int .u8 c.k, .int .i64 c.n, .string c.s, .slice c.la c.ll c.lc, .slice c.oa c.ol c.oc]] w fun e w'=>e= .returned (.bool a.sound)∧Below w.heap.size w w':=by
  induction a using V.ind with
  |h k n s l o ihl iho=>
  have IHL:=Lib.hid ihl;have IHO:=Lib.hid iho;clear ihl iho
  intro w c ha hT
  cases ha with
  |mk c l o cl co lb lo ob oo cbd hl ho hla hoa hlc hlv hoc hov=>
  have c1:=cbd.l1;have c2:=cbd.l2;have c3:=cbd.o1;have c4:=cbd.o2;have hsz:=cbd.s1
  by_cases hp:plainB c.k c.n c.s c.ll c.ol=true
  case neg=>
    have hp:plainB c.k c.n c.s c.ll c.ol=false:=by simpa using hp
    refine (refSound_no w c hT cbd hp).mono ?_
    rintro e w' ⟨rfl,hb⟩
    exact ⟨ret_bool (sound_plain (by rw [←hl, ←ho];exact hp)).symm,hb⟩
  have hst:=boxed1_start w c 28
  have hsd:(V.mk c.k c.n c.s l o).sound=(rising o && soundL l && soundO o):=by simp [V.sound, ←hl, ←ho,hp]
  obtain ⟨k,n,s,la,ll,lc,oa,ol,oc⟩:=c
  dsimp only at*
  have Hl:=Lib.hid hl;have Ho:=Lib.hid ho;clear hl ho
  have hval:=fun (W:World) hT=>(valid_any s W hsz hT)
  rcases plain_true hp with ⟨h1,h2,h3,h4,h5⟩|⟨h1,h2,h3,h4,h5⟩|⟨h1,h3,h4,h5⟩|⟨h1,h2,h3,h4,h5⟩|⟨h1,h2,h3,h5⟩|⟨h1,h2,h3,h4⟩
  · obtain rfl:l= [] :=len0 Hl.out h4
    obtain rfl:o= [] :=len0 Ho.out h5
    subst h4 h5
    refine (refSound_scalar w k n s la lc oa oc hT hsz (.inl ⟨h1,h2,h3⟩)).mono ?_
    rintro e w' ⟨rfl,hb⟩
    exact ⟨ret_bool (by rw [hsd];rfl),hb⟩
  · obtain rfl:l= [] :=len0 Hl.out h4
    obtain rfl:o= [] :=len0 Ho.out h5
    subst h4 h5
    refine (refSound_scalar w k n s la lc oa oc hT hsz (.inr (.inl ⟨h1,h2,h3⟩))).mono ?_
    rintro e w' ⟨rfl,hb⟩
    exact ⟨ret_bool (by rw [hsd];rfl),hb⟩
  · obtain rfl:l= [] :=len0 Hl.out h4
    obtain rfl:o= [] :=len0 Ho.out h5
    subst h4 h5
    refine (refSound_scalar w k n s la lc oa oc hT hsz (.inr (.inr (.inl ⟨h1,h3⟩)))).mono ?_
    rintro e w' ⟨rfl,hb⟩
    exact ⟨ret_bool (by rw [hsd];rfl),hb⟩
  · obtain rfl:l= [] :=len0 Hl.out h4
    obtain rfl:o= [] :=len0 Ho.out h5
    subst h4 h5
    refine (refSound_scalar w k n s la lc oa oc hT hsz (.inr (.inr (.inr ⟨h1,h2,h3⟩)))).mono ?_
    rintro e w' ⟨rfl,hb⟩
    exact ⟨ret_bool (by rw [hsd];rfl),hb⟩
  · -- a list
    obtain rfl:o= [] :=len0 Ho.out h5
    subst h1 h2 h5
    rw [valid_nil h3] at hval
    have HC:=Lib.hid hval
    have HSD:Hid ((V.mk 4 0 s l []).sound=soundL l):=hsd.trans (by simp [rising,soundO])
    clear hval hp hsd hoc hov hoa
    obtain ⟨W,hW⟩:∃W,(V.mk 4 0 s l []).sound=W:=⟨_,rfl⟩
    rw [hW]
    have HW:=Lib.hid hW
    clear hW
    go_enter Tryd.func57,Tryd.ntmps57
    go_wp2_with (go_at_call 34;refine (HC.out _ (hT.below ((Below.refl _ _).alloc (Nat.le_refl _) _))).mono ?_;rintro e w' ⟨rfl,hb⟩;obtain ⟨hc,hf⟩:=bcell hb;have hz:=hb.size;simp only [World.size_alloc] at hz)
    have hB0:=hst.step hb
    clear hst hb hc hf hz
    go_loopw [3] (fun i wr=>∃k:Nat,k≤ll∧i= .int .i64 k∧Hid (soundL (l.take k)=true)∧Boxed1 w wr ⟨4,0,s,la,ll,lc,oa,0,oc⟩) (fun i _=>ll - (intOf i).toNat)
    case atStart=>exact ⟨0,Nat.zero_le _,rfl,by rfl,hB0⟩
    case round=>
      clear hB0
      obtain ⟨k,hk,rfl,HJ,hB⟩:=hrel
      have b1:wr.cell? ⟨w.heap.size,3,none⟩=some (.slice la ll lc):=hB.a.c3
      by_cases hlt:k<ll
      · obtain ⟨ela,hlb⟩:=hla (by omega)
        have kl:k<l.length:=by rw [←Hl.out];exact hlt
        have x1:=(hlc k kl).keep hB.below hlb
        rw [ela] at b1
        have r0:=x1.c0;have r1:=x1.c1;have r2:=x1.c2;have r3:=x1.c3;have r4:=x1.c4
        clear ela x1
        have ih:=IHL.out _ (List.getElem_mem kl) wr (cl k) ((hlv k kl).later_ hB.below) (hT.below hB.below)
        cases hx:l[k].sound with
        | true=>
          rw [hx] at ih
          have HX:=Lib.hid hx
          have H:=Lib.hid ih
          clear ih hx
          go_wp2_with (go_at_call 57;refine H.out.mono ?_;rintro e w' ⟨rfl,hb⟩)
          go_roundw
          case rel=>exact ⟨k+1,by omega,by go_num,soundL_step HJ.out kl HX.out,hB.step hb⟩
          case measure=>simp [intOf];omega
        | false=>
          rw [hx] at ih
          have HX:=Lib.hid hx
          have H:=Lib.hid ih
          clear ih hx
          go_wp2_with (go_at_call 57;refine H.out.mono ?_;rintro e w' ⟨rfl,hb⟩)
          go_ret
          exact ⟨ret_bool (by rw [←HW.out,HSD.out,soundL_no kl HX.out]),(hB.step hb).below⟩
      · have b2:wr.cell? ⟨w.heap.size,4,none⟩=some (.slice oa 0 oc):=hB.a.c4
        go_wp2_with fail
        refine wp_loop_rounds 1 ?_
        rw [rounds_succ]
        go_wp2_with fail
        go_ret
        exact ⟨ret_bool (by rw [←HW.out,HSD.out, ←HJ.out,List.take_of_length_le (by have:=Hl.out;omega)]),hB.below⟩
  · -- an object
    obtain rfl:l= [] :=len0 Hl.out h4
    subst h1 h2 h4
    rw [valid_nil h3] at hval
    have HC:=Lib.hid hval
    have HSD:Hid ((V.mk 5 0 s [] o).sound=(rising o && soundO o)):=hsd.trans (by simp [soundL])
    clear hval hp hsd hlc hlv hla
    obtain ⟨W,hW⟩:∃W,(V.mk 5 0 s [] o).sound=W:=⟨_,rfl⟩
    rw [hW]
    have HW:=Lib.hid hW
    clear hW
    go_enter Tryd.func57,Tryd.ntmps57
    go_wp2_with (go_at_call 34;refine (HC.out _ (hT.below ((Below.refl _ _).alloc (Nat.le_refl _) _))).mono ?_;rintro e w' ⟨rfl,hb⟩;obtain ⟨hc,hf⟩:=bcell hb;have hz:=hb.size;simp only [World.size_alloc] at hz)
    have hB0:=hst.step hb
    clear hst hb
    refine wp_loop_rounds 1 ?_
    rw [rounds_succ]
    go_wp2_with fail
    clear hc hf hz
    go_loopw [5] (fun i wr=>∃k:Nat,k≤ol∧i= .int .i64 k∧Hid (soundO (o.take k)=true∧rising (o.take k)=true)∧Boxed1 w wr ⟨5,0,s,la,0,lc,oa,ol,oc⟩) (fun i _=>ol - (intOf i).toNat)
    case atStart=>exact ⟨0,Nat.zero_le _,rfl,⟨by rfl,by rfl⟩,hB0⟩
    case round =>
      clear hB0
      obtain ⟨k,hk,hi,HJ,hB⟩:=hrel
      have b1:wr.cell? ⟨w.heap.size,4,none⟩=some (.slice oa ol oc):=hB.a.c4
      by_cases hlt:k<ol
      · obtain ⟨ela,hlb⟩:=hoa (by omega)
        have kl:k<o.length:=by rw [←Ho.out];exact hlt
        obtain ⟨g1,ksz,x1⟩:=hoc k kl
        have x1:=x1.keep hB.below hlb
        have g1:=keep_cell hB.below g1 hlb
        have hval:=fun (W:World) hT=>(valid_any o[k].1 W ksz hT)
        have q1:=later_cell b1
        rw [ela] at b1 q1
        have r0:=x1.c0;have r1:=x1.c1;have r2:=x1.c2;have r3:=x1.c3;have r4:=x1.c4
        have ih:=IHO.out _ (List.getElem_mem kl) wr (co k) ((hov k kl).later_ hB.below) (hT.below hB.below)
        cases hx:o[k].2.sound with
        | false=>
          rw [hx] at ih
          have HX:=Lib.hid hx
          have H:=Lib.hid ih
          clear ih hx ela x1 hval q1 g1
          subst hi
          go_wp2_with (go_at_call 57;refine H.out.mono ?_;rintro e w' ⟨rfl,hb⟩)
          refine wp_region_later (by kernel_rfl) (by kernel_rfl) ?_
          repeat (go_big_quiet_step (fail))
          refine wpQuiet_nil ?_
          intro _ hw'
          obtain ⟨pq,hw''⟩:=hw'
          subst hw''
          go_wp2_with fail
          go_ret
          exact ⟨ret_bool (by rw [←HW.out,HSD.out,soundO_no kl (.inr HX.out)];simp),((hB.step hb).step (below_later _ _)).below⟩
        | true =>
          rw [hx] at ih
          have HX:=Lib.hid hx
          have H:=Lib.hid ih
          clear ih hx x1 ela
          cases hv:Lib.validD o[k].1.data.toList with
          | false=>
            rw [hv] at hval
            have HV:=Lib.hid hv
            have HVC:=Lib.hid hval
            clear hv hval
            subst hi
            go_wp2_with (go_at_call 57;refine H.out.mono ?_;rintro e w' ⟨rfl,hb⟩)
            have q2:=later_cell (keep_cell hb b1 (by have:=hB.size;omega))
            have t1:=later_cell (keep_cell hb g1 (by have:=hB.below.size;omega))
            clear q1
            refine wp_region_later (by kernel_rfl) (by kernel_rfl) ?_
            repeat (go_big_quiet_step (((go_at_call 34;exact later_call (HVC.out _ (hT.below ((hB.step hb).below.trans ((below_later _ _).mono (by have:=(hB.step hb).size;omega)))))))))
            refine wpQuiet_nil ?_
            intro _ hw'
            obtain ⟨pq,hw''⟩:=hw'
            subst hw''
            go_wp2_with fail
            go_ret
            exact ⟨ret_bool (by rw [←HW.out,HSD.out,soundO_no kl (.inl HV.out)];simp),((hB.step hb).step (below_later _ _)).below⟩
          | true =>
            rw [hv] at hval
            have HV:=Lib.hid hv
            have HVC:=Lib.hid hval
            clear hv hval
            rcases k with _|j
            · subst hi
              clear hoa
              go_wp2_with (go_at_call 57;refine H.out.mono ?_;rintro e w' ⟨rfl,hb⟩)
              have q2:=later_cell (keep_cell hb b1 (by have:=hB.size;omega))
              have t1:=later_cell (keep_cell hb g1 (by have:=hB.below.size;omega))
              simp only [Nat.zero_mul,Nat.add_zero] at t1
              clear q1
              refine wp_region_later (by kernel_rfl) (by kernel_rfl) ?_
              repeat (go_big_quiet_step (((go_at_call 34;exact later_call (HVC.out _ (hT.below ((hB.step hb).below.trans ((below_later _ _).mono (by have:=(hB.step hb).size;omega)))))))))
              refine wpQuiet_nil ?_
              intro _ hw'
              obtain ⟨pq,hw''⟩:=hw'
              subst hw''
              go_wp2_with fail
              go_roundw
              case rel=>exact ⟨1,by omega,by go_num,⟨soundO_step HJ.out.1 kl HV.out HX.out,rising_one o⟩,(hB.step hb).step (below_later _ _)⟩
              case measure=>simp [intOf];omega
            · have hi2:=hi.trans (show Value.int .i64 ((j+1:Nat):Int)= .int .i64 ((j:Int)+1) by go_num)
              clear hi
              subst hi2
              have jl:j<o.length:=by omega
              obtain ⟨g2,_,_⟩:=hoc j jl
              have g2:=keep_cell hB.below g2 hlb
              go_wp2_with (go_at_call 57;refine H.out.mono ?_;rintro e w' ⟨rfl,hb⟩)
              have q2:=later_cell (keep_cell hb b1 (by have:=hB.size;omega))
              have t1:=later_cell (keep_cell hb g1 (by have:=hB.below.size;omega))
              have t2:=later_cell (keep_cell hb g2 (by have:=hB.below.size;omega))
              clear q1 g1 g2 r0 r1 r2 r3 r4
              by_cases hr:Op.bytesLess o[j].1.toList o[j+1].1.toList=true
              · obtain ⟨a1,a2⟩:=less_asym _ _ hr
                have a3:(o[j+1].1.toList==o[j].1.toList)=false:=by simp [Ne.symm a2]
                have HR:=Lib.hid hr
                clear hr a2
                refine wp_region_later (by kernel_rfl) (by kernel_rfl) ?_
                repeat (go_big_quiet_step (((go_at_call 34;exact later_call (HVC.out _ (hT.below ((hB.step hb).below.trans ((below_later _ _).mono (by have:=(hB.step hb).size;omega)))))))))
                refine wpQuiet_nil ?_
                intro _ hw'
                obtain ⟨pq,hw''⟩:=hw'
                subst hw''
                clear q2 t1 t2 a1 a3
                go_wp2_with fail
                go_roundw
                case rel=>exact ⟨j+1+1,by omega,by go_num,⟨soundO_step HJ.out.1 kl HV.out HX.out,rising_step HJ.out.2 kl HR.out⟩,(hB.step hb).step (below_later _ _)⟩
                case measure=>simp [intOf];omega
              · have hr:Op.bytesLess o[j].1.toList o[j+1].1.toList=false:=by simpa using hr
                have HR:=Lib.hid hr
                have a1:Op.bytesLess o[j+1].1.toList o[j].1.toList=true∨(Op.bytesLess o[j+1].1.toList o[j].1.toList=false∧o[j+1].1.toList=o[j].1.toList):=by
                  rcases less_total o[j+1].1.toList o[j].1.toList with h|h|h
                  · exact .inl h
                  · cases hq:Op.bytesLess o[j+1].1.toList o[j].1.toList with
                    |true=>exact .inl rfl
                    |false=>exact .inr ⟨rfl,h⟩
                  · rw [hr] at h;cases h
                clear hr
                rcases a1 with a1|⟨a1,a2⟩
                · refine wp_region_later (by kernel_rfl) (by kernel_rfl) ?_
                  repeat (go_big_quiet_step (((go_at_call 34;exact later_call (HVC.out _ (hT.below ((hB.step hb).below.trans ((below_later _ _).mono (by have:=(hB.step hb).size;omega)))))))))
                  refine wpQuiet_nil ?_
                  intro _ hw'
                  obtain ⟨pq,hw''⟩:=hw'
                  subst hw''
                  clear q2 t1 t2 a1
                  go_wp2_with fail
                  go_ret
                  exact ⟨ret_bool (by rw [←HW.out,HSD.out,rising_no kl HR.out];simp),((hB.step hb).step (below_later _ _)).below⟩
                · have a3:(o[j+1].1.toList==o[j].1.toList)=true:=by rw [a2];simp
                  clear a2
                  refine wp_region_later (by kernel_rfl) (by kernel_rfl) ?_
                  repeat (go_big_quiet_step (((go_at_call 34;exact later_call (HVC.out _ (hT.below ((hB.step hb).below.trans ((below_later _ _).mono (by have:=(hB.step hb).size;omega)))))))))
                  refine wpQuiet_nil ?_
                  intro _ hw'
                  obtain ⟨pq,hw''⟩:=hw'
                  subst hw''
                  clear q2 t1 t2 a1 a3
                  go_wp2_with fail
                  go_ret
                  exact ⟨ret_bool (by rw [←HW.out,HSD.out,rising_no kl HR.out];simp),((hB.step hb).step (below_later _ _)).below⟩
      · subst hi
        go_wp2_with fail
        go_ret
        refine ⟨ret_bool ?_,hB.below⟩
        have hjo:=HJ.out
        rw [List.take_of_length_le (by have:=Ho.out;omega)] at hjo
        rw [←HW.out,HSD.out,hjo.1,hjo.2]
        rfl
end Go.Proofs.YthceefjafklcmaaDoor
namespace Go.Proofs.YthceefjafklcmaaDoor
open Go.RowKit
def St.ok (s:St):Bool:=if s.list then s.key.toList.isEmpty && decide (0≤s.i) else s.i==0 && Lib.validD s.key.data.toList
def pathSound (p:List St):Bool:=decide (p.length≤16) && p.all St.ok
theorem St.ext' {a b:St} (h1:a.list=b.list) (h2:a.i=b.i) (h3:a.key=b.key):a=b:=by
  cases a;cases b;simp_all
def stNe (a b:St):Bool:= !(a.list==b.list && a.i==b.i && a.key.toList==b.key.toList)
theorem stNe_eqB (a b:St):stNe a b= !eqB a b:=by
  unfold stNe
  congr 1
  by_cases h:a=b
  · subst h;simp [eqB]
  · rw [eqB_no h]
    cases h1:(a.list==b.list && a.i==b.i && a.key.toList==b.key.toList) with
    |false=>rfl
    | true=>
      simp at h1
      exact absurd (St.ext' h1.1.1 h1.1.2 (bytes_ext h1.2)) h
theorem step_neq (a b:St) (w:World):(binOp .neq 124 (.agg #[.bool a.list, .int .i64 a.i, .string a.key]) (.agg #[.bool b.list, .int .i64 b.i, .string b.key])).run Tryd.prog w= .ok (.bool (stNe a b)) w:=by
  have hS:Tryd.prog.underlying 124=some (.struct (Tryd.prog.fieldsOf 124)):=by kernel_rfl
  have hp:Tryd.prog.stoodInHeld 124=false:=by kernel_rfl
  rw [run_neq_struct,show (10000:Nat)=9999+1 from rfl,run_equalIn_agg w 9999 124 _ _ hS hp]
  simp only [Program.fieldsOf,Tryd.underlying124,stNe]
  go_simp
  by_cases h1:a.list=b.list<;>by_cases h2:a.i=b.i<;>by_cases h3:a.key.toList=b.key.toList<;>simp [h1,h2,h3]
set_option maxHeartbeats 2000000 in
set_option maxRecDepth 100000 in
theorem equalSteps_any (l l':List St) (w:World) (a a':Option Addr) (n m c c':Nat) (h:IsSteps w w.heap.size l a n c) (h':IsSteps w w.heap.size l' a' m c'):
    Calls Tryd.prog 90 #[.slice a n c, .slice a' m c'] w fun e w'=>e= .returned (.bool (eqB l l'))∧Below w.heap.size w w':=by
  have k1:=h.max;have k2:=h.few;have k3:=h'.max;have k4:=h'.few
  have HLn:=Lib.hid h.len;have HLm:=Lib.hid h'.len
  by_cases e:n=m
  case neg=>
    go_enter Tryd.func90,Tryd.ntmps90
    have f1:((n:Int) !=(m:Int))=true:=by simp;omega
    go_wp2_with fail
    go_ret
    exact ⟨ret_bool (eqB_no (fun h=>e (by rw [HLn.out,HLm.out,h]))).symm,Below.refl _ _⟩
  subst e
  go_enter Tryd.func90,Tryd.ntmps90
  go_wp2_with fail
  go_loopw [13] (fun i wr=>∃k:Nat,k≤n∧i= .int .i64 k∧Hid (∀j,j<k→l[j]? =l'[j]?)∧Below w.heap.size w wr) (fun i _=>n - (intOf i).toNat)
  case atStart=>exact ⟨0,Nat.zero_le _,rfl,fun j hj=>by omega,Below.refl _ _⟩
  case round=>
    obtain ⟨k,hk,rfl,HJ,hB⟩:=hrel
    by_cases hlt:k<n
    · obtain ⟨b,o,kl,rfl,hb,x1,_⟩:=h.get hlt
      obtain ⟨b',o',kl',rfl,hb',x2,_⟩:=h'.get hlt
      have x1:=x1.keep hB hb
      have x2:=x2.keep hB hb'
      have r0:=later_cell x1.c0;have r1:=later_cell x1.c1;have r2:=later_cell x1.c2
      have s0:=later_cell x2.c0;have s1:=later_cell x2.c1;have s2:=later_cell x2.c2
      clear x1 x2 h h'
      go_wp2_with fail
      have hne:=fun W=>step_neq l[k] l'[k] W
      refine wp_region_later (by kernel_rfl) (by kernel_rfl) ?_
      repeat (go_big_quiet_step (fail))
      refine wpQuiet_nil ?_
      intro _ hw'
      obtain ⟨pq,hw''⟩:=hw'
      subst hw''
      clear r0 r1 r2 s0 s1 s2 hne
      have hB2:=hB.on (below_later wr pq) hB.size
      generalize hx:stNe l[k] (l'[k]'kl')=bx
      cases bx with
      | false=>
        have EV:Hid (eqB l[k] (l'[k]'kl')=true):=by rw [stNe_eqB] at hx;show _=_;simpa using hx
        clear hx
        go_wp2_with fail
        go_roundw
        case rel=>exact ⟨k+1,by omega,by go_num,same_stepB HJ kl kl' EV.out,hB2⟩
        case measure=>simp [intOf];omega
      | true=>
        have EV:Hid (eqB l[k] (l'[k]'kl')=false):=by rw [stNe_eqB] at hx;show _=_;simpa using hx
        clear hx
        go_wp2_with fail
        go_ret
        exact ⟨ret_bool (eqB_no (fun h=>by subst h;exact ne_of_eqB EV.out rfl)).symm,hB2⟩
    · go_wp2_with fail
      go_ret
      exact ⟨ret_bool (eqB_yes (list_of_same HJ.out (by have:=HLn.out;omega) (by have:=HLm.out;omega))).symm,hB⟩
noncomputable def begins {α:Type} (p q:List α):Bool:=eqB (p.take q.length) q
theorem begins_short {α:Type} {p q:List α} (h:p.length<q.length):begins p q=false:=eqB_no fun e=>by
  have:=congrArg List.length e
  simp at this;omega
theorem begins_yes {α:Type} {p q:List α} (h:∀j,j<q.length→p[j]? =q[j]?) (hl:q.length≤p.length):begins p q=true:=eqB_yes (by
  apply List.ext_getElem?
  intro j
  by_cases hj:j<q.length
  · rw [List.getElem?_take_of_lt hj];exact h j hj
  · rw [List.getElem?_eq_none (by simp;omega),List.getElem?_eq_none (by omega)])
theorem begins_no {α:Type} {p q:List α} {j:Nat} (h1:j<p.length) (h2:j<q.length) (h:eqB p[j] q[j] =false):begins p q=false:=eqB_no fun e=>by
  have h3:=congrArg (fun l=>l[j]?) e
  simp only [List.getElem?_take_of_lt h2] at h3
  rw [List.getElem?_eq_getElem h1,List.getElem?_eq_getElem h2] at h3
  exact ne_of_eqB h (Option.some.inj h3)
set_option maxHeartbeats 2000000 in
set_option maxRecDepth 100000 in
theorem refBegins_any (l l':List St) (w:World) (a a':Option Addr) (n m c c':Nat) (h:IsSteps w w.heap.size l a n c) (h':IsSteps w w.heap.size l' a' m c'):
    Calls Tryd.prog 86 #[.slice a n c, .slice a' m c'] w fun e w'=>e= .returned (.bool (begins l l'))∧Below w.heap.size w w':=by
  have k1:=h.max;have k2:=h.few;have k3:=h'.max;have k4:=h'.few
  have HLn:=Lib.hid h.len;have HLm:=Lib.hid h'.len
  by_cases e:n<m
  case pos=>
    go_enter Tryd.func86,Tryd.ntmps86
    go_wp2_with fail
    go_ret
    exact ⟨ret_bool (begins_short (by rw [←HLn.out, ←HLm.out];exact e)).symm,Below.refl _ _⟩
  have e:m≤n:=by omega
  go_enter Tryd.func86,Tryd.ntmps86
  go_wp2_with fail
  go_loopw [5] (fun i wr=>∃k:Nat,k≤m∧i= .int .i64 k∧Hid (∀j,j<k→l[j]? =l'[j]?)∧Below w.heap.size w wr) (fun i _=>m - (intOf i).toNat)
  case atStart=>exact ⟨0,Nat.zero_le _,rfl,fun j hj=>by omega,Below.refl _ _⟩
  case round=>
    obtain ⟨k,hk,rfl,HJ,hB⟩:=hrel
    by_cases hlt:k<m
    · obtain ⟨b,o,kl,rfl,hb,x1,_⟩:=h.get (show k<n by omega)
      obtain ⟨b',o',kl',rfl,hb',x2,_⟩:=h'.get hlt
      have hlt2:k<n:=by omega
      have x1:=x1.keep hB hb
      have x2:=x2.keep hB hb'
      have r0:=later_cell x1.c0;have r1:=later_cell x1.c1;have r2:=later_cell x1.c2
      have s0:=later_cell x2.c0;have s1:=later_cell x2.c1;have s2:=later_cell x2.c2
      clear x1 x2 h h'
      go_wp2_with fail
      have hne:=fun W=>step_neq l[k] l'[k] W
      refine wp_region_later (by kernel_rfl) (by kernel_rfl) ?_
      repeat (go_big_quiet_step (fail))
      refine wpQuiet_nil ?_
      intro _ hw'
      obtain ⟨pq,hw''⟩:=hw'
      subst hw''
      clear r0 r1 r2 s0 s1 s2 hne
      have hB2:=hB.on (below_later wr pq) hB.size
      generalize hx:stNe l[k] (l'[k]'kl')=bx
      cases bx with
      | false=>
        have EV:Hid (eqB l[k] (l'[k]'kl')=true):=by rw [stNe_eqB] at hx;show _=_;simpa using hx
        clear hx
        go_wp2_with fail
        go_roundw
        case rel=>exact ⟨k+1,by omega,by go_num,same_stepB HJ kl kl' EV.out,hB2⟩
        case measure=>simp [intOf];omega
      | true=>
        have EV:Hid (eqB l[k] (l'[k]'kl')=false):=by rw [stNe_eqB] at hx;show _=_;simpa using hx
        clear hx
        go_wp2_with fail
        go_ret
        exact ⟨ret_bool (begins_no kl kl' EV.out).symm,hB2⟩
    · go_wp2_with fail
      go_ret
      exact ⟨ret_bool (begins_yes (fun j hj=>HJ.out j (by have:=HLm.out;omega)) (by have:=HLn.out;have:=HLm.out;omega)).symm,hB⟩
theorem begins_same {p q:List St} (h:p.length=q.length):begins p q=eqB p q:=by
  unfold begins
  rw [List.take_of_length_le (by omega)]
set_option maxHeartbeats 2000000 in
set_option maxRecDepth 100000 in
theorem refPathSame_any (l l':List St) (w:World) (a a':Option Addr) (n m c c':Nat) (h:IsSteps w w.heap.size l a n c) (h':IsSteps w w.heap.size l' a' m c'):
    Calls Tryd.prog 72 #[.slice a n c, .slice a' m c'] w fun e w'=>e= .returned (.bool (eqB l l'))∧Below w.heap.size w w':=by
  have HLn:=Lib.hid h.len;have HLm:=Lib.hid h'.len
  by_cases e:n=m
  case neg=>
    go_enter Tryd.func72,Tryd.ntmps72
    have f1:((n:Int)==(m:Int))=false:=by simp;omega
    go_wp2_with fail
    go_ret
    exact ⟨ret_bool (eqB_no (fun h=>e (by rw [HLn.out,HLm.out,h]))).symm,Below.refl _ _⟩
  subst e
  have hc:=refBegins_any l l' w a a' n n c c' h h'
  rw [begins_same (by rw [←HLn.out, ←HLm.out])] at hc
  have HC:=Lib.hid hc
  clear hc h h'
  go_enter Tryd.func72,Tryd.ntmps72
  have f1:((n:Int)==(n:Int))=true:=by simp
  go_wp2_with (go_at_call 86;refine HC.out.mono ?_;rintro e w' ⟨rfl,hb⟩)
  go_ret
  exact ⟨rfl,hb⟩
set_option maxHeartbeats 2000000 in
set_option maxRecDepth 100000 in
theorem stepBad_any (s:St) (w:World) (hT:Tabs w) (hb:s.Bnd):
    Calls Tryd.prog 91 #[.agg #[.bool s.list, .int .i64 s.i, .string s.key]] w fun e w'=>e= .returned (.bool !s.ok)∧Below w.heap.size w w':=by
  have hsz:=hb.k1
  have hv:=fun W hT=>valid_any s.key W hsz hT
  obtain ⟨ls,i,key⟩:=s
  dsimp only at*
  obtain ⟨vd,hvd⟩:∃vd,Lib.validD key.data.toList=vd:=⟨_,rfl⟩
  rw [hvd] at hv
  have HV:=Lib.hid hv
  have HVD:=Lib.hid hvd
  obtain ⟨be,hbe⟩:∃be,key.toList.isEmpty=be:=⟨_,rfl⟩
  obtain ⟨R,hR⟩:∃R,(!(St.ok ⟨ls,i,key⟩))=R:=⟨_,rfl⟩
  rw [hR]
  have hR2:R= !(if ls then be && decide (0≤i) else i==0 && vd):=by rw [←hR];simp only [St.ok];rw [hbe,hvd]
  have HR:=Lib.hid hR2
  clear hv hvd hR hR2 hb
  cases ls with
  | true=>
    have f0:(key.toList== [])=be:=by rw [←hbe];cases key.toList<;>rfl
    clear hbe
    cases be with
    | false=>
      go_enter Tryd.func91,Tryd.ntmps91
      go_wp2_with fail
      go_ret
      exact ⟨ret_bool (by rw [HR.out];rfl),(Below.refl _ _).alloc (Nat.le_refl _) _⟩
    | true=>
      by_cases hi:i<0
      · go_enter Tryd.func91,Tryd.ntmps91
        go_wp2_with fail
        go_ret
        exact ⟨ret_bool (by rw [HR.out];simp;omega),(Below.refl _ _).alloc (Nat.le_refl _) _⟩
      · go_enter Tryd.func91,Tryd.ntmps91
        go_wp2_with fail
        go_ret
        exact ⟨ret_bool (by rw [HR.out];simp;omega),(Below.refl _ _).alloc (Nat.le_refl _) _⟩
  | false=>
    clear hbe
    by_cases hi:i=0
    · subst hi
      go_enter Tryd.func91,Tryd.ntmps91
      go_wp2_with (go_at_call 34;refine (HV.out _ (hT.below ((Below.refl _ _).alloc (Nat.le_refl _) _))).mono ?_;rintro e w' ⟨rfl,hb⟩)
      go_ret
      exact ⟨ret_bool (by rw [HR.out];simp),hb.one⟩
    · have f1:(i !=0)=true:=by simp [hi]
      have Hi:=Lib.hid hi
      clear hi
      go_enter Tryd.func91,Tryd.ntmps91
      go_wp2_with fail
      go_ret
      exact ⟨ret_bool (by rw [HR.out];simp [Hi.out]),(Below.refl _ _).alloc (Nat.le_refl _) _⟩
end Go.Proofs.YthceefjafklcmaaDoor
namespace Go.Proofs.YthceefjafklcmaaDoor
open Go.RowKit
theorem any_hit {α:Type} {l:List α} {p:α→Bool} {k:Nat} (kl:k<l.length) (h:p l[k] =true):l.any p=true:=by
  rw [List.any_eq_true];exact ⟨l[k],List.getElem_mem kl,h⟩
theorem any_none {α:Type} {l:List α} {p:α→Bool} {n:Nat} (hn:n=l.length) (h:∀j,j<n→∀hj:j<l.length,p l[j] =false):l.any p=false:=by
  rw [List.any_eq_false]
  intro x hx
  obtain ⟨j,hj,rfl⟩:=List.getElem_of_mem hx
  rw [h j (by omega) hj];simp
theorem none_step {α:Type} {l:List α} {p:α→Bool} {k:Nat} (h:Hid (∀j,j<k→∀hj:j<l.length,p l[j] =false)) (kl:k<l.length) (e:p l[k] =false):Hid (∀j,j<k+1→∀hj:j<l.length,p l[j] =false):=by
  intro j hj hl
  by_cases hjk:j=k
  · subst hjk;exact e
  · exact h.out j (by omega) hl
def St.val (s:St):Value:= .agg #[.bool s.list, .int .i64 s.i, .string s.key]
set_option maxHeartbeats 2000000 in
set_option maxRecDepth 100000 in
theorem indexStep_any (l:List St) (w:World) (a:Option Addr) (n c:Nat) (h:IsSteps w w.heap.size l a n c) (p:St→Bool) (g:Nat) (eg:∀args w,(callFunc g args).run Tryd.prog w= .ok (.enter g args) w)
    (hg:∀(s:St) (W:World),s.Bnd→Below w.heap.size w W→Calls Tryd.prog g #[.agg #[.bool s.list, .int .i64 s.i, .string s.key]] W fun e w'=>e= .returned (.bool (p s))∧Below W.heap.size W w'):
    Calls Tryd.prog 94 #[.slice a n c, .func (.func g) #[] #[]] w fun e w'=>(∃r:Int,e= .returned (.int .i64 r)∧Hid (decide (0≤r)=l.any p)∧ -1≤r∧r≤9223372036854775807)∧Below w.heap.size w w':=by
  have k1:=h.max;have k2:=h.few
  have HLn:=Lib.hid h.len
  have HG:=Lib.hid hg
  clear hg
  go_enter Tryd.func94,Tryd.ntmps94
  go_wp2_with fail
  go_loopw [5,8] (fun _ i wr=>∃k:Nat,k≤n∧i= .int .i64 k∧Hid (∀j,j<k→∀hj:j<l.length,p l[j] =false)∧Below w.heap.size w wr) (fun _ i _=>n - (intOf i).toNat)
  case atStart=>exact ⟨0,Nat.zero_le _,rfl,fun j hj=>by omega,Below.refl _ _⟩
  case round=>
    obtain ⟨k,hk,rfl,HJ,hB⟩:=hrel
    by_cases hlt:k<n
    · obtain ⟨b,o,kl,rfl,hb,x1,xb⟩:=h.get hlt
      have x1:=x1.keep hB hb
      have r0:=x1.c0;have r1:=x1.c1;have r2:=x1.c2
      have hc:=HG.out l[k] wr xb hB
      clear x1 h
      generalize hx:p l[k] =bx at hc
      have HX:=Lib.hid hx
      have HC:=Lib.hid hc
      clear hx hc
      cases bx with
      | false=>
        go_wp2_with (go_at_fn g;refine HC.out.mono ?_;rintro e w' ⟨rfl,hb'⟩)
        go_roundw
        case rel=>exact ⟨k+1,by omega,by go_num,none_step HJ kl HX.out,hB.on hb' hB.size⟩
        case measure=>simp [intOf];omega
      | true=>
        go_wp2_with (go_at_fn g;refine HC.out.mono ?_;rintro e w' ⟨rfl,hb'⟩)
        go_ret
        exact ⟨⟨k,rfl,by show _=_;rw [any_hit kl HX.out];simp,by omega,by omega⟩,hB.on hb' hB.size⟩
    · go_wp2_with fail
      go_ret
      exact ⟨⟨-1,rfl,by show _=_;rw [any_none (n:=n) HLn.out (fun j hj=>HJ.out j (by omega))];rfl,by omega,by omega⟩,hB⟩
set_option maxHeartbeats 2000000 in
set_option maxRecDepth 100000 in
theorem containsStep_any (l:List St) (w:World) (a:Option Addr) (n c:Nat) (h:IsSteps w w.heap.size l a n c) (p:St→Bool) (g:Nat) (eg:∀args w,(callFunc g args).run Tryd.prog w= .ok (.enter g args) w)
    (hg:∀(s:St) (W:World),s.Bnd→Below w.heap.size w W→Calls Tryd.prog g #[.agg #[.bool s.list, .int .i64 s.i, .string s.key]] W fun e w'=>e= .returned (.bool (p s))∧Below W.heap.size W w'):
    Calls Tryd.prog 92 #[.slice a n c, .func (.func g) #[] #[]] w fun e w'=>e= .returned (.bool (l.any p))∧Below w.heap.size w w':=by
  have k1:=h.max;have k2:=h.few
  have hc:=indexStep_any l w a n c h p g eg hg
  have HC:=Lib.hid hc
  clear hg hc h eg
  go_enter Tryd.func92,Tryd.ntmps92
  go_wp2_with (go_at_call 94;refine HC.out.mono ?_;rintro e w' ⟨⟨r,rfl,hr,h1,h2⟩,hb⟩)
  go_ret
  exact ⟨ret_bool (by rw [←hr.out]),hb⟩
set_option maxHeartbeats 2000000 in
set_option maxRecDepth 100000 in
theorem pathSound_any (l:List St) (w:World) (hT:Tabs w) (a:Option Addr) (n c:Nat) (h:IsSteps w w.heap.size l a n c):
    Calls Tryd.prog 79 #[.slice a n c] w fun e w'=>e= .returned (.bool (pathSound l))∧Below w.heap.size w w':=by
  have k1:=h.max;have k2:=h.few
  have HLn:=Lib.hid h.len
  have hc:=containsStep_any l w a n c h (fun s=> !s.ok) 91 (enters_of Tryd.func91 (by kernel_rfl) rfl) (fun s W hb hW=>stepBad_any s W (hT.below hW) hb)
  have HC:=Lib.hid hc
  clear hc h
  obtain ⟨R,hR⟩:∃R,pathSound l=R:=⟨_,rfl⟩
  obtain ⟨A,hA⟩:∃A,l.any (fun s=> !s.ok)=A:=⟨_,rfl⟩
  have hR2:R=(decide (n≤16) && !A):=by
    rw [←hR, ←hA,HLn.out,pathSound];congr 1;rw [List.not_any_eq_all_not];simp
  rw [hR];rw [hA] at HC
  have HR:=Lib.hid hR2
  clear hR hR2 hA
  by_cases hn:n≤16
  · go_enter Tryd.func79,Tryd.ntmps79
    go_wp2_with (go_at_call 92;refine HC.out.mono ?_;rintro e w' ⟨rfl,hb⟩)
    go_ret
    exact ⟨ret_bool (by rw [HR.out];simp [hn]),hb⟩
  · go_enter Tryd.func79,Tryd.ntmps79
    go_wp2_with fail
    go_ret
    exact ⟨ret_bool (by rw [HR.out];simp [hn]),Below.refl _ _⟩
end Go.Proofs.YthceefjafklcmaaDoor
namespace Go.Proofs.YthceefjafklcmaaDoor
open Go.RowKit
theorem pathSound_no {l:List St} {k:Nat} {s:St} (kl:k<l.length) (hs:l[k] =s) (h:s.ok=false):pathSound l=false:=by
  unfold pathSound
  rw [Bool.and_eq_false_iff];right
  rw [List.all_eq_false]
  exact ⟨l[k],List.getElem_mem kl,by rw [hs,h];simp⟩
theorem ok_step {l:List St} {k:Nat} {s:St} (h:Hid (∀j,j<k→∀hj:j<l.length,l[j].ok=true)) (kl:k<l.length) (hs:l[k] =s) (e:s.ok=true):Hid (∀j,j<k+1→∀hj:j<l.length,l[j].ok=true):=by
  intro j hj hl
  by_cases hjk:j=k
  · subst hjk;rw [hs];exact e
  · exact h.out j (by omega) hl
theorem pathSound_all {l:List St} {n:Nat} (hn:n=l.length) (h:∀j,j<n→∀hj:j<l.length,l[j].ok=true):pathSound l=decide (n≤16):=by
  have:l.all St.ok=true:=by
    rw [List.all_eq_true]
    intro x hx
    obtain ⟨j,hj,rfl⟩:=List.getElem_of_mem hx
    exact h j (by omega) hj
  rw [pathSound,this,hn];simp
set_option maxHeartbeats 4000000 in
set_option maxRecDepth 100000 in
theorem refPathSound_any (l:List St) (w:World) (hT:Tabs w) (a:Option Addr) (n c:Nat) (h:IsSteps w w.heap.size l a n c):
    Calls Tryd.prog 61 #[.slice a n c] w fun e w'=>e= .returned (.bool (pathSound l))∧Below w.heap.size w w':=by
  have k1:=h.max;have k2:=h.few
  have HLn:=Lib.hid h.len
  go_enter Tryd.func61,Tryd.ntmps61
  go_wp2_with fail
  go_loopw [3] (fun i wr=>∃k:Nat,k≤n∧i= .int .i64 k∧Hid (∀j,j<k→∀hj:j<l.length,l[j].ok=true)∧Below w.heap.size w wr) (fun i _=>n - (intOf i).toNat)
  case atStart=>exact ⟨0,Nat.zero_le _,rfl,fun j hj=>by omega,Below.refl _ _⟩
  case round=>
    obtain ⟨k,hk,rfl,HJ,hB⟩:=hrel
    by_cases hlt:k<n
    · obtain ⟨b,o,kl,rfl,hb,x1,xb⟩:=h.get hlt
      have x1:=x1.keep hB hb
      have hTr:=hT.below hB
      obtain ⟨s,hs⟩:∃s,l[k] =s:=⟨_,rfl⟩
      rw [hs] at x1 xb
      have HS:=Lib.hid hs
      obtain ⟨ls,i,key⟩:=s
      have r0:=x1.c0;have r1:=x1.c1;have r2:=x1.c2
      dsimp only at r0 r1 r2
      have hv:=valid_any key wr xb.k1 hTr
      obtain ⟨vd,hvd⟩:∃vd,Lib.validD key.data.toList=vd:=⟨_,rfl⟩
      rw [hvd] at hv
      have HV:=Lib.hid hv
      have HVD:=Lib.hid hvd
      obtain ⟨be,hbe⟩:∃be,key.toList.isEmpty=be:=⟨_,rfl⟩
      obtain ⟨R,hR⟩:∃R,(St.ok ⟨ls,i,key⟩)=R:=⟨_,rfl⟩
      have hR2:R=(if ls then be && decide (0≤i) else i==0 && vd):=by rw [←hR];simp only [St.ok];rw [hbe,hvd]
      have HR2:=Lib.hid hR2
      have HR:=Lib.hid hR
      have hempty:be=true→vd=true:=by
        intro hb1
        have:key.toList= [] :=by simpa [hb1] using hbe
        rw [ByteArray.toList_eq] at this
        rw [←hvd,this];decide
      have HE:=Lib.hid hempty
      clear x1 h hs hv hvd hR2 hR xb hempty hTr
      cases ls with
      | true=>
        have f0:(key.toList== [])=be:=by rw [←hbe];cases key.toList<;>rfl
        clear hbe
        cases be with
        | false=>
          go_wp2_with fail
          go_ret
          exact ⟨ret_bool (pathSound_no kl HS.out (by rw [HR.out,HR2.out];simp)).symm,hB⟩
        | true=>
          by_cases hi:i<0
          · go_wp2_with fail
            go_ret
            exact ⟨ret_bool (pathSound_no kl HS.out (by rw [HR.out,HR2.out];simp;omega)).symm,hB⟩
          · have hvt:=HE.out rfl
            rw [hvt] at HV
            clear hvt
            go_wp2_with (go_at_call 34;refine HV.out.mono ?_;rintro e w' ⟨rfl,hb'⟩)
            go_roundw
            case rel=>exact ⟨k+1,by omega,by go_num,ok_step HJ kl HS.out (by rw [HR.out,HR2.out];simp;omega),hB.on hb' hB.size⟩
            case measure=>simp [intOf];omega
      | false=>
        clear hbe
        by_cases hi:i=0
        · subst hi
          cases vd with
          | false=>
            go_wp2_with (go_at_call 34;refine HV.out.mono ?_;rintro e w' ⟨rfl,hb'⟩)
            go_ret
            exact ⟨ret_bool (pathSound_no kl HS.out (by rw [HR.out,HR2.out];simp)).symm,hB.on hb' hB.size⟩
          | true=>
            go_wp2_with (go_at_call 34;refine HV.out.mono ?_;rintro e w' ⟨rfl,hb'⟩)
            go_roundw
            case rel=>exact ⟨k+1,by omega,by go_num,ok_step HJ kl HS.out (by rw [HR.out,HR2.out];simp),hB.on hb' hB.size⟩
            case measure=>simp [intOf];omega
        · have f1:(i !=0)=true:=by simp [hi]
          have Hi:=Lib.hid hi
          clear hi
          go_wp2_with fail
          go_ret
          exact ⟨ret_bool (pathSound_no kl HS.out (by rw [HR.out,HR2.out];simp [Hi.out])).symm,hB⟩
    · go_wp2_with fail
      go_ret
      refine ⟨ret_bool ?_,hB⟩
      rw [pathSound_all (n:=n) HLn.out (fun j hj=>HJ.out j (by omega))]
      simp;omega
end Go.Proofs.YthceefjafklcmaaDoor
namespace Go.Proofs.YthceefjafklcmaaDoor
open Go.RowKit
theorem Cm.ne {a b:Cm} (h:a.k≠b.k∨a.key.toList≠b.key.toList∨a.i≠b.i∨a.j≠b.j∨a.n≠b.n∨a.s.toList≠b.s.toList∨eqv a.v b.v=false∨eqB a.path b.path=false):eqB a b=false:=eqB_no fun e=>by
  subst e
  rcases h with h|h|h|h|h|h|h|h
  · exact h rfl
  · exact h rfl
  · exact h rfl
  · exact h rfl
  · exact h rfl
  · exact h rfl
  · exact ne_of_eqv h rfl
  · exact ne_of_eqB h rfl
theorem Cm.same {a b:Cm} (h1:a.k=b.k) (h2:a.key.toList=b.key.toList) (h3:a.i=b.i) (h4:a.j=b.j) (h5:a.n=b.n) (h6:a.s.toList=b.s.toList) (h7:eqv a.v b.v=true) (h8:eqB a.path b.path=true):eqB a b=true:=eqB_yes (by
  have h7:=eq_of_eqv h7;have h8:=eq_of_eqB h8;have h2:=bytes_ext h2;have h6:=bytes_ext h6
  cases a;cases b;simp_all)
theorem _root_.Go.RowKit.Below.cellA {w w1:World} {cs ds:Array Value} {t u:TypeId} (hb:Below ((w.alloc (.cells cs t)).alloc (.cells ds u)).heap.size ((w.alloc (.cells cs t)).alloc (.cells ds u)) w1) (j:Nat) (v:Value) (h:cs[j]? =some v):w1.cell? ⟨w.heap.size,j,none⟩=some v:=
  keep_cell hb (keep_cell ((Below.refl _ _).alloc (Nat.le_refl _) _) (cells_new w cs t j v h) (by simp)) (by simp;omega)
theorem _root_.Go.RowKit.Below.cellB {w w1:World} {cs ds:Array Value} {t u:TypeId} (hb:Below ((w.alloc (.cells cs t)).alloc (.cells ds u)).heap.size ((w.alloc (.cells cs t)).alloc (.cells ds u)) w1) (j:Nat) (v:Value) (h:ds[j]? =some v):w1.cell? ⟨w.heap.size+1,j,none⟩=some v:=
  keep_cell hb (by have:=cells_new (w.alloc (.cells cs t)) ds u j v h;rwa [World.size_alloc] at this) (by simp)
set_option maxHeartbeats 4000000 in
set_option maxRecDepth 100000 in
theorem compSame_any (x y:Cm) (w:World) (c d:CC) (hx:IsComp w w.heap.size x c) (hy:IsComp w w.heap.size y d):
    Calls Tryd.prog 78 #[.agg #[.int .u8 c.k, .slice c.pa c.pl c.pc, .string c.key, .int .i64 c.i, .int .i64 c.j, .int .i64 c.n, .int .u8 c.v.k, .int .i64 c.v.n, .string c.v.s, .slice c.v.la c.v.ll c.v.lc, .slice c.v.oa c.v.ol c.v.oc, .string c.s], .agg #[.int .u8 d.k, .slice d.pa d.pl d.pc, .string d.key, .int .i64 d.i, .int .i64 d.j, .int .i64 d.n, .int .u8 d.v.k, .int .i64 d.v.n, .string d.v.s, .slice d.v.la d.v.ll d.v.lc, .slice d.v.oa d.v.ol d.v.oc, .string d.s]] w fun e w'=>e= .returned (.bool (eqB x y))∧Below w.heap.size w w':=by
  cases hx with
  |mk c p v hb hp hv=>
  cases hy with
  |mk d q u hb' hq hu=>
  have HV:Hid (∀W,Below w.heap.size w W→Calls Tryd.prog 30 #[.agg #[.int .u8 c.v.k, .int .i64 c.v.n, .string c.v.s, .slice c.v.la c.v.ll c.v.lc, .slice c.v.oa c.v.ol c.v.oc], .agg #[.int .u8 d.v.k, .int .i64 d.v.n, .string d.v.s, .slice d.v.la d.v.ll d.v.lc, .slice d.v.oa d.v.ol d.v.oc]] W fun e w'=>e= .returned (.bool (eqv v u))∧Below W.heap.size W w'):=fun W hW=>valSame_any v u W c.v d.v (hv.later_ hW) (hu.later_ hW)
  have HP:Hid (∀W,Below w.heap.size w W→Calls Tryd.prog 90 #[.slice c.pa c.pl c.pc, .slice d.pa d.pl d.pc] W fun e w'=>e= .returned (.bool (eqB p q))∧Below W.heap.size W w'):=fun W hW=>equalSteps_any p q W _ _ _ _ _ _ (hp.later_ hW) (hq.later_ hW)
  obtain ⟨R,hR⟩:∃R,eqB (Cm.mk c.k p c.key c.i c.j c.n v c.s) (Cm.mk d.k q d.key d.i d.j d.n u d.s)=R:=⟨_,rfl⟩
  rw [hR]
  have HR:=Lib.hid hR
  clear hR hb hp hv hb' hq hu
  by_cases e0:c.k=d.k
  case neg=>
    have f0:(c.k==d.k)=false:=by simp [e0]
    have H0:=Lib.hid e0
    clear e0
    go_enter Tryd.func78,Tryd.ntmps78
    go_wp2_with fail
    go_ret
    exact ⟨ret_bool (by rw [←HR.out];exact (Cm.ne (Or.inl H0.out)).symm),((Below.refl _ _).alloc (Nat.le_refl _) _).alloc (by simp) _⟩
  have f0:(c.k==d.k)=true:=by simp [e0]
  have H0:=Lib.hid e0
  clear e0
  by_cases e1:c.key.toList=d.key.toList
  case neg=>
    have f1:(c.key.toList==d.key.toList)=false:=by simp [e1]
    have H1:=Lib.hid e1
    clear e1
    go_enter Tryd.func78,Tryd.ntmps78
    go_wp2_with fail
    go_ret
    exact ⟨ret_bool (by rw [←HR.out];exact (Cm.ne (Or.inr<| .inl H1.out)).symm),((Below.refl _ _).alloc (Nat.le_refl _) _).alloc (by simp) _⟩
  have f1:(c.key.toList==d.key.toList)=true:=by simp [e1]
  have H1:=Lib.hid e1
  clear e1
  by_cases e2:c.i=d.i
  case neg=>
    have f2:(c.i==d.i)=false:=by simp [e2]
    have H2:=Lib.hid e2
    clear e2
    go_enter Tryd.func78,Tryd.ntmps78
    go_wp2_with fail
    go_ret
    exact ⟨ret_bool (by rw [←HR.out];exact (Cm.ne (Or.inr<| .inr<| .inl H2.out)).symm),((Below.refl _ _).alloc (Nat.le_refl _) _).alloc (by simp) _⟩
  have f2:(c.i==d.i)=true:=by simp [e2]
  have H2:=Lib.hid e2
  clear e2
  by_cases e3:c.j=d.j
  case neg=>
    have f3:(c.j==d.j)=false:=by simp [e3]
    have H3:=Lib.hid e3
    clear e3
    go_enter Tryd.func78,Tryd.ntmps78
    go_wp2_with fail
    go_ret
    exact ⟨ret_bool (by rw [←HR.out];exact (Cm.ne (Or.inr<| .inr<| .inr<| .inl H3.out)).symm),((Below.refl _ _).alloc (Nat.le_refl _) _).alloc (by simp) _⟩
  have f3:(c.j==d.j)=true:=by simp [e3]
  have H3:=Lib.hid e3
  clear e3
  by_cases e4:c.n=d.n
  case neg=>
    have f4:(c.n==d.n)=false:=by simp [e4]
    have H4:=Lib.hid e4
    clear e4
    go_enter Tryd.func78,Tryd.ntmps78
    go_wp2_with fail
    go_ret
    exact ⟨ret_bool (by rw [←HR.out];exact (Cm.ne (Or.inr<| .inr<| .inr<| .inr<| .inl H4.out)).symm),((Below.refl _ _).alloc (Nat.le_refl _) _).alloc (by simp) _⟩
  have f4:(c.n==d.n)=true:=by simp [e4]
  have H4:=Lib.hid e4
  clear e4
  by_cases e5:c.s.toList=d.s.toList
  case neg=>
    have f5:(c.s.toList==d.s.toList)=false:=by simp [e5]
    have H5:=Lib.hid e5
    clear e5
    go_enter Tryd.func78,Tryd.ntmps78
    go_wp2_with fail
    go_ret
    exact ⟨ret_bool (by rw [←HR.out];exact (Cm.ne (Or.inr<| .inr<| .inr<| .inr<| .inr<| .inl H5.out)).symm),((Below.refl _ _).alloc (Nat.le_refl _) _).alloc (by simp) _⟩
  have f5:(c.s.toList==d.s.toList)=true:=by simp [e5]
  have H5:=Lib.hid e5
  clear e5
  cases ev:eqv v u with
  | false=>
    have EV:=Lib.hid ev
    rw [ev] at HV
    clear ev
    go_enter Tryd.func78,Tryd.ntmps78
    go_wp2_with (first|(go_at_call 30;refine (HV.out _ (((Below.refl _ _).alloc (Nat.le_refl _) _).alloc (by simp) _)).mono ?_;rintro e w1 ⟨rfl,hb1⟩;have q1:=hb1.cellA 1 _ rfl;have q2:=hb1.cellB 1 _ rfl)|(go_at_call 90;refine (HP.out _ hb1.two).mono ?_;rintro e w2 ⟨rfl,hb2⟩))
    go_ret
    exact ⟨ret_bool (by rw [←HR.out];exact (Cm.ne (Or.inr<| .inr<| .inr<| .inr<| .inr<| .inr<| .inl EV.out)).symm),hb1.two⟩
  | true=>
    have EV:=Lib.hid ev
    rw [ev] at HV
    clear ev
    cases eb:eqB p q with
    | false=>
      have HB:=Lib.hid eb
      rw [eb] at HP
      clear eb
      go_enter Tryd.func78,Tryd.ntmps78
      go_wp2_with (first|(go_at_call 30;refine (HV.out _ (((Below.refl _ _).alloc (Nat.le_refl _) _).alloc (by simp) _)).mono ?_;rintro e w1 ⟨rfl,hb1⟩;have q1:=hb1.cellA 1 _ rfl;have q2:=hb1.cellB 1 _ rfl)|(go_at_call 90;refine (HP.out _ hb1.two).mono ?_;rintro e w2 ⟨rfl,hb2⟩))
      go_ret
      exact ⟨ret_bool (by rw [←HR.out];exact (Cm.ne (Or.inr<| .inr<| .inr<| .inr<| .inr<| .inr<| .inr HB.out)).symm),hb1.two.on hb2 hb1.two.size⟩
    | true=>
      have HB:=Lib.hid eb
      rw [eb] at HP
      clear eb
      go_enter Tryd.func78,Tryd.ntmps78
      go_wp2_with (first|(go_at_call 30;refine (HV.out _ (((Below.refl _ _).alloc (Nat.le_refl _) _).alloc (by simp) _)).mono ?_;rintro e w1 ⟨rfl,hb1⟩;have q1:=hb1.cellA 1 _ rfl;have q2:=hb1.cellB 1 _ rfl)|(go_at_call 90;refine (HP.out _ hb1.two).mono ?_;rintro e w2 ⟨rfl,hb2⟩))
      go_ret
      exact ⟨ret_bool (by rw [←HR.out];exact (Cm.same H0.out H1.out H2.out H3.out H4.out H5.out EV.out HB.out).symm),hb1.two.on hb2 hb1.two.size⟩
set_option maxHeartbeats 4000000 in
set_option maxRecDepth 100000 in
theorem ref06Same_any (x y:Cm) (w:World) (c d:CC) (hx:IsComp w w.heap.size x c) (hy:IsComp w w.heap.size y d):
    Calls Tryd.prog 41 #[.agg #[.int .u8 c.k, .slice c.pa c.pl c.pc, .string c.key, .int .i64 c.i, .int .i64 c.j, .int .i64 c.n, .int .u8 c.v.k, .int .i64 c.v.n, .string c.v.s, .slice c.v.la c.v.ll c.v.lc, .slice c.v.oa c.v.ol c.v.oc, .string c.s], .agg #[.int .u8 d.k, .slice d.pa d.pl d.pc, .string d.key, .int .i64 d.i, .int .i64 d.j, .int .i64 d.n, .int .u8 d.v.k, .int .i64 d.v.n, .string d.v.s, .slice d.v.la d.v.ll d.v.lc, .slice d.v.oa d.v.ol d.v.oc, .string d.s]] w fun e w'=>e= .returned (.bool (eqB x y))∧Below w.heap.size w w':=by
  cases hx with
  |mk c p v hb hp hv=>
  cases hy with
  |mk d q u hb' hq hu=>
  have HV:Hid (∀W,Below w.heap.size w W→Calls Tryd.prog 15 #[.agg #[.int .u8 c.v.k, .int .i64 c.v.n, .string c.v.s, .slice c.v.la c.v.ll c.v.lc, .slice c.v.oa c.v.ol c.v.oc], .agg #[.int .u8 d.v.k, .int .i64 d.v.n, .string d.v.s, .slice d.v.la d.v.ll d.v.lc, .slice d.v.oa d.v.ol d.v.oc]] W fun e w'=>e= .returned (.bool (eqv v u))∧Below W.heap.size W w'):=fun W hW=>refSame_any v u W c.v d.v (hv.later_ hW) (hu.later_ hW)
  have HP:Hid (∀W,Below w.heap.size w W→Calls Tryd.prog 72 #[.slice c.pa c.pl c.pc, .slice d.pa d.pl d.pc] W fun e w'=>e= .returned (.bool (eqB p q))∧Below W.heap.size W w'):=fun W hW=>refPathSame_any p q W _ _ _ _ _ _ (hp.later_ hW) (hq.later_ hW)
  obtain ⟨R,hR⟩:∃R,eqB (Cm.mk c.k p c.key c.i c.j c.n v c.s) (Cm.mk d.k q d.key d.i d.j d.n u d.s)=R:=⟨_,rfl⟩
  rw [hR]
  have HR:=Lib.hid hR
  clear hR hb hp hv hb' hq hu
  by_cases e0:c.k=d.k
  case neg=>
    have f0:(c.k==d.k)=false:=by simp [e0]
    have H0:=Lib.hid e0
    clear e0
    go_enter Tryd.func41,Tryd.ntmps41
    go_wp2_with fail
    go_ret
    exact ⟨ret_bool (by rw [←HR.out];exact (Cm.ne (Or.inl H0.out)).symm),((Below.refl _ _).alloc (Nat.le_refl _) _).alloc (by simp) _⟩
  have f0:(c.k==d.k)=true:=by simp [e0]
  have H0:=Lib.hid e0
  clear e0
  by_cases e1:c.key.toList=d.key.toList
  case neg=>
    have f1:(c.key.toList==d.key.toList)=false:=by simp [e1]
    have H1:=Lib.hid e1
    clear e1
    go_enter Tryd.func41,Tryd.ntmps41
    go_wp2_with fail
    go_ret
    exact ⟨ret_bool (by rw [←HR.out];exact (Cm.ne (Or.inr<| .inl H1.out)).symm),((Below.refl _ _).alloc (Nat.le_refl _) _).alloc (by simp) _⟩
  have f1:(c.key.toList==d.key.toList)=true:=by simp [e1]
  have H1:=Lib.hid e1
  clear e1
  by_cases e2:c.i=d.i
  case neg=>
    have f2:(c.i==d.i)=false:=by simp [e2]
    have H2:=Lib.hid e2
    clear e2
    go_enter Tryd.func41,Tryd.ntmps41
    go_wp2_with fail
    go_ret
    exact ⟨ret_bool (by rw [←HR.out];exact (Cm.ne (Or.inr<| .inr<| .inl H2.out)).symm),((Below.refl _ _).alloc (Nat.le_refl _) _).alloc (by simp) _⟩
  have f2:(c.i==d.i)=true:=by simp [e2]
  have H2:=Lib.hid e2
  clear e2
  by_cases e3:c.j=d.j
  case neg=>
    have f3:(c.j==d.j)=false:=by simp [e3]
    have H3:=Lib.hid e3
    clear e3
    go_enter Tryd.func41,Tryd.ntmps41
    go_wp2_with fail
    go_ret
    exact ⟨ret_bool (by rw [←HR.out];exact (Cm.ne (Or.inr<| .inr<| .inr<| .inl H3.out)).symm),((Below.refl _ _).alloc (Nat.le_refl _) _).alloc (by simp) _⟩
  have f3:(c.j==d.j)=true:=by simp [e3]
  have H3:=Lib.hid e3
  clear e3
  by_cases e4:c.n=d.n
  case neg=>
    have f4:(c.n==d.n)=false:=by simp [e4]
    have H4:=Lib.hid e4
    clear e4
    go_enter Tryd.func41,Tryd.ntmps41
    go_wp2_with fail
    go_ret
    exact ⟨ret_bool (by rw [←HR.out];exact (Cm.ne (Or.inr<| .inr<| .inr<| .inr<| .inl H4.out)).symm),((Below.refl _ _).alloc (Nat.le_refl _) _).alloc (by simp) _⟩
  have f4:(c.n==d.n)=true:=by simp [e4]
  have H4:=Lib.hid e4
  clear e4
  by_cases e5:c.s.toList=d.s.toList
  case neg=>
    have f5:(c.s.toList==d.s.toList)=false:=by simp [e5]
    have H5:=Lib.hid e5
    clear e5
    go_enter Tryd.func41,Tryd.ntmps41
    go_wp2_with fail
    go_ret
    exact ⟨ret_bool (by rw [←HR.out];exact (Cm.ne (Or.inr<| .inr<| .inr<| .inr<| .inr<| .inl H5.out)).symm),((Below.refl _ _).alloc (Nat.le_refl _) _).alloc (by simp) _⟩
  have f5:(c.s.toList==d.s.toList)=true:=by simp [e5]
  have H5:=Lib.hid e5
  clear e5
  cases ev:eqv v u with
  | false=>
    have EV:=Lib.hid ev
    rw [ev] at HV
    clear ev
    go_enter Tryd.func41,Tryd.ntmps41
    go_wp2_with (first|(go_at_call 15;refine (HV.out _ (((Below.refl _ _).alloc (Nat.le_refl _) _).alloc (by simp) _)).mono ?_;rintro e w1 ⟨rfl,hb1⟩;have q1:=hb1.cellA 1 _ rfl;have q2:=hb1.cellB 1 _ rfl)|(go_at_call 72;refine (HP.out _ hb1.two).mono ?_;rintro e w2 ⟨rfl,hb2⟩))
    go_ret
    exact ⟨ret_bool (by rw [←HR.out];exact (Cm.ne (Or.inr<| .inr<| .inr<| .inr<| .inr<| .inr<| .inl EV.out)).symm),hb1.two⟩
  | true=>
    have EV:=Lib.hid ev
    rw [ev] at HV
    clear ev
    cases eb:eqB p q with
    | false=>
      have HB:=Lib.hid eb
      rw [eb] at HP
      clear eb
      go_enter Tryd.func41,Tryd.ntmps41
      go_wp2_with (first|(go_at_call 15;refine (HV.out _ (((Below.refl _ _).alloc (Nat.le_refl _) _).alloc (by simp) _)).mono ?_;rintro e w1 ⟨rfl,hb1⟩;have q1:=hb1.cellA 1 _ rfl;have q2:=hb1.cellB 1 _ rfl)|(go_at_call 72;refine (HP.out _ hb1.two).mono ?_;rintro e w2 ⟨rfl,hb2⟩))
      go_ret
      exact ⟨ret_bool (by rw [←HR.out];exact (Cm.ne (Or.inr<| .inr<| .inr<| .inr<| .inr<| .inr<| .inr HB.out)).symm),hb1.two.on hb2 hb1.two.size⟩
    | true=>
      have HB:=Lib.hid eb
      rw [eb] at HP
      clear eb
      go_enter Tryd.func41,Tryd.ntmps41
      go_wp2_with (first|(go_at_call 15;refine (HV.out _ (((Below.refl _ _).alloc (Nat.le_refl _) _).alloc (by simp) _)).mono ?_;rintro e w1 ⟨rfl,hb1⟩;have q1:=hb1.cellA 1 _ rfl;have q2:=hb1.cellB 1 _ rfl)|(go_at_call 72;refine (HP.out _ hb1.two).mono ?_;rintro e w2 ⟨rfl,hb2⟩))
      go_ret
      exact ⟨ret_bool (by rw [←HR.out];exact (Cm.same H0.out H1.out H2.out H3.out H4.out H5.out EV.out HB.out).symm),hb1.two.on hb2 hb1.two.size⟩
end Go.Proofs.YthceefjafklcmaaDoor
namespace Go.Proofs.YthceefjafklcmaaDoor
open Go.RowKit
def kIs (k:Int):Bool:=decide (1≤k) && decide (k≤9)
def kKey (k:Int):Bool:=k==2||k==3
def kI (k:Int):Bool:=decide (4≤k) && decide (k≤9)
def kJ (k:Int):Bool:=k==7
def kN (k:Int):Bool:=k==1||k==9
def kV (k:Int):Bool:=k==2||k==4||k==6
def kS (k:Int):Bool:=k==8
def VC.none:VC:=⟨0,0, .empty, .none,0,0, .none,0,0⟩
def CC.bare (c:CC):CC:=⟨c.k,c.pa,c.pl,c.pc,if kKey c.k then .empty else c.key,if kI c.k then 0 else c.i,if kJ c.k then 0 else c.j,if kN c.k then 0 else c.n,if kV c.k then VC.none else c.v,if kS c.k then .empty else c.s⟩
def Cm.bare (x:Cm):Cm:=⟨x.k,x.path,if kKey x.k then .empty else x.key,if kI x.k then 0 else x.i,if kJ x.k then 0 else x.j,if kN x.k then 0 else x.n,if kV x.k then V.none else x.v,if kS x.k then .empty else x.s⟩
theorem IsComp.bare {w:World} {B:Nat} {x:Cm} {c:CC} (h:IsComp w B x c):IsComp w B x.bare c.bare:=by
  cases h with
  |mk c p v hb hp hv=>
  have hv2:IsVal w B (if kV c.k then V.none else v) (if kV c.k then VC.none else c.v):=by
    split
    · exact isVal_none w B
    · exact hv
  have hb2:c.bare.Bnd:=by
    have h1:=hb.i0;have h2:=hb.i1;have h3:=hb.j0;have h4:=hb.j1;have h5:=hb.n0;have h6:=hb.n1;have h7:=hb.key1;have h8:=hb.s1
    refine ⟨hb.k0,hb.k1, ?_, ?_, ?_, ?_, ?_, ?_, ?_, ?_⟩<;>(simp only [CC.bare];split<;>first|assumption|decide)
  exact .mk c.bare p _ hb2 hp hv2
set_option maxHeartbeats 4000000 in
set_option maxRecDepth 100000 in
theorem bare_any (c:CC) (w:World) (hb:c.Bnd):
    Calls Tryd.prog 77 #[.agg #[.int .u8 c.k, .slice c.pa c.pl c.pc, .string c.key, .int .i64 c.i, .int .i64 c.j, .int .i64 c.n, .int .u8 c.v.k, .int .i64 c.v.n, .string c.v.s, .slice c.v.la c.v.ll c.v.lc, .slice c.v.oa c.v.ol c.v.oc, .string c.s]] w fun e w'=>(∃d:CC,e= .returned (.tuple #[.agg #[.int .u8 d.k, .slice d.pa d.pl d.pc, .string d.key, .int .i64 d.i, .int .i64 d.j, .int .i64 d.n, .int .u8 d.v.k, .int .i64 d.v.n, .string d.v.s, .slice d.v.la d.v.ll d.v.lc, .slice d.v.oa d.v.ol d.v.oc, .string d.s], .bool (kIs c.k)])∧Hid (d=c.bare))∧Below w.heap.size w w':=by
  have hk0:=hb.k0;have hk1:=hb.k1
  clear hb
  obtain ⟨k,pa,pl,pc,key,i,j,n,v,s⟩:=c
  dsimp only at hk0 hk1 ⊢
  by_cases e1:k=1
  case pos=>
    subst e1
    go_enter Tryd.func77,Tryd.ntmps77
    go_wp2_with fail
    go_returns
    exact ⟨⟨CC.bare ⟨1,pa,pl,pc,key,i,j,n,v,s⟩,rfl,rfl⟩,by go_grown⟩
  have f1:(k==1)=false:=by simp [e1]
  by_cases e2:k=2
  case pos=>
    subst e2
    go_enter Tryd.func77,Tryd.ntmps77
    go_wp2_with fail
    go_returns
    exact ⟨⟨CC.bare ⟨2,pa,pl,pc,key,i,j,n,v,s⟩,rfl,rfl⟩,by go_grown⟩
  have f2:(k==2)=false:=by simp [e2]
  by_cases e3:k=3
  case pos=>
    subst e3
    go_enter Tryd.func77,Tryd.ntmps77
    go_wp2_with fail
    go_returns
    exact ⟨⟨CC.bare ⟨3,pa,pl,pc,key,i,j,n,v,s⟩,rfl,rfl⟩,by go_grown⟩
  have f3:(k==3)=false:=by simp [e3]
  by_cases e4:k=4
  case pos=>
    subst e4
    go_enter Tryd.func77,Tryd.ntmps77
    go_wp2_with fail
    go_returns
    exact ⟨⟨CC.bare ⟨4,pa,pl,pc,key,i,j,n,v,s⟩,rfl,rfl⟩,by go_grown⟩
  have f4:(k==4)=false:=by simp [e4]
  by_cases e5:k=5
  case pos=>
    subst e5
    go_enter Tryd.func77,Tryd.ntmps77
    go_wp2_with fail
    go_returns
    exact ⟨⟨CC.bare ⟨5,pa,pl,pc,key,i,j,n,v,s⟩,rfl,rfl⟩,by go_grown⟩
  have f5:(k==5)=false:=by simp [e5]
  by_cases e6:k=6
  case pos=>
    subst e6
    go_enter Tryd.func77,Tryd.ntmps77
    go_wp2_with fail
    go_returns
    exact ⟨⟨CC.bare ⟨6,pa,pl,pc,key,i,j,n,v,s⟩,rfl,rfl⟩,by go_grown⟩
  have f6:(k==6)=false:=by simp [e6]
  by_cases e7:k=7
  case pos=>
    subst e7
    go_enter Tryd.func77,Tryd.ntmps77
    go_wp2_with fail
    go_returns
    exact ⟨⟨CC.bare ⟨7,pa,pl,pc,key,i,j,n,v,s⟩,rfl,rfl⟩,by go_grown⟩
  have f7:(k==7)=false:=by simp [e7]
  by_cases e8:k=8
  case pos=>
    subst e8
    go_enter Tryd.func77,Tryd.ntmps77
    go_wp2_with fail
    go_returns
    exact ⟨⟨CC.bare ⟨8,pa,pl,pc,key,i,j,n,v,s⟩,rfl,rfl⟩,by go_grown⟩
  have f8:(k==8)=false:=by simp [e8]
  by_cases e9:k=9
  case pos=>
    subst e9
    go_enter Tryd.func77,Tryd.ntmps77
    go_wp2_with fail
    go_returns
    exact ⟨⟨CC.bare ⟨9,pa,pl,pc,key,i,j,n,v,s⟩,rfl,rfl⟩,by go_grown⟩
  have f9:(k==9)=false:=by simp [e9]
  go_enter Tryd.func77,Tryd.ntmps77
  go_wp2_with fail
  go_returns
  refine ⟨⟨⟨k,pa,pl,pc,key,i,j,n,v,s⟩, ?_, ?_⟩,by go_grown⟩
  · have:kIs k=false:=by simp only [kIs,Bool.and_eq_false_iff,decide_eq_false_iff_not];omega
    rw [this]
  · have h1:kKey k=false:=by simp [kKey,e2,e3]
    have h2:kI k=false:=by simp only [kI,Bool.and_eq_false_iff,decide_eq_false_iff_not];omega
    have h3:kJ k=false:=by simp [kJ,e7]
    have h4:kN k=false:=by simp [kN,e1,e9]
    have h5:kV k=false:=by simp [kV,e2,e4,e6]
    have h6:kS k=false:=by simp [kS,e8]
    show _=_
    simp only [CC.bare,h1,h2,h3,h4,h5,h6];rfl
end Go.Proofs.YthceefjafklcmaaDoor
namespace Go.Proofs.YthceefjafklcmaaDoor
open Go.RowKit
set_option maxHeartbeats 16000000 in
set_option maxRecDepth 100000 in
theorem valPlain_any (w:World) (c:VC) (hT:Tabs w) (hbd:c.Bnd):
    Calls Tryd.prog 87 #[.agg #[.int .u8 c.k, .int .i64 c.n, .string c.s, .slice c.la c.ll c.lc, .slice c.oa c.ol c.oc]] w fun e w'=>e= .returned (.bool (plainB c.k c.n c.s c.ll c.ol))∧Below w.heap.size w w':=by
  have k0:=hbd.k0
  have hsz:=hbd.s1
  have hst:=boxed1_start w c 28
  obtain ⟨k,n,s,la,ll,lc,oa,ol,oc⟩:=c
  dsimp only at*
  have q1:=later_cell (show (w.alloc (.cells #[.int .u8 k, .int .i64 n, .string s, .slice la ll lc, .slice oa ol oc] 28)).cell? ⟨w.heap.size,1,none⟩=some (.int .i64 n) from hst.a.c1)
  have q2:=later_cell (show (w.alloc (.cells #[.int .u8 k, .int .i64 n, .string s, .slice la ll lc, .slice oa ol oc] 28)).cell? ⟨w.heap.size,2,none⟩=some (.string s) from hst.a.c2)
  have q3:=later_cell (show (w.alloc (.cells #[.int .u8 k, .int .i64 n, .string s, .slice la ll lc, .slice oa ol oc] 28)).cell? ⟨w.heap.size,3,none⟩=some (.slice la ll lc) from hst.a.c3)
  have q4:=later_cell (show (w.alloc (.cells #[.int .u8 k, .int .i64 n, .string s, .slice la ll lc, .slice oa ol oc] 28)).cell? ⟨w.heap.size,4,none⟩=some (.slice oa ol oc) from hst.a.c4)
  have q0:(w.alloc (.cells #[.int .u8 k, .int .i64 n, .string s, .slice la ll lc, .slice oa ol oc] 28)).cell? ⟨w.heap.size,0,none⟩=some (.int .u8 k):=hst.a.c0
  obtain ⟨bn,hbn⟩:∃bn,(n==0)=bn:=⟨_,rfl⟩
  obtain ⟨bs,hbs⟩:∃bs,s.toList.isEmpty=bs:=⟨_,rfl⟩
  obtain ⟨bl,hbl⟩:∃bl,((ll:Int)==0)=bl:=⟨_,rfl⟩
  obtain ⟨bo,hbo⟩:∃bo,((ol:Int)==0)=bo:=⟨_,rfl⟩
  obtain ⟨R,hR⟩:∃R,plainB k n s ll ol=R:=⟨_,rfl⟩
  rw [hR]
  have HR0:=Lib.hid hR
  clear hR
  go_enter Tryd.func87,Tryd.ntmps87
  generalize hW:(w.alloc (.cells #[.int .u8 k, .int .i64 n, .string s, .slice la ll lc, .slice oa ol oc] 28))=W at*
  go_wp2_with fail
  refine wp_region_later (by kernel_rfl) (by kernel_rfl) ?_
  repeat (go_big_quiet_step (fail))
  refine wpQuiet_nil ?_
  intro _ hw'
  obtain ⟨pq,hw''⟩:=hw'
  subst hw''
  have hT2:Tabs (later W pq):=(hT.below hst.below).below (below_later W pq)
  have q0':=later_cell q0 pq
  have q2':=later_cell (q2 pq)
  have hbb:Below w.heap.size w (later W pq):=hst.below.on (below_later W pq) hst.below.size
  have hbs1:w.heap.size<(later W pq).heap.size:=by have:=(below_later W pq).size;have:=hst.size;omega
  have q1':=q1 pq
  have q2'':=q2 pq
  clear hst q1 q2 q3 q4 q0 q2' hW hT
  generalize later W pq=W2 at*
  have hc:=fun _:Unit=>valid_any s W2 hsz hT2
  obtain ⟨vd,hvd⟩:∃vd,Lib.validD s.data.toList=vd:=⟨_,rfl⟩
  rw [hvd] at hc
  have HC:=Lib.hid hc
  have HBB:=Lib.hid hbb
  have hll:(ll==0)=bl:=by rw [←hbl];rw [Bool.eq_iff_iff];simp
  have hol:(ol==0)=bo:=by rw [←hbo];rw [Bool.eq_iff_iff];simp
  have hk:k=0∨k=1∨k=2∨k=3∨k=4∨k=5∨5<k:=by omega
  obtain ⟨b1,hb1⟩:∃b1,(n==1)=b1:=⟨_,rfl⟩
  have hR:=HR0.out
  have hR2:R=(if k=0 then bn && bs && bl && bo else if k=1 then (bn||b1) && bs && bl && bo else if k=2 then bs && bl && bo else if k=3 then bn && vd && bl && bo else if k=4 then bn && bs && bo else if k=5 then bn && bs && bl else false):=by
    rw [←hR];unfold plainB;rw [hbn,hb1,hbs,hvd,hll,hol]
  have HR:=Lib.hid hR2
  clear hc hbb hll hol hR hR2 hvd hbl hbo hbs hbn hT2 hbd
  have f0:(n==1)=b1:=hb1
  clear hb1
  rcases hk with rfl|rfl|rfl|rfl|rfl|rfl|hk
  · cases bn<;>cases bs<;>cases bl<;>cases bo
    all_goals
      go_wp2_with fail
      go_ret
      exact ⟨ret_bool (by rw [HR.out];rfl),HBB.out⟩
  · cases bn<;>cases b1<;>cases bs<;>cases bl<;>cases bo
    all_goals
      go_wp2_with fail
      go_ret
      exact ⟨ret_bool (by rw [HR.out];rfl),HBB.out⟩
  · cases bs<;>cases bl<;>cases bo
    all_goals
      go_wp2_with fail
      go_ret
      exact ⟨ret_bool (by rw [HR.out];rfl),HBB.out⟩
  · cases bn
    · go_wp2_with fail
      go_ret
      exact ⟨ret_bool (by rw [HR.out];rfl),HBB.out⟩
    · cases vd<;>cases bl<;>cases bo
      all_goals
        go_wp2_with (go_at_call 34;refine (HC.out ()).mono ?_;rintro e w' ⟨rfl,hb⟩)
        go_ret
        exact ⟨ret_bool (by rw [HR.out];rfl),HBB.out.on hb (by omega)⟩
  · cases bn<;>cases bs<;>cases bo
    all_goals
      go_wp2_with fail
      go_ret
      exact ⟨ret_bool (by rw [HR.out];rfl),HBB.out⟩
  · cases bn<;>cases bs<;>cases bl
    all_goals
      go_wp2_with fail
      go_ret
      exact ⟨ret_bool (by rw [HR.out];rfl),HBB.out⟩
  · go_wp2_with fail
    go_ret
    exact ⟨ret_bool (by rw [HR.out,if_neg (by omega),if_neg (by omega),if_neg (by omega),if_neg (by omega),if_neg (by omega),if_neg (by omega)]),HBB.out⟩
set_option maxHeartbeats 2000000 in
set_option maxRecDepth 100000 in
theorem valRising_any (l:List (ByteArray×V)) (w:World) (a:Option Addr) (n c:Nat) (h:IsFields w w.heap.size l a n c):
    Calls Tryd.prog 88 #[.slice a n c] w fun e w'=>e= .returned (.bool (rising l))∧Below w.heap.size w w':=by
  have k1:=h.max;have k2:=h.few
  have HLn:=Lib.hid h.len
  obtain ⟨R,hR⟩:∃R,rising l=R:=⟨_,rfl⟩
  rw [hR]
  have HR:=Lib.hid hR
  clear hR
  go_enter Tryd.func88,Tryd.ntmps88
  go_wp2_with fail
  go_loopw [6] (fun i wr=>∃k:Nat,k≤n∧i= .int .i64 k∧Hid (rising (l.take k)=true)∧Below w.heap.size w wr) (fun i _=>n - (intOf i).toNat)
  case atStart=>exact ⟨0,Nat.zero_le _,rfl,by rfl,Below.refl _ _⟩
  case round =>
    obtain ⟨k,hk,hi,HJ,hB⟩:=hrel
    by_cases hlt:k<n
    · obtain ⟨b,o,f,kl,ea,hb,g1,_,_,_⟩:=h.get hlt
      have g1:=keep_cell hB g1 hb
      rcases k with _|j
      · subst hi
        clear h
        subst ea
        go_wp2_with fail
        refine wp_region_later (by kernel_rfl) (by kernel_rfl) ?_
        repeat (go_big_quiet_step (fail))
        refine wpQuiet_nil ?_
        intro _ hw'
        obtain ⟨pq,hw''⟩:=hw'
        subst hw''
        go_wp2_with fail
        go_roundw
        case rel=>exact ⟨1,by omega,by go_num,rising_one l,hB.on (below_later _ _) hB.size⟩
        case measure=>simp [intOf];omega
      · have hi2:=hi.trans (show Value.int .i64 ((j+1:Nat):Int)= .int .i64 ((j:Int)+1) by go_num)
        clear hi
        subst hi2
        obtain ⟨b',o',f',jl,ea',hb',g2,_,_,_⟩:=h.get (show j<n by omega)
        clear h
        subst ea
        cases ea'
        have g2:=keep_cell hB g2 hb
        have t1:=later_cell g1
        have t2:=later_cell g2
        clear g1 g2
        by_cases hr:Op.bytesLess l[j].1.toList l[j+1].1.toList=true
        · obtain ⟨a1,a2⟩:=less_asym _ _ hr
          have a3:(l[j+1].1.toList==l[j].1.toList)=false:=by simp [Ne.symm a2]
          have HL:=Lib.hid hr
          clear hr a2
          go_wp2_with fail
          refine wp_region_later (by kernel_rfl) (by kernel_rfl) ?_
          repeat (go_big_quiet_step (fail))
          refine wpQuiet_nil ?_
          intro _ hw'
          obtain ⟨pq,hw''⟩:=hw'
          subst hw''
          clear t1 t2 a1 a3
          go_wp2_with fail
          go_roundw
          case rel=>exact ⟨j+1+1,by omega,by go_num,rising_step HJ.out kl HL.out,hB.on (below_later _ _) hB.size⟩
          case measure=>simp [intOf];omega
        · have hr:Op.bytesLess l[j].1.toList l[j+1].1.toList=false:=by simpa using hr
          have HL:=Lib.hid hr
          have a1:Op.bytesLess l[j+1].1.toList l[j].1.toList=true∨(Op.bytesLess l[j+1].1.toList l[j].1.toList=false∧l[j+1].1.toList=l[j].1.toList):=by
            rcases less_total l[j+1].1.toList l[j].1.toList with h|h|h
            · exact .inl h
            · cases hq:Op.bytesLess l[j+1].1.toList l[j].1.toList with
              |true=>exact .inl rfl
              |false=>exact .inr ⟨rfl,h⟩
            · rw [hr] at h;cases h
          clear hr
          rcases a1 with a1|⟨a1,a2⟩
          · go_wp2_with fail
            refine wp_region_later (by kernel_rfl) (by kernel_rfl) ?_
            repeat (go_big_quiet_step (fail))
            refine wpQuiet_nil ?_
            intro _ hw'
            obtain ⟨pq,hw''⟩:=hw'
            subst hw''
            clear t1 t2 a1
            go_wp2_with fail
            go_ret
            exact ⟨ret_bool (by rw [←HR.out,rising_no kl HL.out]),hB.on (below_later _ _) hB.size⟩
          · have a3:(l[j+1].1.toList==l[j].1.toList)=true:=by rw [a2];simp
            clear a2
            go_wp2_with fail
            refine wp_region_later (by kernel_rfl) (by kernel_rfl) ?_
            repeat (go_big_quiet_step (fail))
            refine wpQuiet_nil ?_
            intro _ hw'
            obtain ⟨pq,hw''⟩:=hw'
            subst hw''
            clear t1 t2 a1 a3
            go_wp2_with fail
            go_ret
            exact ⟨ret_bool (by rw [←HR.out,rising_no kl HL.out]),hB.on (below_later _ _) hB.size⟩
    · subst hi
      clear h
      go_wp2_with fail
      go_ret
      refine ⟨ret_bool ?_,hB⟩
      have hjo:=HJ.out
      rw [List.take_of_length_le (by have:=HLn.out;omega)] at hjo
      rw [←HR.out,hjo]
end Go.Proofs.YthceefjafklcmaaDoor
namespace Go.Proofs.YthceefjafklcmaaDoor
open Go.RowKit Go.Shelf
attribute [local go_sem] Oper.semAt_some
def VSound (v:V):Prop:=∀(w:World) (c:VC),IsVal w w.heap.size v c→Tabs w→
    Calls Tryd.prog 73 #[.agg #[.int .u8 c.k, .int .i64 c.n, .string c.s, .slice c.la c.ll c.lc, .slice c.oa c.ol c.oc]] w fun e w'=>e= .returned (.bool v.sound)∧Below w.heap.size w w'
theorem soundO_append (a b:List (ByteArray×V)):soundO (a++b)=(soundO a && soundO b):=by
  induction a with
  |nil=>simp [soundO]
  |cons f r ih=>simp [soundO,ih,Bool.and_assoc]
theorem kids_sound_no {w:World} {P:V→Prop} (pre:List (Kid w P)) (x:Kid w P) (h:Lib.validD x.kk.data.toList=false∨x.v.sound=false):Hid (soundO ((pre++ [x]).map Kid.pair)=false):=by
  show _=_
  rw [List.map_append,soundO_append]
  rcases h with h|h<;>simp [soundO,soundF_eq,Kid.pair,h]
theorem kids_sound_yes {w:World} {P:V→Prop} (pre:List (Kid w P)) (x:Kid w P) (h:soundO (pre.map Kid.pair)=true) (h1:Lib.validD x.kk.data.toList=true) (h2:x.v.sound=true):Hid (soundO ((pre++ [x]).map Kid.pair)=true):=by
  show _=_
  rw [List.map_append,soundO_append]
  simp [soundO,soundF_eq,Kid.pair,h,h1,h2]
theorem kids_front {w:World} {P:V→Prop} {pre ks:List (Kid w P)} (hp:pre<+:ks) (h:soundO (pre.map Kid.pair)=false):soundO (ks.map Kid.pair)=false:=by
  obtain ⟨r,rfl⟩:=hp
  rw [List.map_append,soundO_append,h,Bool.false_and]
theorem pairs_sound (l:List V) (o:List (ByteArray×V)):soundO (pairs l o)=(soundL l && soundO o):=by
  unfold pairs
  rw [soundO_append]
  congr 1
  induction l with
  |nil=>rfl
  |cons v r ih=>simp only [List.map_cons,soundO,soundF_eq,soundL,ih];rw [show Lib.validD (⟨#[]⟩:ByteArray).data.toList=true from Lib.validD_nil,Bool.true_and]
set_option maxHeartbeats 8000000 in
set_option maxRecDepth 100000 in
theorem valSound_any (a:V):VSound a:=by
  induction a using V.ind with
  |h k n s l o ihl iho=>
  intro w c ha hT
  obtain ⟨rfl,rfl,rfl,cbd,hl,ho⟩:=ha.lists
  obtain ⟨ks,hks,hpr⟩:=kids_of w VSound l o c hl ho ihl iho
  clear ihl iho ha
  refine callsIn_wide (n:=3)|>.1 ?_
  refine callsIn_of_wp_marks Tryd.func73 rfl trivial ?_ rfl
  simp only [Tryd.ntmps73,List.size_toArray,List.length_cons,List.length_nil,Nat.reduceAdd,Nat.reduceSub,Array.replicate_succ,Array.replicate_zero,List.push_toArray,List.append_toArray,List.nil_append,List.cons_append]
  obtain ⟨W0,hW0⟩:∃W0,((w.alloc (.cells #[.int .u8 c.k, .int .i64 c.n, .string c.s, .slice c.la c.ll c.lc, .slice c.oa c.ol c.oc] 28)).alloc (.cells #[.bool false] 4))=W0:=⟨_,rfl⟩
  have hst0:ValAt W0 w.heap.size 0 c:=by
    rw [←hW0];exact (valAt_new w c _).keep (B:=w.heap.size+1) ((Below.refl _ _).alloc (by simp) _) (by omega)
  have hres0:Boxed W0 (w.heap.size+1) 4 (.bool false):=by
    rw [←hW0]
    have h:=Boxed.new (w.alloc (.cells #[.int .u8 c.k, .int .i64 c.n, .string c.s, .slice c.la c.ll c.lc, .slice c.oa c.ol c.oc] 28)) 4 (.bool false)
    rw [World.size_alloc] at h
    exact h
  have hB0:Below w.heap.size w W0:=by rw [←hW0];exact ((Below.refl _ _).alloc (Nat.le_refl _) _).alloc (by simp) _
  have hz0:W0.heap.size=w.heap.size+2:=by rw [←hW0];simp
  have hp1:=valPlain_any W0 c (hT.below hB0) cbd
  have HL1:=Lib.hid hl.len;have HL2:=Lib.hid ho.len
  have hW:=hW0
  cases hp:plainB c.k c.n c.s c.ll c.ol with
  | false=>
    rw [hp, ←hW0] at hp1
    have H1:=Lib.hid hp1
    have HPP:Hid ((V.mk c.k c.n c.s l o).sound=false):=sound_plain (by rw [←HL1.out, ←HL2.out];exact hp)
    obtain ⟨R,hR⟩:∃R,(V.mk c.k c.n c.s l o).sound=R:=⟨_,rfl⟩
    rw [hR]
    have HR:=Lib.hid hR
    have HW:=Lib.hid hW0
    clear hR hp1 hp hW0 hW
    gi_wp2_with (refine ⟨trivial, ?_⟩;gi_at_call 87;refine (callsIn_wide.2 H1.out).mono ?_;rintro e w1 ⟨rfl,hb1⟩;rw [HW.out] at hb1;have cR:=(hb1.cell (p:=⟨w.heap.size+1,0,none⟩) (by simp [hz0])).trans hres0.cell;have fR:=(hb1.frozen (p:=⟨w.heap.size+1,0,none⟩) (by simp [hz0])).trans hres0.frozen)
    refine ⟨trivial, ?_⟩
    gi_wp2
    have hres1:Boxed w1 (w.heap.size+1) 4 (.bool false):=(hb1.block _ (by omega)).trans hres0
    have hc2:=(hres1.set (.bool false)).cell
    refine ⟨.bool false,by simp [results,Tryd.results73,go_sem,hc2],ret_bool (by rw [←HR.out,HPP.out]),(hB0.on hb1 hB0.size).setCell (by simp) _⟩
  | true =>
    rw [hp, ←hW0] at hp1
    have H1:=Lib.hid hp1
    have HPP:Hid ((V.mk c.k c.n c.s l o).sound=(rising o && soundL l && soundO o)):=by simp [Hid,V.sound, ←HL1.out, ←HL2.out,hp]
    obtain ⟨R,hR⟩:∃R,(V.mk c.k c.n c.s l o).sound=R:=⟨_,rfl⟩
    rw [hR]
    have HR:=Lib.hid hR
    have HW:=Lib.hid hW0
    clear hR hp1 hp hW0 hW
    gi_wp2_with (refine ⟨trivial, ?_⟩;gi_at_call 87;refine (callsIn_wide.2 H1.out).mono ?_;rintro e w1 ⟨rfl,hb1⟩;rw [HW.out] at hb1;have hv1:=hst0.keep hb1 (by omega);have q4:w1.cell? ⟨w.heap.size,4,none⟩=some (.slice c.oa c.ol c.oc):=hv1.c4)
    have hB1:=hB0.on hb1 hB0.size
    have hri:=valRising_any o w1 _ _ _ (ho.later_ hB1)
    have hres1:Boxed w1 (w.heap.size+1) 4 (.bool false):=(hb1.block _ (by omega)).trans hres0
    have cR:=hres1.cell
    have fR:=hres1.frozen
    cases hr:rising o with
    | false=>
      rw [hr] at hri
      have H2:=Lib.hid hri
      have Hr:=Lib.hid hr
      clear hri hr
      gi_wp2_with (refine ⟨trivial, ?_⟩;gi_at_call 88;refine (callsIn_wide.2 H2.out).mono ?_;rintro e w2 ⟨rfl,hb2⟩;have cR2:=(hb2.cell (p:=⟨w.heap.size+1,0,none⟩) (by exact hres1.lt)).trans cR;have fR2:=(hb2.frozen (p:=⟨w.heap.size+1,0,none⟩) (by exact hres1.lt)).trans fR)
      have hr2:Boxed w2 (w.heap.size+1) 4 (.bool false):=(hb2.block _ hres1.lt).trans hres1
      have hc2:=(hr2.set (.bool false)).cell
      refine ⟨.bool false,by simp [results,Tryd.results73,go_sem,hc2],ret_bool (by rw [←HR.out,HPP.out,Hr.out];simp),(hB1.on hb2 hB1.size).setCell (by simp) _⟩
    | true =>
      rw [hr] at hri
      have H2:=Lib.hid hri
      have Hr:=Lib.hid hr
      clear hri hr
      gi_wp2_with (first|(refine ⟨trivial, ?_⟩;gi_at_call 88;refine (callsIn_wide.2 H2.out).mono ?_;rintro e w2 ⟨rfl,hb2⟩;have hv2:=hv1.keep hb2 (by have:=hb1.size;omega);have z0:w2.cell? ⟨w.heap.size,0,none⟩=_:=hv2.c0;have z1:w2.cell? ⟨w.heap.size,1,none⟩=_:=hv2.c1;have z2:w2.cell? ⟨w.heap.size,2,none⟩=_:=hv2.c2;have z3:w2.cell? ⟨w.heap.size,3,none⟩=_:=hv2.c3;have z4:w2.cell? ⟨w.heap.size,4,none⟩=_:=hv2.c4)|(refine ⟨trivial, ?_⟩;gi_at_call 89;refine (within_in _ _ trivial rfl c _).mono ?_;rintro e w' ⟨rfl,rfl⟩))
      have hB2:=hB1.on hb2 hB1.size
      have hres2:Boxed w2 (w.heap.size+1) 4 (.bool false):=(hb2.block _ hres1.lt).trans hres1
      have hz2:w.heap.size+2≤w2.heap.size:=by have:=hb1.size;have:=hb2.size;omega
      clear z0 z1 z2 z3 z4 hb2 hb1 cR fR hres1 hB1 hres0 hst0 q4 hv1
      obtain ⟨W3,hW3⟩:∃W3,(w2.alloc (.cells #[.int .u8 c.k, .int .i64 c.n, .string c.s, .slice c.la c.ll c.lc, .slice c.oa c.ol c.oc] 28))=W3:=⟨_,rfl⟩
      have hbx:ValAt W3 w2.heap.size 0 c:=by rw [←hW3];exact valAt_new w2 c _
      have hB3:Below w.heap.size w W3:=by rw [←hW3];exact hB2.alloc hB2.size _
      have hres3:Boxed W3 (w.heap.size+1) 4 (.bool false):=by rw [←hW3];exact hres2.alloc _
      have hz3:W3.heap.size=w2.heap.size+1:=by rw [←hW3];simp
      rw [hW3]
      clear hW3
      refine wpIn_rangeFunc_ownH (α:=Kid w VSound) rfl (by omega) (gf:=93) (lb:= #[.pointer (some ⟨w2.heap.size,0,none⟩)]) rfl trivial (enters_of Tryd.func93 (by kernel_rfl) rfl)
        (within_stops Fence.wide 2 trivial rfl (by omega) w VSound w2.heap.size c cbd ks W3 w.heap.size (by omega) (by omega) hbx (hks.keep (.of_below_any hB3))) keepAt_t (keepAt_b (by omega) (by omega)) (Below.refl _ _) (fun _=>rfl)
        (fun pre W=>(Boxed W (w.heap.size+1) 4 (.bool false))∧Below w.heap.size w W∧W3.heap.size≤W.heap.size∧Hid (soundO (pre.map Kid.pair)=true))
        (fun j pre W=>(Boxed W (w.heap.size+1) 4 (.bool false))∧Below w.heap.size w W∧(j= .ret∧Hid (soundO (pre.map Kid.pair)=false)))
        (OwnFrom.and (Own.from (boxed_own _ _ _) _) (OwnFrom.and (ownFrom_below (Nat.le_refl _) (by omega)) (OwnFrom.and (fun _ _ _ _ hs hg _=>Nat.le_trans hs hg.size) (fun _ _ _ _ hs _ _=>hs))))
        (fun _=>OwnFrom.and (Own.from (boxed_own _ _ _) _) (OwnFrom.and (ownFrom_below (Nat.le_refl _) (by omega)) (fun _ _ _ _ hs _ _=>hs)))
        ⟨hres3,hB3,Nat.le_refl _,rfl⟩
        (fun x a' W=>∃Bx,W3.heap.size≤Bx∧ValAt W Bx 0 x.kv∧a'= { tmps:= #[.agg #[.int .u8 c.k, .int .i64 c.n, .string c.s, .slice c.la c.ll c.lc, .slice c.oa c.ol c.oc], .pointer (some ⟨w.heap.size,0,none⟩), .pointer (some ⟨w.heap.size+1,0,none⟩), .string x.kk, .pointer (some ⟨Bx,0,none⟩), .agg #[.int .u8 c.k, .int .i64 c.n, .string c.s, .slice c.la c.ll c.lc, .slice c.oa c.ol c.oc], .bool true, .bool false, .bool false, .pointer (some ⟨w.heap.size,4,none⟩), .slice c.oa c.ol c.oc, .bool true, .bool false, .bool false, .agg #[.int .u8 c.k, .int .i64 c.n, .string c.s, .slice c.la c.ll c.lc, .slice c.oa c.ol c.oc], .func (.func 93) #[] #[.pointer (some ⟨w2.heap.size,0,none⟩)], .string x.kk, .agg #[.int .u8 x.kv.k, .int .i64 x.kv.n, .string x.kv.s, .slice x.kv.la x.kv.ll x.kv.lc, .slice x.kv.oa x.kv.ol x.kv.oc],undef,undef,undef,undef,undef,undef,undef,undef],defers:= [] })
        (fun x a' _ X Y row hs hg hr=>by
          obtain ⟨Bx,h1,h2,h3⟩:=hs
          exact ⟨Bx,h1,ValAt.own (β:=Unit) Bx 0 (fun _=>x.kv) () X Y row h2 hg (fun r e=>(hr r e).2),h3⟩)
        ?assign ?body ?done ?stop
      case assign=>
        rintro l pre x W K ⟨bS1,hB1,hz1,hJ⟩ hK
        dsimp only [Kid.encs]
        gi_wp2
        exact hK _ _ ((KeepsOthers.alloc _ _).from _) (KeepAt.alloc W _ (by omega) (by omega)) ⟨bS1.alloc _,hB1.alloc hB1.size _,by simp;omega,hJ⟩ ⟨W.heap.size,hz1,valAt_new W x.kv _,rfl⟩
      case body=>
        rintro l pre x a' W hl _ ⟨bS1,hB1,hz1,hJ⟩ ⟨Bx,hBx,vX,rfl⟩ hlt
        have cS:=bS1.cell
        have fS:=bS1.frozen
        have hBlt:Bx<W.heap.size:=World.block_lt_of_cell? W ⟨Bx,0,none⟩ vX.c0
        have hTW:=hT.below hB1
        have hv0:=valid_any x.kk W x.sz hTW
        cases hv:Lib.validD x.kk.data.toList with
        | false=>
          rw [hv] at hv0
          have H:=Lib.hid hv0
          have HV:=Lib.hid hv
          clear hv hv0
          gi_wp2_with (refine ⟨trivial, ?_⟩;gi_at_call 34;refine (CallsIn.inRound l (callsIn_wide.2 H.out)).mono ?_;rintro e w' ⟨rfl,hb⟩;have cS':=(hb.cell (p:=⟨w.heap.size+1,0,none⟩) (by exact bS1.lt)).trans cS;have fS':=(hb.frozen (p:=⟨w.heap.size+1,0,none⟩) (by exact bS1.lt)).trans fS)
          refine ⟨trivial, ?_⟩
          gi_wp2
          have hbx':Boxed w' (w.heap.size+1) 4 (.bool false):=(hb.block _ bS1.lt).trans bS1
          exact ⟨((keepsOthers_below hb).trans (KeepsOthers.setCell _ _ _)).from _,hbx'.set _,(hB1.on hb hB1.size).setCell (by simp) _,rfl,kids_sound_no pre x (.inl HV.out)⟩
        | true=>
          rw [hv] at hv0
          have H:=Lib.hid hv0
          have HV:=Lib.hid hv
          clear hv hv0
          have hsx:=fun (W':World) (h:Below w.heap.size w W')=>x.p W' x.kv (x.is.later_ h) (hT.below h)
          cases hx:x.v.sound with
          | false=>
            rw [hx] at hsx
            have H2:=Lib.hid hsx
            have HX:=Lib.hid hx
            clear hsx hx
            gi_wp2_with (first|(refine ⟨trivial, ?_⟩;gi_at_call 34;refine (CallsIn.inRound l (callsIn_wide.2 H.out)).mono ?_;rintro e w' ⟨rfl,hb⟩;have vX':=vX.keep hb hBlt;have y0:w'.cell? ⟨Bx,0,none⟩=_:=vX'.c0;have y1:w'.cell? ⟨Bx,1,none⟩=_:=vX'.c1;have y2:w'.cell? ⟨Bx,2,none⟩=_:=vX'.c2;have y3:w'.cell? ⟨Bx,3,none⟩=_:=vX'.c3;have y4:w'.cell? ⟨Bx,4,none⟩=_:=vX'.c4;clear vX vX')|(refine ⟨trivial, ?_⟩;gi_at_call 73;refine (CallsIn.inRound l (callsIn_wide.2 (H2.out _ (hB1.on hb hB1.size)))).mono ?_;rintro e w3 ⟨rfl,hb3⟩;have hb4:=hb.on hb3 hb.size;have cS':=(hb4.cell (p:=⟨w.heap.size+1,0,none⟩) (by exact bS1.lt)).trans cS;have fS':=(hb4.frozen (p:=⟨w.heap.size+1,0,none⟩) (by exact bS1.lt)).trans fS))
            have hbx':Boxed w3 (w.heap.size+1) 4 (.bool false):=(hb4.block _ bS1.lt).trans bS1
            exact ⟨((keepsOthers_below hb4).trans (KeepsOthers.setCell _ _ _)).from _,hbx'.set _,(hB1.on hb4 hB1.size).setCell (by simp) _,rfl,kids_sound_no pre x (.inr HX.out)⟩
          | true=>
            rw [hx] at hsx
            have H2:=Lib.hid hsx
            have HX:=Lib.hid hx
            clear hsx hx
            gi_wp2_with (first|(refine ⟨trivial, ?_⟩;gi_at_call 34;refine (CallsIn.inRound l (callsIn_wide.2 H.out)).mono ?_;rintro e w' ⟨rfl,hb⟩;have vX':=vX.keep hb hBlt;have y0:w'.cell? ⟨Bx,0,none⟩=_:=vX'.c0;have y1:w'.cell? ⟨Bx,1,none⟩=_:=vX'.c1;have y2:w'.cell? ⟨Bx,2,none⟩=_:=vX'.c2;have y3:w'.cell? ⟨Bx,3,none⟩=_:=vX'.c3;have y4:w'.cell? ⟨Bx,4,none⟩=_:=vX'.c4;clear vX vX')|(refine ⟨trivial, ?_⟩;gi_at_call 73;refine (CallsIn.inRound l (callsIn_wide.2 (H2.out _ (hB1.on hb hB1.size)))).mono ?_;rintro e w3 ⟨rfl,hb3⟩;have hb4:=hb.on hb3 hb.size))
            have hbx':Boxed w3 (w.heap.size+1) 4 (.bool false):=(hb4.block _ bS1.lt).trans bS1
            exact ⟨(keepsOthers_below hb4).from _, .of_below hb4 (by omega) (by omega),hbx',hB1.on hb4 hB1.size,by have:=hb4.size;omega,kids_sound_yes pre x hJ.out HV.out HX.out⟩
      case done=>
        rintro D ys W hD rfl ⟨bS,hB,hz1,hJ⟩ hK
        have cS:=bS.cell
        have fS:=bS.frozen
        gi_wp2
        have hK2:(W.setCell ⟨w.heap.size+1,0,none⟩ (.bool true)).heap[D]? =some (.deferred (some [])):=(KeepsOthers.setCell _ _ _).same D _ hK rfl
        refine ⟨by simp, .inl ⟨_,_,rfl,run_takeDeferred hK2, ?_⟩⟩
        have hr3:=(bS.set (.bool true)).kept (grownBy_putObj' _ D (.deferred none)) (by intro e;cases e;omega)
        have hc3:=hr3.cell
        refine ⟨.bool true,by simp [results,Tryd.results73,go_sem,hc3],ret_bool ?_,(hB.setCell (by simp) _).grown (grownBy_putObj' _ D _) (by simp [World.setCell];exact hB.size) (fun k e=>by cases e;omega)⟩
        have hj:=hJ.out
        rw [hpr,pairs_sound] at hj
        rw [←HR.out,HPP.out,Hr.out,Bool.true_and]
        exact hj.symm
      case stop=>
        rintro D c' pre W hD hp ⟨bS,hB,rfl,hJ⟩ hK
        gi_wp2
        refine ⟨by simp, .inl ⟨_,_,rfl,run_takeDeferred hK, ?_⟩⟩
        have hr3:=bS.kept (grownBy_putObj' _ D (.deferred none)) (by intro e;cases e;omega)
        have hc3:=hr3.cell
        refine ⟨.bool false,by simp [results,Tryd.results73,go_sem,hc3],ret_bool ?_,hB.grown (grownBy_putObj' _ D _) hB.size (fun k e=>by cases e;omega)⟩
        rw [←HR.out,HPP.out,Hr.out,Bool.true_and, ←pairs_sound, ←hpr]
        exact (kids_front hp hJ.out).symm
end Go.Proofs.YthceefjafklcmaaDoor
namespace Go.Proofs.YthceefjafklcmaaDoor
open Go.RowKit
noncomputable def cmSound (x:Cm):Bool:=
  kIs x.k && eqB x.bare ⟨x.k,x.path, .empty,0,0,0,V.none, .empty⟩ && pathSound x.path && Lib.validD x.key.data.toList && Lib.validD x.s.data.toList &&
  decide (0≤x.i) && decide (0≤x.j) && !(x.k==8 && x.s.toList.isEmpty) && !(x.k==9 && decide (x.n<1)) &&
  x.v.sound && decide (x.path.length+1+x.v.deep≤16) && decide (x.v.weight≤20000)
structure Boxed1C (w W:World) (c:CC):Prop where
  at_:CompAt W w.heap.size 0 c
  below:Below w.heap.size w W
  size:w.heap.size+1≤W.heap.size
theorem Boxed1C.step {w W W':World} {c:CC} (h:Boxed1C w W c) (hb:Below W.heap.size W W'):Boxed1C w W' c:=
  ⟨h.at_.keep hb (by have:=h.size;omega),h.below.trans (hb.mono (by have:=h.size;omega)),by have:=h.size;have:=hb.size;omega⟩
theorem boxed1C_start (w:World) (c:CC) (t:TypeId):Boxed1C w (w.alloc (.cells #[.int .u8 c.k, .slice c.pa c.pl c.pc, .string c.key, .int .i64 c.i, .int .i64 c.j, .int .i64 c.n, .int .u8 c.v.k, .int .i64 c.v.n, .string c.v.s, .slice c.v.la c.v.ll c.v.lc, .slice c.v.oa c.v.ol c.v.oc, .string c.s] t)) c:=
  ⟨⟨cells_new _ _ _ _ _ rfl,cells_new _ _ _ _ _ rfl,cells_new _ _ _ _ _ rfl,cells_new _ _ _ _ _ rfl,cells_new _ _ _ _ _ rfl,cells_new _ _ _ _ _ rfl,⟨cells_new _ _ _ _ _ rfl,cells_new _ _ _ _ _ rfl,cells_new _ _ _ _ _ rfl,cells_new _ _ _ _ _ rfl,cells_new _ _ _ _ _ rfl⟩,cells_new _ _ _ _ _ rfl⟩,(Below.refl _ _).alloc (Nat.le_refl _) _,by simp⟩
def Behind (w:World) (f:FuncId) (args:Array Value) (v:Value):Prop:=∀W,Below w.heap.size w W→Calls Tryd.prog f args W fun e w'=>e= .returned v∧Below W.heap.size W w'
theorem Behind.at_ {w W:World} {f:FuncId} {args:Array Value} {v:Value} (h:Behind w f args v) (hW:Below w.heap.size w W):Calls Tryd.prog f args W fun e w'=>e= .returned v∧Below W.heap.size W w':=h W hW
set_option maxHeartbeats 8000000 in
set_option maxRecDepth 100000 in
theorem compSound_any (x:Cm) (w:World) (hT:Tabs w) (c:CC) (hx:IsComp w w.heap.size x c) (hw:x.v.weight≤4611686018427387904):
    Calls Tryd.prog 46 #[.agg #[.int .u8 c.k, .slice c.pa c.pl c.pc, .string c.key, .int .i64 c.i, .int .i64 c.j, .int .i64 c.n, .int .u8 c.v.k, .int .i64 c.v.n, .string c.v.s, .slice c.v.la c.v.ll c.v.lc, .slice c.v.oa c.v.ol c.v.oc, .string c.s]] w fun e w'=>e= .returned (.bool (cmSound x))∧Below w.heap.size w w':=by
  have hbare:=hx.bare
  cases hx with
  |mk c p v hb hp hv=>
  dsimp only [Cm.bare] at hbare
  dsimp only at hw
  have HBARE:Hid (∀W,Below w.heap.size w W→Calls Tryd.prog 77 #[.agg #[.int .u8 c.k, .slice c.pa c.pl c.pc, .string c.key, .int .i64 c.i, .int .i64 c.j, .int .i64 c.n, .int .u8 c.v.k, .int .i64 c.v.n, .string c.v.s, .slice c.v.la c.v.ll c.v.lc, .slice c.v.oa c.v.ol c.v.oc, .string c.s]] W fun e w'=>(∃d:CC,e= .returned (.tuple #[.agg #[.int .u8 d.k, .slice d.pa d.pl d.pc, .string d.key, .int .i64 d.i, .int .i64 d.j, .int .i64 d.n, .int .u8 d.v.k, .int .i64 d.v.n, .string d.v.s, .slice d.v.la d.v.ll d.v.lc, .slice d.v.oa d.v.ol d.v.oc, .string d.s], .bool (kIs c.k)])∧Hid (d=c.bare))∧Below W.heap.size W w'):=fun W _=>bare_any c W hb
  obtain ⟨sm,hsm⟩:∃sm,eqB (Cm.bare ⟨c.k,p,c.key,c.i,c.j,c.n,v,c.s⟩) ⟨c.k,p, .empty,0,0,0,V.none, .empty⟩=sm:=⟨_,rfl⟩
  have HSAME:Hid (∀d:CC,Hid (d=c.bare)→Behind w 78 #[.agg #[.int .u8 d.k, .slice d.pa d.pl d.pc, .string d.key, .int .i64 d.i, .int .i64 d.j, .int .i64 d.n, .int .u8 d.v.k, .int .i64 d.v.n, .string d.v.s, .slice d.v.la d.v.ll d.v.lc, .slice d.v.oa d.v.ol d.v.oc, .string d.s], .agg #[.int .u8 c.k, .slice c.pa c.pl c.pc, .string { data:= #[] }, .int .i64 0, .int .i64 0, .int .i64 0, .int .u8 0, .int .i64 0, .string { data:= #[] }, .slice none 0 0, .slice none 0 0, .string { data:= #[] }]] (.bool sm)):=by
    intro d hd W hW
    obtain rfl:=hd.out
    rw [←hsm]
    exact compSame_any _ _ W c.bare ⟨c.k,c.pa,c.pl,c.pc, .empty,0,0,0,VC.none, .empty⟩ (hbare.later_ hW) (IsComp.later_ hW (.mk ⟨c.k,c.pa,c.pl,c.pc, .empty,0,0,0,VC.none, .empty⟩ p V.none ⟨hb.k0,hb.k1,by show (-9223372036854775808:Int)≤0;decide,by show (0:Int)≤9223372036854775807;decide,by show (-9223372036854775808:Int)≤0;decide,by show (0:Int)≤9223372036854775807;decide,by show (-9223372036854775808:Int)≤0;decide,by show (0:Int)≤9223372036854775807;decide,by show 0≤140737488355328;decide,by show 0≤140737488355328;decide⟩ hp (isVal_none _ _)))
  obtain ⟨kn,hkn⟩:∃kn,kIs c.k=kn:=⟨_,rfl⟩
  obtain ⟨ps,hps⟩:∃ps,pathSound p=ps:=⟨_,rfl⟩
  obtain ⟨vk,hvk⟩:∃vk,Lib.validD c.key.data.toList=vk:=⟨_,rfl⟩
  obtain ⟨vs,hvs⟩:∃vs,Lib.validD c.s.data.toList=vs:=⟨_,rfl⟩
  obtain ⟨be,hbe⟩:∃be,c.s.toList.isEmpty=be:=⟨_,rfl⟩
  obtain ⟨sd,hsd⟩:∃sd,v.sound=sd:=⟨_,rfl⟩
  obtain ⟨dp,hdp⟩:∃dp,v.deep=dp:=⟨_,rfl⟩
  obtain ⟨wt,hwt⟩:∃wt,v.weight=wt:=⟨_,rfl⟩
  have HPS:Hid (Behind w 79 #[.slice c.pa c.pl c.pc] (.bool ps)):=fun W hW=>by rw [←hps];exact pathSound_any p W (hT.below hW) _ _ _ (hp.later_ hW)
  have HVK:Hid (Behind w 34 #[.string c.key] (.bool vk)):=fun W hW=>by rw [←hvk];exact valid_any c.key W hb.key1 (hT.below hW)
  have HVS:Hid (Behind w 34 #[.string c.s] (.bool vs)):=fun W hW=>by rw [←hvs];exact valid_any c.s W hb.s1 (hT.below hW)
  have HSD:Hid (Behind w 73 #[.agg #[.int .u8 c.v.k, .int .i64 c.v.n, .string c.v.s, .slice c.v.la c.v.ll c.v.lc, .slice c.v.oa c.v.ol c.v.oc]] (.bool sd)):=fun W hW=>by rw [←hsd];exact valSound_any v W c.v (hv.later_ hW) (hT.below hW)
  have HDP:Hid (Behind w 74 #[.agg #[.int .u8 c.v.k, .int .i64 c.v.n, .string c.v.s, .slice c.v.la c.v.ll c.v.lc, .slice c.v.oa c.v.ol c.v.oc]] (.int .i64 dp)):=fun W hW=>by rw [←hdp];exact valDeep_any v hw W c.v (hv.later_ hW)
  have HWT:Hid (Behind w 75 #[.agg #[.int .u8 c.v.k, .int .i64 c.v.n, .string c.v.s, .slice c.v.la c.v.ll c.v.lc, .slice c.v.oa c.v.ol c.v.oc]] (.int .i64 wt)):=fun W hW=>by rw [←hwt];exact valWeight_any v hw W c.v (hv.later_ hW)
  have f0:(c.s.toList== [])=be:=by rw [←hbe];cases c.s.toList<;>rfl
  have k1:=hp.few;have k2:=hp.max;have k3:=hp.cap
  have k4:wt≤4611686018427387904:=by omega
  have k5:dp≤4611686018427387904:=by have:=v.deep_lt;omega
  obtain ⟨R,hR⟩:∃R,cmSound ⟨c.k,p,c.key,c.i,c.j,c.n,v,c.s⟩=R:=⟨_,rfl⟩
  have hR2:R=(kn && sm && ps && vk && vs && decide (0≤c.i) && decide (0≤c.j) && !(c.k==8 && be) && !(c.k==9 && decide (c.n<1)) && sd && decide (c.pl+1+dp≤16) && decide (wt≤20000)):=by
    rw [←hR];simp only [cmSound];rw [hsm,hkn,hps,hvk,hvs,hbe,hsd,hdp,hwt,hp.len]
  rw [hR]
  rw [hkn] at HBARE
  have HR:=Lib.hid hR2
  have bx:=boxed1C_start w c 75
  clear hbare hsm hkn hps hvk hvs hbe hsd hdp hwt hR hR2 hb hp hv hw hT
  go_enter Tryd.func46,Tryd.ntmps46
  cases kn with
  |false=>go_wp2_with (go_at_call 77;refine (HBARE.out _ (by have:=bx.below;have:=bx.size;go_grown)).mono ?_;rintro e w1 ⟨⟨d,rfl,hd⟩,hb1⟩;replace bx:=(bx.step (by go_grown)).step hb1;have zs:w.heap.size<w1.heap.size:=bx.size;have z0:=bx.at_.c0;have z1:=bx.at_.c1);go_ret;exact ⟨ret_bool (by rw [HR.out];first|(simp [*];done)|(simp [*];intros;omega)),by have:=bx.below;have:=bx.size;go_grown⟩
  |true=>
  go_wp2_with (go_at_call 77;refine (HBARE.out _ (by have:=bx.below;have:=bx.size;go_grown)).mono ?_;rintro e w1 ⟨⟨d,rfl,hd⟩,hb1⟩;replace bx:=(bx.step (by go_grown)).step hb1;have zs:w.heap.size<w1.heap.size:=bx.size;have z0:=bx.at_.c0;have z1:=bx.at_.c1)
  cases sm with
  |false=>go_wp2_with (go_at_call 78;(with_reducible refine (Behind.at_ (HSAME.out d hd) ?_).mono ?_);(focus (have:=bx.below;have:=bx.size;go_grown));rintro e w1 ⟨rfl,hb1⟩;replace bx:=(bx.step (by go_grown)).step hb1;have zs:w.heap.size<w1.heap.size:=bx.size;have z0:=bx.at_.c0;have z1:=bx.at_.c1;have z2:=bx.at_.c2;have z3:=bx.at_.c3;have z4:=bx.at_.c4;have z5:=bx.at_.c5;have z6:=bx.at_.c11);go_ret;exact ⟨ret_bool (by rw [HR.out];first|(simp [*];done)|(simp [*];intros;omega)),by have:=bx.below;have:=bx.size;go_grown⟩
  |true=>
  go_wp2_with (go_at_call 78;(with_reducible refine (Behind.at_ (HSAME.out d hd) ?_).mono ?_);(focus (have:=bx.below;have:=bx.size;go_grown));rintro e w1 ⟨rfl,hb1⟩;replace bx:=(bx.step (by go_grown)).step hb1;have zs:w.heap.size<w1.heap.size:=bx.size;have z0:=bx.at_.c0;have z1:=bx.at_.c1;have z2:=bx.at_.c2;have z3:=bx.at_.c3;have z4:=bx.at_.c4;have z5:=bx.at_.c5;have z6:=bx.at_.c11)
  cases ps with
  |false=>go_wp2_with (go_at_call 79;(with_reducible refine (Behind.at_ (HPS.out) ?_).mono ?_);(focus (have:=bx.below;have:=bx.size;go_grown));rintro e w1 ⟨rfl,hb1⟩;replace bx:=(bx.step (by go_grown)).step hb1;have zs:w.heap.size<w1.heap.size:=bx.size;have z0:=bx.at_.c0;have z1:=bx.at_.c1;have z2:=bx.at_.c2;have z3:=bx.at_.c3;have z4:=bx.at_.c4;have z5:=bx.at_.c5;have z6:=bx.at_.c11);go_ret;exact ⟨ret_bool (by rw [HR.out];first|(simp [*];done)|(simp [*];intros;omega)),by have:=bx.below;have:=bx.size;go_grown⟩
  |true=>
  go_wp2_with (go_at_call 79;(with_reducible refine (Behind.at_ (HPS.out) ?_).mono ?_);(focus (have:=bx.below;have:=bx.size;go_grown));rintro e w1 ⟨rfl,hb1⟩;replace bx:=(bx.step (by go_grown)).step hb1;have zs:w.heap.size<w1.heap.size:=bx.size;have z0:=bx.at_.c0;have z1:=bx.at_.c1;have z2:=bx.at_.c2;have z3:=bx.at_.c3;have z4:=bx.at_.c4;have z5:=bx.at_.c5;have z6:=bx.at_.c11)
  cases vk with
  |false=>go_wp2_with (go_at_call 34;(with_reducible refine (Behind.at_ (HVK.out) ?_).mono ?_);(focus (have:=bx.below;have:=bx.size;go_grown));rintro e w1 ⟨rfl,hb1⟩;replace bx:=(bx.step (by go_grown)).step hb1;have zs:w.heap.size<w1.heap.size:=bx.size;have z0:=bx.at_.c0;have z1:=bx.at_.c1;have z2:=bx.at_.c2;have z3:=bx.at_.c3;have z4:=bx.at_.c4;have z5:=bx.at_.c5;have z6:=bx.at_.c11);go_ret;exact ⟨ret_bool (by rw [HR.out];first|(simp [*];done)|(simp [*];intros;omega)),by have:=bx.below;have:=bx.size;go_grown⟩
  |true=>
  go_wp2_with (go_at_call 34;(with_reducible refine (Behind.at_ (HVK.out) ?_).mono ?_);(focus (have:=bx.below;have:=bx.size;go_grown));rintro e w1 ⟨rfl,hb1⟩;replace bx:=(bx.step (by go_grown)).step hb1;have zs:w.heap.size<w1.heap.size:=bx.size;have z0:=bx.at_.c0;have z1:=bx.at_.c1;have z2:=bx.at_.c2;have z3:=bx.at_.c3;have z4:=bx.at_.c4;have z5:=bx.at_.c5;have z6:=bx.at_.c11)
  cases vs with
  |false=>go_wp2_with (go_at_call 34;(with_reducible refine (Behind.at_ (HVS.out) ?_).mono ?_);(focus (have:=bx.below;have:=bx.size;go_grown));rintro e w1 ⟨rfl,hb1⟩;replace bx:=(bx.step (by go_grown)).step hb1;have zs:w.heap.size<w1.heap.size:=bx.size;have z0:=bx.at_.c0;have z1:=bx.at_.c1;have z2:=bx.at_.c2;have z3:=bx.at_.c3;have z4:=bx.at_.c4;have z5:=bx.at_.c5;have z6:=bx.at_.c11);go_ret;exact ⟨ret_bool (by rw [HR.out];first|(simp [*];done)|(simp [*];intros;omega)),by have:=bx.below;have:=bx.size;go_grown⟩
  |true=>
  by_cases hi:c.i<0
  · go_wp2_with (go_at_call 34;(with_reducible refine (Behind.at_ (HVS.out) ?_).mono ?_);(focus (have:=bx.below;have:=bx.size;go_grown));rintro e w1 ⟨rfl,hb1⟩;replace bx:=(bx.step (by go_grown)).step hb1;have zs:w.heap.size<w1.heap.size:=bx.size;have z0:=bx.at_.c0;have z1:=bx.at_.c1;have z2:=bx.at_.c2;have z3:=bx.at_.c3;have z4:=bx.at_.c4;have z5:=bx.at_.c5;have z6:=bx.at_.c11);go_ret;exact ⟨ret_bool (by rw [HR.out];first|(simp [*];done)|(simp [*];intros;omega)),by have:=bx.below;have:=bx.size;go_grown⟩
  by_cases hj:c.j<0
  · go_wp2_with (go_at_call 34;(with_reducible refine (Behind.at_ (HVS.out) ?_).mono ?_);(focus (have:=bx.below;have:=bx.size;go_grown));rintro e w1 ⟨rfl,hb1⟩;replace bx:=(bx.step (by go_grown)).step hb1;have zs:w.heap.size<w1.heap.size:=bx.size;have z0:=bx.at_.c0;have z1:=bx.at_.c1;have z2:=bx.at_.c2;have z3:=bx.at_.c3;have z4:=bx.at_.c4;have z5:=bx.at_.c5;have z6:=bx.at_.c11);go_ret;exact ⟨ret_bool (by rw [HR.out];first|(simp [*];done)|(simp [*];intros;omega)),by have:=bx.below;have:=bx.size;go_grown⟩
  by_cases e8:c.k=8
  case pos=>
    have f8:(c.k==8)=true:=by simp [e8]
    have f9:(c.k==9)=false:=by simp [e8]
    clear e8
    cases be with
    |true=>go_wp2_with (go_at_call 34;(with_reducible refine (Behind.at_ (HVS.out) ?_).mono ?_);(focus (have:=bx.below;have:=bx.size;go_grown));rintro e w1 ⟨rfl,hb1⟩;replace bx:=(bx.step (by go_grown)).step hb1;have zs:w.heap.size<w1.heap.size:=bx.size;have z0:=bx.at_.c0;have z1:=bx.at_.c1;have z2:=bx.at_.c2;have z3:=bx.at_.c3;have z4:=bx.at_.c4;have z5:=bx.at_.c5;have z6:=bx.at_.c11);go_ret;exact ⟨ret_bool (by rw [HR.out];first|(simp [*];done)|(simp [*];intros;omega)),by have:=bx.below;have:=bx.size;go_grown⟩
    |false=>
    go_wp2_with (go_at_call 34;(with_reducible refine (Behind.at_ (HVS.out) ?_).mono ?_);(focus (have:=bx.below;have:=bx.size;go_grown));rintro e w1 ⟨rfl,hb1⟩;replace bx:=(bx.step (by go_grown)).step hb1;have zs:w.heap.size<w1.heap.size:=bx.size;have z0:=bx.at_.c0;have z1:=bx.at_.c1;have z2:=bx.at_.c2;have z3:=bx.at_.c3;have z4:=bx.at_.c4;have z5:=bx.at_.c5;have z6:=bx.at_.c11)
    have a0:=later_cell bx.at_.c6.c0;have a1:=later_cell bx.at_.c6.c1;have a2:=later_cell bx.at_.c6.c2;have a3:=later_cell bx.at_.c6.c3;have a4:=later_cell bx.at_.c6.c4;have a5:=later_cell bx.at_.c1
    have hbx:=bx.below
    have hbs:=bx.size
    cases sd with
    | false=>
      refine wp_region_later (by kernel_rfl) (by kernel_rfl) ?_
      repeat (go_big_quiet_step ((first|(go_at_call 73;exact later_call (HSD.out _ (hbx.trans ((below_later _ _).mono (by omega)))))|(go_at_call 74;exact later_call (HDP.out _ (hbx.trans ((below_later _ _).mono (by omega)))))|(go_at_call 75;exact later_call (HWT.out _ (hbx.trans ((below_later _ _).mono (by omega))))))))
      refine wpQuiet_nil ?_
      intro _ hw'
      obtain ⟨pq,hw''⟩:=hw'
      subst hw''
      go_wp2_with fail
      go_ret
      exact ⟨ret_bool (by rw [HR.out];simp),hbx.trans ((below_later _ _).mono (by omega))⟩
    |true=>
    by_cases hd:c.pl+1+dp≤16
    case neg=>
      have hdI:¬((c.pl:Int)+1+(dp:Int)≤16):=by omega
      have hdB:decide ((c.pl:Int)+1+(dp:Int)≤16)=false:=by simpa using hdI
      refine wp_region_later (by kernel_rfl) (by kernel_rfl) ?_
      repeat (go_big_quiet_step ((first|(go_at_call 73;exact later_call (HSD.out _ (hbx.trans ((below_later _ _).mono (by omega)))))|(go_at_call 74;exact later_call (HDP.out _ (hbx.trans ((below_later _ _).mono (by omega)))))|(go_at_call 75;exact later_call (HWT.out _ (hbx.trans ((below_later _ _).mono (by omega))))))))
      refine wpQuiet_nil ?_
      intro _ hw'
      obtain ⟨pq,hw''⟩:=hw'
      subst hw''
      go_wp2_with fail
      go_ret
      exact ⟨ret_bool (by rw [HR.out];simp [hd]),hbx.trans ((below_later _ _).mono (by omega))⟩
    have hdI:(c.pl:Int)+1+(dp:Int)≤16:=by omega
    have hdB:decide ((c.pl:Int)+1+(dp:Int)≤16)=true:=by simpa using hdI
    refine wp_region_later (by kernel_rfl) (by kernel_rfl) ?_
    repeat (go_big_quiet_step ((first|(go_at_call 73;exact later_call (HSD.out _ (hbx.trans ((below_later _ _).mono (by omega)))))|(go_at_call 74;exact later_call (HDP.out _ (hbx.trans ((below_later _ _).mono (by omega)))))|(go_at_call 75;exact later_call (HWT.out _ (hbx.trans ((below_later _ _).mono (by omega))))))))
    refine wpQuiet_nil ?_
    intro _ hw'
    obtain ⟨pq,hw''⟩:=hw'
    subst hw''
    go_wp2_with fail
    go_ret
    exact ⟨ret_bool (by rw [HR.out];simp [*];try omega),hbx.trans ((below_later _ _).mono (by omega))⟩
  case neg=>
    have f8:(c.k==8)=false:=by simp [e8]
    clear e8
    by_cases e9:c.k=9
    case pos=>
      have f9:(c.k==9)=true:=by simp [e9]
      clear e9
      by_cases hn:c.n<1
      · go_wp2_with (go_at_call 34;(with_reducible refine (Behind.at_ (HVS.out) ?_).mono ?_);(focus (have:=bx.below;have:=bx.size;go_grown));rintro e w1 ⟨rfl,hb1⟩;replace bx:=(bx.step (by go_grown)).step hb1;have zs:w.heap.size<w1.heap.size:=bx.size;have z0:=bx.at_.c0;have z1:=bx.at_.c1;have z2:=bx.at_.c2;have z3:=bx.at_.c3;have z4:=bx.at_.c4;have z5:=bx.at_.c5;have z6:=bx.at_.c11);go_ret;exact ⟨ret_bool (by rw [HR.out];first|(simp [*];done)|(simp [*];intros;omega)),by have:=bx.below;have:=bx.size;go_grown⟩
      have hn2:decide (c.n<1)=false:=by simpa using hn
      go_wp2_with (go_at_call 34;(with_reducible refine (Behind.at_ (HVS.out) ?_).mono ?_);(focus (have:=bx.below;have:=bx.size;go_grown));rintro e w1 ⟨rfl,hb1⟩;replace bx:=(bx.step (by go_grown)).step hb1;have zs:w.heap.size<w1.heap.size:=bx.size;have z0:=bx.at_.c0;have z1:=bx.at_.c1;have z2:=bx.at_.c2;have z3:=bx.at_.c3;have z4:=bx.at_.c4;have z5:=bx.at_.c5;have z6:=bx.at_.c11)
      have a0:=later_cell bx.at_.c6.c0;have a1:=later_cell bx.at_.c6.c1;have a2:=later_cell bx.at_.c6.c2;have a3:=later_cell bx.at_.c6.c3;have a4:=later_cell bx.at_.c6.c4;have a5:=later_cell bx.at_.c1
      have hbx:=bx.below
      have hbs:=bx.size
      cases sd with
      | false=>
        refine wp_region_later (by kernel_rfl) (by kernel_rfl) ?_
        repeat (go_big_quiet_step ((first|(go_at_call 73;exact later_call (HSD.out _ (hbx.trans ((below_later _ _).mono (by omega)))))|(go_at_call 74;exact later_call (HDP.out _ (hbx.trans ((below_later _ _).mono (by omega)))))|(go_at_call 75;exact later_call (HWT.out _ (hbx.trans ((below_later _ _).mono (by omega))))))))
        refine wpQuiet_nil ?_
        intro _ hw'
        obtain ⟨pq,hw''⟩:=hw'
        subst hw''
        go_wp2_with fail
        go_ret
        exact ⟨ret_bool (by rw [HR.out];simp),hbx.trans ((below_later _ _).mono (by omega))⟩
      |true=>
      by_cases hd:c.pl+1+dp≤16
      case neg=>
        have hdI:¬((c.pl:Int)+1+(dp:Int)≤16):=by omega
        have hdB:decide ((c.pl:Int)+1+(dp:Int)≤16)=false:=by simpa using hdI
        refine wp_region_later (by kernel_rfl) (by kernel_rfl) ?_
        repeat (go_big_quiet_step ((first|(go_at_call 73;exact later_call (HSD.out _ (hbx.trans ((below_later _ _).mono (by omega)))))|(go_at_call 74;exact later_call (HDP.out _ (hbx.trans ((below_later _ _).mono (by omega)))))|(go_at_call 75;exact later_call (HWT.out _ (hbx.trans ((below_later _ _).mono (by omega))))))))
        refine wpQuiet_nil ?_
        intro _ hw'
        obtain ⟨pq,hw''⟩:=hw'
        subst hw''
        go_wp2_with fail
        go_ret
        exact ⟨ret_bool (by rw [HR.out];simp [hd]),hbx.trans ((below_later _ _).mono (by omega))⟩
      have hdI:(c.pl:Int)+1+(dp:Int)≤16:=by omega
      have hdB:decide ((c.pl:Int)+1+(dp:Int)≤16)=true:=by simpa using hdI
      refine wp_region_later (by kernel_rfl) (by kernel_rfl) ?_
      repeat (go_big_quiet_step ((first|(go_at_call 73;exact later_call (HSD.out _ (hbx.trans ((below_later _ _).mono (by omega)))))|(go_at_call 74;exact later_call (HDP.out _ (hbx.trans ((below_later _ _).mono (by omega)))))|(go_at_call 75;exact later_call (HWT.out _ (hbx.trans ((below_later _ _).mono (by omega))))))))
      refine wpQuiet_nil ?_
      intro _ hw'
      obtain ⟨pq,hw''⟩:=hw'
      subst hw''
      go_wp2_with fail
      go_ret
      exact ⟨ret_bool (by rw [HR.out];simp [*];try omega),hbx.trans ((below_later _ _).mono (by omega))⟩
    case neg=>
      have f9:(c.k==9)=false:=by simp [e9]
      clear e9
      go_wp2_with (go_at_call 34;(with_reducible refine (Behind.at_ (HVS.out) ?_).mono ?_);(focus (have:=bx.below;have:=bx.size;go_grown));rintro e w1 ⟨rfl,hb1⟩;replace bx:=(bx.step (by go_grown)).step hb1;have zs:w.heap.size<w1.heap.size:=bx.size;have z0:=bx.at_.c0;have z1:=bx.at_.c1;have z2:=bx.at_.c2;have z3:=bx.at_.c3;have z4:=bx.at_.c4;have z5:=bx.at_.c5;have z6:=bx.at_.c11)
      have a0:=later_cell bx.at_.c6.c0;have a1:=later_cell bx.at_.c6.c1;have a2:=later_cell bx.at_.c6.c2;have a3:=later_cell bx.at_.c6.c3;have a4:=later_cell bx.at_.c6.c4;have a5:=later_cell bx.at_.c1
      have hbx:=bx.below
      have hbs:=bx.size
      cases sd with
      | false=>
        refine wp_region_later (by kernel_rfl) (by kernel_rfl) ?_
        repeat (go_big_quiet_step ((first|(go_at_call 73;exact later_call (HSD.out _ (hbx.trans ((below_later _ _).mono (by omega)))))|(go_at_call 74;exact later_call (HDP.out _ (hbx.trans ((below_later _ _).mono (by omega)))))|(go_at_call 75;exact later_call (HWT.out _ (hbx.trans ((below_later _ _).mono (by omega))))))))
        refine wpQuiet_nil ?_
        intro _ hw'
        obtain ⟨pq,hw''⟩:=hw'
        subst hw''
        go_wp2_with fail
        go_ret
        exact ⟨ret_bool (by rw [HR.out];simp),hbx.trans ((below_later _ _).mono (by omega))⟩
      |true=>
      by_cases hd:c.pl+1+dp≤16
      case neg=>
        have hdI:¬((c.pl:Int)+1+(dp:Int)≤16):=by omega
        have hdB:decide ((c.pl:Int)+1+(dp:Int)≤16)=false:=by simpa using hdI
        refine wp_region_later (by kernel_rfl) (by kernel_rfl) ?_
        repeat (go_big_quiet_step ((first|(go_at_call 73;exact later_call (HSD.out _ (hbx.trans ((below_later _ _).mono (by omega)))))|(go_at_call 74;exact later_call (HDP.out _ (hbx.trans ((below_later _ _).mono (by omega)))))|(go_at_call 75;exact later_call (HWT.out _ (hbx.trans ((below_later _ _).mono (by omega))))))))
        refine wpQuiet_nil ?_
        intro _ hw'
        obtain ⟨pq,hw''⟩:=hw'
        subst hw''
        go_wp2_with fail
        go_ret
        exact ⟨ret_bool (by rw [HR.out];simp [hd]),hbx.trans ((below_later _ _).mono (by omega))⟩
      have hdI:(c.pl:Int)+1+(dp:Int)≤16:=by omega
      have hdB:decide ((c.pl:Int)+1+(dp:Int)≤16)=true:=by simpa using hdI
      refine wp_region_later (by kernel_rfl) (by kernel_rfl) ?_
      repeat (go_big_quiet_step ((first|(go_at_call 73;exact later_call (HSD.out _ (hbx.trans ((below_later _ _).mono (by omega)))))|(go_at_call 74;exact later_call (HDP.out _ (hbx.trans ((below_later _ _).mono (by omega)))))|(go_at_call 75;exact later_call (HWT.out _ (hbx.trans ((below_later _ _).mono (by omega))))))))
      refine wpQuiet_nil ?_
      intro _ hw'
      obtain ⟨pq,hw''⟩:=hw'
      subst hw''
      go_wp2_with fail
      go_ret
      exact ⟨ret_bool (by rw [HR.out];simp [*];try omega),hbx.trans ((below_later _ _).mono (by omega))⟩
end Go.Proofs.YthceefjafklcmaaDoor
