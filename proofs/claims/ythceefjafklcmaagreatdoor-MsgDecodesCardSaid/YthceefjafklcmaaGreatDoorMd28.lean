/-
  Contracts of the functions that the law reaches: DERIVED: THE SHELF's CONTRACTS AT THIS DUMP, IN PLAIN WORDS (tools/lay-plain.mjs out of 'YthceefjafklcmaaGreatDoorShelf.lean', which tools/lay-shelf.mjs wrote): THE SAME DECLARATIONS UNDER THE SAME NAMES: 'import', 'namespace', 'open', 'def', 'theorem' AND NOTHING ELSE: no command of the shelf's: FOR A HAND-IN. Each laying: the table of numbers ('.._ren') and one theorem, a field a fact of the dump's own or the kernel's comparison; each contract: ONE APPLICATION. conciliatorref01: Weight, Deep and Sound of a value in memory are the plain functions' answers. conciliatorref01.Sound: of a value in memory it is the plain function's answer.
-/
import Derived.Test.YthceefjafklcmaaGreatDoorMd1
import Derived.Ground.NamesProg
import Derived.Shelf.Unicode.ValidAny
import Derived.Test.YthceefjafklcmaaGreatDoorProg
namespace Go.Proofs
open Go.Shelf
def Tryz.lays196_ren:Go.Shelf.Ren:=⟨fun|196=>51|259=>84|n=>n,fun|9=>9|4=>4|3=>3|5=>5|12=>12|119=>137|0=>0|46=>64|139=>140|138=>139|53=>54|n=>n,fun|3=>0|4=>1|n=>n⟩
theorem Tryz.lays196:Go.Proofs.Lays.n196 Tryz.prog Tryz.lays196_ren:= {
  mixed:=by kernel_rfl
  f196:=Tryz.func51.trans (congrArg some (by kernel_rfl))
  f259:=Tryz.func84.trans (congrArg some (by kernel_rfl))
  t0:=Tryz.underlying0
  a0:=Tryz.isAgg0
  z0:=Tryz.sizeOf0
  v0:=Tryz.zeroValue0
  t3:=Tryz.underlying3
  a3:=Tryz.isAgg3
  z3:=Tryz.sizeOf3
  v3:=Tryz.zeroValue3
  t4:=Tryz.underlying4
  a4:=Tryz.isAgg4
  z4:=Tryz.sizeOf4
  v4:=Tryz.zeroValue4
  t5:=Tryz.underlying5
  a5:=Tryz.isAgg5
  z5:=Tryz.sizeOf5
  v5:=Tryz.zeroValue5
  t9:=Tryz.underlying9
  a9:=Tryz.isAgg9
  z9:=Tryz.sizeOf9
  v9:=Tryz.zeroValue9
  t12:=Tryz.underlying12
  a12:=Tryz.isAgg12
  z12:=Tryz.sizeOf12
  v12:=Tryz.zeroValue12
  t46:=Tryz.underlying64
  a46:=Tryz.isAgg64
  z46:=Tryz.sizeOf64
  v46:=Tryz.zeroValue64
  t53:=Tryz.underlying54
  a53:=Tryz.isAgg54
  z53:=Tryz.sizeOf54
  v53:=Tryz.zeroValue54
  t119:=Tryz.underlying137
  a119:=Tryz.isAgg137
  z119:=Tryz.sizeOf137
  t138:=Tryz.underlying139
  a138:=Tryz.isAgg139
  z138:=Tryz.sizeOf139
  v138:=Tryz.zeroValue139
  t139:=Tryz.underlying140
  a139:=Tryz.isAgg140
  z139:=Tryz.sizeOf140
  v139:=Tryz.zeroValue140
  g3:=by kernel_rfl
  g4:=by kernel_rfl }
open Go.RowKit Go.Lib in
theorem Tryz.utf8_ValidString (s:ByteArray) (w:World) (hs:s.size≤9223372036854775807) (hT:Lib.Utf8Tabs 0 1 w):
    Calls Tryz.prog 51 #[.string s] w fun e w'=>e= .returned (.bool (Lib.validD s.data.toList))∧Below w.heap.size w w':=Any.utf8_ValidString Tryz.lays196 s w hs hT
end Go.Proofs
namespace Go.Proofs.YthceefjafklcmaaGreatDoor
open Go.RowKit
structure Boxed1 (w wr:World) (c:VC):Prop where
  a:ValAt wr w.heap.size 0 c
  below:Below w.heap.size w wr
  size:w.heap.size+1≤wr.heap.size
theorem boxed1_start (w:World) (c:VC) (t:TypeId):Boxed1 w (w.alloc (.cells #[.int .u8 c.k, .int .i64 c.n, .string c.s, .slice c.la c.ll c.lc, .slice c.oa c.ol c.oc] t)) c:=
  ⟨valAt_new w c t,(Below.refl _ _).alloc (Nat.le_refl _) _,by simp⟩
theorem Boxed1.step {w wr w':World} {c:VC} (h:Boxed1 w wr c) (hb:Below wr.heap.size wr w'):Boxed1 w w' c:=
  ⟨h.a.keep hb (by have:=h.size;omega),h.below.trans (hb.mono (by have:=h.size;omega)),by have:=h.size;have:=hb.size;omega⟩
set_option maxHeartbeats 2000000 in
set_option maxRecDepth 100000 in
theorem refWeight_any (a:V):∀(w:World) (c:VC),IsVal w w.heap.size a c→a.weight≤4611686018427387904→
    Calls Tryz.prog 87 #[.agg #[.int .u8 c.k, .int .i64 c.n, .string c.s, .slice c.la c.ll c.lc, .slice c.oa c.ol c.oc]] w fun e w'=>e= .returned (.int .i64 a.weight)∧Below w.heap.size w w':=by
  induction a using V.ind with
  |h k n s l o ihl iho=>
  have IHL:=Lib.hid ihl;have IHO:=Lib.hid iho;clear ihl iho
  intro w c ha hw
  cases ha with
  |mk c l o cl co lb lo ob oo cbd hl ho hla hoa hlc hlv hoc hov=>
  have c1:=cbd.l1;have c2:=cbd.l2;have c3:=cbd.o1;have c4:=cbd.o2;have c5:=cbd.s1
  have Hl:=Lib.hid hl;have Ho:=Lib.hid ho;clear hl ho
  have hst:=boxed1_start w c 28
  have hw0:1+c.s.size+weightL l+weightO o≤4611686018427387904:=by simpa only [V.weight] using hw
  obtain ⟨W,hW⟩:∃W,V.weight (V.mk c.k c.n c.s l o)=W:=⟨_,rfl⟩
  rw [hW]
  have hW2:1+c.s.size+weightL l+weightO o=W:=by simpa only [V.weight] using hW
  have HW:=Lib.hid hW2
  clear hW hw hW2
  go_enter Tryz.func87,Tryz.ntmps87
  go_wp2_with fail
  go_loopw [3,4] (fun t i wr=>∃k:Nat,k≤c.ll∧i= .int .i64 k∧t= .int .i64 ((1+c.s.size+weightL (l.take k):Nat):Int)∧Boxed1 w wr c) (fun _ i _=>c.ll - (intOf i).toNat)
  case atStart=>exact ⟨0,Nat.zero_le _,rfl,by simp [weightL],hst⟩
  case round=>
    obtain ⟨k,hk,rfl,rfl,hB⟩:=hrel
    clear hst
    have b1:wr.cell? ⟨w.heap.size,3,none⟩=some (.slice c.la c.ll c.lc):=hB.a.c3
    have hle:=weightL_take_le l k
    by_cases hlt:k<c.ll
    · obtain ⟨ela,hlb⟩:=hla (by omega)
      have kl:k<l.length:=by rw [←Hl.out];exact hlt
      have x1:=(hlc k kl).keep hB.below hlb
      rw [ela] at b1
      have r0:=x1.c0;have r1:=x1.c1;have r2:=x1.c2;have r3:=x1.c3;have r4:=x1.c4
      clear ela x1
      have hm:=weightL_mem l k kl
      have hs:=weightL_take l k kl
      have hle2:=weightL_take_le l (k+1)
      have HS:=Lib.hid hs
      obtain ⟨A,hA⟩:∃A,1+c.s.size+weightL (l.take k)=A:=⟨_,rfl⟩
      obtain ⟨X,hX⟩:∃X,l[k].weight=X:=⟨_,rfl⟩
      have hAX:A+X≤4611686018427387904:=by omega
      have ih:=IHL.out _ (List.getElem_mem kl) wr (cl k) ((hlv k kl).later_ hB.below) (by omega)
      rw [hA]
      rw [hX] at ih
      have H:=Lib.hid ih
      have HA:=Lib.hid hA;have HX:=Lib.hid hX
      clear ih hA hX hs hm hle hle2
      go_wp2_with (go_at_call 87;refine H.out.mono ?_;rintro e w' ⟨rfl,hb⟩)
      go_roundw
      case rel=>exact ⟨k+1,by omega,by go_num,by rw [HS.out, ←Nat.add_assoc,HA.out,HX.out];go_num,hB.step hb⟩
      case measure=>simp [intOf];omega
    · go_wp2_with fail
      go_loopw [3,5] (fun t i wr=>∃k:Nat,k≤c.ol∧i= .int .i64 k∧t= .int .i64 ((1+c.s.size+weightL l+weightO (o.take k):Nat):Int)∧Boxed1 w wr c) (fun _ i _=>c.ol - (intOf i).toNat)
      case atStart=>exact ⟨0,Nat.zero_le _,rfl,by rw [List.take_of_length_le (by have:=Hl.out;omega)];simp [weightO],hB⟩
      case round=>
        clear b1 hB hle hlt hk
        obtain ⟨k2,hk,rfl,rfl,hB⟩:=hrel
        have b1:wr.cell? ⟨w.heap.size,4,none⟩=some (.slice c.oa c.ol c.oc):=hB.a.c4
        have hle:=weightO_take_le o k2
        by_cases hlt:k2<c.ol
        · obtain ⟨ela,hlb⟩:=hoa (by omega)
          have kl:k2<o.length:=by rw [←Ho.out];exact hlt
          obtain ⟨g1,ksz,x1⟩:=hoc k2 kl
          have x1:=x1.keep hB.below hlb
          have g1:=keep_cell hB.below g1 hlb
          have q1:=later_cell b1
          rw [ela] at q1
          have r0:=later_cell x1.c0;have r1:=later_cell x1.c1;have r2:=later_cell x1.c2;have r3:=later_cell x1.c3;have r4:=later_cell x1.c4
          have t1:=later_cell g1
          clear ela x1 g1
          have hm:=weightO_mem o k2 kl
          have hs:=weightO_take o k2 kl
          have hle2:=weightO_take_le o (k2+1)
          have HS:=Lib.hid hs
          obtain ⟨A,hA⟩:∃A,1+c.s.size+weightL l+weightO (o.take k2)=A:=⟨_,rfl⟩
          obtain ⟨X,hX⟩:∃X,o[k2].2.weight=X:=⟨_,rfl⟩
          obtain ⟨Y,hY⟩:∃Y,o[k2].1=Y:=⟨_,rfl⟩
          have hAX:A+(Y.size+X)≤4611686018427387904:=by rw [←hA, ←hX, ←hY];omega
          have ih:=fun p=>IHO.out _ (List.getElem_mem kl) (later wr p) (co k2) (((hov k2 kl).later_ hB.below).later_ (below_later _ _)) (by rw [hX];omega)
          rw [hA]
          rw [hX] at ih
          rw [hY] at t1 ksz
          have H:=Lib.hid ih
          have HA:=Lib.hid hA;have HX:=Lib.hid hX;have HY:=Lib.hid hY
          clear ih hA hX hY hs hm hle hle2
          have e1:IntKind.i64.wrap ((Y.size:Int)+(X:Int))=(Y.size:Int)+(X:Int):=IntWalk.i64_in _ (by omega)
          have e2:IntKind.i64.wrap ((A:Int)+((Y.size:Int)+(X:Int)))=(A:Int)+((Y.size:Int)+(X:Int)):=IntWalk.i64_in _ (by omega)
          go_wp2_with fail
          refine wp_region_later (by kernel_rfl) (by kernel_rfl) ?_
          repeat (go_big_quiet_step (((go_at_call 87;exact later_call (H.out _)))))
          refine wpQuiet_nil ?_
          intro _ hw'
          obtain ⟨pq,hw''⟩:=hw'
          subst hw''
          clear e1 e2 r0 r1 r2 r3 r4 t1 q1 b1
          go_wp2_with fail
          go_roundw
          case rel=>exact ⟨k2+1,by omega,by go_num,by rw [HS.out, ←Nat.add_assoc,HA.out,HX.out,HY.out];go_num,hB.step (below_later wr pq)⟩
          case measure=>simp [intOf];omega
        · go_wp2_with fail
          go_ret
          exact ⟨ret_int (by rw [←HW.out,List.take_of_length_le (by have:=Ho.out;omega)]),hB.below⟩
set_option maxHeartbeats 2000000 in
set_option maxRecDepth 100000 in
theorem refDeep_any (a:V):∀(w:World) (c:VC),IsVal w w.heap.size a c→a.weight≤4611686018427387904→
    Calls Tryz.prog 86 #[.agg #[.int .u8 c.k, .int .i64 c.n, .string c.s, .slice c.la c.ll c.lc, .slice c.oa c.ol c.oc]] w fun e w'=>e= .returned (.int .i64 a.deep)∧Below w.heap.size w w':=by
  induction a using V.ind with
  |h k n s l o ihl iho=>
  have IHL:=Lib.hid ihl;have IHO:=Lib.hid iho;clear ihl iho
  intro w c ha hw
  cases ha with
  |mk c l o cl co lb lo ob oo cbd hl ho hla hoa hlc hlv hoc hov=>
  have c1:=cbd.l1;have c2:=cbd.l2;have c3:=cbd.o1;have c4:=cbd.o2;have c5:=cbd.s1
  have Hl:=Lib.hid hl;have Ho:=Lib.hid ho;clear hl ho
  have hst:=boxed1_start w c 28
  have hw0:1+c.s.size+weightL l+weightO o≤4611686018427387904:=by simpa only [V.weight] using hw
  have hdw:=V.deep_lt (V.mk c.k c.n c.s l o)
  have hdd:max (deepL l) (deepO o)≤4611686018427387904:=by simp only [V.deep,V.weight] at hdw;omega
  obtain ⟨W,hW⟩:∃W,V.deep (V.mk c.k c.n c.s l o)=W:=⟨_,rfl⟩
  rw [hW]
  have hW2:max (deepL l) (deepO o)=W:=by simpa only [V.deep] using hW
  have HW:=Lib.hid hW2;have HDD:=Lib.hid hdd
  clear hW hw hW2 hdw hdd
  go_enter Tryz.func86,Tryz.ntmps86
  go_wp2_with fail
  go_loopw [3,4] (fun t i wr=>∃k:Nat,k≤c.ll∧i= .int .i64 k∧t= .int .i64 ((deepL (l.take k):Nat):Int)∧Boxed1 w wr c) (fun _ i _=>c.ll - (intOf i).toNat)
  case atStart=>exact ⟨0,Nat.zero_le _,rfl,by simp [deepL],hst⟩
  case round=>
    obtain ⟨k,hk,rfl,rfl,hB⟩:=hrel
    clear hst
    have b1:wr.cell? ⟨w.heap.size,3,none⟩=some (.slice c.la c.ll c.lc):=hB.a.c3
    by_cases hlt:k<c.ll
    · obtain ⟨ela,hlb⟩:=hla (by omega)
      have kl:k<l.length:=by rw [←Hl.out];exact hlt
      have x1:=(hlc k kl).keep hB.below hlb
      rw [ela] at b1
      have r0:=x1.c0;have r1:=x1.c1;have r2:=x1.c2;have r3:=x1.c3;have r4:=x1.c4
      clear ela x1
      have hm:=weightL_mem l k kl
      have hs:=deepL_take l k kl
      have HS:=Lib.hid hs
      have hdl:=V.deep_lt l[k]
      obtain ⟨A,hA⟩:∃A,deepL (l.take k)=A:=⟨_,rfl⟩
      obtain ⟨X,hX⟩:∃X,l[k].deep=X:=⟨_,rfl⟩
      have hAX:X≤4611686018427387904:=by omega
      have ih:=IHL.out _ (List.getElem_mem kl) wr (cl k) ((hlv k kl).later_ hB.below) (by omega)
      rw [hA]
      rw [hX] at ih
      have H:=Lib.hid ih
      have HA:=Lib.hid hA;have HX:=Lib.hid hX
      clear ih hA hX hs hm hdl
      go_wp2_with (go_at_call 86;refine H.out.mono ?_;rintro e w' ⟨rfl,hb⟩)
      go_roundw
      case rel=>exact ⟨k+1,by omega,by go_num,num_eq (by rw [HS.out,HA.out,HX.out];omega),hB.step hb⟩
      case measure=>simp [intOf];omega
    · go_wp2_with fail
      go_loopw [3,5] (fun t i wr=>∃k:Nat,k≤c.ol∧i= .int .i64 k∧t= .int .i64 ((max (deepL l) (deepO (o.take k)):Nat):Int)∧Boxed1 w wr c) (fun _ i _=>c.ol - (intOf i).toNat)
      case atStart=>exact ⟨0,Nat.zero_le _,rfl,by rw [List.take_of_length_le (by have:=Hl.out;omega)];simp [deepO],hB⟩
      case round=>
        clear b1 hB hlt hk
        obtain ⟨k2,hk,rfl,rfl,hB⟩:=hrel
        have b1:wr.cell? ⟨w.heap.size,4,none⟩=some (.slice c.oa c.ol c.oc):=hB.a.c4
        by_cases hlt:k2<c.ol
        · obtain ⟨ela,hlb⟩:=hoa (by omega)
          have kl:k2<o.length:=by rw [←Ho.out];exact hlt
          obtain ⟨g1,ksz,x1⟩:=hoc k2 kl
          have x1:=x1.keep hB.below hlb
          rw [ela] at b1
          have r0:=x1.c0;have r1:=x1.c1;have r2:=x1.c2;have r3:=x1.c3;have r4:=x1.c4
          clear ela x1 g1
          have hm:=weightO_mem o k2 kl
          have hs:=deepO_take o k2 kl
          have HS:=Lib.hid hs
          have hdl:=V.deep_lt o[k2].2
          obtain ⟨A,hA⟩:∃A,max (deepL l) (deepO (o.take k2))=A:=⟨_,rfl⟩
          obtain ⟨X,hX⟩:∃X,o[k2].2.deep=X:=⟨_,rfl⟩
          have hAX:X≤4611686018427387904:=by omega
          have ih:=IHO.out _ (List.getElem_mem kl) wr (co k2) ((hov k2 kl).later_ hB.below) (by omega)
          rw [hA]
          rw [hX] at ih
          have H:=Lib.hid ih
          have HA:=Lib.hid hA;have HX:=Lib.hid hX
          clear ih hA hX hs hm hdl
          go_wp2_with (go_at_call 86;refine H.out.mono ?_;rintro e w' ⟨rfl,hb⟩)
          go_roundw
          case rel=>exact ⟨k2+1,by omega,by go_num,num_eq (by rw [HS.out, ←HA.out,HX.out];omega),hB.step hb⟩
          case measure=>simp [intOf];omega
        · go_wp2_with fail
          go_ret
          exact ⟨ret_int (by rw [←HW.out,List.take_of_length_le (by have:=Ho.out;omega)]),hB.below⟩
end Go.Proofs.YthceefjafklcmaaGreatDoor
namespace Go.Proofs.YthceefjafklcmaaGreatDoor
open Go.RowKit
def Tabs (w:World):Prop:=Lib.Utf8Tabs 0 1 w
theorem Tabs.below {w w':World} (h:Tabs w) (hb:Below w.heap.size w w'):Tabs w':=Utf8Tabs_below h hb
theorem valid_any (s:ByteArray) (w:World) (hs:s.size≤140737488355328) (hT:Tabs w):
    Calls Tryz.prog 51 #[.string s] w fun e w'=>e= .returned (.bool (Lib.validD s.data.toList))∧Below w.heap.size w w':=
  Tryz.utf8_ValidString s w (by omega) hT
theorem sound_plain {k n:Int} {s:ByteArray} {l:List V} {o:List (ByteArray×V)} (h:plainB k n s l.length o.length=false):(V.mk k n s l o).sound=false:=by
  simp [V.sound,h]
theorem plain_k0 {n:Int} {s:ByteArray} {ll ol:Nat} (hs:s.toList= []) (hl:ll=0) (ho:ol=0) (hn:n=0):plainB 0 n s ll ol=true:=by simp [plainB,hs,hl,ho,hn]
theorem plain_k1 {n:Int} {s:ByteArray} {ll ol:Nat} (hs:s.toList= []) (hl:ll=0) (ho:ol=0) (hn:n=0∨n=1):plainB 1 n s ll ol=true:=by
  rcases hn with rfl|rfl<;>simp [plainB,hs,hl,ho]
theorem plain_k2 {n:Int} {s:ByteArray} {ll ol:Nat} (hs:s.toList= []) (hl:ll=0) (ho:ol=0):plainB 2 n s ll ol=true:=by simp [plainB,hs,hl,ho]
theorem plain_k3 {n:Int} {s:ByteArray} {ll ol:Nat} (hs:Lib.validD s.data.toList=true) (hl:ll=0) (ho:ol=0) (hn:n=0):plainB 3 n s ll ol=true:=by simp [plainB,hs,hl,ho,hn]
theorem plain_k4 {n:Int} {s:ByteArray} {ll ol:Nat} (hs:s.toList= []) (ho:ol=0) (hn:n=0):plainB 4 n s ll ol=true:=by simp [plainB,hs,ho,hn]
theorem plain_k5 {n:Int} {s:ByteArray} {ll ol:Nat} (hs:s.toList= []) (hl:ll=0) (hn:n=0):plainB 5 n s ll ol=true:=by simp [plainB,hs,hl,hn]
set_option maxHeartbeats 4000000 in
set_option maxRecDepth 100000 in
theorem refSound_no (w:World) (c:VC) (hT:Tabs w) (hbd:c.Bnd) (hp:plainB c.k c.n c.s c.ll c.ol=false):
    Calls Tryz.prog 85 #[.agg #[.int .u8 c.k, .int .i64 c.n, .string c.s, .slice c.la c.ll c.lc, .slice c.oa c.ol c.oc]] w fun e w'=>e= .returned (.bool false)∧Below w.heap.size w w':=by
  have k0:=hbd.k0
  have l3:=hbd.l3
  have o3:=hbd.o3
  have hsz:=hbd.s1
  obtain ⟨vd,hvd⟩:∃vd,Lib.validD c.s.data.toList=vd:=⟨_,rfl⟩
  have HVD:=Lib.hid hvd
  clear hbd hvd
  obtain ⟨k,n,s,la,ll,lc,oa,ol,oc⟩:=c
  dsimp only at*
  have hk:k=0∨k=1∨k=2∨k=3∨k=4∨k=5∨5<k:=by omega
  have H0:=Lib.hid hp
  clear hp
  rcases hk with rfl|rfl|rfl|rfl|rfl|rfl|hk
  · go_enter Tryz.func85,Tryz.ntmps85
    go_wp2_with fail
    all_goals first
      |(go_ret;exact ⟨rfl,(Below.refl _ _).alloc (Nat.le_refl _) _⟩)
      |exact absurd (plain_k0 (n:=n) (s:=s) (ll:=ll) (ol:=ol) (by assumption) (by omega) (by omega) (by omega)) (by rw [H0.out];simp)
  · go_enter Tryz.func85,Tryz.ntmps85
    go_wp2_with fail
    all_goals first
      |(go_ret;exact ⟨rfl,(Below.refl _ _).alloc (Nat.le_refl _) _⟩)
      |exact absurd (plain_k1 (n:=n) (s:=s) (ll:=ll) (ol:=ol) (by assumption) (by omega) (by omega) (by omega)) (by rw [H0.out];simp)
  · go_enter Tryz.func85,Tryz.ntmps85
    go_wp2_with fail
    all_goals first
      |(go_ret;exact ⟨rfl,(Below.refl _ _).alloc (Nat.le_refl _) _⟩)
      |exact absurd (plain_k2 (n:=n) (s:=s) (ll:=ll) (ol:=ol) (by assumption) (by omega) (by omega)) (by rw [H0.out];simp)
  · go_enter Tryz.func85,Tryz.ntmps85
    go_wp2_with fail
    all_goals first
      |(go_ret;exact ⟨rfl,(Below.refl _ _).alloc (Nat.le_refl _) _⟩)
      | (have hv:vd=false:=by
           have h:=H0.out
           cases vd with
           |false=>rfl
           |true=>rw [plain_k3 HVD.out (by omega) (by omega) (by omega)] at h;cases h
         subst hv
         refine (valid_any s _ hsz (hT.below ((Below.refl _ _).alloc (Nat.le_refl _) _))).mono ?_
         rintro e w' ⟨rfl,hb⟩
         rw [HVD.out]
         go_wp2_with fail
         go_ret
         exact ⟨rfl,((Below.refl _ _).alloc (Nat.le_refl _) _).trans (hb.mono (by simp))⟩)
  · go_enter Tryz.func85,Tryz.ntmps85
    go_wp2_with fail
    all_goals first
      |(go_ret;exact ⟨rfl,(Below.refl _ _).alloc (Nat.le_refl _) _⟩)
      |exact absurd (plain_k4 (n:=n) (s:=s) (ll:=ll) (ol:=ol) (by assumption) (by omega) (by omega)) (by rw [H0.out];simp)
  · go_enter Tryz.func85,Tryz.ntmps85
    go_wp2_with fail
    all_goals first
      |(go_ret;exact ⟨rfl,(Below.refl _ _).alloc (Nat.le_refl _) _⟩)
      |exact absurd (plain_k5 (n:=n) (s:=s) (ll:=ll) (ol:=ol) (by assumption) (by omega) (by omega)) (by rw [H0.out];simp)
  · go_enter Tryz.func85,Tryz.ntmps85
    go_wp2_with fail
    go_ret
    exact ⟨rfl,(Below.refl _ _).alloc (Nat.le_refl _) _⟩
end Go.Proofs.YthceefjafklcmaaGreatDoor
