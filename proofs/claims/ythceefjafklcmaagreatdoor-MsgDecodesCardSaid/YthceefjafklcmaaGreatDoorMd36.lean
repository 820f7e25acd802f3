/-
  Contracts of the functions that the law reaches: conciliatorref06.Sound. Which values may be kept: code.light and conciliatorref10.light; conciliatorref07.Same; slices.ContainsFunc over components; entries: code.Sound and conciliatorref10.Sound. Entries: code.Sound and conciliatorref10.Sound.
-/
import Derived.Test.YthceefjafklcmaaGreatDoorMd34
import Derived.Test.YthceefjafklcmaaGreatDoorMd35
import Derived.Test.YthceefjafklcmaaGreatDoorMd33
namespace Go.Proofs.YthceefjafklcmaaGreatDoor
open Go.RowKit
theorem ref06Sound_any (x:Cm) (w:World) (hT:Tabs w) (c:CC) (hx:IsComp w w.heap.size x c) (hw:x.v.weight≤4611686018427387904):
    Calls Tryz.prog 53 #[.agg #[.int .u8 c.k, .slice c.pa c.pl c.pc, .string c.key, .int .i64 c.i, .int .i64 c.j, .int .i64 c.n, .int .u8 c.v.k, .int .i64 c.v.n, .string c.v.s, .slice c.v.la c.v.ll c.v.lc, .slice c.v.oa c.v.ol c.v.oc, .string c.s]] w fun e w'=>e= .returned (.bool (cmSound x))∧Below w.heap.size w w':=by
  obtain ⟨_,_,_,_,_,_,_,_,_,_,_,_,h⟩:=sndH_of x w hT c hx hw
  by_cases e1:c.k=1
  · exact ref06Sound1 w c h e1
  by_cases e2:c.k=2
  · exact ref06Sound2 w c h e2
  by_cases e3:c.k=3
  · exact ref06Sound3 w c h e3
  by_cases e4:c.k=4
  · exact ref06Sound4 w c h e4
  by_cases e5:c.k=5
  · exact ref06Sound5 w c h e5
  by_cases e6:c.k=6
  · exact ref06Sound6 w c h e6
  by_cases e7:c.k=7
  · exact ref06Sound7 w c h e7
  by_cases e8:c.k=8
  · exact ref06Sound8 w c h e8
  by_cases e9:c.k=9
  · exact ref06Sound9 w c h e9
  exact ref06Sound0 w c h (by simp only [kIs,Bool.and_eq_false_iff,decide_eq_false_iff_not];omega)
end Go.Proofs.YthceefjafklcmaaGreatDoor
namespace Go.Proofs.YthceefjafklcmaaGreatDoor
open Go.RowKit
theorem CompAt.c7 {w:World} {b o:Nat} {c:CC} (h:CompAt w b o c):w.cell? ⟨b,o+7,none⟩=some (.int .i64 c.v.n):=h.c6.c1
theorem CompAt.c8 {w:World} {b o:Nat} {c:CC} (h:CompAt w b o c):w.cell? ⟨b,o+8,none⟩=some (.string c.v.s):=h.c6.c2
theorem CompAt.c9 {w:World} {b o:Nat} {c:CC} (h:CompAt w b o c):w.cell? ⟨b,o+9,none⟩=some (.slice c.v.la c.v.ll c.v.lc):=h.c6.c3
theorem CompAt.c10 {w:World} {b o:Nat} {c:CC} (h:CompAt w b o c):w.cell? ⟨b,o+10,none⟩=some (.slice c.v.oa c.v.ol c.v.oc):=h.c6.c4
theorem EntryAt.c4 {w:World} {b o:Nat} {c:EC} (h:EntryAt w b o c):w.cell? ⟨b,o+4,none⟩=some (.int .i64 c.v.n):=h.c3.c1
theorem EntryAt.c5 {w:World} {b o:Nat} {c:EC} (h:EntryAt w b o c):w.cell? ⟨b,o+5,none⟩=some (.string c.v.s):=h.c3.c2
theorem EntryAt.c6 {w:World} {b o:Nat} {c:EC} (h:EntryAt w b o c):w.cell? ⟨b,o+6,none⟩=some (.slice c.v.la c.v.ll c.v.lc):=h.c3.c3
theorem EntryAt.c7 {w:World} {b o:Nat} {c:EC} (h:EntryAt w b o c):w.cell? ⟨b,o+7,none⟩=some (.slice c.v.oa c.v.ol c.v.oc):=h.c3.c4
theorem Boxed1.next {w W W1 W2:World} {B:Nat} {c:VC} (h:Boxed1 w W c) (hb:Below B W1 W2) (hW:Below W.heap.size W W1) (hB:B=W1.heap.size):Boxed1 w W2 c:=by
  subst hB;exact (h.step hW).step hb
theorem Boxed1C.next {w W W1 W2:World} {B:Nat} {c:CC} (h:Boxed1C w W c) (hb:Below B W1 W2) (hW:Below W.heap.size W W1) (hB:B=W1.heap.size):Boxed1C w W2 c:=by
  subst hB;exact (h.step hW).step hb
def lightB (v:V):Bool:=v.sound && decide (v.deep≤16) && decide (v.weight≤20000)
set_option maxHeartbeats 4000000 in
set_option maxRecDepth 100000 in
theorem light_any (v:V) (w:World) (hT:Tabs w) (c:VC) (hv:IsVal w w.heap.size v c) (hw:v.weight≤4611686018427387904):
    Calls Tryz.prog 56 #[.agg #[.int .u8 c.k, .int .i64 c.n, .string c.s, .slice c.la c.ll c.lc, .slice c.oa c.ol c.oc]] w fun e w'=>e= .returned (.bool (lightB v))∧Below w.heap.size w w':=by
  obtain ⟨sd,hsd⟩:∃sd,v.sound=sd:=⟨_,rfl⟩
  obtain ⟨dp,hdp⟩:∃dp,v.deep=dp:=⟨_,rfl⟩
  obtain ⟨wt,hwt⟩:∃wt,v.weight=wt:=⟨_,rfl⟩
  have HSD:Hid (Behind w 92 #[.agg #[.int .u8 c.k, .int .i64 c.n, .string c.s, .slice c.la c.ll c.lc, .slice c.oa c.ol c.oc]] (.bool sd)):=fun W hW=>by rw [←hsd];exact valSound_any v W c (hv.later_ hW) (hT.below hW)
  have HDP:Hid (Behind w 93 #[.agg #[.int .u8 c.k, .int .i64 c.n, .string c.s, .slice c.la c.ll c.lc, .slice c.oa c.ol c.oc]] (.int .i64 dp)):=fun W hW=>by rw [←hdp];exact valDeep_any v hw W c (hv.later_ hW)
  have HWT:Hid (Behind w 94 #[.agg #[.int .u8 c.k, .int .i64 c.n, .string c.s, .slice c.la c.ll c.lc, .slice c.oa c.ol c.oc]] (.int .i64 wt)):=fun W hW=>by rw [←hwt];exact valWeight_any v hw W c (hv.later_ hW)
  have k4:wt≤4611686018427387904:=by omega
  have k5:dp≤4611686018427387904:=by have:=v.deep_lt;omega
  have hR2:lightB v=(sd && decide (dp≤16) && decide (wt≤20000)):=by rw [lightB,hsd,hdp,hwt]
  have HR:=Lib.hid hR2
  have bx:=boxed1_start w c 28
  clear hsd hdp hwt hR2 hv hw hT
  go_enter Tryz.func56,Tryz.ntmps56
  cases sd with
  |false=>go_wp2_with (go_at_call 92;(with_reducible refine (Behind.at_ (HSD.out) ?_).mono ?_);(focus (have:=bx.below;have:=bx.size;go_grown));rintro e w1 ⟨rfl,hb1⟩;replace bx:=bx.next hb1 (by go_grown) rfl;have zs:w.heap.size<w1.heap.size:=bx.size;have y0:=bx.a.c0;have y1:=bx.a.c1;have y2:=bx.a.c2;have y3:=bx.a.c3;have y4:=bx.a.c4);go_ret;exact ⟨ret_bool (by rw [HR.out];first|(simp [*];done)|(simp [*];try omega)),by have:=bx.below;have:=bx.size;go_grown⟩
  |true=>
  go_wp2_with (go_at_call 92;(with_reducible refine (Behind.at_ (HSD.out) ?_).mono ?_);(focus (have:=bx.below;have:=bx.size;go_grown));rintro e w1 ⟨rfl,hb1⟩;replace bx:=bx.next hb1 (by go_grown) rfl;have zs:w.heap.size<w1.heap.size:=bx.size;have y0:=bx.a.c0;have y1:=bx.a.c1;have y2:=bx.a.c2;have y3:=bx.a.c3;have y4:=bx.a.c4)
  by_cases hd:dp≤16
  case neg=>
    have hdB:decide ((dp:Int)≤16)=false:=by simp;omega
    go_wp2_with (go_at_call 93;(with_reducible refine (Behind.at_ (HDP.out) ?_).mono ?_);(focus (have:=bx.below;have:=bx.size;go_grown));rintro e w1 ⟨rfl,hb1⟩;replace bx:=bx.next hb1 (by go_grown) rfl;have zs:w.heap.size<w1.heap.size:=bx.size;have y0:=bx.a.c0;have y1:=bx.a.c1;have y2:=bx.a.c2;have y3:=bx.a.c3;have y4:=bx.a.c4);go_ret;exact ⟨ret_bool (by rw [HR.out];first|(simp [*];done)|(simp [*];try omega)),by have:=bx.below;have:=bx.size;go_grown⟩
  have hdB:decide ((dp:Int)≤16)=true:=by simp;omega
  go_wp2_with (first|(go_at_call 93;(with_reducible refine (Behind.at_ (HDP.out) ?_).mono ?_);(focus (have:=bx.below;have:=bx.size;go_grown));rintro e w1 ⟨rfl,hb1⟩;replace bx:=bx.next hb1 (by go_grown) rfl;have zs:w.heap.size<w1.heap.size:=bx.size;have y0:=bx.a.c0;have y1:=bx.a.c1;have y2:=bx.a.c2;have y3:=bx.a.c3;have y4:=bx.a.c4)|(go_at_call 94;(with_reducible refine (Behind.at_ (HWT.out) ?_).mono ?_);(focus (have:=bx.below;have:=bx.size;go_grown));rintro e w1 ⟨rfl,hb1⟩;replace bx:=bx.next hb1 (by go_grown) rfl;have zs:w.heap.size<w1.heap.size:=bx.size;have y0:=bx.a.c0;have y1:=bx.a.c1;have y2:=bx.a.c2;have y3:=bx.a.c3;have y4:=bx.a.c4))
  go_ret;exact ⟨ret_bool (by rw [HR.out];first|(simp [*];done)|(simp [*];try omega)),by have:=bx.below;have:=bx.size;go_grown⟩
set_option maxHeartbeats 4000000 in
set_option maxRecDepth 100000 in
theorem refLight_any (v:V) (w:World) (hT:Tabs w) (c:VC) (hv:IsVal w w.heap.size v c) (hw:v.weight≤4611686018427387904):
    Calls Tryz.prog 52 #[.agg #[.int .u8 c.k, .int .i64 c.n, .string c.s, .slice c.la c.ll c.lc, .slice c.oa c.ol c.oc]] w fun e w'=>e= .returned (.bool (lightB v))∧Below w.heap.size w w':=by
  obtain ⟨sd,hsd⟩:∃sd,v.sound=sd:=⟨_,rfl⟩
  obtain ⟨dp,hdp⟩:∃dp,v.deep=dp:=⟨_,rfl⟩
  obtain ⟨wt,hwt⟩:∃wt,v.weight=wt:=⟨_,rfl⟩
  have HSD:Hid (Behind w 85 #[.agg #[.int .u8 c.k, .int .i64 c.n, .string c.s, .slice c.la c.ll c.lc, .slice c.oa c.ol c.oc]] (.bool sd)):=fun W hW=>by rw [←hsd];exact refSound_any v W c (hv.later_ hW) (hT.below hW)
  have HDP:Hid (Behind w 86 #[.agg #[.int .u8 c.k, .int .i64 c.n, .string c.s, .slice c.la c.ll c.lc, .slice c.oa c.ol c.oc]] (.int .i64 dp)):=fun W hW=>by rw [←hdp];exact refDeep_any v W c (hv.later_ hW) hw
  have HWT:Hid (Behind w 87 #[.agg #[.int .u8 c.k, .int .i64 c.n, .string c.s, .slice c.la c.ll c.lc, .slice c.oa c.ol c.oc]] (.int .i64 wt)):=fun W hW=>by rw [←hwt];exact refWeight_any v W c (hv.later_ hW) hw
  have k4:wt≤4611686018427387904:=by omega
  have k5:dp≤4611686018427387904:=by have:=v.deep_lt;omega
  have hR2:lightB v=(sd && decide (dp≤16) && decide (wt≤20000)):=by rw [lightB,hsd,hdp,hwt]
  have HR:=Lib.hid hR2
  have bx:=boxed1_start w c 28
  clear hsd hdp hwt hR2 hv hw hT
  go_enter Tryz.func52,Tryz.ntmps52
  cases sd with
  |false=>go_wp2_with (go_at_call 85;(with_reducible refine (Behind.at_ (HSD.out) ?_).mono ?_);(focus (have:=bx.below;have:=bx.size;go_grown));rintro e w1 ⟨rfl,hb1⟩;replace bx:=bx.next hb1 (by go_grown) rfl;have zs:w.heap.size<w1.heap.size:=bx.size;have y0:=bx.a.c0;have y1:=bx.a.c1;have y2:=bx.a.c2;have y3:=bx.a.c3;have y4:=bx.a.c4);go_ret;exact ⟨ret_bool (by rw [HR.out];first|(simp [*];done)|(simp [*];try omega)),by have:=bx.below;have:=bx.size;go_grown⟩
  |true=>
  go_wp2_with (go_at_call 85;(with_reducible refine (Behind.at_ (HSD.out) ?_).mono ?_);(focus (have:=bx.below;have:=bx.size;go_grown));rintro e w1 ⟨rfl,hb1⟩;replace bx:=bx.next hb1 (by go_grown) rfl;have zs:w.heap.size<w1.heap.size:=bx.size;have y0:=bx.a.c0;have y1:=bx.a.c1;have y2:=bx.a.c2;have y3:=bx.a.c3;have y4:=bx.a.c4)
  by_cases hd:dp≤16
  case neg=>
    have hdB:decide ((dp:Int)≤16)=false:=by simp;omega
    go_wp2_with (go_at_call 86;(with_reducible refine (Behind.at_ (HDP.out) ?_).mono ?_);(focus (have:=bx.below;have:=bx.size;go_grown));rintro e w1 ⟨rfl,hb1⟩;replace bx:=bx.next hb1 (by go_grown) rfl;have zs:w.heap.size<w1.heap.size:=bx.size;have y0:=bx.a.c0;have y1:=bx.a.c1;have y2:=bx.a.c2;have y3:=bx.a.c3;have y4:=bx.a.c4);go_ret;exact ⟨ret_bool (by rw [HR.out];first|(simp [*];done)|(simp [*];try omega)),by have:=bx.below;have:=bx.size;go_grown⟩
  have hdB:decide ((dp:Int)≤16)=true:=by simp;omega
  go_wp2_with (first|(go_at_call 86;(with_reducible refine (Behind.at_ (HDP.out) ?_).mono ?_);(focus (have:=bx.below;have:=bx.size;go_grown));rintro e w1 ⟨rfl,hb1⟩;replace bx:=bx.next hb1 (by go_grown) rfl;have zs:w.heap.size<w1.heap.size:=bx.size;have y0:=bx.a.c0;have y1:=bx.a.c1;have y2:=bx.a.c2;have y3:=bx.a.c3;have y4:=bx.a.c4)|(go_at_call 87;(with_reducible refine (Behind.at_ (HWT.out) ?_).mono ?_);(focus (have:=bx.below;have:=bx.size;go_grown));rintro e w1 ⟨rfl,hb1⟩;replace bx:=bx.next hb1 (by go_grown) rfl;have zs:w.heap.size<w1.heap.size:=bx.size;have y0:=bx.a.c0;have y1:=bx.a.c1;have y2:=bx.a.c2;have y3:=bx.a.c3;have y4:=bx.a.c4))
  go_ret;exact ⟨ret_bool (by rw [HR.out];first|(simp [*];done)|(simp [*];try omega)),by have:=bx.below;have:=bx.size;go_grown⟩
set_option maxHeartbeats 2000000 in
set_option maxRecDepth 100000 in
theorem indexComp_any (l:List Cm) (w:World) (a:Option Addr) (n c:Nat) (h:IsComps w w.heap.size l a n c) (p:Cm→Bool) (g:Nat) (eg:∀args w,(callFunc g args).run Tryz.prog w= .ok (.enter g args) w)
    (hg:∀(x:Cm) (d:CC) (W:World),x ∈ l→Below w.heap.size w W→IsComp W W.heap.size x d→Calls Tryz.prog g #[.agg #[.int .u8 d.k, .slice d.pa d.pl d.pc, .string d.key, .int .i64 d.i, .int .i64 d.j, .int .i64 d.n, .int .u8 d.v.k, .int .i64 d.v.n, .string d.v.s, .slice d.v.la d.v.ll d.v.lc, .slice d.v.oa d.v.ol d.v.oc, .string d.s]] W fun e w'=>e= .returned (.bool (p x))∧Below W.heap.size W w'):
    Calls Tryz.prog 95 #[.slice a n c, .func (.func g) #[] #[]] w fun e w'=>(∃r:Int,e= .returned (.int .i64 r)∧Hid (decide (0≤r)=l.any p)∧ -1≤r∧r≤9223372036854775807)∧Below w.heap.size w w':=by
  have k1:=h.max;have k2:=h.few
  have HLn:=Lib.hid h.len
  have HG:=Lib.hid hg
  clear hg
  go_enter Tryz.func95,Tryz.ntmps95
  go_wp2_with fail
  go_loopw [5,8] (fun _ i wr=>∃k:Nat,k≤n∧i= .int .i64 k∧Hid (∀j,j<k→∀hj:j<l.length,p l[j] =false)∧Below w.heap.size w wr) (fun _ i _=>n - (intOf i).toNat)
  case atStart=>exact ⟨0,Nat.zero_le _,rfl,fun j hj=>by omega,Below.refl _ _⟩
  case round=>
    obtain ⟨k,hk,rfl,HJ,hB⟩:=hrel
    by_cases hlt:k<n
    · obtain ⟨b,o,d,kl,rfl,hb,x1,xb⟩:=h.get hlt
      have x1:=x1.keep hB hb
      have r0:=x1.c0;have r1:=x1.c1;have r2:=x1.c2;have r3:=x1.c3;have r4:=x1.c4;have r5:=x1.c5;have r6:=x1.c6.c0;have r7:=x1.c7;have r8:=x1.c8;have r9:=x1.c9;have r10:=x1.c10;have r11:=x1.c11
      have hc:=HG.out l[k] d wr (List.getElem_mem kl) hB (xb.later_ hB)
      clear x1 h
      generalize hx:p l[k] =bx at hc
      have HX:=Lib.hid hx
      have HC:=Lib.hid hc
      clear hx hc
      cases bx with
      | false=>
        go_wp2_with (go_at_fn g;refine HC.out.mono ?_;rintro e w' ⟨rfl,hb'⟩)
        go_roundw
        case rel=>exact ⟨k+1,by omega,by go_num,none_step HJ kl HX.out,hB.on hb' hB.size⟩
        case measure=>simp [intOf];omega
      | true=>
        go_wp2_with (go_at_fn g;refine HC.out.mono ?_;rintro e w' ⟨rfl,hb'⟩)
        go_ret
        exact ⟨⟨k,rfl,by show _=_;rw [any_hit kl HX.out];simp,by omega,by omega⟩,hB.on hb' hB.size⟩
    · go_wp2_with fail
      go_ret
      exact ⟨⟨-1,rfl,by show _=_;rw [any_none (n:=n) HLn.out (fun j hj=>HJ.out j (by omega))];rfl,by omega,by omega⟩,hB⟩
set_option maxHeartbeats 2000000 in
set_option maxRecDepth 100000 in
theorem containsComp_any (l:List Cm) (w:World) (a:Option Addr) (n c:Nat) (h:IsComps w w.heap.size l a n c) (p:Cm→Bool) (g:Nat) (eg:∀args w,(callFunc g args).run Tryz.prog w= .ok (.enter g args) w)
    (hg:∀(x:Cm) (d:CC) (W:World),x ∈ l→Below w.heap.size w W→IsComp W W.heap.size x d→Calls Tryz.prog g #[.agg #[.int .u8 d.k, .slice d.pa d.pl d.pc, .string d.key, .int .i64 d.i, .int .i64 d.j, .int .i64 d.n, .int .u8 d.v.k, .int .i64 d.v.n, .string d.v.s, .slice d.v.la d.v.ll d.v.lc, .slice d.v.oa d.v.ol d.v.oc, .string d.s]] W fun e w'=>e= .returned (.bool (p x))∧Below W.heap.size W w'):
    Calls Tryz.prog 57 #[.slice a n c, .func (.func g) #[] #[]] w fun e w'=>e= .returned (.bool (l.any p))∧Below w.heap.size w w':=by
  have k1:=h.max;have k2:=h.few
  have hc:=indexComp_any l w a n c h p g eg hg
  have HC:=Lib.hid hc
  clear hg hc h eg
  go_enter Tryz.func57,Tryz.ntmps57
  go_wp2_with (go_at_call 95;refine HC.out.mono ?_;rintro e w' ⟨⟨r,rfl,hr,h1,h2⟩,hb⟩)
  go_ret
  exact ⟨ret_bool (by rw [←hr.out]),hb⟩
set_option maxHeartbeats 2000000 in
set_option maxRecDepth 100000 in
theorem compBad_any (x:Cm) (w:World) (hT:Tabs w) (c:CC) (hx:IsComp w w.heap.size x c) (hw:x.v.weight≤4611686018427387904):
    Calls Tryz.prog 58 #[.agg #[.int .u8 c.k, .slice c.pa c.pl c.pc, .string c.key, .int .i64 c.i, .int .i64 c.j, .int .i64 c.n, .int .u8 c.v.k, .int .i64 c.v.n, .string c.v.s, .slice c.v.la c.v.ll c.v.lc, .slice c.v.oa c.v.ol c.v.oc, .string c.s]] w fun e w'=>e= .returned (.bool (!cmSound x))∧Below w.heap.size w w':=by
  have HC:Hid (∀W,Below w.heap.size w W→Calls Tryz.prog 59 #[.agg #[.int .u8 c.k, .slice c.pa c.pl c.pc, .string c.key, .int .i64 c.i, .int .i64 c.j, .int .i64 c.n, .int .u8 c.v.k, .int .i64 c.v.n, .string c.v.s, .slice c.v.la c.v.ll c.v.lc, .slice c.v.oa c.v.ol c.v.oc, .string c.s]] W fun e w'=>e= .returned (.bool (cmSound x))∧Below W.heap.size W w'):=fun W hW=>compSound_any x W (hT.below hW) c (hx.later_ hW) hw
  clear hx hT
  go_enter Tryz.func58,Tryz.ntmps58
  go_wp2_with (go_at_call 59;refine (HC.out _ ((Below.refl _ _).alloc (Nat.le_refl _) _)).mono ?_;rintro e w' ⟨rfl,hb⟩)
  go_ret
  exact ⟨rfl,hb.one⟩
end Go.Proofs.YthceefjafklcmaaGreatDoor
namespace Go.Proofs.YthceefjafklcmaaGreatDoor
open Go.RowKit
noncomputable def enSound (e:En):Bool:=
  if e.k=1 then lightB e.v && (e.op.length==0)
  else if e.k=2 then eqv e.v V.none && decide (e.op.length≤200) && !e.op.any (fun x=> !cmSound x)
  else if e.k=3 then eqv e.v V.none && (e.op.length==0)
  else false
def En.small (e:En):Prop:=e.v.weight≤4611686018427387904∧∀x ∈ e.op,x.v.weight≤4611686018427387904
structure Boxed1E (w W:World) (c:EC):Prop where
  at_:EntryAt W w.heap.size 0 c
  below:Below w.heap.size w W
  size:w.heap.size+1≤W.heap.size
theorem Boxed1E.step {w W W':World} {c:EC} (h:Boxed1E w W c) (hb:Below W.heap.size W W'):Boxed1E w W' c:=
  ⟨h.at_.keep hb (by have:=h.size;omega),h.below.trans (hb.mono (by have:=h.size;omega)),by have:=h.size;have:=hb.size;omega⟩
theorem Boxed1E.next {w W W1 W2:World} {B:Nat} {c:EC} (h:Boxed1E w W c) (hb:Below B W1 W2) (hW:Below W.heap.size W W1) (hB:B=W1.heap.size):Boxed1E w W2 c:=by
  subst hB;exact (h.step hW).step hb
theorem boxed1E_start (w:World) (c:EC) (t:TypeId):Boxed1E w (w.alloc (.cells #[.int .u8 c.k, .int .u32 c.src, .int .u32 c.seq, .int .u8 c.v.k, .int .i64 c.v.n, .string c.v.s, .slice c.v.la c.v.ll c.v.lc, .slice c.v.oa c.v.ol c.v.oc, .slice c.oa c.ol c.oc] t)) c:=
  ⟨⟨cells_new _ _ _ _ _ rfl,cells_new _ _ _ _ _ rfl,cells_new _ _ _ _ _ rfl,⟨cells_new _ _ _ _ _ rfl,cells_new _ _ _ _ _ rfl,cells_new _ _ _ _ _ rfl,cells_new _ _ _ _ _ rfl,cells_new _ _ _ _ _ rfl⟩,cells_new _ _ _ _ _ rfl⟩,(Below.refl _ _).alloc (Nat.le_refl _) _,by simp⟩
set_option maxHeartbeats 4000000 in
set_option maxRecDepth 100000 in
theorem enSound_any (x:En) (w:World) (hT:Tabs w) (c:EC) (hx:IsEntry w w.heap.size x c) (hs:x.small):
    Calls Tryz.prog 36 #[.agg #[.int .u8 c.k, .int .u32 c.src, .int .u32 c.seq, .int .u8 c.v.k, .int .i64 c.v.n, .string c.v.s, .slice c.v.la c.v.ll c.v.lc, .slice c.v.oa c.v.ol c.v.oc, .slice c.oa c.ol c.oc]] w fun e w'=>e= .returned (.bool (enSound x))∧Below w.heap.size w w':=by
  cases hx with
  |mk c v l hbd hv ho=>
  obtain ⟨hs1,hs2⟩:=hs
  dsimp only at hs1 hs2
  obtain ⟨vn,hvn⟩:∃vn,eqv v V.none=vn:=⟨_,rfl⟩
  obtain ⟨li,hli⟩:∃li,lightB v=li:=⟨_,rfl⟩
  obtain ⟨al,hal⟩:∃al,l.any (fun x=> !cmSound x)=al:=⟨_,rfl⟩
  have HLn:=Lib.hid ho.len
  have k1:=ho.few;have k2:=ho.max;have k3:=ho.cap
  have hR2:enSound ⟨c.k,c.src,c.seq,v,l⟩=(if c.k=1 then li && (c.ol==0) else if c.k=2 then vn && decide (c.ol≤200) && !al else if c.k=3 then vn && (c.ol==0) else false):=by
    rw [enSound,hvn,hli,hal, ←HLn.out]
  have HR:=Lib.hid hR2
  have HVN:Hid (Behind w 37 #[.agg #[.int .u8 c.v.k, .int .i64 c.v.n, .string c.v.s, .slice c.v.la c.v.ll c.v.lc, .slice c.v.oa c.v.ol c.v.oc], .agg #[.int .u8 0, .int .i64 0, .string { data:= #[] }, .slice none 0 0, .slice none 0 0]] (.bool vn)):=fun W hW=>by rw [←hvn];exact valSame_any v V.none W c.v VC.none (hv.later_ hW) (isVal_none _ _)
  have HLI:Hid (Behind w 56 #[.agg #[.int .u8 c.v.k, .int .i64 c.v.n, .string c.v.s, .slice c.v.la c.v.ll c.v.lc, .slice c.v.oa c.v.ol c.v.oc]] (.bool li)):=fun W hW=>by rw [←hli];exact light_any v W (hT.below hW) c.v (hv.later_ hW) hs1
  have HCO:Hid (Behind w 57 #[.slice c.oa c.ol c.oc, .func (.func 58) #[] #[]] (.bool al)):=fun W hW=>by
    rw [←hal]
    exact containsComp_any l W c.oa c.ol c.oc (ho.later_ hW) (fun x=> !cmSound x) 58 (enters_of Tryz.func58 (by kernel_rfl) rfl) (fun x d W' hx hW' hd=>compBad_any x W' (hT.below (hW.trans (hW'.mono hW.size))) d hd (hs2 x hx))
  have bx:=boxed1E_start w c 31
  clear hvn hli hR2 hv hbd
  by_cases e1:c.k=1
  · have f1:(c.k==1)=true:=by simp [e1]
    have hR3:enSound ⟨c.k,c.src,c.seq,v,l⟩=(li && (c.ol==0)):=by rw [HR.out,if_pos e1]
    have HR:=Lib.hid hR3
    clear e1 hR3 hT hs2 ho hal
    go_enter Tryz.func36,Tryz.ntmps36
    cases li with
    | false=>
      go_wp2_with (first|(go_at_call 37;(with_reducible refine (Behind.at_ (HVN.out) ?_).mono ?_);(focus (have:=bx.below;have:=bx.size;go_grown));rintro e w1 ⟨rfl,hb1⟩;replace bx:=bx.next hb1 (by go_grown) rfl;have zs:w.heap.size<w1.heap.size:=bx.size;have z0:=bx.at_.c0;have y0:=bx.at_.c3.c0;have y1:=bx.at_.c3.c1;have y2:=bx.at_.c3.c2;have y3:=bx.at_.c3.c3;have y4:=bx.at_.c3.c4;have z8:=bx.at_.c8)|(go_at_call 56;(with_reducible refine (Behind.at_ (HLI.out) ?_).mono ?_);(focus (have:=bx.below;have:=bx.size;go_grown));rintro e w1 ⟨rfl,hb1⟩;replace bx:=bx.next hb1 (by go_grown) rfl;have zs:w.heap.size<w1.heap.size:=bx.size;have z0:=bx.at_.c0;have y0:=bx.at_.c3.c0;have y1:=bx.at_.c3.c1;have y2:=bx.at_.c3.c2;have y3:=bx.at_.c3.c3;have y4:=bx.at_.c3.c4;have z8:=bx.at_.c8));go_ret;exact ⟨ret_bool (by first|(rw [HR.out];done)|(rw [HR.out];simp [*];done)|(rw [HR.out];simp [*];try omega)),by have:=bx.below;have:=bx.size;go_grown⟩
    | true=>
      by_cases hn:c.ol=0
      · have f2:((c.ol:Int)==0)=true:=by simp [hn]
        have f4:(c.ol==0)=true:=by simp [hn]
        clear hn
        go_wp2_with (first|(go_at_call 37;(with_reducible refine (Behind.at_ (HVN.out) ?_).mono ?_);(focus (have:=bx.below;have:=bx.size;go_grown));rintro e w1 ⟨rfl,hb1⟩;replace bx:=bx.next hb1 (by go_grown) rfl;have zs:w.heap.size<w1.heap.size:=bx.size;have z0:=bx.at_.c0;have y0:=bx.at_.c3.c0;have y1:=bx.at_.c3.c1;have y2:=bx.at_.c3.c2;have y3:=bx.at_.c3.c3;have y4:=bx.at_.c3.c4;have z8:=bx.at_.c8)|(go_at_call 56;(with_reducible refine (Behind.at_ (HLI.out) ?_).mono ?_);(focus (have:=bx.below;have:=bx.size;go_grown));rintro e w1 ⟨rfl,hb1⟩;replace bx:=bx.next hb1 (by go_grown) rfl;have zs:w.heap.size<w1.heap.size:=bx.size;have z0:=bx.at_.c0;have y0:=bx.at_.c3.c0;have y1:=bx.at_.c3.c1;have y2:=bx.at_.c3.c2;have y3:=bx.at_.c3.c3;have y4:=bx.at_.c3.c4;have z8:=bx.at_.c8));go_ret;exact ⟨ret_bool (by first|(rw [HR.out];done)|(rw [HR.out];simp [*];done)|(rw [HR.out];simp [*];try omega)),by have:=bx.below;have:=bx.size;go_grown⟩
      · have f2:((c.ol:Int)==0)=false:=by simp [hn]
        have f4:(c.ol==0)=false:=by simp [hn]
        clear hn
        go_wp2_with (first|(go_at_call 37;(with_reducible refine (Behind.at_ (HVN.out) ?_).mono ?_);(focus (have:=bx.below;have:=bx.size;go_grown));rintro e w1 ⟨rfl,hb1⟩;replace bx:=bx.next hb1 (by go_grown) rfl;have zs:w.heap.size<w1.heap.size:=bx.size;have z0:=bx.at_.c0;have y0:=bx.at_.c3.c0;have y1:=bx.at_.c3.c1;have y2:=bx.at_.c3.c2;have y3:=bx.at_.c3.c3;have y4:=bx.at_.c3.c4;have z8:=bx.at_.c8)|(go_at_call 56;(with_reducible refine (Behind.at_ (HLI.out) ?_).mono ?_);(focus (have:=bx.below;have:=bx.size;go_grown));rintro e w1 ⟨rfl,hb1⟩;replace bx:=bx.next hb1 (by go_grown) rfl;have zs:w.heap.size<w1.heap.size:=bx.size;have z0:=bx.at_.c0;have y0:=bx.at_.c3.c0;have y1:=bx.at_.c3.c1;have y2:=bx.at_.c3.c2;have y3:=bx.at_.c3.c3;have y4:=bx.at_.c3.c4;have z8:=bx.at_.c8));go_ret;exact ⟨ret_bool (by first|(rw [HR.out];done)|(rw [HR.out];simp [*];done)|(rw [HR.out];simp [*];try omega)),by have:=bx.below;have:=bx.size;go_grown⟩
  have f1:(c.k==1)=false:=by simp [e1]
  by_cases e2:c.k=2
  · have f2:(c.k==2)=true:=by simp [e2]
    have hR3:enSound ⟨c.k,c.src,c.seq,v,l⟩=(vn && decide (c.ol≤200) && !al):=by rw [HR.out,if_neg e1,if_pos e2]
    have HR:=Lib.hid hR3
    clear e1 e2 hR3
    clear hT hs2 ho hal
    go_enter Tryz.func36,Tryz.ntmps36
    cases vn with
    |false=>go_wp2_with (go_at_call 37;(with_reducible refine (Behind.at_ (HVN.out) ?_).mono ?_);(focus (have:=bx.below;have:=bx.size;go_grown));rintro e w1 ⟨rfl,hb1⟩;replace bx:=bx.next hb1 (by go_grown) rfl;have zs:w.heap.size<w1.heap.size:=bx.size;have z0:=bx.at_.c0;have y0:=bx.at_.c3.c0;have y1:=bx.at_.c3.c1;have y2:=bx.at_.c3.c2;have y3:=bx.at_.c3.c3;have y4:=bx.at_.c3.c4;have z8:=bx.at_.c8);go_ret;exact ⟨ret_bool (by first|(rw [HR.out];done)|(rw [HR.out];simp [*];done)|(rw [HR.out];simp [*];try omega)),by have:=bx.below;have:=bx.size;go_grown⟩
    | true=>
      by_cases hn:c.ol≤200
      case neg=>
        have f3:((c.ol:Int)≤200)=False:=by simp;omega
        go_wp2_with (go_at_call 37;(with_reducible refine (Behind.at_ (HVN.out) ?_).mono ?_);(focus (have:=bx.below;have:=bx.size;go_grown));rintro e w1 ⟨rfl,hb1⟩;replace bx:=bx.next hb1 (by go_grown) rfl;have zs:w.heap.size<w1.heap.size:=bx.size;have z0:=bx.at_.c0;have y0:=bx.at_.c3.c0;have y1:=bx.at_.c3.c1;have y2:=bx.at_.c3.c2;have y3:=bx.at_.c3.c3;have y4:=bx.at_.c3.c4;have z8:=bx.at_.c8);go_ret;exact ⟨ret_bool (by first|(rw [HR.out];done)|(rw [HR.out];simp [*];done)|(rw [HR.out];simp [*];try omega)),by have:=bx.below;have:=bx.size;go_grown⟩
      have f3:((c.ol:Int)≤200)=True:=by simp;omega
      go_wp2_with (first|(go_at_call 37;(with_reducible refine (Behind.at_ (HVN.out) ?_).mono ?_);(focus (have:=bx.below;have:=bx.size;go_grown));rintro e w1 ⟨rfl,hb1⟩;replace bx:=bx.next hb1 (by go_grown) rfl;have zs:w.heap.size<w1.heap.size:=bx.size;have z0:=bx.at_.c0;have y0:=bx.at_.c3.c0;have y1:=bx.at_.c3.c1;have y2:=bx.at_.c3.c2;have y3:=bx.at_.c3.c3;have y4:=bx.at_.c3.c4;have z8:=bx.at_.c8)|(go_at_call 57;(with_reducible refine (Behind.at_ (HCO.out) ?_).mono ?_);(focus (have:=bx.below;have:=bx.size;go_grown));rintro e w1 ⟨rfl,hb1⟩;replace bx:=bx.next hb1 (by go_grown) rfl;have zs:w.heap.size<w1.heap.size:=bx.size;have z0:=bx.at_.c0;have y0:=bx.at_.c3.c0;have y1:=bx.at_.c3.c1;have y2:=bx.at_.c3.c2;have y3:=bx.at_.c3.c3;have y4:=bx.at_.c3.c4;have z8:=bx.at_.c8))
      go_ret;exact ⟨ret_bool (by first|(rw [HR.out];done)|(rw [HR.out];simp [*];done)|(rw [HR.out];simp [*];try omega)),by have:=bx.below;have:=bx.size;go_grown⟩
  have f2:(c.k==2)=false:=by simp [e2]
  by_cases e3:c.k=3
  · have f3:(c.k==3)=true:=by simp [e3]
    have hR3:enSound ⟨c.k,c.src,c.seq,v,l⟩=(vn && (c.ol==0)):=by rw [HR.out,if_neg e1,if_neg e2,if_pos e3]
    have HR:=Lib.hid hR3
    clear e1 e2 e3 hR3 hT hs2 ho hal
    go_enter Tryz.func36,Tryz.ntmps36
    cases vn with
    |false=>go_wp2_with (go_at_call 37;(with_reducible refine (Behind.at_ (HVN.out) ?_).mono ?_);(focus (have:=bx.below;have:=bx.size;go_grown));rintro e w1 ⟨rfl,hb1⟩;replace bx:=bx.next hb1 (by go_grown) rfl;have zs:w.heap.size<w1.heap.size:=bx.size;have z0:=bx.at_.c0;have y0:=bx.at_.c3.c0;have y1:=bx.at_.c3.c1;have y2:=bx.at_.c3.c2;have y3:=bx.at_.c3.c3;have y4:=bx.at_.c3.c4;have z8:=bx.at_.c8);go_ret;exact ⟨ret_bool (by first|(rw [HR.out];done)|(rw [HR.out];simp [*];done)|(rw [HR.out];simp [*];try omega)),by have:=bx.below;have:=bx.size;go_grown⟩
    | true=>
      by_cases hn:c.ol=0
      · have f2:((c.ol:Int)==0)=true:=by simp [hn]
        have f4:(c.ol==0)=true:=by simp [hn]
        clear hn
        go_wp2_with (go_at_call 37;(with_reducible refine (Behind.at_ (HVN.out) ?_).mono ?_);(focus (have:=bx.below;have:=bx.size;go_grown));rintro e w1 ⟨rfl,hb1⟩;replace bx:=bx.next hb1 (by go_grown) rfl;have zs:w.heap.size<w1.heap.size:=bx.size;have z0:=bx.at_.c0;have y0:=bx.at_.c3.c0;have y1:=bx.at_.c3.c1;have y2:=bx.at_.c3.c2;have y3:=bx.at_.c3.c3;have y4:=bx.at_.c3.c4;have z8:=bx.at_.c8);go_ret;exact ⟨ret_bool (by first|(rw [HR.out];done)|(rw [HR.out];simp [*];done)|(rw [HR.out];simp [*];try omega)),by have:=bx.below;have:=bx.size;go_grown⟩
      · have f2:((c.ol:Int)==0)=false:=by simp [hn]
        have f4:(c.ol==0)=false:=by simp [hn]
        clear hn
        go_wp2_with (go_at_call 37;(with_reducible refine (Behind.at_ (HVN.out) ?_).mono ?_);(focus (have:=bx.below;have:=bx.size;go_grown));rintro e w1 ⟨rfl,hb1⟩;replace bx:=bx.next hb1 (by go_grown) rfl;have zs:w.heap.size<w1.heap.size:=bx.size;have z0:=bx.at_.c0;have y0:=bx.at_.c3.c0;have y1:=bx.at_.c3.c1;have y2:=bx.at_.c3.c2;have y3:=bx.at_.c3.c3;have y4:=bx.at_.c3.c4;have z8:=bx.at_.c8);go_ret;exact ⟨ret_bool (by first|(rw [HR.out];done)|(rw [HR.out];simp [*];done)|(rw [HR.out];simp [*];try omega)),by have:=bx.below;have:=bx.size;go_grown⟩
  have f3:(c.k==3)=false:=by simp [e3]
  have hR3:enSound ⟨c.k,c.src,c.seq,v,l⟩=false:=by rw [HR.out,if_neg e1,if_neg e2,if_neg e3]
  have HR:=Lib.hid hR3
  clear e1 e2 e3 hR3 hT hs2 ho hal
  go_enter Tryz.func36,Tryz.ntmps36
  go_wp2_with (go_at_call 37;(with_reducible refine (Behind.at_ (HVN.out) ?_).mono ?_);(focus (have:=bx.below;have:=bx.size;go_grown));rintro e w1 ⟨rfl,hb1⟩;replace bx:=bx.next hb1 (by go_grown) rfl;have zs:w.heap.size<w1.heap.size:=bx.size;have z0:=bx.at_.c0;have y0:=bx.at_.c3.c0;have y1:=bx.at_.c3.c1;have y2:=bx.at_.c3.c2;have y3:=bx.at_.c3.c3;have y4:=bx.at_.c3.c4;have z8:=bx.at_.c8);go_ret;exact ⟨ret_bool (by first|(rw [HR.out];done)|(rw [HR.out];simp [*];done)|(rw [HR.out];simp [*];try omega)),by have:=bx.below;have:=bx.size;go_grown⟩
set_option maxHeartbeats 4000000 in
set_option maxRecDepth 100000 in
theorem refEnSound_any (x:En) (w:World) (hT:Tabs w) (c:EC) (hx:IsEntry w w.heap.size x c) (hs:x.small):
    Calls Tryz.prog 31 #[.agg #[.int .u8 c.k, .int .u32 c.src, .int .u32 c.seq, .int .u8 c.v.k, .int .i64 c.v.n, .string c.v.s, .slice c.v.la c.v.ll c.v.lc, .slice c.v.oa c.v.ol c.v.oc, .slice c.oa c.ol c.oc]] w fun e w'=>e= .returned (.bool (enSound x))∧Below w.heap.size w w':=by
  cases hx with
  |mk c v l hbd hv ho=>
  obtain ⟨hs1,hs2⟩:=hs
  dsimp only at hs1 hs2
  obtain ⟨vn,hvn⟩:∃vn,eqv v V.none=vn:=⟨_,rfl⟩
  obtain ⟨li,hli⟩:∃li,lightB v=li:=⟨_,rfl⟩
  obtain ⟨al,hal⟩:∃al,l.any (fun x=> !cmSound x)=al:=⟨_,rfl⟩
  have HLn:=Lib.hid ho.len
  have k1:=ho.few;have k2:=ho.max;have k3:=ho.cap
  have hR2:enSound ⟨c.k,c.src,c.seq,v,l⟩=(if c.k=1 then li && (c.ol==0) else if c.k=2 then vn && decide (c.ol≤200) && !al else if c.k=3 then vn && (c.ol==0) else false):=by
    rw [enSound,hvn,hli,hal, ←HLn.out]
  have HR:=Lib.hid hR2
  have HVN:Hid (Behind w 18 #[.agg #[.int .u8 c.v.k, .int .i64 c.v.n, .string c.v.s, .slice c.v.la c.v.ll c.v.lc, .slice c.v.oa c.v.ol c.v.oc], .agg #[.int .u8 0, .int .i64 0, .string { data:= #[] }, .slice none 0 0, .slice none 0 0]] (.bool vn)):=fun W hW=>by rw [←hvn];exact refSame_any v V.none W c.v VC.none (hv.later_ hW) (isVal_none _ _)
  have HLI:Hid (Behind w 52 #[.agg #[.int .u8 c.v.k, .int .i64 c.v.n, .string c.v.s, .slice c.v.la c.v.ll c.v.lc, .slice c.v.oa c.v.ol c.v.oc]] (.bool li)):=fun W hW=>by rw [←hli];exact refLight_any v W (hT.below hW) c.v (hv.later_ hW) hs1
  have bx:=boxed1E_start w c 31
  clear hvn hli hR2 hv hbd
  by_cases e1:c.k=1
  · have f1:(c.k==1)=true:=by simp [e1]
    have hR3:enSound ⟨c.k,c.src,c.seq,v,l⟩=(li && (c.ol==0)):=by rw [HR.out,if_pos e1]
    have HR:=Lib.hid hR3
    clear e1 hR3 hT hs2 ho hal
    go_enter Tryz.func31,Tryz.ntmps31
    cases li with
    | false=>
      go_wp2_with (first|(go_at_call 18;(with_reducible refine (Behind.at_ (HVN.out) ?_).mono ?_);(focus (have:=bx.below;have:=bx.size;go_grown));rintro e w1 ⟨rfl,hb1⟩;replace bx:=bx.next hb1 (by go_grown) rfl;have zs:w.heap.size<w1.heap.size:=bx.size;have z0:=bx.at_.c0;have y0:=bx.at_.c3.c0;have y1:=bx.at_.c3.c1;have y2:=bx.at_.c3.c2;have y3:=bx.at_.c3.c3;have y4:=bx.at_.c3.c4;have z8:=bx.at_.c8)|(go_at_call 52;(with_reducible refine (Behind.at_ (HLI.out) ?_).mono ?_);(focus (have:=bx.below;have:=bx.size;go_grown));rintro e w1 ⟨rfl,hb1⟩;replace bx:=bx.next hb1 (by go_grown) rfl;have zs:w.heap.size<w1.heap.size:=bx.size;have z0:=bx.at_.c0;have y0:=bx.at_.c3.c0;have y1:=bx.at_.c3.c1;have y2:=bx.at_.c3.c2;have y3:=bx.at_.c3.c3;have y4:=bx.at_.c3.c4;have z8:=bx.at_.c8));go_ret;exact ⟨ret_bool (by first|(rw [HR.out];done)|(rw [HR.out];simp [*];done)|(rw [HR.out];simp [*];try omega)),by have:=bx.below;have:=bx.size;go_grown⟩
    | true=>
      by_cases hn:c.ol=0
      · have f2:((c.ol:Int)==0)=true:=by simp [hn]
        have f4:(c.ol==0)=true:=by simp [hn]
        clear hn
        go_wp2_with (first|(go_at_call 18;(with_reducible refine (Behind.at_ (HVN.out) ?_).mono ?_);(focus (have:=bx.below;have:=bx.size;go_grown));rintro e w1 ⟨rfl,hb1⟩;replace bx:=bx.next hb1 (by go_grown) rfl;have zs:w.heap.size<w1.heap.size:=bx.size;have z0:=bx.at_.c0;have y0:=bx.at_.c3.c0;have y1:=bx.at_.c3.c1;have y2:=bx.at_.c3.c2;have y3:=bx.at_.c3.c3;have y4:=bx.at_.c3.c4;have z8:=bx.at_.c8)|(go_at_call 52;(with_reducible refine (Behind.at_ (HLI.out) ?_).mono ?_);(focus (have:=bx.below;have:=bx.size;go_grown));rintro e w1 ⟨rfl,hb1⟩;replace bx:=bx.next hb1 (by go_grown) rfl;have zs:w.heap.size<w1.heap.size:=bx.size;have z0:=bx.at_.c0;have y0:=bx.at_.c3.c0;have y1:=bx.at_.c3.c1;have y2:=bx.at_.c3.c2;have y3:=bx.at_.c3.c3;have y4:=bx.at_.c3.c4;have z8:=bx.at_.c8));go_ret;exact ⟨ret_bool (by first|(rw [HR.out];done)|(rw [HR.out];simp [*];done)|(rw [HR.out];simp [*];try omega)),by have:=bx.below;have:=bx.size;go_grown⟩
      · have f2:((c.ol:Int)==0)=false:=by simp [hn]
        have f4:(c.ol==0)=false:=by simp [hn]
        clear hn
        go_wp2_with (first|(go_at_call 18;(with_reducible refine (Behind.at_ (HVN.out) ?_).mono ?_);(focus (have:=bx.below;have:=bx.size;go_grown));rintro e w1 ⟨rfl,hb1⟩;replace bx:=bx.next hb1 (by go_grown) rfl;have zs:w.heap.size<w1.heap.size:=bx.size;have z0:=bx.at_.c0;have y0:=bx.at_.c3.c0;have y1:=bx.at_.c3.c1;have y2:=bx.at_.c3.c2;have y3:=bx.at_.c3.c3;have y4:=bx.at_.c3.c4;have z8:=bx.at_.c8)|(go_at_call 52;(with_reducible refine (Behind.at_ (HLI.out) ?_).mono ?_);(focus (have:=bx.below;have:=bx.size;go_grown));rintro e w1 ⟨rfl,hb1⟩;replace bx:=bx.next hb1 (by go_grown) rfl;have zs:w.heap.size<w1.heap.size:=bx.size;have z0:=bx.at_.c0;have y0:=bx.at_.c3.c0;have y1:=bx.at_.c3.c1;have y2:=bx.at_.c3.c2;have y3:=bx.at_.c3.c3;have y4:=bx.at_.c3.c4;have z8:=bx.at_.c8));go_ret;exact ⟨ret_bool (by first|(rw [HR.out];done)|(rw [HR.out];simp [*];done)|(rw [HR.out];simp [*];try omega)),by have:=bx.below;have:=bx.size;go_grown⟩
  have f1:(c.k==1)=false:=by simp [e1]
  by_cases e2:c.k=2
  · have f2 :(c.k==2)=true:=by simp [e2]
    have hR3:enSound ⟨c.k,c.src,c.seq,v,l⟩=(vn && decide (c.ol≤200) && !al):=by rw [HR.out,if_neg e1,if_pos e2]
    have HR:=Lib.hid hR3
    clear e1 e2 hR3
    have HAL:=Lib.hid hal
    clear hal
    go_enter Tryz.func31,Tryz.ntmps31
    go_wp2_with (first|(go_at_call 18;(with_reducible refine (Behind.at_ (HVN.out) ?_).mono ?_);(focus (have:=bx.below;have:=bx.size;go_grown));rintro e w1 ⟨rfl,hb1⟩;replace bx:=bx.next hb1 (by go_grown) rfl;have zs:w.heap.size<w1.heap.size:=bx.size;have z0:=bx.at_.c0;have y0:=bx.at_.c3.c0;have y1:=bx.at_.c3.c1;have y2:=bx.at_.c3.c2;have y3:=bx.at_.c3.c3;have y4:=bx.at_.c3.c4;have z8:=bx.at_.c8))
    go_loopw [4] (fun i wr=>∃k:Nat,k≤c.ol∧i= .int .i64 k∧Hid (∀j,j<k→∀hj:j<l.length,(!cmSound l[j])=false)∧Boxed1E w wr c) (fun i _=>c.ol - (intOf i).toNat)
    case atStart=>exact ⟨0,Nat.zero_le _,rfl,fun j hj=>by omega,bx⟩
    case round=>
      clear y0 y1 y2 y3 y4 z0 z8 zs hb1 bx
      obtain ⟨k,hk,rfl,HJ,bx⟩:=hrel
      have z8:=bx.at_.c8
      by_cases hlt:k<c.ol
      · obtain ⟨b,o,d,kl,ho2,hb,x1,xb⟩:=ho.get hlt
        rw [ho2] at z8
        have x1:=x1.keep bx.below hb
        have r0:=x1.c0;have r1:=x1.c1;have r2:=x1.c2;have r3:=x1.c3;have r4:=x1.c4;have r5:=x1.c5;have r6:=x1.c6.c0;have r7:=x1.c7;have r8:=x1.c8;have r9:=x1.c9;have r10:=x1.c10;have r11:=x1.c11
        have HC:Hid (Calls Tryz.prog 53 #[.agg #[.int .u8 d.k, .slice d.pa d.pl d.pc, .string d.key, .int .i64 d.i, .int .i64 d.j, .int .i64 d.n, .int .u8 d.v.k, .int .i64 d.v.n, .string d.v.s, .slice d.v.la d.v.ll d.v.lc, .slice d.v.oa d.v.ol d.v.oc, .string d.s]] wr fun e w'=>e= .returned (.bool (cmSound l[k]))∧Below wr.heap.size wr w'):=ref06Sound_any l[k] wr (hT.below bx.below) d (xb.later_ bx.below) (hs2 _ (List.getElem_mem kl))
        clear x1 xb
        generalize hx:cmSound l[k] =bs at HC
        have HX:=Lib.hid hx
        clear hx
        have HO:=Lib.hid ho
        have HO2:=Lib.hid ho2
        clear ho ho2 hT
        cases bs with
        | false=>
          go_wp2_with (go_at_call 53;refine (HC.out).mono ?_;rintro e w1 ⟨rfl,hb1⟩)
          go_ret
          exact ⟨ret_bool (by rw [HR.out, ←HAL.out,any_hit (p:=fun x=> !cmSound x) kl (by rw [HX.out];rfl)];simp),(bx.step hb1).below⟩
        | true=>
          go_wp2_with (go_at_call 53;refine (HC.out).mono ?_;rintro e w1 ⟨rfl,hb1⟩)
          go_roundw
          case rel=>exact ⟨k+1,by omega,by go_num,none_step (p:=fun x=> !cmSound x) HJ kl (by rw [HX.out];rfl),bx.step hb1⟩
          case measure=>simp [intOf];omega
      · have HA2:Hid (al=false):=by rw [←HAL.out];exact any_none (n:=c.ol) HLn.out (fun j hj hl=>HJ.out j (by omega) hl)
        clear ho hT
        have y:=bx.size
        cases vn with
        | false=>
          go_wp2_with fail
          go_ret
          exact ⟨ret_bool (by rw [HR.out];simp),bx.below⟩
        | true=>
          by_cases hn:c.ol≤200
          · have f3:((c.ol:Int)≤200)=True:=by simp;omega
            go_wp2_with fail
            go_ret
            exact ⟨ret_bool (by rw [HR.out,HA2.out];simp [hn]),bx.below⟩
          · have f3:((c.ol:Int)≤200)=False:=by simp;omega
            go_wp2_with fail
            go_ret
            exact ⟨ret_bool (by rw [HR.out,HA2.out];simp [hn]),bx.below⟩
  have f2:(c.k==2)=false:=by simp [e2]
  by_cases e3:c.k=3
  · have f3:(c.k==3)=true:=by simp [e3]
    have hR3:enSound ⟨c.k,c.src,c.seq,v,l⟩=(vn && (c.ol==0)):=by rw [HR.out,if_neg e1,if_neg e2,if_pos e3]
    have HR:=Lib.hid hR3
    clear e1 e2 e3 hR3 hT hs2 ho hal
    go_enter Tryz.func31,Tryz.ntmps31
    cases vn with
    |false=>go_wp2_with (go_at_call 18;(with_reducible refine (Behind.at_ (HVN.out) ?_).mono ?_);(focus (have:=bx.below;have:=bx.size;go_grown));rintro e w1 ⟨rfl,hb1⟩;replace bx:=bx.next hb1 (by go_grown) rfl;have zs:w.heap.size<w1.heap.size:=bx.size;have z0:=bx.at_.c0;have y0:=bx.at_.c3.c0;have y1:=bx.at_.c3.c1;have y2:=bx.at_.c3.c2;have y3:=bx.at_.c3.c3;have y4:=bx.at_.c3.c4;have z8:=bx.at_.c8);go_ret;exact ⟨ret_bool (by first|(rw [HR.out];done)|(rw [HR.out];simp [*];done)|(rw [HR.out];simp [*];try omega)),by have:=bx.below;have:=bx.size;go_grown⟩
    | true=>
      by_cases hn:c.ol=0
      · have f2:((c.ol:Int)==0)=true:=by simp [hn]
        have f4:(c.ol==0)=true:=by simp [hn]
        clear hn
        go_wp2_with (go_at_call 18;(with_reducible refine (Behind.at_ (HVN.out) ?_).mono ?_);(focus (have:=bx.below;have:=bx.size;go_grown));rintro e w1 ⟨rfl,hb1⟩;replace bx:=bx.next hb1 (by go_grown) rfl;have zs:w.heap.size<w1.heap.size:=bx.size;have z0:=bx.at_.c0;have y0:=bx.at_.c3.c0;have y1:=bx.at_.c3.c1;have y2:=bx.at_.c3.c2;have y3:=bx.at_.c3.c3;have y4:=bx.at_.c3.c4;have z8:=bx.at_.c8);go_ret;exact ⟨ret_bool (by first|(rw [HR.out];done)|(rw [HR.out];simp [*];done)|(rw [HR.out];simp [*];try omega)),by have:=bx.below;have:=bx.size;go_grown⟩
      · have f2:((c.ol:Int)==0)=false:=by simp [hn]
        have f4:(c.ol==0)=false:=by simp [hn]
        clear hn
        go_wp2_with (go_at_call 18;(with_reducible refine (Behind.at_ (HVN.out) ?_).mono ?_);(focus (have:=bx.below;have:=bx.size;go_grown));rintro e w1 ⟨rfl,hb1⟩;replace bx:=bx.next hb1 (by go_grown) rfl;have zs:w.heap.size<w1.heap.size:=bx.size;have z0:=bx.at_.c0;have y0:=bx.at_.c3.c0;have y1:=bx.at_.c3.c1;have y2:=bx.at_.c3.c2;have y3:=bx.at_.c3.c3;have y4:=bx.at_.c3.c4;have z8:=bx.at_.c8);go_ret;exact ⟨ret_bool (by first|(rw [HR.out];done)|(rw [HR.out];simp [*];done)|(rw [HR.out];simp [*];try omega)),by have:=bx.below;have:=bx.size;go_grown⟩
  have f3:(c.k==3)=false:=by simp [e3]
  have hR3:enSound ⟨c.k,c.src,c.seq,v,l⟩=false:=by rw [HR.out,if_neg e1,if_neg e2,if_neg e3]
  have HR:=Lib.hid hR3
  clear e1 e2 e3 hR3 hT hs2 ho hal
  go_enter Tryz.func31,Tryz.ntmps31
  go_wp2_with (go_at_call 18;(with_reducible refine (Behind.at_ (HVN.out) ?_).mono ?_);(focus (have:=bx.below;have:=bx.size;go_grown));rintro e w1 ⟨rfl,hb1⟩;replace bx:=bx.next hb1 (by go_grown) rfl;have zs:w.heap.size<w1.heap.size:=bx.size;have z0:=bx.at_.c0;have y0:=bx.at_.c3.c0;have y1:=bx.at_.c3.c1;have y2:=bx.at_.c3.c2;have y3:=bx.at_.c3.c3;have y4:=bx.at_.c3.c4;have z8:=bx.at_.c8);go_ret;exact ⟨ret_bool (by first|(rw [HR.out];done)|(rw [HR.out];simp [*];done)|(rw [HR.out];simp [*];try omega)),by have:=bx.below;have:=bx.size;go_grown⟩
end Go.Proofs.YthceefjafklcmaaGreatDoor
