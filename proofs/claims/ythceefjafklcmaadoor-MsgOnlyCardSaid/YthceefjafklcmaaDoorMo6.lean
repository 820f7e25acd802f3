/-
  Contracts of the functions that the law reaches: conciliatorref06.Sound, by kinds. conciliatorref06.Sound, by kinds. conciliatorref06.Sound, by kinds. conciliatorref06.Sound. Which values may be kept: code.light and conciliatorref10.light; conciliatorref07.Same; slices.ContainsFunc over components; entries: code.Sound and conciliatorref10.Sound. Entries: code.Sound and conciliatorref10.Sound. Texts in memory: slices.Equal, proj.Sound, conciliatorref18.Sound. conciliatorref07.Same, conciliatorref10.Same: lists of components, entries are compared. Messages in memory; msg.numbered, msg.brings, msg.none, msg.same.
-/
import Derived.Test.YthceefjafklcmaaDoorMo5
namespace Go.Proofs.YthceefjafklcmaaDoor
open Go.RowKit
theorem empty_toList:ByteArray.empty.toList= [] :=by rw [ByteArray.toList_eq];rfl
theorem toList_nil_iff {s:ByteArray} :s.toList= [] ↔s= .empty:=by
  constructor
  · intro h;exact bytes_ext (by rw [h,empty_toList])
  · intro h;rw [h,empty_toList]
theorem bare_std (x:Cm):eqB x.bare ⟨x.k,x.path, .empty,0,0,0,V.none, .empty⟩=
    ((kKey x.k||(x.key.toList== [])) && (kI x.k||(x.i==0)) && (kJ x.k||(x.j==0)) && (kN x.k||(x.n==0)) && (kS x.k||(x.s.toList== [])) && (kV x.k||eqv x.v V.none)):=by
  apply Bool.eq_iff_iff.2
  simp only [Bool.and_eq_true,Bool.or_eq_true,beq_iff_eq,toList_nil_iff]
  constructor
  · intro h
    have h:=eq_of_eqB h
    simp only [Cm.bare] at h
    injection h with _ _ h1 h2 h3 h4 h5 h6
    refine ⟨⟨⟨⟨⟨?_, ?_⟩, ?_⟩, ?_⟩, ?_⟩, ?_⟩
    · by_cases e:kKey x.k=true
      · exact .inl e
      · exact .inr (by simpa [e] using h1)
    · by_cases e:kI x.k=true
      · exact .inl e
      · exact .inr (by simpa [e] using h2)
    · by_cases e:kJ x.k=true
      · exact .inl e
      · exact .inr (by simpa [e] using h3)
    · by_cases e:kN x.k=true
      · exact .inl e
      · exact .inr (by simpa [e] using h4)
    · by_cases e:kS x.k=true
      · exact .inl e
      · exact .inr (by simpa [e] using h6)
    · by_cases e:kV x.k=true
      · exact .inl e
      · exact .inr (eqv_yes (by simpa [e] using h5))
  · rintro ⟨⟨⟨⟨⟨h1,h2⟩,h3⟩,h4⟩,h5⟩,h6⟩
    apply eqB_yes
    simp only [Cm.bare]
    congr 1
    · rcases h1 with e|e<;>simp [e]
    · rcases h2 with e|e<;>simp [e]
    · rcases h3 with e|e<;>simp [e]
    · rcases h4 with e|e<;>simp [e]
    · rcases h6 with e|e
      · simp [e]
      · simp [eq_of_eqv e]
    · rcases h5 with e|e<;>simp [e]
def sndB (kn fK fI fJ fN fS fV bk i0 j0 n0 be vn ps vk vs i1 j1 k8 k9 sd dp wt:Bool):Bool:=
  kn && ((fK||bk) && (fI||i0) && (fJ||j0) && (fN||n0) && (fS||be) && (fV||vn)) && ps && vk && vs && i1 && j1 && !k8 && !k9 && sd && dp && wt
theorem cmSound_eq (x:Cm):cmSound x=sndB (kIs x.k) (kKey x.k) (kI x.k) (kJ x.k) (kN x.k) (kS x.k) (kV x.k) (x.key.toList== []) (x.i==0) (x.j==0) (x.n==0) (x.s.toList== []) (eqv x.v V.none)
    (pathSound x.path) (Lib.validD x.key.data.toList) (Lib.validD x.s.data.toList) (decide (0≤x.i)) (decide (0≤x.j)) (x.k==8 && (x.s.toList== [])) (x.k==9 && decide (x.n<1)) x.v.sound (decide (x.path.length+1+x.v.deep≤16)) (decide (x.v.weight≤20000)):=by
  unfold cmSound sndB
  rw [bare_std]
  have:x.s.toList.isEmpty=(x.s.toList== []):=by cases x.s.toList<;>rfl
  rw [this]
theorem bcT (b:Bool) {P:Prop} (h:P):b=false∨b=true∧P:=by cases b;exact .inl rfl;exact .inr ⟨rfl,h⟩
theorem bcF (b:Bool) {P:Prop} (h:P):b=true∨b=false∧P:=by cases b;exact .inr ⟨rfl,h⟩;exact .inl rfl
theorem bcP (p:Prop) [Decidable p] {P:Prop} (h:P):p∨¬p∧P:=by by_cases q:p;exact .inl q;exact .inr ⟨q,h⟩
theorem dec16 (a b:Nat):(¬(a+1+b≤16)∧¬((a:Int)+1+(b:Int)≤16)∧decide ((a:Int)+1+(b:Int)≤16)=false)∨(a+1+b≤16∧((a:Int)+1+(b:Int)≤16)∧decide ((a:Int)+1+(b:Int)≤16)=true):=by
  by_cases h:a+1+b≤16
  · have h2:(a:Int)+1+(b:Int)≤16:=by omega
    exact .inr ⟨h,h2,by simpa using h2⟩
  · have h2:¬((a:Int)+1+(b:Int)≤16):=by omega
    exact .inl ⟨h,h2,by simpa using h2⟩
theorem Boxed1C.all {w W:World} {c:CC} (h:Boxed1C w W c):w.heap.size<W.heap.size∧W.cell? ⟨w.heap.size,0,none⟩=some (.int .u8 c.k)∧W.cell? ⟨w.heap.size,1,none⟩=some (.slice c.pa c.pl c.pc)∧W.cell? ⟨w.heap.size,2,none⟩=some (.string c.key)∧W.cell? ⟨w.heap.size,3,none⟩=some (.int .i64 c.i)∧W.cell? ⟨w.heap.size,4,none⟩=some (.int .i64 c.j)∧W.cell? ⟨w.heap.size,5,none⟩=some (.int .i64 c.n)∧W.cell? ⟨w.heap.size,11,none⟩=some (.string c.s)∧W.cell? ⟨w.heap.size,6,none⟩=some (.int .u8 c.v.k)∧W.cell? ⟨w.heap.size,7,none⟩=some (.int .i64 c.v.n)∧W.cell? ⟨w.heap.size,8,none⟩=some (.string c.v.s)∧W.cell? ⟨w.heap.size,9,none⟩=some (.slice c.v.la c.v.ll c.v.lc)∧W.cell? ⟨w.heap.size,10,none⟩=some (.slice c.v.oa c.v.ol c.v.oc):=⟨by have:=h.size;omega,h.at_.c0,h.at_.c1,h.at_.c2,h.at_.c3,h.at_.c4,h.at_.c5,h.at_.c11,h.at_.c6.c0,h.at_.c6.c1,h.at_.c6.c2,h.at_.c6.c3,h.at_.c6.c4⟩
structure SndH (w:World) (c:CC) (R ps vk vs bk be i0 j0 n0 vn sd:Bool) (dp wt:Nat):Prop where
  hbk:(c.key.toList== [])=bk
  hbe:(c.s.toList== [])=be
  hi0:(c.i !=0)=i0
  hj0:(c.j !=0)=j0
  hn0:(c.n !=0)=n0
  HPS:Hid (Behind w 61 #[.slice c.pa c.pl c.pc] (.bool ps))
  HVK:Hid (Behind w 34 #[.string c.key] (.bool vk))
  HVS:Hid (Behind w 34 #[.string c.s] (.bool vs))
  HVN:Hid (Behind w 15 #[.agg #[.int .u8 c.v.k, .int .i64 c.v.n, .string c.v.s, .slice c.v.la c.v.ll c.v.lc, .slice c.v.oa c.v.ol c.v.oc], .agg #[.int .u8 0, .int .i64 0, .string { data:= #[] }, .slice none 0 0, .slice none 0 0]] (.bool vn))
  HSD:Hid (Behind w 57 #[.agg #[.int .u8 c.v.k, .int .i64 c.v.n, .string c.v.s, .slice c.v.la c.v.ll c.v.lc, .slice c.v.oa c.v.ol c.v.oc]] (.bool sd))
  HDP:Hid (Behind w 58 #[.agg #[.int .u8 c.v.k, .int .i64 c.v.n, .string c.v.s, .slice c.v.la c.v.ll c.v.lc, .slice c.v.oa c.v.ol c.v.oc]] (.int .i64 dp))
  HWT:Hid (Behind w 59 #[.agg #[.int .u8 c.v.k, .int .i64 c.v.n, .string c.v.s, .slice c.v.la c.v.ll c.v.lc, .slice c.v.oa c.v.ol c.v.oc]] (.int .i64 wt))
  HSAYS:Hid (Behind w 60 #[.int .u8 c.k] (.string (saysB c.k)))
  k:(c.pl:Int)≤140737488355328∧wt≤4611686018427387904∧dp≤4611686018427387904
  hR2:R=sndB (kIs c.k) (kKey c.k) (kI c.k) (kJ c.k) (kN c.k) (kS c.k) (kV c.k) bk (!i0) (!j0) (!n0) be vn ps vk vs (decide (0≤c.i)) (decide (0≤c.j)) (c.k==8 && be) (c.k==9 && decide (c.n<1)) sd (decide (c.pl+1+dp≤16)) (decide (wt≤20000))
theorem sndH_of (x:Cm) (w:World) (hT:Tabs w) (c:CC) (hx:IsComp w w.heap.size x c) (hw:x.v.weight≤4611686018427387904):∃ps vk vs bk be i0 j0 n0 vn sd dp wt,SndH w c (cmSound x) ps vk vs bk be i0 j0 n0 vn sd dp wt:=by
  cases hx with
  |mk c p v hb hp hv=>
  dsimp only at hw
  refine ⟨_,_,_,_,_,_,_,_,_,_,_,_,rfl,rfl,rfl,rfl,rfl,fun W hW=>refPathSound_any p W (hT.below hW) _ _ _ (hp.later_ hW),fun W hW=>valid_any c.key W hb.key1 (hT.below hW),fun W hW=>valid_any c.s W hb.s1 (hT.below hW),fun W hW=>refSame_any v V.none W c.v VC.none (hv.later_ hW) (isVal_none _ _),fun W hW=>refSound_any v W c.v (hv.later_ hW) (hT.below hW),fun W hW=>refDeep_any v W c.v (hv.later_ hW) hw,fun W hW=>refWeight_any v W c.v (hv.later_ hW) hw,fun W _=>says06_any c.k W, ?_, ?_⟩
  · have k1:=hp.few;have k2:=hp.max;have k3:=hp.cap;have:=v.deep_lt;omega
  · rw [cmSound_eq];simp only [hp.len,bne,Bool.not_not]
set_option maxHeartbeats 8000000 in
set_option maxRecDepth 100000 in
theorem ref06Sound0 (w:World) (c:CC) {R ps vk vs bk be i0 j0 n0 vn sd:Bool} {dp wt:Nat} (h:SndH w c R ps vk vs bk be i0 j0 n0 vn sd dp wt) (ek:kIs c.k=false):
    Calls Tryd.prog 36 #[.agg #[.int .u8 c.k, .slice c.pa c.pl c.pc, .string c.key, .int .i64 c.i, .int .i64 c.j, .int .i64 c.n, .int .u8 c.v.k, .int .i64 c.v.n, .string c.v.s, .slice c.v.la c.v.ll c.v.lc, .slice c.v.oa c.v.ol c.v.oc, .string c.s]] w fun e w'=>e= .returned (.bool R)∧Below w.heap.size w w':=by
  obtain ⟨hbk,hbe,hi0,hj0,hn0,HPS,HVK,HVS,HVN,HSD,HDP,HWT,HSAYS,⟨k1,k4,k5⟩,hR2⟩:=h
  have bx:=boxed1C_start w c 75
  have hR3:R=false:=by rw [hR2,ek];rfl
  have e1:saysB c.k= { data:= #[] } :=by
    simp only [kIs,Bool.and_eq_false_iff,decide_eq_false_iff_not] at ek
    unfold saysB
    repeat (first|rfl|rw [if_neg (by omega)])
  rw [e1] at HSAYS
  have HR:=Lib.hid hR3
  clear hR2 hR3 e1 ek
  go_enter Tryd.func36,Tryd.ntmps36
  go_wp2_with ((go_at_call 60;(with_reducible refine (Behind.at_ HSAYS.out ?_).mono ?_));(focus (have:=bx.below;have:=bx.size;go_grown));rintro e w1 ⟨rfl,hb1⟩;replace bx:=(bx.step (by go_grown)).step hb1;obtain ⟨zs,z0,z1,z2,z3,z4,z5,z6,y0,y1,y2,y3,y4⟩:=bx.all)
  go_ret
  exact ⟨ret_bool (by rw [HR.out]),by have:=bx.below;have:=bx.size;go_grown⟩
set_option maxHeartbeats 8000000 in
set_option maxRecDepth 100000 in
theorem ref06Sound1 (w:World) (c:CC) {R ps vk vs bk be i0 j0 n0 vn sd:Bool} {dp wt:Nat} (h:SndH w c R ps vk vs bk be i0 j0 n0 vn sd dp wt) (ek:c.k=1):
    Calls Tryd.prog 36 #[.agg #[.int .u8 c.k, .slice c.pa c.pl c.pc, .string c.key, .int .i64 c.i, .int .i64 c.j, .int .i64 c.n, .int .u8 c.v.k, .int .i64 c.v.n, .string c.v.s, .slice c.v.la c.v.ll c.v.lc, .slice c.v.oa c.v.ol c.v.oc, .string c.s]] w fun e w'=>e= .returned (.bool R)∧Below w.heap.size w w':=by
  obtain ⟨hbk,hbe,hi0,hj0,hn0,HPS,HVK,HVS,HVN,HSD,HDP,HWT,HSAYS,⟨k1,k4,k5⟩,hR2⟩:=h
  have bx:=boxed1C_start w c 75
  have e1:saysB c.k= { data:= #[78] } :=by rw [ek];rfl
  rw [e1] at HSAYS
  have HIN:∀(b:Nat) {t:Bool},hasB { data:= #[78] } b=t→Hid (Behind w 62 #[.string { data:= #[78] }, .int .u8 b] (.bool t)):=fun b t ht W _=>by rw [←ht];exact in06_any { data:= #[78] } b W (by decide)
  have hR3:R=sndB true false false false true false false bk (!i0) (!j0) (!n0) be vn ps vk vs (decide (0≤c.i)) (decide (0≤c.j)) false false sd (decide (c.pl+1+dp≤16)) (decide (wt≤20000)):=by
    rw [hR2,ek]
    first|rfl|(cases be<;>rfl)
  have HR:=Lib.hid hR3
  have f8:(c.k==8)=false:=by rw [ek];rfl
  have f9:(c.k==9)=false:=by rw [ek];rfl
  have HLK:Hid (Behind w 62 #[.string { data:= #[78] }, .int .u8 75] (.bool false)):=HIN 75 (by decide);have HLI:Hid (Behind w 62 #[.string { data:= #[78] }, .int .u8 73] (.bool false)):=HIN 73 (by decide);have HLJ:Hid (Behind w 62 #[.string { data:= #[78] }, .int .u8 74] (.bool false)):=HIN 74 (by decide);have HLN:Hid (Behind w 62 #[.string { data:= #[78] }, .int .u8 78] (.bool true)):=HIN 78 (by decide);have HLS:Hid (Behind w 62 #[.string { data:= #[78] }, .int .u8 83] (.bool false)):=HIN 83 (by decide);have HLV:Hid (Behind w 62 #[.string { data:= #[78] }, .int .u8 86] (.bool false)):=HIN 86 (by decide)
  clear hR2 hR3 e1 HIN ek
  go_enter Tryd.func36,Tryd.ntmps36
  go_wp2_with ((go_at_call 60;(with_reducible refine (Behind.at_ HSAYS.out ?_).mono ?_));(focus (have:=bx.below;have:=bx.size;go_grown));rintro e w1 ⟨rfl,hb1⟩;replace bx:=(bx.step (by go_grown)).step hb1;obtain ⟨zs,z0,z1,z2,z3,z4,z5,z6,y0,y1,y2,y3,y4⟩:=bx.all)
  rcases bcT ps (bcT bk (bcF i0 (bcF j0 (bcT be (bcT vn (bcT vk (bcT vs (bcP (c.i<0) (bcP (c.j<0) trivial))))))))) with rfl|⟨rfl,(rfl|⟨rfl,(rfl|⟨rfl,(rfl|⟨rfl,(rfl|⟨rfl,(rfl|⟨rfl,(rfl|⟨rfl,(rfl|⟨rfl,(hpi|⟨hpi,(hpj|⟨hpj,_⟩)⟩)⟩)⟩)⟩)⟩)⟩)⟩)⟩)⟩
  all_goals go_wp2_with ((first|(go_at_call 61;(with_reducible refine (Behind.at_ HPS.out ?_).mono ?_))|(go_at_call 62;(with_reducible refine (Behind.at_ HLK.out ?_).mono ?_))|(go_at_call 62;(with_reducible refine (Behind.at_ HLI.out ?_).mono ?_))|(go_at_call 62;(with_reducible refine (Behind.at_ HLJ.out ?_).mono ?_))|(go_at_call 62;(with_reducible refine (Behind.at_ HLN.out ?_).mono ?_))|(go_at_call 62;(with_reducible refine (Behind.at_ HLS.out ?_).mono ?_))|(go_at_call 62;(with_reducible refine (Behind.at_ HLV.out ?_).mono ?_))|(go_at_call 15;(with_reducible refine (Behind.at_ HVN.out ?_).mono ?_))|(go_at_call 34;(with_reducible refine (Behind.at_ HVK.out ?_).mono ?_))|(go_at_call 34;(with_reducible refine (Behind.at_ HVS.out ?_).mono ?_)));(focus (have:=bx.below;have:=bx.size;go_grown));rintro e w1 ⟨rfl,hb1⟩;replace bx:=(bx.step (by go_grown)).step hb1;obtain ⟨zs,z0,z1,z2,z3,z4,z5,z6,y0,y1,y2,y3,y4⟩:=bx.all)
  iterate 10 (focus (go_ret;exact ⟨ret_bool (by rw [HR.out];first|(simp [sndB, *];done)|(simp [sndB, *];intros;omega)),by have:=bx.below;have:=bx.size;go_grown⟩))
  have a0:=later_cell bx.at_.c6.c0;have a1:=later_cell bx.at_.c6.c1;have a2:=later_cell bx.at_.c6.c2;have a3:=later_cell bx.at_.c6.c3;have a4:=later_cell bx.at_.c6.c4;have a5:=later_cell bx.at_.c1
  have hbx:=bx.below
  have hbs:=bx.size
  rcases bcT sd (dec16 c.pl dp) with rfl|⟨rfl,(⟨hd,hdI,hdB⟩|⟨hd,hdI,hdB⟩)⟩
  all_goals
    refine wp_region_later (by kernel_rfl) (by kernel_rfl) ?_
    repeat (go_big_quiet_step ((first|(go_at_call 57;exact later_call (HSD.out _ (hbx.trans ((below_later _ _).mono (by omega)))))|(go_at_call 58;exact later_call (HDP.out _ (hbx.trans ((below_later _ _).mono (by omega)))))|(go_at_call 59;exact later_call (HWT.out _ (hbx.trans ((below_later _ _).mono (by omega))))))))
    refine wpQuiet_nil ?_
    intro _ hw'
    obtain ⟨pq,hw''⟩:=hw'
    subst hw''
    go_wp2_with fail
    go_ret
    exact ⟨ret_bool (by rw [HR.out];first|(simp [sndB, *];done)|(simp [sndB, *];intros;omega)),hbx.trans ((below_later _ _).mono (by omega))⟩
end Go.Proofs.YthceefjafklcmaaDoor
namespace Go.Proofs.YthceefjafklcmaaDoor
open Go.RowKit
set_option maxHeartbeats 8000000 in
set_option maxRecDepth 100000 in
theorem ref06Sound2 (w:World) (c:CC) {R ps vk vs bk be i0 j0 n0 vn sd:Bool} {dp wt:Nat} (h:SndH w c R ps vk vs bk be i0 j0 n0 vn sd dp wt) (ek:c.k=2):
    Calls Tryd.prog 36 #[.agg #[.int .u8 c.k, .slice c.pa c.pl c.pc, .string c.key, .int .i64 c.i, .int .i64 c.j, .int .i64 c.n, .int .u8 c.v.k, .int .i64 c.v.n, .string c.v.s, .slice c.v.la c.v.ll c.v.lc, .slice c.v.oa c.v.ol c.v.oc, .string c.s]] w fun e w'=>e= .returned (.bool R)∧Below w.heap.size w w':=by
  obtain ⟨hbk,hbe,hi0,hj0,hn0,HPS,HVK,HVS,HVN,HSD,HDP,HWT,HSAYS,⟨k1,k4,k5⟩,hR2⟩:=h
  have bx:=boxed1C_start w c 75
  have e1:saysB c.k= { data:= #[75,86] } :=by rw [ek];rfl
  rw [e1] at HSAYS
  have HIN:∀(b:Nat) {t:Bool},hasB { data:= #[75,86] } b=t→Hid (Behind w 62 #[.string { data:= #[75,86] }, .int .u8 b] (.bool t)):=fun b t ht W _=>by rw [←ht];exact in06_any { data:= #[75,86] } b W (by decide)
  have hR3:R=sndB true true false false false false true bk (!i0) (!j0) (!n0) be vn ps vk vs (decide (0≤c.i)) (decide (0≤c.j)) false false sd (decide (c.pl+1+dp≤16)) (decide (wt≤20000)):=by
    rw [hR2,ek]
    first|rfl|(cases be<;>rfl)
  have HR:=Lib.hid hR3
  have f8:(c.k==8)=false:=by rw [ek];rfl
  have f9:(c.k==9)=false:=by rw [ek];rfl
  have HLK:Hid (Behind w 62 #[.string { data:= #[75,86] }, .int .u8 75] (.bool true)):=HIN 75 (by decide);have HLI:Hid (Behind w 62 #[.string { data:= #[75,86] }, .int .u8 73] (.bool false)):=HIN 73 (by decide);have HLJ:Hid (Behind w 62 #[.string { data:= #[75,86] }, .int .u8 74] (.bool false)):=HIN 74 (by decide);have HLN:Hid (Behind w 62 #[.string { data:= #[75,86] }, .int .u8 78] (.bool false)):=HIN 78 (by decide);have HLS:Hid (Behind w 62 #[.string { data:= #[75,86] }, .int .u8 83] (.bool false)):=HIN 83 (by decide);have HLV:Hid (Behind w 62 #[.string { data:= #[75,86] }, .int .u8 86] (.bool true)):=HIN 86 (by decide)
  clear hR2 hR3 e1 HIN ek
  go_enter Tryd.func36,Tryd.ntmps36
  go_wp2_with ((go_at_call 60;(with_reducible refine (Behind.at_ HSAYS.out ?_).mono ?_));(focus (have:=bx.below;have:=bx.size;go_grown));rintro e w1 ⟨rfl,hb1⟩;replace bx:=(bx.step (by go_grown)).step hb1;obtain ⟨zs,z0,z1,z2,z3,z4,z5,z6,y0,y1,y2,y3,y4⟩:=bx.all)
  rcases bcT ps (bcF i0 (bcF j0 (bcF n0 (bcT be (bcT vk (bcT vs (bcP (c.i<0) (bcP (c.j<0) trivial)))))))) with rfl|⟨rfl,(rfl|⟨rfl,(rfl|⟨rfl,(rfl|⟨rfl,(rfl|⟨rfl,(rfl|⟨rfl,(rfl|⟨rfl,(hpi|⟨hpi,(hpj|⟨hpj,_⟩)⟩)⟩)⟩)⟩)⟩)⟩)⟩)⟩
  all_goals go_wp2_with ((first|(go_at_call 61;(with_reducible refine (Behind.at_ HPS.out ?_).mono ?_))|(go_at_call 62;(with_reducible refine (Behind.at_ HLK.out ?_).mono ?_))|(go_at_call 62;(with_reducible refine (Behind.at_ HLI.out ?_).mono ?_))|(go_at_call 62;(with_reducible refine (Behind.at_ HLJ.out ?_).mono ?_))|(go_at_call 62;(with_reducible refine (Behind.at_ HLN.out ?_).mono ?_))|(go_at_call 62;(with_reducible refine (Behind.at_ HLS.out ?_).mono ?_))|(go_at_call 62;(with_reducible refine (Behind.at_ HLV.out ?_).mono ?_))|(go_at_call 34;(with_reducible refine (Behind.at_ HVK.out ?_).mono ?_))|(go_at_call 34;(with_reducible refine (Behind.at_ HVS.out ?_).mono ?_)));(focus (have:=bx.below;have:=bx.size;go_grown));rintro e w1 ⟨rfl,hb1⟩;replace bx:=(bx.step (by go_grown)).step hb1;obtain ⟨zs,z0,z1,z2,z3,z4,z5,z6,y0,y1,y2,y3,y4⟩:=bx.all)
  iterate 9 (focus (go_ret;exact ⟨ret_bool (by rw [HR.out];first|(simp [sndB, *];done)|(simp [sndB, *];intros;omega)),by have:=bx.below;have:=bx.size;go_grown⟩))
  have a0:=later_cell bx.at_.c6.c0;have a1:=later_cell bx.at_.c6.c1;have a2:=later_cell bx.at_.c6.c2;have a3:=later_cell bx.at_.c6.c3;have a4:=later_cell bx.at_.c6.c4;have a5:=later_cell bx.at_.c1
  have hbx:=bx.below
  have hbs:=bx.size
  rcases bcT sd (dec16 c.pl dp) with rfl|⟨rfl,(⟨hd,hdI,hdB⟩|⟨hd,hdI,hdB⟩)⟩
  all_goals
    refine wp_region_later (by kernel_rfl) (by kernel_rfl) ?_
    repeat (go_big_quiet_step ((first|(go_at_call 57;exact later_call (HSD.out _ (hbx.trans ((below_later _ _).mono (by omega)))))|(go_at_call 58;exact later_call (HDP.out _ (hbx.trans ((below_later _ _).mono (by omega)))))|(go_at_call 59;exact later_call (HWT.out _ (hbx.trans ((below_later _ _).mono (by omega))))))))
    refine wpQuiet_nil ?_
    intro _ hw'
    obtain ⟨pq,hw''⟩:=hw'
    subst hw''
    go_wp2_with fail
    go_ret
    exact ⟨ret_bool (by rw [HR.out];first|(simp [sndB, *];done)|(simp [sndB, *];intros;omega)),hbx.trans ((below_later _ _).mono (by omega))⟩
set_option maxHeartbeats 8000000 in
set_option maxRecDepth 100000 in
theorem ref06Sound3 (w:World) (c:CC) {R ps vk vs bk be i0 j0 n0 vn sd:Bool} {dp wt:Nat} (h:SndH w c R ps vk vs bk be i0 j0 n0 vn sd dp wt) (ek:c.k=3):
    Calls Tryd.prog 36 #[.agg #[.int .u8 c.k, .slice c.pa c.pl c.pc, .string c.key, .int .i64 c.i, .int .i64 c.j, .int .i64 c.n, .int .u8 c.v.k, .int .i64 c.v.n, .string c.v.s, .slice c.v.la c.v.ll c.v.lc, .slice c.v.oa c.v.ol c.v.oc, .string c.s]] w fun e w'=>e= .returned (.bool R)∧Below w.heap.size w w':=by
  obtain ⟨hbk,hbe,hi0,hj0,hn0,HPS,HVK,HVS,HVN,HSD,HDP,HWT,HSAYS,⟨k1,k4,k5⟩,hR2⟩:=h
  have bx:=boxed1C_start w c 75
  have e1:saysB c.k= { data:= #[75] } :=by rw [ek];rfl
  rw [e1] at HSAYS
  have HIN:∀(b:Nat) {t:Bool},hasB { data:= #[75] } b=t→Hid (Behind w 62 #[.string { data:= #[75] }, .int .u8 b] (.bool t)):=fun b t ht W _=>by rw [←ht];exact in06_any { data:= #[75] } b W (by decide)
  have hR3:R=sndB true true false false false false false bk (!i0) (!j0) (!n0) be vn ps vk vs (decide (0≤c.i)) (decide (0≤c.j)) false false sd (decide (c.pl+1+dp≤16)) (decide (wt≤20000)):=by
    rw [hR2,ek]
    first|rfl|(cases be<;>rfl)
  have HR:=Lib.hid hR3
  have f8:(c.k==8)=false:=by rw [ek];rfl
  have f9:(c.k==9)=false:=by rw [ek];rfl
  have HLK:Hid (Behind w 62 #[.string { data:= #[75] }, .int .u8 75] (.bool true)):=HIN 75 (by decide);have HLI:Hid (Behind w 62 #[.string { data:= #[75] }, .int .u8 73] (.bool false)):=HIN 73 (by decide);have HLJ:Hid (Behind w 62 #[.string { data:= #[75] }, .int .u8 74] (.bool false)):=HIN 74 (by decide);have HLN:Hid (Behind w 62 #[.string { data:= #[75] }, .int .u8 78] (.bool false)):=HIN 78 (by decide);have HLS:Hid (Behind w 62 #[.string { data:= #[75] }, .int .u8 83] (.bool false)):=HIN 83 (by decide);have HLV:Hid (Behind w 62 #[.string { data:= #[75] }, .int .u8 86] (.bool false)):=HIN 86 (by decide)
  clear hR2 hR3 e1 HIN ek
  go_enter Tryd.func36,Tryd.ntmps36
  go_wp2_with ((go_at_call 60;(with_reducible refine (Behind.at_ HSAYS.out ?_).mono ?_));(focus (have:=bx.below;have:=bx.size;go_grown));rintro e w1 ⟨rfl,hb1⟩;replace bx:=(bx.step (by go_grown)).step hb1;obtain ⟨zs,z0,z1,z2,z3,z4,z5,z6,y0,y1,y2,y3,y4⟩:=bx.all)
  rcases bcT ps (bcF i0 (bcF j0 (bcF n0 (bcT be (bcT vn (bcT vk (bcT vs (bcP (c.i<0) (bcP (c.j<0) trivial))))))))) with rfl|⟨rfl,(rfl|⟨rfl,(rfl|⟨rfl,(rfl|⟨rfl,(rfl|⟨rfl,(rfl|⟨rfl,(rfl|⟨rfl,(rfl|⟨rfl,(hpi|⟨hpi,(hpj|⟨hpj,_⟩)⟩)⟩)⟩)⟩)⟩)⟩)⟩)⟩)⟩
  all_goals go_wp2_with ((first|(go_at_call 61;(with_reducible refine (Behind.at_ HPS.out ?_).mono ?_))|(go_at_call 62;(with_reducible refine (Behind.at_ HLK.out ?_).mono ?_))|(go_at_call 62;(with_reducible refine (Behind.at_ HLI.out ?_).mono ?_))|(go_at_call 62;(with_reducible refine (Behind.at_ HLJ.out ?_).mono ?_))|(go_at_call 62;(with_reducible refine (Behind.at_ HLN.out ?_).mono ?_))|(go_at_call 62;(with_reducible refine (Behind.at_ HLS.out ?_).mono ?_))|(go_at_call 62;(with_reducible refine (Behind.at_ HLV.out ?_).mono ?_))|(go_at_call 15;(with_reducible refine (Behind.at_ HVN.out ?_).mono ?_))|(go_at_call 34;(with_reducible refine (Behind.at_ HVK.out ?_).mono ?_))|(go_at_call 34;(with_reducible refine (Behind.at_ HVS.out ?_).mono ?_)));(focus (have:=bx.below;have:=bx.size;go_grown));rintro e w1 ⟨rfl,hb1⟩;replace bx:=(bx.step (by go_grown)).step hb1;obtain ⟨zs,z0,z1,z2,z3,z4,z5,z6,y0,y1,y2,y3,y4⟩:=bx.all)
  iterate 10 (focus (go_ret;exact ⟨ret_bool (by rw [HR.out];first|(simp [sndB, *];done)|(simp [sndB, *];intros;omega)),by have:=bx.below;have:=bx.size;go_grown⟩))
  have a0:=later_cell bx.at_.c6.c0;have a1:=later_cell bx.at_.c6.c1;have a2:=later_cell bx.at_.c6.c2;have a3:=later_cell bx.at_.c6.c3;have a4:=later_cell bx.at_.c6.c4;have a5:=later_cell bx.at_.c1
  have hbx:=bx.below
  have hbs:=bx.size
  rcases bcT sd (dec16 c.pl dp) with rfl|⟨rfl,(⟨hd,hdI,hdB⟩|⟨hd,hdI,hdB⟩)⟩
  all_goals
    refine wp_region_later (by kernel_rfl) (by kernel_rfl) ?_
    repeat (go_big_quiet_step ((first|(go_at_call 57;exact later_call (HSD.out _ (hbx.trans ((below_later _ _).mono (by omega)))))|(go_at_call 58;exact later_call (HDP.out _ (hbx.trans ((below_later _ _).mono (by omega)))))|(go_at_call 59;exact later_call (HWT.out _ (hbx.trans ((below_later _ _).mono (by omega))))))))
    refine wpQuiet_nil ?_
    intro _ hw'
    obtain ⟨pq,hw''⟩:=hw'
    subst hw''
    go_wp2_with fail
    go_ret
    exact ⟨ret_bool (by rw [HR.out];first|(simp [sndB, *];done)|(simp [sndB, *];intros;omega)),hbx.trans ((below_later _ _).mono (by omega))⟩
set_option maxHeartbeats 8000000 in
set_option maxRecDepth 100000 in
theorem ref06Sound4 (w:World) (c:CC) {R ps vk vs bk be i0 j0 n0 vn sd:Bool} {dp wt:Nat} (h:SndH w c R ps vk vs bk be i0 j0 n0 vn sd dp wt) (ek:c.k=4):
    Calls Tryd.prog 36 #[.agg #[.int .u8 c.k, .slice c.pa c.pl c.pc, .string c.key, .int .i64 c.i, .int .i64 c.j, .int .i64 c.n, .int .u8 c.v.k, .int .i64 c.v.n, .string c.v.s, .slice c.v.la c.v.ll c.v.lc, .slice c.v.oa c.v.ol c.v.oc, .string c.s]] w fun e w'=>e= .returned (.bool R)∧Below w.heap.size w w':=by
  obtain ⟨hbk,hbe,hi0,hj0,hn0,HPS,HVK,HVS,HVN,HSD,HDP,HWT,HSAYS,⟨k1,k4,k5⟩,hR2⟩:=h
  have bx:=boxed1C_start w c 75
  have e1:saysB c.k= { data:= #[73,86] } :=by rw [ek];rfl
  rw [e1] at HSAYS
  have HIN:∀(b:Nat) {t:Bool},hasB { data:= #[73,86] } b=t→Hid (Behind w 62 #[.string { data:= #[73,86] }, .int .u8 b] (.bool t)):=fun b t ht W _=>by rw [←ht];exact in06_any { data:= #[73,86] } b W (by decide)
  have hR3:R=sndB true false true false false false true bk (!i0) (!j0) (!n0) be vn ps vk vs (decide (0≤c.i)) (decide (0≤c.j)) false false sd (decide (c.pl+1+dp≤16)) (decide (wt≤20000)):=by
    rw [hR2,ek]
    first|rfl|(cases be<;>rfl)
  have HR:=Lib.hid hR3
  have f8:(c.k==8)=false:=by rw [ek];rfl
  have f9:(c.k==9)=false:=by rw [ek];rfl
  have HLK:Hid (Behind w 62 #[.string { data:= #[73,86] }, .int .u8 75] (.bool false)):=HIN 75 (by decide);have HLI:Hid (Behind w 62 #[.string { data:= #[73,86] }, .int .u8 73] (.bool true)):=HIN 73 (by decide);have HLJ:Hid (Behind w 62 #[.string { data:= #[73,86] }, .int .u8 74] (.bool false)):=HIN 74 (by decide);have HLN:Hid (Behind w 62 #[.string { data:= #[73,86] }, .int .u8 78] (.bool false)):=HIN 78 (by decide);have HLS:Hid (Behind w 62 #[.string { data:= #[73,86] }, .int .u8 83] (.bool false)):=HIN 83 (by decide);have HLV:Hid (Behind w 62 #[.string { data:= #[73,86] }, .int .u8 86] (.bool true)):=HIN 86 (by decide)
  clear hR2 hR3 e1 HIN ek
  go_enter Tryd.func36,Tryd.ntmps36
  go_wp2_with ((go_at_call 60;(with_reducible refine (Behind.at_ HSAYS.out ?_).mono ?_));(focus (have:=bx.below;have:=bx.size;go_grown));rintro e w1 ⟨rfl,hb1⟩;replace bx:=(bx.step (by go_grown)).step hb1;obtain ⟨zs,z0,z1,z2,z3,z4,z5,z6,y0,y1,y2,y3,y4⟩:=bx.all)
  rcases bcT ps (bcT bk (bcF j0 (bcF n0 (bcT be (bcT vk (bcT vs (bcP (c.i<0) (bcP (c.j<0) trivial)))))))) with rfl|⟨rfl,(rfl|⟨rfl,(rfl|⟨rfl,(rfl|⟨rfl,(rfl|⟨rfl,(rfl|⟨rfl,(rfl|⟨rfl,(hpi|⟨hpi,(hpj|⟨hpj,_⟩)⟩)⟩)⟩)⟩)⟩)⟩)⟩)⟩
  all_goals go_wp2_with ((first|(go_at_call 61;(with_reducible refine (Behind.at_ HPS.out ?_).mono ?_))|(go_at_call 62;(with_reducible refine (Behind.at_ HLK.out ?_).mono ?_))|(go_at_call 62;(with_reducible refine (Behind.at_ HLI.out ?_).mono ?_))|(go_at_call 62;(with_reducible refine (Behind.at_ HLJ.out ?_).mono ?_))|(go_at_call 62;(with_reducible refine (Behind.at_ HLN.out ?_).mono ?_))|(go_at_call 62;(with_reducible refine (Behind.at_ HLS.out ?_).mono ?_))|(go_at_call 62;(with_reducible refine (Behind.at_ HLV.out ?_).mono ?_))|(go_at_call 34;(with_reducible refine (Behind.at_ HVK.out ?_).mono ?_))|(go_at_call 34;(with_reducible refine (Behind.at_ HVS.out ?_).mono ?_)));(focus (have:=bx.below;have:=bx.size;go_grown));rintro e w1 ⟨rfl,hb1⟩;replace bx:=(bx.step (by go_grown)).step hb1;obtain ⟨zs,z0,z1,z2,z3,z4,z5,z6,y0,y1,y2,y3,y4⟩:=bx.all)
  iterate 9 (focus (go_ret;exact ⟨ret_bool (by rw [HR.out];first|(simp [sndB, *];done)|(simp [sndB, *];intros;omega)),by have:=bx.below;have:=bx.size;go_grown⟩))
  have a0:=later_cell bx.at_.c6.c0;have a1:=later_cell bx.at_.c6.c1;have a2:=later_cell bx.at_.c6.c2;have a3:=later_cell bx.at_.c6.c3;have a4:=later_cell bx.at_.c6.c4;have a5:=later_cell bx.at_.c1
  have hbx:=bx.below
  have hbs:=bx.size
  rcases bcT sd (dec16 c.pl dp) with rfl|⟨rfl,(⟨hd,hdI,hdB⟩|⟨hd,hdI,hdB⟩)⟩
  all_goals
    refine wp_region_later (by kernel_rfl) (by kernel_rfl) ?_
    repeat (go_big_quiet_step ((first|(go_at_call 57;exact later_call (HSD.out _ (hbx.trans ((below_later _ _).mono (by omega)))))|(go_at_call 58;exact later_call (HDP.out _ (hbx.trans ((below_later _ _).mono (by omega)))))|(go_at_call 59;exact later_call (HWT.out _ (hbx.trans ((below_later _ _).mono (by omega))))))))
    refine wpQuiet_nil ?_
    intro _ hw'
    obtain ⟨pq,hw''⟩:=hw'
    subst hw''
    go_wp2_with fail
    go_ret
    exact ⟨ret_bool (by rw [HR.out];first|(simp [sndB, *];done)|(simp [sndB, *];intros;omega)),hbx.trans ((below_later _ _).mono (by omega))⟩
set_option maxHeartbeats 8000000 in
set_option maxRecDepth 100000 in
theorem ref06Sound5 (w:World) (c:CC) {R ps vk vs bk be i0 j0 n0 vn sd:Bool} {dp wt:Nat} (h:SndH w c R ps vk vs bk be i0 j0 n0 vn sd dp wt) (ek:c.k=5):
    Calls Tryd.prog 36 #[.agg #[.int .u8 c.k, .slice c.pa c.pl c.pc, .string c.key, .int .i64 c.i, .int .i64 c.j, .int .i64 c.n, .int .u8 c.v.k, .int .i64 c.v.n, .string c.v.s, .slice c.v.la c.v.ll c.v.lc, .slice c.v.oa c.v.ol c.v.oc, .string c.s]] w fun e w'=>e= .returned (.bool R)∧Below w.heap.size w w':=by
  obtain ⟨hbk,hbe,hi0,hj0,hn0,HPS,HVK,HVS,HVN,HSD,HDP,HWT,HSAYS,⟨k1,k4,k5⟩,hR2⟩:=h
  have bx:=boxed1C_start w c 75
  have e1:saysB c.k= { data:= #[73] } :=by rw [ek];rfl
  rw [e1] at HSAYS
  have HIN:∀(b:Nat) {t:Bool},hasB { data:= #[73] } b=t→Hid (Behind w 62 #[.string { data:= #[73] }, .int .u8 b] (.bool t)):=fun b t ht W _=>by rw [←ht];exact in06_any { data:= #[73] } b W (by decide)
  have hR3:R=sndB true false true false false false false bk (!i0) (!j0) (!n0) be vn ps vk vs (decide (0≤c.i)) (decide (0≤c.j)) false false sd (decide (c.pl+1+dp≤16)) (decide (wt≤20000)):=by
    rw [hR2,ek]
    first|rfl|(cases be<;>rfl)
  have HR:=Lib.hid hR3
  have f8:(c.k==8)=false:=by rw [ek];rfl
  have f9:(c.k==9)=false:=by rw [ek];rfl
  have HLK:Hid (Behind w 62 #[.string { data:= #[73] }, .int .u8 75] (.bool false)):=HIN 75 (by decide);have HLI:Hid (Behind w 62 #[.string { data:= #[73] }, .int .u8 73] (.bool true)):=HIN 73 (by decide);have HLJ:Hid (Behind w 62 #[.string { data:= #[73] }, .int .u8 74] (.bool false)):=HIN 74 (by decide);have HLN:Hid (Behind w 62 #[.string { data:= #[73] }, .int .u8 78] (.bool false)):=HIN 78 (by decide);have HLS:Hid (Behind w 62 #[.string { data:= #[73] }, .int .u8 83] (.bool false)):=HIN 83 (by decide);have HLV:Hid (Behind w 62 #[.string { data:= #[73] }, .int .u8 86] (.bool false)):=HIN 86 (by decide)
  clear hR2 hR3 e1 HIN ek
  go_enter Tryd.func36,Tryd.ntmps36
  go_wp2_with ((go_at_call 60;(with_reducible refine (Behind.at_ HSAYS.out ?_).mono ?_));(focus (have:=bx.below;have:=bx.size;go_grown));rintro e w1 ⟨rfl,hb1⟩;replace bx:=(bx.step (by go_grown)).step hb1;obtain ⟨zs,z0,z1,z2,z3,z4,z5,z6,y0,y1,y2,y3,y4⟩:=bx.all)
  rcases bcT ps (bcT bk (bcF j0 (bcF n0 (bcT be (bcT vn (bcT vk (bcT vs (bcP (c.i<0) (bcP (c.j<0) trivial))))))))) with rfl|⟨rfl,(rfl|⟨rfl,(rfl|⟨rfl,(rfl|⟨rfl,(rfl|⟨rfl,(rfl|⟨rfl,(rfl|⟨rfl,(rfl|⟨rfl,(hpi|⟨hpi,(hpj|⟨hpj,_⟩)⟩)⟩)⟩)⟩)⟩)⟩)⟩)⟩)⟩
  all_goals go_wp2_with ((first|(go_at_call 61;(with_reducible refine (Behind.at_ HPS.out ?_).mono ?_))|(go_at_call 62;(with_reducible refine (Behind.at_ HLK.out ?_).mono ?_))|(go_at_call 62;(with_reducible refine (Behind.at_ HLI.out ?_).mono ?_))|(go_at_call 62;(with_reducible refine (Behind.at_ HLJ.out ?_).mono ?_))|(go_at_call 62;(with_reducible refine (Behind.at_ HLN.out ?_).mono ?_))|(go_at_call 62;(with_reducible refine (Behind.at_ HLS.out ?_).mono ?_))|(go_at_call 62;(with_reducible refine (Behind.at_ HLV.out ?_).mono ?_))|(go_at_call 15;(with_reducible refine (Behind.at_ HVN.out ?_).mono ?_))|(go_at_call 34;(with_reducible refine (Behind.at_ HVK.out ?_).mono ?_))|(go_at_call 34;(with_reducible refine (Behind.at_ HVS.out ?_).mono ?_)));(focus (have:=bx.below;have:=bx.size;go_grown));rintro e w1 ⟨rfl,hb1⟩;replace bx:=(bx.step (by go_grown)).step hb1;obtain ⟨zs,z0,z1,z2,z3,z4,z5,z6,y0,y1,y2,y3,y4⟩:=bx.all)
  iterate 10 (focus (go_ret;exact ⟨ret_bool (by rw [HR.out];first|(simp [sndB, *];done)|(simp [sndB, *];intros;omega)),by have:=bx.below;have:=bx.size;go_grown⟩))
  have a0:=later_cell bx.at_.c6.c0;have a1:=later_cell bx.at_.c6.c1;have a2:=later_cell bx.at_.c6.c2;have a3:=later_cell bx.at_.c6.c3;have a4:=later_cell bx.at_.c6.c4;have a5:=later_cell bx.at_.c1
  have hbx:=bx.below
  have hbs:=bx.size
  rcases bcT sd (dec16 c.pl dp) with rfl|⟨rfl,(⟨hd,hdI,hdB⟩|⟨hd,hdI,hdB⟩)⟩
  all_goals
    refine wp_region_later (by kernel_rfl) (by kernel_rfl) ?_
    repeat (go_big_quiet_step ((first|(go_at_call 57;exact later_call (HSD.out _ (hbx.trans ((below_later _ _).mono (by omega)))))|(go_at_call 58;exact later_call (HDP.out _ (hbx.trans ((below_later _ _).mono (by omega)))))|(go_at_call 59;exact later_call (HWT.out _ (hbx.trans ((below_later _ _).mono (by omega))))))))
    refine wpQuiet_nil ?_
    intro _ hw'
    obtain ⟨pq,hw''⟩:=hw'
    subst hw''
    go_wp2_with fail
    go_ret
    exact ⟨ret_bool (by rw [HR.out];first|(simp [sndB, *];done)|(simp [sndB, *];intros;omega)),hbx.trans ((below_later _ _).mono (by omega))⟩
end Go.Proofs.YthceefjafklcmaaDoor
namespace Go.Proofs.YthceefjafklcmaaDoor
open Go.RowKit
set_option maxHeartbeats 8000000 in
set_option maxRecDepth 100000 in
theorem ref06Sound6 (w:World) (c:CC) {R ps vk vs bk be i0 j0 n0 vn sd:Bool} {dp wt:Nat} (h:SndH w c R ps vk vs bk be i0 j0 n0 vn sd dp wt) (ek:c.k=6):
    Calls Tryd.prog 36 #[.agg #[.int .u8 c.k, .slice c.pa c.pl c.pc, .string c.key, .int .i64 c.i, .int .i64 c.j, .int .i64 c.n, .int .u8 c.v.k, .int .i64 c.v.n, .string c.v.s, .slice c.v.la c.v.ll c.v.lc, .slice c.v.oa c.v.ol c.v.oc, .string c.s]] w fun e w'=>e= .returned (.bool R)∧Below w.heap.size w w':=by
  obtain ⟨hbk,hbe,hi0,hj0,hn0,HPS,HVK,HVS,HVN,HSD,HDP,HWT,HSAYS,⟨k1,k4,k5⟩,hR2⟩:=h
  have bx:=boxed1C_start w c 75
  have e1:saysB c.k= { data:= #[73,86] } :=by rw [ek];rfl
  rw [e1] at HSAYS
  have HIN:∀(b:Nat) {t:Bool},hasB { data:= #[73,86] } b=t→Hid (Behind w 62 #[.string { data:= #[73,86] }, .int .u8 b] (.bool t)):=fun b t ht W _=>by rw [←ht];exact in06_any { data:= #[73,86] } b W (by decide)
  have hR3:R=sndB true false true false false false true bk (!i0) (!j0) (!n0) be vn ps vk vs (decide (0≤c.i)) (decide (0≤c.j)) false false sd (decide (c.pl+1+dp≤16)) (decide (wt≤20000)):=by
    rw [hR2,ek]
    first|rfl|(cases be<;>rfl)
  have HR:=Lib.hid hR3
  have f8:(c.k==8)=false:=by rw [ek];rfl
  have f9:(c.k==9)=false:=by rw [ek];rfl
  have HLK:Hid (Behind w 62 #[.string { data:= #[73,86] }, .int .u8 75] (.bool false)):=HIN 75 (by decide);have HLI:Hid (Behind w 62 #[.string { data:= #[73,86] }, .int .u8 73] (.bool true)):=HIN 73 (by decide);have HLJ:Hid (Behind w 62 #[.string { data:= #[73,86] }, .int .u8 74] (.bool false)):=HIN 74 (by decide);have HLN:Hid (Behind w 62 #[.string { data:= #[73,86] }, .int .u8 78] (.bool false)):=HIN 78 (by decide);have HLS:Hid (Behind w 62 #[.string { data:= #[73,86] }, .int .u8 83] (.bool false)):=HIN 83 (by decide);have HLV:Hid (Behind w 62 #[.string { data:= #[73,86] }, .int .u8 86] (.bool true)):=HIN 86 (by decide)
  clear hR2 hR3 e1 HIN ek
  go_enter Tryd.func36,Tryd.ntmps36
  go_wp2_with ((go_at_call 60;(with_reducible refine (Behind.at_ HSAYS.out ?_).mono ?_));(focus (have:=bx.below;have:=bx.size;go_grown));rintro e w1 ⟨rfl,hb1⟩;replace bx:=(bx.step (by go_grown)).step hb1;obtain ⟨zs,z0,z1,z2,z3,z4,z5,z6,y0,y1,y2,y3,y4⟩:=bx.all)
  rcases bcT ps (bcT bk (bcF j0 (bcF n0 (bcT be (bcT vk (bcT vs (bcP (c.i<0) (bcP (c.j<0) trivial)))))))) with rfl|⟨rfl,(rfl|⟨rfl,(rfl|⟨rfl,(rfl|⟨rfl,(rfl|⟨rfl,(rfl|⟨rfl,(rfl|⟨rfl,(hpi|⟨hpi,(hpj|⟨hpj,_⟩)⟩)⟩)⟩)⟩)⟩)⟩)⟩)⟩
  all_goals go_wp2_with ((first|(go_at_call 61;(with_reducible refine (Behind.at_ HPS.out ?_).mono ?_))|(go_at_call 62;(with_reducible refine (Behind.at_ HLK.out ?_).mono ?_))|(go_at_call 62;(with_reducible refine (Behind.at_ HLI.out ?_).mono ?_))|(go_at_call 62;(with_reducible refine (Behind.at_ HLJ.out ?_).mono ?_))|(go_at_call 62;(with_reducible refine (Behind.at_ HLN.out ?_).mono ?_))|(go_at_call 62;(with_reducible refine (Behind.at_ HLS.out ?_).mono ?_))|(go_at_call 62;(with_reducible refine (Behind.at_ HLV.out ?_).mono ?_))|(go_at_call 34;(with_reducible refine (Behind.at_ HVK.out ?_).mono ?_))|(go_at_call 34;(with_reducible refine (Behind.at_ HVS.out ?_).mono ?_)));(focus (have:=bx.below;have:=bx.size;go_grown));rintro e w1 ⟨rfl,hb1⟩;replace bx:=(bx.step (by go_grown)).step hb1;obtain ⟨zs,z0,z1,z2,z3,z4,z5,z6,y0,y1,y2,y3,y4⟩:=bx.all)
  iterate 9 (focus (go_ret;exact ⟨ret_bool (by rw [HR.out];first|(simp [sndB, *];done)|(simp [sndB, *];intros;omega)),by have:=bx.below;have:=bx.size;go_grown⟩))
  have a0:=later_cell bx.at_.c6.c0;have a1:=later_cell bx.at_.c6.c1;have a2:=later_cell bx.at_.c6.c2;have a3:=later_cell bx.at_.c6.c3;have a4:=later_cell bx.at_.c6.c4;have a5:=later_cell bx.at_.c1
  have hbx:=bx.below
  have hbs:=bx.size
  rcases bcT sd (dec16 c.pl dp) with rfl|⟨rfl,(⟨hd,hdI,hdB⟩|⟨hd,hdI,hdB⟩)⟩
  all_goals
    refine wp_region_later (by kernel_rfl) (by kernel_rfl) ?_
    repeat (go_big_quiet_step ((first|(go_at_call 57;exact later_call (HSD.out _ (hbx.trans ((below_later _ _).mono (by omega)))))|(go_at_call 58;exact later_call (HDP.out _ (hbx.trans ((below_later _ _).mono (by omega)))))|(go_at_call 59;exact later_call (HWT.out _ (hbx.trans ((below_later _ _).mono (by omega))))))))
    refine wpQuiet_nil ?_
    intro _ hw'
    obtain ⟨pq,hw''⟩:=hw'
    subst hw''
    go_wp2_with fail
    go_ret
    exact ⟨ret_bool (by rw [HR.out];first|(simp [sndB, *];done)|(simp [sndB, *];intros;omega)),hbx.trans ((below_later _ _).mono (by omega))⟩
set_option maxHeartbeats 8000000 in
set_option maxRecDepth 100000 in
theorem ref06Sound7 (w:World) (c:CC) {R ps vk vs bk be i0 j0 n0 vn sd:Bool} {dp wt:Nat} (h:SndH w c R ps vk vs bk be i0 j0 n0 vn sd dp wt) (ek:c.k=7):
    Calls Tryd.prog 36 #[.agg #[.int .u8 c.k, .slice c.pa c.pl c.pc, .string c.key, .int .i64 c.i, .int .i64 c.j, .int .i64 c.n, .int .u8 c.v.k, .int .i64 c.v.n, .string c.v.s, .slice c.v.la c.v.ll c.v.lc, .slice c.v.oa c.v.ol c.v.oc, .string c.s]] w fun e w'=>e= .returned (.bool R)∧Below w.heap.size w w':=by
  obtain ⟨hbk,hbe,hi0,hj0,hn0,HPS,HVK,HVS,HVN,HSD,HDP,HWT,HSAYS,⟨k1,k4,k5⟩,hR2⟩:=h
  have bx:=boxed1C_start w c 75
  have e1:saysB c.k= { data:= #[73,74] } :=by rw [ek];rfl
  rw [e1] at HSAYS
  have HIN:∀(b:Nat) {t:Bool},hasB { data:= #[73,74] } b=t→Hid (Behind w 62 #[.string { data:= #[73,74] }, .int .u8 b] (.bool t)):=fun b t ht W _=>by rw [←ht];exact in06_any { data:= #[73,74] } b W (by decide)
  have hR3:R=sndB true false true true false false false bk (!i0) (!j0) (!n0) be vn ps vk vs (decide (0≤c.i)) (decide (0≤c.j)) false false sd (decide (c.pl+1+dp≤16)) (decide (wt≤20000)):=by
    rw [hR2,ek]
    first|rfl|(cases be<;>rfl)
  have HR:=Lib.hid hR3
  have f8:(c.k==8)=false:=by rw [ek];rfl
  have f9:(c.k==9)=false:=by rw [ek];rfl
  have HLK:Hid (Behind w 62 #[.string { data:= #[73,74] }, .int .u8 75] (.bool false)):=HIN 75 (by decide);have HLI:Hid (Behind w 62 #[.string { data:= #[73,74] }, .int .u8 73] (.bool true)):=HIN 73 (by decide);have HLJ:Hid (Behind w 62 #[.string { data:= #[73,74] }, .int .u8 74] (.bool true)):=HIN 74 (by decide);have HLN:Hid (Behind w 62 #[.string { data:= #[73,74] }, .int .u8 78] (.bool false)):=HIN 78 (by decide);have HLS:Hid (Behind w 62 #[.string { data:= #[73,74] }, .int .u8 83] (.bool false)):=HIN 83 (by decide);have HLV:Hid (Behind w 62 #[.string { data:= #[73,74] }, .int .u8 86] (.bool false)):=HIN 86 (by decide)
  clear hR2 hR3 e1 HIN ek
  go_enter Tryd.func36,Tryd.ntmps36
  go_wp2_with ((go_at_call 60;(with_reducible refine (Behind.at_ HSAYS.out ?_).mono ?_));(focus (have:=bx.below;have:=bx.size;go_grown));rintro e w1 ⟨rfl,hb1⟩;replace bx:=(bx.step (by go_grown)).step hb1;obtain ⟨zs,z0,z1,z2,z3,z4,z5,z6,y0,y1,y2,y3,y4⟩:=bx.all)
  rcases bcT ps (bcT bk (bcF n0 (bcT be (bcT vn (bcT vk (bcT vs (bcP (c.i<0) (bcP (c.j<0) trivial)))))))) with rfl|⟨rfl,(rfl|⟨rfl,(rfl|⟨rfl,(rfl|⟨rfl,(rfl|⟨rfl,(rfl|⟨rfl,(rfl|⟨rfl,(hpi|⟨hpi,(hpj|⟨hpj,_⟩)⟩)⟩)⟩)⟩)⟩)⟩)⟩)⟩
  all_goals go_wp2_with ((first|(go_at_call 61;(with_reducible refine (Behind.at_ HPS.out ?_).mono ?_))|(go_at_call 62;(with_reducible refine (Behind.at_ HLK.out ?_).mono ?_))|(go_at_call 62;(with_reducible refine (Behind.at_ HLI.out ?_).mono ?_))|(go_at_call 62;(with_reducible refine (Behind.at_ HLJ.out ?_).mono ?_))|(go_at_call 62;(with_reducible refine (Behind.at_ HLN.out ?_).mono ?_))|(go_at_call 62;(with_reducible refine (Behind.at_ HLS.out ?_).mono ?_))|(go_at_call 62;(with_reducible refine (Behind.at_ HLV.out ?_).mono ?_))|(go_at_call 15;(with_reducible refine (Behind.at_ HVN.out ?_).mono ?_))|(go_at_call 34;(with_reducible refine (Behind.at_ HVK.out ?_).mono ?_))|(go_at_call 34;(with_reducible refine (Behind.at_ HVS.out ?_).mono ?_)));(focus (have:=bx.below;have:=bx.size;go_grown));rintro e w1 ⟨rfl,hb1⟩;replace bx:=(bx.step (by go_grown)).step hb1;obtain ⟨zs,z0,z1,z2,z3,z4,z5,z6,y0,y1,y2,y3,y4⟩:=bx.all)
  iterate 9 (focus (go_ret;exact ⟨ret_bool (by rw [HR.out];first|(simp [sndB, *];done)|(simp [sndB, *];intros;omega)),by have:=bx.below;have:=bx.size;go_grown⟩))
  have a0:=later_cell bx.at_.c6.c0;have a1:=later_cell bx.at_.c6.c1;have a2:=later_cell bx.at_.c6.c2;have a3:=later_cell bx.at_.c6.c3;have a4:=later_cell bx.at_.c6.c4;have a5:=later_cell bx.at_.c1
  have hbx:=bx.below
  have hbs:=bx.size
  rcases bcT sd (dec16 c.pl dp) with rfl|⟨rfl,(⟨hd,hdI,hdB⟩|⟨hd,hdI,hdB⟩)⟩
  all_goals
    refine wp_region_later (by kernel_rfl) (by kernel_rfl) ?_
    repeat (go_big_quiet_step ((first|(go_at_call 57;exact later_call (HSD.out _ (hbx.trans ((below_later _ _).mono (by omega)))))|(go_at_call 58;exact later_call (HDP.out _ (hbx.trans ((below_later _ _).mono (by omega)))))|(go_at_call 59;exact later_call (HWT.out _ (hbx.trans ((below_later _ _).mono (by omega))))))))
    refine wpQuiet_nil ?_
    intro _ hw'
    obtain ⟨pq,hw''⟩:=hw'
    subst hw''
    go_wp2_with fail
    go_ret
    exact ⟨ret_bool (by rw [HR.out];first|(simp [sndB, *];done)|(simp [sndB, *];intros;omega)),hbx.trans ((below_later _ _).mono (by omega))⟩
set_option maxHeartbeats 8000000 in
set_option maxRecDepth 100000 in
theorem ref06Sound8 (w:World) (c:CC) {R ps vk vs bk be i0 j0 n0 vn sd:Bool} {dp wt:Nat} (h:SndH w c R ps vk vs bk be i0 j0 n0 vn sd dp wt) (ek:c.k=8):
    Calls Tryd.prog 36 #[.agg #[.int .u8 c.k, .slice c.pa c.pl c.pc, .string c.key, .int .i64 c.i, .int .i64 c.j, .int .i64 c.n, .int .u8 c.v.k, .int .i64 c.v.n, .string c.v.s, .slice c.v.la c.v.ll c.v.lc, .slice c.v.oa c.v.ol c.v.oc, .string c.s]] w fun e w'=>e= .returned (.bool R)∧Below w.heap.size w w':=by
  obtain ⟨hbk,hbe,hi0,hj0,hn0,HPS,HVK,HVS,HVN,HSD,HDP,HWT,HSAYS,⟨k1,k4,k5⟩,hR2⟩:=h
  have bx:=boxed1C_start w c 75
  have e1:saysB c.k= { data:= #[73,83] } :=by rw [ek];rfl
  rw [e1] at HSAYS
  have HIN:∀(b:Nat) {t:Bool},hasB { data:= #[73,83] } b=t→Hid (Behind w 62 #[.string { data:= #[73,83] }, .int .u8 b] (.bool t)):=fun b t ht W _=>by rw [←ht];exact in06_any { data:= #[73,83] } b W (by decide)
  have hR3:R=sndB true false true false false true false bk (!i0) (!j0) (!n0) be vn ps vk vs (decide (0≤c.i)) (decide (0≤c.j)) be false sd (decide (c.pl+1+dp≤16)) (decide (wt≤20000)):=by
    rw [hR2,ek]
    first|rfl|(cases be<;>rfl)
  have HR:=Lib.hid hR3
  have f8:(c.k==8)=true:=by rw [ek];rfl
  have f9:(c.k==9)=false:=by rw [ek];rfl
  have HLK:Hid (Behind w 62 #[.string { data:= #[73,83] }, .int .u8 75] (.bool false)):=HIN 75 (by decide);have HLI:Hid (Behind w 62 #[.string { data:= #[73,83] }, .int .u8 73] (.bool true)):=HIN 73 (by decide);have HLJ:Hid (Behind w 62 #[.string { data:= #[73,83] }, .int .u8 74] (.bool false)):=HIN 74 (by decide);have HLN:Hid (Behind w 62 #[.string { data:= #[73,83] }, .int .u8 78] (.bool false)):=HIN 78 (by decide);have HLS:Hid (Behind w 62 #[.string { data:= #[73,83] }, .int .u8 83] (.bool true)):=HIN 83 (by decide);have HLV:Hid (Behind w 62 #[.string { data:= #[73,83] }, .int .u8 86] (.bool false)):=HIN 86 (by decide)
  clear hR2 hR3 e1 HIN ek
  go_enter Tryd.func36,Tryd.ntmps36
  go_wp2_with ((go_at_call 60;(with_reducible refine (Behind.at_ HSAYS.out ?_).mono ?_));(focus (have:=bx.below;have:=bx.size;go_grown));rintro e w1 ⟨rfl,hb1⟩;replace bx:=(bx.step (by go_grown)).step hb1;obtain ⟨zs,z0,z1,z2,z3,z4,z5,z6,y0,y1,y2,y3,y4⟩:=bx.all)
  rcases bcT ps (bcT bk (bcF j0 (bcF n0 (bcT vn (bcT vk (bcT vs (bcP (c.i<0) (bcP (c.j<0) (bcF be trivial))))))))) with rfl|⟨rfl,(rfl|⟨rfl,(rfl|⟨rfl,(rfl|⟨rfl,(rfl|⟨rfl,(rfl|⟨rfl,(rfl|⟨rfl,(hpi|⟨hpi,(hpj|⟨hpj,(rfl|⟨rfl,_⟩)⟩)⟩)⟩)⟩)⟩)⟩)⟩)⟩)⟩
  all_goals go_wp2_with ((first|(go_at_call 61;(with_reducible refine (Behind.at_ HPS.out ?_).mono ?_))|(go_at_call 62;(with_reducible refine (Behind.at_ HLK.out ?_).mono ?_))|(go_at_call 62;(with_reducible refine (Behind.at_ HLI.out ?_).mono ?_))|(go_at_call 62;(with_reducible refine (Behind.at_ HLJ.out ?_).mono ?_))|(go_at_call 62;(with_reducible refine (Behind.at_ HLN.out ?_).mono ?_))|(go_at_call 62;(with_reducible refine (Behind.at_ HLS.out ?_).mono ?_))|(go_at_call 62;(with_reducible refine (Behind.at_ HLV.out ?_).mono ?_))|(go_at_call 15;(with_reducible refine (Behind.at_ HVN.out ?_).mono ?_))|(go_at_call 34;(with_reducible refine (Behind.at_ HVK.out ?_).mono ?_))|(go_at_call 34;(with_reducible refine (Behind.at_ HVS.out ?_).mono ?_)));(focus (have:=bx.below;have:=bx.size;go_grown));rintro e w1 ⟨rfl,hb1⟩;replace bx:=(bx.step (by go_grown)).step hb1;obtain ⟨zs,z0,z1,z2,z3,z4,z5,z6,y0,y1,y2,y3,y4⟩:=bx.all)
  iterate 10 (focus (go_ret;exact ⟨ret_bool (by rw [HR.out];first|(simp [sndB, *];done)|(simp [sndB, *];intros;omega)),by have:=bx.below;have:=bx.size;go_grown⟩))
  have a0:=later_cell bx.at_.c6.c0;have a1:=later_cell bx.at_.c6.c1;have a2:=later_cell bx.at_.c6.c2;have a3:=later_cell bx.at_.c6.c3;have a4:=later_cell bx.at_.c6.c4;have a5:=later_cell bx.at_.c1
  have hbx:=bx.below
  have hbs:=bx.size
  rcases bcT sd (dec16 c.pl dp) with rfl|⟨rfl,(⟨hd,hdI,hdB⟩|⟨hd,hdI,hdB⟩)⟩
  all_goals
    refine wp_region_later (by kernel_rfl) (by kernel_rfl) ?_
    repeat (go_big_quiet_step ((first|(go_at_call 57;exact later_call (HSD.out _ (hbx.trans ((below_later _ _).mono (by omega)))))|(go_at_call 58;exact later_call (HDP.out _ (hbx.trans ((below_later _ _).mono (by omega)))))|(go_at_call 59;exact later_call (HWT.out _ (hbx.trans ((below_later _ _).mono (by omega))))))))
    refine wpQuiet_nil ?_
    intro _ hw'
    obtain ⟨pq,hw''⟩:=hw'
    subst hw''
    go_wp2_with fail
    go_ret
    exact ⟨ret_bool (by rw [HR.out];first|(simp [sndB, *];done)|(simp [sndB, *];intros;omega)),hbx.trans ((below_later _ _).mono (by omega))⟩
set_option maxHeartbeats 8000000 in
set_option maxRecDepth 100000 in
theorem ref06Sound9 (w:World) (c:CC) {R ps vk vs bk be i0 j0 n0 vn sd:Bool} {dp wt:Nat} (h:SndH w c R ps vk vs bk be i0 j0 n0 vn sd dp wt) (ek:c.k=9):
    Calls Tryd.prog 36 #[.agg #[.int .u8 c.k, .slice c.pa c.pl c.pc, .string c.key, .int .i64 c.i, .int .i64 c.j, .int .i64 c.n, .int .u8 c.v.k, .int .i64 c.v.n, .string c.v.s, .slice c.v.la c.v.ll c.v.lc, .slice c.v.oa c.v.ol c.v.oc, .string c.s]] w fun e w'=>e= .returned (.bool R)∧Below w.heap.size w w':=by
  obtain ⟨hbk,hbe,hi0,hj0,hn0,HPS,HVK,HVS,HVN,HSD,HDP,HWT,HSAYS,⟨k1,k4,k5⟩,hR2⟩:=h
  have bx:=boxed1C_start w c 75
  have e1:saysB c.k= { data:= #[73,78] } :=by rw [ek];rfl
  rw [e1] at HSAYS
  have HIN:∀(b:Nat) {t:Bool},hasB { data:= #[73,78] } b=t→Hid (Behind w 62 #[.string { data:= #[73,78] }, .int .u8 b] (.bool t)):=fun b t ht W _=>by rw [←ht];exact in06_any { data:= #[73,78] } b W (by decide)
  have hR3:R=sndB true false true false true false false bk (!i0) (!j0) (!n0) be vn ps vk vs (decide (0≤c.i)) (decide (0≤c.j)) false (decide (c.n<1)) sd (decide (c.pl+1+dp≤16)) (decide (wt≤20000)):=by
    rw [hR2,ek]
    first|rfl|(cases be<;>rfl)
  have HR:=Lib.hid hR3
  have f8:(c.k==8)=false:=by rw [ek];rfl
  have f9:(c.k==9)=true:=by rw [ek];rfl
  have HLK:Hid (Behind w 62 #[.string { data:= #[73,78] }, .int .u8 75] (.bool false)):=HIN 75 (by decide);have HLI:Hid (Behind w 62 #[.string { data:= #[73,78] }, .int .u8 73] (.bool true)):=HIN 73 (by decide);have HLJ:Hid (Behind w 62 #[.string { data:= #[73,78] }, .int .u8 74] (.bool false)):=HIN 74 (by decide);have HLN:Hid (Behind w 62 #[.string { data:= #[73,78] }, .int .u8 78] (.bool true)):=HIN 78 (by decide);have HLS:Hid (Behind w 62 #[.string { data:= #[73,78] }, .int .u8 83] (.bool false)):=HIN 83 (by decide);have HLV:Hid (Behind w 62 #[.string { data:= #[73,78] }, .int .u8 86] (.bool false)):=HIN 86 (by decide)
  clear hR2 hR3 e1 HIN ek
  go_enter Tryd.func36,Tryd.ntmps36
  go_wp2_with ((go_at_call 60;(with_reducible refine (Behind.at_ HSAYS.out ?_).mono ?_));(focus (have:=bx.below;have:=bx.size;go_grown));rintro e w1 ⟨rfl,hb1⟩;replace bx:=(bx.step (by go_grown)).step hb1;obtain ⟨zs,z0,z1,z2,z3,z4,z5,z6,y0,y1,y2,y3,y4⟩:=bx.all)
  rcases bcT ps (bcT bk (bcF j0 (bcT be (bcT vn (bcT vk (bcT vs (bcP (c.i<0) (bcP (c.j<0) (bcP (c.n<1) trivial))))))))) with rfl|⟨rfl,(rfl|⟨rfl,(rfl|⟨rfl,(rfl|⟨rfl,(rfl|⟨rfl,(rfl|⟨rfl,(rfl|⟨rfl,(hpi|⟨hpi,(hpj|⟨hpj,(hpn|⟨hpn,_⟩)⟩)⟩)⟩)⟩)⟩)⟩)⟩)⟩)⟩
  all_goals go_wp2_with ((first|(go_at_call 61;(with_reducible refine (Behind.at_ HPS.out ?_).mono ?_))|(go_at_call 62;(with_reducible refine (Behind.at_ HLK.out ?_).mono ?_))|(go_at_call 62;(with_reducible refine (Behind.at_ HLI.out ?_).mono ?_))|(go_at_call 62;(with_reducible refine (Behind.at_ HLJ.out ?_).mono ?_))|(go_at_call 62;(with_reducible refine (Behind.at_ HLN.out ?_).mono ?_))|(go_at_call 62;(with_reducible refine (Behind.at_ HLS.out ?_).mono ?_))|(go_at_call 62;(with_reducible refine (Behind.at_ HLV.out ?_).mono ?_))|(go_at_call 15;(with_reducible refine (Behind.at_ HVN.out ?_).mono ?_))|(go_at_call 34;(with_reducible refine (Behind.at_ HVK.out ?_).mono ?_))|(go_at_call 34;(with_reducible refine (Behind.at_ HVS.out ?_).mono ?_)));(focus (have:=bx.below;have:=bx.size;go_grown));rintro e w1 ⟨rfl,hb1⟩;replace bx:=(bx.step (by go_grown)).step hb1;obtain ⟨zs,z0,z1,z2,z3,z4,z5,z6,y0,y1,y2,y3,y4⟩:=bx.all)
  iterate 10 (focus (go_ret;exact ⟨ret_bool (by rw [HR.out];first|(simp [sndB, *];done)|(simp [sndB, *];intros;omega)),by have:=bx.below;have:=bx.size;go_grown⟩))
  have a0:=later_cell bx.at_.c6.c0;have a1:=later_cell bx.at_.c6.c1;have a2:=later_cell bx.at_.c6.c2;have a3:=later_cell bx.at_.c6.c3;have a4:=later_cell bx.at_.c6.c4;have a5:=later_cell bx.at_.c1
  have hbx:=bx.below
  have hbs:=bx.size
  have hn2:decide (c.n<1)=false:=by simpa using hpn
  rcases bcT sd (dec16 c.pl dp) with rfl|⟨rfl,(⟨hd,hdI,hdB⟩|⟨hd,hdI,hdB⟩)⟩
  all_goals
    refine wp_region_later (by kernel_rfl) (by kernel_rfl) ?_
    repeat (go_big_quiet_step ((first|(go_at_call 57;exact later_call (HSD.out _ (hbx.trans ((below_later _ _).mono (by omega)))))|(go_at_call 58;exact later_call (HDP.out _ (hbx.trans ((below_later _ _).mono (by omega)))))|(go_at_call 59;exact later_call (HWT.out _ (hbx.trans ((below_later _ _).mono (by omega))))))))
    refine wpQuiet_nil ?_
    intro _ hw'
    obtain ⟨pq,hw''⟩:=hw'
    subst hw''
    go_wp2_with fail
    go_ret
    exact ⟨ret_bool (by rw [HR.out];first|(simp [sndB, *];done)|(simp [sndB, *];intros;omega)),hbx.trans ((below_later _ _).mono (by omega))⟩
end Go.Proofs.YthceefjafklcmaaDoor
namespace Go.Proofs.YthceefjafklcmaaDoor
open Go.RowKit
theorem ref06Sound_any (x:Cm) (w:World) (hT:Tabs w) (c:CC) (hx:IsComp w w.heap.size x c) (hw:x.v.weight≤4611686018427387904):
    Calls Tryd.prog 36 #[.agg #[.int .u8 c.k, .slice c.pa c.pl c.pc, .string c.key, .int .i64 c.i, .int .i64 c.j, .int .i64 c.n, .int .u8 c.v.k, .int .i64 c.v.n, .string c.v.s, .slice c.v.la c.v.ll c.v.lc, .slice c.v.oa c.v.ol c.v.oc, .string c.s]] w fun e w'=>e= .returned (.bool (cmSound x))∧Below w.heap.size w w':=by
  obtain ⟨_,_,_,_,_,_,_,_,_,_,_,_,h⟩:=sndH_of x w hT c hx hw
  by_cases e1:c.k=1
  · exact ref06Sound1 w c h e1
  by_cases e2:c.k=2
  · exact ref06Sound2 w c h e2
  by_cases e3:c.k=3
  · exact ref06Sound3 w c h e3
  by_cases e4:c.k=4
  · exact ref06Sound4 w c h e4
  by_cases e5:c.k=5
  · exact ref06Sound5 w c h e5
  by_cases e6:c.k=6
  · exact ref06Sound6 w c h e6
  by_cases e7:c.k=7
  · exact ref06Sound7 w c h e7
  by_cases e8:c.k=8
  · exact ref06Sound8 w c h e8
  by_cases e9:c.k=9
  · exact ref06Sound9 w c h e9
  exact ref06Sound0 w c h (by simp only [kIs,Bool.and_eq_false_iff,decide_eq_false_iff_not];omega)
end Go.Proofs.YthceefjafklcmaaDoor
namespace Go.Proofs.YthceefjafklcmaaDoor
open Go.RowKit
theorem CompAt.c7 {w:World} {b o:Nat} {c:CC} (h:CompAt w b o c):w.cell? ⟨b,o+7,none⟩=some (.int .i64 c.v.n):=h.c6.c1
theorem CompAt.c8 {w:World} {b o:Nat} {c:CC} (h:CompAt w b o c):w.cell? ⟨b,o+8,none⟩=some (.string c.v.s):=h.c6.c2
theorem CompAt.c9 {w:World} {b o:Nat} {c:CC} (h:CompAt w b o c):w.cell? ⟨b,o+9,none⟩=some (.slice c.v.la c.v.ll c.v.lc):=h.c6.c3
theorem CompAt.c10 {w:World} {b o:Nat} {c:CC} (h:CompAt w b o c):w.cell? ⟨b,o+10,none⟩=some (.slice c.v.oa c.v.ol c.v.oc):=h.c6.c4
theorem EntryAt.c4 {w:World} {b o:Nat} {c:EC} (h:EntryAt w b o c):w.cell? ⟨b,o+4,none⟩=some (.int .i64 c.v.n):=h.c3.c1
theorem EntryAt.c5 {w:World} {b o:Nat} {c:EC} (h:EntryAt w b o c):w.cell? ⟨b,o+5,none⟩=some (.string c.v.s):=h.c3.c2
theorem EntryAt.c6 {w:World} {b o:Nat} {c:EC} (h:EntryAt w b o c):w.cell? ⟨b,o+6,none⟩=some (.slice c.v.la c.v.ll c.v.lc):=h.c3.c3
theorem EntryAt.c7 {w:World} {b o:Nat} {c:EC} (h:EntryAt w b o c):w.cell? ⟨b,o+7,none⟩=some (.slice c.v.oa c.v.ol c.v.oc):=h.c3.c4
theorem Boxed1.next {w W W1 W2:World} {B:Nat} {c:VC} (h:Boxed1 w W c) (hb:Below B W1 W2) (hW:Below W.heap.size W W1) (hB:B=W1.heap.size):Boxed1 w W2 c:=by
  subst hB;exact (h.step hW).step hb
theorem Boxed1C.next {w W W1 W2:World} {B:Nat} {c:CC} (h:Boxed1C w W c) (hb:Below B W1 W2) (hW:Below W.heap.size W W1) (hB:B=W1.heap.size):Boxed1C w W2 c:=by
  subst hB;exact (h.step hW).step hb
def lightB (v:V):Bool:=v.sound && decide (v.deep≤16) && decide (v.weight≤20000)
set_option maxHeartbeats 4000000 in
set_option maxRecDepth 100000 in
theorem light_any (v:V) (w:World) (hT:Tabs w) (c:VC) (hv:IsVal w w.heap.size v c) (hw:v.weight≤4611686018427387904):
    Calls Tryd.prog 43 #[.agg #[.int .u8 c.k, .int .i64 c.n, .string c.s, .slice c.la c.ll c.lc, .slice c.oa c.ol c.oc]] w fun e w'=>e= .returned (.bool (lightB v))∧Below w.heap.size w w':=by
  obtain ⟨sd,hsd⟩:∃sd,v.sound=sd:=⟨_,rfl⟩
  obtain ⟨dp,hdp⟩:∃dp,v.deep=dp:=⟨_,rfl⟩
  obtain ⟨wt,hwt⟩:∃wt,v.weight=wt:=⟨_,rfl⟩
  have HSD:Hid (Behind w 73 #[.agg #[.int .u8 c.k, .int .i64 c.n, .string c.s, .slice c.la c.ll c.lc, .slice c.oa c.ol c.oc]] (.bool sd)):=fun W hW=>by rw [←hsd];exact valSound_any v W c (hv.later_ hW) (hT.below hW)
  have HDP:Hid (Behind w 74 #[.agg #[.int .u8 c.k, .int .i64 c.n, .string c.s, .slice c.la c.ll c.lc, .slice c.oa c.ol c.oc]] (.int .i64 dp)):=fun W hW=>by rw [←hdp];exact valDeep_any v hw W c (hv.later_ hW)
  have HWT:Hid (Behind w 75 #[.agg #[.int .u8 c.k, .int .i64 c.n, .string c.s, .slice c.la c.ll c.lc, .slice c.oa c.ol c.oc]] (.int .i64 wt)):=fun W hW=>by rw [←hwt];exact valWeight_any v hw W c (hv.later_ hW)
  have k4:wt≤4611686018427387904:=by omega
  have k5:dp≤4611686018427387904:=by have:=v.deep_lt;omega
  have hR2:lightB v=(sd && decide (dp≤16) && decide (wt≤20000)):=by rw [lightB,hsd,hdp,hwt]
  have HR:=Lib.hid hR2
  have bx:=boxed1_start w c 28
  clear hsd hdp hwt hR2 hv hw hT
  go_enter Tryd.func43,Tryd.ntmps43
  cases sd with
  |false=>go_wp2_with (go_at_call 73;(with_reducible refine (Behind.at_ (HSD.out) ?_).mono ?_);(focus (have:=bx.below;have:=bx.size;go_grown));rintro e w1 ⟨rfl,hb1⟩;replace bx:=bx.next hb1 (by go_grown) rfl;have zs:w.heap.size<w1.heap.size:=bx.size;have y0:=bx.a.c0;have y1:=bx.a.c1;have y2:=bx.a.c2;have y3:=bx.a.c3;have y4:=bx.a.c4);go_ret;exact ⟨ret_bool (by rw [HR.out];first|(simp [*];done)|(simp [*];try omega)),by have:=bx.below;have:=bx.size;go_grown⟩
  |true=>
  go_wp2_with (go_at_call 73;(with_reducible refine (Behind.at_ (HSD.out) ?_).mono ?_);(focus (have:=bx.below;have:=bx.size;go_grown));rintro e w1 ⟨rfl,hb1⟩;replace bx:=bx.next hb1 (by go_grown) rfl;have zs:w.heap.size<w1.heap.size:=bx.size;have y0:=bx.a.c0;have y1:=bx.a.c1;have y2:=bx.a.c2;have y3:=bx.a.c3;have y4:=bx.a.c4)
  by_cases hd:dp≤16
  case neg=>
    have hdB:decide ((dp:Int)≤16)=false:=by simp;omega
    go_wp2_with (go_at_call 74;(with_reducible refine (Behind.at_ (HDP.out) ?_).mono ?_);(focus (have:=bx.below;have:=bx.size;go_grown));rintro e w1 ⟨rfl,hb1⟩;replace bx:=bx.next hb1 (by go_grown) rfl;have zs:w.heap.size<w1.heap.size:=bx.size;have y0:=bx.a.c0;have y1:=bx.a.c1;have y2:=bx.a.c2;have y3:=bx.a.c3;have y4:=bx.a.c4);go_ret;exact ⟨ret_bool (by rw [HR.out];first|(simp [*];done)|(simp [*];try omega)),by have:=bx.below;have:=bx.size;go_grown⟩
  have hdB:decide ((dp:Int)≤16)=true:=by simp;omega
  go_wp2_with (first|(go_at_call 74;(with_reducible refine (Behind.at_ (HDP.out) ?_).mono ?_);(focus (have:=bx.below;have:=bx.size;go_grown));rintro e w1 ⟨rfl,hb1⟩;replace bx:=bx.next hb1 (by go_grown) rfl;have zs:w.heap.size<w1.heap.size:=bx.size;have y0:=bx.a.c0;have y1:=bx.a.c1;have y2:=bx.a.c2;have y3:=bx.a.c3;have y4:=bx.a.c4)|(go_at_call 75;(with_reducible refine (Behind.at_ (HWT.out) ?_).mono ?_);(focus (have:=bx.below;have:=bx.size;go_grown));rintro e w1 ⟨rfl,hb1⟩;replace bx:=bx.next hb1 (by go_grown) rfl;have zs:w.heap.size<w1.heap.size:=bx.size;have y0:=bx.a.c0;have y1:=bx.a.c1;have y2:=bx.a.c2;have y3:=bx.a.c3;have y4:=bx.a.c4))
  go_ret;exact ⟨ret_bool (by rw [HR.out];first|(simp [*];done)|(simp [*];try omega)),by have:=bx.below;have:=bx.size;go_grown⟩
set_option maxHeartbeats 4000000 in
set_option maxRecDepth 100000 in
theorem refLight_any (v:V) (w:World) (hT:Tabs w) (c:VC) (hv:IsVal w w.heap.size v c) (hw:v.weight≤4611686018427387904):
    Calls Tryd.prog 35 #[.agg #[.int .u8 c.k, .int .i64 c.n, .string c.s, .slice c.la c.ll c.lc, .slice c.oa c.ol c.oc]] w fun e w'=>e= .returned (.bool (lightB v))∧Below w.heap.size w w':=by
  obtain ⟨sd,hsd⟩:∃sd,v.sound=sd:=⟨_,rfl⟩
  obtain ⟨dp,hdp⟩:∃dp,v.deep=dp:=⟨_,rfl⟩
  obtain ⟨wt,hwt⟩:∃wt,v.weight=wt:=⟨_,rfl⟩
  have HSD:Hid (Behind w 57 #[.agg #[.int .u8 c.k, .int .i64 c.n, .string c.s, .slice c.la c.ll c.lc, .slice c.oa c.ol c.oc]] (.bool sd)):=fun W hW=>by rw [←hsd];exact refSound_any v W c (hv.later_ hW) (hT.below hW)
  have HDP:Hid (Behind w 58 #[.agg #[.int .u8 c.k, .int .i64 c.n, .string c.s, .slice c.la c.ll c.lc, .slice c.oa c.ol c.oc]] (.int .i64 dp)):=fun W hW=>by rw [←hdp];exact refDeep_any v W c (hv.later_ hW) hw
  have HWT:Hid (Behind w 59 #[.agg #[.int .u8 c.k, .int .i64 c.n, .string c.s, .slice c.la c.ll c.lc, .slice c.oa c.ol c.oc]] (.int .i64 wt)):=fun W hW=>by rw [←hwt];exact refWeight_any v W c (hv.later_ hW) hw
  have k4:wt≤4611686018427387904:=by omega
  have k5:dp≤4611686018427387904:=by have:=v.deep_lt;omega
  have hR2:lightB v=(sd && decide (dp≤16) && decide (wt≤20000)):=by rw [lightB,hsd,hdp,hwt]
  have HR:=Lib.hid hR2
  have bx:=boxed1_start w c 28
  clear hsd hdp hwt hR2 hv hw hT
  go_enter Tryd.func35,Tryd.ntmps35
  cases sd with
  |false=>go_wp2_with (go_at_call 57;(with_reducible refine (Behind.at_ (HSD.out) ?_).mono ?_);(focus (have:=bx.below;have:=bx.size;go_grown));rintro e w1 ⟨rfl,hb1⟩;replace bx:=bx.next hb1 (by go_grown) rfl;have zs:w.heap.size<w1.heap.size:=bx.size;have y0:=bx.a.c0;have y1:=bx.a.c1;have y2:=bx.a.c2;have y3:=bx.a.c3;have y4:=bx.a.c4);go_ret;exact ⟨ret_bool (by rw [HR.out];first|(simp [*];done)|(simp [*];try omega)),by have:=bx.below;have:=bx.size;go_grown⟩
  |true=>
  go_wp2_with (go_at_call 57;(with_reducible refine (Behind.at_ (HSD.out) ?_).mono ?_);(focus (have:=bx.below;have:=bx.size;go_grown));rintro e w1 ⟨rfl,hb1⟩;replace bx:=bx.next hb1 (by go_grown) rfl;have zs:w.heap.size<w1.heap.size:=bx.size;have y0:=bx.a.c0;have y1:=bx.a.c1;have y2:=bx.a.c2;have y3:=bx.a.c3;have y4:=bx.a.c4)
  by_cases hd:dp≤16
  case neg=>
    have hdB:decide ((dp:Int)≤16)=false:=by simp;omega
    go_wp2_with (go_at_call 58;(with_reducible refine (Behind.at_ (HDP.out) ?_).mono ?_);(focus (have:=bx.below;have:=bx.size;go_grown));rintro e w1 ⟨rfl,hb1⟩;replace bx:=bx.next hb1 (by go_grown) rfl;have zs:w.heap.size<w1.heap.size:=bx.size;have y0:=bx.a.c0;have y1:=bx.a.c1;have y2:=bx.a.c2;have y3:=bx.a.c3;have y4:=bx.a.c4);go_ret;exact ⟨ret_bool (by rw [HR.out];first|(simp [*];done)|(simp [*];try omega)),by have:=bx.below;have:=bx.size;go_grown⟩
  have hdB:decide ((dp:Int)≤16)=true:=by simp;omega
  go_wp2_with (first|(go_at_call 58;(with_reducible refine (Behind.at_ (HDP.out) ?_).mono ?_);(focus (have:=bx.below;have:=bx.size;go_grown));rintro e w1 ⟨rfl,hb1⟩;replace bx:=bx.next hb1 (by go_grown) rfl;have zs:w.heap.size<w1.heap.size:=bx.size;have y0:=bx.a.c0;have y1:=bx.a.c1;have y2:=bx.a.c2;have y3:=bx.a.c3;have y4:=bx.a.c4)|(go_at_call 59;(with_reducible refine (Behind.at_ (HWT.out) ?_).mono ?_);(focus (have:=bx.below;have:=bx.size;go_grown));rintro e w1 ⟨rfl,hb1⟩;replace bx:=bx.next hb1 (by go_grown) rfl;have zs:w.heap.size<w1.heap.size:=bx.size;have y0:=bx.a.c0;have y1:=bx.a.c1;have y2:=bx.a.c2;have y3:=bx.a.c3;have y4:=bx.a.c4))
  go_ret;exact ⟨ret_bool (by rw [HR.out];first|(simp [*];done)|(simp [*];try omega)),by have:=bx.below;have:=bx.size;go_grown⟩
set_option maxHeartbeats 2000000 in
set_option maxRecDepth 100000 in
theorem indexComp_any (l:List Cm) (w:World) (a:Option Addr) (n c:Nat) (h:IsComps w w.heap.size l a n c) (p:Cm→Bool) (g:Nat) (eg:∀args w,(callFunc g args).run Tryd.prog w= .ok (.enter g args) w)
    (hg:∀(x:Cm) (d:CC) (W:World),x ∈ l→Below w.heap.size w W→IsComp W W.heap.size x d→Calls Tryd.prog g #[.agg #[.int .u8 d.k, .slice d.pa d.pl d.pc, .string d.key, .int .i64 d.i, .int .i64 d.j, .int .i64 d.n, .int .u8 d.v.k, .int .i64 d.v.n, .string d.v.s, .slice d.v.la d.v.ll d.v.lc, .slice d.v.oa d.v.ol d.v.oc, .string d.s]] W fun e w'=>e= .returned (.bool (p x))∧Below W.heap.size W w'):
    Calls Tryd.prog 76 #[.slice a n c, .func (.func g) #[] #[]] w fun e w'=>(∃r:Int,e= .returned (.int .i64 r)∧Hid (decide (0≤r)=l.any p)∧ -1≤r∧r≤9223372036854775807)∧Below w.heap.size w w':=by
  have k1:=h.max;have k2:=h.few
  have HLn:=Lib.hid h.len
  have HG:=Lib.hid hg
  clear hg
  go_enter Tryd.func76,Tryd.ntmps76
  go_wp2_with fail
  go_loopw [5,8] (fun _ i wr=>∃k:Nat,k≤n∧i= .int .i64 k∧Hid (∀j,j<k→∀hj:j<l.length,p l[j] =false)∧Below w.heap.size w wr) (fun _ i _=>n - (intOf i).toNat)
  case atStart=>exact ⟨0,Nat.zero_le _,rfl,fun j hj=>by omega,Below.refl _ _⟩
  case round=>
    obtain ⟨k,hk,rfl,HJ,hB⟩:=hrel
    by_cases hlt:k<n
    · obtain ⟨b,o,d,kl,rfl,hb,x1,xb⟩:=h.get hlt
      have x1:=x1.keep hB hb
      have r0:=x1.c0;have r1:=x1.c1;have r2:=x1.c2;have r3:=x1.c3;have r4:=x1.c4;have r5:=x1.c5;have r6:=x1.c6.c0;have r7:=x1.c7;have r8:=x1.c8;have r9:=x1.c9;have r10:=x1.c10;have r11:=x1.c11
      have hc:=HG.out l[k] d wr (List.getElem_mem kl) hB (xb.later_ hB)
      clear x1 h
      generalize hx:p l[k] =bx at hc
      have HX:=Lib.hid hx
      have HC:=Lib.hid hc
      clear hx hc
      cases bx with
      | false=>
        go_wp2_with (go_at_fn g;refine HC.out.mono ?_;rintro e w' ⟨rfl,hb'⟩)
        go_roundw
        case rel=>exact ⟨k+1,by omega,by go_num,none_step HJ kl HX.out,hB.on hb' hB.size⟩
        case measure=>simp [intOf];omega
      | true=>
        go_wp2_with (go_at_fn g;refine HC.out.mono ?_;rintro e w' ⟨rfl,hb'⟩)
        go_ret
        exact ⟨⟨k,rfl,by show _=_;rw [any_hit kl HX.out];simp,by omega,by omega⟩,hB.on hb' hB.size⟩
    · go_wp2_with fail
      go_ret
      exact ⟨⟨-1,rfl,by show _=_;rw [any_none (n:=n) HLn.out (fun j hj=>HJ.out j (by omega))];rfl,by omega,by omega⟩,hB⟩
set_option maxHeartbeats 2000000 in
set_option maxRecDepth 100000 in
theorem containsComp_any (l:List Cm) (w:World) (a:Option Addr) (n c:Nat) (h:IsComps w w.heap.size l a n c) (p:Cm→Bool) (g:Nat) (eg:∀args w,(callFunc g args).run Tryd.prog w= .ok (.enter g args) w)
    (hg:∀(x:Cm) (d:CC) (W:World),x ∈ l→Below w.heap.size w W→IsComp W W.heap.size x d→Calls Tryd.prog g #[.agg #[.int .u8 d.k, .slice d.pa d.pl d.pc, .string d.key, .int .i64 d.i, .int .i64 d.j, .int .i64 d.n, .int .u8 d.v.k, .int .i64 d.v.n, .string d.v.s, .slice d.v.la d.v.ll d.v.lc, .slice d.v.oa d.v.ol d.v.oc, .string d.s]] W fun e w'=>e= .returned (.bool (p x))∧Below W.heap.size W w'):
    Calls Tryd.prog 44 #[.slice a n c, .func (.func g) #[] #[]] w fun e w'=>e= .returned (.bool (l.any p))∧Below w.heap.size w w':=by
  have k1:=h.max;have k2:=h.few
  have hc:=indexComp_any l w a n c h p g eg hg
  have HC:=Lib.hid hc
  clear hg hc h eg
  go_enter Tryd.func44,Tryd.ntmps44
  go_wp2_with (go_at_call 76;refine HC.out.mono ?_;rintro e w' ⟨⟨r,rfl,hr,h1,h2⟩,hb⟩)
  go_ret
  exact ⟨ret_bool (by rw [←hr.out]),hb⟩
set_option maxHeartbeats 2000000 in
set_option maxRecDepth 100000 in
theorem compBad_any (x:Cm) (w:World) (hT:Tabs w) (c:CC) (hx:IsComp w w.heap.size x c) (hw:x.v.weight≤4611686018427387904):
    Calls Tryd.prog 45 #[.agg #[.int .u8 c.k, .slice c.pa c.pl c.pc, .string c.key, .int .i64 c.i, .int .i64 c.j, .int .i64 c.n, .int .u8 c.v.k, .int .i64 c.v.n, .string c.v.s, .slice c.v.la c.v.ll c.v.lc, .slice c.v.oa c.v.ol c.v.oc, .string c.s]] w fun e w'=>e= .returned (.bool (!cmSound x))∧Below w.heap.size w w':=by
  have HC:Hid (∀W,Below w.heap.size w W→Calls Tryd.prog 46 #[.agg #[.int .u8 c.k, .slice c.pa c.pl c.pc, .string c.key, .int .i64 c.i, .int .i64 c.j, .int .i64 c.n, .int .u8 c.v.k, .int .i64 c.v.n, .string c.v.s, .slice c.v.la c.v.ll c.v.lc, .slice c.v.oa c.v.ol c.v.oc, .string c.s]] W fun e w'=>e= .returned (.bool (cmSound x))∧Below W.heap.size W w'):=fun W hW=>compSound_any x W (hT.below hW) c (hx.later_ hW) hw
  clear hx hT
  go_enter Tryd.func45,Tryd.ntmps45
  go_wp2_with (go_at_call 46;refine (HC.out _ ((Below.refl _ _).alloc (Nat.le_refl _) _)).mono ?_;rintro e w' ⟨rfl,hb⟩)
  go_ret
  exact ⟨rfl,hb.one⟩
end Go.Proofs.YthceefjafklcmaaDoor
namespace Go.Proofs.YthceefjafklcmaaDoor
open Go.RowKit
noncomputable def enSound (e:En):Bool:=
  if e.k=1 then lightB e.v && (e.op.length==0)
  else if e.k=2 then eqv e.v V.none && decide (e.op.length≤200) && !e.op.any (fun x=> !cmSound x)
  else if e.k=3 then eqv e.v V.none && (e.op.length==0)
  else false
def En.small (e:En):Prop:=e.v.weight≤4611686018427387904∧∀x ∈ e.op,x.v.weight≤4611686018427387904
structure Boxed1E (w W:World) (c:EC):Prop where
  at_:EntryAt W w.heap.size 0 c
  below:Below w.heap.size w W
  size:w.heap.size+1≤W.heap.size
theorem Boxed1E.step {w W W':World} {c:EC} (h:Boxed1E w W c) (hb:Below W.heap.size W W'):Boxed1E w W' c:=
  ⟨h.at_.keep hb (by have:=h.size;omega),h.below.trans (hb.mono (by have:=h.size;omega)),by have:=h.size;have:=hb.size;omega⟩
theorem Boxed1E.next {w W W1 W2:World} {B:Nat} {c:EC} (h:Boxed1E w W c) (hb:Below B W1 W2) (hW:Below W.heap.size W W1) (hB:B=W1.heap.size):Boxed1E w W2 c:=by
  subst hB;exact (h.step hW).step hb
theorem boxed1E_start (w:World) (c:EC) (t:TypeId):Boxed1E w (w.alloc (.cells #[.int .u8 c.k, .int .u32 c.src, .int .u32 c.seq, .int .u8 c.v.k, .int .i64 c.v.n, .string c.v.s, .slice c.v.la c.v.ll c.v.lc, .slice c.v.oa c.v.ol c.v.oc, .slice c.oa c.ol c.oc] t)) c:=
  ⟨⟨cells_new _ _ _ _ _ rfl,cells_new _ _ _ _ _ rfl,cells_new _ _ _ _ _ rfl,⟨cells_new _ _ _ _ _ rfl,cells_new _ _ _ _ _ rfl,cells_new _ _ _ _ _ rfl,cells_new _ _ _ _ _ rfl,cells_new _ _ _ _ _ rfl⟩,cells_new _ _ _ _ _ rfl⟩,(Below.refl _ _).alloc (Nat.le_refl _) _,by simp⟩
set_option maxHeartbeats 4000000 in
set_option maxRecDepth 100000 in
theorem enSound_any (x:En) (w:World) (hT:Tabs w) (c:EC) (hx:IsEntry w w.heap.size x c) (hs:x.small):
    Calls Tryd.prog 29 #[.agg #[.int .u8 c.k, .int .u32 c.src, .int .u32 c.seq, .int .u8 c.v.k, .int .i64 c.v.n, .string c.v.s, .slice c.v.la c.v.ll c.v.lc, .slice c.v.oa c.v.ol c.v.oc, .slice c.oa c.ol c.oc]] w fun e w'=>e= .returned (.bool (enSound x))∧Below w.heap.size w w':=by
  cases hx with
  |mk c v l hbd hv ho=>
  obtain ⟨hs1,hs2⟩:=hs
  dsimp only at hs1 hs2
  obtain ⟨vn,hvn⟩:∃vn,eqv v V.none=vn:=⟨_,rfl⟩
  obtain ⟨li,hli⟩:∃li,lightB v=li:=⟨_,rfl⟩
  obtain ⟨al,hal⟩:∃al,l.any (fun x=> !cmSound x)=al:=⟨_,rfl⟩
  have HLn:=Lib.hid ho.len
  have k1:=ho.few;have k2:=ho.max;have k3:=ho.cap
  have hR2:enSound ⟨c.k,c.src,c.seq,v,l⟩=(if c.k=1 then li && (c.ol==0) else if c.k=2 then vn && decide (c.ol≤200) && !al else if c.k=3 then vn && (c.ol==0) else false):=by
    rw [enSound,hvn,hli,hal, ←HLn.out]
  have HR:=Lib.hid hR2
  have HVN:Hid (Behind w 30 #[.agg #[.int .u8 c.v.k, .int .i64 c.v.n, .string c.v.s, .slice c.v.la c.v.ll c.v.lc, .slice c.v.oa c.v.ol c.v.oc], .agg #[.int .u8 0, .int .i64 0, .string { data:= #[] }, .slice none 0 0, .slice none 0 0]] (.bool vn)):=fun W hW=>by rw [←hvn];exact valSame_any v V.none W c.v VC.none (hv.later_ hW) (isVal_none _ _)
  have HLI:Hid (Behind w 43 #[.agg #[.int .u8 c.v.k, .int .i64 c.v.n, .string c.v.s, .slice c.v.la c.v.ll c.v.lc, .slice c.v.oa c.v.ol c.v.oc]] (.bool li)):=fun W hW=>by rw [←hli];exact light_any v W (hT.below hW) c.v (hv.later_ hW) hs1
  have HCO:Hid (Behind w 44 #[.slice c.oa c.ol c.oc, .func (.func 45) #[] #[]] (.bool al)):=fun W hW=>by
    rw [←hal]
    exact containsComp_any l W c.oa c.ol c.oc (ho.later_ hW) (fun x=> !cmSound x) 45 (enters_of Tryd.func45 (by kernel_rfl) rfl) (fun x d W' hx hW' hd=>compBad_any x W' (hT.below (hW.trans (hW'.mono hW.size))) d hd (hs2 x hx))
  have bx:=boxed1E_start w c 31
  clear hvn hli hR2 hv hbd
  by_cases e1:c.k=1
  · have f1:(c.k==1)=true:=by simp [e1]
    have hR3:enSound ⟨c.k,c.src,c.seq,v,l⟩=(li && (c.ol==0)):=by rw [HR.out,if_pos e1]
    have HR:=Lib.hid hR3
    clear e1 hR3 hT hs2 ho hal
    go_enter Tryd.func29,Tryd.ntmps29
    cases li with
    | false=>
      go_wp2_with (first|(go_at_call 30;(with_reducible refine (Behind.at_ (HVN.out) ?_).mono ?_);(focus (have:=bx.below;have:=bx.size;go_grown));rintro e w1 ⟨rfl,hb1⟩;replace bx:=bx.next hb1 (by go_grown) rfl;have zs:w.heap.size<w1.heap.size:=bx.size;have z0:=bx.at_.c0;have y0:=bx.at_.c3.c0;have y1:=bx.at_.c3.c1;have y2:=bx.at_.c3.c2;have y3:=bx.at_.c3.c3;have y4:=bx.at_.c3.c4;have z8:=bx.at_.c8)|(go_at_call 43;(with_reducible refine (Behind.at_ (HLI.out) ?_).mono ?_);(focus (have:=bx.below;have:=bx.size;go_grown));rintro e w1 ⟨rfl,hb1⟩;replace bx:=bx.next hb1 (by go_grown) rfl;have zs:w.heap.size<w1.heap.size:=bx.size;have z0:=bx.at_.c0;have y0:=bx.at_.c3.c0;have y1:=bx.at_.c3.c1;have y2:=bx.at_.c3.c2;have y3:=bx.at_.c3.c3;have y4:=bx.at_.c3.c4;have z8:=bx.at_.c8));go_ret;exact ⟨ret_bool (by first|(rw [HR.out];done)|(rw [HR.out];simp [*];done)|(rw [HR.out];simp [*];try omega)),by have:=bx.below;have:=bx.size;go_grown⟩
    | true=>
      by_cases hn:c.ol=0
      · have f2:((c.ol:Int)==0)=true:=by simp [hn]
        have f4:(c.ol==0)=true:=by simp [hn]
        clear hn
        go_wp2_with (first|(go_at_call 30;(with_reducible refine (Behind.at_ (HVN.out) ?_).mono ?_);(focus (have:=bx.below;have:=bx.size;go_grown));rintro e w1 ⟨rfl,hb1⟩;replace bx:=bx.next hb1 (by go_grown) rfl;have zs:w.heap.size<w1.heap.size:=bx.size;have z0:=bx.at_.c0;have y0:=bx.at_.c3.c0;have y1:=bx.at_.c3.c1;have y2:=bx.at_.c3.c2;have y3:=bx.at_.c3.c3;have y4:=bx.at_.c3.c4;have z8:=bx.at_.c8)|(go_at_call 43;(with_reducible refine (Behind.at_ (HLI.out) ?_).mono ?_);(focus (have:=bx.below;have:=bx.size;go_grown));rintro e w1 ⟨rfl,hb1⟩;replace bx:=bx.next hb1 (by go_grown) rfl;have zs:w.heap.size<w1.heap.size:=bx.size;have z0:=bx.at_.c0;have y0:=bx.at_.c3.c0;have y1:=bx.at_.c3.c1;have y2:=bx.at_.c3.c2;have y3:=bx.at_.c3.c3;have y4:=bx.at_.c3.c4;have z8:=bx.at_.c8));go_ret;exact ⟨ret_bool (by first|(rw [HR.out];done)|(rw [HR.out];simp [*];done)|(rw [HR.out];simp [*];try omega)),by have:=bx.below;have:=bx.size;go_grown⟩
      · have f2:((c.ol:Int)==0)=false:=by simp [hn]
        have f4:(c.ol==0)=false:=by simp [hn]
        clear hn
        go_wp2_with (first|(go_at_call 30;(with_reducible refine (Behind.at_ (HVN.out) ?_).mono ?_);(focus (have:=bx.below;have:=bx.size;go_grown));rintro e w1 ⟨rfl,hb1⟩;replace bx:=bx.next hb1 (by go_grown) rfl;have zs:w.heap.size<w1.heap.size:=bx.size;have z0:=bx.at_.c0;have y0:=bx.at_.c3.c0;have y1:=bx.at_.c3.c1;have y2:=bx.at_.c3.c2;have y3:=bx.at_.c3.c3;have y4:=bx.at_.c3.c4;have z8:=bx.at_.c8)|(go_at_call 43;(with_reducible refine (Behind.at_ (HLI.out) ?_).mono ?_);(focus (have:=bx.below;have:=bx.size;go_grown));rintro e w1 ⟨rfl,hb1⟩;replace bx:=bx.next hb1 (by go_grown) rfl;have zs:w.heap.size<w1.heap.size:=bx.size;have z0:=bx.at_.c0;have y0:=bx.at_.c3.c0;have y1:=bx.at_.c3.c1;have y2:=bx.at_.c3.c2;have y3:=bx.at_.c3.c3;have y4:=bx.at_.c3.c4;have z8:=bx.at_.c8));go_ret;exact ⟨ret_bool (by first|(rw [HR.out];done)|(rw [HR.out];simp [*];done)|(rw [HR.out];simp [*];try omega)),by have:=bx.below;have:=bx.size;go_grown⟩
  have f1:(c.k==1)=false:=by simp [e1]
  by_cases e2:c.k=2
  · have f2:(c.k==2)=true:=by simp [e2]
    have hR3:enSound ⟨c.k,c.src,c.seq,v,l⟩=(vn && decide (c.ol≤200) && !al):=by rw [HR.out,if_neg e1,if_pos e2]
    have HR:=Lib.hid hR3
    clear e1 e2 hR3
    clear hT hs2 ho hal
    go_enter Tryd.func29,Tryd.ntmps29
    cases vn with
    |false=>go_wp2_with (go_at_call 30;(with_reducible refine (Behind.at_ (HVN.out) ?_).mono ?_);(focus (have:=bx.below;have:=bx.size;go_grown));rintro e w1 ⟨rfl,hb1⟩;replace bx:=bx.next hb1 (by go_grown) rfl;have zs:w.heap.size<w1.heap.size:=bx.size;have z0:=bx.at_.c0;have y0:=bx.at_.c3.c0;have y1:=bx.at_.c3.c1;have y2:=bx.at_.c3.c2;have y3:=bx.at_.c3.c3;have y4:=bx.at_.c3.c4;have z8:=bx.at_.c8);go_ret;exact ⟨ret_bool (by first|(rw [HR.out];done)|(rw [HR.out];simp [*];done)|(rw [HR.out];simp [*];try omega)),by have:=bx.below;have:=bx.size;go_grown⟩
    | true=>
      by_cases hn:c.ol≤200
      case neg=>
        have f3:((c.ol:Int)≤200)=False:=by simp;omega
        go_wp2_with (go_at_call 30;(with_reducible refine (Behind.at_ (HVN.out) ?_).mono ?_);(focus (have:=bx.below;have:=bx.size;go_grown));rintro e w1 ⟨rfl,hb1⟩;replace bx:=bx.next hb1 (by go_grown) rfl;have zs:w.heap.size<w1.heap.size:=bx.size;have z0:=bx.at_.c0;have y0:=bx.at_.c3.c0;have y1:=bx.at_.c3.c1;have y2:=bx.at_.c3.c2;have y3:=bx.at_.c3.c3;have y4:=bx.at_.c3.c4;have z8:=bx.at_.c8);go_ret;exact ⟨ret_bool (by first|(rw [HR.out];done)|(rw [HR.out];simp [*];done)|(rw [HR.out];simp [*];try omega)),by have:=bx.below;have:=bx.size;go_grown⟩
      have f3:((c.ol:Int)≤200)=True:=by simp;omega
      go_wp2_with (first|(go_at_call 30;(with_reducible refine (Behind.at_ (HVN.out) ?_).mono ?_);(focus (have:=bx.below;have:=bx.size;go_grown));rintro e w1 ⟨rfl,hb1⟩;replace bx:=bx.next hb1 (by go_grown) rfl;have zs:w.heap.size<w1.heap.size:=bx.size;have z0:=bx.at_.c0;have y0:=bx.at_.c3.c0;have y1:=bx.at_.c3.c1;have y2:=bx.at_.c3.c2;have y3:=bx.at_.c3.c3;have y4:=bx.at_.c3.c4;have z8:=bx.at_.c8)|(go_at_call 44;(with_reducible refine (Behind.at_ (HCO.out) ?_).mono ?_);(focus (have:=bx.below;have:=bx.size;go_grown));rintro e w1 ⟨rfl,hb1⟩;replace bx:=bx.next hb1 (by go_grown) rfl;have zs:w.heap.size<w1.heap.size:=bx.size;have z0:=bx.at_.c0;have y0:=bx.at_.c3.c0;have y1:=bx.at_.c3.c1;have y2:=bx.at_.c3.c2;have y3:=bx.at_.c3.c3;have y4:=bx.at_.c3.c4;have z8:=bx.at_.c8))
      go_ret;exact ⟨ret_bool (by first|(rw [HR.out];done)|(rw [HR.out];simp [*];done)|(rw [HR.out];simp [*];try omega)),by have:=bx.below;have:=bx.size;go_grown⟩
  have f2:(c.k==2)=false:=by simp [e2]
  by_cases e3:c.k=3
  · have f3:(c.k==3)=true:=by simp [e3]
    have hR3:enSound ⟨c.k,c.src,c.seq,v,l⟩=(vn && (c.ol==0)):=by rw [HR.out,if_neg e1,if_neg e2,if_pos e3]
    have HR:=Lib.hid hR3
    clear e1 e2 e3 hR3 hT hs2 ho hal
    go_enter Tryd.func29,Tryd.ntmps29
    cases vn with
    |false=>go_wp2_with (go_at_call 30;(with_reducible refine (Behind.at_ (HVN.out) ?_).mono ?_);(focus (have:=bx.below;have:=bx.size;go_grown));rintro e w1 ⟨rfl,hb1⟩;replace bx:=bx.next hb1 (by go_grown) rfl;have zs:w.heap.size<w1.heap.size:=bx.size;have z0:=bx.at_.c0;have y0:=bx.at_.c3.c0;have y1:=bx.at_.c3.c1;have y2:=bx.at_.c3.c2;have y3:=bx.at_.c3.c3;have y4:=bx.at_.c3.c4;have z8:=bx.at_.c8);go_ret;exact ⟨ret_bool (by first|(rw [HR.out];done)|(rw [HR.out];simp [*];done)|(rw [HR.out];simp [*];try omega)),by have:=bx.below;have:=bx.size;go_grown⟩
    | true=>
      by_cases hn:c.ol=0
      · have f2:((c.ol:Int)==0)=true:=by simp [hn]
        have f4:(c.ol==0)=true:=by simp [hn]
        clear hn
        go_wp2_with (go_at_call 30;(with_reducible refine (Behind.at_ (HVN.out) ?_).mono ?_);(focus (have:=bx.below;have:=bx.size;go_grown));rintro e w1 ⟨rfl,hb1⟩;replace bx:=bx.next hb1 (by go_grown) rfl;have zs:w.heap.size<w1.heap.size:=bx.size;have z0:=bx.at_.c0;have y0:=bx.at_.c3.c0;have y1:=bx.at_.c3.c1;have y2:=bx.at_.c3.c2;have y3:=bx.at_.c3.c3;have y4:=bx.at_.c3.c4;have z8:=bx.at_.c8);go_ret;exact ⟨ret_bool (by first|(rw [HR.out];done)|(rw [HR.out];simp [*];done)|(rw [HR.out];simp [*];try omega)),by have:=bx.below;have:=bx.size;go_grown⟩
      · have f2:((c.ol:Int)==0)=false:=by simp [hn]
        have f4:(c.ol==0)=false:=by simp [hn]
        clear hn
        go_wp2_with (go_at_call 30;(with_reducible refine (Behind.at_ (HVN.out) ?_).mono ?_);(focus (have:=bx.below;have:=bx.size;go_grown));rintro e w1 ⟨rfl,hb1⟩;replace bx:=bx.next hb1 (by go_grown) rfl;have zs:w.heap.size<w1.heap.size:=bx.size;have z0:=bx.at_.c0;have y0:=bx.at_.c3.c0;have y1:=bx.at_.c3.c1;have y2:=bx.at_.c3.c2;have y3:=bx.at_.c3.c3;have y4:=bx.at_.c3.c4;have z8:=bx.at_.c8);go_ret;exact ⟨ret_bool (by first|(rw [HR.out];done)|(rw [HR.out];simp [*];done)|(rw [HR.out];simp [*];try omega)),by have:=bx.below;have:=bx.size;go_grown⟩
  have f3:(c.k==3)=false:=by simp [e3]
  have hR3:enSound ⟨c.k,c.src,c.seq,v,l⟩=false:=by rw [HR.out,if_neg e1,if_neg e2,if_neg e3]
  have HR:=Lib.hid hR3
  clear e1 e2 e3 hR3 hT hs2 ho hal
  go_enter Tryd.func29,Tryd.ntmps29
  go_wp2_with (go_at_call 30;(with_reducible refine (Behind.at_ (HVN.out) ?_).mono ?_);(focus (have:=bx.below;have:=bx.size;go_grown));rintro e w1 ⟨rfl,hb1⟩;replace bx:=bx.next hb1 (by go_grown) rfl;have zs:w.heap.size<w1.heap.size:=bx.size;have z0:=bx.at_.c0;have y0:=bx.at_.c3.c0;have y1:=bx.at_.c3.c1;have y2:=bx.at_.c3.c2;have y3:=bx.at_.c3.c3;have y4:=bx.at_.c3.c4;have z8:=bx.at_.c8);go_ret;exact ⟨ret_bool (by first|(rw [HR.out];done)|(rw [HR.out];simp [*];done)|(rw [HR.out];simp [*];try omega)),by have:=bx.below;have:=bx.size;go_grown⟩
set_option maxHeartbeats 4000000 in
set_option maxRecDepth 100000 in
theorem refEnSound_any (x:En) (w:World) (hT:Tabs w) (c:EC) (hx:IsEntry w w.heap.size x c) (hs:x.small):
    Calls Tryd.prog 20 #[.agg #[.int .u8 c.k, .int .u32 c.src, .int .u32 c.seq, .int .u8 c.v.k, .int .i64 c.v.n, .string c.v.s, .slice c.v.la c.v.ll c.v.lc, .slice c.v.oa c.v.ol c.v.oc, .slice c.oa c.ol c.oc]] w fun e w'=>e= .returned (.bool (enSound x))∧Below w.heap.size w w':=by
  cases hx with
  |mk c v l hbd hv ho=>
  obtain ⟨hs1,hs2⟩:=hs
  dsimp only at hs1 hs2
  obtain ⟨vn,hvn⟩:∃vn,eqv v V.none=vn:=⟨_,rfl⟩
  obtain ⟨li,hli⟩:∃li,lightB v=li:=⟨_,rfl⟩
  obtain ⟨al,hal⟩:∃al,l.any (fun x=> !cmSound x)=al:=⟨_,rfl⟩
  have HLn:=Lib.hid ho.len
  have k1:=ho.few;have k2:=ho.max;have k3:=ho.cap
  have hR2:enSound ⟨c.k,c.src,c.seq,v,l⟩=(if c.k=1 then li && (c.ol==0) else if c.k=2 then vn && decide (c.ol≤200) && !al else if c.k=3 then vn && (c.ol==0) else false):=by
    rw [enSound,hvn,hli,hal, ←HLn.out]
  have HR:=Lib.hid hR2
  have HVN:Hid (Behind w 15 #[.agg #[.int .u8 c.v.k, .int .i64 c.v.n, .string c.v.s, .slice c.v.la c.v.ll c.v.lc, .slice c.v.oa c.v.ol c.v.oc], .agg #[.int .u8 0, .int .i64 0, .string { data:= #[] }, .slice none 0 0, .slice none 0 0]] (.bool vn)):=fun W hW=>by rw [←hvn];exact refSame_any v V.none W c.v VC.none (hv.later_ hW) (isVal_none _ _)
  have HLI:Hid (Behind w 35 #[.agg #[.int .u8 c.v.k, .int .i64 c.v.n, .string c.v.s, .slice c.v.la c.v.ll c.v.lc, .slice c.v.oa c.v.ol c.v.oc]] (.bool li)):=fun W hW=>by rw [←hli];exact refLight_any v W (hT.below hW) c.v (hv.later_ hW) hs1
  have bx:=boxed1E_start w c 31
  clear hvn hli hR2 hv hbd
  by_cases e1:c.k=1
  · have f1:(c.k==1)=true:=by simp [e1]
    have hR3:enSound ⟨c.k,c.src,c.seq,v,l⟩=(li && (c.ol==0)):=by rw [HR.out,if_pos e1]
    have HR:=Lib.hid hR3
    clear e1 hR3 hT hs2 ho hal
    go_enter Tryd.func20,Tryd.ntmps20
    cases li with
    | false=>
      go_wp2_with (first|(go_at_call 15;(with_reducible refine (Behind.at_ (HVN.out) ?_).mono ?_);(focus (have:=bx.below;have:=bx.size;go_grown));rintro e w1 ⟨rfl,hb1⟩;replace bx:=bx.next hb1 (by go_grown) rfl;have zs:w.heap.size<w1.heap.size:=bx.size;have z0:=bx.at_.c0;have y0:=bx.at_.c3.c0;have y1:=bx.at_.c3.c1;have y2:=bx.at_.c3.c2;have y3:=bx.at_.c3.c3;have y4:=bx.at_.c3.c4;have z8:=bx.at_.c8)|(go_at_call 35;(with_reducible refine (Behind.at_ (HLI.out) ?_).mono ?_);(focus (have:=bx.below;have:=bx.size;go_grown));rintro e w1 ⟨rfl,hb1⟩;replace bx:=bx.next hb1 (by go_grown) rfl;have zs:w.heap.size<w1.heap.size:=bx.size;have z0:=bx.at_.c0;have y0:=bx.at_.c3.c0;have y1:=bx.at_.c3.c1;have y2:=bx.at_.c3.c2;have y3:=bx.at_.c3.c3;have y4:=bx.at_.c3.c4;have z8:=bx.at_.c8));go_ret;exact ⟨ret_bool (by first|(rw [HR.out];done)|(rw [HR.out];simp [*];done)|(rw [HR.out];simp [*];try omega)),by have:=bx.below;have:=bx.size;go_grown⟩
    | true=>
      by_cases hn:c.ol=0
      · have f2:((c.ol:Int)==0)=true:=by simp [hn]
        have f4:(c.ol==0)=true:=by simp [hn]
        clear hn
        go_wp2_with (first|(go_at_call 15;(with_reducible refine (Behind.at_ (HVN.out) ?_).mono ?_);(focus (have:=bx.below;have:=bx.size;go_grown));rintro e w1 ⟨rfl,hb1⟩;replace bx:=bx.next hb1 (by go_grown) rfl;have zs:w.heap.size<w1.heap.size:=bx.size;have z0:=bx.at_.c0;have y0:=bx.at_.c3.c0;have y1:=bx.at_.c3.c1;have y2:=bx.at_.c3.c2;have y3:=bx.at_.c3.c3;have y4:=bx.at_.c3.c4;have z8:=bx.at_.c8)|(go_at_call 35;(with_reducible refine (Behind.at_ (HLI.out) ?_).mono ?_);(focus (have:=bx.below;have:=bx.size;go_grown));rintro e w1 ⟨rfl,hb1⟩;replace bx:=bx.next hb1 (by go_grown) rfl;have zs:w.heap.size<w1.heap.size:=bx.size;have z0:=bx.at_.c0;have y0:=bx.at_.c3.c0;have y1:=bx.at_.c3.c1;have y2:=bx.at_.c3.c2;have y3:=bx.at_.c3.c3;have y4:=bx.at_.c3.c4;have z8:=bx.at_.c8));go_ret;exact ⟨ret_bool (by first|(rw [HR.out];done)|(rw [HR.out];simp [*];done)|(rw [HR.out];simp [*];try omega)),by have:=bx.below;have:=bx.size;go_grown⟩
      · have f2:((c.ol:Int)==0)=false:=by simp [hn]
        have f4:(c.ol==0)=false:=by simp [hn]
        clear hn
        go_wp2_with (first|(go_at_call 15;(with_reducible refine (Behind.at_ (HVN.out) ?_).mono ?_);(focus (have:=bx.below;have:=bx.size;go_grown));rintro e w1 ⟨rfl,hb1⟩;replace bx:=bx.next hb1 (by go_grown) rfl;have zs:w.heap.size<w1.heap.size:=bx.size;have z0:=bx.at_.c0;have y0:=bx.at_.c3.c0;have y1:=bx.at_.c3.c1;have y2:=bx.at_.c3.c2;have y3:=bx.at_.c3.c3;have y4:=bx.at_.c3.c4;have z8:=bx.at_.c8)|(go_at_call 35;(with_reducible refine (Behind.at_ (HLI.out) ?_).mono ?_);(focus (have:=bx.below;have:=bx.size;go_grown));rintro e w1 ⟨rfl,hb1⟩;replace bx:=bx.next hb1 (by go_grown) rfl;have zs:w.heap.size<w1.heap.size:=bx.size;have z0:=bx.at_.c0;have y0:=bx.at_.c3.c0;have y1:=bx.at_.c3.c1;have y2:=bx.at_.c3.c2;have y3:=bx.at_.c3.c3;have y4:=bx.at_.c3.c4;have z8:=bx.at_.c8));go_ret;exact ⟨ret_bool (by first|(rw [HR.out];done)|(rw [HR.out];simp [*];done)|(rw [HR.out];simp [*];try omega)),by have:=bx.below;have:=bx.size;go_grown⟩
  have f1:(c.k==1)=false:=by simp [e1]
  by_cases e2:c.k=2
  · have f2 :(c.k==2)=true:=by simp [e2]
    have hR3:enSound ⟨c.k,c.src,c.seq,v,l⟩=(vn && decide (c.ol≤200) && !al):=by rw [HR.out,if_neg e1,if_pos e2]
    have HR:=Lib.hid hR3
    clear e1 e2 hR3
    have HAL:=Lib.hid hal
    clear hal
    go_enter Tryd.func20,Tryd.ntmps20
    go_wp2_with (first|(go_at_call 15;(with_reducible refine (Behind.at_ (HVN.out) ?_).mono ?_);(focus (have:=bx.below;have:=bx.size;go_grown));rintro e w1 ⟨rfl,hb1⟩;replace bx:=bx.next hb1 (by go_grown) rfl;have zs:w.heap.size<w1.heap.size:=bx.size;have z0:=bx.at_.c0;have y0:=bx.at_.c3.c0;have y1:=bx.at_.c3.c1;have y2:=bx.at_.c3.c2;have y3:=bx.at_.c3.c3;have y4:=bx.at_.c3.c4;have z8:=bx.at_.c8))
    go_loopw [4] (fun i wr=>∃k:Nat,k≤c.ol∧i= .int .i64 k∧Hid (∀j,j<k→∀hj:j<l.length,(!cmSound l[j])=false)∧Boxed1E w wr c) (fun i _=>c.ol - (intOf i).toNat)
    case atStart=>exact ⟨0,Nat.zero_le _,rfl,fun j hj=>by omega,bx⟩
    case round=>
      clear y0 y1 y2 y3 y4 z0 z8 zs hb1 bx
      obtain ⟨k,hk,rfl,HJ,bx⟩:=hrel
      have z8:=bx.at_.c8
      by_cases hlt:k<c.ol
      · obtain ⟨b,o,d,kl,ho2,hb,x1,xb⟩:=ho.get hlt
        rw [ho2] at z8
        have x1:=x1.keep bx.below hb
        have r0:=x1.c0;have r1:=x1.c1;have r2:=x1.c2;have r3:=x1.c3;have r4:=x1.c4;have r5:=x1.c5;have r6:=x1.c6.c0;have r7:=x1.c7;have r8:=x1.c8;have r9:=x1.c9;have r10:=x1.c10;have r11:=x1.c11
        have HC:Hid (Calls Tryd.prog 36 #[.agg #[.int .u8 d.k, .slice d.pa d.pl d.pc, .string d.key, .int .i64 d.i, .int .i64 d.j, .int .i64 d.n, .int .u8 d.v.k, .int .i64 d.v.n, .string d.v.s, .slice d.v.la d.v.ll d.v.lc, .slice d.v.oa d.v.ol d.v.oc, .string d.s]] wr fun e w'=>e= .returned (.bool (cmSound l[k]))∧Below wr.heap.size wr w'):=ref06Sound_any l[k] wr (hT.below bx.below) d (xb.later_ bx.below) (hs2 _ (List.getElem_mem kl))
        clear x1 xb
        generalize hx:cmSound l[k] =bs at HC
        have HX:=Lib.hid hx
        clear hx
        have HO:=Lib.hid ho
        have HO2:=Lib.hid ho2
        clear ho ho2 hT
        cases bs with
        | false=>
          go_wp2_with (go_at_call 36;refine (HC.out).mono ?_;rintro e w1 ⟨rfl,hb1⟩)
          go_ret
          exact ⟨ret_bool (by rw [HR.out, ←HAL.out,any_hit (p:=fun x=> !cmSound x) kl (by rw [HX.out];rfl)];simp),(bx.step hb1).below⟩
        | true=>
          go_wp2_with (go_at_call 36;refine (HC.out).mono ?_;rintro e w1 ⟨rfl,hb1⟩)
          go_roundw
          case rel=>exact ⟨k+1,by omega,by go_num,none_step (p:=fun x=> !cmSound x) HJ kl (by rw [HX.out];rfl),bx.step hb1⟩
          case measure=>simp [intOf];omega
      · have HA2:Hid (al=false):=by rw [←HAL.out];exact any_none (n:=c.ol) HLn.out (fun j hj hl=>HJ.out j (by omega) hl)
        clear ho hT
        have y:=bx.size
        cases vn with
        | false=>
          go_wp2_with fail
          go_ret
          exact ⟨ret_bool (by rw [HR.out];simp),bx.below⟩
        | true=>
          by_cases hn:c.ol≤200
          · have f3:((c.ol:Int)≤200)=True:=by simp;omega
            go_wp2_with fail
            go_ret
            exact ⟨ret_bool (by rw [HR.out,HA2.out];simp [hn]),bx.below⟩
          · have f3:((c.ol:Int)≤200)=False:=by simp;omega
            go_wp2_with fail
            go_ret
            exact ⟨ret_bool (by rw [HR.out,HA2.out];simp [hn]),bx.below⟩
  have f2:(c.k==2)=false:=by simp [e2]
  by_cases e3:c.k=3
  · have f3:(c.k==3)=true:=by simp [e3]
    have hR3:enSound ⟨c.k,c.src,c.seq,v,l⟩=(vn && (c.ol==0)):=by rw [HR.out,if_neg e1,if_neg e2,if_pos e3]
    have HR:=Lib.hid hR3
    clear e1 e2 e3 hR3 hT hs2 ho hal
    go_enter Tryd.func20,Tryd.ntmps20
    cases vn with
    |false=>go_wp2_with (go_at_call 15;(with_reducible refine (Behind.at_ (HVN.out) ?_).mono ?_);(focus (have:=bx.below;have:=bx.size;go_grown));rintro e w1 ⟨rfl,hb1⟩;replace bx:=bx.next hb1 (by go_grown) rfl;have zs:w.heap.size<w1.heap.size:=bx.size;have z0:=bx.at_.c0;have y0:=bx.at_.c3.c0;have y1:=bx.at_.c3.c1;have y2:=bx.at_.c3.c2;have y3:=bx.at_.c3.c3;have y4:=bx.at_.c3.c4;have z8:=bx.at_.c8);go_ret;exact ⟨ret_bool (by first|(rw [HR.out];done)|(rw [HR.out];simp [*];done)|(rw [HR.out];simp [*];try omega)),by have:=bx.below;have:=bx.size;go_grown⟩
    | true=>
      by_cases hn:c.ol=0
      · have f2:((c.ol:Int)==0)=true:=by simp [hn]
        have f4:(c.ol==0)=true:=by simp [hn]
        clear hn
        go_wp2_with (go_at_call 15;(with_reducible refine (Behind.at_ (HVN.out) ?_).mono ?_);(focus (have:=bx.below;have:=bx.size;go_grown));rintro e w1 ⟨rfl,hb1⟩;replace bx:=bx.next hb1 (by go_grown) rfl;have zs:w.heap.size<w1.heap.size:=bx.size;have z0:=bx.at_.c0;have y0:=bx.at_.c3.c0;have y1:=bx.at_.c3.c1;have y2:=bx.at_.c3.c2;have y3:=bx.at_.c3.c3;have y4:=bx.at_.c3.c4;have z8:=bx.at_.c8);go_ret;exact ⟨ret_bool (by first|(rw [HR.out];done)|(rw [HR.out];simp [*];done)|(rw [HR.out];simp [*];try omega)),by have:=bx.below;have:=bx.size;go_grown⟩
      · have f2:((c.ol:Int)==0)=false:=by simp [hn]
        have f4:(c.ol==0)=false:=by simp [hn]
        clear hn
        go_wp2_with (go_at_call 15;(with_reducible refine (Behind.at_ (HVN.out) ?_).mono ?_);(focus (have:=bx.below;have:=bx.size;go_grown));rintro e w1 ⟨rfl,hb1⟩;replace bx:=bx.next hb1 (by go_grown) rfl;have zs:w.heap.size<w1.heap.size:=bx.size;have z0:=bx.at_.c0;have y0:=bx.at_.c3.c0;have y1:=bx.at_.c3.c1;have y2:=bx.at_.c3.c2;have y3:=bx.at_.c3.c3;have y4:=bx.at_.c3.c4;have z8:=bx.at_.c8);go_ret;exact ⟨ret_bool (by first|(rw [HR.out];done)|(rw [HR.out];simp [*];done)|(rw [HR.out];simp [*];try omega)),by have:=bx.below;have:=bx.size;go_grown⟩
  have f3:(c.k==3)=false:=by simp [e3]
  have hR3:enSound ⟨c.k,c.src,c.seq,v,l⟩=false:=by rw [HR.out,if_neg e1,if_neg e2,if_neg e3]
  have HR:=Lib.hid hR3
  clear e1 e2 e3 hR3 hT hs2 ho hal
  go_enter Tryd.func20,Tryd.ntmps20
  go_wp2_with (go_at_call 15;(with_reducible refine (Behind.at_ (HVN.out) ?_).mono ?_);(focus (have:=bx.below;have:=bx.size;go_grown));rintro e w1 ⟨rfl,hb1⟩;replace bx:=bx.next hb1 (by go_grown) rfl;have zs:w.heap.size<w1.heap.size:=bx.size;have z0:=bx.at_.c0;have y0:=bx.at_.c3.c0;have y1:=bx.at_.c3.c1;have y2:=bx.at_.c3.c2;have y3:=bx.at_.c3.c3;have y4:=bx.at_.c3.c4;have z8:=bx.at_.c8);go_ret;exact ⟨ret_bool (by first|(rw [HR.out];done)|(rw [HR.out];simp [*];done)|(rw [HR.out];simp [*];try omega)),by have:=bx.below;have:=bx.size;go_grown⟩
end Go.Proofs.YthceefjafklcmaaDoor
namespace Go.Proofs.YthceefjafklcmaaDoor
open Go.RowKit
structure IsStrs (w:World) (B:Nat) (l:List ByteArray) (a:Option Addr) (n c:Nat):Prop where
  len:n=l.length
  cap:n≤c
  max:c≤9223372036854775807
  few:n≤1466015503701
  at_:∃b o,(0<n→a=some ⟨b,o,none⟩∧b<B)∧∀i (h:i<l.length),w.cell? ⟨b,o+i,none⟩=some (.string l[i])∧l[i].size≤140737488355328
theorem IsStrs.keep {w w':World} {B:Nat} {l:List ByteArray} {a:Option Addr} {n c:Nat} (h:IsStrs w B l a n c) (hb:Below B w w'):IsStrs w' B l a n c:=by
  obtain ⟨h1,h2,h3,h4,b,o,h5,h6⟩:=h
  exact ⟨h1,h2,h3,h4,b,o,h5,fun i hi=>⟨keep_cell hb (h6 i hi).1 (h5 (by omega)).2,(h6 i hi).2⟩⟩
theorem IsStrs.more {w:World} {B B':Nat} {l:List ByteArray} {a:Option Addr} {n c:Nat} (h:IsStrs w B l a n c) (hB:B≤B'):IsStrs w B' l a n c:=by
  obtain ⟨h1,h2,h3,h4,b,o,h5,h6⟩:=h
  exact ⟨h1,h2,h3,h4,b,o,fun hn=>⟨(h5 hn).1,by have:=(h5 hn).2;omega⟩,h6⟩
theorem IsStrs.later_ {w w':World} {l:List ByteArray} {a:Option Addr} {n c:Nat} (h:IsStrs w w.heap.size l a n c) (hb:Below w.heap.size w w'):IsStrs w' w'.heap.size l a n c:=(h.keep hb).more hb.size
theorem IsStrs.nil (w:World) (B:Nat):IsStrs w B [] none 0 0:=⟨rfl,Nat.le_refl _,by omega,by omega,0,0,fun h=>by omega,fun i hi=>by cases hi⟩
theorem IsStrs.get {w:World} {B:Nat} {l:List ByteArray} {a:Option Addr} {n c k:Nat} (h:IsStrs w B l a n c) (hk:k<n):∃(b o:Nat) (kl:k<l.length),a=some ⟨b,o,none⟩∧b<B∧w.cell? ⟨b,o+k,none⟩=some (.string l[k])∧l[k].size≤140737488355328:=by
  obtain ⟨h1,h2,h3,h4,b,o,h5,h6⟩:=h
  exact ⟨b,o,by omega,(h5 (by omega)).1,(h5 (by omega)).2,h6 k (by omega)⟩
theorem eqB_bytes (a b:ByteArray):eqB a b=(a.toList==b.toList):=by
  apply Bool.eq_iff_iff.2
  rw [beq_iff_eq]
  exact ⟨fun h=>by rw [eq_of_eqB h],fun h=>eqB_yes (bytes_ext h)⟩
set_option maxHeartbeats 4000000 in
set_option maxRecDepth 100000 in
theorem equalStrs_any (l l':List ByteArray) (w:World) (a a':Option Addr) (n m c c':Nat) (h:IsStrs w w.heap.size l a n c) (h':IsStrs w w.heap.size l' a' m c'):
    Calls Tryd.prog 42 #[.slice a n c, .slice a' m c'] w fun e w'=>e= .returned (.bool (eqB l l'))∧Below w.heap.size w w':=by
  have k1:=h.max;have k2:=h.few;have k3:=h'.max;have k4:=h'.few
  have HLn:=Lib.hid h.len;have HLm:=Lib.hid h'.len
  by_cases e:n=m
  case neg=>
    go_enter Tryd.func42,Tryd.ntmps42
    have f1:((n:Int) !=(m:Int))=true:=by simp;omega
    go_wp2_with fail
    go_ret
    exact ⟨ret_bool (eqB_no (fun h=>e (by rw [HLn.out,HLm.out,h]))).symm,Below.refl _ _⟩
  subst e
  go_enter Tryd.func42,Tryd.ntmps42
  go_wp2_with fail
  go_loopw [13] (fun i wr=>∃k:Nat,k≤n∧i= .int .i64 k∧Hid (∀j,j<k→l[j]? =l'[j]?)∧Below w.heap.size w wr) (fun i _=>n - (intOf i).toNat)
  case atStart=>exact ⟨0,Nat.zero_le _,rfl,fun j hj=>by omega,Below.refl _ _⟩
  case round=>
    obtain ⟨k,hk,rfl,HJ,hB⟩:=hrel
    by_cases hlt:k<n
    · obtain ⟨b,o,kl,rfl,hb,x1,_⟩:=h.get hlt
      obtain ⟨b',o',kl',rfl,hb',x2,_⟩:=h'.get hlt
      have x1:=later_cell (keep_cell hB x1 hb)
      have x2:=later_cell (keep_cell hB x2 hb')
      obtain ⟨bx,hx⟩:∃bx,(l[k].toList==(l'[k]'kl').toList)=bx:=⟨_,rfl⟩
      have HX:Hid (eqB l[k] (l'[k]'kl')=bx):=by show _=_;rw [eqB_bytes,hx]
      clear h h'
      cases bx with
      | true=>
        go_wp2_with fail
        refine wp_region_later (by kernel_rfl) (by kernel_rfl) ?_
        repeat (go_big_quiet_step (fail))
        refine wpQuiet_nil ?_
        intro _ hw'
        obtain ⟨pq,hw''⟩:=hw'
        subst hw''
        clear x1 x2 hx
        have hB2:=hB.on (below_later wr pq) hB.size
        go_wp2_with fail
        go_roundw
        case rel=>exact ⟨k+1,by omega,by go_num,same_stepB HJ kl kl' HX.out,hB2⟩
        case measure=>simp [intOf];omega
      | false=>
        go_wp2_with fail
        refine wp_region_later (by kernel_rfl) (by kernel_rfl) ?_
        repeat (go_big_quiet_step (fail))
        refine wpQuiet_nil ?_
        intro _ hw'
        obtain ⟨pq,hw''⟩:=hw'
        subst hw''
        clear x1 x2 hx
        have hB2:=hB.on (below_later wr pq) hB.size
        go_wp2_with fail
        go_ret
        exact ⟨ret_bool (eqB_no (fun h=>by subst h;exact ne_of_eqB HX.out rfl)).symm,hB2⟩
    · go_wp2_with fail
      go_ret
      exact ⟨ret_bool (eqB_yes (list_of_same HJ.out (by have:=HLn.out;omega) (by have:=HLm.out;omega))).symm,hB⟩
noncomputable def badF (l:List ByteArray) (i:Nat):Bool:=
  match l[i]? with
  |none=>false
  | some f=> !Lib.validD f.data.toList||(match i with
    |0=>false
    | j+1=>match l[j]? with
      |none=>false
      |some g=>Op.bytesLess f.toList g.toList||(f.toList==g.toList))
noncomputable def fieldsSound (l:List ByteArray):Bool:= !(List.range l.length).any (badF l) && decide (l.length≤16)
theorem badF_0 {l:List ByteArray} (h:0<l.length):badF l 0= !Lib.validD l[0].data.toList:=by simp [badF,h]
theorem badF_s {l:List ByteArray} {j:Nat} (h:j+1<l.length):badF l (j+1)=(!Lib.validD l[j+1].data.toList||(Op.bytesLess l[j+1].toList (l[j]'(by omega)).toList||(l[j+1].toList==(l[j]'(by omega)).toList))):=by
  simp [badF,h,show j<l.length by omega]
theorem fieldsSound_no {l:List ByteArray} {k:Nat} (hk:k<l.length) (h:badF l k=true):fieldsSound l=false:=by
  have:(List.range l.length).any (badF l)=true:=List.any_eq_true.2 ⟨k,List.mem_range.2 hk,h⟩
  simp [fieldsSound,this]
theorem fieldsSound_end {l:List ByteArray} {k:Nat} (hk:k=l.length) (h:∀j,j<k→badF l j=false):fieldsSound l=decide (l.length≤16):=by
  have:(List.range l.length).any (badF l)=false:=by
    rw [List.any_eq_false]
    intro x hx
    rw [h x (by rw [hk];exact List.mem_range.1 hx)];simp
  simp [fieldsSound,this]
set_option maxHeartbeats 8000000 in
set_option maxRecDepth 100000 in
theorem projSound_any (l : List ByteArray) (w : World) (hT : Tabs w) (a:Option Addr) (n c:Nat) (h:IsStrs w w.heap.size l a n c):
    Calls Tryd.prog 31 #[.slice a n c] w fun e w'=>e= .returned (.bool (fieldsSound l))∧Below w.heap.size w w':=by
  have k1:=h.max;have k2:=h.few
  have HLn:=Lib.hid h.len
  obtain ⟨R,hR⟩:∃R,fieldsSound l=R:=⟨_,rfl⟩
  rw [hR]
  have HR:=Lib.hid hR
  clear hR
  go_enter Tryd.func31,Tryd.ntmps31
  go_wp2_with fail
  go_loopw [7] (fun i wr=>∃k:Nat,k≤n∧i= .int .i64 k∧Hid (∀j,j<k→badF l j=false)∧Below w.heap.size w wr) (fun i _=>n - (intOf i).toNat)
  case atStart=>exact ⟨0,Nat.zero_le _,rfl,fun j hj=>by omega,Below.refl _ _⟩
  case round=>
    obtain ⟨k,hk,hi,HJ,hB⟩:=hrel
    by_cases hlt:k<n
    · obtain ⟨b,o,kl,ea,hb,g1,gs⟩:=h.get hlt
      have g1:=keep_cell hB g1 hb
      obtain ⟨vk,hvk⟩:∃vk,Lib.validD l[k].data.toList=vk:=⟨_,rfl⟩
      have HVC:Hid (∀W,Tabs W→Calls Tryd.prog 34 #[.string l[k]] W fun e w'=>e= .returned (.bool vk)∧Below W.heap.size W w'):=fun W hW=>by rw [←hvk];exact valid_any l[k] W gs hW
      by_cases hk0:k=0
      · subst hk0
        subst hi
        have HBD:Hid (badF l 0= !vk):=by show _=_;rw [badF_0 kl,hvk]
        clear h hvk gs
        subst ea
        rw [Nat.add_zero] at g1
        cases vk with
        | false=>
          go_wp2_with (go_at_call 34;(with_reducible refine (HVC.out _ (hT.below hB)).mono ?_);rintro e w1 ⟨rfl,hb1⟩)
          go_ret
          exact ⟨ret_bool (by rw [←HR.out,fieldsSound_no kl (by rw [HBD.out];rfl)]),hB.on hb1 hB.size⟩
        | true=>
          go_wp2_with (go_at_call 34;(with_reducible refine (HVC.out _ (hT.below hB)).mono ?_);rintro e w1 ⟨rfl,hb1⟩)
          go_roundw
          case rel => exact ⟨1, by omega, by go_num, fun j hj => (by obtain rfl:j=0:=by omega
                                                                     rw [HBD.out];rfl),hB.on hb1 hB.size⟩
          case measure=>simp [intOf];omega
      · obtain ⟨j,rfl⟩:∃j,k=j+1:=⟨k - 1,by omega⟩
        have hi2:=hi.trans (show Value.int .i64 ((j+1:Nat):Int)= .int .i64 ((j:Int)+1) by go_num)
        clear hi hk0
        subst hi2
        obtain ⟨b',o',jl,ea',hb',g0,_⟩:=h.get (show j<n by omega)
        obtain ⟨b1,h1⟩:∃b1,Op.bytesLess l[j+1].toList l[j].toList=b1:=⟨_,rfl⟩
        obtain ⟨b2,h2⟩:∃b2,(l[j+1].toList==l[j].toList)=b2:=⟨_,rfl⟩
        have HBD:Hid (badF l (j+1)=(!vk||(b1||b2))):=by show _=_;rw [badF_s kl,hvk,h1,h2]
        clear h hvk gs
        subst ea
        cases ea'
        skip
        rcases bcT vk (bcF b1 (bcF b2 trivial)) with rfl|⟨rfl,(rfl|⟨rfl,(rfl|⟨rfl,_⟩)⟩)⟩
        iterate 3
          (go_wp2_with (go_at_call 34;(with_reducible refine (HVC.out _ (hT.below hB)).mono ?_);rintro e w1 ⟨rfl,hb1⟩;have g3:=keep_cell (hB.on hb1 hB.size) g0 hb)
           go_ret
           exact ⟨ret_bool (by rw [←HR.out,fieldsSound_no kl (by rw [HBD.out];simp)]),hB.on hb1 hB.size⟩)
        go_wp2_with (go_at_call 34;(with_reducible refine (HVC.out _ (hT.below hB)).mono ?_);rintro e w1 ⟨rfl,hb1⟩;have g3:=keep_cell (hB.on hb1 hB.size) g0 hb)
        go_roundw
        case rel => exact ⟨j + 1 + 1, by omega, by go_num, fun i hi =>(if e:i<j+1 then HJ.out i e else by
                                                                     obtain rfl:i=j+1:=by omega
                                                                     rw [HBD.out];rfl),hB.on hb1 hB.size⟩
        case measure=>simp [intOf];omega
    · have HE:Hid (R=decide (n≤16)):=by show _=_;rw [←HR.out,fieldsSound_end (by have:=HLn.out;omega) HJ.out, ←HLn.out]
      clear h
      by_cases h16:n≤16
      · go_wp2_with fail
        go_ret
        exact ⟨ret_bool (by rw [HE.out];simp;omega),hB⟩
      · go_wp2_with fail
        go_ret
        exact ⟨ret_bool (by rw [HE.out];simp;omega),hB⟩
set_option maxHeartbeats 8000000 in
set_option maxRecDepth 100000 in
theorem ref18Sound_any (l:List ByteArray) (w:World) (hT:Tabs w) (a:Option Addr) (n c:Nat) (h:IsStrs w w.heap.size l a n c):
    Calls Tryd.prog 19 #[.slice a n c] w fun e w'=>e= .returned (.bool (fieldsSound l))∧Below w.heap.size w w':=by
  have k1:=h.max;have k2:=h.few
  have HLn:=Lib.hid h.len
  obtain ⟨R,hR⟩:∃R,fieldsSound l=R:=⟨_,rfl⟩
  rw [hR]
  have HR:=Lib.hid hR
  clear hR
  go_enter Tryd.func19,Tryd.ntmps19
  go_wp2_with fail
  go_loopw [3] (fun i wr=>∃k:Nat,k≤n∧i= .int .i64 k∧Hid (∀j,j<k→badF l j=false)∧Below w.heap.size w wr) (fun i _=>n - (intOf i).toNat)
  case atStart=>exact ⟨0,Nat.zero_le _,rfl,fun j hj=>by omega,Below.refl _ _⟩
  case round=>
    obtain ⟨k,hk,hi,HJ,hB⟩:=hrel
    by_cases hlt:k<n
    · obtain ⟨b,o,kl,ea,hb,g1,gs⟩:=h.get hlt
      have g1:=later_cell (keep_cell hB g1 hb)
      obtain ⟨vk,hvk⟩:∃vk,Lib.validD l[k].data.toList=vk:=⟨_,rfl⟩
      have HVC:Hid (∀W,Tabs W→Calls Tryd.prog 34 #[.string l[k]] W fun e w'=>e= .returned (.bool vk)∧Below W.heap.size W w'):=fun W hW=>by rw [←hvk];exact valid_any l[k] W gs hW
      by_cases hk0:k=0
      · subst hk0
        subst hi
        have HBD:Hid (badF l 0= !vk):=by show _=_;rw [badF_0 kl,hvk]
        clear h hvk gs
        subst ea
        rw [Nat.add_zero] at g1
        cases vk with
        | false=>
          go_wp2_with fail
          refine wp_region_later (by kernel_rfl) (by kernel_rfl) ?_
          repeat (go_big_quiet_step ((go_at_call 34;exact later_call (HVC.out _ (hT.below (hB.on (below_later _ _) hB.size))))))
          refine wpQuiet_nil ?_
          intro _ hw'
          obtain ⟨pq,hw''⟩:=hw'
          subst hw''
          go_wp2_with fail
          go_ret
          exact ⟨ret_bool (by rw [←HR.out,fieldsSound_no kl (by rw [HBD.out];rfl)]),hB.on (below_later _ _) hB.size⟩
        | true=>
          go_wp2_with fail
          refine wp_region_later (by kernel_rfl) (by kernel_rfl) ?_
          repeat (go_big_quiet_step ((go_at_call 34;exact later_call (HVC.out _ (hT.below (hB.on (below_later _ _) hB.size))))))
          refine wpQuiet_nil ?_
          intro _ hw'
          obtain ⟨pq,hw''⟩:=hw'
          subst hw''
          go_wp2_with fail
          go_roundw
          case rel => exact ⟨1, by omega, by go_num, fun j hj => (by obtain rfl:j=0:=by omega
                                                                     rw [HBD.out];rfl),hB.on (below_later _ _) hB.size⟩
          case measure=>simp [intOf];omega
      · obtain ⟨j,rfl⟩:∃j,k=j+1:=⟨k - 1,by omega⟩
        have hi2:=hi.trans (show Value.int .i64 ((j+1:Nat):Int)= .int .i64 ((j:Int)+1) by go_num)
        clear hi hk0
        subst hi2
        obtain ⟨b',o',jl,ea',hb',g0,_⟩:=h.get (show j<n by omega)
        obtain ⟨b1,h1⟩:∃b1,Op.bytesLess l[j+1].toList l[j].toList=b1:=⟨_,rfl⟩
        obtain ⟨b2,h2⟩:∃b2,(l[j+1].toList==l[j].toList)=b2:=⟨_,rfl⟩
        have HBD:Hid (badF l (j+1)=(!vk||(b1||b2))):=by show _=_;rw [badF_s kl,hvk,h1,h2]
        clear h hvk gs
        subst ea
        cases ea'
        have g2:=later_cell (keep_cell hB g0 hb)
        rcases bcT vk (bcF b1 (bcF b2 trivial)) with rfl|⟨rfl,(rfl|⟨rfl,(rfl|⟨rfl,_⟩)⟩)⟩
        iterate 3
          (go_wp2_with fail
           refine wp_region_later (by kernel_rfl) (by kernel_rfl) ?_
           repeat (go_big_quiet_step ((go_at_call 34;exact later_call (HVC.out _ (hT.below (hB.on (below_later _ _) hB.size))))))
           refine wpQuiet_nil ?_
           intro _ hw'
           obtain ⟨pq,hw''⟩:=hw'
           subst hw''
           go_wp2_with fail
           go_ret
           exact ⟨ret_bool (by rw [←HR.out,fieldsSound_no kl (by rw [HBD.out];simp)]),hB.on (below_later _ _) hB.size⟩)
        go_wp2_with fail
        refine wp_region_later (by kernel_rfl) (by kernel_rfl) ?_
        repeat (go_big_quiet_step ((go_at_call 34;exact later_call (HVC.out _ (hT.below (hB.on (below_later _ _) hB.size))))))
        refine wpQuiet_nil ?_
        intro _ hw'
        obtain ⟨pq,hw''⟩:=hw'
        subst hw''
        go_wp2_with fail
        go_roundw
        case rel => exact ⟨j + 1 + 1, by omega, by go_num, fun i hi =>(if e:i<j+1 then HJ.out i e else by
                                                                     obtain rfl:i=j+1:=by omega
                                                                     rw [HBD.out];rfl),hB.on (below_later _ _) hB.size⟩
        case measure=>simp [intOf];omega
    · have HE:Hid (R=decide (n≤16)):=by show _=_;rw [←HR.out,fieldsSound_end (by have:=HLn.out;omega) HJ.out, ←HLn.out]
      clear h
      by_cases h16:n≤16
      · go_wp2_with fail
        go_ret
        exact ⟨ret_bool (by rw [HE.out];simp;omega),hB⟩
      · go_wp2_with fail
        go_ret
        exact ⟨ret_bool (by rw [HE.out];simp;omega),hB⟩
end Go.Proofs.YthceefjafklcmaaDoor
namespace Go.Proofs.YthceefjafklcmaaDoor
open Go.RowKit
set_option maxHeartbeats 8000000 in
set_option maxRecDepth 100000 in
theorem refOpSame_any (l l':List Cm) (w:World) (a a':Option Addr) (n m c c':Nat) (h:IsComps w w.heap.size l a n c) (h':IsComps w w.heap.size l' a' m c'):
    Calls Tryd.prog 25 #[.slice a n c, .slice a' m c'] w fun e w'=>e= .returned (.bool (eqB l l'))∧Below w.heap.size w w':=by
  have HLn:=Lib.hid h.len;have HLm:=Lib.hid h'.len
  have k1:=h.few;have k2:=h.max;have k3:=h.cap;have k1':=h'.few;have k2':=h'.max;have k3':=h'.cap
  by_cases e:n=m
  case neg=>
    go_enter Tryd.func25,Tryd.ntmps25
    have f1:((n:Int) !=(m:Int))=true:=by simp;omega
    go_wp2_with fail
    go_ret
    exact ⟨ret_bool (eqB_no (fun h=>e (by rw [HLn.out,HLm.out,h]))).symm,Below.refl _ _⟩
  subst e
  go_enter Tryd.func25,Tryd.ntmps25
  have f1:((n:Int) !=(n:Int))=false:=by simp
  go_wp2_with fail
  clear f1
  go_loopw [5] (fun i wr=>∃k:Nat,k≤n∧i= .int .i64 k∧Hid (∀j,j<k→l[j]? =l'[j]?)∧Below w.heap.size w wr) (fun i _=>n - (intOf i).toNat)
  case atStart=>exact ⟨0,Nat.zero_le _,rfl,fun j hj=>by omega,Below.refl _ _⟩
  case round=>
    obtain ⟨k,hk,rfl,HJ,hB⟩:=hrel
    by_cases hlt:k<n
    · obtain ⟨b,o,d,kl,ho2,hb,x1,xb⟩:=h.get hlt
      obtain ⟨b',o',d',kl',ho2',hb',x1',xb'⟩:=h'.get hlt
      subst ho2 ho2'
      have x1:=x1.keep hB hb
      have x1':=x1'.keep hB hb'
      have r0:=later_cell x1.c0;have r1:=later_cell x1.c1;have r2:=later_cell x1.c2;have r3:=later_cell x1.c3;have r4:=later_cell x1.c4;have r5:=later_cell x1.c5;have r6:=later_cell x1.c6.c0;have r7:=later_cell x1.c7;have r8:=later_cell x1.c8;have r9:=later_cell x1.c9;have r10:=later_cell x1.c10;have r11:=later_cell x1.c11
      have s0:=later_cell x1'.c0;have s1:=later_cell x1'.c1;have s2:=later_cell x1'.c2;have s3:=later_cell x1'.c3;have s4:=later_cell x1'.c4;have s5:=later_cell x1'.c5;have s6:=later_cell x1'.c6.c0;have s7:=later_cell x1'.c7;have s8:=later_cell x1'.c8;have s9:=later_cell x1'.c9;have s10:=later_cell x1'.c10;have s11:=later_cell x1'.c11
      have HC:Hid (∀W,Below w.heap.size w W→Calls Tryd.prog 41 #[.agg #[.int .u8 d.k, .slice d.pa d.pl d.pc, .string d.key, .int .i64 d.i, .int .i64 d.j, .int .i64 d.n, .int .u8 d.v.k, .int .i64 d.v.n, .string d.v.s, .slice d.v.la d.v.ll d.v.lc, .slice d.v.oa d.v.ol d.v.oc, .string d.s], .agg #[.int .u8 d'.k, .slice d'.pa d'.pl d'.pc, .string d'.key, .int .i64 d'.i, .int .i64 d'.j, .int .i64 d'.n, .int .u8 d'.v.k, .int .i64 d'.v.n, .string d'.v.s, .slice d'.v.la d'.v.ll d'.v.lc, .slice d'.v.oa d'.v.ol d'.v.oc, .string d'.s]] W fun e w'=>e= .returned (.bool (eqB l[k] l'[k]))∧Below W.heap.size W w'):=fun W hW=>ref06Same_any _ _ W d d' (xb.later_ hW) (xb'.later_ hW)
      clear x1 x1' xb xb'
      generalize hev:eqB l[k] l'[k] =ev at HC
      have HEV:=Lib.hid hev
      have HH:=Lib.hid h;have HH':=Lib.hid h'
      clear hev h h'
      go_wp2_with fail
      refine wp_region_later (by kernel_rfl) (by kernel_rfl) ?_
      repeat (go_big_quiet_step ((go_at_call 41;exact later_call (HC.out _ (hB.on (below_later _ _) hB.size)))))
      refine wpQuiet_nil ?_
      intro _ hw'
      obtain ⟨pq,hw''⟩:=hw'
      subst hw''
      clear r0 r1 r2 r3 r4 r5 r6 r7 r8 r9 r10 r11 s0 s1 s2 s3 s4 s5 s6 s7 s8 s9 s10 s11
      have hB2:=hB.on (below_later wr pq) hB.size
      cases ev with
      | true=>
        go_wp2_with fail
        go_roundw
        case rel=>exact ⟨k+1,by omega,by go_num,same_stepB HJ kl kl' HEV.out,hB2⟩
        case measure=>simp [intOf];omega
      | false=>
        go_wp2_with fail
        go_ret
        exact ⟨ret_bool (eqB_no (fun h=>ne_of_eqB HEV.out (by simp only [h]))).symm,hB2⟩
    · go_wp2_with fail
      go_ret
      exact ⟨ret_bool (eqB_yes (list_of_same HJ.out (by have:=HLn.out;omega) (by have:=HLm.out;omega))).symm,hB⟩
theorem eqB_en (c d:EC) (l l':List Cm) (v u:V):eqB (En.mk c.k c.src c.seq v l) (En.mk d.k d.src d.seq u l')=((c.k==d.k) && ((c.src==d.src) && ((c.seq==d.seq) && (eqv v u && eqB l l')))):=by
  apply Bool.eq_iff_iff.2
  simp only [Bool.and_eq_true,beq_iff_eq]
  constructor
  · intro h
    have h:=eq_of_eqB h
    injection h with h1 h2 h3 h4 h5
    exact ⟨h1,h2,h3,eqv_yes h4,eqB_yes h5⟩
  · rintro ⟨h1,h2,h3,h4,h5⟩
    exact eqB_yes (by rw [h1,h2,h3,eq_of_eqv h4,eq_of_eqB h5])
set_option maxHeartbeats 8000000 in
set_option maxRecDepth 100000 in
theorem refEnSame_any (x y:En) (w:World) (c d:EC) (hx:IsEntry w w.heap.size x c) (hy:IsEntry w w.heap.size y d):
    Calls Tryd.prog 14 #[.agg #[.int .u8 c.k, .int .u32 c.src, .int .u32 c.seq, .int .u8 c.v.k, .int .i64 c.v.n, .string c.v.s, .slice c.v.la c.v.ll c.v.lc, .slice c.v.oa c.v.ol c.v.oc, .slice c.oa c.ol c.oc], .agg #[.int .u8 d.k, .int .u32 d.src, .int .u32 d.seq, .int .u8 d.v.k, .int .i64 d.v.n, .string d.v.s, .slice d.v.la d.v.ll d.v.lc, .slice d.v.oa d.v.ol d.v.oc, .slice d.oa d.ol d.oc]] w fun e w'=>e= .returned (.bool (eqB x y))∧Below w.heap.size w w':=by
  cases hx with
  |mk c v l hb hv hl=>
  cases hy with
  |mk d u l' hb' hu hl'=>
  have HV:Hid (∀W,Below w.heap.size w W→Calls Tryd.prog 15 #[.agg #[.int .u8 c.v.k, .int .i64 c.v.n, .string c.v.s, .slice c.v.la c.v.ll c.v.lc, .slice c.v.oa c.v.ol c.v.oc], .agg #[.int .u8 d.v.k, .int .i64 d.v.n, .string d.v.s, .slice d.v.la d.v.ll d.v.lc, .slice d.v.oa d.v.ol d.v.oc]] W fun e w'=>e= .returned (.bool (eqv v u))∧Below W.heap.size W w'):=fun W hW=>refSame_any v u W c.v d.v (hv.later_ hW) (hu.later_ hW)
  have HP:Hid (∀W,Below w.heap.size w W→Calls Tryd.prog 25 #[.slice c.oa c.ol c.oc, .slice d.oa d.ol d.oc] W fun e w'=>e= .returned (.bool (eqB l l'))∧Below W.heap.size W w'):=fun W hW=>refOpSame_any l l' W _ _ _ _ _ _ (hl.later_ hW) (hl'.later_ hW)
  rw [eqB_en]
  generalize eqv v u=ev at HV ⊢
  generalize eqB l l'=ep at HP ⊢
  obtain ⟨f0,h0⟩:∃b,(c.k==d.k)=b:=⟨_,rfl⟩
  obtain ⟨f1,h1⟩:∃b,(c.src==d.src)=b:=⟨_,rfl⟩
  obtain ⟨f2,h2⟩:∃b,(c.seq==d.seq)=b:=⟨_,rfl⟩
  rw [h0,h1,h2]
  clear hb hl hv hb' hl' hu
  rcases bcT f0 (bcT f1 (bcT f2 (bcT ev trivial))) with rfl|⟨rfl,(rfl|⟨rfl,(rfl|⟨rfl,(rfl|⟨rfl,_⟩)⟩)⟩)⟩
  all_goals
    go_enter Tryd.func14,Tryd.ntmps14
    go_wp2_with (first|(go_at_call 15;(with_reducible refine (HV.out _ (((Below.refl _ _).alloc (Nat.le_refl _) _).alloc (by simp) _)).mono ?_);rintro e w1 ⟨rfl,hb1⟩;have q1:=hb1.cellA 8 _ rfl;have q2:=hb1.cellB 8 _ rfl)|(go_at_call 25;(with_reducible refine (HP.out _ hb1.two).mono ?_);rintro e w2 ⟨rfl,hb2⟩))
    go_ret
    exact ⟨ret_bool (by simp),by first|exact ((Below.refl _ _).alloc (Nat.le_refl _) _).alloc (by simp) _|exact hb1.two|exact hb1.two.on hb2 hb1.two.size⟩
end Go.Proofs.YthceefjafklcmaaDoor
namespace Go.Proofs.YthceefjafklcmaaDoor
open Go.RowKit
structure Ms where
  k:Int
  doc:ByteArray
  n:Int
  e:En
  src:Int
  seq:Int
  err:Int
  there:Bool
  v:V
  f:List ByteArray
structure MC where
  k:Int
  doc:ByteArray
  n:Int
  e:EC
  src:Int
  seq:Int
  err:Int
  there:Bool
  v:VC
  fa:Option Addr
  fl:Nat
  fc:Nat
structure MC.Bnd (c:MC):Prop where
  k0:0≤c.k
  k1:c.k<256
  d1:c.doc.size≤140737488355328
  n0: -9223372036854775808≤c.n
  n1:c.n≤9223372036854775807
  s0:0≤c.src
  s1:c.src<4294967296
  q0:0≤c.seq
  q1:c.seq<4294967296
  e0:0≤c.err
  e1:c.err<65536
inductive IsMsg (w:World) (B:Nat):Ms→MC→Prop
  |mk (c:MC) (e:En) (v:V) (f:List ByteArray) (hb:c.Bnd) (he:IsEntry w B e c.e) (hv:IsVal w B v c.v) (hf:IsStrs w B f c.fa c.fl c.fc):IsMsg w B ⟨c.k,c.doc,c.n,e,c.src,c.seq,c.err,c.there,v,f⟩ c
theorem IsMsg.later_ {w w':World} {m:Ms} {c:MC} (h:IsMsg w w.heap.size m c) (hb:Below w.heap.size w w'):IsMsg w' w'.heap.size m c:=by
  cases h with
  |mk c e v f h1 h2 h3 h4=>exact .mk c e v f h1 (h2.later_ hb) (h3.later_ hb) (h4.later_ hb)
def Ms.none:Ms:=⟨0, .empty,0,En.none,0,0,0,false,V.none, []⟩
def mzero:MC:=⟨0, .empty,0,ezero,0,0,0,false,VC.none,none,0,0⟩
def mcells (c:MC):List Value:= [.int .u8 c.k, .string c.doc, .int .i64 c.n, .int .u8 c.e.k, .int .u32 c.e.src, .int .u32 c.e.seq, .int .u8 c.e.v.k, .int .i64 c.e.v.n, .string c.e.v.s, .slice c.e.v.la c.e.v.ll c.e.v.lc, .slice c.e.v.oa c.e.v.ol c.e.v.oc, .slice c.e.oa c.e.ol c.e.oc, .int .u32 c.src, .int .u32 c.seq, .int .u16 c.err, .bool c.there, .int .u8 c.v.k, .int .i64 c.v.n, .string c.v.s, .slice c.v.la c.v.ll c.v.lc, .slice c.v.oa c.v.ol c.v.oc, .slice c.fa c.fl c.fc]
theorem isMsg_none (w:World) (B:Nat):IsMsg w B Ms.none mzero:= .mk mzero En.none V.none [] ⟨by decide,by decide,by decide,by decide,by decide,by decide,by decide,by decide,by decide,by decide,by decide⟩ (isEntry_none w B) (isVal_none _ _) (IsStrs.nil _ _)
def numberedB (k:Int):Bool:= !(k==2) && !(k==6)
def bringsB (k:Int):Bool:=k==3||k==5
noncomputable def enNone (e:En):Bool:=(e.k==0) && ((e.src==0) && ((e.seq==0) && ((e.op.length==0) && eqv e.v V.none)))
set_option maxHeartbeats 1000000 in
set_option maxRecDepth 100000 in
theorem numbered_any (k:Int) (w:World):Calls Tryd.prog 11 #[.int .u8 k] w fun e w'=>e= .returned (.bool (numberedB k))∧w'=w:=by
  by_cases h1:k=2
  · subst h1
    go_enter Tryd.func11,Tryd.ntmps11
    go_wp2_with fail
    go_ret
    exact ⟨rfl,rfl⟩
  · by_cases h2:k=6
    · subst h2
      go_enter Tryd.func11,Tryd.ntmps11
      go_wp2_with fail
      go_ret
      exact ⟨rfl,rfl⟩
    · have f1:(k==2)=false:=by simp [h1]
      have f2:(k==6)=false:=by simp [h2]
      have HR:Hid (numberedB k=true):=by show _=_;rw [numberedB,f1,f2];rfl
      go_enter Tryd.func11,Tryd.ntmps11
      go_wp2_with fail
      go_ret
      exact ⟨ret_bool (by rw [HR.out];simp [bne,f1,f2]),rfl⟩
set_option maxHeartbeats 1000000 in
set_option maxRecDepth 100000 in
theorem brings_any (k:Int) (w:World):Calls Tryd.prog 27 #[.int .u8 k] w fun e w'=>e= .returned (.bool (bringsB k))∧w'=w:=by
  obtain ⟨a,ha⟩:∃b,(k==3)=b:=⟨_,rfl⟩
  obtain ⟨b,hb⟩:∃b,(k==5)=b:=⟨_,rfl⟩
  have HR:Hid (bringsB k=(a||b)):=by show _=_;rw [bringsB,ha,hb]
  go_enter Tryd.func27,Tryd.ntmps27
  rcases bcF a (bcF b trivial) with rfl|⟨rfl,(rfl|⟨rfl,_⟩)⟩
  all_goals
    go_wp2_with fail
    go_ret
    exact ⟨ret_bool (by rw [HR.out];rfl),rfl⟩
set_option maxHeartbeats 4000000 in
set_option maxRecDepth 100000 in
theorem none_any (x:En) (w:World) (c:EC) (hx:IsEntry w w.heap.size x c):
    Calls Tryd.prog 28 #[.agg #[.int .u8 c.k, .int .u32 c.src, .int .u32 c.seq, .int .u8 c.v.k, .int .i64 c.v.n, .string c.v.s, .slice c.v.la c.v.ll c.v.lc, .slice c.v.oa c.v.ol c.v.oc, .slice c.oa c.ol c.oc]] w fun e w'=>e= .returned (.bool (enNone x))∧Below w.heap.size w w':=by
  cases hx with
  |mk c v l hb hv hl=>
  have HV:Hid (∀W,Below w.heap.size w W→Calls Tryd.prog 30 #[.agg #[.int .u8 c.v.k, .int .i64 c.v.n, .string c.v.s, .slice c.v.la c.v.ll c.v.lc, .slice c.v.oa c.v.ol c.v.oc], .agg #[.int .u8 0, .int .i64 0, .string { data:= #[] }, .slice none 0 0, .slice none 0 0]] W fun e w'=>e= .returned (.bool (eqv v V.none))∧Below W.heap.size W w'):=fun W hW=>valSame_any v V.none W c.v VC.none (hv.later_ hW) (isVal_none _ _)
  have HL:=Lib.hid hl.len
  obtain ⟨f0,h0⟩:∃b,(c.k==0)=b:=⟨_,rfl⟩
  obtain ⟨f1,h1⟩:∃b,(c.src==0)=b:=⟨_,rfl⟩
  obtain ⟨f2,h2⟩:∃b,(c.seq==0)=b:=⟨_,rfl⟩
  obtain ⟨f3,h3⟩:∃b,(((c.ol:Nat):Int)==0)=b:=⟨_,rfl⟩
  have h4:(l.length==0)=f3:=by rw [←h3, ←HL.out];cases c.ol<;>simp<;>omega
  have HR:Hid (enNone ⟨c.k,c.src,c.seq,v,l⟩=(f0 && (f1 && (f2 && (f3 && eqv v V.none))))):=by show _=_;rw [enNone];simp only [];rw [h0,h1,h2,h4]
  generalize eqv v V.none=ev at HV HR
  clear hb hv hl h4
  rcases bcT f0 (bcT f1 (bcT f2 (bcT f3 trivial))) with rfl|⟨rfl,(rfl|⟨rfl,(rfl|⟨rfl,(rfl|⟨rfl,_⟩)⟩)⟩)⟩
  all_goals
    go_enter Tryd.func28,Tryd.ntmps28
    go_wp2_with (go_at_call 30;(with_reducible refine (HV.out _ ((Below.refl _ _).alloc (Nat.le_refl _) _)).mono ?_);rintro e w1 ⟨rfl,hb1⟩)
    go_ret
    exact ⟨ret_bool (by rw [HR.out];simp),by first|exact (Below.refl _ _).alloc (Nat.le_refl _) _|exact hb1.one⟩
def sameB (c d:MC) (eq:Bool):Bool:=(c.k==d.k) && ((c.doc.toList==d.doc.toList) && ((c.n==d.n) && ((c.src==d.src) && ((c.seq==d.seq) && ((c.err==d.err) && ((c.there==d.there) && eq))))))
set_option maxHeartbeats 8000000 in
set_option maxRecDepth 100000 in
theorem same_any (w:World) (c d:MC) (l l':List ByteArray) (hl:IsStrs w w.heap.size l c.fa c.fl c.fc) (hl':IsStrs w w.heap.size l' d.fa d.fl d.fc):
    Calls Tryd.prog 26 #[.agg #[.int .u8 c.k, .string c.doc, .int .i64 c.n, .int .u8 c.e.k, .int .u32 c.e.src, .int .u32 c.e.seq, .int .u8 c.e.v.k, .int .i64 c.e.v.n, .string c.e.v.s, .slice c.e.v.la c.e.v.ll c.e.v.lc, .slice c.e.v.oa c.e.v.ol c.e.v.oc, .slice c.e.oa c.e.ol c.e.oc, .int .u32 c.src, .int .u32 c.seq, .int .u16 c.err, .bool c.there, .int .u8 c.v.k, .int .i64 c.v.n, .string c.v.s, .slice c.v.la c.v.ll c.v.lc, .slice c.v.oa c.v.ol c.v.oc, .slice c.fa c.fl c.fc], .agg #[.int .u8 d.k, .string d.doc, .int .i64 d.n, .int .u8 d.e.k, .int .u32 d.e.src, .int .u32 d.e.seq, .int .u8 d.e.v.k, .int .i64 d.e.v.n, .string d.e.v.s, .slice d.e.v.la d.e.v.ll d.e.v.lc, .slice d.e.v.oa d.e.v.ol d.e.v.oc, .slice d.e.oa d.e.ol d.e.oc, .int .u32 d.src, .int .u32 d.seq, .int .u16 d.err, .bool d.there, .int .u8 d.v.k, .int .i64 d.v.n, .string d.v.s, .slice d.v.la d.v.ll d.v.lc, .slice d.v.oa d.v.ol d.v.oc, .slice d.fa d.fl d.fc]] w fun e w'=>e= .returned (.bool (sameB c d (eqB l l')))∧Below w.heap.size w w':=by
  have HL:Hid (∀W,Below w.heap.size w W→Calls Tryd.prog 42 #[.slice c.fa c.fl c.fc, .slice d.fa d.fl d.fc] W fun e w'=>e= .returned (.bool (eqB l l'))∧Below W.heap.size W w'):=fun W hW=>equalStrs_any l l' W _ _ _ _ _ _ (hl.later_ hW) (hl'.later_ hW)
  generalize eqB l l'=ep at HL ⊢
  rw [sameB]
  obtain ⟨f0,h0⟩:∃b,(c.k==d.k)=b:=⟨_,rfl⟩
  obtain ⟨f1,h1⟩:∃b,(c.doc.toList==d.doc.toList)=b:=⟨_,rfl⟩
  obtain ⟨f2,h2⟩:∃b,(c.n==d.n)=b:=⟨_,rfl⟩
  obtain ⟨f3,h3⟩:∃b,(c.src==d.src)=b:=⟨_,rfl⟩
  obtain ⟨f4,h4⟩:∃b,(c.seq==d.seq)=b:=⟨_,rfl⟩
  obtain ⟨f5,h5⟩:∃b,(c.err==d.err)=b:=⟨_,rfl⟩
  obtain ⟨f6,h6⟩:∃b,(c.there==d.there)=b:=⟨_,rfl⟩
  rw [h0,h1,h2,h3,h4,h5,h6]
  clear hl hl'
  rcases bcT f0 (bcT f1 (bcT f2 (bcT f3 (bcT f4 (bcT f5 (bcT f6 trivial)))))) with rfl|⟨rfl,(rfl|⟨rfl,(rfl|⟨rfl,(rfl|⟨rfl,(rfl|⟨rfl,(rfl|⟨rfl,(rfl|⟨rfl,_⟩)⟩)⟩)⟩)⟩)⟩)⟩
  all_goals
    go_enter Tryd.func26,Tryd.ntmps26
    go_wp2_with (go_at_call 42;(with_reducible refine (HL.out _ (((Below.refl _ _).alloc (Nat.le_refl _) _).alloc (by simp) _)).mono ?_);rintro e w1 ⟨rfl,hb1⟩)
    go_ret
    exact ⟨ret_bool (by simp),by first|exact ((Below.refl _ _).alloc (Nat.le_refl _) _).alloc (by simp) _|exact hb1.two⟩
end Go.Proofs.YthceefjafklcmaaDoor
