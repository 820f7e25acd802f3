/-
  Contracts of the functions that the law reaches: comp.Sound.
-/
import Derived.Test.YthceefjafklcmaaGreatDoorMd30
import Derived.Test.YthceefjafklcmaaGreatDoorMd31
namespace Go.Proofs.YthceefjafklcmaaGreatDoor
open Go.RowKit
noncomputable def cmSound (x:Cm):Bool:=
  kIs x.k && eqB x.bare ⟨x.k,x.path, .empty,0,0,0,V.none, .empty⟩ && pathSound x.path && Lib.validD x.key.data.toList && Lib.validD x.s.data.toList &&
  decide (0≤x.i) && decide (0≤x.j) && !(x.k==8 && x.s.toList.isEmpty) && !(x.k==9 && decide (x.n<1)) &&
  x.v.sound && decide (x.path.length+1+x.v.deep≤16) && decide (x.v.weight≤20000)
structure Boxed1C (w W:World) (c:CC):Prop where
  at_:CompAt W w.heap.size 0 c
  below:Below w.heap.size w W
  size:w.heap.size+1≤W.heap.size
theorem Boxed1C.step {w W W':World} {c:CC} (h:Boxed1C w W c) (hb:Below W.heap.size W W'):Boxed1C w W' c:=
  ⟨h.at_.keep hb (by have:=h.size;omega),h.below.trans (hb.mono (by have:=h.size;omega)),by have:=h.size;have:=hb.size;omega⟩
theorem boxed1C_start (w:World) (c:CC) (t:TypeId):Boxed1C w (w.alloc (.cells #[.int .u8 c.k, .slice c.pa c.pl c.pc, .string c.key, .int .i64 c.i, .int .i64 c.j, .int .i64 c.n, .int .u8 c.v.k, .int .i64 c.v.n, .string c.v.s, .slice c.v.la c.v.ll c.v.lc, .slice c.v.oa c.v.ol c.v.oc, .string c.s] t)) c:=
  ⟨⟨cells_new _ _ _ _ _ rfl,cells_new _ _ _ _ _ rfl,cells_new _ _ _ _ _ rfl,cells_new _ _ _ _ _ rfl,cells_new _ _ _ _ _ rfl,cells_new _ _ _ _ _ rfl,⟨cells_new _ _ _ _ _ rfl,cells_new _ _ _ _ _ rfl,cells_new _ _ _ _ _ rfl,cells_new _ _ _ _ _ rfl,cells_new _ _ _ _ _ rfl⟩,cells_new _ _ _ _ _ rfl⟩,(Below.refl _ _).alloc (Nat.le_refl _) _,by simp⟩
def Behind (w:World) (f:FuncId) (args:Array Value) (v:Value):Prop:=∀W,Below w.heap.size w W→Calls Tryz.prog f args W fun e w'=>e= .returned v∧Below W.heap.size W w'
theorem Behind.at_ {w W:World} {f:FuncId} {args:Array Value} {v:Value} (h:Behind w f args v) (hW:Below w.heap.size w W):Calls Tryz.prog f args W fun e w'=>e= .returned v∧Below W.heap.size W w':=h W hW
set_option maxHeartbeats 8000000 in
set_option maxRecDepth 100000 in
theorem compSound_any (x:Cm) (w:World) (hT:Tabs w) (c:CC) (hx:IsComp w w.heap.size x c) (hw:x.v.weight≤4611686018427387904):
    Calls Tryz.prog 59 #[.agg #[.int .u8 c.k, .slice c.pa c.pl c.pc, .string c.key, .int .i64 c.i, .int .i64 c.j, .int .i64 c.n, .int .u8 c.v.k, .int .i64 c.v.n, .string c.v.s, .slice c.v.la c.v.ll c.v.lc, .slice c.v.oa c.v.ol c.v.oc, .string c.s]] w fun e w'=>e= .returned (.bool (cmSound x))∧Below w.heap.size w w':=by
  have hbare:=hx.bare
  cases hx with
  |mk c p v hb hp hv=>
  dsimp only [Cm.bare] at hbare
  dsimp only at hw
  have HBARE:Hid (∀W,Below w.heap.size w W→Calls Tryz.prog 96 #[.agg #[.int .u8 c.k, .slice c.pa c.pl c.pc, .string c.key, .int .i64 c.i, .int .i64 c.j, .int .i64 c.n, .int .u8 c.v.k, .int .i64 c.v.n, .string c.v.s, .slice c.v.la c.v.ll c.v.lc, .slice c.v.oa c.v.ol c.v.oc, .string c.s]] W fun e w'=>(∃d:CC,e= .returned (.tuple #[.agg #[.int .u8 d.k, .slice d.pa d.pl d.pc, .string d.key, .int .i64 d.i, .int .i64 d.j, .int .i64 d.n, .int .u8 d.v.k, .int .i64 d.v.n, .string d.v.s, .slice d.v.la d.v.ll d.v.lc, .slice d.v.oa d.v.ol d.v.oc, .string d.s], .bool (kIs c.k)])∧Hid (d=c.bare))∧Below W.heap.size W w'):=fun W _=>bare_any c W hb
  obtain ⟨sm,hsm⟩:∃sm,eqB (Cm.bare ⟨c.k,p,c.key,c.i,c.j,c.n,v,c.s⟩) ⟨c.k,p, .empty,0,0,0,V.none, .empty⟩=sm:=⟨_,rfl⟩
  have HSAME:Hid (∀d:CC,Hid (d=c.bare)→Behind w 97 #[.agg #[.int .u8 d.k, .slice d.pa d.pl d.pc, .string d.key, .int .i64 d.i, .int .i64 d.j, .int .i64 d.n, .int .u8 d.v.k, .int .i64 d.v.n, .string d.v.s, .slice d.v.la d.v.ll d.v.lc, .slice d.v.oa d.v.ol d.v.oc, .string d.s], .agg #[.int .u8 c.k, .slice c.pa c.pl c.pc, .string { data:= #[] }, .int .i64 0, .int .i64 0, .int .i64 0, .int .u8 0, .int .i64 0, .string { data:= #[] }, .slice none 0 0, .slice none 0 0, .string { data:= #[] }]] (.bool sm)):=by
    intro d hd W hW
    obtain rfl:=hd.out
    rw [←hsm]
    exact compSame_any _ _ W c.bare ⟨c.k,c.pa,c.pl,c.pc, .empty,0,0,0,VC.none, .empty⟩ (hbare.later_ hW) (IsComp.later_ hW (.mk ⟨c.k,c.pa,c.pl,c.pc, .empty,0,0,0,VC.none, .empty⟩ p V.none ⟨hb.k0,hb.k1,by show (-9223372036854775808:Int)≤0;decide,by show (0:Int)≤9223372036854775807;decide,by show (-9223372036854775808:Int)≤0;decide,by show (0:Int)≤9223372036854775807;decide,by show (-9223372036854775808:Int)≤0;decide,by show (0:Int)≤9223372036854775807;decide,by show 0≤140737488355328;decide,by show 0≤140737488355328;decide⟩ hp (isVal_none _ _)))
  obtain ⟨kn,hkn⟩:∃kn,kIs c.k=kn:=⟨_,rfl⟩
  obtain ⟨ps,hps⟩:∃ps,pathSound p=ps:=⟨_,rfl⟩
  obtain ⟨vk,hvk⟩:∃vk,Lib.validD c.key.data.toList=vk:=⟨_,rfl⟩
  obtain ⟨vs,hvs⟩:∃vs,Lib.validD c.s.data.toList=vs:=⟨_,rfl⟩
  obtain ⟨be,hbe⟩:∃be,c.s.toList.isEmpty=be:=⟨_,rfl⟩
  obtain ⟨sd,hsd⟩:∃sd,v.sound=sd:=⟨_,rfl⟩
  obtain ⟨dp,hdp⟩:∃dp,v.deep=dp:=⟨_,rfl⟩
  obtain ⟨wt,hwt⟩:∃wt,v.weight=wt:=⟨_,rfl⟩
  have HPS:Hid (Behind w 98 #[.slice c.pa c.pl c.pc] (.bool ps)):=fun W hW=>by rw [←hps];exact pathSound_any p W (hT.below hW) _ _ _ (hp.later_ hW)
  have HVK:Hid (Behind w 51 #[.string c.key] (.bool vk)):=fun W hW=>by rw [←hvk];exact valid_any c.key W hb.key1 (hT.below hW)
  have HVS:Hid (Behind w 51 #[.string c.s] (.bool vs)):=fun W hW=>by rw [←hvs];exact valid_any c.s W hb.s1 (hT.below hW)
  have HSD:Hid (Behind w 92 #[.agg #[.int .u8 c.v.k, .int .i64 c.v.n, .string c.v.s, .slice c.v.la c.v.ll c.v.lc, .slice c.v.oa c.v.ol c.v.oc]] (.bool sd)):=fun W hW=>by rw [←hsd];exact valSound_any v W c.v (hv.later_ hW) (hT.below hW)
  have HDP:Hid (Behind w 93 #[.agg #[.int .u8 c.v.k, .int .i64 c.v.n, .string c.v.s, .slice c.v.la c.v.ll c.v.lc, .slice c.v.oa c.v.ol c.v.oc]] (.int .i64 dp)):=fun W hW=>by rw [←hdp];exact valDeep_any v hw W c.v (hv.later_ hW)
  have HWT:Hid (Behind w 94 #[.agg #[.int .u8 c.v.k, .int .i64 c.v.n, .string c.v.s, .slice c.v.la c.v.ll c.v.lc, .slice c.v.oa c.v.ol c.v.oc]] (.int .i64 wt)):=fun W hW=>by rw [←hwt];exact valWeight_any v hw W c.v (hv.later_ hW)
  have f0:(c.s.toList== [])=be:=by rw [←hbe];cases c.s.toList<;>rfl
  have k1:=hp.few;have k2:=hp.max;have k3:=hp.cap
  have k4:wt≤4611686018427387904:=by omega
  have k5:dp≤4611686018427387904:=by have:=v.deep_lt;omega
  obtain ⟨R,hR⟩:∃R,cmSound ⟨c.k,p,c.key,c.i,c.j,c.n,v,c.s⟩=R:=⟨_,rfl⟩
  have hR2:R=(kn && sm && ps && vk && vs && decide (0≤c.i) && decide (0≤c.j) && !(c.k==8 && be) && !(c.k==9 && decide (c.n<1)) && sd && decide (c.pl+1+dp≤16) && decide (wt≤20000)):=by
    rw [←hR];simp only [cmSound];rw [hsm,hkn,hps,hvk,hvs,hbe,hsd,hdp,hwt,hp.len]
  rw [hR]
  rw [hkn] at HBARE
  have HR:=Lib.hid hR2
  have bx:=boxed1C_start w c 97
  clear hbare hsm hkn hps hvk hvs hbe hsd hdp hwt hR hR2 hb hp hv hw hT
  go_enter Tryz.func59,Tryz.ntmps59
  cases kn with
  |false=>go_wp2_with (go_at_call 96;refine (HBARE.out _ (by have:=bx.below;have:=bx.size;go_grown)).mono ?_;rintro e w1 ⟨⟨d,rfl,hd⟩,hb1⟩;replace bx:=(bx.step (by go_grown)).step hb1;have zs:w.heap.size<w1.heap.size:=bx.size;have z0:=bx.at_.c0;have z1:=bx.at_.c1);go_ret;exact ⟨ret_bool (by rw [HR.out];first|(simp [*];done)|(simp [*];intros;omega)),by have:=bx.below;have:=bx.size;go_grown⟩
  |true=>
  go_wp2_with (go_at_call 96;refine (HBARE.out _ (by have:=bx.below;have:=bx.size;go_grown)).mono ?_;rintro e w1 ⟨⟨d,rfl,hd⟩,hb1⟩;replace bx:=(bx.step (by go_grown)).step hb1;have zs:w.heap.size<w1.heap.size:=bx.size;have z0:=bx.at_.c0;have z1:=bx.at_.c1)
  cases sm with
  |false=>go_wp2_with (go_at_call 97;(with_reducible refine (Behind.at_ (HSAME.out d hd) ?_).mono ?_);(focus (have:=bx.below;have:=bx.size;go_grown));rintro e w1 ⟨rfl,hb1⟩;replace bx:=(bx.step (by go_grown)).step hb1;have zs:w.heap.size<w1.heap.size:=bx.size;have z0:=bx.at_.c0;have z1:=bx.at_.c1;have z2:=bx.at_.c2;have z3:=bx.at_.c3;have z4:=bx.at_.c4;have z5:=bx.at_.c5;have z6:=bx.at_.c11);go_ret;exact ⟨ret_bool (by rw [HR.out];first|(simp [*];done)|(simp [*];intros;omega)),by have:=bx.below;have:=bx.size;go_grown⟩
  |true=>
  go_wp2_with (go_at_call 97;(with_reducible refine (Behind.at_ (HSAME.out d hd) ?_).mono ?_);(focus (have:=bx.below;have:=bx.size;go_grown));rintro e w1 ⟨rfl,hb1⟩;replace bx:=(bx.step (by go_grown)).step hb1;have zs:w.heap.size<w1.heap.size:=bx.size;have z0:=bx.at_.c0;have z1:=bx.at_.c1;have z2:=bx.at_.c2;have z3:=bx.at_.c3;have z4:=bx.at_.c4;have z5:=bx.at_.c5;have z6:=bx.at_.c11)
  cases ps with
  |false=>go_wp2_with (go_at_call 98;(with_reducible refine (Behind.at_ (HPS.out) ?_).mono ?_);(focus (have:=bx.below;have:=bx.size;go_grown));rintro e w1 ⟨rfl,hb1⟩;replace bx:=(bx.step (by go_grown)).step hb1;have zs:w.heap.size<w1.heap.size:=bx.size;have z0:=bx.at_.c0;have z1:=bx.at_.c1;have z2:=bx.at_.c2;have z3:=bx.at_.c3;have z4:=bx.at_.c4;have z5:=bx.at_.c5;have z6:=bx.at_.c11);go_ret;exact ⟨ret_bool (by rw [HR.out];first|(simp [*];done)|(simp [*];intros;omega)),by have:=bx.below;have:=bx.size;go_grown⟩
  |true=>
  go_wp2_with (go_at_call 98;(with_reducible refine (Behind.at_ (HPS.out) ?_).mono ?_);(focus (have:=bx.below;have:=bx.size;go_grown));rintro e w1 ⟨rfl,hb1⟩;replace bx:=(bx.step (by go_grown)).step hb1;have zs:w.heap.size<w1.heap.size:=bx.size;have z0:=bx.at_.c0;have z1:=bx.at_.c1;have z2:=bx.at_.c2;have z3:=bx.at_.c3;have z4:=bx.at_.c4;have z5:=bx.at_.c5;have z6:=bx.at_.c11)
  cases vk with
  |false=>go_wp2_with (go_at_call 51;(with_reducible refine (Behind.at_ (HVK.out) ?_).mono ?_);(focus (have:=bx.below;have:=bx.size;go_grown));rintro e w1 ⟨rfl,hb1⟩;replace bx:=(bx.step (by go_grown)).step hb1;have zs:w.heap.size<w1.heap.size:=bx.size;have z0:=bx.at_.c0;have z1:=bx.at_.c1;have z2:=bx.at_.c2;have z3:=bx.at_.c3;have z4:=bx.at_.c4;have z5:=bx.at_.c5;have z6:=bx.at_.c11);go_ret;exact ⟨ret_bool (by rw [HR.out];first|(simp [*];done)|(simp [*];intros;omega)),by have:=bx.below;have:=bx.size;go_grown⟩
  |true=>
  go_wp2_with (go_at_call 51;(with_reducible refine (Behind.at_ (HVK.out) ?_).mono ?_);(focus (have:=bx.below;have:=bx.size;go_grown));rintro e w1 ⟨rfl,hb1⟩;replace bx:=(bx.step (by go_grown)).step hb1;have zs:w.heap.size<w1.heap.size:=bx.size;have z0:=bx.at_.c0;have z1:=bx.at_.c1;have z2:=bx.at_.c2;have z3:=bx.at_.c3;have z4:=bx.at_.c4;have z5:=bx.at_.c5;have z6:=bx.at_.c11)
  cases vs with
  |false=>go_wp2_with (go_at_call 51;(with_reducible refine (Behind.at_ (HVS.out) ?_).mono ?_);(focus (have:=bx.below;have:=bx.size;go_grown));rintro e w1 ⟨rfl,hb1⟩;replace bx:=(bx.step (by go_grown)).step hb1;have zs:w.heap.size<w1.heap.size:=bx.size;have z0:=bx.at_.c0;have z1:=bx.at_.c1;have z2:=bx.at_.c2;have z3:=bx.at_.c3;have z4:=bx.at_.c4;have z5:=bx.at_.c5;have z6:=bx.at_.c11);go_ret;exact ⟨ret_bool (by rw [HR.out];first|(simp [*];done)|(simp [*];intros;omega)),by have:=bx.below;have:=bx.size;go_grown⟩
  |true=>
  by_cases hi:c.i<0
  · go_wp2_with (go_at_call 51;(with_reducible refine (Behind.at_ (HVS.out) ?_).mono ?_);(focus (have:=bx.below;have:=bx.size;go_grown));rintro e w1 ⟨rfl,hb1⟩;replace bx:=(bx.step (by go_grown)).step hb1;have zs:w.heap.size<w1.heap.size:=bx.size;have z0:=bx.at_.c0;have z1:=bx.at_.c1;have z2:=bx.at_.c2;have z3:=bx.at_.c3;have z4:=bx.at_.c4;have z5:=bx.at_.c5;have z6:=bx.at_.c11);go_ret;exact ⟨ret_bool (by rw [HR.out];first|(simp [*];done)|(simp [*];intros;omega)),by have:=bx.below;have:=bx.size;go_grown⟩
  by_cases hj:c.j<0
  · go_wp2_with (go_at_call 51;(with_reducible refine (Behind.at_ (HVS.out) ?_).mono ?_);(focus (have:=bx.below;have:=bx.size;go_grown));rintro e w1 ⟨rfl,hb1⟩;replace bx:=(bx.step (by go_grown)).step hb1;have zs:w.heap.size<w1.heap.size:=bx.size;have z0:=bx.at_.c0;have z1:=bx.at_.c1;have z2:=bx.at_.c2;have z3:=bx.at_.c3;have z4:=bx.at_.c4;have z5:=bx.at_.c5;have z6:=bx.at_.c11);go_ret;exact ⟨ret_bool (by rw [HR.out];first|(simp [*];done)|(simp [*];intros;omega)),by have:=bx.below;have:=bx.size;go_grown⟩
  by_cases e8:c.k=8
  case pos=>
    have f8:(c.k==8)=true:=by simp [e8]
    have f9:(c.k==9)=false:=by simp [e8]
    clear e8
    cases be with
    |true=>go_wp2_with (go_at_call 51;(with_reducible refine (Behind.at_ (HVS.out) ?_).mono ?_);(focus (have:=bx.below;have:=bx.size;go_grown));rintro e w1 ⟨rfl,hb1⟩;replace bx:=(bx.step (by go_grown)).step hb1;have zs:w.heap.size<w1.heap.size:=bx.size;have z0:=bx.at_.c0;have z1:=bx.at_.c1;have z2:=bx.at_.c2;have z3:=bx.at_.c3;have z4:=bx.at_.c4;have z5:=bx.at_.c5;have z6:=bx.at_.c11);go_ret;exact ⟨ret_bool (by rw [HR.out];first|(simp [*];done)|(simp [*];intros;omega)),by have:=bx.below;have:=bx.size;go_grown⟩
    |false=>
    go_wp2_with (go_at_call 51;(with_reducible refine (Behind.at_ (HVS.out) ?_).mono ?_);(focus (have:=bx.below;have:=bx.size;go_grown));rintro e w1 ⟨rfl,hb1⟩;replace bx:=(bx.step (by go_grown)).step hb1;have zs:w.heap.size<w1.heap.size:=bx.size;have z0:=bx.at_.c0;have z1:=bx.at_.c1;have z2:=bx.at_.c2;have z3:=bx.at_.c3;have z4:=bx.at_.c4;have z5:=bx.at_.c5;have z6:=bx.at_.c11)
    have a0:=later_cell bx.at_.c6.c0;have a1:=later_cell bx.at_.c6.c1;have a2:=later_cell bx.at_.c6.c2;have a3:=later_cell bx.at_.c6.c3;have a4:=later_cell bx.at_.c6.c4;have a5:=later_cell bx.at_.c1
    have hbx:=bx.below
    have hbs:=bx.size
    cases sd with
    | false=>
      refine wp_region_later (by kernel_rfl) (by kernel_rfl) ?_
      repeat (go_big_quiet_step ((first|(go_at_call 92;exact later_call (HSD.out _ (hbx.trans ((below_later _ _).mono (by omega)))))|(go_at_call 93;exact later_call (HDP.out _ (hbx.trans ((below_later _ _).mono (by omega)))))|(go_at_call 94;exact later_call (HWT.out _ (hbx.trans ((below_later _ _).mono (by omega))))))))
      refine wpQuiet_nil ?_
      intro _ hw'
      obtain ⟨pq,hw''⟩:=hw'
      subst hw''
      go_wp2_with fail
      go_ret
      exact ⟨ret_bool (by rw [HR.out];simp),hbx.trans ((below_later _ _).mono (by omega))⟩
    |true=>
    by_cases hd:c.pl+1+dp≤16
    case neg=>
      have hdI:¬((c.pl:Int)+1+(dp:Int)≤16):=by omega
      have hdB:decide ((c.pl:Int)+1+(dp:Int)≤16)=false:=by simpa using hdI
      refine wp_region_later (by kernel_rfl) (by kernel_rfl) ?_
      repeat (go_big_quiet_step ((first|(go_at_call 92;exact later_call (HSD.out _ (hbx.trans ((below_later _ _).mono (by omega)))))|(go_at_call 93;exact later_call (HDP.out _ (hbx.trans ((below_later _ _).mono (by omega)))))|(go_at_call 94;exact later_call (HWT.out _ (hbx.trans ((below_later _ _).mono (by omega))))))))
      refine wpQuiet_nil ?_
      intro _ hw'
      obtain ⟨pq,hw''⟩:=hw'
      subst hw''
      go_wp2_with fail
      go_ret
      exact ⟨ret_bool (by rw [HR.out];simp [hd]),hbx.trans ((below_later _ _).mono (by omega))⟩
    have hdI:(c.pl:Int)+1+(dp:Int)≤16:=by omega
    have hdB:decide ((c.pl:Int)+1+(dp:Int)≤16)=true:=by simpa using hdI
    refine wp_region_later (by kernel_rfl) (by kernel_rfl) ?_
    repeat (go_big_quiet_step ((first|(go_at_call 92;exact later_call (HSD.out _ (hbx.trans ((below_later _ _).mono (by omega)))))|(go_at_call 93;exact later_call (HDP.out _ (hbx.trans ((below_later _ _).mono (by omega)))))|(go_at_call 94;exact later_call (HWT.out _ (hbx.trans ((below_later _ _).mono (by omega))))))))
    refine wpQuiet_nil ?_
    intro _ hw'
    obtain ⟨pq,hw''⟩:=hw'
    subst hw''
    go_wp2_with fail
    go_ret
    exact ⟨ret_bool (by rw [HR.out];simp [*];try omega),hbx.trans ((below_later _ _).mono (by omega))⟩
  case neg=>
    have f8:(c.k==8)=false:=by simp [e8]
    clear e8
    by_cases e9:c.k=9
    case pos=>
      have f9:(c.k==9)=true:=by simp [e9]
      clear e9
      by_cases hn:c.n<1
      · go_wp2_with (go_at_call 51;(with_reducible refine (Behind.at_ (HVS.out) ?_).mono ?_);(focus (have:=bx.below;have:=bx.size;go_grown));rintro e w1 ⟨rfl,hb1⟩;replace bx:=(bx.step (by go_grown)).step hb1;have zs:w.heap.size<w1.heap.size:=bx.size;have z0:=bx.at_.c0;have z1:=bx.at_.c1;have z2:=bx.at_.c2;have z3:=bx.at_.c3;have z4:=bx.at_.c4;have z5:=bx.at_.c5;have z6:=bx.at_.c11);go_ret;exact ⟨ret_bool (by rw [HR.out];first|(simp [*];done)|(simp [*];intros;omega)),by have:=bx.below;have:=bx.size;go_grown⟩
      have hn2:decide (c.n<1)=false:=by simpa using hn
      go_wp2_with (go_at_call 51;(with_reducible refine (Behind.at_ (HVS.out) ?_).mono ?_);(focus (have:=bx.below;have:=bx.size;go_grown));rintro e w1 ⟨rfl,hb1⟩;replace bx:=(bx.step (by go_grown)).step hb1;have zs:w.heap.size<w1.heap.size:=bx.size;have z0:=bx.at_.c0;have z1:=bx.at_.c1;have z2:=bx.at_.c2;have z3:=bx.at_.c3;have z4:=bx.at_.c4;have z5:=bx.at_.c5;have z6:=bx.at_.c11)
      have a0:=later_cell bx.at_.c6.c0;have a1:=later_cell bx.at_.c6.c1;have a2:=later_cell bx.at_.c6.c2;have a3:=later_cell bx.at_.c6.c3;have a4:=later_cell bx.at_.c6.c4;have a5:=later_cell bx.at_.c1
      have hbx:=bx.below
      have hbs:=bx.size
      cases sd with
      | false=>
        refine wp_region_later (by kernel_rfl) (by kernel_rfl) ?_
        repeat (go_big_quiet_step ((first|(go_at_call 92;exact later_call (HSD.out _ (hbx.trans ((below_later _ _).mono (by omega)))))|(go_at_call 93;exact later_call (HDP.out _ (hbx.trans ((below_later _ _).mono (by omega)))))|(go_at_call 94;exact later_call (HWT.out _ (hbx.trans ((below_later _ _).mono (by omega))))))))
        refine wpQuiet_nil ?_
        intro _ hw'
        obtain ⟨pq,hw''⟩:=hw'
        subst hw''
        go_wp2_with fail
        go_ret
        exact ⟨ret_bool (by rw [HR.out];simp),hbx.trans ((below_later _ _).mono (by omega))⟩
      |true=>
      by_cases hd:c.pl+1+dp≤16
      case neg=>
        have hdI:¬((c.pl:Int)+1+(dp:Int)≤16):=by omega
        have hdB:decide ((c.pl:Int)+1+(dp:Int)≤16)=false:=by simpa using hdI
        refine wp_region_later (by kernel_rfl) (by kernel_rfl) ?_
        repeat (go_big_quiet_step ((first|(go_at_call 92;exact later_call (HSD.out _ (hbx.trans ((below_later _ _).mono (by omega)))))|(go_at_call 93;exact later_call (HDP.out _ (hbx.trans ((below_later _ _).mono (by omega)))))|(go_at_call 94;exact later_call (HWT.out _ (hbx.trans ((below_later _ _).mono (by omega))))))))
        refine wpQuiet_nil ?_
        intro _ hw'
        obtain ⟨pq,hw''⟩:=hw'
        subst hw''
        go_wp2_with fail
        go_ret
        exact ⟨ret_bool (by rw [HR.out];simp [hd]),hbx.trans ((below_later _ _).mono (by omega))⟩
      have hdI:(c.pl:Int)+1+(dp:Int)≤16:=by omega
      have hdB:decide ((c.pl:Int)+1+(dp:Int)≤16)=true:=by simpa using hdI
      refine wp_region_later (by kernel_rfl) (by kernel_rfl) ?_
      repeat (go_big_quiet_step ((first|(go_at_call 92;exact later_call (HSD.out _ (hbx.trans ((below_later _ _).mono (by omega)))))|(go_at_call 93;exact later_call (HDP.out _ (hbx.trans ((below_later _ _).mono (by omega)))))|(go_at_call 94;exact later_call (HWT.out _ (hbx.trans ((below_later _ _).mono (by omega))))))))
      refine wpQuiet_nil ?_
      intro _ hw'
      obtain ⟨pq,hw''⟩:=hw'
      subst hw''
      go_wp2_with fail
      go_ret
      exact ⟨ret_bool (by rw [HR.out];simp [*];try omega),hbx.trans ((below_later _ _).mono (by omega))⟩
    case neg=>
      have f9:(c.k==9)=false:=by simp [e9]
      clear e9
      go_wp2_with (go_at_call 51;(with_reducible refine (Behind.at_ (HVS.out) ?_).mono ?_);(focus (have:=bx.below;have:=bx.size;go_grown));rintro e w1 ⟨rfl,hb1⟩;replace bx:=(bx.step (by go_grown)).step hb1;have zs:w.heap.size<w1.heap.size:=bx.size;have z0:=bx.at_.c0;have z1:=bx.at_.c1;have z2:=bx.at_.c2;have z3:=bx.at_.c3;have z4:=bx.at_.c4;have z5:=bx.at_.c5;have z6:=bx.at_.c11)
      have a0:=later_cell bx.at_.c6.c0;have a1:=later_cell bx.at_.c6.c1;have a2:=later_cell bx.at_.c6.c2;have a3:=later_cell bx.at_.c6.c3;have a4:=later_cell bx.at_.c6.c4;have a5:=later_cell bx.at_.c1
      have hbx:=bx.below
      have hbs:=bx.size
      cases sd with
      | false=>
        refine wp_region_later (by kernel_rfl) (by kernel_rfl) ?_
        repeat (go_big_quiet_step ((first|(go_at_call 92;exact later_call (HSD.out _ (hbx.trans ((below_later _ _).mono (by omega)))))|(go_at_call 93;exact later_call (HDP.out _ (hbx.trans ((below_later _ _).mono (by omega)))))|(go_at_call 94;exact later_call (HWT.out _ (hbx.trans ((below_later _ _).mono (by omega))))))))
        refine wpQuiet_nil ?_
        intro _ hw'
        obtain ⟨pq,hw''⟩:=hw'
        subst hw''
        go_wp2_with fail
        go_ret
        exact ⟨ret_bool (by rw [HR.out];simp),hbx.trans ((below_later _ _).mono (by omega))⟩
      |true=>
      by_cases hd:c.pl+1+dp≤16
      case neg=>
        have hdI:¬((c.pl:Int)+1+(dp:Int)≤16):=by omega
        have hdB:decide ((c.pl:Int)+1+(dp:Int)≤16)=false:=by simpa using hdI
        refine wp_region_later (by kernel_rfl) (by kernel_rfl) ?_
        repeat (go_big_quiet_step ((first|(go_at_call 92;exact later_call (HSD.out _ (hbx.trans ((below_later _ _).mono (by omega)))))|(go_at_call 93;exact later_call (HDP.out _ (hbx.trans ((below_later _ _).mono (by omega)))))|(go_at_call 94;exact later_call (HWT.out _ (hbx.trans ((below_later _ _).mono (by omega))))))))
        refine wpQuiet_nil ?_
        intro _ hw'
        obtain ⟨pq,hw''⟩:=hw'
        subst hw''
        go_wp2_with fail
        go_ret
        exact ⟨ret_bool (by rw [HR.out];simp [hd]),hbx.trans ((below_later _ _).mono (by omega))⟩
      have hdI:(c.pl:Int)+1+(dp:Int)≤16:=by omega
      have hdB:decide ((c.pl:Int)+1+(dp:Int)≤16)=true:=by simpa using hdI
      refine wp_region_later (by kernel_rfl) (by kernel_rfl) ?_
      repeat (go_big_quiet_step ((first|(go_at_call 92;exact later_call (HSD.out _ (hbx.trans ((below_later _ _).mono (by omega)))))|(go_at_call 93;exact later_call (HDP.out _ (hbx.trans ((below_later _ _).mono (by omega)))))|(go_at_call 94;exact later_call (HWT.out _ (hbx.trans ((below_later _ _).mono (by omega))))))))
      refine wpQuiet_nil ?_
      intro _ hw'
      obtain ⟨pq,hw''⟩:=hw'
      subst hw''
      go_wp2_with fail
      go_ret
      exact ⟨ret_bool (by rw [HR.out];simp [*];try omega),hbx.trans ((below_later _ _).mono (by omega))⟩
end Go.Proofs.YthceefjafklcmaaGreatDoor
