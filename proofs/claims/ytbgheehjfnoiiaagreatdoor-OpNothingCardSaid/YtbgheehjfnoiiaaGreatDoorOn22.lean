/-
  Contracts of the functions that the law reaches: comp.Sound. conciliatorref06.Sound, by.
-/
import Derived.Test.YtbgheehjfnoiiaaGreatDoorOn18
import Derived.Test.YtbgheehjfnoiiaaGreatDoorOn21
namespace Go.Proofs.YtbgheehjfnoiiaaGreatDoor
open Go.RowKit
set_option maxHeartbeats 8000000
noncomputable def cmSound (x:Cm):Bool:=
 kIs x.k && eqB x.bare ⟨x.k,x.path, .empty,0,0,0,V.none, .empty⟩ && pathSound x.path && Lib.validD x.key.data.toList && Lib.validD x.s.data.toList &&
 decide (0<=x.i) && decide (0<=x.j) && !(x.k==8 && x.s.toList.isEmpty) && !(x.k==9 && decide (x.n<1)) &&
 x.v.sound && decide (x.path.length+1+x.v.deep<=16) && decide (x.v.weight<=20000)
structure Boxed1C (w W:World) (c:CC):Prop where
 at_:CompAt W w.heap.size 0 c
 below:Below w.heap.size w W
 size:w.heap.size+1<=W.heap.size
theorem Boxed1C.step {w W W':World} {c:CC} (h:Boxed1C w W c) (hb:uB W W'):Boxed1C w W' c:=
 ⟨h.at_.keep hb (by have:=h.size;omega),h.below.trans (hb.mono (by have:=h.size;omega)),by have:=h.size;have:=hb.size;omega⟩
theorem Yk (w:World) (c:CC) (t:TypeId):Boxed1C w (w.alloc (.cells #[.int .u8 c.k, .slice c.pa c.pl c.pc, .string c.key, .int .i64 c.i, .int .i64 c.j, .int .i64 c.n, .int .u8 c.v.k, .int .i64 c.v.n, .string c.v.s, .slice c.v.la c.v.ll c.v.lc, .slice c.v.oa c.v.ol c.v.oc, .string c.s] t)) c:=
 ⟨⟨Zq _ _ _ _ _ rfl,Zq _ _ _ _ _ rfl,Zq _ _ _ _ _ rfl,Zq _ _ _ _ _ rfl,Zq _ _ _ _ _ rfl,Zq _ _ _ _ _ rfl,⟨Zq _ _ _ _ _ rfl,Zq _ _ _ _ _ rfl,Zq _ _ _ _ _ rfl,Zq _ _ _ _ _ rfl,Zq _ _ _ _ _ rfl⟩,Zq _ _ _ _ _ rfl⟩,(Below.refl _ _).alloc (Nat.le_refl _) _,by simp⟩
def Behind (w:World) (f:FuncId) (args:Array Value) (v:Value):Prop:=∀W,Below w.heap.size w W->Calls Tryz.prog f args W fun e w'=>e= .returned v/\Below W.heap.size W w'
theorem Behind.at_ {w W:World} {f:FuncId} {args:Array Value} {v:Value} (h:Behind w f args v) (hW:uB w W):uP f args W fun e w'=>e= .returned v/\uB W w':=h W hW
set_option maxRecDepth 100000 in
theorem zeo (x:Cm) (w:World) (hT:Tabs w) (c:CC) (hx:IsComp w w.heap.size x c) (hw:x.v.weight<=4611686018427387904):
 uP 54 #[.agg (uC c)] w fun e w'=>e= .returned (.bool (cmSound x))/\uB w w':=by
 delta uC uB uP
 have hbare:=hx.bare
 cases hx with
 |mk c p v hb hp hv=>
 dsimp only [Cm.bare] at hbare
 dsimp only at hw
 have HBARE:Hid (∀W,uB w W->uP 96 #[.agg (uC c)] W fun e w'=>(∃d:CC,e= .returned (.tuple #[.agg #[.int .u8 d.k, .slice d.pa d.pl d.pc, .string d.key, .int .i64 d.i, .int .i64 d.j, .int .i64 d.n, .int .u8 d.v.k, .int .i64 d.v.n, .string d.v.s, .slice d.v.la d.v.ll d.v.lc, .slice d.v.oa d.v.ol d.v.oc, .string d.s], .bool (kIs c.k)])/\Hid (d=c.bare))/\uB W w'):=fun W _=>ziz c W hb
 obtain ⟨sm,hsm⟩:∃sm,eqB (Cm.bare ⟨c.k,p,c.key,c.i,c.j,c.n,v,c.s⟩) ⟨c.k,p, .empty,0,0,0,V.none, .empty⟩=sm:=⟨_,rfl⟩
 have HSAME:Hid (∀d:CC,Hid (d=c.bare)->Behind w 97 #[.agg #[.int .u8 d.k, .slice d.pa d.pl d.pc, .string d.key, .int .i64 d.i, .int .i64 d.j, .int .i64 d.n, .int .u8 d.v.k, .int .i64 d.v.n, .string d.v.s, .slice d.v.la d.v.ll d.v.lc, .slice d.v.oa d.v.ol d.v.oc, .string d.s], .agg #[.int .u8 c.k, .slice c.pa c.pl c.pc, .string { data:= #[] }, .int .i64 0, .int .i64 0, .int .i64 0, .int .u8 0, .int .i64 0, .string { data:= #[] }, .slice none 0 0, .slice none 0 0, .string { data:= #[] }]] (.bool sm)):=by
  intro d hd W hW
  obtain rfl:=hd.out
  rw [<-hsm]
  exact zkk _ _ W c.bare ⟨c.k,c.pa,c.pl,c.pc, .empty,0,0,0,VC.none, .empty⟩ (hbare.later_ hW) (IsComp.later_ hW (.mk ⟨c.k,c.pa,c.pl,c.pc, .empty,0,0,0,VC.none, .empty⟩ p V.none ⟨hb.k0,hb.k1,by show (-9223372036854775808:Int)<=0;decide,by show (0:Int)<=9223372036854775807;decide,by show (-9223372036854775808:Int)<=0;decide,by show (0:Int)<=9223372036854775807;decide,by show (-9223372036854775808:Int)<=0;decide,by show (0:Int)<=9223372036854775807;decide,by show 0<=140737488355328;decide,by show 0<=140737488355328;decide⟩ hp (Zw _ _)))
 obtain ⟨kn,hkn⟩:∃kn,kIs c.k=kn:=⟨_,rfl⟩
 obtain ⟨ps,hps⟩:∃ps,pathSound p=ps:=⟨_,rfl⟩
 obtain ⟨vk,hvk⟩:∃vk,Lib.validD c.key.data.toList=vk:=⟨_,rfl⟩
 obtain ⟨vs,hvs⟩:∃vs,Lib.validD c.s.data.toList=vs:=⟨_,rfl⟩
 obtain ⟨be,hbe⟩:∃be,c.s.toList.isEmpty=be:=⟨_,rfl⟩
 obtain ⟨sd,hsd⟩:∃sd,v.sound=sd:=⟨_,rfl⟩
 obtain ⟨dp,hdp⟩:∃dp,v.deep=dp:=⟨_,rfl⟩
 obtain ⟨wt,hwt⟩:∃wt,v.weight=wt:=⟨_,rfl⟩
 have HPS:Hid (Behind w 98 #[.slice c.pa c.pl c.pc] (.bool ps)):=fun W hW=>by rw [<-hps];exact zfl p W (hT.below hW) _ _ _ (hp.later_ hW)
 have HVK:Hid (Behind w 99 #[.string c.key] (.bool vk)):=fun W hW=>by rw [<-hvk];exact Yd c.key W hb.key1 (hT.below hW)
 have HVS:Hid (Behind w 99 #[.string c.s] (.bool vs)):=fun W hW=>by rw [<-hvs];exact Yd c.s W hb.s1 (hT.below hW)
 have HSD:Hid (Behind w 100 #[.agg #[.int .u8 c.v.k, .int .i64 c.v.n, .string c.v.s, .slice c.v.la c.v.ll c.v.lc, .slice c.v.oa c.v.ol c.v.oc]] (.bool sd)):=fun W hW=>by rw [<-hsd];exact zl0 v W c.v (hv.later_ hW) (hT.below hW)
 have HDP:Hid (Behind w 101 #[.agg #[.int .u8 c.v.k, .int .i64 c.v.n, .string c.v.s, .slice c.v.la c.v.ll c.v.lc, .slice c.v.oa c.v.ol c.v.oc]] (.int .i64 dp)):=fun W hW=>by rw [<-hdp];exact zed v hw W c.v (hv.later_ hW)
 have HWT:Hid (Behind w 102 #[.agg #[.int .u8 c.v.k, .int .i64 c.v.n, .string c.v.s, .slice c.v.la c.v.ll c.v.lc, .slice c.v.oa c.v.ol c.v.oc]] (.int .i64 wt)):=fun W hW=>by rw [<-hwt];exact zha v hw W c.v (hv.later_ hW)
 have f0:(c.s.toList== [])=be:=by rw [<-hbe];cases c.s.toList<;>rfl
 have k1:=hp.few;have k2:=hp.max;have k3:=hp.cap
 have k4:wt<=4611686018427387904:=by omega
 have k5:dp<=4611686018427387904:=by have:=v.deep_lt;omega
 obtain ⟨R,hR⟩:∃R,cmSound ⟨c.k,p,c.key,c.i,c.j,c.n,v,c.s⟩=R:=⟨_,rfl⟩
 have hR2:R=(kn && sm && ps && vk && vs && decide (0<=c.i) && decide (0<=c.j) && !(c.k==8 && be) && !(c.k==9 && decide (c.n<1)) && sd && decide (c.pl+1+dp<=16) && decide (wt<=20000)):=by
  rw [<-hR];simp only [cmSound];rw [hsm,hkn,hps,hvk,hvs,hbe,hsd,hdp,hwt,hp.len]
 rw [hR]
 rw [hkn] at HBARE
 have HR:=qh hR2
 have bx:=Yk w c 54
 clear hbare hsm hkn hps hvk hvs hbe hsd hdp hwt hR hR2 hb hp hv hw hT
 go_enter Tryz.func54,Tryz.ntmps54
 cases kn with
 |false=>go_wp2_with (go_at_call 96;refine (HBARE.out _ (by have:=bx.below;have:=bx.size;go_grown)).mono ?_;rintro e w1 ⟨⟨d,rfl,hd⟩,hb1⟩;replace bx:=(bx.step (by go_grown)).step hb1;have zs:w.heap.size<w1.heap.size:=bx.size;have z0:=bx.at_.c0;have z1:=bx.at_.c1);go_ret;exact ⟨Zc (by rw [HR.out];first|(simp [*];done)|(simp [*];intros;omega)),by have:=bx.below;have:=bx.size;go_grown⟩
 |true=>
 go_wp2_with (go_at_call 96;refine (HBARE.out _ (by have:=bx.below;have:=bx.size;go_grown)).mono ?_;rintro e w1 ⟨⟨d,rfl,hd⟩,hb1⟩;replace bx:=(bx.step (by go_grown)).step hb1;have zs:w.heap.size<w1.heap.size:=bx.size;have z0:=bx.at_.c0;have z1:=bx.at_.c1)
 cases sm with
 |false=>go_wp2_with (go_at_call 97;(with_reducible refine (Behind.at_ (HSAME.out d hd) ?_).mono ?_);(focus (have:=bx.below;have:=bx.size;go_grown));rintro e w1 ⟨rfl,hb1⟩;replace bx:=(bx.step (by go_grown)).step hb1;have zs:w.heap.size<w1.heap.size:=bx.size;have z0:=bx.at_.c0;have z1:=bx.at_.c1;have z2:=bx.at_.c2;have z3:=bx.at_.c3;have z4:=bx.at_.c4;have z5:=bx.at_.c5;have z6:=bx.at_.c11);go_ret;exact ⟨Zc (by rw [HR.out];first|(simp [*];done)|(simp [*];intros;omega)),by have:=bx.below;have:=bx.size;go_grown⟩
 |true=>
 go_wp2_with (go_at_call 97;(with_reducible refine (Behind.at_ (HSAME.out d hd) ?_).mono ?_);(focus (have:=bx.below;have:=bx.size;go_grown));rintro e w1 ⟨rfl,hb1⟩;replace bx:=(bx.step (by go_grown)).step hb1;have zs:w.heap.size<w1.heap.size:=bx.size;have z0:=bx.at_.c0;have z1:=bx.at_.c1;have z2:=bx.at_.c2;have z3:=bx.at_.c3;have z4:=bx.at_.c4;have z5:=bx.at_.c5;have z6:=bx.at_.c11)
 cases ps with
 |false=>go_wp2_with (go_at_call 98;(with_reducible refine (Behind.at_ (HPS.out) ?_).mono ?_);(focus (have:=bx.below;have:=bx.size;go_grown));rintro e w1 ⟨rfl,hb1⟩;replace bx:=(bx.step (by go_grown)).step hb1;have zs:w.heap.size<w1.heap.size:=bx.size;have z0:=bx.at_.c0;have z1:=bx.at_.c1;have z2:=bx.at_.c2;have z3:=bx.at_.c3;have z4:=bx.at_.c4;have z5:=bx.at_.c5;have z6:=bx.at_.c11);go_ret;exact ⟨Zc (by rw [HR.out];first|(simp [*];done)|(simp [*];intros;omega)),by have:=bx.below;have:=bx.size;go_grown⟩
 |true=>
 go_wp2_with (go_at_call 98;(with_reducible refine (Behind.at_ (HPS.out) ?_).mono ?_);(focus (have:=bx.below;have:=bx.size;go_grown));rintro e w1 ⟨rfl,hb1⟩;replace bx:=(bx.step (by go_grown)).step hb1;have zs:w.heap.size<w1.heap.size:=bx.size;have z0:=bx.at_.c0;have z1:=bx.at_.c1;have z2:=bx.at_.c2;have z3:=bx.at_.c3;have z4:=bx.at_.c4;have z5:=bx.at_.c5;have z6:=bx.at_.c11)
 cases vk with
 |false=>go_wp2_with (go_at_call 99;(with_reducible refine (Behind.at_ (HVK.out) ?_).mono ?_);(focus (have:=bx.below;have:=bx.size;go_grown));rintro e w1 ⟨rfl,hb1⟩;replace bx:=(bx.step (by go_grown)).step hb1;have zs:w.heap.size<w1.heap.size:=bx.size;have z0:=bx.at_.c0;have z1:=bx.at_.c1;have z2:=bx.at_.c2;have z3:=bx.at_.c3;have z4:=bx.at_.c4;have z5:=bx.at_.c5;have z6:=bx.at_.c11);go_ret;exact ⟨Zc (by rw [HR.out];first|(simp [*];done)|(simp [*];intros;omega)),by have:=bx.below;have:=bx.size;go_grown⟩
 |true=>
 go_wp2_with (go_at_call 99;(with_reducible refine (Behind.at_ (HVK.out) ?_).mono ?_);(focus (have:=bx.below;have:=bx.size;go_grown));rintro e w1 ⟨rfl,hb1⟩;replace bx:=(bx.step (by go_grown)).step hb1;have zs:w.heap.size<w1.heap.size:=bx.size;have z0:=bx.at_.c0;have z1:=bx.at_.c1;have z2:=bx.at_.c2;have z3:=bx.at_.c3;have z4:=bx.at_.c4;have z5:=bx.at_.c5;have z6:=bx.at_.c11)
 cases vs with
 |false=>go_wp2_with (go_at_call 99;(with_reducible refine (Behind.at_ (HVS.out) ?_).mono ?_);(focus (have:=bx.below;have:=bx.size;go_grown));rintro e w1 ⟨rfl,hb1⟩;replace bx:=(bx.step (by go_grown)).step hb1;have zs:w.heap.size<w1.heap.size:=bx.size;have z0:=bx.at_.c0;have z1:=bx.at_.c1;have z2:=bx.at_.c2;have z3:=bx.at_.c3;have z4:=bx.at_.c4;have z5:=bx.at_.c5;have z6:=bx.at_.c11);go_ret;exact ⟨Zc (by rw [HR.out];first|(simp [*];done)|(simp [*];intros;omega)),by have:=bx.below;have:=bx.size;go_grown⟩
 |true=>
 by_cases hi:c.i<0
 .go_wp2_with (go_at_call 99;(with_reducible refine (Behind.at_ (HVS.out) ?_).mono ?_);(focus (have:=bx.below;have:=bx.size;go_grown));rintro e w1 ⟨rfl,hb1⟩;replace bx:=(bx.step (by go_grown)).step hb1;have zs:w.heap.size<w1.heap.size:=bx.size;have z0:=bx.at_.c0;have z1:=bx.at_.c1;have z2:=bx.at_.c2;have z3:=bx.at_.c3;have z4:=bx.at_.c4;have z5:=bx.at_.c5;have z6:=bx.at_.c11);go_ret;exact ⟨Zc (by rw [HR.out];first|(simp [*];done)|(simp [*];intros;omega)),by have:=bx.below;have:=bx.size;go_grown⟩
 by_cases hj:c.j<0
 .go_wp2_with (go_at_call 99;(with_reducible refine (Behind.at_ (HVS.out) ?_).mono ?_);(focus (have:=bx.below;have:=bx.size;go_grown));rintro e w1 ⟨rfl,hb1⟩;replace bx:=(bx.step (by go_grown)).step hb1;have zs:w.heap.size<w1.heap.size:=bx.size;have z0:=bx.at_.c0;have z1:=bx.at_.c1;have z2:=bx.at_.c2;have z3:=bx.at_.c3;have z4:=bx.at_.c4;have z5:=bx.at_.c5;have z6:=bx.at_.c11);go_ret;exact ⟨Zc (by rw [HR.out];first|(simp [*];done)|(simp [*];intros;omega)),by have:=bx.below;have:=bx.size;go_grown⟩
 by_cases e8:c.k=8
 case pos=>
  have f8:(c.k==8)=true:=by simp [e8]
  have f9:(c.k==9)=false:=by simp [e8]
  clear e8
  cases be with
  |true=>go_wp2_with (go_at_call 99;(with_reducible refine (Behind.at_ (HVS.out) ?_).mono ?_);(focus (have:=bx.below;have:=bx.size;go_grown));rintro e w1 ⟨rfl,hb1⟩;replace bx:=(bx.step (by go_grown)).step hb1;have zs:w.heap.size<w1.heap.size:=bx.size;have z0:=bx.at_.c0;have z1:=bx.at_.c1;have z2:=bx.at_.c2;have z3:=bx.at_.c3;have z4:=bx.at_.c4;have z5:=bx.at_.c5;have z6:=bx.at_.c11);go_ret;exact ⟨Zc (by rw [HR.out];first|(simp [*];done)|(simp [*];intros;omega)),by have:=bx.below;have:=bx.size;go_grown⟩
  |false=>
  go_wp2_with (go_at_call 99;(with_reducible refine (Behind.at_ (HVS.out) ?_).mono ?_);(focus (have:=bx.below;have:=bx.size;go_grown));rintro e w1 ⟨rfl,hb1⟩;replace bx:=(bx.step (by go_grown)).step hb1;have zs:w.heap.size<w1.heap.size:=bx.size;have z0:=bx.at_.c0;have z1:=bx.at_.c1;have z2:=bx.at_.c2;have z3:=bx.at_.c3;have z4:=bx.at_.c4;have z5:=bx.at_.c5;have z6:=bx.at_.c11)
  have a0:=Za bx.at_.c6.c0;have a1:=Za bx.at_.c6.c1;have a2:=Za bx.at_.c6.c2;have a3:=Za bx.at_.c6.c3;have a4:=Za bx.at_.c6.c4;have a5:=Za bx.at_.c1
  have hbx:=bx.below
  have hbs:=bx.size
  cases sd with
  | false=>
    refine Zh (by kernel_rfl) (by kernel_rfl) ?_
    repeat (go_big_quiet_step ((first|(go_at_call 100;exact Zg (HSD.out _ (hbx.trans ((Zd _ _).mono (by omega)))))|(go_at_call 101;exact Zg (HDP.out _ (hbx.trans ((Zd _ _).mono (by omega)))))|(go_at_call 102;exact Zg (HWT.out _ (hbx.trans ((Zd _ _).mono (by omega))))))))
    refine wpQuiet_nil ?_
    intro _ hw'
    obtain ⟨pq,hw''⟩:=hw'
    subst hw''
    go_wp2_with fail
    go_ret
    exact ⟨Zc (by rw [HR.out];simp),hbx.trans ((Zd _ _).mono (by omega))⟩
  |true=>
  by_cases hd:c.pl+1+dp<=16
  case neg=>
   have hdI:¬((c.pl:Int)+1+(dp:Int)<=16):=by omega
   have hdB:decide ((c.pl:Int)+1+(dp:Int)<=16)=false:=by simpa using hdI
   refine Zh (by kernel_rfl) (by kernel_rfl) ?_
   repeat (go_big_quiet_step ((first|(go_at_call 100;exact Zg (HSD.out _ (hbx.trans ((Zd _ _).mono (by omega)))))|(go_at_call 101;exact Zg (HDP.out _ (hbx.trans ((Zd _ _).mono (by omega)))))|(go_at_call 102;exact Zg (HWT.out _ (hbx.trans ((Zd _ _).mono (by omega))))))))
   refine wpQuiet_nil ?_
   intro _ hw'
   obtain ⟨pq,hw''⟩:=hw'
   subst hw''
   go_wp2_with fail
   go_ret
   exact ⟨Zc (by rw [HR.out];simp [hd]),hbx.trans ((Zd _ _).mono (by omega))⟩
  have hdI:(c.pl:Int)+1+(dp:Int)<=16:=by omega
  have hdB:decide ((c.pl:Int)+1+(dp:Int)<=16)=true:=by simpa using hdI
  refine Zh (by kernel_rfl) (by kernel_rfl) ?_
  repeat (go_big_quiet_step ((first|(go_at_call 100;exact Zg (HSD.out _ (hbx.trans ((Zd _ _).mono (by omega)))))|(go_at_call 101;exact Zg (HDP.out _ (hbx.trans ((Zd _ _).mono (by omega)))))|(go_at_call 102;exact Zg (HWT.out _ (hbx.trans ((Zd _ _).mono (by omega))))))))
  refine wpQuiet_nil ?_
  intro _ hw'
  obtain ⟨pq,hw''⟩:=hw'
  subst hw''
  go_wp2_with fail
  go_ret
  exact ⟨Zc (by rw [HR.out];simp [*];try omega),hbx.trans ((Zd _ _).mono (by omega))⟩
 case neg=>
  have f8:(c.k==8)=false:=by simp [e8]
  clear e8
  by_cases e9:c.k=9
  case pos=>
   have f9:(c.k==9)=true:=by simp [e9]
   clear e9
   by_cases hn:c.n<1
   .go_wp2_with (go_at_call 99;(with_reducible refine (Behind.at_ (HVS.out) ?_).mono ?_);(focus (have:=bx.below;have:=bx.size;go_grown));rintro e w1 ⟨rfl,hb1⟩;replace bx:=(bx.step (by go_grown)).step hb1;have zs:w.heap.size<w1.heap.size:=bx.size;have z0:=bx.at_.c0;have z1:=bx.at_.c1;have z2:=bx.at_.c2;have z3:=bx.at_.c3;have z4:=bx.at_.c4;have z5:=bx.at_.c5;have z6:=bx.at_.c11);go_ret;exact ⟨Zc (by rw [HR.out];first|(simp [*];done)|(simp [*];intros;omega)),by have:=bx.below;have:=bx.size;go_grown⟩
   have hn2:decide (c.n<1)=false:=by simpa using hn
   go_wp2_with (go_at_call 99;(with_reducible refine (Behind.at_ (HVS.out) ?_).mono ?_);(focus (have:=bx.below;have:=bx.size;go_grown));rintro e w1 ⟨rfl,hb1⟩;replace bx:=(bx.step (by go_grown)).step hb1;have zs:w.heap.size<w1.heap.size:=bx.size;have z0:=bx.at_.c0;have z1:=bx.at_.c1;have z2:=bx.at_.c2;have z3:=bx.at_.c3;have z4:=bx.at_.c4;have z5:=bx.at_.c5;have z6:=bx.at_.c11)
   have a0:=Za bx.at_.c6.c0;have a1:=Za bx.at_.c6.c1;have a2:=Za bx.at_.c6.c2;have a3:=Za bx.at_.c6.c3;have a4:=Za bx.at_.c6.c4;have a5:=Za bx.at_.c1
   have hbx:=bx.below
   have hbs:=bx.size
   cases sd with
   | false=>
     refine Zh (by kernel_rfl) (by kernel_rfl) ?_
     repeat (go_big_quiet_step ((first|(go_at_call 100;exact Zg (HSD.out _ (hbx.trans ((Zd _ _).mono (by omega)))))|(go_at_call 101;exact Zg (HDP.out _ (hbx.trans ((Zd _ _).mono (by omega)))))|(go_at_call 102;exact Zg (HWT.out _ (hbx.trans ((Zd _ _).mono (by omega))))))))
     refine wpQuiet_nil ?_
     intro _ hw'
     obtain ⟨pq,hw''⟩:=hw'
     subst hw''
     go_wp2_with fail
     go_ret
     exact ⟨Zc (by rw [HR.out];simp),hbx.trans ((Zd _ _).mono (by omega))⟩
   |true=>
   by_cases hd:c.pl+1+dp<=16
   case neg=>
    have hdI:¬((c.pl:Int)+1+(dp:Int)<=16):=by omega
    have hdB:decide ((c.pl:Int)+1+(dp:Int)<=16)=false:=by simpa using hdI
    refine Zh (by kernel_rfl) (by kernel_rfl) ?_
    repeat (go_big_quiet_step ((first|(go_at_call 100;exact Zg (HSD.out _ (hbx.trans ((Zd _ _).mono (by omega)))))|(go_at_call 101;exact Zg (HDP.out _ (hbx.trans ((Zd _ _).mono (by omega)))))|(go_at_call 102;exact Zg (HWT.out _ (hbx.trans ((Zd _ _).mono (by omega))))))))
    refine wpQuiet_nil ?_
    intro _ hw'
    obtain ⟨pq,hw''⟩:=hw'
    subst hw''
    go_wp2_with fail
    go_ret
    exact ⟨Zc (by rw [HR.out];simp [hd]),hbx.trans ((Zd _ _).mono (by omega))⟩
   have hdI:(c.pl:Int)+1+(dp:Int)<=16:=by omega
   have hdB:decide ((c.pl:Int)+1+(dp:Int)<=16)=true:=by simpa using hdI
   refine Zh (by kernel_rfl) (by kernel_rfl) ?_
   repeat (go_big_quiet_step ((first|(go_at_call 100;exact Zg (HSD.out _ (hbx.trans ((Zd _ _).mono (by omega)))))|(go_at_call 101;exact Zg (HDP.out _ (hbx.trans ((Zd _ _).mono (by omega)))))|(go_at_call 102;exact Zg (HWT.out _ (hbx.trans ((Zd _ _).mono (by omega))))))))
   refine wpQuiet_nil ?_
   intro _ hw'
   obtain ⟨pq,hw''⟩:=hw'
   subst hw''
   go_wp2_with fail
   go_ret
   exact ⟨Zc (by rw [HR.out];simp [*];try omega),hbx.trans ((Zd _ _).mono (by omega))⟩
  case neg=>
   have f9:(c.k==9)=false:=by simp [e9]
   clear e9
   go_wp2_with (go_at_call 99;(with_reducible refine (Behind.at_ (HVS.out) ?_).mono ?_);(focus (have:=bx.below;have:=bx.size;go_grown));rintro e w1 ⟨rfl,hb1⟩;replace bx:=(bx.step (by go_grown)).step hb1;have zs:w.heap.size<w1.heap.size:=bx.size;have z0:=bx.at_.c0;have z1:=bx.at_.c1;have z2:=bx.at_.c2;have z3:=bx.at_.c3;have z4:=bx.at_.c4;have z5:=bx.at_.c5;have z6:=bx.at_.c11)
   have a0:=Za bx.at_.c6.c0;have a1:=Za bx.at_.c6.c1;have a2:=Za bx.at_.c6.c2;have a3:=Za bx.at_.c6.c3;have a4:=Za bx.at_.c6.c4;have a5:=Za bx.at_.c1
   have hbx:=bx.below
   have hbs:=bx.size
   cases sd with
   | false=>
     refine Zh (by kernel_rfl) (by kernel_rfl) ?_
     repeat (go_big_quiet_step ((first|(go_at_call 100;exact Zg (HSD.out _ (hbx.trans ((Zd _ _).mono (by omega)))))|(go_at_call 101;exact Zg (HDP.out _ (hbx.trans ((Zd _ _).mono (by omega)))))|(go_at_call 102;exact Zg (HWT.out _ (hbx.trans ((Zd _ _).mono (by omega))))))))
     refine wpQuiet_nil ?_
     intro _ hw'
     obtain ⟨pq,hw''⟩:=hw'
     subst hw''
     go_wp2_with fail
     go_ret
     exact ⟨Zc (by rw [HR.out];simp),hbx.trans ((Zd _ _).mono (by omega))⟩
   |true=>
   by_cases hd:c.pl+1+dp<=16
   case neg=>
    have hdI:¬((c.pl:Int)+1+(dp:Int)<=16):=by omega
    have hdB:decide ((c.pl:Int)+1+(dp:Int)<=16)=false:=by simpa using hdI
    refine Zh (by kernel_rfl) (by kernel_rfl) ?_
    repeat (go_big_quiet_step ((first|(go_at_call 100;exact Zg (HSD.out _ (hbx.trans ((Zd _ _).mono (by omega)))))|(go_at_call 101;exact Zg (HDP.out _ (hbx.trans ((Zd _ _).mono (by omega)))))|(go_at_call 102;exact Zg (HWT.out _ (hbx.trans ((Zd _ _).mono (by omega))))))))
    refine wpQuiet_nil ?_
    intro _ hw'
    obtain ⟨pq,hw''⟩:=hw'
    subst hw''
    go_wp2_with fail
    go_ret
    exact ⟨Zc (by rw [HR.out];simp [hd]),hbx.trans ((Zd _ _).mono (by omega))⟩
   have hdI:(c.pl:Int)+1+(dp:Int)<=16:=by omega
   have hdB:decide ((c.pl:Int)+1+(dp:Int)<=16)=true:=by simpa using hdI
   refine Zh (by kernel_rfl) (by kernel_rfl) ?_
   repeat (go_big_quiet_step ((first|(go_at_call 100;exact Zg (HSD.out _ (hbx.trans ((Zd _ _).mono (by omega)))))|(go_at_call 101;exact Zg (HDP.out _ (hbx.trans ((Zd _ _).mono (by omega)))))|(go_at_call 102;exact Zg (HWT.out _ (hbx.trans ((Zd _ _).mono (by omega))))))))
   refine wpQuiet_nil ?_
   intro _ hw'
   obtain ⟨pq,hw''⟩:=hw'
   subst hw''
   go_wp2_with fail
   go_ret
   exact ⟨Zc (by rw [HR.out];simp [*];try omega),hbx.trans ((Zd _ _).mono (by omega))⟩
theorem zas:ByteArray.empty.toList= [] :=by rw [ByteArray.toList_eq];rfl
theorem zgs {s:ByteArray} :s.toList= [] ↔s= .empty:=by
 constructor
 .intro h;exact Y8 (by rw [h,zas])
 .intro h;rw [h,zas]
theorem zi0 (x:Cm):eqB x.bare ⟨x.k,x.path, .empty,0,0,0,V.none, .empty⟩=
 ((kKey x.k||(x.key.toList== [])) && (kI x.k||(x.i==0)) && (kJ x.k||(x.j==0)) && (kN x.k||(x.n==0)) && (kS x.k||(x.s.toList== [])) && (kV x.k||eqv x.v V.none)):=by
 apply Bool.eq_iff_iff.2
 simp only [Bool.and_eq_true,Bool.or_eq_true,beq_iff_eq,zgs]
 constructor
 .intro h
  have h:=Qi h
  simp only [Cm.bare] at h
  injection h with _ _ h1 h2 h3 h4 h5 h6
  refine ⟨⟨⟨⟨⟨?_, ?_⟩, ?_⟩, ?_⟩, ?_⟩, ?_⟩
  .by_cases e:kKey x.k=true
   .exact .inl e
   .exact .inr (by simpa [e] using h1)
  .by_cases e:kI x.k=true
   .exact .inl e
   .exact .inr (by simpa [e] using h2)
  .by_cases e:kJ x.k=true
   .exact .inl e
   .exact .inr (by simpa [e] using h3)
  .by_cases e:kN x.k=true
   .exact .inl e
   .exact .inr (by simpa [e] using h4)
  .by_cases e:kS x.k=true
   .exact .inl e
   .exact .inr (by simpa [e] using h6)
  .by_cases e:kV x.k=true
   .exact .inl e
   .exact .inr (Jc (by simpa [e] using h5))
 .rintro ⟨⟨⟨⟨⟨h1,h2⟩,h3⟩,h4⟩,h5⟩,h6⟩
  apply Z8
  simp only [Cm.bare]
  congr 1
  .rcases h1 with e|e<;>simp [e]
  .rcases h2 with e|e<;>simp [e]
  .rcases h3 with e|e<;>simp [e]
  .rcases h4 with e|e<;>simp [e]
  .rcases h6 with e|e
   .simp [e]
   .simp [X1 e]
  .rcases h5 with e|e<;>simp [e]
def sndB (kn fK fI fJ fN fS fV bk i0 j0 n0 be vn ps vk vs i1 j1 k8 k9 sd dp wt:Bool):Bool:=
 kn && ((fK||bk) && (fI||i0) && (fJ||j0) && (fN||n0) && (fS||be) && (fV||vn)) && ps && vk && vs && i1 && j1 && !k8 && !k9 && sd && dp && wt
theorem zfe (x:Cm):cmSound x=sndB (kIs x.k) (kKey x.k) (kI x.k) (kJ x.k) (kN x.k) (kS x.k) (kV x.k) (x.key.toList== []) (x.i==0) (x.j==0) (x.n==0) (x.s.toList== []) (eqv x.v V.none)
 (pathSound x.path) (Lib.validD x.key.data.toList) (Lib.validD x.s.data.toList) (decide (0<=x.i)) (decide (0<=x.j)) (x.k==8 && (x.s.toList== [])) (x.k==9 && decide (x.n<1)) x.v.sound (decide (x.path.length+1+x.v.deep<=16)) (decide (x.v.weight<=20000)):=by
 unfold cmSound sndB
 rw [zi0]
 have:x.s.toList.isEmpty=(x.s.toList== []):=by cases x.s.toList<;>rfl
 rw [this]
theorem bcT (b:Bool) {P:Prop} (h:P):b=false∨b=true/\P:=by cases b;exact .inl rfl;exact .inr ⟨rfl,h⟩
theorem bcF (b:Bool) {P:Prop} (h:P):b=true∨b=false/\P:=by cases b;exact .inr ⟨rfl,h⟩;exact .inl rfl
theorem bcP (p:Prop) [Decidable p] {P:Prop} (h:P):p∨¬p/\P:=by by_cases q:p;exact .inl q;exact .inr ⟨q,h⟩
theorem Yy (a b:Nat):(¬(a+1+b<=16)/\¬((a:Int)+1+(b:Int)<=16)/\decide ((a:Int)+1+(b:Int)<=16)=false)∨(a+1+b<=16/\((a:Int)+1+(b:Int)<=16)/\decide ((a:Int)+1+(b:Int)<=16)=true):=by
 by_cases h:a+1+b<=16
 .have h2:(a:Int)+1+(b:Int)<=16:=by omega
  exact .inr ⟨h,h2,by simpa using h2⟩
 .have h2:¬((a:Int)+1+(b:Int)<=16):=by omega
  exact .inl ⟨h,h2,by simpa using h2⟩
theorem Boxed1C.all {w W:World} {c:CC} (h:Boxed1C w W c):w.heap.size<W.heap.size/\W.cell? ⟨w.heap.size,0,none⟩=some (.int .u8 c.k)/\W.cell? ⟨w.heap.size,1,none⟩=some (.slice c.pa c.pl c.pc)/\W.cell? ⟨w.heap.size,2,none⟩=some (.string c.key)/\W.cell? ⟨w.heap.size,3,none⟩=some (.int .i64 c.i)/\W.cell? ⟨w.heap.size,4,none⟩=some (.int .i64 c.j)/\W.cell? ⟨w.heap.size,5,none⟩=some (.int .i64 c.n)/\W.cell? ⟨w.heap.size,11,none⟩=some (.string c.s)/\W.cell? ⟨w.heap.size,6,none⟩=some (.int .u8 c.v.k)/\W.cell? ⟨w.heap.size,7,none⟩=some (.int .i64 c.v.n)/\W.cell? ⟨w.heap.size,8,none⟩=some (.string c.v.s)/\W.cell? ⟨w.heap.size,9,none⟩=some (.slice c.v.la c.v.ll c.v.lc)/\W.cell? ⟨w.heap.size,10,none⟩=some (.slice c.v.oa c.v.ol c.v.oc):=⟨by have:=h.size;omega,h.at_.c0,h.at_.c1,h.at_.c2,h.at_.c3,h.at_.c4,h.at_.c5,h.at_.c11,h.at_.c6.c0,h.at_.c6.c1,h.at_.c6.c2,h.at_.c6.c3,h.at_.c6.c4⟩
structure SndH (w:World) (c:CC) (R ps vk vs bk be i0 j0 n0 vn sd:Bool) (dp wt:Nat):Prop where
 hbk:(c.key.toList== [])=bk
 hbe:(c.s.toList== [])=be
 hi0:(c.i !=0)=i0
 hj0:(c.j !=0)=j0
 hn0:(c.n !=0)=n0
 HPS:Hid (Behind w 145 #[.slice c.pa c.pl c.pc] (.bool ps))
 HVK:Hid (Behind w 99 #[.string c.key] (.bool vk))
 HVS:Hid (Behind w 99 #[.string c.s] (.bool vs))
 HVN:Hid (Behind w 17 #[.agg #[.int .u8 c.v.k, .int .i64 c.v.n, .string c.v.s, .slice c.v.la c.v.ll c.v.lc, .slice c.v.oa c.v.ol c.v.oc], .agg #[.int .u8 0, .int .i64 0, .string { data:= #[] }, .slice none 0 0, .slice none 0 0]] (.bool vn))
 HSD:Hid (Behind w 147 #[.agg #[.int .u8 c.v.k, .int .i64 c.v.n, .string c.v.s, .slice c.v.la c.v.ll c.v.lc, .slice c.v.oa c.v.ol c.v.oc]] (.bool sd))
 HDP:Hid (Behind w 148 #[.agg #[.int .u8 c.v.k, .int .i64 c.v.n, .string c.v.s, .slice c.v.la c.v.ll c.v.lc, .slice c.v.oa c.v.ol c.v.oc]] (.int .i64 dp))
 HWT:Hid (Behind w 149 #[.agg #[.int .u8 c.v.k, .int .i64 c.v.n, .string c.v.s, .slice c.v.la c.v.ll c.v.lc, .slice c.v.oa c.v.ol c.v.oc]] (.int .i64 wt))
 HSAYS:Hid (Behind w 144 #[.int .u8 c.k] (.string (saysB c.k)))
 k:(c.pl:Int)<=140737488355328/\wt<=4611686018427387904/\dp<=4611686018427387904
 hR2:R=sndB (kIs c.k) (kKey c.k) (kI c.k) (kJ c.k) (kN c.k) (kS c.k) (kV c.k) bk (!i0) (!j0) (!n0) be vn ps vk vs (decide (0<=c.i)) (decide (0<=c.j)) (c.k==8 && be) (c.k==9 && decide (c.n<1)) sd (decide (c.pl+1+dp<=16)) (decide (wt<=20000))
theorem zlp (x:Cm) (w:World) (hT:Tabs w) (c:CC) (hx:IsComp w w.heap.size x c) (hw:x.v.weight<=4611686018427387904):∃ps vk vs bk be i0 j0 n0 vn sd dp wt,SndH w c (cmSound x) ps vk vs bk be i0 j0 n0 vn sd dp wt:=by
 cases hx with
 |mk c p v hb hp hv=>
 dsimp only at hw
 refine ⟨_,_,_,_,_,_,_,_,_,_,_,_,rfl,rfl,rfl,rfl,rfl,fun W hW=>ze4 p W (hT.below hW) _ _ _ (hp.later_ hW),fun W hW=>Yd c.key W hb.key1 (hT.below hW),fun W hW=>Yd c.s W hb.s1 (hT.below hW),fun W hW=>J3 v V.none W c.v VC.none (hv.later_ hW) (Zw _ _),fun W hW=>zko v W c.v (hv.later_ hW) (hT.below hW),fun W hW=>zdq v W c.v (hv.later_ hW) hw,fun W hW=>zj1 v W c.v (hv.later_ hW) hw,fun W _=>zhp c.k W, ?_, ?_⟩
 .have k1:=hp.few;have k2:=hp.max;have k3:=hp.cap;have:=v.deep_lt;omega
 .rw [zfe];simp only [hp.len,bne,Bool.not_not]
set_option maxRecDepth 100000 in
theorem zhu (w:World) (c:CC) {R ps vk vs bk be i0 j0 n0 vn sd:Bool} {dp wt:Nat} (h:SndH w c R ps vk vs bk be i0 j0 n0 vn sd dp wt) (ek:kIs c.k=false):
 uP 106 #[.agg (uC c)] w fun e w'=>e= .returned (.bool R)/\uB w w':=by
 delta uC uB uP
 obtain ⟨hbk,hbe,hi0,hj0,hn0,HPS,HVK,HVS,HVN,HSD,HDP,HWT,HSAYS,⟨k1,k4,k5⟩,hR2⟩:=h
 have bx:=Yk w c 54
 have hR3:R=false:=by rw [hR2,ek];rfl
 have e1:saysB c.k= { data:= #[] } :=by
  simp only [kIs,Bool.and_eq_false_iff,decide_eq_false_iff_not] at ek
  unfold saysB
  repeat (first|rfl|rw [if_neg (by omega)])
 rw [e1] at HSAYS
 have HR:=qh hR3
 clear hR2 hR3 e1 ek
 go_enter Tryz.func106,Tryz.ntmps106
 go_wp2_with ((go_at_call 144;(with_reducible refine (Behind.at_ HSAYS.out ?_).mono ?_));(focus (have:=bx.below;have:=bx.size;go_grown));rintro e w1 ⟨rfl,hb1⟩;replace bx:=(bx.step (by go_grown)).step hb1;obtain ⟨zs,z0,z1,z2,z3,z4,z5,z6,y0,y1,y2,y3,y4⟩:=bx.all)
 go_ret
 exact ⟨Zc (by rw [HR.out]),by have:=bx.below;have:=bx.size;go_grown⟩
set_option maxRecDepth 100000 in
theorem zl3 (w:World) (c:CC) {R ps vk vs bk be i0 j0 n0 vn sd:Bool} {dp wt:Nat} (h:SndH w c R ps vk vs bk be i0 j0 n0 vn sd dp wt) (ek:c.k=1):
 uP 106 #[.agg (uC c)] w fun e w'=>e= .returned (.bool R)/\uB w w':=by
 delta uC uB uP
 obtain ⟨hbk,hbe,hi0,hj0,hn0,HPS,HVK,HVS,HVN,HSD,HDP,HWT,HSAYS,⟨k1,k4,k5⟩,hR2⟩:=h
 have bx:=Yk w c 54
 have e1:saysB c.k= { data:= #[78] } :=by rw [ek];rfl
 rw [e1] at HSAYS
 have HIN:∀(b:Nat) {t:Bool},hasB { data:= #[78] } b=t->Hid (Behind w 146 #[.string { data:= #[78] }, .int .u8 b] (.bool t)):=fun b t ht W _=>by rw [<-ht];exact Yv { data:= #[78] } b W (by decide)
 have hR3:R=sndB true false false false true false false bk (!i0) (!j0) (!n0) be vn ps vk vs (decide (0<=c.i)) (decide (0<=c.j)) false false sd (decide (c.pl+1+dp<=16)) (decide (wt<=20000)):=by
  rw [hR2,ek]
  first|rfl|(cases be<;>rfl)
 have HR:=qh hR3
 have f8:(c.k==8)=false:=by rw [ek];rfl
 have f9:(c.k==9)=false:=by rw [ek];rfl
 have HLK:Hid (Behind w 146 #[.string { data:= #[78] }, .int .u8 75] (.bool false)):=HIN 75 (by decide);have HLI:Hid (Behind w 146 #[.string { data:= #[78] }, .int .u8 73] (.bool false)):=HIN 73 (by decide);have HLJ:Hid (Behind w 146 #[.string { data:= #[78] }, .int .u8 74] (.bool false)):=HIN 74 (by decide);have HLN:Hid (Behind w 146 #[.string { data:= #[78] }, .int .u8 78] (.bool true)):=HIN 78 (by decide);have HLS:Hid (Behind w 146 #[.string { data:= #[78] }, .int .u8 83] (.bool false)):=HIN 83 (by decide);have HLV:Hid (Behind w 146 #[.string { data:= #[78] }, .int .u8 86] (.bool false)):=HIN 86 (by decide)
 clear hR2 hR3 e1 HIN ek
 go_enter Tryz.func106,Tryz.ntmps106
 go_wp2_with ((go_at_call 144;(with_reducible refine (Behind.at_ HSAYS.out ?_).mono ?_));(focus (have:=bx.below;have:=bx.size;go_grown));rintro e w1 ⟨rfl,hb1⟩;replace bx:=(bx.step (by go_grown)).step hb1;obtain ⟨zs,z0,z1,z2,z3,z4,z5,z6,y0,y1,y2,y3,y4⟩:=bx.all)
 rcases bcT ps (bcT bk (bcF i0 (bcF j0 (bcT be (bcT vn (bcT vk (bcT vs (bcP (c.i<0) (bcP (c.j<0) trivial))))))))) with rfl|⟨rfl,(rfl|⟨rfl,(rfl|⟨rfl,(rfl|⟨rfl,(rfl|⟨rfl,(rfl|⟨rfl,(rfl|⟨rfl,(rfl|⟨rfl,(hpi|⟨hpi,(hpj|⟨hpj,_⟩)⟩)⟩)⟩)⟩)⟩)⟩)⟩)⟩)⟩
 all_goals go_wp2_with ((first|(go_at_call 145;(with_reducible refine (Behind.at_ HPS.out ?_).mono ?_))|(go_at_call 146;(with_reducible refine (Behind.at_ HLK.out ?_).mono ?_))|(go_at_call 146;(with_reducible refine (Behind.at_ HLI.out ?_).mono ?_))|(go_at_call 146;(with_reducible refine (Behind.at_ HLJ.out ?_).mono ?_))|(go_at_call 146;(with_reducible refine (Behind.at_ HLN.out ?_).mono ?_))|(go_at_call 146;(with_reducible refine (Behind.at_ HLS.out ?_).mono ?_))|(go_at_call 146;(with_reducible refine (Behind.at_ HLV.out ?_).mono ?_))|(go_at_call 17;(with_reducible refine (Behind.at_ HVN.out ?_).mono ?_))|(go_at_call 99;(with_reducible refine (Behind.at_ HVK.out ?_).mono ?_))|(go_at_call 99;(with_reducible refine (Behind.at_ HVS.out ?_).mono ?_)));(focus (have:=bx.below;have:=bx.size;go_grown));rintro e w1 ⟨rfl,hb1⟩;replace bx:=(bx.step (by go_grown)).step hb1;obtain ⟨zs,z0,z1,z2,z3,z4,z5,z6,y0,y1,y2,y3,y4⟩:=bx.all)
 iterate 10 (focus (go_ret;exact ⟨Zc (by rw [HR.out];first|(simp [sndB, *];done)|(simp [sndB, *];intros;omega)),by have:=bx.below;have:=bx.size;go_grown⟩))
 have a0:=Za bx.at_.c6.c0;have a1:=Za bx.at_.c6.c1;have a2:=Za bx.at_.c6.c2;have a3:=Za bx.at_.c6.c3;have a4:=Za bx.at_.c6.c4;have a5:=Za bx.at_.c1
 have hbx:=bx.below
 have hbs:=bx.size
 rcases bcT sd (Yy c.pl dp) with rfl|⟨rfl,(⟨hd,hdI,hdB⟩|⟨hd,hdI,hdB⟩)⟩
 all_goals
  refine Zh (by kernel_rfl) (by kernel_rfl) ?_
  repeat (go_big_quiet_step ((first|(go_at_call 147;exact Zg (HSD.out _ (hbx.trans ((Zd _ _).mono (by omega)))))|(go_at_call 148;exact Zg (HDP.out _ (hbx.trans ((Zd _ _).mono (by omega)))))|(go_at_call 149;exact Zg (HWT.out _ (hbx.trans ((Zd _ _).mono (by omega))))))))
  refine wpQuiet_nil ?_
  intro _ hw'
  obtain ⟨pq,hw''⟩:=hw'
  subst hw''
  go_wp2_with fail
  go_ret
  exact ⟨Zc (by rw [HR.out];first|(simp [sndB, *];done)|(simp [sndB, *];intros;omega)),hbx.trans ((Zd _ _).mono (by omega))⟩
end Go.Proofs.YtbgheehjfnoiiaaGreatDoor
