/-
  Contracts of the functions that the law reaches: conciliatorref06.Sound, by kinds..
-/
import Derived.Test.YtnjgbiachcfigaaGreatDoorIw13
import Derived.Laws.RangeString
import Derived.Laws.RangeAny
import Derived.Lib.RuneCount
import Derived.Lib.RuneCountTail
namespace Go.Proofs.YtnjgbiachcfigaaGreatDoor
open Go.RowKit
set_option maxHeartbeats 8000000
set_option maxRecDepth 100000 in
theorem zlm (w:World) (c:CC) {R ps vk vs bk be i0 j0 n0 vn sd:Bool} {dp wt:Nat} (h:SndH w c R ps vk vs bk be i0 j0 n0 vn sd dp wt) (ek:c.k=5):
 uP 66 #[.agg (uC c)] w fun e w'=>e= .returned (.bool R)/\uB w w':=by
 delta uC uB uP
 obtain ⟨hbk,hbe,hi0,hj0,hn0,HPS,HVK,HVS,HVN,HSD,HDP,HWT,HSAYS,⟨k1,k4,k5⟩,hR2⟩:=h
 have bx:=Yu w c 39
 have e1:saysB c.k= { data:= #[73] } :=by rw [ek];rfl
 rw [e1] at HSAYS
 have HIN:∀(b:Nat) {t:Bool},hasB { data:= #[73] } b=t->Hid (Behind w 108 #[.string { data:= #[73] }, .int .u8 b] (.bool t)):=fun b t ht W _=>by rw [<-ht];exact Xj { data:= #[73] } b W (by decide)
 have hR3:R=sndB true false true false false false false bk (!i0) (!j0) (!n0) be vn ps vk vs (decide (0<=c.i)) (decide (0<=c.j)) false false sd (decide (c.pl+1+dp<=16)) (decide (wt<=20000)):=by
  rw [hR2,ek]
  first|rfl|(cases be<;>rfl)
 have HR:=qh hR3
 have f8:(c.k==8)=false:=by rw [ek];rfl
 have f9:(c.k==9)=false:=by rw [ek];rfl
 have HLK:Hid (Behind w 108 #[.string { data:= #[73] }, .int .u8 75] (.bool false)):=HIN 75 (by decide);have HLI:Hid (Behind w 108 #[.string { data:= #[73] }, .int .u8 73] (.bool true)):=HIN 73 (by decide);have HLJ:Hid (Behind w 108 #[.string { data:= #[73] }, .int .u8 74] (.bool false)):=HIN 74 (by decide);have HLN:Hid (Behind w 108 #[.string { data:= #[73] }, .int .u8 78] (.bool false)):=HIN 78 (by decide);have HLS:Hid (Behind w 108 #[.string { data:= #[73] }, .int .u8 83] (.bool false)):=HIN 83 (by decide);have HLV:Hid (Behind w 108 #[.string { data:= #[73] }, .int .u8 86] (.bool false)):=HIN 86 (by decide)
 clear hR2 hR3 e1 HIN ek
 go_enter Tryz.func66,Tryz.ntmps66
 go_wp2_with ((go_at_call 106;(with_reducible refine (Behind.at_ HSAYS.out ?_).mono ?_));(focus (have:=bx.below;have:=bx.size;go_grown));rintro e w1 ⟨rfl,hb1⟩;replace bx:=(bx.step (by go_grown)).step hb1;obtain ⟨zs,z0,z1,z2,z3,z4,z5,z6,y0,y1,y2,y3,y4⟩:=bx.all)
 rcases bcT ps (bcT bk (bcF j0 (bcF n0 (bcT be (bcT vn (bcT vk (bcT vs (bcP (c.i<0) (bcP (c.j<0) trivial))))))))) with rfl|⟨rfl,(rfl|⟨rfl,(rfl|⟨rfl,(rfl|⟨rfl,(rfl|⟨rfl,(rfl|⟨rfl,(rfl|⟨rfl,(rfl|⟨rfl,(hpi|⟨hpi,(hpj|⟨hpj,_⟩)⟩)⟩)⟩)⟩)⟩)⟩)⟩)⟩)⟩
 all_goals go_wp2_with ((first|(go_at_call 107;(with_reducible refine (Behind.at_ HPS.out ?_).mono ?_))|(go_at_call 108;(with_reducible refine (Behind.at_ HLK.out ?_).mono ?_))|(go_at_call 108;(with_reducible refine (Behind.at_ HLI.out ?_).mono ?_))|(go_at_call 108;(with_reducible refine (Behind.at_ HLJ.out ?_).mono ?_))|(go_at_call 108;(with_reducible refine (Behind.at_ HLN.out ?_).mono ?_))|(go_at_call 108;(with_reducible refine (Behind.at_ HLS.out ?_).mono ?_))|(go_at_call 108;(with_reducible refine (Behind.at_ HLV.out ?_).mono ?_))|(go_at_call 17;(with_reducible refine (Behind.at_ HVN.out ?_).mono ?_))|(go_at_call 52;(with_reducible refine (Behind.at_ HVK.out ?_).mono ?_))|(go_at_call 52;(with_reducible refine (Behind.at_ HVS.out ?_).mono ?_)));(focus (have:=bx.below;have:=bx.size;go_grown));rintro e w1 ⟨rfl,hb1⟩;replace bx:=(bx.step (by go_grown)).step hb1;obtain ⟨zs,z0,z1,z2,z3,z4,z5,z6,y0,y1,y2,y3,y4⟩:=bx.all)
 iterate 10 (focus (go_ret;exact ⟨Zc (by rw [HR.out];first|(simp [sndB, *];done)|(simp [sndB, *];intros;omega)),by have:=bx.below;have:=bx.size;go_grown⟩))
 have a0:=Zb bx.at_.c6.c0;have a1:=Zb bx.at_.c6.c1;have a2:=Zb bx.at_.c6.c2;have a3:=Zb bx.at_.c6.c3;have a4:=Zb bx.at_.c6.c4;have a5:=Zb bx.at_.c1
 have hbx:=bx.below
 have hbs:=bx.size
 rcases bcT sd (Xh c.pl dp) with rfl|⟨rfl,(⟨hd,hdI,hdB⟩|⟨hd,hdI,hdB⟩)⟩
 all_goals
  refine Zl (by kernel_rfl) (by kernel_rfl) ?_
  repeat (go_big_quiet_step ((first|(go_at_call 18;exact Zg (HSD.out _ (hbx.trans ((Ze _ _).mono (by omega)))))|(go_at_call 109;exact Zg (HDP.out _ (hbx.trans ((Ze _ _).mono (by omega)))))|(go_at_call 110;exact Zg (HWT.out _ (hbx.trans ((Ze _ _).mono (by omega))))))))
  refine wpQuiet_nil ?_
  intro _ hw'
  obtain ⟨pq,hw''⟩:=hw'
  subst hw''
  go_wp2_with fail
  go_ret
  exact ⟨Zc (by rw [HR.out];first|(simp [sndB, *];done)|(simp [sndB, *];intros;omega)),hbx.trans ((Ze _ _).mono (by omega))⟩
set_option maxRecDepth 100000 in
theorem znh (w:World) (c:CC) {R ps vk vs bk be i0 j0 n0 vn sd:Bool} {dp wt:Nat} (h:SndH w c R ps vk vs bk be i0 j0 n0 vn sd dp wt) (ek:c.k=6):
 uP 66 #[.agg (uC c)] w fun e w'=>e= .returned (.bool R)/\uB w w':=by
 delta uC uB uP
 obtain ⟨hbk,hbe,hi0,hj0,hn0,HPS,HVK,HVS,HVN,HSD,HDP,HWT,HSAYS,⟨k1,k4,k5⟩,hR2⟩:=h
 have bx:=Yu w c 39
 have e1:saysB c.k= { data:= #[73,86] } :=by rw [ek];rfl
 rw [e1] at HSAYS
 have HIN:∀(b:Nat) {t:Bool},hasB { data:= #[73,86] } b=t->Hid (Behind w 108 #[.string { data:= #[73,86] }, .int .u8 b] (.bool t)):=fun b t ht W _=>by rw [<-ht];exact Xj { data:= #[73,86] } b W (by decide)
 have hR3:R=sndB true false true false false false true bk (!i0) (!j0) (!n0) be vn ps vk vs (decide (0<=c.i)) (decide (0<=c.j)) false false sd (decide (c.pl+1+dp<=16)) (decide (wt<=20000)):=by
  rw [hR2,ek]
  first|rfl|(cases be<;>rfl)
 have HR:=qh hR3
 have f8:(c.k==8)=false:=by rw [ek];rfl
 have f9:(c.k==9)=false:=by rw [ek];rfl
 have HLK:Hid (Behind w 108 #[.string { data:= #[73,86] }, .int .u8 75] (.bool false)):=HIN 75 (by decide);have HLI:Hid (Behind w 108 #[.string { data:= #[73,86] }, .int .u8 73] (.bool true)):=HIN 73 (by decide);have HLJ:Hid (Behind w 108 #[.string { data:= #[73,86] }, .int .u8 74] (.bool false)):=HIN 74 (by decide);have HLN:Hid (Behind w 108 #[.string { data:= #[73,86] }, .int .u8 78] (.bool false)):=HIN 78 (by decide);have HLS:Hid (Behind w 108 #[.string { data:= #[73,86] }, .int .u8 83] (.bool false)):=HIN 83 (by decide);have HLV:Hid (Behind w 108 #[.string { data:= #[73,86] }, .int .u8 86] (.bool true)):=HIN 86 (by decide)
 clear hR2 hR3 e1 HIN ek
 go_enter Tryz.func66,Tryz.ntmps66
 go_wp2_with ((go_at_call 106;(with_reducible refine (Behind.at_ HSAYS.out ?_).mono ?_));(focus (have:=bx.below;have:=bx.size;go_grown));rintro e w1 ⟨rfl,hb1⟩;replace bx:=(bx.step (by go_grown)).step hb1;obtain ⟨zs,z0,z1,z2,z3,z4,z5,z6,y0,y1,y2,y3,y4⟩:=bx.all)
 rcases bcT ps (bcT bk (bcF j0 (bcF n0 (bcT be (bcT vk (bcT vs (bcP (c.i<0) (bcP (c.j<0) trivial)))))))) with rfl|⟨rfl,(rfl|⟨rfl,(rfl|⟨rfl,(rfl|⟨rfl,(rfl|⟨rfl,(rfl|⟨rfl,(rfl|⟨rfl,(hpi|⟨hpi,(hpj|⟨hpj,_⟩)⟩)⟩)⟩)⟩)⟩)⟩)⟩)⟩
 all_goals go_wp2_with ((first|(go_at_call 107;(with_reducible refine (Behind.at_ HPS.out ?_).mono ?_))|(go_at_call 108;(with_reducible refine (Behind.at_ HLK.out ?_).mono ?_))|(go_at_call 108;(with_reducible refine (Behind.at_ HLI.out ?_).mono ?_))|(go_at_call 108;(with_reducible refine (Behind.at_ HLJ.out ?_).mono ?_))|(go_at_call 108;(with_reducible refine (Behind.at_ HLN.out ?_).mono ?_))|(go_at_call 108;(with_reducible refine (Behind.at_ HLS.out ?_).mono ?_))|(go_at_call 108;(with_reducible refine (Behind.at_ HLV.out ?_).mono ?_))|(go_at_call 52;(with_reducible refine (Behind.at_ HVK.out ?_).mono ?_))|(go_at_call 52;(with_reducible refine (Behind.at_ HVS.out ?_).mono ?_)));(focus (have:=bx.below;have:=bx.size;go_grown));rintro e w1 ⟨rfl,hb1⟩;replace bx:=(bx.step (by go_grown)).step hb1;obtain ⟨zs,z0,z1,z2,z3,z4,z5,z6,y0,y1,y2,y3,y4⟩:=bx.all)
 iterate 9 (focus (go_ret;exact ⟨Zc (by rw [HR.out];first|(simp [sndB, *];done)|(simp [sndB, *];intros;omega)),by have:=bx.below;have:=bx.size;go_grown⟩))
 have a0:=Zb bx.at_.c6.c0;have a1:=Zb bx.at_.c6.c1;have a2:=Zb bx.at_.c6.c2;have a3:=Zb bx.at_.c6.c3;have a4:=Zb bx.at_.c6.c4;have a5:=Zb bx.at_.c1
 have hbx:=bx.below
 have hbs:=bx.size
 rcases bcT sd (Xh c.pl dp) with rfl|⟨rfl,(⟨hd,hdI,hdB⟩|⟨hd,hdI,hdB⟩)⟩
 all_goals
  refine Zl (by kernel_rfl) (by kernel_rfl) ?_
  repeat (go_big_quiet_step ((first|(go_at_call 18;exact Zg (HSD.out _ (hbx.trans ((Ze _ _).mono (by omega)))))|(go_at_call 109;exact Zg (HDP.out _ (hbx.trans ((Ze _ _).mono (by omega)))))|(go_at_call 110;exact Zg (HWT.out _ (hbx.trans ((Ze _ _).mono (by omega))))))))
  refine wpQuiet_nil ?_
  intro _ hw'
  obtain ⟨pq,hw''⟩:=hw'
  subst hw''
  go_wp2_with fail
  go_ret
  exact ⟨Zc (by rw [HR.out];first|(simp [sndB, *];done)|(simp [sndB, *];intros;omega)),hbx.trans ((Ze _ _).mono (by omega))⟩
set_option maxRecDepth 100000 in
theorem ziu (w:World) (c:CC) {R ps vk vs bk be i0 j0 n0 vn sd:Bool} {dp wt:Nat} (h:SndH w c R ps vk vs bk be i0 j0 n0 vn sd dp wt) (ek:c.k=7):
 uP 66 #[.agg (uC c)] w fun e w'=>e= .returned (.bool R)/\uB w w':=by
 delta uC uB uP
 obtain ⟨hbk,hbe,hi0,hj0,hn0,HPS,HVK,HVS,HVN,HSD,HDP,HWT,HSAYS,⟨k1,k4,k5⟩,hR2⟩:=h
 have bx:=Yu w c 39
 have e1:saysB c.k= { data:= #[73,74] } :=by rw [ek];rfl
 rw [e1] at HSAYS
 have HIN:∀(b:Nat) {t:Bool},hasB { data:= #[73,74] } b=t->Hid (Behind w 108 #[.string { data:= #[73,74] }, .int .u8 b] (.bool t)):=fun b t ht W _=>by rw [<-ht];exact Xj { data:= #[73,74] } b W (by decide)
 have hR3:R=sndB true false true true false false false bk (!i0) (!j0) (!n0) be vn ps vk vs (decide (0<=c.i)) (decide (0<=c.j)) false false sd (decide (c.pl+1+dp<=16)) (decide (wt<=20000)):=by
  rw [hR2,ek]
  first|rfl|(cases be<;>rfl)
 have HR:=qh hR3
 have f8:(c.k==8)=false:=by rw [ek];rfl
 have f9:(c.k==9)=false:=by rw [ek];rfl
 have HLK:Hid (Behind w 108 #[.string { data:= #[73,74] }, .int .u8 75] (.bool false)):=HIN 75 (by decide);have HLI:Hid (Behind w 108 #[.string { data:= #[73,74] }, .int .u8 73] (.bool true)):=HIN 73 (by decide);have HLJ:Hid (Behind w 108 #[.string { data:= #[73,74] }, .int .u8 74] (.bool true)):=HIN 74 (by decide);have HLN:Hid (Behind w 108 #[.string { data:= #[73,74] }, .int .u8 78] (.bool false)):=HIN 78 (by decide);have HLS:Hid (Behind w 108 #[.string { data:= #[73,74] }, .int .u8 83] (.bool false)):=HIN 83 (by decide);have HLV:Hid (Behind w 108 #[.string { data:= #[73,74] }, .int .u8 86] (.bool false)):=HIN 86 (by decide)
 clear hR2 hR3 e1 HIN ek
 go_enter Tryz.func66,Tryz.ntmps66
 go_wp2_with ((go_at_call 106;(with_reducible refine (Behind.at_ HSAYS.out ?_).mono ?_));(focus (have:=bx.below;have:=bx.size;go_grown));rintro e w1 ⟨rfl,hb1⟩;replace bx:=(bx.step (by go_grown)).step hb1;obtain ⟨zs,z0,z1,z2,z3,z4,z5,z6,y0,y1,y2,y3,y4⟩:=bx.all)
 rcases bcT ps (bcT bk (bcF n0 (bcT be (bcT vn (bcT vk (bcT vs (bcP (c.i<0) (bcP (c.j<0) trivial)))))))) with rfl|⟨rfl,(rfl|⟨rfl,(rfl|⟨rfl,(rfl|⟨rfl,(rfl|⟨rfl,(rfl|⟨rfl,(rfl|⟨rfl,(hpi|⟨hpi,(hpj|⟨hpj,_⟩)⟩)⟩)⟩)⟩)⟩)⟩)⟩)⟩
 all_goals go_wp2_with ((first|(go_at_call 107;(with_reducible refine (Behind.at_ HPS.out ?_).mono ?_))|(go_at_call 108;(with_reducible refine (Behind.at_ HLK.out ?_).mono ?_))|(go_at_call 108;(with_reducible refine (Behind.at_ HLI.out ?_).mono ?_))|(go_at_call 108;(with_reducible refine (Behind.at_ HLJ.out ?_).mono ?_))|(go_at_call 108;(with_reducible refine (Behind.at_ HLN.out ?_).mono ?_))|(go_at_call 108;(with_reducible refine (Behind.at_ HLS.out ?_).mono ?_))|(go_at_call 108;(with_reducible refine (Behind.at_ HLV.out ?_).mono ?_))|(go_at_call 17;(with_reducible refine (Behind.at_ HVN.out ?_).mono ?_))|(go_at_call 52;(with_reducible refine (Behind.at_ HVK.out ?_).mono ?_))|(go_at_call 52;(with_reducible refine (Behind.at_ HVS.out ?_).mono ?_)));(focus (have:=bx.below;have:=bx.size;go_grown));rintro e w1 ⟨rfl,hb1⟩;replace bx:=(bx.step (by go_grown)).step hb1;obtain ⟨zs,z0,z1,z2,z3,z4,z5,z6,y0,y1,y2,y3,y4⟩:=bx.all)
 iterate 9 (focus (go_ret;exact ⟨Zc (by rw [HR.out];first|(simp [sndB, *];done)|(simp [sndB, *];intros;omega)),by have:=bx.below;have:=bx.size;go_grown⟩))
 have a0:=Zb bx.at_.c6.c0;have a1:=Zb bx.at_.c6.c1;have a2:=Zb bx.at_.c6.c2;have a3:=Zb bx.at_.c6.c3;have a4:=Zb bx.at_.c6.c4;have a5:=Zb bx.at_.c1
 have hbx:=bx.below
 have hbs:=bx.size
 rcases bcT sd (Xh c.pl dp) with rfl|⟨rfl,(⟨hd,hdI,hdB⟩|⟨hd,hdI,hdB⟩)⟩
 all_goals
  refine Zl (by kernel_rfl) (by kernel_rfl) ?_
  repeat (go_big_quiet_step ((first|(go_at_call 18;exact Zg (HSD.out _ (hbx.trans ((Ze _ _).mono (by omega)))))|(go_at_call 109;exact Zg (HDP.out _ (hbx.trans ((Ze _ _).mono (by omega)))))|(go_at_call 110;exact Zg (HWT.out _ (hbx.trans ((Ze _ _).mono (by omega))))))))
  refine wpQuiet_nil ?_
  intro _ hw'
  obtain ⟨pq,hw''⟩:=hw'
  subst hw''
  go_wp2_with fail
  go_ret
  exact ⟨Zc (by rw [HR.out];first|(simp [sndB, *];done)|(simp [sndB, *];intros;omega)),hbx.trans ((Ze _ _).mono (by omega))⟩
set_option maxRecDepth 100000 in
theorem zk7 (w:World) (c:CC) {R ps vk vs bk be i0 j0 n0 vn sd:Bool} {dp wt:Nat} (h:SndH w c R ps vk vs bk be i0 j0 n0 vn sd dp wt) (ek:c.k=8):
 uP 66 #[.agg (uC c)] w fun e w'=>e= .returned (.bool R)/\uB w w':=by
 delta uC uB uP
 obtain ⟨hbk,hbe,hi0,hj0,hn0,HPS,HVK,HVS,HVN,HSD,HDP,HWT,HSAYS,⟨k1,k4,k5⟩,hR2⟩:=h
 have bx:=Yu w c 39
 have e1:saysB c.k= { data:= #[73,83] } :=by rw [ek];rfl
 rw [e1] at HSAYS
 have HIN:∀(b:Nat) {t:Bool},hasB { data:= #[73,83] } b=t->Hid (Behind w 108 #[.string { data:= #[73,83] }, .int .u8 b] (.bool t)):=fun b t ht W _=>by rw [<-ht];exact Xj { data:= #[73,83] } b W (by decide)
 have hR3:R=sndB true false true false false true false bk (!i0) (!j0) (!n0) be vn ps vk vs (decide (0<=c.i)) (decide (0<=c.j)) be false sd (decide (c.pl+1+dp<=16)) (decide (wt<=20000)):=by
  rw [hR2,ek]
  first|rfl|(cases be<;>rfl)
 have HR:=qh hR3
 have f8:(c.k==8)=true:=by rw [ek];rfl
 have f9:(c.k==9)=false:=by rw [ek];rfl
 have HLK:Hid (Behind w 108 #[.string { data:= #[73,83] }, .int .u8 75] (.bool false)):=HIN 75 (by decide);have HLI:Hid (Behind w 108 #[.string { data:= #[73,83] }, .int .u8 73] (.bool true)):=HIN 73 (by decide);have HLJ:Hid (Behind w 108 #[.string { data:= #[73,83] }, .int .u8 74] (.bool false)):=HIN 74 (by decide);have HLN:Hid (Behind w 108 #[.string { data:= #[73,83] }, .int .u8 78] (.bool false)):=HIN 78 (by decide);have HLS:Hid (Behind w 108 #[.string { data:= #[73,83] }, .int .u8 83] (.bool true)):=HIN 83 (by decide);have HLV:Hid (Behind w 108 #[.string { data:= #[73,83] }, .int .u8 86] (.bool false)):=HIN 86 (by decide)
 clear hR2 hR3 e1 HIN ek
 go_enter Tryz.func66,Tryz.ntmps66
 go_wp2_with ((go_at_call 106;(with_reducible refine (Behind.at_ HSAYS.out ?_).mono ?_));(focus (have:=bx.below;have:=bx.size;go_grown));rintro e w1 ⟨rfl,hb1⟩;replace bx:=(bx.step (by go_grown)).step hb1;obtain ⟨zs,z0,z1,z2,z3,z4,z5,z6,y0,y1,y2,y3,y4⟩:=bx.all)
 rcases bcT ps (bcT bk (bcF j0 (bcF n0 (bcT vn (bcT vk (bcT vs (bcP (c.i<0) (bcP (c.j<0) (bcF be trivial))))))))) with rfl|⟨rfl,(rfl|⟨rfl,(rfl|⟨rfl,(rfl|⟨rfl,(rfl|⟨rfl,(rfl|⟨rfl,(rfl|⟨rfl,(hpi|⟨hpi,(hpj|⟨hpj,(rfl|⟨rfl,_⟩)⟩)⟩)⟩)⟩)⟩)⟩)⟩)⟩)⟩
 all_goals go_wp2_with ((first|(go_at_call 107;(with_reducible refine (Behind.at_ HPS.out ?_).mono ?_))|(go_at_call 108;(with_reducible refine (Behind.at_ HLK.out ?_).mono ?_))|(go_at_call 108;(with_reducible refine (Behind.at_ HLI.out ?_).mono ?_))|(go_at_call 108;(with_reducible refine (Behind.at_ HLJ.out ?_).mono ?_))|(go_at_call 108;(with_reducible refine (Behind.at_ HLN.out ?_).mono ?_))|(go_at_call 108;(with_reducible refine (Behind.at_ HLS.out ?_).mono ?_))|(go_at_call 108;(with_reducible refine (Behind.at_ HLV.out ?_).mono ?_))|(go_at_call 17;(with_reducible refine (Behind.at_ HVN.out ?_).mono ?_))|(go_at_call 52;(with_reducible refine (Behind.at_ HVK.out ?_).mono ?_))|(go_at_call 52;(with_reducible refine (Behind.at_ HVS.out ?_).mono ?_)));(focus (have:=bx.below;have:=bx.size;go_grown));rintro e w1 ⟨rfl,hb1⟩;replace bx:=(bx.step (by go_grown)).step hb1;obtain ⟨zs,z0,z1,z2,z3,z4,z5,z6,y0,y1,y2,y3,y4⟩:=bx.all)
 iterate 10 (focus (go_ret;exact ⟨Zc (by rw [HR.out];first|(simp [sndB, *];done)|(simp [sndB, *];intros;omega)),by have:=bx.below;have:=bx.size;go_grown⟩))
 have a0:=Zb bx.at_.c6.c0;have a1:=Zb bx.at_.c6.c1;have a2:=Zb bx.at_.c6.c2;have a3:=Zb bx.at_.c6.c3;have a4:=Zb bx.at_.c6.c4;have a5:=Zb bx.at_.c1
 have hbx:=bx.below
 have hbs:=bx.size
 rcases bcT sd (Xh c.pl dp) with rfl|⟨rfl,(⟨hd,hdI,hdB⟩|⟨hd,hdI,hdB⟩)⟩
 all_goals
  refine Zl (by kernel_rfl) (by kernel_rfl) ?_
  repeat (go_big_quiet_step ((first|(go_at_call 18;exact Zg (HSD.out _ (hbx.trans ((Ze _ _).mono (by omega)))))|(go_at_call 109;exact Zg (HDP.out _ (hbx.trans ((Ze _ _).mono (by omega)))))|(go_at_call 110;exact Zg (HWT.out _ (hbx.trans ((Ze _ _).mono (by omega))))))))
  refine wpQuiet_nil ?_
  intro _ hw'
  obtain ⟨pq,hw''⟩:=hw'
  subst hw''
  go_wp2_with fail
  go_ret
  exact ⟨Zc (by rw [HR.out];first|(simp [sndB, *];done)|(simp [sndB, *];intros;omega)),hbx.trans ((Ze _ _).mono (by omega))⟩
set_option maxRecDepth 100000 in
theorem zig (w:World) (c:CC) {R ps vk vs bk be i0 j0 n0 vn sd:Bool} {dp wt:Nat} (h:SndH w c R ps vk vs bk be i0 j0 n0 vn sd dp wt) (ek:c.k=9):
 uP 66 #[.agg (uC c)] w fun e w'=>e= .returned (.bool R)/\uB w w':=by
 delta uC uB uP
 obtain ⟨hbk,hbe,hi0,hj0,hn0,HPS,HVK,HVS,HVN,HSD,HDP,HWT,HSAYS,⟨k1,k4,k5⟩,hR2⟩:=h
 have bx:=Yu w c 39
 have e1:saysB c.k= { data:= #[73,78] } :=by rw [ek];rfl
 rw [e1] at HSAYS
 have HIN:∀(b:Nat) {t:Bool},hasB { data:= #[73,78] } b=t->Hid (Behind w 108 #[.string { data:= #[73,78] }, .int .u8 b] (.bool t)):=fun b t ht W _=>by rw [<-ht];exact Xj { data:= #[73,78] } b W (by decide)
 have hR3:R=sndB true false true false true false false bk (!i0) (!j0) (!n0) be vn ps vk vs (decide (0<=c.i)) (decide (0<=c.j)) false (decide (c.n<1)) sd (decide (c.pl+1+dp<=16)) (decide (wt<=20000)):=by
  rw [hR2,ek]
  first|rfl|(cases be<;>rfl)
 have HR:=qh hR3
 have f8:(c.k==8)=false:=by rw [ek];rfl
 have f9:(c.k==9)=true:=by rw [ek];rfl
 have HLK:Hid (Behind w 108 #[.string { data:= #[73,78] }, .int .u8 75] (.bool false)):=HIN 75 (by decide);have HLI:Hid (Behind w 108 #[.string { data:= #[73,78] }, .int .u8 73] (.bool true)):=HIN 73 (by decide);have HLJ:Hid (Behind w 108 #[.string { data:= #[73,78] }, .int .u8 74] (.bool false)):=HIN 74 (by decide);have HLN:Hid (Behind w 108 #[.string { data:= #[73,78] }, .int .u8 78] (.bool true)):=HIN 78 (by decide);have HLS:Hid (Behind w 108 #[.string { data:= #[73,78] }, .int .u8 83] (.bool false)):=HIN 83 (by decide);have HLV:Hid (Behind w 108 #[.string { data:= #[73,78] }, .int .u8 86] (.bool false)):=HIN 86 (by decide)
 clear hR2 hR3 e1 HIN ek
 go_enter Tryz.func66,Tryz.ntmps66
 go_wp2_with ((go_at_call 106;(with_reducible refine (Behind.at_ HSAYS.out ?_).mono ?_));(focus (have:=bx.below;have:=bx.size;go_grown));rintro e w1 ⟨rfl,hb1⟩;replace bx:=(bx.step (by go_grown)).step hb1;obtain ⟨zs,z0,z1,z2,z3,z4,z5,z6,y0,y1,y2,y3,y4⟩:=bx.all)
 rcases bcT ps (bcT bk (bcF j0 (bcT be (bcT vn (bcT vk (bcT vs (bcP (c.i<0) (bcP (c.j<0) (bcP (c.n<1) trivial))))))))) with rfl|⟨rfl,(rfl|⟨rfl,(rfl|⟨rfl,(rfl|⟨rfl,(rfl|⟨rfl,(rfl|⟨rfl,(rfl|⟨rfl,(hpi|⟨hpi,(hpj|⟨hpj,(hpn|⟨hpn,_⟩)⟩)⟩)⟩)⟩)⟩)⟩)⟩)⟩)⟩
 all_goals go_wp2_with ((first|(go_at_call 107;(with_reducible refine (Behind.at_ HPS.out ?_).mono ?_))|(go_at_call 108;(with_reducible refine (Behind.at_ HLK.out ?_).mono ?_))|(go_at_call 108;(with_reducible refine (Behind.at_ HLI.out ?_).mono ?_))|(go_at_call 108;(with_reducible refine (Behind.at_ HLJ.out ?_).mono ?_))|(go_at_call 108;(with_reducible refine (Behind.at_ HLN.out ?_).mono ?_))|(go_at_call 108;(with_reducible refine (Behind.at_ HLS.out ?_).mono ?_))|(go_at_call 108;(with_reducible refine (Behind.at_ HLV.out ?_).mono ?_))|(go_at_call 17;(with_reducible refine (Behind.at_ HVN.out ?_).mono ?_))|(go_at_call 52;(with_reducible refine (Behind.at_ HVK.out ?_).mono ?_))|(go_at_call 52;(with_reducible refine (Behind.at_ HVS.out ?_).mono ?_)));(focus (have:=bx.below;have:=bx.size;go_grown));rintro e w1 ⟨rfl,hb1⟩;replace bx:=(bx.step (by go_grown)).step hb1;obtain ⟨zs,z0,z1,z2,z3,z4,z5,z6,y0,y1,y2,y3,y4⟩:=bx.all)
 iterate 10 (focus (go_ret;exact ⟨Zc (by rw [HR.out];first|(simp [sndB, *];done)|(simp [sndB, *];intros;omega)),by have:=bx.below;have:=bx.size;go_grown⟩))
 have a0:=Zb bx.at_.c6.c0;have a1:=Zb bx.at_.c6.c1;have a2:=Zb bx.at_.c6.c2;have a3:=Zb bx.at_.c6.c3;have a4:=Zb bx.at_.c6.c4;have a5:=Zb bx.at_.c1
 have hbx:=bx.below
 have hbs:=bx.size
 have hn2:decide (c.n<1)=false:=by simpa using hpn
 rcases bcT sd (Xh c.pl dp) with rfl|⟨rfl,(⟨hd,hdI,hdB⟩|⟨hd,hdI,hdB⟩)⟩
 all_goals
  refine Zl (by kernel_rfl) (by kernel_rfl) ?_
  repeat (go_big_quiet_step ((first|(go_at_call 18;exact Zg (HSD.out _ (hbx.trans ((Ze _ _).mono (by omega)))))|(go_at_call 109;exact Zg (HDP.out _ (hbx.trans ((Ze _ _).mono (by omega)))))|(go_at_call 110;exact Zg (HWT.out _ (hbx.trans ((Ze _ _).mono (by omega))))))))
  refine wpQuiet_nil ?_
  intro _ hw'
  obtain ⟨pq,hw''⟩:=hw'
  subst hw''
  go_wp2_with fail
  go_ret
  exact ⟨Zc (by rw [HR.out];first|(simp [sndB, *];done)|(simp [sndB, *];intros;omega)),hbx.trans ((Ze _ _).mono (by omega))⟩
theorem ze0 (x:Cm) (w:World) (hT:Tabs w) (c:CC) (hx:IsComp w w.heap.size x c) (hw:x.v.weight<=4611686018427387904):
 uP 66 #[.agg (uC c)] w fun e w'=>e= .returned (.bool (cmSound x))/\uB w w':=by
 delta uC uB uP
 obtain ⟨_,_,_,_,_,_,_,_,_,_,_,_,h⟩:=zjf x w hT c hx hw
 by_cases e1:c.k=1
 .exact zic w c h e1
 by_cases e2:c.k=2
 .exact znc w c h e2
 by_cases e3:c.k=3
 .exact zqf w c h e3
 by_cases e4:c.k=4
 .exact zlc w c h e4
 by_cases e5:c.k=5
 .exact zlm w c h e5
 by_cases e6:c.k=6
 .exact znh w c h e6
 by_cases e7:c.k=7
 .exact ziu w c h e7
 by_cases e8:c.k=8
 .exact zk7 w c h e8
 by_cases e9:c.k=9
 .exact zig w c h e9
 exact zoc w c h (by simp only [kIs,Bool.and_eq_false_iff,decide_eq_false_iff_not];omega)
noncomputable def checkP (v:V) (c:Cm):Int:=
 if cmSound c=false then 60 else match getP v c.path with
  |none=>30
  |some x=>kindsP x c.k c.i c.j c.n c.key
theorem zpo {v:V} {s:St} {x:V} {k:Nat} (h:stepP v s=some (x,k)):x.weight<v.weight:=by
 obtain ⟨kk,n,t,l,o,rfl⟩:=v.eta
 rcases Yy h with ⟨_,_,_,hk,e⟩|⟨_,_,_,hk,e⟩
 .have h:=Qf l k hk
  have e2:l[k]'hk=x:=e
  rw [e2] at h
  simp only [V.weight];omega
 .have h:=Qv o k hk
  have e2:(o[k]'hk).2=x:=e
  rw [e2] at h
  simp only [V.weight];omega
theorem Zz (p:List St):∀ {v x:V},getP v p=some x->x.weight<=v.weight:=by
 induction p with
 |nil=>intro v x h;injection h with h;subst h;exact Nat.le_refl _
 | cons s r ih=>
   intro v x h
   unfold getP at h
   cases hs:stepP v s with
   |none=>rw [hs] at h;cases h
   | some q=>
     rw [hs] at h
     have:=zpo (x:=q.1) (k:=q.2) hs
     have:=ih h
     omega
theorem V.str_weight (v:V):v.str.size<v.weight/\v.ls.length<v.weight/\v.os.length<v.weight:=by
 obtain ⟨kk,n,t,l,o,rfl⟩:=v.eta
 have hp:∀v:V,1<=v.weight:=fun v=>by cases v;simp only [V.weight];omega
 have h1:l.length<=weightL l:=by
  induction l with
  |nil=>simp
  |cons a r ih=>have:=hp a;simp only [List.length_cons,weightL];omega
 have h2:o.length<=weightO o:=by
  induction o with
  |nil=>simp
  |cons a r ih=>have:=hp a.2;simp only [List.length_cons,weightO,Yl];omega
 simp only [V.str,V.ls,V.os,V.weight];omega
set_option maxRecDepth 100000 in
theorem X6 (w:World) (vk vn:Int) (vs:ByteArray) (la:Option Addr) (ll lc:Nat) (oa:Option Addr) (ol oc:Nat) (v:V) (hv:IsVal w w.heap.size v ⟨vk,vn,vs,la,ll,lc,oa,ol,oc⟩) (hw:v.weight<=1000000000000) (p:List St) (xv:V) (cc:CC) (hcb:cc.Bnd) (hp:IsSteps w w.heap.size p cc.pa cc.pl cc.pc) (hxv:IsVal w w.heap.size xv cc.v) (hxw:xv.weight<=4611686018427387904) (hT:Tabs w):
 uP 34 #[.agg (uU vk vn vs la ll lc oa ol oc), .agg (uC cc)] w fun e w'=>e= .returned (.int .i64 (checkP v ⟨cc.k,p,cc.key,cc.i,cc.j,cc.n,xv,cc.s⟩))/\uB w w':=by
 delta uU uC uB uP
 have HSD:Hid (∀W,uB w W->uP 66 #[.agg (uC cc)] W fun e w'=>e= .returned (.bool (cmSound ⟨cc.k,p,cc.key,cc.i,cc.j,cc.n,xv,cc.s⟩))/\uB W w'):=fun W hW=>ze0 _ W (hT.below hW) cc (.mk cc p xv hcb (hp.later_ hW) (hxv.later_ hW)) (by show xv.weight<=_;omega)
 have HGT:Hid (∀W,uB w W->uP 38 #[.agg (uU vk vn vs la ll lc oa ol oc), .slice cc.pa cc.pl cc.pc] W (GetPost W (getP v p))):=fun W hW=>X3 W vk vn vs la ll lc oa ol oc v (hv.later_ hW) p cc.pa cc.pl cc.pc (hp.later_ hW)
 have HKD:Hid (∀W x (d:VC),uB w W->IsVal W W.heap.size x d->getP v p=some x->uP 69 #[.agg (uV d), .agg (uC cc)] W fun e w'=>e= .returned (.int .i64 (kindsP x cc.k cc.i cc.j cc.n cc.key))/\uB W w'):=fun W x d hW hI hg=>by
  have h1:=Zz p hg
  have h2:=x.str_weight.1
  have h3:=(Xd hI).1
  exact zqs W d.k d.n d.s d.la d.ll d.lc d.oa d.ol d.oc x hI (by rw [<-h3];omega) cc hcb (hT.below hW)
 obtain ⟨sd,hsd⟩:∃sd,cmSound ⟨cc.k,p,cc.key,cc.i,cc.j,cc.n,xv,cc.s⟩=sd:=⟨_,rfl⟩
 rw [hsd] at HSD
 obtain ⟨R,hR⟩:∃R,checkP v ⟨cc.k,p,cc.key,cc.i,cc.j,cc.n,xv,cc.s⟩=R:=⟨_,rfl⟩
 rw [hR]
 simp only [checkP,hsd] at hR
 have HR:=qh hR
 have HB:=qh (KBk.start w ⟨vk,vn,vs,la,ll,lc,oa,ol,oc⟩ cc 36 39)
 clear hR hsd hv hp hxv hxw hw hT hcb
 go_enter Tryz.func34,Tryz.ntmps34
 go_wp2_with fail
 refine (HSD.out _ HB.out.below).mono ?_
 rintro e W ⟨rfl,hb1⟩
 have B:=HB.out.next hb1 (by simp)
 obtain ⟨v0,v1,v2,v3,v4⟩:=row5 B.v.at_
 obtain ⟨b0,b1,b2,b3,b4,b5,b6,b7,b8,b9,b10,b11⟩:=row12 B.c.at_
 have z0:=B.v.lt;have z1:=B.c.lt
 have HBW:=qh B
 clear B hb1
 cases sd with
 | false=>
   obtain rfl:R=60:=by rw [<-HR.out];rfl
   go_wp2_with fail
   go_returns
   exact ⟨rfl,HBW.out.below⟩
 | true=>
   go_wp2_with fail
   refine (HGT.out _ HBW.out.below).mono ?_
   rintro e W2 h2
   obtain ⟨d,er,rfl,hrel,hb2⟩:=GetPost.gen h2
   clear h2
   have B2:=HBW.out.next hb2 (Nat.succ_le_of_lt z1)
   clear v0 v1 v2 v3 v4 b0 b1 b2 b3 b4 b5 b6 b7 b8 b9 b10 b11
   obtain ⟨v0,v1,v2,v3,v4⟩:=row5 B2.v.at_
   obtain ⟨b0,b1,b2,b3,b4,b5,b6,b7,b8,b9,b10,b11⟩:=row12 B2.c.at_
   have z0:=B2.v.lt;have z1:=B2.c.lt
   have hbl2:=B2.below
   have HB2:=qh (hbl2.alloc hbl2.size (.cells (uV d) 36))
   clear hb2 B2
   rcases hrel.out with ⟨hg,rfl⟩|⟨x,hg,rfl,hI⟩
   .obtain rfl:R=30:=by rw [<-HR.out,hg];rfl
    clear hg hbl2
    go_wp2_with fail
    go_returns
    exact ⟨rfl,HB2.out⟩
   .have HK:Hid (uP 69 #[.agg (uV d), .agg (uC cc)] (W2.alloc (.cells (uV d) 36)) fun e w'=>e= .returned (.int .i64 (kindsP x cc.k cc.i cc.j cc.n cc.key))/\uB (W2.alloc (.cells (uV d) 36)) w'):=HKD.out _ x d HB2.out ((hI.sub (Zk _ _ _)).later_ ((Below.refl _ _).alloc (Nat.le_refl _) _)) hg
    obtain rfl:R=kindsP x cc.k cc.i cc.j cc.n cc.key:=by rw [<-HR.out,hg];rfl
    clear hg hI hrel hbl2
    go_wp2_with fail
    refine HK.out.mono ?_
    rintro e W3 ⟨rfl,hb3⟩
    go_wp2_with fail
    go_returns
    exact ⟨rfl,HB2.out.trans (hb3.mono HB2.out.size)⟩
def fldStep (key:ByteArray) (v:V) (s:List (ByteArray×V)×Bool) (f:ByteArray×V):List (ByteArray×V)×Bool:=
 if s.2=false/\Op.bytesLess f.1.toList key.toList=false then (if f.1.toList=key.toList then (s.1++ [(key,v)],true) else (s.1++ [(key,v)] ++ [f],true))
 else if f.1.toList=key.toList then s else (s.1++ [f],s.2)
def fieldsDo (o:List (ByteArray×V)) (key:ByteArray) (v:V) (del:Bool):List (ByteArray×V):=
 if (o.foldl (fldStep key v) ([],del)).2=false then (o.foldl (fldStep key v) ([],del)).1++ [(key,v)] else (o.foldl (fldStep key v) ([],del)).1
theorem Xs (w:World) (n:Nat):uB w (w.drewN n):=Ye (Below.refl _ _) n
def lightB (v:V):Bool:=v.sound && decide (v.deep<=16) && decide (v.weight<=20000)
theorem zbr (b:UInt8):(low b).toNat<128:=by
 unfold low;rw [UInt8.toNat_ofNat'];omega
theorem zab {l:List UInt8} (h:∀b ∈ l,b.toNat<128):Lib.validD l=true:=by
 have:=Lib.validD_ascii l.length l (fun b hb=>h b (List.mem_of_mem_take hb))
 rw [this,List.drop_length];rfl
theorem zbh (s:ByteArray):Lib.validD (plainS s).data.toList=true:=by
 refine zab fun b hb=> ?_
 have:b ∈ plainL s.data.toList:=by simpa [plainS] using hb
 obtain ⟨c,_,rfl⟩:=List.mem_map.1 this
 exact zbr c
theorem zit (l:List Tk) (u:Nat):Lib.validD (keyP l u).data.toList=true:=by
 unfold keyP
 split
 .exact zbh _
 .rfl
theorem zqu (o:List (ByteArray×V)) (key:ByteArray):∀i a,o[i]? =some a->i<fieldK o key->Op.bytesLess a.1.toList key.toList=true:=by
 unfold fieldK
 induction o with
 |nil=>intro i a h;simp at h
 | cons f o ih=>
   intro i a h hi
   by_cases hf:Op.bytesLess f.1.toList key.toList=true
   .rw [List.takeWhile_cons,if_pos hf,List.length_cons] at hi
    cases i with
    |zero=>simp at h;subst h;exact hf
    |succ i=>exact ih i a (by simpa using h) (by omega)
   .rw [List.takeWhile_cons,if_neg hf] at hi
    simp at hi
theorem zli (o:List (ByteArray×V)) (key:ByteArray):∀a,o[fieldK o key]? =some a->Op.bytesLess a.1.toList key.toList=false:=by
 unfold fieldK
 induction o with
 |nil=>intro a h;simp at h
 | cons f o ih=>
   intro a h
   by_cases hf:Op.bytesLess f.1.toList key.toList=true
   .rw [List.takeWhile_cons,if_pos hf,List.length_cons] at h
    exact ih a (by simpa using h)
   .rw [List.takeWhile_cons,if_neg hf] at h
    simp at h;subst h
    cases hq:Op.bytesLess f.1.toList key.toList with
    |true=>exact absurd hq hf
    |false=>rfl
theorem K5 {x y z:List UInt8} (h:Op.bytesLess x y=true) (g:Op.bytesLess y z=true):Op.bytesLess x z=true:=by
 simp only [bytesLess_eq,decide_eq_true_eq] at*
 exact List.lt_trans h g
theorem X2 {o:List (ByteArray×V)} :rising o=true↔∀i a b,o[i]? =some a->o[i+1]? =some b->Op.bytesLess a.1.toList b.1.toList=true:=by
 rw [Kp]
 constructor
 .intro h i a b ha hb
  have hb1:=(List.getElem?_eq_some_iff.1 hb).1
  have:=h i hb1
  rw [List.getElem?_eq_getElem (by omega)] at ha
  rw [List.getElem?_eq_getElem hb1] at hb
  injection ha with ha;injection hb with hb
  rw [<-ha, <-hb];exact this
 .intro h i hi
  exact h i _ _ (List.getElem?_eq_getElem (by omega)) (List.getElem?_eq_getElem hi)
theorem zaz {o:List (ByteArray×V)} (key:ByteArray) (x:V) (h:rising o=true):rising (withF o key x)=true:=by
 rw [X2] at h ⊢
 obtain ⟨k,hk⟩:∃k,fieldK o key=k:=⟨_,rfl⟩
 have hkl:=Z7 o key
 have hlt:=zqu o key
 have hst:=zli o key
 obtain ⟨k',hk'⟩:∃k',(if fieldIs o key=true then fieldK o key+1 else fieldK o key)=k':=⟨_,rfl⟩
 have hnext:∀b,o[k']? =some b->Op.bytesLess key.toList b.1.toList=true:=by
  intro b hb
  by_cases e:fieldIs o key=true
  .rw [if_pos e,hk] at hk'
   unfold fieldIs at e
   rw [hk] at e
   cases hf:o[k]? with
   |none=>rw [hf] at e;cases e
   | some f=>
     rw [hf] at e
     have e:f.1.toList=key.toList:=by simpa using e
     rw [<-e]
     rw [<-hk'] at hb
     exact h k f b hf hb
  .rw [if_neg e,hk] at hk'
   unfold fieldIs at e
   rw [<-hk'] at hb
   have h1:=hst b (by rw [hk];exact hb)
   rw [hk,hb] at e
   rcases zbj b.1.toList key.toList with h2|h2|h2
   .rw [h1] at h2;cases h2
   .exact absurd (by simpa using h2) e
   .exact h2
 rw [hk] at hkl hlt
 have hw:withF o key x=o.take k++(key,x)::o.drop k':=by rw [withF,hk',hk]
 rw [hw]
 have l1:(o.take k).length=k:=by rw [List.length_take,Nat.min_eq_left hkl]
 have g1:∀i,i<k->(o.take k++(key,x)::o.drop k')[i]? =o[i]? :=fun i hi=>by
  rw [List.getElem?_append_left (by omega),List.getElem?_take_of_lt hi]
 have g2:(o.take k++(key,x)::o.drop k')[k]? =some (key,x):=by
  rw [List.getElem?_append_right (by omega),l1,Nat.sub_self];rfl
 have g3:∀m,(o.take k++(key,x)::o.drop k')[k+1+m]? =o[k'+m]? :=fun m=>by
  rw [List.getElem?_append_right (by omega),l1,show k+1+m - k=m+1 by omega,List.getElem?_cons_succ,List.getElem?_drop]
 intro i a b ha hb
 by_cases e1:i+1<k
 .rw [g1 _ (by omega)] at ha
  rw [g1 _ e1] at hb
  exact h i a b ha hb
 .by_cases e2:i+1=k
  .rw [g1 _ (by omega)] at ha
   rw [e2,g2] at hb
   injection hb with hb;subst hb
   exact hlt i a ha (by omega)
  .by_cases e3:i=k
   .subst e3
    rw [g2] at ha
    injection ha with ha;subst ha
    have:=g3 0
    rw [Nat.add_zero,Nat.add_zero] at this
    rw [this] at hb
    exact hnext b hb
   .obtain ⟨m,rfl⟩:∃m,i=k+1+m:=⟨i - k - 1,by omega⟩
    rw [g3] at ha
    rw [show k+1+m+1=k+1+(m+1) by omega,g3] at hb
    exact h (k'+m) a b ha hb
theorem zav {o:List (ByteArray×V)} {key:ByteArray} {x:V} {f:ByteArray×V} (h:f ∈ withF o key x):f ∈ o∨f=(key,x):=by
 unfold withF at h
 rcases List.mem_append.1 h with h|h
 .exact .inl (List.mem_of_mem_take h)
 .rcases List.mem_cons.1 h with h|h
  .exact .inr h
  .exact .inl (List.mem_of_mem_drop h)
theorem zdu (g:ByteArray×V->Nat) (o:List (ByteArray×V)) (key:ByteArray) (x:V):((withF o key x).map g).sum<=(o.map g).sum+g (key,x):=by
 have hd:∀n,((o.drop (n+1)).map g).sum<=((o.drop n).map g).sum:=fun n=>by
  rw [<-List.drop_drop,List.drop_one]
  cases o.drop n with
  |nil=>simp
  |cons a r=>simp
 have ht:((o.take (fieldK o key)).map g).sum+((o.drop (fieldK o key)).map g).sum=(o.map g).sum:=by
  rw [<-List.sum_append, <-List.map_append,List.take_append_drop]
 unfold withF
 rw [List.map_append,List.map_cons,List.sum_append,List.sum_cons]
 split
 .have:=hd (fieldK o key);omega
 .omega
theorem zea (o:List (ByteArray×V)):weightO o=(o.map fun f=>f.1.size+f.2.weight).sum:=by
 induction o with
 |nil=>rfl
 |cons f r ih=>rw [weightO,Yl,ih,List.map_cons,List.sum_cons]
theorem zei (o:List (ByteArray×V)):(encO o).length=(o.map fun f=>(encF f).length).sum:=by
 induction o with
 |nil=>rfl
 |cons f r ih=>rw [encO,List.length_append,ih,List.map_cons,List.sum_cons]
theorem zgm {l:List V} {n:Nat} (h:∀v ∈ l,v.deep+1<=n):deepL l<=n:=by
 induction l with
 |nil=>simp [deepL]
 | cons v r ih=>
   rw [deepL]
   have h1:=h v (by simp)
   have h2:=ih fun x hx=>h x (by simp [hx])
   omega
theorem zfr {o:List (ByteArray×V)} {n:Nat} (h:∀f ∈ o,f.2.deep+1<=n):deepO o<=n:=by
 induction o with
 |nil=>simp [deepO]
 | cons v r ih=>
   rw [deepO,Jp]
   have h1:=h v (by simp)
   have h2:=ih fun x hx=>h x (by simp [hx])
   omega
structure Built (d:Nat) (v:V) (u:Nat):Prop where
 sound:v.sound=true
 deep:v.deep<=d
 wt:v.weight+40<=81*(3*u+1)
 len:(encV v).length+44<=90*(3*u+1)
theorem zaw (d:Nat):Built d V.none 0:=⟨by simp [V.none,V.sound,plainB,rising,soundL,soundO],by simp [V.none,V.deep,deepL,deepO],by simp [V.none,V.weight,weightL,weightO],by simp [V.none,encV,Yr]⟩
theorem Built.more {d u u':Nat} {v:V} (h:Built d v u) (hu:u<=u'):Built d v u':=⟨h.sound,h.deep,by have:=h.wt;omega,by have:=h.len;omega⟩
theorem zd0 (d:Nat) (t:Tk):Built d (leafP t) 1:=by
 have hp:=Xb t.s
 have hv:=zbh t.s
 unfold leafP
 split
 .have:t.n % 2=0∨t.n % 2=1:=by omega
  refine ⟨?_,by simp [V.deep,deepL,deepO],by simp [V.weight,weightL,weightO],by simp [encV,Yr]⟩
  rcases this with h|h<;>simp [h,V.sound,plainB,rising,soundL,soundO]
 .split
  .exact ⟨by simp [V.sound,plainB,rising,soundL,soundO],by simp [V.deep,deepL,deepO],by simp [V.weight,weightL,weightO],by simp [encV,Yr]⟩
  .split
   .exact ⟨by simp [V.sound,plainB,rising,soundL,soundO,hv],by simp [V.deep,deepL,deepO],by simp [V.weight,weightL,weightO];omega,by simp [encV,Yr,zdd];omega⟩
   .split
    .exact ⟨by simp [V.sound,plainB,rising,soundL,soundO],by simp [V.deep,deepL,deepO],by simp [V.weight,weightL,weightO],by simp [encV,encL,Yr]⟩
    .split
     .exact ⟨by simp [V.sound,plainB,rising,soundL,soundO],by simp [V.deep,deepL,deepO],by simp [V.weight,weightL,weightO],by simp [encV,encO,Yr]⟩
     .exact (zaw d).more (by omega)
theorem zmo {d:Nat} {f:List Tk->V×Nat} (hf:∀l,Built d (f l).1 (f l).2) (l:List Tk):∀j,(∀v ∈ (bL f l j).1,v.sound=true/\v.deep<=d)/\1<=(bL f l j).2/\weightL (bL f l j).1+40*j<=81*(3*((bL f l j).2 - 1)+j)/\(encL (bL f l j).1).length+44*j<=90*(3*((bL f l j).2 - 1)+j):=by
 intro j
 induction j with
 |zero=>exact ⟨by simp [bL],by simp [bL],by simp [bL,weightL],by simp [bL,encL]⟩
 | succ j ih=>
   obtain ⟨h1,h2,h3,h4⟩:=ih
   rw [bL]
   have hb:=hf (l.drop (bL f l j).2)
   have hw:=hb.wt
   have hn:=hb.len
   dsimp only
   rw [Xt,zob,List.length_append]
   simp only [weightL,encL,List.append_nil]
   refine ⟨fun v hv=> ?_,by omega,by omega,by omega⟩
   rcases List.mem_append.1 hv with hv|hv
   .exact h1 v hv
   .rw [List.mem_singleton] at hv;subst hv;exact ⟨hb.sound,hb.deep⟩
theorem zpb {d:Nat} {f:List Tk->V×Nat} (hf:∀l,Built d (f l).1 (f l).2) (l:List Tk):∀j,(∀g ∈ (bO f l j).1,Lib.validD g.1.data.toList=true/\g.2.sound=true/\g.2.deep<=d)/\rising (bO f l j).1=true/\1<=(bO f l j).2/\weightO (bO f l j).1<=81*(3*((bO f l j).2 - 1)+j)/\(encO (bO f l j).1).length<=90*(3*((bO f l j).2 - 1)+j):=by
 intro j
 induction j with
 |zero=>exact ⟨by simp [bO],by simp [bO,rising],by simp [bO],by simp [bO,weightO],by simp [bO,encO]⟩
 | succ j ih=>
   obtain ⟨h1,h5,h2,h3,h4⟩:=ih
   rw [bO]
   have hb:=hf (l.drop (bO f l j).2)
   have hw:=hb.wt
   have hn:=hb.len
   have hk:=zcd l (bO f l j).2
   have s1:=zdu (fun f=>f.1.size+f.2.weight) (bO f l j).1 (keyP l (bO f l j).2) (f (l.drop (bO f l j).2)).1
   have s2:=zdu (fun f=>(encF f).length) (bO f l j).1 (keyP l (bO f l j).2) (f (l.drop (bO f l j).2)).1
   rw [<-zea, <-zea] at s1
   rw [<-zei, <-zei] at s2
   rw [zgi,List.length_append,zdd] at s2
   dsimp only at*
   refine ⟨fun v hv=> ?_,zaz _ _ h5,by omega,by omega,by omega⟩
   rcases zav hv with hv|hv
   .exact h1 v hv
   .subst hv;exact ⟨zit _ _,hb.sound,hb.deep⟩
theorem zp5 (d:Nat):∀l,Built d (oneP d l).1 (oneP d l).2:=by
 induction d with
 | zero=>
   intro l
   cases l with
   |nil=>exact zaw 0
   |cons t r=>exact zd0 0 t
 | succ d ih=>
   intro l
   cases l with
   |nil=>exact zaw _
   | cons t r=>
     have hK:(t.m % 4).toNat<=3:=by omega
     obtain ⟨K,hk⟩:∃K,(t.m % 4).toNat=K:=⟨_,rfl⟩
     rw [oneP,hk]
     rw [hk] at hK
     split
     .obtain ⟨h1,h2,h3,h4⟩:=zmo ih (t::r) K
      obtain ⟨p,hp⟩:∃p,bL (oneP d) (t::r) K=p:=⟨_,rfl⟩
      rw [hp] at h1 h2 h3 h4 ⊢
      refine ⟨?_, ?_, ?_, ?_⟩
      .simp only [V.sound,Bool.and_eq_true]
       exact ⟨⟨⟨by simp [plainB],rfl⟩,(Kw _).2 fun v hv=>(h1 v hv).1⟩,rfl⟩
      .simp only [V.deep,deepO]
       have:=zgm (n:=d+1) fun v hv=>by have:=(h1 v hv).2;omega
       omega
      .simp only [V.weight,weightO,show ByteArray.empty.size=0 from rfl];omega
      .rw [encV,if_neg (by omega),if_neg (by omega),if_pos rfl,List.length_append,List.length_append,Yr,Yr];omega
     .split
      .obtain ⟨h1,h5,h2,h3,h4⟩:=zpb ih (t::r) K
       obtain ⟨p,hp⟩:∃p,bO (oneP d) (t::r) K=p:=⟨_,rfl⟩
       rw [hp] at h1 h5 h2 h3 h4 ⊢
       refine ⟨?_, ?_, ?_, ?_⟩
       .simp only [V.sound,Bool.and_eq_true]
        exact ⟨⟨⟨by simp [plainB],h5⟩,rfl⟩,(K0 _).2 fun v hv=>⟨(h1 v hv).1,(h1 v hv).2.1⟩⟩
       .simp only [V.deep,deepL]
        have:=zfr (n:=d+1) fun v hv=>by have:=(h1 v hv).2.2;omega
        omega
       .simp only [V.weight,weightL,show ByteArray.empty.size=0 from rfl];omega
       .rw [encV,if_neg (by omega),if_neg (by omega),if_neg (by omega),if_pos rfl,List.length_append,List.length_append,Yr,Yr];omega
      .exact zd0 _ t
theorem Y7 (l:List Tk):lightB (oneP 6 (l.take 60)).1=true/\(oneP 6 (l.take 60)).1.weight<=20000/\(oneP 6 (l.take 60)).1.deep<=6/\(oneP 6 (l.take 60)).1.sound=true/\(encV (oneP 6 (l.take 60)).1).length<=60000:=by
 have hb:=zp5 6 (l.take 60)
 have hu:=Jn 6 (l.take 60)
 rw [List.length_take] at hu
 have h1:=hb.wt
 have h2:=hb.len
 have h3:=hb.deep
 refine ⟨?_,by omega,h3,hb.sound,by omega⟩
 rw [lightB,hb.sound,decide_eq_true (by omega:(oneP 6 (l.take 60)).1.deep<=16),decide_eq_true (by omega:(oneP 6 (l.take 60)).1.weight<=20000)];rfl
def remF (o:List (ByteArray×V)) (key:ByteArray):List (ByteArray×V):=o.take (fieldK o key)++o.drop (if fieldIs o key=true then fieldK o key+1 else fieldK o key)
def newF (o:List (ByteArray×V)) (key:ByteArray) (v:V) (del:Bool):List (ByteArray×V):=if del=true then remF o key else withF o key v
def finF (key:ByteArray) (v:V) (s:List (ByteArray×V)×Bool):List (ByteArray×V):=if s.2=false then s.1++ [(key,v)] else s.1
theorem zgw {f:ByteArray×V} :∀ {r:List (ByteArray×V)},rising (f::r)=true->(∀g ∈ r,Op.bytesLess f.1.toList g.1.toList=true)/\rising r=true:=by
 intro r
 induction r generalizing f with
 |nil=>intro _;exact ⟨fun g hg=>by simp at hg,rfl⟩
 | cons b r ih=>
   intro h
   simp only [rising,Bool.and_eq_true] at h
   obtain ⟨h1,h2⟩:=ih h.2
   refine ⟨fun g hg=> ?_,h.2⟩
   rcases List.mem_cons.1 hg with rfl|hg
   .exact h.1
   .exact K5 h.1 (h1 g hg)
theorem Ks (key:ByteArray) (v:V):∀(o acc:List (ByteArray×V)),(∀f ∈ o,f.1.toList≠key.toList)->o.foldl (fldStep key v) (acc,true)=(acc++o,true):=by
 intro o
 induction o with
 |nil=>intro acc _;simp
 | cons f r ih=>
   intro acc h
   rw [List.foldl_cons]
   have h1:fldStep key v (acc,true) f=(acc++ [f],true):=by
    unfold fldStep
    rw [if_neg (by simp),if_neg (h f (List.mem_cons_self ..))]
   rw [h1,ih _ (fun g hg=>h g (List.mem_cons_of_mem _ hg))]
   simp
theorem zjl (key:ByteArray) (v:V) (del:Bool):∀(o acc:List (ByteArray×V)),rising o=true->finF key v (o.foldl (fldStep key v) (acc,del))=acc++newF o key v del:=by
 intro o
 induction o with
 |nil=>intro acc _;cases del<;>simp [finF,newF,remF,withF]
 | cons f r ih=>
   intro acc h
   obtain ⟨ha,hr⟩:=zgw h
   rw [List.foldl_cons]
   by_cases hf:Op.bytesLess f.1.toList key.toList=true
   .have hne:f.1.toList≠key.toList:=(X8 _ _ hf).2
    have h1:fldStep key v (acc,del) f=(acc++ [f],del):=by
     unfold fldStep
     rw [if_neg (by rw [hf];simp),if_neg hne]
    have hk:fieldK (f::r) key=fieldK r key+1:=by
     unfold fieldK;rw [List.takeWhile_cons,if_pos hf,List.length_cons]
    have hi:fieldIs (f::r) key=fieldIs r key:=by
     unfold fieldIs;rw [hk,List.getElem?_cons_succ]
    rw [h1,ih _ hr]
    have:newF (f::r) key v del=f::newF r key v del:=by
     unfold newF remF withF
     rw [hk,hi]
     have e:(if fieldIs r key=true then fieldK r key+1+1 else fieldK r key+1)=(if fieldIs r key=true then fieldK r key+1 else fieldK r key)+1:=by split<;>rfl
     rw [e,List.drop_succ_cons,List.take_succ_cons]
     cases del<;>simp
    rw [this];simp
   .have hf':Op.bytesLess f.1.toList key.toList=false:=by simpa using hf
    have hne:∀g ∈ r,g.1.toList≠key.toList:=fun g hg e=>by
     have:=ha g hg
     rw [e,hf'] at this;cases this
    have hk:fieldK (f::r) key=0:=by
     unfold fieldK;rw [List.takeWhile_cons,if_neg hf];rfl
    have hi:fieldIs (f::r) key=(f.1.toList==key.toList):=by
     unfold fieldIs;rw [hk];rfl
    unfold newF remF withF
    rw [hk,hi]
    by_cases he:f.1.toList=key.toList
    .cases del with
     | true=>
       have h1:fldStep key v (acc,true) f=(acc,true):=by
        unfold fldStep
        rw [if_neg (by simp),if_pos he]
       rw [h1,Ks key v r acc hne]
       simp [finF,he]
     | false=>
       have h1:fldStep key v (acc,false) f=(acc++ [(key,v)],true):=by
        unfold fldStep
        rw [if_pos ⟨rfl,hf'⟩,if_pos he]
       rw [h1,Ks key v r _ hne]
       simp [finF,he]
    .have heb:(f.1.toList==key.toList)=false:=by simpa using he
     cases del with
     | true=>
       have h1:fldStep key v (acc,true) f=(acc++ [f],true):=by
        unfold fldStep
        rw [if_neg (by simp),if_neg he]
       rw [h1,Ks key v r _ hne]
       simp [finF,heb]
     | false=>
       have h1:fldStep key v (acc,false) f=(acc++ [(key,v)] ++ [f],true):=by
        unfold fldStep
        rw [if_pos ⟨rfl,hf'⟩,if_neg he]
       rw [h1,Ks key v r _ hne]
       simp [finF,heb]
theorem Xo {o:List (ByteArray×V)} (h:rising o=true) (key:ByteArray) (v:V) (del:Bool):fieldsDo o key v del=newF o key v del:=by
 have:=zjl key v del o [] h
 rw [List.nil_append] at this
 rw [<-this];rfl
theorem zhk (o:List (ByteArray×V)) (key:ByteArray) (v:V):(remF o key).take (fieldK o key)++(key,v)::(remF o key).drop (fieldK o key)=withF o key v:=by
 have hl:(o.take (fieldK o key)).length=fieldK o key:=by rw [List.length_take,Nat.min_eq_left (Z7 o key)]
 unfold remF withF
 rw [List.take_left' hl,List.drop_left' hl]
theorem zbx (co:List (ByteArray×VC)):∀i,(co.flatMap fcells).take (i*6)=(co.take i).flatMap fcells:=by
 induction co with
 |nil=>intro i;simp
 | cons c r ih=>
   intro i
   cases i with
   |zero=>simp
   | succ i=>
     rw [List.flatMap_cons,List.take_succ_cons,List.flatMap_cons, <-ih i,List.take_append,List.take_of_length_le (by simp [fcells];omega),show (i+1)*6 - (fcells c).length=i*6 by simp [fcells];omega]
theorem zcf (co:List (ByteArray×VC)):∀i,(co.flatMap fcells).drop (i*6)=(co.drop i).flatMap fcells:=by
 induction co with
 |nil=>intro i;simp
 | cons c r ih=>
   intro i
   cases i with
   |zero=>simp
   | succ i=>
     rw [List.flatMap_cons,List.drop_succ_cons, <-ih i,List.drop_append,List.drop_eq_nil_of_le (by simp [fcells];omega),List.nil_append,show (i+1)*6 - (fcells c).length=i*6 by simp [fcells];omega]
theorem zpf {w:World} {B1:Nat} {S:Nat->Prop} {v:Value} {l:List V} {cs:List VC} (hown:w.ownsRow B1 36 5 v l.length (cs.flatMap vcells)) (hS:∀g,v.ownBlock=some g->S g) (hl:cs.length=l.length) (hels:∀i,i<l.length->PV l cs (only S w) w.heap.size i) (hfew:l.length<=1466015503701):
 ∃a n c,v= .slice a n c/\IsVals (only S w) w.heap.size l a n c/\(a=none->c=0):=by
 obtain ⟨a,c,hv,hr⟩:=OwnRow.of (base':=B1) hown (Nat.le_refl _)
 have hI:=Qy (w:=only S w) (B:=w.heap.size) (k:=0) (n:=0) (s:= .empty) (l:=l) (o:= []) (a:=a) (m:=l.length) (c:=c) (a':=none) (m':=0) (c':=0) (cl:=cs) (co:= []) (by omega) (by omega) (by omega) (by omega) (by decide) rfl rfl hl rfl hfew (by simp) hr.cap hr.max (by omega) (by omega) (fun hp=>by
  obtain ⟨g,e,hg,hbc⟩:=hr.row (.inl hp)
  have hSg:=hS g (by rw [hv,e];rfl)
  exact ⟨g,e,hbc.lt,fun i hi=>Yw hSg (Y2 hbc hi)⟩) (fun h=>absurd h (by omega)) hels (fun i h=>absurd h (by simp))
 refine ⟨a,l.length,c,hv,hI.lists.2.2.2.2.1,fun ha=> ?_⟩
 by_cases hn:l.length=0
 .exact hr.none_ hn ha
 .obtain ⟨g,e,_⟩:=hr.row (.inl (by omega))
  rw [ha] at e;cases e
theorem zj0 {w:World} {B1:Nat} {S:Nat->Prop} {v:Value} {l:List (ByteArray×V)} {cs:List (ByteArray×VC)} (hown:w.ownsRow B1 75 6 v l.length (cs.flatMap fcells)) (hS:∀g,v.ownBlock=some g->S g) (hl:cs.length=l.length) (hels:∀i,i<l.length->PF l cs (only S w) w.heap.size i) (hfew:l.length<=1466015503701):
 ∃a n c,v= .slice a n c/\IsFields (only S w) w.heap.size l a n c/\(a=none->c=0):=by
 obtain ⟨a,c,hv,hr⟩:=OwnRow.of (base':=B1) hown (Nat.le_refl _)
 have hI:=Qy (w:=only S w) (B:=w.heap.size) (k:=0) (n:=0) (s:= .empty) (l:= []) (o:=l) (a:=none) (m:=0) (c:=0) (a':=a) (m':=l.length) (c':=c) (cl:= []) (co:=cs) (by omega) (by omega) (by omega) (by omega) (by decide) rfl rfl rfl hl (by simp) hfew (by omega) (by omega) hr.cap hr.max (fun h=>absurd h (by omega)) (fun hp=>by
  obtain ⟨g,e,hg,hbc⟩:=hr.row (.inl hp)
  have hSg:=hS g (by rw [hv,e];rfl)
  exact ⟨g,e,hbc.lt,fun i hi=>⟨Z3 hSg (Yd hbc hi).1,Yw hSg (Yd hbc hi).2⟩⟩) (fun i h=>absurd h (by simp)) hels
 refine ⟨a,l.length,c,hv,hI.lists.2.2.2.2.2,fun ha=> ?_⟩
 by_cases hn:l.length=0
 .exact hr.none_ hn ha
 .obtain ⟨g,e,_⟩:=hr.row (.inl (by omega))
  rw [ha] at e;cases e
structure FRow (w:World) (base:Nat) (S:Nat->Prop) (u:Value) (o:List (ByteArray×V)) (co:List (ByteArray×VC)):Prop where
 len:co.length=o.length
 own:w.ownsRow base 75 6 u o.length (co.flatMap fcells)
 keys:∀i (h:i<o.length) (h':i<co.length),co[i].1=o[i].1/\o[i].1.size<=140737488355328
 els:∀i (h:i<o.length) (h':i<co.length),IsVal (only (fun k=>S k/\u.ownBlock≠some k) w) w.heap.size o[i].2 co[i].2
theorem FRow.of {w:World} {base:Nat} {S:Nat->Prop} {o:List (ByteArray×V)} {d:VC} {x:V} (h:Whole w base x d) (hx:x.os=o) (hS:∀k,base<=k->k<w.heap.size->S k):∃co,FRow w base S (.slice d.oa d.ol d.oc) o co:=by
 obtain ⟨h1,h2,cl,co,s,W0,h3⟩:=h
 subst hx
 refine ⟨co,h3.lenO,h3.rowO,h3.keys,fun i hi hi'=> ?_⟩
 obtain ⟨T,t1,_,t3⟩:=h3.elsO i hi hi' (by omega)
 refine t3.isVal fun k hk=> ?_
 have h0:=h3.mono 0 (x.ls.length+i) (Nat.zero_le _) (by omega)
 have:=t1 k hk
 have hb:=t3.bnd k hk
 exact ⟨hS k (by have:=h3.s0;omega) hb,fun e=>by have:=h3.loO k e;omega⟩
theorem Whole.lists {w:World} {base:Nat} {S:Nat->Prop} {d:VC} {x:V} (h:Whole w base x d) (hS:∀k,base<=k->k<w.heap.size->S k) (hfew:x.ls.length<=1466015503701):
 IsVals (only (fun k=>S k/\(Value.slice d.oa d.ol d.oc).ownBlock≠some k) w) w.heap.size x.ls d.la d.ll d.lc:=by
 obtain ⟨h1,h2,cl,co,s,W0,h3⟩:=h
 have h:=zpf (S:=fun k=>S k/\(Value.slice d.oa d.ol d.oc).ownBlock≠some k) h3.rowL (fun g hg=>⟨hS g (h3.rowL.lt g hg).1 (h3.rowL.lt g hg).2,h3.apart g hg⟩) h3.lenL (fun i hi hi'=> ?_) hfew
 .obtain ⟨a,n,c,e,hI,_⟩:=h
  injection e with e1 e2 e3
  rw [e1,e2,e3];exact hI
 .have e:cl.getD i vzero=cl[i]'(by have:=h3.lenL;omega):=by rw [List.getD_eq_getElem?_getD,List.getElem?_eq_getElem (by have:=h3.lenL;omega)];rfl
  rw [e]
  obtain ⟨T,t1,_,t3⟩:=h3.elsL i hi (by have:=h3.lenL;omega) (by omega)
  refine t3.isVal fun k hk=> ?_
  have h0:=h3.mono 0 i (Nat.zero_le _) (by omega)
  have:=t1 k hk
  have hb:=t3.bnd k hk
  exact ⟨hS k (by have:=h3.s0;omega) hb,fun e=>by have:=h3.loO k e;omega⟩
theorem FRow.later {w w':World} {base:Nat} {S:Nat->Prop} {u:Value} {o:List (ByteArray×V)} {co:List (ByteArray×VC)} (h:FRow w base S u o co) (hb:uB w w'):FRow w' base S u o co:=
 ⟨h.len,h.own.kept (row:=none) ⟨hb.os,hb.tape,hb.output,hb.size,fun k hk _=>hb.block k hk⟩ (by cases hv:u.ownBlock<;>simp),h.keys,fun i hi hi'=>((h.els i hi hi').sub (Zd fun k hk hl=>⟨hk,hb.block k hl⟩)).more hb.size⟩
theorem zbu {w w':World} {S:Nat->Prop} {u u':Value} (hg:w.grownBy w' u.ownBlock) (hu:u'.ownBlock=u.ownBlock∨u'.ownBlock=some w.heap.size):Shows (only (fun k=>S k/\u.ownBlock≠some k) w) (only (fun k=>S k/\u'.ownBlock≠some k) w') w.heap.size:=
 Zd fun k hk hl=>⟨⟨hk.1,fun e=>by
  rcases hu with hu|hu
  .exact hk.2 (hu ▸ e)
  .rw [hu] at e;injection e with e;omega⟩,hg.block k hl (fun e=>hk.2 e.symm)⟩
theorem FRow.ins {w w':World} {base i:Nat} {S:Nat->Prop} {u u':Value} {o:List (ByteArray×V)} {co:List (ByteArray×VC)} {key:ByteArray} {x:V} {cx:VC} (h:FRow w base S u o co) (hi:i<=o.length) (hks:key.size<=140737488355328) (hx:IsVal (only (fun k=>S k/\u.ownBlock≠some k) w) w.heap.size x cx)
 (ho:w'.ownsRow base 75 6 u' (o.length+1) ((co.flatMap fcells).take (i*6)++fcells (key,cx)++(co.flatMap fcells).drop (i*6))) (hg:w.grownBy w' u.ownBlock) (hu:u'.ownBlock=u.ownBlock∨u'.ownBlock=some w.heap.size):
 FRow w' base S u' (o.take i++(key,x)::o.drop i) (co.take i++(key,cx)::co.drop i):=by
 have hl:=h.len
 have mv:∀ {y:V} {c:VC},IsVal (only (fun k=>S k/\u.ownBlock≠some k) w) w.heap.size y c->IsVal (only (fun k=>S k/\u'.ownBlock≠some k) w') w'.heap.size y c:=fun hy=>(hy.sub (zbu hg hu)).more hg.size
 have e:(o.take i++(key,x)::o.drop i).length=o.length+1:=by simp;omega
 have els:∀k (hk:k<(o.take i++(key,x)::o.drop i).length) (hk':k<(co.take i++(key,cx)::co.drop i).length),((co.take i++(key,cx)::co.drop i)[k].1=(o.take i++(key,x)::o.drop i)[k].1/\(o.take i++(key,x)::o.drop i)[k].1.size<=140737488355328)/\IsVal (only (fun k=>S k/\u'.ownBlock≠some k) w') w'.heap.size (o.take i++(key,x)::o.drop i)[k].2 (co.take i++(key,cx)::co.drop i)[k].2:=by
  intro k hk hk'
  by_cases h1:k<i
  .rw [List.getElem_append_left (by rw [List.length_take];omega),List.getElem_append_left (by rw [List.length_take];omega),List.getElem_take,List.getElem_take]
   exact ⟨h.keys k (by omega) (by omega),mv (h.els k (by omega) (by omega))⟩
  .rw [List.getElem_append_right (by rw [List.length_take];omega),List.getElem_append_right (by rw [List.length_take];omega)]
   have e1:k - (o.take i).length=k - i:=by rw [List.length_take];omega
   have e2:k - (co.take i).length=k - i:=by rw [List.length_take];omega
   simp only [e1,e2]
   rw [e] at hk
   by_cases h2:k - i=0
   .rw [List.getElem_cons,List.getElem_cons,dif_pos h2,dif_pos h2]
    exact ⟨⟨rfl,hks⟩,mv hx⟩
   .rw [List.getElem_cons,List.getElem_cons,dif_neg h2,dif_neg h2,List.getElem_drop,List.getElem_drop]
    exact ⟨h.keys (i+(k - i - 1)) (by omega) (by omega),mv (h.els (i+(k - i - 1)) (by omega) (by omega))⟩
 refine ⟨by simp [hl], ?_,fun k hk hk'=>(els k hk hk').1,fun k hk hk'=>(els k hk hk').2⟩
 rw [zbx,zcf] at ho
 rw [e,List.flatMap_append,List.flatMap_cons, <-List.append_assoc]
 exact ho
theorem FRow.rem {w w':World} {base i:Nat} {S:Nat->Prop} {u u':Value} {o:List (ByteArray×V)} {co:List (ByteArray×VC)} (h:FRow w base S u o co) (hi:i<o.length)
 (ho:w'.ownsRow base 75 6 u' (o.length - 1) ((co.flatMap fcells).take (i*6)++(co.flatMap fcells).drop ((i+1)*6))) (hg:w.grownBy w' u.ownBlock) (hu:u'.ownBlock=u.ownBlock∨u'.ownBlock=some w.heap.size):
 FRow w' base S u' (o.take i++o.drop (i+1)) (co.take i++co.drop (i+1)):=by
 have hl:=h.len
 have mv:∀ {y:V} {c:VC},IsVal (only (fun k=>S k/\u.ownBlock≠some k) w) w.heap.size y c->IsVal (only (fun k=>S k/\u'.ownBlock≠some k) w') w'.heap.size y c:=fun hy=>(hy.sub (zbu hg hu)).more hg.size
 have e:(o.take i++o.drop (i+1)).length=o.length - 1:=by simp;omega
 have els:∀k (hk:k<(o.take i++o.drop (i+1)).length) (hk':k<(co.take i++co.drop (i+1)).length),((co.take i++co.drop (i+1))[k].1=(o.take i++o.drop (i+1))[k].1/\(o.take i++o.drop (i+1))[k].1.size<=140737488355328)/\IsVal (only (fun k=>S k/\u'.ownBlock≠some k) w') w'.heap.size (o.take i++o.drop (i+1))[k].2 (co.take i++co.drop (i+1))[k].2:=by
  intro k hk hk'
  rw [e] at hk
  by_cases h1:k<i
  .rw [List.getElem_append_left (by rw [List.length_take];omega),List.getElem_append_left (by rw [List.length_take];omega),List.getElem_take,List.getElem_take]
   exact ⟨h.keys k (by omega) (by omega),mv (h.els k (by omega) (by omega))⟩
  .rw [List.getElem_append_right (by rw [List.length_take];omega),List.getElem_append_right (by rw [List.length_take];omega)]
   have e1:k - (o.take i).length=k - i:=by rw [List.length_take];omega
   have e2:k - (co.take i).length=k - i:=by rw [List.length_take];omega
   simp only [e1,e2,List.getElem_drop]
   exact ⟨h.keys (i+1+(k - i)) (by omega) (by omega),mv (h.els (i+1+(k - i)) (by omega) (by omega))⟩
 refine ⟨by simp [hl], ?_,fun k hk hk'=>(els k hk hk').1,fun k hk hk'=>(els k hk hk').2⟩
 rw [zbx,zcf] at ho
 rw [e,List.flatMap_append]
 exact ho
theorem FRow.flds {w:World} {base:Nat} {S:Nat->Prop} {u:Value} {o:List (ByteArray×V)} {co:List (ByteArray×VC)} (h:FRow w base S u o co) (hS:∀g,u.ownBlock=some g->S g) (hfew:o.length<=1466015503701):∃a n c,u= .slice a n c/\IsFields (only S w) w.heap.size o a n c/\(a=none->c=0):=by
 refine zj0 h.own hS h.len (fun i hi=> ?_) hfew
 intro hi'
 have e:co.getD i fzero=co[i]'(by have:=h.len;omega):=by rw [List.getD_eq_getElem?_getD,List.getElem?_eq_getElem (by have:=h.len;omega)];rfl
 rw [e]
 obtain ⟨k1,k2⟩:=h.keys i hi (by have:=h.len;omega)
 exact ⟨k1,k2,(h.els i hi (by have:=h.len;omega)).sub (Zd fun k hk _=>⟨hk.1,rfl⟩)⟩
theorem BC.grown {w w':World} {b:Nat} {u:Option Nat} {cs:List Value} (h:BC w b cs) (hg:w.grownBy w' u) (hne:u≠some b):BC w' b cs:=by
 have hb:=hg.block b h.lt (fun e=>hne e.symm)
 exact ⟨fun j x hj=>(World.cell?_of_block hb).trans (h.at_ j x hj),fun j=>(Y0 hb).trans (h.fr j),Nat.lt_of_lt_of_le h.lt hg.size⟩
theorem zcy (s:ByteArray) (i:Nat):s.extract i s.size=⟨(s.data.toList.drop i).toArray⟩:=by
 apply ByteArray.ext
 apply Array.ext'
 rw [ByteArray.data_extract,Array.toList_extract,List.extract_eq_take_drop]
 exact List.take_of_length_le (by rw [List.length_drop,Array.length_toList];exact Nat.le_refl _)
theorem zbd (s:ByteArray) (i:Nat):Utf8.decode s i=Lib.decodeL (s.data.toList.drop i):=by
 have h:=Lib.tail_decode s i 0
 rw [Nat.add_zero,zcy] at h
 exact h.symm
theorem zfp (s:ByteArray) (f:Nat):∀i,Lib.runeCountFrom s f i=(cutsP f i (s.data.toList.drop i)).length:=by
 induction f with
 |zero=>intro i;rfl
 | succ f ih=>
   intro i
   have hz:s.data.toList.length=s.size:=Array.length_toList
   unfold cutsP Lib.runeCountFrom
   by_cases h:i<s.size
   .rw [if_pos h,if_neg (fun e=>by have:=congrArg List.length e;rw [List.length_drop,hz] at this;simp at this;omega),List.length_cons,ih,zbd,List.drop_drop]
    omega
   .rw [if_neg h,if_pos (List.drop_eq_nil_of_le (by omega))];rfl
theorem zkn (s:ByteArray):Lib.runeCount s=textN s:=by
 rw [Lib.runeCount,zfp,List.drop_zero,textN,cuts,List.length_append];rfl
theorem zc5 (w:World) (s:ByteArray) (hs:s.size<=1000000000000):
 uP 101 #[.string s] w fun e w'=>e= .returned (.int .i64 (textN s:Int))/\uB w w':=by
 delta uB uP
 have HC:=qh (Tryz.utf8_RuneCountInString s w (by omega))
 rw [<-zkn]
 go_enter Tryz.func101,Tryz.ntmps101
 go_wp2_with fail
 refine HC.out.mono ?_
 rintro e w1 ⟨rfl,pos,rfl⟩
 go_wp2_with fail
 go_returns
 exact ⟨rfl,(Below.refl _ _).alloc (Nat.le_refl _) _⟩
end Go.Proofs.YtnjgbiachcfigaaGreatDoor
