/-
  Contracts of the functions that the law reaches: conciliatorref06.Sound, by kinds.
-/
import Derived.Test.YtbgheehjfnoiiaaGreatDoorOn22
namespace Go.Proofs.YtbgheehjfnoiiaaGreatDoor
open Go.RowKit
set_option maxHeartbeats 8000000
set_option maxRecDepth 100000 in
theorem zno (w:World) (c:CC) {R ps vk vs bk be i0 j0 n0 vn sd:Bool} {dp wt:Nat} (h:SndH w c R ps vk vs bk be i0 j0 n0 vn sd dp wt) (ek:c.k=2):
 uP 106 #[.agg (uC c)] w fun e w'=>e= .returned (.bool R)/\uB w w':=by
 delta uC uB uP
 obtain ⟨hbk,hbe,hi0,hj0,hn0,HPS,HVK,HVS,HVN,HSD,HDP,HWT,HSAYS,⟨k1,k4,k5⟩,hR2⟩:=h
 have bx:=Yk w c 54
 have e1:saysB c.k= { data:= #[75,86] } :=by rw [ek];rfl
 rw [e1] at HSAYS
 have HIN:∀(b:Nat) {t:Bool},hasB { data:= #[75,86] } b=t->Hid (Behind w 146 #[.string { data:= #[75,86] }, .int .u8 b] (.bool t)):=fun b t ht W _=>by rw [<-ht];exact Yv { data:= #[75,86] } b W (by decide)
 have hR3:R=sndB true true false false false false true bk (!i0) (!j0) (!n0) be vn ps vk vs (decide (0<=c.i)) (decide (0<=c.j)) false false sd (decide (c.pl+1+dp<=16)) (decide (wt<=20000)):=by
  rw [hR2,ek]
  first|rfl|(cases be<;>rfl)
 have HR:=qh hR3
 have f8:(c.k==8)=false:=by rw [ek];rfl
 have f9:(c.k==9)=false:=by rw [ek];rfl
 have HLK:Hid (Behind w 146 #[.string { data:= #[75,86] }, .int .u8 75] (.bool true)):=HIN 75 (by decide);have HLI:Hid (Behind w 146 #[.string { data:= #[75,86] }, .int .u8 73] (.bool false)):=HIN 73 (by decide);have HLJ:Hid (Behind w 146 #[.string { data:= #[75,86] }, .int .u8 74] (.bool false)):=HIN 74 (by decide);have HLN:Hid (Behind w 146 #[.string { data:= #[75,86] }, .int .u8 78] (.bool false)):=HIN 78 (by decide);have HLS:Hid (Behind w 146 #[.string { data:= #[75,86] }, .int .u8 83] (.bool false)):=HIN 83 (by decide);have HLV:Hid (Behind w 146 #[.string { data:= #[75,86] }, .int .u8 86] (.bool true)):=HIN 86 (by decide)
 clear hR2 hR3 e1 HIN ek
 go_enter Tryz.func106,Tryz.ntmps106
 go_wp2_with ((go_at_call 144;(with_reducible refine (Behind.at_ HSAYS.out ?_).mono ?_));(focus (have:=bx.below;have:=bx.size;go_grown));rintro e w1 ⟨rfl,hb1⟩;replace bx:=(bx.step (by go_grown)).step hb1;obtain ⟨zs,z0,z1,z2,z3,z4,z5,z6,y0,y1,y2,y3,y4⟩:=bx.all)
 rcases bcT ps (bcF i0 (bcF j0 (bcF n0 (bcT be (bcT vk (bcT vs (bcP (c.i<0) (bcP (c.j<0) trivial)))))))) with rfl|⟨rfl,(rfl|⟨rfl,(rfl|⟨rfl,(rfl|⟨rfl,(rfl|⟨rfl,(rfl|⟨rfl,(rfl|⟨rfl,(hpi|⟨hpi,(hpj|⟨hpj,_⟩)⟩)⟩)⟩)⟩)⟩)⟩)⟩)⟩
 all_goals go_wp2_with ((first|(go_at_call 145;(with_reducible refine (Behind.at_ HPS.out ?_).mono ?_))|(go_at_call 146;(with_reducible refine (Behind.at_ HLK.out ?_).mono ?_))|(go_at_call 146;(with_reducible refine (Behind.at_ HLI.out ?_).mono ?_))|(go_at_call 146;(with_reducible refine (Behind.at_ HLJ.out ?_).mono ?_))|(go_at_call 146;(with_reducible refine (Behind.at_ HLN.out ?_).mono ?_))|(go_at_call 146;(with_reducible refine (Behind.at_ HLS.out ?_).mono ?_))|(go_at_call 146;(with_reducible refine (Behind.at_ HLV.out ?_).mono ?_))|(go_at_call 99;(with_reducible refine (Behind.at_ HVK.out ?_).mono ?_))|(go_at_call 99;(with_reducible refine (Behind.at_ HVS.out ?_).mono ?_)));(focus (have:=bx.below;have:=bx.size;go_grown));rintro e w1 ⟨rfl,hb1⟩;replace bx:=(bx.step (by go_grown)).step hb1;obtain ⟨zs,z0,z1,z2,z3,z4,z5,z6,y0,y1,y2,y3,y4⟩:=bx.all)
 iterate 9 (focus (go_ret;exact ⟨Zc (by rw [HR.out];first|(simp [sndB, *];done)|(simp [sndB, *];intros;omega)),by have:=bx.below;have:=bx.size;go_grown⟩))
 have a0:=Za bx.at_.c6.c0;have a1:=Za bx.at_.c6.c1;have a2:=Za bx.at_.c6.c2;have a3:=Za bx.at_.c6.c3;have a4:=Za bx.at_.c6.c4;have a5:=Za bx.at_.c1
 have hbx:=bx.below
 have hbs:=bx.size
 rcases bcT sd (Yy c.pl dp) with rfl|⟨rfl,(⟨hd,hdI,hdB⟩|⟨hd,hdI,hdB⟩)⟩
 all_goals
  refine Zh (by kernel_rfl) (by kernel_rfl) ?_
  repeat (go_big_quiet_step ((first|(go_at_call 147;exact Zg (HSD.out _ (hbx.trans ((Zd _ _).mono (by omega)))))|(go_at_call 148;exact Zg (HDP.out _ (hbx.trans ((Zd _ _).mono (by omega)))))|(go_at_call 149;exact Zg (HWT.out _ (hbx.trans ((Zd _ _).mono (by omega))))))))
  refine wpQuiet_nil ?_
  intro _ hw'
  obtain ⟨pq,hw''⟩:=hw'
  subst hw''
  go_wp2_with fail
  go_ret
  exact ⟨Zc (by rw [HR.out];first|(simp [sndB, *];done)|(simp [sndB, *];intros;omega)),hbx.trans ((Zd _ _).mono (by omega))⟩
set_option maxRecDepth 100000 in
theorem zft (w:World) (c:CC) {R ps vk vs bk be i0 j0 n0 vn sd:Bool} {dp wt:Nat} (h:SndH w c R ps vk vs bk be i0 j0 n0 vn sd dp wt) (ek:c.k=3):
 uP 106 #[.agg (uC c)] w fun e w'=>e= .returned (.bool R)/\uB w w':=by
 delta uC uB uP
 obtain ⟨hbk,hbe,hi0,hj0,hn0,HPS,HVK,HVS,HVN,HSD,HDP,HWT,HSAYS,⟨k1,k4,k5⟩,hR2⟩:=h
 have bx:=Yk w c 54
 have e1:saysB c.k= { data:= #[75] } :=by rw [ek];rfl
 rw [e1] at HSAYS
 have HIN:∀(b:Nat) {t:Bool},hasB { data:= #[75] } b=t->Hid (Behind w 146 #[.string { data:= #[75] }, .int .u8 b] (.bool t)):=fun b t ht W _=>by rw [<-ht];exact Yv { data:= #[75] } b W (by decide)
 have hR3:R=sndB true true false false false false false bk (!i0) (!j0) (!n0) be vn ps vk vs (decide (0<=c.i)) (decide (0<=c.j)) false false sd (decide (c.pl+1+dp<=16)) (decide (wt<=20000)):=by
  rw [hR2,ek]
  first|rfl|(cases be<;>rfl)
 have HR:=qh hR3
 have f8:(c.k==8)=false:=by rw [ek];rfl
 have f9:(c.k==9)=false:=by rw [ek];rfl
 have HLK:Hid (Behind w 146 #[.string { data:= #[75] }, .int .u8 75] (.bool true)):=HIN 75 (by decide);have HLI:Hid (Behind w 146 #[.string { data:= #[75] }, .int .u8 73] (.bool false)):=HIN 73 (by decide);have HLJ:Hid (Behind w 146 #[.string { data:= #[75] }, .int .u8 74] (.bool false)):=HIN 74 (by decide);have HLN:Hid (Behind w 146 #[.string { data:= #[75] }, .int .u8 78] (.bool false)):=HIN 78 (by decide);have HLS:Hid (Behind w 146 #[.string { data:= #[75] }, .int .u8 83] (.bool false)):=HIN 83 (by decide);have HLV:Hid (Behind w 146 #[.string { data:= #[75] }, .int .u8 86] (.bool false)):=HIN 86 (by decide)
 clear hR2 hR3 e1 HIN ek
 go_enter Tryz.func106,Tryz.ntmps106
 go_wp2_with ((go_at_call 144;(with_reducible refine (Behind.at_ HSAYS.out ?_).mono ?_));(focus (have:=bx.below;have:=bx.size;go_grown));rintro e w1 ⟨rfl,hb1⟩;replace bx:=(bx.step (by go_grown)).step hb1;obtain ⟨zs,z0,z1,z2,z3,z4,z5,z6,y0,y1,y2,y3,y4⟩:=bx.all)
 rcases bcT ps (bcF i0 (bcF j0 (bcF n0 (bcT be (bcT vn (bcT vk (bcT vs (bcP (c.i<0) (bcP (c.j<0) trivial))))))))) with rfl|⟨rfl,(rfl|⟨rfl,(rfl|⟨rfl,(rfl|⟨rfl,(rfl|⟨rfl,(rfl|⟨rfl,(rfl|⟨rfl,(rfl|⟨rfl,(hpi|⟨hpi,(hpj|⟨hpj,_⟩)⟩)⟩)⟩)⟩)⟩)⟩)⟩)⟩)⟩
 all_goals go_wp2_with ((first|(go_at_call 145;(with_reducible refine (Behind.at_ HPS.out ?_).mono ?_))|(go_at_call 146;(with_reducible refine (Behind.at_ HLK.out ?_).mono ?_))|(go_at_call 146;(with_reducible refine (Behind.at_ HLI.out ?_).mono ?_))|(go_at_call 146;(with_reducible refine (Behind.at_ HLJ.out ?_).mono ?_))|(go_at_call 146;(with_reducible refine (Behind.at_ HLN.out ?_).mono ?_))|(go_at_call 146;(with_reducible refine (Behind.at_ HLS.out ?_).mono ?_))|(go_at_call 146;(with_reducible refine (Behind.at_ HLV.out ?_).mono ?_))|(go_at_call 17;(with_reducible refine (Behind.at_ HVN.out ?_).mono ?_))|(go_at_call 99;(with_reducible refine (Behind.at_ HVK.out ?_).mono ?_))|(go_at_call 99;(with_reducible refine (Behind.at_ HVS.out ?_).mono ?_)));(focus (have:=bx.below;have:=bx.size;go_grown));rintro e w1 ⟨rfl,hb1⟩;replace bx:=(bx.step (by go_grown)).step hb1;obtain ⟨zs,z0,z1,z2,z3,z4,z5,z6,y0,y1,y2,y3,y4⟩:=bx.all)
 iterate 10 (focus (go_ret;exact ⟨Zc (by rw [HR.out];first|(simp [sndB, *];done)|(simp [sndB, *];intros;omega)),by have:=bx.below;have:=bx.size;go_grown⟩))
 have a0:=Za bx.at_.c6.c0;have a1:=Za bx.at_.c6.c1;have a2:=Za bx.at_.c6.c2;have a3:=Za bx.at_.c6.c3;have a4:=Za bx.at_.c6.c4;have a5:=Za bx.at_.c1
 have hbx:=bx.below
 have hbs:=bx.size
 rcases bcT sd (Yy c.pl dp) with rfl|⟨rfl,(⟨hd,hdI,hdB⟩|⟨hd,hdI,hdB⟩)⟩
 all_goals
  refine Zh (by kernel_rfl) (by kernel_rfl) ?_
  repeat (go_big_quiet_step ((first|(go_at_call 147;exact Zg (HSD.out _ (hbx.trans ((Zd _ _).mono (by omega)))))|(go_at_call 148;exact Zg (HDP.out _ (hbx.trans ((Zd _ _).mono (by omega)))))|(go_at_call 149;exact Zg (HWT.out _ (hbx.trans ((Zd _ _).mono (by omega))))))))
  refine wpQuiet_nil ?_
  intro _ hw'
  obtain ⟨pq,hw''⟩:=hw'
  subst hw''
  go_wp2_with fail
  go_ret
  exact ⟨Zc (by rw [HR.out];first|(simp [sndB, *];done)|(simp [sndB, *];intros;omega)),hbx.trans ((Zd _ _).mono (by omega))⟩
set_option maxRecDepth 100000 in
theorem zi1 (w:World) (c:CC) {R ps vk vs bk be i0 j0 n0 vn sd:Bool} {dp wt:Nat} (h:SndH w c R ps vk vs bk be i0 j0 n0 vn sd dp wt) (ek:c.k=4):
 uP 106 #[.agg (uC c)] w fun e w'=>e= .returned (.bool R)/\uB w w':=by
 delta uC uB uP
 obtain ⟨hbk,hbe,hi0,hj0,hn0,HPS,HVK,HVS,HVN,HSD,HDP,HWT,HSAYS,⟨k1,k4,k5⟩,hR2⟩:=h
 have bx:=Yk w c 54
 have e1:saysB c.k= { data:= #[73,86] } :=by rw [ek];rfl
 rw [e1] at HSAYS
 have HIN:∀(b:Nat) {t:Bool},hasB { data:= #[73,86] } b=t->Hid (Behind w 146 #[.string { data:= #[73,86] }, .int .u8 b] (.bool t)):=fun b t ht W _=>by rw [<-ht];exact Yv { data:= #[73,86] } b W (by decide)
 have hR3:R=sndB true false true false false false true bk (!i0) (!j0) (!n0) be vn ps vk vs (decide (0<=c.i)) (decide (0<=c.j)) false false sd (decide (c.pl+1+dp<=16)) (decide (wt<=20000)):=by
  rw [hR2,ek]
  first|rfl|(cases be<;>rfl)
 have HR:=qh hR3
 have f8:(c.k==8)=false:=by rw [ek];rfl
 have f9:(c.k==9)=false:=by rw [ek];rfl
 have HLK:Hid (Behind w 146 #[.string { data:= #[73,86] }, .int .u8 75] (.bool false)):=HIN 75 (by decide);have HLI:Hid (Behind w 146 #[.string { data:= #[73,86] }, .int .u8 73] (.bool true)):=HIN 73 (by decide);have HLJ:Hid (Behind w 146 #[.string { data:= #[73,86] }, .int .u8 74] (.bool false)):=HIN 74 (by decide);have HLN:Hid (Behind w 146 #[.string { data:= #[73,86] }, .int .u8 78] (.bool false)):=HIN 78 (by decide);have HLS:Hid (Behind w 146 #[.string { data:= #[73,86] }, .int .u8 83] (.bool false)):=HIN 83 (by decide);have HLV:Hid (Behind w 146 #[.string { data:= #[73,86] }, .int .u8 86] (.bool true)):=HIN 86 (by decide)
 clear hR2 hR3 e1 HIN ek
 go_enter Tryz.func106,Tryz.ntmps106
 go_wp2_with ((go_at_call 144;(with_reducible refine (Behind.at_ HSAYS.out ?_).mono ?_));(focus (have:=bx.below;have:=bx.size;go_grown));rintro e w1 ⟨rfl,hb1⟩;replace bx:=(bx.step (by go_grown)).step hb1;obtain ⟨zs,z0,z1,z2,z3,z4,z5,z6,y0,y1,y2,y3,y4⟩:=bx.all)
 rcases bcT ps (bcT bk (bcF j0 (bcF n0 (bcT be (bcT vk (bcT vs (bcP (c.i<0) (bcP (c.j<0) trivial)))))))) with rfl|⟨rfl,(rfl|⟨rfl,(rfl|⟨rfl,(rfl|⟨rfl,(rfl|⟨rfl,(rfl|⟨rfl,(rfl|⟨rfl,(hpi|⟨hpi,(hpj|⟨hpj,_⟩)⟩)⟩)⟩)⟩)⟩)⟩)⟩)⟩
 all_goals go_wp2_with ((first|(go_at_call 145;(with_reducible refine (Behind.at_ HPS.out ?_).mono ?_))|(go_at_call 146;(with_reducible refine (Behind.at_ HLK.out ?_).mono ?_))|(go_at_call 146;(with_reducible refine (Behind.at_ HLI.out ?_).mono ?_))|(go_at_call 146;(with_reducible refine (Behind.at_ HLJ.out ?_).mono ?_))|(go_at_call 146;(with_reducible refine (Behind.at_ HLN.out ?_).mono ?_))|(go_at_call 146;(with_reducible refine (Behind.at_ HLS.out ?_).mono ?_))|(go_at_call 146;(with_reducible refine (Behind.at_ HLV.out ?_).mono ?_))|(go_at_call 99;(with_reducible refine (Behind.at_ HVK.out ?_).mono ?_))|(go_at_call 99;(with_reducible refine (Behind.at_ HVS.out ?_).mono ?_)));(focus (have:=bx.below;have:=bx.size;go_grown));rintro e w1 ⟨rfl,hb1⟩;replace bx:=(bx.step (by go_grown)).step hb1;obtain ⟨zs,z0,z1,z2,z3,z4,z5,z6,y0,y1,y2,y3,y4⟩:=bx.all)
 iterate 9 (focus (go_ret;exact ⟨Zc (by rw [HR.out];first|(simp [sndB, *];done)|(simp [sndB, *];intros;omega)),by have:=bx.below;have:=bx.size;go_grown⟩))
 have a0:=Za bx.at_.c6.c0;have a1:=Za bx.at_.c6.c1;have a2:=Za bx.at_.c6.c2;have a3:=Za bx.at_.c6.c3;have a4:=Za bx.at_.c6.c4;have a5:=Za bx.at_.c1
 have hbx:=bx.below
 have hbs:=bx.size
 rcases bcT sd (Yy c.pl dp) with rfl|⟨rfl,(⟨hd,hdI,hdB⟩|⟨hd,hdI,hdB⟩)⟩
 all_goals
  refine Zh (by kernel_rfl) (by kernel_rfl) ?_
  repeat (go_big_quiet_step ((first|(go_at_call 147;exact Zg (HSD.out _ (hbx.trans ((Zd _ _).mono (by omega)))))|(go_at_call 148;exact Zg (HDP.out _ (hbx.trans ((Zd _ _).mono (by omega)))))|(go_at_call 149;exact Zg (HWT.out _ (hbx.trans ((Zd _ _).mono (by omega))))))))
  refine wpQuiet_nil ?_
  intro _ hw'
  obtain ⟨pq,hw''⟩:=hw'
  subst hw''
  go_wp2_with fail
  go_ret
  exact ⟨Zc (by rw [HR.out];first|(simp [sndB, *];done)|(simp [sndB, *];intros;omega)),hbx.trans ((Zd _ _).mono (by omega))⟩
set_option maxRecDepth 100000 in
theorem zd3 (w:World) (c:CC) {R ps vk vs bk be i0 j0 n0 vn sd:Bool} {dp wt:Nat} (h:SndH w c R ps vk vs bk be i0 j0 n0 vn sd dp wt) (ek:c.k=5):
 uP 106 #[.agg (uC c)] w fun e w'=>e= .returned (.bool R)/\uB w w':=by
 delta uC uB uP
 obtain ⟨hbk,hbe,hi0,hj0,hn0,HPS,HVK,HVS,HVN,HSD,HDP,HWT,HSAYS,⟨k1,k4,k5⟩,hR2⟩:=h
 have bx:=Yk w c 54
 have e1:saysB c.k= { data:= #[73] } :=by rw [ek];rfl
 rw [e1] at HSAYS
 have HIN:∀(b:Nat) {t:Bool},hasB { data:= #[73] } b=t->Hid (Behind w 146 #[.string { data:= #[73] }, .int .u8 b] (.bool t)):=fun b t ht W _=>by rw [<-ht];exact Yv { data:= #[73] } b W (by decide)
 have hR3:R=sndB true false true false false false false bk (!i0) (!j0) (!n0) be vn ps vk vs (decide (0<=c.i)) (decide (0<=c.j)) false false sd (decide (c.pl+1+dp<=16)) (decide (wt<=20000)):=by
  rw [hR2,ek]
  first|rfl|(cases be<;>rfl)
 have HR:=qh hR3
 have f8:(c.k==8)=false:=by rw [ek];rfl
 have f9:(c.k==9)=false:=by rw [ek];rfl
 have HLK:Hid (Behind w 146 #[.string { data:= #[73] }, .int .u8 75] (.bool false)):=HIN 75 (by decide);have HLI:Hid (Behind w 146 #[.string { data:= #[73] }, .int .u8 73] (.bool true)):=HIN 73 (by decide);have HLJ:Hid (Behind w 146 #[.string { data:= #[73] }, .int .u8 74] (.bool false)):=HIN 74 (by decide);have HLN:Hid (Behind w 146 #[.string { data:= #[73] }, .int .u8 78] (.bool false)):=HIN 78 (by decide);have HLS:Hid (Behind w 146 #[.string { data:= #[73] }, .int .u8 83] (.bool false)):=HIN 83 (by decide);have HLV:Hid (Behind w 146 #[.string { data:= #[73] }, .int .u8 86] (.bool false)):=HIN 86 (by decide)
 clear hR2 hR3 e1 HIN ek
 go_enter Tryz.func106,Tryz.ntmps106
 go_wp2_with ((go_at_call 144;(with_reducible refine (Behind.at_ HSAYS.out ?_).mono ?_));(focus (have:=bx.below;have:=bx.size;go_grown));rintro e w1 ⟨rfl,hb1⟩;replace bx:=(bx.step (by go_grown)).step hb1;obtain ⟨zs,z0,z1,z2,z3,z4,z5,z6,y0,y1,y2,y3,y4⟩:=bx.all)
 rcases bcT ps (bcT bk (bcF j0 (bcF n0 (bcT be (bcT vn (bcT vk (bcT vs (bcP (c.i<0) (bcP (c.j<0) trivial))))))))) with rfl|⟨rfl,(rfl|⟨rfl,(rfl|⟨rfl,(rfl|⟨rfl,(rfl|⟨rfl,(rfl|⟨rfl,(rfl|⟨rfl,(rfl|⟨rfl,(hpi|⟨hpi,(hpj|⟨hpj,_⟩)⟩)⟩)⟩)⟩)⟩)⟩)⟩)⟩)⟩
 all_goals go_wp2_with ((first|(go_at_call 145;(with_reducible refine (Behind.at_ HPS.out ?_).mono ?_))|(go_at_call 146;(with_reducible refine (Behind.at_ HLK.out ?_).mono ?_))|(go_at_call 146;(with_reducible refine (Behind.at_ HLI.out ?_).mono ?_))|(go_at_call 146;(with_reducible refine (Behind.at_ HLJ.out ?_).mono ?_))|(go_at_call 146;(with_reducible refine (Behind.at_ HLN.out ?_).mono ?_))|(go_at_call 146;(with_reducible refine (Behind.at_ HLS.out ?_).mono ?_))|(go_at_call 146;(with_reducible refine (Behind.at_ HLV.out ?_).mono ?_))|(go_at_call 17;(with_reducible refine (Behind.at_ HVN.out ?_).mono ?_))|(go_at_call 99;(with_reducible refine (Behind.at_ HVK.out ?_).mono ?_))|(go_at_call 99;(with_reducible refine (Behind.at_ HVS.out ?_).mono ?_)));(focus (have:=bx.below;have:=bx.size;go_grown));rintro e w1 ⟨rfl,hb1⟩;replace bx:=(bx.step (by go_grown)).step hb1;obtain ⟨zs,z0,z1,z2,z3,z4,z5,z6,y0,y1,y2,y3,y4⟩:=bx.all)
 iterate 10 (focus (go_ret;exact ⟨Zc (by rw [HR.out];first|(simp [sndB, *];done)|(simp [sndB, *];intros;omega)),by have:=bx.below;have:=bx.size;go_grown⟩))
 have a0:=Za bx.at_.c6.c0;have a1:=Za bx.at_.c6.c1;have a2:=Za bx.at_.c6.c2;have a3:=Za bx.at_.c6.c3;have a4:=Za bx.at_.c6.c4;have a5:=Za bx.at_.c1
 have hbx:=bx.below
 have hbs:=bx.size
 rcases bcT sd (Yy c.pl dp) with rfl|⟨rfl,(⟨hd,hdI,hdB⟩|⟨hd,hdI,hdB⟩)⟩
 all_goals
  refine Zh (by kernel_rfl) (by kernel_rfl) ?_
  repeat (go_big_quiet_step ((first|(go_at_call 147;exact Zg (HSD.out _ (hbx.trans ((Zd _ _).mono (by omega)))))|(go_at_call 148;exact Zg (HDP.out _ (hbx.trans ((Zd _ _).mono (by omega)))))|(go_at_call 149;exact Zg (HWT.out _ (hbx.trans ((Zd _ _).mono (by omega))))))))
  refine wpQuiet_nil ?_
  intro _ hw'
  obtain ⟨pq,hw''⟩:=hw'
  subst hw''
  go_wp2_with fail
  go_ret
  exact ⟨Zc (by rw [HR.out];first|(simp [sndB, *];done)|(simp [sndB, *];intros;omega)),hbx.trans ((Zd _ _).mono (by omega))⟩
end Go.Proofs.YtbgheehjfnoiiaaGreatDoor
