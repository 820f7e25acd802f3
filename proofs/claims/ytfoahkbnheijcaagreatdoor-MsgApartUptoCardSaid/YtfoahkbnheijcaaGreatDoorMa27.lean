/-
  Contracts of the functions that the law reaches: conciliatorref06.Sound, by kinds..
-/
import Derived.Test.YtfoahkbnheijcaaGreatDoorMa26
import Derived.Test.YtfoahkbnheijcaaGreatDoorMa22
namespace Go.Proofs.YtfoahkbnheijcaaGreatDoor
open Go.RowKit
set_option maxHeartbeats 8000000
set_option maxRecDepth 100000 in
theorem zky (w:World) (c:CC) {R ps vk vs bk be i0 j0 n0 vn sd:Bool} {dp wt:Nat} (h:SndH w c R ps vk vs bk be i0 j0 n0 vn sd dp wt) (ek:c.k=6):
 Calls Tryz.prog 79 #[.agg #[.int .u8 c.k, .slice c.pa c.pl c.pc, .string c.key, .int .i64 c.i, .int .i64 c.j, .int .i64 c.n, .int .u8 c.v.k, .int .i64 c.v.n, .string c.v.s, .slice c.v.la c.v.ll c.v.lc, .slice c.v.oa c.v.ol c.v.oc, .string c.s]] w fun e w'=>e= .returned (.bool R)/\Below w.heap.size w w':=by
 obtain ⟨hbk,hbe,hi0,hj0,hn0,HPS,HVK,HVS,HVN,HSD,HDP,HWT,HSAYS,⟨k1,k4,k5⟩,hR2⟩:=h
 have bx:=Yk w c 60
 have e1:saysB c.k= { data:= #[73,86] } :=by rw [ek];rfl
 rw [e1] at HSAYS
 have HIN:∀(b:Nat) {t:Bool},hasB { data:= #[73,86] } b=t->Hid (Behind w 132 #[.string { data:= #[73,86] }, .int .u8 b] (.bool t)):=fun b t ht W _=>by rw [<-ht];exact Yz { data:= #[73,86] } b W (by decide)
 have hR3:R=sndB true false true false false false true bk (!i0) (!j0) (!n0) be vn ps vk vs (decide (0<=c.i)) (decide (0<=c.j)) false false sd (decide (c.pl+1+dp<=16)) (decide (wt<=20000)):=by
  rw [hR2,ek]
  first|rfl|(cases be<;>rfl)
 have HR:=qh hR3
 have f8:(c.k==8)=false:=by rw [ek];rfl
 have f9:(c.k==9)=false:=by rw [ek];rfl
 have HLK:Hid (Behind w 132 #[.string { data:= #[73,86] }, .int .u8 75] (.bool false)):=HIN 75 (by decide);have HLI:Hid (Behind w 132 #[.string { data:= #[73,86] }, .int .u8 73] (.bool true)):=HIN 73 (by decide);have HLJ:Hid (Behind w 132 #[.string { data:= #[73,86] }, .int .u8 74] (.bool false)):=HIN 74 (by decide);have HLN:Hid (Behind w 132 #[.string { data:= #[73,86] }, .int .u8 78] (.bool false)):=HIN 78 (by decide);have HLS:Hid (Behind w 132 #[.string { data:= #[73,86] }, .int .u8 83] (.bool false)):=HIN 83 (by decide);have HLV:Hid (Behind w 132 #[.string { data:= #[73,86] }, .int .u8 86] (.bool true)):=HIN 86 (by decide)
 clear hR2 hR3 e1 HIN ek
 go_enter Tryz.func79,Tryz.ntmps79
 go_wp2_with ((go_at_call 130;(with_reducible refine (Behind.at_ HSAYS.out ?_).mono ?_));(focus (have:=bx.below;have:=bx.size;go_grown));rintro e w1 ⟨rfl,hb1⟩;replace bx:=(bx.step (by go_grown)).step hb1;obtain ⟨zs,z0,z1,z2,z3,z4,z5,z6,y0,y1,y2,y3,y4⟩:=bx.all)
 rcases bcT ps (bcT bk (bcF j0 (bcF n0 (bcT be (bcT vk (bcT vs (bcP (c.i<0) (bcP (c.j<0) trivial)))))))) with rfl|⟨rfl,(rfl|⟨rfl,(rfl|⟨rfl,(rfl|⟨rfl,(rfl|⟨rfl,(rfl|⟨rfl,(rfl|⟨rfl,(hpi|⟨hpi,(hpj|⟨hpj,_⟩)⟩)⟩)⟩)⟩)⟩)⟩)⟩)⟩
 all_goals go_wp2_with ((first|(go_at_call 131;(with_reducible refine (Behind.at_ HPS.out ?_).mono ?_))|(go_at_call 132;(with_reducible refine (Behind.at_ HLK.out ?_).mono ?_))|(go_at_call 132;(with_reducible refine (Behind.at_ HLI.out ?_).mono ?_))|(go_at_call 132;(with_reducible refine (Behind.at_ HLJ.out ?_).mono ?_))|(go_at_call 132;(with_reducible refine (Behind.at_ HLN.out ?_).mono ?_))|(go_at_call 132;(with_reducible refine (Behind.at_ HLS.out ?_).mono ?_))|(go_at_call 132;(with_reducible refine (Behind.at_ HLV.out ?_).mono ?_))|(go_at_call 66;(with_reducible refine (Behind.at_ HVK.out ?_).mono ?_))|(go_at_call 66;(with_reducible refine (Behind.at_ HVS.out ?_).mono ?_)));(focus (have:=bx.below;have:=bx.size;go_grown));rintro e w1 ⟨rfl,hb1⟩;replace bx:=(bx.step (by go_grown)).step hb1;obtain ⟨zs,z0,z1,z2,z3,z4,z5,z6,y0,y1,y2,y3,y4⟩:=bx.all)
 iterate 9 (focus (go_ret;exact ⟨Zb (by rw [HR.out];first|(simp [sndB, *];done)|(simp [sndB, *];intros;omega)),by have:=bx.below;have:=bx.size;go_grown⟩))
 have a0:=Za bx.at_.c6.c0;have a1:=Za bx.at_.c6.c1;have a2:=Za bx.at_.c6.c2;have a3:=Za bx.at_.c6.c3;have a4:=Za bx.at_.c6.c4;have a5:=Za bx.at_.c1
 have hbx:=bx.below
 have hbs:=bx.size
 rcases bcT sd (Y9 c.pl dp) with rfl|⟨rfl,(⟨hd,hdI,hdB⟩|⟨hd,hdI,hdB⟩)⟩
 all_goals
  refine Zh (by kernel_rfl) (by kernel_rfl) ?_
  repeat (go_big_quiet_step ((first|(go_at_call 24;exact Zg (HSD.out _ (hbx.trans ((Ze _ _).mono (by omega)))))|(go_at_call 133;exact Zg (HDP.out _ (hbx.trans ((Ze _ _).mono (by omega)))))|(go_at_call 134;exact Zg (HWT.out _ (hbx.trans ((Ze _ _).mono (by omega))))))))
  refine wpQuiet_nil ?_
  intro _ hw'
  obtain ⟨pq,hw''⟩:=hw'
  subst hw''
  go_wp2_with fail
  go_ret
  exact ⟨Zb (by rw [HR.out];first|(simp [sndB, *];done)|(simp [sndB, *];intros;omega)),hbx.trans ((Ze _ _).mono (by omega))⟩
set_option maxRecDepth 100000 in
theorem zqq (w:World) (c:CC) {R ps vk vs bk be i0 j0 n0 vn sd:Bool} {dp wt:Nat} (h:SndH w c R ps vk vs bk be i0 j0 n0 vn sd dp wt) (ek:c.k=7):
 Calls Tryz.prog 79 #[.agg #[.int .u8 c.k, .slice c.pa c.pl c.pc, .string c.key, .int .i64 c.i, .int .i64 c.j, .int .i64 c.n, .int .u8 c.v.k, .int .i64 c.v.n, .string c.v.s, .slice c.v.la c.v.ll c.v.lc, .slice c.v.oa c.v.ol c.v.oc, .string c.s]] w fun e w'=>e= .returned (.bool R)/\Below w.heap.size w w':=by
 obtain ⟨hbk,hbe,hi0,hj0,hn0,HPS,HVK,HVS,HVN,HSD,HDP,HWT,HSAYS,⟨k1,k4,k5⟩,hR2⟩:=h
 have bx:=Yk w c 60
 have e1:saysB c.k= { data:= #[73,74] } :=by rw [ek];rfl
 rw [e1] at HSAYS
 have HIN:∀(b:Nat) {t:Bool},hasB { data:= #[73,74] } b=t->Hid (Behind w 132 #[.string { data:= #[73,74] }, .int .u8 b] (.bool t)):=fun b t ht W _=>by rw [<-ht];exact Yz { data:= #[73,74] } b W (by decide)
 have hR3:R=sndB true false true true false false false bk (!i0) (!j0) (!n0) be vn ps vk vs (decide (0<=c.i)) (decide (0<=c.j)) false false sd (decide (c.pl+1+dp<=16)) (decide (wt<=20000)):=by
  rw [hR2,ek]
  first|rfl|(cases be<;>rfl)
 have HR:=qh hR3
 have f8:(c.k==8)=false:=by rw [ek];rfl
 have f9:(c.k==9)=false:=by rw [ek];rfl
 have HLK:Hid (Behind w 132 #[.string { data:= #[73,74] }, .int .u8 75] (.bool false)):=HIN 75 (by decide);have HLI:Hid (Behind w 132 #[.string { data:= #[73,74] }, .int .u8 73] (.bool true)):=HIN 73 (by decide);have HLJ:Hid (Behind w 132 #[.string { data:= #[73,74] }, .int .u8 74] (.bool true)):=HIN 74 (by decide);have HLN:Hid (Behind w 132 #[.string { data:= #[73,74] }, .int .u8 78] (.bool false)):=HIN 78 (by decide);have HLS:Hid (Behind w 132 #[.string { data:= #[73,74] }, .int .u8 83] (.bool false)):=HIN 83 (by decide);have HLV:Hid (Behind w 132 #[.string { data:= #[73,74] }, .int .u8 86] (.bool false)):=HIN 86 (by decide)
 clear hR2 hR3 e1 HIN ek
 go_enter Tryz.func79,Tryz.ntmps79
 go_wp2_with ((go_at_call 130;(with_reducible refine (Behind.at_ HSAYS.out ?_).mono ?_));(focus (have:=bx.below;have:=bx.size;go_grown));rintro e w1 ⟨rfl,hb1⟩;replace bx:=(bx.step (by go_grown)).step hb1;obtain ⟨zs,z0,z1,z2,z3,z4,z5,z6,y0,y1,y2,y3,y4⟩:=bx.all)
 rcases bcT ps (bcT bk (bcF n0 (bcT be (bcT vn (bcT vk (bcT vs (bcP (c.i<0) (bcP (c.j<0) trivial)))))))) with rfl|⟨rfl,(rfl|⟨rfl,(rfl|⟨rfl,(rfl|⟨rfl,(rfl|⟨rfl,(rfl|⟨rfl,(rfl|⟨rfl,(hpi|⟨hpi,(hpj|⟨hpj,_⟩)⟩)⟩)⟩)⟩)⟩)⟩)⟩)⟩
 all_goals go_wp2_with ((first|(go_at_call 131;(with_reducible refine (Behind.at_ HPS.out ?_).mono ?_))|(go_at_call 132;(with_reducible refine (Behind.at_ HLK.out ?_).mono ?_))|(go_at_call 132;(with_reducible refine (Behind.at_ HLI.out ?_).mono ?_))|(go_at_call 132;(with_reducible refine (Behind.at_ HLJ.out ?_).mono ?_))|(go_at_call 132;(with_reducible refine (Behind.at_ HLN.out ?_).mono ?_))|(go_at_call 132;(with_reducible refine (Behind.at_ HLS.out ?_).mono ?_))|(go_at_call 132;(with_reducible refine (Behind.at_ HLV.out ?_).mono ?_))|(go_at_call 23;(with_reducible refine (Behind.at_ HVN.out ?_).mono ?_))|(go_at_call 66;(with_reducible refine (Behind.at_ HVK.out ?_).mono ?_))|(go_at_call 66;(with_reducible refine (Behind.at_ HVS.out ?_).mono ?_)));(focus (have:=bx.below;have:=bx.size;go_grown));rintro e w1 ⟨rfl,hb1⟩;replace bx:=(bx.step (by go_grown)).step hb1;obtain ⟨zs,z0,z1,z2,z3,z4,z5,z6,y0,y1,y2,y3,y4⟩:=bx.all)
 iterate 9 (focus (go_ret;exact ⟨Zb (by rw [HR.out];first|(simp [sndB, *];done)|(simp [sndB, *];intros;omega)),by have:=bx.below;have:=bx.size;go_grown⟩))
 have a0:=Za bx.at_.c6.c0;have a1:=Za bx.at_.c6.c1;have a2:=Za bx.at_.c6.c2;have a3:=Za bx.at_.c6.c3;have a4:=Za bx.at_.c6.c4;have a5:=Za bx.at_.c1
 have hbx:=bx.below
 have hbs:=bx.size
 rcases bcT sd (Y9 c.pl dp) with rfl|⟨rfl,(⟨hd,hdI,hdB⟩|⟨hd,hdI,hdB⟩)⟩
 all_goals
  refine Zh (by kernel_rfl) (by kernel_rfl) ?_
  repeat (go_big_quiet_step ((first|(go_at_call 24;exact Zg (HSD.out _ (hbx.trans ((Ze _ _).mono (by omega)))))|(go_at_call 133;exact Zg (HDP.out _ (hbx.trans ((Ze _ _).mono (by omega)))))|(go_at_call 134;exact Zg (HWT.out _ (hbx.trans ((Ze _ _).mono (by omega))))))))
  refine wpQuiet_nil ?_
  intro _ hw'
  obtain ⟨pq,hw''⟩:=hw'
  subst hw''
  go_wp2_with fail
  go_ret
  exact ⟨Zb (by rw [HR.out];first|(simp [sndB, *];done)|(simp [sndB, *];intros;omega)),hbx.trans ((Ze _ _).mono (by omega))⟩
set_option maxRecDepth 100000 in
theorem zor (w:World) (c:CC) {R ps vk vs bk be i0 j0 n0 vn sd:Bool} {dp wt:Nat} (h:SndH w c R ps vk vs bk be i0 j0 n0 vn sd dp wt) (ek:c.k=8):
 Calls Tryz.prog 79 #[.agg #[.int .u8 c.k, .slice c.pa c.pl c.pc, .string c.key, .int .i64 c.i, .int .i64 c.j, .int .i64 c.n, .int .u8 c.v.k, .int .i64 c.v.n, .string c.v.s, .slice c.v.la c.v.ll c.v.lc, .slice c.v.oa c.v.ol c.v.oc, .string c.s]] w fun e w'=>e= .returned (.bool R)/\Below w.heap.size w w':=by
 obtain ⟨hbk,hbe,hi0,hj0,hn0,HPS,HVK,HVS,HVN,HSD,HDP,HWT,HSAYS,⟨k1,k4,k5⟩,hR2⟩:=h
 have bx:=Yk w c 60
 have e1:saysB c.k= { data:= #[73,83] } :=by rw [ek];rfl
 rw [e1] at HSAYS
 have HIN:∀(b:Nat) {t:Bool},hasB { data:= #[73,83] } b=t->Hid (Behind w 132 #[.string { data:= #[73,83] }, .int .u8 b] (.bool t)):=fun b t ht W _=>by rw [<-ht];exact Yz { data:= #[73,83] } b W (by decide)
 have hR3:R=sndB true false true false false true false bk (!i0) (!j0) (!n0) be vn ps vk vs (decide (0<=c.i)) (decide (0<=c.j)) be false sd (decide (c.pl+1+dp<=16)) (decide (wt<=20000)):=by
  rw [hR2,ek]
  first|rfl|(cases be<;>rfl)
 have HR:=qh hR3
 have f8:(c.k==8)=true:=by rw [ek];rfl
 have f9:(c.k==9)=false:=by rw [ek];rfl
 have HLK:Hid (Behind w 132 #[.string { data:= #[73,83] }, .int .u8 75] (.bool false)):=HIN 75 (by decide);have HLI:Hid (Behind w 132 #[.string { data:= #[73,83] }, .int .u8 73] (.bool true)):=HIN 73 (by decide);have HLJ:Hid (Behind w 132 #[.string { data:= #[73,83] }, .int .u8 74] (.bool false)):=HIN 74 (by decide);have HLN:Hid (Behind w 132 #[.string { data:= #[73,83] }, .int .u8 78] (.bool false)):=HIN 78 (by decide);have HLS:Hid (Behind w 132 #[.string { data:= #[73,83] }, .int .u8 83] (.bool true)):=HIN 83 (by decide);have HLV:Hid (Behind w 132 #[.string { data:= #[73,83] }, .int .u8 86] (.bool false)):=HIN 86 (by decide)
 clear hR2 hR3 e1 HIN ek
 go_enter Tryz.func79,Tryz.ntmps79
 go_wp2_with ((go_at_call 130;(with_reducible refine (Behind.at_ HSAYS.out ?_).mono ?_));(focus (have:=bx.below;have:=bx.size;go_grown));rintro e w1 ⟨rfl,hb1⟩;replace bx:=(bx.step (by go_grown)).step hb1;obtain ⟨zs,z0,z1,z2,z3,z4,z5,z6,y0,y1,y2,y3,y4⟩:=bx.all)
 rcases bcT ps (bcT bk (bcF j0 (bcF n0 (bcT vn (bcT vk (bcT vs (bcP (c.i<0) (bcP (c.j<0) (bcF be trivial))))))))) with rfl|⟨rfl,(rfl|⟨rfl,(rfl|⟨rfl,(rfl|⟨rfl,(rfl|⟨rfl,(rfl|⟨rfl,(rfl|⟨rfl,(hpi|⟨hpi,(hpj|⟨hpj,(rfl|⟨rfl,_⟩)⟩)⟩)⟩)⟩)⟩)⟩)⟩)⟩)⟩
 all_goals go_wp2_with ((first|(go_at_call 131;(with_reducible refine (Behind.at_ HPS.out ?_).mono ?_))|(go_at_call 132;(with_reducible refine (Behind.at_ HLK.out ?_).mono ?_))|(go_at_call 132;(with_reducible refine (Behind.at_ HLI.out ?_).mono ?_))|(go_at_call 132;(with_reducible refine (Behind.at_ HLJ.out ?_).mono ?_))|(go_at_call 132;(with_reducible refine (Behind.at_ HLN.out ?_).mono ?_))|(go_at_call 132;(with_reducible refine (Behind.at_ HLS.out ?_).mono ?_))|(go_at_call 132;(with_reducible refine (Behind.at_ HLV.out ?_).mono ?_))|(go_at_call 23;(with_reducible refine (Behind.at_ HVN.out ?_).mono ?_))|(go_at_call 66;(with_reducible refine (Behind.at_ HVK.out ?_).mono ?_))|(go_at_call 66;(with_reducible refine (Behind.at_ HVS.out ?_).mono ?_)));(focus (have:=bx.below;have:=bx.size;go_grown));rintro e w1 ⟨rfl,hb1⟩;replace bx:=(bx.step (by go_grown)).step hb1;obtain ⟨zs,z0,z1,z2,z3,z4,z5,z6,y0,y1,y2,y3,y4⟩:=bx.all)
 iterate 10 (focus (go_ret;exact ⟨Zb (by rw [HR.out];first|(simp [sndB, *];done)|(simp [sndB, *];intros;omega)),by have:=bx.below;have:=bx.size;go_grown⟩))
 have a0:=Za bx.at_.c6.c0;have a1:=Za bx.at_.c6.c1;have a2:=Za bx.at_.c6.c2;have a3:=Za bx.at_.c6.c3;have a4:=Za bx.at_.c6.c4;have a5:=Za bx.at_.c1
 have hbx:=bx.below
 have hbs:=bx.size
 rcases bcT sd (Y9 c.pl dp) with rfl|⟨rfl,(⟨hd,hdI,hdB⟩|⟨hd,hdI,hdB⟩)⟩
 all_goals
  refine Zh (by kernel_rfl) (by kernel_rfl) ?_
  repeat (go_big_quiet_step ((first|(go_at_call 24;exact Zg (HSD.out _ (hbx.trans ((Ze _ _).mono (by omega)))))|(go_at_call 133;exact Zg (HDP.out _ (hbx.trans ((Ze _ _).mono (by omega)))))|(go_at_call 134;exact Zg (HWT.out _ (hbx.trans ((Ze _ _).mono (by omega))))))))
  refine wpQuiet_nil ?_
  intro _ hw'
  obtain ⟨pq,hw''⟩:=hw'
  subst hw''
  go_wp2_with fail
  go_ret
  exact ⟨Zb (by rw [HR.out];first|(simp [sndB, *];done)|(simp [sndB, *];intros;omega)),hbx.trans ((Ze _ _).mono (by omega))⟩
set_option maxRecDepth 100000 in
theorem zo2 (w:World) (c:CC) {R ps vk vs bk be i0 j0 n0 vn sd:Bool} {dp wt:Nat} (h:SndH w c R ps vk vs bk be i0 j0 n0 vn sd dp wt) (ek:c.k=9):
 Calls Tryz.prog 79 #[.agg #[.int .u8 c.k, .slice c.pa c.pl c.pc, .string c.key, .int .i64 c.i, .int .i64 c.j, .int .i64 c.n, .int .u8 c.v.k, .int .i64 c.v.n, .string c.v.s, .slice c.v.la c.v.ll c.v.lc, .slice c.v.oa c.v.ol c.v.oc, .string c.s]] w fun e w'=>e= .returned (.bool R)/\Below w.heap.size w w':=by
 obtain ⟨hbk,hbe,hi0,hj0,hn0,HPS,HVK,HVS,HVN,HSD,HDP,HWT,HSAYS,⟨k1,k4,k5⟩,hR2⟩:=h
 have bx:=Yk w c 60
 have e1:saysB c.k= { data:= #[73,78] } :=by rw [ek];rfl
 rw [e1] at HSAYS
 have HIN:∀(b:Nat) {t:Bool},hasB { data:= #[73,78] } b=t->Hid (Behind w 132 #[.string { data:= #[73,78] }, .int .u8 b] (.bool t)):=fun b t ht W _=>by rw [<-ht];exact Yz { data:= #[73,78] } b W (by decide)
 have hR3:R=sndB true false true false true false false bk (!i0) (!j0) (!n0) be vn ps vk vs (decide (0<=c.i)) (decide (0<=c.j)) false (decide (c.n<1)) sd (decide (c.pl+1+dp<=16)) (decide (wt<=20000)):=by
  rw [hR2,ek]
  first|rfl|(cases be<;>rfl)
 have HR:=qh hR3
 have f8:(c.k==8)=false:=by rw [ek];rfl
 have f9:(c.k==9)=true:=by rw [ek];rfl
 have HLK:Hid (Behind w 132 #[.string { data:= #[73,78] }, .int .u8 75] (.bool false)):=HIN 75 (by decide);have HLI:Hid (Behind w 132 #[.string { data:= #[73,78] }, .int .u8 73] (.bool true)):=HIN 73 (by decide);have HLJ:Hid (Behind w 132 #[.string { data:= #[73,78] }, .int .u8 74] (.bool false)):=HIN 74 (by decide);have HLN:Hid (Behind w 132 #[.string { data:= #[73,78] }, .int .u8 78] (.bool true)):=HIN 78 (by decide);have HLS:Hid (Behind w 132 #[.string { data:= #[73,78] }, .int .u8 83] (.bool false)):=HIN 83 (by decide);have HLV:Hid (Behind w 132 #[.string { data:= #[73,78] }, .int .u8 86] (.bool false)):=HIN 86 (by decide)
 clear hR2 hR3 e1 HIN ek
 go_enter Tryz.func79,Tryz.ntmps79
 go_wp2_with ((go_at_call 130;(with_reducible refine (Behind.at_ HSAYS.out ?_).mono ?_));(focus (have:=bx.below;have:=bx.size;go_grown));rintro e w1 ⟨rfl,hb1⟩;replace bx:=(bx.step (by go_grown)).step hb1;obtain ⟨zs,z0,z1,z2,z3,z4,z5,z6,y0,y1,y2,y3,y4⟩:=bx.all)
 rcases bcT ps (bcT bk (bcF j0 (bcT be (bcT vn (bcT vk (bcT vs (bcP (c.i<0) (bcP (c.j<0) (bcP (c.n<1) trivial))))))))) with rfl|⟨rfl,(rfl|⟨rfl,(rfl|⟨rfl,(rfl|⟨rfl,(rfl|⟨rfl,(rfl|⟨rfl,(rfl|⟨rfl,(hpi|⟨hpi,(hpj|⟨hpj,(hpn|⟨hpn,_⟩)⟩)⟩)⟩)⟩)⟩)⟩)⟩)⟩)⟩
 all_goals go_wp2_with ((first|(go_at_call 131;(with_reducible refine (Behind.at_ HPS.out ?_).mono ?_))|(go_at_call 132;(with_reducible refine (Behind.at_ HLK.out ?_).mono ?_))|(go_at_call 132;(with_reducible refine (Behind.at_ HLI.out ?_).mono ?_))|(go_at_call 132;(with_reducible refine (Behind.at_ HLJ.out ?_).mono ?_))|(go_at_call 132;(with_reducible refine (Behind.at_ HLN.out ?_).mono ?_))|(go_at_call 132;(with_reducible refine (Behind.at_ HLS.out ?_).mono ?_))|(go_at_call 132;(with_reducible refine (Behind.at_ HLV.out ?_).mono ?_))|(go_at_call 23;(with_reducible refine (Behind.at_ HVN.out ?_).mono ?_))|(go_at_call 66;(with_reducible refine (Behind.at_ HVK.out ?_).mono ?_))|(go_at_call 66;(with_reducible refine (Behind.at_ HVS.out ?_).mono ?_)));(focus (have:=bx.below;have:=bx.size;go_grown));rintro e w1 ⟨rfl,hb1⟩;replace bx:=(bx.step (by go_grown)).step hb1;obtain ⟨zs,z0,z1,z2,z3,z4,z5,z6,y0,y1,y2,y3,y4⟩:=bx.all)
 iterate 10 (focus (go_ret;exact ⟨Zb (by rw [HR.out];first|(simp [sndB, *];done)|(simp [sndB, *];intros;omega)),by have:=bx.below;have:=bx.size;go_grown⟩))
 have a0:=Za bx.at_.c6.c0;have a1:=Za bx.at_.c6.c1;have a2:=Za bx.at_.c6.c2;have a3:=Za bx.at_.c6.c3;have a4:=Za bx.at_.c6.c4;have a5:=Za bx.at_.c1
 have hbx:=bx.below
 have hbs:=bx.size
 have hn2:decide (c.n<1)=false:=by simpa using hpn
 rcases bcT sd (Y9 c.pl dp) with rfl|⟨rfl,(⟨hd,hdI,hdB⟩|⟨hd,hdI,hdB⟩)⟩
 all_goals
  refine Zh (by kernel_rfl) (by kernel_rfl) ?_
  repeat (go_big_quiet_step ((first|(go_at_call 24;exact Zg (HSD.out _ (hbx.trans ((Ze _ _).mono (by omega)))))|(go_at_call 133;exact Zg (HDP.out _ (hbx.trans ((Ze _ _).mono (by omega)))))|(go_at_call 134;exact Zg (HWT.out _ (hbx.trans ((Ze _ _).mono (by omega))))))))
  refine wpQuiet_nil ?_
  intro _ hw'
  obtain ⟨pq,hw''⟩:=hw'
  subst hw''
  go_wp2_with fail
  go_ret
  exact ⟨Zb (by rw [HR.out];first|(simp [sndB, *];done)|(simp [sndB, *];intros;omega)),hbx.trans ((Ze _ _).mono (by omega))⟩
theorem zpp (x:Cm) (w:World) (hT:Tabs w) (c:CC) (hx:IsComp w w.heap.size x c) (hw:x.v.weight<=4611686018427387904):
 Calls Tryz.prog 79 #[.agg #[.int .u8 c.k, .slice c.pa c.pl c.pc, .string c.key, .int .i64 c.i, .int .i64 c.j, .int .i64 c.n, .int .u8 c.v.k, .int .i64 c.v.n, .string c.v.s, .slice c.v.la c.v.ll c.v.lc, .slice c.v.oa c.v.ol c.v.oc, .string c.s]] w fun e w'=>e= .returned (.bool (cmSound x))/\Below w.heap.size w w':=by
 obtain ⟨_,_,_,_,_,_,_,_,_,_,_,_,h⟩:=zpz x w hT c hx hw
 by_cases e1:c.k=1
 .exact zlc w c h e1
 by_cases e2:c.k=2
 .exact znx w c h e2
 by_cases e3:c.k=3
 .exact zoc w c h e3
 by_cases e4:c.k=4
 .exact zjm w c h e4
 by_cases e5:c.k=5
 .exact zk6 w c h e5
 by_cases e6:c.k=6
 .exact zky w c h e6
 by_cases e7:c.k=7
 .exact zqq w c h e7
 by_cases e8:c.k=8
 .exact zor w c h e8
 by_cases e9:c.k=9
 .exact zo2 w c h e9
 exact zji w c h (by simp only [kIs,Bool.and_eq_false_iff,decide_eq_false_iff_not];omega)
noncomputable def checkP (v:V) (c:Cm):Int:=
 if cmSound c=false then 60 else match getP v c.path with
  |none=>30
  |some x=>kindsP x c.k c.i c.j c.n c.key
theorem zra {v:V} {s:St} {x:V} {k:Nat} (h:stepP v s=some (x,k)):x.weight<v.weight:=by
 obtain ⟨kk,n,t,l,o,rfl⟩:=v.eta
 rcases Jm h with ⟨_,_,_,hk,e⟩|⟨_,_,_,hk,e⟩
 .have h:=Qk l k hk
  have e2:l[k]'hk=x:=e
  rw [e2] at h
  simp only [V.weight];omega
 .have h:=X3 o k hk
  have e2:(o[k]'hk).2=x:=e
  rw [e2] at h
  simp only [V.weight];omega
theorem Xv (p:List St):∀ {v x:V},getP v p=some x->x.weight<=v.weight:=by
 induction p with
 |nil=>intro v x h;injection h with h;subst h;exact Nat.le_refl _
 | cons s r ih=>
   intro v x h
   unfold getP at h
   cases hs:stepP v s with
   |none=>rw [hs] at h;cases h
   | some q=>
     rw [hs] at h
     have:=zra (x:=q.1) (k:=q.2) hs
     have:=ih h
     omega
theorem V.str_weight (v:V):v.str.size<v.weight/\v.ls.length<v.weight/\v.os.length<v.weight:=by
 obtain ⟨kk,n,t,l,o,rfl⟩:=v.eta
 have hp:∀v:V,1<=v.weight:=fun v=>by cases v;simp only [V.weight];omega
 have h1:l.length<=weightL l:=by
  induction l with
  |nil=>simp
  |cons a r ih=>have:=hp a;simp only [List.length_cons,weightL];omega
 have h2:o.length<=weightO o:=by
  induction o with
  |nil=>simp
  |cons a r ih=>have:=hp a.2;simp only [List.length_cons,weightO,Yb];omega
 simp only [V.str,V.ls,V.os,V.weight];omega
set_option maxRecDepth 100000 in
theorem Ji (w:World) (vk vn:Int) (vs:ByteArray) (la:Option Addr) (ll lc:Nat) (oa:Option Addr) (ol oc:Nat) (v:V) (hv:IsVal w w.heap.size v ⟨vk,vn,vs,la,ll,lc,oa,ol,oc⟩) (hw:v.weight<=1000000000000) (p:List St) (xv:V) (cc:CC) (hcb:cc.Bnd) (hp:IsSteps w w.heap.size p cc.pa cc.pl cc.pc) (hxv:IsVal w w.heap.size xv cc.v) (hxw:xv.weight<=1000000000000) (hT:Tabs w):
 Calls Tryz.prog 61 #[.agg #[.int .u8 vk, .int .i64 vn, .string vs, .slice la ll lc, .slice oa ol oc], .agg #[.int .u8 cc.k, .slice cc.pa cc.pl cc.pc, .string cc.key, .int .i64 cc.i, .int .i64 cc.j, .int .i64 cc.n, .int .u8 cc.v.k, .int .i64 cc.v.n, .string cc.v.s, .slice cc.v.la cc.v.ll cc.v.lc, .slice cc.v.oa cc.v.ol cc.v.oc, .string cc.s]] w fun e w'=>e= .returned (.int .i64 (checkP v ⟨cc.k,p,cc.key,cc.i,cc.j,cc.n,xv,cc.s⟩))/\Below w.heap.size w w':=by
 have HSD:Hid (∀W,Below w.heap.size w W->Calls Tryz.prog 79 #[.agg #[.int .u8 cc.k, .slice cc.pa cc.pl cc.pc, .string cc.key, .int .i64 cc.i, .int .i64 cc.j, .int .i64 cc.n, .int .u8 cc.v.k, .int .i64 cc.v.n, .string cc.v.s, .slice cc.v.la cc.v.ll cc.v.lc, .slice cc.v.oa cc.v.ol cc.v.oc, .string cc.s]] W fun e w'=>e= .returned (.bool (cmSound ⟨cc.k,p,cc.key,cc.i,cc.j,cc.n,xv,cc.s⟩))/\Below W.heap.size W w'):=fun W hW=>zpp _ W (hT.below hW) cc (.mk cc p xv hcb (hp.later_ hW) (hxv.later_ hW)) (by show xv.weight<=_;omega)
 have HGT:Hid (∀W,Below w.heap.size w W->Calls Tryz.prog 51 #[.agg #[.int .u8 vk, .int .i64 vn, .string vs, .slice la ll lc, .slice oa ol oc], .slice cc.pa cc.pl cc.pc] W (GetPost W (getP v p))):=fun W hW=>Qi W vk vn vs la ll lc oa ol oc v (hv.later_ hW) p cc.pa cc.pl cc.pc (hp.later_ hW)
 have HKD:Hid (∀W x (d:VC),Below w.heap.size w W->IsVal W W.heap.size x d->getP v p=some x->Calls Tryz.prog 110 #[.agg #[.int .u8 d.k, .int .i64 d.n, .string d.s, .slice d.la d.ll d.lc, .slice d.oa d.ol d.oc], .agg #[.int .u8 cc.k, .slice cc.pa cc.pl cc.pc, .string cc.key, .int .i64 cc.i, .int .i64 cc.j, .int .i64 cc.n, .int .u8 cc.v.k, .int .i64 cc.v.n, .string cc.v.s, .slice cc.v.la cc.v.ll cc.v.lc, .slice cc.v.oa cc.v.ol cc.v.oc, .string cc.s]] W fun e w'=>e= .returned (.int .i64 (kindsP x cc.k cc.i cc.j cc.n cc.key))/\Below W.heap.size W w'):=fun W x d hW hI hg=>by
  have h1:=Xv p hg
  have h2:=x.str_weight.1
  have h3:=(zas hI).1
  exact zkm W d.k d.n d.s d.la d.ll d.lc d.oa d.ol d.oc x hI (by rw [<-h3];omega) cc hcb (hT.below hW)
 obtain ⟨sd,hsd⟩:∃sd,cmSound ⟨cc.k,p,cc.key,cc.i,cc.j,cc.n,xv,cc.s⟩=sd:=⟨_,rfl⟩
 rw [hsd] at HSD
 obtain ⟨R,hR⟩:∃R,checkP v ⟨cc.k,p,cc.key,cc.i,cc.j,cc.n,xv,cc.s⟩=R:=⟨_,rfl⟩
 rw [hR]
 simp only [checkP,hsd] at hR
 have HR:=qh hR
 have HB:=qh (KBk.start w ⟨vk,vn,vs,la,ll,lc,oa,ol,oc⟩ cc 41 60)
 clear hR hsd hv hp hxv hxw hw hT hcb
 go_enter Tryz.func61,Tryz.ntmps61
 go_wp2_with fail
 refine (HSD.out _ HB.out.below).mono ?_
 rintro e W ⟨rfl,hb1⟩
 have B:=HB.out.next hb1 (by simp)
 obtain ⟨v0,v1,v2,v3,v4⟩:=row5 B.v.at_
 obtain ⟨b0,b1,b2,b3,b4,b5,b6,b7,b8,b9,b10,b11⟩:=row12 B.c.at_
 have z0:=B.v.lt;have z1:=B.c.lt
 have HBW:=qh B
 clear B hb1
 cases sd with
 | false=>
   obtain rfl:R=60:=by rw [<-HR.out];rfl
   go_wp2_with fail
   go_returns
   exact ⟨rfl,HBW.out.below⟩
 | true=>
   go_wp2_with fail
   refine (HGT.out _ HBW.out.below).mono ?_
   rintro e W2 h2
   obtain ⟨d,er,rfl,hrel,hb2⟩:=GetPost.gen h2
   clear h2
   have B2:=HBW.out.next hb2 (Nat.succ_le_of_lt z1)
   clear v0 v1 v2 v3 v4 b0 b1 b2 b3 b4 b5 b6 b7 b8 b9 b10 b11
   obtain ⟨v0,v1,v2,v3,v4⟩:=row5 B2.v.at_
   obtain ⟨b0,b1,b2,b3,b4,b5,b6,b7,b8,b9,b10,b11⟩:=row12 B2.c.at_
   have z0:=B2.v.lt;have z1:=B2.c.lt
   have hbl2:=B2.below
   have HB2:=qh (hbl2.alloc hbl2.size (.cells #[.int .u8 d.k, .int .i64 d.n, .string d.s, .slice d.la d.ll d.lc, .slice d.oa d.ol d.oc] 41))
   clear hb2 B2
   rcases hrel.out with ⟨hg,rfl⟩|⟨x,hg,rfl,hI⟩
   .obtain rfl:R=30:=by rw [<-HR.out,hg];rfl
    clear hg hbl2
    go_wp2_with fail
    go_returns
    exact ⟨rfl,HB2.out⟩
   .have HK:Hid (Calls Tryz.prog 110 #[.agg #[.int .u8 d.k, .int .i64 d.n, .string d.s, .slice d.la d.ll d.lc, .slice d.oa d.ol d.oc], .agg #[.int .u8 cc.k, .slice cc.pa cc.pl cc.pc, .string cc.key, .int .i64 cc.i, .int .i64 cc.j, .int .i64 cc.n, .int .u8 cc.v.k, .int .i64 cc.v.n, .string cc.v.s, .slice cc.v.la cc.v.ll cc.v.lc, .slice cc.v.oa cc.v.ol cc.v.oc, .string cc.s]] (W2.alloc (.cells #[.int .u8 d.k, .int .i64 d.n, .string d.s, .slice d.la d.ll d.lc, .slice d.oa d.ol d.oc] 41)) fun e w'=>e= .returned (.int .i64 (kindsP x cc.k cc.i cc.j cc.n cc.key))/\Below (W2.alloc (.cells #[.int .u8 d.k, .int .i64 d.n, .string d.s, .slice d.la d.ll d.lc, .slice d.oa d.ol d.oc] 41)).heap.size (W2.alloc (.cells #[.int .u8 d.k, .int .i64 d.n, .string d.s, .slice d.la d.ll d.lc, .slice d.oa d.ol d.oc] 41)) w'):=HKD.out _ x d HB2.out ((hI.sub (Zt _ _ _)).later_ ((Below.refl _ _).alloc (Nat.le_refl _) _)) hg
    obtain rfl:R=kindsP x cc.k cc.i cc.j cc.n cc.key:=by rw [<-HR.out,hg];rfl
    clear hg hI hrel hbl2
    go_wp2_with fail
    refine HK.out.mono ?_
    rintro e W3 ⟨rfl,hb3⟩
    go_wp2_with fail
    go_returns
    exact ⟨rfl,HB2.out.trans (hb3.mono HB2.out.size)⟩
def fldStep (key:ByteArray) (v:V) (s:List (ByteArray×V)×Bool) (f:ByteArray×V):List (ByteArray×V)×Bool:=
 if s.2=false/\Op.bytesLess f.1.toList key.toList=false then (if f.1.toList=key.toList then (s.1++ [(key,v)],true) else (s.1++ [(key,v)] ++ [f],true))
 else if f.1.toList=key.toList then s else (s.1++ [f],s.2)
def fieldsDo (o:List (ByteArray×V)) (key:ByteArray) (v:V) (del:Bool):List (ByteArray×V):=
 if (o.foldl (fldStep key v) ([],del)).2=false then (o.foldl (fldStep key v) ([],del)).1++ [(key,v)] else (o.foldl (fldStep key v) ([],del)).1
theorem zh5 {α β:Type} (f:β->α->β) (b:β) (l:List α) (k:Nat) (h:k<l.length):(l.take (k+1)).foldl f b=f ((l.take k).foldl f b) l[k] :=by
 rw [Zv l k h,List.foldl_append];rfl
theorem PF.snoc1 {l:List (ByteArray×V)} {cs:List (ByteArray×VC)} {W:World} {B:Nat} (hl:cs.length=l.length) (h:∀i,i<l.length->PF l cs W B i) {s:ByteArray} (hs:s.size<=140737488355328) {x:V} {c:VC} (hx:IsVal W B x c):∀i,i<(l++ [(s,x)]).length->PF (l++ [(s,x)]) (cs++ [(s,c)]) W B i:=by
 obtain ⟨s1,s2⟩:=PF.snoc (l:=l) (cs:=cs) hl s hs x c
 intro i hi
 by_cases e:i<l.length
 .exact s2 W B i e (h i e)
 .rw [List.length_append,List.length_singleton] at hi
  obtain rfl:i=l.length:=by omega
  exact s1 W B hx
theorem zb7 {w:World} {B1:Nat} {S:Nat->Prop} {v:Value} {l:List (ByteArray×V)} {cs:List (ByteArray×VC)} (hown:w.ownsRow B1 98 6 v l.length (cs.flatMap fcells)) (hS:∀k,B1<=k->S k) (hl:cs.length=l.length) (hels:∀i,i<l.length->PF l cs (only S w) w.heap.size i) (hfew:l.length<=1466015503701):
 ∃a n c,v= .slice a n c/\IsFields (only S w) w.heap.size l a n c/\(a=none->c=0):=by
 obtain ⟨a,c,hv,hr⟩:=OwnRow.of (base':=B1) hown (Nat.le_refl _)
 have hI:=zae (w:=only S w) (B:=w.heap.size) (k:=0) (n:=0) (s:= .empty) (l:= []) (o:=l) (a:=none) (m:=0) (c:=0) (a':=a) (m':=l.length) (c':=c) (cl:= []) (co:=cs) (by omega) (by omega) (by omega) (by omega) (by decide) rfl rfl rfl hl (by simp) hfew (by omega) (by omega) hr.cap hr.max (fun h=>absurd h (by omega)) (fun hp=>by
  obtain ⟨g,e,hg,hbc⟩:=hr.row (.inl hp)
  exact ⟨g,e,hbc.lt,fun i hi=>⟨Z4 (hS g hg) (Yn hbc hi).1,Xr (hS g hg) (Yn hbc hi).2⟩⟩) (fun i h=>absurd h (by simp)) hels
 refine ⟨a,l.length,c,hv,hI.lists.2.2.2.2.2,fun ha=> ?_⟩
 by_cases hn:l.length=0
 .exact hr.none_ hn ha
 .obtain ⟨g,e,_⟩:=hr.row (.inl (by omega))
  rw [ha] at e;cases e
def FieldsPost (w:World) (S:Nat->Prop) (l:List (ByteArray×V)) (e:Ending) (w':World):Prop:=
 (∃a n c,e= .returned (.slice a n c)/\IsFields (only S w') w'.heap.size l a n c)/\Below w.heap.size w w'
structure FH (W1 wr:World) (S:Nat->Prop) (o:List (ByteArray×V)) (key:ByteArray) (v:V) (del:Bool) (j:Nat) (u:Value) (xs:List (ByteArray×V)) (cs:List (ByteArray×VC)) (done:Bool):Prop where
 rd:(o.take j).foldl (fldStep key v) ([],del)=(xs,done)
 few:xs.length<=2*j
 cen:cs.length=xs.length
 own:wr.ownsRow W1.heap.size 98 6 u xs.length (cs.flatMap fcells)
 els:∀i,i<xs.length->PF xs cs (only S W1) W1.heap.size i
 below:Below W1.heap.size W1 wr
theorem Ys {w:World} {base:Nat} {T:TypeId} {sz:Nat} {u:Value} {n:Nat} {cells:List Value} (h:w.ownsRow base T sz u n cells) (k:Nat):(w.drewN k).ownsRow base T sz u n cells:=
 h.kept (row:=none) ⟨rfl,rfl,rfl,Nat.le_refl _,fun _ _ _=>rfl⟩ (by cases u.ownBlock<;>simp)
theorem Zx (w:World) (n:Nat) (o:Obj):((w.drewN n).alloc o).heap.size=w.heap.size+1:=World.size_alloc (w.drewN n) o
theorem Yx (w:World) (n:Nat):Below w.heap.size w (w.drewN n):=X7 (Below.refl _ _) n
theorem Jv (w:World) (n:Nat) (s:ByteArray) (d:VC) (t:TypeId):∀j u,(fcells (s,d))[j]? =some u->((w.drewN n).alloc (.cells #[.string s, .int .u8 d.k, .int .i64 d.n, .string d.s, .slice d.la d.ll d.lc, .slice d.oa d.ol d.oc] t)).cell? ((⟨w.heap.size,0,none⟩:Addr).add j)=some u:=
 World.news_of_block (t:=t) (fr:=(0,0)) (heap_alloc_new (w.drewN n) (.cells #[.string s, .int .u8 d.k, .int .i64 d.n, .string d.s, .slice d.la d.ll d.lc, .slice d.oa d.ol d.oc] t))
theorem Qa {W1 wr w0 w7:World} {S:Nat->Prop} {u u':Value} {xs:List (ByteArray×V)} {cs:List (ByteArray×VC)} {s:ByteArray} {x:V} {cx:VC}
 (hlt:∀b,u.ownBlock=some b->W1.heap.size<=b) (cen:cs.length=xs.length) (els:∀i,i<xs.length->PF xs cs (only S W1) W1.heap.size i) (below:Below W1.heap.size W1 wr)
 (hs:s.size<=140737488355328) (hx:IsVal (only S W1) W1.heap.size x cx) (hb:Below wr.heap.size wr w0)
 (hown:w7.ownsRow W1.heap.size 98 6 u' (xs.length+1) (cs.flatMap fcells++fcells (s,cx))) (hg:w0.grownBy w7 u.ownBlock):
 (cs++ [(s,cx)]).length=(xs++ [(s,x)]).length/\w7.ownsRow W1.heap.size 98 6 u' (xs++ [(s,x)]).length ((cs++ [(s,cx)]).flatMap fcells)/\(∀i,i<(xs++ [(s,x)]).length->PF (xs++ [(s,x)]) (cs++ [(s,cx)]) (only S W1) W1.heap.size i)/\Below W1.heap.size W1 w7:=by
 refine ⟨by simp [cen], ?_,PF.snoc1 cen els hs hx,(below.trans (hb.mono below.size)).trans (Zi hg hlt (Nat.le_trans below.size hb.size))⟩
 rw [Xb,List.length_append,List.length_singleton]
 exact hown
theorem zgm {w w4:World} (h:Below w.heap.size w.drew w4) (hz:w.heap.size<=w4.heap.size) (s:ByteArray) (d:VC) (t:TypeId):BC (w4.alloc (.cells #[.string s, .int .u8 d.k, .int .i64 d.n, .string d.s, .slice d.la d.ll d.lc, .slice d.oa d.ol d.oc] t)) w4.heap.size (fcells (s,d))/\Below w.heap.size w.drew (w4.alloc (.cells #[.string s, .int .u8 d.k, .int .i64 d.n, .string d.s, .slice d.la d.ll d.lc, .slice d.oa d.ol d.oc] t))/\w.heap.size<=w4.heap.size:=
 ⟨BC.start w4 #[.string s, .int .u8 d.k, .int .i64 d.n, .string d.s, .slice d.la d.ll d.lc, .slice d.oa d.ol d.oc] t,h.alloc hz _,hz⟩
theorem zpb {w w4:World} (h:Below w.heap.size w.drew w4) (s:ByteArray) (d:VC) (x:BC w4 w.heap.size [.string { data:= #[] }, .int .u8 0, .int .i64 0, .string { data:= #[] }, .slice none 0 0, .slice none 0 0]):
 BC ((((((w4.setCell ⟨w.heap.size,0,none⟩ (.string s)).setCell ⟨w.heap.size,1,none⟩ (.int .u8 d.k)).setCell ⟨w.heap.size,2,none⟩ (.int .i64 d.n)).setCell ⟨w.heap.size,3,none⟩ (.string d.s)).setCell ⟨w.heap.size,4,none⟩ (.slice d.la d.ll d.lc)).setCell ⟨w.heap.size,5,none⟩ (.slice d.oa d.ol d.oc)) w.heap.size (fcells (s,d))/\Below w.heap.size w.drew ((((((w4.setCell ⟨w.heap.size,0,none⟩ (.string s)).setCell ⟨w.heap.size,1,none⟩ (.int .u8 d.k)).setCell ⟨w.heap.size,2,none⟩ (.int .i64 d.n)).setCell ⟨w.heap.size,3,none⟩ (.string d.s)).setCell ⟨w.heap.size,4,none⟩ (.slice d.la d.ll d.lc)).setCell ⟨w.heap.size,5,none⟩ (.slice d.oa d.ol d.oc))/\w.heap.size<=w.heap.size:=
 ⟨(((((x.set (i:=0) (x:= .string s) (by simp)).set (i:=1) (x:= .int .u8 d.k) (by simp)).set (i:=2) (x:= .int .i64 d.n) (by simp)).set (i:=3) (x:= .string d.s) (by simp)).set (i:=4) (x:= .slice d.la d.ll d.lc) (by simp)).set (i:=5) (x:= .slice d.oa d.ol d.oc) (by simp),
  (((((h.set_ (Nat.le_refl _)).set_ (Nat.le_refl _)).set_ (Nat.le_refl _)).set_ (Nat.le_refl _)).set_ (Nat.le_refl _)).set_ (Nat.le_refl _),Nat.le_refl _⟩
theorem _root_.Go.RowKit.Below.set6 {B b:Nat} {a w:World} (h:Below B a w) (hb:B<=b) (x0 x1 x2 x3 x4 x5:Value):Below B a ((((((w.setCell ⟨b,0,none⟩ x0).setCell ⟨b,1,none⟩ x1).setCell ⟨b,2,none⟩ x2).setCell ⟨b,3,none⟩ x3).setCell ⟨b,4,none⟩ x4).setCell ⟨b,5,none⟩ x5):=
 (((((h.set_ hb).set_ hb).set_ hb).set_ hb).set_ hb).set_ hb
theorem zlf {w w4:World} (h:Below w.heap.size w.drew w4) (hz:w.heap.size<=w4.heap.size) (s:ByteArray) (d:VC) (t:TypeId) {x:V} (hx:IsVal (only (fun b=>w.heap.size<=b) w4) w4.heap.size x d):
 (BC (w4.alloc (.cells #[.string s, .int .u8 d.k, .int .i64 d.n, .string d.s, .slice d.la d.ll d.lc, .slice d.oa d.ol d.oc] t)) w4.heap.size (fcells (s,d))/\Below w.heap.size w.drew (w4.alloc (.cells #[.string s, .int .u8 d.k, .int .i64 d.n, .string d.s, .slice d.la d.ll d.lc, .slice d.oa d.ol d.oc] t))/\w.heap.size<=w4.heap.size)/\Hid (IsVal (only (fun b=>w.heap.size<=b) (w4.alloc (.cells #[.string s, .int .u8 d.k, .int .i64 d.n, .string d.s, .slice d.la d.ll d.lc, .slice d.oa d.ol d.oc] t))) (w4.alloc (.cells #[.string s, .int .u8 d.k, .int .i64 d.n, .string d.s, .slice d.la d.ll d.lc, .slice d.oa d.ol d.oc] t)).heap.size x d):=by
 have hb:Below w4.heap.size w4 (w4.alloc (.cells #[.string s, .int .u8 d.k, .int .i64 d.n, .string d.s, .slice d.la d.ll d.lc, .slice d.oa d.ol d.oc] t)):=(Below.refl _ _).alloc (Nat.le_refl _) _
 exact ⟨zgm h hz s d t,(hx.sub (Zf fun k hk hl=>⟨hk,hb.block k hl⟩)).more hb.size⟩
theorem zjq {w w4:World} (h:Below w.heap.size w.drew w4) (s:ByteArray) (d:VC) (xb:BC w4 w.heap.size [.string { data:= #[] }, .int .u8 0, .int .i64 0, .string { data:= #[] }, .slice none 0 0, .slice none 0 0]) {x:V} (hx:IsVal (only (fun b=>w.heap.size+1<=b) w4) w4.heap.size x d):
 (BC ((((((w4.setCell ⟨w.heap.size,0,none⟩ (.string s)).setCell ⟨w.heap.size,1,none⟩ (.int .u8 d.k)).setCell ⟨w.heap.size,2,none⟩ (.int .i64 d.n)).setCell ⟨w.heap.size,3,none⟩ (.string d.s)).setCell ⟨w.heap.size,4,none⟩ (.slice d.la d.ll d.lc)).setCell ⟨w.heap.size,5,none⟩ (.slice d.oa d.ol d.oc)) w.heap.size (fcells (s,d))/\Below w.heap.size w.drew ((((((w4.setCell ⟨w.heap.size,0,none⟩ (.string s)).setCell ⟨w.heap.size,1,none⟩ (.int .u8 d.k)).setCell ⟨w.heap.size,2,none⟩ (.int .i64 d.n)).setCell ⟨w.heap.size,3,none⟩ (.string d.s)).setCell ⟨w.heap.size,4,none⟩ (.slice d.la d.ll d.lc)).setCell ⟨w.heap.size,5,none⟩ (.slice d.oa d.ol d.oc))/\w.heap.size<=w.heap.size)/\Hid (IsVal (only (fun b=>w.heap.size<=b) ((((((w4.setCell ⟨w.heap.size,0,none⟩ (.string s)).setCell ⟨w.heap.size,1,none⟩ (.int .u8 d.k)).setCell ⟨w.heap.size,2,none⟩ (.int .i64 d.n)).setCell ⟨w.heap.size,3,none⟩ (.string d.s)).setCell ⟨w.heap.size,4,none⟩ (.slice d.la d.ll d.lc)).setCell ⟨w.heap.size,5,none⟩ (.slice d.oa d.ol d.oc))) ((((((w4.setCell ⟨w.heap.size,0,none⟩ (.string s)).setCell ⟨w.heap.size,1,none⟩ (.int .u8 d.k)).setCell ⟨w.heap.size,2,none⟩ (.int .i64 d.n)).setCell ⟨w.heap.size,3,none⟩ (.string d.s)).setCell ⟨w.heap.size,4,none⟩ (.slice d.la d.ll d.lc)).setCell ⟨w.heap.size,5,none⟩ (.slice d.oa d.ol d.oc)).heap.size x d):=by
 have st:RStep w4 ((((((w4.setCell ⟨w.heap.size,0,none⟩ (.string s)).setCell ⟨w.heap.size,1,none⟩ (.int .u8 d.k)).setCell ⟨w.heap.size,2,none⟩ (.int .i64 d.n)).setCell ⟨w.heap.size,3,none⟩ (.string d.s)).setCell ⟨w.heap.size,4,none⟩ (.slice d.la d.ll d.lc)).setCell ⟨w.heap.size,5,none⟩ (.slice d.oa d.ol d.oc)) w.heap.size:=((((RStep.self.trans RStep.self).trans RStep.self).trans RStep.self).trans RStep.self).trans RStep.self
 exact ⟨zpb h s d xb,(hx.sub (Zf fun k hk hl=>⟨by omega,st.block k hl (by omega)⟩)).more st.size⟩
end Go.Proofs.YtfoahkbnheijcaaGreatDoor
