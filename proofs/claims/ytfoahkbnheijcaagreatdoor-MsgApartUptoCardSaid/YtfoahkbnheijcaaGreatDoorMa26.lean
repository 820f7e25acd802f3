/-
  Contracts of the functions that the law reaches: conciliatorref06.Sound, by kinds..
-/
import Derived.Test.YtfoahkbnheijcaaGreatDoorMa25
namespace Go.Proofs.YtfoahkbnheijcaaGreatDoor
open Go.RowKit
set_option maxHeartbeats 8000000
theorem zb0:ByteArray.empty.toList= [] :=by rw [ByteArray.toList_eq];rfl
theorem zit {s:ByteArray} :s.toList= [] ↔s= .empty:=by
 constructor
 .intro h;exact Yv (by rw [h,zb0])
 .intro h;rw [h,zb0]
theorem zik (x:Cm):eqB x.bare ⟨x.k,x.path, .empty,0,0,0,V.none, .empty⟩=
 ((kKey x.k||(x.key.toList== [])) && (kI x.k||(x.i==0)) && (kJ x.k||(x.j==0)) && (kN x.k||(x.n==0)) && (kS x.k||(x.s.toList== [])) && (kV x.k||eqv x.v V.none)):=by
 apply Bool.eq_iff_iff.2
 simp only [Bool.and_eq_true,Bool.or_eq_true,beq_iff_eq,zit]
 constructor
 .intro h
  have h:=Z6 h
  simp only [Cm.bare] at h
  injection h with _ _ h1 h2 h3 h4 h5 h6
  refine ⟨⟨⟨⟨⟨?_, ?_⟩, ?_⟩, ?_⟩, ?_⟩, ?_⟩
  .by_cases e:kKey x.k=true
   .exact .inl e
   .exact .inr (by simpa [e] using h1)
  .by_cases e:kI x.k=true
   .exact .inl e
   .exact .inr (by simpa [e] using h2)
  .by_cases e:kJ x.k=true
   .exact .inl e
   .exact .inr (by simpa [e] using h3)
  .by_cases e:kN x.k=true
   .exact .inl e
   .exact .inr (by simpa [e] using h4)
  .by_cases e:kS x.k=true
   .exact .inl e
   .exact .inr (by simpa [e] using h6)
  .by_cases e:kV x.k=true
   .exact .inl e
   .exact .inr (J8 (by simpa [e] using h5))
 .rintro ⟨⟨⟨⟨⟨h1,h2⟩,h3⟩,h4⟩,h5⟩,h6⟩
  apply Zy
  simp only [Cm.bare]
  congr 1
  .rcases h1 with e|e<;>simp [e]
  .rcases h2 with e|e<;>simp [e]
  .rcases h3 with e|e<;>simp [e]
  .rcases h4 with e|e<;>simp [e]
  .rcases h6 with e|e
   .simp [e]
   .simp [X5 e]
  .rcases h5 with e|e<;>simp [e]
def sndB (kn fK fI fJ fN fS fV bk i0 j0 n0 be vn ps vk vs i1 j1 k8 k9 sd dp wt:Bool):Bool:=
 kn && ((fK||bk) && (fI||i0) && (fJ||j0) && (fN||n0) && (fS||be) && (fV||vn)) && ps && vk && vs && i1 && j1 && !k8 && !k9 && sd && dp && wt
theorem zpq (x:Cm):cmSound x=sndB (kIs x.k) (kKey x.k) (kI x.k) (kJ x.k) (kN x.k) (kS x.k) (kV x.k) (x.key.toList== []) (x.i==0) (x.j==0) (x.n==0) (x.s.toList== []) (eqv x.v V.none)
 (pathSound x.path) (Lib.validD x.key.data.toList) (Lib.validD x.s.data.toList) (decide (0<=x.i)) (decide (0<=x.j)) (x.k==8 && (x.s.toList== [])) (x.k==9 && decide (x.n<1)) x.v.sound (decide (x.path.length+1+x.v.deep<=16)) (decide (x.v.weight<=20000)):=by
 unfold cmSound sndB
 rw [zik]
 have:x.s.toList.isEmpty=(x.s.toList== []):=by cases x.s.toList<;>rfl
 rw [this]
theorem bcT (b:Bool) {P:Prop} (h:P):b=false∨b=true/\P:=by cases b;exact .inl rfl;exact .inr ⟨rfl,h⟩
theorem bcF (b:Bool) {P:Prop} (h:P):b=true∨b=false/\P:=by cases b;exact .inr ⟨rfl,h⟩;exact .inl rfl
theorem bcP (p:Prop) [Decidable p] {P:Prop} (h:P):p∨¬p/\P:=by by_cases q:p;exact .inl q;exact .inr ⟨q,h⟩
theorem Y9 (a b:Nat):(¬(a+1+b<=16)/\¬((a:Int)+1+(b:Int)<=16)/\decide ((a:Int)+1+(b:Int)<=16)=false)∨(a+1+b<=16/\((a:Int)+1+(b:Int)<=16)/\decide ((a:Int)+1+(b:Int)<=16)=true):=by
 by_cases h:a+1+b<=16
 .have h2:(a:Int)+1+(b:Int)<=16:=by omega
  exact .inr ⟨h,h2,by simpa using h2⟩
 .have h2:¬((a:Int)+1+(b:Int)<=16):=by omega
  exact .inl ⟨h,h2,by simpa using h2⟩
theorem Boxed1C.all {w W:World} {c:CC} (h:Boxed1C w W c):w.heap.size<W.heap.size/\W.cell? ⟨w.heap.size,0,none⟩=some (.int .u8 c.k)/\W.cell? ⟨w.heap.size,1,none⟩=some (.slice c.pa c.pl c.pc)/\W.cell? ⟨w.heap.size,2,none⟩=some (.string c.key)/\W.cell? ⟨w.heap.size,3,none⟩=some (.int .i64 c.i)/\W.cell? ⟨w.heap.size,4,none⟩=some (.int .i64 c.j)/\W.cell? ⟨w.heap.size,5,none⟩=some (.int .i64 c.n)/\W.cell? ⟨w.heap.size,11,none⟩=some (.string c.s)/\W.cell? ⟨w.heap.size,6,none⟩=some (.int .u8 c.v.k)/\W.cell? ⟨w.heap.size,7,none⟩=some (.int .i64 c.v.n)/\W.cell? ⟨w.heap.size,8,none⟩=some (.string c.v.s)/\W.cell? ⟨w.heap.size,9,none⟩=some (.slice c.v.la c.v.ll c.v.lc)/\W.cell? ⟨w.heap.size,10,none⟩=some (.slice c.v.oa c.v.ol c.v.oc):=⟨by have:=h.size;omega,h.at_.c0,h.at_.c1,h.at_.c2,h.at_.c3,h.at_.c4,h.at_.c5,h.at_.c11,h.at_.c6.c0,h.at_.c6.c1,h.at_.c6.c2,h.at_.c6.c3,h.at_.c6.c4⟩
structure SndH (w:World) (c:CC) (R ps vk vs bk be i0 j0 n0 vn sd:Bool) (dp wt:Nat):Prop where
 hbk:(c.key.toList== [])=bk
 hbe:(c.s.toList== [])=be
 hi0:(c.i !=0)=i0
 hj0:(c.j !=0)=j0
 hn0:(c.n !=0)=n0
 HPS:Hid (Behind w 131 #[.slice c.pa c.pl c.pc] (.bool ps))
 HVK:Hid (Behind w 66 #[.string c.key] (.bool vk))
 HVS:Hid (Behind w 66 #[.string c.s] (.bool vs))
 HVN:Hid (Behind w 23 #[.agg #[.int .u8 c.v.k, .int .i64 c.v.n, .string c.v.s, .slice c.v.la c.v.ll c.v.lc, .slice c.v.oa c.v.ol c.v.oc], .agg #[.int .u8 0, .int .i64 0, .string { data:= #[] }, .slice none 0 0, .slice none 0 0]] (.bool vn))
 HSD:Hid (Behind w 24 #[.agg #[.int .u8 c.v.k, .int .i64 c.v.n, .string c.v.s, .slice c.v.la c.v.ll c.v.lc, .slice c.v.oa c.v.ol c.v.oc]] (.bool sd))
 HDP:Hid (Behind w 133 #[.agg #[.int .u8 c.v.k, .int .i64 c.v.n, .string c.v.s, .slice c.v.la c.v.ll c.v.lc, .slice c.v.oa c.v.ol c.v.oc]] (.int .i64 dp))
 HWT:Hid (Behind w 134 #[.agg #[.int .u8 c.v.k, .int .i64 c.v.n, .string c.v.s, .slice c.v.la c.v.ll c.v.lc, .slice c.v.oa c.v.ol c.v.oc]] (.int .i64 wt))
 HSAYS:Hid (Behind w 130 #[.int .u8 c.k] (.string (saysB c.k)))
 k:(c.pl:Int)<=140737488355328/\wt<=4611686018427387904/\dp<=4611686018427387904
 hR2:R=sndB (kIs c.k) (kKey c.k) (kI c.k) (kJ c.k) (kN c.k) (kS c.k) (kV c.k) bk (!i0) (!j0) (!n0) be vn ps vk vs (decide (0<=c.i)) (decide (0<=c.j)) (c.k==8 && be) (c.k==9 && decide (c.n<1)) sd (decide (c.pl+1+dp<=16)) (decide (wt<=20000))
theorem zpz (x:Cm) (w:World) (hT:Tabs w) (c:CC) (hx:IsComp w w.heap.size x c) (hw:x.v.weight<=4611686018427387904):∃ps vk vs bk be i0 j0 n0 vn sd dp wt,SndH w c (cmSound x) ps vk vs bk be i0 j0 n0 vn sd dp wt:=by
 cases hx with
 |mk c p v hb hp hv=>
 dsimp only at hw
 refine ⟨_,_,_,_,_,_,_,_,_,_,_,_,rfl,rfl,rfl,rfl,rfl,fun W hW=>zhz p W (hT.below hW) _ _ _ (hp.later_ hW),fun W hW=>Z8 c.key W hb.key1 (hT.below hW),fun W hW=>Z8 c.s W hb.s1 (hT.below hW),fun W hW=>K2 v V.none W c.v VC.none (hv.later_ hW) (Zo _ _),fun W hW=>zjn v W c.v (hv.later_ hW) (hT.below hW),fun W hW=>ziu v W c.v (hv.later_ hW) hw,fun W hW=>zqi v W c.v (hv.later_ hW) hw,fun W _=>zls c.k W, ?_, ?_⟩
 .have k1:=hp.few;have k2:=hp.max;have k3:=hp.cap;have:=v.deep_lt;omega
 .rw [zpq];simp only [hp.len,bne,Bool.not_not]
set_option maxRecDepth 100000 in
theorem zji (w:World) (c:CC) {R ps vk vs bk be i0 j0 n0 vn sd:Bool} {dp wt:Nat} (h:SndH w c R ps vk vs bk be i0 j0 n0 vn sd dp wt) (ek:kIs c.k=false):
 Calls Tryz.prog 79 #[.agg #[.int .u8 c.k, .slice c.pa c.pl c.pc, .string c.key, .int .i64 c.i, .int .i64 c.j, .int .i64 c.n, .int .u8 c.v.k, .int .i64 c.v.n, .string c.v.s, .slice c.v.la c.v.ll c.v.lc, .slice c.v.oa c.v.ol c.v.oc, .string c.s]] w fun e w'=>e= .returned (.bool R)/\Below w.heap.size w w':=by
 obtain ⟨hbk,hbe,hi0,hj0,hn0,HPS,HVK,HVS,HVN,HSD,HDP,HWT,HSAYS,⟨k1,k4,k5⟩,hR2⟩:=h
 have bx:=Yk w c 60
 have hR3:R=false:=by rw [hR2,ek];rfl
 have e1:saysB c.k= { data:= #[] } :=by
  simp only [kIs,Bool.and_eq_false_iff,decide_eq_false_iff_not] at ek
  unfold saysB
  repeat (first|rfl|rw [if_neg (by omega)])
 rw [e1] at HSAYS
 have HR:=qh hR3
 clear hR2 hR3 e1 ek
 go_enter Tryz.func79,Tryz.ntmps79
 go_wp2_with ((go_at_call 130;(with_reducible refine (Behind.at_ HSAYS.out ?_).mono ?_));(focus (have:=bx.below;have:=bx.size;go_grown));rintro e w1 ⟨rfl,hb1⟩;replace bx:=(bx.step (by go_grown)).step hb1;obtain ⟨zs,z0,z1,z2,z3,z4,z5,z6,y0,y1,y2,y3,y4⟩:=bx.all)
 go_ret
 exact ⟨Zb (by rw [HR.out]),by have:=bx.below;have:=bx.size;go_grown⟩
set_option maxRecDepth 100000 in
theorem zlc (w:World) (c:CC) {R ps vk vs bk be i0 j0 n0 vn sd:Bool} {dp wt:Nat} (h:SndH w c R ps vk vs bk be i0 j0 n0 vn sd dp wt) (ek:c.k=1):
 Calls Tryz.prog 79 #[.agg #[.int .u8 c.k, .slice c.pa c.pl c.pc, .string c.key, .int .i64 c.i, .int .i64 c.j, .int .i64 c.n, .int .u8 c.v.k, .int .i64 c.v.n, .string c.v.s, .slice c.v.la c.v.ll c.v.lc, .slice c.v.oa c.v.ol c.v.oc, .string c.s]] w fun e w'=>e= .returned (.bool R)/\Below w.heap.size w w':=by
 obtain ⟨hbk,hbe,hi0,hj0,hn0,HPS,HVK,HVS,HVN,HSD,HDP,HWT,HSAYS,⟨k1,k4,k5⟩,hR2⟩:=h
 have bx:=Yk w c 60
 have e1:saysB c.k= { data:= #[78] } :=by rw [ek];rfl
 rw [e1] at HSAYS
 have HIN:∀(b:Nat) {t:Bool},hasB { data:= #[78] } b=t->Hid (Behind w 132 #[.string { data:= #[78] }, .int .u8 b] (.bool t)):=fun b t ht W _=>by rw [<-ht];exact Yz { data:= #[78] } b W (by decide)
 have hR3:R=sndB true false false false true false false bk (!i0) (!j0) (!n0) be vn ps vk vs (decide (0<=c.i)) (decide (0<=c.j)) false false sd (decide (c.pl+1+dp<=16)) (decide (wt<=20000)):=by
  rw [hR2,ek]
  first|rfl|(cases be<;>rfl)
 have HR:=qh hR3
 have f8:(c.k==8)=false:=by rw [ek];rfl
 have f9:(c.k==9)=false:=by rw [ek];rfl
 have HLK:Hid (Behind w 132 #[.string { data:= #[78] }, .int .u8 75] (.bool false)):=HIN 75 (by decide);have HLI:Hid (Behind w 132 #[.string { data:= #[78] }, .int .u8 73] (.bool false)):=HIN 73 (by decide);have HLJ:Hid (Behind w 132 #[.string { data:= #[78] }, .int .u8 74] (.bool false)):=HIN 74 (by decide);have HLN:Hid (Behind w 132 #[.string { data:= #[78] }, .int .u8 78] (.bool true)):=HIN 78 (by decide);have HLS:Hid (Behind w 132 #[.string { data:= #[78] }, .int .u8 83] (.bool false)):=HIN 83 (by decide);have HLV:Hid (Behind w 132 #[.string { data:= #[78] }, .int .u8 86] (.bool false)):=HIN 86 (by decide)
 clear hR2 hR3 e1 HIN ek
 go_enter Tryz.func79,Tryz.ntmps79
 go_wp2_with ((go_at_call 130;(with_reducible refine (Behind.at_ HSAYS.out ?_).mono ?_));(focus (have:=bx.below;have:=bx.size;go_grown));rintro e w1 ⟨rfl,hb1⟩;replace bx:=(bx.step (by go_grown)).step hb1;obtain ⟨zs,z0,z1,z2,z3,z4,z5,z6,y0,y1,y2,y3,y4⟩:=bx.all)
 rcases bcT ps (bcT bk (bcF i0 (bcF j0 (bcT be (bcT vn (bcT vk (bcT vs (bcP (c.i<0) (bcP (c.j<0) trivial))))))))) with rfl|⟨rfl,(rfl|⟨rfl,(rfl|⟨rfl,(rfl|⟨rfl,(rfl|⟨rfl,(rfl|⟨rfl,(rfl|⟨rfl,(rfl|⟨rfl,(hpi|⟨hpi,(hpj|⟨hpj,_⟩)⟩)⟩)⟩)⟩)⟩)⟩)⟩)⟩)⟩
 all_goals go_wp2_with ((first|(go_at_call 131;(with_reducible refine (Behind.at_ HPS.out ?_).mono ?_))|(go_at_call 132;(with_reducible refine (Behind.at_ HLK.out ?_).mono ?_))|(go_at_call 132;(with_reducible refine (Behind.at_ HLI.out ?_).mono ?_))|(go_at_call 132;(with_reducible refine (Behind.at_ HLJ.out ?_).mono ?_))|(go_at_call 132;(with_reducible refine (Behind.at_ HLN.out ?_).mono ?_))|(go_at_call 132;(with_reducible refine (Behind.at_ HLS.out ?_).mono ?_))|(go_at_call 132;(with_reducible refine (Behind.at_ HLV.out ?_).mono ?_))|(go_at_call 23;(with_reducible refine (Behind.at_ HVN.out ?_).mono ?_))|(go_at_call 66;(with_reducible refine (Behind.at_ HVK.out ?_).mono ?_))|(go_at_call 66;(with_reducible refine (Behind.at_ HVS.out ?_).mono ?_)));(focus (have:=bx.below;have:=bx.size;go_grown));rintro e w1 ⟨rfl,hb1⟩;replace bx:=(bx.step (by go_grown)).step hb1;obtain ⟨zs,z0,z1,z2,z3,z4,z5,z6,y0,y1,y2,y3,y4⟩:=bx.all)
 iterate 10 (focus (go_ret;exact ⟨Zb (by rw [HR.out];first|(simp [sndB, *];done)|(simp [sndB, *];intros;omega)),by have:=bx.below;have:=bx.size;go_grown⟩))
 have a0:=Za bx.at_.c6.c0;have a1:=Za bx.at_.c6.c1;have a2:=Za bx.at_.c6.c2;have a3:=Za bx.at_.c6.c3;have a4:=Za bx.at_.c6.c4;have a5:=Za bx.at_.c1
 have hbx:=bx.below
 have hbs:=bx.size
 rcases bcT sd (Y9 c.pl dp) with rfl|⟨rfl,(⟨hd,hdI,hdB⟩|⟨hd,hdI,hdB⟩)⟩
 all_goals
  refine Zh (by kernel_rfl) (by kernel_rfl) ?_
  repeat (go_big_quiet_step ((first|(go_at_call 24;exact Zg (HSD.out _ (hbx.trans ((Ze _ _).mono (by omega)))))|(go_at_call 133;exact Zg (HDP.out _ (hbx.trans ((Ze _ _).mono (by omega)))))|(go_at_call 134;exact Zg (HWT.out _ (hbx.trans ((Ze _ _).mono (by omega))))))))
  refine wpQuiet_nil ?_
  intro _ hw'
  obtain ⟨pq,hw''⟩:=hw'
  subst hw''
  go_wp2_with fail
  go_ret
  exact ⟨Zb (by rw [HR.out];first|(simp [sndB, *];done)|(simp [sndB, *];intros;omega)),hbx.trans ((Ze _ _).mono (by omega))⟩
set_option maxRecDepth 100000 in
theorem znx (w:World) (c:CC) {R ps vk vs bk be i0 j0 n0 vn sd:Bool} {dp wt:Nat} (h:SndH w c R ps vk vs bk be i0 j0 n0 vn sd dp wt) (ek:c.k=2):
 Calls Tryz.prog 79 #[.agg #[.int .u8 c.k, .slice c.pa c.pl c.pc, .string c.key, .int .i64 c.i, .int .i64 c.j, .int .i64 c.n, .int .u8 c.v.k, .int .i64 c.v.n, .string c.v.s, .slice c.v.la c.v.ll c.v.lc, .slice c.v.oa c.v.ol c.v.oc, .string c.s]] w fun e w'=>e= .returned (.bool R)/\Below w.heap.size w w':=by
 obtain ⟨hbk,hbe,hi0,hj0,hn0,HPS,HVK,HVS,HVN,HSD,HDP,HWT,HSAYS,⟨k1,k4,k5⟩,hR2⟩:=h
 have bx:=Yk w c 60
 have e1:saysB c.k= { data:= #[75,86] } :=by rw [ek];rfl
 rw [e1] at HSAYS
 have HIN:∀(b:Nat) {t:Bool},hasB { data:= #[75,86] } b=t->Hid (Behind w 132 #[.string { data:= #[75,86] }, .int .u8 b] (.bool t)):=fun b t ht W _=>by rw [<-ht];exact Yz { data:= #[75,86] } b W (by decide)
 have hR3:R=sndB true true false false false false true bk (!i0) (!j0) (!n0) be vn ps vk vs (decide (0<=c.i)) (decide (0<=c.j)) false false sd (decide (c.pl+1+dp<=16)) (decide (wt<=20000)):=by
  rw [hR2,ek]
  first|rfl|(cases be<;>rfl)
 have HR:=qh hR3
 have f8:(c.k==8)=false:=by rw [ek];rfl
 have f9:(c.k==9)=false:=by rw [ek];rfl
 have HLK:Hid (Behind w 132 #[.string { data:= #[75,86] }, .int .u8 75] (.bool true)):=HIN 75 (by decide);have HLI:Hid (Behind w 132 #[.string { data:= #[75,86] }, .int .u8 73] (.bool false)):=HIN 73 (by decide);have HLJ:Hid (Behind w 132 #[.string { data:= #[75,86] }, .int .u8 74] (.bool false)):=HIN 74 (by decide);have HLN:Hid (Behind w 132 #[.string { data:= #[75,86] }, .int .u8 78] (.bool false)):=HIN 78 (by decide);have HLS:Hid (Behind w 132 #[.string { data:= #[75,86] }, .int .u8 83] (.bool false)):=HIN 83 (by decide);have HLV:Hid (Behind w 132 #[.string { data:= #[75,86] }, .int .u8 86] (.bool true)):=HIN 86 (by decide)
 clear hR2 hR3 e1 HIN ek
 go_enter Tryz.func79,Tryz.ntmps79
 go_wp2_with ((go_at_call 130;(with_reducible refine (Behind.at_ HSAYS.out ?_).mono ?_));(focus (have:=bx.below;have:=bx.size;go_grown));rintro e w1 ⟨rfl,hb1⟩;replace bx:=(bx.step (by go_grown)).step hb1;obtain ⟨zs,z0,z1,z2,z3,z4,z5,z6,y0,y1,y2,y3,y4⟩:=bx.all)
 rcases bcT ps (bcF i0 (bcF j0 (bcF n0 (bcT be (bcT vk (bcT vs (bcP (c.i<0) (bcP (c.j<0) trivial)))))))) with rfl|⟨rfl,(rfl|⟨rfl,(rfl|⟨rfl,(rfl|⟨rfl,(rfl|⟨rfl,(rfl|⟨rfl,(rfl|⟨rfl,(hpi|⟨hpi,(hpj|⟨hpj,_⟩)⟩)⟩)⟩)⟩)⟩)⟩)⟩)⟩
 all_goals go_wp2_with ((first|(go_at_call 131;(with_reducible refine (Behind.at_ HPS.out ?_).mono ?_))|(go_at_call 132;(with_reducible refine (Behind.at_ HLK.out ?_).mono ?_))|(go_at_call 132;(with_reducible refine (Behind.at_ HLI.out ?_).mono ?_))|(go_at_call 132;(with_reducible refine (Behind.at_ HLJ.out ?_).mono ?_))|(go_at_call 132;(with_reducible refine (Behind.at_ HLN.out ?_).mono ?_))|(go_at_call 132;(with_reducible refine (Behind.at_ HLS.out ?_).mono ?_))|(go_at_call 132;(with_reducible refine (Behind.at_ HLV.out ?_).mono ?_))|(go_at_call 66;(with_reducible refine (Behind.at_ HVK.out ?_).mono ?_))|(go_at_call 66;(with_reducible refine (Behind.at_ HVS.out ?_).mono ?_)));(focus (have:=bx.below;have:=bx.size;go_grown));rintro e w1 ⟨rfl,hb1⟩;replace bx:=(bx.step (by go_grown)).step hb1;obtain ⟨zs,z0,z1,z2,z3,z4,z5,z6,y0,y1,y2,y3,y4⟩:=bx.all)
 iterate 9 (focus (go_ret;exact ⟨Zb (by rw [HR.out];first|(simp [sndB, *];done)|(simp [sndB, *];intros;omega)),by have:=bx.below;have:=bx.size;go_grown⟩))
 have a0:=Za bx.at_.c6.c0;have a1:=Za bx.at_.c6.c1;have a2:=Za bx.at_.c6.c2;have a3:=Za bx.at_.c6.c3;have a4:=Za bx.at_.c6.c4;have a5:=Za bx.at_.c1
 have hbx:=bx.below
 have hbs:=bx.size
 rcases bcT sd (Y9 c.pl dp) with rfl|⟨rfl,(⟨hd,hdI,hdB⟩|⟨hd,hdI,hdB⟩)⟩
 all_goals
  refine Zh (by kernel_rfl) (by kernel_rfl) ?_
  repeat (go_big_quiet_step ((first|(go_at_call 24;exact Zg (HSD.out _ (hbx.trans ((Ze _ _).mono (by omega)))))|(go_at_call 133;exact Zg (HDP.out _ (hbx.trans ((Ze _ _).mono (by omega)))))|(go_at_call 134;exact Zg (HWT.out _ (hbx.trans ((Ze _ _).mono (by omega))))))))
  refine wpQuiet_nil ?_
  intro _ hw'
  obtain ⟨pq,hw''⟩:=hw'
  subst hw''
  go_wp2_with fail
  go_ret
  exact ⟨Zb (by rw [HR.out];first|(simp [sndB, *];done)|(simp [sndB, *];intros;omega)),hbx.trans ((Ze _ _).mono (by omega))⟩
set_option maxRecDepth 100000 in
theorem zoc (w:World) (c:CC) {R ps vk vs bk be i0 j0 n0 vn sd:Bool} {dp wt:Nat} (h:SndH w c R ps vk vs bk be i0 j0 n0 vn sd dp wt) (ek:c.k=3):
 Calls Tryz.prog 79 #[.agg #[.int .u8 c.k, .slice c.pa c.pl c.pc, .string c.key, .int .i64 c.i, .int .i64 c.j, .int .i64 c.n, .int .u8 c.v.k, .int .i64 c.v.n, .string c.v.s, .slice c.v.la c.v.ll c.v.lc, .slice c.v.oa c.v.ol c.v.oc, .string c.s]] w fun e w'=>e= .returned (.bool R)/\Below w.heap.size w w':=by
 obtain ⟨hbk,hbe,hi0,hj0,hn0,HPS,HVK,HVS,HVN,HSD,HDP,HWT,HSAYS,⟨k1,k4,k5⟩,hR2⟩:=h
 have bx:=Yk w c 60
 have e1:saysB c.k= { data:= #[75] } :=by rw [ek];rfl
 rw [e1] at HSAYS
 have HIN:∀(b:Nat) {t:Bool},hasB { data:= #[75] } b=t->Hid (Behind w 132 #[.string { data:= #[75] }, .int .u8 b] (.bool t)):=fun b t ht W _=>by rw [<-ht];exact Yz { data:= #[75] } b W (by decide)
 have hR3:R=sndB true true false false false false false bk (!i0) (!j0) (!n0) be vn ps vk vs (decide (0<=c.i)) (decide (0<=c.j)) false false sd (decide (c.pl+1+dp<=16)) (decide (wt<=20000)):=by
  rw [hR2,ek]
  first|rfl|(cases be<;>rfl)
 have HR:=qh hR3
 have f8:(c.k==8)=false:=by rw [ek];rfl
 have f9:(c.k==9)=false:=by rw [ek];rfl
 have HLK:Hid (Behind w 132 #[.string { data:= #[75] }, .int .u8 75] (.bool true)):=HIN 75 (by decide);have HLI:Hid (Behind w 132 #[.string { data:= #[75] }, .int .u8 73] (.bool false)):=HIN 73 (by decide);have HLJ:Hid (Behind w 132 #[.string { data:= #[75] }, .int .u8 74] (.bool false)):=HIN 74 (by decide);have HLN:Hid (Behind w 132 #[.string { data:= #[75] }, .int .u8 78] (.bool false)):=HIN 78 (by decide);have HLS:Hid (Behind w 132 #[.string { data:= #[75] }, .int .u8 83] (.bool false)):=HIN 83 (by decide);have HLV:Hid (Behind w 132 #[.string { data:= #[75] }, .int .u8 86] (.bool false)):=HIN 86 (by decide)
 clear hR2 hR3 e1 HIN ek
 go_enter Tryz.func79,Tryz.ntmps79
 go_wp2_with ((go_at_call 130;(with_reducible refine (Behind.at_ HSAYS.out ?_).mono ?_));(focus (have:=bx.below;have:=bx.size;go_grown));rintro e w1 ⟨rfl,hb1⟩;replace bx:=(bx.step (by go_grown)).step hb1;obtain ⟨zs,z0,z1,z2,z3,z4,z5,z6,y0,y1,y2,y3,y4⟩:=bx.all)
 rcases bcT ps (bcF i0 (bcF j0 (bcF n0 (bcT be (bcT vn (bcT vk (bcT vs (bcP (c.i<0) (bcP (c.j<0) trivial))))))))) with rfl|⟨rfl,(rfl|⟨rfl,(rfl|⟨rfl,(rfl|⟨rfl,(rfl|⟨rfl,(rfl|⟨rfl,(rfl|⟨rfl,(rfl|⟨rfl,(hpi|⟨hpi,(hpj|⟨hpj,_⟩)⟩)⟩)⟩)⟩)⟩)⟩)⟩)⟩)⟩
 all_goals go_wp2_with ((first|(go_at_call 131;(with_reducible refine (Behind.at_ HPS.out ?_).mono ?_))|(go_at_call 132;(with_reducible refine (Behind.at_ HLK.out ?_).mono ?_))|(go_at_call 132;(with_reducible refine (Behind.at_ HLI.out ?_).mono ?_))|(go_at_call 132;(with_reducible refine (Behind.at_ HLJ.out ?_).mono ?_))|(go_at_call 132;(with_reducible refine (Behind.at_ HLN.out ?_).mono ?_))|(go_at_call 132;(with_reducible refine (Behind.at_ HLS.out ?_).mono ?_))|(go_at_call 132;(with_reducible refine (Behind.at_ HLV.out ?_).mono ?_))|(go_at_call 23;(with_reducible refine (Behind.at_ HVN.out ?_).mono ?_))|(go_at_call 66;(with_reducible refine (Behind.at_ HVK.out ?_).mono ?_))|(go_at_call 66;(with_reducible refine (Behind.at_ HVS.out ?_).mono ?_)));(focus (have:=bx.below;have:=bx.size;go_grown));rintro e w1 ⟨rfl,hb1⟩;replace bx:=(bx.step (by go_grown)).step hb1;obtain ⟨zs,z0,z1,z2,z3,z4,z5,z6,y0,y1,y2,y3,y4⟩:=bx.all)
 iterate 10 (focus (go_ret;exact ⟨Zb (by rw [HR.out];first|(simp [sndB, *];done)|(simp [sndB, *];intros;omega)),by have:=bx.below;have:=bx.size;go_grown⟩))
 have a0:=Za bx.at_.c6.c0;have a1:=Za bx.at_.c6.c1;have a2:=Za bx.at_.c6.c2;have a3:=Za bx.at_.c6.c3;have a4:=Za bx.at_.c6.c4;have a5:=Za bx.at_.c1
 have hbx:=bx.below
 have hbs:=bx.size
 rcases bcT sd (Y9 c.pl dp) with rfl|⟨rfl,(⟨hd,hdI,hdB⟩|⟨hd,hdI,hdB⟩)⟩
 all_goals
  refine Zh (by kernel_rfl) (by kernel_rfl) ?_
  repeat (go_big_quiet_step ((first|(go_at_call 24;exact Zg (HSD.out _ (hbx.trans ((Ze _ _).mono (by omega)))))|(go_at_call 133;exact Zg (HDP.out _ (hbx.trans ((Ze _ _).mono (by omega)))))|(go_at_call 134;exact Zg (HWT.out _ (hbx.trans ((Ze _ _).mono (by omega))))))))
  refine wpQuiet_nil ?_
  intro _ hw'
  obtain ⟨pq,hw''⟩:=hw'
  subst hw''
  go_wp2_with fail
  go_ret
  exact ⟨Zb (by rw [HR.out];first|(simp [sndB, *];done)|(simp [sndB, *];intros;omega)),hbx.trans ((Ze _ _).mono (by omega))⟩
set_option maxRecDepth 100000 in
theorem zjm (w:World) (c:CC) {R ps vk vs bk be i0 j0 n0 vn sd:Bool} {dp wt:Nat} (h:SndH w c R ps vk vs bk be i0 j0 n0 vn sd dp wt) (ek:c.k=4):
 Calls Tryz.prog 79 #[.agg #[.int .u8 c.k, .slice c.pa c.pl c.pc, .string c.key, .int .i64 c.i, .int .i64 c.j, .int .i64 c.n, .int .u8 c.v.k, .int .i64 c.v.n, .string c.v.s, .slice c.v.la c.v.ll c.v.lc, .slice c.v.oa c.v.ol c.v.oc, .string c.s]] w fun e w'=>e= .returned (.bool R)/\Below w.heap.size w w':=by
 obtain ⟨hbk,hbe,hi0,hj0,hn0,HPS,HVK,HVS,HVN,HSD,HDP,HWT,HSAYS,⟨k1,k4,k5⟩,hR2⟩:=h
 have bx:=Yk w c 60
 have e1:saysB c.k= { data:= #[73,86] } :=by rw [ek];rfl
 rw [e1] at HSAYS
 have HIN:∀(b:Nat) {t:Bool},hasB { data:= #[73,86] } b=t->Hid (Behind w 132 #[.string { data:= #[73,86] }, .int .u8 b] (.bool t)):=fun b t ht W _=>by rw [<-ht];exact Yz { data:= #[73,86] } b W (by decide)
 have hR3:R=sndB true false true false false false true bk (!i0) (!j0) (!n0) be vn ps vk vs (decide (0<=c.i)) (decide (0<=c.j)) false false sd (decide (c.pl+1+dp<=16)) (decide (wt<=20000)):=by
  rw [hR2,ek]
  first|rfl|(cases be<;>rfl)
 have HR:=qh hR3
 have f8:(c.k==8)=false:=by rw [ek];rfl
 have f9:(c.k==9)=false:=by rw [ek];rfl
 have HLK:Hid (Behind w 132 #[.string { data:= #[73,86] }, .int .u8 75] (.bool false)):=HIN 75 (by decide);have HLI:Hid (Behind w 132 #[.string { data:= #[73,86] }, .int .u8 73] (.bool true)):=HIN 73 (by decide);have HLJ:Hid (Behind w 132 #[.string { data:= #[73,86] }, .int .u8 74] (.bool false)):=HIN 74 (by decide);have HLN:Hid (Behind w 132 #[.string { data:= #[73,86] }, .int .u8 78] (.bool false)):=HIN 78 (by decide);have HLS:Hid (Behind w 132 #[.string { data:= #[73,86] }, .int .u8 83] (.bool false)):=HIN 83 (by decide);have HLV:Hid (Behind w 132 #[.string { data:= #[73,86] }, .int .u8 86] (.bool true)):=HIN 86 (by decide)
 clear hR2 hR3 e1 HIN ek
 go_enter Tryz.func79,Tryz.ntmps79
 go_wp2_with ((go_at_call 130;(with_reducible refine (Behind.at_ HSAYS.out ?_).mono ?_));(focus (have:=bx.below;have:=bx.size;go_grown));rintro e w1 ⟨rfl,hb1⟩;replace bx:=(bx.step (by go_grown)).step hb1;obtain ⟨zs,z0,z1,z2,z3,z4,z5,z6,y0,y1,y2,y3,y4⟩:=bx.all)
 rcases bcT ps (bcT bk (bcF j0 (bcF n0 (bcT be (bcT vk (bcT vs (bcP (c.i<0) (bcP (c.j<0) trivial)))))))) with rfl|⟨rfl,(rfl|⟨rfl,(rfl|⟨rfl,(rfl|⟨rfl,(rfl|⟨rfl,(rfl|⟨rfl,(rfl|⟨rfl,(hpi|⟨hpi,(hpj|⟨hpj,_⟩)⟩)⟩)⟩)⟩)⟩)⟩)⟩)⟩
 all_goals go_wp2_with ((first|(go_at_call 131;(with_reducible refine (Behind.at_ HPS.out ?_).mono ?_))|(go_at_call 132;(with_reducible refine (Behind.at_ HLK.out ?_).mono ?_))|(go_at_call 132;(with_reducible refine (Behind.at_ HLI.out ?_).mono ?_))|(go_at_call 132;(with_reducible refine (Behind.at_ HLJ.out ?_).mono ?_))|(go_at_call 132;(with_reducible refine (Behind.at_ HLN.out ?_).mono ?_))|(go_at_call 132;(with_reducible refine (Behind.at_ HLS.out ?_).mono ?_))|(go_at_call 132;(with_reducible refine (Behind.at_ HLV.out ?_).mono ?_))|(go_at_call 66;(with_reducible refine (Behind.at_ HVK.out ?_).mono ?_))|(go_at_call 66;(with_reducible refine (Behind.at_ HVS.out ?_).mono ?_)));(focus (have:=bx.below;have:=bx.size;go_grown));rintro e w1 ⟨rfl,hb1⟩;replace bx:=(bx.step (by go_grown)).step hb1;obtain ⟨zs,z0,z1,z2,z3,z4,z5,z6,y0,y1,y2,y3,y4⟩:=bx.all)
 iterate 9 (focus (go_ret;exact ⟨Zb (by rw [HR.out];first|(simp [sndB, *];done)|(simp [sndB, *];intros;omega)),by have:=bx.below;have:=bx.size;go_grown⟩))
 have a0:=Za bx.at_.c6.c0;have a1:=Za bx.at_.c6.c1;have a2:=Za bx.at_.c6.c2;have a3:=Za bx.at_.c6.c3;have a4:=Za bx.at_.c6.c4;have a5:=Za bx.at_.c1
 have hbx:=bx.below
 have hbs:=bx.size
 rcases bcT sd (Y9 c.pl dp) with rfl|⟨rfl,(⟨hd,hdI,hdB⟩|⟨hd,hdI,hdB⟩)⟩
 all_goals
  refine Zh (by kernel_rfl) (by kernel_rfl) ?_
  repeat (go_big_quiet_step ((first|(go_at_call 24;exact Zg (HSD.out _ (hbx.trans ((Ze _ _).mono (by omega)))))|(go_at_call 133;exact Zg (HDP.out _ (hbx.trans ((Ze _ _).mono (by omega)))))|(go_at_call 134;exact Zg (HWT.out _ (hbx.trans ((Ze _ _).mono (by omega))))))))
  refine wpQuiet_nil ?_
  intro _ hw'
  obtain ⟨pq,hw''⟩:=hw'
  subst hw''
  go_wp2_with fail
  go_ret
  exact ⟨Zb (by rw [HR.out];first|(simp [sndB, *];done)|(simp [sndB, *];intros;omega)),hbx.trans ((Ze _ _).mono (by omega))⟩
set_option maxRecDepth 100000 in
theorem zk6 (w:World) (c:CC) {R ps vk vs bk be i0 j0 n0 vn sd:Bool} {dp wt:Nat} (h:SndH w c R ps vk vs bk be i0 j0 n0 vn sd dp wt) (ek:c.k=5):
 Calls Tryz.prog 79 #[.agg #[.int .u8 c.k, .slice c.pa c.pl c.pc, .string c.key, .int .i64 c.i, .int .i64 c.j, .int .i64 c.n, .int .u8 c.v.k, .int .i64 c.v.n, .string c.v.s, .slice c.v.la c.v.ll c.v.lc, .slice c.v.oa c.v.ol c.v.oc, .string c.s]] w fun e w'=>e= .returned (.bool R)/\Below w.heap.size w w':=by
 obtain ⟨hbk,hbe,hi0,hj0,hn0,HPS,HVK,HVS,HVN,HSD,HDP,HWT,HSAYS,⟨k1,k4,k5⟩,hR2⟩:=h
 have bx:=Yk w c 60
 have e1:saysB c.k= { data:= #[73] } :=by rw [ek];rfl
 rw [e1] at HSAYS
 have HIN:∀(b:Nat) {t:Bool},hasB { data:= #[73] } b=t->Hid (Behind w 132 #[.string { data:= #[73] }, .int .u8 b] (.bool t)):=fun b t ht W _=>by rw [<-ht];exact Yz { data:= #[73] } b W (by decide)
 have hR3:R=sndB true false true false false false false bk (!i0) (!j0) (!n0) be vn ps vk vs (decide (0<=c.i)) (decide (0<=c.j)) false false sd (decide (c.pl+1+dp<=16)) (decide (wt<=20000)):=by
  rw [hR2,ek]
  first|rfl|(cases be<;>rfl)
 have HR:=qh hR3
 have f8:(c.k==8)=false:=by rw [ek];rfl
 have f9:(c.k==9)=false:=by rw [ek];rfl
 have HLK:Hid (Behind w 132 #[.string { data:= #[73] }, .int .u8 75] (.bool false)):=HIN 75 (by decide);have HLI:Hid (Behind w 132 #[.string { data:= #[73] }, .int .u8 73] (.bool true)):=HIN 73 (by decide);have HLJ:Hid (Behind w 132 #[.string { data:= #[73] }, .int .u8 74] (.bool false)):=HIN 74 (by decide);have HLN:Hid (Behind w 132 #[.string { data:= #[73] }, .int .u8 78] (.bool false)):=HIN 78 (by decide);have HLS:Hid (Behind w 132 #[.string { data:= #[73] }, .int .u8 83] (.bool false)):=HIN 83 (by decide);have HLV:Hid (Behind w 132 #[.string { data:= #[73] }, .int .u8 86] (.bool false)):=HIN 86 (by decide)
 clear hR2 hR3 e1 HIN ek
 go_enter Tryz.func79,Tryz.ntmps79
 go_wp2_with ((go_at_call 130;(with_reducible refine (Behind.at_ HSAYS.out ?_).mono ?_));(focus (have:=bx.below;have:=bx.size;go_grown));rintro e w1 ⟨rfl,hb1⟩;replace bx:=(bx.step (by go_grown)).step hb1;obtain ⟨zs,z0,z1,z2,z3,z4,z5,z6,y0,y1,y2,y3,y4⟩:=bx.all)
 rcases bcT ps (bcT bk (bcF j0 (bcF n0 (bcT be (bcT vn (bcT vk (bcT vs (bcP (c.i<0) (bcP (c.j<0) trivial))))))))) with rfl|⟨rfl,(rfl|⟨rfl,(rfl|⟨rfl,(rfl|⟨rfl,(rfl|⟨rfl,(rfl|⟨rfl,(rfl|⟨rfl,(rfl|⟨rfl,(hpi|⟨hpi,(hpj|⟨hpj,_⟩)⟩)⟩)⟩)⟩)⟩)⟩)⟩)⟩)⟩
 all_goals go_wp2_with ((first|(go_at_call 131;(with_reducible refine (Behind.at_ HPS.out ?_).mono ?_))|(go_at_call 132;(with_reducible refine (Behind.at_ HLK.out ?_).mono ?_))|(go_at_call 132;(with_reducible refine (Behind.at_ HLI.out ?_).mono ?_))|(go_at_call 132;(with_reducible refine (Behind.at_ HLJ.out ?_).mono ?_))|(go_at_call 132;(with_reducible refine (Behind.at_ HLN.out ?_).mono ?_))|(go_at_call 132;(with_reducible refine (Behind.at_ HLS.out ?_).mono ?_))|(go_at_call 132;(with_reducible refine (Behind.at_ HLV.out ?_).mono ?_))|(go_at_call 23;(with_reducible refine (Behind.at_ HVN.out ?_).mono ?_))|(go_at_call 66;(with_reducible refine (Behind.at_ HVK.out ?_).mono ?_))|(go_at_call 66;(with_reducible refine (Behind.at_ HVS.out ?_).mono ?_)));(focus (have:=bx.below;have:=bx.size;go_grown));rintro e w1 ⟨rfl,hb1⟩;replace bx:=(bx.step (by go_grown)).step hb1;obtain ⟨zs,z0,z1,z2,z3,z4,z5,z6,y0,y1,y2,y3,y4⟩:=bx.all)
 iterate 10 (focus (go_ret;exact ⟨Zb (by rw [HR.out];first|(simp [sndB, *];done)|(simp [sndB, *];intros;omega)),by have:=bx.below;have:=bx.size;go_grown⟩))
 have a0:=Za bx.at_.c6.c0;have a1:=Za bx.at_.c6.c1;have a2:=Za bx.at_.c6.c2;have a3:=Za bx.at_.c6.c3;have a4:=Za bx.at_.c6.c4;have a5:=Za bx.at_.c1
 have hbx:=bx.below
 have hbs:=bx.size
 rcases bcT sd (Y9 c.pl dp) with rfl|⟨rfl,(⟨hd,hdI,hdB⟩|⟨hd,hdI,hdB⟩)⟩
 all_goals
  refine Zh (by kernel_rfl) (by kernel_rfl) ?_
  repeat (go_big_quiet_step ((first|(go_at_call 24;exact Zg (HSD.out _ (hbx.trans ((Ze _ _).mono (by omega)))))|(go_at_call 133;exact Zg (HDP.out _ (hbx.trans ((Ze _ _).mono (by omega)))))|(go_at_call 134;exact Zg (HWT.out _ (hbx.trans ((Ze _ _).mono (by omega))))))))
  refine wpQuiet_nil ?_
  intro _ hw'
  obtain ⟨pq,hw''⟩:=hw'
  subst hw''
  go_wp2_with fail
  go_ret
  exact ⟨Zb (by rw [HR.out];first|(simp [sndB, *];done)|(simp [sndB, *];intros;omega)),hbx.trans ((Ze _ _).mono (by omega))⟩
end Go.Proofs.YtfoahkbnheijcaaGreatDoor
