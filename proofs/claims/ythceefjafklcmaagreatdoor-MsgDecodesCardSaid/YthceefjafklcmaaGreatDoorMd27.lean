/-
  Contracts of the functions that the law reaches: The reference's Reader.comp.
-/
import Derived.Test.YthceefjafklcmaaGreatDoorMd26
import Derived.Test.YthceefjafklcmaaGreatDoorMd19
import Derived.Test.YthceefjafklcmaaGreatDoorMd9
namespace Go.Proofs.YthceefjafklcmaaGreatDoor
open Go.RowKit
set_option maxHeartbeats 16000000 in
set_option maxRecDepth 100000 in
theorem compR_any (w:World) (rb:Nat) (s:RS) (h:RR w rb s) {x:Cm} {s':RS} (hx:fC s=(x,s')):
    Calls Tryz.prog 48 #[.pointer (some ⟨rb,0,none⟩)] w (QCPost w rb x s'):=by
  obtain ⟨i0,hi0,hz0,hz1,hz2⟩:=info_parts ginfoS
  obtain ⟨⟨kd,s1⟩,hN⟩:∃p,fN 1 s=p:=⟨_,rfl⟩
  obtain ⟨⟨n,s2⟩,hM⟩:∃p,fM 1 s1=p:=⟨_,rfl⟩
  rw [fC_eq,hN] at hx
  dsimp only at hx
  rw [hM] at hx
  dsimp only at hx
  have hk1:kd<256:=by have:=fN_lt 1 s;rw [hN] at this;exact this
  have hu:=u8_id kd hk1
  have hn4:n<256:=by have:=(fM_lt 1 s1).1;rw [hM] at this;exact this
  have HB:=Lib.hid (QB.start h #[.int .u8 0, .slice none 0 0, .string { data:= #[] }, .int .i64 0, .int .i64 0, .int .i64 0, .int .u8 0, .int .i64 0, .string { data:= #[] }, .slice none 0 0, .slice none 0 0, .string { data:= #[] }] 97)
  have hlt:=h.lt
  have HX:=Lib.hid hx
  have HN:=Lib.hid hN
  have HM:=Lib.hid hM
  clear h hx hN hM
  go_enter Tryz.func48,Tryz.ntmps48
  generalize hQ0:bodyPost _ _ _=Q0
  have HQ:=Lib.hid hQ0
  clear hQ0
  go_wp2_with (first|(go_at_call 45;(with_reducible refine (numberR1 _ rb s HB.out.rr HN.out).mono ?_);rintro e w1 ⟨rfl,hR,hS⟩;have B1:=HB.out.next hS hR;have hsz:=B1.size;have zs0:w.heap.size<w1.heap.size:=(by omega))|(go_at_call 47;(with_reducible refine (manyR1 _ rb s1 (B1.behind ((Below.refl _ _).alloc (Nat.le_refl _) _)).rr HM.out).mono ?_);rintro e w2 ⟨rfl,hR2,hS2⟩;have B2:=(B1.behind ((Below.refl _ _).alloc (Nat.le_refl _) _)).next hS2 hR2;have VB2:=(BC.start w1 #[.int .u8 kd, .slice none 0 0, .string { data:= #[] }, .int .i64 0, .int .i64 0, .int .i64 0, .int .u8 0, .int .i64 0, .string { data:= #[] }, .slice none 0 0, .slice none 0 0, .string { data:= #[] }] 97).next hS2 (by omega)))
  have QP0:QP w w2 rb w1.heap.size kd s2 0 none 0 0 [] s2 s2:=⟨rfl,rfl,(fun _ hs=>absurd hs (by simp)),B2,VB2,Row.nil _ _ _ _ _,hsz⟩
  obtain ⟨cb,hcb⟩:∃cb,w1.heap.size=cb:=⟨_,rfl⟩
  rw [hcb] at QP0 hsz zs0 ⊢
  clear B1 B2 VB2 hcb
  go_loopw [5,6] (fun i _ wr=>∃(j:Nat) (a:Option Addr) (m c:Nat) (xs:List St) (sj:RS),j≤n∧i= .int .i64 j∧QP w wr rb cb kd s2 j a m c xs sj sj) (fun i _ _=>n - (intOf i).toNat)
  case atStart=>exact ⟨0,none,0,0, [],s2,Nat.zero_le _,rfl,QP0⟩
  case round=>
    clear QP0
    obtain ⟨j,a,m,c,xs,⟨bj,bd⟩,hj,rfl,L⟩:=hrel
    have bb:wr.cell? ⟨rb,1,none⟩=some (.bool bd):=L.box.rr.bad
    have hvlt:=L.vb_.lt
    have hbl:=L.box.lt
    by_cases hcont:j<n∧bd=false
    · obtain ⟨hlt2,rfl⟩:=hcont
      obtain ⟨⟨y,s3⟩,hy⟩:∃p,fN 1 (bj,false)=p:=⟨_,rfl⟩
      have HNY:=Lib.hid (numberR1 wr rb (bj,false) L.box.rr hy)
      have HLT:=Lib.hid L
      have HO2:Hid (∀w3,RStep wr w3 rb→RR w3 rb s3→(∀W,RStep w3.drew W rb→W.ownsRow (cb+1) 129 3 (.slice a m c) j (xs.flatMap scells)∧W.cell? ⟨cb,1,none⟩=some (.slice a m c)∧W.frozen? ⟨cb,1,none⟩=false∧cb<W.heap.size)∧RR w3.drew rb s3):=by
        intro w3 hS3 hR3
        have L3:=HLT.out.next hS3 hR3
        refine ⟨fun W hW=> ?_,(L3.box.behind (drew_below w3)).rr⟩
        have hlo:=L3.lo
        have ho:=((L3.row.later PT.closed (.of_below rb (drew_below w3)) (by omega)).later PT.closed hW (by omega)).own
        rw [L3.len] at ho
        exact ⟨ho,hW.cell (w:=w3.drew) (L3.vb_.at_ 1 _ rfl) (by omega),(hW.frozen (w:=w3.drew) L3.vb_.lt (by omega)).trans (L3.vb_.fr 1),Nat.lt_of_lt_of_le L3.vb_.lt hW.size⟩
      have hne:(Value.slice a m c).ownBlock≠some cb:=fun e=>by have:=(L.row.lt _ e).1;omega
      have hlo:=L.lo
      clear L
      by_cases hy1:y=1
      · obtain ⟨⟨z,s5⟩,hz⟩:∃p,fN 8 s3=p:=⟨_,rfl⟩
        have HFX:Hid (fS (bj,false)=(⟨true,wrap64 z, .empty⟩,s5)):=by unfold Hid;simp [fS,hy,hy1,hz]
        have HZ:=Lib.hid hz
        have fy:((y:Int)==1)=true:=by subst hy1;rfl
        have hwz:IntKind.i64.wrap (z:Int)=wrap64 (z:Int):=wrapEq _
        clear hy hz hy1
        go_wp2_with (go_at_call 45;(with_reducible refine (HNY.out).mono ?_);rintro e w3 ⟨rfl,hR3,hS3⟩;have zc3:cb<w3.heap.size:=Nat.lt_of_lt_of_le hvlt hS3.size)
        have y1:=(HLT.out.next hS3 hR3).vb_.at_ 1 _ rfl
        have HC:=Lib.hid (numberR8 w3.drew rb s3 (HO2.out w3 hS3 hR3).2 HZ.out)
        refine wp_region_noPanic ?_
        go_region_law
          (first
            |(go_simp;go_at_call 45;refine (HC.out).mono ?_;rintro e w4 ⟨rfl,hR4,hS4⟩;obtain ⟨ho4,hc4,hf4,hv4⟩:=(HO2.out w3 hS3 hR3).1 w4 hS4)
            |(refine step_append_lies _ (by rfl) _ _ _ (by rfl) (cb+1) 129 i0 _ 3 32 (by kernel_rfl) hi0 hz0 hz1 hz2 rfl (by omega) (.slice a m c) j (xs.flatMap scells) (by rfl) (ho4.alloc _) ⟨w4.heap.size,0,none⟩ 1 1 (scells (⟨true,wrap64 z, .empty⟩:St)) (by rfl) (by rfl) (World.news_of_block (t:=129) (fr:=(0,0)) (heap_alloc_new w4 _)) (by simp [scells,Value.oneCell']) (by omega) (by unfold maxLen;omega) (by omega) (by simp;omega) (w4.heap.size+1) (by simp) ?_;intro g cap w5 hown5 hgrow5 hat5 hlt5;have hc5:w5.cell? ⟨cb,1,none⟩=some (.slice a m c):=(hgrow5.cell_far ⟨cb,1,none⟩ (by simp;omega) (Ne.symm hne)).trans (keep_cell ((Below.refl _ _).alloc (Nat.le_refl _) _) hc4 hv4);have hf5:w5.frozen? ⟨cb,1,none⟩=false:=(hgrow5.frozen_far ⟨cb,1,none⟩ (by simp;omega) (Ne.symm hne)).trans ((((Below.refl _ _).alloc (Nat.le_refl _) _:Below w4.heap.size w4 (w4.alloc _)).frozen (p:=⟨cb,1,none⟩) hv4).trans hf4)))
        all_goals
          refine NoPanic.normal ?_
          go_wp2_with fail
          go_roundw
          case rel=>exact ⟨j+1,some ⟨g,0,none⟩,j+1,cap,xs++ [⟨true,wrap64 z, .empty⟩],s5,by omega,by go_num,(HLT.out.next hS3 hR3).round rfl HFX.out hS4 hR4 hown5 hgrow5 hat5⟩
          case measure=>simp [intOf];omega
      · obtain ⟨⟨z,s5⟩,hz⟩:∃p,fT s3=p:=⟨_,rfl⟩
        have HFX:Hid (fS (bj,false)=(⟨false,0,z⟩,s5)):=by unfold Hid;simp [fS,hy,hy1,hz]
        have HZ:=Lib.hid hz
        have fy:((y:Int)==1)=false:=by simp;omega
        clear hy hz hy1
        go_wp2_with (go_at_call 45;(with_reducible refine (HNY.out).mono ?_);rintro e w3 ⟨rfl,hR3,hS3⟩;have zc3:cb<w3.heap.size:=Nat.lt_of_lt_of_le hvlt hS3.size)
        have y1:=(HLT.out.next hS3 hR3).vb_.at_ 1 _ rfl
        have HC:=Lib.hid (textR_any w3.drew rb s3 (HO2.out w3 hS3 hR3).2 HZ.out)
        refine wp_region_noPanic ?_
        go_region_law
          (first
            |(go_simp;go_at_call 78;refine (HC.out).mono ?_;rintro e w4 ⟨rfl,hR4,hS4⟩;obtain ⟨ho4,hc4,hf4,hv4⟩:=(HO2.out w3 hS3 hR3).1 w4 hS4)
            |(refine step_append_lies _ (by rfl) _ _ _ (by rfl) (cb+1) 129 i0 _ 3 32 (by kernel_rfl) hi0 hz0 hz1 hz2 rfl (by omega) (.slice a m c) j (xs.flatMap scells) (by rfl) (ho4.alloc _) ⟨w4.heap.size,0,none⟩ 1 1 (scells (⟨false,0,z⟩:St)) (by rfl) (by rfl) (World.news_of_block (t:=129) (fr:=(0,0)) (heap_alloc_new w4 _)) (by simp [scells,Value.oneCell']) (by omega) (by unfold maxLen;omega) (by omega) (by simp;omega) (w4.heap.size+1) (by simp) ?_;intro g cap w5 hown5 hgrow5 hat5 hlt5;have hc5:w5.cell? ⟨cb,1,none⟩=some (.slice a m c):=(hgrow5.cell_far ⟨cb,1,none⟩ (by simp;omega) (Ne.symm hne)).trans (keep_cell ((Below.refl _ _).alloc (Nat.le_refl _) _) hc4 hv4);have hf5:w5.frozen? ⟨cb,1,none⟩=false:=(hgrow5.frozen_far ⟨cb,1,none⟩ (by simp;omega) (Ne.symm hne)).trans ((((Below.refl _ _).alloc (Nat.le_refl _) _:Below w4.heap.size w4 (w4.alloc _)).frozen (p:=⟨cb,1,none⟩) hv4).trans hf4)))
        all_goals
          refine NoPanic.normal ?_
          go_wp2_with fail
          go_roundw
          case rel=>exact ⟨j+1,some ⟨g,0,none⟩,j+1,cap,xs++ [⟨false,0,z⟩],s5,by omega,by go_num,(HLT.out.next hS3 hR3).round rfl HFX.out hS4 hR4 hown5 hgrow5 hat5⟩
          case measure=>simp [intOf];omega
    · have hs:fL fS n s2=(xs,(bj,bd)):=by
        cases bd with
        |true=>rw [fL_stop (f:=fS) (j:=j) (n:=n) (s:=s2) (by rw [L.rd]) (by omega),L.rd]
        | false=>
          have hjn:j=n:=by have:¬j<n:=fun hq=>hcont ⟨hq,rfl⟩;omega
          rw [←hjn,L.rd]
      have hex:(j<n∧bd=true)∨¬j<n:=by
        by_cases hq:j<n
        · exact .inl ⟨hq,by cases bd with
            |true=>rfl
            |false=>exact absurd ⟨hq,rfl⟩ hcont⟩
        · exact .inr hq
      have HR:Hid (fRest kd xs (bj,bd)=(x,s')):=by unfold Hid;rw [←HX.out,hs]
      have B:=QC.start L (by omega)
      obtain ⟨S9,hS9⟩:∃S9,(bj,bd)=S9:=⟨_,rfl⟩
      rw [hS9] at HR B
      clear L hS9 hs hcont
      rcases hex with ⟨hlt2,rfl⟩|hlt2
      all_goals
        by_cases e1:kd=1
        case pos=>
          have hb75:hasB (saysB (kd:Int)) 75=false:=by subst e1;rfl
          have hb73:hasB (saysB (kd:Int)) 73=false:=by subst e1;rfl
          have hb74:hasB (saysB (kd:Int)) 74=false:=by subst e1;rfl
          have hb78:hasB (saysB (kd:Int)) 78=true:=by subst e1;rfl
          have hb86:hasB (saysB (kd:Int)) 86=false:=by subst e1;rfl
          have hb83:hasB (saysB (kd:Int)) 83=false:=by subst e1;rfl
          have HSS:Hid (∀b:Nat,b≠46→hasB (says10B (kd:Int)) b=hasB (saysB (kd:Int)) b):=fun b hb=>says10_has _ b hb
          obtain ⟨SB,hSB⟩:∃SB,says10B (kd:Int)=SB:=⟨_,rfl⟩
          have SZ10:Hid (SB.size≤2):=by
            unfold Hid;rw [←hSB];subst e1;decide
          have t75:hasB SB 75=false:=by rw [←hSB,HSS.out _ (by omega)];exact hb75
          have t73:hasB SB 73=false:=by rw [←hSB,HSS.out _ (by omega)];exact hb73
          have t74:hasB SB 74=false:=by rw [←hSB,HSS.out _ (by omega)];exact hb74
          have t78:hasB SB 78=true:=by rw [←hSB,HSS.out _ (by omega)];exact hb78
          have t86:hasB SB 86=false:=by rw [←hSB,HSS.out _ (by omega)];exact hb86
          have t83:hasB SB 83=false:=by rw [←hSB,HSS.out _ (by omega)];exact hb83
          have HSB:=Lib.hid hSB
          have H75:=Lib.hid hb75
          have H73:=Lib.hid hb73
          have H74:=Lib.hid hb74
          have H78:=Lib.hid hb78
          have H86:=Lib.hid hb86
          have H83:=Lib.hid hb83
          clear hSB hb75 hb73 hb74 hb78 hb86 hb83 e1
          have y0:=B.cel.at_ 0 _ rfl
          go_wp2_with (first|(go_at_call 79;(with_reducible refine (says10_any _ _).mono ?_);rintro e wq ⟨rfl,hb2⟩;rw [HSB.out];replace B:=B.behind hb2)|(go_at_call 80;(with_reducible refine (in10_75_any SB _ (by have:=SZ10.out;omega)).mono ?_);rintro e wq ⟨rfl,hb2⟩;replace B:=B.behind hb2)|(go_at_call 80;(with_reducible refine (in10_73_any SB _ (by have:=SZ10.out;omega)).mono ?_);rintro e wq ⟨rfl,hb2⟩;replace B:=B.behind hb2)|(go_at_call 80;(with_reducible refine (in10_74_any SB _ (by have:=SZ10.out;omega)).mono ?_);rintro e wq ⟨rfl,hb2⟩;replace B:=B.behind hb2)|(go_at_call 80;(with_reducible refine (in10_78_any SB _ (by have:=SZ10.out;omega)).mono ?_);rintro e wq ⟨rfl,hb2⟩;replace B:=B.behind hb2))
          obtain ⟨⟨n0,q0⟩,hE0⟩:∃p,fN 8 S9=p:=⟨_,rfl⟩
          have E0:=Lib.hid hE0
          clear hE0
          refine (numberR8 _ rb S9 B.box.rr E0.out).mono ?_
          rintro e wv0 ⟨rfl,hR0,hS0⟩
          have BN0:=B.next hS0 hR0
          have p5:=BN0.cel.fr 5
          have y5:=BN0.cel.at_ 5 _ rfl
          go_wp2_with fail
          have C0:QC w (wv0.setCell ⟨cb,5,none⟩ (.int .i64 (wrap64 n0))) rb cb q0 xs V.none ⟨kd,a,m,c, .empty,0,0,(wrap64 n0),vzero, .empty⟩:=BN0.set1 RStep.self (BN0.cel.set (i:=5) (x:= .int .i64 (wrap64 n0)) (by simp [ccells])) rfl rfl rfl rfl
          clear B BN0
          go_wp2_with (first|(go_at_call 80;(with_reducible refine (in10_86_any SB _ (by have:=SZ10.out;omega)).mono ?_);rintro e wq ⟨rfl,hb2⟩;replace C0:=C0.behind hb2)|(go_at_call 80;(with_reducible refine (in10_83_any SB _ (by have:=SZ10.out;omega)).mono ?_);rintro e wq ⟨rfl,hb2⟩;replace C0:=C0.behind hb2;obtain ⟨y0,y1,y2,y3,y4,y5,y6,y7,y8,y9,y10,y11⟩:=BC.cells12 C0.cel;obtain ⟨r0,gr0,r1,gr1,r2,gr2,r3,gr3,r4,gr4,r5,gr5,r6,gr6,r7,gr7,r8,gr8,r9,gr9,r10,gr10,r11,gr11⟩:=BC.both12 C0.box.res;have hcl:=C0.cel.lt))
          have hfin:((⟨kd,xs, .empty,0,0,(wrap64 n0),V.none, .empty⟩:Cm),(q0:RS))=(x,s'):=by rw [←HR.out];simp [fRest,fIf,fB,fI,H75.out,H73.out,H74.out,H78.out,H86.out,H83.out,E0.out]
          injection hfin with hf1 hf2
          subst hf1 hf2
          rw [←HQ.out]
          exact C0.leave (⟨by show (0:Int)≤(kd:Int);omega,by show (kd:Int)<256;omega,(by decide:(-9223372036854775808:Int)≤0),(by decide:(0:Int)≤9223372036854775807),(by decide:(-9223372036854775808:Int)≤0),(by decide:(0:Int)≤9223372036854775807),i64_lo _,i64_hi _,(by decide:ByteArray.empty.size≤140737488355328),(by decide:ByteArray.empty.size≤140737488355328)⟩) rfl rfl rfl
        by_cases e2:kd=2
        case pos=>
          have hb75:hasB (saysB (kd:Int)) 75=true:=by subst e2;rfl
          have hb73:hasB (saysB (kd:Int)) 73=false:=by subst e2;rfl
          have hb74:hasB (saysB (kd:Int)) 74=false:=by subst e2;rfl
          have hb78:hasB (saysB (kd:Int)) 78=false:=by subst e2;rfl
          have hb86:hasB (saysB (kd:Int)) 86=true:=by subst e2;rfl
          have hb83:hasB (saysB (kd:Int)) 83=false:=by subst e2;rfl
          have HSS:Hid (∀b:Nat,b≠46→hasB (says10B (kd:Int)) b=hasB (saysB (kd:Int)) b):=fun b hb=>says10_has _ b hb
          obtain ⟨SB,hSB⟩:∃SB,says10B (kd:Int)=SB:=⟨_,rfl⟩
          have SZ10:Hid (SB.size≤2):=by
            unfold Hid;rw [←hSB];subst e2;decide
          have t75:hasB SB 75=true:=by rw [←hSB,HSS.out _ (by omega)];exact hb75
          have t73:hasB SB 73=false:=by rw [←hSB,HSS.out _ (by omega)];exact hb73
          have t74:hasB SB 74=false:=by rw [←hSB,HSS.out _ (by omega)];exact hb74
          have t78:hasB SB 78=false:=by rw [←hSB,HSS.out _ (by omega)];exact hb78
          have t86:hasB SB 86=true:=by rw [←hSB,HSS.out _ (by omega)];exact hb86
          have t83:hasB SB 83=false:=by rw [←hSB,HSS.out _ (by omega)];exact hb83
          have HSB:=Lib.hid hSB
          have H75:=Lib.hid hb75
          have H73:=Lib.hid hb73
          have H74:=Lib.hid hb74
          have H78:=Lib.hid hb78
          have H86:=Lib.hid hb86
          have H83:=Lib.hid hb83
          clear hSB hb75 hb73 hb74 hb78 hb86 hb83 e2
          have y0:=B.cel.at_ 0 _ rfl
          go_wp2_with (first|(go_at_call 79;(with_reducible refine (says10_any _ _).mono ?_);rintro e wq ⟨rfl,hb2⟩;rw [HSB.out];replace B:=B.behind hb2)|(go_at_call 80;(with_reducible refine (in10_75_any SB _ (by have:=SZ10.out;omega)).mono ?_);rintro e wq ⟨rfl,hb2⟩;replace B:=B.behind hb2))
          obtain ⟨⟨k0,q0⟩,hE0⟩:∃p,fT S9=p:=⟨_,rfl⟩
          have E0:=Lib.hid hE0
          clear hE0
          refine (textR_any _ rb S9 B.box.rr E0.out).mono ?_
          rintro e wv0 ⟨rfl,hR0,hS0⟩
          have BN0:=B.next hS0 hR0
          have p2:=BN0.cel.fr 2
          have y2:=BN0.cel.at_ 2 _ rfl
          go_wp2_with fail
          have C0:QC w (wv0.setCell ⟨cb,2,none⟩ (.string k0)) rb cb q0 xs V.none ⟨kd,a,m,c,k0,0,0,0,vzero, .empty⟩:=BN0.set1 RStep.self (BN0.cel.set (i:=2) (x:= .string k0) (by simp [ccells])) rfl rfl rfl rfl
          clear B BN0
          go_wp2_with (first|(go_at_call 80;(with_reducible refine (in10_73_any SB _ (by have:=SZ10.out;omega)).mono ?_);rintro e wq ⟨rfl,hb2⟩;replace C0:=C0.behind hb2)|(go_at_call 80;(with_reducible refine (in10_74_any SB _ (by have:=SZ10.out;omega)).mono ?_);rintro e wq ⟨rfl,hb2⟩;replace C0:=C0.behind hb2)|(go_at_call 80;(with_reducible refine (in10_78_any SB _ (by have:=SZ10.out;omega)).mono ?_);rintro e wq ⟨rfl,hb2⟩;replace C0:=C0.behind hb2)|(go_at_call 80;(with_reducible refine (in10_86_any SB _ (by have:=SZ10.out;omega)).mono ?_);rintro e wq ⟨rfl,hb2⟩;replace C0:=C0.behind hb2))
          obtain ⟨⟨v1,q1⟩,hE1⟩:∃p,fV 18 q0=p:=⟨_,rfl⟩
          have E1:=Lib.hid hE1
          clear hE1
          refine (valueR0 _ rb q0 C0.box.rr E1.out).mono ?_
          rintro e wv1 ⟨cv,rfl,hS1,hI1,hR1⟩
          have BN1:=C0.next hS1 hR1
          have p6:=BN1.cel.fr 6;have y6:=BN1.cel.at_ 6 _ rfl;have p7:=BN1.cel.fr 7;have y7:=BN1.cel.at_ 7 _ rfl;have p8:=BN1.cel.fr 8;have y8:=BN1.cel.at_ 8 _ rfl;have p9:=BN1.cel.fr 9;have y9:=BN1.cel.at_ 9 _ rfl;have p10:=BN1.cel.fr 10;have y10:=BN1.cel.at_ 10 _ rfl
          go_wp2_with fail
          have C1:QC w (((((wv1.setCell ⟨cb,6,none⟩ (.int .u8 cv.k)).setCell ⟨cb,7,none⟩ (.int .i64 cv.n)).setCell ⟨cb,8,none⟩ (.string cv.s)).setCell ⟨cb,9,none⟩ (.slice cv.la cv.ll cv.lc)).setCell ⟨cb,10,none⟩ (.slice cv.oa cv.ol cv.oc)) rb cb q1 xs v1 ⟨kd,a,m,c,k0,0,0,0,cv, .empty⟩:=C0.value hS1 hR1 hI1 ((((RStep.self.trans RStep.self).trans RStep.self).trans RStep.self).trans RStep.self) (((((BN1.cel.set (i:=6) (x:= .int .u8 cv.k) (by simp [ccells])).set (i:=7) (x:= .int .i64 cv.n) (by simp [ccells])).set (i:=8) (x:= .string cv.s) (by simp [ccells])).set (i:=9) (x:= .slice cv.la cv.ll cv.lc) (by simp [ccells])).set (i:=10) (x:= .slice cv.oa cv.ol cv.oc) (by simp [ccells])) rfl rfl rfl
          clear C0 BN1 hI1
          go_wp2_with (go_at_call 80;(with_reducible refine (in10_83_any SB _ (by have:=SZ10.out;omega)).mono ?_);rintro e wq ⟨rfl,hb2⟩;replace C1:=C1.behind hb2;obtain ⟨y0,y1,y2,y3,y4,y5,y6,y7,y8,y9,y10,y11⟩:=BC.cells12 C1.cel;obtain ⟨r0,gr0,r1,gr1,r2,gr2,r3,gr3,r4,gr4,r5,gr5,r6,gr6,r7,gr7,r8,gr8,r9,gr9,r10,gr10,r11,gr11⟩:=BC.both12 C1.box.res;have hcl:=C1.cel.lt)
          have hfin:((⟨kd,xs,k0,0,0,0,v1, .empty⟩:Cm),(q1:RS))=(x,s'):=by rw [←HR.out];simp [fRest,fIf,fB,H75.out,H73.out,H74.out,H78.out,H86.out,H83.out,E0.out,E1.out]
          injection hfin with hf1 hf2
          subst hf1 hf2
          rw [←HQ.out]
          exact C1.leave (⟨by show (0:Int)≤(kd:Int);omega,by show (kd:Int)<256;omega,(by decide:(-9223372036854775808:Int)≤0),(by decide:(0:Int)≤9223372036854775807),(by decide:(-9223372036854775808:Int)≤0),(by decide:(0:Int)≤9223372036854775807),(by decide:(-9223372036854775808:Int)≤0),(by decide:(0:Int)≤9223372036854775807),(by have:=fT_size S9;rw [E0.out] at this;exact this),(by decide:ByteArray.empty.size≤140737488355328)⟩) rfl rfl rfl
        by_cases e3:kd=3
        case pos=>
          have hb75:hasB (saysB (kd:Int)) 75=true:=by subst e3;rfl
          have hb73:hasB (saysB (kd:Int)) 73=false:=by subst e3;rfl
          have hb74:hasB (saysB (kd:Int)) 74=false:=by subst e3;rfl
          have hb78:hasB (saysB (kd:Int)) 78=false:=by subst e3;rfl
          have hb86:hasB (saysB (kd:Int)) 86=false:=by subst e3;rfl
          have hb83:hasB (saysB (kd:Int)) 83=false:=by subst e3;rfl
          have HSS:Hid (∀b:Nat,b≠46→hasB (says10B (kd:Int)) b=hasB (saysB (kd:Int)) b):=fun b hb=>says10_has _ b hb
          obtain ⟨SB,hSB⟩:∃SB,says10B (kd:Int)=SB:=⟨_,rfl⟩
          have SZ10:Hid (SB.size≤2):=by
            unfold Hid;rw [←hSB];subst e3;decide
          have t75:hasB SB 75=true:=by rw [←hSB,HSS.out _ (by omega)];exact hb75
          have t73:hasB SB 73=false:=by rw [←hSB,HSS.out _ (by omega)];exact hb73
          have t74:hasB SB 74=false:=by rw [←hSB,HSS.out _ (by omega)];exact hb74
          have t78:hasB SB 78=false:=by rw [←hSB,HSS.out _ (by omega)];exact hb78
          have t86:hasB SB 86=false:=by rw [←hSB,HSS.out _ (by omega)];exact hb86
          have t83:hasB SB 83=false:=by rw [←hSB,HSS.out _ (by omega)];exact hb83
          have HSB:=Lib.hid hSB
          have H75:=Lib.hid hb75
          have H73:=Lib.hid hb73
          have H74:=Lib.hid hb74
          have H78:=Lib.hid hb78
          have H86:=Lib.hid hb86
          have H83:=Lib.hid hb83
          clear hSB hb75 hb73 hb74 hb78 hb86 hb83 e3
          have y0:=B.cel.at_ 0 _ rfl
          go_wp2_with (first|(go_at_call 79;(with_reducible refine (says10_any _ _).mono ?_);rintro e wq ⟨rfl,hb2⟩;rw [HSB.out];replace B:=B.behind hb2)|(go_at_call 80;(with_reducible refine (in10_75_any SB _ (by have:=SZ10.out;omega)).mono ?_);rintro e wq ⟨rfl,hb2⟩;replace B:=B.behind hb2))
          obtain ⟨⟨k0,q0⟩,hE0⟩:∃p,fT S9=p:=⟨_,rfl⟩
          have E0:=Lib.hid hE0
          clear hE0
          refine (textR_any _ rb S9 B.box.rr E0.out).mono ?_
          rintro e wv0 ⟨rfl,hR0,hS0⟩
          have BN0:=B.next hS0 hR0
          have p2:=BN0.cel.fr 2
          have y2:=BN0.cel.at_ 2 _ rfl
          go_wp2_with fail
          have C0:QC w (wv0.setCell ⟨cb,2,none⟩ (.string k0)) rb cb q0 xs V.none ⟨kd,a,m,c,k0,0,0,0,vzero, .empty⟩:=BN0.set1 RStep.self (BN0.cel.set (i:=2) (x:= .string k0) (by simp [ccells])) rfl rfl rfl rfl
          clear B BN0
          go_wp2_with (first|(go_at_call 80;(with_reducible refine (in10_73_any SB _ (by have:=SZ10.out;omega)).mono ?_);rintro e wq ⟨rfl,hb2⟩;replace C0:=C0.behind hb2)|(go_at_call 80;(with_reducible refine (in10_74_any SB _ (by have:=SZ10.out;omega)).mono ?_);rintro e wq ⟨rfl,hb2⟩;replace C0:=C0.behind hb2)|(go_at_call 80;(with_reducible refine (in10_78_any SB _ (by have:=SZ10.out;omega)).mono ?_);rintro e wq ⟨rfl,hb2⟩;replace C0:=C0.behind hb2)|(go_at_call 80;(with_reducible refine (in10_86_any SB _ (by have:=SZ10.out;omega)).mono ?_);rintro e wq ⟨rfl,hb2⟩;replace C0:=C0.behind hb2)|(go_at_call 80;(with_reducible refine (in10_83_any SB _ (by have:=SZ10.out;omega)).mono ?_);rintro e wq ⟨rfl,hb2⟩;replace C0:=C0.behind hb2;obtain ⟨y0,y1,y2,y3,y4,y5,y6,y7,y8,y9,y10,y11⟩:=BC.cells12 C0.cel;obtain ⟨r0,gr0,r1,gr1,r2,gr2,r3,gr3,r4,gr4,r5,gr5,r6,gr6,r7,gr7,r8,gr8,r9,gr9,r10,gr10,r11,gr11⟩:=BC.both12 C0.box.res;have hcl:=C0.cel.lt))
          have hfin:((⟨kd,xs,k0,0,0,0,V.none, .empty⟩:Cm),(q0:RS))=(x,s'):=by rw [←HR.out];simp [fRest,fIf,fB,H75.out,H73.out,H74.out,H78.out,H86.out,H83.out,E0.out]
          injection hfin with hf1 hf2
          subst hf1 hf2
          rw [←HQ.out]
          exact C0.leave (⟨by show (0:Int)≤(kd:Int);omega,by show (kd:Int)<256;omega,(by decide:(-9223372036854775808:Int)≤0),(by decide:(0:Int)≤9223372036854775807),(by decide:(-9223372036854775808:Int)≤0),(by decide:(0:Int)≤9223372036854775807),(by decide:(-9223372036854775808:Int)≤0),(by decide:(0:Int)≤9223372036854775807),(by have:=fT_size S9;rw [E0.out] at this;exact this),(by decide:ByteArray.empty.size≤140737488355328)⟩) rfl rfl rfl
        by_cases e4:kd=4
        case pos=>
          have hb75:hasB (saysB (kd:Int)) 75=false:=by subst e4;rfl
          have hb73:hasB (saysB (kd:Int)) 73=true:=by subst e4;rfl
          have hb74:hasB (saysB (kd:Int)) 74=false:=by subst e4;rfl
          have hb78:hasB (saysB (kd:Int)) 78=false:=by subst e4;rfl
          have hb86:hasB (saysB (kd:Int)) 86=true:=by subst e4;rfl
          have hb83:hasB (saysB (kd:Int)) 83=false:=by subst e4;rfl
          have HSS:Hid (∀b:Nat,b≠46→hasB (says10B (kd:Int)) b=hasB (saysB (kd:Int)) b):=fun b hb=>says10_has _ b hb
          obtain ⟨SB,hSB⟩:∃SB,says10B (kd:Int)=SB:=⟨_,rfl⟩
          have SZ10:Hid (SB.size≤2):=by
            unfold Hid;rw [←hSB];subst e4;decide
          have t75:hasB SB 75=false:=by rw [←hSB,HSS.out _ (by omega)];exact hb75
          have t73:hasB SB 73=true:=by rw [←hSB,HSS.out _ (by omega)];exact hb73
          have t74:hasB SB 74=false:=by rw [←hSB,HSS.out _ (by omega)];exact hb74
          have t78:hasB SB 78=false:=by rw [←hSB,HSS.out _ (by omega)];exact hb78
          have t86:hasB SB 86=true:=by rw [←hSB,HSS.out _ (by omega)];exact hb86
          have t83:hasB SB 83=false:=by rw [←hSB,HSS.out _ (by omega)];exact hb83
          have HSB:=Lib.hid hSB
          have H75:=Lib.hid hb75
          have H73:=Lib.hid hb73
          have H74:=Lib.hid hb74
          have H78:=Lib.hid hb78
          have H86:=Lib.hid hb86
          have H83:=Lib.hid hb83
          clear hSB hb75 hb73 hb74 hb78 hb86 hb83 e4
          have y0:=B.cel.at_ 0 _ rfl
          go_wp2_with (first|(go_at_call 79;(with_reducible refine (says10_any _ _).mono ?_);rintro e wq ⟨rfl,hb2⟩;rw [HSB.out];replace B:=B.behind hb2)|(go_at_call 80;(with_reducible refine (in10_75_any SB _ (by have:=SZ10.out;omega)).mono ?_);rintro e wq ⟨rfl,hb2⟩;replace B:=B.behind hb2)|(go_at_call 80;(with_reducible refine (in10_73_any SB _ (by have:=SZ10.out;omega)).mono ?_);rintro e wq ⟨rfl,hb2⟩;replace B:=B.behind hb2))
          obtain ⟨⟨i0,q0⟩,hE0⟩:∃p,fN 8 S9=p:=⟨_,rfl⟩
          have E0:=Lib.hid hE0
          clear hE0
          refine (numberR8 _ rb S9 B.box.rr E0.out).mono ?_
          rintro e wv0 ⟨rfl,hR0,hS0⟩
          have BN0:=B.next hS0 hR0
          have p3:=BN0.cel.fr 3
          have y3:=BN0.cel.at_ 3 _ rfl
          go_wp2_with fail
          have C0:QC w (wv0.setCell ⟨cb,3,none⟩ (.int .i64 (wrap64 i0))) rb cb q0 xs V.none ⟨kd,a,m,c, .empty,(wrap64 i0),0,0,vzero, .empty⟩:=BN0.set1 RStep.self (BN0.cel.set (i:=3) (x:= .int .i64 (wrap64 i0)) (by simp [ccells])) rfl rfl rfl rfl
          clear B BN0
          go_wp2_with (first|(go_at_call 80;(with_reducible refine (in10_74_any SB _ (by have:=SZ10.out;omega)).mono ?_);rintro e wq ⟨rfl,hb2⟩;replace C0:=C0.behind hb2)|(go_at_call 80;(with_reducible refine (in10_78_any SB _ (by have:=SZ10.out;omega)).mono ?_);rintro e wq ⟨rfl,hb2⟩;replace C0:=C0.behind hb2)|(go_at_call 80;(with_reducible refine (in10_86_any SB _ (by have:=SZ10.out;omega)).mono ?_);rintro e wq ⟨rfl,hb2⟩;replace C0:=C0.behind hb2))
          obtain ⟨⟨v1,q1⟩,hE1⟩:∃p,fV 18 q0=p:=⟨_,rfl⟩
          have E1:=Lib.hid hE1
          clear hE1
          refine (valueR0 _ rb q0 C0.box.rr E1.out).mono ?_
          rintro e wv1 ⟨cv,rfl,hS1,hI1,hR1⟩
          have BN1:=C0.next hS1 hR1
          have p6:=BN1.cel.fr 6;have y6:=BN1.cel.at_ 6 _ rfl;have p7:=BN1.cel.fr 7;have y7:=BN1.cel.at_ 7 _ rfl;have p8:=BN1.cel.fr 8;have y8:=BN1.cel.at_ 8 _ rfl;have p9:=BN1.cel.fr 9;have y9:=BN1.cel.at_ 9 _ rfl;have p10:=BN1.cel.fr 10;have y10:=BN1.cel.at_ 10 _ rfl
          go_wp2_with fail
          have C1:QC w (((((wv1.setCell ⟨cb,6,none⟩ (.int .u8 cv.k)).setCell ⟨cb,7,none⟩ (.int .i64 cv.n)).setCell ⟨cb,8,none⟩ (.string cv.s)).setCell ⟨cb,9,none⟩ (.slice cv.la cv.ll cv.lc)).setCell ⟨cb,10,none⟩ (.slice cv.oa cv.ol cv.oc)) rb cb q1 xs v1 ⟨kd,a,m,c, .empty,(wrap64 i0),0,0,cv, .empty⟩:=C0.value hS1 hR1 hI1 ((((RStep.self.trans RStep.self).trans RStep.self).trans RStep.self).trans RStep.self) (((((BN1.cel.set (i:=6) (x:= .int .u8 cv.k) (by simp [ccells])).set (i:=7) (x:= .int .i64 cv.n) (by simp [ccells])).set (i:=8) (x:= .string cv.s) (by simp [ccells])).set (i:=9) (x:= .slice cv.la cv.ll cv.lc) (by simp [ccells])).set (i:=10) (x:= .slice cv.oa cv.ol cv.oc) (by simp [ccells])) rfl rfl rfl
          clear C0 BN1 hI1
          go_wp2_with (go_at_call 80;(with_reducible refine (in10_83_any SB _ (by have:=SZ10.out;omega)).mono ?_);rintro e wq ⟨rfl,hb2⟩;replace C1:=C1.behind hb2;obtain ⟨y0,y1,y2,y3,y4,y5,y6,y7,y8,y9,y10,y11⟩:=BC.cells12 C1.cel;obtain ⟨r0,gr0,r1,gr1,r2,gr2,r3,gr3,r4,gr4,r5,gr5,r6,gr6,r7,gr7,r8,gr8,r9,gr9,r10,gr10,r11,gr11⟩:=BC.both12 C1.box.res;have hcl:=C1.cel.lt)
          have hfin:((⟨kd,xs, .empty,(wrap64 i0),0,0,v1, .empty⟩:Cm),(q1:RS))=(x,s'):=by rw [←HR.out];simp [fRest,fIf,fB,fI,H75.out,H73.out,H74.out,H78.out,H86.out,H83.out,E0.out,E1.out]
          injection hfin with hf1 hf2
          subst hf1 hf2
          rw [←HQ.out]
          exact C1.leave (⟨by show (0:Int)≤(kd:Int);omega,by show (kd:Int)<256;omega,i64_lo _,i64_hi _,(by decide:(-9223372036854775808:Int)≤0),(by decide:(0:Int)≤9223372036854775807),(by decide:(-9223372036854775808:Int)≤0),(by decide:(0:Int)≤9223372036854775807),(by decide:ByteArray.empty.size≤140737488355328),(by decide:ByteArray.empty.size≤140737488355328)⟩) rfl rfl rfl
        by_cases e5:kd=5
        case pos=>
          have hb75:hasB (saysB (kd:Int)) 75=false:=by subst e5;rfl
          have hb73:hasB (saysB (kd:Int)) 73=true:=by subst e5;rfl
          have hb74:hasB (saysB (kd:Int)) 74=false:=by subst e5;rfl
          have hb78:hasB (saysB (kd:Int)) 78=false:=by subst e5;rfl
          have hb86:hasB (saysB (kd:Int)) 86=false:=by subst e5;rfl
          have hb83:hasB (saysB (kd:Int)) 83=false:=by subst e5;rfl
          have HSS:Hid (∀b:Nat,b≠46→hasB (says10B (kd:Int)) b=hasB (saysB (kd:Int)) b):=fun b hb=>says10_has _ b hb
          obtain ⟨SB,hSB⟩:∃SB,says10B (kd:Int)=SB:=⟨_,rfl⟩
          have SZ10:Hid (SB.size≤2):=by
            unfold Hid;rw [←hSB];subst e5;decide
          have t75:hasB SB 75=false:=by rw [←hSB,HSS.out _ (by omega)];exact hb75
          have t73:hasB SB 73=true:=by rw [←hSB,HSS.out _ (by omega)];exact hb73
          have t74:hasB SB 74=false:=by rw [←hSB,HSS.out _ (by omega)];exact hb74
          have t78:hasB SB 78=false:=by rw [←hSB,HSS.out _ (by omega)];exact hb78
          have t86:hasB SB 86=false:=by rw [←hSB,HSS.out _ (by omega)];exact hb86
          have t83:hasB SB 83=false:=by rw [←hSB,HSS.out _ (by omega)];exact hb83
          have HSB:=Lib.hid hSB
          have H75:=Lib.hid hb75
          have H73:=Lib.hid hb73
          have H74:=Lib.hid hb74
          have H78:=Lib.hid hb78
          have H86:=Lib.hid hb86
          have H83:=Lib.hid hb83
          clear hSB hb75 hb73 hb74 hb78 hb86 hb83 e5
          have y0:=B.cel.at_ 0 _ rfl
          go_wp2_with (first|(go_at_call 79;(with_reducible refine (says10_any _ _).mono ?_);rintro e wq ⟨rfl,hb2⟩;rw [HSB.out];replace B:=B.behind hb2)|(go_at_call 80;(with_reducible refine (in10_75_any SB _ (by have:=SZ10.out;omega)).mono ?_);rintro e wq ⟨rfl,hb2⟩;replace B:=B.behind hb2)|(go_at_call 80;(with_reducible refine (in10_73_any SB _ (by have:=SZ10.out;omega)).mono ?_);rintro e wq ⟨rfl,hb2⟩;replace B:=B.behind hb2))
          obtain ⟨⟨i0,q0⟩,hE0⟩:∃p,fN 8 S9=p:=⟨_,rfl⟩
          have E0:=Lib.hid hE0
          clear hE0
          refine (numberR8 _ rb S9 B.box.rr E0.out).mono ?_
          rintro e wv0 ⟨rfl,hR0,hS0⟩
          have BN0:=B.next hS0 hR0
          have p3:=BN0.cel.fr 3
          have y3:=BN0.cel.at_ 3 _ rfl
          go_wp2_with fail
          have C0:QC w (wv0.setCell ⟨cb,3,none⟩ (.int .i64 (wrap64 i0))) rb cb q0 xs V.none ⟨kd,a,m,c, .empty,(wrap64 i0),0,0,vzero, .empty⟩:=BN0.set1 RStep.self (BN0.cel.set (i:=3) (x:= .int .i64 (wrap64 i0)) (by simp [ccells])) rfl rfl rfl rfl
          clear B BN0
          go_wp2_with (first|(go_at_call 80;(with_reducible refine (in10_74_any SB _ (by have:=SZ10.out;omega)).mono ?_);rintro e wq ⟨rfl,hb2⟩;replace C0:=C0.behind hb2)|(go_at_call 80;(with_reducible refine (in10_78_any SB _ (by have:=SZ10.out;omega)).mono ?_);rintro e wq ⟨rfl,hb2⟩;replace C0:=C0.behind hb2)|(go_at_call 80;(with_reducible refine (in10_86_any SB _ (by have:=SZ10.out;omega)).mono ?_);rintro e wq ⟨rfl,hb2⟩;replace C0:=C0.behind hb2)|(go_at_call 80;(with_reducible refine (in10_83_any SB _ (by have:=SZ10.out;omega)).mono ?_);rintro e wq ⟨rfl,hb2⟩;replace C0:=C0.behind hb2;obtain ⟨y0,y1,y2,y3,y4,y5,y6,y7,y8,y9,y10,y11⟩:=BC.cells12 C0.cel;obtain ⟨r0,gr0,r1,gr1,r2,gr2,r3,gr3,r4,gr4,r5,gr5,r6,gr6,r7,gr7,r8,gr8,r9,gr9,r10,gr10,r11,gr11⟩:=BC.both12 C0.box.res;have hcl:=C0.cel.lt))
          have hfin:((⟨kd,xs, .empty,(wrap64 i0),0,0,V.none, .empty⟩:Cm),(q0:RS))=(x,s'):=by rw [←HR.out];simp [fRest,fIf,fB,fI,H75.out,H73.out,H74.out,H78.out,H86.out,H83.out,E0.out]
          injection hfin with hf1 hf2
          subst hf1 hf2
          rw [←HQ.out]
          exact C0.leave (⟨by show (0:Int)≤(kd:Int);omega,by show (kd:Int)<256;omega,i64_lo _,i64_hi _,(by decide:(-9223372036854775808:Int)≤0),(by decide:(0:Int)≤9223372036854775807),(by decide:(-9223372036854775808:Int)≤0),(by decide:(0:Int)≤9223372036854775807),(by decide:ByteArray.empty.size≤140737488355328),(by decide:ByteArray.empty.size≤140737488355328)⟩) rfl rfl rfl
        by_cases e6:kd=6
        case pos=>
          have hb75:hasB (saysB (kd:Int)) 75=false:=by subst e6;rfl
          have hb73:hasB (saysB (kd:Int)) 73=true:=by subst e6;rfl
          have hb74:hasB (saysB (kd:Int)) 74=false:=by subst e6;rfl
          have hb78:hasB (saysB (kd:Int)) 78=false:=by subst e6;rfl
          have hb86:hasB (saysB (kd:Int)) 86=true:=by subst e6;rfl
          have hb83:hasB (saysB (kd:Int)) 83=false:=by subst e6;rfl
          have HSS:Hid (∀b:Nat,b≠46→hasB (says10B (kd:Int)) b=hasB (saysB (kd:Int)) b):=fun b hb=>says10_has _ b hb
          obtain ⟨SB,hSB⟩:∃SB,says10B (kd:Int)=SB:=⟨_,rfl⟩
          have SZ10:Hid (SB.size≤2):=by
            unfold Hid;rw [←hSB];subst e6;decide
          have t75:hasB SB 75=false:=by rw [←hSB,HSS.out _ (by omega)];exact hb75
          have t73:hasB SB 73=true:=by rw [←hSB,HSS.out _ (by omega)];exact hb73
          have t74:hasB SB 74=false:=by rw [←hSB,HSS.out _ (by omega)];exact hb74
          have t78:hasB SB 78=false:=by rw [←hSB,HSS.out _ (by omega)];exact hb78
          have t86:hasB SB 86=true:=by rw [←hSB,HSS.out _ (by omega)];exact hb86
          have t83:hasB SB 83=false:=by rw [←hSB,HSS.out _ (by omega)];exact hb83
          have HSB:=Lib.hid hSB
          have H75:=Lib.hid hb75
          have H73:=Lib.hid hb73
          have H74:=Lib.hid hb74
          have H78:=Lib.hid hb78
          have H86:=Lib.hid hb86
          have H83:=Lib.hid hb83
          clear hSB hb75 hb73 hb74 hb78 hb86 hb83 e6
          have y0:=B.cel.at_ 0 _ rfl
          go_wp2_with (first|(go_at_call 79;(with_reducible refine (says10_any _ _).mono ?_);rintro e wq ⟨rfl,hb2⟩;rw [HSB.out];replace B:=B.behind hb2)|(go_at_call 80;(with_reducible refine (in10_75_any SB _ (by have:=SZ10.out;omega)).mono ?_);rintro e wq ⟨rfl,hb2⟩;replace B:=B.behind hb2)|(go_at_call 80;(with_reducible refine (in10_73_any SB _ (by have:=SZ10.out;omega)).mono ?_);rintro e wq ⟨rfl,hb2⟩;replace B:=B.behind hb2))
          obtain ⟨⟨i0,q0⟩,hE0⟩:∃p,fN 8 S9=p:=⟨_,rfl⟩
          have E0:=Lib.hid hE0
          clear hE0
          refine (numberR8 _ rb S9 B.box.rr E0.out).mono ?_
          rintro e wv0 ⟨rfl,hR0,hS0⟩
          have BN0:=B.next hS0 hR0
          have p3:=BN0.cel.fr 3
          have y3:=BN0.cel.at_ 3 _ rfl
          go_wp2_with fail
          have C0:QC w (wv0.setCell ⟨cb,3,none⟩ (.int .i64 (wrap64 i0))) rb cb q0 xs V.none ⟨kd,a,m,c, .empty,(wrap64 i0),0,0,vzero, .empty⟩:=BN0.set1 RStep.self (BN0.cel.set (i:=3) (x:= .int .i64 (wrap64 i0)) (by simp [ccells])) rfl rfl rfl rfl
          clear B BN0
          go_wp2_with (first|(go_at_call 80;(with_reducible refine (in10_74_any SB _ (by have:=SZ10.out;omega)).mono ?_);rintro e wq ⟨rfl,hb2⟩;replace C0:=C0.behind hb2)|(go_at_call 80;(with_reducible refine (in10_78_any SB _ (by have:=SZ10.out;omega)).mono ?_);rintro e wq ⟨rfl,hb2⟩;replace C0:=C0.behind hb2)|(go_at_call 80;(with_reducible refine (in10_86_any SB _ (by have:=SZ10.out;omega)).mono ?_);rintro e wq ⟨rfl,hb2⟩;replace C0:=C0.behind hb2))
          obtain ⟨⟨v1,q1⟩,hE1⟩:∃p,fV 18 q0=p:=⟨_,rfl⟩
          have E1:=Lib.hid hE1
          clear hE1
          refine (valueR0 _ rb q0 C0.box.rr E1.out).mono ?_
          rintro e wv1 ⟨cv,rfl,hS1,hI1,hR1⟩
          have BN1:=C0.next hS1 hR1
          have p6:=BN1.cel.fr 6;have y6:=BN1.cel.at_ 6 _ rfl;have p7:=BN1.cel.fr 7;have y7:=BN1.cel.at_ 7 _ rfl;have p8:=BN1.cel.fr 8;have y8:=BN1.cel.at_ 8 _ rfl;have p9:=BN1.cel.fr 9;have y9:=BN1.cel.at_ 9 _ rfl;have p10:=BN1.cel.fr 10;have y10:=BN1.cel.at_ 10 _ rfl
          go_wp2_with fail
          have C1:QC w (((((wv1.setCell ⟨cb,6,none⟩ (.int .u8 cv.k)).setCell ⟨cb,7,none⟩ (.int .i64 cv.n)).setCell ⟨cb,8,none⟩ (.string cv.s)).setCell ⟨cb,9,none⟩ (.slice cv.la cv.ll cv.lc)).setCell ⟨cb,10,none⟩ (.slice cv.oa cv.ol cv.oc)) rb cb q1 xs v1 ⟨kd,a,m,c, .empty,(wrap64 i0),0,0,cv, .empty⟩:=C0.value hS1 hR1 hI1 ((((RStep.self.trans RStep.self).trans RStep.self).trans RStep.self).trans RStep.self) (((((BN1.cel.set (i:=6) (x:= .int .u8 cv.k) (by simp [ccells])).set (i:=7) (x:= .int .i64 cv.n) (by simp [ccells])).set (i:=8) (x:= .string cv.s) (by simp [ccells])).set (i:=9) (x:= .slice cv.la cv.ll cv.lc) (by simp [ccells])).set (i:=10) (x:= .slice cv.oa cv.ol cv.oc) (by simp [ccells])) rfl rfl rfl
          clear C0 BN1 hI1
          go_wp2_with (go_at_call 80;(with_reducible refine (in10_83_any SB _ (by have:=SZ10.out;omega)).mono ?_);rintro e wq ⟨rfl,hb2⟩;replace C1:=C1.behind hb2;obtain ⟨y0,y1,y2,y3,y4,y5,y6,y7,y8,y9,y10,y11⟩:=BC.cells12 C1.cel;obtain ⟨r0,gr0,r1,gr1,r2,gr2,r3,gr3,r4,gr4,r5,gr5,r6,gr6,r7,gr7,r8,gr8,r9,gr9,r10,gr10,r11,gr11⟩:=BC.both12 C1.box.res;have hcl:=C1.cel.lt)
          have hfin:((⟨kd,xs, .empty,(wrap64 i0),0,0,v1, .empty⟩:Cm),(q1:RS))=(x,s'):=by rw [←HR.out];simp [fRest,fIf,fB,fI,H75.out,H73.out,H74.out,H78.out,H86.out,H83.out,E0.out,E1.out]
          injection hfin with hf1 hf2
          subst hf1 hf2
          rw [←HQ.out]
          exact C1.leave (⟨by show (0:Int)≤(kd:Int);omega,by show (kd:Int)<256;omega,i64_lo _,i64_hi _,(by decide:(-9223372036854775808:Int)≤0),(by decide:(0:Int)≤9223372036854775807),(by decide:(-9223372036854775808:Int)≤0),(by decide:(0:Int)≤9223372036854775807),(by decide:ByteArray.empty.size≤140737488355328),(by decide:ByteArray.empty.size≤140737488355328)⟩) rfl rfl rfl
        by_cases e7:kd=7
        case pos=>
          have hb75:hasB (saysB (kd:Int)) 75=false:=by subst e7;rfl
          have hb73:hasB (saysB (kd:Int)) 73=true:=by subst e7;rfl
          have hb74:hasB (saysB (kd:Int)) 74=true:=by subst e7;rfl
          have hb78:hasB (saysB (kd:Int)) 78=false:=by subst e7;rfl
          have hb86:hasB (saysB (kd:Int)) 86=false:=by subst e7;rfl
          have hb83:hasB (saysB (kd:Int)) 83=false:=by subst e7;rfl
          have HSS:Hid (∀b:Nat,b≠46→hasB (says10B (kd:Int)) b=hasB (saysB (kd:Int)) b):=fun b hb=>says10_has _ b hb
          obtain ⟨SB,hSB⟩:∃SB,says10B (kd:Int)=SB:=⟨_,rfl⟩
          have SZ10:Hid (SB.size≤2):=by
            unfold Hid;rw [←hSB];subst e7;decide
          have t75:hasB SB 75=false:=by rw [←hSB,HSS.out _ (by omega)];exact hb75
          have t73:hasB SB 73=true:=by rw [←hSB,HSS.out _ (by omega)];exact hb73
          have t74:hasB SB 74=true:=by rw [←hSB,HSS.out _ (by omega)];exact hb74
          have t78:hasB SB 78=false:=by rw [←hSB,HSS.out _ (by omega)];exact hb78
          have t86:hasB SB 86=false:=by rw [←hSB,HSS.out _ (by omega)];exact hb86
          have t83:hasB SB 83=false:=by rw [←hSB,HSS.out _ (by omega)];exact hb83
          have HSB:=Lib.hid hSB
          have H75:=Lib.hid hb75
          have H73:=Lib.hid hb73
          have H74:=Lib.hid hb74
          have H78:=Lib.hid hb78
          have H86:=Lib.hid hb86
          have H83:=Lib.hid hb83
          clear hSB hb75 hb73 hb74 hb78 hb86 hb83 e7
          have y0:=B.cel.at_ 0 _ rfl
          go_wp2_with (first|(go_at_call 79;(with_reducible refine (says10_any _ _).mono ?_);rintro e wq ⟨rfl,hb2⟩;rw [HSB.out];replace B:=B.behind hb2)|(go_at_call 80;(with_reducible refine (in10_75_any SB _ (by have:=SZ10.out;omega)).mono ?_);rintro e wq ⟨rfl,hb2⟩;replace B:=B.behind hb2)|(go_at_call 80;(with_reducible refine (in10_73_any SB _ (by have:=SZ10.out;omega)).mono ?_);rintro e wq ⟨rfl,hb2⟩;replace B:=B.behind hb2))
          obtain ⟨⟨i0,q0⟩,hE0⟩:∃p,fN 8 S9=p:=⟨_,rfl⟩
          have E0:=Lib.hid hE0
          clear hE0
          refine (numberR8 _ rb S9 B.box.rr E0.out).mono ?_
          rintro e wv0 ⟨rfl,hR0,hS0⟩
          have BN0:=B.next hS0 hR0
          have p3:=BN0.cel.fr 3
          have y3:=BN0.cel.at_ 3 _ rfl
          go_wp2_with fail
          have C0:QC w (wv0.setCell ⟨cb,3,none⟩ (.int .i64 (wrap64 i0))) rb cb q0 xs V.none ⟨kd,a,m,c, .empty,(wrap64 i0),0,0,vzero, .empty⟩:=BN0.set1 RStep.self (BN0.cel.set (i:=3) (x:= .int .i64 (wrap64 i0)) (by simp [ccells])) rfl rfl rfl rfl
          clear B BN0
          go_wp2_with (go_at_call 80;(with_reducible refine (in10_74_any SB _ (by have:=SZ10.out;omega)).mono ?_);rintro e wq ⟨rfl,hb2⟩;replace C0:=C0.behind hb2)
          obtain ⟨⟨j1,q1⟩,hE1⟩:∃p,fN 8 q0=p:=⟨_,rfl⟩
          have E1:=Lib.hid hE1
          clear hE1
          refine (numberR8 _ rb q0 C0.box.rr E1.out).mono ?_
          rintro e wv1 ⟨rfl,hR1,hS1⟩
          have BN1:=C0.next hS1 hR1
          have p4:=BN1.cel.fr 4
          have y4:=BN1.cel.at_ 4 _ rfl
          go_wp2_with fail
          have C1:QC w (wv1.setCell ⟨cb,4,none⟩ (.int .i64 (wrap64 j1))) rb cb q1 xs V.none ⟨kd,a,m,c, .empty,(wrap64 i0),(wrap64 j1),0,vzero, .empty⟩:=BN1.set1 RStep.self (BN1.cel.set (i:=4) (x:= .int .i64 (wrap64 j1)) (by simp [ccells])) rfl rfl rfl rfl
          clear C0 BN1
          go_wp2_with (first|(go_at_call 80;(with_reducible refine (in10_78_any SB _ (by have:=SZ10.out;omega)).mono ?_);rintro e wq ⟨rfl,hb2⟩;replace C1:=C1.behind hb2)|(go_at_call 80;(with_reducible refine (in10_86_any SB _ (by have:=SZ10.out;omega)).mono ?_);rintro e wq ⟨rfl,hb2⟩;replace C1:=C1.behind hb2)|(go_at_call 80;(with_reducible refine (in10_83_any SB _ (by have:=SZ10.out;omega)).mono ?_);rintro e wq ⟨rfl,hb2⟩;replace C1:=C1.behind hb2;obtain ⟨y0,y1,y2,y3,y4,y5,y6,y7,y8,y9,y10,y11⟩:=BC.cells12 C1.cel;obtain ⟨r0,gr0,r1,gr1,r2,gr2,r3,gr3,r4,gr4,r5,gr5,r6,gr6,r7,gr7,r8,gr8,r9,gr9,r10,gr10,r11,gr11⟩:=BC.both12 C1.box.res;have hcl:=C1.cel.lt))
          have hfin:((⟨kd,xs, .empty,(wrap64 i0),(wrap64 j1),0,V.none, .empty⟩:Cm),(q1:RS))=(x,s'):=by rw [←HR.out];simp [fRest,fIf,fB,fI,H75.out,H73.out,H74.out,H78.out,H86.out,H83.out,E0.out,E1.out]
          injection hfin with hf1 hf2
          subst hf1 hf2
          rw [←HQ.out]
          exact C1.leave (⟨by show (0:Int)≤(kd:Int);omega,by show (kd:Int)<256;omega,i64_lo _,i64_hi _,i64_lo _,i64_hi _,(by decide:(-9223372036854775808:Int)≤0),(by decide:(0:Int)≤9223372036854775807),(by decide:ByteArray.empty.size≤140737488355328),(by decide:ByteArray.empty.size≤140737488355328)⟩) rfl rfl rfl
        by_cases e8:kd=8
        case pos=>
          have hb75:hasB (saysB (kd:Int)) 75=false:=by subst e8;rfl
          have hb73:hasB (saysB (kd:Int)) 73=true:=by subst e8;rfl
          have hb74:hasB (saysB (kd:Int)) 74=false:=by subst e8;rfl
          have hb78:hasB (saysB (kd:Int)) 78=false:=by subst e8;rfl
          have hb86:hasB (saysB (kd:Int)) 86=false:=by subst e8;rfl
          have hb83:hasB (saysB (kd:Int)) 83=true:=by subst e8;rfl
          have HSS:Hid (∀b:Nat,b≠46→hasB (says10B (kd:Int)) b=hasB (saysB (kd:Int)) b):=fun b hb=>says10_has _ b hb
          obtain ⟨SB,hSB⟩:∃SB,says10B (kd:Int)=SB:=⟨_,rfl⟩
          have SZ10:Hid (SB.size≤2):=by
            unfold Hid;rw [←hSB];subst e8;decide
          have t75:hasB SB 75=false:=by rw [←hSB,HSS.out _ (by omega)];exact hb75
          have t73:hasB SB 73=true:=by rw [←hSB,HSS.out _ (by omega)];exact hb73
          have t74:hasB SB 74=false:=by rw [←hSB,HSS.out _ (by omega)];exact hb74
          have t78:hasB SB 78=false:=by rw [←hSB,HSS.out _ (by omega)];exact hb78
          have t86:hasB SB 86=false:=by rw [←hSB,HSS.out _ (by omega)];exact hb86
          have t83:hasB SB 83=true:=by rw [←hSB,HSS.out _ (by omega)];exact hb83
          have HSB:=Lib.hid hSB
          have H75:=Lib.hid hb75
          have H73:=Lib.hid hb73
          have H74:=Lib.hid hb74
          have H78:=Lib.hid hb78
          have H86:=Lib.hid hb86
          have H83:=Lib.hid hb83
          clear hSB hb75 hb73 hb74 hb78 hb86 hb83 e8
          have y0:=B.cel.at_ 0 _ rfl
          go_wp2_with (first|(go_at_call 79;(with_reducible refine (says10_any _ _).mono ?_);rintro e wq ⟨rfl,hb2⟩;rw [HSB.out];replace B:=B.behind hb2)|(go_at_call 80;(with_reducible refine (in10_75_any SB _ (by have:=SZ10.out;omega)).mono ?_);rintro e wq ⟨rfl,hb2⟩;replace B:=B.behind hb2)|(go_at_call 80;(with_reducible refine (in10_73_any SB _ (by have:=SZ10.out;omega)).mono ?_);rintro e wq ⟨rfl,hb2⟩;replace B:=B.behind hb2))
          obtain ⟨⟨i0,q0⟩,hE0⟩:∃p,fN 8 S9=p:=⟨_,rfl⟩
          have E0:=Lib.hid hE0
          clear hE0
          refine (numberR8 _ rb S9 B.box.rr E0.out).mono ?_
          rintro e wv0 ⟨rfl,hR0,hS0⟩
          have BN0:=B.next hS0 hR0
          have p3:=BN0.cel.fr 3
          have y3:=BN0.cel.at_ 3 _ rfl
          go_wp2_with fail
          have C0:QC w (wv0.setCell ⟨cb,3,none⟩ (.int .i64 (wrap64 i0))) rb cb q0 xs V.none ⟨kd,a,m,c, .empty,(wrap64 i0),0,0,vzero, .empty⟩:=BN0.set1 RStep.self (BN0.cel.set (i:=3) (x:= .int .i64 (wrap64 i0)) (by simp [ccells])) rfl rfl rfl rfl
          clear B BN0
          go_wp2_with (first|(go_at_call 80;(with_reducible refine (in10_74_any SB _ (by have:=SZ10.out;omega)).mono ?_);rintro e wq ⟨rfl,hb2⟩;replace C0:=C0.behind hb2)|(go_at_call 80;(with_reducible refine (in10_78_any SB _ (by have:=SZ10.out;omega)).mono ?_);rintro e wq ⟨rfl,hb2⟩;replace C0:=C0.behind hb2)|(go_at_call 80;(with_reducible refine (in10_86_any SB _ (by have:=SZ10.out;omega)).mono ?_);rintro e wq ⟨rfl,hb2⟩;replace C0:=C0.behind hb2)|(go_at_call 80;(with_reducible refine (in10_83_any SB _ (by have:=SZ10.out;omega)).mono ?_);rintro e wq ⟨rfl,hb2⟩;replace C0:=C0.behind hb2))
          obtain ⟨⟨s1,q1⟩,hE1⟩:∃p,fT q0=p:=⟨_,rfl⟩
          have E1:=Lib.hid hE1
          clear hE1
          refine (textR_any _ rb q0 C0.box.rr E1.out).mono ?_
          rintro e wv1 ⟨rfl,hR1,hS1⟩
          have BN1:=C0.next hS1 hR1
          have p11:=BN1.cel.fr 11
          obtain ⟨y0,y1,y2,y3,y4,y5,y6,y7,y8,y9,y10,y11⟩:=BC.cells12 BN1.cel;obtain ⟨r0,gr0,r1,gr1,r2,gr2,r3,gr3,r4,gr4,r5,gr5,r6,gr6,r7,gr7,r8,gr8,r9,gr9,r10,gr10,r11,gr11⟩:=BC.both12 BN1.box.res;have hcl:=BN1.cel.lt
          go_wp2_with fail
          have C1:QC w (wv1.setCell ⟨cb,11,none⟩ (.string s1)) rb cb q1 xs V.none ⟨kd,a,m,c, .empty,(wrap64 i0),0,0,vzero,s1⟩:=BN1.set1 RStep.self (BN1.cel.set (i:=11) (x:= .string s1) (by simp [ccells])) rfl rfl rfl rfl
          have hfin:((⟨kd,xs, .empty,(wrap64 i0),0,0,V.none,s1⟩:Cm),(q1:RS))=(x,s'):=by rw [←HR.out];simp [fRest,fIf,fB,fI,H75.out,H73.out,H74.out,H78.out,H86.out,H83.out,E0.out,E1.out]
          injection hfin with hf1 hf2
          subst hf1 hf2
          rw [←HQ.out]
          exact C1.leave (⟨by show (0:Int)≤(kd:Int);omega,by show (kd:Int)<256;omega,i64_lo _,i64_hi _,(by decide:(-9223372036854775808:Int)≤0),(by decide:(0:Int)≤9223372036854775807),(by decide:(-9223372036854775808:Int)≤0),(by decide:(0:Int)≤9223372036854775807),(by decide:ByteArray.empty.size≤140737488355328),(by have:=fT_size q0;rw [E1.out] at this;exact this)⟩) rfl rfl rfl
        by_cases e9:kd=9
        case pos=>
          have hb75:hasB (saysB (kd:Int)) 75=false:=by subst e9;rfl
          have hb73:hasB (saysB (kd:Int)) 73=true:=by subst e9;rfl
          have hb74:hasB (saysB (kd:Int)) 74=false:=by subst e9;rfl
          have hb78:hasB (saysB (kd:Int)) 78=true:=by subst e9;rfl
          have hb86:hasB (saysB (kd:Int)) 86=false:=by subst e9;rfl
          have hb83:hasB (saysB (kd:Int)) 83=false:=by subst e9;rfl
          have HSS:Hid (∀b:Nat,b≠46→hasB (says10B (kd:Int)) b=hasB (saysB (kd:Int)) b):=fun b hb=>says10_has _ b hb
          obtain ⟨SB,hSB⟩:∃SB,says10B (kd:Int)=SB:=⟨_,rfl⟩
          have SZ10:Hid (SB.size≤2):=by
            unfold Hid;rw [←hSB];subst e9;decide
          have t75:hasB SB 75=false:=by rw [←hSB,HSS.out _ (by omega)];exact hb75
          have t73:hasB SB 73=true:=by rw [←hSB,HSS.out _ (by omega)];exact hb73
          have t74:hasB SB 74=false:=by rw [←hSB,HSS.out _ (by omega)];exact hb74
          have t78:hasB SB 78=true:=by rw [←hSB,HSS.out _ (by omega)];exact hb78
          have t86:hasB SB 86=false:=by rw [←hSB,HSS.out _ (by omega)];exact hb86
          have t83:hasB SB 83=false:=by rw [←hSB,HSS.out _ (by omega)];exact hb83
          have HSB:=Lib.hid hSB
          have H75:=Lib.hid hb75
          have H73:=Lib.hid hb73
          have H74:=Lib.hid hb74
          have H78:=Lib.hid hb78
          have H86:=Lib.hid hb86
          have H83:=Lib.hid hb83
          clear hSB hb75 hb73 hb74 hb78 hb86 hb83 e9
          have y0:=B.cel.at_ 0 _ rfl
          go_wp2_with (first|(go_at_call 79;(with_reducible refine (says10_any _ _).mono ?_);rintro e wq ⟨rfl,hb2⟩;rw [HSB.out];replace B:=B.behind hb2)|(go_at_call 80;(with_reducible refine (in10_75_any SB _ (by have:=SZ10.out;omega)).mono ?_);rintro e wq ⟨rfl,hb2⟩;replace B:=B.behind hb2)|(go_at_call 80;(with_reducible refine (in10_73_any SB _ (by have:=SZ10.out;omega)).mono ?_);rintro e wq ⟨rfl,hb2⟩;replace B:=B.behind hb2))
          obtain ⟨⟨i0,q0⟩,hE0⟩:∃p,fN 8 S9=p:=⟨_,rfl⟩
          have E0:=Lib.hid hE0
          clear hE0
          refine (numberR8 _ rb S9 B.box.rr E0.out).mono ?_
          rintro e wv0 ⟨rfl,hR0,hS0⟩
          have BN0:=B.next hS0 hR0
          have p3:=BN0.cel.fr 3
          have y3:=BN0.cel.at_ 3 _ rfl
          go_wp2_with fail
          have C0:QC w (wv0.setCell ⟨cb,3,none⟩ (.int .i64 (wrap64 i0))) rb cb q0 xs V.none ⟨kd,a,m,c, .empty,(wrap64 i0),0,0,vzero, .empty⟩:=BN0.set1 RStep.self (BN0.cel.set (i:=3) (x:= .int .i64 (wrap64 i0)) (by simp [ccells])) rfl rfl rfl rfl
          clear B BN0
          go_wp2_with (first|(go_at_call 80;(with_reducible refine (in10_74_any SB _ (by have:=SZ10.out;omega)).mono ?_);rintro e wq ⟨rfl,hb2⟩;replace C0:=C0.behind hb2)|(go_at_call 80;(with_reducible refine (in10_78_any SB _ (by have:=SZ10.out;omega)).mono ?_);rintro e wq ⟨rfl,hb2⟩;replace C0:=C0.behind hb2))
          obtain ⟨⟨n1,q1⟩,hE1⟩:∃p,fN 8 q0=p:=⟨_,rfl⟩
          have E1:=Lib.hid hE1
          clear hE1
          refine (numberR8 _ rb q0 C0.box.rr E1.out).mono ?_
          rintro e wv1 ⟨rfl,hR1,hS1⟩
          have BN1:=C0.next hS1 hR1
          have p5:=BN1.cel.fr 5
          have y5:=BN1.cel.at_ 5 _ rfl
          go_wp2_with fail
          have C1:QC w (wv1.setCell ⟨cb,5,none⟩ (.int .i64 (wrap64 n1))) rb cb q1 xs V.none ⟨kd,a,m,c, .empty,(wrap64 i0),0,(wrap64 n1),vzero, .empty⟩:=BN1.set1 RStep.self (BN1.cel.set (i:=5) (x:= .int .i64 (wrap64 n1)) (by simp [ccells])) rfl rfl rfl rfl
          clear C0 BN1
          go_wp2_with (first|(go_at_call 80;(with_reducible refine (in10_86_any SB _ (by have:=SZ10.out;omega)).mono ?_);rintro e wq ⟨rfl,hb2⟩;replace C1:=C1.behind hb2)|(go_at_call 80;(with_reducible refine (in10_83_any SB _ (by have:=SZ10.out;omega)).mono ?_);rintro e wq ⟨rfl,hb2⟩;replace C1:=C1.behind hb2;obtain ⟨y0,y1,y2,y3,y4,y5,y6,y7,y8,y9,y10,y11⟩:=BC.cells12 C1.cel;obtain ⟨r0,gr0,r1,gr1,r2,gr2,r3,gr3,r4,gr4,r5,gr5,r6,gr6,r7,gr7,r8,gr8,r9,gr9,r10,gr10,r11,gr11⟩:=BC.both12 C1.box.res;have hcl:=C1.cel.lt))
          have hfin:((⟨kd,xs, .empty,(wrap64 i0),0,(wrap64 n1),V.none, .empty⟩:Cm),(q1:RS))=(x,s'):=by rw [←HR.out];simp [fRest,fIf,fB,fI,H75.out,H73.out,H74.out,H78.out,H86.out,H83.out,E0.out,E1.out]
          injection hfin with hf1 hf2
          subst hf1 hf2
          rw [←HQ.out]
          exact C1.leave (⟨by show (0:Int)≤(kd:Int);omega,by show (kd:Int)<256;omega,i64_lo _,i64_hi _,(by decide:(-9223372036854775808:Int)≤0),(by decide:(0:Int)≤9223372036854775807),i64_lo _,i64_hi _,(by decide:ByteArray.empty.size≤140737488355328),(by decide:ByteArray.empty.size≤140737488355328)⟩) rfl rfl rfl
        have hb75:hasB (saysB (kd:Int)) 75=false:=by simp [saysB,hasB,show ¬(kd:Int)=1 by omega,show ¬(kd:Int)=2 by omega,show ¬(kd:Int)=3 by omega,show ¬(kd:Int)=4 by omega,show ¬(kd:Int)=5 by omega,show ¬(kd:Int)=6 by omega,show ¬(kd:Int)=7 by omega,show ¬(kd:Int)=8 by omega,show ¬(kd:Int)=9 by omega]
        have hb73:hasB (saysB (kd:Int)) 73=false:=by simp [saysB,hasB,show ¬(kd:Int)=1 by omega,show ¬(kd:Int)=2 by omega,show ¬(kd:Int)=3 by omega,show ¬(kd:Int)=4 by omega,show ¬(kd:Int)=5 by omega,show ¬(kd:Int)=6 by omega,show ¬(kd:Int)=7 by omega,show ¬(kd:Int)=8 by omega,show ¬(kd:Int)=9 by omega]
        have hb74:hasB (saysB (kd:Int)) 74=false:=by simp [saysB,hasB,show ¬(kd:Int)=1 by omega,show ¬(kd:Int)=2 by omega,show ¬(kd:Int)=3 by omega,show ¬(kd:Int)=4 by omega,show ¬(kd:Int)=5 by omega,show ¬(kd:Int)=6 by omega,show ¬(kd:Int)=7 by omega,show ¬(kd:Int)=8 by omega,show ¬(kd:Int)=9 by omega]
        have hb78:hasB (saysB (kd:Int)) 78=false:=by simp [saysB,hasB,show ¬(kd:Int)=1 by omega,show ¬(kd:Int)=2 by omega,show ¬(kd:Int)=3 by omega,show ¬(kd:Int)=4 by omega,show ¬(kd:Int)=5 by omega,show ¬(kd:Int)=6 by omega,show ¬(kd:Int)=7 by omega,show ¬(kd:Int)=8 by omega,show ¬(kd:Int)=9 by omega]
        have hb86:hasB (saysB (kd:Int)) 86=false:=by simp [saysB,hasB,show ¬(kd:Int)=1 by omega,show ¬(kd:Int)=2 by omega,show ¬(kd:Int)=3 by omega,show ¬(kd:Int)=4 by omega,show ¬(kd:Int)=5 by omega,show ¬(kd:Int)=6 by omega,show ¬(kd:Int)=7 by omega,show ¬(kd:Int)=8 by omega,show ¬(kd:Int)=9 by omega]
        have hb83:hasB (saysB (kd:Int)) 83=false:=by simp [saysB,hasB,show ¬(kd:Int)=1 by omega,show ¬(kd:Int)=2 by omega,show ¬(kd:Int)=3 by omega,show ¬(kd:Int)=4 by omega,show ¬(kd:Int)=5 by omega,show ¬(kd:Int)=6 by omega,show ¬(kd:Int)=7 by omega,show ¬(kd:Int)=8 by omega,show ¬(kd:Int)=9 by omega]
        have HSS:Hid (∀b:Nat,b≠46→hasB (says10B (kd:Int)) b=hasB (saysB (kd:Int)) b):=fun b hb=>says10_has _ b hb
        obtain ⟨SB,hSB⟩:∃SB,says10B (kd:Int)=SB:=⟨_,rfl⟩
        have SZ10:Hid (SB.size≤2):=by
          unfold Hid;rw [←hSB];unfold says10B;split
          · decide
          · simp [saysB,show ¬(kd:Int)=1 by omega,show ¬(kd:Int)=2 by omega,show ¬(kd:Int)=3 by omega,show ¬(kd:Int)=4 by omega,show ¬(kd:Int)=5 by omega,show ¬(kd:Int)=6 by omega,show ¬(kd:Int)=7 by omega,show ¬(kd:Int)=8 by omega,show ¬(kd:Int)=9 by omega];decide
        have t75:hasB SB 75=false:=by rw [←hSB,HSS.out _ (by omega)];exact hb75
        have t73:hasB SB 73=false:=by rw [←hSB,HSS.out _ (by omega)];exact hb73
        have t74:hasB SB 74=false:=by rw [←hSB,HSS.out _ (by omega)];exact hb74
        have t78:hasB SB 78=false:=by rw [←hSB,HSS.out _ (by omega)];exact hb78
        have t86:hasB SB 86=false:=by rw [←hSB,HSS.out _ (by omega)];exact hb86
        have t83:hasB SB 83=false:=by rw [←hSB,HSS.out _ (by omega)];exact hb83
        have HSB:=Lib.hid hSB
        have H75:=Lib.hid hb75
        have H73:=Lib.hid hb73
        have H74:=Lib.hid hb74
        have H78:=Lib.hid hb78
        have H86:=Lib.hid hb86
        have H83:=Lib.hid hb83
        clear hSB hb75 hb73 hb74 hb78 hb86 hb83
        have y0:=B.cel.at_ 0 _ rfl
        go_wp2_with (first|(go_at_call 79;(with_reducible refine (says10_any _ _).mono ?_);rintro e wq ⟨rfl,hb2⟩;rw [HSB.out];replace B:=B.behind hb2)|(go_at_call 80;(with_reducible refine (in10_75_any SB _ (by have:=SZ10.out;omega)).mono ?_);rintro e wq ⟨rfl,hb2⟩;replace B:=B.behind hb2)|(go_at_call 80;(with_reducible refine (in10_73_any SB _ (by have:=SZ10.out;omega)).mono ?_);rintro e wq ⟨rfl,hb2⟩;replace B:=B.behind hb2)|(go_at_call 80;(with_reducible refine (in10_74_any SB _ (by have:=SZ10.out;omega)).mono ?_);rintro e wq ⟨rfl,hb2⟩;replace B:=B.behind hb2)|(go_at_call 80;(with_reducible refine (in10_78_any SB _ (by have:=SZ10.out;omega)).mono ?_);rintro e wq ⟨rfl,hb2⟩;replace B:=B.behind hb2)|(go_at_call 80;(with_reducible refine (in10_86_any SB _ (by have:=SZ10.out;omega)).mono ?_);rintro e wq ⟨rfl,hb2⟩;replace B:=B.behind hb2)|(go_at_call 80;(with_reducible refine (in10_83_any SB _ (by have:=SZ10.out;omega)).mono ?_);rintro e wq ⟨rfl,hb2⟩;replace B:=B.behind hb2;obtain ⟨y0,y1,y2,y3,y4,y5,y6,y7,y8,y9,y10,y11⟩:=BC.cells12 B.cel;obtain ⟨r0,gr0,r1,gr1,r2,gr2,r3,gr3,r4,gr4,r5,gr5,r6,gr6,r7,gr7,r8,gr8,r9,gr9,r10,gr10,r11,gr11⟩:=BC.both12 B.box.res;have hcl:=B.cel.lt))
        have hfin:((⟨kd,xs, .empty,0,0,0,V.none, .empty⟩:Cm),(S9:RS))=(x,s'):=by rw [←HR.out];simp [fRest,fIf,fB,H75.out,H73.out,H74.out,H78.out,H86.out,H83.out]
        injection hfin with hf1 hf2
        subst hf1 hf2
        rw [←HQ.out]
        exact B.leave (⟨by show (0:Int)≤(kd:Int);omega,by show (kd:Int)<256;omega,(by decide:(-9223372036854775808:Int)≤0),(by decide:(0:Int)≤9223372036854775807),(by decide:(-9223372036854775808:Int)≤0),(by decide:(0:Int)≤9223372036854775807),(by decide:(-9223372036854775808:Int)≤0),(by decide:(0:Int)≤9223372036854775807),(by decide:ByteArray.empty.size≤140737488355328),(by decide:ByteArray.empty.size≤140737488355328)⟩) rfl rfl rfl
end Go.Proofs.YthceefjafklcmaaGreatDoor
