/-
  Contracts of the functions that the law reaches: reader.entry.
-/
import Derived.Test.YthceefjafklcmaaGreatDoorMd17
import Derived.Test.YthceefjafklcmaaGreatDoorMd19
namespace Go.Proofs.YthceefjafklcmaaGreatDoor
open Go.RowKit
theorem ginfoC:(Tryz.prog.info? 97).map (fun i=>(i.zero,i.size,i.bytes))=some (some (.agg #[.int .u8 0, .slice none 0 0, .string { data:= #[] }, .int .i64 0, .int .i64 0, .int .i64 0, .int .u8 0, .int .i64 0, .string { data:= #[] }, .slice none 0 0, .slice none 0 0, .string { data:= #[] }]),12,168):=by kernel_rfl
theorem EB.next {w W W':World} {rb eb:Nat} {r r':List UInt8} {v:V} {l:List Cm} {c:EC} (h:EB w W rb eb r v l c) (s:RStep W W' rb) (hR:Rdr W' rb r' 0):EB w W' rb eb r' v l c:=by
  have hlo:=h.lo;have hlt:=h.lt
  exact ⟨hR,h.st.trans s,h.res.next s (by omega),h.box.next s (by omega),isVal_far h.val s (by omega),isComps_far h.ops s (by omega),hlo,hlt⟩
theorem EB.set1 {w W W':World} {rb eb:Nat} {r:List UInt8} {v:V} {l:List Cm} {c c':EC} (h:EB w W rb eb r v l c) (s:RStep W W' eb) (hbox:BC W' eb (ecells c')) (e1:c'.oa=c.oa) (e2:c'.ol=c.ol) (e3:c'.oc=c.oc) (e4:c'.v=c.v):EB w W' rb eb r v l c':=by
  have hlo:=h.lo;have hlt:=h.lt
  have hst:RStep w W' rb:=⟨s.os.trans h.st.os,s.tape.trans h.st.tape,s.output.trans h.st.output,Nat.le_trans h.st.size s.size,fun k hk hr=>(s.block k (Nat.lt_of_lt_of_le hk h.st.size) (by omega)).trans (h.st.block k hk hr)⟩
  refine ⟨h.rdr.below (s.below (Nat.le_of_lt h.box.lt)) (by omega),hst,h.res.next s (by omega),hbox, ?_, ?_,hlo,hlt⟩
  · rw [e4];exact isVal_far h.val s (by omega)
  · rw [e1,e2,e3];exact isComps_far h.ops s (by omega)
theorem EB.value {w W W' W2:World} {rb eb:Nat} {r r':List UInt8} {v v':V} {l:List Cm} {c c':EC} (h:EB w W rb eb r v l c) (s:RStep W W' rb) (hR:Rdr W' rb r' 0) (hv:IsVal (only (fun b=>W.heap.size≤b) W') W'.heap.size v' c'.v) (s2:RStep W' W2 eb) (hbox:BC W2 eb (ecells c')) (e1:c'.oa=c.oa) (e2:c'.ol=c.ol) (e3:c'.oc=c.oc):EB w W2 rb eb r' v' l c':=by
  have hlo:=h.lo;have hlt:=h.lt
  have hcl:=h.box.lt
  have h1:=h.next s hR
  have hst:RStep w W2 rb:=⟨s2.os.trans h1.st.os,s2.tape.trans h1.st.tape,s2.output.trans h1.st.output,Nat.le_trans h1.st.size s2.size,fun k hk hr=>(s2.block k (Nat.lt_of_lt_of_le hk h1.st.size) (by omega)).trans (h1.st.block k hk hr)⟩
  refine ⟨h1.rdr.below (s2.below (Nat.le_of_lt h1.box.lt)) (by omega),hst,h1.res.next s2 (by omega),hbox, ?_, ?_,hlo,hlt⟩
  · exact isVal_far ((hv.sub (shows_step fun k hk hl=>⟨by omega,rfl⟩))) s2 (by omega)
  · rw [e1,e2,e3];exact isComps_far h1.ops s2 (by omega)
theorem takeU324_lt {n:Nat} {bs r:List UInt8} (h:rdN 4 bs=some (n,r)):n<4294967296:=Nat.lt_of_lt_of_le (rdN_lt h) (by decide)
set_option maxHeartbeats 16000000 in
set_option maxRecDepth 100000 in
theorem rEntry_any (w:World) (rb:Nat) (bs:List UInt8) (h:Rdr w rb bs 0) {out:Option (En×List UInt8)} (hout:rdE bs=out):
    Calls Tryz.prog 42 #[.pointer (some ⟨rb,0,none⟩)] w (REPost w rb out):=by
  obtain ⟨i0,hi0,hz0,hz1,hz2⟩:=info_parts ginfoC
  have hlt:=h.lt
  have HB:=Lib.hid ((Below.refl _ _).alloc (Nat.le_refl _) (.cells #[.int .u8 0, .int .u32 0, .int .u32 0, .int .u8 0, .int .i64 0, .string { data:= #[] }, .slice none 0 0, .slice none 0 0, .slice none 0 0] 31):Below w.heap.size w (w.alloc (.cells #[.int .u8 0, .int .u32 0, .int .u32 0, .int .u8 0, .int .i64 0, .string { data:= #[] }, .slice none 0 0, .slice none 0 0, .slice none 0 0] 31)))
  have HR0:=Lib.hid (h.of_below HB.out)
  have HC0:=Lib.hid (BC.start w #[.int .u8 0, .int .u32 0, .int .u32 0, .int .u8 0, .int .i64 0, .string { data:= #[] }, .slice none 0 0, .slice none 0 0, .slice none 0 0] 31)
  rw [rdE] at hout
  clear h
  cases hr:rdN 1 bs with
  | none=>
    obtain rfl:out=none:=by rw [←hout,hr];rfl
    clear hout
    have HN:=Lib.hid hr
    clear hr
    go_enter Tryz.func42,Tryz.ntmps42
    go_wp2_with (go_at_call 70;(with_reducible refine (takeU81_none _ rb bs 0 HR0.out HN.out).mono ?_);rintro e w1 ⟨rfl,rfl⟩)
    exact ⟨rfl, .of_below rb HB.out,rfl,bs,HR0.out⟩
  |some p=>
  obtain ⟨kd,r⟩:=p
  have hk1:kd<256:=rdN_lt hr
  rw [hr] at hout
  simp only [Option.bind_some] at hout
  have HN:=Lib.hid hr
  clear hr
  have TK:Hid (∀W,W=w.alloc (.cells #[.int .u8 0, .int .u32 0, .int .u32 0, .int .u8 0, .int .i64 0, .string { data:= #[] }, .slice none 0 0, .slice none 0 0, .slice none 0 0] 31)→Calls Tryz.prog 70 #[.pointer (some ⟨rb,0,none⟩), .int .i64 1] W fun e w'=>e= .returned (.int .u8 kd)∧Rdr w' rb r 0∧RStep w w' rb∧BC w' w.heap.size (ecells ezero)∧w.heap.size+1≤w'.heap.size):=by
    intro W hW
    subst hW
    refine (takeU81_some _ rb bs 0 HR0.out HN.out).mono fun e w' ⟨h1,h2,h3⟩=>⟨h1,h2,(RStep.of_below rb HB.out).trans h3,HC0.out.next h3 (by omega),by have:=h3.size;simp at this;omega⟩
  clear HN HR0 HC0
  cases h2:rdN 4 r with
  | none=>
    obtain rfl:out=none:=by rw [←hout,h2];rfl
    have HM:=Lib.hid h2
    clear hout h2
    go_enter Tryz.func42,Tryz.ntmps42
    go_wp2_with (first|(go_at_call 70;(with_reducible refine (TK.out _ rfl).mono ?_);rintro e w1 ⟨rfl,hR,hS,hC,hz⟩;have zs0:w.heap.size<w1.heap.size:=(by omega);have A1:=hC.keep ((Below.refl _ _).alloc (Nat.le_refl _) (.cells #[.int .u8 kd, .int .u32 0, .int .u32 0, .int .u8 0, .int .i64 0, .string { data:= #[] }, .slice none 0 0, .slice none 0 0, .slice none 0 0] 31)) (by omega);have A2:=BC.start w1 #[.int .u8 kd, .int .u32 0, .int .u32 0, .int .u8 0, .int .i64 0, .string { data:= #[] }, .slice none 0 0, .slice none 0 0, .slice none 0 0] 31;have A3:=hR.of_below ((Below.refl _ _).alloc (Nat.le_refl _) (.cells #[.int .u8 kd, .int .u32 0, .int .u32 0, .int .u8 0, .int .i64 0, .string { data:= #[] }, .slice none 0 0, .slice none 0 0, .slice none 0 0] 31));have A4:=hS.trans (.of_below rb ((Below.refl _ _).alloc (Nat.le_refl _) (.cells #[.int .u8 kd, .int .u32 0, .int .u32 0, .int .u8 0, .int .i64 0, .string { data:= #[] }, .slice none 0 0, .slice none 0 0, .slice none 0 0] 31))))|(go_at_call 71;(with_reducible refine (takeU324_none _ rb r 0 A3 HM.out).mono ?_);rintro e w2 ⟨rfl,rfl⟩))
    exact ⟨rfl,A4,rfl,r,A3⟩
  |some ps=>
  obtain ⟨sr,r2⟩:=ps
  have hs1:=takeU324_lt h2
  rw [h2] at hout
  simp only [Option.bind_some] at hout
  have HM:=Lib.hid h2
  clear h2
  cases h3:rdN 4 r2 with
  | none=>
    obtain rfl:out=none:=by rw [←hout,h3];rfl
    have HM3:=Lib.hid h3
    clear hout h3
    go_enter Tryz.func42,Tryz.ntmps42
    go_wp2_with (first|(go_at_call 70;(with_reducible refine (TK.out _ rfl).mono ?_);rintro e w1 ⟨rfl,hR,hS,hC,hz⟩;have zs0:w.heap.size<w1.heap.size:=(by omega);have A1:=hC.keep ((Below.refl _ _).alloc (Nat.le_refl _) (.cells #[.int .u8 kd, .int .u32 0, .int .u32 0, .int .u8 0, .int .i64 0, .string { data:= #[] }, .slice none 0 0, .slice none 0 0, .slice none 0 0] 31)) (by omega);have A2:=BC.start w1 #[.int .u8 kd, .int .u32 0, .int .u32 0, .int .u8 0, .int .i64 0, .string { data:= #[] }, .slice none 0 0, .slice none 0 0, .slice none 0 0] 31;have A3:=hR.of_below ((Below.refl _ _).alloc (Nat.le_refl _) (.cells #[.int .u8 kd, .int .u32 0, .int .u32 0, .int .u8 0, .int .i64 0, .string { data:= #[] }, .slice none 0 0, .slice none 0 0, .slice none 0 0] 31));have A4:=hS.trans (.of_below rb ((Below.refl _ _).alloc (Nat.le_refl _) (.cells #[.int .u8 kd, .int .u32 0, .int .u32 0, .int .u8 0, .int .i64 0, .string { data:= #[] }, .slice none 0 0, .slice none 0 0, .slice none 0 0] 31))))|(go_at_call 71;(with_reducible refine (takeU324_some _ rb r 0 A3 HM.out).mono ?_);rintro e w2 ⟨rfl,hR2,hS2⟩;have C2:=A2.next hS2 (by omega);have y1:=C2.at_ 1 _ rfl;have p1:=C2.fr 1)|(go_at_call 71;(with_reducible refine (takeU324_none _ rb r2 0 (hR2.setNew (by omega)) HM3.out).mono ?_);rintro e w3 ⟨rfl,rfl⟩))
    exact ⟨rfl,(A4.trans hS2).setNew (by omega),rfl,r2,hR2.setNew (by omega)⟩
  |some pq=>
  obtain ⟨sq,r3⟩:=pq
  have hq1:=takeU324_lt h3
  rw [h3] at hout
  simp only [Option.bind_some] at hout
  have HM3:=Lib.hid h3
  have HO:=Lib.hid hout
  clear h3 hout
  have bnd:∀(v:VC) (a:Option Addr) (m c:Nat),(⟨kd,sr,sq,v,a,m,c⟩:EC).Bnd:=fun v a m c=>⟨by show (0:Int)≤(kd:Int);omega,by show (kd:Int)<256;omega,by show (0:Int)≤(sr:Int);omega,by show (sr:Int)<4294967296;omega,by show (0:Int)≤(sq:Int);omega,by show (sq:Int)<4294967296;omega⟩
  by_cases e1:kd=1
  case pos=>
    have f1:((kd:Int)==1)=true:=by subst e1;rfl
    have HOUT:Hid (((rdV 18 r3).bind fun v=>some (⟨kd,sr,sq,v.1, []⟩,v.2))=out):=by have:=HO.out;rw [if_pos e1] at this;exact this
    clear e1 HO
    go_enter Tryz.func42,Tryz.ntmps42
    go_wp2_with (first|(go_at_call 70;(with_reducible refine (TK.out _ rfl).mono ?_);rintro e w1 ⟨rfl,hR,hS,hC,hz⟩;have zs0:w.heap.size<w1.heap.size:=(by omega);have A1:=hC.keep ((Below.refl _ _).alloc (Nat.le_refl _) (.cells #[.int .u8 kd, .int .u32 0, .int .u32 0, .int .u8 0, .int .i64 0, .string { data:= #[] }, .slice none 0 0, .slice none 0 0, .slice none 0 0] 31)) (by omega);have A2:=BC.start w1 #[.int .u8 kd, .int .u32 0, .int .u32 0, .int .u8 0, .int .i64 0, .string { data:= #[] }, .slice none 0 0, .slice none 0 0, .slice none 0 0] 31;have A3:=hR.of_below ((Below.refl _ _).alloc (Nat.le_refl _) (.cells #[.int .u8 kd, .int .u32 0, .int .u32 0, .int .u8 0, .int .i64 0, .string { data:= #[] }, .slice none 0 0, .slice none 0 0, .slice none 0 0] 31));have A4:=hS.trans (.of_below rb ((Below.refl _ _).alloc (Nat.le_refl _) (.cells #[.int .u8 kd, .int .u32 0, .int .u32 0, .int .u8 0, .int .i64 0, .string { data:= #[] }, .slice none 0 0, .slice none 0 0, .slice none 0 0] 31))))|(go_at_call 71;(with_reducible refine (takeU324_some _ rb r 0 A3 HM.out).mono ?_);rintro e w2 ⟨rfl,hR2,hS2⟩;have C2:=A2.next hS2 (by omega);have y1:=C2.at_ 1 _ rfl;have p1:=C2.fr 1;have D2:=A1.next hS2 (by omega))|(go_at_call 71;(with_reducible refine (takeU324_some _ rb r2 0 (hR2.setNew (by omega)) HM3.out).mono ?_);rintro e w3 ⟨rfl,hR3,hS3⟩;have C3:=(C2.set (i:=1) (x:= .int .u32 sr) (by simp)).next hS3 (by omega);have y2:=C3.at_ 2 _ rfl;have p2:=C3.fr 2;have y0:=C3.at_ 0 _ rfl;have hS3':=((A4.trans hS2).setNew (b:=w1.heap.size) (o:=1) (x:= .int .u32 sr) (by omega)).trans hS3;have D3:=(D2.far (b':=w1.heap.size) (o:=1) (x:= .int .u32 sr) (by omega)).next hS3 (by omega);have B:EB w (w3.setCell ⟨w1.heap.size,2,none⟩ (.int .u32 sq)) rb w1.heap.size r3 V.none [] ⟨kd,sr,sq,vzero,none,0,0⟩:=⟨hR3.setNew (by omega),hS3'.setNew (by omega),D3.far (by omega),C3.set (i:=2) (x:= .int .u32 sq) (by simp),isVal_none _ _, .nil _ _,hz,hlt⟩))
    obtain ⟨eb,heb⟩:∃eb,w1.heap.size=eb:=⟨_,rfl⟩
    rw [heb] at B zs0 ⊢
    clear C2 C3 D2 D3 A1 A2 A3 A4 hR hC hz hR2 hR3 y1 y2 p1 p2 TK HM HM3 heb hS3'
    cases s0:rdV 18 r3 with
    | none=>
      obtain rfl:out=none:=by rw [←HOUT.out,s0];rfl
      have HS0:=Lib.hid s0
      clear s0
      go_wp2_with (go_at_call 44;(with_reducible refine (rv18_none _ rb r3 B.rdr HS0.out).mono ?_);rintro e w9 ⟨rfl,hS9,hR9⟩)
      exact ⟨rfl,B.st.trans hS9,rfl,hR9⟩
    | some t0=>
      obtain ⟨v0,q0⟩:=t0
      have HS0:=Lib.hid s0
      clear s0
      rename_i KR aR KC aC
      have HKR:=Lib.hid aR
      clear aR
      go_wp2_with (go_at_call 44;(with_reducible refine (rv18_some _ rb r3 B.rdr HS0.out).mono ?_);rintro e w4 ⟨cv,rfl,hS4,hI4,hR4⟩;have BN:=B.next hS4 hR4;have p3:=BN.box.fr 3;have p4:=BN.box.fr 4;have p5:=BN.box.fr 5;have p6:=BN.box.fr 6;have p7:=BN.box.fr 7;have y3:=BN.box.at_ 3 _ rfl;have y4:=BN.box.at_ 4 _ rfl;have y5:=BN.box.at_ 5 _ rfl;have y6:=BN.box.at_ 6 _ rfl;have y7:=BN.box.at_ 7 _ rfl)
      have B2:EB w (((((w4.setCell ⟨eb,3,none⟩ (.int .u8 cv.k)).setCell ⟨eb,4,none⟩ (.int .i64 cv.n)).setCell ⟨eb,5,none⟩ (.string cv.s)).setCell ⟨eb,6,none⟩ (.slice cv.la cv.ll cv.lc)).setCell ⟨eb,7,none⟩ (.slice cv.oa cv.ol cv.oc)) rb eb q0 v0 [] ⟨kd,sr,sq,cv,none,0,0⟩:=B.value hS4 hR4 hI4 ((((RStep.self.trans RStep.self).trans RStep.self).trans RStep.self).trans RStep.self) (((((BN.box.set (i:=3) (x:= .int .u8 cv.k) (by simp [ecells])).set (i:=4) (x:= .int .i64 cv.n) (by simp [ecells])).set (i:=5) (x:= .string cv.s) (by simp [ecells])).set (i:=6) (x:= .slice cv.la cv.ll cv.lc) (by simp [ecells])).set (i:=7) (x:= .slice cv.oa cv.ol cv.oc) (by simp [ecells])) rfl rfl rfl
      obtain ⟨W2,hW2⟩:∃W2,(((((w4.setCell ⟨eb,3,none⟩ (.int .u8 cv.k)).setCell ⟨eb,4,none⟩ (.int .i64 cv.n)).setCell ⟨eb,5,none⟩ (.string cv.s)).setCell ⟨eb,6,none⟩ (.slice cv.la cv.ll cv.lc)).setCell ⟨eb,7,none⟩ (.slice cv.oa cv.ol cv.oc))=W2:=⟨_,rfl⟩
      rw [hW2] at B2 ⊢
      have hcl:=B2.box.lt
      clear hW2 BN hI4
      have y0:=B2.box.at_ 0 _ rfl
      have y1:=B2.box.at_ 1 _ rfl
      have y2:=B2.box.at_ 2 _ rfl
      have y3:=B2.box.at_ 3 _ rfl
      have y4:=B2.box.at_ 4 _ rfl
      have y5:=B2.box.at_ 5 _ rfl
      have y6:=B2.box.at_ 6 _ rfl
      have y7:=B2.box.at_ 7 _ rfl
      have y8:=B2.box.at_ 8 _ rfl
      have r0:=B2.res.at_ 0 _ rfl
      have gr0:=B2.res.fr 0
      have r1:=B2.res.at_ 1 _ rfl
      have gr1:=B2.res.fr 1
      have r2:=B2.res.at_ 2 _ rfl
      have gr2:=B2.res.fr 2
      have r3:=B2.res.at_ 3 _ rfl
      have gr3:=B2.res.fr 3
      have r4:=B2.res.at_ 4 _ rfl
      have gr4:=B2.res.fr 4
      have r5:=B2.res.at_ 5 _ rfl
      have gr5:=B2.res.fr 5
      have r6:=B2.res.at_ 6 _ rfl
      have gr6:=B2.res.fr 6
      have r7:=B2.res.at_ 7 _ rfl
      have gr7:=B2.res.fr 7
      have r8:=B2.res.at_ 8 _ rfl
      have gr8:=B2.res.fr 8
      refine HKR.out _ _ ?_
      go_wp2_with fail
      obtain rfl:out=some (⟨kd,sr,sq,v0, []⟩,q0):=by rw [←HOUT.out,HS0.out];rfl
      exact B2.leave (bnd _ _ _ _) rfl rfl rfl
  have f1:((kd:Int)==1)=false:=by simp;omega
  by_cases e2:kd=2
  case neg=>
    have f2:((kd:Int)==2)=false:=by simp;omega
    obtain rfl:out=some (⟨kd,sr,sq,V.none, []⟩,r3):=by have:=HO.out;rw [if_neg e1,if_neg e2] at this;exact this.symm
    clear e1 e2 HO
    go_enter Tryz.func42,Tryz.ntmps42
    go_wp2_with (first|(go_at_call 70;(with_reducible refine (TK.out _ rfl).mono ?_);rintro e w1 ⟨rfl,hR,hS,hC,hz⟩;have zs0:w.heap.size<w1.heap.size:=(by omega);have A1:=hC.keep ((Below.refl _ _).alloc (Nat.le_refl _) (.cells #[.int .u8 kd, .int .u32 0, .int .u32 0, .int .u8 0, .int .i64 0, .string { data:= #[] }, .slice none 0 0, .slice none 0 0, .slice none 0 0] 31)) (by omega);have A2:=BC.start w1 #[.int .u8 kd, .int .u32 0, .int .u32 0, .int .u8 0, .int .i64 0, .string { data:= #[] }, .slice none 0 0, .slice none 0 0, .slice none 0 0] 31;have A3:=hR.of_below ((Below.refl _ _).alloc (Nat.le_refl _) (.cells #[.int .u8 kd, .int .u32 0, .int .u32 0, .int .u8 0, .int .i64 0, .string { data:= #[] }, .slice none 0 0, .slice none 0 0, .slice none 0 0] 31));have A4:=hS.trans (.of_below rb ((Below.refl _ _).alloc (Nat.le_refl _) (.cells #[.int .u8 kd, .int .u32 0, .int .u32 0, .int .u8 0, .int .i64 0, .string { data:= #[] }, .slice none 0 0, .slice none 0 0, .slice none 0 0] 31))))|(go_at_call 71;(with_reducible refine (takeU324_some _ rb r 0 A3 HM.out).mono ?_);rintro e w2 ⟨rfl,hR2,hS2⟩;have C2:=A2.next hS2 (by omega);have y1:=C2.at_ 1 _ rfl;have p1:=C2.fr 1;have D2:=A1.next hS2 (by omega))|(go_at_call 71;(with_reducible refine (takeU324_some _ rb r2 0 (hR2.setNew (by omega)) HM3.out).mono ?_);rintro e w3 ⟨rfl,hR3,hS3⟩;have C3:=(C2.set (i:=1) (x:= .int .u32 sr) (by simp)).next hS3 (by omega);have y2:=C3.at_ 2 _ rfl;have p2:=C3.fr 2;have y0:=C3.at_ 0 _ rfl;have hS3':=((A4.trans hS2).setNew (b:=w1.heap.size) (o:=1) (x:= .int .u32 sr) (by omega)).trans hS3;have D3:=(D2.far (b':=w1.heap.size) (o:=1) (x:= .int .u32 sr) (by omega)).next hS3 (by omega);have B:EB w (w3.setCell ⟨w1.heap.size,2,none⟩ (.int .u32 sq)) rb w1.heap.size r3 V.none [] ⟨kd,sr,sq,vzero,none,0,0⟩:=⟨hR3.setNew (by omega),hS3'.setNew (by omega),D3.far (by omega),C3.set (i:=2) (x:= .int .u32 sq) (by simp),isVal_none _ _, .nil _ _,hz,hlt⟩;have y1:=C3.at_ 1 _ rfl;have y3:=C3.at_ 3 _ rfl;have y4:=C3.at_ 4 _ rfl;have y5:=C3.at_ 5 _ rfl;have y6:=C3.at_ 6 _ rfl;have y7:=C3.at_ 7 _ rfl;have y8:=C3.at_ 8 _ rfl;have r0:=D3.at_ 0 _ rfl;have gr0:=D3.fr 0;have r1:=D3.at_ 1 _ rfl;have gr1:=D3.fr 1;have r2:=D3.at_ 2 _ rfl;have gr2:=D3.fr 2;have r3:=D3.at_ 3 _ rfl;have gr3:=D3.fr 3;have r4:=D3.at_ 4 _ rfl;have gr4:=D3.fr 4;have r5:=D3.at_ 5 _ rfl;have gr5:=D3.fr 5;have r6:=D3.at_ 6 _ rfl;have gr6:=D3.fr 6;have r7:=D3.at_ 7 _ rfl;have gr7:=D3.fr 7;have r8:=D3.at_ 8 _ rfl;have gr8:=D3.fr 8;have hcl:=C3.lt))
    exact B.leave (bnd _ _ _ _) rfl rfl rfl
  case pos=>
  have f2:((kd:Int)==2)=true:=by subst e2;rfl
  have HOUT:Hid (((rdM 4 r3).bind fun n=>(rdL rdC n.1 n.2).bind fun l=>some ((⟨kd,sr,sq,V.none,l.1⟩:En),l.2))=out):=by have:=HO.out;rw [if_neg e1,if_pos e2] at this;exact this
  clear e1 e2 HO
  go_enter Tryz.func42,Tryz.ntmps42
  go_wp2_with (first|(go_at_call 70;(with_reducible refine (TK.out _ rfl).mono ?_);rintro e w1 ⟨rfl,hR,hS,hC,hz⟩;have zs0:w.heap.size<w1.heap.size:=(by omega);have A1:=hC.keep ((Below.refl _ _).alloc (Nat.le_refl _) (.cells #[.int .u8 kd, .int .u32 0, .int .u32 0, .int .u8 0, .int .i64 0, .string { data:= #[] }, .slice none 0 0, .slice none 0 0, .slice none 0 0] 31)) (by omega);have A2:=BC.start w1 #[.int .u8 kd, .int .u32 0, .int .u32 0, .int .u8 0, .int .i64 0, .string { data:= #[] }, .slice none 0 0, .slice none 0 0, .slice none 0 0] 31;have A3:=hR.of_below ((Below.refl _ _).alloc (Nat.le_refl _) (.cells #[.int .u8 kd, .int .u32 0, .int .u32 0, .int .u8 0, .int .i64 0, .string { data:= #[] }, .slice none 0 0, .slice none 0 0, .slice none 0 0] 31));have A4:=hS.trans (.of_below rb ((Below.refl _ _).alloc (Nat.le_refl _) (.cells #[.int .u8 kd, .int .u32 0, .int .u32 0, .int .u8 0, .int .i64 0, .string { data:= #[] }, .slice none 0 0, .slice none 0 0, .slice none 0 0] 31))))|(go_at_call 71;(with_reducible refine (takeU324_some _ rb r 0 A3 HM.out).mono ?_);rintro e w2 ⟨rfl,hR2,hS2⟩;have C2:=A2.next hS2 (by omega);have y1:=C2.at_ 1 _ rfl;have p1:=C2.fr 1;have D2:=A1.next hS2 (by omega))|(go_at_call 71;(with_reducible refine (takeU324_some _ rb r2 0 (hR2.setNew (by omega)) HM3.out).mono ?_);rintro e w3 ⟨rfl,hR3,hS3⟩;have C3:=(C2.set (i:=1) (x:= .int .u32 sr) (by simp)).next hS3 (by omega);have y2:=C3.at_ 2 _ rfl;have p2:=C3.fr 2;have y0:=C3.at_ 0 _ rfl;have hS3':=((A4.trans hS2).setNew (b:=w1.heap.size) (o:=1) (x:= .int .u32 sr) (by omega)).trans hS3;have D3:=(D2.far (b':=w1.heap.size) (o:=1) (x:= .int .u32 sr) (by omega)).next hS3 (by omega);have B:EB w (w3.setCell ⟨w1.heap.size,2,none⟩ (.int .u32 sq)) rb w1.heap.size r3 V.none [] ⟨kd,sr,sq,vzero,none,0,0⟩:=⟨hR3.setNew (by omega),hS3'.setNew (by omega),D3.far (by omega),C3.set (i:=2) (x:= .int .u32 sq) (by simp),isVal_none _ _, .nil _ _,hz,hlt⟩))
  obtain ⟨eb,heb⟩:∃eb,w1.heap.size=eb:=⟨_,rfl⟩
  rw [heb] at B zs0 ⊢
  clear C2 C3 D2 D3 A1 A2 A3 A4 hR hC hz hR2 hR3 y1 y2 p1 p2 TK HM HM3 heb hS3'
  cases hm:rdM 4 r3 with
  | none=>
    obtain rfl:out=none:=by rw [←HOUT.out,hm];rfl
    have HM4:=Lib.hid hm
    clear hm
    go_wp2_with (go_at_call 72;(with_reducible refine (many4_none _ rb r3 0 B.rdr HM4.out).mono ?_);rintro e w9 ⟨rfl,hS9,hR9⟩)
    exact ⟨rfl,B.st.trans hS9,rfl,hR9⟩
  |some pn=>
  obtain ⟨n,q⟩:=pn
  have hn4:=takeU324_lt (rdM_some hm).1
  have HOL:Hid (((rdL (fun x=>rdC x) n q).bind fun l=>some ((⟨kd,sr,sq,V.none,l.1⟩:En),l.2))=out):=by have:=HOUT.out;rw [hm] at this;exact this
  have HM4:=Lib.hid hm
  clear hm HOUT
  go_wp2_with (go_at_call 72;(with_reducible refine (many4_some _ rb r3 0 B.rdr HM4.out).mono ?_);rintro e w4 ⟨rfl,hR4,hS4⟩)
  have BN:=B.next hS4 hR4
  have LE0:LE w w4 rb eb kd sr sq q 0 none 0 0 [] [] q:=⟨rfl,rfl,rfl,hR4,BN.st,BN.res,BN.box,Row.nil _ _ _ _ _,BN.lo,hlt⟩
  clear BN B hR4 HM4 y0
  go_loopw [24] (fun i wr=>∃(j:Nat) (a:Option Addr) (m c:Nat) (xs:List Cm) (cs:List CC) (rj:List UInt8),j≤n∧i= .int .i64 j∧LE w wr rb eb kd sr sq q j a m c xs cs rj) (fun i _=>n - (intOf i).toNat)
  case atStart=>exact ⟨0,none,0,0, [], [],q,Nat.zero_le _,rfl,LE0⟩
  case round=>
    clear LE0
    obtain ⟨j,a,m,c,xs,cs,rj,hj,rfl,L⟩:=hrel
    have y8:=L.box.at_ 8 _ rfl
    have p8:=L.box.fr 8
    have hvlt:=L.box.lt
    have hlo:=L.lo
    by_cases hlt2:j<n
    · have HO2:Hid (∀W,RStep wr.drew W rb→W.ownsRow (eb+1) 97 12 (.slice a m c) j (cs.flatMap ccells)∧W.cell? ⟨eb,8,none⟩=some (.slice a m c)∧W.frozen? ⟨eb,8,none⟩=false∧eb<W.heap.size):=by
        intro W hW
        have ho:=((L.row.later (PC.closed xs cs) (.of_below rb (drew_below wr)) (by omega)).later (PC.closed xs cs) hW (by omega)).own
        rw [L.len] at ho
        exact ⟨ho,hW.cell (w:=wr.drew) y8 (by omega),(hW.frozen (w:=wr.drew) hvlt (by omega)).trans p8,Nat.lt_of_lt_of_le hvlt hW.size⟩
      have hne:(Value.slice a m c).ownBlock≠some eb:=fun e=>by have:=(L.row.lt _ e).1;omega
      have HC:Hid (Calls Tryz.prog 73 #[.pointer (some ⟨rb,0,none⟩)] wr.drew (RCPost wr.drew rb 0 (rdC rj))):=rComp_any wr.drew rb rj (L.rdr.of_below (drew_below wr)) rfl
      cases hx:rdC rj with
      | none=>
        obtain rfl:out=none:=by
          rw [←HOL.out,rdL_none (f:=fun x=>rdC x) (i:=j+1) (n:=n) (by rw [rdL,L.rd];simp only [Option.bind_some,hx];rfl) (by omega)];rfl
        rw [hx] at HC
        have LL:=Lib.hid L
        clear hx L
        go_wp2_with fail
        refine wp_region_panicP [] (fun w'=>RStep wr.drew w' rb∧∃bs',Rdr w' rb bs' 0) (fun a w' hD hw=> ?_) ?_
        · obtain ⟨hS4,bs4,hR4⟩:=hw
          exact ⟨hD,(LL.out.st.trans (.of_below rb (drew_below wr))).trans hS4,rfl,bs4,hR4⟩
        go_region_law
          (first
            |(go_simp;go_at_call 73;refine (HC.out).mono ?_;intro e w4 hP;by_cases hv:e= .returned (.agg #[.int .u8 0, .slice none 0 0, .string { data:= #[] }, .int .i64 0, .int .i64 0, .int .i64 0, .int .u8 0, .int .i64 0, .string { data:= #[] }, .slice none 0 0, .slice none 0 0, .string { data:= #[] }]);rotate_left;(focus (obtain ⟨hS4,he,hR4⟩:=hP;subst he;exact ⟨rfl,rfl,hS4,hR4⟩));obtain ⟨hS4,he,hR4⟩:=hP;rw [hv] at he;have HF:=Lib.hid he;clear he;subst hv;obtain ⟨ho4,hc4,hf4,hv4⟩:=HO2.out w4 hS4)
            |(refine step_append_lies _ (by rfl) _ _ _ (by rfl) (eb+1) 97 i0 _ 12 168 (by kernel_rfl) hi0 hz0 hz1 hz2 rfl (by omega) (.slice a m c) j (cs.flatMap ccells) (by rfl) (ho4.alloc _) ⟨w4.heap.size,0,none⟩ 1 1 (ccells czero) (by rfl) (by rfl) (World.news_of_block (t:=97) (fr:=(0,0)) (heap_alloc_new w4 _)) (by simp [ccells,Value.oneCell']) (by omega) (by unfold maxLen;omega) (by omega) (by simp;omega) (w4.heap.size+1) (by simp) ?_;intro g cap w5 hown5 hgrow5 hat5 hlt5;have hc5:w5.cell? ⟨eb,8,none⟩=some (.slice a m c):=(hgrow5.cell_far ⟨eb,8,none⟩ (by simp;omega) (Ne.symm hne)).trans (keep_cell ((Below.refl _ _).alloc (Nat.le_refl _) _) hc4 hv4);have hf5:w5.frozen? ⟨eb,8,none⟩=false:=(hgrow5.frozen_far ⟨eb,8,none⟩ (by simp;omega) (Ne.symm hne)).trans ((((Below.refl _ _).alloc (Nat.le_refl _) _:Below w4.heap.size w4 (w4.alloc _)).frozen (p:=⟨eb,8,none⟩) hv4).trans hf4)))
        all_goals cases HF.out
      |some xr=>
      obtain ⟨x,q3⟩:=xr
      have HX:=Lib.hid hx
      have LL:=Lib.hid L
      rw [hx] at HC
      clear hx L
      go_wp2_with fail
      refine wp_region_noPanic ?_
      go_region_law
        (first
          |(go_simp;go_at_call 73;refine (HC.out).mono ?_;rintro e w4 ⟨hS4,⟨cx,rfl,hI4⟩,hR4⟩;have HI4:=Lib.hid hI4;clear hI4;obtain ⟨ho4,hc4,hf4,hv4⟩:=HO2.out w4 hS4)
          |(refine step_append_lies _ (by rfl) _ _ _ (by rfl) (eb+1) 97 i0 _ 12 168 (by kernel_rfl) hi0 hz0 hz1 hz2 rfl (by omega) (.slice a m c) j (cs.flatMap ccells) (by rfl) (ho4.alloc _) ⟨w4.heap.size,0,none⟩ 1 1 (ccells cx) (by rfl) (by rfl) (World.news_of_block (t:=97) (fr:=(0,0)) (heap_alloc_new w4 _)) (by simp [ccells,Value.oneCell']) (by omega) (by unfold maxLen;omega) (by omega) (by simp;omega) (w4.heap.size+1) (by simp) ?_;intro g cap w5 hown5 hgrow5 hat5 hlt5;have hc5:w5.cell? ⟨eb,8,none⟩=some (.slice a m c):=(hgrow5.cell_far ⟨eb,8,none⟩ (by simp;omega) (Ne.symm hne)).trans (keep_cell ((Below.refl _ _).alloc (Nat.le_refl _) _) hc4 hv4);have hf5:w5.frozen? ⟨eb,8,none⟩=false:=(hgrow5.frozen_far ⟨eb,8,none⟩ (by simp;omega) (Ne.symm hne)).trans ((((Below.refl _ _).alloc (Nat.le_refl _) _:Below w4.heap.size w4 (w4.alloc _)).frozen (p:=⟨eb,8,none⟩) hv4).trans hf4)))
      all_goals
        refine NoPanic.normal ?_
        go_wp2_with fail
        go_roundw
        case rel=>exact ⟨j+1,some ⟨g,0,none⟩,j+1,cap,xs++ [x],cs++ [cx],q3,by omega,by go_num,LL.out.round HX.out hS4 HI4.out hR4 hown5 hgrow5 hat5⟩
        case measure=>simp [intOf];omega
    · have hjn:j=n:=by omega
      subst hjn
      obtain rfl:out=some (⟨kd,sr,sq,V.none,xs⟩,rj):=by rw [←HOL.out,L.rd];rfl
      have B:=LE.eb L (by omega)
      clear L HOL y8 p8
      have y0:=B.box.at_ 0 _ rfl
      have y1:=B.box.at_ 1 _ rfl
      have y2:=B.box.at_ 2 _ rfl
      have y3:=B.box.at_ 3 _ rfl
      have y4:=B.box.at_ 4 _ rfl
      have y5:=B.box.at_ 5 _ rfl
      have y6:=B.box.at_ 6 _ rfl
      have y7:=B.box.at_ 7 _ rfl
      have y8:=B.box.at_ 8 _ rfl
      have r0:=B.res.at_ 0 _ rfl
      have gr0:=B.res.fr 0
      have r1:=B.res.at_ 1 _ rfl
      have gr1:=B.res.fr 1
      have r2:=B.res.at_ 2 _ rfl
      have gr2:=B.res.fr 2
      have r3:=B.res.at_ 3 _ rfl
      have gr3:=B.res.fr 3
      have r4:=B.res.at_ 4 _ rfl
      have gr4:=B.res.fr 4
      have r5:=B.res.at_ 5 _ rfl
      have gr5:=B.res.fr 5
      have r6:=B.res.at_ 6 _ rfl
      have gr6:=B.res.fr 6
      have r7:=B.res.at_ 7 _ rfl
      have gr7:=B.res.fr 7
      have r8:=B.res.at_ 8 _ rfl
      have gr8:=B.res.fr 8
      go_wp2_with fail
      exact B.leave (bnd _ _ _ _) rfl rfl rfl
end Go.Proofs.YthceefjafklcmaaGreatDoor
