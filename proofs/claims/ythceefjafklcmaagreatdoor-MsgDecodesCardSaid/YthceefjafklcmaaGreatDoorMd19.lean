/-
  Contracts of the functions that the law reaches: reader.comp.
-/
import Derived.Test.YthceefjafklcmaaGreatDoorMd15
import Derived.Test.YthceefjafklcmaaGreatDoorMd18
import Derived.Test.YthceefjafklcmaaGreatDoorMd7
namespace Go.Proofs.YthceefjafklcmaaGreatDoor
open Go.RowKit
def rdRest (k:Int) (path:List St) (bs:List UInt8):Option (Cm×List UInt8):=
  (rdIf (hasB (saysB k) 75) .empty rdT bs).bind fun kk=>(rdIf (hasB (saysB k) 73) 0 rdI kk.2).bind fun i=>(rdIf (hasB (saysB k) 74) 0 rdI i.2).bind fun j=>
  (rdIf (hasB (saysB k) 78) 0 rdI j.2).bind fun m=>(rdIf (hasB (saysB k) 86) V.none (rdV 18) m.2).bind fun v=>(rdIf (hasB (saysB k) 83) .empty rdT v.2).bind fun s=>
  some (⟨k,path,kk.1,i.1,j.1,m.1,v.1,s.1⟩,s.2)
theorem rdC_eq (bs:List UInt8):rdC bs=(rdN 1 bs).bind fun p=>(rdM 1 p.2).bind fun n=>(rdL (fun x=>rdS x) n.1 n.2).bind fun q=>rdRest p.1 q.1 q.2:=rfl
theorem rdI_none {bs:List UInt8} (h:rdN 8 bs=none):rdI bs=none:=by rw [rdI,h];rfl
theorem rdI_some {bs r:List UInt8} {n:Nat} (h:rdN 8 bs=some (n,r)):rdI bs=some (wrap64 n,r):=by rw [rdI,h];rfl
theorem ginfoS:(Tryz.prog.info? 129).map (fun i=>(i.zero,i.size,i.bytes))=some (some (.agg #[.bool false, .int .i64 0, .string { data:= #[] }]),3,32):=by kernel_rfl
theorem rdRest_1 {k:Int} (hk:k=1) (p:List St) (bs:List UInt8):rdRest k p bs=(rdI bs).bind fun zn=>some (⟨k,p, .empty,0,0,zn.1,V.none, .empty⟩,zn.2):=by
  subst hk
  simp [rdRest,rdIf,saysB,hasB]
theorem rdRest_2 {k:Int} (hk:k=2) (p:List St) (bs:List UInt8):rdRest k p bs=(rdT bs).bind fun zk=>(rdV 18 zk.2).bind fun zv=>some (⟨k,p,zk.1,0,0,0,zv.1, .empty⟩,zv.2):=by
  subst hk
  simp [rdRest,rdIf,saysB,hasB]
theorem rdRest_3 {k:Int} (hk:k=3) (p:List St) (bs:List UInt8):rdRest k p bs=(rdT bs).bind fun zk=>some (⟨k,p,zk.1,0,0,0,V.none, .empty⟩,zk.2):=by
  subst hk
  simp [rdRest,rdIf,saysB,hasB]
theorem rdRest_4 {k:Int} (hk:k=4) (p:List St) (bs:List UInt8):rdRest k p bs=(rdI bs).bind fun zi=>(rdV 18 zi.2).bind fun zv=>some (⟨k,p, .empty,zi.1,0,0,zv.1, .empty⟩,zv.2):=by
  subst hk
  simp [rdRest,rdIf,saysB,hasB]
theorem rdRest_5 {k:Int} (hk:k=5) (p:List St) (bs:List UInt8):rdRest k p bs=(rdI bs).bind fun zi=>some (⟨k,p, .empty,zi.1,0,0,V.none, .empty⟩,zi.2):=by
  subst hk
  simp [rdRest,rdIf,saysB,hasB]
theorem rdRest_6 {k:Int} (hk:k=6) (p:List St) (bs:List UInt8):rdRest k p bs=(rdI bs).bind fun zi=>(rdV 18 zi.2).bind fun zv=>some (⟨k,p, .empty,zi.1,0,0,zv.1, .empty⟩,zv.2):=by
  subst hk
  simp [rdRest,rdIf,saysB,hasB]
theorem rdRest_7 {k:Int} (hk:k=7) (p:List St) (bs:List UInt8):rdRest k p bs=(rdI bs).bind fun zi=>(rdI zi.2).bind fun zj=>some (⟨k,p, .empty,zi.1,zj.1,0,V.none, .empty⟩,zj.2):=by
  subst hk
  simp [rdRest,rdIf,saysB,hasB]
theorem rdRest_8 {k:Int} (hk:k=8) (p:List St) (bs:List UInt8):rdRest k p bs=(rdI bs).bind fun zi=>(rdT zi.2).bind fun zs=>some (⟨k,p, .empty,zi.1,0,0,V.none,zs.1⟩,zs.2):=by
  subst hk
  simp [rdRest,rdIf,saysB,hasB]
theorem rdRest_9 {k:Int} (hk:k=9) (p:List St) (bs:List UInt8):rdRest k p bs=(rdI bs).bind fun zi=>(rdI zi.2).bind fun zn=>some (⟨k,p, .empty,zi.1,0,zn.1,V.none, .empty⟩,zn.2):=by
  subst hk
  simp [rdRest,rdIf,saysB,hasB]
theorem rdRest_0 {k:Int} (e1:k≠1) (e2:k≠2) (e3:k≠3) (e4:k≠4) (e5:k≠5) (e6:k≠6) (e7:k≠7) (e8:k≠8) (e9:k≠9) (p:List St) (bs:List UInt8):rdRest k p bs=some (⟨k,p, .empty,0,0,0,V.none, .empty⟩,bs):=by
  simp [rdRest,rdIf,saysB,hasB,e1,e2,e3,e4,e5,e6,e7,e8,e9]
theorem rv18_none (w:World) (rb:Nat) (bs:List UInt8) (h:Rdr w rb bs 0) (hr:rdV 18 bs=none):
    Calls Tryz.prog 44 #[.pointer (some ⟨rb,0,none⟩)] w fun e w'=>e= .panicked [short] ∧RStep w w' rb∧∃bs',Rdr w' rb bs' 0:=by
  have:=rValue_any 18 w rb bs 0 h (by omega) (by omega)
  rw [hr] at this
  exact this.mono fun e w' ⟨h1,h2,h3⟩=>⟨h2,h1,h3⟩
theorem rv18_some (w:World) (rb:Nat) (bs:List UInt8) (h:Rdr w rb bs 0) {x:V} {r:List UInt8} (hr:rdV 18 bs=some (x,r)):
    Calls Tryz.prog 44 #[.pointer (some ⟨rb,0,none⟩)] w fun e w'=>∃c:VC,e= .returned (.agg #[.int .u8 c.k, .int .i64 c.n, .string c.s, .slice c.la c.ll c.lc, .slice c.oa c.ol c.oc])∧RStep w w' rb∧IsVal (only (fun b=>w.heap.size≤b) w') w'.heap.size x c∧Rdr w' rb r 0:=by
  have:=rValue_any 18 w rb bs 0 h (by omega) (by omega)
  rw [hr] at this
  exact this.mono fun e w' h=>RV_some h
set_option maxHeartbeats 16000000 in
set_option maxRecDepth 100000 in
theorem rComp_any (w:World) (rb:Nat) (bs:List UInt8) (h:Rdr w rb bs 0) {out:Option (Cm×List UInt8)} (hout:rdC bs=out):
    Calls Tryz.prog 73 #[.pointer (some ⟨rb,0,none⟩)] w (RCPost w rb 0 out):=by
  obtain ⟨i0,hi0,hz0,hz1,hz2⟩:=info_parts ginfoS
  have hlt:=h.lt
  have HB:=Lib.hid ((Below.refl _ _).alloc (Nat.le_refl _) (.cells #[.int .u8 0, .slice none 0 0, .string { data:= #[] }, .int .i64 0, .int .i64 0, .int .i64 0, .int .u8 0, .int .i64 0, .string { data:= #[] }, .slice none 0 0, .slice none 0 0, .string { data:= #[] }] 97):Below w.heap.size w (w.alloc (.cells #[.int .u8 0, .slice none 0 0, .string { data:= #[] }, .int .i64 0, .int .i64 0, .int .i64 0, .int .u8 0, .int .i64 0, .string { data:= #[] }, .slice none 0 0, .slice none 0 0, .string { data:= #[] }] 97)))
  have HR0:=Lib.hid (h.of_below HB.out)
  have HC0:=Lib.hid (BC.start w #[.int .u8 0, .slice none 0 0, .string { data:= #[] }, .int .i64 0, .int .i64 0, .int .i64 0, .int .u8 0, .int .i64 0, .string { data:= #[] }, .slice none 0 0, .slice none 0 0, .string { data:= #[] }] 97)
  rw [rdC_eq] at hout
  clear h
  cases hr:rdN 1 bs with
  | none=>
    obtain rfl:out=none:=by rw [←hout,hr];rfl
    clear hout
    have HN:=Lib.hid hr
    clear hr
    go_enter Tryz.func73,Tryz.ntmps73
    go_wp2_with (go_at_call 70;(with_reducible refine (takeU81_none _ rb bs 0 HR0.out HN.out).mono ?_);rintro e w1 ⟨rfl,rfl⟩)
    exact ⟨rfl, .of_below rb HB.out,rfl,bs,HR0.out⟩
  |some p=>
  obtain ⟨kd,r⟩:=p
  have hk1:kd<256:=rdN_lt hr
  rw [hr] at hout
  simp only [Option.bind_some] at hout
  have HN:=Lib.hid hr
  clear hr
  have TK:Hid (∀W,W=w.alloc (.cells #[.int .u8 0, .slice none 0 0, .string { data:= #[] }, .int .i64 0, .int .i64 0, .int .i64 0, .int .u8 0, .int .i64 0, .string { data:= #[] }, .slice none 0 0, .slice none 0 0, .string { data:= #[] }] 97)→Calls Tryz.prog 70 #[.pointer (some ⟨rb,0,none⟩), .int .i64 1] W fun e w'=>e= .returned (.int .u8 kd)∧Rdr w' rb r 0∧RStep w w' rb∧BC w' w.heap.size (ccells czero)∧w.heap.size+1≤w'.heap.size):=by
    intro W hW
    subst hW
    refine (takeU81_some _ rb bs 0 HR0.out HN.out).mono fun e w' ⟨h1,h2,h3⟩=>⟨h1,h2,(RStep.of_below rb HB.out).trans h3,HC0.out.next h3 (by omega),by have:=h3.size;simp at this;omega⟩
  clear HN HR0 HC0
  cases hm:rdM 1 r with
  | none=>
    obtain rfl:out=none:=by rw [←hout,hm];rfl
    have HM:=Lib.hid hm
    clear hout hm
    go_enter Tryz.func73,Tryz.ntmps73
    go_wp2_with (first|(go_at_call 70;(with_reducible refine (TK.out _ rfl).mono ?_);rintro e w1 ⟨rfl,hR,hS,hC,hz⟩)|(go_at_call 72;(with_reducible refine (many1_none _ rb r 0 (hR.of_below ((Below.refl _ _).alloc (Nat.le_refl _) _)) HM.out).mono ?_);rintro e w2 ⟨rfl,hS2,hR2⟩))
    exact ⟨rfl,(hS.trans (.of_below rb ((Below.refl _ _).alloc (Nat.le_refl _) _))).trans hS2,rfl,hR2⟩
  |some pn=>
  obtain ⟨n,q⟩:=pn
  rw [hm] at hout
  simp only [Option.bind_some] at hout
  have hn4:n<256:=rdN_lt (rdM_some hm).1
  have HM:=Lib.hid hm
  have HO:=Lib.hid hout
  clear hm hout
  go_enter Tryz.func73,Tryz.ntmps73
  go_wp2_with (first|(go_at_call 70;(with_reducible refine (TK.out _ rfl).mono ?_);rintro e w1 ⟨rfl,hR,hS,hC,hz⟩)|(go_at_call 72;(with_reducible refine (many1_some _ rb r 0 (hR.of_below ((Below.refl _ _).alloc (Nat.le_refl _) _)) HM.out).mono ?_);rintro e w2 ⟨rfl,hR2,hS2⟩))
  have LS0:LS w w2 rb w1.heap.size 0 kd q 0 none 0 0 [] q:=⟨rfl,rfl,(fun _ hs=>absurd hs (by simp)),hR2,(hS.trans (.of_below rb ((Below.refl _ _).alloc (Nat.le_refl _) _))).trans hS2,(hC.keep ((Below.refl _ _).alloc (Nat.le_refl _) _) (by omega)).next hS2 (by omega),(BC.start w1 #[.int .u8 kd, .slice none 0 0, .string { data:= #[] }, .int .i64 0, .int .i64 0, .int .i64 0, .int .u8 0, .int .i64 0, .string { data:= #[] }, .slice none 0 0, .slice none 0 0, .string { data:= #[] }] 97).next hS2 (by omega),Row.nil _ _ _ _ _,hz,hlt⟩
  obtain ⟨cb,hcb⟩:∃cb,w1.heap.size=cb:=⟨_,rfl⟩
  rw [hcb] at LS0 hz ⊢
  clear hR hC hR2 hcb TK HM HB
  have zs0:w.heap.size<cb:=by omega
  go_loopw [9] (fun i wr=>∃(j:Nat) (a:Option Addr) (m c:Nat) (xs:List St) (rj:List UInt8),j≤n∧i= .int .i64 j∧LS w wr rb cb 0 kd q j a m c xs rj) (fun i _=>n - (intOf i).toNat)
  case atStart=>exact ⟨0,none,0,0, [],q,Nat.zero_le _,rfl,LS0⟩
  case round=>
    clear LS0
    obtain ⟨j,a,m,c,xs,rj,hj,rfl,L⟩:=hrel
    have y1:=L.box.at_ 1 _ rfl
    have p1:=L.box.fr 1
    have hvlt:=L.box.lt
    by_cases hlt2:j<n
    · have HO2:Hid (∀W,RStep wr.drew W rb→W.ownsRow (cb+1) 129 3 (.slice a m c) j (xs.flatMap scells)∧W.cell? ⟨cb,1,none⟩=some (.slice a m c)∧W.frozen? ⟨cb,1,none⟩=false∧cb<W.heap.size):=by
        intro W hW
        have ho:=((L.row.later PT.closed (.of_below rb (drew_below wr)) (by omega)).later PT.closed hW (by omega)).own
        rw [L.len] at ho
        exact ⟨ho,hW.cell (w:=wr.drew) y1 (by omega),(hW.frozen (w:=wr.drew) hvlt (by omega)).trans p1,Nat.lt_of_lt_of_le hvlt hW.size⟩
      have hne:(Value.slice a m c).ownBlock≠some cb:=fun e=>by have:=(L.row.lt _ e).1;omega
      have HC:Hid (Calls Tryz.prog 104 #[.pointer (some ⟨rb,0,none⟩)] wr.drew (RSPost wr.drew rb 0 (rdS rj))):=rStep_any wr.drew rb rj 0 (L.rdr.of_below (drew_below wr))
      cases hx:rdS rj with
      | none=>
        obtain rfl:out=none:=by
          rw [←HO.out,rdL_none (f:=fun x=>rdS x) (i:=j+1) (n:=n) (by rw [rdL,L.rd];simp only [Option.bind_some,hx];rfl) (by omega)];rfl
        rw [hx] at HC
        have LL:=Lib.hid L
        clear hx L
        go_wp2_with fail
        refine wp_region_panicP [] (fun w'=>RStep wr.drew w' rb∧∃bs',Rdr w' rb bs' 0) (fun a w' hD hw=> ?_) ?_
        · obtain ⟨hS4,bs4,hR4⟩:=hw
          exact ⟨hD,(LL.out.st.trans (.of_below rb (drew_below wr))).trans hS4,rfl,bs4,hR4⟩
        go_region_law
          (first
            |(go_simp;go_at_call 104;refine (HC.out).mono ?_;intro e w4 hP;by_cases hv:e= .returned (.agg #[.bool false, .int .i64 0, .string { data:= #[] }]);rotate_left;(focus (obtain ⟨hS4,he,hR4⟩:=hP;subst he;exact ⟨rfl,rfl,hS4,hR4⟩));obtain ⟨hS4,he,hR4⟩:=hP;rw [hv] at he;have HF:=Lib.hid he;clear he;subst hv;obtain ⟨ho4,hc4,hf4,hv4⟩:=HO2.out w4 hS4)
            |(refine step_append_lies _ (by rfl) _ _ _ (by rfl) (cb+1) 129 i0 _ 3 32 (by kernel_rfl) hi0 hz0 hz1 hz2 rfl (by omega) (.slice a m c) j (xs.flatMap scells) (by rfl) (ho4.alloc _) ⟨w4.heap.size,0,none⟩ 1 1 (scells ⟨false,0, .empty⟩) (by rfl) (by rfl) (World.news_of_block (t:=129) (fr:=(0,0)) (heap_alloc_new w4 _)) (by simp [scells,Value.oneCell']) (by omega) (by unfold maxLen;omega) (by omega) (by simp;omega) (w4.heap.size+1) (by simp) ?_;intro g cap w5 hown5 hgrow5 hat5 hlt5;have hc5:w5.cell? ⟨cb,1,none⟩=some (.slice a m c):=(hgrow5.cell_far ⟨cb,1,none⟩ (by simp;omega) (Ne.symm hne)).trans (keep_cell ((Below.refl _ _).alloc (Nat.le_refl _) _) hc4 hv4);have hf5:w5.frozen? ⟨cb,1,none⟩=false:=(hgrow5.frozen_far ⟨cb,1,none⟩ (by simp;omega) (Ne.symm hne)).trans ((((Below.refl _ _).alloc (Nat.le_refl _) _:Below w4.heap.size w4 (w4.alloc _)).frozen (p:=⟨cb,1,none⟩) hv4).trans hf4)))
        all_goals cases HF.out
      |some xr=>
      obtain ⟨x,r3⟩:=xr
      have HX:=Lib.hid hx
      have LL:=Lib.hid L
      rw [hx] at HC
      clear hx L
      go_wp2_with fail
      refine wp_region_noPanic ?_
      go_region_law
        (first
          |(go_simp;go_at_call 104;refine (HC.out).mono ?_;rintro e w4 ⟨hS4,rfl,hR4⟩;obtain ⟨ho4,hc4,hf4,hv4⟩:=HO2.out w4 hS4)
          |(refine step_append_lies _ (by rfl) _ _ _ (by rfl) (cb+1) 129 i0 _ 3 32 (by kernel_rfl) hi0 hz0 hz1 hz2 rfl (by omega) (.slice a m c) j (xs.flatMap scells) (by rfl) (ho4.alloc _) ⟨w4.heap.size,0,none⟩ 1 1 (scells x) (by rfl) (by rfl) (World.news_of_block (t:=129) (fr:=(0,0)) (heap_alloc_new w4 _)) (by simp [scells,Value.oneCell']) (by omega) (by unfold maxLen;omega) (by omega) (by simp;omega) (w4.heap.size+1) (by simp) ?_;intro g cap w5 hown5 hgrow5 hat5 hlt5;have hc5:w5.cell? ⟨cb,1,none⟩=some (.slice a m c):=(hgrow5.cell_far ⟨cb,1,none⟩ (by simp;omega) (Ne.symm hne)).trans (keep_cell ((Below.refl _ _).alloc (Nat.le_refl _) _) hc4 hv4);have hf5:w5.frozen? ⟨cb,1,none⟩=false:=(hgrow5.frozen_far ⟨cb,1,none⟩ (by simp;omega) (Ne.symm hne)).trans ((((Below.refl _ _).alloc (Nat.le_refl _) _:Below w4.heap.size w4 (w4.alloc _)).frozen (p:=⟨cb,1,none⟩) hv4).trans hf4)))
      all_goals
        refine NoPanic.normal ?_
        go_wp2_with fail
        go_roundw
        case rel=>exact ⟨j+1,some ⟨g,0,none⟩,j+1,cap,xs++ [x],r3,by omega,by go_num,LL.out.round HX.out hS4 hR4 hown5 hgrow5 hat5⟩
        case measure=>simp [intOf];omega
    · have hjn:j=n:=by omega
      subst hjn
      have HO3:Hid (rdRest kd xs rj=out):=by unfold Hid;rw [←HO.out,L.rd];rfl
      have B:=CB.start L (by omega)
      clear L HO y1 p1
      by_cases e1:kd=1
      case pos=>
        have HE:=Lib.hid (rdRest_1 (k:=kd) (by omega) xs rj)
        have f1:((kd:Int)==1)=true:=by subst e1;rfl
        have f2:((kd:Int)==2)=false:=by subst e1;rfl
        have f3:((kd:Int)==3)=false:=by subst e1;rfl
        have f4:((kd:Int)==4)=false:=by subst e1;rfl
        have f5:((kd:Int)==5)=false:=by subst e1;rfl
        have f6:((kd:Int)==6)=false:=by subst e1;rfl
        have f7:((kd:Int)==7)=false:=by subst e1;rfl
        have f8:((kd:Int)==8)=false:=by subst e1;rfl
        have f9:((kd:Int)==9)=false:=by subst e1;rfl
        clear e1
        have y0:=B.box.at_ 0 _ rfl
        cases s0:rdN 8 rj with
        | none=>
          obtain rfl:out=none:=by rw [←HO3.out,HE.out];simp only [rdI_none s0];rfl
          have HS0:=Lib.hid s0
          clear s0
          go_wp2_with (go_at_call 76;(with_reducible refine (takeI648_none _ rb rj 0 B.rdr HS0.out).mono ?_);rintro e w9 ⟨rfl,rfl⟩)
          exact ⟨rfl,B.st,rfl,_,B.rdr⟩
        | some t0=>
          obtain ⟨n0,q0⟩:=t0
          have E0:=Lib.hid (rdI_some s0)
          have HS0:=Lib.hid s0
          clear s0
          go_wp2_with (go_at_call 76;(with_reducible refine (takeI648_some _ rb rj 0 B.rdr HS0.out).mono ?_);rintro e w3 ⟨rfl,hR3,hS3⟩;have BN0:=B.next hS3 hR3;have p5:=BN0.box.fr 5;obtain ⟨y0,y1,y2,y3,y4,y5,y6,y7,y8,y9,y10,y11⟩:=row12 BN0.box.at_;have r0:=BN0.res.at_ 0 _ rfl;have gr0:=BN0.res.fr 0;have r1:=BN0.res.at_ 1 _ rfl;have gr1:=BN0.res.fr 1;have r2:=BN0.res.at_ 2 _ rfl;have gr2:=BN0.res.fr 2;have r3:=BN0.res.at_ 3 _ rfl;have gr3:=BN0.res.fr 3;have r4:=BN0.res.at_ 4 _ rfl;have gr4:=BN0.res.fr 4;have r5:=BN0.res.at_ 5 _ rfl;have gr5:=BN0.res.fr 5;have r6:=BN0.res.at_ 6 _ rfl;have gr6:=BN0.res.fr 6;have r7:=BN0.res.at_ 7 _ rfl;have gr7:=BN0.res.fr 7;have r8:=BN0.res.at_ 8 _ rfl;have gr8:=BN0.res.fr 8;have r9:=BN0.res.at_ 9 _ rfl;have gr9:=BN0.res.fr 9;have r10:=BN0.res.at_ 10 _ rfl;have gr10:=BN0.res.fr 10;have r11:=BN0.res.at_ 11 _ rfl;have gr11:=BN0.res.fr 11)
          have B1:CB w (w3.setCell ⟨cb,5,none⟩ (.int .i64 (wrap64 n0))) rb cb 0 q0 xs V.none ⟨kd,a,m,c, .empty,0,0,(wrap64 n0),vzero, .empty⟩:=BN0.set1 RStep.self (BN0.box.set (i:=5) (x:= .int .i64 (wrap64 n0)) (by simp [ccells])) rfl rfl rfl rfl
          obtain rfl:out=some (⟨kd,xs, .empty,0,0,(wrap64 n0),V.none, .empty⟩,q0):=by rw [←HO3.out,HE.out];simp only [E0.out,Option.bind_some]
          exact B1.leave (⟨by show (0:Int)≤(kd:Int);omega,by show (kd:Int)<256;omega,(by decide:(-9223372036854775808:Int)≤0),(by decide:(0:Int)≤9223372036854775807),(by decide:(-9223372036854775808:Int)≤0),(by decide:(0:Int)≤9223372036854775807),i64_lo _,i64_hi _,(by decide:ByteArray.empty.size≤140737488355328),(by decide:ByteArray.empty.size≤140737488355328)⟩) rfl rfl rfl
      have f1:((kd:Int)==1)=false:=by simp;omega
      by_cases e2:kd=2
      case pos=>
        have HE:=Lib.hid (rdRest_2 (k:=kd) (by omega) xs rj)
        have f2:((kd:Int)==2)=true:=by subst e2;rfl
        have f3:((kd:Int)==3)=false:=by subst e2;rfl
        have f4:((kd:Int)==4)=false:=by subst e2;rfl
        have f5:((kd:Int)==5)=false:=by subst e2;rfl
        have f6:((kd:Int)==6)=false:=by subst e2;rfl
        have f7:((kd:Int)==7)=false:=by subst e2;rfl
        have f8:((kd:Int)==8)=false:=by subst e2;rfl
        have f9:((kd:Int)==9)=false:=by subst e2;rfl
        clear e2
        have y0:=B.box.at_ 0 _ rfl
        cases s0:rdT rj with
        | none=>
          obtain rfl:out=none:=by rw [←HO3.out,HE.out];simp only [s0];rfl
          have HS0:=Lib.hid s0
          clear s0
          go_wp2_with (go_at_call 77;(with_reducible refine (rText_none _ rb rj 0 B.rdr HS0.out).mono ?_);rintro e w9 ⟨rfl,hS9,hR9⟩)
          exact ⟨rfl,B.st.trans hS9,rfl,hR9⟩
        | some t0=>
          obtain ⟨k0,q0⟩:=t0
          have E0:=Lib.hid (s0)
          have HS0:=Lib.hid s0
          clear s0
          go_wp2_with (go_at_call 77;(with_reducible refine (rText_some _ rb rj 0 B.rdr HS0.out).mono ?_);rintro e w3 ⟨rfl,hR3,hS3⟩;have BN0:=B.next hS3 hR3;have p2:=BN0.box.fr 2;obtain ⟨y0,y1,y2,y3,y4,y5,y6,y7,y8,y9,y10,y11⟩:=row12 BN0.box.at_)
          have B1:CB w (w3.setCell ⟨cb,2,none⟩ (.string k0)) rb cb 0 q0 xs V.none ⟨kd,a,m,c,k0,0,0,0,vzero, .empty⟩:=BN0.set1 RStep.self (BN0.box.set (i:=2) (x:= .string k0) (by simp [ccells])) rfl rfl rfl rfl
          cases s1:rdV 18 q0 with
          | none=>
            obtain rfl:out=none:=by rw [←HO3.out,HE.out];simp only [E0.out,Option.bind_some,s1];rfl
            have HS1:=Lib.hid s1
            clear s1
            go_wp2_with (go_at_call 44;(with_reducible refine (rv18_none _ rb q0 B1.rdr HS1.out).mono ?_);rintro e w9 ⟨rfl,hS9,hR9⟩)
            exact ⟨rfl,B1.st.trans hS9,rfl,hR9⟩
          | some t1=>
            obtain ⟨v1,q1⟩:=t1
            have E1:=Lib.hid (s1)
            have HS1:=Lib.hid s1
            clear s1
            rename_i KR aR KC aC
            have HKR:=Lib.hid aR
            clear aR
            go_wp2_with (go_at_call 44;(with_reducible refine (rv18_some _ rb q0 B1.rdr HS1.out).mono ?_);rintro e w4 ⟨cv,rfl,hS4,hI4,hR4⟩;have BN1:=B1.next hS4 hR4;have p6:=BN1.box.fr 6;have p7:=BN1.box.fr 7;have p8:=BN1.box.fr 8;have p9:=BN1.box.fr 9;have p10:=BN1.box.fr 10;have y6:=BN1.box.at_ 6 _ rfl;have y7:=BN1.box.at_ 7 _ rfl;have y8:=BN1.box.at_ 8 _ rfl;have y9:=BN1.box.at_ 9 _ rfl;have y10:=BN1.box.at_ 10 _ rfl)
            have B2:CB w (((((w4.setCell ⟨cb,6,none⟩ (.int .u8 cv.k)).setCell ⟨cb,7,none⟩ (.int .i64 cv.n)).setCell ⟨cb,8,none⟩ (.string cv.s)).setCell ⟨cb,9,none⟩ (.slice cv.la cv.ll cv.lc)).setCell ⟨cb,10,none⟩ (.slice cv.oa cv.ol cv.oc)) rb cb 0 q1 xs v1 ⟨kd,a,m,c,k0,0,0,0,cv, .empty⟩:=B1.value hS4 hR4 hI4 ((((RStep.self.trans RStep.self).trans RStep.self).trans RStep.self).trans RStep.self) (((((BN1.box.set (i:=6) (x:= .int .u8 cv.k) (by simp [ccells])).set (i:=7) (x:= .int .i64 cv.n) (by simp [ccells])).set (i:=8) (x:= .string cv.s) (by simp [ccells])).set (i:=9) (x:= .slice cv.la cv.ll cv.lc) (by simp [ccells])).set (i:=10) (x:= .slice cv.oa cv.ol cv.oc) (by simp [ccells])) rfl rfl rfl
            obtain ⟨W2,hW2⟩:∃W2,(((((w4.setCell ⟨cb,6,none⟩ (.int .u8 cv.k)).setCell ⟨cb,7,none⟩ (.int .i64 cv.n)).setCell ⟨cb,8,none⟩ (.string cv.s)).setCell ⟨cb,9,none⟩ (.slice cv.la cv.ll cv.lc)).setCell ⟨cb,10,none⟩ (.slice cv.oa cv.ol cv.oc))=W2:=⟨_,rfl⟩
            rw [hW2] at B2 ⊢
            have hcl:=B2.box.lt
            clear hW2 BN1 hI4
            obtain ⟨y0,y1,y2,y3,y4,y5,y6,y7,y8,y9,y10,y11⟩:=row12 B2.box.at_
            have r0:=B2.res.at_ 0 _ rfl;have gr0:=B2.res.fr 0;have r1:=B2.res.at_ 1 _ rfl;have gr1:=B2.res.fr 1;have r2:=B2.res.at_ 2 _ rfl;have gr2:=B2.res.fr 2;have r3:=B2.res.at_ 3 _ rfl;have gr3:=B2.res.fr 3;have r4:=B2.res.at_ 4 _ rfl;have gr4:=B2.res.fr 4;have r5:=B2.res.at_ 5 _ rfl;have gr5:=B2.res.fr 5;have r6:=B2.res.at_ 6 _ rfl;have gr6:=B2.res.fr 6;have r7:=B2.res.at_ 7 _ rfl;have gr7:=B2.res.fr 7;have r8:=B2.res.at_ 8 _ rfl;have gr8:=B2.res.fr 8;have r9:=B2.res.at_ 9 _ rfl;have gr9:=B2.res.fr 9;have r10:=B2.res.at_ 10 _ rfl;have gr10:=B2.res.fr 10;have r11:=B2.res.at_ 11 _ rfl;have gr11:=B2.res.fr 11
            refine HKR.out _ _ ?_
            go_wp2_with fail
            obtain rfl:out=some (⟨kd,xs,k0,0,0,0,v1, .empty⟩,q1):=by rw [←HO3.out,HE.out];simp only [E0.out,E1.out,Option.bind_some]
            exact B2.leave (⟨by show (0:Int)≤(kd:Int);omega,by show (kd:Int)<256;omega,(by decide:(-9223372036854775808:Int)≤0),(by decide:(0:Int)≤9223372036854775807),(by decide:(-9223372036854775808:Int)≤0),(by decide:(0:Int)≤9223372036854775807),(by decide:(-9223372036854775808:Int)≤0),(by decide:(0:Int)≤9223372036854775807),rdT_size E0.out,(by decide:ByteArray.empty.size≤140737488355328)⟩) rfl rfl rfl
      have f2:((kd:Int)==2)=false:=by simp;omega
      by_cases e3:kd=3
      case pos=>
        have HE:=Lib.hid (rdRest_3 (k:=kd) (by omega) xs rj)
        have f3:((kd:Int)==3)=true:=by subst e3;rfl
        have f4:((kd:Int)==4)=false:=by subst e3;rfl
        have f5:((kd:Int)==5)=false:=by subst e3;rfl
        have f6:((kd:Int)==6)=false:=by subst e3;rfl
        have f7:((kd:Int)==7)=false:=by subst e3;rfl
        have f8:((kd:Int)==8)=false:=by subst e3;rfl
        have f9:((kd:Int)==9)=false:=by subst e3;rfl
        clear e3
        have y0:=B.box.at_ 0 _ rfl
        cases s0:rdT rj with
        | none=>
          obtain rfl:out=none:=by rw [←HO3.out,HE.out];simp only [s0];rfl
          have HS0:=Lib.hid s0
          clear s0
          go_wp2_with (go_at_call 77;(with_reducible refine (rText_none _ rb rj 0 B.rdr HS0.out).mono ?_);rintro e w9 ⟨rfl,hS9,hR9⟩)
          exact ⟨rfl,B.st.trans hS9,rfl,hR9⟩
        | some t0=>
          obtain ⟨k0,q0⟩:=t0
          have E0:=Lib.hid (s0)
          have HS0:=Lib.hid s0
          clear s0
          go_wp2_with (go_at_call 77;(with_reducible refine (rText_some _ rb rj 0 B.rdr HS0.out).mono ?_);rintro e w3 ⟨rfl,hR3,hS3⟩;have BN0:=B.next hS3 hR3;have p2:=BN0.box.fr 2;obtain ⟨y0,y1,y2,y3,y4,y5,y6,y7,y8,y9,y10,y11⟩:=row12 BN0.box.at_;have r0:=BN0.res.at_ 0 _ rfl;have gr0:=BN0.res.fr 0;have r1:=BN0.res.at_ 1 _ rfl;have gr1:=BN0.res.fr 1;have r2:=BN0.res.at_ 2 _ rfl;have gr2:=BN0.res.fr 2;have r3:=BN0.res.at_ 3 _ rfl;have gr3:=BN0.res.fr 3;have r4:=BN0.res.at_ 4 _ rfl;have gr4:=BN0.res.fr 4;have r5:=BN0.res.at_ 5 _ rfl;have gr5:=BN0.res.fr 5;have r6:=BN0.res.at_ 6 _ rfl;have gr6:=BN0.res.fr 6;have r7:=BN0.res.at_ 7 _ rfl;have gr7:=BN0.res.fr 7;have r8:=BN0.res.at_ 8 _ rfl;have gr8:=BN0.res.fr 8;have r9:=BN0.res.at_ 9 _ rfl;have gr9:=BN0.res.fr 9;have r10:=BN0.res.at_ 10 _ rfl;have gr10:=BN0.res.fr 10;have r11:=BN0.res.at_ 11 _ rfl;have gr11:=BN0.res.fr 11)
          have B1:CB w (w3.setCell ⟨cb,2,none⟩ (.string k0)) rb cb 0 q0 xs V.none ⟨kd,a,m,c,k0,0,0,0,vzero, .empty⟩:=BN0.set1 RStep.self (BN0.box.set (i:=2) (x:= .string k0) (by simp [ccells])) rfl rfl rfl rfl
          obtain rfl:out=some (⟨kd,xs,k0,0,0,0,V.none, .empty⟩,q0):=by rw [←HO3.out,HE.out];simp only [E0.out,Option.bind_some]
          exact B1.leave (⟨by show (0:Int)≤(kd:Int);omega,by show (kd:Int)<256;omega,(by decide:(-9223372036854775808:Int)≤0),(by decide:(0:Int)≤9223372036854775807),(by decide:(-9223372036854775808:Int)≤0),(by decide:(0:Int)≤9223372036854775807),(by decide:(-9223372036854775808:Int)≤0),(by decide:(0:Int)≤9223372036854775807),rdT_size E0.out,(by decide:ByteArray.empty.size≤140737488355328)⟩) rfl rfl rfl
      have f3:((kd:Int)==3)=false:=by simp;omega
      by_cases e4:kd=4
      case pos=>
        have HE:=Lib.hid (rdRest_4 (k:=kd) (by omega) xs rj)
        have f4:((kd:Int)==4)=true:=by subst e4;rfl
        have f5:((kd:Int)==5)=false:=by subst e4;rfl
        have f6:((kd:Int)==6)=false:=by subst e4;rfl
        have f7:((kd:Int)==7)=false:=by subst e4;rfl
        have f8:((kd:Int)==8)=false:=by subst e4;rfl
        have f9:((kd:Int)==9)=false:=by subst e4;rfl
        clear e4
        have y0:=B.box.at_ 0 _ rfl
        cases s0:rdN 8 rj with
        | none=>
          obtain rfl:out=none:=by rw [←HO3.out,HE.out];simp only [rdI_none s0];rfl
          have HS0:=Lib.hid s0
          clear s0
          go_wp2_with (go_at_call 103;(with_reducible refine (takeInt8_none _ rb rj 0 B.rdr HS0.out).mono ?_);rintro e w9 ⟨rfl,rfl⟩)
          exact ⟨rfl,B.st,rfl,_,B.rdr⟩
        | some t0=>
          obtain ⟨i0,q0⟩:=t0
          have E0:=Lib.hid (rdI_some s0)
          have HS0:=Lib.hid s0
          clear s0
          go_wp2_with (go_at_call 103;(with_reducible refine (takeInt8_some _ rb rj 0 B.rdr HS0.out).mono ?_);rintro e w3 ⟨rfl,hR3,hS3⟩;have BN0:=B.next hS3 hR3;have p3:=BN0.box.fr 3;obtain ⟨y0,y1,y2,y3,y4,y5,y6,y7,y8,y9,y10,y11⟩:=row12 BN0.box.at_)
          have B1:CB w (w3.setCell ⟨cb,3,none⟩ (.int .i64 (wrap64 i0))) rb cb 0 q0 xs V.none ⟨kd,a,m,c, .empty,(wrap64 i0),0,0,vzero, .empty⟩:=BN0.set1 RStep.self (BN0.box.set (i:=3) (x:= .int .i64 (wrap64 i0)) (by simp [ccells])) rfl rfl rfl rfl
          cases s1:rdV 18 q0 with
          | none=>
            obtain rfl:out=none:=by rw [←HO3.out,HE.out];simp only [E0.out,Option.bind_some,s1];rfl
            have HS1:=Lib.hid s1
            clear s1
            go_wp2_with (go_at_call 44;(with_reducible refine (rv18_none _ rb q0 B1.rdr HS1.out).mono ?_);rintro e w9 ⟨rfl,hS9,hR9⟩)
            exact ⟨rfl,B1.st.trans hS9,rfl,hR9⟩
          | some t1=>
            obtain ⟨v1,q1⟩:=t1
            have E1:=Lib.hid (s1)
            have HS1:=Lib.hid s1
            clear s1
            rename_i KR aR KC aC
            have HKR:=Lib.hid aR
            clear aR
            go_wp2_with (go_at_call 44;(with_reducible refine (rv18_some _ rb q0 B1.rdr HS1.out).mono ?_);rintro e w4 ⟨cv,rfl,hS4,hI4,hR4⟩;have BN1:=B1.next hS4 hR4;have p6:=BN1.box.fr 6;have p7:=BN1.box.fr 7;have p8:=BN1.box.fr 8;have p9:=BN1.box.fr 9;have p10:=BN1.box.fr 10;have y6:=BN1.box.at_ 6 _ rfl;have y7:=BN1.box.at_ 7 _ rfl;have y8:=BN1.box.at_ 8 _ rfl;have y9:=BN1.box.at_ 9 _ rfl;have y10:=BN1.box.at_ 10 _ rfl)
            have B2:CB w (((((w4.setCell ⟨cb,6,none⟩ (.int .u8 cv.k)).setCell ⟨cb,7,none⟩ (.int .i64 cv.n)).setCell ⟨cb,8,none⟩ (.string cv.s)).setCell ⟨cb,9,none⟩ (.slice cv.la cv.ll cv.lc)).setCell ⟨cb,10,none⟩ (.slice cv.oa cv.ol cv.oc)) rb cb 0 q1 xs v1 ⟨kd,a,m,c, .empty,(wrap64 i0),0,0,cv, .empty⟩:=B1.value hS4 hR4 hI4 ((((RStep.self.trans RStep.self).trans RStep.self).trans RStep.self).trans RStep.self) (((((BN1.box.set (i:=6) (x:= .int .u8 cv.k) (by simp [ccells])).set (i:=7) (x:= .int .i64 cv.n) (by simp [ccells])).set (i:=8) (x:= .string cv.s) (by simp [ccells])).set (i:=9) (x:= .slice cv.la cv.ll cv.lc) (by simp [ccells])).set (i:=10) (x:= .slice cv.oa cv.ol cv.oc) (by simp [ccells])) rfl rfl rfl
            obtain ⟨W2,hW2⟩:∃W2,(((((w4.setCell ⟨cb,6,none⟩ (.int .u8 cv.k)).setCell ⟨cb,7,none⟩ (.int .i64 cv.n)).setCell ⟨cb,8,none⟩ (.string cv.s)).setCell ⟨cb,9,none⟩ (.slice cv.la cv.ll cv.lc)).setCell ⟨cb,10,none⟩ (.slice cv.oa cv.ol cv.oc))=W2:=⟨_,rfl⟩
            rw [hW2] at B2 ⊢
            have hcl:=B2.box.lt
            clear hW2 BN1 hI4
            obtain ⟨y0,y1,y2,y3,y4,y5,y6,y7,y8,y9,y10,y11⟩:=row12 B2.box.at_
            have r0:=B2.res.at_ 0 _ rfl;have gr0:=B2.res.fr 0;have r1:=B2.res.at_ 1 _ rfl;have gr1:=B2.res.fr 1;have r2:=B2.res.at_ 2 _ rfl;have gr2:=B2.res.fr 2;have r3:=B2.res.at_ 3 _ rfl;have gr3:=B2.res.fr 3;have r4:=B2.res.at_ 4 _ rfl;have gr4:=B2.res.fr 4;have r5:=B2.res.at_ 5 _ rfl;have gr5:=B2.res.fr 5;have r6:=B2.res.at_ 6 _ rfl;have gr6:=B2.res.fr 6;have r7:=B2.res.at_ 7 _ rfl;have gr7:=B2.res.fr 7;have r8:=B2.res.at_ 8 _ rfl;have gr8:=B2.res.fr 8;have r9:=B2.res.at_ 9 _ rfl;have gr9:=B2.res.fr 9;have r10:=B2.res.at_ 10 _ rfl;have gr10:=B2.res.fr 10;have r11:=B2.res.at_ 11 _ rfl;have gr11:=B2.res.fr 11
            refine HKR.out _ _ ?_
            go_wp2_with fail
            obtain rfl:out=some (⟨kd,xs, .empty,(wrap64 i0),0,0,v1, .empty⟩,q1):=by rw [←HO3.out,HE.out];simp only [E0.out,E1.out,Option.bind_some]
            exact B2.leave (⟨by show (0:Int)≤(kd:Int);omega,by show (kd:Int)<256;omega,i64_lo _,i64_hi _,(by decide:(-9223372036854775808:Int)≤0),(by decide:(0:Int)≤9223372036854775807),(by decide:(-9223372036854775808:Int)≤0),(by decide:(0:Int)≤9223372036854775807),(by decide:ByteArray.empty.size≤140737488355328),(by decide:ByteArray.empty.size≤140737488355328)⟩) rfl rfl rfl
      have f4:((kd:Int)==4)=false:=by simp;omega
      by_cases e5:kd=5
      case pos=>
        have HE:=Lib.hid (rdRest_5 (k:=kd) (by omega) xs rj)
        have f5:((kd:Int)==5)=true:=by subst e5;rfl
        have f6:((kd:Int)==6)=false:=by subst e5;rfl
        have f7:((kd:Int)==7)=false:=by subst e5;rfl
        have f8:((kd:Int)==8)=false:=by subst e5;rfl
        have f9:((kd:Int)==9)=false:=by subst e5;rfl
        clear e5
        have y0:=B.box.at_ 0 _ rfl
        cases s0:rdN 8 rj with
        | none=>
          obtain rfl:out=none:=by rw [←HO3.out,HE.out];simp only [rdI_none s0];rfl
          have HS0:=Lib.hid s0
          clear s0
          go_wp2_with (go_at_call 103;(with_reducible refine (takeInt8_none _ rb rj 0 B.rdr HS0.out).mono ?_);rintro e w9 ⟨rfl,rfl⟩)
          exact ⟨rfl,B.st,rfl,_,B.rdr⟩
        | some t0=>
          obtain ⟨i0,q0⟩:=t0
          have E0:=Lib.hid (rdI_some s0)
          have HS0:=Lib.hid s0
          clear s0
          go_wp2_with (go_at_call 103;(with_reducible refine (takeInt8_some _ rb rj 0 B.rdr HS0.out).mono ?_);rintro e w3 ⟨rfl,hR3,hS3⟩;have BN0:=B.next hS3 hR3;have p3:=BN0.box.fr 3;obtain ⟨y0,y1,y2,y3,y4,y5,y6,y7,y8,y9,y10,y11⟩:=row12 BN0.box.at_;have r0:=BN0.res.at_ 0 _ rfl;have gr0:=BN0.res.fr 0;have r1:=BN0.res.at_ 1 _ rfl;have gr1:=BN0.res.fr 1;have r2:=BN0.res.at_ 2 _ rfl;have gr2:=BN0.res.fr 2;have r3:=BN0.res.at_ 3 _ rfl;have gr3:=BN0.res.fr 3;have r4:=BN0.res.at_ 4 _ rfl;have gr4:=BN0.res.fr 4;have r5:=BN0.res.at_ 5 _ rfl;have gr5:=BN0.res.fr 5;have r6:=BN0.res.at_ 6 _ rfl;have gr6:=BN0.res.fr 6;have r7:=BN0.res.at_ 7 _ rfl;have gr7:=BN0.res.fr 7;have r8:=BN0.res.at_ 8 _ rfl;have gr8:=BN0.res.fr 8;have r9:=BN0.res.at_ 9 _ rfl;have gr9:=BN0.res.fr 9;have r10:=BN0.res.at_ 10 _ rfl;have gr10:=BN0.res.fr 10;have r11:=BN0.res.at_ 11 _ rfl;have gr11:=BN0.res.fr 11)
          have B1:CB w (w3.setCell ⟨cb,3,none⟩ (.int .i64 (wrap64 i0))) rb cb 0 q0 xs V.none ⟨kd,a,m,c, .empty,(wrap64 i0),0,0,vzero, .empty⟩:=BN0.set1 RStep.self (BN0.box.set (i:=3) (x:= .int .i64 (wrap64 i0)) (by simp [ccells])) rfl rfl rfl rfl
          obtain rfl:out=some (⟨kd,xs, .empty,(wrap64 i0),0,0,V.none, .empty⟩,q0):=by rw [←HO3.out,HE.out];simp only [E0.out,Option.bind_some]
          exact B1.leave (⟨by show (0:Int)≤(kd:Int);omega,by show (kd:Int)<256;omega,i64_lo _,i64_hi _,(by decide:(-9223372036854775808:Int)≤0),(by decide:(0:Int)≤9223372036854775807),(by decide:(-9223372036854775808:Int)≤0),(by decide:(0:Int)≤9223372036854775807),(by decide:ByteArray.empty.size≤140737488355328),(by decide:ByteArray.empty.size≤140737488355328)⟩) rfl rfl rfl
      have f5:((kd:Int)==5)=false:=by simp;omega
      by_cases e6:kd=6
      case pos=>
        have HE:=Lib.hid (rdRest_6 (k:=kd) (by omega) xs rj)
        have f6:((kd:Int)==6)=true:=by subst e6;rfl
        have f7:((kd:Int)==7)=false:=by subst e6;rfl
        have f8:((kd:Int)==8)=false:=by subst e6;rfl
        have f9:((kd:Int)==9)=false:=by subst e6;rfl
        clear e6
        have y0:=B.box.at_ 0 _ rfl
        cases s0:rdN 8 rj with
        | none=>
          obtain rfl:out=none:=by rw [←HO3.out,HE.out];simp only [rdI_none s0];rfl
          have HS0:=Lib.hid s0
          clear s0
          go_wp2_with (go_at_call 103;(with_reducible refine (takeInt8_none _ rb rj 0 B.rdr HS0.out).mono ?_);rintro e w9 ⟨rfl,rfl⟩)
          exact ⟨rfl,B.st,rfl,_,B.rdr⟩
        | some t0=>
          obtain ⟨i0,q0⟩:=t0
          have E0:=Lib.hid (rdI_some s0)
          have HS0:=Lib.hid s0
          clear s0
          go_wp2_with (go_at_call 103;(with_reducible refine (takeInt8_some _ rb rj 0 B.rdr HS0.out).mono ?_);rintro e w3 ⟨rfl,hR3,hS3⟩;have BN0:=B.next hS3 hR3;have p3:=BN0.box.fr 3;obtain ⟨y0,y1,y2,y3,y4,y5,y6,y7,y8,y9,y10,y11⟩:=row12 BN0.box.at_)
          have B1:CB w (w3.setCell ⟨cb,3,none⟩ (.int .i64 (wrap64 i0))) rb cb 0 q0 xs V.none ⟨kd,a,m,c, .empty,(wrap64 i0),0,0,vzero, .empty⟩:=BN0.set1 RStep.self (BN0.box.set (i:=3) (x:= .int .i64 (wrap64 i0)) (by simp [ccells])) rfl rfl rfl rfl
          cases s1:rdV 18 q0 with
          | none=>
            obtain rfl:out=none:=by rw [←HO3.out,HE.out];simp only [E0.out,Option.bind_some,s1];rfl
            have HS1:=Lib.hid s1
            clear s1
            go_wp2_with (go_at_call 44;(with_reducible refine (rv18_none _ rb q0 B1.rdr HS1.out).mono ?_);rintro e w9 ⟨rfl,hS9,hR9⟩)
            exact ⟨rfl,B1.st.trans hS9,rfl,hR9⟩
          | some t1=>
            obtain ⟨v1,q1⟩:=t1
            have E1:=Lib.hid (s1)
            have HS1:=Lib.hid s1
            clear s1
            rename_i KR aR KC aC
            have HKR:=Lib.hid aR
            clear aR
            go_wp2_with (go_at_call 44;(with_reducible refine (rv18_some _ rb q0 B1.rdr HS1.out).mono ?_);rintro e w4 ⟨cv,rfl,hS4,hI4,hR4⟩;have BN1:=B1.next hS4 hR4;have p6:=BN1.box.fr 6;have p7:=BN1.box.fr 7;have p8:=BN1.box.fr 8;have p9:=BN1.box.fr 9;have p10:=BN1.box.fr 10;have y6:=BN1.box.at_ 6 _ rfl;have y7:=BN1.box.at_ 7 _ rfl;have y8:=BN1.box.at_ 8 _ rfl;have y9:=BN1.box.at_ 9 _ rfl;have y10:=BN1.box.at_ 10 _ rfl)
            have B2:CB w (((((w4.setCell ⟨cb,6,none⟩ (.int .u8 cv.k)).setCell ⟨cb,7,none⟩ (.int .i64 cv.n)).setCell ⟨cb,8,none⟩ (.string cv.s)).setCell ⟨cb,9,none⟩ (.slice cv.la cv.ll cv.lc)).setCell ⟨cb,10,none⟩ (.slice cv.oa cv.ol cv.oc)) rb cb 0 q1 xs v1 ⟨kd,a,m,c, .empty,(wrap64 i0),0,0,cv, .empty⟩:=B1.value hS4 hR4 hI4 ((((RStep.self.trans RStep.self).trans RStep.self).trans RStep.self).trans RStep.self) (((((BN1.box.set (i:=6) (x:= .int .u8 cv.k) (by simp [ccells])).set (i:=7) (x:= .int .i64 cv.n) (by simp [ccells])).set (i:=8) (x:= .string cv.s) (by simp [ccells])).set (i:=9) (x:= .slice cv.la cv.ll cv.lc) (by simp [ccells])).set (i:=10) (x:= .slice cv.oa cv.ol cv.oc) (by simp [ccells])) rfl rfl rfl
            obtain ⟨W2,hW2⟩:∃W2,(((((w4.setCell ⟨cb,6,none⟩ (.int .u8 cv.k)).setCell ⟨cb,7,none⟩ (.int .i64 cv.n)).setCell ⟨cb,8,none⟩ (.string cv.s)).setCell ⟨cb,9,none⟩ (.slice cv.la cv.ll cv.lc)).setCell ⟨cb,10,none⟩ (.slice cv.oa cv.ol cv.oc))=W2:=⟨_,rfl⟩
            rw [hW2] at B2 ⊢
            have hcl:=B2.box.lt
            clear hW2 BN1 hI4
            obtain ⟨y0,y1,y2,y3,y4,y5,y6,y7,y8,y9,y10,y11⟩:=row12 B2.box.at_
            have r0:=B2.res.at_ 0 _ rfl;have gr0:=B2.res.fr 0;have r1:=B2.res.at_ 1 _ rfl;have gr1:=B2.res.fr 1;have r2:=B2.res.at_ 2 _ rfl;have gr2:=B2.res.fr 2;have r3:=B2.res.at_ 3 _ rfl;have gr3:=B2.res.fr 3;have r4:=B2.res.at_ 4 _ rfl;have gr4:=B2.res.fr 4;have r5:=B2.res.at_ 5 _ rfl;have gr5:=B2.res.fr 5;have r6:=B2.res.at_ 6 _ rfl;have gr6:=B2.res.fr 6;have r7:=B2.res.at_ 7 _ rfl;have gr7:=B2.res.fr 7;have r8:=B2.res.at_ 8 _ rfl;have gr8:=B2.res.fr 8;have r9:=B2.res.at_ 9 _ rfl;have gr9:=B2.res.fr 9;have r10:=B2.res.at_ 10 _ rfl;have gr10:=B2.res.fr 10;have r11:=B2.res.at_ 11 _ rfl;have gr11:=B2.res.fr 11
            refine HKR.out _ _ ?_
            go_wp2_with fail
            obtain rfl:out=some (⟨kd,xs, .empty,(wrap64 i0),0,0,v1, .empty⟩,q1):=by rw [←HO3.out,HE.out];simp only [E0.out,E1.out,Option.bind_some]
            exact B2.leave (⟨by show (0:Int)≤(kd:Int);omega,by show (kd:Int)<256;omega,i64_lo _,i64_hi _,(by decide:(-9223372036854775808:Int)≤0),(by decide:(0:Int)≤9223372036854775807),(by decide:(-9223372036854775808:Int)≤0),(by decide:(0:Int)≤9223372036854775807),(by decide:ByteArray.empty.size≤140737488355328),(by decide:ByteArray.empty.size≤140737488355328)⟩) rfl rfl rfl
      have f6:((kd:Int)==6)=false:=by simp;omega
      by_cases e7:kd=7
      case pos=>
        have HE:=Lib.hid (rdRest_7 (k:=kd) (by omega) xs rj)
        have f7:((kd:Int)==7)=true:=by subst e7;rfl
        have f8:((kd:Int)==8)=false:=by subst e7;rfl
        have f9:((kd:Int)==9)=false:=by subst e7;rfl
        clear e7
        have y0:=B.box.at_ 0 _ rfl
        cases s0:rdN 8 rj with
        | none=>
          obtain rfl:out=none:=by rw [←HO3.out,HE.out];simp only [rdI_none s0];rfl
          have HS0:=Lib.hid s0
          clear s0
          go_wp2_with (go_at_call 103;(with_reducible refine (takeInt8_none _ rb rj 0 B.rdr HS0.out).mono ?_);rintro e w9 ⟨rfl,rfl⟩)
          exact ⟨rfl,B.st,rfl,_,B.rdr⟩
        | some t0=>
          obtain ⟨i0,q0⟩:=t0
          have E0:=Lib.hid (rdI_some s0)
          have HS0:=Lib.hid s0
          clear s0
          go_wp2_with (go_at_call 103;(with_reducible refine (takeInt8_some _ rb rj 0 B.rdr HS0.out).mono ?_);rintro e w3 ⟨rfl,hR3,hS3⟩;have BN0:=B.next hS3 hR3;have p3:=BN0.box.fr 3;obtain ⟨y0,y1,y2,y3,y4,y5,y6,y7,y8,y9,y10,y11⟩:=row12 BN0.box.at_)
          have B1:CB w (w3.setCell ⟨cb,3,none⟩ (.int .i64 (wrap64 i0))) rb cb 0 q0 xs V.none ⟨kd,a,m,c, .empty,(wrap64 i0),0,0,vzero, .empty⟩:=BN0.set1 RStep.self (BN0.box.set (i:=3) (x:= .int .i64 (wrap64 i0)) (by simp [ccells])) rfl rfl rfl rfl
          cases s1:rdN 8 q0 with
          | none=>
            obtain rfl:out=none:=by rw [←HO3.out,HE.out];simp only [E0.out,Option.bind_some,rdI_none s1];rfl
            have HS1:=Lib.hid s1
            clear s1
            go_wp2_with (go_at_call 103;(with_reducible refine (takeInt8_none _ rb q0 0 B1.rdr HS1.out).mono ?_);rintro e w9 ⟨rfl,rfl⟩)
            exact ⟨rfl,B1.st,rfl,_,B1.rdr⟩
          | some t1=>
            obtain ⟨j1,q1⟩:=t1
            have E1:=Lib.hid (rdI_some s1)
            have HS1:=Lib.hid s1
            clear s1
            go_wp2_with (go_at_call 103;(with_reducible refine (takeInt8_some _ rb q0 0 B1.rdr HS1.out).mono ?_);rintro e w4 ⟨rfl,hR4,hS4⟩;have BN1:=B1.next hS4 hR4;have p4:=BN1.box.fr 4;obtain ⟨y0,y1,y2,y3,y4,y5,y6,y7,y8,y9,y10,y11⟩:=row12 BN1.box.at_;have r0:=BN1.res.at_ 0 _ rfl;have gr0:=BN1.res.fr 0;have r1:=BN1.res.at_ 1 _ rfl;have gr1:=BN1.res.fr 1;have r2:=BN1.res.at_ 2 _ rfl;have gr2:=BN1.res.fr 2;have r3:=BN1.res.at_ 3 _ rfl;have gr3:=BN1.res.fr 3;have r4:=BN1.res.at_ 4 _ rfl;have gr4:=BN1.res.fr 4;have r5:=BN1.res.at_ 5 _ rfl;have gr5:=BN1.res.fr 5;have r6:=BN1.res.at_ 6 _ rfl;have gr6:=BN1.res.fr 6;have r7:=BN1.res.at_ 7 _ rfl;have gr7:=BN1.res.fr 7;have r8:=BN1.res.at_ 8 _ rfl;have gr8:=BN1.res.fr 8;have r9:=BN1.res.at_ 9 _ rfl;have gr9:=BN1.res.fr 9;have r10:=BN1.res.at_ 10 _ rfl;have gr10:=BN1.res.fr 10;have r11:=BN1.res.at_ 11 _ rfl;have gr11:=BN1.res.fr 11)
            have B2:CB w (w4.setCell ⟨cb,4,none⟩ (.int .i64 (wrap64 j1))) rb cb 0 q1 xs V.none ⟨kd,a,m,c, .empty,(wrap64 i0),(wrap64 j1),0,vzero, .empty⟩:=BN1.set1 RStep.self (BN1.box.set (i:=4) (x:= .int .i64 (wrap64 j1)) (by simp [ccells])) rfl rfl rfl rfl
            obtain rfl:out=some (⟨kd,xs, .empty,(wrap64 i0),(wrap64 j1),0,V.none, .empty⟩,q1):=by rw [←HO3.out,HE.out];simp only [E0.out,E1.out,Option.bind_some]
            exact B2.leave (⟨by show (0:Int)≤(kd:Int);omega,by show (kd:Int)<256;omega,i64_lo _,i64_hi _,i64_lo _,i64_hi _,(by decide:(-9223372036854775808:Int)≤0),(by decide:(0:Int)≤9223372036854775807),(by decide:ByteArray.empty.size≤140737488355328),(by decide:ByteArray.empty.size≤140737488355328)⟩) rfl rfl rfl
      have f7:((kd:Int)==7)=false:=by simp;omega
      by_cases e8:kd=8
      case pos=>
        have HE:=Lib.hid (rdRest_8 (k:=kd) (by omega) xs rj)
        have f8:((kd:Int)==8)=true:=by subst e8;rfl
        have f9:((kd:Int)==9)=false:=by subst e8;rfl
        clear e8
        have y0:=B.box.at_ 0 _ rfl
        cases s0:rdN 8 rj with
        | none=>
          obtain rfl:out=none:=by rw [←HO3.out,HE.out];simp only [rdI_none s0];rfl
          have HS0:=Lib.hid s0
          clear s0
          go_wp2_with (go_at_call 103;(with_reducible refine (takeInt8_none _ rb rj 0 B.rdr HS0.out).mono ?_);rintro e w9 ⟨rfl,rfl⟩)
          exact ⟨rfl,B.st,rfl,_,B.rdr⟩
        | some t0=>
          obtain ⟨i0,q0⟩:=t0
          have E0:=Lib.hid (rdI_some s0)
          have HS0:=Lib.hid s0
          clear s0
          go_wp2_with (go_at_call 103;(with_reducible refine (takeInt8_some _ rb rj 0 B.rdr HS0.out).mono ?_);rintro e w3 ⟨rfl,hR3,hS3⟩;have BN0:=B.next hS3 hR3;have p3:=BN0.box.fr 3;obtain ⟨y0,y1,y2,y3,y4,y5,y6,y7,y8,y9,y10,y11⟩:=row12 BN0.box.at_)
          have B1:CB w (w3.setCell ⟨cb,3,none⟩ (.int .i64 (wrap64 i0))) rb cb 0 q0 xs V.none ⟨kd,a,m,c, .empty,(wrap64 i0),0,0,vzero, .empty⟩:=BN0.set1 RStep.self (BN0.box.set (i:=3) (x:= .int .i64 (wrap64 i0)) (by simp [ccells])) rfl rfl rfl rfl
          cases s1:rdT q0 with
          | none=>
            obtain rfl:out=none:=by rw [←HO3.out,HE.out];simp only [E0.out,Option.bind_some,s1];rfl
            have HS1:=Lib.hid s1
            clear s1
            go_wp2_with (go_at_call 77;(with_reducible refine (rText_none _ rb q0 0 B1.rdr HS1.out).mono ?_);rintro e w9 ⟨rfl,hS9,hR9⟩)
            exact ⟨rfl,B1.st.trans hS9,rfl,hR9⟩
          | some t1=>
            obtain ⟨s1,q1⟩:=t1
            have E1:=Lib.hid (s1)
            have HS1:=Lib.hid s1
            clear s1
            go_wp2_with (go_at_call 77;(with_reducible refine (rText_some _ rb q0 0 B1.rdr HS1.out).mono ?_);rintro e w4 ⟨rfl,hR4,hS4⟩;have BN1:=B1.next hS4 hR4;have p11:=BN1.box.fr 11;obtain ⟨y0,y1,y2,y3,y4,y5,y6,y7,y8,y9,y10,y11⟩:=row12 BN1.box.at_;have r0:=BN1.res.at_ 0 _ rfl;have gr0:=BN1.res.fr 0;have r1:=BN1.res.at_ 1 _ rfl;have gr1:=BN1.res.fr 1;have r2:=BN1.res.at_ 2 _ rfl;have gr2:=BN1.res.fr 2;have r3:=BN1.res.at_ 3 _ rfl;have gr3:=BN1.res.fr 3;have r4:=BN1.res.at_ 4 _ rfl;have gr4:=BN1.res.fr 4;have r5:=BN1.res.at_ 5 _ rfl;have gr5:=BN1.res.fr 5;have r6:=BN1.res.at_ 6 _ rfl;have gr6:=BN1.res.fr 6;have r7:=BN1.res.at_ 7 _ rfl;have gr7:=BN1.res.fr 7;have r8:=BN1.res.at_ 8 _ rfl;have gr8:=BN1.res.fr 8;have r9:=BN1.res.at_ 9 _ rfl;have gr9:=BN1.res.fr 9;have r10:=BN1.res.at_ 10 _ rfl;have gr10:=BN1.res.fr 10;have r11:=BN1.res.at_ 11 _ rfl;have gr11:=BN1.res.fr 11)
            have B2:CB w (w4.setCell ⟨cb,11,none⟩ (.string s1)) rb cb 0 q1 xs V.none ⟨kd,a,m,c, .empty,(wrap64 i0),0,0,vzero,s1⟩:=BN1.set1 RStep.self (BN1.box.set (i:=11) (x:= .string s1) (by simp [ccells])) rfl rfl rfl rfl
            obtain rfl:out=some (⟨kd,xs, .empty,(wrap64 i0),0,0,V.none,s1⟩,q1):=by rw [←HO3.out,HE.out];simp only [E0.out,E1.out,Option.bind_some]
            exact B2.leave (⟨by show (0:Int)≤(kd:Int);omega,by show (kd:Int)<256;omega,i64_lo _,i64_hi _,(by decide:(-9223372036854775808:Int)≤0),(by decide:(0:Int)≤9223372036854775807),(by decide:(-9223372036854775808:Int)≤0),(by decide:(0:Int)≤9223372036854775807),(by decide:ByteArray.empty.size≤140737488355328),rdT_size E1.out⟩) rfl rfl rfl
      have f8:((kd:Int)==8)=false:=by simp;omega
      by_cases e9:kd=9
      case pos=>
        have HE:=Lib.hid (rdRest_9 (k:=kd) (by omega) xs rj)
        have f9:((kd:Int)==9)=true:=by subst e9;rfl
        clear e9
        have y0:=B.box.at_ 0 _ rfl
        cases s0:rdN 8 rj with
        | none=>
          obtain rfl:out=none:=by rw [←HO3.out,HE.out];simp only [rdI_none s0];rfl
          have HS0:=Lib.hid s0
          clear s0
          go_wp2_with (go_at_call 103;(with_reducible refine (takeInt8_none _ rb rj 0 B.rdr HS0.out).mono ?_);rintro e w9 ⟨rfl,rfl⟩)
          exact ⟨rfl,B.st,rfl,_,B.rdr⟩
        | some t0=>
          obtain ⟨i0,q0⟩:=t0
          have E0:=Lib.hid (rdI_some s0)
          have HS0:=Lib.hid s0
          clear s0
          go_wp2_with (go_at_call 103;(with_reducible refine (takeInt8_some _ rb rj 0 B.rdr HS0.out).mono ?_);rintro e w3 ⟨rfl,hR3,hS3⟩;have BN0:=B.next hS3 hR3;have p3:=BN0.box.fr 3;obtain ⟨y0,y1,y2,y3,y4,y5,y6,y7,y8,y9,y10,y11⟩:=row12 BN0.box.at_)
          have B1:CB w (w3.setCell ⟨cb,3,none⟩ (.int .i64 (wrap64 i0))) rb cb 0 q0 xs V.none ⟨kd,a,m,c, .empty,(wrap64 i0),0,0,vzero, .empty⟩:=BN0.set1 RStep.self (BN0.box.set (i:=3) (x:= .int .i64 (wrap64 i0)) (by simp [ccells])) rfl rfl rfl rfl
          cases s1:rdN 8 q0 with
          | none=>
            obtain rfl:out=none:=by rw [←HO3.out,HE.out];simp only [E0.out,Option.bind_some,rdI_none s1];rfl
            have HS1:=Lib.hid s1
            clear s1
            go_wp2_with (go_at_call 76;(with_reducible refine (takeI648_none _ rb q0 0 B1.rdr HS1.out).mono ?_);rintro e w9 ⟨rfl,rfl⟩)
            exact ⟨rfl,B1.st,rfl,_,B1.rdr⟩
          | some t1=>
            obtain ⟨n1,q1⟩:=t1
            have E1:=Lib.hid (rdI_some s1)
            have HS1:=Lib.hid s1
            clear s1
            go_wp2_with (go_at_call 76;(with_reducible refine (takeI648_some _ rb q0 0 B1.rdr HS1.out).mono ?_);rintro e w4 ⟨rfl,hR4,hS4⟩;have BN1:=B1.next hS4 hR4;have p5:=BN1.box.fr 5;obtain ⟨y0,y1,y2,y3,y4,y5,y6,y7,y8,y9,y10,y11⟩:=row12 BN1.box.at_;have r0:=BN1.res.at_ 0 _ rfl;have gr0:=BN1.res.fr 0;have r1:=BN1.res.at_ 1 _ rfl;have gr1:=BN1.res.fr 1;have r2:=BN1.res.at_ 2 _ rfl;have gr2:=BN1.res.fr 2;have r3:=BN1.res.at_ 3 _ rfl;have gr3:=BN1.res.fr 3;have r4:=BN1.res.at_ 4 _ rfl;have gr4:=BN1.res.fr 4;have r5:=BN1.res.at_ 5 _ rfl;have gr5:=BN1.res.fr 5;have r6:=BN1.res.at_ 6 _ rfl;have gr6:=BN1.res.fr 6;have r7:=BN1.res.at_ 7 _ rfl;have gr7:=BN1.res.fr 7;have r8:=BN1.res.at_ 8 _ rfl;have gr8:=BN1.res.fr 8;have r9:=BN1.res.at_ 9 _ rfl;have gr9:=BN1.res.fr 9;have r10:=BN1.res.at_ 10 _ rfl;have gr10:=BN1.res.fr 10;have r11:=BN1.res.at_ 11 _ rfl;have gr11:=BN1.res.fr 11)
            have B2:CB w (w4.setCell ⟨cb,5,none⟩ (.int .i64 (wrap64 n1))) rb cb 0 q1 xs V.none ⟨kd,a,m,c, .empty,(wrap64 i0),0,(wrap64 n1),vzero, .empty⟩:=BN1.set1 RStep.self (BN1.box.set (i:=5) (x:= .int .i64 (wrap64 n1)) (by simp [ccells])) rfl rfl rfl rfl
            obtain rfl:out=some (⟨kd,xs, .empty,(wrap64 i0),0,(wrap64 n1),V.none, .empty⟩,q1):=by rw [←HO3.out,HE.out];simp only [E0.out,E1.out,Option.bind_some]
            exact B2.leave (⟨by show (0:Int)≤(kd:Int);omega,by show (kd:Int)<256;omega,i64_lo _,i64_hi _,(by decide:(-9223372036854775808:Int)≤0),(by decide:(0:Int)≤9223372036854775807),i64_lo _,i64_hi _,(by decide:ByteArray.empty.size≤140737488355328),(by decide:ByteArray.empty.size≤140737488355328)⟩) rfl rfl rfl
      have f9:((kd:Int)==9)=false:=by simp;omega
      have HE:=Lib.hid (rdRest_0 (k:=kd) (by omega) (by omega) (by omega) (by omega) (by omega) (by omega) (by omega) (by omega) (by omega) xs rj)
      obtain rfl:out=some (⟨kd,xs, .empty,0,0,0,V.none, .empty⟩,rj):=by rw [←HO3.out,HE.out]
      clear e1 e2 e3 e4 e5 e6 e7 e8 e9
      obtain ⟨y0,y1,y2,y3,y4,y5,y6,y7,y8,y9,y10,y11⟩:=row12 B.box.at_
      have r0:=B.res.at_ 0 _ rfl;have gr0:=B.res.fr 0;have r1:=B.res.at_ 1 _ rfl;have gr1:=B.res.fr 1;have r2:=B.res.at_ 2 _ rfl;have gr2:=B.res.fr 2;have r3:=B.res.at_ 3 _ rfl;have gr3:=B.res.fr 3;have r4:=B.res.at_ 4 _ rfl;have gr4:=B.res.fr 4;have r5:=B.res.at_ 5 _ rfl;have gr5:=B.res.fr 5;have r6:=B.res.at_ 6 _ rfl;have gr6:=B.res.fr 6;have r7:=B.res.at_ 7 _ rfl;have gr7:=B.res.fr 7;have r8:=B.res.at_ 8 _ rfl;have gr8:=B.res.fr 8;have r9:=B.res.at_ 9 _ rfl;have gr9:=B.res.fr 9;have r10:=B.res.at_ 10 _ rfl;have gr10:=B.res.fr 10;have r11:=B.res.at_ 11 _ rfl;have gr11:=B.res.fr 11
      go_wp2_with fail
      exact B.leave (⟨by show (0:Int)≤(kd:Int);omega,by show (kd:Int)<256;omega,(by decide:(-9223372036854775808:Int)≤0),(by decide:(0:Int)≤9223372036854775807),(by decide:(-9223372036854775808:Int)≤0),(by decide:(0:Int)≤9223372036854775807),(by decide:(-9223372036854775808:Int)≤0),(by decide:(0:Int)≤9223372036854775807),(by decide:ByteArray.empty.size≤140737488355328),(by decide:ByteArray.empty.size≤140737488355328)⟩) rfl rfl rfl
end Go.Proofs.YthceefjafklcmaaGreatDoor
