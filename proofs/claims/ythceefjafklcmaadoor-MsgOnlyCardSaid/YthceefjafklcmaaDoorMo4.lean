/-
  Contracts of the functions that the law reaches: reader.value, whole. reader.comp. reader.entry. whole at entries. whole at values.
-/
import Derived.Test.YthceefjafklcmaaDoorMo3
namespace Go.Proofs.YthceefjafklcmaaDoor
open Go.RowKit
theorem rValue_any (k:Nat):∀(w:World) (rb:Nat) (bs:List UInt8) (d:Int),Rdr w rb bs d→0≤d→d+k=18→Calls Tryd.prog 40 #[.pointer (some ⟨rb,0,none⟩)] w (RVPost w rb d (rdV k bs)):=by
  induction k with
  |zero=>intro w rb bs d h h0 hk;exact rv_deep w rb bs d h (by omega)
  | succ k ih=>
    intro w rb bs d h h0 hk
    have hd:d≤17:=by omega
    cases hr:rdN 1 bs with
    | none=>
      have e:rdV (k+1) bs=none:=by rw [rdV,hr];rfl
      rw [e];exact rv_none w rb bs d h h0 hd hr
    | some p=>
      obtain ⟨kd,r⟩:=p
      by_cases e12:kd=1∨kd=2
      · cases h2:rdN 8 r with
        | none=>
          have e:rdV (k+1) bs=none:=by rw [rdV,hr];simp only [Option.bind_some,if_pos e12,h2];rfl
          rw [e]
          rcases e12 with e1|e1
          · exact rv_int1_none w rb bs d h h0 hd hr e1 h2
          · exact rv_int2_none w rb bs d h h0 hd hr e1 h2
        | some q=>
          obtain ⟨n,r2⟩:=q
          have e:rdV (k+1) bs=some (.mk kd (wrap64 n) .empty [] [],r2):=by rw [rdV,hr];simp only [Option.bind_some,if_pos e12,h2]
          rw [e]
          rcases e12 with e1|e1
          · exact rv_int1_some w rb bs d h h0 hd hr e1 h2
          · exact rv_int2_some w rb bs d h h0 hd hr e1 h2
      by_cases e3:kd=3
      · cases h2:rdT r with
        | none=>
          have e:rdV (k+1) bs=none:=by rw [rdV,hr];simp only [Option.bind_some,if_neg e12,if_pos e3,h2];rfl
          rw [e];exact rv_text_none w rb bs d h h0 hd hr e3 h2
        | some q=>
          obtain ⟨s,r2⟩:=q
          have e:rdV (k+1) bs=some (.mk kd 0 s [] [],r2):=by rw [rdV,hr];simp only [Option.bind_some,if_neg e12,if_pos e3,h2]
          rw [e];exact rv_text_some w rb bs d h h0 hd hr e3 h2
      by_cases e4:kd=4
      · cases h2:rdM 4 r with
        | none=>
          have e:rdV (k+1) bs=none:=by rw [rdV,hr];simp only [Option.bind_some,if_neg e12,if_neg e3,if_pos e4,h2];rfl
          rw [e];exact rv_list_none w rb bs d h h0 hd hr e4 h2
        | some q=>
          obtain ⟨n,q⟩:=q
          have e:rdV (k+1) bs=(rdL (fun x=>rdV k x) n q).bind fun p=>some (.mk kd 0 .empty p.1 [],p.2):=by rw [rdV,hr];simp only [Option.bind_some,if_neg e12,if_neg e3,if_pos e4,h2]
          rw [e];exact rv_list_any w rb bs d h h0 hd hr e4 h2 k (fun W bs hR=>ih W rb bs (d+1) hR (by omega) (by omega)) rfl
      by_cases e5:kd=5
      · cases h2:rdM 4 r with
        | none=>
          have e:rdV (k+1) bs=none:=by rw [rdV,hr];simp only [Option.bind_some,if_neg e12,if_neg e3,if_neg e4,if_pos e5,h2];rfl
          rw [e];exact rv_obj_none w rb bs d h h0 hd hr e5 h2
        | some q=>
          obtain ⟨n,q⟩:=q
          have e:rdV (k+1) bs=(rdL (fun x=>(rdT x).bind fun y=>(rdV k y.2).bind fun z=>some ((y.1,z.1),z.2)) n q).bind fun p=>some (.mk kd 0 .empty [] p.1,p.2):=by rw [rdV,hr];simp only [Option.bind_some,if_neg e12,if_neg e3,if_neg e4,if_pos e5,h2]
          rw [e];exact rv_obj_any w rb bs d h h0 hd hr e5 h2 k (fun W bs hR=>ih W rb bs (d+1) hR (by omega) (by omega)) rfl
      · have e:rdV (k+1) bs=some (.mk kd 0 .empty [] [],r):=by rw [rdV,hr];simp only [Option.bind_some,if_neg e12,if_neg e3,if_neg e4,if_neg e5]
        rw [e];exact rv_other w rb bs d h h0 hd hr (by omega)
end Go.Proofs.YthceefjafklcmaaDoor
namespace Go.Proofs.YthceefjafklcmaaDoor
open Go.RowKit
def rdRest (k:Int) (path:List St) (bs:List UInt8):Option (Cm×List UInt8):=
  (rdIf (hasB (saysB k) 75) .empty rdT bs).bind fun kk=>(rdIf (hasB (saysB k) 73) 0 rdI kk.2).bind fun i=>(rdIf (hasB (saysB k) 74) 0 rdI i.2).bind fun j=>
  (rdIf (hasB (saysB k) 78) 0 rdI j.2).bind fun m=>(rdIf (hasB (saysB k) 86) V.none (rdV 18) m.2).bind fun v=>(rdIf (hasB (saysB k) 83) .empty rdT v.2).bind fun s=>
  some (⟨k,path,kk.1,i.1,j.1,m.1,v.1,s.1⟩,s.2)
theorem rdC_eq (bs:List UInt8):rdC bs=(rdN 1 bs).bind fun p=>(rdM 1 p.2).bind fun n=>(rdL (fun x=>rdS x) n.1 n.2).bind fun q=>rdRest p.1 q.1 q.2:=rfl
theorem rdI_none {bs:List UInt8} (h:rdN 8 bs=none):rdI bs=none:=by rw [rdI,h];rfl
theorem rdI_some {bs r:List UInt8} {n:Nat} (h:rdN 8 bs=some (n,r)):rdI bs=some (wrap64 n,r):=by rw [rdI,h];rfl
theorem ginfoS:(Tryd.prog.info? 124).map (fun i=>(i.zero,i.size,i.bytes))=some (some (.agg #[.bool false, .int .i64 0, .string { data:= #[] }]),3,32):=by kernel_rfl
theorem rdRest_1 {k:Int} (hk:k=1) (p:List St) (bs:List UInt8):rdRest k p bs=(rdI bs).bind fun zn=>some (⟨k,p, .empty,0,0,zn.1,V.none, .empty⟩,zn.2):=by
  subst hk
  simp [rdRest,rdIf,saysB,hasB]
theorem rdRest_2 {k:Int} (hk:k=2) (p:List St) (bs:List UInt8):rdRest k p bs=(rdT bs).bind fun zk=>(rdV 18 zk.2).bind fun zv=>some (⟨k,p,zk.1,0,0,0,zv.1, .empty⟩,zv.2):=by
  subst hk
  simp [rdRest,rdIf,saysB,hasB]
theorem rdRest_3 {k:Int} (hk:k=3) (p:List St) (bs:List UInt8):rdRest k p bs=(rdT bs).bind fun zk=>some (⟨k,p,zk.1,0,0,0,V.none, .empty⟩,zk.2):=by
  subst hk
  simp [rdRest,rdIf,saysB,hasB]
theorem rdRest_4 {k:Int} (hk:k=4) (p:List St) (bs:List UInt8):rdRest k p bs=(rdI bs).bind fun zi=>(rdV 18 zi.2).bind fun zv=>some (⟨k,p, .empty,zi.1,0,0,zv.1, .empty⟩,zv.2):=by
  subst hk
  simp [rdRest,rdIf,saysB,hasB]
theorem rdRest_5 {k:Int} (hk:k=5) (p:List St) (bs:List UInt8):rdRest k p bs=(rdI bs).bind fun zi=>some (⟨k,p, .empty,zi.1,0,0,V.none, .empty⟩,zi.2):=by
  subst hk
  simp [rdRest,rdIf,saysB,hasB]
theorem rdRest_6 {k:Int} (hk:k=6) (p:List St) (bs:List UInt8):rdRest k p bs=(rdI bs).bind fun zi=>(rdV 18 zi.2).bind fun zv=>some (⟨k,p, .empty,zi.1,0,0,zv.1, .empty⟩,zv.2):=by
  subst hk
  simp [rdRest,rdIf,saysB,hasB]
theorem rdRest_7 {k:Int} (hk:k=7) (p:List St) (bs:List UInt8):rdRest k p bs=(rdI bs).bind fun zi=>(rdI zi.2).bind fun zj=>some (⟨k,p, .empty,zi.1,zj.1,0,V.none, .empty⟩,zj.2):=by
  subst hk
  simp [rdRest,rdIf,saysB,hasB]
theorem rdRest_8 {k:Int} (hk:k=8) (p:List St) (bs:List UInt8):rdRest k p bs=(rdI bs).bind fun zi=>(rdT zi.2).bind fun zs=>some (⟨k,p, .empty,zi.1,0,0,V.none,zs.1⟩,zs.2):=by
  subst hk
  simp [rdRest,rdIf,saysB,hasB]
theorem rdRest_9 {k:Int} (hk:k=9) (p:List St) (bs:List UInt8):rdRest k p bs=(rdI bs).bind fun zi=>(rdI zi.2).bind fun zn=>some (⟨k,p, .empty,zi.1,0,zn.1,V.none, .empty⟩,zn.2):=by
  subst hk
  simp [rdRest,rdIf,saysB,hasB]
theorem rdRest_0 {k:Int} (e1:k≠1) (e2:k≠2) (e3:k≠3) (e4:k≠4) (e5:k≠5) (e6:k≠6) (e7:k≠7) (e8:k≠8) (e9:k≠9) (p:List St) (bs:List UInt8):rdRest k p bs=some (⟨k,p, .empty,0,0,0,V.none, .empty⟩,bs):=by
  simp [rdRest,rdIf,saysB,hasB,e1,e2,e3,e4,e5,e6,e7,e8,e9]
theorem rv18_none (w:World) (rb:Nat) (bs:List UInt8) (h:Rdr w rb bs 0) (hr:rdV 18 bs=none):
    Calls Tryd.prog 40 #[.pointer (some ⟨rb,0,none⟩)] w fun e w'=>e= .panicked [short] ∧RStep w w' rb∧∃bs',Rdr w' rb bs' 0:=by
  have:=rValue_any 18 w rb bs 0 h (by omega) (by omega)
  rw [hr] at this
  exact this.mono fun e w' ⟨h1,h2,h3⟩=>⟨h2,h1,h3⟩
theorem rv18_some (w:World) (rb:Nat) (bs:List UInt8) (h:Rdr w rb bs 0) {x:V} {r:List UInt8} (hr:rdV 18 bs=some (x,r)):
    Calls Tryd.prog 40 #[.pointer (some ⟨rb,0,none⟩)] w fun e w'=>∃c:VC,e= .returned (.agg #[.int .u8 c.k, .int .i64 c.n, .string c.s, .slice c.la c.ll c.lc, .slice c.oa c.ol c.oc])∧RStep w w' rb∧IsVal (only (fun b=>w.heap.size≤b) w') w'.heap.size x c∧Rdr w' rb r 0:=by
  have:=rValue_any 18 w rb bs 0 h (by omega) (by omega)
  rw [hr] at this
  exact this.mono fun e w' h=>RV_some h
set_option maxHeartbeats 16000000 in
set_option maxRecDepth 100000 in
theorem rComp_any (w:World) (rb:Nat) (bs:List UInt8) (h:Rdr w rb bs 0) {out:Option (Cm×List UInt8)} (hout:rdC bs=out):
    Calls Tryd.prog 67 #[.pointer (some ⟨rb,0,none⟩)] w (RCPost w rb 0 out):=by
  obtain ⟨i0,hi0,hz0,hz1,hz2⟩:=info_parts ginfoS
  have hlt:=h.lt
  have HB:=Lib.hid ((Below.refl _ _).alloc (Nat.le_refl _) (.cells #[.int .u8 0, .slice none 0 0, .string { data:= #[] }, .int .i64 0, .int .i64 0, .int .i64 0, .int .u8 0, .int .i64 0, .string { data:= #[] }, .slice none 0 0, .slice none 0 0, .string { data:= #[] }] 75):Below w.heap.size w (w.alloc (.cells #[.int .u8 0, .slice none 0 0, .string { data:= #[] }, .int .i64 0, .int .i64 0, .int .i64 0, .int .u8 0, .int .i64 0, .string { data:= #[] }, .slice none 0 0, .slice none 0 0, .string { data:= #[] }] 75)))
  have HR0:=Lib.hid (h.of_below HB.out)
  have HC0:=Lib.hid (BC.start w #[.int .u8 0, .slice none 0 0, .string { data:= #[] }, .int .i64 0, .int .i64 0, .int .i64 0, .int .u8 0, .int .i64 0, .string { data:= #[] }, .slice none 0 0, .slice none 0 0, .string { data:= #[] }] 75)
  rw [rdC_eq] at hout
  clear h
  cases hr:rdN 1 bs with
  | none=>
    obtain rfl:out=none:=by rw [←hout,hr];rfl
    clear hout
    have HN:=Lib.hid hr
    clear hr
    go_enter Tryd.func67,Tryd.ntmps67
    go_wp2_with (go_at_call 64;(with_reducible refine (takeU81_none _ rb bs 0 HR0.out HN.out).mono ?_);rintro e w1 ⟨rfl,rfl⟩)
    exact ⟨rfl, .of_below rb HB.out,rfl,bs,HR0.out⟩
  |some p=>
  obtain ⟨kd,r⟩:=p
  have hk1:kd<256:=rdN_lt hr
  rw [hr] at hout
  simp only [Option.bind_some] at hout
  have HN:=Lib.hid hr
  clear hr
  have TK:Hid (∀W,W=w.alloc (.cells #[.int .u8 0, .slice none 0 0, .string { data:= #[] }, .int .i64 0, .int .i64 0, .int .i64 0, .int .u8 0, .int .i64 0, .string { data:= #[] }, .slice none 0 0, .slice none 0 0, .string { data:= #[] }] 75)→Calls Tryd.prog 64 #[.pointer (some ⟨rb,0,none⟩), .int .i64 1] W fun e w'=>e= .returned (.int .u8 kd)∧Rdr w' rb r 0∧RStep w w' rb∧BC w' w.heap.size (ccells czero)∧w.heap.size+1≤w'.heap.size):=by
    intro W hW
    subst hW
    refine (takeU81_some _ rb bs 0 HR0.out HN.out).mono fun e w' ⟨h1,h2,h3⟩=>⟨h1,h2,(RStep.of_below rb HB.out).trans h3,HC0.out.next h3 (by omega),by have:=h3.size;simp at this;omega⟩
  clear HN HR0 HC0
  cases hm:rdM 1 r with
  | none=>
    obtain rfl:out=none:=by rw [←hout,hm];rfl
    have HM:=Lib.hid hm
    clear hout hm
    go_enter Tryd.func67,Tryd.ntmps67
    go_wp2_with (first|(go_at_call 64;(with_reducible refine (TK.out _ rfl).mono ?_);rintro e w1 ⟨rfl,hR,hS,hC,hz⟩)|(go_at_call 66;(with_reducible refine (many1_none _ rb r 0 (hR.of_below ((Below.refl _ _).alloc (Nat.le_refl _) _)) HM.out).mono ?_);rintro e w2 ⟨rfl,hS2,hR2⟩))
    exact ⟨rfl,(hS.trans (.of_below rb ((Below.refl _ _).alloc (Nat.le_refl _) _))).trans hS2,rfl,hR2⟩
  |some pn=>
  obtain ⟨n,q⟩:=pn
  rw [hm] at hout
  simp only [Option.bind_some] at hout
  have hn4:n<256:=rdN_lt (rdM_some hm).1
  have HM:=Lib.hid hm
  have HO:=Lib.hid hout
  clear hm hout
  go_enter Tryd.func67,Tryd.ntmps67
  go_wp2_with (first|(go_at_call 64;(with_reducible refine (TK.out _ rfl).mono ?_);rintro e w1 ⟨rfl,hR,hS,hC,hz⟩)|(go_at_call 66;(with_reducible refine (many1_some _ rb r 0 (hR.of_below ((Below.refl _ _).alloc (Nat.le_refl _) _)) HM.out).mono ?_);rintro e w2 ⟨rfl,hR2,hS2⟩))
  have LS0:LS w w2 rb w1.heap.size 0 kd q 0 none 0 0 [] q:=⟨rfl,rfl,(fun _ hs=>absurd hs (by simp)),hR2,(hS.trans (.of_below rb ((Below.refl _ _).alloc (Nat.le_refl _) _))).trans hS2,(hC.keep ((Below.refl _ _).alloc (Nat.le_refl _) _) (by omega)).next hS2 (by omega),(BC.start w1 #[.int .u8 kd, .slice none 0 0, .string { data:= #[] }, .int .i64 0, .int .i64 0, .int .i64 0, .int .u8 0, .int .i64 0, .string { data:= #[] }, .slice none 0 0, .slice none 0 0, .string { data:= #[] }] 75).next hS2 (by omega),Row.nil _ _ _ _ _,hz,hlt⟩
  obtain ⟨cb,hcb⟩:∃cb,w1.heap.size=cb:=⟨_,rfl⟩
  rw [hcb] at LS0 hz ⊢
  clear hR hC hR2 hcb TK HM HB
  have zs0:w.heap.size<cb:=by omega
  go_loopw [9] (fun i wr=>∃(j:Nat) (a:Option Addr) (m c:Nat) (xs:List St) (rj:List UInt8),j≤n∧i= .int .i64 j∧LS w wr rb cb 0 kd q j a m c xs rj) (fun i _=>n - (intOf i).toNat)
  case atStart=>exact ⟨0,none,0,0, [],q,Nat.zero_le _,rfl,LS0⟩
  case round=>
    clear LS0
    obtain ⟨j,a,m,c,xs,rj,hj,rfl,L⟩:=hrel
    have y1:=L.box.at_ 1 _ rfl
    have p1:=L.box.fr 1
    have hvlt:=L.box.lt
    by_cases hlt2:j<n
    · have HO2:Hid (∀W,RStep wr.drew W rb→W.ownsRow (cb+1) 124 3 (.slice a m c) j (xs.flatMap scells)∧W.cell? ⟨cb,1,none⟩=some (.slice a m c)∧W.frozen? ⟨cb,1,none⟩=false∧cb<W.heap.size):=by
        intro W hW
        have ho:=((L.row.later PT.closed (.of_below rb (drew_below wr)) (by omega)).later PT.closed hW (by omega)).own
        rw [L.len] at ho
        exact ⟨ho,hW.cell (w:=wr.drew) y1 (by omega),(hW.frozen (w:=wr.drew) hvlt (by omega)).trans p1,Nat.lt_of_lt_of_le hvlt hW.size⟩
      have hne:(Value.slice a m c).ownBlock≠some cb:=fun e=>by have:=(L.row.lt _ e).1;omega
      have HC:Hid (Calls Tryd.prog 85 #[.pointer (some ⟨rb,0,none⟩)] wr.drew (RSPost wr.drew rb 0 (rdS rj))):=rStep_any wr.drew rb rj 0 (L.rdr.of_below (drew_below wr))
      cases hx:rdS rj with
      | none=>
        obtain rfl:out=none:=by
          rw [←HO.out,rdL_none (f:=fun x=>rdS x) (i:=j+1) (n:=n) (by rw [rdL,L.rd];simp only [Option.bind_some,hx];rfl) (by omega)];rfl
        rw [hx] at HC
        have LL:=Lib.hid L
        clear hx L
        go_wp2_with fail
        refine wp_region_panicP [] (fun w'=>RStep wr.drew w' rb∧∃bs',Rdr w' rb bs' 0) (fun a w' hD hw=> ?_) ?_
        · obtain ⟨hS4,bs4,hR4⟩:=hw
          exact ⟨hD,(LL.out.st.trans (.of_below rb (drew_below wr))).trans hS4,rfl,bs4,hR4⟩
        go_region_law
          (first
            |(go_simp;go_at_call 85;refine (HC.out).mono ?_;intro e w4 hP;by_cases hv:e= .returned (.agg #[.bool false, .int .i64 0, .string { data:= #[] }]);rotate_left;(focus (obtain ⟨hS4,he,hR4⟩:=hP;subst he;exact ⟨rfl,rfl,hS4,hR4⟩));obtain ⟨hS4,he,hR4⟩:=hP;rw [hv] at he;have HF:=Lib.hid he;clear he;subst hv;obtain ⟨ho4,hc4,hf4,hv4⟩:=HO2.out w4 hS4)
            |(refine step_append_lies _ (by rfl) _ _ _ (by rfl) (cb+1) 124 i0 _ 3 32 (by kernel_rfl) hi0 hz0 hz1 hz2 rfl (by omega) (.slice a m c) j (xs.flatMap scells) (by rfl) (ho4.alloc _) ⟨w4.heap.size,0,none⟩ 1 1 (scells ⟨false,0, .empty⟩) (by rfl) (by rfl) (World.news_of_block (t:=124) (fr:=(0,0)) (heap_alloc_new w4 _)) (by simp [scells,Value.oneCell']) (by omega) (by unfold maxLen;omega) (by omega) (by simp;omega) (w4.heap.size+1) (by simp) ?_;intro g cap w5 hown5 hgrow5 hat5 hlt5;have hc5:w5.cell? ⟨cb,1,none⟩=some (.slice a m c):=(hgrow5.cell_far ⟨cb,1,none⟩ (by simp;omega) (Ne.symm hne)).trans (keep_cell ((Below.refl _ _).alloc (Nat.le_refl _) _) hc4 hv4);have hf5:w5.frozen? ⟨cb,1,none⟩=false:=(hgrow5.frozen_far ⟨cb,1,none⟩ (by simp;omega) (Ne.symm hne)).trans ((((Below.refl _ _).alloc (Nat.le_refl _) _:Below w4.heap.size w4 (w4.alloc _)).frozen (p:=⟨cb,1,none⟩) hv4).trans hf4)))
        all_goals cases HF.out
      |some xr=>
      obtain ⟨x,r3⟩:=xr
      have HX:=Lib.hid hx
      have LL:=Lib.hid L
      rw [hx] at HC
      clear hx L
      go_wp2_with fail
      refine wp_region_noPanic ?_
      go_region_law
        (first
          |(go_simp;go_at_call 85;refine (HC.out).mono ?_;rintro e w4 ⟨hS4,rfl,hR4⟩;obtain ⟨ho4,hc4,hf4,hv4⟩:=HO2.out w4 hS4)
          |(refine step_append_lies _ (by rfl) _ _ _ (by rfl) (cb+1) 124 i0 _ 3 32 (by kernel_rfl) hi0 hz0 hz1 hz2 rfl (by omega) (.slice a m c) j (xs.flatMap scells) (by rfl) (ho4.alloc _) ⟨w4.heap.size,0,none⟩ 1 1 (scells x) (by rfl) (by rfl) (World.news_of_block (t:=124) (fr:=(0,0)) (heap_alloc_new w4 _)) (by simp [scells,Value.oneCell']) (by omega) (by unfold maxLen;omega) (by omega) (by simp;omega) (w4.heap.size+1) (by simp) ?_;intro g cap w5 hown5 hgrow5 hat5 hlt5;have hc5:w5.cell? ⟨cb,1,none⟩=some (.slice a m c):=(hgrow5.cell_far ⟨cb,1,none⟩ (by simp;omega) (Ne.symm hne)).trans (keep_cell ((Below.refl _ _).alloc (Nat.le_refl _) _) hc4 hv4);have hf5:w5.frozen? ⟨cb,1,none⟩=false:=(hgrow5.frozen_far ⟨cb,1,none⟩ (by simp;omega) (Ne.symm hne)).trans ((((Below.refl _ _).alloc (Nat.le_refl _) _:Below w4.heap.size w4 (w4.alloc _)).frozen (p:=⟨cb,1,none⟩) hv4).trans hf4)))
      all_goals
        refine NoPanic.normal ?_
        go_wp2_with fail
        go_roundw
        case rel=>exact ⟨j+1,some ⟨g,0,none⟩,j+1,cap,xs++ [x],r3,by omega,by go_num,LL.out.round HX.out hS4 hR4 hown5 hgrow5 hat5⟩
        case measure=>simp [intOf];omega
    · have hjn:j=n:=by omega
      subst hjn
      have HO3:Hid (rdRest kd xs rj=out):=by unfold Hid;rw [←HO.out,L.rd];rfl
      have B:=CB.start L (by omega)
      clear L HO y1 p1
      by_cases e1:kd=1
      case pos=>
        have HE:=Lib.hid (rdRest_1 (k:=kd) (by omega) xs rj)
        have f1:((kd:Int)==1)=true:=by subst e1;rfl
        have f2:((kd:Int)==2)=false:=by subst e1;rfl
        have f3:((kd:Int)==3)=false:=by subst e1;rfl
        have f4:((kd:Int)==4)=false:=by subst e1;rfl
        have f5:((kd:Int)==5)=false:=by subst e1;rfl
        have f6:((kd:Int)==6)=false:=by subst e1;rfl
        have f7:((kd:Int)==7)=false:=by subst e1;rfl
        have f8:((kd:Int)==8)=false:=by subst e1;rfl
        have f9:((kd:Int)==9)=false:=by subst e1;rfl
        clear e1
        have y0:=B.box.at_ 0 _ rfl
        cases s0:rdN 8 rj with
        | none=>
          obtain rfl:out=none:=by rw [←HO3.out,HE.out];simp only [rdI_none s0];rfl
          have HS0:=Lib.hid s0
          clear s0
          go_wp2_with (go_at_call 70;(with_reducible refine (takeI648_none _ rb rj 0 B.rdr HS0.out).mono ?_);rintro e w9 ⟨rfl,rfl⟩)
          exact ⟨rfl,B.st,rfl,_,B.rdr⟩
        | some t0=>
          obtain ⟨n0,q0⟩:=t0
          have E0:=Lib.hid (rdI_some s0)
          have HS0:=Lib.hid s0
          clear s0
          go_wp2_with (go_at_call 70;(with_reducible refine (takeI648_some _ rb rj 0 B.rdr HS0.out).mono ?_);rintro e w3 ⟨rfl,hR3,hS3⟩;have BN0:=B.next hS3 hR3;have p5:=BN0.box.fr 5;obtain ⟨y0,y1,y2,y3,y4,y5,y6,y7,y8,y9,y10,y11⟩:=row12 BN0.box.at_;have r0:=BN0.res.at_ 0 _ rfl;have gr0:=BN0.res.fr 0;have r1:=BN0.res.at_ 1 _ rfl;have gr1:=BN0.res.fr 1;have r2:=BN0.res.at_ 2 _ rfl;have gr2:=BN0.res.fr 2;have r3:=BN0.res.at_ 3 _ rfl;have gr3:=BN0.res.fr 3;have r4:=BN0.res.at_ 4 _ rfl;have gr4:=BN0.res.fr 4;have r5:=BN0.res.at_ 5 _ rfl;have gr5:=BN0.res.fr 5;have r6:=BN0.res.at_ 6 _ rfl;have gr6:=BN0.res.fr 6;have r7:=BN0.res.at_ 7 _ rfl;have gr7:=BN0.res.fr 7;have r8:=BN0.res.at_ 8 _ rfl;have gr8:=BN0.res.fr 8;have r9:=BN0.res.at_ 9 _ rfl;have gr9:=BN0.res.fr 9;have r10:=BN0.res.at_ 10 _ rfl;have gr10:=BN0.res.fr 10;have r11:=BN0.res.at_ 11 _ rfl;have gr11:=BN0.res.fr 11)
          have B1:CB w (w3.setCell ⟨cb,5,none⟩ (.int .i64 (wrap64 n0))) rb cb 0 q0 xs V.none ⟨kd,a,m,c, .empty,0,0,(wrap64 n0),vzero, .empty⟩:=BN0.set1 RStep.self (BN0.box.set (i:=5) (x:= .int .i64 (wrap64 n0)) (by simp [ccells])) rfl rfl rfl rfl
          obtain rfl:out=some (⟨kd,xs, .empty,0,0,(wrap64 n0),V.none, .empty⟩,q0):=by rw [←HO3.out,HE.out];simp only [E0.out,Option.bind_some]
          exact B1.leave (⟨by show (0:Int)≤(kd:Int);omega,by show (kd:Int)<256;omega,(by decide:(-9223372036854775808:Int)≤0),(by decide:(0:Int)≤9223372036854775807),(by decide:(-9223372036854775808:Int)≤0),(by decide:(0:Int)≤9223372036854775807),i64_lo _,i64_hi _,(by decide:ByteArray.empty.size≤140737488355328),(by decide:ByteArray.empty.size≤140737488355328)⟩) rfl rfl rfl
      have f1:((kd:Int)==1)=false:=by simp;omega
      by_cases e2:kd=2
      case pos=>
        have HE:=Lib.hid (rdRest_2 (k:=kd) (by omega) xs rj)
        have f2:((kd:Int)==2)=true:=by subst e2;rfl
        have f3:((kd:Int)==3)=false:=by subst e2;rfl
        have f4:((kd:Int)==4)=false:=by subst e2;rfl
        have f5:((kd:Int)==5)=false:=by subst e2;rfl
        have f6:((kd:Int)==6)=false:=by subst e2;rfl
        have f7:((kd:Int)==7)=false:=by subst e2;rfl
        have f8:((kd:Int)==8)=false:=by subst e2;rfl
        have f9:((kd:Int)==9)=false:=by subst e2;rfl
        clear e2
        have y0:=B.box.at_ 0 _ rfl
        cases s0:rdT rj with
        | none=>
          obtain rfl:out=none:=by rw [←HO3.out,HE.out];simp only [s0];rfl
          have HS0:=Lib.hid s0
          clear s0
          go_wp2_with (go_at_call 71;(with_reducible refine (rText_none _ rb rj 0 B.rdr HS0.out).mono ?_);rintro e w9 ⟨rfl,hS9,hR9⟩)
          exact ⟨rfl,B.st.trans hS9,rfl,hR9⟩
        | some t0=>
          obtain ⟨k0,q0⟩:=t0
          have E0:=Lib.hid (s0)
          have HS0:=Lib.hid s0
          clear s0
          go_wp2_with (go_at_call 71;(with_reducible refine (rText_some _ rb rj 0 B.rdr HS0.out).mono ?_);rintro e w3 ⟨rfl,hR3,hS3⟩;have BN0:=B.next hS3 hR3;have p2:=BN0.box.fr 2;obtain ⟨y0,y1,y2,y3,y4,y5,y6,y7,y8,y9,y10,y11⟩:=row12 BN0.box.at_)
          have B1:CB w (w3.setCell ⟨cb,2,none⟩ (.string k0)) rb cb 0 q0 xs V.none ⟨kd,a,m,c,k0,0,0,0,vzero, .empty⟩:=BN0.set1 RStep.self (BN0.box.set (i:=2) (x:= .string k0) (by simp [ccells])) rfl rfl rfl rfl
          cases s1:rdV 18 q0 with
          | none=>
            obtain rfl:out=none:=by rw [←HO3.out,HE.out];simp only [E0.out,Option.bind_some,s1];rfl
            have HS1:=Lib.hid s1
            clear s1
            go_wp2_with (go_at_call 40;(with_reducible refine (rv18_none _ rb q0 B1.rdr HS1.out).mono ?_);rintro e w9 ⟨rfl,hS9,hR9⟩)
            exact ⟨rfl,B1.st.trans hS9,rfl,hR9⟩
          | some t1=>
            obtain ⟨v1,q1⟩:=t1
            have E1:=Lib.hid (s1)
            have HS1:=Lib.hid s1
            clear s1
            rename_i KR aR KC aC
            have HKR:=Lib.hid aR
            clear aR
            go_wp2_with (go_at_call 40;(with_reducible refine (rv18_some _ rb q0 B1.rdr HS1.out).mono ?_);rintro e w4 ⟨cv,rfl,hS4,hI4,hR4⟩;have BN1:=B1.next hS4 hR4;have p6:=BN1.box.fr 6;have p7:=BN1.box.fr 7;have p8:=BN1.box.fr 8;have p9:=BN1.box.fr 9;have p10:=BN1.box.fr 10;have y6:=BN1.box.at_ 6 _ rfl;have y7:=BN1.box.at_ 7 _ rfl;have y8:=BN1.box.at_ 8 _ rfl;have y9:=BN1.box.at_ 9 _ rfl;have y10:=BN1.box.at_ 10 _ rfl)
            have B2:CB w (((((w4.setCell ⟨cb,6,none⟩ (.int .u8 cv.k)).setCell ⟨cb,7,none⟩ (.int .i64 cv.n)).setCell ⟨cb,8,none⟩ (.string cv.s)).setCell ⟨cb,9,none⟩ (.slice cv.la cv.ll cv.lc)).setCell ⟨cb,10,none⟩ (.slice cv.oa cv.ol cv.oc)) rb cb 0 q1 xs v1 ⟨kd,a,m,c,k0,0,0,0,cv, .empty⟩:=B1.value hS4 hR4 hI4 ((((RStep.self.trans RStep.self).trans RStep.self).trans RStep.self).trans RStep.self) (((((BN1.box.set (i:=6) (x:= .int .u8 cv.k) (by simp [ccells])).set (i:=7) (x:= .int .i64 cv.n) (by simp [ccells])).set (i:=8) (x:= .string cv.s) (by simp [ccells])).set (i:=9) (x:= .slice cv.la cv.ll cv.lc) (by simp [ccells])).set (i:=10) (x:= .slice cv.oa cv.ol cv.oc) (by simp [ccells])) rfl rfl rfl
            obtain ⟨W2,hW2⟩:∃W2,(((((w4.setCell ⟨cb,6,none⟩ (.int .u8 cv.k)).setCell ⟨cb,7,none⟩ (.int .i64 cv.n)).setCell ⟨cb,8,none⟩ (.string cv.s)).setCell ⟨cb,9,none⟩ (.slice cv.la cv.ll cv.lc)).setCell ⟨cb,10,none⟩ (.slice cv.oa cv.ol cv.oc))=W2:=⟨_,rfl⟩
            rw [hW2] at B2 ⊢
            have hcl:=B2.box.lt
            clear hW2 BN1 hI4
            obtain ⟨y0,y1,y2,y3,y4,y5,y6,y7,y8,y9,y10,y11⟩:=row12 B2.box.at_
            have r0:=B2.res.at_ 0 _ rfl;have gr0:=B2.res.fr 0;have r1:=B2.res.at_ 1 _ rfl;have gr1:=B2.res.fr 1;have r2:=B2.res.at_ 2 _ rfl;have gr2:=B2.res.fr 2;have r3:=B2.res.at_ 3 _ rfl;have gr3:=B2.res.fr 3;have r4:=B2.res.at_ 4 _ rfl;have gr4:=B2.res.fr 4;have r5:=B2.res.at_ 5 _ rfl;have gr5:=B2.res.fr 5;have r6:=B2.res.at_ 6 _ rfl;have gr6:=B2.res.fr 6;have r7:=B2.res.at_ 7 _ rfl;have gr7:=B2.res.fr 7;have r8:=B2.res.at_ 8 _ rfl;have gr8:=B2.res.fr 8;have r9:=B2.res.at_ 9 _ rfl;have gr9:=B2.res.fr 9;have r10:=B2.res.at_ 10 _ rfl;have gr10:=B2.res.fr 10;have r11:=B2.res.at_ 11 _ rfl;have gr11:=B2.res.fr 11
            refine HKR.out _ _ ?_
            go_wp2_with fail
            obtain rfl:out=some (⟨kd,xs,k0,0,0,0,v1, .empty⟩,q1):=by rw [←HO3.out,HE.out];simp only [E0.out,E1.out,Option.bind_some]
            exact B2.leave (⟨by show (0:Int)≤(kd:Int);omega,by show (kd:Int)<256;omega,(by decide:(-9223372036854775808:Int)≤0),(by decide:(0:Int)≤9223372036854775807),(by decide:(-9223372036854775808:Int)≤0),(by decide:(0:Int)≤9223372036854775807),(by decide:(-9223372036854775808:Int)≤0),(by decide:(0:Int)≤9223372036854775807),rdT_size E0.out,(by decide:ByteArray.empty.size≤140737488355328)⟩) rfl rfl rfl
      have f2:((kd:Int)==2)=false:=by simp;omega
      by_cases e3:kd=3
      case pos=>
        have HE:=Lib.hid (rdRest_3 (k:=kd) (by omega) xs rj)
        have f3:((kd:Int)==3)=true:=by subst e3;rfl
        have f4:((kd:Int)==4)=false:=by subst e3;rfl
        have f5:((kd:Int)==5)=false:=by subst e3;rfl
        have f6:((kd:Int)==6)=false:=by subst e3;rfl
        have f7:((kd:Int)==7)=false:=by subst e3;rfl
        have f8:((kd:Int)==8)=false:=by subst e3;rfl
        have f9:((kd:Int)==9)=false:=by subst e3;rfl
        clear e3
        have y0:=B.box.at_ 0 _ rfl
        cases s0:rdT rj with
        | none=>
          obtain rfl:out=none:=by rw [←HO3.out,HE.out];simp only [s0];rfl
          have HS0:=Lib.hid s0
          clear s0
          go_wp2_with (go_at_call 71;(with_reducible refine (rText_none _ rb rj 0 B.rdr HS0.out).mono ?_);rintro e w9 ⟨rfl,hS9,hR9⟩)
          exact ⟨rfl,B.st.trans hS9,rfl,hR9⟩
        | some t0=>
          obtain ⟨k0,q0⟩:=t0
          have E0:=Lib.hid (s0)
          have HS0:=Lib.hid s0
          clear s0
          go_wp2_with (go_at_call 71;(with_reducible refine (rText_some _ rb rj 0 B.rdr HS0.out).mono ?_);rintro e w3 ⟨rfl,hR3,hS3⟩;have BN0:=B.next hS3 hR3;have p2:=BN0.box.fr 2;obtain ⟨y0,y1,y2,y3,y4,y5,y6,y7,y8,y9,y10,y11⟩:=row12 BN0.box.at_;have r0:=BN0.res.at_ 0 _ rfl;have gr0:=BN0.res.fr 0;have r1:=BN0.res.at_ 1 _ rfl;have gr1:=BN0.res.fr 1;have r2:=BN0.res.at_ 2 _ rfl;have gr2:=BN0.res.fr 2;have r3:=BN0.res.at_ 3 _ rfl;have gr3:=BN0.res.fr 3;have r4:=BN0.res.at_ 4 _ rfl;have gr4:=BN0.res.fr 4;have r5:=BN0.res.at_ 5 _ rfl;have gr5:=BN0.res.fr 5;have r6:=BN0.res.at_ 6 _ rfl;have gr6:=BN0.res.fr 6;have r7:=BN0.res.at_ 7 _ rfl;have gr7:=BN0.res.fr 7;have r8:=BN0.res.at_ 8 _ rfl;have gr8:=BN0.res.fr 8;have r9:=BN0.res.at_ 9 _ rfl;have gr9:=BN0.res.fr 9;have r10:=BN0.res.at_ 10 _ rfl;have gr10:=BN0.res.fr 10;have r11:=BN0.res.at_ 11 _ rfl;have gr11:=BN0.res.fr 11)
          have B1:CB w (w3.setCell ⟨cb,2,none⟩ (.string k0)) rb cb 0 q0 xs V.none ⟨kd,a,m,c,k0,0,0,0,vzero, .empty⟩:=BN0.set1 RStep.self (BN0.box.set (i:=2) (x:= .string k0) (by simp [ccells])) rfl rfl rfl rfl
          obtain rfl:out=some (⟨kd,xs,k0,0,0,0,V.none, .empty⟩,q0):=by rw [←HO3.out,HE.out];simp only [E0.out,Option.bind_some]
          exact B1.leave (⟨by show (0:Int)≤(kd:Int);omega,by show (kd:Int)<256;omega,(by decide:(-9223372036854775808:Int)≤0),(by decide:(0:Int)≤9223372036854775807),(by decide:(-9223372036854775808:Int)≤0),(by decide:(0:Int)≤9223372036854775807),(by decide:(-9223372036854775808:Int)≤0),(by decide:(0:Int)≤9223372036854775807),rdT_size E0.out,(by decide:ByteArray.empty.size≤140737488355328)⟩) rfl rfl rfl
      have f3:((kd:Int)==3)=false:=by simp;omega
      by_cases e4:kd=4
      case pos=>
        have HE:=Lib.hid (rdRest_4 (k:=kd) (by omega) xs rj)
        have f4:((kd:Int)==4)=true:=by subst e4;rfl
        have f5:((kd:Int)==5)=false:=by subst e4;rfl
        have f6:((kd:Int)==6)=false:=by subst e4;rfl
        have f7:((kd:Int)==7)=false:=by subst e4;rfl
        have f8:((kd:Int)==8)=false:=by subst e4;rfl
        have f9:((kd:Int)==9)=false:=by subst e4;rfl
        clear e4
        have y0:=B.box.at_ 0 _ rfl
        cases s0:rdN 8 rj with
        | none=>
          obtain rfl:out=none:=by rw [←HO3.out,HE.out];simp only [rdI_none s0];rfl
          have HS0:=Lib.hid s0
          clear s0
          go_wp2_with (go_at_call 84;(with_reducible refine (takeInt8_none _ rb rj 0 B.rdr HS0.out).mono ?_);rintro e w9 ⟨rfl,rfl⟩)
          exact ⟨rfl,B.st,rfl,_,B.rdr⟩
        | some t0=>
          obtain ⟨i0,q0⟩:=t0
          have E0:=Lib.hid (rdI_some s0)
          have HS0:=Lib.hid s0
          clear s0
          go_wp2_with (go_at_call 84;(with_reducible refine (takeInt8_some _ rb rj 0 B.rdr HS0.out).mono ?_);rintro e w3 ⟨rfl,hR3,hS3⟩;have BN0:=B.next hS3 hR3;have p3:=BN0.box.fr 3;obtain ⟨y0,y1,y2,y3,y4,y5,y6,y7,y8,y9,y10,y11⟩:=row12 BN0.box.at_)
          have B1:CB w (w3.setCell ⟨cb,3,none⟩ (.int .i64 (wrap64 i0))) rb cb 0 q0 xs V.none ⟨kd,a,m,c, .empty,(wrap64 i0),0,0,vzero, .empty⟩:=BN0.set1 RStep.self (BN0.box.set (i:=3) (x:= .int .i64 (wrap64 i0)) (by simp [ccells])) rfl rfl rfl rfl
          cases s1:rdV 18 q0 with
          | none=>
            obtain rfl:out=none:=by rw [←HO3.out,HE.out];simp only [E0.out,Option.bind_some,s1];rfl
            have HS1:=Lib.hid s1
            clear s1
            go_wp2_with (go_at_call 40;(with_reducible refine (rv18_none _ rb q0 B1.rdr HS1.out).mono ?_);rintro e w9 ⟨rfl,hS9,hR9⟩)
            exact ⟨rfl,B1.st.trans hS9,rfl,hR9⟩
          | some t1=>
            obtain ⟨v1,q1⟩:=t1
            have E1:=Lib.hid (s1)
            have HS1:=Lib.hid s1
            clear s1
            rename_i KR aR KC aC
            have HKR:=Lib.hid aR
            clear aR
            go_wp2_with (go_at_call 40;(with_reducible refine (rv18_some _ rb q0 B1.rdr HS1.out).mono ?_);rintro e w4 ⟨cv,rfl,hS4,hI4,hR4⟩;have BN1:=B1.next hS4 hR4;have p6:=BN1.box.fr 6;have p7:=BN1.box.fr 7;have p8:=BN1.box.fr 8;have p9:=BN1.box.fr 9;have p10:=BN1.box.fr 10;have y6:=BN1.box.at_ 6 _ rfl;have y7:=BN1.box.at_ 7 _ rfl;have y8:=BN1.box.at_ 8 _ rfl;have y9:=BN1.box.at_ 9 _ rfl;have y10:=BN1.box.at_ 10 _ rfl)
            have B2:CB w (((((w4.setCell ⟨cb,6,none⟩ (.int .u8 cv.k)).setCell ⟨cb,7,none⟩ (.int .i64 cv.n)).setCell ⟨cb,8,none⟩ (.string cv.s)).setCell ⟨cb,9,none⟩ (.slice cv.la cv.ll cv.lc)).setCell ⟨cb,10,none⟩ (.slice cv.oa cv.ol cv.oc)) rb cb 0 q1 xs v1 ⟨kd,a,m,c, .empty,(wrap64 i0),0,0,cv, .empty⟩:=B1.value hS4 hR4 hI4 ((((RStep.self.trans RStep.self).trans RStep.self).trans RStep.self).trans RStep.self) (((((BN1.box.set (i:=6) (x:= .int .u8 cv.k) (by simp [ccells])).set (i:=7) (x:= .int .i64 cv.n) (by simp [ccells])).set (i:=8) (x:= .string cv.s) (by simp [ccells])).set (i:=9) (x:= .slice cv.la cv.ll cv.lc) (by simp [ccells])).set (i:=10) (x:= .slice cv.oa cv.ol cv.oc) (by simp [ccells])) rfl rfl rfl
            obtain ⟨W2,hW2⟩:∃W2,(((((w4.setCell ⟨cb,6,none⟩ (.int .u8 cv.k)).setCell ⟨cb,7,none⟩ (.int .i64 cv.n)).setCell ⟨cb,8,none⟩ (.string cv.s)).setCell ⟨cb,9,none⟩ (.slice cv.la cv.ll cv.lc)).setCell ⟨cb,10,none⟩ (.slice cv.oa cv.ol cv.oc))=W2:=⟨_,rfl⟩
            rw [hW2] at B2 ⊢
            have hcl:=B2.box.lt
            clear hW2 BN1 hI4
            obtain ⟨y0,y1,y2,y3,y4,y5,y6,y7,y8,y9,y10,y11⟩:=row12 B2.box.at_
            have r0:=B2.res.at_ 0 _ rfl;have gr0:=B2.res.fr 0;have r1:=B2.res.at_ 1 _ rfl;have gr1:=B2.res.fr 1;have r2:=B2.res.at_ 2 _ rfl;have gr2:=B2.res.fr 2;have r3:=B2.res.at_ 3 _ rfl;have gr3:=B2.res.fr 3;have r4:=B2.res.at_ 4 _ rfl;have gr4:=B2.res.fr 4;have r5:=B2.res.at_ 5 _ rfl;have gr5:=B2.res.fr 5;have r6:=B2.res.at_ 6 _ rfl;have gr6:=B2.res.fr 6;have r7:=B2.res.at_ 7 _ rfl;have gr7:=B2.res.fr 7;have r8:=B2.res.at_ 8 _ rfl;have gr8:=B2.res.fr 8;have r9:=B2.res.at_ 9 _ rfl;have gr9:=B2.res.fr 9;have r10:=B2.res.at_ 10 _ rfl;have gr10:=B2.res.fr 10;have r11:=B2.res.at_ 11 _ rfl;have gr11:=B2.res.fr 11
            refine HKR.out _ _ ?_
            go_wp2_with fail
            obtain rfl:out=some (⟨kd,xs, .empty,(wrap64 i0),0,0,v1, .empty⟩,q1):=by rw [←HO3.out,HE.out];simp only [E0.out,E1.out,Option.bind_some]
            exact B2.leave (⟨by show (0:Int)≤(kd:Int);omega,by show (kd:Int)<256;omega,i64_lo _,i64_hi _,(by decide:(-9223372036854775808:Int)≤0),(by decide:(0:Int)≤9223372036854775807),(by decide:(-9223372036854775808:Int)≤0),(by decide:(0:Int)≤9223372036854775807),(by decide:ByteArray.empty.size≤140737488355328),(by decide:ByteArray.empty.size≤140737488355328)⟩) rfl rfl rfl
      have f4:((kd:Int)==4)=false:=by simp;omega
      by_cases e5:kd=5
      case pos=>
        have HE:=Lib.hid (rdRest_5 (k:=kd) (by omega) xs rj)
        have f5:((kd:Int)==5)=true:=by subst e5;rfl
        have f6:((kd:Int)==6)=false:=by subst e5;rfl
        have f7:((kd:Int)==7)=false:=by subst e5;rfl
        have f8:((kd:Int)==8)=false:=by subst e5;rfl
        have f9:((kd:Int)==9)=false:=by subst e5;rfl
        clear e5
        have y0:=B.box.at_ 0 _ rfl
        cases s0:rdN 8 rj with
        | none=>
          obtain rfl:out=none:=by rw [←HO3.out,HE.out];simp only [rdI_none s0];rfl
          have HS0:=Lib.hid s0
          clear s0
          go_wp2_with (go_at_call 84;(with_reducible refine (takeInt8_none _ rb rj 0 B.rdr HS0.out).mono ?_);rintro e w9 ⟨rfl,rfl⟩)
          exact ⟨rfl,B.st,rfl,_,B.rdr⟩
        | some t0=>
          obtain ⟨i0,q0⟩:=t0
          have E0:=Lib.hid (rdI_some s0)
          have HS0:=Lib.hid s0
          clear s0
          go_wp2_with (go_at_call 84;(with_reducible refine (takeInt8_some _ rb rj 0 B.rdr HS0.out).mono ?_);rintro e w3 ⟨rfl,hR3,hS3⟩;have BN0:=B.next hS3 hR3;have p3:=BN0.box.fr 3;obtain ⟨y0,y1,y2,y3,y4,y5,y6,y7,y8,y9,y10,y11⟩:=row12 BN0.box.at_;have r0:=BN0.res.at_ 0 _ rfl;have gr0:=BN0.res.fr 0;have r1:=BN0.res.at_ 1 _ rfl;have gr1:=BN0.res.fr 1;have r2:=BN0.res.at_ 2 _ rfl;have gr2:=BN0.res.fr 2;have r3:=BN0.res.at_ 3 _ rfl;have gr3:=BN0.res.fr 3;have r4:=BN0.res.at_ 4 _ rfl;have gr4:=BN0.res.fr 4;have r5:=BN0.res.at_ 5 _ rfl;have gr5:=BN0.res.fr 5;have r6:=BN0.res.at_ 6 _ rfl;have gr6:=BN0.res.fr 6;have r7:=BN0.res.at_ 7 _ rfl;have gr7:=BN0.res.fr 7;have r8:=BN0.res.at_ 8 _ rfl;have gr8:=BN0.res.fr 8;have r9:=BN0.res.at_ 9 _ rfl;have gr9:=BN0.res.fr 9;have r10:=BN0.res.at_ 10 _ rfl;have gr10:=BN0.res.fr 10;have r11:=BN0.res.at_ 11 _ rfl;have gr11:=BN0.res.fr 11)
          have B1:CB w (w3.setCell ⟨cb,3,none⟩ (.int .i64 (wrap64 i0))) rb cb 0 q0 xs V.none ⟨kd,a,m,c, .empty,(wrap64 i0),0,0,vzero, .empty⟩:=BN0.set1 RStep.self (BN0.box.set (i:=3) (x:= .int .i64 (wrap64 i0)) (by simp [ccells])) rfl rfl rfl rfl
          obtain rfl:out=some (⟨kd,xs, .empty,(wrap64 i0),0,0,V.none, .empty⟩,q0):=by rw [←HO3.out,HE.out];simp only [E0.out,Option.bind_some]
          exact B1.leave (⟨by show (0:Int)≤(kd:Int);omega,by show (kd:Int)<256;omega,i64_lo _,i64_hi _,(by decide:(-9223372036854775808:Int)≤0),(by decide:(0:Int)≤9223372036854775807),(by decide:(-9223372036854775808:Int)≤0),(by decide:(0:Int)≤9223372036854775807),(by decide:ByteArray.empty.size≤140737488355328),(by decide:ByteArray.empty.size≤140737488355328)⟩) rfl rfl rfl
      have f5:((kd:Int)==5)=false:=by simp;omega
      by_cases e6:kd=6
      case pos=>
        have HE:=Lib.hid (rdRest_6 (k:=kd) (by omega) xs rj)
        have f6:((kd:Int)==6)=true:=by subst e6;rfl
        have f7:((kd:Int)==7)=false:=by subst e6;rfl
        have f8:((kd:Int)==8)=false:=by subst e6;rfl
        have f9:((kd:Int)==9)=false:=by subst e6;rfl
        clear e6
        have y0:=B.box.at_ 0 _ rfl
        cases s0:rdN 8 rj with
        | none=>
          obtain rfl:out=none:=by rw [←HO3.out,HE.out];simp only [rdI_none s0];rfl
          have HS0:=Lib.hid s0
          clear s0
          go_wp2_with (go_at_call 84;(with_reducible refine (takeInt8_none _ rb rj 0 B.rdr HS0.out).mono ?_);rintro e w9 ⟨rfl,rfl⟩)
          exact ⟨rfl,B.st,rfl,_,B.rdr⟩
        | some t0=>
          obtain ⟨i0,q0⟩:=t0
          have E0:=Lib.hid (rdI_some s0)
          have HS0:=Lib.hid s0
          clear s0
          go_wp2_with (go_at_call 84;(with_reducible refine (takeInt8_some _ rb rj 0 B.rdr HS0.out).mono ?_);rintro e w3 ⟨rfl,hR3,hS3⟩;have BN0:=B.next hS3 hR3;have p3:=BN0.box.fr 3;obtain ⟨y0,y1,y2,y3,y4,y5,y6,y7,y8,y9,y10,y11⟩:=row12 BN0.box.at_)
          have B1:CB w (w3.setCell ⟨cb,3,none⟩ (.int .i64 (wrap64 i0))) rb cb 0 q0 xs V.none ⟨kd,a,m,c, .empty,(wrap64 i0),0,0,vzero, .empty⟩:=BN0.set1 RStep.self (BN0.box.set (i:=3) (x:= .int .i64 (wrap64 i0)) (by simp [ccells])) rfl rfl rfl rfl
          cases s1:rdV 18 q0 with
          | none=>
            obtain rfl:out=none:=by rw [←HO3.out,HE.out];simp only [E0.out,Option.bind_some,s1];rfl
            have HS1:=Lib.hid s1
            clear s1
            go_wp2_with (go_at_call 40;(with_reducible refine (rv18_none _ rb q0 B1.rdr HS1.out).mono ?_);rintro e w9 ⟨rfl,hS9,hR9⟩)
            exact ⟨rfl,B1.st.trans hS9,rfl,hR9⟩
          | some t1=>
            obtain ⟨v1,q1⟩:=t1
            have E1:=Lib.hid (s1)
            have HS1:=Lib.hid s1
            clear s1
            rename_i KR aR KC aC
            have HKR:=Lib.hid aR
            clear aR
            go_wp2_with (go_at_call 40;(with_reducible refine (rv18_some _ rb q0 B1.rdr HS1.out).mono ?_);rintro e w4 ⟨cv,rfl,hS4,hI4,hR4⟩;have BN1:=B1.next hS4 hR4;have p6:=BN1.box.fr 6;have p7:=BN1.box.fr 7;have p8:=BN1.box.fr 8;have p9:=BN1.box.fr 9;have p10:=BN1.box.fr 10;have y6:=BN1.box.at_ 6 _ rfl;have y7:=BN1.box.at_ 7 _ rfl;have y8:=BN1.box.at_ 8 _ rfl;have y9:=BN1.box.at_ 9 _ rfl;have y10:=BN1.box.at_ 10 _ rfl)
            have B2:CB w (((((w4.setCell ⟨cb,6,none⟩ (.int .u8 cv.k)).setCell ⟨cb,7,none⟩ (.int .i64 cv.n)).setCell ⟨cb,8,none⟩ (.string cv.s)).setCell ⟨cb,9,none⟩ (.slice cv.la cv.ll cv.lc)).setCell ⟨cb,10,none⟩ (.slice cv.oa cv.ol cv.oc)) rb cb 0 q1 xs v1 ⟨kd,a,m,c, .empty,(wrap64 i0),0,0,cv, .empty⟩:=B1.value hS4 hR4 hI4 ((((RStep.self.trans RStep.self).trans RStep.self).trans RStep.self).trans RStep.self) (((((BN1.box.set (i:=6) (x:= .int .u8 cv.k) (by simp [ccells])).set (i:=7) (x:= .int .i64 cv.n) (by simp [ccells])).set (i:=8) (x:= .string cv.s) (by simp [ccells])).set (i:=9) (x:= .slice cv.la cv.ll cv.lc) (by simp [ccells])).set (i:=10) (x:= .slice cv.oa cv.ol cv.oc) (by simp [ccells])) rfl rfl rfl
            obtain ⟨W2,hW2⟩:∃W2,(((((w4.setCell ⟨cb,6,none⟩ (.int .u8 cv.k)).setCell ⟨cb,7,none⟩ (.int .i64 cv.n)).setCell ⟨cb,8,none⟩ (.string cv.s)).setCell ⟨cb,9,none⟩ (.slice cv.la cv.ll cv.lc)).setCell ⟨cb,10,none⟩ (.slice cv.oa cv.ol cv.oc))=W2:=⟨_,rfl⟩
            rw [hW2] at B2 ⊢
            have hcl:=B2.box.lt
            clear hW2 BN1 hI4
            obtain ⟨y0,y1,y2,y3,y4,y5,y6,y7,y8,y9,y10,y11⟩:=row12 B2.box.at_
            have r0:=B2.res.at_ 0 _ rfl;have gr0:=B2.res.fr 0;have r1:=B2.res.at_ 1 _ rfl;have gr1:=B2.res.fr 1;have r2:=B2.res.at_ 2 _ rfl;have gr2:=B2.res.fr 2;have r3:=B2.res.at_ 3 _ rfl;have gr3:=B2.res.fr 3;have r4:=B2.res.at_ 4 _ rfl;have gr4:=B2.res.fr 4;have r5:=B2.res.at_ 5 _ rfl;have gr5:=B2.res.fr 5;have r6:=B2.res.at_ 6 _ rfl;have gr6:=B2.res.fr 6;have r7:=B2.res.at_ 7 _ rfl;have gr7:=B2.res.fr 7;have r8:=B2.res.at_ 8 _ rfl;have gr8:=B2.res.fr 8;have r9:=B2.res.at_ 9 _ rfl;have gr9:=B2.res.fr 9;have r10:=B2.res.at_ 10 _ rfl;have gr10:=B2.res.fr 10;have r11:=B2.res.at_ 11 _ rfl;have gr11:=B2.res.fr 11
            refine HKR.out _ _ ?_
            go_wp2_with fail
            obtain rfl:out=some (⟨kd,xs, .empty,(wrap64 i0),0,0,v1, .empty⟩,q1):=by rw [←HO3.out,HE.out];simp only [E0.out,E1.out,Option.bind_some]
            exact B2.leave (⟨by show (0:Int)≤(kd:Int);omega,by show (kd:Int)<256;omega,i64_lo _,i64_hi _,(by decide:(-9223372036854775808:Int)≤0),(by decide:(0:Int)≤9223372036854775807),(by decide:(-9223372036854775808:Int)≤0),(by decide:(0:Int)≤9223372036854775807),(by decide:ByteArray.empty.size≤140737488355328),(by decide:ByteArray.empty.size≤140737488355328)⟩) rfl rfl rfl
      have f6:((kd:Int)==6)=false:=by simp;omega
      by_cases e7:kd=7
      case pos=>
        have HE:=Lib.hid (rdRest_7 (k:=kd) (by omega) xs rj)
        have f7:((kd:Int)==7)=true:=by subst e7;rfl
        have f8:((kd:Int)==8)=false:=by subst e7;rfl
        have f9:((kd:Int)==9)=false:=by subst e7;rfl
        clear e7
        have y0:=B.box.at_ 0 _ rfl
        cases s0:rdN 8 rj with
        | none=>
          obtain rfl:out=none:=by rw [←HO3.out,HE.out];simp only [rdI_none s0];rfl
          have HS0:=Lib.hid s0
          clear s0
          go_wp2_with (go_at_call 84;(with_reducible refine (takeInt8_none _ rb rj 0 B.rdr HS0.out).mono ?_);rintro e w9 ⟨rfl,rfl⟩)
          exact ⟨rfl,B.st,rfl,_,B.rdr⟩
        | some t0=>
          obtain ⟨i0,q0⟩:=t0
          have E0:=Lib.hid (rdI_some s0)
          have HS0:=Lib.hid s0
          clear s0
          go_wp2_with (go_at_call 84;(with_reducible refine (takeInt8_some _ rb rj 0 B.rdr HS0.out).mono ?_);rintro e w3 ⟨rfl,hR3,hS3⟩;have BN0:=B.next hS3 hR3;have p3:=BN0.box.fr 3;obtain ⟨y0,y1,y2,y3,y4,y5,y6,y7,y8,y9,y10,y11⟩:=row12 BN0.box.at_)
          have B1:CB w (w3.setCell ⟨cb,3,none⟩ (.int .i64 (wrap64 i0))) rb cb 0 q0 xs V.none ⟨kd,a,m,c, .empty,(wrap64 i0),0,0,vzero, .empty⟩:=BN0.set1 RStep.self (BN0.box.set (i:=3) (x:= .int .i64 (wrap64 i0)) (by simp [ccells])) rfl rfl rfl rfl
          cases s1:rdN 8 q0 with
          | none=>
            obtain rfl:out=none:=by rw [←HO3.out,HE.out];simp only [E0.out,Option.bind_some,rdI_none s1];rfl
            have HS1:=Lib.hid s1
            clear s1
            go_wp2_with (go_at_call 84;(with_reducible refine (takeInt8_none _ rb q0 0 B1.rdr HS1.out).mono ?_);rintro e w9 ⟨rfl,rfl⟩)
            exact ⟨rfl,B1.st,rfl,_,B1.rdr⟩
          | some t1=>
            obtain ⟨j1,q1⟩:=t1
            have E1:=Lib.hid (rdI_some s1)
            have HS1:=Lib.hid s1
            clear s1
            go_wp2_with (go_at_call 84;(with_reducible refine (takeInt8_some _ rb q0 0 B1.rdr HS1.out).mono ?_);rintro e w4 ⟨rfl,hR4,hS4⟩;have BN1:=B1.next hS4 hR4;have p4:=BN1.box.fr 4;obtain ⟨y0,y1,y2,y3,y4,y5,y6,y7,y8,y9,y10,y11⟩:=row12 BN1.box.at_;have r0:=BN1.res.at_ 0 _ rfl;have gr0:=BN1.res.fr 0;have r1:=BN1.res.at_ 1 _ rfl;have gr1:=BN1.res.fr 1;have r2:=BN1.res.at_ 2 _ rfl;have gr2:=BN1.res.fr 2;have r3:=BN1.res.at_ 3 _ rfl;have gr3:=BN1.res.fr 3;have r4:=BN1.res.at_ 4 _ rfl;have gr4:=BN1.res.fr 4;have r5:=BN1.res.at_ 5 _ rfl;have gr5:=BN1.res.fr 5;have r6:=BN1.res.at_ 6 _ rfl;have gr6:=BN1.res.fr 6;have r7:=BN1.res.at_ 7 _ rfl;have gr7:=BN1.res.fr 7;have r8:=BN1.res.at_ 8 _ rfl;have gr8:=BN1.res.fr 8;have r9:=BN1.res.at_ 9 _ rfl;have gr9:=BN1.res.fr 9;have r10:=BN1.res.at_ 10 _ rfl;have gr10:=BN1.res.fr 10;have r11:=BN1.res.at_ 11 _ rfl;have gr11:=BN1.res.fr 11)
            have B2:CB w (w4.setCell ⟨cb,4,none⟩ (.int .i64 (wrap64 j1))) rb cb 0 q1 xs V.none ⟨kd,a,m,c, .empty,(wrap64 i0),(wrap64 j1),0,vzero, .empty⟩:=BN1.set1 RStep.self (BN1.box.set (i:=4) (x:= .int .i64 (wrap64 j1)) (by simp [ccells])) rfl rfl rfl rfl
            obtain rfl:out=some (⟨kd,xs, .empty,(wrap64 i0),(wrap64 j1),0,V.none, .empty⟩,q1):=by rw [←HO3.out,HE.out];simp only [E0.out,E1.out,Option.bind_some]
            exact B2.leave (⟨by show (0:Int)≤(kd:Int);omega,by show (kd:Int)<256;omega,i64_lo _,i64_hi _,i64_lo _,i64_hi _,(by decide:(-9223372036854775808:Int)≤0),(by decide:(0:Int)≤9223372036854775807),(by decide:ByteArray.empty.size≤140737488355328),(by decide:ByteArray.empty.size≤140737488355328)⟩) rfl rfl rfl
      have f7:((kd:Int)==7)=false:=by simp;omega
      by_cases e8:kd=8
      case pos=>
        have HE:=Lib.hid (rdRest_8 (k:=kd) (by omega) xs rj)
        have f8:((kd:Int)==8)=true:=by subst e8;rfl
        have f9:((kd:Int)==9)=false:=by subst e8;rfl
        clear e8
        have y0:=B.box.at_ 0 _ rfl
        cases s0:rdN 8 rj with
        | none=>
          obtain rfl:out=none:=by rw [←HO3.out,HE.out];simp only [rdI_none s0];rfl
          have HS0:=Lib.hid s0
          clear s0
          go_wp2_with (go_at_call 84;(with_reducible refine (takeInt8_none _ rb rj 0 B.rdr HS0.out).mono ?_);rintro e w9 ⟨rfl,rfl⟩)
          exact ⟨rfl,B.st,rfl,_,B.rdr⟩
        | some t0=>
          obtain ⟨i0,q0⟩:=t0
          have E0:=Lib.hid (rdI_some s0)
          have HS0:=Lib.hid s0
          clear s0
          go_wp2_with (go_at_call 84;(with_reducible refine (takeInt8_some _ rb rj 0 B.rdr HS0.out).mono ?_);rintro e w3 ⟨rfl,hR3,hS3⟩;have BN0:=B.next hS3 hR3;have p3:=BN0.box.fr 3;obtain ⟨y0,y1,y2,y3,y4,y5,y6,y7,y8,y9,y10,y11⟩:=row12 BN0.box.at_)
          have B1:CB w (w3.setCell ⟨cb,3,none⟩ (.int .i64 (wrap64 i0))) rb cb 0 q0 xs V.none ⟨kd,a,m,c, .empty,(wrap64 i0),0,0,vzero, .empty⟩:=BN0.set1 RStep.self (BN0.box.set (i:=3) (x:= .int .i64 (wrap64 i0)) (by simp [ccells])) rfl rfl rfl rfl
          cases s1:rdT q0 with
          | none=>
            obtain rfl:out=none:=by rw [←HO3.out,HE.out];simp only [E0.out,Option.bind_some,s1];rfl
            have HS1:=Lib.hid s1
            clear s1
            go_wp2_with (go_at_call 71;(with_reducible refine (rText_none _ rb q0 0 B1.rdr HS1.out).mono ?_);rintro e w9 ⟨rfl,hS9,hR9⟩)
            exact ⟨rfl,B1.st.trans hS9,rfl,hR9⟩
          | some t1=>
            obtain ⟨s1,q1⟩:=t1
            have E1:=Lib.hid (s1)
            have HS1:=Lib.hid s1
            clear s1
            go_wp2_with (go_at_call 71;(with_reducible refine (rText_some _ rb q0 0 B1.rdr HS1.out).mono ?_);rintro e w4 ⟨rfl,hR4,hS4⟩;have BN1:=B1.next hS4 hR4;have p11:=BN1.box.fr 11;obtain ⟨y0,y1,y2,y3,y4,y5,y6,y7,y8,y9,y10,y11⟩:=row12 BN1.box.at_;have r0:=BN1.res.at_ 0 _ rfl;have gr0:=BN1.res.fr 0;have r1:=BN1.res.at_ 1 _ rfl;have gr1:=BN1.res.fr 1;have r2:=BN1.res.at_ 2 _ rfl;have gr2:=BN1.res.fr 2;have r3:=BN1.res.at_ 3 _ rfl;have gr3:=BN1.res.fr 3;have r4:=BN1.res.at_ 4 _ rfl;have gr4:=BN1.res.fr 4;have r5:=BN1.res.at_ 5 _ rfl;have gr5:=BN1.res.fr 5;have r6:=BN1.res.at_ 6 _ rfl;have gr6:=BN1.res.fr 6;have r7:=BN1.res.at_ 7 _ rfl;have gr7:=BN1.res.fr 7;have r8:=BN1.res.at_ 8 _ rfl;have gr8:=BN1.res.fr 8;have r9:=BN1.res.at_ 9 _ rfl;have gr9:=BN1.res.fr 9;have r10:=BN1.res.at_ 10 _ rfl;have gr10:=BN1.res.fr 10;have r11:=BN1.res.at_ 11 _ rfl;have gr11:=BN1.res.fr 11)
            have B2:CB w (w4.setCell ⟨cb,11,none⟩ (.string s1)) rb cb 0 q1 xs V.none ⟨kd,a,m,c, .empty,(wrap64 i0),0,0,vzero,s1⟩:=BN1.set1 RStep.self (BN1.box.set (i:=11) (x:= .string s1) (by simp [ccells])) rfl rfl rfl rfl
            obtain rfl:out=some (⟨kd,xs, .empty,(wrap64 i0),0,0,V.none,s1⟩,q1):=by rw [←HO3.out,HE.out];simp only [E0.out,E1.out,Option.bind_some]
            exact B2.leave (⟨by show (0:Int)≤(kd:Int);omega,by show (kd:Int)<256;omega,i64_lo _,i64_hi _,(by decide:(-9223372036854775808:Int)≤0),(by decide:(0:Int)≤9223372036854775807),(by decide:(-9223372036854775808:Int)≤0),(by decide:(0:Int)≤9223372036854775807),(by decide:ByteArray.empty.size≤140737488355328),rdT_size E1.out⟩) rfl rfl rfl
      have f8:((kd:Int)==8)=false:=by simp;omega
      by_cases e9:kd=9
      case pos=>
        have HE:=Lib.hid (rdRest_9 (k:=kd) (by omega) xs rj)
        have f9:((kd:Int)==9)=true:=by subst e9;rfl
        clear e9
        have y0:=B.box.at_ 0 _ rfl
        cases s0:rdN 8 rj with
        | none=>
          obtain rfl:out=none:=by rw [←HO3.out,HE.out];simp only [rdI_none s0];rfl
          have HS0:=Lib.hid s0
          clear s0
          go_wp2_with (go_at_call 84;(with_reducible refine (takeInt8_none _ rb rj 0 B.rdr HS0.out).mono ?_);rintro e w9 ⟨rfl,rfl⟩)
          exact ⟨rfl,B.st,rfl,_,B.rdr⟩
        | some t0=>
          obtain ⟨i0,q0⟩:=t0
          have E0:=Lib.hid (rdI_some s0)
          have HS0:=Lib.hid s0
          clear s0
          go_wp2_with (go_at_call 84;(with_reducible refine (takeInt8_some _ rb rj 0 B.rdr HS0.out).mono ?_);rintro e w3 ⟨rfl,hR3,hS3⟩;have BN0:=B.next hS3 hR3;have p3:=BN0.box.fr 3;obtain ⟨y0,y1,y2,y3,y4,y5,y6,y7,y8,y9,y10,y11⟩:=row12 BN0.box.at_)
          have B1:CB w (w3.setCell ⟨cb,3,none⟩ (.int .i64 (wrap64 i0))) rb cb 0 q0 xs V.none ⟨kd,a,m,c, .empty,(wrap64 i0),0,0,vzero, .empty⟩:=BN0.set1 RStep.self (BN0.box.set (i:=3) (x:= .int .i64 (wrap64 i0)) (by simp [ccells])) rfl rfl rfl rfl
          cases s1:rdN 8 q0 with
          | none=>
            obtain rfl:out=none:=by rw [←HO3.out,HE.out];simp only [E0.out,Option.bind_some,rdI_none s1];rfl
            have HS1:=Lib.hid s1
            clear s1
            go_wp2_with (go_at_call 70;(with_reducible refine (takeI648_none _ rb q0 0 B1.rdr HS1.out).mono ?_);rintro e w9 ⟨rfl,rfl⟩)
            exact ⟨rfl,B1.st,rfl,_,B1.rdr⟩
          | some t1=>
            obtain ⟨n1,q1⟩:=t1
            have E1:=Lib.hid (rdI_some s1)
            have HS1:=Lib.hid s1
            clear s1
            go_wp2_with (go_at_call 70;(with_reducible refine (takeI648_some _ rb q0 0 B1.rdr HS1.out).mono ?_);rintro e w4 ⟨rfl,hR4,hS4⟩;have BN1:=B1.next hS4 hR4;have p5:=BN1.box.fr 5;obtain ⟨y0,y1,y2,y3,y4,y5,y6,y7,y8,y9,y10,y11⟩:=row12 BN1.box.at_;have r0:=BN1.res.at_ 0 _ rfl;have gr0:=BN1.res.fr 0;have r1:=BN1.res.at_ 1 _ rfl;have gr1:=BN1.res.fr 1;have r2:=BN1.res.at_ 2 _ rfl;have gr2:=BN1.res.fr 2;have r3:=BN1.res.at_ 3 _ rfl;have gr3:=BN1.res.fr 3;have r4:=BN1.res.at_ 4 _ rfl;have gr4:=BN1.res.fr 4;have r5:=BN1.res.at_ 5 _ rfl;have gr5:=BN1.res.fr 5;have r6:=BN1.res.at_ 6 _ rfl;have gr6:=BN1.res.fr 6;have r7:=BN1.res.at_ 7 _ rfl;have gr7:=BN1.res.fr 7;have r8:=BN1.res.at_ 8 _ rfl;have gr8:=BN1.res.fr 8;have r9:=BN1.res.at_ 9 _ rfl;have gr9:=BN1.res.fr 9;have r10:=BN1.res.at_ 10 _ rfl;have gr10:=BN1.res.fr 10;have r11:=BN1.res.at_ 11 _ rfl;have gr11:=BN1.res.fr 11)
            have B2:CB w (w4.setCell ⟨cb,5,none⟩ (.int .i64 (wrap64 n1))) rb cb 0 q1 xs V.none ⟨kd,a,m,c, .empty,(wrap64 i0),0,(wrap64 n1),vzero, .empty⟩:=BN1.set1 RStep.self (BN1.box.set (i:=5) (x:= .int .i64 (wrap64 n1)) (by simp [ccells])) rfl rfl rfl rfl
            obtain rfl:out=some (⟨kd,xs, .empty,(wrap64 i0),0,(wrap64 n1),V.none, .empty⟩,q1):=by rw [←HO3.out,HE.out];simp only [E0.out,E1.out,Option.bind_some]
            exact B2.leave (⟨by show (0:Int)≤(kd:Int);omega,by show (kd:Int)<256;omega,i64_lo _,i64_hi _,(by decide:(-9223372036854775808:Int)≤0),(by decide:(0:Int)≤9223372036854775807),i64_lo _,i64_hi _,(by decide:ByteArray.empty.size≤140737488355328),(by decide:ByteArray.empty.size≤140737488355328)⟩) rfl rfl rfl
      have f9:((kd:Int)==9)=false:=by simp;omega
      have HE:=Lib.hid (rdRest_0 (k:=kd) (by omega) (by omega) (by omega) (by omega) (by omega) (by omega) (by omega) (by omega) (by omega) xs rj)
      obtain rfl:out=some (⟨kd,xs, .empty,0,0,0,V.none, .empty⟩,rj):=by rw [←HO3.out,HE.out]
      clear e1 e2 e3 e4 e5 e6 e7 e8 e9
      obtain ⟨y0,y1,y2,y3,y4,y5,y6,y7,y8,y9,y10,y11⟩:=row12 B.box.at_
      have r0:=B.res.at_ 0 _ rfl;have gr0:=B.res.fr 0;have r1:=B.res.at_ 1 _ rfl;have gr1:=B.res.fr 1;have r2:=B.res.at_ 2 _ rfl;have gr2:=B.res.fr 2;have r3:=B.res.at_ 3 _ rfl;have gr3:=B.res.fr 3;have r4:=B.res.at_ 4 _ rfl;have gr4:=B.res.fr 4;have r5:=B.res.at_ 5 _ rfl;have gr5:=B.res.fr 5;have r6:=B.res.at_ 6 _ rfl;have gr6:=B.res.fr 6;have r7:=B.res.at_ 7 _ rfl;have gr7:=B.res.fr 7;have r8:=B.res.at_ 8 _ rfl;have gr8:=B.res.fr 8;have r9:=B.res.at_ 9 _ rfl;have gr9:=B.res.fr 9;have r10:=B.res.at_ 10 _ rfl;have gr10:=B.res.fr 10;have r11:=B.res.at_ 11 _ rfl;have gr11:=B.res.fr 11
      go_wp2_with fail
      exact B.leave (⟨by show (0:Int)≤(kd:Int);omega,by show (kd:Int)<256;omega,(by decide:(-9223372036854775808:Int)≤0),(by decide:(0:Int)≤9223372036854775807),(by decide:(-9223372036854775808:Int)≤0),(by decide:(0:Int)≤9223372036854775807),(by decide:(-9223372036854775808:Int)≤0),(by decide:(0:Int)≤9223372036854775807),(by decide:ByteArray.empty.size≤140737488355328),(by decide:ByteArray.empty.size≤140737488355328)⟩) rfl rfl rfl
end Go.Proofs.YthceefjafklcmaaDoor
namespace Go.Proofs.YthceefjafklcmaaDoor
open Go.RowKit
theorem ginfoC:(Tryd.prog.info? 75).map (fun i=>(i.zero,i.size,i.bytes))=some (some (.agg #[.int .u8 0, .slice none 0 0, .string { data:= #[] }, .int .i64 0, .int .i64 0, .int .i64 0, .int .u8 0, .int .i64 0, .string { data:= #[] }, .slice none 0 0, .slice none 0 0, .string { data:= #[] }]),12,168):=by kernel_rfl
theorem EB.next {w W W':World} {rb eb:Nat} {r r':List UInt8} {v:V} {l:List Cm} {c:EC} (h:EB w W rb eb r v l c) (s:RStep W W' rb) (hR:Rdr W' rb r' 0):EB w W' rb eb r' v l c:=by
  have hlo:=h.lo;have hlt:=h.lt
  exact ⟨hR,h.st.trans s,h.res.next s (by omega),h.box.next s (by omega),isVal_far h.val s (by omega),isComps_far h.ops s (by omega),hlo,hlt⟩
theorem EB.set1 {w W W':World} {rb eb:Nat} {r:List UInt8} {v:V} {l:List Cm} {c c':EC} (h:EB w W rb eb r v l c) (s:RStep W W' eb) (hbox:BC W' eb (ecells c')) (e1:c'.oa=c.oa) (e2:c'.ol=c.ol) (e3:c'.oc=c.oc) (e4:c'.v=c.v):EB w W' rb eb r v l c':=by
  have hlo:=h.lo;have hlt:=h.lt
  have hst:RStep w W' rb:=⟨s.os.trans h.st.os,s.tape.trans h.st.tape,s.output.trans h.st.output,Nat.le_trans h.st.size s.size,fun k hk hr=>(s.block k (Nat.lt_of_lt_of_le hk h.st.size) (by omega)).trans (h.st.block k hk hr)⟩
  refine ⟨h.rdr.below (s.below (Nat.le_of_lt h.box.lt)) (by omega),hst,h.res.next s (by omega),hbox, ?_, ?_,hlo,hlt⟩
  · rw [e4];exact isVal_far h.val s (by omega)
  · rw [e1,e2,e3];exact isComps_far h.ops s (by omega)
theorem EB.value {w W W' W2:World} {rb eb:Nat} {r r':List UInt8} {v v':V} {l:List Cm} {c c':EC} (h:EB w W rb eb r v l c) (s:RStep W W' rb) (hR:Rdr W' rb r' 0) (hv:IsVal (only (fun b=>W.heap.size≤b) W') W'.heap.size v' c'.v) (s2:RStep W' W2 eb) (hbox:BC W2 eb (ecells c')) (e1:c'.oa=c.oa) (e2:c'.ol=c.ol) (e3:c'.oc=c.oc):EB w W2 rb eb r' v' l c':=by
  have hlo:=h.lo;have hlt:=h.lt
  have hcl:=h.box.lt
  have h1:=h.next s hR
  have hst:RStep w W2 rb:=⟨s2.os.trans h1.st.os,s2.tape.trans h1.st.tape,s2.output.trans h1.st.output,Nat.le_trans h1.st.size s2.size,fun k hk hr=>(s2.block k (Nat.lt_of_lt_of_le hk h1.st.size) (by omega)).trans (h1.st.block k hk hr)⟩
  refine ⟨h1.rdr.below (s2.below (Nat.le_of_lt h1.box.lt)) (by omega),hst,h1.res.next s2 (by omega),hbox, ?_, ?_,hlo,hlt⟩
  · exact isVal_far ((hv.sub (shows_step fun k hk hl=>⟨by omega,rfl⟩))) s2 (by omega)
  · rw [e1,e2,e3];exact isComps_far h1.ops s2 (by omega)
theorem takeU324_lt {n:Nat} {bs r:List UInt8} (h:rdN 4 bs=some (n,r)):n<4294967296:=Nat.lt_of_lt_of_le (rdN_lt h) (by decide)
set_option maxHeartbeats 16000000 in
set_option maxRecDepth 100000 in
theorem rEntry_any (w:World) (rb:Nat) (bs:List UInt8) (h:Rdr w rb bs 0) {out:Option (En×List UInt8)} (hout:rdE bs=out):
    Calls Tryd.prog 38 #[.pointer (some ⟨rb,0,none⟩)] w (REPost w rb out):=by
  obtain ⟨i0,hi0,hz0,hz1,hz2⟩:=info_parts ginfoC
  have hlt:=h.lt
  have HB:=Lib.hid ((Below.refl _ _).alloc (Nat.le_refl _) (.cells #[.int .u8 0, .int .u32 0, .int .u32 0, .int .u8 0, .int .i64 0, .string { data:= #[] }, .slice none 0 0, .slice none 0 0, .slice none 0 0] 31):Below w.heap.size w (w.alloc (.cells #[.int .u8 0, .int .u32 0, .int .u32 0, .int .u8 0, .int .i64 0, .string { data:= #[] }, .slice none 0 0, .slice none 0 0, .slice none 0 0] 31)))
  have HR0:=Lib.hid (h.of_below HB.out)
  have HC0:=Lib.hid (BC.start w #[.int .u8 0, .int .u32 0, .int .u32 0, .int .u8 0, .int .i64 0, .string { data:= #[] }, .slice none 0 0, .slice none 0 0, .slice none 0 0] 31)
  rw [rdE] at hout
  clear h
  cases hr:rdN 1 bs with
  | none=>
    obtain rfl:out=none:=by rw [←hout,hr];rfl
    clear hout
    have HN:=Lib.hid hr
    clear hr
    go_enter Tryd.func38,Tryd.ntmps38
    go_wp2_with (go_at_call 64;(with_reducible refine (takeU81_none _ rb bs 0 HR0.out HN.out).mono ?_);rintro e w1 ⟨rfl,rfl⟩)
    exact ⟨rfl, .of_below rb HB.out,rfl,bs,HR0.out⟩
  |some p=>
  obtain ⟨kd,r⟩:=p
  have hk1:kd<256:=rdN_lt hr
  rw [hr] at hout
  simp only [Option.bind_some] at hout
  have HN:=Lib.hid hr
  clear hr
  have TK:Hid (∀W,W=w.alloc (.cells #[.int .u8 0, .int .u32 0, .int .u32 0, .int .u8 0, .int .i64 0, .string { data:= #[] }, .slice none 0 0, .slice none 0 0, .slice none 0 0] 31)→Calls Tryd.prog 64 #[.pointer (some ⟨rb,0,none⟩), .int .i64 1] W fun e w'=>e= .returned (.int .u8 kd)∧Rdr w' rb r 0∧RStep w w' rb∧BC w' w.heap.size (ecells ezero)∧w.heap.size+1≤w'.heap.size):=by
    intro W hW
    subst hW
    refine (takeU81_some _ rb bs 0 HR0.out HN.out).mono fun e w' ⟨h1,h2,h3⟩=>⟨h1,h2,(RStep.of_below rb HB.out).trans h3,HC0.out.next h3 (by omega),by have:=h3.size;simp at this;omega⟩
  clear HN HR0 HC0
  cases h2:rdN 4 r with
  | none=>
    obtain rfl:out=none:=by rw [←hout,h2];rfl
    have HM:=Lib.hid h2
    clear hout h2
    go_enter Tryd.func38,Tryd.ntmps38
    go_wp2_with (first|(go_at_call 64;(with_reducible refine (TK.out _ rfl).mono ?_);rintro e w1 ⟨rfl,hR,hS,hC,hz⟩;have zs0:w.heap.size<w1.heap.size:=(by omega);have A1:=hC.keep ((Below.refl _ _).alloc (Nat.le_refl _) (.cells #[.int .u8 kd, .int .u32 0, .int .u32 0, .int .u8 0, .int .i64 0, .string { data:= #[] }, .slice none 0 0, .slice none 0 0, .slice none 0 0] 31)) (by omega);have A2:=BC.start w1 #[.int .u8 kd, .int .u32 0, .int .u32 0, .int .u8 0, .int .i64 0, .string { data:= #[] }, .slice none 0 0, .slice none 0 0, .slice none 0 0] 31;have A3:=hR.of_below ((Below.refl _ _).alloc (Nat.le_refl _) (.cells #[.int .u8 kd, .int .u32 0, .int .u32 0, .int .u8 0, .int .i64 0, .string { data:= #[] }, .slice none 0 0, .slice none 0 0, .slice none 0 0] 31));have A4:=hS.trans (.of_below rb ((Below.refl _ _).alloc (Nat.le_refl _) (.cells #[.int .u8 kd, .int .u32 0, .int .u32 0, .int .u8 0, .int .i64 0, .string { data:= #[] }, .slice none 0 0, .slice none 0 0, .slice none 0 0] 31))))|(go_at_call 65;(with_reducible refine (takeU324_none _ rb r 0 A3 HM.out).mono ?_);rintro e w2 ⟨rfl,rfl⟩))
    exact ⟨rfl,A4,rfl,r,A3⟩
  |some ps=>
  obtain ⟨sr,r2⟩:=ps
  have hs1:=takeU324_lt h2
  rw [h2] at hout
  simp only [Option.bind_some] at hout
  have HM:=Lib.hid h2
  clear h2
  cases h3:rdN 4 r2 with
  | none=>
    obtain rfl:out=none:=by rw [←hout,h3];rfl
    have HM3:=Lib.hid h3
    clear hout h3
    go_enter Tryd.func38,Tryd.ntmps38
    go_wp2_with (first|(go_at_call 64;(with_reducible refine (TK.out _ rfl).mono ?_);rintro e w1 ⟨rfl,hR,hS,hC,hz⟩;have zs0:w.heap.size<w1.heap.size:=(by omega);have A1:=hC.keep ((Below.refl _ _).alloc (Nat.le_refl _) (.cells #[.int .u8 kd, .int .u32 0, .int .u32 0, .int .u8 0, .int .i64 0, .string { data:= #[] }, .slice none 0 0, .slice none 0 0, .slice none 0 0] 31)) (by omega);have A2:=BC.start w1 #[.int .u8 kd, .int .u32 0, .int .u32 0, .int .u8 0, .int .i64 0, .string { data:= #[] }, .slice none 0 0, .slice none 0 0, .slice none 0 0] 31;have A3:=hR.of_below ((Below.refl _ _).alloc (Nat.le_refl _) (.cells #[.int .u8 kd, .int .u32 0, .int .u32 0, .int .u8 0, .int .i64 0, .string { data:= #[] }, .slice none 0 0, .slice none 0 0, .slice none 0 0] 31));have A4:=hS.trans (.of_below rb ((Below.refl _ _).alloc (Nat.le_refl _) (.cells #[.int .u8 kd, .int .u32 0, .int .u32 0, .int .u8 0, .int .i64 0, .string { data:= #[] }, .slice none 0 0, .slice none 0 0, .slice none 0 0] 31))))|(go_at_call 65;(with_reducible refine (takeU324_some _ rb r 0 A3 HM.out).mono ?_);rintro e w2 ⟨rfl,hR2,hS2⟩;have C2:=A2.next hS2 (by omega);have y1:=C2.at_ 1 _ rfl;have p1:=C2.fr 1)|(go_at_call 65;(with_reducible refine (takeU324_none _ rb r2 0 (hR2.setNew (by omega)) HM3.out).mono ?_);rintro e w3 ⟨rfl,rfl⟩))
    exact ⟨rfl,(A4.trans hS2).setNew (by omega),rfl,r2,hR2.setNew (by omega)⟩
  |some pq=>
  obtain ⟨sq,r3⟩:=pq
  have hq1:=takeU324_lt h3
  rw [h3] at hout
  simp only [Option.bind_some] at hout
  have HM3:=Lib.hid h3
  have HO:=Lib.hid hout
  clear h3 hout
  have bnd:∀(v:VC) (a:Option Addr) (m c:Nat),(⟨kd,sr,sq,v,a,m,c⟩:EC).Bnd:=fun v a m c=>⟨by show (0:Int)≤(kd:Int);omega,by show (kd:Int)<256;omega,by show (0:Int)≤(sr:Int);omega,by show (sr:Int)<4294967296;omega,by show (0:Int)≤(sq:Int);omega,by show (sq:Int)<4294967296;omega⟩
  by_cases e1:kd=1
  case pos=>
    have f1:((kd:Int)==1)=true:=by subst e1;rfl
    have HOUT:Hid (((rdV 18 r3).bind fun v=>some (⟨kd,sr,sq,v.1, []⟩,v.2))=out):=by have:=HO.out;rw [if_pos e1] at this;exact this
    clear e1 HO
    go_enter Tryd.func38,Tryd.ntmps38
    go_wp2_with (first|(go_at_call 64;(with_reducible refine (TK.out _ rfl).mono ?_);rintro e w1 ⟨rfl,hR,hS,hC,hz⟩;have zs0:w.heap.size<w1.heap.size:=(by omega);have A1:=hC.keep ((Below.refl _ _).alloc (Nat.le_refl _) (.cells #[.int .u8 kd, .int .u32 0, .int .u32 0, .int .u8 0, .int .i64 0, .string { data:= #[] }, .slice none 0 0, .slice none 0 0, .slice none 0 0] 31)) (by omega);have A2:=BC.start w1 #[.int .u8 kd, .int .u32 0, .int .u32 0, .int .u8 0, .int .i64 0, .string { data:= #[] }, .slice none 0 0, .slice none 0 0, .slice none 0 0] 31;have A3:=hR.of_below ((Below.refl _ _).alloc (Nat.le_refl _) (.cells #[.int .u8 kd, .int .u32 0, .int .u32 0, .int .u8 0, .int .i64 0, .string { data:= #[] }, .slice none 0 0, .slice none 0 0, .slice none 0 0] 31));have A4:=hS.trans (.of_below rb ((Below.refl _ _).alloc (Nat.le_refl _) (.cells #[.int .u8 kd, .int .u32 0, .int .u32 0, .int .u8 0, .int .i64 0, .string { data:= #[] }, .slice none 0 0, .slice none 0 0, .slice none 0 0] 31))))|(go_at_call 65;(with_reducible refine (takeU324_some _ rb r 0 A3 HM.out).mono ?_);rintro e w2 ⟨rfl,hR2,hS2⟩;have C2:=A2.next hS2 (by omega);have y1:=C2.at_ 1 _ rfl;have p1:=C2.fr 1;have D2:=A1.next hS2 (by omega))|(go_at_call 65;(with_reducible refine (takeU324_some _ rb r2 0 (hR2.setNew (by omega)) HM3.out).mono ?_);rintro e w3 ⟨rfl,hR3,hS3⟩;have C3:=(C2.set (i:=1) (x:= .int .u32 sr) (by simp)).next hS3 (by omega);have y2:=C3.at_ 2 _ rfl;have p2:=C3.fr 2;have y0:=C3.at_ 0 _ rfl;have hS3':=((A4.trans hS2).setNew (b:=w1.heap.size) (o:=1) (x:= .int .u32 sr) (by omega)).trans hS3;have D3:=(D2.far (b':=w1.heap.size) (o:=1) (x:= .int .u32 sr) (by omega)).next hS3 (by omega);have B:EB w (w3.setCell ⟨w1.heap.size,2,none⟩ (.int .u32 sq)) rb w1.heap.size r3 V.none [] ⟨kd,sr,sq,vzero,none,0,0⟩:=⟨hR3.setNew (by omega),hS3'.setNew (by omega),D3.far (by omega),C3.set (i:=2) (x:= .int .u32 sq) (by simp),isVal_none _ _, .nil _ _,hz,hlt⟩))
    obtain ⟨eb,heb⟩:∃eb,w1.heap.size=eb:=⟨_,rfl⟩
    rw [heb] at B zs0 ⊢
    clear C2 C3 D2 D3 A1 A2 A3 A4 hR hC hz hR2 hR3 y1 y2 p1 p2 TK HM HM3 heb hS3'
    cases s0:rdV 18 r3 with
    | none=>
      obtain rfl:out=none:=by rw [←HOUT.out,s0];rfl
      have HS0:=Lib.hid s0
      clear s0
      go_wp2_with (go_at_call 40;(with_reducible refine (rv18_none _ rb r3 B.rdr HS0.out).mono ?_);rintro e w9 ⟨rfl,hS9,hR9⟩)
      exact ⟨rfl,B.st.trans hS9,rfl,hR9⟩
    | some t0=>
      obtain ⟨v0,q0⟩:=t0
      have HS0:=Lib.hid s0
      clear s0
      rename_i KR aR KC aC
      have HKR:=Lib.hid aR
      clear aR
      go_wp2_with (go_at_call 40;(with_reducible refine (rv18_some _ rb r3 B.rdr HS0.out).mono ?_);rintro e w4 ⟨cv,rfl,hS4,hI4,hR4⟩;have BN:=B.next hS4 hR4;have p3:=BN.box.fr 3;have p4:=BN.box.fr 4;have p5:=BN.box.fr 5;have p6:=BN.box.fr 6;have p7:=BN.box.fr 7;have y3:=BN.box.at_ 3 _ rfl;have y4:=BN.box.at_ 4 _ rfl;have y5:=BN.box.at_ 5 _ rfl;have y6:=BN.box.at_ 6 _ rfl;have y7:=BN.box.at_ 7 _ rfl)
      have B2:EB w (((((w4.setCell ⟨eb,3,none⟩ (.int .u8 cv.k)).setCell ⟨eb,4,none⟩ (.int .i64 cv.n)).setCell ⟨eb,5,none⟩ (.string cv.s)).setCell ⟨eb,6,none⟩ (.slice cv.la cv.ll cv.lc)).setCell ⟨eb,7,none⟩ (.slice cv.oa cv.ol cv.oc)) rb eb q0 v0 [] ⟨kd,sr,sq,cv,none,0,0⟩:=B.value hS4 hR4 hI4 ((((RStep.self.trans RStep.self).trans RStep.self).trans RStep.self).trans RStep.self) (((((BN.box.set (i:=3) (x:= .int .u8 cv.k) (by simp [ecells])).set (i:=4) (x:= .int .i64 cv.n) (by simp [ecells])).set (i:=5) (x:= .string cv.s) (by simp [ecells])).set (i:=6) (x:= .slice cv.la cv.ll cv.lc) (by simp [ecells])).set (i:=7) (x:= .slice cv.oa cv.ol cv.oc) (by simp [ecells])) rfl rfl rfl
      obtain ⟨W2,hW2⟩:∃W2,(((((w4.setCell ⟨eb,3,none⟩ (.int .u8 cv.k)).setCell ⟨eb,4,none⟩ (.int .i64 cv.n)).setCell ⟨eb,5,none⟩ (.string cv.s)).setCell ⟨eb,6,none⟩ (.slice cv.la cv.ll cv.lc)).setCell ⟨eb,7,none⟩ (.slice cv.oa cv.ol cv.oc))=W2:=⟨_,rfl⟩
      rw [hW2] at B2 ⊢
      have hcl:=B2.box.lt
      clear hW2 BN hI4
      have y0:=B2.box.at_ 0 _ rfl
      have y1:=B2.box.at_ 1 _ rfl
      have y2:=B2.box.at_ 2 _ rfl
      have y3:=B2.box.at_ 3 _ rfl
      have y4:=B2.box.at_ 4 _ rfl
      have y5:=B2.box.at_ 5 _ rfl
      have y6:=B2.box.at_ 6 _ rfl
      have y7:=B2.box.at_ 7 _ rfl
      have y8:=B2.box.at_ 8 _ rfl
      have r0:=B2.res.at_ 0 _ rfl
      have gr0:=B2.res.fr 0
      have r1:=B2.res.at_ 1 _ rfl
      have gr1:=B2.res.fr 1
      have r2:=B2.res.at_ 2 _ rfl
      have gr2:=B2.res.fr 2
      have r3:=B2.res.at_ 3 _ rfl
      have gr3:=B2.res.fr 3
      have r4:=B2.res.at_ 4 _ rfl
      have gr4:=B2.res.fr 4
      have r5:=B2.res.at_ 5 _ rfl
      have gr5:=B2.res.fr 5
      have r6:=B2.res.at_ 6 _ rfl
      have gr6:=B2.res.fr 6
      have r7:=B2.res.at_ 7 _ rfl
      have gr7:=B2.res.fr 7
      have r8:=B2.res.at_ 8 _ rfl
      have gr8:=B2.res.fr 8
      refine HKR.out _ _ ?_
      go_wp2_with fail
      obtain rfl:out=some (⟨kd,sr,sq,v0, []⟩,q0):=by rw [←HOUT.out,HS0.out];rfl
      exact B2.leave (bnd _ _ _ _) rfl rfl rfl
  have f1:((kd:Int)==1)=false:=by simp;omega
  by_cases e2:kd=2
  case neg=>
    have f2:((kd:Int)==2)=false:=by simp;omega
    obtain rfl:out=some (⟨kd,sr,sq,V.none, []⟩,r3):=by have:=HO.out;rw [if_neg e1,if_neg e2] at this;exact this.symm
    clear e1 e2 HO
    go_enter Tryd.func38,Tryd.ntmps38
    go_wp2_with (first|(go_at_call 64;(with_reducible refine (TK.out _ rfl).mono ?_);rintro e w1 ⟨rfl,hR,hS,hC,hz⟩;have zs0:w.heap.size<w1.heap.size:=(by omega);have A1:=hC.keep ((Below.refl _ _).alloc (Nat.le_refl _) (.cells #[.int .u8 kd, .int .u32 0, .int .u32 0, .int .u8 0, .int .i64 0, .string { data:= #[] }, .slice none 0 0, .slice none 0 0, .slice none 0 0] 31)) (by omega);have A2:=BC.start w1 #[.int .u8 kd, .int .u32 0, .int .u32 0, .int .u8 0, .int .i64 0, .string { data:= #[] }, .slice none 0 0, .slice none 0 0, .slice none 0 0] 31;have A3:=hR.of_below ((Below.refl _ _).alloc (Nat.le_refl _) (.cells #[.int .u8 kd, .int .u32 0, .int .u32 0, .int .u8 0, .int .i64 0, .string { data:= #[] }, .slice none 0 0, .slice none 0 0, .slice none 0 0] 31));have A4:=hS.trans (.of_below rb ((Below.refl _ _).alloc (Nat.le_refl _) (.cells #[.int .u8 kd, .int .u32 0, .int .u32 0, .int .u8 0, .int .i64 0, .string { data:= #[] }, .slice none 0 0, .slice none 0 0, .slice none 0 0] 31))))|(go_at_call 65;(with_reducible refine (takeU324_some _ rb r 0 A3 HM.out).mono ?_);rintro e w2 ⟨rfl,hR2,hS2⟩;have C2:=A2.next hS2 (by omega);have y1:=C2.at_ 1 _ rfl;have p1:=C2.fr 1;have D2:=A1.next hS2 (by omega))|(go_at_call 65;(with_reducible refine (takeU324_some _ rb r2 0 (hR2.setNew (by omega)) HM3.out).mono ?_);rintro e w3 ⟨rfl,hR3,hS3⟩;have C3:=(C2.set (i:=1) (x:= .int .u32 sr) (by simp)).next hS3 (by omega);have y2:=C3.at_ 2 _ rfl;have p2:=C3.fr 2;have y0:=C3.at_ 0 _ rfl;have hS3':=((A4.trans hS2).setNew (b:=w1.heap.size) (o:=1) (x:= .int .u32 sr) (by omega)).trans hS3;have D3:=(D2.far (b':=w1.heap.size) (o:=1) (x:= .int .u32 sr) (by omega)).next hS3 (by omega);have B:EB w (w3.setCell ⟨w1.heap.size,2,none⟩ (.int .u32 sq)) rb w1.heap.size r3 V.none [] ⟨kd,sr,sq,vzero,none,0,0⟩:=⟨hR3.setNew (by omega),hS3'.setNew (by omega),D3.far (by omega),C3.set (i:=2) (x:= .int .u32 sq) (by simp),isVal_none _ _, .nil _ _,hz,hlt⟩;have y1:=C3.at_ 1 _ rfl;have y3:=C3.at_ 3 _ rfl;have y4:=C3.at_ 4 _ rfl;have y5:=C3.at_ 5 _ rfl;have y6:=C3.at_ 6 _ rfl;have y7:=C3.at_ 7 _ rfl;have y8:=C3.at_ 8 _ rfl;have r0:=D3.at_ 0 _ rfl;have gr0:=D3.fr 0;have r1:=D3.at_ 1 _ rfl;have gr1:=D3.fr 1;have r2:=D3.at_ 2 _ rfl;have gr2:=D3.fr 2;have r3:=D3.at_ 3 _ rfl;have gr3:=D3.fr 3;have r4:=D3.at_ 4 _ rfl;have gr4:=D3.fr 4;have r5:=D3.at_ 5 _ rfl;have gr5:=D3.fr 5;have r6:=D3.at_ 6 _ rfl;have gr6:=D3.fr 6;have r7:=D3.at_ 7 _ rfl;have gr7:=D3.fr 7;have r8:=D3.at_ 8 _ rfl;have gr8:=D3.fr 8;have hcl:=C3.lt))
    exact B.leave (bnd _ _ _ _) rfl rfl rfl
  case pos=>
  have f2:((kd:Int)==2)=true:=by subst e2;rfl
  have HOUT:Hid (((rdM 4 r3).bind fun n=>(rdL rdC n.1 n.2).bind fun l=>some ((⟨kd,sr,sq,V.none,l.1⟩:En),l.2))=out):=by have:=HO.out;rw [if_neg e1,if_pos e2] at this;exact this
  clear e1 e2 HO
  go_enter Tryd.func38,Tryd.ntmps38
  go_wp2_with (first|(go_at_call 64;(with_reducible refine (TK.out _ rfl).mono ?_);rintro e w1 ⟨rfl,hR,hS,hC,hz⟩;have zs0:w.heap.size<w1.heap.size:=(by omega);have A1:=hC.keep ((Below.refl _ _).alloc (Nat.le_refl _) (.cells #[.int .u8 kd, .int .u32 0, .int .u32 0, .int .u8 0, .int .i64 0, .string { data:= #[] }, .slice none 0 0, .slice none 0 0, .slice none 0 0] 31)) (by omega);have A2:=BC.start w1 #[.int .u8 kd, .int .u32 0, .int .u32 0, .int .u8 0, .int .i64 0, .string { data:= #[] }, .slice none 0 0, .slice none 0 0, .slice none 0 0] 31;have A3:=hR.of_below ((Below.refl _ _).alloc (Nat.le_refl _) (.cells #[.int .u8 kd, .int .u32 0, .int .u32 0, .int .u8 0, .int .i64 0, .string { data:= #[] }, .slice none 0 0, .slice none 0 0, .slice none 0 0] 31));have A4:=hS.trans (.of_below rb ((Below.refl _ _).alloc (Nat.le_refl _) (.cells #[.int .u8 kd, .int .u32 0, .int .u32 0, .int .u8 0, .int .i64 0, .string { data:= #[] }, .slice none 0 0, .slice none 0 0, .slice none 0 0] 31))))|(go_at_call 65;(with_reducible refine (takeU324_some _ rb r 0 A3 HM.out).mono ?_);rintro e w2 ⟨rfl,hR2,hS2⟩;have C2:=A2.next hS2 (by omega);have y1:=C2.at_ 1 _ rfl;have p1:=C2.fr 1;have D2:=A1.next hS2 (by omega))|(go_at_call 65;(with_reducible refine (takeU324_some _ rb r2 0 (hR2.setNew (by omega)) HM3.out).mono ?_);rintro e w3 ⟨rfl,hR3,hS3⟩;have C3:=(C2.set (i:=1) (x:= .int .u32 sr) (by simp)).next hS3 (by omega);have y2:=C3.at_ 2 _ rfl;have p2:=C3.fr 2;have y0:=C3.at_ 0 _ rfl;have hS3':=((A4.trans hS2).setNew (b:=w1.heap.size) (o:=1) (x:= .int .u32 sr) (by omega)).trans hS3;have D3:=(D2.far (b':=w1.heap.size) (o:=1) (x:= .int .u32 sr) (by omega)).next hS3 (by omega);have B:EB w (w3.setCell ⟨w1.heap.size,2,none⟩ (.int .u32 sq)) rb w1.heap.size r3 V.none [] ⟨kd,sr,sq,vzero,none,0,0⟩:=⟨hR3.setNew (by omega),hS3'.setNew (by omega),D3.far (by omega),C3.set (i:=2) (x:= .int .u32 sq) (by simp),isVal_none _ _, .nil _ _,hz,hlt⟩))
  obtain ⟨eb,heb⟩:∃eb,w1.heap.size=eb:=⟨_,rfl⟩
  rw [heb] at B zs0 ⊢
  clear C2 C3 D2 D3 A1 A2 A3 A4 hR hC hz hR2 hR3 y1 y2 p1 p2 TK HM HM3 heb hS3'
  cases hm:rdM 4 r3 with
  | none=>
    obtain rfl:out=none:=by rw [←HOUT.out,hm];rfl
    have HM4:=Lib.hid hm
    clear hm
    go_wp2_with (go_at_call 66;(with_reducible refine (many4_none _ rb r3 0 B.rdr HM4.out).mono ?_);rintro e w9 ⟨rfl,hS9,hR9⟩)
    exact ⟨rfl,B.st.trans hS9,rfl,hR9⟩
  |some pn=>
  obtain ⟨n,q⟩:=pn
  have hn4:=takeU324_lt (rdM_some hm).1
  have HOL:Hid (((rdL (fun x=>rdC x) n q).bind fun l=>some ((⟨kd,sr,sq,V.none,l.1⟩:En),l.2))=out):=by have:=HOUT.out;rw [hm] at this;exact this
  have HM4:=Lib.hid hm
  clear hm HOUT
  go_wp2_with (go_at_call 66;(with_reducible refine (many4_some _ rb r3 0 B.rdr HM4.out).mono ?_);rintro e w4 ⟨rfl,hR4,hS4⟩)
  have BN:=B.next hS4 hR4
  have LE0:LE w w4 rb eb kd sr sq q 0 none 0 0 [] [] q:=⟨rfl,rfl,rfl,hR4,BN.st,BN.res,BN.box,Row.nil _ _ _ _ _,BN.lo,hlt⟩
  clear BN B hR4 HM4 y0
  go_loopw [24] (fun i wr=>∃(j:Nat) (a:Option Addr) (m c:Nat) (xs:List Cm) (cs:List CC) (rj:List UInt8),j≤n∧i= .int .i64 j∧LE w wr rb eb kd sr sq q j a m c xs cs rj) (fun i _=>n - (intOf i).toNat)
  case atStart=>exact ⟨0,none,0,0, [], [],q,Nat.zero_le _,rfl,LE0⟩
  case round=>
    clear LE0
    obtain ⟨j,a,m,c,xs,cs,rj,hj,rfl,L⟩:=hrel
    have y8:=L.box.at_ 8 _ rfl
    have p8:=L.box.fr 8
    have hvlt:=L.box.lt
    have hlo:=L.lo
    by_cases hlt2:j<n
    · have HO2:Hid (∀W,RStep wr.drew W rb→W.ownsRow (eb+1) 75 12 (.slice a m c) j (cs.flatMap ccells)∧W.cell? ⟨eb,8,none⟩=some (.slice a m c)∧W.frozen? ⟨eb,8,none⟩=false∧eb<W.heap.size):=by
        intro W hW
        have ho:=((L.row.later (PC.closed xs cs) (.of_below rb (drew_below wr)) (by omega)).later (PC.closed xs cs) hW (by omega)).own
        rw [L.len] at ho
        exact ⟨ho,hW.cell (w:=wr.drew) y8 (by omega),(hW.frozen (w:=wr.drew) hvlt (by omega)).trans p8,Nat.lt_of_lt_of_le hvlt hW.size⟩
      have hne:(Value.slice a m c).ownBlock≠some eb:=fun e=>by have:=(L.row.lt _ e).1;omega
      have HC:Hid (Calls Tryd.prog 67 #[.pointer (some ⟨rb,0,none⟩)] wr.drew (RCPost wr.drew rb 0 (rdC rj))):=rComp_any wr.drew rb rj (L.rdr.of_below (drew_below wr)) rfl
      cases hx:rdC rj with
      | none=>
        obtain rfl:out=none:=by
          rw [←HOL.out,rdL_none (f:=fun x=>rdC x) (i:=j+1) (n:=n) (by rw [rdL,L.rd];simp only [Option.bind_some,hx];rfl) (by omega)];rfl
        rw [hx] at HC
        have LL:=Lib.hid L
        clear hx L
        go_wp2_with fail
        refine wp_region_panicP [] (fun w'=>RStep wr.drew w' rb∧∃bs',Rdr w' rb bs' 0) (fun a w' hD hw=> ?_) ?_
        · obtain ⟨hS4,bs4,hR4⟩:=hw
          exact ⟨hD,(LL.out.st.trans (.of_below rb (drew_below wr))).trans hS4,rfl,bs4,hR4⟩
        go_region_law
          (first
            |(go_simp;go_at_call 67;refine (HC.out).mono ?_;intro e w4 hP;by_cases hv:e= .returned (.agg #[.int .u8 0, .slice none 0 0, .string { data:= #[] }, .int .i64 0, .int .i64 0, .int .i64 0, .int .u8 0, .int .i64 0, .string { data:= #[] }, .slice none 0 0, .slice none 0 0, .string { data:= #[] }]);rotate_left;(focus (obtain ⟨hS4,he,hR4⟩:=hP;subst he;exact ⟨rfl,rfl,hS4,hR4⟩));obtain ⟨hS4,he,hR4⟩:=hP;rw [hv] at he;have HF:=Lib.hid he;clear he;subst hv;obtain ⟨ho4,hc4,hf4,hv4⟩:=HO2.out w4 hS4)
            |(refine step_append_lies _ (by rfl) _ _ _ (by rfl) (eb+1) 75 i0 _ 12 168 (by kernel_rfl) hi0 hz0 hz1 hz2 rfl (by omega) (.slice a m c) j (cs.flatMap ccells) (by rfl) (ho4.alloc _) ⟨w4.heap.size,0,none⟩ 1 1 (ccells czero) (by rfl) (by rfl) (World.news_of_block (t:=75) (fr:=(0,0)) (heap_alloc_new w4 _)) (by simp [ccells,Value.oneCell']) (by omega) (by unfold maxLen;omega) (by omega) (by simp;omega) (w4.heap.size+1) (by simp) ?_;intro g cap w5 hown5 hgrow5 hat5 hlt5;have hc5:w5.cell? ⟨eb,8,none⟩=some (.slice a m c):=(hgrow5.cell_far ⟨eb,8,none⟩ (by simp;omega) (Ne.symm hne)).trans (keep_cell ((Below.refl _ _).alloc (Nat.le_refl _) _) hc4 hv4);have hf5:w5.frozen? ⟨eb,8,none⟩=false:=(hgrow5.frozen_far ⟨eb,8,none⟩ (by simp;omega) (Ne.symm hne)).trans ((((Below.refl _ _).alloc (Nat.le_refl _) _:Below w4.heap.size w4 (w4.alloc _)).frozen (p:=⟨eb,8,none⟩) hv4).trans hf4)))
        all_goals cases HF.out
      |some xr=>
      obtain ⟨x,q3⟩:=xr
      have HX:=Lib.hid hx
      have LL:=Lib.hid L
      rw [hx] at HC
      clear hx L
      go_wp2_with fail
      refine wp_region_noPanic ?_
      go_region_law
        (first
          |(go_simp;go_at_call 67;refine (HC.out).mono ?_;rintro e w4 ⟨hS4,⟨cx,rfl,hI4⟩,hR4⟩;have HI4:=Lib.hid hI4;clear hI4;obtain ⟨ho4,hc4,hf4,hv4⟩:=HO2.out w4 hS4)
          |(refine step_append_lies _ (by rfl) _ _ _ (by rfl) (eb+1) 75 i0 _ 12 168 (by kernel_rfl) hi0 hz0 hz1 hz2 rfl (by omega) (.slice a m c) j (cs.flatMap ccells) (by rfl) (ho4.alloc _) ⟨w4.heap.size,0,none⟩ 1 1 (ccells cx) (by rfl) (by rfl) (World.news_of_block (t:=75) (fr:=(0,0)) (heap_alloc_new w4 _)) (by simp [ccells,Value.oneCell']) (by omega) (by unfold maxLen;omega) (by omega) (by simp;omega) (w4.heap.size+1) (by simp) ?_;intro g cap w5 hown5 hgrow5 hat5 hlt5;have hc5:w5.cell? ⟨eb,8,none⟩=some (.slice a m c):=(hgrow5.cell_far ⟨eb,8,none⟩ (by simp;omega) (Ne.symm hne)).trans (keep_cell ((Below.refl _ _).alloc (Nat.le_refl _) _) hc4 hv4);have hf5:w5.frozen? ⟨eb,8,none⟩=false:=(hgrow5.frozen_far ⟨eb,8,none⟩ (by simp;omega) (Ne.symm hne)).trans ((((Below.refl _ _).alloc (Nat.le_refl _) _:Below w4.heap.size w4 (w4.alloc _)).frozen (p:=⟨eb,8,none⟩) hv4).trans hf4)))
      all_goals
        refine NoPanic.normal ?_
        go_wp2_with fail
        go_roundw
        case rel=>exact ⟨j+1,some ⟨g,0,none⟩,j+1,cap,xs++ [x],cs++ [cx],q3,by omega,by go_num,LL.out.round HX.out hS4 HI4.out hR4 hown5 hgrow5 hat5⟩
        case measure=>simp [intOf];omega
    · have hjn:j=n:=by omega
      subst hjn
      obtain rfl:out=some (⟨kd,sr,sq,V.none,xs⟩,rj):=by rw [←HOL.out,L.rd];rfl
      have B:=LE.eb L (by omega)
      clear L HOL y8 p8
      have y0:=B.box.at_ 0 _ rfl
      have y1:=B.box.at_ 1 _ rfl
      have y2:=B.box.at_ 2 _ rfl
      have y3:=B.box.at_ 3 _ rfl
      have y4:=B.box.at_ 4 _ rfl
      have y5:=B.box.at_ 5 _ rfl
      have y6:=B.box.at_ 6 _ rfl
      have y7:=B.box.at_ 7 _ rfl
      have y8:=B.box.at_ 8 _ rfl
      have r0:=B.res.at_ 0 _ rfl
      have gr0:=B.res.fr 0
      have r1:=B.res.at_ 1 _ rfl
      have gr1:=B.res.fr 1
      have r2:=B.res.at_ 2 _ rfl
      have gr2:=B.res.fr 2
      have r3:=B.res.at_ 3 _ rfl
      have gr3:=B.res.fr 3
      have r4:=B.res.at_ 4 _ rfl
      have gr4:=B.res.fr 4
      have r5:=B.res.at_ 5 _ rfl
      have gr5:=B.res.fr 5
      have r6:=B.res.at_ 6 _ rfl
      have gr6:=B.res.fr 6
      have r7:=B.res.at_ 7 _ rfl
      have gr7:=B.res.fr 7
      have r8:=B.res.at_ 8 _ rfl
      have gr8:=B.res.fr 8
      go_wp2_with fail
      exact B.leave (bnd _ _ _ _) rfl rfl rfl
end Go.Proofs.YthceefjafklcmaaDoor
namespace Go.Proofs.YthceefjafklcmaaDoor
open Go.RowKit
theorem re_none (w:World) (rb:Nat) (bs:List UInt8) (h:Rdr w rb bs 0) (hr:rdE bs=none):
    Calls Tryd.prog 38 #[.pointer (some ⟨rb,0,none⟩)] w fun e w'=>e= .panicked [short] ∧RStep w w' rb∧∃bs',Rdr w' rb bs' 0:=
  (rEntry_any w rb bs h hr).mono fun _ _ ⟨h1,h2,h3⟩=>⟨h2,h1,h3⟩
theorem re_some (w:World) (rb:Nat) (bs:List UInt8) (h:Rdr w rb bs 0) {x:En} {r:List UInt8} (hr:rdE bs=some (x,r)):
    Calls Tryd.prog 38 #[.pointer (some ⟨rb,0,none⟩)] w fun e w'=>∃c:EC,e= .returned (.agg #[.int .u8 c.k, .int .u32 c.src, .int .u32 c.seq, .int .u8 c.v.k, .int .i64 c.v.n, .string c.v.s, .slice c.v.la c.v.ll c.v.lc, .slice c.v.oa c.v.ol c.v.oc, .slice c.oa c.ol c.oc])∧RStep w w' rb∧IsEntry (only (fun b=>w.heap.size≤b) w') w'.heap.size x c∧Rdr w' rb r 0:=
  (rEntry_any w rb bs h hr).mono fun _ _ ⟨h1,⟨c,h2,h3⟩,h4⟩=>⟨c,h2,h1,h3,h4⟩
theorem encode_e (sd:Bool) (w:World) (c:EC) (x:En) (hx:IsEntry w w.heap.size x c) (HS:Hid (∀W,Below w.heap.size w W→Calls Tryd.prog 29 #[.agg #[.int .u8 c.k, .int .u32 c.src, .int .u32 c.seq, .int .u8 c.v.k, .int .i64 c.v.n, .string c.v.s, .slice c.v.la c.v.ll c.v.lc, .slice c.v.oa c.v.ol c.v.oc, .slice c.oa c.ol c.oc]] W fun e w'=>e= .returned (.bool sd)∧Below W.heap.size W w')) (hsz:(encE x).length≤70368744177664):
    Calls Tryd.prog 32 #[.agg #[.int .u8 c.k, .int .u32 c.src, .int .u32 c.seq, .int .u8 c.v.k, .int .i64 c.v.n, .string c.v.s, .slice c.v.la c.v.ll c.v.lc, .slice c.v.oa c.v.ol c.v.oc, .slice c.oa c.ol c.oc]] w fun e w'=>(∃a n cc,e= .returned (.tuple #[.slice a n cc, .int .u16 (outN sd (encE x))])∧IsB w' w'.heap.size a n cc (outB sd (encE x)))∧Below w.heap.size w w':=by
  cases hx with
  | mk c v l hb hv ho=>
    obtain ⟨k,src,seq,⟨vk,vn,vs,vla,vll,vlc,voa,vol,voc⟩,oa,ol,oc⟩:=c
    exact encode_of sd w k src seq vk vn vs vla vll vlc voa vol voc oa ol oc v l hb.k0 hb.k1 hv ho HS (fun _=>hsz)
theorem results_wholeE {tmps:Array Value} {W:World} {b b':Nat} {c:EC} {x:Value} (ht:tmps[6]? =some (.pointer (some ⟨b,0,none⟩))) (ht':tmps[7]? =some (.pointer (some ⟨b',0,none⟩))) (h:BC W b [.int .u8 c.k, .int .u32 c.src, .int .u32 c.seq, .int .u8 c.v.k, .int .i64 c.v.n, .string c.v.s, .slice c.v.la c.v.ll c.v.lc, .slice c.v.oa c.v.ol c.v.oc, .slice c.oa c.ol c.oc]) (h':BC W b' [x]):
    (results Tryd.f37 tmps).run Tryd.prog W= .ok (.tuple #[.agg #[.int .u8 c.k, .int .u32 c.src, .int .u32 c.seq, .int .u8 c.v.k, .int .i64 c.v.n, .string c.v.s, .slice c.v.la c.v.ll c.v.lc, .slice c.v.oa c.v.ol c.v.oc, .slice c.oa c.ol c.oc],x]) W:=by
  obtain ⟨r0,r1,r2,r3,r4,r5,r6,r7,r8⟩:=row9 h.at_
  have s0:=h'.at_ 0 _ rfl
  simp [results,Tryd.results37,go_sem,ht,ht',s0,r0,r1,r2,r3,r4,r5,r6,r7,r8]
def WEPost (w:World) (r:En×Int) (e:Ending) (w':World):Prop:=
  (∃c:EC,e= .returned (.tuple #[.agg #[.int .u8 c.k, .int .u32 c.src, .int .u32 c.seq, .int .u8 c.v.k, .int .i64 c.v.n, .string c.v.s, .slice c.v.la c.v.ll c.v.lc, .slice c.v.oa c.v.ol c.v.oc, .slice c.oa c.ol c.oc], .int .u16 r.2])∧IsEntry (only (fun b=>w.heap.size≤b) w') w'.heap.size r.1 c)∧Below w.heap.size w w'
theorem wdoorE_short {tmps:Array Value} {w W:World} {cs:List Value} {x:Value} (H:WH w W ez cs x) (hl:cs.length=9) (ht:tmps[6]? =some (.pointer (some ⟨w.heap.size,0,none⟩))) (ht':tmps[7]? =some (.pointer (some ⟨w.heap.size+1,0,none⟩))):
    Leaves Tryd.prog Tryd.f37 tmps (WEPost w (En.none,100)) [{ target:= .fn (.func 63) #[.pointer (some ⟨w.heap.size+1+1,0,none⟩), .pointer (some ⟨w.heap.size,0,none⟩), .pointer (some ⟨w.heap.size+1,0,none⟩)],args:= #[] }] (.panicking [short]) W:=by
  refine leaves_cons (f:=63) (args:= #[.pointer (some ⟨w.heap.size+1+1,0,none⟩), .pointer (some ⟨w.heap.size,0,none⟩), .pointer (some ⟨w.heap.size+1,0,none⟩)]) (by simp) (by simp [go_sem]) ?_
  refine (catchE_short (w.heap.size+2) w.heap.size (w.heap.size+1) W H.non cs H.out hl x H.err (by omega) (by omega)).mono ?_
  rintro e u' w'' ⟨rfl,rfl,hw⟩
  show Leaves _ _ _ _ [] .returning w''
  obtain ⟨W1,hW1⟩:∃W1,(((((((((W.setCell ⟨w.heap.size,0,none⟩ (.int .u8 0)).setCell ⟨w.heap.size,1,none⟩ (.int .u32 0)).setCell ⟨w.heap.size,2,none⟩ (.int .u32 0)).setCell ⟨w.heap.size,3,none⟩ (.int .u8 0)).setCell ⟨w.heap.size,4,none⟩ (.int .i64 0)).setCell ⟨w.heap.size,5,none⟩ (.string { data:= #[] })).setCell ⟨w.heap.size,6,none⟩ (.slice none 0 0)).setCell ⟨w.heap.size,7,none⟩ (.slice none 0 0)).setCell ⟨w.heap.size,8,none⟩ (.slice none 0 0))=W1:=⟨_,rfl⟩
  have c1:BC W1 w.heap.size ez:=by
    rw [←hW1]
    match cs,hl,H.out with
    | [z0,z1,z2,z3,z4,z5,z6,z7,z8],_,ho=>exact (((((((((ho.set (i:=0) (x:= .int .u8 0) (by simp)).set (i:=1) (x:= .int .u32 0) (by simp)).set (i:=2) (x:= .int .u32 0) (by simp)).set (i:=3) (x:= .int .u8 0) (by simp)).set (i:=4) (x:= .int .i64 0) (by simp)).set (i:=5) (x:= .string { data:= #[] }) (by simp)).set (i:=6) (x:= .slice none 0 0) (by simp)).set (i:=7) (x:= .slice none 0 0) (by simp)).set (i:=8) (x:= .slice none 0 0) (by simp))
  have e1:BC W1 (w.heap.size+1) [x] :=by
    rw [←hW1]
    exact (((((((((H.err.far (by omega)).far (by omega)).far (by omega)).far (by omega)).far (by omega)).far (by omega)).far (by omega)).far (by omega)).far (by omega))
  have s1:RStep W W1 w.heap.size:=by rw [←hW1];exact (((((((RStep.self.trans RStep.self).trans RStep.self).trans RStep.self).trans RStep.self).trans RStep.self).trans RStep.self).trans RStep.self).trans RStep.self
  rw [hW1] at hw
  have c2:BC (W1.setCell ⟨w.heap.size+1,0,none⟩ (.int .u16 100)) w.heap.size ez:=c1.far (by omega)
  have e2:BC (W1.setCell ⟨w.heap.size+1,0,none⟩ (.int .u16 100)) (w.heap.size+1) [.int .u16 100] :=e1.set (i:=0) (x:= .int .u16 100) (by simp)
  have hb:Below (W1.setCell ⟨w.heap.size+1,0,none⟩ (.int .u16 100)).heap.size (W1.setCell ⟨w.heap.size+1,0,none⟩ (.int .u16 100)) w'':=by rw [hw];exact (Below.refl _ _).alloc (Nat.le_refl _) _
  have s2:RStep W1 (W1.setCell ⟨w.heap.size+1,0,none⟩ (.int .u16 100)) (w.heap.size+1):=RStep.self
  have hlt:=H.out.lt
  have hB:Below w.heap.size w w'':=by
    have b1:Below w.heap.size W W1:=s1.below (by omega)
    have b2:Below w.heap.size W1 (W1.setCell ⟨w.heap.size+1,0,none⟩ (.int .u16 100)):=(s2.below (by have:=s1.size;have:=H.err.lt;omega)).mono (by omega)
    have z1:=s1.size
    have z2:=s2.size
    exact ((H.below.trans b1).trans b2).trans (hb.mono (by omega))
  exact ⟨_,results_wholeE (c:=ezero) ht ht' (c2.keep hb c2.lt) (e2.keep hb e2.lt),⟨ezero,rfl,isEntry_none _ _⟩,hB⟩
theorem wdoorE_idle {tmps:Array Value} {w W:World} {c:EC} {v:En} {x:Int} (H:WH w W ez [.int .u8 c.k, .int .u32 c.src, .int .u32 c.seq, .int .u8 c.v.k, .int .i64 c.v.n, .string c.v.s, .slice c.v.la c.v.ll c.v.lc, .slice c.v.oa c.v.ol c.v.oc, .slice c.oa c.ol c.oc] (.int .u16 x)) (hv:IsEntry (only (fun b=>w.heap.size≤b) W) W.heap.size v c) (ht:tmps[6]? =some (.pointer (some ⟨w.heap.size,0,none⟩))) (ht':tmps[7]? =some (.pointer (some ⟨w.heap.size+1,0,none⟩))):
    Leaves Tryd.prog Tryd.f37 tmps (WEPost w (v,x)) [{ target:= .fn (.func 63) #[.pointer (some ⟨w.heap.size+1+1,0,none⟩), .pointer (some ⟨w.heap.size,0,none⟩), .pointer (some ⟨w.heap.size+1,0,none⟩)],args:= #[] }] .returning W:=by
  refine leaves_cons (f:=63) (args:= #[.pointer (some ⟨w.heap.size+1+1,0,none⟩), .pointer (some ⟨w.heap.size,0,none⟩), .pointer (some ⟨w.heap.size+1,0,none⟩)]) (by simp) (by simp [go_sem]) ?_
  refine (catchE_idle (w.heap.size+2) w.heap.size (w.heap.size+1) W).mono ?_
  rintro e u' w'' ⟨rfl,rfl,rfl⟩
  exact ⟨_,results_wholeE ht ht' H.out H.err,⟨c,rfl,hv⟩,H.below⟩
theorem WH.storeE {w W:World} {z0 z1 z2 z3 z4 z5 z6 z7 z8 x:Value} (h:WH w W ez [z0,z1,z2,z3,z4,z5,z6,z7,z8] x) (c:EC):WH w ((((((((((W.setCell ⟨w.heap.size,0,none⟩ (.int .u8 c.k)).setCell ⟨w.heap.size,1,none⟩ (.int .u32 c.src)).setCell ⟨w.heap.size,2,none⟩ (.int .u32 c.seq)).setCell ⟨w.heap.size,3,none⟩ (.int .u8 c.v.k)).setCell ⟨w.heap.size,4,none⟩ (.int .i64 c.v.n)).setCell ⟨w.heap.size,5,none⟩ (.string c.v.s)).setCell ⟨w.heap.size,6,none⟩ (.slice c.v.la c.v.ll c.v.lc)).setCell ⟨w.heap.size,7,none⟩ (.slice c.v.oa c.v.ol c.v.oc)).setCell ⟨w.heap.size,8,none⟩ (.slice c.oa c.ol c.oc))) ez [.int .u8 c.k, .int .u32 c.src, .int .u32 c.seq, .int .u8 c.v.k, .int .i64 c.v.n, .string c.v.s, .slice c.v.la c.v.ll c.v.lc, .slice c.v.oa c.v.ol c.v.oc, .slice c.oa c.ol c.oc] x∧RStep W ((((((((((W.setCell ⟨w.heap.size,0,none⟩ (.int .u8 c.k)).setCell ⟨w.heap.size,1,none⟩ (.int .u32 c.src)).setCell ⟨w.heap.size,2,none⟩ (.int .u32 c.seq)).setCell ⟨w.heap.size,3,none⟩ (.int .u8 c.v.k)).setCell ⟨w.heap.size,4,none⟩ (.int .i64 c.v.n)).setCell ⟨w.heap.size,5,none⟩ (.string c.v.s)).setCell ⟨w.heap.size,6,none⟩ (.slice c.v.la c.v.ll c.v.lc)).setCell ⟨w.heap.size,7,none⟩ (.slice c.v.oa c.v.ol c.v.oc)).setCell ⟨w.heap.size,8,none⟩ (.slice c.oa c.ol c.oc))) w.heap.size:=by
  have s1:RStep W ((((((((((W.setCell ⟨w.heap.size,0,none⟩ (.int .u8 c.k)).setCell ⟨w.heap.size,1,none⟩ (.int .u32 c.src)).setCell ⟨w.heap.size,2,none⟩ (.int .u32 c.seq)).setCell ⟨w.heap.size,3,none⟩ (.int .u8 c.v.k)).setCell ⟨w.heap.size,4,none⟩ (.int .i64 c.v.n)).setCell ⟨w.heap.size,5,none⟩ (.string c.v.s)).setCell ⟨w.heap.size,6,none⟩ (.slice c.v.la c.v.ll c.v.lc)).setCell ⟨w.heap.size,7,none⟩ (.slice c.v.oa c.v.ol c.v.oc)).setCell ⟨w.heap.size,8,none⟩ (.slice c.oa c.ol c.oc))) w.heap.size:=(((((((RStep.self.trans RStep.self).trans RStep.self).trans RStep.self).trans RStep.self).trans RStep.self).trans RStep.self).trans RStep.self).trans RStep.self
  have hlt:=h.out.lt
  exact ⟨⟨(((((((((h.out.set (i:=0) (x:= .int .u8 c.k) (by simp)).set (i:=1) (x:= .int .u32 c.src) (by simp)).set (i:=2) (x:= .int .u32 c.seq) (by simp)).set (i:=3) (x:= .int .u8 c.v.k) (by simp)).set (i:=4) (x:= .int .i64 c.v.n) (by simp)).set (i:=5) (x:= .string c.v.s) (by simp)).set (i:=6) (x:= .slice c.v.la c.v.ll c.v.lc) (by simp)).set (i:=7) (x:= .slice c.v.oa c.v.ol c.v.oc) (by simp)).set (i:=8) (x:= .slice c.oa c.ol c.oc) (by simp)),h.err.next s1 (by omega),h.non.next s1 (by omega),h.below.trans (s1.below (by omega))⟩,s1⟩
set_option maxHeartbeats 4000000 in
set_option maxRecDepth 100000 in
theorem wholeE_none (w:World) (a:Option Addr) (n c:Nat) (bs:List UInt8) (h:IsB w w.heap.size a n c bs) (hn:bs.length≤60000) (hr:rdE bs=none):
    Calls Tryd.prog 37 #[.slice a n c, .func (.func 38) #[] #[], .func (.func 32) #[] #[]] w (WEPost w (En.none,100)):=by
  have hmf:∀(fn:Fn) (first cap:Array Value) (w:World),(Instr.makeFunc fn first cap).run Tryd.prog w= .ok (.func fn first cap) w:=fun _ _ _ _=>rfl
  have HS:=Lib.hid (WH.start w ez bs a n c h)
  have hnn:=h.len
  have hn2:¬60000<n:=by omega
  clear h hnn hn
  go_enter_defers Tryd.func37,Tryd.ntmps37
  go_wp2_with (go_at_call 38;refine (re_none _ (w.heap.size+3) bs (HS.out _ _ _ _ _ rfl).2.1 hr).mono ?_;rintro e w4 ⟨rfl,hS4,hR4⟩)
  have HH:=HS.out _ _ _ _ _ hS4.src
  exact wdoorE_short (HH.1.read hS4 (by omega)) rfl rfl rfl
set_option maxHeartbeats 4000000 in
set_option maxRecDepth 100000 in
theorem wholeE_long (w:World) (a:Option Addr) (n c:Nat) (bs:List UInt8) (h:IsB w w.heap.size a n c bs) (hn:60000<bs.length):
    Calls Tryd.prog 37 #[.slice a n c, .func (.func 38) #[] #[], .func (.func 32) #[] #[]] w (WEPost w (En.none,3)):=by
  have hnn:=h.len
  have hn2:60000<n:=by omega
  clear h hnn hn
  go_enter_defers Tryd.func37,Tryd.ntmps37
  go_wp2_with fail
  obtain ⟨w1,hw1⟩:∃w1,w.alloc (.cells ez.toArray 31)=w1:=⟨_,rfl⟩
  have s1:w1.heap.size=w.heap.size+1:=by rw [←hw1,World.size_alloc]
  have b1:Below w.heap.size w w1:=by rw [←hw1];exact (Below.refl _ _).alloc (Nat.le_refl _) _
  have c1:BC w1 w.heap.size ez:=by rw [←hw1];exact BC.start w ez.toArray _
  obtain ⟨w2,hw2⟩:∃w2,w1.alloc (.cells #[.int .u16 3] 33)=w2:=⟨_,rfl⟩
  have s2:w2.heap.size=w.heap.size+2:=by rw [←hw2,World.size_alloc,s1]
  have b2:Below w1.heap.size w1 w2:=by rw [←hw2];exact (Below.refl _ _).alloc (Nat.le_refl _) _
  have c2:BC w2 (w.heap.size+1) [.int .u16 3] :=by rw [←hw2, ←s1];exact BC.start w1 #[.int .u16 3] _
  have b3:Below w2.heap.size w2 (w2.alloc (.cells ez.toArray 31)):=(Below.refl _ _).alloc (Nat.le_refl _) _
  have hB:Below w.heap.size w (w2.alloc (.cells ez.toArray 31)):=(b1.trans (b2.mono (by omega))).trans (b3.mono (by omega))
  have hfin:WEPost w (En.none,3) (.returned (.tuple #[.agg #[.int .u8 ezero.k, .int .u32 ezero.src, .int .u32 ezero.seq, .int .u8 ezero.v.k, .int .i64 ezero.v.n, .string ezero.v.s, .slice ezero.v.la ezero.v.ll ezero.v.lc, .slice ezero.v.oa ezero.v.ol ezero.v.oc, .slice ezero.oa ezero.ol ezero.oc], .int .u16 3])) (w2.alloc (.cells ez.toArray 31)):=⟨⟨ezero,rfl,isEntry_none _ _⟩,hB⟩
  have hres:=fun tmps ht ht'=>results_wholeE (tmps:=tmps) (c:=ezero) ht ht' ((c1.keep b2 (by omega)).keep b3 (by omega)) (c2.keep b3 (by omega))
  rw [←hw2, ←hw1] at hfin hres
  exact ⟨_,hres _ rfl rfl,hfin⟩
set_option maxHeartbeats 8000000 in
set_option maxRecDepth 100000 in
theorem wholeE_bad (w:World) (a:Option Addr) (n c:Nat) (bs:List UInt8) (h:IsB w w.heap.size a n c bs) (hn:bs.length≤60000) {v:En} {r:List UInt8} (hr:rdE bs=some (v,r)) (hsz:(encE v).length≤70368744177664) (sd:Bool)
    (HLV:Hid (∀W5,Below w.heap.size w W5→∀cv:EC,IsEntry W5 W5.heap.size v cv→Hid (∀W,Below W5.heap.size W5 W→Calls Tryd.prog 29 #[.agg #[.int .u8 cv.k, .int .u32 cv.src, .int .u32 cv.seq, .int .u8 cv.v.k, .int .i64 cv.v.n, .string cv.v.s, .slice cv.v.la cv.v.ll cv.v.lc, .slice cv.v.oa cv.v.ol cv.v.oc, .slice cv.oa cv.ol cv.oc]] W fun e w'=>e= .returned (.bool sd)∧Below W.heap.size W w'))) (hbad:outN sd (encE v)≠0):
    Calls Tryd.prog 37 #[.slice a n c, .func (.func 38) #[] #[], .func (.func 32) #[] #[]] w (WEPost w (En.none,100)):=by
  have hmf:∀(fn:Fn) (first cap:Array Value) (w:World),(Instr.makeFunc fn first cap).run Tryd.prog w= .ok (.func fn first cap) w:=fun _ _ _ _=>rfl
  have HS:=Lib.hid (WH.start w ez bs a n c h)
  have hnn:=h.len
  have hn2:¬60000<n:=by omega
  obtain ⟨en,hen⟩:∃en,encE v=en:=⟨_,rfl⟩
  have HEN:=Lib.hid hen
  obtain ⟨N,hN⟩:∃N,outN sd en=N:=⟨_,rfl⟩
  have HN:=Lib.hid hN
  rw [hen,hN] at hbad
  have fN:(N==0)=false:=by simpa using hbad
  have fN2:(N !=0)=true:=by simpa using hbad
  have fN3:decide (N=0)=false:=by simpa using hbad
  clear h hnn hn hen hN
  go_enter_defers Tryd.func37,Tryd.ntmps37
  go_wp2_with (first|(go_at_call 38;refine (re_some _ (w.heap.size+3) bs (HS.out _ _ _ _ _ rfl).2.1 hr).mono ?_;rintro e w4 ⟨cv,rfl,hS4,hI4,hR4⟩;have HH:=HS.out _ _ _ _ _ hS4.src;have H4:=HH.1.read hS4 (by omega);have O:=H4.out;have o0:=O.at_ 0 _ rfl;have g0:=O.fr 0;have o1:=O.at_ 1 _ rfl;have g1:=O.fr 1;have o2:=O.at_ 2 _ rfl;have g2:=O.fr 2;have o3:=O.at_ 3 _ rfl;have g3:=O.fr 3;have o4:=O.at_ 4 _ rfl;have g4:=O.fr 4;have o5:=O.at_ 5 _ rfl;have g5:=O.fr 5;have o6:=O.at_ 6 _ rfl;have g6:=O.fr 6;have o7:=O.at_ 7 _ rfl;have g7:=O.fr 7;have o8:=O.at_ 8 _ rfl;have g8:=O.fr 8;have H5:=H4.storeE cv;have hV5:=(isEntry_far (hI4.sub (shows_step (S':=fun b=>w.heap.size+4≤b) fun k hk _=>⟨by have:=HH.2.2;omega,rfl⟩)) H5.2 (by omega)).sub (shows_only _ _ _);have HV5:=Lib.hid hV5;have HH5:=Lib.hid H5.1;clear hI4 hV5 H5 H4 HH O)|(go_at_call 32;refine (encode_e sd _ cv v HV5.out (HLV.out _ HH5.out.below cv HV5.out) hsz).mono ?_;rw [HEN.out];rintro e w6 ⟨⟨ra,rn,rc,rfl,hI6⟩,hb6⟩;rw [HN.out];have H6:=HH5.out.next hb6;clear hI6;have o0:=H6.out.at_ 0 _ rfl;have g0:=H6.out.fr 0;have n0:=H6.non.at_ 0 _ rfl;have o1:=H6.out.at_ 1 _ rfl;have g1:=H6.out.fr 1;have n1:=H6.non.at_ 1 _ rfl;have o2:=H6.out.at_ 2 _ rfl;have g2:=H6.out.fr 2;have n2:=H6.non.at_ 2 _ rfl;have o3:=H6.out.at_ 3 _ rfl;have g3:=H6.out.fr 3;have n3:=H6.non.at_ 3 _ rfl;have o4:=H6.out.at_ 4 _ rfl;have g4:=H6.out.fr 4;have n4:=H6.non.at_ 4 _ rfl;have o5:=H6.out.at_ 5 _ rfl;have g5:=H6.out.fr 5;have n5:=H6.non.at_ 5 _ rfl;have o6:=H6.out.at_ 6 _ rfl;have g6:=H6.out.fr 6;have n6:=H6.non.at_ 6 _ rfl;have o7:=H6.out.at_ 7 _ rfl;have g7:=H6.out.fr 7;have n7:=H6.non.at_ 7 _ rfl;have o8:=H6.out.at_ 8 _ rfl;have g8:=H6.out.fr 8;have n8:=H6.non.at_ 8 _ rfl;have x0:=H6.err.at_ 0 _ rfl;have xf:=H6.err.fr 0;have HH6:=Lib.hid H6;clear H6))
  refine wdoorE_idle (c:=ezero) (v:=En.none) ?_ ?_ ?_ ?_
  · exact (HH6.out.storeE ezero).1.setErr
  · exact isEntry_none _ _
  · rfl
  · rfl
set_option maxHeartbeats 8000000 in
set_option maxRecDepth 100000 in
theorem wholeE_neq (w:World) (a:Option Addr) (n c:Nat) (bs:List UInt8) (h:IsB w w.heap.size a n c bs) (hn:bs.length≤60000) {v:En} {r:List UInt8} (hr:rdE bs=some (v,r)) (hsz:(encE v).length≤70368744177664) (sd:Bool)
    (HLV:Hid (∀W5,Below w.heap.size w W5→∀cv:EC,IsEntry W5 W5.heap.size v cv→Hid (∀W,Below W5.heap.size W5 W→Calls Tryd.prog 29 #[.agg #[.int .u8 cv.k, .int .u32 cv.src, .int .u32 cv.seq, .int .u8 cv.v.k, .int .i64 cv.v.n, .string cv.v.s, .slice cv.v.la cv.v.ll cv.v.lc, .slice cv.v.oa cv.v.ol cv.v.oc, .slice cv.oa cv.ol cv.oc]] W fun e w'=>e= .returned (.bool sd)∧Below W.heap.size W w'))) (hok:outN sd (encE v)=0) (heq:eqBs (outB sd (encE v)) bs=false):
    Calls Tryd.prog 37 #[.slice a n c, .func (.func 38) #[] #[], .func (.func 32) #[] #[]] w (WEPost w (En.none,100)):=by
  have hmf:∀(fn:Fn) (first cap:Array Value) (w:World),(Instr.makeFunc fn first cap).run Tryd.prog w= .ok (.func fn first cap) w:=fun _ _ _ _=>rfl
  have HS:=Lib.hid (WH.start w ez bs a n c h)
  have HI:=Lib.hid h
  have hnn:=h.len
  have hn2:¬60000<n:=by omega
  obtain ⟨en,hen⟩:∃en,encE v=en:=⟨_,rfl⟩
  rw [hen] at hok heq
  have HEN:=Lib.hid hen
  have HN:=Lib.hid hok
  have HE:=Lib.hid heq
  clear h hnn hn hen hok heq
  go_enter_defers Tryd.func37,Tryd.ntmps37
  go_wp2_with (first|(go_at_call 38;refine (re_some _ (w.heap.size+3) bs (HS.out _ _ _ _ _ rfl).2.1 hr).mono ?_;rintro e w4 ⟨cv,rfl,hS4,hI4,hR4⟩;have HH:=HS.out _ _ _ _ _ hS4.src;have H4:=HH.1.read hS4 (by omega);have O:=H4.out;have o0:=O.at_ 0 _ rfl;have g0:=O.fr 0;have o1:=O.at_ 1 _ rfl;have g1:=O.fr 1;have o2:=O.at_ 2 _ rfl;have g2:=O.fr 2;have o3:=O.at_ 3 _ rfl;have g3:=O.fr 3;have o4:=O.at_ 4 _ rfl;have g4:=O.fr 4;have o5:=O.at_ 5 _ rfl;have g5:=O.fr 5;have o6:=O.at_ 6 _ rfl;have g6:=O.fr 6;have o7:=O.at_ 7 _ rfl;have g7:=O.fr 7;have o8:=O.at_ 8 _ rfl;have g8:=O.fr 8;have H5:=H4.storeE cv;have hV5:=(isEntry_far (hI4.sub (shows_step (S':=fun b=>w.heap.size+4≤b) fun k hk _=>⟨by have:=HH.2.2;omega,rfl⟩)) H5.2 (by omega)).sub (shows_only _ _ _);have HV5:=Lib.hid hV5;have HH5:=Lib.hid H5.1;clear hI4 hV5 H5 H4 HH O)|(go_at_call 32;refine (encode_e sd _ cv v HV5.out (HLV.out _ HH5.out.below cv HV5.out) hsz).mono ?_;rw [HEN.out];rintro e w6 ⟨⟨ra,rn,rc,rfl,hI6⟩,hb6⟩;rw [HN.out];have H6:=HH5.out.next hb6;have HI6:=Lib.hid hI6;clear hI6;have o0:=H6.out.at_ 0 _ rfl;have g0:=H6.out.fr 0;have n0:=H6.non.at_ 0 _ rfl;have o1:=H6.out.at_ 1 _ rfl;have g1:=H6.out.fr 1;have n1:=H6.non.at_ 1 _ rfl;have o2:=H6.out.at_ 2 _ rfl;have g2:=H6.out.fr 2;have n2:=H6.non.at_ 2 _ rfl;have o3:=H6.out.at_ 3 _ rfl;have g3:=H6.out.fr 3;have n3:=H6.non.at_ 3 _ rfl;have o4:=H6.out.at_ 4 _ rfl;have g4:=H6.out.fr 4;have n4:=H6.non.at_ 4 _ rfl;have o5:=H6.out.at_ 5 _ rfl;have g5:=H6.out.fr 5;have n5:=H6.non.at_ 5 _ rfl;have o6:=H6.out.at_ 6 _ rfl;have g6:=H6.out.fr 6;have n6:=H6.non.at_ 6 _ rfl;have o7:=H6.out.at_ 7 _ rfl;have g7:=H6.out.fr 7;have n7:=H6.non.at_ 7 _ rfl;have o8:=H6.out.at_ 8 _ rfl;have g8:=H6.out.fr 8;have n8:=H6.non.at_ 8 _ rfl;have x0:=H6.err.at_ 0 _ rfl;have xf:=H6.err.fr 0;have HH6:=Lib.hid H6;clear H6))
  refine (equal_any w6 _ _ ra a rn n rc c _ bs HI6.out (HI.out.keep HH6.out.below)).mono ?_
  rw [HE.out]
  rintro e w7 ⟨rfl,rfl⟩
  go_wp2_with fail
  refine wdoorE_idle (c:=ezero) (v:=En.none) ?_ ?_ ?_ ?_
  · exact (HH6.out.storeE ezero).1.setErr
  · exact isEntry_none _ _
  · rfl
  · rfl
set_option maxHeartbeats 8000000 in
set_option maxRecDepth 100000 in
theorem wholeE_eq (w:World) (a:Option Addr) (n c:Nat) (bs:List UInt8) (h:IsB w w.heap.size a n c bs) (hn:bs.length≤60000) {v:En} {r:List UInt8} (hr:rdE bs=some (v,r)) (hsz:(encE v).length≤70368744177664) (sd:Bool)
    (HLV:Hid (∀W5,Below w.heap.size w W5→∀cv:EC,IsEntry W5 W5.heap.size v cv→Hid (∀W,Below W5.heap.size W5 W→Calls Tryd.prog 29 #[.agg #[.int .u8 cv.k, .int .u32 cv.src, .int .u32 cv.seq, .int .u8 cv.v.k, .int .i64 cv.v.n, .string cv.v.s, .slice cv.v.la cv.v.ll cv.v.lc, .slice cv.v.oa cv.v.ol cv.v.oc, .slice cv.oa cv.ol cv.oc]] W fun e w'=>e= .returned (.bool sd)∧Below W.heap.size W w'))) (hok:outN sd (encE v)=0) (heq:eqBs (outB sd (encE v)) bs=true):
    Calls Tryd.prog 37 #[.slice a n c, .func (.func 38) #[] #[], .func (.func 32) #[] #[]] w (WEPost w (v,0)):=by
  have hmf:∀(fn:Fn) (first cap:Array Value) (w:World),(Instr.makeFunc fn first cap).run Tryd.prog w= .ok (.func fn first cap) w:=fun _ _ _ _=>rfl
  have HS:=Lib.hid (WH.start w ez bs a n c h)
  have HI:=Lib.hid h
  have hnn:=h.len
  have hn2:¬60000<n:=by omega
  obtain ⟨en,hen⟩:∃en,encE v=en:=⟨_,rfl⟩
  rw [hen] at hok heq
  have HEN:=Lib.hid hen
  have HN:=Lib.hid hok
  have HE:=Lib.hid heq
  clear h hnn hn hen hok heq
  go_enter_defers Tryd.func37,Tryd.ntmps37
  go_wp2_with (first|(go_at_call 38;refine (re_some _ (w.heap.size+3) bs (HS.out _ _ _ _ _ rfl).2.1 hr).mono ?_;rintro e w4 ⟨cv,rfl,hS4,hI4,hR4⟩;have HH:=HS.out _ _ _ _ _ hS4.src;have H4:=HH.1.read hS4 (by omega);have O:=H4.out;have o0:=O.at_ 0 _ rfl;have g0:=O.fr 0;have o1:=O.at_ 1 _ rfl;have g1:=O.fr 1;have o2:=O.at_ 2 _ rfl;have g2:=O.fr 2;have o3:=O.at_ 3 _ rfl;have g3:=O.fr 3;have o4:=O.at_ 4 _ rfl;have g4:=O.fr 4;have o5:=O.at_ 5 _ rfl;have g5:=O.fr 5;have o6:=O.at_ 6 _ rfl;have g6:=O.fr 6;have o7:=O.at_ 7 _ rfl;have g7:=O.fr 7;have o8:=O.at_ 8 _ rfl;have g8:=O.fr 8;have H5:=H4.storeE cv;have hV5:=(isEntry_far (hI4.sub (shows_step (S':=fun b=>w.heap.size+4≤b) fun k hk _=>⟨by have:=HH.2.2;omega,rfl⟩)) H5.2 (by omega));have HVF:=Lib.hid hV5;have HV5:=Lib.hid (hV5.sub (shows_only _ _ _));have HH5:=Lib.hid H5.1;clear hI4 hV5 H5 H4 HH O)|(go_at_call 32;refine (encode_e sd _ cv v HV5.out (HLV.out _ HH5.out.below cv HV5.out) hsz).mono ?_;rw [HEN.out];rintro e w6 ⟨⟨ra,rn,rc,rfl,hI6⟩,hb6⟩;rw [HN.out];have H6:=HH5.out.next hb6;have HI6:=Lib.hid hI6;have HV6:=Lib.hid (isEntry_far HVF.out (RStep.of_below w.heap.size hb6) (by omega));clear hI6;have o0:=H6.out.at_ 0 _ rfl;have g0:=H6.out.fr 0;have n0:=H6.non.at_ 0 _ rfl;have o1:=H6.out.at_ 1 _ rfl;have g1:=H6.out.fr 1;have n1:=H6.non.at_ 1 _ rfl;have o2:=H6.out.at_ 2 _ rfl;have g2:=H6.out.fr 2;have n2:=H6.non.at_ 2 _ rfl;have o3:=H6.out.at_ 3 _ rfl;have g3:=H6.out.fr 3;have n3:=H6.non.at_ 3 _ rfl;have o4:=H6.out.at_ 4 _ rfl;have g4:=H6.out.fr 4;have n4:=H6.non.at_ 4 _ rfl;have o5:=H6.out.at_ 5 _ rfl;have g5:=H6.out.fr 5;have n5:=H6.non.at_ 5 _ rfl;have o6:=H6.out.at_ 6 _ rfl;have g6:=H6.out.fr 6;have n6:=H6.non.at_ 6 _ rfl;have o7:=H6.out.at_ 7 _ rfl;have g7:=H6.out.fr 7;have n7:=H6.non.at_ 7 _ rfl;have o8:=H6.out.at_ 8 _ rfl;have g8:=H6.out.fr 8;have n8:=H6.non.at_ 8 _ rfl;have x0:=H6.err.at_ 0 _ rfl;have xf:=H6.err.fr 0;have HH6:=Lib.hid H6;clear H6))
  refine (equal_any w6 _ _ ra a rn n rc c _ bs HI6.out (HI.out.keep HH6.out.below)).mono ?_
  rw [HE.out]
  rintro e w7 ⟨rfl,rfl⟩
  go_wp2_with fail
  have HST:=HH6.out.storeE cv
  exact wdoorE_idle (c:=cv) HST.1.setErr ((isEntry_far (isEntry_far HV6.out HST.2 (by omega)) (RStep.self (b:=w.heap.size+1)) (by omega)).sub (shows_step fun k hk _=>⟨by omega,rfl⟩)) rfl rfl
end Go.Proofs.YthceefjafklcmaaDoor
namespace Go.Proofs.YthceefjafklcmaaDoor
open Go.RowKit
theorem rw_none (w:World) (rb:Nat) (bs:List UInt8) (h:Rdr w rb bs 0) (hr:rdV 18 bs=none):
    Calls Tryd.prog 40 #[.pointer (some ⟨rb,0,none⟩)] w fun e w'=>e= .panicked [short] ∧RStep w w' rb∧∃bs',Rdr w' rb bs' 0:=by
  have:=rValue_any 18 w rb bs 0 h (by omega) (by omega)
  rw [hr] at this
  exact this.mono fun e w' ⟨h1,h2,h3⟩=>⟨h2,h1,h3⟩
theorem rw_some (w:World) (rb:Nat) (bs:List UInt8) (h:Rdr w rb bs 0) {x:V} {r:List UInt8} (hr:rdV 18 bs=some (x,r)):
    Calls Tryd.prog 40 #[.pointer (some ⟨rb,0,none⟩)] w fun e w'=>∃c:VC,e= .returned (.agg #[.int .u8 c.k, .int .i64 c.n, .string c.s, .slice c.la c.ll c.lc, .slice c.oa c.ol c.oc])∧RStep w w' rb∧IsVal (only (fun b=>w.heap.size≤b) w') w'.heap.size x c∧Rdr w' rb r 0:=by
  have:=rValue_any 18 w rb bs 0 h (by omega) (by omega)
  rw [hr] at this
  exact this.mono fun e w' h=>RV_some h
theorem results_wholeV {tmps:Array Value} {W:World} {b b':Nat} {c:VC} {x:Value} (ht:tmps[6]? =some (.pointer (some ⟨b,0,none⟩))) (ht':tmps[7]? =some (.pointer (some ⟨b',0,none⟩))) (h:BC W b [.int .u8 c.k, .int .i64 c.n, .string c.s, .slice c.la c.ll c.lc, .slice c.oa c.ol c.oc]) (h':BC W b' [x]):
    (results Tryd.f39 tmps).run Tryd.prog W= .ok (.tuple #[.agg #[.int .u8 c.k, .int .i64 c.n, .string c.s, .slice c.la c.ll c.lc, .slice c.oa c.ol c.oc],x]) W:=by
  obtain ⟨r0,r1,r2,r3,r4⟩:=row5 h.at_
  have s0:=h'.at_ 0 _ rfl
  simp [results,Tryd.results39,go_sem,ht,ht',s0,r0,r1,r2,r3,r4]
def WVPost (w:World) (r:V×Int) (e:Ending) (w':World):Prop:=
  (∃c:VC,e= .returned (.tuple #[.agg #[.int .u8 c.k, .int .i64 c.n, .string c.s, .slice c.la c.ll c.lc, .slice c.oa c.ol c.oc], .int .u16 r.2])∧IsVal (only (fun b=>w.heap.size≤b) w') w'.heap.size r.1 c)∧Below w.heap.size w w'
theorem wdoorV_short {tmps:Array Value} {w W:World} {cs:List Value} {x:Value} (H:WH w W vz cs x) (hl:cs.length=5) (ht:tmps[6]? =some (.pointer (some ⟨w.heap.size,0,none⟩))) (ht':tmps[7]? =some (.pointer (some ⟨w.heap.size+1,0,none⟩))):
    Leaves Tryd.prog Tryd.f39 tmps (WVPost w (V.none,100)) [{ target:= .fn (.func 68) #[.pointer (some ⟨w.heap.size+1+1,0,none⟩), .pointer (some ⟨w.heap.size,0,none⟩), .pointer (some ⟨w.heap.size+1,0,none⟩)],args:= #[] }] (.panicking [short]) W:=by
  refine leaves_cons (f:=68) (args:= #[.pointer (some ⟨w.heap.size+1+1,0,none⟩), .pointer (some ⟨w.heap.size,0,none⟩), .pointer (some ⟨w.heap.size+1,0,none⟩)]) (by simp) (by simp [go_sem]) ?_
  refine (catchV_short (w.heap.size+2) w.heap.size (w.heap.size+1) W H.non cs H.out hl x H.err (by omega) (by omega)).mono ?_
  rintro e u' w'' ⟨rfl,rfl,hw⟩
  show Leaves _ _ _ _ [] .returning w''
  obtain ⟨W1,hW1⟩:∃W1,(((((W.setCell ⟨w.heap.size,0,none⟩ (.int .u8 0)).setCell ⟨w.heap.size,1,none⟩ (.int .i64 0)).setCell ⟨w.heap.size,2,none⟩ (.string { data:= #[] })).setCell ⟨w.heap.size,3,none⟩ (.slice none 0 0)).setCell ⟨w.heap.size,4,none⟩ (.slice none 0 0))=W1:=⟨_,rfl⟩
  have c1:BC W1 w.heap.size vz:=by
    rw [←hW1]
    match cs,hl,H.out with
    | [z0,z1,z2,z3,z4],_,ho=>exact (((((ho.set (i:=0) (x:= .int .u8 0) (by simp)).set (i:=1) (x:= .int .i64 0) (by simp)).set (i:=2) (x:= .string { data:= #[] }) (by simp)).set (i:=3) (x:= .slice none 0 0) (by simp)).set (i:=4) (x:= .slice none 0 0) (by simp))
  have e1:BC W1 (w.heap.size+1) [x] :=by
    rw [←hW1]
    exact (((((H.err.far (by omega)).far (by omega)).far (by omega)).far (by omega)).far (by omega))
  have s1:RStep W W1 w.heap.size:=by rw [←hW1];exact (((RStep.self.trans RStep.self).trans RStep.self).trans RStep.self).trans RStep.self
  rw [hW1] at hw
  have c2:BC (W1.setCell ⟨w.heap.size+1,0,none⟩ (.int .u16 100)) w.heap.size vz:=c1.far (by omega)
  have e2:BC (W1.setCell ⟨w.heap.size+1,0,none⟩ (.int .u16 100)) (w.heap.size+1) [.int .u16 100] :=e1.set (i:=0) (x:= .int .u16 100) (by simp)
  have hb:Below (W1.setCell ⟨w.heap.size+1,0,none⟩ (.int .u16 100)).heap.size (W1.setCell ⟨w.heap.size+1,0,none⟩ (.int .u16 100)) w'':=by rw [hw];exact (Below.refl _ _).alloc (Nat.le_refl _) _
  have s2:RStep W1 (W1.setCell ⟨w.heap.size+1,0,none⟩ (.int .u16 100)) (w.heap.size+1):=RStep.self
  have hlt:=H.out.lt
  have hB:Below w.heap.size w w'':=by
    have b1:Below w.heap.size W W1:=s1.below (by omega)
    have b2:Below w.heap.size W1 (W1.setCell ⟨w.heap.size+1,0,none⟩ (.int .u16 100)):=(s2.below (by have:=s1.size;have:=H.err.lt;omega)).mono (by omega)
    have z1:=s1.size
    have z2:=s2.size
    exact ((H.below.trans b1).trans b2).trans (hb.mono (by omega))
  exact ⟨_,results_wholeV (c:=vzero) ht ht' (c2.keep hb c2.lt) (e2.keep hb e2.lt),⟨vzero,rfl,isVal_none _ _⟩,hB⟩
theorem wdoorV_idle {tmps:Array Value} {w W:World} {c:VC} {v:V} {x:Int} (H:WH w W vz [.int .u8 c.k, .int .i64 c.n, .string c.s, .slice c.la c.ll c.lc, .slice c.oa c.ol c.oc] (.int .u16 x)) (hv:IsVal (only (fun b=>w.heap.size≤b) W) W.heap.size v c) (ht:tmps[6]? =some (.pointer (some ⟨w.heap.size,0,none⟩))) (ht':tmps[7]? =some (.pointer (some ⟨w.heap.size+1,0,none⟩))):
    Leaves Tryd.prog Tryd.f39 tmps (WVPost w (v,x)) [{ target:= .fn (.func 68) #[.pointer (some ⟨w.heap.size+1+1,0,none⟩), .pointer (some ⟨w.heap.size,0,none⟩), .pointer (some ⟨w.heap.size+1,0,none⟩)],args:= #[] }] .returning W:=by
  refine leaves_cons (f:=68) (args:= #[.pointer (some ⟨w.heap.size+1+1,0,none⟩), .pointer (some ⟨w.heap.size,0,none⟩), .pointer (some ⟨w.heap.size+1,0,none⟩)]) (by simp) (by simp [go_sem]) ?_
  refine (catchV_idle (w.heap.size+2) w.heap.size (w.heap.size+1) W).mono ?_
  rintro e u' w'' ⟨rfl,rfl,rfl⟩
  exact ⟨_,results_wholeV ht ht' H.out H.err,⟨c,rfl,hv⟩,H.below⟩
theorem WH.storeV {w W:World} {z0 z1 z2 z3 z4 x:Value} (h:WH w W vz [z0,z1,z2,z3,z4] x) (c:VC):WH w ((((((W.setCell ⟨w.heap.size,0,none⟩ (.int .u8 c.k)).setCell ⟨w.heap.size,1,none⟩ (.int .i64 c.n)).setCell ⟨w.heap.size,2,none⟩ (.string c.s)).setCell ⟨w.heap.size,3,none⟩ (.slice c.la c.ll c.lc)).setCell ⟨w.heap.size,4,none⟩ (.slice c.oa c.ol c.oc))) vz [.int .u8 c.k, .int .i64 c.n, .string c.s, .slice c.la c.ll c.lc, .slice c.oa c.ol c.oc] x∧RStep W ((((((W.setCell ⟨w.heap.size,0,none⟩ (.int .u8 c.k)).setCell ⟨w.heap.size,1,none⟩ (.int .i64 c.n)).setCell ⟨w.heap.size,2,none⟩ (.string c.s)).setCell ⟨w.heap.size,3,none⟩ (.slice c.la c.ll c.lc)).setCell ⟨w.heap.size,4,none⟩ (.slice c.oa c.ol c.oc))) w.heap.size:=by
  have s1:RStep W ((((((W.setCell ⟨w.heap.size,0,none⟩ (.int .u8 c.k)).setCell ⟨w.heap.size,1,none⟩ (.int .i64 c.n)).setCell ⟨w.heap.size,2,none⟩ (.string c.s)).setCell ⟨w.heap.size,3,none⟩ (.slice c.la c.ll c.lc)).setCell ⟨w.heap.size,4,none⟩ (.slice c.oa c.ol c.oc))) w.heap.size:=(((RStep.self.trans RStep.self).trans RStep.self).trans RStep.self).trans RStep.self
  have hlt:=h.out.lt
  exact ⟨⟨(((((h.out.set (i:=0) (x:= .int .u8 c.k) (by simp)).set (i:=1) (x:= .int .i64 c.n) (by simp)).set (i:=2) (x:= .string c.s) (by simp)).set (i:=3) (x:= .slice c.la c.ll c.lc) (by simp)).set (i:=4) (x:= .slice c.oa c.ol c.oc) (by simp)),h.err.next s1 (by omega),h.non.next s1 (by omega),h.below.trans (s1.below (by omega))⟩,s1⟩
set_option maxHeartbeats 4000000 in
set_option maxRecDepth 100000 in
theorem wholeV_none (w:World) (a:Option Addr) (n c:Nat) (bs:List UInt8) (h:IsB w w.heap.size a n c bs) (hn:bs.length≤60000) (hr:rdV 18 bs=none):
    Calls Tryd.prog 39 #[.slice a n c, .func (.func 40) #[] #[], .func (.func 33) #[] #[]] w (WVPost w (V.none,100)):=by
  have hmf:∀(fn:Fn) (first cap:Array Value) (w:World),(Instr.makeFunc fn first cap).run Tryd.prog w= .ok (.func fn first cap) w:=fun _ _ _ _=>rfl
  have HS:=Lib.hid (WH.start w vz bs a n c h)
  have hnn:=h.len
  have hn2:¬60000<n:=by omega
  clear h hnn hn
  go_enter_defers Tryd.func39,Tryd.ntmps39
  go_wp2_with (go_at_call 40;refine (rw_none _ (w.heap.size+3) bs (HS.out _ _ _ _ _ rfl).2.1 hr).mono ?_;rintro e w4 ⟨rfl,hS4,hR4⟩)
  have HH:=HS.out _ _ _ _ _ hS4.src
  exact wdoorV_short (HH.1.read hS4 (by omega)) rfl rfl rfl
set_option maxHeartbeats 4000000 in
set_option maxRecDepth 100000 in
theorem wholeV_long (w:World) (a:Option Addr) (n c:Nat) (bs:List UInt8) (h:IsB w w.heap.size a n c bs) (hn:60000<bs.length):
    Calls Tryd.prog 39 #[.slice a n c, .func (.func 40) #[] #[], .func (.func 33) #[] #[]] w (WVPost w (V.none,3)):=by
  have hnn:=h.len
  have hn2:60000<n:=by omega
  clear h hnn hn
  go_enter_defers Tryd.func39,Tryd.ntmps39
  go_wp2_with fail
  obtain ⟨w1,hw1⟩:∃w1,w.alloc (.cells vz.toArray 28)=w1:=⟨_,rfl⟩
  have s1:w1.heap.size=w.heap.size+1:=by rw [←hw1,World.size_alloc]
  have b1:Below w.heap.size w w1:=by rw [←hw1];exact (Below.refl _ _).alloc (Nat.le_refl _) _
  have c1:BC w1 w.heap.size vz:=by rw [←hw1];exact BC.start w vz.toArray _
  obtain ⟨w2,hw2⟩:∃w2,w1.alloc (.cells #[.int .u16 3] 33)=w2:=⟨_,rfl⟩
  have s2:w2.heap.size=w.heap.size+2:=by rw [←hw2,World.size_alloc,s1]
  have b2:Below w1.heap.size w1 w2:=by rw [←hw2];exact (Below.refl _ _).alloc (Nat.le_refl _) _
  have c2:BC w2 (w.heap.size+1) [.int .u16 3] :=by rw [←hw2, ←s1];exact BC.start w1 #[.int .u16 3] _
  have b3:Below w2.heap.size w2 (w2.alloc (.cells vz.toArray 28)):=(Below.refl _ _).alloc (Nat.le_refl _) _
  have hB:Below w.heap.size w (w2.alloc (.cells vz.toArray 28)):=(b1.trans (b2.mono (by omega))).trans (b3.mono (by omega))
  have hfin:WVPost w (V.none,3) (.returned (.tuple #[.agg #[.int .u8 vzero.k, .int .i64 vzero.n, .string vzero.s, .slice vzero.la vzero.ll vzero.lc, .slice vzero.oa vzero.ol vzero.oc], .int .u16 3])) (w2.alloc (.cells vz.toArray 28)):=⟨⟨vzero,rfl,isVal_none _ _⟩,hB⟩
  have hres:=fun tmps ht ht'=>results_wholeV (tmps:=tmps) (c:=vzero) ht ht' ((c1.keep b2 (by omega)).keep b3 (by omega)) (c2.keep b3 (by omega))
  rw [←hw2, ←hw1] at hfin hres
  exact ⟨_,hres _ rfl rfl,hfin⟩
set_option maxHeartbeats 8000000 in
set_option maxRecDepth 100000 in
theorem wholeV_bad (w:World) (a:Option Addr) (n c:Nat) (bs:List UInt8) (h:IsB w w.heap.size a n c bs) (hn:bs.length≤60000) {v:V} {r:List UInt8} (hr:rdV 18 bs=some (v,r)) (hsz:(encV v).length≤70368744177664) (sd:Bool)
    (HLV:Hid (∀W5,Below w.heap.size w W5→∀cv:VC,IsVal W5 W5.heap.size v cv→Hid (∀W,Below W5.heap.size W5 W→Calls Tryd.prog 43 #[.agg #[.int .u8 cv.k, .int .i64 cv.n, .string cv.s, .slice cv.la cv.ll cv.lc, .slice cv.oa cv.ol cv.oc]] W fun e w'=>e= .returned (.bool sd)∧Below W.heap.size W w'))) (hbad:outN sd (encV v)≠0):
    Calls Tryd.prog 39 #[.slice a n c, .func (.func 40) #[] #[], .func (.func 33) #[] #[]] w (WVPost w (V.none,100)):=by
  have hmf:∀(fn:Fn) (first cap:Array Value) (w:World),(Instr.makeFunc fn first cap).run Tryd.prog w= .ok (.func fn first cap) w:=fun _ _ _ _=>rfl
  have HS:=Lib.hid (WH.start w vz bs a n c h)
  have hnn:=h.len
  have hn2:¬60000<n:=by omega
  obtain ⟨en,hen⟩:∃en,encV v=en:=⟨_,rfl⟩
  have HEN:=Lib.hid hen
  obtain ⟨N,hN⟩:∃N,outN sd en=N:=⟨_,rfl⟩
  have HN:=Lib.hid hN
  rw [hen,hN] at hbad
  have fN:(N==0)=false:=by simpa using hbad
  have fN2:(N !=0)=true:=by simpa using hbad
  have fN3:decide (N=0)=false:=by simpa using hbad
  clear h hnn hn hen hN
  go_enter_defers Tryd.func39,Tryd.ntmps39
  go_wp2_with (first|(go_at_call 40;refine (rw_some _ (w.heap.size+3) bs (HS.out _ _ _ _ _ rfl).2.1 hr).mono ?_;rintro e w4 ⟨cv,rfl,hS4,hI4,hR4⟩;have HH:=HS.out _ _ _ _ _ hS4.src;have H4:=HH.1.read hS4 (by omega);have O:=H4.out;have o0:=O.at_ 0 _ rfl;have g0:=O.fr 0;have o1:=O.at_ 1 _ rfl;have g1:=O.fr 1;have o2:=O.at_ 2 _ rfl;have g2:=O.fr 2;have o3:=O.at_ 3 _ rfl;have g3:=O.fr 3;have o4:=O.at_ 4 _ rfl;have g4:=O.fr 4;have H5:=H4.storeV cv;have hV5:=(isVal_far (hI4.sub (shows_step (S':=fun b=>w.heap.size+4≤b) fun k hk _=>⟨by have:=HH.2.2;omega,rfl⟩)) H5.2 (by omega)).sub (shows_only _ _ _);have HV5:=Lib.hid hV5;have HH5:=Lib.hid H5.1;clear hI4 hV5 H5 H4 HH O)|(go_at_call 33;refine (value_of sd _ cv.k cv.n cv.s cv.la cv.ll cv.lc cv.oa cv.ol cv.oc v HV5.out (HLV.out _ HH5.out.below cv HV5.out) hsz).mono ?_;rw [HEN.out];rintro e w6 ⟨⟨ra,rn,rc,rfl,hI6⟩,hb6⟩;rw [HN.out];have H6:=HH5.out.next hb6;clear hI6;have o0:=H6.out.at_ 0 _ rfl;have g0:=H6.out.fr 0;have n0:=H6.non.at_ 0 _ rfl;have o1:=H6.out.at_ 1 _ rfl;have g1:=H6.out.fr 1;have n1:=H6.non.at_ 1 _ rfl;have o2:=H6.out.at_ 2 _ rfl;have g2:=H6.out.fr 2;have n2:=H6.non.at_ 2 _ rfl;have o3:=H6.out.at_ 3 _ rfl;have g3:=H6.out.fr 3;have n3:=H6.non.at_ 3 _ rfl;have o4:=H6.out.at_ 4 _ rfl;have g4:=H6.out.fr 4;have n4:=H6.non.at_ 4 _ rfl;have x0:=H6.err.at_ 0 _ rfl;have xf:=H6.err.fr 0;have HH6:=Lib.hid H6;clear H6))
  refine wdoorV_idle (c:=vzero) (v:=V.none) ?_ ?_ ?_ ?_
  · exact (HH6.out.storeV vzero).1.setErr
  · exact isVal_none _ _
  · rfl
  · rfl
set_option maxHeartbeats 8000000 in
set_option maxRecDepth 100000 in
theorem wholeV_neq (w:World) (a:Option Addr) (n c:Nat) (bs:List UInt8) (h:IsB w w.heap.size a n c bs) (hn:bs.length≤60000) {v:V} {r:List UInt8} (hr:rdV 18 bs=some (v,r)) (hsz:(encV v).length≤70368744177664) (sd:Bool)
    (HLV:Hid (∀W5,Below w.heap.size w W5→∀cv:VC,IsVal W5 W5.heap.size v cv→Hid (∀W,Below W5.heap.size W5 W→Calls Tryd.prog 43 #[.agg #[.int .u8 cv.k, .int .i64 cv.n, .string cv.s, .slice cv.la cv.ll cv.lc, .slice cv.oa cv.ol cv.oc]] W fun e w'=>e= .returned (.bool sd)∧Below W.heap.size W w'))) (hok:outN sd (encV v)=0) (heq:eqBs (outB sd (encV v)) bs=false):
    Calls Tryd.prog 39 #[.slice a n c, .func (.func 40) #[] #[], .func (.func 33) #[] #[]] w (WVPost w (V.none,100)):=by
  have hmf:∀(fn:Fn) (first cap:Array Value) (w:World),(Instr.makeFunc fn first cap).run Tryd.prog w= .ok (.func fn first cap) w:=fun _ _ _ _=>rfl
  have HS:=Lib.hid (WH.start w vz bs a n c h)
  have HI:=Lib.hid h
  have hnn:=h.len
  have hn2:¬60000<n:=by omega
  obtain ⟨en,hen⟩:∃en,encV v=en:=⟨_,rfl⟩
  rw [hen] at hok heq
  have HEN:=Lib.hid hen
  have HN:=Lib.hid hok
  have HE:=Lib.hid heq
  clear h hnn hn hen hok heq
  go_enter_defers Tryd.func39,Tryd.ntmps39
  go_wp2_with (first|(go_at_call 40;refine (rw_some _ (w.heap.size+3) bs (HS.out _ _ _ _ _ rfl).2.1 hr).mono ?_;rintro e w4 ⟨cv,rfl,hS4,hI4,hR4⟩;have HH:=HS.out _ _ _ _ _ hS4.src;have H4:=HH.1.read hS4 (by omega);have O:=H4.out;have o0:=O.at_ 0 _ rfl;have g0:=O.fr 0;have o1:=O.at_ 1 _ rfl;have g1:=O.fr 1;have o2:=O.at_ 2 _ rfl;have g2:=O.fr 2;have o3:=O.at_ 3 _ rfl;have g3:=O.fr 3;have o4:=O.at_ 4 _ rfl;have g4:=O.fr 4;have H5:=H4.storeV cv;have hV5:=(isVal_far (hI4.sub (shows_step (S':=fun b=>w.heap.size+4≤b) fun k hk _=>⟨by have:=HH.2.2;omega,rfl⟩)) H5.2 (by omega)).sub (shows_only _ _ _);have HV5:=Lib.hid hV5;have HH5:=Lib.hid H5.1;clear hI4 hV5 H5 H4 HH O)|(go_at_call 33;refine (value_of sd _ cv.k cv.n cv.s cv.la cv.ll cv.lc cv.oa cv.ol cv.oc v HV5.out (HLV.out _ HH5.out.below cv HV5.out) hsz).mono ?_;rw [HEN.out];rintro e w6 ⟨⟨ra,rn,rc,rfl,hI6⟩,hb6⟩;rw [HN.out];have H6:=HH5.out.next hb6;have HI6:=Lib.hid hI6;clear hI6;have o0:=H6.out.at_ 0 _ rfl;have g0:=H6.out.fr 0;have n0:=H6.non.at_ 0 _ rfl;have o1:=H6.out.at_ 1 _ rfl;have g1:=H6.out.fr 1;have n1:=H6.non.at_ 1 _ rfl;have o2:=H6.out.at_ 2 _ rfl;have g2:=H6.out.fr 2;have n2:=H6.non.at_ 2 _ rfl;have o3:=H6.out.at_ 3 _ rfl;have g3:=H6.out.fr 3;have n3:=H6.non.at_ 3 _ rfl;have o4:=H6.out.at_ 4 _ rfl;have g4:=H6.out.fr 4;have n4:=H6.non.at_ 4 _ rfl;have x0:=H6.err.at_ 0 _ rfl;have xf:=H6.err.fr 0;have HH6:=Lib.hid H6;clear H6))
  refine (equal_any w6 _ _ ra a rn n rc c _ bs HI6.out (HI.out.keep HH6.out.below)).mono ?_
  rw [HE.out]
  rintro e w7 ⟨rfl,rfl⟩
  go_wp2_with fail
  refine wdoorV_idle (c:=vzero) (v:=V.none) ?_ ?_ ?_ ?_
  · exact (HH6.out.storeV vzero).1.setErr
  · exact isVal_none _ _
  · rfl
  · rfl
set_option maxHeartbeats 8000000 in
set_option maxRecDepth 100000 in
theorem wholeV_eq (w:World) (a:Option Addr) (n c:Nat) (bs:List UInt8) (h:IsB w w.heap.size a n c bs) (hn:bs.length≤60000) {v:V} {r:List UInt8} (hr:rdV 18 bs=some (v,r)) (hsz:(encV v).length≤70368744177664) (sd:Bool)
    (HLV:Hid (∀W5,Below w.heap.size w W5→∀cv:VC,IsVal W5 W5.heap.size v cv→Hid (∀W,Below W5.heap.size W5 W→Calls Tryd.prog 43 #[.agg #[.int .u8 cv.k, .int .i64 cv.n, .string cv.s, .slice cv.la cv.ll cv.lc, .slice cv.oa cv.ol cv.oc]] W fun e w'=>e= .returned (.bool sd)∧Below W.heap.size W w'))) (hok:outN sd (encV v)=0) (heq:eqBs (outB sd (encV v)) bs=true):
    Calls Tryd.prog 39 #[.slice a n c, .func (.func 40) #[] #[], .func (.func 33) #[] #[]] w (WVPost w (v,0)):=by
  have hmf:∀(fn:Fn) (first cap:Array Value) (w:World),(Instr.makeFunc fn first cap).run Tryd.prog w= .ok (.func fn first cap) w:=fun _ _ _ _=>rfl
  have HS:=Lib.hid (WH.start w vz bs a n c h)
  have HI:=Lib.hid h
  have hnn:=h.len
  have hn2:¬60000<n:=by omega
  obtain ⟨en,hen⟩:∃en,encV v=en:=⟨_,rfl⟩
  rw [hen] at hok heq
  have HEN:=Lib.hid hen
  have HN:=Lib.hid hok
  have HE:=Lib.hid heq
  clear h hnn hn hen hok heq
  go_enter_defers Tryd.func39,Tryd.ntmps39
  go_wp2_with (first|(go_at_call 40;refine (rw_some _ (w.heap.size+3) bs (HS.out _ _ _ _ _ rfl).2.1 hr).mono ?_;rintro e w4 ⟨cv,rfl,hS4,hI4,hR4⟩;have HH:=HS.out _ _ _ _ _ hS4.src;have H4:=HH.1.read hS4 (by omega);have O:=H4.out;have o0:=O.at_ 0 _ rfl;have g0:=O.fr 0;have o1:=O.at_ 1 _ rfl;have g1:=O.fr 1;have o2:=O.at_ 2 _ rfl;have g2:=O.fr 2;have o3:=O.at_ 3 _ rfl;have g3:=O.fr 3;have o4:=O.at_ 4 _ rfl;have g4:=O.fr 4;have H5:=H4.storeV cv;have hV5:=(isVal_far (hI4.sub (shows_step (S':=fun b=>w.heap.size+4≤b) fun k hk _=>⟨by have:=HH.2.2;omega,rfl⟩)) H5.2 (by omega));have HVF:=Lib.hid hV5;have HV5:=Lib.hid (hV5.sub (shows_only _ _ _));have HH5:=Lib.hid H5.1;clear hI4 hV5 H5 H4 HH O)|(go_at_call 33;refine (value_of sd _ cv.k cv.n cv.s cv.la cv.ll cv.lc cv.oa cv.ol cv.oc v HV5.out (HLV.out _ HH5.out.below cv HV5.out) hsz).mono ?_;rw [HEN.out];rintro e w6 ⟨⟨ra,rn,rc,rfl,hI6⟩,hb6⟩;rw [HN.out];have H6:=HH5.out.next hb6;have HI6:=Lib.hid hI6;have HV6:=Lib.hid (isVal_far HVF.out (RStep.of_below w.heap.size hb6) (by omega));clear hI6;have o0:=H6.out.at_ 0 _ rfl;have g0:=H6.out.fr 0;have n0:=H6.non.at_ 0 _ rfl;have o1:=H6.out.at_ 1 _ rfl;have g1:=H6.out.fr 1;have n1:=H6.non.at_ 1 _ rfl;have o2:=H6.out.at_ 2 _ rfl;have g2:=H6.out.fr 2;have n2:=H6.non.at_ 2 _ rfl;have o3:=H6.out.at_ 3 _ rfl;have g3:=H6.out.fr 3;have n3:=H6.non.at_ 3 _ rfl;have o4:=H6.out.at_ 4 _ rfl;have g4:=H6.out.fr 4;have n4:=H6.non.at_ 4 _ rfl;have x0:=H6.err.at_ 0 _ rfl;have xf:=H6.err.fr 0;have HH6:=Lib.hid H6;clear H6))
  refine (equal_any w6 _ _ ra a rn n rc c _ bs HI6.out (HI.out.keep HH6.out.below)).mono ?_
  rw [HE.out]
  rintro e w7 ⟨rfl,rfl⟩
  go_wp2_with fail
  have HST:=HH6.out.storeV cv
  exact wdoorV_idle (c:=cv) HST.1.setErr ((isVal_far (isVal_far HV6.out HST.2 (by omega)) (RStep.self (b:=w.heap.size+1)) (by omega)).sub (shows_step fun k hk _=>⟨by omega,rfl⟩)) rfl rfl
end Go.Proofs.YthceefjafklcmaaDoor
