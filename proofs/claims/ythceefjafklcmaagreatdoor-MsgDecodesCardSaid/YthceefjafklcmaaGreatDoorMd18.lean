/-
  Contracts of the functions that the law reaches: reader.value: a list. reader.value: an object. reader.value, whole.
-/
import Derived.Test.YthceefjafklcmaaGreatDoorMd14
import Derived.Test.YthceefjafklcmaaGreatDoorMd17
namespace Go.Proofs.YthceefjafklcmaaGreatDoor
open Go.RowKit
theorem ginfoV:(Tryz.prog.info? 28).map (fun i=>(i.zero,i.size,i.bytes))=some (some (.agg #[.int .u8 0, .int .i64 0, .string { data:= #[] }, .slice none 0 0, .slice none 0 0]),5,80):=by kernel_rfl
theorem RV_some {w:World} {rb:Nat} {d:Int} {x:V} {r:List UInt8} {e:Ending} {w':World} (h:RVPost w rb d (some (x,r)) e w'):∃c:VC,e= .returned (.agg #[.int .u8 c.k, .int .i64 c.n, .string c.s, .slice c.la c.ll c.lc, .slice c.oa c.ol c.oc])∧RStep w w' rb∧IsVal (only (fun b=>w.heap.size≤b) w') w'.heap.size x c∧Rdr w' rb r d:=by
  obtain ⟨h1,⟨c,h2,h3⟩,h4⟩:=h
  exact ⟨c,h2,h1,h3,h4⟩
set_option maxHeartbeats 8000000 in
set_option maxRecDepth 100000 in
theorem rv_list_any (w:World) (rb:Nat) (bs:List UInt8) (d:Int) (h:Rdr w rb bs d) (hd0:0≤d) (hd:d≤17) {kd n:Nat} {r q:List UInt8} (hr:rdN 1 bs=some (kd,r)) (hk:kd=4) (hm:rdM 4 r=some (n,q)) (k:Nat) (IH:∀(W:World) (bs:List UInt8),Rdr W rb bs (d+1)→Calls Tryz.prog 44 #[.pointer (some ⟨rb,0,none⟩)] W (RVPost W rb (d+1) (rdV k bs))) {out:Option (List V×List UInt8)} (hl:rdL (fun x=>rdV k x) n q=out):
    Calls Tryz.prog 44 #[.pointer (some ⟨rb,0,none⟩)] w (RVPost w rb d (out.bind fun p=>some (.mk kd 0 .empty p.1 [],p.2))):=by
  obtain ⟨i0,hi0,hz0,hz1,hz2⟩:=info_parts ginfoV
  have hk1:kd<256:=rdN_lt hr
  have hn4:n<4294967296:=Nat.lt_of_lt_of_le (rdN_lt (rdM_some hm).1) (by decide)
  have IHH:=Lib.hid IH
  have HL:=Lib.hid hl
  clear IH hl
  have hmf:∀(fn:Fn) (first cap:Array Value) (w:World),(Instr.makeFunc fn first cap).run Tryz.prog w= .ok (.func fn first cap) w:=fun _ _ _ _=>rfl
  have HB:=Lib.hid (fun t1 t2=>RB.start (d':=d+1) h t1 t2)
  have h1:=h.deep
  have h2:=h.f1
  have hlt:=h.lt
  clear h
  have f1:((kd:Int)==1)=false:=by subst hk;rfl
  have f2:((kd:Int)==2)=false:=by subst hk;rfl
  have f3:((kd:Int)==3)=false:=by subst hk;rfl
  have f4:((kd:Int)==4)=true:=by subst hk;rfl
  have f5:((kd:Int)==5)=false:=by subst hk;rfl
  clear hk
  go_enter_defers Tryz.func44,Tryz.ntmps44
  go_wp2_with (first|(go_at_call 70;(with_reducible refine (takeU81_some _ rb bs (d+1) (HB.out _ _).rdr hr).mono ?_);rintro e w1 ⟨rfl,hR,hS⟩;have B1:=(HB.out _ _).next hS hR;have r0:=B1.res.c0;have r1:=B1.res.c1;have r2:=B1.res.c2;have r3:=B1.res.c3;have r4:=B1.res.c4;have g0:=B1.frz 0 (by omega);have g1:=B1.frz 1 (by omega);have g2:=B1.frz 2 (by omega);have g3:=B1.frz 3 (by omega);have g4:=B1.frz 4 (by omega);have hb0:=B1.box;have hsz:=B1.size;have zs1:w.heap.size+1<w1.heap.size:=(by omega);have zs0:w.heap.size<w1.heap.size:=(by omega);have hlt1:=B1.lt)|(go_at_call 72;(with_reducible refine (many4_some _ rb r (d+1) (B1.behind ((Below.refl _ _).alloc (Nat.le_refl _) _)).rdr hm).mono ?_);rintro e w2 ⟨rfl,hR2,hS2⟩;have B2:=(B1.behind ((Below.refl _ _).alloc (Nat.le_refl _) _)).next hS2 hR2;have VB2:=(VB.start w1 ⟨kd,0, .empty,none,0,0,none,0,0⟩ 28).next hS2 (by omega)))
  have LI0:LI w w2 rb w1.heap.size d k kd q 0 none 0 0 [] [] q:=⟨rfl,rfl,rfl,B2,VB2,Row.nil _ _ _ _ _,hsz⟩
  obtain ⟨vb,hvb⟩:∃vb,w1.heap.size=vb:=⟨_,rfl⟩
  rw [hvb] at LI0 hsz zs0 zs1 ⊢
  clear B1 B2 VB2 r0 r1 r3 r4 g0 g1 g2 g3 g4 hb0 hvb
  go_loopw [40] (fun i wr=>∃(j:Nat) (a:Option Addr) (m c:Nat) (xs:List V) (cs:List VC) (rj:List UInt8),j≤n∧i= .int .i64 j∧LI w wr rb vb d k kd q j a m c xs cs rj) (fun i _=>n - (intOf i).toNat)
  case atStart=>exact ⟨0,none,0,0, [], [],q,Nat.zero_le _,rfl,LI0⟩
  case round=>
    clear LI0
    obtain ⟨j,a,m,c,xs,cs,rj,hj,rfl,L⟩:=hrel
    have y0:=L.vb_.at_.c0;have y1:=L.vb_.at_.c1;have y2:=L.vb_.at_.c2;have y3:=L.vb_.at_.c3;have y4:=L.vb_.at_.c4
    have p3:=L.vb_.fr 3
    have hb0:=L.box.box
    have hvlt:=L.vb_.lt
    by_cases hlt2:j<n
    · have hlo:=L.lo
      have hbl:=L.box.lt
      cases hx:rdV k rj with
      | none=>
        have hout:out=none:=by
          rw [←HL.out]
          exact rdL_none (f:=fun x=>rdV k x) (i:=j+1) (by rw [rdL,L.rd];simp only [Option.bind_some,hx];rfl) (by omega)
        subst hout
        have HC:Hid (Calls Tryz.prog 44 #[.pointer (some ⟨rb,0,none⟩)] wr.drew fun e w'=>RStep wr.drew w' rb∧e= .panicked [short] ∧∃bs',Rdr w' rb bs' (d+1)):=
          (IHH.out wr.drew rj (L.box.behind (drew_below wr)).rdr).mono fun e w' h=>by rw [hx] at h;exact h
        have HO:Hid (∀W,RStep wr.drew W rb→W.ownsRow (vb+1) 28 5 (.slice a m c) j (cs.flatMap vcells)∧W.cell? ⟨vb,3,none⟩=some (.slice a m c)∧W.frozen? ⟨vb,3,none⟩=false∧vb<W.heap.size):=by
          intro W hW
          have ho:=((L.row.later (PV.closed xs cs) (.of_below rb (drew_below wr)) (by omega)).later (PV.closed xs cs) hW (by omega)).own
          rw [L.len] at ho
          exact ⟨ho,hW.cell (w:=wr.drew) y3 (by omega),(hW.frozen (w:=wr.drew) hvlt (by omega)).trans p3,Nat.lt_of_lt_of_le hvlt hW.size⟩
        have hne:(Value.slice a m c).ownBlock≠some vb:=fun e=>by have:=(L.row.lt _ e).1;omega
        have LL:=Lib.hid L
        clear hx L
        go_wp2_with fail
        refine wp_region_panicP [{ target:= .fn (.func 75) #[.pointer (some ⟨w.heap.size,0,none⟩)],args:= #[] }] (fun w'=>RStep wr.drew w' rb∧∃bs',Rdr w' rb bs' (d+1)) (fun a w' hD hw=> ?_) ?_
        · obtain ⟨hS4,bs4,hR4⟩:=hw
          have:=((LL.out.box.behind (drew_below wr)).next hS4 hR4).panic (tmps:=a.tmps) (by omega) (by omega)
          rw [←hD] at this
          exact this
        go_region_law
          (first
            |(go_simp;go_at_call 44;refine (HC.out).mono ?_;intro e w4 hP;by_cases hv:e= .returned (.agg #[.int .u8 0, .int .i64 0, .string { data:= #[] }, .slice none 0 0, .slice none 0 0]);rotate_left;(focus (obtain ⟨hS4,he,hR4⟩:=hP;subst he;exact ⟨rfl,rfl,hS4,hR4⟩));obtain ⟨hS4,he,hR4⟩:=hP;rw [hv] at he;have HF:=Lib.hid he;clear he;subst hv;obtain ⟨ho4,hc4,hf4,hv4⟩:=HO.out w4 hS4)
            |(refine step_append_lies _ (by rfl) _ _ _ (by rfl) (vb+1) 28 i0 _ 5 80 (by kernel_rfl) hi0 hz0 hz1 hz2 rfl (by omega) (.slice a m c) j (cs.flatMap vcells) (by rfl) (ho4.alloc _) ⟨w4.heap.size,0,none⟩ 1 1 (vcells vzero) (by rfl) (by rfl) (World.news_of_block (t:=28) (fr:=(0,0)) (heap_alloc_new w4 _)) (by simp [vcells,Value.oneCell']) (by omega) (by unfold maxLen;omega) (by omega) (by simp;omega) (w4.heap.size+1) (by simp) ?_;intro g cap w5 hown5 hgrow5 hat5 hlt5;have hc5:w5.cell? ⟨vb,3,none⟩=some (.slice a m c):=(hgrow5.cell_far ⟨vb,3,none⟩ (by simp;omega) (Ne.symm hne)).trans (keep_cell ((Below.refl _ _).alloc (Nat.le_refl _) _) hc4 hv4);have hf5:w5.frozen? ⟨vb,3,none⟩=false:=(hgrow5.frozen_far ⟨vb,3,none⟩ (by simp;omega) (Ne.symm hne)).trans ((((Below.refl _ _).alloc (Nat.le_refl _) _:Below w4.heap.size w4 (w4.alloc _)).frozen (p:=⟨vb,3,none⟩) hv4).trans hf4)))
        all_goals cases HF.out
      |some xr=>
      obtain ⟨x,r3⟩:=xr
      have HX:=Lib.hid hx
      have HC:Hid (Calls Tryz.prog 44 #[.pointer (some ⟨rb,0,none⟩)] wr.drew fun e w'=>∃c:VC,e= .returned (.agg #[.int .u8 c.k, .int .i64 c.n, .string c.s, .slice c.la c.ll c.lc, .slice c.oa c.ol c.oc])∧RStep wr.drew w' rb∧IsVal (only (fun b=>wr.drew.heap.size≤b) w') w'.heap.size x c∧Rdr w' rb r3 (d+1)):=
        (IHH.out wr.drew rj (L.box.behind (drew_below wr)).rdr).mono fun e w' h=>RV_some (by rw [hx] at h;exact h)
      have HO:Hid (∀W,RStep wr.drew W rb→W.ownsRow (vb+1) 28 5 (.slice a m c) j (cs.flatMap vcells)∧W.cell? ⟨vb,3,none⟩=some (.slice a m c)∧W.frozen? ⟨vb,3,none⟩=false∧vb<W.heap.size):=by
        intro W hW
        have ho:=((L.row.later (PV.closed xs cs) (.of_below rb (drew_below wr)) (by omega)).later (PV.closed xs cs) hW (by omega)).own
        rw [L.len] at ho
        exact ⟨ho,hW.cell (w:=wr.drew) y3 (by omega),(hW.frozen (w:=wr.drew) hvlt (by omega)).trans p3,Nat.lt_of_lt_of_le hvlt hW.size⟩
      have hne:(Value.slice a m c).ownBlock≠some vb:=fun e=>by have:=(L.row.lt _ e).1;omega
      have LL:=Lib.hid L
      clear hx L
      go_wp2_with fail
      refine wp_region_noPanic ?_
      go_region_law
        (first
          |(go_simp;go_at_call 44;refine (HC.out).mono ?_;rintro e w4 ⟨cx,rfl,hS4,hI4,hR4⟩;obtain ⟨ho4,hc4,hf4,hv4⟩:=HO.out w4 hS4)
          |(refine step_append_lies _ (by rfl) _ _ _ (by rfl) (vb+1) 28 i0 _ 5 80 (by kernel_rfl) hi0 hz0 hz1 hz2 rfl (by omega) (.slice a m c) j (cs.flatMap vcells) (by rfl) (ho4.alloc _) ⟨w4.heap.size,0,none⟩ 1 1 (vcells cx) (by rfl) (by rfl) (World.news_of_block (t:=28) (fr:=(0,0)) (heap_alloc_new w4 _)) (by simp [vcells,Value.oneCell']) (by omega) (by unfold maxLen;omega) (by omega) (by simp;omega) (w4.heap.size+1) (by simp) ?_;intro g cap w5 hown5 hgrow5 hat5 hlt5;have hc5:w5.cell? ⟨vb,3,none⟩=some (.slice a m c):=(hgrow5.cell_far ⟨vb,3,none⟩ (by simp;omega) (Ne.symm hne)).trans (keep_cell ((Below.refl _ _).alloc (Nat.le_refl _) _) hc4 hv4);have hf5:w5.frozen? ⟨vb,3,none⟩=false:=(hgrow5.frozen_far ⟨vb,3,none⟩ (by simp;omega) (Ne.symm hne)).trans ((((Below.refl _ _).alloc (Nat.le_refl _) _:Below w4.heap.size w4 (w4.alloc _)).frozen (p:=⟨vb,3,none⟩) hv4).trans hf4)))
      all_goals
        refine NoPanic.normal ?_
        go_wp2_with fail
        go_roundw
        case rel=>exact ⟨j+1,some ⟨g,0,none⟩,j+1,cap,xs++ [x],cs++ [cx],r3,by omega,by go_num,LL.out.round HX.out hS4 hI4 hR4 hown5 hgrow5 hat5⟩
        case measure=>simp [intOf];omega
    · have hjn:j=n:=by omega
      subst hjn
      obtain rfl:out=some (xs,rj):=by rw [←HL.out,L.rd]
      have r0:=L.box.res.c0;have r1:=L.box.res.c1;have r2:=L.box.res.c2;have r3:=L.box.res.c3;have r4:=L.box.res.c4
      have g0:=L.box.frz 0 (by omega);have g1:=L.box.frz 1 (by omega);have g2:=L.box.frz 2 (by omega);have g3:=L.box.frz 3 (by omega);have g4:=L.box.frz 4 (by omega)
      have hx:=L.row.val (lo:=vb+1) (by rw [L.len,L.cen]) (Nat.le_refl _) kd (by omega) (by omega) (by rw [L.len];omega)
      have HB2:=Lib.hid L.box
      have HX:=Lib.hid hx
      clear L hx
      go_wp2_with fail
      exact leave_stored (base:=vb+1) HB2.out ⟨kd,0, .empty,a,m,c,none,0,0⟩ HX.out (by omega) (by omega) (by omega) rfl
end Go.Proofs.YthceefjafklcmaaGreatDoor
namespace Go.Proofs.YthceefjafklcmaaGreatDoor
open Go.RowKit
theorem ginfoF:(Tryz.prog.info? 80).map (fun i=>(i.zero,i.size,i.bytes))=some (some (.agg #[.string { data:= #[] }, .int .u8 0, .int .i64 0, .string { data:= #[] }, .slice none 0 0, .slice none 0 0]),6,96):=by kernel_rfl
set_option maxHeartbeats 8000000 in
set_option maxRecDepth 100000 in
theorem rv_obj_any (w:World) (rb:Nat) (bs:List UInt8) (d:Int) (h:Rdr w rb bs d) (hd0:0≤d) (hd:d≤17) {kd n:Nat} {r q:List UInt8} (hr:rdN 1 bs=some (kd,r)) (hk:kd=5) (hm:rdM 4 r=some (n,q)) (k:Nat) (IH:∀(W:World) (bs:List UInt8),Rdr W rb bs (d+1)→Calls Tryz.prog 44 #[.pointer (some ⟨rb,0,none⟩)] W (RVPost W rb (d+1) (rdV k bs))) {out:Option (List (ByteArray×V)×List UInt8)} (hl:rdL (fun x=>(rdT x).bind fun y=>(rdV k y.2).bind fun z=>some ((y.1,z.1),z.2)) n q=out):
    Calls Tryz.prog 44 #[.pointer (some ⟨rb,0,none⟩)] w (RVPost w rb d (out.bind fun p=>some (.mk kd 0 .empty [] p.1,p.2))):=by
  obtain ⟨i0,hi0,hz0,hz1,hz2⟩:=info_parts ginfoF
  have hk1:kd<256:=rdN_lt hr
  have hn4:n<4294967296:=Nat.lt_of_lt_of_le (rdN_lt (rdM_some hm).1) (by decide)
  have IHH:=Lib.hid IH
  have HL:=Lib.hid hl
  clear IH hl
  have hmf:∀(fn:Fn) (first cap:Array Value) (w:World),(Instr.makeFunc fn first cap).run Tryz.prog w= .ok (.func fn first cap) w:=fun _ _ _ _=>rfl
  have HB:=Lib.hid (fun t1 t2=>RB.start (d':=d+1) h t1 t2)
  have h1:=h.deep
  have h2:=h.f1
  have hlt:=h.lt
  clear h
  have f1:((kd:Int)==1)=false:=by subst hk;rfl
  have f2:((kd:Int)==2)=false:=by subst hk;rfl
  have f3:((kd:Int)==3)=false:=by subst hk;rfl
  have f4:((kd:Int)==4)=false:=by subst hk;rfl
  have f5:((kd:Int)==5)=true:=by subst hk;rfl
  clear hk
  go_enter_defers Tryz.func44,Tryz.ntmps44
  go_wp2_with (first|(go_at_call 70;(with_reducible refine (takeU81_some _ rb bs (d+1) (HB.out _ _).rdr hr).mono ?_);rintro e w1 ⟨rfl,hR,hS⟩;have B1:=(HB.out _ _).next hS hR;have r0:=B1.res.c0;have r1:=B1.res.c1;have r2:=B1.res.c2;have r3:=B1.res.c3;have r4:=B1.res.c4;have g0:=B1.frz 0 (by omega);have g1:=B1.frz 1 (by omega);have g2:=B1.frz 2 (by omega);have g3:=B1.frz 3 (by omega);have g4:=B1.frz 4 (by omega);have hb0:=B1.box;have hsz:=B1.size;have zs1:w.heap.size+1<w1.heap.size:=(by omega);have zs0:w.heap.size<w1.heap.size:=(by omega);have hlt1:=B1.lt)|(go_at_call 72;(with_reducible refine (many4_some _ rb r (d+1) (B1.behind ((Below.refl _ _).alloc (Nat.le_refl _) _)).rdr hm).mono ?_);rintro e w2 ⟨rfl,hR2,hS2⟩;have B2:=(B1.behind ((Below.refl _ _).alloc (Nat.le_refl _) _)).next hS2 hR2;have VB2:=(VB.start w1 ⟨kd,0, .empty,none,0,0,none,0,0⟩ 28).next hS2 (by omega)))
  have LI0:LF w w2 rb w1.heap.size d k kd q 0 none 0 0 [] [] q q:=⟨rfl,rfl,rfl,B2,VB2,Row.nil _ _ _ _ _,hsz⟩
  obtain ⟨vb,hvb⟩:∃vb,w1.heap.size=vb:=⟨_,rfl⟩
  rw [hvb] at LI0 hsz zs0 zs1 ⊢
  clear B1 B2 VB2 r0 r1 r3 r4 g0 g1 g2 g3 g4 hb0 hvb
  go_loopw [54] (fun i wr=>∃(j:Nat) (a:Option Addr) (m c:Nat) (xs:List (ByteArray×V)) (cs:List (ByteArray×VC)) (rj:List UInt8),j≤n∧i= .int .i64 j∧LF w wr rb vb d k kd q j a m c xs cs rj rj) (fun i _=>n - (intOf i).toNat)
  case atStart=>exact ⟨0,none,0,0, [], [],q,Nat.zero_le _,rfl,LI0⟩
  case round=>
    clear LI0
    obtain ⟨j,a,m,c,xs,cs,rj,hj,rfl,L⟩:=hrel
    have y0:=L.vb_.at_.c0;have y1:=L.vb_.at_.c1;have y2:=L.vb_.at_.c2;have y3:=L.vb_.at_.c3;have y4:=L.vb_.at_.c4
    have p3:=L.vb_.fr 4
    have hb0:=L.box.box
    have hvlt:=L.vb_.lt
    by_cases hlt2:j<n
    · have hlo:=L.lo
      have hbl:=L.box.lt
      cases ht:rdT rj with
      | none=>
        have hout:out=none:=by
          rw [←HL.out]
          exact rdL_none (f:=(fun x=>(rdT x).bind fun y=>(rdV k y.2).bind fun z=>some ((y.1,z.1),z.2))) (i:=j+1) (by rw [rdL,L.rd];simp only [Option.bind_some,ht];rfl) (by omega)
        subst hout
        have HTX:=Lib.hid (fun W hR=>rText_none W rb rj (d+1) hR ht)
        have LL:=Lib.hid L
        clear ht L
        go_wp2_with (go_at_call 77;(with_reducible refine (HTX.out _ LL.out.box.rdr).mono ?_);rintro e w3 ⟨rfl,hS3,bs3,hR3⟩)
        exact (LL.out.box.next hS3 hR3).panic (by omega) (by omega)
      |some sr=>
      obtain ⟨sk,r3⟩:=sr
      have HTT:=Lib.hid ht
      have LL0:=Lib.hid L
      clear ht L
      go_wp2_with (go_at_call 77;(with_reducible refine (rText_some _ rb rj (d+1) LL0.out.box.rdr HTT.out).mono ?_);rintro e w3 ⟨rfl,hR3,hS3⟩;have L:=LL0.out.text hS3 hR3;have y0:=L.vb_.at_.c0;have y1:=L.vb_.at_.c1;have y2:=L.vb_.at_.c2;have y3:=L.vb_.at_.c3;have y4:=L.vb_.at_.c4;have p3:=L.vb_.fr 4;have hb0:=L.box.box;have hvlt:=L.vb_.lt)
      have ht:=HTT.out
      cases hx:rdV k r3 with
      | none=>
        have hout:out=none:=by
          rw [←HL.out]
          exact rdL_none (f:=fun x=>(rdT x).bind fun y=>(rdV k y.2).bind fun z=>some ((y.1,z.1),z.2)) (i:=j+1) (by rw [rdL,L.rd];simp only [Option.bind_some,ht,hx];rfl) (by omega)
        subst hout
        have HC:Hid (Calls Tryz.prog 44 #[.pointer (some ⟨rb,0,none⟩)] w3.drew fun e w'=>RStep w3.drew w' rb∧e= .panicked [short] ∧∃bs',Rdr w' rb bs' (d+1)):=
          (IHH.out w3.drew r3 (L.box.behind (drew_below w3)).rdr).mono fun e w' h=>by rw [hx] at h;exact h
        have HO:Hid (∀W,RStep w3.drew W rb→W.ownsRow (vb+1) 80 6 (.slice a m c) j (cs.flatMap fcells)∧W.cell? ⟨vb,4,none⟩=some (.slice a m c)∧W.frozen? ⟨vb,4,none⟩=false∧vb<W.heap.size):=by
          intro W hW
          have ho:=((L.row.later (PF.closed xs cs) (.of_below rb (drew_below w3)) (by omega)).later (PF.closed xs cs) hW (by omega)).own
          rw [L.len] at ho
          exact ⟨ho,hW.cell (w:=w3.drew) L.vb_.at_.c4 (by omega),(hW.frozen (w:=w3.drew) L.vb_.lt (by omega)).trans (L.vb_.fr 4),Nat.lt_of_lt_of_le L.vb_.lt hW.size⟩
        have hne:(Value.slice a m c).ownBlock≠some vb:=fun e=>by have:=(L.row.lt _ e).1;omega
        have LL:=Lib.hid L
        clear hx ht L
        refine wp_region_panicP [{ target:= .fn (.func 75) #[.pointer (some ⟨w.heap.size,0,none⟩)],args:= #[] }] (fun w'=>RStep w3.drew w' rb∧∃bs',Rdr w' rb bs' (d+1)) (fun a w' hD hw=> ?_) ?_
        · obtain ⟨hS4,bs4,hR4⟩:=hw
          have:=((LL.out.box.behind (drew_below w3)).next hS4 hR4).panic (tmps:=a.tmps) (by omega) (by omega)
          rw [←hD] at this
          exact this
        go_region_law
          (first
            |(go_simp;go_at_call 44;refine (HC.out).mono ?_;intro e w4 hP;by_cases hv:e= .returned (.agg #[.int .u8 0, .int .i64 0, .string { data:= #[] }, .slice none 0 0, .slice none 0 0]);rotate_left;(focus (obtain ⟨hS4,he,hR4⟩:=hP;subst he;exact ⟨rfl,rfl,hS4,hR4⟩));obtain ⟨hS4,he,hR4⟩:=hP;rw [hv] at he;have HF:=Lib.hid he;clear he;subst hv;obtain ⟨ho4,hc4,hf4,hv4⟩:=HO.out w4 hS4)
            |(refine step_append_lies _ (by rfl) _ _ _ (by rfl) (vb+1) 80 i0 _ 6 96 (by kernel_rfl) hi0 hz0 hz1 hz2 rfl (by omega) (.slice a m c) j (cs.flatMap fcells) (by rfl) (ho4.alloc _) ⟨w4.heap.size,0,none⟩ 1 1 (fcells (sk,vzero)) (by rfl) (by rfl) (World.news_of_block (t:=80) (fr:=(0,0)) (heap_alloc_new w4 _)) (by simp [fcells,Value.oneCell']) (by omega) (by unfold maxLen;omega) (by omega) (by simp;omega) (w4.heap.size+1) (by simp) ?_;intro g cap w5 hown5 hgrow5 hat5 hlt5;have hc5:w5.cell? ⟨vb,4,none⟩=some (.slice a m c):=(hgrow5.cell_far ⟨vb,4,none⟩ (by simp;omega) (Ne.symm hne)).trans (keep_cell ((Below.refl _ _).alloc (Nat.le_refl _) _) hc4 hv4);have hf5:w5.frozen? ⟨vb,4,none⟩=false:=(hgrow5.frozen_far ⟨vb,4,none⟩ (by simp;omega) (Ne.symm hne)).trans ((((Below.refl _ _).alloc (Nat.le_refl _) _:Below w4.heap.size w4 (w4.alloc _)).frozen (p:=⟨vb,4,none⟩) hv4).trans hf4)))
        all_goals cases HF.out
      |some xr=>
      obtain ⟨x,r4⟩:=xr
      have HX:=Lib.hid hx
      have HC:Hid (Calls Tryz.prog 44 #[.pointer (some ⟨rb,0,none⟩)] w3.drew fun e w'=>∃c:VC,e= .returned (.agg #[.int .u8 c.k, .int .i64 c.n, .string c.s, .slice c.la c.ll c.lc, .slice c.oa c.ol c.oc])∧RStep w3.drew w' rb∧IsVal (only (fun b=>w3.drew.heap.size≤b) w') w'.heap.size x c∧Rdr w' rb r4 (d+1)):=
        (IHH.out w3.drew r3 (L.box.behind (drew_below w3)).rdr).mono fun e w' h=>RV_some (by rw [hx] at h;exact h)
      have HO:Hid (∀W,RStep w3.drew W rb→W.ownsRow (vb+1) 80 6 (.slice a m c) j (cs.flatMap fcells)∧W.cell? ⟨vb,4,none⟩=some (.slice a m c)∧W.frozen? ⟨vb,4,none⟩=false∧vb<W.heap.size):=by
        intro W hW
        have ho:=((L.row.later (PF.closed xs cs) (.of_below rb (drew_below w3)) (by omega)).later (PF.closed xs cs) hW (by omega)).own
        rw [L.len] at ho
        exact ⟨ho,hW.cell (w:=w3.drew) L.vb_.at_.c4 (by omega),(hW.frozen (w:=w3.drew) L.vb_.lt (by omega)).trans (L.vb_.fr 4),Nat.lt_of_lt_of_le L.vb_.lt hW.size⟩
      have hne:(Value.slice a m c).ownBlock≠some vb:=fun e=>by have:=(L.row.lt _ e).1;omega
      have LL:=Lib.hid L
      clear hx ht L
      refine wp_region_noPanic ?_
      go_region_law
        (first
          |(go_simp;go_at_call 44;refine (HC.out).mono ?_;rintro e w4 ⟨cx,rfl,hS4,hI4,hR4⟩;obtain ⟨ho4,hc4,hf4,hv4⟩:=HO.out w4 hS4)
          |(refine step_append_lies _ (by rfl) _ _ _ (by rfl) (vb+1) 80 i0 _ 6 96 (by kernel_rfl) hi0 hz0 hz1 hz2 rfl (by omega) (.slice a m c) j (cs.flatMap fcells) (by rfl) (ho4.alloc _) ⟨w4.heap.size,0,none⟩ 1 1 (fcells (sk,cx)) (by rfl) (by rfl) (World.news_of_block (t:=80) (fr:=(0,0)) (heap_alloc_new w4 _)) (by simp [fcells,Value.oneCell']) (by omega) (by unfold maxLen;omega) (by omega) (by simp;omega) (w4.heap.size+1) (by simp) ?_;intro g cap w5 hown5 hgrow5 hat5 hlt5;have hc5:w5.cell? ⟨vb,4,none⟩=some (.slice a m c):=(hgrow5.cell_far ⟨vb,4,none⟩ (by simp;omega) (Ne.symm hne)).trans (keep_cell ((Below.refl _ _).alloc (Nat.le_refl _) _) hc4 hv4);have hf5:w5.frozen? ⟨vb,4,none⟩=false:=(hgrow5.frozen_far ⟨vb,4,none⟩ (by simp;omega) (Ne.symm hne)).trans ((((Below.refl _ _).alloc (Nat.le_refl _) _:Below w4.heap.size w4 (w4.alloc _)).frozen (p:=⟨vb,4,none⟩) hv4).trans hf4)))
      all_goals
        refine NoPanic.normal ?_
        go_wp2_with fail
        go_roundw
        case rel=>exact ⟨j+1,some ⟨g,0,none⟩,j+1,cap,xs++ [(sk,x)],cs++ [(sk,cx)],r4,by omega,by go_num,LL.out.round HTT.out HX.out hS4 hI4 hR4 hown5 hgrow5 hat5⟩
        case measure=>simp [intOf];omega
    · have hjn:j=n:=by omega
      subst hjn
      obtain rfl:out=some (xs,rj):=by rw [←HL.out,L.rd]
      have r0:=L.box.res.c0;have r1:=L.box.res.c1;have r2:=L.box.res.c2;have r3:=L.box.res.c3;have r4:=L.box.res.c4
      have g0:=L.box.frz 0 (by omega);have g1:=L.box.frz 1 (by omega);have g2:=L.box.frz 2 (by omega);have g3:=L.box.frz 3 (by omega);have g4:=L.box.frz 4 (by omega)
      have hx:=L.row.val (lo:=vb+1) (by rw [L.len,L.cen]) (Nat.le_refl _) kd (by omega) (by omega) (by rw [L.len];omega)
      have HB2:=Lib.hid L.box
      have HX:=Lib.hid hx
      clear L hx
      go_wp2_with fail
      exact leave_stored (base:=vb+1) HB2.out ⟨kd,0, .empty,none,0,0,a,m,c⟩ HX.out (by omega) (by omega) (by omega) rfl
end Go.Proofs.YthceefjafklcmaaGreatDoor
namespace Go.Proofs.YthceefjafklcmaaGreatDoor
open Go.RowKit
theorem rValue_any (k:Nat):∀(w:World) (rb:Nat) (bs:List UInt8) (d:Int),Rdr w rb bs d→0≤d→d+k=18→Calls Tryz.prog 44 #[.pointer (some ⟨rb,0,none⟩)] w (RVPost w rb d (rdV k bs)):=by
  induction k with
  |zero=>intro w rb bs d h h0 hk;exact rv_deep w rb bs d h (by omega)
  | succ k ih=>
    intro w rb bs d h h0 hk
    have hd:d≤17:=by omega
    cases hr:rdN 1 bs with
    | none=>
      have e:rdV (k+1) bs=none:=by rw [rdV,hr];rfl
      rw [e];exact rv_none w rb bs d h h0 hd hr
    | some p=>
      obtain ⟨kd,r⟩:=p
      by_cases e12:kd=1∨kd=2
      · cases h2:rdN 8 r with
        | none=>
          have e:rdV (k+1) bs=none:=by rw [rdV,hr];simp only [Option.bind_some,if_pos e12,h2];rfl
          rw [e]
          rcases e12 with e1|e1
          · exact rv_int1_none w rb bs d h h0 hd hr e1 h2
          · exact rv_int2_none w rb bs d h h0 hd hr e1 h2
        | some q=>
          obtain ⟨n,r2⟩:=q
          have e:rdV (k+1) bs=some (.mk kd (wrap64 n) .empty [] [],r2):=by rw [rdV,hr];simp only [Option.bind_some,if_pos e12,h2]
          rw [e]
          rcases e12 with e1|e1
          · exact rv_int1_some w rb bs d h h0 hd hr e1 h2
          · exact rv_int2_some w rb bs d h h0 hd hr e1 h2
      by_cases e3:kd=3
      · cases h2:rdT r with
        | none=>
          have e:rdV (k+1) bs=none:=by rw [rdV,hr];simp only [Option.bind_some,if_neg e12,if_pos e3,h2];rfl
          rw [e];exact rv_text_none w rb bs d h h0 hd hr e3 h2
        | some q=>
          obtain ⟨s,r2⟩:=q
          have e:rdV (k+1) bs=some (.mk kd 0 s [] [],r2):=by rw [rdV,hr];simp only [Option.bind_some,if_neg e12,if_pos e3,h2]
          rw [e];exact rv_text_some w rb bs d h h0 hd hr e3 h2
      by_cases e4:kd=4
      · cases h2:rdM 4 r with
        | none=>
          have e:rdV (k+1) bs=none:=by rw [rdV,hr];simp only [Option.bind_some,if_neg e12,if_neg e3,if_pos e4,h2];rfl
          rw [e];exact rv_list_none w rb bs d h h0 hd hr e4 h2
        | some q=>
          obtain ⟨n,q⟩:=q
          have e:rdV (k+1) bs=(rdL (fun x=>rdV k x) n q).bind fun p=>some (.mk kd 0 .empty p.1 [],p.2):=by rw [rdV,hr];simp only [Option.bind_some,if_neg e12,if_neg e3,if_pos e4,h2]
          rw [e];exact rv_list_any w rb bs d h h0 hd hr e4 h2 k (fun W bs hR=>ih W rb bs (d+1) hR (by omega) (by omega)) rfl
      by_cases e5:kd=5
      · cases h2:rdM 4 r with
        | none=>
          have e:rdV (k+1) bs=none:=by rw [rdV,hr];simp only [Option.bind_some,if_neg e12,if_neg e3,if_neg e4,if_pos e5,h2];rfl
          rw [e];exact rv_obj_none w rb bs d h h0 hd hr e5 h2
        | some q=>
          obtain ⟨n,q⟩:=q
          have e:rdV (k+1) bs=(rdL (fun x=>(rdT x).bind fun y=>(rdV k y.2).bind fun z=>some ((y.1,z.1),z.2)) n q).bind fun p=>some (.mk kd 0 .empty [] p.1,p.2):=by rw [rdV,hr];simp only [Option.bind_some,if_neg e12,if_neg e3,if_neg e4,if_pos e5,h2]
          rw [e];exact rv_obj_any w rb bs d h h0 hd hr e5 h2 k (fun W bs hR=>ih W rb bs (d+1) hR (by omega) (by omega)) rfl
      · have e:rdV (k+1) bs=some (.mk kd 0 .empty [] [],r):=by rw [rdV,hr];simp only [Option.bind_some,if_neg e12,if_neg e3,if_neg e4,if_neg e5]
        rw [e];exact rv_other w rb bs d h h0 hd hr (by omega)
end Go.Proofs.YthceefjafklcmaaGreatDoor
