/-
  Contracts of the functions that the law reaches: Reader.value's loops: what stands at the head of a round. Reader.value: a list. A field's zero. Reader.value: an object. Reader.value, whole.
-/
import Derived.Test.YthceefjafklcmaaGreatDoorMd23
import Derived.Test.YthceefjafklcmaaGreatDoorMd7
import Derived.Test.YthceefjafklcmaaGreatDoorMd18
namespace Go.Proofs.YthceefjafklcmaaGreatDoor
open Go.RowKit
structure QL (w wr:World) (rb vb:Nat) (k:Nat) (kd:Nat) (s0:RS) (j:Nat) (a:Option Addr) (m c:Nat) (xs:List V) (cs:List VC) (sj sc:RS):Prop where
  rd:fL (fun x=>fV k x) j s0=(xs,sj)
  len:xs.length=j
  cen:cs.length=j
  box:QB w wr rb sc (vcells vzero)
  vb_:BC wr vb (vcells ⟨kd,0, .empty,a,m,c,none,0,0⟩)
  row:RowV wr (vb+1) (.slice a m c) xs cs
  lo:w.heap.size+1≤vb
theorem QL.round {w wr w4 w5:World} {rb vb:Nat} {k kd:Nat} {s0:RS} {j:Nat} {a:Option Addr} {m c:Nat} {xs:List V} {cs:List VC} {sj s3 s2:RS} {x:V} {cx:VC} {g cap:Nat} {t:TypeId}
    (h:QL w wr rb vb k kd s0 j a m c xs cs sj s3) (hb0:sj.2=false) (hsc:s3=sj) (hx:fV k s3=(x,s2)) (hS:RStep wr.drew w4 rb) (hI:IsVal (only (fun b=>wr.drew.heap.size≤b) w4) w4.heap.size x cx) (hR:RR w4 rb s2)
    (hown:w5.ownsRow (vb+1) 28 5 (.slice (some ⟨g,0,none⟩) (j+1) cap) (j+1) (cs.flatMap vcells++vcells cx)) (hg:(w4.alloc (.cells #[.int .u8 cx.k, .int .i64 cx.n, .string cx.s, .slice cx.la cx.ll cx.lc, .slice cx.oa cx.ol cx.oc] t)).grownBy w5 (Value.slice a m c).ownBlock)
    (hat:(Value.slice a m c).ownBlock=some g∨g=w4.heap.size+1):
    QL w (w5.setCell ⟨vb,3,none⟩ (.slice (some ⟨g,0,none⟩) (j+1) cap)) rb vb k kd s0 (j+1) (some ⟨g,0,none⟩) (j+1) cap (xs++ [x]) (cs++ [cx]) s2 s2:=by
  have hlo:=h.lo
  have hlt:=h.box.lt
  have hdz:wr.drew.heap.size=wr.heap.size:=rfl
  have hb1:=drew_below wr
  have hrow:=(h.row.later (PV.closed xs cs) (.of_below rb hb1) (by omega)).later (PV.closed xs cs) hS (by omega)
  have hrlt:∀b,(Value.slice a m c).ownBlock=some b→vb+1≤b∧b<wr.heap.size:=h.row.lt
  have hba:Below w4.heap.size w4 (w4.alloc (.cells #[.int .u8 cx.k, .int .i64 cx.n, .string cx.s, .slice cx.la cx.ll cx.lc, .slice cx.oa cx.ol cx.oc] t)):=(Below.refl _ _).alloc (Nat.le_refl _) _
  have hsz4:wr.heap.size≤w4.heap.size:=hS.size
  have hvlt:=h.vb_.lt
  have hgb:Below (vb+1) (w4.alloc (.cells #[.int .u8 cx.k, .int .i64 cx.n, .string cx.s, .slice cx.la cx.ll cx.lc, .slice cx.oa cx.ol cx.oc] t)) w5:=grown_below hg (fun b hb=>(hrlt b hb).1) (by simp;omega)
  have hb45:Below (vb+1) w4 w5:=(hba.mono (by omega)).trans hgb
  obtain ⟨s1,s2'⟩:=PV.snoc (l:=xs) (cs:=cs) (by rw [h.len,h.cen]) x cx
  have hnew:PV (xs++ [x]) (cs++ [cx]) (only (Free (vb+1) (.slice a m c)) w4) w4.heap.size xs.length:=s1 _ _ (hI.sub (shows_step fun b hb _=>⟨⟨by rw [hdz] at hb;omega,fun e=>by have:=(hrlt b e.symm).2;rw [hdz] at hb;omega⟩,rfl⟩))
  have hpush:=Row.push (PV.closed (xs++ [x]) (cs++ [cx])) hrow hba hg (u':= .slice (some ⟨g,0,none⟩) (j+1) cap) (news:=vcells cx) (by rw [h.len];exact hown) (by
    rcases hat with e|e
    · left;rw [e];rfl
    · right;intro b hb;have:g=b:=by simpa [Value.ownBlock] using hb
      omega) hnew s2'
  have hbox:=((h.box.behind hb1).next hS hR).below (hb45.mono (by omega))
  have hvb:=((h.vb_.keep hb1 hvlt).next hS (by omega)).keep hb45 (by omega)
  refine ⟨?_,by simp [h.len],by simp [h.cen],hbox.set (by omega),hvb.set (i:=3) (x:= .slice (some ⟨g,0,none⟩) (j+1) cap) (by simp [vcells]), ?_,hlo⟩
  · rw [fL_step (by rw [h.rd];exact hb0),h.rd];rw [←hsc];simp only [hx]
  · have hr2:RowV w5 (vb+1) (.slice (some ⟨g,0,none⟩) (j+1) cap) (xs++ [x]) (cs++ [cx]):=by
      show Row _ _ _ _ _ _ _ _
      rw [flat_snoc,List.length_append,List.length_singleton]
      exact hpush
    exact hr2.set (PV.closed _ _) (by omega)
structure QO (w wr:World) (rb vb:Nat) (k:Nat) (kd:Nat) (s0:RS) (j:Nat) (a:Option Addr) (m c:Nat) (xs:List (ByteArray×V)) (cs:List (ByteArray×VC)) (sj sc:RS):Prop where
  rd:fL (fun x=>fF (fun y=>fV k y) x) j s0=(xs,sj)
  len:xs.length=j
  cen:cs.length=j
  box:QB w wr rb sc (vcells vzero)
  vb_:BC wr vb (vcells ⟨kd,0, .empty,none,0,0,a,m,c⟩)
  row:RowF wr (vb+1) (.slice a m c) xs cs
  lo:w.heap.size+1≤vb
theorem QO.round {w wr w4 w5:World} {rb vb:Nat} {k kd:Nat} {s0:RS} {j:Nat} {a:Option Addr} {m c:Nat} {xs:List (ByteArray×V)} {cs:List (ByteArray×VC)} {sj s3 s2:RS} {sk:ByteArray} {x:V} {cx:VC} {g cap:Nat} {t:TypeId}
    (h:QO w wr rb vb k kd s0 j a m c xs cs sj s3) (hb0:sj.2=false) (ht:fT sj=(sk,s3)) (hx:fV k s3=(x,s2)) (hS:RStep wr.drew w4 rb) (hI:IsVal (only (fun b=>wr.drew.heap.size≤b) w4) w4.heap.size x cx) (hR:RR w4 rb s2)
    (hown:w5.ownsRow (vb+1) 80 6 (.slice (some ⟨g,0,none⟩) (j+1) cap) (j+1) (cs.flatMap fcells++fcells (sk,cx))) (hg:(w4.alloc (.cells #[.string sk, .int .u8 cx.k, .int .i64 cx.n, .string cx.s, .slice cx.la cx.ll cx.lc, .slice cx.oa cx.ol cx.oc] t)).grownBy w5 (Value.slice a m c).ownBlock)
    (hat:(Value.slice a m c).ownBlock=some g∨g=w4.heap.size+1):
    QO w (w5.setCell ⟨vb,4,none⟩ (.slice (some ⟨g,0,none⟩) (j+1) cap)) rb vb k kd s0 (j+1) (some ⟨g,0,none⟩) (j+1) cap (xs++ [(sk,x)]) (cs++ [(sk,cx)]) s2 s2:=by
  have hlo:=h.lo
  have hlt:=h.box.lt
  have hdz:wr.drew.heap.size=wr.heap.size:=rfl
  have hb1:=drew_below wr
  have hrow:=(h.row.later (PF.closed xs cs) (.of_below rb hb1) (by omega)).later (PF.closed xs cs) hS (by omega)
  have hrlt:∀b,(Value.slice a m c).ownBlock=some b→vb+1≤b∧b<wr.heap.size:=h.row.lt
  have hba:Below w4.heap.size w4 (w4.alloc (.cells #[.string sk, .int .u8 cx.k, .int .i64 cx.n, .string cx.s, .slice cx.la cx.ll cx.lc, .slice cx.oa cx.ol cx.oc] t)):=(Below.refl _ _).alloc (Nat.le_refl _) _
  have hsz4:wr.heap.size≤w4.heap.size:=hS.size
  have hvlt:=h.vb_.lt
  have hgb:Below (vb+1) (w4.alloc (.cells #[.string sk, .int .u8 cx.k, .int .i64 cx.n, .string cx.s, .slice cx.la cx.ll cx.lc, .slice cx.oa cx.ol cx.oc] t)) w5:=grown_below hg (fun b hb=>(hrlt b hb).1) (by simp;omega)
  have hb45:Below (vb+1) w4 w5:=(hba.mono (by omega)).trans hgb
  obtain ⟨s1,s2'⟩:=PF.snoc (l:=xs) (cs:=cs) (by rw [h.len,h.cen]) sk (by have:=fT_size sj;rw [ht] at this;exact this) x cx
  have hnew:PF (xs++ [(sk,x)]) (cs++ [(sk,cx)]) (only (Free (vb+1) (.slice a m c)) w4) w4.heap.size xs.length:=s1 _ _ (hI.sub (shows_step fun b hb _=>⟨⟨by rw [hdz] at hb;omega,fun e=>by have:=(hrlt b e.symm).2;rw [hdz] at hb;omega⟩,rfl⟩))
  have hpush:=Row.push (PF.closed (xs++ [(sk,x)]) (cs++ [(sk,cx)])) hrow hba hg (u':= .slice (some ⟨g,0,none⟩) (j+1) cap) (news:=fcells (sk,cx)) (by rw [h.len];exact hown) (by
    rcases hat with e|e
    · left;rw [e];rfl
    · right;intro b hb;have:g=b:=by simpa [Value.ownBlock] using hb
      omega) hnew s2'
  have hbox:=((h.box.behind hb1).next hS hR).below (hb45.mono (by omega))
  have hvb:=((h.vb_.keep hb1 hvlt).next hS (by omega)).keep hb45 (by omega)
  refine ⟨?_,by simp [h.len],by simp [h.cen],hbox.set (by omega),hvb.set (i:=4) (x:= .slice (some ⟨g,0,none⟩) (j+1) cap) (by simp [vcells]), ?_,hlo⟩
  · rw [fL_step (by rw [h.rd];exact hb0),h.rd];simp only [fF,ht,hx]
  · have hr2:RowF w5 (vb+1) (.slice (some ⟨g,0,none⟩) (j+1) cap) (xs++ [(sk,x)]) (cs++ [(sk,cx)]):=by
      show Row _ _ _ _ _ _ _ _
      rw [flat_snoc,List.length_append,List.length_singleton]
      exact hpush
    exact hr2.set (PF.closed _ _) (by omega)
theorem QO.text {w wr w3:World} {rb vb:Nat} {k kd:Nat} {s0:RS} {j:Nat} {a:Option Addr} {m c:Nat} {xs:List (ByteArray×V)} {cs:List (ByteArray×VC)} {sj sc s3:RS} (h:QO w wr rb vb k kd s0 j a m c xs cs sj sc) (hS:RStep wr w3 rb) (hR:RR w3 rb s3):QO w w3 rb vb k kd s0 j a m c xs cs sj s3:=by
  have hlo:=h.lo
  have hlt:=h.box.lt
  exact ⟨h.rd,h.len,h.cen,h.box.next hS hR,h.vb_.next hS (by omega),h.row.later (PF.closed xs cs) hS (by omega),hlo⟩
end Go.Proofs.YthceefjafklcmaaGreatDoor
namespace Go.Proofs.YthceefjafklcmaaGreatDoor
open Go.RowKit
set_option maxHeartbeats 8000000 in
set_option maxRecDepth 100000 in
theorem qv_list (w:World) (rb:Nat) (s:RS) (dd:Int) (h:RR w rb s) (hd0:0≤dd) (hd:dd≤17) {kd:Nat} {s1:RS} (hN:fN 1 s=(kd,s1)) (hk:kd=4) {n:Nat} {s2:RS} (hM:fM 4 s1=(n,s2)) (k:Nat) (IH:∀(W:World) (s:RS) (x:V) (s':RS),RR W rb s→fV k s=(x,s')→Calls Tryz.prog 46 #[.pointer (some ⟨rb,0,none⟩), .int .i64 (dd+1)] W (QVPost W rb x s')) {l:List V} {s9:RS} (hl:fL (fun x=>fV k x) n s2=(l,s9)):
    Calls Tryz.prog 46 #[.pointer (some ⟨rb,0,none⟩), .int .i64 dd] w (QVPost w rb (.mk kd 0 .empty l []) s9):=by
  obtain ⟨i0,hi0,hz0,hz1,hz2⟩:=info_parts ginfoV
  have hn4:n<4294967296:=by have:=(fM_lt 4 s1).1;rw [hM] at this;exact Nat.lt_of_lt_of_le this (by decide)
  have hw1:IntKind.i64.wrap (dd+1)=dd+1:=IntWalk.i64_in _ (by omega)
  have IHH:=Lib.hid IH
  have HL:=Lib.hid hl
  have HN:=Lib.hid hN
  have HM:=Lib.hid hM
  clear IH hl
  have hk1:kd<256:=by have:=fN_lt 1 s;rw [hN] at this;exact this
  have hu:=u8_id kd hk1
  have HB:=Lib.hid (QB.start h #[.int .u8 0, .int .i64 0, .string { data:= #[] }, .slice none 0 0, .slice none 0 0] 28)
  have hlt:=h.lt
  have hdd:¬17<dd:=by omega
  clear h
  have f1:((kd:Int)==1)=false:=by subst hk;rfl
  have f2:((kd:Int)==2)=false:=by subst hk;rfl
  have f3:((kd:Int)==3)=false:=by subst hk;rfl
  have f4:((kd:Int)==4)=true:=by subst hk;rfl
  have f5:((kd:Int)==5)=false:=by subst hk;rfl
  clear hk hN hM
  go_enter Tryz.func46,Tryz.ntmps46
  generalize hQ0:bodyPost _ _ _=Q0
  have HQ:=Lib.hid hQ0
  clear hQ0
  go_wp2_with (first|(go_at_call 45;(with_reducible refine (numberR1 _ rb s HB.out.rr HN.out).mono ?_);rintro e w1 ⟨rfl,hR,hS⟩;have B1:=HB.out.next hS hR;have r0:=B1.res.at_ 0 _ rfl;have g0:=B1.res.fr 0;have r1:=B1.res.at_ 1 _ rfl;have g1:=B1.res.fr 1;have r2:=B1.res.at_ 2 _ rfl;have g2:=B1.res.fr 2;have r3:=B1.res.at_ 3 _ rfl;have g3:=B1.res.fr 3;have r4:=B1.res.at_ 4 _ rfl;have g4:=B1.res.fr 4;have hsz:=B1.size;have zs0:w.heap.size<w1.heap.size:=(by omega))|(go_at_call 47;(with_reducible refine (manyR4 _ rb s1 (B1.behind ((Below.refl _ _).alloc (Nat.le_refl _) _)).rr HM.out).mono ?_);rintro e w2 ⟨rfl,hR2,hS2⟩;have B2:=(B1.behind ((Below.refl _ _).alloc (Nat.le_refl _) _)).next hS2 hR2;have VB2:=(BC.start w1 #[.int .u8 kd, .int .i64 0, .string { data:= #[] }, .slice none 0 0, .slice none 0 0] 28).next hS2 (by omega)))
  have LI0:QL w w2 rb w1.heap.size k kd s2 0 none 0 0 [] [] s2 s2:=⟨rfl,rfl,rfl,B2,VB2,Row.nil _ _ _ _ _,hsz⟩
  obtain ⟨vb,hvb⟩:∃vb,w1.heap.size=vb:=⟨_,rfl⟩
  rw [hvb] at LI0 hsz zs0 ⊢
  clear B1 B2 VB2 r0 r1 r2 r3 r4 g0 g1 g2 g3 g4 hvb
  go_loopw [7] (fun i wr=>∃(j:Nat) (a:Option Addr) (m c:Nat) (xs:List V) (cs:List VC) (sj:RS),j≤n∧i= .int .i64 j∧QL w wr rb vb k kd s2 j a m c xs cs sj sj) (fun i _=>n - (intOf i).toNat)
  case atStart=>exact ⟨0,none,0,0, [], [],s2,Nat.zero_le _,rfl,LI0⟩
  case round=>
    clear LI0
    obtain ⟨j,a,m,c,xs,cs,⟨bj,bd⟩,hj,rfl,L⟩:=hrel
    obtain ⟨y0,y1,y2,y3,y4⟩:=row5 L.vb_.at_
    have pc:=L.vb_.fr 3
    have bb:=L.box.rr.bad
    have hvlt:=L.vb_.lt
    obtain ⟨r0,r1,r2,r3,r4⟩:=row5 L.box.res.at_
    have g0:=L.box.res.fr 0;have g1:=L.box.res.fr 1;have g2:=L.box.res.fr 2;have g3:=L.box.res.fr 3;have g4:=L.box.res.fr 4
    by_cases hlt2:j<n
    · cases bd with
      | true=>
        have hs:=fL_stop (f:=fun x=>fV k x) (j:=j) (n:=n) (s:=s2) (by rw [L.rd]) (by omega)
        rw [HL.out,L.rd] at hs
        injection hs with hs1 hs2
        subst hs1 hs2
        have hx:=L.row.val (lo:=vb+1) (by rw [L.len,L.cen]) (Nat.le_refl _) kd (by omega) (by omega) (by rw [L.len];omega)
        have HB2:=Lib.hid L.box
        have HX:=Lib.hid hx
        clear L hx
        go_wp2_with fail
        rw [←HQ.out]
        exact QB.leave (base:=vb+1) (c:=⟨kd,0, .empty,a,m,c,none,0,0⟩) HB2.out HX.out (by omega) rfl rfl
      |false=>
      have hlo:=L.lo
      have hbl:=L.box.lt
      replace bb:wr.cell? ⟨rb,1,none⟩=some (.bool false):=bb
      clear r0 r1 r2 r3 r4 g0 g1 g2 g3 g4
      obtain ⟨⟨x,s5⟩,hx⟩:∃p,fV k (bj,false)=p:=⟨_,rfl⟩
      have HXV:=Lib.hid hx
      have HC:Hid (Calls Tryz.prog 46 #[.pointer (some ⟨rb,0,none⟩), .int .i64 (dd+1)] wr.drew fun e w'=>∃c:VC,e= .returned (.agg #[.int .u8 c.k, .int .i64 c.n, .string c.s, .slice c.la c.ll c.lc, .slice c.oa c.ol c.oc])∧RStep wr.drew w' rb∧IsVal (only (fun b=>wr.drew.heap.size≤b) w') w'.heap.size x c∧RR w' rb s5):=
        (IHH.out wr.drew _ x s5 (L.box.behind (drew_below wr)).rr hx).mono fun e w' ⟨q1,⟨cc,q2,q3⟩,q4⟩=>⟨cc,q2,q1,q3,q4⟩
      have HO:Hid (∀W,RStep wr.drew W rb→W.ownsRow (vb+1) 28 5 (.slice a m c) j (cs.flatMap vcells)∧W.cell? ⟨vb,3,none⟩=some (.slice a m c)∧W.frozen? ⟨vb,3,none⟩=false∧vb<W.heap.size):=by
        intro W hW
        have ho:=((L.row.later (PV.closed xs cs) (.of_below rb (drew_below wr)) (by omega)).later (PV.closed xs cs) hW (by omega)).own
        rw [L.len] at ho
        exact ⟨ho,hW.cell (w:=wr.drew) (L.vb_.at_ 3 _ rfl) (by omega),(hW.frozen (w:=wr.drew) L.vb_.lt (by omega)).trans (L.vb_.fr 3),Nat.lt_of_lt_of_le L.vb_.lt hW.size⟩
      have hne:(Value.slice a m c).ownBlock≠some vb:=fun e=>by have:=(L.row.lt _ e).1;omega
      have LL:=Lib.hid L
      clear hx L
      go_wp2_with fail
      refine wp_region_noPanic ?_
      go_region_law
        (first
          |(go_simp;go_at_call 46;refine (HC.out).mono ?_;rintro e w4 ⟨cx,rfl,hS4,hI4,hR4⟩;obtain ⟨ho4,hc4,hf4,hv4⟩:=HO.out w4 hS4)
          |(refine step_append_lies _ (by rfl) _ _ _ (by rfl) (vb+1) 28 i0 _ 5 80 (by kernel_rfl) hi0 hz0 hz1 hz2 rfl (by omega) (.slice a m c) j (cs.flatMap vcells) (by rfl) (ho4.alloc _) ⟨w4.heap.size,0,none⟩ 1 1 (vcells cx) (by rfl) (by rfl) (World.news_of_block (t:=28) (fr:=(0,0)) (heap_alloc_new w4 _)) (by simp [vcells,Value.oneCell']) (by omega) (by unfold maxLen;omega) (by omega) (by simp;omega) (w4.heap.size+1) (by simp) ?_;intro g cap w5 hown5 hgrow5 hat5 hlt5;have hc5:w5.cell? ⟨vb,3,none⟩=some (.slice a m c):=(hgrow5.cell_far ⟨vb,3,none⟩ (by simp;omega) (Ne.symm hne)).trans (keep_cell ((Below.refl _ _).alloc (Nat.le_refl _) _) hc4 hv4);have hf5:w5.frozen? ⟨vb,3,none⟩=false:=(hgrow5.frozen_far ⟨vb,3,none⟩ (by simp;omega) (Ne.symm hne)).trans ((((Below.refl _ _).alloc (Nat.le_refl _) _:Below w4.heap.size w4 (w4.alloc _)).frozen (p:=⟨vb,3,none⟩) hv4).trans hf4)))
      all_goals
        refine NoPanic.normal ?_
        go_wp2_with fail
        go_roundw
        case rel=>exact ⟨j+1,some ⟨g,0,none⟩,j+1,cap,xs++ [x],cs++ [cx],s5,by omega,by go_num,LL.out.round rfl rfl HXV.out hS4 hI4 hR4 hown5 hgrow5 hat5⟩
        case measure=>simp [intOf];omega
    · have hjn:j=n:=by omega
      subst hjn
      have hs:=L.rd
      rw [HL.out] at hs
      injection hs with hs1 hs2
      subst hs1 hs2
      have hx:=L.row.val (lo:=vb+1) (by rw [L.len,L.cen]) (Nat.le_refl _) kd (by omega) (by omega) (by rw [L.len];omega)
      have HB2:=Lib.hid L.box
      have HX:=Lib.hid hx
      clear L hx
      go_wp2_with fail
      rw [←HQ.out]
      exact QB.leave (base:=vb+1) (c:=⟨kd,0, .empty,a,m,c,none,0,0⟩) HB2.out HX.out (by omega) rfl rfl
end Go.Proofs.YthceefjafklcmaaGreatDoor
namespace Go.Proofs.YthceefjafklcmaaGreatDoor
open Go.RowKit
theorem ginfoFR:(Tryz.prog.info? 80).map (fun i=>(i.zero,i.size,i.bytes))=some (some (.agg #[.string { data:= #[] }, .int .u8 0, .int .i64 0, .string { data:= #[] }, .slice none 0 0, .slice none 0 0]),6,96):=by kernel_rfl
end Go.Proofs.YthceefjafklcmaaGreatDoor
namespace Go.Proofs.YthceefjafklcmaaGreatDoor
open Go.RowKit
set_option maxHeartbeats 8000000 in
set_option maxRecDepth 100000 in
theorem qv_obj (w:World) (rb:Nat) (s:RS) (dd:Int) (h:RR w rb s) (hd0:0≤dd) (hd:dd≤17) {kd:Nat} {s1:RS} (hN:fN 1 s=(kd,s1)) (hk:kd=5) {n:Nat} {s2:RS} (hM:fM 4 s1=(n,s2)) (k:Nat) (IH:∀(W:World) (s:RS) (x:V) (s':RS),RR W rb s→fV k s=(x,s')→Calls Tryz.prog 46 #[.pointer (some ⟨rb,0,none⟩), .int .i64 (dd+1)] W (QVPost W rb x s')) {l:List (ByteArray×V)} {s9:RS} (hl:fL (fun x=>fF (fun y=>fV k y) x) n s2=(l,s9)):
    Calls Tryz.prog 46 #[.pointer (some ⟨rb,0,none⟩), .int .i64 dd] w (QVPost w rb (.mk kd 0 .empty [] l) s9):=by
  obtain ⟨i0,hi0,hz0,hz1,hz2⟩:=info_parts ginfoFR
  have hn4:n<4294967296:=by have:=(fM_lt 4 s1).1;rw [hM] at this;exact Nat.lt_of_lt_of_le this (by decide)
  have hw1:IntKind.i64.wrap (dd+1)=dd+1:=IntWalk.i64_in _ (by omega)
  have IHH:=Lib.hid IH
  have HL:=Lib.hid hl
  have HN:=Lib.hid hN
  have HM:=Lib.hid hM
  clear IH hl
  have hk1:kd<256:=by have:=fN_lt 1 s;rw [hN] at this;exact this
  have hu:=u8_id kd hk1
  have HB:=Lib.hid (QB.start h #[.int .u8 0, .int .i64 0, .string { data:= #[] }, .slice none 0 0, .slice none 0 0] 28)
  have hlt:=h.lt
  have hdd:¬17<dd:=by omega
  clear h
  have f1:((kd:Int)==1)=false:=by subst hk;rfl
  have f2:((kd:Int)==2)=false:=by subst hk;rfl
  have f3:((kd:Int)==3)=false:=by subst hk;rfl
  have f4:((kd:Int)==4)=false:=by subst hk;rfl
  have f5:((kd:Int)==5)=true:=by subst hk;rfl
  clear hk hN hM
  go_enter Tryz.func46,Tryz.ntmps46
  generalize hQ0:bodyPost _ _ _=Q0
  have HQ:=Lib.hid hQ0
  clear hQ0
  go_wp2_with (first|(go_at_call 45;(with_reducible refine (numberR1 _ rb s HB.out.rr HN.out).mono ?_);rintro e w1 ⟨rfl,hR,hS⟩;have B1:=HB.out.next hS hR;have r0:=B1.res.at_ 0 _ rfl;have g0:=B1.res.fr 0;have r1:=B1.res.at_ 1 _ rfl;have g1:=B1.res.fr 1;have r2:=B1.res.at_ 2 _ rfl;have g2:=B1.res.fr 2;have r3:=B1.res.at_ 3 _ rfl;have g3:=B1.res.fr 3;have r4:=B1.res.at_ 4 _ rfl;have g4:=B1.res.fr 4;have hsz:=B1.size;have zs0:w.heap.size<w1.heap.size:=(by omega))|(go_at_call 47;(with_reducible refine (manyR4 _ rb s1 (B1.behind ((Below.refl _ _).alloc (Nat.le_refl _) _)).rr HM.out).mono ?_);rintro e w2 ⟨rfl,hR2,hS2⟩;have B2:=(B1.behind ((Below.refl _ _).alloc (Nat.le_refl _) _)).next hS2 hR2;have VB2:=(BC.start w1 #[.int .u8 kd, .int .i64 0, .string { data:= #[] }, .slice none 0 0, .slice none 0 0] 28).next hS2 (by omega)))
  have LI0:QO w w2 rb w1.heap.size k kd s2 0 none 0 0 [] [] s2 s2:=⟨rfl,rfl,rfl,B2,VB2,Row.nil _ _ _ _ _,hsz⟩
  obtain ⟨vb,hvb⟩:∃vb,w1.heap.size=vb:=⟨_,rfl⟩
  rw [hvb] at LI0 hsz zs0 ⊢
  clear B1 B2 VB2 r0 r1 r2 r3 r4 g0 g1 g2 g3 g4 hvb
  go_loopw [9,10] (fun i _ wr=>∃(j:Nat) (a:Option Addr) (m c:Nat) (xs:List (ByteArray×V)) (cs:List (ByteArray×VC)) (sj:RS),j≤n∧i= .int .i64 j∧QO w wr rb vb k kd s2 j a m c xs cs sj sj) (fun i _ _=>n - (intOf i).toNat)
  case atStart=>exact ⟨0,none,0,0, [], [],s2,Nat.zero_le _,rfl,LI0⟩
  case round=>
    clear LI0
    obtain ⟨j,a,m,c,xs,cs,⟨bj,bd⟩,hj,rfl,L⟩:=hrel
    obtain ⟨y0,y1,y2,y3,y4⟩:=row5 L.vb_.at_
    have pc:=L.vb_.fr 4
    have bb:=L.box.rr.bad
    have hvlt:=L.vb_.lt
    obtain ⟨r0,r1,r2,r3,r4⟩:=row5 L.box.res.at_
    have g0:=L.box.res.fr 0;have g1:=L.box.res.fr 1;have g2:=L.box.res.fr 2;have g3:=L.box.res.fr 3;have g4:=L.box.res.fr 4
    by_cases hlt2:j<n
    · cases bd with
      | true=>
        have hs:=fL_stop (f:=fun x=>fF (fun y=>fV k y) x) (j:=j) (n:=n) (s:=s2) (by rw [L.rd]) (by omega)
        rw [HL.out,L.rd] at hs
        injection hs with hs1 hs2
        subst hs1 hs2
        have hx:=L.row.val (lo:=vb+1) (by rw [L.len,L.cen]) (Nat.le_refl _) kd (by omega) (by omega) (by rw [L.len];omega)
        have HB2:=Lib.hid L.box
        have HX:=Lib.hid hx
        clear L hx
        go_wp2_with fail
        rw [←HQ.out]
        exact QB.leave (base:=vb+1) (c:=⟨kd,0, .empty,none,0,0,a,m,c⟩) HB2.out HX.out (by omega) rfl rfl
      |false=>
      have hlo:=L.lo
      have hbl:=L.box.lt
      replace bb:wr.cell? ⟨rb,1,none⟩=some (.bool false):=bb
      clear r0 r1 r2 r3 r4 g0 g1 g2 g3 g4
      obtain ⟨⟨sk,s3⟩,ht⟩:∃p,fT (bj,false)=p:=⟨_,rfl⟩
      have HTT:=Lib.hid ht
      have HCT:=Lib.hid (textR_any wr rb (bj,false) L.box.rr ht)
      have HLT:=Lib.hid L
      clear ht L y0 y1 y2 y3 y4 pc
      go_wp2_with (go_at_call 78;(with_reducible refine (HCT.out).mono ?_);rintro e w3 ⟨rfl,hR3,hS3⟩)
      have L:=HLT.out.text hS3 hR3
      obtain ⟨y0,y1,y2,y3,y4⟩:=row5 L.vb_.at_
      have pc:=L.vb_.fr 4
      have hvlt3:=L.vb_.lt
      obtain ⟨⟨x,s5⟩,hx⟩:∃p,fV k s3=p:=⟨_,rfl⟩
      have HXV:=Lib.hid hx
      have HC:Hid (Calls Tryz.prog 46 #[.pointer (some ⟨rb,0,none⟩), .int .i64 (dd+1)] w3.drew fun e w'=>∃c:VC,e= .returned (.agg #[.int .u8 c.k, .int .i64 c.n, .string c.s, .slice c.la c.ll c.lc, .slice c.oa c.ol c.oc])∧RStep w3.drew w' rb∧IsVal (only (fun b=>w3.drew.heap.size≤b) w') w'.heap.size x c∧RR w' rb s5):=
        (IHH.out w3.drew _ x s5 (L.box.behind (drew_below w3)).rr hx).mono fun e w' ⟨q1,⟨cc,q2,q3⟩,q4⟩=>⟨cc,q2,q1,q3,q4⟩
      have HO:Hid (∀W,RStep w3.drew W rb→W.ownsRow (vb+1) 80 6 (.slice a m c) j (cs.flatMap fcells)∧W.cell? ⟨vb,4,none⟩=some (.slice a m c)∧W.frozen? ⟨vb,4,none⟩=false∧vb<W.heap.size):=by
        intro W hW
        have ho:=((L.row.later (PF.closed xs cs) (.of_below rb (drew_below w3)) (by omega)).later (PF.closed xs cs) hW (by omega)).own
        rw [L.len] at ho
        exact ⟨ho,hW.cell (w:=w3.drew) (L.vb_.at_ 4 _ rfl) (by omega),(hW.frozen (w:=w3.drew) L.vb_.lt (by omega)).trans (L.vb_.fr 4),Nat.lt_of_lt_of_le L.vb_.lt hW.size⟩
      have hne:(Value.slice a m c).ownBlock≠some vb:=fun e=>by have:=(L.row.lt _ e).1;omega
      have LL:=Lib.hid L
      clear hx L
      refine wp_region_noPanic ?_
      go_region_law
        (first
          |(go_simp;go_at_call 46;refine (HC.out).mono ?_;rintro e w4 ⟨cx,rfl,hS4,hI4,hR4⟩;obtain ⟨ho4,hc4,hf4,hv4⟩:=HO.out w4 hS4)
          |(refine step_append_lies _ (by rfl) _ _ _ (by rfl) (vb+1) 80 i0 _ 6 96 (by kernel_rfl) hi0 hz0 hz1 hz2 rfl (by omega) (.slice a m c) j (cs.flatMap fcells) (by rfl) (ho4.alloc _) ⟨w4.heap.size,0,none⟩ 1 1 (fcells (sk,cx)) (by rfl) (by rfl) (World.news_of_block (t:=80) (fr:=(0,0)) (heap_alloc_new w4 _)) (by simp [fcells,Value.oneCell']) (by omega) (by unfold maxLen;omega) (by omega) (by simp;omega) (w4.heap.size+1) (by simp) ?_;intro g cap w5 hown5 hgrow5 hat5 hlt5;have hc5:w5.cell? ⟨vb,4,none⟩=some (.slice a m c):=(hgrow5.cell_far ⟨vb,4,none⟩ (by simp;omega) (Ne.symm hne)).trans (keep_cell ((Below.refl _ _).alloc (Nat.le_refl _) _) hc4 hv4);have hf5:w5.frozen? ⟨vb,4,none⟩=false:=(hgrow5.frozen_far ⟨vb,4,none⟩ (by simp;omega) (Ne.symm hne)).trans ((((Below.refl _ _).alloc (Nat.le_refl _) _:Below w4.heap.size w4 (w4.alloc _)).frozen (p:=⟨vb,4,none⟩) hv4).trans hf4)))
      all_goals
        refine NoPanic.normal ?_
        go_wp2_with fail
        go_roundw
        case rel=>exact ⟨j+1,some ⟨g,0,none⟩,j+1,cap,xs++ [(sk,x)],cs++ [(sk,cx)],s5,by omega,by go_num,LL.out.round rfl HTT.out HXV.out hS4 hI4 hR4 hown5 hgrow5 hat5⟩
        case measure=>simp [intOf];omega
    · have hjn:j=n:=by omega
      subst hjn
      have hs:=L.rd
      rw [HL.out] at hs
      injection hs with hs1 hs2
      subst hs1 hs2
      have hx:=L.row.val (lo:=vb+1) (by rw [L.len,L.cen]) (Nat.le_refl _) kd (by omega) (by omega) (by rw [L.len];omega)
      have HB2:=Lib.hid L.box
      have HX:=Lib.hid hx
      clear L hx
      go_wp2_with fail
      rw [←HQ.out]
      exact QB.leave (base:=vb+1) (c:=⟨kd,0, .empty,none,0,0,a,m,c⟩) HB2.out HX.out (by omega) rfl rfl
end Go.Proofs.YthceefjafklcmaaGreatDoor
namespace Go.Proofs.YthceefjafklcmaaGreatDoor
open Go.RowKit
theorem valueR_any (k:Nat):∀(w:World) (rb:Nat) (s:RS) (dd:Int),RR w rb s→0≤dd→dd+k=18→∀ {x:V} {s':RS},fV k s=(x,s')→
    Calls Tryz.prog 46 #[.pointer (some ⟨rb,0,none⟩), .int .i64 dd] w (QVPost w rb x s'):=by
  induction k with
  |zero=>intro w rb s dd h _ hk x s' hx;exact qv_deep w rb s dd h (by omega) hx
  | succ k ih=>
    intro w rb s dd h hd0 hk x s' hx
    have hd:dd≤17:=by omega
    obtain ⟨⟨kd,s1⟩,hN⟩:∃p,fN 1 s=p:=⟨_,rfl⟩
    rw [fV,hN] at hx
    dsimp only at hx
    by_cases e12:kd=1∨kd=2
    · rw [if_pos e12] at hx
      obtain ⟨⟨n,s2⟩,hM⟩:∃p,fN 8 s1=p:=⟨_,rfl⟩
      rw [hM] at hx
      injection hx with h1 h2
      subst h1 h2
      rcases e12 with e|e
      · exact qv_int1 w rb s dd h hd0 hd hN e hM
      · exact qv_int2 w rb s dd h hd0 hd hN e hM
    rw [if_neg e12] at hx
    by_cases e3:kd=3
    · rw [if_pos e3] at hx
      obtain ⟨⟨t,s2⟩,hM⟩:∃p,fT s1=p:=⟨_,rfl⟩
      rw [hM] at hx
      injection hx with h1 h2
      subst h1 h2
      exact qv_text w rb s dd h hd0 hd hN e3 hM
    rw [if_neg e3] at hx
    have IH:∀(W:World) (s:RS) (x:V) (s':RS),RR W rb s→fV k s=(x,s')→Calls Tryz.prog 46 #[.pointer (some ⟨rb,0,none⟩), .int .i64 (dd+1)] W (QVPost W rb x s'):=
      fun W s x s' hR hx=>ih W rb s (dd+1) hR (by omega) (by omega) hx
    by_cases e4:kd=4
    · rw [if_pos e4] at hx
      obtain ⟨⟨n,s2⟩,hM⟩:∃p,fM 4 s1=p:=⟨_,rfl⟩
      rw [hM] at hx
      dsimp only at hx
      obtain ⟨⟨l,s9⟩,hl⟩:∃p,fL (fun x=>fV k x) n s2=p:=⟨_,rfl⟩
      rw [hl] at hx
      injection hx with h1 h2
      subst h1 h2
      exact qv_list w rb s dd h hd0 hd hN e4 hM k IH hl
    rw [if_neg e4] at hx
    by_cases e5:kd=5
    · rw [if_pos e5] at hx
      obtain ⟨⟨n,s2⟩,hM⟩:∃p,fM 4 s1=p:=⟨_,rfl⟩
      rw [hM] at hx
      dsimp only at hx
      obtain ⟨⟨l,s9⟩,hl⟩:∃p,fL (fun x=>fF (fun y=>fV k y) x) n s2=p:=⟨_,rfl⟩
      rw [hl] at hx
      injection hx with h1 h2
      subst h1 h2
      exact qv_obj w rb s dd h hd0 hd hN e5 hM k IH hl
    rw [if_neg e5] at hx
    injection hx with h1 h2
    subst h1 h2
    exact qv_other w rb s dd h hd0 hd hN (by omega)
theorem valueR0 (w:World) (rb:Nat) (s:RS) (h:RR w rb s) {x:V} {s':RS} (hx:fV 18 s=(x,s')):
    Calls Tryz.prog 46 #[.pointer (some ⟨rb,0,none⟩), .int .i64 0] w fun e w'=>∃c:VC,e= .returned (.agg #[.int .u8 c.k, .int .i64 c.n, .string c.s, .slice c.la c.ll c.lc, .slice c.oa c.ol c.oc])∧RStep w w' rb∧IsVal (only (fun b=>w.heap.size≤b) w') w'.heap.size x c∧RR w' rb s':=
  (valueR_any 18 w rb s 0 h (by omega) (by omega) hx).mono fun _ _ ⟨q1,⟨c,q2,q3⟩,q4⟩=>⟨c,q2,q1,q3,q4⟩
end Go.Proofs.YthceefjafklcmaaGreatDoor
