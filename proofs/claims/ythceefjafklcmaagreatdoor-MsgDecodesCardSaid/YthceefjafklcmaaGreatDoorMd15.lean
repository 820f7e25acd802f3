/-
  Contracts of the functions that the law reaches: msg.lay: a number is laid behind bytes. reader.step; boxes of cells while a reader runs. reader.comp: what stands in memory while it runs.
-/
import Derived.Test.YthceefjafklcmaaGreatDoorMd14
namespace Go.Proofs.YthceefjafklcmaaGreatDoor
open Go.RowKit
theorem isB_own {w:World} {B:Nat} {v:Value} {bs:List UInt8} (ho:w.ownsRow B 5 1 v bs.length (outs bs)):∃a n c,v= .slice a n c∧IsB w w.heap.size a n c bs:=by
  have hc:=fun g hg=>ho.cells (g:=g) hg
  have hlt:=ho.lt
  rcases ho.2 with ⟨rfl,hn⟩|⟨g,cap,cur,rfl,_,hg,hnc,hcm,_,_⟩
  · have:bs= [] :=List.length_eq_zero_iff.1 hn
    subst this
    exact ⟨none,0,0,rfl, .nil _ _⟩
  · refine ⟨_,_,_,rfl,rfl,hnc,by simpa [maxLen] using hcm,g,0,fun _=>⟨rfl,(hlt g rfl).2⟩,fun i hi=> ?_⟩
    have:=hc g rfl i (.int .u8 (bs[i].toNat:Int)) (by simp [outs,hi])
    rw [add_at] at this;exact this
def OwnB (w:World) (B:Nat) (a:Option Addr) (n c:Nat) (bs:List UInt8):Prop:=n=bs.length∧w.ownsRow B 5 1 (.slice a n c) n (outs bs)
theorem OwnB.nil (w:World) (B:Nat):OwnB w B none 0 0 [] :=⟨rfl,by simp [outs], .inl ⟨rfl,rfl⟩⟩
theorem OwnB.isB {w:World} {B:Nat} {a:Option Addr} {n c:Nat} {bs:List UInt8} (h:OwnB w B a n c bs):IsB w w.heap.size a n c bs:=by
  obtain ⟨rfl,h⟩:=h
  obtain ⟨a2,n2,c2,hv2,hI⟩:=isB_own h
  injection hv2 with h3 h4 h5;subst h3 h4 h5
  exact hI
theorem OwnB.below {w w':World} {B:Nat} {a:Option Addr} {n c:Nat} {bs:List UInt8} (h:OwnB w B a n c bs) (hb:Below w.heap.size w w'):OwnB w' B a n c bs:=
  ⟨h.1,h.2.kept (row:=none) ⟨hb.os,hb.tape,hb.output,hb.size,fun k hk _=>hb.block k hk⟩ (by cases (Value.slice a n c).ownBlock<;>simp)⟩
theorem OwnB.lower {w:World} {B B':Nat} {a:Option Addr} {n c:Nat} {bs:List UInt8} (h:OwnB w B a n c bs) (hB:B'≤B):OwnB w B' a n c bs:=by
  obtain ⟨h1,h2,h3⟩:=h
  refine ⟨h1,h2, ?_⟩
  rcases h3 with h|⟨g,cap,cur,e,hg,r⟩
  · exact .inl h
  · exact .inr ⟨g,cap,cur,e,Nat.le_trans hB hg,r⟩
theorem OwnB.lt {w:World} {B:Nat} {a:Option Addr} {n c:Nat} {bs:List UInt8} (h:OwnB w B a n c bs):∀b,(Value.slice a n c).ownBlock=some b→B≤b∧b<w.heap.size:=h.2.lt
set_option maxHeartbeats 4000000 in
set_option maxRecDepth 100000 in
theorem layM_any (x width:Nat) (hw8:width≤8) (w:World) (B:Nat) (hB:B≤w.heap.size) (a0:Option Addr) (n0 c0:Nat) (bs:List UInt8) (h:OwnB w B a0 n0 c0 bs) (hsz:bs.length+width≤140737488355328):
    Calls Tryz.prog 20 #[.slice a0 n0 c0, .int .i64 x, .int .i64 width] w fun e w'=>(∃a n c,e= .returned (.slice a n c)∧OwnB w' B a n c (bs++be x width))∧Below B w w':=by
  obtain ⟨i0,hi0,hz0,hz1,hz2⟩:=info_parts ginfo8
  go_enter Tryz.func20,Tryz.ntmps20
  go_wp2_with fail
  go_loopw [0,7] (fun u i wr=>∃(r:Nat) (pre:List UInt8) (a:Option Addr) (n c:Nat),r≤width∧i= .int .i64 ((r:Int) - 1)∧u= .slice a n c∧Hid (pre++be x r=be x width)∧OwnB wr B a n c (bs++pre)∧Below B w wr) (fun _ i _=>(intOf i+1).toNat)
  case atStart=>exact ⟨width, [],a0,n0,c0,Nat.le_refl _,rfl,rfl,by show _=_;rfl,by simpa using h,Below.refl _ _⟩
  case round=>
    clear h
    obtain ⟨r,pre,a,n,c,hr,rfl,rfl,HP,h,hb⟩:=hrel
    cases r with
    | zero=>
      go_wp2_with fail
      go_returns
      exact ⟨⟨a,n,c,rfl,by rw [←HP.out,show be x 0= [] from rfl,List.append_nil];exact h⟩,hb⟩
    | succ r=>
      have hpl:pre.length+(r+1)=width:=by have:=congrArg List.length HP.out;simpa [be_length] using this
      have ei:((r+1:Nat):Int) - 1=(r:Int):=by omega
      rw [ei]
      obtain ⟨b,hbb⟩:∃b:UInt8,UInt8.ofNat (x / 256 ^ r)=b:=⟨_,rfl⟩
      have hu8:(x:Int) / 2 ^ (8*r) % 256=((b.toNat:Nat):Int):=by
        have h1:=shr_nat x r
        rw [show (8*(r:Int)).toNat=8*r by omega] at h1
        rw [h1, ←hbb]
        simp
      have HB:=Lib.hid hbb
      have hrlt:=h.lt
      have hbs:=hb.size
      have hn:=h.1
      rw [List.length_append] at hn
      have HN:=Lib.hid hn
      have ho:=h.2
      have HH:=Lib.hid h
      have HBB:=Lib.hid hb
      clear hbb h hb hn
      go_wp2_with (at_builtin;refine wpList_append_lies _ rfl (.tmp 14) (.tmp 20) 22 (by rfl) B 5 i0 _ 1 1 Tryz.underlying22 hi0 hz0 hz1 hz2 rfl (by omega) (.slice a n c) n (outs (bs++pre)) (by rfl) (ho.alloc _) ⟨wr.heap.size,0,none⟩ 1 1 [.int .u8 (b.toNat:Int)] (by rfl) (by rfl) (World.news_of_block (cs:= #[.int .u8 (b.toNat:Int)]) (t:=5) (fr:=(0,0)) (heap_alloc_new wr _)) (by simp [Value.oneCell']) (by omega) (by have:=HN.out;unfold maxLen;omega) (by have:=HN.out;omega) (by simp;omega) (wr.heap.size+1) (by simp) ?_;intro g cap w7 hown7 hgrow7 hat7 hlt7)
      go_roundw
      case rel=>
        refine ⟨r,pre++ [b],some ⟨g,0,none⟩,n+1,cap,by omega,by go_num,rfl,by show _=_;rw [←HP.out,List.append_assoc];simp only [be,HB.out,List.singleton_append],⟨by rw [←List.append_assoc,List.length_append,List.length_append,HN.out];rfl, ?_⟩, ?_⟩
        · rw [←List.append_assoc,outs_append]
          exact hown7
        · exact (HBB.out.trans (((Below.refl _ _).alloc (Nat.le_refl _) _).mono (by omega))).trans (grown_below hgrow7 (fun k hk=>(hrlt k hk).1) (by simp;omega))
      case measure=>first|(simp [intOf];done)|(simp [intOf];omega)
theorem layM1 (x:Nat) (w:World) (B:Nat) (hB:B≤w.heap.size) (a0:Option Addr) (n0 c0:Nat) (bs:List UInt8) (h:OwnB w B a0 n0 c0 bs) (hsz:bs.length+1≤140737488355328):
    Calls Tryz.prog 20 #[.slice a0 n0 c0, .int .i64 x, .int .i64 1] w fun e w'=>(∃a n c,e= .returned (.slice a n c)∧OwnB w' B a n c (bs++be x 1))∧Below B w w':=layM_any x 1 (by omega) w B hB a0 n0 c0 bs h hsz
theorem layM2 (x:Nat) (w:World) (B:Nat) (hB:B≤w.heap.size) (a0:Option Addr) (n0 c0:Nat) (bs:List UInt8) (h:OwnB w B a0 n0 c0 bs) (hsz:bs.length+2≤140737488355328):
    Calls Tryz.prog 20 #[.slice a0 n0 c0, .int .i64 x, .int .i64 2] w fun e w'=>(∃a n c,e= .returned (.slice a n c)∧OwnB w' B a n c (bs++be x 2))∧Below B w w':=layM_any x 2 (by omega) w B hB a0 n0 c0 bs h hsz
theorem layM4 (x:Nat) (w:World) (B:Nat) (hB:B≤w.heap.size) (a0:Option Addr) (n0 c0:Nat) (bs:List UInt8) (h:OwnB w B a0 n0 c0 bs) (hsz:bs.length+4≤140737488355328):
    Calls Tryz.prog 20 #[.slice a0 n0 c0, .int .i64 x, .int .i64 4] w fun e w'=>(∃a n c,e= .returned (.slice a n c)∧OwnB w' B a n c (bs++be x 4))∧Below B w w':=layM_any x 4 (by omega) w B hB a0 n0 c0 bs h hsz
end Go.Proofs.YthceefjafklcmaaGreatDoor
namespace Go.Proofs.YthceefjafklcmaaGreatDoor
open Go.RowKit
structure BC (W:World) (b:Nat) (cs:List Value):Prop where
  at_:∀j x,cs[j]? =some x→W.cell? ⟨b,j,none⟩=some x
  fr:∀j,W.frozen? ⟨b,j,none⟩=false
  lt:b<W.heap.size
theorem BC.start (w:World) (cs:Array Value) (t:TypeId):BC (w.alloc (.cells cs t)) w.heap.size cs.toList:=
  ⟨fun j x hj=>cells_new w cs t j x (by rw [←hj];simp),fun j=>frozen_new w cs t j,by simp⟩
theorem BC.next {W W':World} {b rb:Nat} {cs:List Value} (h:BC W b cs) (s:RStep W W' rb) (hb:b≠rb):BC W' b cs:=
  ⟨fun j x hj=>s.cell (h.at_ j x hj) hb,fun j=>(s.frozen h.lt hb).trans (h.fr j),Nat.lt_of_lt_of_le h.lt s.size⟩
theorem BC.keep {W W':World} {b B:Nat} {cs:List Value} (h:BC W b cs) (hb:Below B W W') (hB:b<B):BC W' b cs:=
  ⟨fun j x hj=>keep_cell hb (h.at_ j x hj) hB,fun j=>(hb.frozen (p:=⟨b,j,none⟩) hB).trans (h.fr j),Nat.lt_of_lt_of_le h.lt hb.size⟩
theorem BC.set {W:World} {b i:Nat} {x:Value} {cs:List Value} (h:BC W b cs) (hi:i<cs.length):BC (W.setCell ⟨b,i,none⟩ x) b (cs.set i x):=by
  refine ⟨fun j y hj=> ?_,fun j=>by simpa using h.fr j,by simpa using h.lt⟩
  by_cases e:i=j
  · subst e
    rw [List.getElem?_set_self hi] at hj
    injection hj with hj
    subst hj
    exact World.cell?_setCell_same _ _ _ (h.at_ i cs[i] (by simp [hi]))
  · rw [List.getElem?_set_ne e] at hj
    rw [World.cell?_setCell_other]
    · exact h.at_ j y hj
    · intro e2;injection e2 with _ e3;exact e (by first|exact e3|exact e3.symm)
theorem BC.far {W:World} {b b' o:Nat} {x:Value} {cs:List Value} (h:BC W b cs) (hb:b≠b'):BC (W.setCell ⟨b',o,none⟩ x) b cs:=
  h.next RStep.self hb
def RSPost (w:World) (rb:Nat) (d:Int) (r:Option (St×List UInt8)) (e:Ending) (w':World):Prop:=
  RStep w w' rb∧match r with
    |some (s,r)=>e= .returned (.agg #[.bool s.list, .int .i64 s.i, .string s.key])∧Rdr w' rb r d
    |none=>e= .panicked [short] ∧∃bs',Rdr w' rb bs' d
theorem rdS_bnd {bs r:List UInt8} {s:St} (h:rdS bs=some (s,r)):s.Bnd:=by
  unfold rdS at h
  cases h1:rdN 1 bs with
  |none=>rw [h1] at h;cases h
  | some p=>
    rw [h1] at h
    simp only [Option.bind_some] at h
    split at h
    · cases h2:rdN 8 p.2 with
      |none=>rw [h2] at h;cases h
      | some q=>
        rw [h2] at h
        simp only [Option.bind_some] at h
        injection h with h;injection h with h h';subst h
        exact ⟨i64_lo _,i64_hi _,(by decide:ByteArray.empty.size≤140737488355328)⟩
    · cases h2:rdT p.2 with
      |none=>rw [h2] at h;cases h
      | some q=>
        rw [h2] at h
        simp only [Option.bind_some] at h
        injection h with h;injection h with h h';subst h
        exact ⟨(by decide:(-9223372036854775808:Int)≤0),(by decide:(0:Int)≤9223372036854775807),rdT_size h2⟩
theorem results_step {tmps:Array Value} {W:World} {b:Nat} {l:Bool} {i:Int} {k:ByteArray} (ht:tmps[2]? =some (.pointer (some ⟨b,0,none⟩))) (h:BC W b [.bool l, .int .i64 i, .string k]):(results Tryz.f104 tmps).run Tryz.prog W= .ok (.agg #[.bool l, .int .i64 i, .string k]) W:=by
  have h0:=h.at_ 0 _ rfl
  have h1:=h.at_ 1 _ rfl
  have h2:=h.at_ 2 _ rfl
  simp [results,Tryz.results104,go_sem,ht,h0,h1,h2]
set_option maxHeartbeats 4000000 in
set_option maxRecDepth 100000 in
theorem rStep_any (w:World) (rb:Nat) (bs:List UInt8) (d:Int) (h:Rdr w rb bs d):Calls Tryz.prog 104 #[.pointer (some ⟨rb,0,none⟩)] w (RSPost w rb d (rdS bs)):=by
  have hlt:=h.lt
  have hb:∀t,Below w.heap.size w (w.alloc (.cells #[.bool false, .int .i64 0, .string { data:= #[] }] t)):=fun t=>(Below.refl _ _).alloc (Nat.le_refl _) _
  have HB:=Lib.hid hb
  have H:=Lib.hid h
  have HC:=Lib.hid (fun t=>BC.start w #[.bool false, .int .i64 0, .string { data:= #[] }] t)
  clear h hb
  cases hr:rdN 1 bs with
  | none=>
    have e:rdS bs=none:=by rw [rdS,hr];rfl
    rw [e]
    have HR:=Lib.hid hr
    clear hr e
    go_enter Tryz.func104,Tryz.ntmps104
    go_wp2_with (go_at_call 70;(with_reducible refine (takeU81_none _ rb bs d (H.out.of_below (HB.out _)) HR.out).mono ?_);rintro e w1 ⟨rfl,rfl⟩)
    exact ⟨rfl, .of_below rb (HB.out _),rfl,bs,H.out.of_below (HB.out _)⟩
  | some p=>
    obtain ⟨k,r⟩:=p
    have HR:=Lib.hid hr
    by_cases ek:k=1
    · subst ek
      cases h2:rdN 8 r with
      | none=>
        have e:rdS bs=none:=by rw [rdS,hr];simp only [Option.bind_some,if_true,h2];rfl
        rw [e]
        have HR2:=Lib.hid h2
        clear hr e h2
        go_enter Tryz.func104,Tryz.ntmps104
        go_wp2_with (first|(go_at_call 70;(with_reducible refine (takeU81_some _ rb bs d (H.out.of_below (HB.out _)) HR.out).mono ?_);rintro e w1 ⟨rfl,hR1,hS1⟩)|(go_at_call 103;(with_reducible refine (takeInt8_none _ rb r d hR1 HR2.out).mono ?_);rintro e w2 ⟨rfl,rfl⟩))
        exact ⟨rfl,(RStep.of_below rb (HB.out _)).trans hS1,rfl,r,hR1⟩
      | some q=>
        obtain ⟨n,r2⟩:=q
        have e:rdS bs=some (⟨true,wrap64 n, .empty⟩,r2):=by rw [rdS,hr];simp only [Option.bind_some,if_true,h2]
        rw [e]
        have HR2:=Lib.hid h2
        clear hr e h2
        go_enter Tryz.func104,Tryz.ntmps104
        go_wp2_with (first|(go_at_call 70;(with_reducible refine (takeU81_some _ rb bs d (H.out.of_below (HB.out _)) HR.out).mono ?_);rintro e w1 ⟨rfl,hR1,hS1⟩)|(go_at_call 103;(with_reducible refine (takeInt8_some _ rb r d hR1 HR2.out).mono ?_);rintro e w2 ⟨rfl,hR2,hS2⟩;have C2:=((HC.out 129).next hS1 (by omega)).next hS2 (by omega);have y0:=C2.at_ 0 _ rfl;have y1:=C2.at_ 1 _ rfl;have y2:=C2.at_ 2 _ rfl;have g0:=C2.fr 0;have g1:=C2.fr 1;have g2:=C2.fr 2))
        have hw:w.heap.size≤w.heap.size:=Nat.le_refl _
        have C3:=((C2.set (i:=0) (x:= .bool true) (by simp)).set (i:=1) (x:= .int .i64 (wrap64 n)) (by simp)).set (i:=2) (x:= .string .empty) (by simp)
        refine ⟨rfl,_,results_step (l:=true) (i:=(wrap64 n)) (k:= .empty) rfl C3, ?_⟩
        exact ⟨((((RStep.of_below rb (HB.out _)).trans (hS1.trans hS2)).setNew hw).setNew hw).setNew hw,rfl,((hR2.setNew (by omega)).setNew (by omega)).setNew (by omega)⟩
    · have f1:((k:Int)==1)=false:=by simp;omega
      cases h2:rdT r with
      | none=>
        have e:rdS bs=none:=by rw [rdS,hr];simp only [Option.bind_some,if_neg ek,h2];rfl
        rw [e]
        have HR2:=Lib.hid h2
        clear hr e h2 ek
        go_enter Tryz.func104,Tryz.ntmps104
        go_wp2_with (first|(go_at_call 70;(with_reducible refine (takeU81_some _ rb bs d (H.out.of_below (HB.out _)) HR.out).mono ?_);rintro e w1 ⟨rfl,hR1,hS1⟩)|(go_at_call 77;(with_reducible refine (rText_none _ rb r d hR1 HR2.out).mono ?_);rintro e w2 ⟨rfl,hS2,hR2⟩))
        exact ⟨rfl,(RStep.of_below rb (HB.out _)).trans (hS1.trans hS2),rfl,hR2⟩
      | some q=>
        obtain ⟨s,r2⟩:=q
        have e:rdS bs=some (⟨false,0,s⟩,r2):=by rw [rdS,hr];simp only [Option.bind_some,if_neg ek,h2]
        rw [e]
        have HR2:=Lib.hid h2
        clear hr e h2 ek
        go_enter Tryz.func104,Tryz.ntmps104
        go_wp2_with (first|(go_at_call 70;(with_reducible refine (takeU81_some _ rb bs d (H.out.of_below (HB.out _)) HR.out).mono ?_);rintro e w1 ⟨rfl,hR1,hS1⟩)|(go_at_call 77;(with_reducible refine (rText_some _ rb r d hR1 HR2.out).mono ?_);rintro e w2 ⟨rfl,hR2,hS2⟩;have C2:=((HC.out 129).next hS1 (by omega)).next hS2 (by omega);have y0:=C2.at_ 0 _ rfl;have y1:=C2.at_ 1 _ rfl;have y2:=C2.at_ 2 _ rfl;have g0:=C2.fr 0;have g1:=C2.fr 1;have g2:=C2.fr 2))
        have hw:w.heap.size≤w.heap.size:=Nat.le_refl _
        have C3:=((C2.set (i:=0) (x:= .bool false) (by simp)).set (i:=1) (x:= .int .i64 0) (by simp)).set (i:=2) (x:= .string s) (by simp)
        refine ⟨rfl,_,results_step (l:=false) (i:=0) (k:=s) rfl C3, ?_⟩
        exact ⟨((((RStep.of_below rb (HB.out _)).trans (hS1.trans hS2)).setNew hw).setNew hw).setNew hw,rfl,((hR2.setNew (by omega)).setNew (by omega)).setNew (by omega)⟩
end Go.Proofs.YthceefjafklcmaaGreatDoor
namespace Go.Proofs.YthceefjafklcmaaGreatDoor
open Go.RowKit
def scells (s:St):List Value:= [.bool s.list, .int .i64 s.i, .string s.key]
def czero:CC:=⟨0,none,0,0, .empty,0,0,0,vzero, .empty⟩
def ccells (c:CC):List Value:= [.int .u8 c.k, .slice c.pa c.pl c.pc, .string c.key, .int .i64 c.i, .int .i64 c.j, .int .i64 c.n, .int .u8 c.v.k, .int .i64 c.v.n, .string c.v.s, .slice c.v.la c.v.ll c.v.lc, .slice c.v.oa c.v.ol c.v.oc, .string c.s]
def PT:World→Nat→Nat→Prop:=fun _ _ _=>True
theorem PT.closed:Closed PT:=fun _ _ _ _ _ _ _ _=>trivial
abbrev RowS (w:World) (base:Nat) (u:Value) (l:List St):Prop:=Row 129 3 w base u l.length (l.flatMap scells) PT
theorem RowS.steps {w:World} {base lo:Nat} {l:List St} {a:Option Addr} {n cap:Nat} (h:RowS w base (.slice a n cap) l) (hlo:lo≤base) (hb:∀s ∈ l,s.Bnd) (hfew:l.length≤1466015503701):
    IsSteps (only (fun b=>lo≤b) w) w.heap.size l a n cap:=by
  obtain ⟨h1,_⟩:=Row.shows PT.closed h hlo
  have hown:=h.own
  have hlt:=h.lt
  rcases hown.2 with ⟨e,hn⟩|⟨g,cap',cur,e,hbg,hg,hnc,hcm,hcs,htake⟩
  · injection e with e1 e2 e3;subst e1 e2 e3
    have:l= [] :=List.length_eq_zero_iff.1 hn
    subst this
    exact .nil _ _
  · injection e with e1 e2 e3;subst e1 e2 e3
    refine ⟨rfl,hnc,by simpa [maxLen] using hcm,hfew,g,0,fun _=>⟨rfl,(hlt g rfl).2⟩,fun i hi=>⟨?_,hb _ (List.getElem_mem hi)⟩⟩
    have hc:∀t x,t<3→(scells l[i])[t]? =some x→(only (fun b=>lo≤b) w).cell? ⟨g,0+i*3+t,none⟩=some x:=fun t x ht hx=>by
      rw [Nat.zero_add]
      exact h1 g rfl (i*3+t) x ((flat_get scells 3 (fun _=>rfl) l i t hi ht).trans hx)
    exact ⟨hc 0 _ (by omega) rfl,hc 1 _ (by omega) rfl,hc 2 _ (by omega) rfl⟩
structure LS (w wr:World) (rb cb:Nat) (d:Int) (kd:Nat) (q:List UInt8) (j:Nat) (a:Option Addr) (m c:Nat) (xs:List St) (rj:List UInt8):Prop where
  rd:rdL (fun x=>rdS x) j q=some (xs,rj)
  len:xs.length=j
  bnd:∀s ∈ xs,s.Bnd
  rdr:Rdr wr rb rj d
  st:RStep w wr rb
  res:BC wr w.heap.size (ccells czero)
  box:BC wr cb (ccells ⟨kd,a,m,c, .empty,0,0,0,vzero, .empty⟩)
  row:RowS wr (cb+1) (.slice a m c) xs
  lo:w.heap.size+1≤cb
  lt:rb<w.heap.size
theorem LS.round {w wr w4 w5:World} {rb cb:Nat} {d:Int} {kd:Nat} {q:List UInt8} {j:Nat} {a:Option Addr} {m c:Nat} {xs:List St} {rj r2:List UInt8} {x:St} {g cap:Nat} {t:TypeId}
    (h:LS w wr rb cb d kd q j a m c xs rj) (hx:rdS rj=some (x,r2)) (hS:RStep wr.drew w4 rb) (hR:Rdr w4 rb r2 d)
    (hown:w5.ownsRow (cb+1) 129 3 (.slice (some ⟨g,0,none⟩) (j+1) cap) (j+1) (xs.flatMap scells++scells x)) (hg:(w4.alloc (.cells #[.bool x.list, .int .i64 x.i, .string x.key] t)).grownBy w5 (Value.slice a m c).ownBlock)
    (hat:(Value.slice a m c).ownBlock=some g∨g=w4.heap.size+1):
    LS w (w5.setCell ⟨cb,1,none⟩ (.slice (some ⟨g,0,none⟩) (j+1) cap)) rb cb d kd q (j+1) (some ⟨g,0,none⟩) (j+1) cap (xs++ [x]) r2:=by
  have hlo:=h.lo
  have hlt:=h.lt
  have hdz:wr.drew.heap.size=wr.heap.size:=rfl
  have hb1:=drew_below wr
  have hrow:=(h.row.later PT.closed (.of_below rb hb1) (by omega)).later PT.closed hS (by omega)
  have hrlt:∀b,(Value.slice a m c).ownBlock=some b→cb+1≤b∧b<wr.heap.size:=h.row.lt
  have hba:Below w4.heap.size w4 (w4.alloc (.cells #[.bool x.list, .int .i64 x.i, .string x.key] t)):=(Below.refl _ _).alloc (Nat.le_refl _) _
  have hsz4:wr.heap.size≤w4.heap.size:=hS.size
  have hclt:=h.box.lt
  have hgb:Below (cb+1) (w4.alloc (.cells #[.bool x.list, .int .i64 x.i, .string x.key] t)) w5:=grown_below hg (fun b hb=>(hrlt b hb).1) (by simp;omega)
  have hb45:Below (cb+1) w4 w5:=(hba.mono (by omega)).trans hgb
  have hpush:=Row.push PT.closed hrow hba hg (u':= .slice (some ⟨g,0,none⟩) (j+1) cap) (news:=scells x) (by rw [h.len];exact hown) (by
    rcases hat with e|e
    · left;rw [e];rfl
    · right;intro b hb;have:g=b:=by simpa [Value.ownBlock] using hb
      omega) (trivial:PT _ _ _) (fun _ _ _ _ _=>trivial)
  have hres:=((h.res.keep hb1 (by omega)).next hS (by omega)).keep hb45 (by omega)
  have hbox:=((h.box.keep hb1 hclt).next hS (by omega)).keep hb45 (by omega)
  have hst:RStep w w5 rb:=by
    have h1:RStep w w4 rb:=(h.st.trans (.of_below rb hb1)).trans hS
    exact ⟨hb45.os.trans h1.os,hb45.tape.trans h1.tape,hb45.output.trans h1.output,Nat.le_trans h1.size hb45.size,fun k hk hr=>(hb45.block k (by omega)).trans (h1.block k hk hr)⟩
  refine ⟨?_,by simp [h.len],fun s hs=> ?_,(hR.below hb45 (by omega)).setNew (by omega),hst.setNew (by omega),hres.far (by omega),hbox.set (i:=1) (x:= .slice (some ⟨g,0,none⟩) (j+1) cap) (by simp [ccells]), ?_,hlo,hlt⟩
  · rw [rdL,h.rd];simp only [Option.bind_some,hx]
  · rcases List.mem_append.1 hs with h1|h1
    · exact h.bnd s h1
    · rw [List.mem_singleton.1 h1];exact rdS_bnd hx
  · have hr2:RowS w5 (cb+1) (.slice (some ⟨g,0,none⟩) (j+1) cap) (xs++ [x]):=by
      show Row _ _ _ _ _ _ _ _
      rw [flat_snoc,List.length_append,List.length_singleton]
      exact hpush
    exact hr2.set PT.closed (by omega)
def RCPost (w:World) (rb:Nat) (d:Int) (r:Option (Cm×List UInt8)) (e:Ending) (w':World):Prop:=
  RStep w w' rb∧match r with
    |some (x,r)=>(∃c:CC,e= .returned (.agg #[.int .u8 c.k, .slice c.pa c.pl c.pc, .string c.key, .int .i64 c.i, .int .i64 c.j, .int .i64 c.n, .int .u8 c.v.k, .int .i64 c.v.n, .string c.v.s, .slice c.v.la c.v.ll c.v.lc, .slice c.v.oa c.v.ol c.v.oc, .string c.s])∧IsComp (only (fun b=>w.heap.size≤b) w') w'.heap.size x c)∧Rdr w' rb r d
    |none=>e= .panicked [short] ∧∃bs',Rdr w' rb bs' d
structure CB (w W:World) (rb cb:Nat) (d:Int) (r:List UInt8) (p:List St) (v:V) (c:CC):Prop where
  rdr:Rdr W rb r d
  st:RStep w W rb
  res:BC W w.heap.size (ccells czero)
  box:BC W cb (ccells c)
  stp:IsSteps (only (fun b=>cb+1≤b) W) W.heap.size p c.pa c.pl c.pc
  val:IsVal (only (fun b=>cb+1≤b) W) W.heap.size v c.v
  lo:w.heap.size+1≤cb
  lt:rb<w.heap.size
theorem isSteps_far {W W':World} {b base:Nat} {p:List St} {a:Option Addr} {n c:Nat} (h:IsSteps (only (fun k=>base≤k) W) W.heap.size p a n c) (s:RStep W W' b) (hb:b<base):IsSteps (only (fun k=>base≤k) W') W'.heap.size p a n c:=
  (h.sub (shows_step fun k hk hl=>⟨hk,s.block k hl (by omega)⟩)).more s.size
theorem CB.next {w W W':World} {rb cb:Nat} {d:Int} {r r':List UInt8} {p:List St} {v:V} {c:CC} (h:CB w W rb cb d r p v c) (s:RStep W W' rb) (hR:Rdr W' rb r' d):CB w W' rb cb d r' p v c:=by
  have hlo:=h.lo;have hlt:=h.lt
  exact ⟨hR,h.st.trans s,h.res.next s (by omega),h.box.next s (by omega),isSteps_far h.stp s (by omega),isVal_far h.val s (by omega),hlo,hlt⟩
theorem CB.start {w wr:World} {rb cb:Nat} {d:Int} {kd:Nat} {q:List UInt8} {j:Nat} {a:Option Addr} {m c:Nat} {xs:List St} {rj:List UInt8} (h:LS w wr rb cb d kd q j a m c xs rj) (hfew:j≤1466015503701):CB w wr rb cb d rj xs V.none ⟨kd,a,m,c, .empty,0,0,0,vzero, .empty⟩:=
  ⟨h.rdr,h.st,h.res,h.box,h.row.steps (Nat.le_refl _) h.bnd (by rw [h.len];exact hfew),isVal_none _ _,h.lo,h.lt⟩
theorem CB.set1 {w W W':World} {rb cb:Nat} {d:Int} {r:List UInt8} {p:List St} {v:V} {c c':CC} (h:CB w W rb cb d r p v c) (s:RStep W W' cb) (hbox:BC W' cb (ccells c')) (e1:c'.pa=c.pa) (e2:c'.pl=c.pl) (e3:c'.pc=c.pc) (e4:c'.v=c.v):CB w W' rb cb d r p v c':=by
  have hlo:=h.lo;have hlt:=h.lt
  have hst:RStep w W' rb:=⟨s.os.trans h.st.os,s.tape.trans h.st.tape,s.output.trans h.st.output,Nat.le_trans h.st.size s.size,fun k hk hr=>(s.block k (Nat.lt_of_lt_of_le hk h.st.size) (by omega)).trans (h.st.block k hk hr)⟩
  refine ⟨h.rdr.below (s.below (Nat.le_of_lt h.box.lt)) (by omega),hst,h.res.next s (by omega),hbox, ?_, ?_,hlo,hlt⟩
  · rw [e1,e2,e3];exact isSteps_far h.stp s (by omega)
  · rw [e4];exact isVal_far h.val s (by omega)
theorem CB.value {w W W' W2:World} {rb cb:Nat} {d:Int} {r r':List UInt8} {p:List St} {v v':V} {c c':CC} (h:CB w W rb cb d r p v c) (s:RStep W W' rb) (hR:Rdr W' rb r' d) (hv:IsVal (only (fun b=>W.heap.size≤b) W') W'.heap.size v' c'.v) (s2:RStep W' W2 cb) (hbox:BC W2 cb (ccells c')) (e1:c'.pa=c.pa) (e2:c'.pl=c.pl) (e3:c'.pc=c.pc):CB w W2 rb cb d r' p v' c':=by
  have hlo:=h.lo;have hlt:=h.lt
  have hcl:=h.box.lt
  have h1:=h.next s hR
  have hst:RStep w W2 rb:=⟨s2.os.trans h1.st.os,s2.tape.trans h1.st.tape,s2.output.trans h1.st.output,Nat.le_trans h1.st.size s2.size,fun k hk hr=>(s2.block k (Nat.lt_of_lt_of_le hk h1.st.size) (by omega)).trans (h1.st.block k hk hr)⟩
  refine ⟨h1.rdr.below (s2.below (Nat.le_of_lt h1.box.lt)) (by omega),hst,h1.res.next s2 (by omega),hbox, ?_, ?_,hlo,hlt⟩
  · rw [e1,e2,e3];exact isSteps_far h1.stp s2 (by omega)
  · exact isVal_far ((hv.sub (shows_step fun k hk hl=>⟨by omega,rfl⟩))) s2 (by omega)
theorem results_comp {tmps:Array Value} {W:World} {b:Nat} {c:CC} (ht:tmps[2]? =some (.pointer (some ⟨b,0,none⟩))) (h:BC W b (ccells c)):(results Tryz.f73 tmps).run Tryz.prog W= .ok (.agg #[.int .u8 c.k, .slice c.pa c.pl c.pc, .string c.key, .int .i64 c.i, .int .i64 c.j, .int .i64 c.n, .int .u8 c.v.k, .int .i64 c.v.n, .string c.v.s, .slice c.v.la c.v.ll c.v.lc, .slice c.v.oa c.v.ol c.v.oc, .string c.s]) W:=by
  have h0:=h.at_ 0 _ rfl
  have h1:=h.at_ 1 _ rfl
  have h2:=h.at_ 2 _ rfl
  have h3:=h.at_ 3 _ rfl
  have h4:=h.at_ 4 _ rfl
  have h5:=h.at_ 5 _ rfl
  have h6:=h.at_ 6 _ rfl
  have h7:=h.at_ 7 _ rfl
  have h8:=h.at_ 8 _ rfl
  have h9:=h.at_ 9 _ rfl
  have h10:=h.at_ 10 _ rfl
  have h11:=h.at_ 11 _ rfl
  simp [results,Tryz.results73,go_sem,ht,h0,h1,h2,h3,h4,h5,h6,h7,h8,h9,h10,h11]
theorem CB.leave {w W:World} {rb cb:Nat} {d:Int} {r:List UInt8} {p:List St} {v:V} {c:CC} {x:Cm} {a:Act} (h:CB w W rb cb d r p v c) (hb:c.Bnd) (hx:x=⟨c.k,p,c.key,c.i,c.j,c.n,v,c.s⟩) (hd:a.defers= []) (ht:a.tmps[2]? =some (.pointer (some ⟨w.heap.size,0,none⟩))):
    bodyPost Tryz.prog Tryz.f73 (RCPost w rb d (some (x,r))) .ret a ((((((((((((W.setCell ⟨w.heap.size,0,none⟩ (.int .u8 c.k)).setCell ⟨w.heap.size,1,none⟩ (.slice c.pa c.pl c.pc)).setCell ⟨w.heap.size,2,none⟩ (.string c.key)).setCell ⟨w.heap.size,3,none⟩ (.int .i64 c.i)).setCell ⟨w.heap.size,4,none⟩ (.int .i64 c.j)).setCell ⟨w.heap.size,5,none⟩ (.int .i64 c.n)).setCell ⟨w.heap.size,6,none⟩ (.int .u8 c.v.k)).setCell ⟨w.heap.size,7,none⟩ (.int .i64 c.v.n)).setCell ⟨w.heap.size,8,none⟩ (.string c.v.s)).setCell ⟨w.heap.size,9,none⟩ (.slice c.v.la c.v.ll c.v.lc)).setCell ⟨w.heap.size,10,none⟩ (.slice c.v.oa c.v.ol c.v.oc)).setCell ⟨w.heap.size,11,none⟩ (.string c.s)):=by
  have hlo:=h.lo;have hlt:=h.lt
  have hs:RStep W ((((((((((((W.setCell ⟨w.heap.size,0,none⟩ (.int .u8 c.k)).setCell ⟨w.heap.size,1,none⟩ (.slice c.pa c.pl c.pc)).setCell ⟨w.heap.size,2,none⟩ (.string c.key)).setCell ⟨w.heap.size,3,none⟩ (.int .i64 c.i)).setCell ⟨w.heap.size,4,none⟩ (.int .i64 c.j)).setCell ⟨w.heap.size,5,none⟩ (.int .i64 c.n)).setCell ⟨w.heap.size,6,none⟩ (.int .u8 c.v.k)).setCell ⟨w.heap.size,7,none⟩ (.int .i64 c.v.n)).setCell ⟨w.heap.size,8,none⟩ (.string c.v.s)).setCell ⟨w.heap.size,9,none⟩ (.slice c.v.la c.v.ll c.v.lc)).setCell ⟨w.heap.size,10,none⟩ (.slice c.v.oa c.v.ol c.v.oc)).setCell ⟨w.heap.size,11,none⟩ (.string c.s)) w.heap.size:=(((((((((((RStep.self.trans RStep.self).trans RStep.self).trans RStep.self).trans RStep.self).trans RStep.self).trans RStep.self).trans RStep.self).trans RStep.self).trans RStep.self).trans RStep.self).trans RStep.self)
  have hbc:BC ((((((((((((W.setCell ⟨w.heap.size,0,none⟩ (.int .u8 c.k)).setCell ⟨w.heap.size,1,none⟩ (.slice c.pa c.pl c.pc)).setCell ⟨w.heap.size,2,none⟩ (.string c.key)).setCell ⟨w.heap.size,3,none⟩ (.int .i64 c.i)).setCell ⟨w.heap.size,4,none⟩ (.int .i64 c.j)).setCell ⟨w.heap.size,5,none⟩ (.int .i64 c.n)).setCell ⟨w.heap.size,6,none⟩ (.int .u8 c.v.k)).setCell ⟨w.heap.size,7,none⟩ (.int .i64 c.v.n)).setCell ⟨w.heap.size,8,none⟩ (.string c.v.s)).setCell ⟨w.heap.size,9,none⟩ (.slice c.v.la c.v.ll c.v.lc)).setCell ⟨w.heap.size,10,none⟩ (.slice c.v.oa c.v.ol c.v.oc)).setCell ⟨w.heap.size,11,none⟩ (.string c.s)) w.heap.size (ccells c):=((((((((((((h.res.set (i:=0) (x:= .int .u8 c.k) (by simp [ccells])).set (i:=1) (x:= .slice c.pa c.pl c.pc) (by simp [ccells])).set (i:=2) (x:= .string c.key) (by simp [ccells])).set (i:=3) (x:= .int .i64 c.i) (by simp [ccells])).set (i:=4) (x:= .int .i64 c.j) (by simp [ccells])).set (i:=5) (x:= .int .i64 c.n) (by simp [ccells])).set (i:=6) (x:= .int .u8 c.v.k) (by simp [ccells])).set (i:=7) (x:= .int .i64 c.v.n) (by simp [ccells])).set (i:=8) (x:= .string c.v.s) (by simp [ccells])).set (i:=9) (x:= .slice c.v.la c.v.ll c.v.lc) (by simp [ccells])).set (i:=10) (x:= .slice c.v.oa c.v.ol c.v.oc) (by simp [ccells])).set (i:=11) (x:= .string c.s) (by simp [ccells]))
  have hst:RStep w ((((((((((((W.setCell ⟨w.heap.size,0,none⟩ (.int .u8 c.k)).setCell ⟨w.heap.size,1,none⟩ (.slice c.pa c.pl c.pc)).setCell ⟨w.heap.size,2,none⟩ (.string c.key)).setCell ⟨w.heap.size,3,none⟩ (.int .i64 c.i)).setCell ⟨w.heap.size,4,none⟩ (.int .i64 c.j)).setCell ⟨w.heap.size,5,none⟩ (.int .i64 c.n)).setCell ⟨w.heap.size,6,none⟩ (.int .u8 c.v.k)).setCell ⟨w.heap.size,7,none⟩ (.int .i64 c.v.n)).setCell ⟨w.heap.size,8,none⟩ (.string c.v.s)).setCell ⟨w.heap.size,9,none⟩ (.slice c.v.la c.v.ll c.v.lc)).setCell ⟨w.heap.size,10,none⟩ (.slice c.v.oa c.v.ol c.v.oc)).setCell ⟨w.heap.size,11,none⟩ (.string c.s)) rb:=⟨hs.os.trans h.st.os,hs.tape.trans h.st.tape,hs.output.trans h.st.output,Nat.le_trans h.st.size hs.size,fun k hk hr=>(hs.block k (Nat.lt_of_lt_of_le hk h.st.size) (by omega)).trans (h.st.block k hk hr)⟩
  have hstp:=isSteps_far h.stp hs (by omega)
  have hval:=isVal_far h.val hs (by omega)
  refine ⟨hd,_,results_comp ht hbc,hst,⟨c,rfl, ?_⟩,h.rdr.below (hs.below (by have:=h.res.lt;omega)) hlt⟩
  subst hx
  exact .mk c p v hb (hstp.sub (shows_step fun k hk _=>⟨by omega,rfl⟩)) (hval.sub (shows_step fun k hk _=>⟨by omega,rfl⟩))
end Go.Proofs.YthceefjafklcmaaGreatDoor
