/-
  Contracts of the functions that the law reaches: reader.value, but for lists and objects. reader.value's loops: what stands at the head of a round.
-/
import Derived.Test.YthceefjafklcmaaGreatDoorMd13
namespace Go.Proofs.YthceefjafklcmaaGreatDoor
open Go.RowKit
theorem i64_lo (x:Int): -9223372036854775808≤wrap64 x:=by unfold wrap64;omega
theorem i64_hi (x:Int):wrap64 x≤9223372036854775807:=by unfold wrap64;omega
theorem rdM_some {k n:Nat} {bs r:List UInt8} (hr:rdM k bs=some (n,r)):rdN k bs=some (n,r)∧n≤r.length:=by
  unfold rdM at hr
  cases h:rdN k bs with
  |none=>rw [h] at hr;cases hr
  | some p=>
    rw [h] at hr
    simp only [Option.bind_some] at hr
    split at hr
    · injection hr with hr;subst hr;exact ⟨rfl,by assumption⟩
    · cases hr
theorem rdT_some {bs r:List UInt8} {s:ByteArray} (hr:rdT bs=some (s,r)):∃n q,rdM 4 bs=some (n,q)∧s=⟨(q.take n).toArray⟩∧r=q.drop n:=by
  unfold rdT at hr
  cases h:rdM 4 bs with
  |none=>rw [h] at hr;cases hr
  | some p=>
    obtain ⟨n,q⟩:=p
    rw [h] at hr
    simp only [Option.bind_some] at hr
    injection hr with hr;injection hr with h1 h2
    exact ⟨n,q,rfl,h1.symm,h2.symm⟩
theorem rdT_size {bs r:List UInt8} {s:ByteArray} (hr:rdT bs=some (s,r)):s.size≤140737488355328:=by
  obtain ⟨n,q,h1,rfl,rfl⟩:=rdT_some hr
  have h2:=rdN_lt (rdM_some h1).1
  have h3:(⟨(q.take n).toArray⟩:ByteArray).size=(q.take n).length:=by simp [ByteArray.size]
  rw [h3,List.length_take]
  omega
theorem rText_none (w:World) (rb:Nat) (bs:List UInt8) (d:Int) (h:Rdr w rb bs d) (hr:rdT bs=none):
    Calls Tryz.prog 77 #[.pointer (some ⟨rb,0,none⟩)] w fun e w'=>e= .panicked [short] ∧RStep w w' rb∧∃bs',Rdr w' rb bs' d:=by
  have:=rText_any w rb bs d h
  rw [hr] at this
  exact this.mono fun e w' ⟨h1,h2,h3⟩=>⟨h2,h1,h3⟩
theorem rText_some (w:World) (rb:Nat) (bs:List UInt8) (d:Int) (h:Rdr w rb bs d) {s:ByteArray} {r:List UInt8} (hr:rdT bs=some (s,r)):
    Calls Tryz.prog 77 #[.pointer (some ⟨rb,0,none⟩)] w fun e w'=>e= .returned (.string s)∧Rdr w' rb r d∧RStep w w' rb:=by
  have:=rText_any w rb bs d h
  rw [hr] at this
  exact this.mono fun e w' ⟨h1,h2,h3⟩=>⟨h2,h3,h1⟩
theorem many1_none (w:World) (rb:Nat) (bs:List UInt8) (d:Int) (h:Rdr w rb bs d) (hr:rdM 1 bs=none):
    Calls Tryz.prog 72 #[.pointer (some ⟨rb,0,none⟩), .int .i64 1] w fun e w'=>e= .panicked [short] ∧RStep w w' rb∧∃bs',Rdr w' rb bs' d:=by
  have:=many1_any w rb bs d h
  rw [hr] at this
  exact this.mono fun e w' ⟨h1,h2,h3⟩=>⟨h2,h1,h3⟩
theorem many1_some (w:World) (rb:Nat) (bs:List UInt8) (d:Int) (h:Rdr w rb bs d) {n:Nat} {r:List UInt8} (hr:rdM 1 bs=some (n,r)):
    Calls Tryz.prog 72 #[.pointer (some ⟨rb,0,none⟩), .int .i64 1] w fun e w'=>e= .returned (.int .i64 n)∧Rdr w' rb r d∧RStep w w' rb:=by
  have:=many1_any w rb bs d h
  rw [hr] at this
  exact this.mono fun e w' ⟨h1,h2,h3,_⟩=>⟨h2,h3,h1⟩
theorem many4_none (w:World) (rb:Nat) (bs:List UInt8) (d:Int) (h:Rdr w rb bs d) (hr:rdM 4 bs=none):
    Calls Tryz.prog 72 #[.pointer (some ⟨rb,0,none⟩), .int .i64 4] w fun e w'=>e= .panicked [short] ∧RStep w w' rb∧∃bs',Rdr w' rb bs' d:=by
  have:=many4_any w rb bs d h
  rw [hr] at this
  exact this.mono fun e w' ⟨h1,h2,h3⟩=>⟨h2,h1,h3⟩
theorem many4_some (w:World) (rb:Nat) (bs:List UInt8) (d:Int) (h:Rdr w rb bs d) {n:Nat} {r:List UInt8} (hr:rdM 4 bs=some (n,r)):
    Calls Tryz.prog 72 #[.pointer (some ⟨rb,0,none⟩), .int .i64 4] w fun e w'=>e= .returned (.int .i64 n)∧Rdr w' rb r d∧RStep w w' rb:=by
  have:=many4_any w rb bs d h
  rw [hr] at this
  exact this.mono fun e w' ⟨h1,h2,h3,_⟩=>⟨h2,h3,h1⟩
set_option maxHeartbeats 2000000 in
set_option maxRecDepth 100000 in
theorem rv_deep (w:World) (rb:Nat) (bs:List UInt8) (d:Int) (h:Rdr w rb bs d) (hd:d=18):
    Calls Tryz.prog 44 #[.pointer (some ⟨rb,0,none⟩)] w (RVPost w rb d none):=by
  subst hd
  have hmf:∀(fn:Fn) (first cap:Array Value) (w:World),(Instr.makeFunc fn first cap).run Tryz.prog w= .ok (.func fn first cap) w:=fun _ _ _ _=>rfl
  have HB:=Lib.hid (fun t1 t2=>RB.start (d':=18+1) h t1 t2)
  have h1:=h.deep
  have h2:=h.f1
  have hlt:=h.lt
  clear h
  go_enter_defers Tryz.func44,Tryz.ntmps44
  go_wp2_with fail
  exact (HB.out _ _).panic (by omega) (by omega)
set_option maxHeartbeats 2000000 in
set_option maxRecDepth 100000 in
theorem rv_none (w:World) (rb:Nat) (bs:List UInt8) (d:Int) (h:Rdr w rb bs d) (hd0:0≤d) (hd:d≤17) (hr:rdN 1 bs=none):
    Calls Tryz.prog 44 #[.pointer (some ⟨rb,0,none⟩)] w (RVPost w rb d none):=by
  have hmf:∀(fn:Fn) (first cap:Array Value) (w:World),(Instr.makeFunc fn first cap).run Tryz.prog w= .ok (.func fn first cap) w:=fun _ _ _ _=>rfl
  have HB:=Lib.hid (fun t1 t2=>RB.start (d':=d+1) h t1 t2)
  have h1:=h.deep
  have h2:=h.f1
  have hlt:=h.lt
  clear h
  go_enter_defers Tryz.func44,Tryz.ntmps44
  go_wp2_with (go_at_call 70;(with_reducible refine (takeU81_none _ rb bs (d+1) (HB.out _ _).rdr hr).mono ?_);rintro e w1 ⟨rfl,rfl⟩)
  exact (HB.out _ _).panic (by omega) (by omega)
set_option maxHeartbeats 4000000 in
set_option maxRecDepth 100000 in
theorem rv_other (w:World) (rb:Nat) (bs:List UInt8) (d:Int) (h:Rdr w rb bs d) (hd0:0≤d) (hd:d≤17) {k:Nat} {r:List UInt8} (hr:rdN 1 bs=some (k,r)) (hk:5<k∨k=0):
    Calls Tryz.prog 44 #[.pointer (some ⟨rb,0,none⟩)] w (RVPost w rb d (some (.mk k 0 .empty [] [],r))):=by
  have hk1:k<256:=rdN_lt hr
  have hmf:∀(fn:Fn) (first cap:Array Value) (w:World),(Instr.makeFunc fn first cap).run Tryz.prog w= .ok (.func fn first cap) w:=fun _ _ _ _=>rfl
  have HB:=Lib.hid (fun t1 t2=>RB.start (d':=d+1) h t1 t2)
  have h1:=h.deep
  have h2:=h.f1
  have hlt:=h.lt
  clear h
  have f1:((k:Int)==1)=false:=by simp;omega
  have f2:((k:Int)==2)=false:=by simp;omega
  have f3:((k:Int)==3)=false:=by simp;omega
  have f4:((k:Int)==4)=false:=by simp;omega
  have f5:((k:Int)==5)=false:=by simp;omega
  clear hk
  go_enter_defers Tryz.func44,Tryz.ntmps44
  go_wp2_with (go_at_call 70;(with_reducible refine (takeU81_some _ rb bs (d+1) (HB.out _ _).rdr hr).mono ?_);rintro e w1 ⟨rfl,hR,hS⟩;have B1:=(HB.out _ _).next hS hR;have r0:=B1.res.c0;have r1:=B1.res.c1;have r2:=B1.res.c2;have r3:=B1.res.c3;have r4:=B1.res.c4;have g0:=B1.frz 0 (by omega);have g1:=B1.frz 1 (by omega);have g2:=B1.frz 2 (by omega);have g3:=B1.frz 3 (by omega);have g4:=B1.frz 4 (by omega);have hb0:=B1.box;have hsz:=B1.size;have zs1:w.heap.size+1<w1.heap.size:=(by omega);have zs0:w.heap.size<w1.heap.size:=(by omega);have hlt1:=B1.lt)
  have B2:=(B1.store ⟨k,0, .empty,none,0,0,none,0,0⟩)
  refine RB.leave (base:=w.heap.size) (B2.behind ((Below.refl _ _).alloc (Nat.le_refl _) _)) (isVal_leaf _ _ k 0 .empty (by omega) (by omega) (by decide) (by decide) (by decide)) (Nat.le_refl _) (by omega) (by omega) rfl
set_option maxHeartbeats 4000000 in
set_option maxRecDepth 100000 in
theorem rv_int1_none (w:World) (rb:Nat) (bs:List UInt8) (d:Int) (h:Rdr w rb bs d) (hd0:0≤d) (hd:d≤17) {k:Nat} {r:List UInt8} (hr:rdN 1 bs=some (k,r)) (hk:k=1) (hr2:rdN 8 r=none):
    Calls Tryz.prog 44 #[.pointer (some ⟨rb,0,none⟩)] w (RVPost w rb d none):=by
  have hmf:∀(fn:Fn) (first cap:Array Value) (w:World),(Instr.makeFunc fn first cap).run Tryz.prog w= .ok (.func fn first cap) w:=fun _ _ _ _=>rfl
  have HB:=Lib.hid (fun t1 t2=>RB.start (d':=d+1) h t1 t2)
  have h1:=h.deep
  have h2:=h.f1
  have hlt:=h.lt
  clear h
  have f1:((k:Int)==1)=true:=by subst hk;rfl
  have f2:((k:Int)==2)=false:=by subst hk;rfl
  have f3:((k:Int)==3)=false:=by subst hk;rfl
  have f4:((k:Int)==4)=false:=by subst hk;rfl
  have f5:((k:Int)==5)=false:=by subst hk;rfl
  clear hk
  go_enter_defers Tryz.func44,Tryz.ntmps44
  go_wp2_with (first|(go_at_call 70;(with_reducible refine (takeU81_some _ rb bs (d+1) (HB.out _ _).rdr hr).mono ?_);rintro e w1 ⟨rfl,hR,hS⟩;have B1:=(HB.out _ _).next hS hR;have r0:=B1.res.c0;have r1:=B1.res.c1;have r2:=B1.res.c2;have r3:=B1.res.c3;have r4:=B1.res.c4;have g0:=B1.frz 0 (by omega);have g1:=B1.frz 1 (by omega);have g2:=B1.frz 2 (by omega);have g3:=B1.frz 3 (by omega);have g4:=B1.frz 4 (by omega);have hb0:=B1.box;have hsz:=B1.size;have zs1:w.heap.size+1<w1.heap.size:=(by omega);have zs0:w.heap.size<w1.heap.size:=(by omega);have hlt1:=B1.lt)|(go_at_call 76;(with_reducible refine (takeI648_none _ rb r (d+1) (B1.behind ((Below.refl _ _).alloc (Nat.le_refl _) _)).rdr hr2).mono ?_);rintro e w2 ⟨rfl,rfl⟩))
  exact (B1.behind ((Below.refl _ _).alloc (Nat.le_refl _) _)).panic (by omega) (by omega)
set_option maxHeartbeats 4000000 in
set_option maxRecDepth 100000 in
theorem rv_int1_some (w:World) (rb:Nat) (bs:List UInt8) (d:Int) (h:Rdr w rb bs d) (hd0:0≤d) (hd:d≤17) {k:Nat} {r r2:List UInt8} {x:Nat} (hr:rdN 1 bs=some (k,r)) (hk:k=1) (hr2:rdN 8 r=some (x,r2)):
    Calls Tryz.prog 44 #[.pointer (some ⟨rb,0,none⟩)] w (RVPost w rb d (some (.mk k (wrap64 x) .empty [] [],r2))):=by
  have hk1:k<256:=rdN_lt hr
  have hmf:∀(fn:Fn) (first cap:Array Value) (w:World),(Instr.makeFunc fn first cap).run Tryz.prog w= .ok (.func fn first cap) w:=fun _ _ _ _=>rfl
  have HB:=Lib.hid (fun t1 t2=>RB.start (d':=d+1) h t1 t2)
  have h1:=h.deep
  have h2:=h.f1
  have hlt:=h.lt
  clear h
  have f1:((k:Int)==1)=true:=by subst hk;rfl
  have f2:((k:Int)==2)=false:=by subst hk;rfl
  have f3:((k:Int)==3)=false:=by subst hk;rfl
  have f4:((k:Int)==4)=false:=by subst hk;rfl
  have f5:((k:Int)==5)=false:=by subst hk;rfl
  clear hk
  go_enter_defers Tryz.func44,Tryz.ntmps44
  go_wp2_with (first|(go_at_call 70;(with_reducible refine (takeU81_some _ rb bs (d+1) (HB.out _ _).rdr hr).mono ?_);rintro e w1 ⟨rfl,hR,hS⟩;have B1:=(HB.out _ _).next hS hR;have r0:=B1.res.c0;have r1:=B1.res.c1;have r2:=B1.res.c2;have r3:=B1.res.c3;have r4:=B1.res.c4;have g0:=B1.frz 0 (by omega);have g1:=B1.frz 1 (by omega);have g2:=B1.frz 2 (by omega);have g3:=B1.frz 3 (by omega);have g4:=B1.frz 4 (by omega);have hb0:=B1.box;have hsz:=B1.size;have zs1:w.heap.size+1<w1.heap.size:=(by omega);have zs0:w.heap.size<w1.heap.size:=(by omega);have hlt1:=B1.lt)|(go_at_call 76;(with_reducible refine (takeI648_some _ rb r (d+1) (B1.behind ((Below.refl _ _).alloc (Nat.le_refl _) _)).rdr hr2).mono ?_);rintro e w2 ⟨rfl,hR2,hS2⟩;have B2:=(B1.behind ((Below.refl _ _).alloc (Nat.le_refl _) _)).next hS2 hR2;have VB2:=(VB.start w1 ⟨k,0, .empty,none,0,0,none,0,0⟩ 28).next hS2 (by omega);have q0:=VB2.at_.c0;have q1:=VB2.at_.c1;have q2:=VB2.at_.c2;have q3:=VB2.at_.c3;have q4:=VB2.at_.c4;have p0:=VB2.fr 1;have r0:=B2.res.c0;have r1:=B2.res.c1;have r2:=B2.res.c2;have r3:=B2.res.c3;have r4:=B2.res.c4;have g0:=B2.frz 0 (by omega);have g1:=B2.frz 1 (by omega);have g2:=B2.frz 2 (by omega);have g3:=B2.frz 3 (by omega);have g4:=B2.frz 4 (by omega);have hb0:=B2.box))
  have B3:=(B2.set (b:=w1.heap.size) (o:=1) (x:= .int .i64 (wrap64 x)) (by omega)).store ⟨k,wrap64 x, .empty,none,0,0,none,0,0⟩
  exact RB.leave (base:=w.heap.size) B3 (isVal_leaf _ _ k (wrap64 x) .empty (by omega) (by omega) (i64_lo _) (i64_hi _) (by decide)) (Nat.le_refl _) (by omega) (by omega) rfl
set_option maxHeartbeats 4000000 in
set_option maxRecDepth 100000 in
theorem rv_int2_none (w:World) (rb:Nat) (bs:List UInt8) (d:Int) (h:Rdr w rb bs d) (hd0:0≤d) (hd:d≤17) {k:Nat} {r:List UInt8} (hr:rdN 1 bs=some (k,r)) (hk:k=2) (hr2:rdN 8 r=none):
    Calls Tryz.prog 44 #[.pointer (some ⟨rb,0,none⟩)] w (RVPost w rb d none):=by
  have hmf:∀(fn:Fn) (first cap:Array Value) (w:World),(Instr.makeFunc fn first cap).run Tryz.prog w= .ok (.func fn first cap) w:=fun _ _ _ _=>rfl
  have HB:=Lib.hid (fun t1 t2=>RB.start (d':=d+1) h t1 t2)
  have h1:=h.deep
  have h2:=h.f1
  have hlt:=h.lt
  clear h
  have f1:((k:Int)==1)=false:=by subst hk;rfl
  have f2:((k:Int)==2)=true:=by subst hk;rfl
  have f3:((k:Int)==3)=false:=by subst hk;rfl
  have f4:((k:Int)==4)=false:=by subst hk;rfl
  have f5:((k:Int)==5)=false:=by subst hk;rfl
  clear hk
  go_enter_defers Tryz.func44,Tryz.ntmps44
  go_wp2_with (first|(go_at_call 70;(with_reducible refine (takeU81_some _ rb bs (d+1) (HB.out _ _).rdr hr).mono ?_);rintro e w1 ⟨rfl,hR,hS⟩;have B1:=(HB.out _ _).next hS hR;have r0:=B1.res.c0;have r1:=B1.res.c1;have r2:=B1.res.c2;have r3:=B1.res.c3;have r4:=B1.res.c4;have g0:=B1.frz 0 (by omega);have g1:=B1.frz 1 (by omega);have g2:=B1.frz 2 (by omega);have g3:=B1.frz 3 (by omega);have g4:=B1.frz 4 (by omega);have hb0:=B1.box;have hsz:=B1.size;have zs1:w.heap.size+1<w1.heap.size:=(by omega);have zs0:w.heap.size<w1.heap.size:=(by omega);have hlt1:=B1.lt)|(go_at_call 76;(with_reducible refine (takeI648_none _ rb r (d+1) (B1.behind ((Below.refl _ _).alloc (Nat.le_refl _) _)).rdr hr2).mono ?_);rintro e w2 ⟨rfl,rfl⟩))
  exact (B1.behind ((Below.refl _ _).alloc (Nat.le_refl _) _)).panic (by omega) (by omega)
set_option maxHeartbeats 4000000 in
set_option maxRecDepth 100000 in
theorem rv_int2_some (w:World) (rb:Nat) (bs:List UInt8) (d:Int) (h:Rdr w rb bs d) (hd0:0≤d) (hd:d≤17) {k:Nat} {r r2:List UInt8} {x:Nat} (hr:rdN 1 bs=some (k,r)) (hk:k=2) (hr2:rdN 8 r=some (x,r2)):
    Calls Tryz.prog 44 #[.pointer (some ⟨rb,0,none⟩)] w (RVPost w rb d (some (.mk k (wrap64 x) .empty [] [],r2))):=by
  have hk1:k<256:=rdN_lt hr
  have hmf:∀(fn:Fn) (first cap:Array Value) (w:World),(Instr.makeFunc fn first cap).run Tryz.prog w= .ok (.func fn first cap) w:=fun _ _ _ _=>rfl
  have HB:=Lib.hid (fun t1 t2=>RB.start (d':=d+1) h t1 t2)
  have h1:=h.deep
  have h2:=h.f1
  have hlt:=h.lt
  clear h
  have f1:((k:Int)==1)=false:=by subst hk;rfl
  have f2:((k:Int)==2)=true:=by subst hk;rfl
  have f3:((k:Int)==3)=false:=by subst hk;rfl
  have f4:((k:Int)==4)=false:=by subst hk;rfl
  have f5:((k:Int)==5)=false:=by subst hk;rfl
  clear hk
  go_enter_defers Tryz.func44,Tryz.ntmps44
  go_wp2_with (first|(go_at_call 70;(with_reducible refine (takeU81_some _ rb bs (d+1) (HB.out _ _).rdr hr).mono ?_);rintro e w1 ⟨rfl,hR,hS⟩;have B1:=(HB.out _ _).next hS hR;have r0:=B1.res.c0;have r1:=B1.res.c1;have r2:=B1.res.c2;have r3:=B1.res.c3;have r4:=B1.res.c4;have g0:=B1.frz 0 (by omega);have g1:=B1.frz 1 (by omega);have g2:=B1.frz 2 (by omega);have g3:=B1.frz 3 (by omega);have g4:=B1.frz 4 (by omega);have hb0:=B1.box;have hsz:=B1.size;have zs1:w.heap.size+1<w1.heap.size:=(by omega);have zs0:w.heap.size<w1.heap.size:=(by omega);have hlt1:=B1.lt)|(go_at_call 76;(with_reducible refine (takeI648_some _ rb r (d+1) (B1.behind ((Below.refl _ _).alloc (Nat.le_refl _) _)).rdr hr2).mono ?_);rintro e w2 ⟨rfl,hR2,hS2⟩;have B2:=(B1.behind ((Below.refl _ _).alloc (Nat.le_refl _) _)).next hS2 hR2;have VB2:=(VB.start w1 ⟨k,0, .empty,none,0,0,none,0,0⟩ 28).next hS2 (by omega);have q0:=VB2.at_.c0;have q1:=VB2.at_.c1;have q2:=VB2.at_.c2;have q3:=VB2.at_.c3;have q4:=VB2.at_.c4;have p0:=VB2.fr 1;have r0:=B2.res.c0;have r1:=B2.res.c1;have r2:=B2.res.c2;have r3:=B2.res.c3;have r4:=B2.res.c4;have g0:=B2.frz 0 (by omega);have g1:=B2.frz 1 (by omega);have g2:=B2.frz 2 (by omega);have g3:=B2.frz 3 (by omega);have g4:=B2.frz 4 (by omega);have hb0:=B2.box))
  have B3:=(B2.set (b:=w1.heap.size) (o:=1) (x:= .int .i64 (wrap64 x)) (by omega)).store ⟨k,wrap64 x, .empty,none,0,0,none,0,0⟩
  exact RB.leave (base:=w.heap.size) B3 (isVal_leaf _ _ k (wrap64 x) .empty (by omega) (by omega) (i64_lo _) (i64_hi _) (by decide)) (Nat.le_refl _) (by omega) (by omega) rfl
set_option maxHeartbeats 4000000 in
set_option maxRecDepth 100000 in
theorem rv_text_none (w:World) (rb:Nat) (bs:List UInt8) (d:Int) (h:Rdr w rb bs d) (hd0:0≤d) (hd:d≤17) {k:Nat} {r:List UInt8} (hr:rdN 1 bs=some (k,r)) (hk:k=3) (hr2:rdT r=none):
    Calls Tryz.prog 44 #[.pointer (some ⟨rb,0,none⟩)] w (RVPost w rb d none):=by
  have hmf:∀(fn:Fn) (first cap:Array Value) (w:World),(Instr.makeFunc fn first cap).run Tryz.prog w= .ok (.func fn first cap) w:=fun _ _ _ _=>rfl
  have HB:=Lib.hid (fun t1 t2=>RB.start (d':=d+1) h t1 t2)
  have h1:=h.deep
  have h2:=h.f1
  have hlt:=h.lt
  clear h
  have f1:((k:Int)==1)=false:=by subst hk;rfl
  have f2:((k:Int)==2)=false:=by subst hk;rfl
  have f3:((k:Int)==3)=true:=by subst hk;rfl
  have f4:((k:Int)==4)=false:=by subst hk;rfl
  have f5:((k:Int)==5)=false:=by subst hk;rfl
  clear hk
  go_enter_defers Tryz.func44,Tryz.ntmps44
  go_wp2_with (first|(go_at_call 70;(with_reducible refine (takeU81_some _ rb bs (d+1) (HB.out _ _).rdr hr).mono ?_);rintro e w1 ⟨rfl,hR,hS⟩;have B1:=(HB.out _ _).next hS hR;have r0:=B1.res.c0;have r1:=B1.res.c1;have r2:=B1.res.c2;have r3:=B1.res.c3;have r4:=B1.res.c4;have g0:=B1.frz 0 (by omega);have g1:=B1.frz 1 (by omega);have g2:=B1.frz 2 (by omega);have g3:=B1.frz 3 (by omega);have g4:=B1.frz 4 (by omega);have hb0:=B1.box;have hsz:=B1.size;have zs1:w.heap.size+1<w1.heap.size:=(by omega);have zs0:w.heap.size<w1.heap.size:=(by omega);have hlt1:=B1.lt)|(go_at_call 77;(with_reducible refine (rText_none _ rb r (d+1) (B1.behind ((Below.refl _ _).alloc (Nat.le_refl _) _)).rdr hr2).mono ?_);rintro e w2 ⟨rfl,hS2,bs2,hR2⟩))
  exact ((B1.behind ((Below.refl _ _).alloc (Nat.le_refl _) _)).next hS2 hR2).panic (by omega) (by omega)
set_option maxHeartbeats 4000000 in
set_option maxRecDepth 100000 in
theorem rv_text_some (w:World) (rb:Nat) (bs:List UInt8) (d:Int) (h:Rdr w rb bs d) (hd0:0≤d) (hd:d≤17) {k:Nat} {r r2:List UInt8} {x:ByteArray} (hr:rdN 1 bs=some (k,r)) (hk:k=3) (hr2:rdT r=some (x,r2)):
    Calls Tryz.prog 44 #[.pointer (some ⟨rb,0,none⟩)] w (RVPost w rb d (some (.mk k 0 x [] [],r2))):=by
  have hk1:k<256:=rdN_lt hr
  have hmf:∀(fn:Fn) (first cap:Array Value) (w:World),(Instr.makeFunc fn first cap).run Tryz.prog w= .ok (.func fn first cap) w:=fun _ _ _ _=>rfl
  have HB:=Lib.hid (fun t1 t2=>RB.start (d':=d+1) h t1 t2)
  have h1:=h.deep
  have h2:=h.f1
  have hlt:=h.lt
  clear h
  have f1:((k:Int)==1)=false:=by subst hk;rfl
  have f2:((k:Int)==2)=false:=by subst hk;rfl
  have f3:((k:Int)==3)=true:=by subst hk;rfl
  have f4:((k:Int)==4)=false:=by subst hk;rfl
  have f5:((k:Int)==5)=false:=by subst hk;rfl
  clear hk
  go_enter_defers Tryz.func44,Tryz.ntmps44
  go_wp2_with (first|(go_at_call 70;(with_reducible refine (takeU81_some _ rb bs (d+1) (HB.out _ _).rdr hr).mono ?_);rintro e w1 ⟨rfl,hR,hS⟩;have B1:=(HB.out _ _).next hS hR;have r0:=B1.res.c0;have r1:=B1.res.c1;have r2:=B1.res.c2;have r3:=B1.res.c3;have r4:=B1.res.c4;have g0:=B1.frz 0 (by omega);have g1:=B1.frz 1 (by omega);have g2:=B1.frz 2 (by omega);have g3:=B1.frz 3 (by omega);have g4:=B1.frz 4 (by omega);have hb0:=B1.box;have hsz:=B1.size;have zs1:w.heap.size+1<w1.heap.size:=(by omega);have zs0:w.heap.size<w1.heap.size:=(by omega);have hlt1:=B1.lt)|(go_at_call 77;(with_reducible refine (rText_some _ rb r (d+1) (B1.behind ((Below.refl _ _).alloc (Nat.le_refl _) _)).rdr hr2).mono ?_);rintro e w2 ⟨rfl,hR2,hS2⟩;have B2:=(B1.behind ((Below.refl _ _).alloc (Nat.le_refl _) _)).next hS2 hR2;have VB2:=(VB.start w1 ⟨k,0, .empty,none,0,0,none,0,0⟩ 28).next hS2 (by omega);have q0:=VB2.at_.c0;have q1:=VB2.at_.c1;have q2:=VB2.at_.c2;have q3:=VB2.at_.c3;have q4:=VB2.at_.c4;have p0:=VB2.fr 2;have r0:=B2.res.c0;have r1:=B2.res.c1;have r2:=B2.res.c2;have r3:=B2.res.c3;have r4:=B2.res.c4;have g0:=B2.frz 0 (by omega);have g1:=B2.frz 1 (by omega);have g2:=B2.frz 2 (by omega);have g3:=B2.frz 3 (by omega);have g4:=B2.frz 4 (by omega);have hb0:=B2.box))
  have B3:=(B2.set (b:=w1.heap.size) (o:=2) (x:= .string x) (by omega)).store ⟨k,0,x,none,0,0,none,0,0⟩
  exact RB.leave (base:=w.heap.size) B3 (isVal_leaf _ _ k 0 x (by omega) (by omega) (by decide) (by decide) (rdT_size hr2)) (Nat.le_refl _) (by omega) (by omega) rfl
set_option maxHeartbeats 4000000 in
set_option maxRecDepth 100000 in
theorem rv_list_none (w:World) (rb:Nat) (bs:List UInt8) (d:Int) (h:Rdr w rb bs d) (hd0:0≤d) (hd:d≤17) {k:Nat} {r:List UInt8} (hr:rdN 1 bs=some (k,r)) (hk:k=4) (hr2:rdM 4 r=none):
    Calls Tryz.prog 44 #[.pointer (some ⟨rb,0,none⟩)] w (RVPost w rb d none):=by
  have hmf:∀(fn:Fn) (first cap:Array Value) (w:World),(Instr.makeFunc fn first cap).run Tryz.prog w= .ok (.func fn first cap) w:=fun _ _ _ _=>rfl
  have HB:=Lib.hid (fun t1 t2=>RB.start (d':=d+1) h t1 t2)
  have h1:=h.deep
  have h2:=h.f1
  have hlt:=h.lt
  clear h
  have f1:((k:Int)==1)=false:=by subst hk;rfl
  have f2:((k:Int)==2)=false:=by subst hk;rfl
  have f3:((k:Int)==3)=false:=by subst hk;rfl
  have f4:((k:Int)==4)=true:=by subst hk;rfl
  have f5:((k:Int)==5)=false:=by subst hk;rfl
  clear hk
  go_enter_defers Tryz.func44,Tryz.ntmps44
  go_wp2_with (first|(go_at_call 70;(with_reducible refine (takeU81_some _ rb bs (d+1) (HB.out _ _).rdr hr).mono ?_);rintro e w1 ⟨rfl,hR,hS⟩;have B1:=(HB.out _ _).next hS hR;have r0:=B1.res.c0;have r1:=B1.res.c1;have r2:=B1.res.c2;have r3:=B1.res.c3;have r4:=B1.res.c4;have g0:=B1.frz 0 (by omega);have g1:=B1.frz 1 (by omega);have g2:=B1.frz 2 (by omega);have g3:=B1.frz 3 (by omega);have g4:=B1.frz 4 (by omega);have hb0:=B1.box;have hsz:=B1.size;have zs1:w.heap.size+1<w1.heap.size:=(by omega);have zs0:w.heap.size<w1.heap.size:=(by omega);have hlt1:=B1.lt)|(go_at_call 72;(with_reducible refine (many4_none _ rb r (d+1) (B1.behind ((Below.refl _ _).alloc (Nat.le_refl _) _)).rdr hr2).mono ?_);rintro e w2 ⟨rfl,hS2,bs2,hR2⟩))
  exact ((B1.behind ((Below.refl _ _).alloc (Nat.le_refl _) _)).next hS2 hR2).panic (by omega) (by omega)
set_option maxHeartbeats 4000000 in
set_option maxRecDepth 100000 in
theorem rv_obj_none (w:World) (rb:Nat) (bs:List UInt8) (d:Int) (h:Rdr w rb bs d) (hd0:0≤d) (hd:d≤17) {k:Nat} {r:List UInt8} (hr:rdN 1 bs=some (k,r)) (hk:k=5) (hr2:rdM 4 r=none):
    Calls Tryz.prog 44 #[.pointer (some ⟨rb,0,none⟩)] w (RVPost w rb d none):=by
  have hmf:∀(fn:Fn) (first cap:Array Value) (w:World),(Instr.makeFunc fn first cap).run Tryz.prog w= .ok (.func fn first cap) w:=fun _ _ _ _=>rfl
  have HB:=Lib.hid (fun t1 t2=>RB.start (d':=d+1) h t1 t2)
  have h1:=h.deep
  have h2:=h.f1
  have hlt:=h.lt
  clear h
  have f1:((k:Int)==1)=false:=by subst hk;rfl
  have f2:((k:Int)==2)=false:=by subst hk;rfl
  have f3:((k:Int)==3)=false:=by subst hk;rfl
  have f4:((k:Int)==4)=false:=by subst hk;rfl
  have f5:((k:Int)==5)=true:=by subst hk;rfl
  clear hk
  go_enter_defers Tryz.func44,Tryz.ntmps44
  go_wp2_with (first|(go_at_call 70;(with_reducible refine (takeU81_some _ rb bs (d+1) (HB.out _ _).rdr hr).mono ?_);rintro e w1 ⟨rfl,hR,hS⟩;have B1:=(HB.out _ _).next hS hR;have r0:=B1.res.c0;have r1:=B1.res.c1;have r2:=B1.res.c2;have r3:=B1.res.c3;have r4:=B1.res.c4;have g0:=B1.frz 0 (by omega);have g1:=B1.frz 1 (by omega);have g2:=B1.frz 2 (by omega);have g3:=B1.frz 3 (by omega);have g4:=B1.frz 4 (by omega);have hb0:=B1.box;have hsz:=B1.size;have zs1:w.heap.size+1<w1.heap.size:=(by omega);have zs0:w.heap.size<w1.heap.size:=(by omega);have hlt1:=B1.lt)|(go_at_call 72;(with_reducible refine (many4_none _ rb r (d+1) (B1.behind ((Below.refl _ _).alloc (Nat.le_refl _) _)).rdr hr2).mono ?_);rintro e w2 ⟨rfl,hS2,bs2,hR2⟩))
  exact ((B1.behind ((Below.refl _ _).alloc (Nat.le_refl _) _)).next hS2 hR2).panic (by omega) (by omega)
end Go.Proofs.YthceefjafklcmaaGreatDoor
namespace Go.Proofs.YthceefjafklcmaaGreatDoor
open Go.RowKit
theorem grown_below {w w':World} {row:Option Nat} {B:Nat} (hg:w.grownBy w' row) (hr:∀k,row=some k→B≤k) (hB:B≤w.heap.size):Below B w w':=
  ⟨hg.os,hg.tape,hg.output,hg.size,fun k hk=>hg.block k (by omega) (fun e=>by have:=hr k e.symm;omega)⟩
theorem Rdr.below {w w':World} {rb B:Nat} {bs:List UInt8} {d:Int} (h:Rdr w rb bs d) (hb:Below B w w') (hB:rb<B):Rdr w' rb bs d:=by
  obtain ⟨⟨a,n,c,h0,hI⟩,h1,h2,h3⟩:=h
  exact ⟨⟨a,n,c,keep_cell hb h0 hB,hI.keep (hb.mono (Nat.le_of_lt hB))⟩,keep_cell hb h1 hB,(hb.frozen hB).trans h2,(hb.frozen hB).trans h3⟩
theorem RB.below {w W W':World} {rb:Nat} {bs:List UInt8} {d:Int} {c:VC} (h:RB w W rb bs d c) (hb:Below (w.heap.size+2) W W'):RB w W' rb bs d c:=by
  have hlt:=h.lt
  have hs:RStep w W' rb:=⟨hb.os.trans h.st.os,hb.tape.trans h.st.tape,hb.output.trans h.st.output,Nat.le_trans h.st.size hb.size,fun k hk hr=>(hb.block k (by omega)).trans (h.st.block k hk hr)⟩
  exact ⟨h.rdr.below hb (by omega),hs,keep_cell hb h.box (by omega),h.res.keep hb (by omega),fun j hj=>(hb.frozen (p:=⟨w.heap.size+1,j,none⟩) (show w.heap.size+1<w.heap.size+2 by omega)).trans (h.frz j hj),hlt,Nat.le_trans h.size hb.size⟩
theorem VB.keep {W W':World} {vb B:Nat} {c:VC} (h:VB W vb c) (hb:Below B W W') (hB:vb<B):VB W' vb c:=
  ⟨h.at_.keep hb hB,fun j=>(hb.frozen hB).trans (h.fr j)⟩
theorem VB.setL {W:World} {vb:Nat} {c:VC} (h:VB W vb c) (a:Option Addr) (n cp:Nat):VB (W.setCell ⟨vb,3,none⟩ (.slice a n cp)) vb ⟨c.k,c.n,c.s,a,n,cp,c.oa,c.ol,c.oc⟩:=by
  have g0:=h.at_.c0
  have g1:W.cell? ⟨vb,1,none⟩=_:=h.at_.c1
  have g2:W.cell? ⟨vb,2,none⟩=_:=h.at_.c2
  have g3:W.cell? ⟨vb,3,none⟩=_:=h.at_.c3
  have g4:W.cell? ⟨vb,4,none⟩=_:=h.at_.c4
  refine ⟨?_,fun j=>by simpa using h.fr j⟩
  constructor<;>simp [go_sem,g0,g1,g2,g3,g4]
theorem VB.setO {W:World} {vb:Nat} {c:VC} (h:VB W vb c) (a:Option Addr) (n cp:Nat):VB (W.setCell ⟨vb,4,none⟩ (.slice a n cp)) vb ⟨c.k,c.n,c.s,c.la,c.ll,c.lc,a,n,cp⟩:=by
  have g0:=h.at_.c0
  have g1:W.cell? ⟨vb,1,none⟩=_:=h.at_.c1
  have g2:W.cell? ⟨vb,2,none⟩=_:=h.at_.c2
  have g3:W.cell? ⟨vb,3,none⟩=_:=h.at_.c3
  have g4:W.cell? ⟨vb,4,none⟩=_:=h.at_.c4
  refine ⟨?_,fun j=>by simpa using h.fr j⟩
  constructor<;>simp [go_sem,g0,g1,g2,g3,g4]
theorem drew_below (w:World):Below w.heap.size w w.drew:=(Below.refl _ _).drew
structure LI (w wr:World) (rb vb:Nat) (d:Int) (k:Nat) (kd:Nat) (q:List UInt8) (j:Nat) (a:Option Addr) (m c:Nat) (xs:List V) (cs:List VC) (rj:List UInt8):Prop where
  rd:rdL (fun x=>rdV k x) j q=some (xs,rj)
  len:xs.length=j
  cen:cs.length=j
  box:RB w wr rb rj (d+1) vzero
  vb_:VB wr vb ⟨kd,0, .empty,a,m,c,none,0,0⟩
  row:RowV wr (vb+1) (.slice a m c) xs cs
  lo:w.heap.size+2≤vb
theorem LI.round {w wr w4 w5:World} {rb vb:Nat} {d:Int} {k kd:Nat} {q:List UInt8} {j:Nat} {a:Option Addr} {m c:Nat} {xs:List V} {cs:List VC} {rj r2:List UInt8} {x:V} {cx:VC} {g cap:Nat} {t:TypeId}
    (h:LI w wr rb vb d k kd q j a m c xs cs rj) (hx:rdV k rj=some (x,r2)) (hS:RStep wr.drew w4 rb) (hI:IsVal (only (fun b=>wr.drew.heap.size≤b) w4) w4.heap.size x cx) (hR:Rdr w4 rb r2 (d+1))
    (hown:w5.ownsRow (vb+1) 28 5 (.slice (some ⟨g,0,none⟩) (j+1) cap) (j+1) (cs.flatMap vcells++vcells cx)) (hg:(w4.alloc (.cells #[.int .u8 cx.k, .int .i64 cx.n, .string cx.s, .slice cx.la cx.ll cx.lc, .slice cx.oa cx.ol cx.oc] t)).grownBy w5 (Value.slice a m c).ownBlock)
    (hat:(Value.slice a m c).ownBlock=some g∨g=w4.heap.size+1):
    LI w (w5.setCell ⟨vb,3,none⟩ (.slice (some ⟨g,0,none⟩) (j+1) cap)) rb vb d k kd q (j+1) (some ⟨g,0,none⟩) (j+1) cap (xs++ [x]) (cs++ [cx]) r2:=by
  have hlo:=h.lo
  have hlt:=h.box.lt
  have hdz:wr.drew.heap.size=wr.heap.size:=rfl
  have hb1:=drew_below wr
  have hrow:=(h.row.later (PV.closed xs cs) (.of_below rb hb1) (by omega)).later (PV.closed xs cs) hS (by omega)
  have hrlt:∀b,(Value.slice a m c).ownBlock=some b→vb+1≤b∧b<wr.heap.size:=h.row.lt
  have hba:Below w4.heap.size w4 (w4.alloc (.cells #[.int .u8 cx.k, .int .i64 cx.n, .string cx.s, .slice cx.la cx.ll cx.lc, .slice cx.oa cx.ol cx.oc] t)):=(Below.refl _ _).alloc (Nat.le_refl _) _
  have hsz4:wr.heap.size≤w4.heap.size:=hS.size
  have hvlt:=h.vb_.lt
  have hgb:Below (vb+1) (w4.alloc (.cells #[.int .u8 cx.k, .int .i64 cx.n, .string cx.s, .slice cx.la cx.ll cx.lc, .slice cx.oa cx.ol cx.oc] t)) w5:=grown_below hg (fun b hb=>(hrlt b hb).1) (by simp;omega)
  have hb45:Below (vb+1) w4 w5:=(hba.mono (by omega)).trans hgb
  obtain ⟨s1,s2⟩:=PV.snoc (l:=xs) (cs:=cs) (by rw [h.len,h.cen]) x cx
  have hnew:PV (xs++ [x]) (cs++ [cx]) (only (Free (vb+1) (.slice a m c)) w4) w4.heap.size xs.length:=s1 _ _ (hI.sub (shows_step fun b hb _=>⟨⟨by rw [hdz] at hb;omega,fun e=>by have:=(hrlt b e.symm).2;rw [hdz] at hb;omega⟩,rfl⟩))
  have hpush:=Row.push (PV.closed (xs++ [x]) (cs++ [cx])) hrow hba hg (u':= .slice (some ⟨g,0,none⟩) (j+1) cap) (news:=vcells cx) (by rw [h.len];exact hown) (by
    rcases hat with e|e
    · left;rw [e];rfl
    · right;intro b hb;have:g=b:=by simpa [Value.ownBlock] using hb
      omega) hnew s2
  have hbox:=((h.box.behind hb1).next hS hR).below (hb45.mono (by omega))
  have hvb:=((h.vb_.keep hb1 hvlt).next hS (by omega)).keep hb45 (by omega)
  refine ⟨?_,by simp [h.len],by simp [h.cen],hbox.set (by omega),hvb.setL _ _ _, ?_,hlo⟩
  · rw [rdL,h.rd];simp only [Option.bind_some,hx]
  · have hr2:RowV w5 (vb+1) (.slice (some ⟨g,0,none⟩) (j+1) cap) (xs++ [x]) (cs++ [cx]):=by
      show Row _ _ _ _ _ _ _ _
      rw [flat_snoc,List.length_append,List.length_singleton]
      exact hpush
    exact hr2.set (PV.closed _ _) (by omega)
def PanicP (D:List Deferred) (Pw:World→Prop) (Q:Exit→Act→World→Prop):Exit→Act→World→Prop
  | .panic c,a,w=>a.defers=D∧c= [short] ∧Pw w
  |e,a,w=>Q e a w
theorem wp_region_panicP {P:Program} {id:Nat} {ops:Array Oper} {b:Bool} {Q:Exit→Act→World→Prop} {a:Act} {w:World} (D:List Deferred) (Pw:World→Prop) (hq:∀a w,a.defers=D→Pw w→Q (.panic [short]) a w)
    (h:(Code.region id ops b).wp P (PanicP D Pw Q) a w):(Code.region id ops b).wp P Q a w:=
  Code.wp_mono (fun e a w h=>by
    cases e<;>first|exact h|(obtain ⟨h1,h2,h3⟩:=h;subst h2;exact hq _ _ h1 h3)) h
theorem PanicP.normal {D:List Deferred} {Pw:World→Prop} {Q:Exit→Act→World→Prop} {a:Act} {w:World} (h:Q .normal a w):PanicP D Pw Q .normal a w:=h
theorem RStep.self {W:World} {b o:Nat} {x:Value} :RStep W (W.setCell ⟨b,o,none⟩ x) b:=⟨rfl,rfl,rfl,by simp,fun k hk hr=>heap_setCell_other _ _ _ _ hr⟩
theorem isVal_far {W W':World} {b base:Nat} {x:V} {c:VC} (h:IsVal (only (fun k=>base≤k) W) W.heap.size x c) (s:RStep W W' b) (hb:b<base):IsVal (only (fun k=>base≤k) W') W'.heap.size x c:=
  (h.sub (shows_step fun k hk hl=>⟨hk,s.block k hl (by omega)⟩)).more s.size
theorem leave_stored {w W:World} {rb base:Nat} {r:List UInt8} {d:Int} {c0:VC} {x:V} {tmps:Array Value} (h:RB w W rb r (d+1) c0) (c:VC) (hx:IsVal (only (fun b=>base≤b) W) W.heap.size x c) (hb:w.heap.size+1<base) (hd:0≤d) (hd2:d≤100) (ht:tmps[2]? =some (.pointer (some ⟨w.heap.size+1,0,none⟩))):
    Leaves Tryz.prog Tryz.f44 tmps (RVPost w rb d (some (x,r))) [{ target:= .fn (.func 75) #[.pointer (some ⟨w.heap.size,0,none⟩)],args:= #[] }] .returning
      (((((W.setCell ⟨w.heap.size+1,0,none⟩ (.int .u8 c.k)).setCell ⟨w.heap.size+1,1,none⟩ (.int .i64 c.n)).setCell ⟨w.heap.size+1,2,none⟩ (.string c.s)).setCell ⟨w.heap.size+1,3,none⟩ (.slice c.la c.ll c.lc)).setCell ⟨w.heap.size+1,4,none⟩ (.slice c.oa c.ol c.oc)):=
  (h.store c).leave (base:=base) (isVal_far hx ((((RStep.self.trans RStep.self).trans RStep.self).trans RStep.self).trans RStep.self) hb) (by omega) hd hd2 ht
end Go.Proofs.YthceefjafklcmaaGreatDoor
