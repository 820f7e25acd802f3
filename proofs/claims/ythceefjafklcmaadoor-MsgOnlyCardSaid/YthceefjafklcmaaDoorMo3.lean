/-
  Contracts of the functions that the law reaches: reader.value, but for lists and objects. reader.value's loops: what stands at the head of a round. msg.lay: a number is laid behind bytes. reader.step; boxes of cells while a reader runs. reader.comp: what stands in memory while it runs. What is read is as long as it is written, and weighs no more. No program in sight. Entries: what is read is as long as it is written. No program in sight. whole: its deferred calls. reader.entry: what stands in memory while it runs. whole: its own blocks. Bytes behind bytes in a row of their own: of a slice, of a text. reader.value's loop over an object's fields: what stands at the head of a round. reader.value: a list. reader.value: an object.
-/
import Derived.Test.YthceefjafklcmaaDoorMo2
import Derived.Stop.Asserts
import Derived.Lib.AppendStr
namespace Go.Proofs.YthceefjafklcmaaDoor
open Go.RowKit
theorem i64_lo (x:Int): -9223372036854775808≤wrap64 x:=by unfold wrap64;omega
theorem i64_hi (x:Int):wrap64 x≤9223372036854775807:=by unfold wrap64;omega
theorem rdM_some {k n:Nat} {bs r:List UInt8} (hr:rdM k bs=some (n,r)):rdN k bs=some (n,r)∧n≤r.length:=by
  unfold rdM at hr
  cases h:rdN k bs with
  |none=>rw [h] at hr;cases hr
  | some p=>
    rw [h] at hr
    simp only [Option.bind_some] at hr
    split at hr
    · injection hr with hr;subst hr;exact ⟨rfl,by assumption⟩
    · cases hr
theorem rdT_some {bs r:List UInt8} {s:ByteArray} (hr:rdT bs=some (s,r)):∃n q,rdM 4 bs=some (n,q)∧s=⟨(q.take n).toArray⟩∧r=q.drop n:=by
  unfold rdT at hr
  cases h:rdM 4 bs with
  |none=>rw [h] at hr;cases hr
  | some p=>
    obtain ⟨n,q⟩:=p
    rw [h] at hr
    simp only [Option.bind_some] at hr
    injection hr with hr;injection hr with h1 h2
    exact ⟨n,q,rfl,h1.symm,h2.symm⟩
theorem rdT_size {bs r:List UInt8} {s:ByteArray} (hr:rdT bs=some (s,r)):s.size≤140737488355328:=by
  obtain ⟨n,q,h1,rfl,rfl⟩:=rdT_some hr
  have h2:=rdN_lt (rdM_some h1).1
  have h3:(⟨(q.take n).toArray⟩:ByteArray).size=(q.take n).length:=by simp [ByteArray.size]
  rw [h3,List.length_take]
  omega
theorem rText_none (w:World) (rb:Nat) (bs:List UInt8) (d:Int) (h:Rdr w rb bs d) (hr:rdT bs=none):
    Calls Tryd.prog 71 #[.pointer (some ⟨rb,0,none⟩)] w fun e w'=>e= .panicked [short] ∧RStep w w' rb∧∃bs',Rdr w' rb bs' d:=by
  have:=rText_any w rb bs d h
  rw [hr] at this
  exact this.mono fun e w' ⟨h1,h2,h3⟩=>⟨h2,h1,h3⟩
theorem rText_some (w:World) (rb:Nat) (bs:List UInt8) (d:Int) (h:Rdr w rb bs d) {s:ByteArray} {r:List UInt8} (hr:rdT bs=some (s,r)):
    Calls Tryd.prog 71 #[.pointer (some ⟨rb,0,none⟩)] w fun e w'=>e= .returned (.string s)∧Rdr w' rb r d∧RStep w w' rb:=by
  have:=rText_any w rb bs d h
  rw [hr] at this
  exact this.mono fun e w' ⟨h1,h2,h3⟩=>⟨h2,h3,h1⟩
theorem many1_none (w:World) (rb:Nat) (bs:List UInt8) (d:Int) (h:Rdr w rb bs d) (hr:rdM 1 bs=none):
    Calls Tryd.prog 66 #[.pointer (some ⟨rb,0,none⟩), .int .i64 1] w fun e w'=>e= .panicked [short] ∧RStep w w' rb∧∃bs',Rdr w' rb bs' d:=by
  have:=many1_any w rb bs d h
  rw [hr] at this
  exact this.mono fun e w' ⟨h1,h2,h3⟩=>⟨h2,h1,h3⟩
theorem many1_some (w:World) (rb:Nat) (bs:List UInt8) (d:Int) (h:Rdr w rb bs d) {n:Nat} {r:List UInt8} (hr:rdM 1 bs=some (n,r)):
    Calls Tryd.prog 66 #[.pointer (some ⟨rb,0,none⟩), .int .i64 1] w fun e w'=>e= .returned (.int .i64 n)∧Rdr w' rb r d∧RStep w w' rb:=by
  have:=many1_any w rb bs d h
  rw [hr] at this
  exact this.mono fun e w' ⟨h1,h2,h3,_⟩=>⟨h2,h3,h1⟩
theorem many4_none (w:World) (rb:Nat) (bs:List UInt8) (d:Int) (h:Rdr w rb bs d) (hr:rdM 4 bs=none):
    Calls Tryd.prog 66 #[.pointer (some ⟨rb,0,none⟩), .int .i64 4] w fun e w'=>e= .panicked [short] ∧RStep w w' rb∧∃bs',Rdr w' rb bs' d:=by
  have:=many4_any w rb bs d h
  rw [hr] at this
  exact this.mono fun e w' ⟨h1,h2,h3⟩=>⟨h2,h1,h3⟩
theorem many4_some (w:World) (rb:Nat) (bs:List UInt8) (d:Int) (h:Rdr w rb bs d) {n:Nat} {r:List UInt8} (hr:rdM 4 bs=some (n,r)):
    Calls Tryd.prog 66 #[.pointer (some ⟨rb,0,none⟩), .int .i64 4] w fun e w'=>e= .returned (.int .i64 n)∧Rdr w' rb r d∧RStep w w' rb:=by
  have:=many4_any w rb bs d h
  rw [hr] at this
  exact this.mono fun e w' ⟨h1,h2,h3,_⟩=>⟨h2,h3,h1⟩
set_option maxHeartbeats 2000000 in
set_option maxRecDepth 100000 in
theorem rv_deep (w:World) (rb:Nat) (bs:List UInt8) (d:Int) (h:Rdr w rb bs d) (hd:d=18):
    Calls Tryd.prog 40 #[.pointer (some ⟨rb,0,none⟩)] w (RVPost w rb d none):=by
  subst hd
  have hmf:∀(fn:Fn) (first cap:Array Value) (w:World),(Instr.makeFunc fn first cap).run Tryd.prog w= .ok (.func fn first cap) w:=fun _ _ _ _=>rfl
  have HB:=Lib.hid (fun t1 t2=>RB.start (d':=18+1) h t1 t2)
  have h1:=h.deep
  have h2:=h.f1
  have hlt:=h.lt
  clear h
  go_enter_defers Tryd.func40,Tryd.ntmps40
  go_wp2_with fail
  exact (HB.out _ _).panic (by omega) (by omega)
set_option maxHeartbeats 2000000 in
set_option maxRecDepth 100000 in
theorem rv_none (w:World) (rb:Nat) (bs:List UInt8) (d:Int) (h:Rdr w rb bs d) (hd0:0≤d) (hd:d≤17) (hr:rdN 1 bs=none):
    Calls Tryd.prog 40 #[.pointer (some ⟨rb,0,none⟩)] w (RVPost w rb d none):=by
  have hmf:∀(fn:Fn) (first cap:Array Value) (w:World),(Instr.makeFunc fn first cap).run Tryd.prog w= .ok (.func fn first cap) w:=fun _ _ _ _=>rfl
  have HB:=Lib.hid (fun t1 t2=>RB.start (d':=d+1) h t1 t2)
  have h1:=h.deep
  have h2:=h.f1
  have hlt:=h.lt
  clear h
  go_enter_defers Tryd.func40,Tryd.ntmps40
  go_wp2_with (go_at_call 64;(with_reducible refine (takeU81_none _ rb bs (d+1) (HB.out _ _).rdr hr).mono ?_);rintro e w1 ⟨rfl,rfl⟩)
  exact (HB.out _ _).panic (by omega) (by omega)
set_option maxHeartbeats 4000000 in
set_option maxRecDepth 100000 in
theorem rv_other (w:World) (rb:Nat) (bs:List UInt8) (d:Int) (h:Rdr w rb bs d) (hd0:0≤d) (hd:d≤17) {k:Nat} {r:List UInt8} (hr:rdN 1 bs=some (k,r)) (hk:5<k∨k=0):
    Calls Tryd.prog 40 #[.pointer (some ⟨rb,0,none⟩)] w (RVPost w rb d (some (.mk k 0 .empty [] [],r))):=by
  have hk1:k<256:=rdN_lt hr
  have hmf:∀(fn:Fn) (first cap:Array Value) (w:World),(Instr.makeFunc fn first cap).run Tryd.prog w= .ok (.func fn first cap) w:=fun _ _ _ _=>rfl
  have HB:=Lib.hid (fun t1 t2=>RB.start (d':=d+1) h t1 t2)
  have h1:=h.deep
  have h2:=h.f1
  have hlt:=h.lt
  clear h
  have f1:((k:Int)==1)=false:=by simp;omega
  have f2:((k:Int)==2)=false:=by simp;omega
  have f3:((k:Int)==3)=false:=by simp;omega
  have f4:((k:Int)==4)=false:=by simp;omega
  have f5:((k:Int)==5)=false:=by simp;omega
  clear hk
  go_enter_defers Tryd.func40,Tryd.ntmps40
  go_wp2_with (go_at_call 64;(with_reducible refine (takeU81_some _ rb bs (d+1) (HB.out _ _).rdr hr).mono ?_);rintro e w1 ⟨rfl,hR,hS⟩;have B1:=(HB.out _ _).next hS hR;have r0:=B1.res.c0;have r1:=B1.res.c1;have r2:=B1.res.c2;have r3:=B1.res.c3;have r4:=B1.res.c4;have g0:=B1.frz 0 (by omega);have g1:=B1.frz 1 (by omega);have g2:=B1.frz 2 (by omega);have g3:=B1.frz 3 (by omega);have g4:=B1.frz 4 (by omega);have hb0:=B1.box;have hsz:=B1.size;have zs1:w.heap.size+1<w1.heap.size:=(by omega);have zs0:w.heap.size<w1.heap.size:=(by omega);have hlt1:=B1.lt)
  have B2:=(B1.store ⟨k,0, .empty,none,0,0,none,0,0⟩)
  refine RB.leave (base:=w.heap.size) (B2.behind ((Below.refl _ _).alloc (Nat.le_refl _) _)) (isVal_leaf _ _ k 0 .empty (by omega) (by omega) (by decide) (by decide) (by decide)) (Nat.le_refl _) (by omega) (by omega) rfl
set_option maxHeartbeats 4000000 in
set_option maxRecDepth 100000 in
theorem rv_int1_none (w:World) (rb:Nat) (bs:List UInt8) (d:Int) (h:Rdr w rb bs d) (hd0:0≤d) (hd:d≤17) {k:Nat} {r:List UInt8} (hr:rdN 1 bs=some (k,r)) (hk:k=1) (hr2:rdN 8 r=none):
    Calls Tryd.prog 40 #[.pointer (some ⟨rb,0,none⟩)] w (RVPost w rb d none):=by
  have hmf:∀(fn:Fn) (first cap:Array Value) (w:World),(Instr.makeFunc fn first cap).run Tryd.prog w= .ok (.func fn first cap) w:=fun _ _ _ _=>rfl
  have HB:=Lib.hid (fun t1 t2=>RB.start (d':=d+1) h t1 t2)
  have h1:=h.deep
  have h2:=h.f1
  have hlt:=h.lt
  clear h
  have f1:((k:Int)==1)=true:=by subst hk;rfl
  have f2:((k:Int)==2)=false:=by subst hk;rfl
  have f3:((k:Int)==3)=false:=by subst hk;rfl
  have f4:((k:Int)==4)=false:=by subst hk;rfl
  have f5:((k:Int)==5)=false:=by subst hk;rfl
  clear hk
  go_enter_defers Tryd.func40,Tryd.ntmps40
  go_wp2_with (first|(go_at_call 64;(with_reducible refine (takeU81_some _ rb bs (d+1) (HB.out _ _).rdr hr).mono ?_);rintro e w1 ⟨rfl,hR,hS⟩;have B1:=(HB.out _ _).next hS hR;have r0:=B1.res.c0;have r1:=B1.res.c1;have r2:=B1.res.c2;have r3:=B1.res.c3;have r4:=B1.res.c4;have g0:=B1.frz 0 (by omega);have g1:=B1.frz 1 (by omega);have g2:=B1.frz 2 (by omega);have g3:=B1.frz 3 (by omega);have g4:=B1.frz 4 (by omega);have hb0:=B1.box;have hsz:=B1.size;have zs1:w.heap.size+1<w1.heap.size:=(by omega);have zs0:w.heap.size<w1.heap.size:=(by omega);have hlt1:=B1.lt)|(go_at_call 70;(with_reducible refine (takeI648_none _ rb r (d+1) (B1.behind ((Below.refl _ _).alloc (Nat.le_refl _) _)).rdr hr2).mono ?_);rintro e w2 ⟨rfl,rfl⟩))
  exact (B1.behind ((Below.refl _ _).alloc (Nat.le_refl _) _)).panic (by omega) (by omega)
set_option maxHeartbeats 4000000 in
set_option maxRecDepth 100000 in
theorem rv_int1_some (w:World) (rb:Nat) (bs:List UInt8) (d:Int) (h:Rdr w rb bs d) (hd0:0≤d) (hd:d≤17) {k:Nat} {r r2:List UInt8} {x:Nat} (hr:rdN 1 bs=some (k,r)) (hk:k=1) (hr2:rdN 8 r=some (x,r2)):
    Calls Tryd.prog 40 #[.pointer (some ⟨rb,0,none⟩)] w (RVPost w rb d (some (.mk k (wrap64 x) .empty [] [],r2))):=by
  have hk1:k<256:=rdN_lt hr
  have hmf:∀(fn:Fn) (first cap:Array Value) (w:World),(Instr.makeFunc fn first cap).run Tryd.prog w= .ok (.func fn first cap) w:=fun _ _ _ _=>rfl
  have HB:=Lib.hid (fun t1 t2=>RB.start (d':=d+1) h t1 t2)
  have h1:=h.deep
  have h2:=h.f1
  have hlt:=h.lt
  clear h
  have f1:((k:Int)==1)=true:=by subst hk;rfl
  have f2:((k:Int)==2)=false:=by subst hk;rfl
  have f3:((k:Int)==3)=false:=by subst hk;rfl
  have f4:((k:Int)==4)=false:=by subst hk;rfl
  have f5:((k:Int)==5)=false:=by subst hk;rfl
  clear hk
  go_enter_defers Tryd.func40,Tryd.ntmps40
  go_wp2_with (first|(go_at_call 64;(with_reducible refine (takeU81_some _ rb bs (d+1) (HB.out _ _).rdr hr).mono ?_);rintro e w1 ⟨rfl,hR,hS⟩;have B1:=(HB.out _ _).next hS hR;have r0:=B1.res.c0;have r1:=B1.res.c1;have r2:=B1.res.c2;have r3:=B1.res.c3;have r4:=B1.res.c4;have g0:=B1.frz 0 (by omega);have g1:=B1.frz 1 (by omega);have g2:=B1.frz 2 (by omega);have g3:=B1.frz 3 (by omega);have g4:=B1.frz 4 (by omega);have hb0:=B1.box;have hsz:=B1.size;have zs1:w.heap.size+1<w1.heap.size:=(by omega);have zs0:w.heap.size<w1.heap.size:=(by omega);have hlt1:=B1.lt)|(go_at_call 70;(with_reducible refine (takeI648_some _ rb r (d+1) (B1.behind ((Below.refl _ _).alloc (Nat.le_refl _) _)).rdr hr2).mono ?_);rintro e w2 ⟨rfl,hR2,hS2⟩;have B2:=(B1.behind ((Below.refl _ _).alloc (Nat.le_refl _) _)).next hS2 hR2;have VB2:=(VB.start w1 ⟨k,0, .empty,none,0,0,none,0,0⟩ 28).next hS2 (by omega);have q0:=VB2.at_.c0;have q1:=VB2.at_.c1;have q2:=VB2.at_.c2;have q3:=VB2.at_.c3;have q4:=VB2.at_.c4;have p0:=VB2.fr 1;have r0:=B2.res.c0;have r1:=B2.res.c1;have r2:=B2.res.c2;have r3:=B2.res.c3;have r4:=B2.res.c4;have g0:=B2.frz 0 (by omega);have g1:=B2.frz 1 (by omega);have g2:=B2.frz 2 (by omega);have g3:=B2.frz 3 (by omega);have g4:=B2.frz 4 (by omega);have hb0:=B2.box))
  have B3:=(B2.set (b:=w1.heap.size) (o:=1) (x:= .int .i64 (wrap64 x)) (by omega)).store ⟨k,wrap64 x, .empty,none,0,0,none,0,0⟩
  exact RB.leave (base:=w.heap.size) B3 (isVal_leaf _ _ k (wrap64 x) .empty (by omega) (by omega) (i64_lo _) (i64_hi _) (by decide)) (Nat.le_refl _) (by omega) (by omega) rfl
set_option maxHeartbeats 4000000 in
set_option maxRecDepth 100000 in
theorem rv_int2_none (w:World) (rb:Nat) (bs:List UInt8) (d:Int) (h:Rdr w rb bs d) (hd0:0≤d) (hd:d≤17) {k:Nat} {r:List UInt8} (hr:rdN 1 bs=some (k,r)) (hk:k=2) (hr2:rdN 8 r=none):
    Calls Tryd.prog 40 #[.pointer (some ⟨rb,0,none⟩)] w (RVPost w rb d none):=by
  have hmf:∀(fn:Fn) (first cap:Array Value) (w:World),(Instr.makeFunc fn first cap).run Tryd.prog w= .ok (.func fn first cap) w:=fun _ _ _ _=>rfl
  have HB:=Lib.hid (fun t1 t2=>RB.start (d':=d+1) h t1 t2)
  have h1:=h.deep
  have h2:=h.f1
  have hlt:=h.lt
  clear h
  have f1:((k:Int)==1)=false:=by subst hk;rfl
  have f2:((k:Int)==2)=true:=by subst hk;rfl
  have f3:((k:Int)==3)=false:=by subst hk;rfl
  have f4:((k:Int)==4)=false:=by subst hk;rfl
  have f5:((k:Int)==5)=false:=by subst hk;rfl
  clear hk
  go_enter_defers Tryd.func40,Tryd.ntmps40
  go_wp2_with (first|(go_at_call 64;(with_reducible refine (takeU81_some _ rb bs (d+1) (HB.out _ _).rdr hr).mono ?_);rintro e w1 ⟨rfl,hR,hS⟩;have B1:=(HB.out _ _).next hS hR;have r0:=B1.res.c0;have r1:=B1.res.c1;have r2:=B1.res.c2;have r3:=B1.res.c3;have r4:=B1.res.c4;have g0:=B1.frz 0 (by omega);have g1:=B1.frz 1 (by omega);have g2:=B1.frz 2 (by omega);have g3:=B1.frz 3 (by omega);have g4:=B1.frz 4 (by omega);have hb0:=B1.box;have hsz:=B1.size;have zs1:w.heap.size+1<w1.heap.size:=(by omega);have zs0:w.heap.size<w1.heap.size:=(by omega);have hlt1:=B1.lt)|(go_at_call 70;(with_reducible refine (takeI648_none _ rb r (d+1) (B1.behind ((Below.refl _ _).alloc (Nat.le_refl _) _)).rdr hr2).mono ?_);rintro e w2 ⟨rfl,rfl⟩))
  exact (B1.behind ((Below.refl _ _).alloc (Nat.le_refl _) _)).panic (by omega) (by omega)
set_option maxHeartbeats 4000000 in
set_option maxRecDepth 100000 in
theorem rv_int2_some (w:World) (rb:Nat) (bs:List UInt8) (d:Int) (h:Rdr w rb bs d) (hd0:0≤d) (hd:d≤17) {k:Nat} {r r2:List UInt8} {x:Nat} (hr:rdN 1 bs=some (k,r)) (hk:k=2) (hr2:rdN 8 r=some (x,r2)):
    Calls Tryd.prog 40 #[.pointer (some ⟨rb,0,none⟩)] w (RVPost w rb d (some (.mk k (wrap64 x) .empty [] [],r2))):=by
  have hk1:k<256:=rdN_lt hr
  have hmf:∀(fn:Fn) (first cap:Array Value) (w:World),(Instr.makeFunc fn first cap).run Tryd.prog w= .ok (.func fn first cap) w:=fun _ _ _ _=>rfl
  have HB:=Lib.hid (fun t1 t2=>RB.start (d':=d+1) h t1 t2)
  have h1:=h.deep
  have h2:=h.f1
  have hlt:=h.lt
  clear h
  have f1:((k:Int)==1)=false:=by subst hk;rfl
  have f2:((k:Int)==2)=true:=by subst hk;rfl
  have f3:((k:Int)==3)=false:=by subst hk;rfl
  have f4:((k:Int)==4)=false:=by subst hk;rfl
  have f5:((k:Int)==5)=false:=by subst hk;rfl
  clear hk
  go_enter_defers Tryd.func40,Tryd.ntmps40
  go_wp2_with (first|(go_at_call 64;(with_reducible refine (takeU81_some _ rb bs (d+1) (HB.out _ _).rdr hr).mono ?_);rintro e w1 ⟨rfl,hR,hS⟩;have B1:=(HB.out _ _).next hS hR;have r0:=B1.res.c0;have r1:=B1.res.c1;have r2:=B1.res.c2;have r3:=B1.res.c3;have r4:=B1.res.c4;have g0:=B1.frz 0 (by omega);have g1:=B1.frz 1 (by omega);have g2:=B1.frz 2 (by omega);have g3:=B1.frz 3 (by omega);have g4:=B1.frz 4 (by omega);have hb0:=B1.box;have hsz:=B1.size;have zs1:w.heap.size+1<w1.heap.size:=(by omega);have zs0:w.heap.size<w1.heap.size:=(by omega);have hlt1:=B1.lt)|(go_at_call 70;(with_reducible refine (takeI648_some _ rb r (d+1) (B1.behind ((Below.refl _ _).alloc (Nat.le_refl _) _)).rdr hr2).mono ?_);rintro e w2 ⟨rfl,hR2,hS2⟩;have B2:=(B1.behind ((Below.refl _ _).alloc (Nat.le_refl _) _)).next hS2 hR2;have VB2:=(VB.start w1 ⟨k,0, .empty,none,0,0,none,0,0⟩ 28).next hS2 (by omega);have q0:=VB2.at_.c0;have q1:=VB2.at_.c1;have q2:=VB2.at_.c2;have q3:=VB2.at_.c3;have q4:=VB2.at_.c4;have p0:=VB2.fr 1;have r0:=B2.res.c0;have r1:=B2.res.c1;have r2:=B2.res.c2;have r3:=B2.res.c3;have r4:=B2.res.c4;have g0:=B2.frz 0 (by omega);have g1:=B2.frz 1 (by omega);have g2:=B2.frz 2 (by omega);have g3:=B2.frz 3 (by omega);have g4:=B2.frz 4 (by omega);have hb0:=B2.box))
  have B3:=(B2.set (b:=w1.heap.size) (o:=1) (x:= .int .i64 (wrap64 x)) (by omega)).store ⟨k,wrap64 x, .empty,none,0,0,none,0,0⟩
  exact RB.leave (base:=w.heap.size) B3 (isVal_leaf _ _ k (wrap64 x) .empty (by omega) (by omega) (i64_lo _) (i64_hi _) (by decide)) (Nat.le_refl _) (by omega) (by omega) rfl
set_option maxHeartbeats 4000000 in
set_option maxRecDepth 100000 in
theorem rv_text_none (w:World) (rb:Nat) (bs:List UInt8) (d:Int) (h:Rdr w rb bs d) (hd0:0≤d) (hd:d≤17) {k:Nat} {r:List UInt8} (hr:rdN 1 bs=some (k,r)) (hk:k=3) (hr2:rdT r=none):
    Calls Tryd.prog 40 #[.pointer (some ⟨rb,0,none⟩)] w (RVPost w rb d none):=by
  have hmf:∀(fn:Fn) (first cap:Array Value) (w:World),(Instr.makeFunc fn first cap).run Tryd.prog w= .ok (.func fn first cap) w:=fun _ _ _ _=>rfl
  have HB:=Lib.hid (fun t1 t2=>RB.start (d':=d+1) h t1 t2)
  have h1:=h.deep
  have h2:=h.f1
  have hlt:=h.lt
  clear h
  have f1:((k:Int)==1)=false:=by subst hk;rfl
  have f2:((k:Int)==2)=false:=by subst hk;rfl
  have f3:((k:Int)==3)=true:=by subst hk;rfl
  have f4:((k:Int)==4)=false:=by subst hk;rfl
  have f5:((k:Int)==5)=false:=by subst hk;rfl
  clear hk
  go_enter_defers Tryd.func40,Tryd.ntmps40
  go_wp2_with (first|(go_at_call 64;(with_reducible refine (takeU81_some _ rb bs (d+1) (HB.out _ _).rdr hr).mono ?_);rintro e w1 ⟨rfl,hR,hS⟩;have B1:=(HB.out _ _).next hS hR;have r0:=B1.res.c0;have r1:=B1.res.c1;have r2:=B1.res.c2;have r3:=B1.res.c3;have r4:=B1.res.c4;have g0:=B1.frz 0 (by omega);have g1:=B1.frz 1 (by omega);have g2:=B1.frz 2 (by omega);have g3:=B1.frz 3 (by omega);have g4:=B1.frz 4 (by omega);have hb0:=B1.box;have hsz:=B1.size;have zs1:w.heap.size+1<w1.heap.size:=(by omega);have zs0:w.heap.size<w1.heap.size:=(by omega);have hlt1:=B1.lt)|(go_at_call 71;(with_reducible refine (rText_none _ rb r (d+1) (B1.behind ((Below.refl _ _).alloc (Nat.le_refl _) _)).rdr hr2).mono ?_);rintro e w2 ⟨rfl,hS2,bs2,hR2⟩))
  exact ((B1.behind ((Below.refl _ _).alloc (Nat.le_refl _) _)).next hS2 hR2).panic (by omega) (by omega)
set_option maxHeartbeats 4000000 in
set_option maxRecDepth 100000 in
theorem rv_text_some (w:World) (rb:Nat) (bs:List UInt8) (d:Int) (h:Rdr w rb bs d) (hd0:0≤d) (hd:d≤17) {k:Nat} {r r2:List UInt8} {x:ByteArray} (hr:rdN 1 bs=some (k,r)) (hk:k=3) (hr2:rdT r=some (x,r2)):
    Calls Tryd.prog 40 #[.pointer (some ⟨rb,0,none⟩)] w (RVPost w rb d (some (.mk k 0 x [] [],r2))):=by
  have hk1:k<256:=rdN_lt hr
  have hmf:∀(fn:Fn) (first cap:Array Value) (w:World),(Instr.makeFunc fn first cap).run Tryd.prog w= .ok (.func fn first cap) w:=fun _ _ _ _=>rfl
  have HB:=Lib.hid (fun t1 t2=>RB.start (d':=d+1) h t1 t2)
  have h1:=h.deep
  have h2:=h.f1
  have hlt:=h.lt
  clear h
  have f1:((k:Int)==1)=false:=by subst hk;rfl
  have f2:((k:Int)==2)=false:=by subst hk;rfl
  have f3:((k:Int)==3)=true:=by subst hk;rfl
  have f4:((k:Int)==4)=false:=by subst hk;rfl
  have f5:((k:Int)==5)=false:=by subst hk;rfl
  clear hk
  go_enter_defers Tryd.func40,Tryd.ntmps40
  go_wp2_with (first|(go_at_call 64;(with_reducible refine (takeU81_some _ rb bs (d+1) (HB.out _ _).rdr hr).mono ?_);rintro e w1 ⟨rfl,hR,hS⟩;have B1:=(HB.out _ _).next hS hR;have r0:=B1.res.c0;have r1:=B1.res.c1;have r2:=B1.res.c2;have r3:=B1.res.c3;have r4:=B1.res.c4;have g0:=B1.frz 0 (by omega);have g1:=B1.frz 1 (by omega);have g2:=B1.frz 2 (by omega);have g3:=B1.frz 3 (by omega);have g4:=B1.frz 4 (by omega);have hb0:=B1.box;have hsz:=B1.size;have zs1:w.heap.size+1<w1.heap.size:=(by omega);have zs0:w.heap.size<w1.heap.size:=(by omega);have hlt1:=B1.lt)|(go_at_call 71;(with_reducible refine (rText_some _ rb r (d+1) (B1.behind ((Below.refl _ _).alloc (Nat.le_refl _) _)).rdr hr2).mono ?_);rintro e w2 ⟨rfl,hR2,hS2⟩;have B2:=(B1.behind ((Below.refl _ _).alloc (Nat.le_refl _) _)).next hS2 hR2;have VB2:=(VB.start w1 ⟨k,0, .empty,none,0,0,none,0,0⟩ 28).next hS2 (by omega);have q0:=VB2.at_.c0;have q1:=VB2.at_.c1;have q2:=VB2.at_.c2;have q3:=VB2.at_.c3;have q4:=VB2.at_.c4;have p0:=VB2.fr 2;have r0:=B2.res.c0;have r1:=B2.res.c1;have r2:=B2.res.c2;have r3:=B2.res.c3;have r4:=B2.res.c4;have g0:=B2.frz 0 (by omega);have g1:=B2.frz 1 (by omega);have g2:=B2.frz 2 (by omega);have g3:=B2.frz 3 (by omega);have g4:=B2.frz 4 (by omega);have hb0:=B2.box))
  have B3:=(B2.set (b:=w1.heap.size) (o:=2) (x:= .string x) (by omega)).store ⟨k,0,x,none,0,0,none,0,0⟩
  exact RB.leave (base:=w.heap.size) B3 (isVal_leaf _ _ k 0 x (by omega) (by omega) (by decide) (by decide) (rdT_size hr2)) (Nat.le_refl _) (by omega) (by omega) rfl
set_option maxHeartbeats 4000000 in
set_option maxRecDepth 100000 in
theorem rv_list_none (w:World) (rb:Nat) (bs:List UInt8) (d:Int) (h:Rdr w rb bs d) (hd0:0≤d) (hd:d≤17) {k:Nat} {r:List UInt8} (hr:rdN 1 bs=some (k,r)) (hk:k=4) (hr2:rdM 4 r=none):
    Calls Tryd.prog 40 #[.pointer (some ⟨rb,0,none⟩)] w (RVPost w rb d none):=by
  have hmf:∀(fn:Fn) (first cap:Array Value) (w:World),(Instr.makeFunc fn first cap).run Tryd.prog w= .ok (.func fn first cap) w:=fun _ _ _ _=>rfl
  have HB:=Lib.hid (fun t1 t2=>RB.start (d':=d+1) h t1 t2)
  have h1:=h.deep
  have h2:=h.f1
  have hlt:=h.lt
  clear h
  have f1:((k:Int)==1)=false:=by subst hk;rfl
  have f2:((k:Int)==2)=false:=by subst hk;rfl
  have f3:((k:Int)==3)=false:=by subst hk;rfl
  have f4:((k:Int)==4)=true:=by subst hk;rfl
  have f5:((k:Int)==5)=false:=by subst hk;rfl
  clear hk
  go_enter_defers Tryd.func40,Tryd.ntmps40
  go_wp2_with (first|(go_at_call 64;(with_reducible refine (takeU81_some _ rb bs (d+1) (HB.out _ _).rdr hr).mono ?_);rintro e w1 ⟨rfl,hR,hS⟩;have B1:=(HB.out _ _).next hS hR;have r0:=B1.res.c0;have r1:=B1.res.c1;have r2:=B1.res.c2;have r3:=B1.res.c3;have r4:=B1.res.c4;have g0:=B1.frz 0 (by omega);have g1:=B1.frz 1 (by omega);have g2:=B1.frz 2 (by omega);have g3:=B1.frz 3 (by omega);have g4:=B1.frz 4 (by omega);have hb0:=B1.box;have hsz:=B1.size;have zs1:w.heap.size+1<w1.heap.size:=(by omega);have zs0:w.heap.size<w1.heap.size:=(by omega);have hlt1:=B1.lt)|(go_at_call 66;(with_reducible refine (many4_none _ rb r (d+1) (B1.behind ((Below.refl _ _).alloc (Nat.le_refl _) _)).rdr hr2).mono ?_);rintro e w2 ⟨rfl,hS2,bs2,hR2⟩))
  exact ((B1.behind ((Below.refl _ _).alloc (Nat.le_refl _) _)).next hS2 hR2).panic (by omega) (by omega)
set_option maxHeartbeats 4000000 in
set_option maxRecDepth 100000 in
theorem rv_obj_none (w:World) (rb:Nat) (bs:List UInt8) (d:Int) (h:Rdr w rb bs d) (hd0:0≤d) (hd:d≤17) {k:Nat} {r:List UInt8} (hr:rdN 1 bs=some (k,r)) (hk:k=5) (hr2:rdM 4 r=none):
    Calls Tryd.prog 40 #[.pointer (some ⟨rb,0,none⟩)] w (RVPost w rb d none):=by
  have hmf:∀(fn:Fn) (first cap:Array Value) (w:World),(Instr.makeFunc fn first cap).run Tryd.prog w= .ok (.func fn first cap) w:=fun _ _ _ _=>rfl
  have HB:=Lib.hid (fun t1 t2=>RB.start (d':=d+1) h t1 t2)
  have h1:=h.deep
  have h2:=h.f1
  have hlt:=h.lt
  clear h
  have f1:((k:Int)==1)=false:=by subst hk;rfl
  have f2:((k:Int)==2)=false:=by subst hk;rfl
  have f3:((k:Int)==3)=false:=by subst hk;rfl
  have f4:((k:Int)==4)=false:=by subst hk;rfl
  have f5:((k:Int)==5)=true:=by subst hk;rfl
  clear hk
  go_enter_defers Tryd.func40,Tryd.ntmps40
  go_wp2_with (first|(go_at_call 64;(with_reducible refine (takeU81_some _ rb bs (d+1) (HB.out _ _).rdr hr).mono ?_);rintro e w1 ⟨rfl,hR,hS⟩;have B1:=(HB.out _ _).next hS hR;have r0:=B1.res.c0;have r1:=B1.res.c1;have r2:=B1.res.c2;have r3:=B1.res.c3;have r4:=B1.res.c4;have g0:=B1.frz 0 (by omega);have g1:=B1.frz 1 (by omega);have g2:=B1.frz 2 (by omega);have g3:=B1.frz 3 (by omega);have g4:=B1.frz 4 (by omega);have hb0:=B1.box;have hsz:=B1.size;have zs1:w.heap.size+1<w1.heap.size:=(by omega);have zs0:w.heap.size<w1.heap.size:=(by omega);have hlt1:=B1.lt)|(go_at_call 66;(with_reducible refine (many4_none _ rb r (d+1) (B1.behind ((Below.refl _ _).alloc (Nat.le_refl _) _)).rdr hr2).mono ?_);rintro e w2 ⟨rfl,hS2,bs2,hR2⟩))
  exact ((B1.behind ((Below.refl _ _).alloc (Nat.le_refl _) _)).next hS2 hR2).panic (by omega) (by omega)
end Go.Proofs.YthceefjafklcmaaDoor
namespace Go.Proofs.YthceefjafklcmaaDoor
open Go.RowKit
theorem grown_below {w w':World} {row:Option Nat} {B:Nat} (hg:w.grownBy w' row) (hr:∀k,row=some k→B≤k) (hB:B≤w.heap.size):Below B w w':=
  ⟨hg.os,hg.tape,hg.output,hg.size,fun k hk=>hg.block k (by omega) (fun e=>by have:=hr k e.symm;omega)⟩
theorem Rdr.below {w w':World} {rb B:Nat} {bs:List UInt8} {d:Int} (h:Rdr w rb bs d) (hb:Below B w w') (hB:rb<B):Rdr w' rb bs d:=by
  obtain ⟨⟨a,n,c,h0,hI⟩,h1,h2,h3⟩:=h
  exact ⟨⟨a,n,c,keep_cell hb h0 hB,hI.keep (hb.mono (Nat.le_of_lt hB))⟩,keep_cell hb h1 hB,(hb.frozen hB).trans h2,(hb.frozen hB).trans h3⟩
theorem RB.below {w W W':World} {rb:Nat} {bs:List UInt8} {d:Int} {c:VC} (h:RB w W rb bs d c) (hb:Below (w.heap.size+2) W W'):RB w W' rb bs d c:=by
  have hlt:=h.lt
  have hs:RStep w W' rb:=⟨hb.os.trans h.st.os,hb.tape.trans h.st.tape,hb.output.trans h.st.output,Nat.le_trans h.st.size hb.size,fun k hk hr=>(hb.block k (by omega)).trans (h.st.block k hk hr)⟩
  exact ⟨h.rdr.below hb (by omega),hs,keep_cell hb h.box (by omega),h.res.keep hb (by omega),fun j hj=>(hb.frozen (p:=⟨w.heap.size+1,j,none⟩) (show w.heap.size+1<w.heap.size+2 by omega)).trans (h.frz j hj),hlt,Nat.le_trans h.size hb.size⟩
theorem VB.keep {W W':World} {vb B:Nat} {c:VC} (h:VB W vb c) (hb:Below B W W') (hB:vb<B):VB W' vb c:=
  ⟨h.at_.keep hb hB,fun j=>(hb.frozen hB).trans (h.fr j)⟩
theorem VB.setL {W:World} {vb:Nat} {c:VC} (h:VB W vb c) (a:Option Addr) (n cp:Nat):VB (W.setCell ⟨vb,3,none⟩ (.slice a n cp)) vb ⟨c.k,c.n,c.s,a,n,cp,c.oa,c.ol,c.oc⟩:=by
  have g0:=h.at_.c0
  have g1:W.cell? ⟨vb,1,none⟩=_:=h.at_.c1
  have g2:W.cell? ⟨vb,2,none⟩=_:=h.at_.c2
  have g3:W.cell? ⟨vb,3,none⟩=_:=h.at_.c3
  have g4:W.cell? ⟨vb,4,none⟩=_:=h.at_.c4
  refine ⟨?_,fun j=>by simpa using h.fr j⟩
  constructor<;>simp [go_sem,g0,g1,g2,g3,g4]
theorem VB.setO {W:World} {vb:Nat} {c:VC} (h:VB W vb c) (a:Option Addr) (n cp:Nat):VB (W.setCell ⟨vb,4,none⟩ (.slice a n cp)) vb ⟨c.k,c.n,c.s,c.la,c.ll,c.lc,a,n,cp⟩:=by
  have g0:=h.at_.c0
  have g1:W.cell? ⟨vb,1,none⟩=_:=h.at_.c1
  have g2:W.cell? ⟨vb,2,none⟩=_:=h.at_.c2
  have g3:W.cell? ⟨vb,3,none⟩=_:=h.at_.c3
  have g4:W.cell? ⟨vb,4,none⟩=_:=h.at_.c4
  refine ⟨?_,fun j=>by simpa using h.fr j⟩
  constructor<;>simp [go_sem,g0,g1,g2,g3,g4]
theorem drew_below (w:World):Below w.heap.size w w.drew:=(Below.refl _ _).drew
structure LI (w wr:World) (rb vb:Nat) (d:Int) (k:Nat) (kd:Nat) (q:List UInt8) (j:Nat) (a:Option Addr) (m c:Nat) (xs:List V) (cs:List VC) (rj:List UInt8):Prop where
  rd:rdL (fun x=>rdV k x) j q=some (xs,rj)
  len:xs.length=j
  cen:cs.length=j
  box:RB w wr rb rj (d+1) vzero
  vb_:VB wr vb ⟨kd,0, .empty,a,m,c,none,0,0⟩
  row:RowV wr (vb+1) (.slice a m c) xs cs
  lo:w.heap.size+2≤vb
theorem LI.round {w wr w4 w5:World} {rb vb:Nat} {d:Int} {k kd:Nat} {q:List UInt8} {j:Nat} {a:Option Addr} {m c:Nat} {xs:List V} {cs:List VC} {rj r2:List UInt8} {x:V} {cx:VC} {g cap:Nat} {t:TypeId}
    (h:LI w wr rb vb d k kd q j a m c xs cs rj) (hx:rdV k rj=some (x,r2)) (hS:RStep wr.drew w4 rb) (hI:IsVal (only (fun b=>wr.drew.heap.size≤b) w4) w4.heap.size x cx) (hR:Rdr w4 rb r2 (d+1))
    (hown:w5.ownsRow (vb+1) 28 5 (.slice (some ⟨g,0,none⟩) (j+1) cap) (j+1) (cs.flatMap vcells++vcells cx)) (hg:(w4.alloc (.cells #[.int .u8 cx.k, .int .i64 cx.n, .string cx.s, .slice cx.la cx.ll cx.lc, .slice cx.oa cx.ol cx.oc] t)).grownBy w5 (Value.slice a m c).ownBlock)
    (hat:(Value.slice a m c).ownBlock=some g∨g=w4.heap.size+1):
    LI w (w5.setCell ⟨vb,3,none⟩ (.slice (some ⟨g,0,none⟩) (j+1) cap)) rb vb d k kd q (j+1) (some ⟨g,0,none⟩) (j+1) cap (xs++ [x]) (cs++ [cx]) r2:=by
  have hlo:=h.lo
  have hlt:=h.box.lt
  have hdz:wr.drew.heap.size=wr.heap.size:=rfl
  have hb1:=drew_below wr
  have hrow:=(h.row.later (PV.closed xs cs) (.of_below rb hb1) (by omega)).later (PV.closed xs cs) hS (by omega)
  have hrlt:∀b,(Value.slice a m c).ownBlock=some b→vb+1≤b∧b<wr.heap.size:=h.row.lt
  have hba:Below w4.heap.size w4 (w4.alloc (.cells #[.int .u8 cx.k, .int .i64 cx.n, .string cx.s, .slice cx.la cx.ll cx.lc, .slice cx.oa cx.ol cx.oc] t)):=(Below.refl _ _).alloc (Nat.le_refl _) _
  have hsz4:wr.heap.size≤w4.heap.size:=hS.size
  have hvlt:=h.vb_.lt
  have hgb:Below (vb+1) (w4.alloc (.cells #[.int .u8 cx.k, .int .i64 cx.n, .string cx.s, .slice cx.la cx.ll cx.lc, .slice cx.oa cx.ol cx.oc] t)) w5:=grown_below hg (fun b hb=>(hrlt b hb).1) (by simp;omega)
  have hb45:Below (vb+1) w4 w5:=(hba.mono (by omega)).trans hgb
  obtain ⟨s1,s2⟩:=PV.snoc (l:=xs) (cs:=cs) (by rw [h.len,h.cen]) x cx
  have hnew:PV (xs++ [x]) (cs++ [cx]) (only (Free (vb+1) (.slice a m c)) w4) w4.heap.size xs.length:=s1 _ _ (hI.sub (shows_step fun b hb _=>⟨⟨by rw [hdz] at hb;omega,fun e=>by have:=(hrlt b e.symm).2;rw [hdz] at hb;omega⟩,rfl⟩))
  have hpush:=Row.push (PV.closed (xs++ [x]) (cs++ [cx])) hrow hba hg (u':= .slice (some ⟨g,0,none⟩) (j+1) cap) (news:=vcells cx) (by rw [h.len];exact hown) (by
    rcases hat with e|e
    · left;rw [e];rfl
    · right;intro b hb;have:g=b:=by simpa [Value.ownBlock] using hb
      omega) hnew s2
  have hbox:=((h.box.behind hb1).next hS hR).below (hb45.mono (by omega))
  have hvb:=((h.vb_.keep hb1 hvlt).next hS (by omega)).keep hb45 (by omega)
  refine ⟨?_,by simp [h.len],by simp [h.cen],hbox.set (by omega),hvb.setL _ _ _, ?_,hlo⟩
  · rw [rdL,h.rd];simp only [Option.bind_some,hx]
  · have hr2:RowV w5 (vb+1) (.slice (some ⟨g,0,none⟩) (j+1) cap) (xs++ [x]) (cs++ [cx]):=by
      show Row _ _ _ _ _ _ _ _
      rw [flat_snoc,List.length_append,List.length_singleton]
      exact hpush
    exact hr2.set (PV.closed _ _) (by omega)
def PanicP (D:List Deferred) (Pw:World→Prop) (Q:Exit→Act→World→Prop):Exit→Act→World→Prop
  | .panic c,a,w=>a.defers=D∧c= [short] ∧Pw w
  |e,a,w=>Q e a w
theorem wp_region_panicP {P:Program} {id:Nat} {ops:Array Oper} {b:Bool} {Q:Exit→Act→World→Prop} {a:Act} {w:World} (D:List Deferred) (Pw:World→Prop) (hq:∀a w,a.defers=D→Pw w→Q (.panic [short]) a w)
    (h:(Code.region id ops b).wp P (PanicP D Pw Q) a w):(Code.region id ops b).wp P Q a w:=
  Code.wp_mono (fun e a w h=>by
    cases e<;>first|exact h|(obtain ⟨h1,h2,h3⟩:=h;subst h2;exact hq _ _ h1 h3)) h
theorem PanicP.normal {D:List Deferred} {Pw:World→Prop} {Q:Exit→Act→World→Prop} {a:Act} {w:World} (h:Q .normal a w):PanicP D Pw Q .normal a w:=h
theorem RStep.self {W:World} {b o:Nat} {x:Value} :RStep W (W.setCell ⟨b,o,none⟩ x) b:=⟨rfl,rfl,rfl,by simp,fun k hk hr=>heap_setCell_other _ _ _ _ hr⟩
theorem isVal_far {W W':World} {b base:Nat} {x:V} {c:VC} (h:IsVal (only (fun k=>base≤k) W) W.heap.size x c) (s:RStep W W' b) (hb:b<base):IsVal (only (fun k=>base≤k) W') W'.heap.size x c:=
  (h.sub (shows_step fun k hk hl=>⟨hk,s.block k hl (by omega)⟩)).more s.size
theorem leave_stored {w W:World} {rb base:Nat} {r:List UInt8} {d:Int} {c0:VC} {x:V} {tmps:Array Value} (h:RB w W rb r (d+1) c0) (c:VC) (hx:IsVal (only (fun b=>base≤b) W) W.heap.size x c) (hb:w.heap.size+1<base) (hd:0≤d) (hd2:d≤100) (ht:tmps[2]? =some (.pointer (some ⟨w.heap.size+1,0,none⟩))):
    Leaves Tryd.prog Tryd.f40 tmps (RVPost w rb d (some (x,r))) [{ target:= .fn (.func 69) #[.pointer (some ⟨w.heap.size,0,none⟩)],args:= #[] }] .returning
      (((((W.setCell ⟨w.heap.size+1,0,none⟩ (.int .u8 c.k)).setCell ⟨w.heap.size+1,1,none⟩ (.int .i64 c.n)).setCell ⟨w.heap.size+1,2,none⟩ (.string c.s)).setCell ⟨w.heap.size+1,3,none⟩ (.slice c.la c.ll c.lc)).setCell ⟨w.heap.size+1,4,none⟩ (.slice c.oa c.ol c.oc)):=
  (h.store c).leave (base:=base) (isVal_far hx ((((RStep.self.trans RStep.self).trans RStep.self).trans RStep.self).trans RStep.self) hb) (by omega) hd hd2 ht
end Go.Proofs.YthceefjafklcmaaDoor
namespace Go.Proofs.YthceefjafklcmaaDoor
open Go.RowKit
theorem isB_own {w:World} {B:Nat} {v:Value} {bs:List UInt8} (ho:w.ownsRow B 5 1 v bs.length (outs bs)):∃a n c,v= .slice a n c∧IsB w w.heap.size a n c bs:=by
  have hc:=fun g hg=>ho.cells (g:=g) hg
  have hlt:=ho.lt
  rcases ho.2 with ⟨rfl,hn⟩|⟨g,cap,cur,rfl,_,hg,hnc,hcm,_,_⟩
  · have:bs= [] :=List.length_eq_zero_iff.1 hn
    subst this
    exact ⟨none,0,0,rfl, .nil _ _⟩
  · refine ⟨_,_,_,rfl,rfl,hnc,by simpa [maxLen] using hcm,g,0,fun _=>⟨rfl,(hlt g rfl).2⟩,fun i hi=> ?_⟩
    have:=hc g rfl i (.int .u8 (bs[i].toNat:Int)) (by simp [outs,hi])
    rw [add_at] at this;exact this
def OwnB (w:World) (B:Nat) (a:Option Addr) (n c:Nat) (bs:List UInt8):Prop:=n=bs.length∧w.ownsRow B 5 1 (.slice a n c) n (outs bs)
theorem OwnB.nil (w:World) (B:Nat):OwnB w B none 0 0 [] :=⟨rfl,by simp [outs], .inl ⟨rfl,rfl⟩⟩
theorem OwnB.isB {w:World} {B:Nat} {a:Option Addr} {n c:Nat} {bs:List UInt8} (h:OwnB w B a n c bs):IsB w w.heap.size a n c bs:=by
  obtain ⟨rfl,h⟩:=h
  obtain ⟨a2,n2,c2,hv2,hI⟩:=isB_own h
  injection hv2 with h3 h4 h5;subst h3 h4 h5
  exact hI
theorem OwnB.below {w w':World} {B:Nat} {a:Option Addr} {n c:Nat} {bs:List UInt8} (h:OwnB w B a n c bs) (hb:Below w.heap.size w w'):OwnB w' B a n c bs:=
  ⟨h.1,h.2.kept (row:=none) ⟨hb.os,hb.tape,hb.output,hb.size,fun k hk _=>hb.block k hk⟩ (by cases (Value.slice a n c).ownBlock<;>simp)⟩
theorem OwnB.lower {w:World} {B B':Nat} {a:Option Addr} {n c:Nat} {bs:List UInt8} (h:OwnB w B a n c bs) (hB:B'≤B):OwnB w B' a n c bs:=by
  obtain ⟨h1,h2,h3⟩:=h
  refine ⟨h1,h2, ?_⟩
  rcases h3 with h|⟨g,cap,cur,e,hg,r⟩
  · exact .inl h
  · exact .inr ⟨g,cap,cur,e,Nat.le_trans hB hg,r⟩
theorem OwnB.lt {w:World} {B:Nat} {a:Option Addr} {n c:Nat} {bs:List UInt8} (h:OwnB w B a n c bs):∀b,(Value.slice a n c).ownBlock=some b→B≤b∧b<w.heap.size:=h.2.lt
set_option maxHeartbeats 4000000 in
set_option maxRecDepth 100000 in
theorem layM_any (x width:Nat) (hw8:width≤8) (w:World) (B:Nat) (hB:B≤w.heap.size) (a0:Option Addr) (n0 c0:Nat) (bs:List UInt8) (h:OwnB w B a0 n0 c0 bs) (hsz:bs.length+width≤140737488355328):
    Calls Tryd.prog 17 #[.slice a0 n0 c0, .int .i64 x, .int .i64 width] w fun e w'=>(∃a n c,e= .returned (.slice a n c)∧OwnB w' B a n c (bs++be x width))∧Below B w w':=by
  obtain ⟨i0,hi0,hz0,hz1,hz2⟩:=info_parts ginfo8
  go_enter Tryd.func17,Tryd.ntmps17
  go_wp2_with fail
  go_loopw [0,7] (fun u i wr=>∃(r:Nat) (pre:List UInt8) (a:Option Addr) (n c:Nat),r≤width∧i= .int .i64 ((r:Int) - 1)∧u= .slice a n c∧Hid (pre++be x r=be x width)∧OwnB wr B a n c (bs++pre)∧Below B w wr) (fun _ i _=>(intOf i+1).toNat)
  case atStart=>exact ⟨width, [],a0,n0,c0,Nat.le_refl _,rfl,rfl,by show _=_;rfl,by simpa using h,Below.refl _ _⟩
  case round=>
    clear h
    obtain ⟨r,pre,a,n,c,hr,rfl,rfl,HP,h,hb⟩:=hrel
    cases r with
    | zero=>
      go_wp2_with fail
      go_returns
      exact ⟨⟨a,n,c,rfl,by rw [←HP.out,show be x 0= [] from rfl,List.append_nil];exact h⟩,hb⟩
    | succ r=>
      have hpl:pre.length+(r+1)=width:=by have:=congrArg List.length HP.out;simpa [be_length] using this
      have ei:((r+1:Nat):Int) - 1=(r:Int):=by omega
      rw [ei]
      obtain ⟨b,hbb⟩:∃b:UInt8,UInt8.ofNat (x / 256 ^ r)=b:=⟨_,rfl⟩
      have hu8:(x:Int) / 2 ^ (8*r) % 256=((b.toNat:Nat):Int):=by
        have h1:=shr_nat x r
        rw [show (8*(r:Int)).toNat=8*r by omega] at h1
        rw [h1, ←hbb]
        simp
      have HB:=Lib.hid hbb
      have hrlt:=h.lt
      have hbs:=hb.size
      have hn:=h.1
      rw [List.length_append] at hn
      have HN:=Lib.hid hn
      have ho:=h.2
      have HH:=Lib.hid h
      have HBB:=Lib.hid hb
      clear hbb h hb hn
      go_wp2_with (at_builtin;refine wpList_append_lies _ rfl (.tmp 14) (.tmp 20) 22 (by rfl) B 5 i0 _ 1 1 Tryd.underlying22 hi0 hz0 hz1 hz2 rfl (by omega) (.slice a n c) n (outs (bs++pre)) (by rfl) (ho.alloc _) ⟨wr.heap.size,0,none⟩ 1 1 [.int .u8 (b.toNat:Int)] (by rfl) (by rfl) (World.news_of_block (cs:= #[.int .u8 (b.toNat:Int)]) (t:=5) (fr:=(0,0)) (heap_alloc_new wr _)) (by simp [Value.oneCell']) (by omega) (by have:=HN.out;unfold maxLen;omega) (by have:=HN.out;omega) (by simp;omega) (wr.heap.size+1) (by simp) ?_;intro g cap w7 hown7 hgrow7 hat7 hlt7)
      go_roundw
      case rel=>
        refine ⟨r,pre++ [b],some ⟨g,0,none⟩,n+1,cap,by omega,by go_num,rfl,by show _=_;rw [←HP.out,List.append_assoc];simp only [be,HB.out,List.singleton_append],⟨by rw [←List.append_assoc,List.length_append,List.length_append,HN.out];rfl, ?_⟩, ?_⟩
        · rw [←List.append_assoc,outs_append]
          exact hown7
        · exact (HBB.out.trans (((Below.refl _ _).alloc (Nat.le_refl _) _).mono (by omega))).trans (grown_below hgrow7 (fun k hk=>(hrlt k hk).1) (by simp;omega))
      case measure=>first|(simp [intOf];done)|(simp [intOf];omega)
theorem layM1 (x:Nat) (w:World) (B:Nat) (hB:B≤w.heap.size) (a0:Option Addr) (n0 c0:Nat) (bs:List UInt8) (h:OwnB w B a0 n0 c0 bs) (hsz:bs.length+1≤140737488355328):
    Calls Tryd.prog 17 #[.slice a0 n0 c0, .int .i64 x, .int .i64 1] w fun e w'=>(∃a n c,e= .returned (.slice a n c)∧OwnB w' B a n c (bs++be x 1))∧Below B w w':=layM_any x 1 (by omega) w B hB a0 n0 c0 bs h hsz
theorem layM2 (x:Nat) (w:World) (B:Nat) (hB:B≤w.heap.size) (a0:Option Addr) (n0 c0:Nat) (bs:List UInt8) (h:OwnB w B a0 n0 c0 bs) (hsz:bs.length+2≤140737488355328):
    Calls Tryd.prog 17 #[.slice a0 n0 c0, .int .i64 x, .int .i64 2] w fun e w'=>(∃a n c,e= .returned (.slice a n c)∧OwnB w' B a n c (bs++be x 2))∧Below B w w':=layM_any x 2 (by omega) w B hB a0 n0 c0 bs h hsz
theorem layM4 (x:Nat) (w:World) (B:Nat) (hB:B≤w.heap.size) (a0:Option Addr) (n0 c0:Nat) (bs:List UInt8) (h:OwnB w B a0 n0 c0 bs) (hsz:bs.length+4≤140737488355328):
    Calls Tryd.prog 17 #[.slice a0 n0 c0, .int .i64 x, .int .i64 4] w fun e w'=>(∃a n c,e= .returned (.slice a n c)∧OwnB w' B a n c (bs++be x 4))∧Below B w w':=layM_any x 4 (by omega) w B hB a0 n0 c0 bs h hsz
end Go.Proofs.YthceefjafklcmaaDoor
namespace Go.Proofs.YthceefjafklcmaaDoor
open Go.RowKit
structure BC (W:World) (b:Nat) (cs:List Value):Prop where
  at_:∀j x,cs[j]? =some x→W.cell? ⟨b,j,none⟩=some x
  fr:∀j,W.frozen? ⟨b,j,none⟩=false
  lt:b<W.heap.size
theorem BC.start (w:World) (cs:Array Value) (t:TypeId):BC (w.alloc (.cells cs t)) w.heap.size cs.toList:=
  ⟨fun j x hj=>cells_new w cs t j x (by rw [←hj];simp),fun j=>frozen_new w cs t j,by simp⟩
theorem BC.next {W W':World} {b rb:Nat} {cs:List Value} (h:BC W b cs) (s:RStep W W' rb) (hb:b≠rb):BC W' b cs:=
  ⟨fun j x hj=>s.cell (h.at_ j x hj) hb,fun j=>(s.frozen h.lt hb).trans (h.fr j),Nat.lt_of_lt_of_le h.lt s.size⟩
theorem BC.keep {W W':World} {b B:Nat} {cs:List Value} (h:BC W b cs) (hb:Below B W W') (hB:b<B):BC W' b cs:=
  ⟨fun j x hj=>keep_cell hb (h.at_ j x hj) hB,fun j=>(hb.frozen (p:=⟨b,j,none⟩) hB).trans (h.fr j),Nat.lt_of_lt_of_le h.lt hb.size⟩
theorem BC.set {W:World} {b i:Nat} {x:Value} {cs:List Value} (h:BC W b cs) (hi:i<cs.length):BC (W.setCell ⟨b,i,none⟩ x) b (cs.set i x):=by
  refine ⟨fun j y hj=> ?_,fun j=>by simpa using h.fr j,by simpa using h.lt⟩
  by_cases e:i=j
  · subst e
    rw [List.getElem?_set_self hi] at hj
    injection hj with hj
    subst hj
    exact World.cell?_setCell_same _ _ _ (h.at_ i cs[i] (by simp [hi]))
  · rw [List.getElem?_set_ne e] at hj
    rw [World.cell?_setCell_other]
    · exact h.at_ j y hj
    · intro e2;injection e2 with _ e3;exact e (by first|exact e3|exact e3.symm)
theorem BC.far {W:World} {b b' o:Nat} {x:Value} {cs:List Value} (h:BC W b cs) (hb:b≠b'):BC (W.setCell ⟨b',o,none⟩ x) b cs:=
  h.next RStep.self hb
def RSPost (w:World) (rb:Nat) (d:Int) (r:Option (St×List UInt8)) (e:Ending) (w':World):Prop:=
  RStep w w' rb∧match r with
    |some (s,r)=>e= .returned (.agg #[.bool s.list, .int .i64 s.i, .string s.key])∧Rdr w' rb r d
    |none=>e= .panicked [short] ∧∃bs',Rdr w' rb bs' d
theorem rdS_bnd {bs r:List UInt8} {s:St} (h:rdS bs=some (s,r)):s.Bnd:=by
  unfold rdS at h
  cases h1:rdN 1 bs with
  |none=>rw [h1] at h;cases h
  | some p=>
    rw [h1] at h
    simp only [Option.bind_some] at h
    split at h
    · cases h2:rdN 8 p.2 with
      |none=>rw [h2] at h;cases h
      | some q=>
        rw [h2] at h
        simp only [Option.bind_some] at h
        injection h with h;injection h with h h';subst h
        exact ⟨i64_lo _,i64_hi _,(by decide:ByteArray.empty.size≤140737488355328)⟩
    · cases h2:rdT p.2 with
      |none=>rw [h2] at h;cases h
      | some q=>
        rw [h2] at h
        simp only [Option.bind_some] at h
        injection h with h;injection h with h h';subst h
        exact ⟨(by decide:(-9223372036854775808:Int)≤0),(by decide:(0:Int)≤9223372036854775807),rdT_size h2⟩
theorem results_step {tmps:Array Value} {W:World} {b:Nat} {l:Bool} {i:Int} {k:ByteArray} (ht:tmps[2]? =some (.pointer (some ⟨b,0,none⟩))) (h:BC W b [.bool l, .int .i64 i, .string k]):(results Tryd.f85 tmps).run Tryd.prog W= .ok (.agg #[.bool l, .int .i64 i, .string k]) W:=by
  have h0:=h.at_ 0 _ rfl
  have h1:=h.at_ 1 _ rfl
  have h2:=h.at_ 2 _ rfl
  simp [results,Tryd.results85,go_sem,ht,h0,h1,h2]
set_option maxHeartbeats 4000000 in
set_option maxRecDepth 100000 in
theorem rStep_any (w:World) (rb:Nat) (bs:List UInt8) (d:Int) (h:Rdr w rb bs d):Calls Tryd.prog 85 #[.pointer (some ⟨rb,0,none⟩)] w (RSPost w rb d (rdS bs)):=by
  have hlt:=h.lt
  have hb:∀t,Below w.heap.size w (w.alloc (.cells #[.bool false, .int .i64 0, .string { data:= #[] }] t)):=fun t=>(Below.refl _ _).alloc (Nat.le_refl _) _
  have HB:=Lib.hid hb
  have H:=Lib.hid h
  have HC:=Lib.hid (fun t=>BC.start w #[.bool false, .int .i64 0, .string { data:= #[] }] t)
  clear h hb
  cases hr:rdN 1 bs with
  | none=>
    have e:rdS bs=none:=by rw [rdS,hr];rfl
    rw [e]
    have HR:=Lib.hid hr
    clear hr e
    go_enter Tryd.func85,Tryd.ntmps85
    go_wp2_with (go_at_call 64;(with_reducible refine (takeU81_none _ rb bs d (H.out.of_below (HB.out _)) HR.out).mono ?_);rintro e w1 ⟨rfl,rfl⟩)
    exact ⟨rfl, .of_below rb (HB.out _),rfl,bs,H.out.of_below (HB.out _)⟩
  | some p=>
    obtain ⟨k,r⟩:=p
    have HR:=Lib.hid hr
    by_cases ek:k=1
    · subst ek
      cases h2:rdN 8 r with
      | none=>
        have e:rdS bs=none:=by rw [rdS,hr];simp only [Option.bind_some,if_true,h2];rfl
        rw [e]
        have HR2:=Lib.hid h2
        clear hr e h2
        go_enter Tryd.func85,Tryd.ntmps85
        go_wp2_with (first|(go_at_call 64;(with_reducible refine (takeU81_some _ rb bs d (H.out.of_below (HB.out _)) HR.out).mono ?_);rintro e w1 ⟨rfl,hR1,hS1⟩)|(go_at_call 84;(with_reducible refine (takeInt8_none _ rb r d hR1 HR2.out).mono ?_);rintro e w2 ⟨rfl,rfl⟩))
        exact ⟨rfl,(RStep.of_below rb (HB.out _)).trans hS1,rfl,r,hR1⟩
      | some q=>
        obtain ⟨n,r2⟩:=q
        have e:rdS bs=some (⟨true,wrap64 n, .empty⟩,r2):=by rw [rdS,hr];simp only [Option.bind_some,if_true,h2]
        rw [e]
        have HR2:=Lib.hid h2
        clear hr e h2
        go_enter Tryd.func85,Tryd.ntmps85
        go_wp2_with (first|(go_at_call 64;(with_reducible refine (takeU81_some _ rb bs d (H.out.of_below (HB.out _)) HR.out).mono ?_);rintro e w1 ⟨rfl,hR1,hS1⟩)|(go_at_call 84;(with_reducible refine (takeInt8_some _ rb r d hR1 HR2.out).mono ?_);rintro e w2 ⟨rfl,hR2,hS2⟩;have C2:=((HC.out 124).next hS1 (by omega)).next hS2 (by omega);have y0:=C2.at_ 0 _ rfl;have y1:=C2.at_ 1 _ rfl;have y2:=C2.at_ 2 _ rfl;have g0:=C2.fr 0;have g1:=C2.fr 1;have g2:=C2.fr 2))
        have hw:w.heap.size≤w.heap.size:=Nat.le_refl _
        have C3:=((C2.set (i:=0) (x:= .bool true) (by simp)).set (i:=1) (x:= .int .i64 (wrap64 n)) (by simp)).set (i:=2) (x:= .string .empty) (by simp)
        refine ⟨rfl,_,results_step (l:=true) (i:=(wrap64 n)) (k:= .empty) rfl C3, ?_⟩
        exact ⟨((((RStep.of_below rb (HB.out _)).trans (hS1.trans hS2)).setNew hw).setNew hw).setNew hw,rfl,((hR2.setNew (by omega)).setNew (by omega)).setNew (by omega)⟩
    · have f1:((k:Int)==1)=false:=by simp;omega
      cases h2:rdT r with
      | none=>
        have e:rdS bs=none:=by rw [rdS,hr];simp only [Option.bind_some,if_neg ek,h2];rfl
        rw [e]
        have HR2:=Lib.hid h2
        clear hr e h2 ek
        go_enter Tryd.func85,Tryd.ntmps85
        go_wp2_with (first|(go_at_call 64;(with_reducible refine (takeU81_some _ rb bs d (H.out.of_below (HB.out _)) HR.out).mono ?_);rintro e w1 ⟨rfl,hR1,hS1⟩)|(go_at_call 71;(with_reducible refine (rText_none _ rb r d hR1 HR2.out).mono ?_);rintro e w2 ⟨rfl,hS2,hR2⟩))
        exact ⟨rfl,(RStep.of_below rb (HB.out _)).trans (hS1.trans hS2),rfl,hR2⟩
      | some q=>
        obtain ⟨s,r2⟩:=q
        have e:rdS bs=some (⟨false,0,s⟩,r2):=by rw [rdS,hr];simp only [Option.bind_some,if_neg ek,h2]
        rw [e]
        have HR2:=Lib.hid h2
        clear hr e h2 ek
        go_enter Tryd.func85,Tryd.ntmps85
        go_wp2_with (first|(go_at_call 64;(with_reducible refine (takeU81_some _ rb bs d (H.out.of_below (HB.out _)) HR.out).mono ?_);rintro e w1 ⟨rfl,hR1,hS1⟩)|(go_at_call 71;(with_reducible refine (rText_some _ rb r d hR1 HR2.out).mono ?_);rintro e w2 ⟨rfl,hR2,hS2⟩;have C2:=((HC.out 124).next hS1 (by omega)).next hS2 (by omega);have y0:=C2.at_ 0 _ rfl;have y1:=C2.at_ 1 _ rfl;have y2:=C2.at_ 2 _ rfl;have g0:=C2.fr 0;have g1:=C2.fr 1;have g2:=C2.fr 2))
        have hw:w.heap.size≤w.heap.size:=Nat.le_refl _
        have C3:=((C2.set (i:=0) (x:= .bool false) (by simp)).set (i:=1) (x:= .int .i64 0) (by simp)).set (i:=2) (x:= .string s) (by simp)
        refine ⟨rfl,_,results_step (l:=false) (i:=0) (k:=s) rfl C3, ?_⟩
        exact ⟨((((RStep.of_below rb (HB.out _)).trans (hS1.trans hS2)).setNew hw).setNew hw).setNew hw,rfl,((hR2.setNew (by omega)).setNew (by omega)).setNew (by omega)⟩
end Go.Proofs.YthceefjafklcmaaDoor
namespace Go.Proofs.YthceefjafklcmaaDoor
open Go.RowKit
def scells (s:St):List Value:= [.bool s.list, .int .i64 s.i, .string s.key]
def czero:CC:=⟨0,none,0,0, .empty,0,0,0,vzero, .empty⟩
def ccells (c:CC):List Value:= [.int .u8 c.k, .slice c.pa c.pl c.pc, .string c.key, .int .i64 c.i, .int .i64 c.j, .int .i64 c.n, .int .u8 c.v.k, .int .i64 c.v.n, .string c.v.s, .slice c.v.la c.v.ll c.v.lc, .slice c.v.oa c.v.ol c.v.oc, .string c.s]
def PT:World→Nat→Nat→Prop:=fun _ _ _=>True
theorem PT.closed:Closed PT:=fun _ _ _ _ _ _ _ _=>trivial
abbrev RowS (w:World) (base:Nat) (u:Value) (l:List St):Prop:=Row 124 3 w base u l.length (l.flatMap scells) PT
theorem RowS.steps {w:World} {base lo:Nat} {l:List St} {a:Option Addr} {n cap:Nat} (h:RowS w base (.slice a n cap) l) (hlo:lo≤base) (hb:∀s ∈ l,s.Bnd) (hfew:l.length≤1466015503701):
    IsSteps (only (fun b=>lo≤b) w) w.heap.size l a n cap:=by
  obtain ⟨h1,_⟩:=Row.shows PT.closed h hlo
  have hown:=h.own
  have hlt:=h.lt
  rcases hown.2 with ⟨e,hn⟩|⟨g,cap',cur,e,hbg,hg,hnc,hcm,hcs,htake⟩
  · injection e with e1 e2 e3;subst e1 e2 e3
    have:l= [] :=List.length_eq_zero_iff.1 hn
    subst this
    exact .nil _ _
  · injection e with e1 e2 e3;subst e1 e2 e3
    refine ⟨rfl,hnc,by simpa [maxLen] using hcm,hfew,g,0,fun _=>⟨rfl,(hlt g rfl).2⟩,fun i hi=>⟨?_,hb _ (List.getElem_mem hi)⟩⟩
    have hc:∀t x,t<3→(scells l[i])[t]? =some x→(only (fun b=>lo≤b) w).cell? ⟨g,0+i*3+t,none⟩=some x:=fun t x ht hx=>by
      rw [Nat.zero_add]
      exact h1 g rfl (i*3+t) x ((flat_get scells 3 (fun _=>rfl) l i t hi ht).trans hx)
    exact ⟨hc 0 _ (by omega) rfl,hc 1 _ (by omega) rfl,hc 2 _ (by omega) rfl⟩
structure LS (w wr:World) (rb cb:Nat) (d:Int) (kd:Nat) (q:List UInt8) (j:Nat) (a:Option Addr) (m c:Nat) (xs:List St) (rj:List UInt8):Prop where
  rd:rdL (fun x=>rdS x) j q=some (xs,rj)
  len:xs.length=j
  bnd:∀s ∈ xs,s.Bnd
  rdr:Rdr wr rb rj d
  st:RStep w wr rb
  res:BC wr w.heap.size (ccells czero)
  box:BC wr cb (ccells ⟨kd,a,m,c, .empty,0,0,0,vzero, .empty⟩)
  row:RowS wr (cb+1) (.slice a m c) xs
  lo:w.heap.size+1≤cb
  lt:rb<w.heap.size
theorem LS.round {w wr w4 w5:World} {rb cb:Nat} {d:Int} {kd:Nat} {q:List UInt8} {j:Nat} {a:Option Addr} {m c:Nat} {xs:List St} {rj r2:List UInt8} {x:St} {g cap:Nat} {t:TypeId}
    (h:LS w wr rb cb d kd q j a m c xs rj) (hx:rdS rj=some (x,r2)) (hS:RStep wr.drew w4 rb) (hR:Rdr w4 rb r2 d)
    (hown:w5.ownsRow (cb+1) 124 3 (.slice (some ⟨g,0,none⟩) (j+1) cap) (j+1) (xs.flatMap scells++scells x)) (hg:(w4.alloc (.cells #[.bool x.list, .int .i64 x.i, .string x.key] t)).grownBy w5 (Value.slice a m c).ownBlock)
    (hat:(Value.slice a m c).ownBlock=some g∨g=w4.heap.size+1):
    LS w (w5.setCell ⟨cb,1,none⟩ (.slice (some ⟨g,0,none⟩) (j+1) cap)) rb cb d kd q (j+1) (some ⟨g,0,none⟩) (j+1) cap (xs++ [x]) r2:=by
  have hlo:=h.lo
  have hlt:=h.lt
  have hdz:wr.drew.heap.size=wr.heap.size:=rfl
  have hb1:=drew_below wr
  have hrow:=(h.row.later PT.closed (.of_below rb hb1) (by omega)).later PT.closed hS (by omega)
  have hrlt:∀b,(Value.slice a m c).ownBlock=some b→cb+1≤b∧b<wr.heap.size:=h.row.lt
  have hba:Below w4.heap.size w4 (w4.alloc (.cells #[.bool x.list, .int .i64 x.i, .string x.key] t)):=(Below.refl _ _).alloc (Nat.le_refl _) _
  have hsz4:wr.heap.size≤w4.heap.size:=hS.size
  have hclt:=h.box.lt
  have hgb:Below (cb+1) (w4.alloc (.cells #[.bool x.list, .int .i64 x.i, .string x.key] t)) w5:=grown_below hg (fun b hb=>(hrlt b hb).1) (by simp;omega)
  have hb45:Below (cb+1) w4 w5:=(hba.mono (by omega)).trans hgb
  have hpush:=Row.push PT.closed hrow hba hg (u':= .slice (some ⟨g,0,none⟩) (j+1) cap) (news:=scells x) (by rw [h.len];exact hown) (by
    rcases hat with e|e
    · left;rw [e];rfl
    · right;intro b hb;have:g=b:=by simpa [Value.ownBlock] using hb
      omega) (trivial:PT _ _ _) (fun _ _ _ _ _=>trivial)
  have hres:=((h.res.keep hb1 (by omega)).next hS (by omega)).keep hb45 (by omega)
  have hbox:=((h.box.keep hb1 hclt).next hS (by omega)).keep hb45 (by omega)
  have hst:RStep w w5 rb:=by
    have h1:RStep w w4 rb:=(h.st.trans (.of_below rb hb1)).trans hS
    exact ⟨hb45.os.trans h1.os,hb45.tape.trans h1.tape,hb45.output.trans h1.output,Nat.le_trans h1.size hb45.size,fun k hk hr=>(hb45.block k (by omega)).trans (h1.block k hk hr)⟩
  refine ⟨?_,by simp [h.len],fun s hs=> ?_,(hR.below hb45 (by omega)).setNew (by omega),hst.setNew (by omega),hres.far (by omega),hbox.set (i:=1) (x:= .slice (some ⟨g,0,none⟩) (j+1) cap) (by simp [ccells]), ?_,hlo,hlt⟩
  · rw [rdL,h.rd];simp only [Option.bind_some,hx]
  · rcases List.mem_append.1 hs with h1|h1
    · exact h.bnd s h1
    · rw [List.mem_singleton.1 h1];exact rdS_bnd hx
  · have hr2:RowS w5 (cb+1) (.slice (some ⟨g,0,none⟩) (j+1) cap) (xs++ [x]):=by
      show Row _ _ _ _ _ _ _ _
      rw [flat_snoc,List.length_append,List.length_singleton]
      exact hpush
    exact hr2.set PT.closed (by omega)
def RCPost (w:World) (rb:Nat) (d:Int) (r:Option (Cm×List UInt8)) (e:Ending) (w':World):Prop:=
  RStep w w' rb∧match r with
    |some (x,r)=>(∃c:CC,e= .returned (.agg #[.int .u8 c.k, .slice c.pa c.pl c.pc, .string c.key, .int .i64 c.i, .int .i64 c.j, .int .i64 c.n, .int .u8 c.v.k, .int .i64 c.v.n, .string c.v.s, .slice c.v.la c.v.ll c.v.lc, .slice c.v.oa c.v.ol c.v.oc, .string c.s])∧IsComp (only (fun b=>w.heap.size≤b) w') w'.heap.size x c)∧Rdr w' rb r d
    |none=>e= .panicked [short] ∧∃bs',Rdr w' rb bs' d
structure CB (w W:World) (rb cb:Nat) (d:Int) (r:List UInt8) (p:List St) (v:V) (c:CC):Prop where
  rdr:Rdr W rb r d
  st:RStep w W rb
  res:BC W w.heap.size (ccells czero)
  box:BC W cb (ccells c)
  stp:IsSteps (only (fun b=>cb+1≤b) W) W.heap.size p c.pa c.pl c.pc
  val:IsVal (only (fun b=>cb+1≤b) W) W.heap.size v c.v
  lo:w.heap.size+1≤cb
  lt:rb<w.heap.size
theorem isSteps_far {W W':World} {b base:Nat} {p:List St} {a:Option Addr} {n c:Nat} (h:IsSteps (only (fun k=>base≤k) W) W.heap.size p a n c) (s:RStep W W' b) (hb:b<base):IsSteps (only (fun k=>base≤k) W') W'.heap.size p a n c:=
  (h.sub (shows_step fun k hk hl=>⟨hk,s.block k hl (by omega)⟩)).more s.size
theorem CB.next {w W W':World} {rb cb:Nat} {d:Int} {r r':List UInt8} {p:List St} {v:V} {c:CC} (h:CB w W rb cb d r p v c) (s:RStep W W' rb) (hR:Rdr W' rb r' d):CB w W' rb cb d r' p v c:=by
  have hlo:=h.lo;have hlt:=h.lt
  exact ⟨hR,h.st.trans s,h.res.next s (by omega),h.box.next s (by omega),isSteps_far h.stp s (by omega),isVal_far h.val s (by omega),hlo,hlt⟩
theorem CB.start {w wr:World} {rb cb:Nat} {d:Int} {kd:Nat} {q:List UInt8} {j:Nat} {a:Option Addr} {m c:Nat} {xs:List St} {rj:List UInt8} (h:LS w wr rb cb d kd q j a m c xs rj) (hfew:j≤1466015503701):CB w wr rb cb d rj xs V.none ⟨kd,a,m,c, .empty,0,0,0,vzero, .empty⟩:=
  ⟨h.rdr,h.st,h.res,h.box,h.row.steps (Nat.le_refl _) h.bnd (by rw [h.len];exact hfew),isVal_none _ _,h.lo,h.lt⟩
theorem CB.set1 {w W W':World} {rb cb:Nat} {d:Int} {r:List UInt8} {p:List St} {v:V} {c c':CC} (h:CB w W rb cb d r p v c) (s:RStep W W' cb) (hbox:BC W' cb (ccells c')) (e1:c'.pa=c.pa) (e2:c'.pl=c.pl) (e3:c'.pc=c.pc) (e4:c'.v=c.v):CB w W' rb cb d r p v c':=by
  have hlo:=h.lo;have hlt:=h.lt
  have hst:RStep w W' rb:=⟨s.os.trans h.st.os,s.tape.trans h.st.tape,s.output.trans h.st.output,Nat.le_trans h.st.size s.size,fun k hk hr=>(s.block k (Nat.lt_of_lt_of_le hk h.st.size) (by omega)).trans (h.st.block k hk hr)⟩
  refine ⟨h.rdr.below (s.below (Nat.le_of_lt h.box.lt)) (by omega),hst,h.res.next s (by omega),hbox, ?_, ?_,hlo,hlt⟩
  · rw [e1,e2,e3];exact isSteps_far h.stp s (by omega)
  · rw [e4];exact isVal_far h.val s (by omega)
theorem CB.value {w W W' W2:World} {rb cb:Nat} {d:Int} {r r':List UInt8} {p:List St} {v v':V} {c c':CC} (h:CB w W rb cb d r p v c) (s:RStep W W' rb) (hR:Rdr W' rb r' d) (hv:IsVal (only (fun b=>W.heap.size≤b) W') W'.heap.size v' c'.v) (s2:RStep W' W2 cb) (hbox:BC W2 cb (ccells c')) (e1:c'.pa=c.pa) (e2:c'.pl=c.pl) (e3:c'.pc=c.pc):CB w W2 rb cb d r' p v' c':=by
  have hlo:=h.lo;have hlt:=h.lt
  have hcl:=h.box.lt
  have h1:=h.next s hR
  have hst:RStep w W2 rb:=⟨s2.os.trans h1.st.os,s2.tape.trans h1.st.tape,s2.output.trans h1.st.output,Nat.le_trans h1.st.size s2.size,fun k hk hr=>(s2.block k (Nat.lt_of_lt_of_le hk h1.st.size) (by omega)).trans (h1.st.block k hk hr)⟩
  refine ⟨h1.rdr.below (s2.below (Nat.le_of_lt h1.box.lt)) (by omega),hst,h1.res.next s2 (by omega),hbox, ?_, ?_,hlo,hlt⟩
  · rw [e1,e2,e3];exact isSteps_far h1.stp s2 (by omega)
  · exact isVal_far ((hv.sub (shows_step fun k hk hl=>⟨by omega,rfl⟩))) s2 (by omega)
theorem results_comp {tmps:Array Value} {W:World} {b:Nat} {c:CC} (ht:tmps[2]? =some (.pointer (some ⟨b,0,none⟩))) (h:BC W b (ccells c)):(results Tryd.f67 tmps).run Tryd.prog W= .ok (.agg #[.int .u8 c.k, .slice c.pa c.pl c.pc, .string c.key, .int .i64 c.i, .int .i64 c.j, .int .i64 c.n, .int .u8 c.v.k, .int .i64 c.v.n, .string c.v.s, .slice c.v.la c.v.ll c.v.lc, .slice c.v.oa c.v.ol c.v.oc, .string c.s]) W:=by
  have h0:=h.at_ 0 _ rfl
  have h1:=h.at_ 1 _ rfl
  have h2:=h.at_ 2 _ rfl
  have h3:=h.at_ 3 _ rfl
  have h4:=h.at_ 4 _ rfl
  have h5:=h.at_ 5 _ rfl
  have h6:=h.at_ 6 _ rfl
  have h7:=h.at_ 7 _ rfl
  have h8:=h.at_ 8 _ rfl
  have h9:=h.at_ 9 _ rfl
  have h10:=h.at_ 10 _ rfl
  have h11:=h.at_ 11 _ rfl
  simp [results,Tryd.results67,go_sem,ht,h0,h1,h2,h3,h4,h5,h6,h7,h8,h9,h10,h11]
theorem CB.leave {w W:World} {rb cb:Nat} {d:Int} {r:List UInt8} {p:List St} {v:V} {c:CC} {x:Cm} {a:Act} (h:CB w W rb cb d r p v c) (hb:c.Bnd) (hx:x=⟨c.k,p,c.key,c.i,c.j,c.n,v,c.s⟩) (hd:a.defers= []) (ht:a.tmps[2]? =some (.pointer (some ⟨w.heap.size,0,none⟩))):
    bodyPost Tryd.prog Tryd.f67 (RCPost w rb d (some (x,r))) .ret a ((((((((((((W.setCell ⟨w.heap.size,0,none⟩ (.int .u8 c.k)).setCell ⟨w.heap.size,1,none⟩ (.slice c.pa c.pl c.pc)).setCell ⟨w.heap.size,2,none⟩ (.string c.key)).setCell ⟨w.heap.size,3,none⟩ (.int .i64 c.i)).setCell ⟨w.heap.size,4,none⟩ (.int .i64 c.j)).setCell ⟨w.heap.size,5,none⟩ (.int .i64 c.n)).setCell ⟨w.heap.size,6,none⟩ (.int .u8 c.v.k)).setCell ⟨w.heap.size,7,none⟩ (.int .i64 c.v.n)).setCell ⟨w.heap.size,8,none⟩ (.string c.v.s)).setCell ⟨w.heap.size,9,none⟩ (.slice c.v.la c.v.ll c.v.lc)).setCell ⟨w.heap.size,10,none⟩ (.slice c.v.oa c.v.ol c.v.oc)).setCell ⟨w.heap.size,11,none⟩ (.string c.s)):=by
  have hlo:=h.lo;have hlt:=h.lt
  have hs:RStep W ((((((((((((W.setCell ⟨w.heap.size,0,none⟩ (.int .u8 c.k)).setCell ⟨w.heap.size,1,none⟩ (.slice c.pa c.pl c.pc)).setCell ⟨w.heap.size,2,none⟩ (.string c.key)).setCell ⟨w.heap.size,3,none⟩ (.int .i64 c.i)).setCell ⟨w.heap.size,4,none⟩ (.int .i64 c.j)).setCell ⟨w.heap.size,5,none⟩ (.int .i64 c.n)).setCell ⟨w.heap.size,6,none⟩ (.int .u8 c.v.k)).setCell ⟨w.heap.size,7,none⟩ (.int .i64 c.v.n)).setCell ⟨w.heap.size,8,none⟩ (.string c.v.s)).setCell ⟨w.heap.size,9,none⟩ (.slice c.v.la c.v.ll c.v.lc)).setCell ⟨w.heap.size,10,none⟩ (.slice c.v.oa c.v.ol c.v.oc)).setCell ⟨w.heap.size,11,none⟩ (.string c.s)) w.heap.size:=(((((((((((RStep.self.trans RStep.self).trans RStep.self).trans RStep.self).trans RStep.self).trans RStep.self).trans RStep.self).trans RStep.self).trans RStep.self).trans RStep.self).trans RStep.self).trans RStep.self)
  have hbc:BC ((((((((((((W.setCell ⟨w.heap.size,0,none⟩ (.int .u8 c.k)).setCell ⟨w.heap.size,1,none⟩ (.slice c.pa c.pl c.pc)).setCell ⟨w.heap.size,2,none⟩ (.string c.key)).setCell ⟨w.heap.size,3,none⟩ (.int .i64 c.i)).setCell ⟨w.heap.size,4,none⟩ (.int .i64 c.j)).setCell ⟨w.heap.size,5,none⟩ (.int .i64 c.n)).setCell ⟨w.heap.size,6,none⟩ (.int .u8 c.v.k)).setCell ⟨w.heap.size,7,none⟩ (.int .i64 c.v.n)).setCell ⟨w.heap.size,8,none⟩ (.string c.v.s)).setCell ⟨w.heap.size,9,none⟩ (.slice c.v.la c.v.ll c.v.lc)).setCell ⟨w.heap.size,10,none⟩ (.slice c.v.oa c.v.ol c.v.oc)).setCell ⟨w.heap.size,11,none⟩ (.string c.s)) w.heap.size (ccells c):=((((((((((((h.res.set (i:=0) (x:= .int .u8 c.k) (by simp [ccells])).set (i:=1) (x:= .slice c.pa c.pl c.pc) (by simp [ccells])).set (i:=2) (x:= .string c.key) (by simp [ccells])).set (i:=3) (x:= .int .i64 c.i) (by simp [ccells])).set (i:=4) (x:= .int .i64 c.j) (by simp [ccells])).set (i:=5) (x:= .int .i64 c.n) (by simp [ccells])).set (i:=6) (x:= .int .u8 c.v.k) (by simp [ccells])).set (i:=7) (x:= .int .i64 c.v.n) (by simp [ccells])).set (i:=8) (x:= .string c.v.s) (by simp [ccells])).set (i:=9) (x:= .slice c.v.la c.v.ll c.v.lc) (by simp [ccells])).set (i:=10) (x:= .slice c.v.oa c.v.ol c.v.oc) (by simp [ccells])).set (i:=11) (x:= .string c.s) (by simp [ccells]))
  have hst:RStep w ((((((((((((W.setCell ⟨w.heap.size,0,none⟩ (.int .u8 c.k)).setCell ⟨w.heap.size,1,none⟩ (.slice c.pa c.pl c.pc)).setCell ⟨w.heap.size,2,none⟩ (.string c.key)).setCell ⟨w.heap.size,3,none⟩ (.int .i64 c.i)).setCell ⟨w.heap.size,4,none⟩ (.int .i64 c.j)).setCell ⟨w.heap.size,5,none⟩ (.int .i64 c.n)).setCell ⟨w.heap.size,6,none⟩ (.int .u8 c.v.k)).setCell ⟨w.heap.size,7,none⟩ (.int .i64 c.v.n)).setCell ⟨w.heap.size,8,none⟩ (.string c.v.s)).setCell ⟨w.heap.size,9,none⟩ (.slice c.v.la c.v.ll c.v.lc)).setCell ⟨w.heap.size,10,none⟩ (.slice c.v.oa c.v.ol c.v.oc)).setCell ⟨w.heap.size,11,none⟩ (.string c.s)) rb:=⟨hs.os.trans h.st.os,hs.tape.trans h.st.tape,hs.output.trans h.st.output,Nat.le_trans h.st.size hs.size,fun k hk hr=>(hs.block k (Nat.lt_of_lt_of_le hk h.st.size) (by omega)).trans (h.st.block k hk hr)⟩
  have hstp:=isSteps_far h.stp hs (by omega)
  have hval:=isVal_far h.val hs (by omega)
  refine ⟨hd,_,results_comp ht hbc,hst,⟨c,rfl, ?_⟩,h.rdr.below (hs.below (by have:=h.res.lt;omega)) hlt⟩
  subst hx
  exact .mk c p v hb (hstp.sub (shows_step fun k hk _=>⟨by omega,rfl⟩)) (hval.sub (shows_step fun k hk _=>⟨by omega,rfl⟩))
end Go.Proofs.YthceefjafklcmaaDoor
namespace Go.Proofs.YthceefjafklcmaaDoor
open Go.RowKit
theorem rdN_len {k n:Nat} {bs r:List UInt8} (h:rdN k bs=some (n,r)):k+r.length=bs.length:=by
  obtain ⟨h1,_,rfl⟩:=rdN_some h
  rw [List.length_drop];omega
theorem rdM_len {k n:Nat} {bs r:List UInt8} (h:rdM k bs=some (n,r)):k+r.length=bs.length:=rdN_len (rdM_some h).1
theorem rdT_len {bs r:List UInt8} {s:ByteArray} (h:rdT bs=some (s,r)):(encS s).length+r.length=bs.length:=by
  obtain ⟨n,q,h1,rfl,rfl⟩:=rdT_some h
  have h2:=rdM_len h1
  have h3:=(rdM_some h1).2
  have h4:(⟨(q.take n).toArray⟩:ByteArray).size=(q.take n).length:=by simp [ByteArray.size]
  rw [encS_length,h4,List.length_take,List.length_drop]
  omega
theorem rdL_len {α:Type} {f:List UInt8→Option (α×List UInt8)} (enc:List α→List UInt8) (wt:List α→Nat) (he0:(enc []).length=0) (hw0:wt [] =0)
    (hs:∀xs x bs r,f bs=some (x,r)→wt xs≤(enc xs).length→(enc (xs++ [x])).length+r.length=(enc xs).length+bs.length∧wt (xs++ [x])≤(enc (xs++ [x])).length):
    ∀(n:Nat) (bs:List UInt8) (xs:List α) (r:List UInt8),rdL f n bs=some (xs,r)→(enc xs).length+r.length=bs.length∧wt xs≤(enc xs).length:=by
  intro n
  induction n with
  | zero=>
    intro bs xs r h
    rw [rdL] at h
    injection h with h;injection h with h1 h2;subst h1 h2
    exact ⟨by omega,by omega⟩
  | succ n ih=>
    intro bs xs r h
    rw [rdL] at h
    cases h1:rdL f n bs with
    |none=>rw [h1] at h;cases h
    | some p=>
      obtain ⟨ys,q⟩:=p
      rw [h1] at h
      simp only [Option.bind_some] at h
      cases h2:f q with
      |none=>rw [h2] at h;cases h
      | some t=>
        obtain ⟨x,q2⟩:=t
        rw [h2] at h
        simp only [Option.bind_some] at h
        injection h with h;injection h with h3 h4;subst h3 h4
        obtain ⟨a,b⟩:=ih bs ys q h1
        obtain ⟨c,d⟩:=hs ys x q q2 h2 b
        exact ⟨by omega,d⟩
theorem rdV_len (k:Nat):∀(bs:List UInt8) (v:V) (r:List UInt8),rdV k bs=some (v,r)→(encV v).length+r.length=bs.length∧v.weight≤(encV v).length:=by
  induction k with
  |zero=>intro bs v r h;cases h
  | succ k ih =>
    intro bs v r h
    rw [rdV] at h
    cases h1:rdN 1 bs with
    |none=>rw [h1] at h;cases h
    | some p =>
      obtain ⟨kd,q⟩:=p
      have hq:=rdN_len h1
      rw [h1] at h
      simp only [Option.bind_some] at h
      by_cases e12:kd=1∨kd=2
      · rw [if_pos e12] at h
        cases h2:rdN 8 q with
        |none=>rw [h2] at h;cases h
        | some p2=>
          obtain ⟨n,q2⟩:=p2
          have hq2:=rdN_len h2
          rw [h2] at h
          simp only [Option.bind_some] at h
          injection h with h;injection h with h3 h4;subst h3 h4
          have e12':(kd:Int)=1∨(kd:Int)=2:=by omega
          rw [encV,if_pos e12',List.length_append,be_length,be_length]
          simp only [V.weight,weightL,weightO,show ByteArray.empty.size=0 from rfl]
          omega
      · rw [if_neg e12] at h
        have e12':¬((kd:Int)=1∨(kd:Int)=2):=by omega
        by_cases e3:kd=3
        · rw [if_pos e3] at h
          cases h2:rdT q with
          |none=>rw [h2] at h;cases h
          | some p2=>
            obtain ⟨s,q2⟩:=p2
            have hq2:=rdT_len h2
            rw [h2] at h
            simp only [Option.bind_some] at h
            injection h with h;injection h with h3 h4;subst h3 h4
            have e3':(kd:Int)=3:=by omega
            rw [encV,if_neg e12',if_pos e3',List.length_append,be_length]
            rw [encS_length] at*
            simp only [V.weight,weightL,weightO]
            omega
        · rw [if_neg e3] at h
          have e3':¬(kd:Int)=3:=by omega
          by_cases e4:kd=4
          · rw [if_pos e4] at h
            have e4':(kd:Int)=4:=by omega
            cases h2:rdM 4 q with
            |none=>rw [h2] at h;cases h
            | some p2=>
              obtain ⟨n,q2⟩:=p2
              have hq2:=rdM_len h2
              rw [h2] at h
              simp only [Option.bind_some] at h
              cases h3:rdL (fun x=>rdV k x) n q2 with
              |none=>rw [h3] at h;cases h
              | some p3=>
                obtain ⟨l,q3⟩:=p3
                rw [h3] at h
                simp only [Option.bind_some] at h
                injection h with h;injection h with h4 h5;subst h4 h5
                obtain ⟨a,b⟩:=rdL_len (f:=fun x=>rdV k x) encL weightL rfl rfl (fun xs x bs r hx hw=>by
                  obtain ⟨c,d⟩:=ih bs x r hx
                  rw [encL_append,List.length_append,weightL_append]
                  simp only [encL,weightL,List.append_nil]
                  omega) n q2 l q3 h3
                rw [encV,if_neg e12',if_neg e3',if_pos e4',List.length_append,List.length_append,be_length,be_length]
                simp only [V.weight,weightO,show ByteArray.empty.size=0 from rfl]
                omega
          · rw [if_neg e4] at h
            have e4':¬(kd:Int)=4:=by omega
            by_cases e5:kd=5
            · rw [if_pos e5] at h
              have e5':(kd:Int)=5:=by omega
              cases h2:rdM 4 q with
              |none=>rw [h2] at h;cases h
              | some p2 =>
                obtain ⟨n,q2⟩:=p2
                have hq2:=rdM_len h2
                rw [h2] at h
                simp only [Option.bind_some] at h
                cases h3:rdL (fun x=>(rdT x).bind fun y=>(rdV k y.2).bind fun z=>some ((y.1,z.1),z.2)) n q2 with
                |none=>rw [h3] at h;cases h
                | some p3=>
                  obtain ⟨o,q3⟩:=p3
                  rw [h3] at h
                  simp only [Option.bind_some] at h
                  injection h with h;injection h with h4 h5;subst h4 h5
                  obtain ⟨a,b⟩:=rdL_len (f:=fun x=>(rdT x).bind fun y=>(rdV k y.2).bind fun z=>some ((y.1,z.1),z.2)) encO weightO rfl rfl (fun xs x bs r hx hw=>by
                    cases g1:rdT bs with
                    |none=>rw [g1] at hx;cases hx
                    | some t1=>
                      obtain ⟨s,r1⟩:=t1
                      rw [g1] at hx
                      simp only [Option.bind_some] at hx
                      cases g2:rdV k r1 with
                      |none=>rw [g2] at hx;cases hx
                      | some t2=>
                        obtain ⟨y,r2⟩:=t2
                        rw [g2] at hx
                        simp only [Option.bind_some] at hx
                        injection hx with hx;injection hx with hx1 hx2;subst hx1 hx2
                        obtain ⟨c,d⟩:=ih r1 y r2 g2
                        have e:=rdT_len g1
                        rw [encO_append,List.length_append,weightO_append]
                        simp only [encO,encF,weightO,weightF,List.append_nil,List.length_append]
                        rw [encS_length] at*
                        omega) n q2 o q3 h3
                  rw [encV,if_neg e12',if_neg e3',if_neg e4',if_pos e5',List.length_append,List.length_append,be_length,be_length]
                  simp only [V.weight,weightL,show ByteArray.empty.size=0 from rfl]
                  omega
            · rw [if_neg e5] at h
              have e5':¬(kd:Int)=5:=by omega
              injection h with h;injection h with h3 h4;subst h3 h4
              rw [encV,if_neg e12',if_neg e3',if_neg e4',if_neg e5',List.append_nil,be_length]
              simp only [V.weight,weightL,weightO,show ByteArray.empty.size=0 from rfl]
              omega
noncomputable def eqBs (a b:List UInt8):Bool:= @decide (a=b) (Classical.propDecidable _)
theorem equal_any (w:World) (B B':Nat) (a a':Option Addr) (n n' c c':Nat) (bs bs':List UInt8) (h:IsB w B a n c bs) (h':IsB w B' a' n' c' bs'):
    Calls Tryd.prog 13 #[.slice a n c, .slice a' n' c'] w fun e w'=>e= .returned (.bool (eqBs bs bs'))∧w'=w:=by
  have k1:=conv_isB h
  have k2:=conv_isB h'
  clear h h'
  by_cases e:bs=bs'
  · have hE:eqBs bs bs'=true:=by simp [eqBs,e]
    rw [hE]
    subst e
    go_enter Tryd.func13,Tryd.ntmps13
    go_wp2_with fail
    go_returns
    exact ⟨by first|rfl|simp,rfl⟩
  · have hE:eqBs bs bs'=false:=by simp [eqBs,e]
    rw [hE]
    have HE:=Lib.hid e
    clear e
    go_enter Tryd.func13,Tryd.ntmps13
    go_wp2_with fail
    go_returns
    exact ⟨by simp;exact HE.out,rfl⟩
end Go.Proofs.YthceefjafklcmaaDoor
namespace Go.Proofs.YthceefjafklcmaaDoor
open Go.RowKit
theorem rdS_len {bs r:List UInt8} {s:St} (h:rdS bs=some (s,r)):(encSt s).length+r.length=bs.length:=by
  rw [rdS,Option.bind_eq_some_iff] at h
  obtain ⟨p,hp,h⟩:=h
  have h1:=rdN_len hp
  by_cases e:p.1=1
  · rw [if_pos e,Option.bind_eq_some_iff] at h
    obtain ⟨q,hq,h⟩:=h
    have h2:=rdN_len hq
    injection h with h;injection h with ha hb;subst ha hb
    rw [encSt,if_pos rfl,List.length_append,be_length,be_length]
    omega
  · rw [if_neg e,Option.bind_eq_some_iff] at h
    obtain ⟨q,hq,h⟩:=h
    have h2:=rdT_len hq
    injection h with h;injection h with ha hb;subst ha hb
    rw [encSt,if_neg (by simp),List.length_append,be_length]
    dsimp only
    omega
theorem rdI_len {bs r:List UInt8} {i:Int} (h:rdI bs=some (i,r)):(be (i % 18446744073709551616).toNat 8).length+r.length=bs.length:=by
  rw [rdI,Option.bind_eq_some_iff] at h
  obtain ⟨q,hq,h⟩:=h
  have h2:=rdN_len hq
  injection h with h;injection h with ha hb;subst hb
  rw [be_length];omega
theorem rdIf_len {α:Type} {b:Bool} {z x:α} {f:List UInt8→Option (α×List UInt8)} {bs r:List UInt8} (enc:α→List UInt8) (hf:∀bs x r,f bs=some (x,r)→(enc x).length+r.length=bs.length) (h:rdIf b z f bs=some (x,r)):
    (if b=true then enc x else []).length+r.length=bs.length:=by
  rw [rdIf] at h
  by_cases e:b=true
  · rw [if_pos e] at h;rw [if_pos e];exact hf _ _ _ h
  · rw [if_neg e] at h;rw [if_neg e]
    injection h with h;injection h with ha hb;subst hb
    simp
theorem rdIf_wt {b:Bool} {x:V} {bs r:List UInt8} (h:rdIf b V.none (rdV 18) bs=some (x,r)):x.weight≤bs.length+1:=by
  rw [rdIf] at h
  by_cases e:b=true
  · rw [if_pos e] at h
    have:=rdV_len 18 _ _ _ h
    omega
  · rw [if_neg e] at h
    injection h with h;injection h with ha hb;subst ha
    simp [V.none,V.weight,weightL,weightO]
theorem rdC_len {bs r:List UInt8} {c:Cm} (h:rdC bs=some (c,r)):(encC c).length+r.length=bs.length∧c.v.weight≤bs.length+1:=by
  rw [rdC] at h
  simp only [Option.bind_eq_some_iff] at h
  obtain ⟨p,hp,n,hn,q,hq,k,hk,i,hi,j,hj,m,hm,v,hv,s,hs,he⟩:=h
  have h1:=rdN_len hp
  have h2:=rdM_len hn
  have h3:=(rdL_len (f:=rdS) encP (fun _=>0) rfl rfl (fun xs x bs r hx _=>by
    have:=rdS_len hx
    rw [encP_append,List.length_append]
    simp only [encP,List.append_nil]
    omega) _ _ _ _ hq).1
  have h4:=rdIf_len encS (fun _ _ _ g=>rdT_len g) hk
  have h5:=rdIf_len (fun i:Int=>be (i % 18446744073709551616).toNat 8) (fun _ _ _ g=>rdI_len g) hi
  have h6:=rdIf_len (fun i:Int=>be (i % 18446744073709551616).toNat 8) (fun _ _ _ g=>rdI_len g) hj
  have h7:=rdIf_len (fun i:Int=>be (i % 18446744073709551616).toNat 8) (fun _ _ _ g=>rdI_len g) hm
  have h8:=rdIf_len encV (fun _ _ _ g=>(rdV_len 18 _ _ _ g).1) hv
  have h9:=rdIf_len encS (fun _ _ _ g=>rdT_len g) hs
  have h10:=rdIf_wt hv
  injection he with he;injection he with ha hb;subst ha hb
  refine ⟨?_,by dsimp only;omega⟩
  rw [encC,encT]
  simp only [List.length_append,be_length]
  omega
theorem rdCs_len {n:Nat} {bs r:List UInt8} {l:List Cm} (h:rdL rdC n bs=some (l,r)):(encCs l).length+r.length=bs.length∧∀x ∈ l,x.v.weight≤bs.length+1:=by
  induction n generalizing bs l r with
  | zero=>
    rw [rdL] at h
    injection h with h;injection h with ha hb;subst ha hb
    exact ⟨by simp [encCs],by simp⟩
  | succ n ih=>
    rw [rdL] at h
    simp only [Option.bind_eq_some_iff] at h
    obtain ⟨p,hp,q,hq,he⟩:=h
    obtain ⟨a,b⟩:=ih hp
    obtain ⟨c,d⟩:=rdC_len hq
    injection he with he;injection he with ha hb;subst ha hb
    refine ⟨?_,fun x hx=> ?_⟩
    · rw [encCs_append,List.length_append]
      simp only [encCs,List.append_nil]
      omega
    · rcases List.mem_append.mp hx with hx|hx
      · exact b x hx
      · rw [List.mem_singleton] at hx;subst hx;omega
theorem rdE_len {bs r:List UInt8} {e:En} (h:rdE bs=some (e,r)):(encE e).length+r.length=bs.length∧e.v.weight≤bs.length+1∧∀x ∈ e.op,x.v.weight≤bs.length+1:=by
  have hw:V.none.weight=1:=by simp [V.none,V.weight,weightL,weightO]
  rw [rdE] at h
  simp only [Option.bind_eq_some_iff] at h
  obtain ⟨p,hp,s,hs,q,hq,h⟩:=h
  have h1:=rdN_len hp
  have h2:=rdN_len hs
  have h3:=rdN_len hq
  by_cases e1:p.1=1
  · rw [if_pos e1,Option.bind_eq_some_iff] at h
    obtain ⟨v,hv,he⟩:=h
    have h4:=rdV_len 18 _ _ _ hv
    injection he with he;injection he with ha hb;subst ha hb
    refine ⟨?_,by dsimp only;omega,by simp⟩
    have e1':(p.1:Int)=1:=by omega
    simp only [encE,if_pos e1',List.length_append,be_length]
    omega
  · rw [if_neg e1] at h
    have e1':¬(p.1:Int)=1:=by omega
    by_cases e2:p.1=2
    · rw [if_pos e2,Option.bind_eq_some_iff] at h
      obtain ⟨n,hn,h⟩:=h
      rw [Option.bind_eq_some_iff] at h
      obtain ⟨l,hl,he⟩:=h
      have h4:=rdM_len hn
      obtain ⟨h5,h6⟩:=rdCs_len hl
      injection he with he;injection he with ha hb;subst ha hb
      have e2':(p.1:Int)=2:=by omega
      refine ⟨?_,by dsimp only;omega,fun x hx=>by have:=h6 x hx;omega⟩
      simp only [encE,if_neg e1',if_pos e2',List.length_append,be_length]
      omega
    · rw [if_neg e2] at h
      have e2':¬(p.1:Int)=2:=by omega
      injection h with he;injection he with ha hb;subst ha hb
      refine ⟨?_,by dsimp only;omega,by simp⟩
      simp only [encE,if_neg e1',if_neg e2',List.length_append,be_length,List.length_nil]
      omega
end Go.Proofs.YthceefjafklcmaaDoor
namespace Go.Proofs.YthceefjafklcmaaDoor
open Go.RowKit
theorem short_asserted (w:World):(Instr.typeAssert (.iface 108 (.agg #[])) 20 108 true).run Tryd.prog w= .ok (.tuple #[.agg #[], .bool true]) w:=by kernel_rfl
theorem short_not_nil (w:World):(binOp .eql 20 (.iface 108 (.agg #[])) .nilIface).run Tryd.prog w= .ok (.bool false) w:=by kernel_rfl
theorem catchV_idle (nb ob eb:Nat) (w:World):
    CallsD Tryd.prog 68 #[.pointer (some ⟨nb,0,none⟩), .pointer (some ⟨ob,0,none⟩), .pointer (some ⟨eb,0,none⟩)] .returning w fun e u' w'=>e= .returned (.tuple #[])∧u'= .returning∧w'=w:=by
  refine callsD_of_wpS Tryd.func68 rfl fun c₀ cs hu=> ?_
  apply wpS_seq
  apply wpS_region
  simp [wpOpsS,go_sem,recoverD,hu,Tryd.ntmps68,Exit.thenS]
  refine wpS_of_wp ?_
  go_wp2_with fail
  cases c₀
  simp_all [bodyPostS,results,Tryd.results68]
set_option maxHeartbeats 2000000 in
set_option maxRecDepth 100000 in
theorem catchV_short (nb ob eb:Nat) (w:World) (hn:BC w nb [.int .u8 0, .int .i64 0, .string { data:= #[] }, .slice none 0 0, .slice none 0 0]) (cs0:List Value) (ho:BC w ob cs0) (hl:cs0.length=5) (x0:Value) (he:BC w eb [x0]) (h2:ob≠eb) (h3:eb≠nb):
    CallsD Tryd.prog 68 #[.pointer (some ⟨nb,0,none⟩), .pointer (some ⟨ob,0,none⟩), .pointer (some ⟨eb,0,none⟩)] (.panicking [short]) w fun e u' w'=>e= .returned (.tuple #[])∧u'= .panicking [{ v:= .iface 108 (.agg #[]),recovered:=true }] ∧w'=(((((((w.setCell ⟨ob,0,none⟩ (.int .u8 0)).setCell ⟨ob,1,none⟩ (.int .i64 0)).setCell ⟨ob,2,none⟩ (.string { data:= #[] })).setCell ⟨ob,3,none⟩ (.slice none 0 0)).setCell ⟨ob,4,none⟩ (.slice none 0 0)).setCell ⟨eb,0,none⟩ (.int .u16 100)).alloc (.cells #[] 108)):=by
  refine callsD_of_wpS Tryd.func68 rfl fun c₀ cs hu=> ?_
  have hu3:c₀.mode= .panicking [{ v:= .iface 108 (.agg #[]),recovered:=false }] :=hu
  obtain ⟨ty,hty⟩:∃ty:TypeId,108=ty:=⟨_,rfl⟩
  obtain ⟨pv,hpv⟩:∃pv:Value, .agg #[] =pv:=⟨_,rfl⟩
  obtain ⟨older,hol⟩:∃older:List PanicEntry, [] =older:=⟨_,rfl⟩
  have hu2:c₀.mode= .panicking ({ v:= .iface ty pv,recovered:=false } ::older):=by rw [←hty, ←hpv, ←hol];exact hu3
  have n0:=hn.at_ 0 _ rfl
  have n1:=hn.at_ 1 _ rfl
  have n2:=hn.at_ 2 _ rfl
  have n3:=hn.at_ 3 _ rfl
  have n4:=hn.at_ 4 _ rfl
  have e0:=he.at_ 0 _ rfl
  have ef:=he.fr 0
  have o0:=ho.fr 0
  have o1:=ho.fr 1
  have o2:=ho.fr 2
  have o3:=ho.fr 3
  have o4:=ho.fr 4
  obtain ⟨z0,z1,z2,z3,z4,rfl⟩:∃z0 z1 z2 z3 z4,cs0= [z0,z1,z2,z3,z4] :=by
    match cs0,hl with
    | [z0,z1,z2,z3,z4],_=>exact ⟨z0,z1,z2,z3,z4,rfl⟩
  have q0:=ho.at_ 0 _ rfl
  have q1:=ho.at_ 1 _ rfl
  have q2:=ho.at_ 2 _ rfl
  have q3:=ho.at_ 3 _ rfl
  have q4:=ho.at_ 4 _ rfl
  have l1:=hn.lt
  have l2:=ho.lt
  have l3:=he.lt
  clear hn ho he hu hu3
  apply wpS_seq
  apply wpS_region
  simp [wpOpsS,go_sem,recoverD,hu2,Tryd.ntmps68,Exit.thenS]
  subst hty hpv hol
  have k1:=short_asserted
  have k2:=short_not_nil
  refine wpS_of_wp ?_
  go_wp2_with fail
  cases c₀
  simp_all [bodyPostS,results,Tryd.results68]
theorem catchE_idle (nb ob eb:Nat) (w:World):
    CallsD Tryd.prog 63 #[.pointer (some ⟨nb,0,none⟩), .pointer (some ⟨ob,0,none⟩), .pointer (some ⟨eb,0,none⟩)] .returning w fun e u' w'=>e= .returned (.tuple #[])∧u'= .returning∧w'=w:=by
  refine callsD_of_wpS Tryd.func63 rfl fun c₀ cs hu=> ?_
  apply wpS_seq
  apply wpS_region
  simp [wpOpsS,go_sem,recoverD,hu,Tryd.ntmps63,Exit.thenS]
  refine wpS_of_wp ?_
  go_wp2_with fail
  cases c₀
  simp_all [bodyPostS,results,Tryd.results63]
set_option maxHeartbeats 2000000 in
set_option maxRecDepth 100000 in
theorem catchE_short (nb ob eb:Nat) (w:World) (hn:BC w nb [.int .u8 0, .int .u32 0, .int .u32 0, .int .u8 0, .int .i64 0, .string { data:= #[] }, .slice none 0 0, .slice none 0 0, .slice none 0 0]) (cs0:List Value) (ho:BC w ob cs0) (hl:cs0.length=9) (x0:Value) (he:BC w eb [x0]) (h2:ob≠eb) (h3:eb≠nb):
    CallsD Tryd.prog 63 #[.pointer (some ⟨nb,0,none⟩), .pointer (some ⟨ob,0,none⟩), .pointer (some ⟨eb,0,none⟩)] (.panicking [short]) w fun e u' w'=>e= .returned (.tuple #[])∧u'= .panicking [{ v:= .iface 108 (.agg #[]),recovered:=true }] ∧w'=(((((((((((w.setCell ⟨ob,0,none⟩ (.int .u8 0)).setCell ⟨ob,1,none⟩ (.int .u32 0)).setCell ⟨ob,2,none⟩ (.int .u32 0)).setCell ⟨ob,3,none⟩ (.int .u8 0)).setCell ⟨ob,4,none⟩ (.int .i64 0)).setCell ⟨ob,5,none⟩ (.string { data:= #[] })).setCell ⟨ob,6,none⟩ (.slice none 0 0)).setCell ⟨ob,7,none⟩ (.slice none 0 0)).setCell ⟨ob,8,none⟩ (.slice none 0 0)).setCell ⟨eb,0,none⟩ (.int .u16 100)).alloc (.cells #[] 108)):=by
  refine callsD_of_wpS Tryd.func63 rfl fun c₀ cs hu=> ?_
  have hu3:c₀.mode= .panicking [{ v:= .iface 108 (.agg #[]),recovered:=false }] :=hu
  obtain ⟨ty,hty⟩:∃ty:TypeId,108=ty:=⟨_,rfl⟩
  obtain ⟨pv,hpv⟩:∃pv:Value, .agg #[] =pv:=⟨_,rfl⟩
  obtain ⟨older,hol⟩:∃older:List PanicEntry, [] =older:=⟨_,rfl⟩
  have hu2:c₀.mode= .panicking ({ v:= .iface ty pv,recovered:=false } ::older):=by rw [←hty, ←hpv, ←hol];exact hu3
  have n0:=hn.at_ 0 _ rfl
  have n1:=hn.at_ 1 _ rfl
  have n2:=hn.at_ 2 _ rfl
  have n3:=hn.at_ 3 _ rfl
  have n4:=hn.at_ 4 _ rfl
  have n5:=hn.at_ 5 _ rfl
  have n6:=hn.at_ 6 _ rfl
  have n7:=hn.at_ 7 _ rfl
  have n8:=hn.at_ 8 _ rfl
  have e0:=he.at_ 0 _ rfl
  have ef:=he.fr 0
  have o0:=ho.fr 0
  have o1:=ho.fr 1
  have o2:=ho.fr 2
  have o3:=ho.fr 3
  have o4:=ho.fr 4
  have o5:=ho.fr 5
  have o6:=ho.fr 6
  have o7:=ho.fr 7
  have o8:=ho.fr 8
  obtain ⟨z0,z1,z2,z3,z4,z5,z6,z7,z8,rfl⟩:∃z0 z1 z2 z3 z4 z5 z6 z7 z8,cs0= [z0,z1,z2,z3,z4,z5,z6,z7,z8] :=by
    match cs0,hl with
    | [z0,z1,z2,z3,z4,z5,z6,z7,z8],_=>exact ⟨z0,z1,z2,z3,z4,z5,z6,z7,z8,rfl⟩
  have q0:=ho.at_ 0 _ rfl
  have q1:=ho.at_ 1 _ rfl
  have q2:=ho.at_ 2 _ rfl
  have q3:=ho.at_ 3 _ rfl
  have q4:=ho.at_ 4 _ rfl
  have q5:=ho.at_ 5 _ rfl
  have q6:=ho.at_ 6 _ rfl
  have q7:=ho.at_ 7 _ rfl
  have q8:=ho.at_ 8 _ rfl
  have l1:=hn.lt
  have l2:=ho.lt
  have l3:=he.lt
  clear hn ho he hu hu3
  apply wpS_seq
  apply wpS_region
  simp [wpOpsS,go_sem,recoverD,hu2,Tryd.ntmps63,Exit.thenS]
  subst hty hpv hol
  have k1:=short_asserted
  have k2:=short_not_nil
  refine wpS_of_wp ?_
  go_wp2_with fail
  cases c₀
  simp_all [bodyPostS,results,Tryd.results63]
end Go.Proofs.YthceefjafklcmaaDoor
namespace Go.Proofs.YthceefjafklcmaaDoor
open Go.RowKit
def ezero:EC:=⟨0,0,0,vzero,none,0,0⟩
def ecells (c:EC):List Value:= [.int .u8 c.k, .int .u32 c.src, .int .u32 c.seq, .int .u8 c.v.k, .int .i64 c.v.n, .string c.v.s, .slice c.v.la c.v.ll c.v.lc, .slice c.v.oa c.v.ol c.v.oc, .slice c.oa c.ol c.oc]
def PC (l:List Cm) (cs:List CC):World→Nat→Nat→Prop:=fun W B i=>∀h:i<l.length,IsComp W B l[i] (cs.getD i czero)
theorem PC.closed (l:List Cm) (cs:List CC):Closed (PC l cs):=fun _ _ _ _ _ hs hB h hi=>((h hi).sub hs).more hB
theorem PC.snoc {l:List Cm} {cs:List CC} (hl:cs.length=l.length) (x:Cm) (c:CC):(∀W B,IsComp W B x c→PC (l++ [x]) (cs++ [c]) W B l.length)∧∀W B i,i<l.length→PC l cs W B i→PC (l++ [x]) (cs++ [c]) W B i:=by
  constructor
  · intro W B h hi
    simpa [List.getD_eq_getElem?_getD, ←hl] using h
  · intro W B i hi h hi2
    have h:=h hi
    have e:(cs++ [c]).getD i czero=cs.getD i czero:=by simp [List.getD_eq_getElem?_getD,List.getElem?_append_left (show i<cs.length by omega)]
    rw [List.getElem_append_left hi,e]
    exact h
abbrev RowC (w:World) (base:Nat) (u:Value) (l:List Cm) (cs:List CC):Prop:=Row 75 12 w base u l.length (cs.flatMap ccells) (PC l cs)
theorem RowC.comps {w:World} {base lo:Nat} {l:List Cm} {cs:List CC} {a:Option Addr} {n cap:Nat} (h:RowC w base (.slice a n cap) l cs) (hl:cs.length=l.length) (hlo:lo≤base) (hfew:l.length≤1466015503701):
    IsComps (only (fun b=>lo≤b) w) w.heap.size l a n cap:=by
  obtain ⟨h1,h2⟩:=Row.shows (PC.closed l cs) h hlo
  have hown:=h.own
  have hlt:=h.lt
  rcases hown.2 with ⟨e,hn⟩|⟨g,cap',cur,e,hbg,hg,hnc,hcm,hcs,htake⟩
  · injection e with e1 e2 e3;subst e1 e2 e3
    have:l= [] :=List.length_eq_zero_iff.1 hn
    subst this
    exact .nil _ _
  · injection e with e1 e2 e3;subst e1 e2 e3
    refine ⟨rfl,hnc,by simpa [maxLen] using hcm,hfew,g,0,fun i=>cs.getD i czero,fun _=>⟨rfl,(hlt g rfl).2⟩,fun i hi=>⟨?_,h2 i hi hi⟩⟩
    have hi':i<cs.length:=by omega
    have hc:∀t x,t<12→(ccells cs[i])[t]? =some x→(only (fun b=>lo≤b) w).cell? ⟨g,0+i*12+t,none⟩=some x:=fun t x ht hx=>by
      rw [Nat.zero_add]
      exact h1 g rfl (i*12+t) x ((flat_get ccells 12 (fun _=>rfl) cs i t hi' ht).trans hx)
    have he:cs.getD i czero=cs[i] :=by simp [List.getD_eq_getElem?_getD,hi']
    simp only [he]
    exact ⟨hc 0 _ (by omega) rfl,hc 1 _ (by omega) rfl,hc 2 _ (by omega) rfl,hc 3 _ (by omega) rfl,hc 4 _ (by omega) rfl,hc 5 _ (by omega) rfl,⟨hc 6 _ (by omega) rfl,hc 7 _ (by omega) rfl,hc 8 _ (by omega) rfl,hc 9 _ (by omega) rfl,hc 10 _ (by omega) rfl⟩,hc 11 _ (by omega) rfl⟩
structure LE (w wr:World) (rb eb:Nat) (kd sr sq:Nat) (q:List UInt8) (j:Nat) (a:Option Addr) (m c:Nat) (xs:List Cm) (cs:List CC) (rj:List UInt8):Prop where
  rd:rdL (fun x=>rdC x) j q=some (xs,rj)
  len:xs.length=j
  cen:cs.length=j
  rdr:Rdr wr rb rj 0
  st:RStep w wr rb
  res:BC wr w.heap.size (ecells ezero)
  box:BC wr eb (ecells ⟨kd,sr,sq,vzero,a,m,c⟩)
  row:RowC wr (eb+1) (.slice a m c) xs cs
  lo:w.heap.size+1≤eb
  lt:rb<w.heap.size
theorem LE.round {w wr w4 w5:World} {rb eb kd sr sq:Nat} {q:List UInt8} {j:Nat} {a:Option Addr} {m c:Nat} {xs:List Cm} {cs:List CC} {rj r2:List UInt8} {x:Cm} {cx:CC} {g cap:Nat} {t:TypeId}
    (h:LE w wr rb eb kd sr sq q j a m c xs cs rj) (hx:rdC rj=some (x,r2)) (hS:RStep wr.drew w4 rb) (hI:IsComp (only (fun b=>wr.drew.heap.size≤b) w4) w4.heap.size x cx) (hR:Rdr w4 rb r2 0)
    (hown:w5.ownsRow (eb+1) 75 12 (.slice (some ⟨g,0,none⟩) (j+1) cap) (j+1) (cs.flatMap ccells++ccells cx)) (hg:(w4.alloc (.cells #[.int .u8 cx.k, .slice cx.pa cx.pl cx.pc, .string cx.key, .int .i64 cx.i, .int .i64 cx.j, .int .i64 cx.n, .int .u8 cx.v.k, .int .i64 cx.v.n, .string cx.v.s, .slice cx.v.la cx.v.ll cx.v.lc, .slice cx.v.oa cx.v.ol cx.v.oc, .string cx.s] t)).grownBy w5 (Value.slice a m c).ownBlock)
    (hat:(Value.slice a m c).ownBlock=some g∨g=w4.heap.size+1):
    LE w (w5.setCell ⟨eb,8,none⟩ (.slice (some ⟨g,0,none⟩) (j+1) cap)) rb eb kd sr sq q (j+1) (some ⟨g,0,none⟩) (j+1) cap (xs++ [x]) (cs++ [cx]) r2:=by
  have hlo:=h.lo
  have hlt:=h.lt
  have hdz:wr.drew.heap.size=wr.heap.size:=rfl
  have hb1:=drew_below wr
  have hrow:=(h.row.later (PC.closed xs cs) (.of_below rb hb1) (by omega)).later (PC.closed xs cs) hS (by omega)
  have hrlt:∀b,(Value.slice a m c).ownBlock=some b→eb+1≤b∧b<wr.heap.size:=h.row.lt
  have hba:Below w4.heap.size w4 (w4.alloc (.cells #[.int .u8 cx.k, .slice cx.pa cx.pl cx.pc, .string cx.key, .int .i64 cx.i, .int .i64 cx.j, .int .i64 cx.n, .int .u8 cx.v.k, .int .i64 cx.v.n, .string cx.v.s, .slice cx.v.la cx.v.ll cx.v.lc, .slice cx.v.oa cx.v.ol cx.v.oc, .string cx.s] t)):=(Below.refl _ _).alloc (Nat.le_refl _) _
  have hsz4:wr.heap.size≤w4.heap.size:=hS.size
  have hclt:=h.box.lt
  have hgb:Below (eb+1) (w4.alloc (.cells #[.int .u8 cx.k, .slice cx.pa cx.pl cx.pc, .string cx.key, .int .i64 cx.i, .int .i64 cx.j, .int .i64 cx.n, .int .u8 cx.v.k, .int .i64 cx.v.n, .string cx.v.s, .slice cx.v.la cx.v.ll cx.v.lc, .slice cx.v.oa cx.v.ol cx.v.oc, .string cx.s] t)) w5:=grown_below hg (fun b hb=>(hrlt b hb).1) (by simp;omega)
  have hb45:Below (eb+1) w4 w5:=(hba.mono (by omega)).trans hgb
  obtain ⟨s1,s2⟩:=PC.snoc (l:=xs) (cs:=cs) (by rw [h.len,h.cen]) x cx
  have hnew:PC (xs++ [x]) (cs++ [cx]) (only (Free (eb+1) (.slice a m c)) w4) w4.heap.size xs.length:=s1 _ _ (hI.sub (shows_step fun b hb _=>⟨⟨by rw [hdz] at hb;omega,fun e=>by have:=(hrlt b e.symm).2;rw [hdz] at hb;omega⟩,rfl⟩))
  have hpush:=Row.push (PC.closed (xs++ [x]) (cs++ [cx])) hrow hba hg (u':= .slice (some ⟨g,0,none⟩) (j+1) cap) (news:=ccells cx) (by rw [h.len];exact hown) (by
    rcases hat with e|e
    · left;rw [e];rfl
    · right;intro b hb;have:g=b:=by simpa [Value.ownBlock] using hb
      omega) hnew s2
  have hres:=((h.res.keep hb1 (by omega)).next hS (by omega)).keep hb45 (by omega)
  have hbox:=((h.box.keep hb1 hclt).next hS (by omega)).keep hb45 (by omega)
  have hst:RStep w w5 rb:=by
    have h1:RStep w w4 rb:=(h.st.trans (.of_below rb hb1)).trans hS
    exact ⟨hb45.os.trans h1.os,hb45.tape.trans h1.tape,hb45.output.trans h1.output,Nat.le_trans h1.size hb45.size,fun k hk hr=>(hb45.block k (by omega)).trans (h1.block k hk hr)⟩
  refine ⟨?_,by simp [h.len],by simp [h.cen],(hR.below hb45 (by omega)).setNew (by omega),hst.setNew (by omega),hres.far (by omega),hbox.set (i:=8) (x:= .slice (some ⟨g,0,none⟩) (j+1) cap) (by simp [ecells]), ?_,hlo,hlt⟩
  · rw [rdL,h.rd];simp only [Option.bind_some,hx]
  · have hr2:RowC w5 (eb+1) (.slice (some ⟨g,0,none⟩) (j+1) cap) (xs++ [x]) (cs++ [cx]):=by
      show Row _ _ _ _ _ _ _ _
      rw [flat_snoc,List.length_append,List.length_singleton]
      exact hpush
    exact hr2.set (PC.closed _ _) (by omega)
def REPost (w:World) (rb:Nat) (r:Option (En×List UInt8)) (e:Ending) (w':World):Prop:=
  RStep w w' rb∧match r with
    |some (x,r)=>(∃c:EC,e= .returned (.agg #[.int .u8 c.k, .int .u32 c.src, .int .u32 c.seq, .int .u8 c.v.k, .int .i64 c.v.n, .string c.v.s, .slice c.v.la c.v.ll c.v.lc, .slice c.v.oa c.v.ol c.v.oc, .slice c.oa c.ol c.oc])∧IsEntry (only (fun b=>w.heap.size≤b) w') w'.heap.size x c)∧Rdr w' rb r 0
    |none=>e= .panicked [short] ∧∃bs',Rdr w' rb bs' 0
structure EB (w W:World) (rb eb:Nat) (r:List UInt8) (v:V) (l:List Cm) (c:EC):Prop where
  rdr:Rdr W rb r 0
  st:RStep w W rb
  res:BC W w.heap.size (ecells ezero)
  box:BC W eb (ecells c)
  val:IsVal (only (fun b=>eb+1≤b) W) W.heap.size v c.v
  ops:IsComps (only (fun b=>eb+1≤b) W) W.heap.size l c.oa c.ol c.oc
  lo:w.heap.size+1≤eb
  lt:rb<w.heap.size
theorem isComps_far {W W':World} {b base:Nat} {l:List Cm} {a:Option Addr} {n c:Nat} (h:IsComps (only (fun k=>base≤k) W) W.heap.size l a n c) (s:RStep W W' b) (hb:b<base):IsComps (only (fun k=>base≤k) W') W'.heap.size l a n c:=
  (h.sub (shows_step fun k hk hl=>⟨hk,s.block k hl (by omega)⟩)).more s.size
theorem results_entry {tmps:Array Value} {W:World} {b:Nat} {c:EC} (ht:tmps[2]? =some (.pointer (some ⟨b,0,none⟩))) (h:BC W b (ecells c)):(results Tryd.f38 tmps).run Tryd.prog W= .ok (.agg #[.int .u8 c.k, .int .u32 c.src, .int .u32 c.seq, .int .u8 c.v.k, .int .i64 c.v.n, .string c.v.s, .slice c.v.la c.v.ll c.v.lc, .slice c.v.oa c.v.ol c.v.oc, .slice c.oa c.ol c.oc]) W:=by
  have h0:=h.at_ 0 _ rfl
  have h1:=h.at_ 1 _ rfl
  have h2:=h.at_ 2 _ rfl
  have h3:=h.at_ 3 _ rfl
  have h4:=h.at_ 4 _ rfl
  have h5:=h.at_ 5 _ rfl
  have h6:=h.at_ 6 _ rfl
  have h7:=h.at_ 7 _ rfl
  have h8:=h.at_ 8 _ rfl
  simp [results,Tryd.results38,go_sem,ht,h0,h1,h2,h3,h4,h5,h6,h7,h8]
theorem EB.leave {w W:World} {rb eb:Nat} {r:List UInt8} {v:V} {l:List Cm} {c:EC} {x:En} {a:Act} (h:EB w W rb eb r v l c) (hb:c.Bnd) (hx:x=⟨c.k,c.src,c.seq,v,l⟩) (hd:a.defers= []) (ht:a.tmps[2]? =some (.pointer (some ⟨w.heap.size,0,none⟩))):
    bodyPost Tryd.prog Tryd.f38 (REPost w rb (some (x,r))) .ret a (((((((((W.setCell ⟨w.heap.size,0,none⟩ (.int .u8 c.k)).setCell ⟨w.heap.size,1,none⟩ (.int .u32 c.src)).setCell ⟨w.heap.size,2,none⟩ (.int .u32 c.seq)).setCell ⟨w.heap.size,3,none⟩ (.int .u8 c.v.k)).setCell ⟨w.heap.size,4,none⟩ (.int .i64 c.v.n)).setCell ⟨w.heap.size,5,none⟩ (.string c.v.s)).setCell ⟨w.heap.size,6,none⟩ (.slice c.v.la c.v.ll c.v.lc)).setCell ⟨w.heap.size,7,none⟩ (.slice c.v.oa c.v.ol c.v.oc)).setCell ⟨w.heap.size,8,none⟩ (.slice c.oa c.ol c.oc)):=by
  have hlo:=h.lo;have hlt:=h.lt
  have hs:RStep W (((((((((W.setCell ⟨w.heap.size,0,none⟩ (.int .u8 c.k)).setCell ⟨w.heap.size,1,none⟩ (.int .u32 c.src)).setCell ⟨w.heap.size,2,none⟩ (.int .u32 c.seq)).setCell ⟨w.heap.size,3,none⟩ (.int .u8 c.v.k)).setCell ⟨w.heap.size,4,none⟩ (.int .i64 c.v.n)).setCell ⟨w.heap.size,5,none⟩ (.string c.v.s)).setCell ⟨w.heap.size,6,none⟩ (.slice c.v.la c.v.ll c.v.lc)).setCell ⟨w.heap.size,7,none⟩ (.slice c.v.oa c.v.ol c.v.oc)).setCell ⟨w.heap.size,8,none⟩ (.slice c.oa c.ol c.oc)) w.heap.size:=((((((((RStep.self.trans RStep.self).trans RStep.self).trans RStep.self).trans RStep.self).trans RStep.self).trans RStep.self).trans RStep.self).trans RStep.self)
  have hbc:BC (((((((((W.setCell ⟨w.heap.size,0,none⟩ (.int .u8 c.k)).setCell ⟨w.heap.size,1,none⟩ (.int .u32 c.src)).setCell ⟨w.heap.size,2,none⟩ (.int .u32 c.seq)).setCell ⟨w.heap.size,3,none⟩ (.int .u8 c.v.k)).setCell ⟨w.heap.size,4,none⟩ (.int .i64 c.v.n)).setCell ⟨w.heap.size,5,none⟩ (.string c.v.s)).setCell ⟨w.heap.size,6,none⟩ (.slice c.v.la c.v.ll c.v.lc)).setCell ⟨w.heap.size,7,none⟩ (.slice c.v.oa c.v.ol c.v.oc)).setCell ⟨w.heap.size,8,none⟩ (.slice c.oa c.ol c.oc)) w.heap.size (ecells c):=(((((((((h.res.set (i:=0) (x:= .int .u8 c.k) (by simp [ecells])).set (i:=1) (x:= .int .u32 c.src) (by simp [ecells])).set (i:=2) (x:= .int .u32 c.seq) (by simp [ecells])).set (i:=3) (x:= .int .u8 c.v.k) (by simp [ecells])).set (i:=4) (x:= .int .i64 c.v.n) (by simp [ecells])).set (i:=5) (x:= .string c.v.s) (by simp [ecells])).set (i:=6) (x:= .slice c.v.la c.v.ll c.v.lc) (by simp [ecells])).set (i:=7) (x:= .slice c.v.oa c.v.ol c.v.oc) (by simp [ecells])).set (i:=8) (x:= .slice c.oa c.ol c.oc) (by simp [ecells]))
  have hst:RStep w (((((((((W.setCell ⟨w.heap.size,0,none⟩ (.int .u8 c.k)).setCell ⟨w.heap.size,1,none⟩ (.int .u32 c.src)).setCell ⟨w.heap.size,2,none⟩ (.int .u32 c.seq)).setCell ⟨w.heap.size,3,none⟩ (.int .u8 c.v.k)).setCell ⟨w.heap.size,4,none⟩ (.int .i64 c.v.n)).setCell ⟨w.heap.size,5,none⟩ (.string c.v.s)).setCell ⟨w.heap.size,6,none⟩ (.slice c.v.la c.v.ll c.v.lc)).setCell ⟨w.heap.size,7,none⟩ (.slice c.v.oa c.v.ol c.v.oc)).setCell ⟨w.heap.size,8,none⟩ (.slice c.oa c.ol c.oc)) rb:=⟨hs.os.trans h.st.os,hs.tape.trans h.st.tape,hs.output.trans h.st.output,Nat.le_trans h.st.size hs.size,fun k hk hr=>(hs.block k (Nat.lt_of_lt_of_le hk h.st.size) (by omega)).trans (h.st.block k hk hr)⟩
  have hops:=isComps_far h.ops hs (by omega)
  have hval:=isVal_far h.val hs (by omega)
  refine ⟨hd,_,results_entry ht hbc,hst,⟨c,rfl, ?_⟩,h.rdr.below (hs.below (by have:=h.res.lt;omega)) hlt⟩
  subst hx
  exact .mk c v l hb (hval.sub (shows_step fun k hk _=>⟨by omega,rfl⟩)) (hops.sub (shows_step fun k hk _=>⟨by omega,rfl⟩))
theorem LE.eb {w wr:World} {rb eb kd sr sq:Nat} {q:List UInt8} {j:Nat} {a:Option Addr} {m c:Nat} {xs:List Cm} {cs:List CC} {rj:List UInt8} (h:LE w wr rb eb kd sr sq q j a m c xs cs rj) (hfew:j≤1466015503701):EB w wr rb eb rj V.none xs ⟨kd,sr,sq,vzero,a,m,c⟩:=
  ⟨h.rdr,h.st,h.res,h.box,isVal_none _ _,h.row.comps (by rw [h.len,h.cen]) (Nat.le_refl _) (by rw [h.len];exact hfew),h.lo,h.lt⟩
end Go.Proofs.YthceefjafklcmaaDoor
namespace Go.Proofs.YthceefjafklcmaaDoor
open Go.RowKit
theorem RStep.src {W W':World} {rb:Nat} (_:RStep W W' rb):W=W:=rfl
def vz:List Value:= [.int .u8 0, .int .i64 0, .string { data:= #[] }, .slice none 0 0, .slice none 0 0]
def ez:List Value:= [.int .u8 0, .int .u32 0, .int .u32 0, .int .u8 0, .int .i64 0, .string { data:= #[] }, .slice none 0 0, .slice none 0 0, .slice none 0 0]
def En.none:En:=⟨0,0,0,V.none, []⟩
theorem isEntry_none (w:World) (B:Nat):IsEntry w B En.none ezero:=
  .mk ezero V.none [] ⟨by decide,by decide,by decide,by decide,by decide,by decide⟩ (isVal_none _ _) (IsComps.nil _ _)
theorem isEntry_far {W W':World} {b base:Nat} {x:En} {c:EC} (h:IsEntry (only (fun k=>base≤k) W) W.heap.size x c) (s:RStep W W' b) (hb:b<base):IsEntry (only (fun k=>base≤k) W') W'.heap.size x c:=
  (h.sub (shows_step fun k hk hl=>⟨hk,s.block k hl (by omega)⟩)).more s.size
structure WH (w W:World) (z cs:List Value) (x:Value):Prop where
  out:BC W w.heap.size cs
  err:BC W (w.heap.size+1) [x]
  non:BC W (w.heap.size+2) z
  below:Below w.heap.size w W
theorem WH.start (w:World) (z:List Value) (bs:List UInt8) (a:Option Addr) (n c:Nat) (h:IsB w w.heap.size a n c bs) (t1 t2 t3 t4:TypeId) (W:World) (hW:W=(((w.alloc (.cells z.toArray t1)).alloc (.cells #[.int .u16 0] t2)).alloc (.cells z.toArray t3)).alloc (.cells #[.slice a n c, .int .i64 0] t4)):
    WH w W z z (.int .u16 0)∧Rdr W (w.heap.size+3) bs 0∧W.heap.size=w.heap.size+4:=by
  obtain ⟨w1,hw1⟩:∃w1,w.alloc (.cells z.toArray t1)=w1:=⟨_,rfl⟩
  have s1:w1.heap.size=w.heap.size+1:=by rw [←hw1,World.size_alloc]
  have b1:Below w.heap.size w w1:=by rw [←hw1];exact (Below.refl _ _).alloc (Nat.le_refl _) _
  have c1:BC w1 w.heap.size z:=by rw [←hw1];exact BC.start w z.toArray t1
  rw [hw1] at hW
  obtain ⟨w2,hw2⟩:∃w2,w1.alloc (.cells #[.int .u16 0] t2)=w2:=⟨_,rfl⟩
  have s2:w2.heap.size=w.heap.size+2:=by rw [←hw2,World.size_alloc,s1]
  have b2:Below w1.heap.size w1 w2:=by rw [←hw2];exact (Below.refl _ _).alloc (Nat.le_refl _) _
  have c2:BC w2 (w.heap.size+1) [.int .u16 0] :=by rw [←hw2, ←s1];exact BC.start w1 #[.int .u16 0] t2
  rw [hw2] at hW
  obtain ⟨w3,hw3⟩:∃w3,w2.alloc (.cells z.toArray t3)=w3:=⟨_,rfl⟩
  have s3:w3.heap.size=w.heap.size+3:=by rw [←hw3,World.size_alloc,s2]
  have b3:Below w2.heap.size w2 w3:=by rw [←hw3];exact (Below.refl _ _).alloc (Nat.le_refl _) _
  have c3:BC w3 (w.heap.size+2) z:=by rw [←hw3, ←s2];exact BC.start w2 z.toArray t3
  rw [hw3] at hW
  subst hW
  have b4:Below w3.heap.size w3 (w3.alloc (.cells #[.slice a n c, .int .i64 0] t4)):=(Below.refl _ _).alloc (Nat.le_refl _) _
  have hB:Below w.heap.size w (w3.alloc (.cells #[.slice a n c, .int .i64 0] t4)):=((b1.trans (b2.mono (by omega))).trans (b3.mono (by omega))).trans (b4.mono (by omega))
  refine ⟨⟨((c1.keep b2 (by omega)).keep b3 (by omega)).keep b4 (by omega),(c2.keep b3 (by omega)).keep b4 (by omega),c3.keep b4 (by omega),hB⟩,⟨⟨a,n,c, ?_,(h.keep hB).more (by omega)⟩, ?_, ?_, ?_⟩,by rw [World.size_alloc,s3]⟩
  · rw [←s3];exact cells_new w3 _ t4 0 _ rfl
  · rw [←s3];exact cells_new w3 _ t4 1 _ rfl
  · rw [←s3];exact frozen_new w3 _ t4 0
  · rw [←s3];exact frozen_new w3 _ t4 1
theorem WH.next {w W W':World} {z cs:List Value} {x:Value} (h:WH w W z cs x) (hb:Below W.heap.size W W'):WH w W' z cs x:=
  ⟨h.out.keep hb h.out.lt,h.err.keep hb h.err.lt,h.non.keep hb h.non.lt,h.below.trans (hb.mono (Nat.le_of_lt h.out.lt))⟩
theorem WH.read {w W W':World} {z cs:List Value} {x:Value} (h:WH w W z cs x) (hs:RStep W W' (w.heap.size+3)) (hz:w.heap.size+4≤W.heap.size):WH w W' z cs x:=
  ⟨h.out.next hs (by omega),h.err.next hs (by omega),h.non.next hs (by omega),h.below.trans ((hs.below (by omega)).mono (by omega))⟩
theorem WH.setErr {w W:World} {z cs:List Value} {x y:Value} (h:WH w W z cs x):WH w (W.setCell ⟨w.heap.size+1,0,none⟩ y) z cs y:=by
  have s1:RStep W (W.setCell ⟨w.heap.size+1,0,none⟩ y) (w.heap.size+1):=RStep.self
  have hlt:=h.err.lt
  exact ⟨h.out.far (by omega),h.err.set (i:=0) (x:=y) (by simp),h.non.far (by omega),h.below.trans ((s1.below (by omega)).mono (by omega))⟩
end Go.Proofs.YthceefjafklcmaaDoor
namespace Go.Proofs.YthceefjafklcmaaDoor
open Go.RowKit
theorem run_append_zero {P:Program} (w:World) (base:Nat) (t ty e:TypeId) (i:TypeInfo) (size:Nat) (ht:P.underlying t=some (.slice e)) (hi:P.info? e=some i)
    (v:Value) (n:Nat) (xs:List Value) (hown:w.ownsRow base e size v n xs) (a1:Option Addr) (c1:Nat):
    (Builtin.append_ #[t,t] ty #[v, .slice a1 0 c1]).run P w= .ok v w:=by
  rcases hown.2 with ⟨rfl,rfl⟩|⟨g,cap,cur,rfl,hbg,hg,hnc,hcm,hcs,htake⟩
  · cases a1<;>simp [Builtin.append_,run_underlying ht,sizeOf,typeInfo,hi,Builtin.lenOf,Builtin.firstCells,loadCells,loadCellsFrom]
  · cases a1<;>simp [Builtin.append_,run_underlying ht,sizeOf,typeInfo,hi,Builtin.lenOf,Builtin.firstCells,storeCells,hnc,loadCells,loadCellsFrom]
theorem wp_catB {ops:Array Oper} {rest:List Oper} {o:Oper} {a:Act} {Q:Exit→Act→World→Prop} {w:World} (hgd:o.guard=none) (s x:Operand)
    (ho:o.op= .call { callee:= .builtin .append,args:= #[s,x],argTypes:= #[22,22] }) (B B':Nat) (a0:Option Addr) (n0 c0:Nat) (bs:List UInt8) (a1:Option Addr) (n1 c1:Nat) (cs:List UInt8)
    (hs:a.eval s= .slice a0 n0 c0) (hx:a.eval x= .slice a1 n1 c1) (h0:OwnB w B a0 n0 c0 bs) (h1:IsB w B' a1 n1 c1 cs) (hB:B≤w.heap.size) (hsz:bs.length+cs.length≤140737488355328)
    (h:∀a' n' c' w',OwnB w' B a' n' c' (bs++cs)→Below B w w'→wpList Tryd.prog ops Q rest (a.put o.dst (.slice a' n' c')) w'):wpList Tryd.prog ops Q (o::rest) a w:=by
  obtain ⟨i0,hi0,hz0,hz1,hz2⟩:=info_parts ginfo8
  obtain ⟨e0,g0⟩:=h0
  obtain ⟨k1,k2,k3,b,q,k4,k5⟩:=h1
  have hlt:=g0.lt
  by_cases hn:n1=0
  · subst hn
    have:cs= [] :=List.length_eq_zero_iff.1 k1.symm
    subst this
    refine wpList_plain hgd fun _ hK=> ?_
    have hr:=run_append_zero (P:=Tryd.prog) w B 22 o.type 5 i0 1 Tryd.underlying22 hi0 _ n0 _ g0 a1 c1
    unfold Oper.wp execOp
    simp only [ho,resolve,invoke,builtin,Sem.run_bind,Sem.run_pure,Result.andThen_ok,List.map_toArray,List.map_cons,List.map_nil,hs,hx,hr]
    exact hK _ _ (h a0 n0 c0 w ⟨by simp [e0],by simpa using g0⟩ (Below.refl _ _))
  · obtain ⟨rfl,hb⟩:=k4 (by omega)
    refine wpList_append_own w hgd s x _ ho B 5 i0 _ 1 1 Tryd.underlying22 hi0 hz0 hz1 hz2 rfl (by omega) _ n0 _ hs g0 ⟨b,q,none⟩ n1 c1 (outs cs) hx (by rw [outs_length,k1];omega) (fun j u hj=> ?_) (fun u hu=> ?_) (by unfold maxLen;omega) (by omega) hB fun v' w' h2 h3 h4=> ?_
    · rw [add_at]
      have hj2:j<cs.length:=by have:=(List.getElem?_eq_some_iff.1 hj).1;rwa [outs_length] at this
      have:=k5 j hj2
      simp [outs,hj2] at hj
      rw [this,hj]
    · simp [outs] at hu
      obtain ⟨_,_,rfl⟩:=hu
      rfl
    · rcases h2.2 with ⟨rfl,hq⟩|⟨g,cap,cur,rfl,_⟩
      · exfalso;omega
      · exact h _ _ _ _ ⟨by simp [e0,k1],by rw [outs_append];exact h2⟩ (grown_below h3 (fun k hk=>(hlt k hk).1) hB)
theorem wp_catS {ops:Array Oper} {rest:List Oper} {o:Oper} {a:Act} {Q:Exit→Act→World→Prop} {w:World} (hgd:o.guard=none) (s x:Operand)
    (ho:o.op= .call { callee:= .builtin .append,args:= #[s,x],argTypes:= #[22,9] }) (B:Nat) (a0:Option Addr) (n0 c0:Nat) (bs:List UInt8) (t:ByteArray)
    (hs:a.eval s= .slice a0 n0 c0) (hx:a.eval x= .string t) (h0:OwnB w B a0 n0 c0 bs) (hB:B≤w.heap.size) (hsz:bs.length+t.size≤140737488355328)
    (h:∀a' n' c' w',OwnB w' B a' n' c' (bs++t.data.toList)→Below B w w'→wpList Tryd.prog ops Q rest (a.put o.dst (.slice a' n' c')) w'):wpList Tryd.prog ops Q (o::rest) a w:=by
  obtain ⟨i0,hi0,hz0,hz1,hz2⟩:=info_parts ginfo8
  obtain ⟨e0,g0⟩:=h0
  have hlt:=g0.lt
  have ht:t.data.toList.length=t.size:=Array.length_toList
  refine Lib.wpList_append_own_string w hgd s x _ _ ho B 5 i0 Tryd.underlying22 Tryd.underlying9 hi0 hz0 hz1 hz2 _ n0 _ hs g0 t hx (by unfold maxLen;omega) (by omega) hB fun v' w' h2 h3 h4=> ?_
  obtain ⟨ao,c,rfl⟩:=owns_slice h2
  rw [outs_str] at h2
  exact h _ _ _ _ ⟨by rw [List.length_append,ht,e0],h2⟩ (grown_below h3 (fun k hk=>(hlt k hk).1) hB)
end Go.Proofs.YthceefjafklcmaaDoor
namespace Go.Proofs.YthceefjafklcmaaDoor
open Go.RowKit
structure LF (w wr:World) (rb vb:Nat) (d:Int) (k:Nat) (kd:Nat) (q:List UInt8) (j:Nat) (a:Option Addr) (m c:Nat) (xs:List (ByteArray×V)) (cs:List (ByteArray×VC)) (rj rc:List UInt8):Prop where
  rd:rdL (fun x=>(rdT x).bind fun y=>(rdV k y.2).bind fun z=>some ((y.1,z.1),z.2)) j q=some (xs,rj)
  len:xs.length=j
  cen:cs.length=j
  box:RB w wr rb rc (d+1) vzero
  vb_:VB wr vb ⟨kd,0, .empty,none,0,0,a,m,c⟩
  row:RowF wr (vb+1) (.slice a m c) xs cs
  lo:w.heap.size+2≤vb
theorem LF.round {w wr w4 w5:World} {rb vb:Nat} {d:Int} {k kd:Nat} {q:List UInt8} {j:Nat} {a:Option Addr} {m c:Nat} {xs:List (ByteArray×V)} {cs:List (ByteArray×VC)} {rj r3 r2:List UInt8} {sk:ByteArray} {x:V} {cx:VC} {g cap:Nat} {t:TypeId}
    (h:LF w wr rb vb d k kd q j a m c xs cs rj r3) (ht:rdT rj=some (sk,r3)) (hx:rdV k r3=some (x,r2)) (hS:RStep wr.drew w4 rb) (hI:IsVal (only (fun b=>wr.drew.heap.size≤b) w4) w4.heap.size x cx) (hR:Rdr w4 rb r2 (d+1))
    (hown:w5.ownsRow (vb+1) 67 6 (.slice (some ⟨g,0,none⟩) (j+1) cap) (j+1) (cs.flatMap fcells++fcells (sk,cx))) (hg:(w4.alloc (.cells #[.string sk, .int .u8 cx.k, .int .i64 cx.n, .string cx.s, .slice cx.la cx.ll cx.lc, .slice cx.oa cx.ol cx.oc] t)).grownBy w5 (Value.slice a m c).ownBlock)
    (hat:(Value.slice a m c).ownBlock=some g∨g=w4.heap.size+1):
    LF w (w5.setCell ⟨vb,4,none⟩ (.slice (some ⟨g,0,none⟩) (j+1) cap)) rb vb d k kd q (j+1) (some ⟨g,0,none⟩) (j+1) cap (xs++ [(sk,x)]) (cs++ [(sk,cx)]) r2 r2:=by
  have hlo:=h.lo
  have hlt:=h.box.lt
  have hdz:wr.drew.heap.size=wr.heap.size:=rfl
  have hb1:=drew_below wr
  have hrow:=(h.row.later (PF.closed xs cs) (.of_below rb hb1) (by omega)).later (PF.closed xs cs) hS (by omega)
  have hrlt:∀b,(Value.slice a m c).ownBlock=some b→vb+1≤b∧b<wr.heap.size:=h.row.lt
  have hba:Below w4.heap.size w4 (w4.alloc (.cells #[.string sk, .int .u8 cx.k, .int .i64 cx.n, .string cx.s, .slice cx.la cx.ll cx.lc, .slice cx.oa cx.ol cx.oc] t)):=(Below.refl _ _).alloc (Nat.le_refl _) _
  have hsz4:wr.heap.size≤w4.heap.size:=hS.size
  have hvlt:=h.vb_.lt
  have hgb:Below (vb+1) (w4.alloc (.cells #[.string sk, .int .u8 cx.k, .int .i64 cx.n, .string cx.s, .slice cx.la cx.ll cx.lc, .slice cx.oa cx.ol cx.oc] t)) w5:=grown_below hg (fun b hb=>(hrlt b hb).1) (by simp;omega)
  have hb45:Below (vb+1) w4 w5:=(hba.mono (by omega)).trans hgb
  obtain ⟨s1,s2⟩:=PF.snoc (l:=xs) (cs:=cs) (by rw [h.len,h.cen]) sk (rdT_size ht) x cx
  have hnew:PF (xs++ [(sk,x)]) (cs++ [(sk,cx)]) (only (Free (vb+1) (.slice a m c)) w4) w4.heap.size xs.length:=s1 _ _ (hI.sub (shows_step fun b hb _=>⟨⟨by rw [hdz] at hb;omega,fun e=>by have:=(hrlt b e.symm).2;rw [hdz] at hb;omega⟩,rfl⟩))
  have hpush:=Row.push (PF.closed (xs++ [(sk,x)]) (cs++ [(sk,cx)])) hrow hba hg (u':= .slice (some ⟨g,0,none⟩) (j+1) cap) (news:=fcells (sk,cx)) (by rw [h.len];exact hown) (by
    rcases hat with e|e
    · left;rw [e];rfl
    · right;intro b hb;have:g=b:=by simpa [Value.ownBlock] using hb
      omega) hnew s2
  have hbox:=((h.box.behind hb1).next hS hR).below (hb45.mono (by omega))
  have hvb:=((h.vb_.keep hb1 hvlt).next hS (by omega)).keep hb45 (by omega)
  refine ⟨?_,by simp [h.len],by simp [h.cen],hbox.set (by omega),hvb.setO _ _ _, ?_,hlo⟩
  · rw [rdL,h.rd];simp only [Option.bind_some,ht,hx]
  · have hr2:RowF w5 (vb+1) (.slice (some ⟨g,0,none⟩) (j+1) cap) (xs++ [(sk,x)]) (cs++ [(sk,cx)]):=by
      show Row _ _ _ _ _ _ _ _
      rw [flat_snoc,List.length_append,List.length_singleton]
      exact hpush
    exact hr2.set (PF.closed _ _) (by omega)
theorem LF.text {w wr w3:World} {rb vb:Nat} {d:Int} {k kd:Nat} {q:List UInt8} {j:Nat} {a:Option Addr} {m c:Nat} {xs:List (ByteArray×V)} {cs:List (ByteArray×VC)} {rj rc r3:List UInt8} (h:LF w wr rb vb d k kd q j a m c xs cs rj rc) (hS:RStep wr w3 rb) (hR:Rdr w3 rb r3 (d+1)):LF w w3 rb vb d k kd q j a m c xs cs rj r3:=by
  have hlo:=h.lo
  have hlt:=h.box.lt
  exact ⟨h.rd,h.len,h.cen,h.box.next hS hR,h.vb_.next hS (by omega),h.row.later (PF.closed xs cs) hS (by omega),hlo⟩
end Go.Proofs.YthceefjafklcmaaDoor
namespace Go.Proofs.YthceefjafklcmaaDoor
open Go.RowKit
theorem ginfoV:(Tryd.prog.info? 28).map (fun i=>(i.zero,i.size,i.bytes))=some (some (.agg #[.int .u8 0, .int .i64 0, .string { data:= #[] }, .slice none 0 0, .slice none 0 0]),5,80):=by kernel_rfl
theorem RV_some {w:World} {rb:Nat} {d:Int} {x:V} {r:List UInt8} {e:Ending} {w':World} (h:RVPost w rb d (some (x,r)) e w'):∃c:VC,e= .returned (.agg #[.int .u8 c.k, .int .i64 c.n, .string c.s, .slice c.la c.ll c.lc, .slice c.oa c.ol c.oc])∧RStep w w' rb∧IsVal (only (fun b=>w.heap.size≤b) w') w'.heap.size x c∧Rdr w' rb r d:=by
  obtain ⟨h1,⟨c,h2,h3⟩,h4⟩:=h
  exact ⟨c,h2,h1,h3,h4⟩
set_option maxHeartbeats 8000000 in
set_option maxRecDepth 100000 in
theorem rv_list_any (w:World) (rb:Nat) (bs:List UInt8) (d:Int) (h:Rdr w rb bs d) (hd0:0≤d) (hd:d≤17) {kd n:Nat} {r q:List UInt8} (hr:rdN 1 bs=some (kd,r)) (hk:kd=4) (hm:rdM 4 r=some (n,q)) (k:Nat) (IH:∀(W:World) (bs:List UInt8),Rdr W rb bs (d+1)→Calls Tryd.prog 40 #[.pointer (some ⟨rb,0,none⟩)] W (RVPost W rb (d+1) (rdV k bs))) {out:Option (List V×List UInt8)} (hl:rdL (fun x=>rdV k x) n q=out):
    Calls Tryd.prog 40 #[.pointer (some ⟨rb,0,none⟩)] w (RVPost w rb d (out.bind fun p=>some (.mk kd 0 .empty p.1 [],p.2))):=by
  obtain ⟨i0,hi0,hz0,hz1,hz2⟩:=info_parts ginfoV
  have hk1:kd<256:=rdN_lt hr
  have hn4:n<4294967296:=Nat.lt_of_lt_of_le (rdN_lt (rdM_some hm).1) (by decide)
  have IHH:=Lib.hid IH
  have HL:=Lib.hid hl
  clear IH hl
  have hmf:∀(fn:Fn) (first cap:Array Value) (w:World),(Instr.makeFunc fn first cap).run Tryd.prog w= .ok (.func fn first cap) w:=fun _ _ _ _=>rfl
  have HB:=Lib.hid (fun t1 t2=>RB.start (d':=d+1) h t1 t2)
  have h1:=h.deep
  have h2:=h.f1
  have hlt:=h.lt
  clear h
  have f1:((kd:Int)==1)=false:=by subst hk;rfl
  have f2:((kd:Int)==2)=false:=by subst hk;rfl
  have f3:((kd:Int)==3)=false:=by subst hk;rfl
  have f4:((kd:Int)==4)=true:=by subst hk;rfl
  have f5:((kd:Int)==5)=false:=by subst hk;rfl
  clear hk
  go_enter_defers Tryd.func40,Tryd.ntmps40
  go_wp2_with (first|(go_at_call 64;(with_reducible refine (takeU81_some _ rb bs (d+1) (HB.out _ _).rdr hr).mono ?_);rintro e w1 ⟨rfl,hR,hS⟩;have B1:=(HB.out _ _).next hS hR;have r0:=B1.res.c0;have r1:=B1.res.c1;have r2:=B1.res.c2;have r3:=B1.res.c3;have r4:=B1.res.c4;have g0:=B1.frz 0 (by omega);have g1:=B1.frz 1 (by omega);have g2:=B1.frz 2 (by omega);have g3:=B1.frz 3 (by omega);have g4:=B1.frz 4 (by omega);have hb0:=B1.box;have hsz:=B1.size;have zs1:w.heap.size+1<w1.heap.size:=(by omega);have zs0:w.heap.size<w1.heap.size:=(by omega);have hlt1:=B1.lt)|(go_at_call 66;(with_reducible refine (many4_some _ rb r (d+1) (B1.behind ((Below.refl _ _).alloc (Nat.le_refl _) _)).rdr hm).mono ?_);rintro e w2 ⟨rfl,hR2,hS2⟩;have B2:=(B1.behind ((Below.refl _ _).alloc (Nat.le_refl _) _)).next hS2 hR2;have VB2:=(VB.start w1 ⟨kd,0, .empty,none,0,0,none,0,0⟩ 28).next hS2 (by omega)))
  have LI0:LI w w2 rb w1.heap.size d k kd q 0 none 0 0 [] [] q:=⟨rfl,rfl,rfl,B2,VB2,Row.nil _ _ _ _ _,hsz⟩
  obtain ⟨vb,hvb⟩:∃vb,w1.heap.size=vb:=⟨_,rfl⟩
  rw [hvb] at LI0 hsz zs0 zs1 ⊢
  clear B1 B2 VB2 r0 r1 r3 r4 g0 g1 g2 g3 g4 hb0 hvb
  go_loopw [40] (fun i wr=>∃(j:Nat) (a:Option Addr) (m c:Nat) (xs:List V) (cs:List VC) (rj:List UInt8),j≤n∧i= .int .i64 j∧LI w wr rb vb d k kd q j a m c xs cs rj) (fun i _=>n - (intOf i).toNat)
  case atStart=>exact ⟨0,none,0,0, [], [],q,Nat.zero_le _,rfl,LI0⟩
  case round=>
    clear LI0
    obtain ⟨j,a,m,c,xs,cs,rj,hj,rfl,L⟩:=hrel
    have y0:=L.vb_.at_.c0;have y1:=L.vb_.at_.c1;have y2:=L.vb_.at_.c2;have y3:=L.vb_.at_.c3;have y4:=L.vb_.at_.c4
    have p3:=L.vb_.fr 3
    have hb0:=L.box.box
    have hvlt:=L.vb_.lt
    by_cases hlt2:j<n
    · have hlo:=L.lo
      have hbl:=L.box.lt
      cases hx:rdV k rj with
      | none=>
        have hout:out=none:=by
          rw [←HL.out]
          exact rdL_none (f:=fun x=>rdV k x) (i:=j+1) (by rw [rdL,L.rd];simp only [Option.bind_some,hx];rfl) (by omega)
        subst hout
        have HC:Hid (Calls Tryd.prog 40 #[.pointer (some ⟨rb,0,none⟩)] wr.drew fun e w'=>RStep wr.drew w' rb∧e= .panicked [short] ∧∃bs',Rdr w' rb bs' (d+1)):=
          (IHH.out wr.drew rj (L.box.behind (drew_below wr)).rdr).mono fun e w' h=>by rw [hx] at h;exact h
        have HO:Hid (∀W,RStep wr.drew W rb→W.ownsRow (vb+1) 28 5 (.slice a m c) j (cs.flatMap vcells)∧W.cell? ⟨vb,3,none⟩=some (.slice a m c)∧W.frozen? ⟨vb,3,none⟩=false∧vb<W.heap.size):=by
          intro W hW
          have ho:=((L.row.later (PV.closed xs cs) (.of_below rb (drew_below wr)) (by omega)).later (PV.closed xs cs) hW (by omega)).own
          rw [L.len] at ho
          exact ⟨ho,hW.cell (w:=wr.drew) y3 (by omega),(hW.frozen (w:=wr.drew) hvlt (by omega)).trans p3,Nat.lt_of_lt_of_le hvlt hW.size⟩
        have hne:(Value.slice a m c).ownBlock≠some vb:=fun e=>by have:=(L.row.lt _ e).1;omega
        have LL:=Lib.hid L
        clear hx L
        go_wp2_with fail
        refine wp_region_panicP [{ target:= .fn (.func 69) #[.pointer (some ⟨w.heap.size,0,none⟩)],args:= #[] }] (fun w'=>RStep wr.drew w' rb∧∃bs',Rdr w' rb bs' (d+1)) (fun a w' hD hw=> ?_) ?_
        · obtain ⟨hS4,bs4,hR4⟩:=hw
          have:=((LL.out.box.behind (drew_below wr)).next hS4 hR4).panic (tmps:=a.tmps) (by omega) (by omega)
          rw [←hD] at this
          exact this
        go_region_law
          (first
            |(go_simp;go_at_call 40;refine (HC.out).mono ?_;intro e w4 hP;by_cases hv:e= .returned (.agg #[.int .u8 0, .int .i64 0, .string { data:= #[] }, .slice none 0 0, .slice none 0 0]);rotate_left;(focus (obtain ⟨hS4,he,hR4⟩:=hP;subst he;exact ⟨rfl,rfl,hS4,hR4⟩));obtain ⟨hS4,he,hR4⟩:=hP;rw [hv] at he;have HF:=Lib.hid he;clear he;subst hv;obtain ⟨ho4,hc4,hf4,hv4⟩:=HO.out w4 hS4)
            |(refine step_append_lies _ (by rfl) _ _ _ (by rfl) (vb+1) 28 i0 _ 5 80 (by kernel_rfl) hi0 hz0 hz1 hz2 rfl (by omega) (.slice a m c) j (cs.flatMap vcells) (by rfl) (ho4.alloc _) ⟨w4.heap.size,0,none⟩ 1 1 (vcells vzero) (by rfl) (by rfl) (World.news_of_block (t:=28) (fr:=(0,0)) (heap_alloc_new w4 _)) (by simp [vcells,Value.oneCell']) (by omega) (by unfold maxLen;omega) (by omega) (by simp;omega) (w4.heap.size+1) (by simp) ?_;intro g cap w5 hown5 hgrow5 hat5 hlt5;have hc5:w5.cell? ⟨vb,3,none⟩=some (.slice a m c):=(hgrow5.cell_far ⟨vb,3,none⟩ (by simp;omega) (Ne.symm hne)).trans (keep_cell ((Below.refl _ _).alloc (Nat.le_refl _) _) hc4 hv4);have hf5:w5.frozen? ⟨vb,3,none⟩=false:=(hgrow5.frozen_far ⟨vb,3,none⟩ (by simp;omega) (Ne.symm hne)).trans ((((Below.refl _ _).alloc (Nat.le_refl _) _:Below w4.heap.size w4 (w4.alloc _)).frozen (p:=⟨vb,3,none⟩) hv4).trans hf4)))
        all_goals cases HF.out
      |some xr=>
      obtain ⟨x,r3⟩:=xr
      have HX:=Lib.hid hx
      have HC:Hid (Calls Tryd.prog 40 #[.pointer (some ⟨rb,0,none⟩)] wr.drew fun e w'=>∃c:VC,e= .returned (.agg #[.int .u8 c.k, .int .i64 c.n, .string c.s, .slice c.la c.ll c.lc, .slice c.oa c.ol c.oc])∧RStep wr.drew w' rb∧IsVal (only (fun b=>wr.drew.heap.size≤b) w') w'.heap.size x c∧Rdr w' rb r3 (d+1)):=
        (IHH.out wr.drew rj (L.box.behind (drew_below wr)).rdr).mono fun e w' h=>RV_some (by rw [hx] at h;exact h)
      have HO:Hid (∀W,RStep wr.drew W rb→W.ownsRow (vb+1) 28 5 (.slice a m c) j (cs.flatMap vcells)∧W.cell? ⟨vb,3,none⟩=some (.slice a m c)∧W.frozen? ⟨vb,3,none⟩=false∧vb<W.heap.size):=by
        intro W hW
        have ho:=((L.row.later (PV.closed xs cs) (.of_below rb (drew_below wr)) (by omega)).later (PV.closed xs cs) hW (by omega)).own
        rw [L.len] at ho
        exact ⟨ho,hW.cell (w:=wr.drew) y3 (by omega),(hW.frozen (w:=wr.drew) hvlt (by omega)).trans p3,Nat.lt_of_lt_of_le hvlt hW.size⟩
      have hne:(Value.slice a m c).ownBlock≠some vb:=fun e=>by have:=(L.row.lt _ e).1;omega
      have LL:=Lib.hid L
      clear hx L
      go_wp2_with fail
      refine wp_region_noPanic ?_
      go_region_law
        (first
          |(go_simp;go_at_call 40;refine (HC.out).mono ?_;rintro e w4 ⟨cx,rfl,hS4,hI4,hR4⟩;obtain ⟨ho4,hc4,hf4,hv4⟩:=HO.out w4 hS4)
          |(refine step_append_lies _ (by rfl) _ _ _ (by rfl) (vb+1) 28 i0 _ 5 80 (by kernel_rfl) hi0 hz0 hz1 hz2 rfl (by omega) (.slice a m c) j (cs.flatMap vcells) (by rfl) (ho4.alloc _) ⟨w4.heap.size,0,none⟩ 1 1 (vcells cx) (by rfl) (by rfl) (World.news_of_block (t:=28) (fr:=(0,0)) (heap_alloc_new w4 _)) (by simp [vcells,Value.oneCell']) (by omega) (by unfold maxLen;omega) (by omega) (by simp;omega) (w4.heap.size+1) (by simp) ?_;intro g cap w5 hown5 hgrow5 hat5 hlt5;have hc5:w5.cell? ⟨vb,3,none⟩=some (.slice a m c):=(hgrow5.cell_far ⟨vb,3,none⟩ (by simp;omega) (Ne.symm hne)).trans (keep_cell ((Below.refl _ _).alloc (Nat.le_refl _) _) hc4 hv4);have hf5:w5.frozen? ⟨vb,3,none⟩=false:=(hgrow5.frozen_far ⟨vb,3,none⟩ (by simp;omega) (Ne.symm hne)).trans ((((Below.refl _ _).alloc (Nat.le_refl _) _:Below w4.heap.size w4 (w4.alloc _)).frozen (p:=⟨vb,3,none⟩) hv4).trans hf4)))
      all_goals
        refine NoPanic.normal ?_
        go_wp2_with fail
        go_roundw
        case rel=>exact ⟨j+1,some ⟨g,0,none⟩,j+1,cap,xs++ [x],cs++ [cx],r3,by omega,by go_num,LL.out.round HX.out hS4 hI4 hR4 hown5 hgrow5 hat5⟩
        case measure=>simp [intOf];omega
    · have hjn:j=n:=by omega
      subst hjn
      obtain rfl:out=some (xs,rj):=by rw [←HL.out,L.rd]
      have r0:=L.box.res.c0;have r1:=L.box.res.c1;have r2:=L.box.res.c2;have r3:=L.box.res.c3;have r4:=L.box.res.c4
      have g0:=L.box.frz 0 (by omega);have g1:=L.box.frz 1 (by omega);have g2:=L.box.frz 2 (by omega);have g3:=L.box.frz 3 (by omega);have g4:=L.box.frz 4 (by omega)
      have hx:=L.row.val (lo:=vb+1) (by rw [L.len,L.cen]) (Nat.le_refl _) kd (by omega) (by omega) (by rw [L.len];omega)
      have HB2:=Lib.hid L.box
      have HX:=Lib.hid hx
      clear L hx
      go_wp2_with fail
      exact leave_stored (base:=vb+1) HB2.out ⟨kd,0, .empty,a,m,c,none,0,0⟩ HX.out (by omega) (by omega) (by omega) rfl
end Go.Proofs.YthceefjafklcmaaDoor
namespace Go.Proofs.YthceefjafklcmaaDoor
open Go.RowKit
theorem ginfoF:(Tryd.prog.info? 67).map (fun i=>(i.zero,i.size,i.bytes))=some (some (.agg #[.string { data:= #[] }, .int .u8 0, .int .i64 0, .string { data:= #[] }, .slice none 0 0, .slice none 0 0]),6,96):=by kernel_rfl
set_option maxHeartbeats 8000000 in
set_option maxRecDepth 100000 in
theorem rv_obj_any (w:World) (rb:Nat) (bs:List UInt8) (d:Int) (h:Rdr w rb bs d) (hd0:0≤d) (hd:d≤17) {kd n:Nat} {r q:List UInt8} (hr:rdN 1 bs=some (kd,r)) (hk:kd=5) (hm:rdM 4 r=some (n,q)) (k:Nat) (IH:∀(W:World) (bs:List UInt8),Rdr W rb bs (d+1)→Calls Tryd.prog 40 #[.pointer (some ⟨rb,0,none⟩)] W (RVPost W rb (d+1) (rdV k bs))) {out:Option (List (ByteArray×V)×List UInt8)} (hl:rdL (fun x=>(rdT x).bind fun y=>(rdV k y.2).bind fun z=>some ((y.1,z.1),z.2)) n q=out):
    Calls Tryd.prog 40 #[.pointer (some ⟨rb,0,none⟩)] w (RVPost w rb d (out.bind fun p=>some (.mk kd 0 .empty [] p.1,p.2))):=by
  obtain ⟨i0,hi0,hz0,hz1,hz2⟩:=info_parts ginfoF
  have hk1:kd<256:=rdN_lt hr
  have hn4:n<4294967296:=Nat.lt_of_lt_of_le (rdN_lt (rdM_some hm).1) (by decide)
  have IHH:=Lib.hid IH
  have HL:=Lib.hid hl
  clear IH hl
  have hmf:∀(fn:Fn) (first cap:Array Value) (w:World),(Instr.makeFunc fn first cap).run Tryd.prog w= .ok (.func fn first cap) w:=fun _ _ _ _=>rfl
  have HB:=Lib.hid (fun t1 t2=>RB.start (d':=d+1) h t1 t2)
  have h1:=h.deep
  have h2:=h.f1
  have hlt:=h.lt
  clear h
  have f1:((kd:Int)==1)=false:=by subst hk;rfl
  have f2:((kd:Int)==2)=false:=by subst hk;rfl
  have f3:((kd:Int)==3)=false:=by subst hk;rfl
  have f4:((kd:Int)==4)=false:=by subst hk;rfl
  have f5:((kd:Int)==5)=true:=by subst hk;rfl
  clear hk
  go_enter_defers Tryd.func40,Tryd.ntmps40
  go_wp2_with (first|(go_at_call 64;(with_reducible refine (takeU81_some _ rb bs (d+1) (HB.out _ _).rdr hr).mono ?_);rintro e w1 ⟨rfl,hR,hS⟩;have B1:=(HB.out _ _).next hS hR;have r0:=B1.res.c0;have r1:=B1.res.c1;have r2:=B1.res.c2;have r3:=B1.res.c3;have r4:=B1.res.c4;have g0:=B1.frz 0 (by omega);have g1:=B1.frz 1 (by omega);have g2:=B1.frz 2 (by omega);have g3:=B1.frz 3 (by omega);have g4:=B1.frz 4 (by omega);have hb0:=B1.box;have hsz:=B1.size;have zs1:w.heap.size+1<w1.heap.size:=(by omega);have zs0:w.heap.size<w1.heap.size:=(by omega);have hlt1:=B1.lt)|(go_at_call 66;(with_reducible refine (many4_some _ rb r (d+1) (B1.behind ((Below.refl _ _).alloc (Nat.le_refl _) _)).rdr hm).mono ?_);rintro e w2 ⟨rfl,hR2,hS2⟩;have B2:=(B1.behind ((Below.refl _ _).alloc (Nat.le_refl _) _)).next hS2 hR2;have VB2:=(VB.start w1 ⟨kd,0, .empty,none,0,0,none,0,0⟩ 28).next hS2 (by omega)))
  have LI0:LF w w2 rb w1.heap.size d k kd q 0 none 0 0 [] [] q q:=⟨rfl,rfl,rfl,B2,VB2,Row.nil _ _ _ _ _,hsz⟩
  obtain ⟨vb,hvb⟩:∃vb,w1.heap.size=vb:=⟨_,rfl⟩
  rw [hvb] at LI0 hsz zs0 zs1 ⊢
  clear B1 B2 VB2 r0 r1 r3 r4 g0 g1 g2 g3 g4 hb0 hvb
  go_loopw [54] (fun i wr=>∃(j:Nat) (a:Option Addr) (m c:Nat) (xs:List (ByteArray×V)) (cs:List (ByteArray×VC)) (rj:List UInt8),j≤n∧i= .int .i64 j∧LF w wr rb vb d k kd q j a m c xs cs rj rj) (fun i _=>n - (intOf i).toNat)
  case atStart=>exact ⟨0,none,0,0, [], [],q,Nat.zero_le _,rfl,LI0⟩
  case round=>
    clear LI0
    obtain ⟨j,a,m,c,xs,cs,rj,hj,rfl,L⟩:=hrel
    have y0:=L.vb_.at_.c0;have y1:=L.vb_.at_.c1;have y2:=L.vb_.at_.c2;have y3:=L.vb_.at_.c3;have y4:=L.vb_.at_.c4
    have p3:=L.vb_.fr 4
    have hb0:=L.box.box
    have hvlt:=L.vb_.lt
    by_cases hlt2:j<n
    · have hlo:=L.lo
      have hbl:=L.box.lt
      cases ht:rdT rj with
      | none=>
        have hout:out=none:=by
          rw [←HL.out]
          exact rdL_none (f:=(fun x=>(rdT x).bind fun y=>(rdV k y.2).bind fun z=>some ((y.1,z.1),z.2))) (i:=j+1) (by rw [rdL,L.rd];simp only [Option.bind_some,ht];rfl) (by omega)
        subst hout
        have HTX:=Lib.hid (fun W hR=>rText_none W rb rj (d+1) hR ht)
        have LL:=Lib.hid L
        clear ht L
        go_wp2_with (go_at_call 71;(with_reducible refine (HTX.out _ LL.out.box.rdr).mono ?_);rintro e w3 ⟨rfl,hS3,bs3,hR3⟩)
        exact (LL.out.box.next hS3 hR3).panic (by omega) (by omega)
      |some sr=>
      obtain ⟨sk,r3⟩:=sr
      have HTT:=Lib.hid ht
      have LL0:=Lib.hid L
      clear ht L
      go_wp2_with (go_at_call 71;(with_reducible refine (rText_some _ rb rj (d+1) LL0.out.box.rdr HTT.out).mono ?_);rintro e w3 ⟨rfl,hR3,hS3⟩;have L:=LL0.out.text hS3 hR3;have y0:=L.vb_.at_.c0;have y1:=L.vb_.at_.c1;have y2:=L.vb_.at_.c2;have y3:=L.vb_.at_.c3;have y4:=L.vb_.at_.c4;have p3:=L.vb_.fr 4;have hb0:=L.box.box;have hvlt:=L.vb_.lt)
      have ht:=HTT.out
      cases hx:rdV k r3 with
      | none=>
        have hout:out=none:=by
          rw [←HL.out]
          exact rdL_none (f:=fun x=>(rdT x).bind fun y=>(rdV k y.2).bind fun z=>some ((y.1,z.1),z.2)) (i:=j+1) (by rw [rdL,L.rd];simp only [Option.bind_some,ht,hx];rfl) (by omega)
        subst hout
        have HC:Hid (Calls Tryd.prog 40 #[.pointer (some ⟨rb,0,none⟩)] w3.drew fun e w'=>RStep w3.drew w' rb∧e= .panicked [short] ∧∃bs',Rdr w' rb bs' (d+1)):=
          (IHH.out w3.drew r3 (L.box.behind (drew_below w3)).rdr).mono fun e w' h=>by rw [hx] at h;exact h
        have HO:Hid (∀W,RStep w3.drew W rb→W.ownsRow (vb+1) 67 6 (.slice a m c) j (cs.flatMap fcells)∧W.cell? ⟨vb,4,none⟩=some (.slice a m c)∧W.frozen? ⟨vb,4,none⟩=false∧vb<W.heap.size):=by
          intro W hW
          have ho:=((L.row.later (PF.closed xs cs) (.of_below rb (drew_below w3)) (by omega)).later (PF.closed xs cs) hW (by omega)).own
          rw [L.len] at ho
          exact ⟨ho,hW.cell (w:=w3.drew) L.vb_.at_.c4 (by omega),(hW.frozen (w:=w3.drew) L.vb_.lt (by omega)).trans (L.vb_.fr 4),Nat.lt_of_lt_of_le L.vb_.lt hW.size⟩
        have hne:(Value.slice a m c).ownBlock≠some vb:=fun e=>by have:=(L.row.lt _ e).1;omega
        have LL:=Lib.hid L
        clear hx ht L
        refine wp_region_panicP [{ target:= .fn (.func 69) #[.pointer (some ⟨w.heap.size,0,none⟩)],args:= #[] }] (fun w'=>RStep w3.drew w' rb∧∃bs',Rdr w' rb bs' (d+1)) (fun a w' hD hw=> ?_) ?_
        · obtain ⟨hS4,bs4,hR4⟩:=hw
          have:=((LL.out.box.behind (drew_below w3)).next hS4 hR4).panic (tmps:=a.tmps) (by omega) (by omega)
          rw [←hD] at this
          exact this
        go_region_law
          (first
            |(go_simp;go_at_call 40;refine (HC.out).mono ?_;intro e w4 hP;by_cases hv:e= .returned (.agg #[.int .u8 0, .int .i64 0, .string { data:= #[] }, .slice none 0 0, .slice none 0 0]);rotate_left;(focus (obtain ⟨hS4,he,hR4⟩:=hP;subst he;exact ⟨rfl,rfl,hS4,hR4⟩));obtain ⟨hS4,he,hR4⟩:=hP;rw [hv] at he;have HF:=Lib.hid he;clear he;subst hv;obtain ⟨ho4,hc4,hf4,hv4⟩:=HO.out w4 hS4)
            |(refine step_append_lies _ (by rfl) _ _ _ (by rfl) (vb+1) 67 i0 _ 6 96 (by kernel_rfl) hi0 hz0 hz1 hz2 rfl (by omega) (.slice a m c) j (cs.flatMap fcells) (by rfl) (ho4.alloc _) ⟨w4.heap.size,0,none⟩ 1 1 (fcells (sk,vzero)) (by rfl) (by rfl) (World.news_of_block (t:=67) (fr:=(0,0)) (heap_alloc_new w4 _)) (by simp [fcells,Value.oneCell']) (by omega) (by unfold maxLen;omega) (by omega) (by simp;omega) (w4.heap.size+1) (by simp) ?_;intro g cap w5 hown5 hgrow5 hat5 hlt5;have hc5:w5.cell? ⟨vb,4,none⟩=some (.slice a m c):=(hgrow5.cell_far ⟨vb,4,none⟩ (by simp;omega) (Ne.symm hne)).trans (keep_cell ((Below.refl _ _).alloc (Nat.le_refl _) _) hc4 hv4);have hf5:w5.frozen? ⟨vb,4,none⟩=false:=(hgrow5.frozen_far ⟨vb,4,none⟩ (by simp;omega) (Ne.symm hne)).trans ((((Below.refl _ _).alloc (Nat.le_refl _) _:Below w4.heap.size w4 (w4.alloc _)).frozen (p:=⟨vb,4,none⟩) hv4).trans hf4)))
        all_goals cases HF.out
      |some xr=>
      obtain ⟨x,r4⟩:=xr
      have HX:=Lib.hid hx
      have HC:Hid (Calls Tryd.prog 40 #[.pointer (some ⟨rb,0,none⟩)] w3.drew fun e w'=>∃c:VC,e= .returned (.agg #[.int .u8 c.k, .int .i64 c.n, .string c.s, .slice c.la c.ll c.lc, .slice c.oa c.ol c.oc])∧RStep w3.drew w' rb∧IsVal (only (fun b=>w3.drew.heap.size≤b) w') w'.heap.size x c∧Rdr w' rb r4 (d+1)):=
        (IHH.out w3.drew r3 (L.box.behind (drew_below w3)).rdr).mono fun e w' h=>RV_some (by rw [hx] at h;exact h)
      have HO:Hid (∀W,RStep w3.drew W rb→W.ownsRow (vb+1) 67 6 (.slice a m c) j (cs.flatMap fcells)∧W.cell? ⟨vb,4,none⟩=some (.slice a m c)∧W.frozen? ⟨vb,4,none⟩=false∧vb<W.heap.size):=by
        intro W hW
        have ho:=((L.row.later (PF.closed xs cs) (.of_below rb (drew_below w3)) (by omega)).later (PF.closed xs cs) hW (by omega)).own
        rw [L.len] at ho
        exact ⟨ho,hW.cell (w:=w3.drew) L.vb_.at_.c4 (by omega),(hW.frozen (w:=w3.drew) L.vb_.lt (by omega)).trans (L.vb_.fr 4),Nat.lt_of_lt_of_le L.vb_.lt hW.size⟩
      have hne:(Value.slice a m c).ownBlock≠some vb:=fun e=>by have:=(L.row.lt _ e).1;omega
      have LL:=Lib.hid L
      clear hx ht L
      refine wp_region_noPanic ?_
      go_region_law
        (first
          |(go_simp;go_at_call 40;refine (HC.out).mono ?_;rintro e w4 ⟨cx,rfl,hS4,hI4,hR4⟩;obtain ⟨ho4,hc4,hf4,hv4⟩:=HO.out w4 hS4)
          |(refine step_append_lies _ (by rfl) _ _ _ (by rfl) (vb+1) 67 i0 _ 6 96 (by kernel_rfl) hi0 hz0 hz1 hz2 rfl (by omega) (.slice a m c) j (cs.flatMap fcells) (by rfl) (ho4.alloc _) ⟨w4.heap.size,0,none⟩ 1 1 (fcells (sk,cx)) (by rfl) (by rfl) (World.news_of_block (t:=67) (fr:=(0,0)) (heap_alloc_new w4 _)) (by simp [fcells,Value.oneCell']) (by omega) (by unfold maxLen;omega) (by omega) (by simp;omega) (w4.heap.size+1) (by simp) ?_;intro g cap w5 hown5 hgrow5 hat5 hlt5;have hc5:w5.cell? ⟨vb,4,none⟩=some (.slice a m c):=(hgrow5.cell_far ⟨vb,4,none⟩ (by simp;omega) (Ne.symm hne)).trans (keep_cell ((Below.refl _ _).alloc (Nat.le_refl _) _) hc4 hv4);have hf5:w5.frozen? ⟨vb,4,none⟩=false:=(hgrow5.frozen_far ⟨vb,4,none⟩ (by simp;omega) (Ne.symm hne)).trans ((((Below.refl _ _).alloc (Nat.le_refl _) _:Below w4.heap.size w4 (w4.alloc _)).frozen (p:=⟨vb,4,none⟩) hv4).trans hf4)))
      all_goals
        refine NoPanic.normal ?_
        go_wp2_with fail
        go_roundw
        case rel=>exact ⟨j+1,some ⟨g,0,none⟩,j+1,cap,xs++ [(sk,x)],cs++ [(sk,cx)],r4,by omega,by go_num,LL.out.round HTT.out HX.out hS4 hI4 hR4 hown5 hgrow5 hat5⟩
        case measure=>simp [intOf];omega
    · have hjn:j=n:=by omega
      subst hjn
      obtain rfl:out=some (xs,rj):=by rw [←HL.out,L.rd]
      have r0:=L.box.res.c0;have r1:=L.box.res.c1;have r2:=L.box.res.c2;have r3:=L.box.res.c3;have r4:=L.box.res.c4
      have g0:=L.box.frz 0 (by omega);have g1:=L.box.frz 1 (by omega);have g2:=L.box.frz 2 (by omega);have g3:=L.box.frz 3 (by omega);have g4:=L.box.frz 4 (by omega)
      have hx:=L.row.val (lo:=vb+1) (by rw [L.len,L.cen]) (Nat.le_refl _) kd (by omega) (by omega) (by rw [L.len];omega)
      have HB2:=Lib.hid L.box
      have HX:=Lib.hid hx
      clear L hx
      go_wp2_with fail
      exact leave_stored (base:=vb+1) HB2.out ⟨kd,0, .empty,none,0,0,a,m,c⟩ HX.out (by omega) (by omega) (by omega) rfl
end Go.Proofs.YthceefjafklcmaaDoor
