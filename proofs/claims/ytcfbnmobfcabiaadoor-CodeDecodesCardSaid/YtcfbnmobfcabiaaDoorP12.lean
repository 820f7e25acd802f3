/-
  The chapter's example.
-/
import Derived.Test.YtcfbnmobfcabiaaDoorP11
namespace Go.Proofs.YtcfbnmobfcabiaaDoor
open Go.RowKit
theorem re_none (w : World) (rb : Nat) (bs : List UInt8) (h : Rdr w rb bs 0) (hr : rdE bs = none) :
    Calls Tryd.prog 21 #[.pointer (some ⟨rb, 0, none⟩)] w fun e w' => e = .panicked [short] ∧ RStep w w' rb ∧ ∃ bs', Rdr w' rb bs' 0 :=
  (rEntry_any w rb bs h hr).mono fun _ _ ⟨h1, h2, h3⟩ => ⟨h2, h1, h3⟩
theorem re_some (w : World) (rb : Nat) (bs : List UInt8) (h : Rdr w rb bs 0) {x : En} {r : List UInt8} (hr : rdE bs = some (x, r)) :
    Calls Tryd.prog 21 #[.pointer (some ⟨rb, 0, none⟩)] w fun e w' => ∃ c : EC, e = .returned (.agg #[.int .u8 c.k, .int .u32 c.src, .int .u32 c.seq, .int .u8 c.v.k, .int .i64 c.v.n, .string c.v.s, .slice c.v.la c.v.ll c.v.lc, .slice c.v.oa c.v.ol c.v.oc, .slice c.oa c.ol c.oc]) ∧ RStep w w' rb ∧ IsEntry (only (fun b => w.heap.size ≤ b) w') w'.heap.size x c ∧ Rdr w' rb r 0 :=
  (rEntry_any w rb bs h hr).mono fun _ _ ⟨h1, ⟨c, h2, h3⟩, h4⟩ => ⟨c, h2, h1, h3, h4⟩
theorem encode_e (sd : Bool) (w : World) (c : EC) (x : En) (hx : IsEntry w w.heap.size x c) (HS : Hid (∀ W, Below w.heap.size w W → Calls Tryd.prog 30 #[.agg #[.int .u8 c.k, .int .u32 c.src, .int .u32 c.seq, .int .u8 c.v.k, .int .i64 c.v.n, .string c.v.s, .slice c.v.la c.v.ll c.v.lc, .slice c.v.oa c.v.ol c.v.oc, .slice c.oa c.ol c.oc]] W fun e w' => e = .returned (.bool sd) ∧ Below W.heap.size W w')) (hsz : (encE x).length ≤ 70368744177664) :
    Calls Tryd.prog 13 #[.agg #[.int .u8 c.k, .int .u32 c.src, .int .u32 c.seq, .int .u8 c.v.k, .int .i64 c.v.n, .string c.v.s, .slice c.v.la c.v.ll c.v.lc, .slice c.v.oa c.v.ol c.v.oc, .slice c.oa c.ol c.oc]] w fun e w' => (∃ a n cc, e = .returned (.tuple #[.slice a n cc, .int .u16 (outN sd (encE x))]) ∧ IsB w' w'.heap.size a n cc (outB sd (encE x))) ∧ Below w.heap.size w w' := by
  cases hx with
  | mk c v l hb hv ho =>
    obtain ⟨k, src, seq, ⟨vk, vn, vs, vla, vll, vlc, voa, vol, voc⟩, oa, ol, oc⟩ := c
    exact encode_of sd w k src seq vk vn vs vla vll vlc voa vol voc oa ol oc v l hb.k0 hb.k1 hv ho HS hsz
theorem results_wholeE {tmps : Array Value} {W : World} {b b' : Nat} {c : EC} {x : Value} (ht : tmps[6]? = some (.pointer (some ⟨b, 0, none⟩))) (ht' : tmps[7]? = some (.pointer (some ⟨b', 0, none⟩))) (h : BC W b [.int .u8 c.k, .int .u32 c.src, .int .u32 c.seq, .int .u8 c.v.k, .int .i64 c.v.n, .string c.v.s, .slice c.v.la c.v.ll c.v.lc, .slice c.v.oa c.v.ol c.v.oc, .slice c.oa c.ol c.oc]) (h' : BC W b' [x]) :
    (results Tryd.f20 tmps).run Tryd.prog W = .ok (.tuple #[.agg #[.int .u8 c.k, .int .u32 c.src, .int .u32 c.seq, .int .u8 c.v.k, .int .i64 c.v.n, .string c.v.s, .slice c.v.la c.v.ll c.v.lc, .slice c.v.oa c.v.ol c.v.oc, .slice c.oa c.ol c.oc], x]) W := by
  have r0 := h.at_ 0 _ rfl; have r1 := h.at_ 1 _ rfl; have r2 := h.at_ 2 _ rfl; have r3 := h.at_ 3 _ rfl; have r4 := h.at_ 4 _ rfl; have r5 := h.at_ 5 _ rfl; have r6 := h.at_ 6 _ rfl; have r7 := h.at_ 7 _ rfl; have r8 := h.at_ 8 _ rfl
  have s0 := h'.at_ 0 _ rfl
  simp [results, Tryd.results20, go_sem, ht, ht', s0, r0, r1, r2, r3, r4, r5, r6, r7, r8]
def WEPost (w : World) (r : En × Int) (e : Ending) (w' : World) : Prop :=
  (∃ c : EC, e = .returned (.tuple #[.agg #[.int .u8 c.k, .int .u32 c.src, .int .u32 c.seq, .int .u8 c.v.k, .int .i64 c.v.n, .string c.v.s, .slice c.v.la c.v.ll c.v.lc, .slice c.v.oa c.v.ol c.v.oc, .slice c.oa c.ol c.oc], .int .u16 r.2]) ∧ IsEntry (only (fun b => w.heap.size ≤ b) w') w'.heap.size r.1 c) ∧ Below w.heap.size w w'
theorem wdoorE_short {tmps : Array Value} {w W : World} {cs : List Value} {x : Value} (H : WH w W ez cs x) (hl : cs.length = 9) (ht : tmps[6]? = some (.pointer (some ⟨w.heap.size, 0, none⟩))) (ht' : tmps[7]? = some (.pointer (some ⟨w.heap.size + 1, 0, none⟩))) :
    Leaves Tryd.prog Tryd.f20 tmps (WEPost w (En.none, 100)) [{ target := .fn (.func 44) #[.pointer (some ⟨w.heap.size + 1 + 1, 0, none⟩), .pointer (some ⟨w.heap.size, 0, none⟩), .pointer (some ⟨w.heap.size + 1, 0, none⟩)], args := #[] }] (.panicking [short]) W := by
  refine leaves_cons (f := 44) (args := #[.pointer (some ⟨w.heap.size + 1 + 1, 0, none⟩), .pointer (some ⟨w.heap.size, 0, none⟩), .pointer (some ⟨w.heap.size + 1, 0, none⟩)]) (by simp) (by simp [go_sem]) ?_
  refine (catchE_short (w.heap.size + 2) w.heap.size (w.heap.size + 1) W H.non cs H.out hl x H.err (by omega) (by omega)).mono ?_
  rintro e u' w'' ⟨rfl, rfl, hw⟩
  show Leaves _ _ _ _ [] .returning w''
  obtain ⟨W1, hW1⟩ : ∃ W1, (((((((((W.setCell ⟨w.heap.size, 0, none⟩ (.int .u8 0)).setCell ⟨w.heap.size, 1, none⟩ (.int .u32 0)).setCell ⟨w.heap.size, 2, none⟩ (.int .u32 0)).setCell ⟨w.heap.size, 3, none⟩ (.int .u8 0)).setCell ⟨w.heap.size, 4, none⟩ (.int .i64 0)).setCell ⟨w.heap.size, 5, none⟩ (.string { data := #[] })).setCell ⟨w.heap.size, 6, none⟩ (.slice none 0 0)).setCell ⟨w.heap.size, 7, none⟩ (.slice none 0 0)).setCell ⟨w.heap.size, 8, none⟩ (.slice none 0 0)) = W1 := ⟨_, rfl⟩
  have c1 : BC W1 w.heap.size ez := by
    rw [← hW1]
    match cs, hl, H.out with
    | [z0, z1, z2, z3, z4, z5, z6, z7, z8], _, ho => exact (((((((((ho.set (i := 0) (x := .int .u8 0) (by simp)).set (i := 1) (x := .int .u32 0) (by simp)).set (i := 2) (x := .int .u32 0) (by simp)).set (i := 3) (x := .int .u8 0) (by simp)).set (i := 4) (x := .int .i64 0) (by simp)).set (i := 5) (x := .string { data := #[] }) (by simp)).set (i := 6) (x := .slice none 0 0) (by simp)).set (i := 7) (x := .slice none 0 0) (by simp)).set (i := 8) (x := .slice none 0 0) (by simp))
  have e1 : BC W1 (w.heap.size + 1) [x] := by
    rw [← hW1]
    exact (((((((((H.err.far (by omega)).far (by omega)).far (by omega)).far (by omega)).far (by omega)).far (by omega)).far (by omega)).far (by omega)).far (by omega))
  have s1 : RStep W W1 w.heap.size := by rw [← hW1]; exact (((((((RStep.self.trans RStep.self).trans RStep.self).trans RStep.self).trans RStep.self).trans RStep.self).trans RStep.self).trans RStep.self).trans RStep.self
  rw [hW1] at hw
  have c2 : BC (W1.setCell ⟨w.heap.size + 1, 0, none⟩ (.int .u16 100)) w.heap.size ez := c1.far (by omega)
  have e2 : BC (W1.setCell ⟨w.heap.size + 1, 0, none⟩ (.int .u16 100)) (w.heap.size + 1) [.int .u16 100] := e1.set (i := 0) (x := .int .u16 100) (by simp)
  have hb : Below (W1.setCell ⟨w.heap.size + 1, 0, none⟩ (.int .u16 100)).heap.size (W1.setCell ⟨w.heap.size + 1, 0, none⟩ (.int .u16 100)) w'' := by rw [hw]; exact (Below.refl _ _).alloc (Nat.le_refl _) _
  have s2 : RStep W1 (W1.setCell ⟨w.heap.size + 1, 0, none⟩ (.int .u16 100)) (w.heap.size + 1) := RStep.self
  have hlt := H.out.lt
  have hB : Below w.heap.size w w'' := by
    have b1 : Below w.heap.size W W1 := s1.below (by omega)
    have b2 : Below w.heap.size W1 (W1.setCell ⟨w.heap.size + 1, 0, none⟩ (.int .u16 100)) := (s2.below (by have := s1.size; have := H.err.lt; omega)).mono (by omega)
    have z1 := s1.size
    have z2 := s2.size
    exact ((H.below.trans b1).trans b2).trans (hb.mono (by omega))
  exact ⟨_, results_wholeE (c := ezero) ht ht' (c2.keep hb c2.lt) (e2.keep hb e2.lt), ⟨ezero, rfl, isEntry_none _ _⟩, hB⟩
theorem wdoorE_idle {tmps : Array Value} {w W : World} {c : EC} {v : En} {x : Int} (H : WH w W ez [.int .u8 c.k, .int .u32 c.src, .int .u32 c.seq, .int .u8 c.v.k, .int .i64 c.v.n, .string c.v.s, .slice c.v.la c.v.ll c.v.lc, .slice c.v.oa c.v.ol c.v.oc, .slice c.oa c.ol c.oc] (.int .u16 x)) (hv : IsEntry (only (fun b => w.heap.size ≤ b) W) W.heap.size v c) (ht : tmps[6]? = some (.pointer (some ⟨w.heap.size, 0, none⟩))) (ht' : tmps[7]? = some (.pointer (some ⟨w.heap.size + 1, 0, none⟩))) :
    Leaves Tryd.prog Tryd.f20 tmps (WEPost w (v, x)) [{ target := .fn (.func 44) #[.pointer (some ⟨w.heap.size + 1 + 1, 0, none⟩), .pointer (some ⟨w.heap.size, 0, none⟩), .pointer (some ⟨w.heap.size + 1, 0, none⟩)], args := #[] }] .returning W := by
  refine leaves_cons (f := 44) (args := #[.pointer (some ⟨w.heap.size + 1 + 1, 0, none⟩), .pointer (some ⟨w.heap.size, 0, none⟩), .pointer (some ⟨w.heap.size + 1, 0, none⟩)]) (by simp) (by simp [go_sem]) ?_
  refine (catchE_idle (w.heap.size + 2) w.heap.size (w.heap.size + 1) W).mono ?_
  rintro e u' w'' ⟨rfl, rfl, rfl⟩
  exact ⟨_, results_wholeE ht ht' H.out H.err, ⟨c, rfl, hv⟩, H.below⟩
theorem WH.storeE {w W : World} {z0 z1 z2 z3 z4 z5 z6 z7 z8 x : Value} (h : WH w W ez [z0, z1, z2, z3, z4, z5, z6, z7, z8] x) (c : EC) : WH w ((((((((((W.setCell ⟨w.heap.size, 0, none⟩ (.int .u8 c.k)).setCell ⟨w.heap.size, 1, none⟩ (.int .u32 c.src)).setCell ⟨w.heap.size, 2, none⟩ (.int .u32 c.seq)).setCell ⟨w.heap.size, 3, none⟩ (.int .u8 c.v.k)).setCell ⟨w.heap.size, 4, none⟩ (.int .i64 c.v.n)).setCell ⟨w.heap.size, 5, none⟩ (.string c.v.s)).setCell ⟨w.heap.size, 6, none⟩ (.slice c.v.la c.v.ll c.v.lc)).setCell ⟨w.heap.size, 7, none⟩ (.slice c.v.oa c.v.ol c.v.oc)).setCell ⟨w.heap.size, 8, none⟩ (.slice c.oa c.ol c.oc))) ez [.int .u8 c.k, .int .u32 c.src, .int .u32 c.seq, .int .u8 c.v.k, .int .i64 c.v.n, .string c.v.s, .slice c.v.la c.v.ll c.v.lc, .slice c.v.oa c.v.ol c.v.oc, .slice c.oa c.ol c.oc] x ∧ RStep W ((((((((((W.setCell ⟨w.heap.size, 0, none⟩ (.int .u8 c.k)).setCell ⟨w.heap.size, 1, none⟩ (.int .u32 c.src)).setCell ⟨w.heap.size, 2, none⟩ (.int .u32 c.seq)).setCell ⟨w.heap.size, 3, none⟩ (.int .u8 c.v.k)).setCell ⟨w.heap.size, 4, none⟩ (.int .i64 c.v.n)).setCell ⟨w.heap.size, 5, none⟩ (.string c.v.s)).setCell ⟨w.heap.size, 6, none⟩ (.slice c.v.la c.v.ll c.v.lc)).setCell ⟨w.heap.size, 7, none⟩ (.slice c.v.oa c.v.ol c.v.oc)).setCell ⟨w.heap.size, 8, none⟩ (.slice c.oa c.ol c.oc))) w.heap.size := by
  have s1 : RStep W ((((((((((W.setCell ⟨w.heap.size, 0, none⟩ (.int .u8 c.k)).setCell ⟨w.heap.size, 1, none⟩ (.int .u32 c.src)).setCell ⟨w.heap.size, 2, none⟩ (.int .u32 c.seq)).setCell ⟨w.heap.size, 3, none⟩ (.int .u8 c.v.k)).setCell ⟨w.heap.size, 4, none⟩ (.int .i64 c.v.n)).setCell ⟨w.heap.size, 5, none⟩ (.string c.v.s)).setCell ⟨w.heap.size, 6, none⟩ (.slice c.v.la c.v.ll c.v.lc)).setCell ⟨w.heap.size, 7, none⟩ (.slice c.v.oa c.v.ol c.v.oc)).setCell ⟨w.heap.size, 8, none⟩ (.slice c.oa c.ol c.oc))) w.heap.size := (((((((RStep.self.trans RStep.self).trans RStep.self).trans RStep.self).trans RStep.self).trans RStep.self).trans RStep.self).trans RStep.self).trans RStep.self
  have hlt := h.out.lt
  exact ⟨⟨(((((((((h.out.set (i := 0) (x := .int .u8 c.k) (by simp)).set (i := 1) (x := .int .u32 c.src) (by simp)).set (i := 2) (x := .int .u32 c.seq) (by simp)).set (i := 3) (x := .int .u8 c.v.k) (by simp)).set (i := 4) (x := .int .i64 c.v.n) (by simp)).set (i := 5) (x := .string c.v.s) (by simp)).set (i := 6) (x := .slice c.v.la c.v.ll c.v.lc) (by simp)).set (i := 7) (x := .slice c.v.oa c.v.ol c.v.oc) (by simp)).set (i := 8) (x := .slice c.oa c.ol c.oc) (by simp)), h.err.next s1 (by omega), h.non.next s1 (by omega), h.below.trans (s1.below (by omega))⟩, s1⟩
set_option maxHeartbeats 4000000 in
set_option maxRecDepth 100000 in
theorem wholeE_none (w : World) (a : Option Addr) (n c : Nat) (bs : List UInt8) (h : IsB w w.heap.size a n c bs) (hn : bs.length ≤ 60000) (hr : rdE bs = none) :
    Calls Tryd.prog 20 #[.slice a n c, .func (.func 21) #[] #[], .func (.func 13) #[] #[]] w (WEPost w (En.none, 100)) := by
  have hmf : ∀ (fn : Fn) (first cap : Array Value) (w : World), (Instr.makeFunc fn first cap).run Tryd.prog w = .ok (.func fn first cap) w := fun _ _ _ _ => rfl
  have HS := Lib.hid (WH.start w ez bs a n c h)
  have hnn := h.len
  have hn2 : ¬ 60000 < n := by omega
  clear h hnn hn
  go_enter_defers Tryd.func20, Tryd.ntmps20
  go_wp2_with (go_at_call 21; refine (re_none _ (w.heap.size + 3) bs (HS.out _ _ _ _ _ rfl).2.1 hr).mono ?_; rintro e w4 ⟨rfl, hS4, hR4⟩)
  have HH := HS.out _ _ _ _ _ hS4.src
  exact wdoorE_short (HH.1.read hS4 (by omega)) rfl rfl rfl
set_option maxHeartbeats 4000000 in
set_option maxRecDepth 100000 in
theorem wholeE_long (w : World) (a : Option Addr) (n c : Nat) (bs : List UInt8) (h : IsB w w.heap.size a n c bs) (hn : 60000 < bs.length) :
    Calls Tryd.prog 20 #[.slice a n c, .func (.func 21) #[] #[], .func (.func 13) #[] #[]] w (WEPost w (En.none, 3)) := by
  have hnn := h.len
  have hn2 : 60000 < n := by omega
  clear h hnn hn
  go_enter_defers Tryd.func20, Tryd.ntmps20
  go_wp2_with fail
  obtain ⟨w1, hw1⟩ : ∃ w1, w.alloc (.cells ez.toArray 31) = w1 := ⟨_, rfl⟩
  have s1 : w1.heap.size = w.heap.size + 1 := by rw [← hw1, World.size_alloc]
  have b1 : Below w.heap.size w w1 := by rw [← hw1]; exact (Below.refl _ _).alloc (Nat.le_refl _) _
  have c1 : BC w1 w.heap.size ez := by rw [← hw1]; exact BC.start w ez.toArray _
  obtain ⟨w2, hw2⟩ : ∃ w2, w1.alloc (.cells #[.int .u16 3] 33) = w2 := ⟨_, rfl⟩
  have s2 : w2.heap.size = w.heap.size + 2 := by rw [← hw2, World.size_alloc, s1]
  have b2 : Below w1.heap.size w1 w2 := by rw [← hw2]; exact (Below.refl _ _).alloc (Nat.le_refl _) _
  have c2 : BC w2 (w.heap.size + 1) [.int .u16 3] := by rw [← hw2, ← s1]; exact BC.start w1 #[.int .u16 3] _
  have b3 : Below w2.heap.size w2 (w2.alloc (.cells ez.toArray 31)) := (Below.refl _ _).alloc (Nat.le_refl _) _
  have hB : Below w.heap.size w (w2.alloc (.cells ez.toArray 31)) := (b1.trans (b2.mono (by omega))).trans (b3.mono (by omega))
  have hfin : WEPost w (En.none, 3) (.returned (.tuple #[.agg #[.int .u8 ezero.k, .int .u32 ezero.src, .int .u32 ezero.seq, .int .u8 ezero.v.k, .int .i64 ezero.v.n, .string ezero.v.s, .slice ezero.v.la ezero.v.ll ezero.v.lc, .slice ezero.v.oa ezero.v.ol ezero.v.oc, .slice ezero.oa ezero.ol ezero.oc], .int .u16 3])) (w2.alloc (.cells ez.toArray 31)) := ⟨⟨ezero, rfl, isEntry_none _ _⟩, hB⟩
  have hres := fun tmps ht ht' => results_wholeE (tmps := tmps) (c := ezero) ht ht' ((c1.keep b2 (by omega)).keep b3 (by omega)) (c2.keep b3 (by omega))
  rw [← hw2, ← hw1] at hfin hres
  exact ⟨_, hres _ rfl rfl, hfin⟩
set_option maxHeartbeats 8000000 in
set_option maxRecDepth 100000 in
theorem wholeE_bad (w : World) (a : Option Addr) (n c : Nat) (bs : List UInt8) (h : IsB w w.heap.size a n c bs) (hn : bs.length ≤ 60000) {v : En} {r : List UInt8} (hr : rdE bs = some (v, r)) (hsz : (encE v).length ≤ 70368744177664) (sd : Bool)
    (HLV : Hid (∀ W5, Below w.heap.size w W5 → ∀ cv : EC, IsEntry W5 W5.heap.size v cv → Hid (∀ W, Below W5.heap.size W5 W → Calls Tryd.prog 30 #[.agg #[.int .u8 cv.k, .int .u32 cv.src, .int .u32 cv.seq, .int .u8 cv.v.k, .int .i64 cv.v.n, .string cv.v.s, .slice cv.v.la cv.v.ll cv.v.lc, .slice cv.v.oa cv.v.ol cv.v.oc, .slice cv.oa cv.ol cv.oc]] W fun e w' => e = .returned (.bool sd) ∧ Below W.heap.size W w'))) (hbad : outN sd (encE v) ≠ 0) :
    Calls Tryd.prog 20 #[.slice a n c, .func (.func 21) #[] #[], .func (.func 13) #[] #[]] w (WEPost w (En.none, 100)) := by
  have hmf : ∀ (fn : Fn) (first cap : Array Value) (w : World), (Instr.makeFunc fn first cap).run Tryd.prog w = .ok (.func fn first cap) w := fun _ _ _ _ => rfl
  have HS := Lib.hid (WH.start w ez bs a n c h)
  have hnn := h.len
  have hn2 : ¬ 60000 < n := by omega
  obtain ⟨en, hen⟩ : ∃ en, encE v = en := ⟨_, rfl⟩
  have HEN := Lib.hid hen
  obtain ⟨N, hN⟩ : ∃ N, outN sd en = N := ⟨_, rfl⟩
  have HN := Lib.hid hN
  rw [hen, hN] at hbad
  have fN : (N == 0) = false := by simpa using hbad
  have fN2 : (N != 0) = true := by simpa using hbad
  have fN3 : decide (N = 0) = false := by simpa using hbad
  clear h hnn hn hen hN
  go_enter_defers Tryd.func20, Tryd.ntmps20
  go_wp2_with (first | (go_at_call 21; refine (re_some _ (w.heap.size + 3) bs (HS.out _ _ _ _ _ rfl).2.1 hr).mono ?_; rintro e w4 ⟨cv, rfl, hS4, hI4, hR4⟩; have HH := HS.out _ _ _ _ _ hS4.src; have H4 := HH.1.read hS4 (by omega); have O := H4.out; have o0 := O.at_ 0 _ rfl; have g0 := O.fr 0; have o1 := O.at_ 1 _ rfl; have g1 := O.fr 1; have o2 := O.at_ 2 _ rfl; have g2 := O.fr 2; have o3 := O.at_ 3 _ rfl; have g3 := O.fr 3; have o4 := O.at_ 4 _ rfl; have g4 := O.fr 4; have o5 := O.at_ 5 _ rfl; have g5 := O.fr 5; have o6 := O.at_ 6 _ rfl; have g6 := O.fr 6; have o7 := O.at_ 7 _ rfl; have g7 := O.fr 7; have o8 := O.at_ 8 _ rfl; have g8 := O.fr 8; have H5 := H4.storeE cv; have hV5 := (isEntry_far (hI4.sub (shows_step (S' := fun b => w.heap.size + 4 ≤ b) fun k hk _ => ⟨by have := HH.2.2; omega, rfl⟩)) H5.2 (by omega)).sub (shows_only _ _ _); have HV5 := Lib.hid hV5; have HH5 := Lib.hid H5.1; clear hI4 hV5 H5 H4 HH O) | (go_at_call 13; refine (encode_e sd _ cv v HV5.out (HLV.out _ HH5.out.below cv HV5.out) hsz).mono ?_; rw [HEN.out]; rintro e w6 ⟨⟨ra, rn, rc, rfl, hI6⟩, hb6⟩; rw [HN.out]; have H6 := HH5.out.next hb6; clear hI6; have o0 := H6.out.at_ 0 _ rfl; have g0 := H6.out.fr 0; have n0 := H6.non.at_ 0 _ rfl; have o1 := H6.out.at_ 1 _ rfl; have g1 := H6.out.fr 1; have n1 := H6.non.at_ 1 _ rfl; have o2 := H6.out.at_ 2 _ rfl; have g2 := H6.out.fr 2; have n2 := H6.non.at_ 2 _ rfl; have o3 := H6.out.at_ 3 _ rfl; have g3 := H6.out.fr 3; have n3 := H6.non.at_ 3 _ rfl; have o4 := H6.out.at_ 4 _ rfl; have g4 := H6.out.fr 4; have n4 := H6.non.at_ 4 _ rfl; have o5 := H6.out.at_ 5 _ rfl; have g5 := H6.out.fr 5; have n5 := H6.non.at_ 5 _ rfl; have o6 := H6.out.at_ 6 _ rfl; have g6 := H6.out.fr 6; have n6 := H6.non.at_ 6 _ rfl; have o7 := H6.out.at_ 7 _ rfl; have g7 := H6.out.fr 7; have n7 := H6.non.at_ 7 _ rfl; have o8 := H6.out.at_ 8 _ rfl; have g8 := H6.out.fr 8; have n8 := H6.non.at_ 8 _ rfl; have x0 := H6.err.at_ 0 _ rfl; have xf := H6.err.fr 0; have HH6 := Lib.hid H6; clear H6))
  refine wdoorE_idle (c := ezero) (v := En.none) ?_ ?_ ?_ ?_
  · exact (HH6.out.storeE ezero).1.setErr
  · exact isEntry_none _ _
  · rfl
  · rfl
set_option maxHeartbeats 8000000 in
set_option maxRecDepth 100000 in
theorem wholeE_neq (w : World) (a : Option Addr) (n c : Nat) (bs : List UInt8) (h : IsB w w.heap.size a n c bs) (hn : bs.length ≤ 60000) {v : En} {r : List UInt8} (hr : rdE bs = some (v, r)) (hsz : (encE v).length ≤ 70368744177664) (sd : Bool)
    (HLV : Hid (∀ W5, Below w.heap.size w W5 → ∀ cv : EC, IsEntry W5 W5.heap.size v cv → Hid (∀ W, Below W5.heap.size W5 W → Calls Tryd.prog 30 #[.agg #[.int .u8 cv.k, .int .u32 cv.src, .int .u32 cv.seq, .int .u8 cv.v.k, .int .i64 cv.v.n, .string cv.v.s, .slice cv.v.la cv.v.ll cv.v.lc, .slice cv.v.oa cv.v.ol cv.v.oc, .slice cv.oa cv.ol cv.oc]] W fun e w' => e = .returned (.bool sd) ∧ Below W.heap.size W w'))) (hok : outN sd (encE v) = 0) (heq : eqBs (outB sd (encE v)) bs = false) :
    Calls Tryd.prog 20 #[.slice a n c, .func (.func 21) #[] #[], .func (.func 13) #[] #[]] w (WEPost w (En.none, 100)) := by
  have hmf : ∀ (fn : Fn) (first cap : Array Value) (w : World), (Instr.makeFunc fn first cap).run Tryd.prog w = .ok (.func fn first cap) w := fun _ _ _ _ => rfl
  have HS := Lib.hid (WH.start w ez bs a n c h)
  have HI := Lib.hid h
  have hnn := h.len
  have hn2 : ¬ 60000 < n := by omega
  obtain ⟨en, hen⟩ : ∃ en, encE v = en := ⟨_, rfl⟩
  rw [hen] at hok heq
  have HEN := Lib.hid hen
  have HN := Lib.hid hok
  have HE := Lib.hid heq
  clear h hnn hn hen hok heq
  go_enter_defers Tryd.func20, Tryd.ntmps20
  go_wp2_with (first | (go_at_call 21; refine (re_some _ (w.heap.size + 3) bs (HS.out _ _ _ _ _ rfl).2.1 hr).mono ?_; rintro e w4 ⟨cv, rfl, hS4, hI4, hR4⟩; have HH := HS.out _ _ _ _ _ hS4.src; have H4 := HH.1.read hS4 (by omega); have O := H4.out; have o0 := O.at_ 0 _ rfl; have g0 := O.fr 0; have o1 := O.at_ 1 _ rfl; have g1 := O.fr 1; have o2 := O.at_ 2 _ rfl; have g2 := O.fr 2; have o3 := O.at_ 3 _ rfl; have g3 := O.fr 3; have o4 := O.at_ 4 _ rfl; have g4 := O.fr 4; have o5 := O.at_ 5 _ rfl; have g5 := O.fr 5; have o6 := O.at_ 6 _ rfl; have g6 := O.fr 6; have o7 := O.at_ 7 _ rfl; have g7 := O.fr 7; have o8 := O.at_ 8 _ rfl; have g8 := O.fr 8; have H5 := H4.storeE cv; have hV5 := (isEntry_far (hI4.sub (shows_step (S' := fun b => w.heap.size + 4 ≤ b) fun k hk _ => ⟨by have := HH.2.2; omega, rfl⟩)) H5.2 (by omega)).sub (shows_only _ _ _); have HV5 := Lib.hid hV5; have HH5 := Lib.hid H5.1; clear hI4 hV5 H5 H4 HH O) | (go_at_call 13; refine (encode_e sd _ cv v HV5.out (HLV.out _ HH5.out.below cv HV5.out) hsz).mono ?_; rw [HEN.out]; rintro e w6 ⟨⟨ra, rn, rc, rfl, hI6⟩, hb6⟩; rw [HN.out]; have H6 := HH5.out.next hb6; have HI6 := Lib.hid hI6; clear hI6; have o0 := H6.out.at_ 0 _ rfl; have g0 := H6.out.fr 0; have n0 := H6.non.at_ 0 _ rfl; have o1 := H6.out.at_ 1 _ rfl; have g1 := H6.out.fr 1; have n1 := H6.non.at_ 1 _ rfl; have o2 := H6.out.at_ 2 _ rfl; have g2 := H6.out.fr 2; have n2 := H6.non.at_ 2 _ rfl; have o3 := H6.out.at_ 3 _ rfl; have g3 := H6.out.fr 3; have n3 := H6.non.at_ 3 _ rfl; have o4 := H6.out.at_ 4 _ rfl; have g4 := H6.out.fr 4; have n4 := H6.non.at_ 4 _ rfl; have o5 := H6.out.at_ 5 _ rfl; have g5 := H6.out.fr 5; have n5 := H6.non.at_ 5 _ rfl; have o6 := H6.out.at_ 6 _ rfl; have g6 := H6.out.fr 6; have n6 := H6.non.at_ 6 _ rfl; have o7 := H6.out.at_ 7 _ rfl; have g7 := H6.out.fr 7; have n7 := H6.non.at_ 7 _ rfl; have o8 := H6.out.at_ 8 _ rfl; have g8 := H6.out.fr 8; have n8 := H6.non.at_ 8 _ rfl; have x0 := H6.err.at_ 0 _ rfl; have xf := H6.err.fr 0; have HH6 := Lib.hid H6; clear H6))
  refine (equal_any w6 _ _ ra a rn n rc c _ bs HI6.out (HI.out.keep HH6.out.below)).mono ?_
  rw [HE.out]
  rintro e w7 ⟨rfl, rfl⟩
  go_wp2_with fail
  refine wdoorE_idle (c := ezero) (v := En.none) ?_ ?_ ?_ ?_
  · exact (HH6.out.storeE ezero).1.setErr
  · exact isEntry_none _ _
  · rfl
  · rfl
set_option maxHeartbeats 8000000 in
set_option maxRecDepth 100000 in
theorem wholeE_eq (w : World) (a : Option Addr) (n c : Nat) (bs : List UInt8) (h : IsB w w.heap.size a n c bs) (hn : bs.length ≤ 60000) {v : En} {r : List UInt8} (hr : rdE bs = some (v, r)) (hsz : (encE v).length ≤ 70368744177664) (sd : Bool)
    (HLV : Hid (∀ W5, Below w.heap.size w W5 → ∀ cv : EC, IsEntry W5 W5.heap.size v cv → Hid (∀ W, Below W5.heap.size W5 W → Calls Tryd.prog 30 #[.agg #[.int .u8 cv.k, .int .u32 cv.src, .int .u32 cv.seq, .int .u8 cv.v.k, .int .i64 cv.v.n, .string cv.v.s, .slice cv.v.la cv.v.ll cv.v.lc, .slice cv.v.oa cv.v.ol cv.v.oc, .slice cv.oa cv.ol cv.oc]] W fun e w' => e = .returned (.bool sd) ∧ Below W.heap.size W w'))) (hok : outN sd (encE v) = 0) (heq : eqBs (outB sd (encE v)) bs = true) :
    Calls Tryd.prog 20 #[.slice a n c, .func (.func 21) #[] #[], .func (.func 13) #[] #[]] w (WEPost w (v, 0)) := by
  have hmf : ∀ (fn : Fn) (first cap : Array Value) (w : World), (Instr.makeFunc fn first cap).run Tryd.prog w = .ok (.func fn first cap) w := fun _ _ _ _ => rfl
  have HS := Lib.hid (WH.start w ez bs a n c h)
  have HI := Lib.hid h
  have hnn := h.len
  have hn2 : ¬ 60000 < n := by omega
  obtain ⟨en, hen⟩ : ∃ en, encE v = en := ⟨_, rfl⟩
  rw [hen] at hok heq
  have HEN := Lib.hid hen
  have HN := Lib.hid hok
  have HE := Lib.hid heq
  clear h hnn hn hen hok heq
  go_enter_defers Tryd.func20, Tryd.ntmps20
  go_wp2_with (first | (go_at_call 21; refine (re_some _ (w.heap.size + 3) bs (HS.out _ _ _ _ _ rfl).2.1 hr).mono ?_; rintro e w4 ⟨cv, rfl, hS4, hI4, hR4⟩; have HH := HS.out _ _ _ _ _ hS4.src; have H4 := HH.1.read hS4 (by omega); have O := H4.out; have o0 := O.at_ 0 _ rfl; have g0 := O.fr 0; have o1 := O.at_ 1 _ rfl; have g1 := O.fr 1; have o2 := O.at_ 2 _ rfl; have g2 := O.fr 2; have o3 := O.at_ 3 _ rfl; have g3 := O.fr 3; have o4 := O.at_ 4 _ rfl; have g4 := O.fr 4; have o5 := O.at_ 5 _ rfl; have g5 := O.fr 5; have o6 := O.at_ 6 _ rfl; have g6 := O.fr 6; have o7 := O.at_ 7 _ rfl; have g7 := O.fr 7; have o8 := O.at_ 8 _ rfl; have g8 := O.fr 8; have H5 := H4.storeE cv; have hV5 := (isEntry_far (hI4.sub (shows_step (S' := fun b => w.heap.size + 4 ≤ b) fun k hk _ => ⟨by have := HH.2.2; omega, rfl⟩)) H5.2 (by omega)); have HVF := Lib.hid hV5; have HV5 := Lib.hid (hV5.sub (shows_only _ _ _)); have HH5 := Lib.hid H5.1; clear hI4 hV5 H5 H4 HH O) | (go_at_call 13; refine (encode_e sd _ cv v HV5.out (HLV.out _ HH5.out.below cv HV5.out) hsz).mono ?_; rw [HEN.out]; rintro e w6 ⟨⟨ra, rn, rc, rfl, hI6⟩, hb6⟩; rw [HN.out]; have H6 := HH5.out.next hb6; have HI6 := Lib.hid hI6; have HV6 := Lib.hid (isEntry_far HVF.out (RStep.of_below w.heap.size hb6) (by omega)); clear hI6; have o0 := H6.out.at_ 0 _ rfl; have g0 := H6.out.fr 0; have n0 := H6.non.at_ 0 _ rfl; have o1 := H6.out.at_ 1 _ rfl; have g1 := H6.out.fr 1; have n1 := H6.non.at_ 1 _ rfl; have o2 := H6.out.at_ 2 _ rfl; have g2 := H6.out.fr 2; have n2 := H6.non.at_ 2 _ rfl; have o3 := H6.out.at_ 3 _ rfl; have g3 := H6.out.fr 3; have n3 := H6.non.at_ 3 _ rfl; have o4 := H6.out.at_ 4 _ rfl; have g4 := H6.out.fr 4; have n4 := H6.non.at_ 4 _ rfl; have o5 := H6.out.at_ 5 _ rfl; have g5 := H6.out.fr 5; have n5 := H6.non.at_ 5 _ rfl; have o6 := H6.out.at_ 6 _ rfl; have g6 := H6.out.fr 6; have n6 := H6.non.at_ 6 _ rfl; have o7 := H6.out.at_ 7 _ rfl; have g7 := H6.out.fr 7; have n7 := H6.non.at_ 7 _ rfl; have o8 := H6.out.at_ 8 _ rfl; have g8 := H6.out.fr 8; have n8 := H6.non.at_ 8 _ rfl; have x0 := H6.err.at_ 0 _ rfl; have xf := H6.err.fr 0; have HH6 := Lib.hid H6; clear H6))
  refine (equal_any w6 _ _ ra a rn n rc c _ bs HI6.out (HI.out.keep HH6.out.below)).mono ?_
  rw [HE.out]
  rintro e w7 ⟨rfl, rfl⟩
  go_wp2_with fail
  have HST := HH6.out.storeE cv
  exact wdoorE_idle (c := cv) HST.1.setErr ((isEntry_far (isEntry_far HV6.out HST.2 (by omega)) (RStep.self (b := w.heap.size + 1)) (by omega)).sub (shows_step fun k hk _ => ⟨by omega, rfl⟩)) rfl rfl
end Go.Proofs.YtcfbnmobfcabiaaDoor
namespace Go.Proofs.YtcfbnmobfcabiaaDoor
open Go.RowKit
/-- What code.Decode comes to. -/
noncomputable def backE (bs : List UInt8) : En × Int := if 60000 < bs.length then (En.none, 3) else
  match rdE bs with
  | none => (En.none, 100)
  | some (v, _) => if outN (enSound v) (encE v) = 0 then (if eqBs (outB (enSound v) (encE v)) bs = true then (v, 0) else (En.none, 100)) else (En.none, 100)
theorem wholeE_any (w : World) (hT : Tabs w) (a : Option Addr) (n c : Nat) (bs : List UInt8) (h : IsB w w.heap.size a n c bs) (hmax : bs.length ≤ 281474976710656) {out : En × Int} (hout : backE bs = out) :
    Calls Tryd.prog 20 #[.slice a n c, .func (.func 21) #[] #[], .func (.func 13) #[] #[]] w (WEPost w out) := by
  subst hout
  by_cases hl : 60000 < bs.length
  · rw [backE, if_pos hl]; exact wholeE_long w a n c bs h hl
  rw [backE, if_neg hl]
  cases hr : rdE bs with
  | none => exact wholeE_none w a n c bs h (by omega) hr
  | some p =>
    obtain ⟨v, r⟩ := p
    obtain ⟨hlen, hwt, hws⟩ := rdE_len hr
    have hsz : (encE v).length ≤ 70368744177664 := by omega
    have HLV : Hid (∀ W5, Below w.heap.size w W5 → ∀ cv : EC, IsEntry W5 W5.heap.size v cv → Hid (∀ W, Below W5.heap.size W5 W → Calls Tryd.prog 30 #[.agg #[.int .u8 cv.k, .int .u32 cv.src, .int .u32 cv.seq, .int .u8 cv.v.k, .int .i64 cv.v.n, .string cv.v.s, .slice cv.v.la cv.v.ll cv.v.lc, .slice cv.v.oa cv.v.ol cv.v.oc, .slice cv.oa cv.ol cv.oc]] W fun e w' => e = .returned (.bool (enSound v)) ∧ Below W.heap.size W w')) := fun W5 hb cv hv W hW => enSound_any v W ((hT.below hb).below hW) cv (hv.later_ hW) ⟨by omega, fun x hx => by have := hws x hx; omega⟩
    show Calls _ _ _ _ (WEPost w (if outN (enSound v) (encE v) = 0 then (if eqBs (outB (enSound v) (encE v)) bs = true then (v, 0) else (En.none, 100)) else (En.none, 100)))
    by_cases h0 : outN (enSound v) (encE v) = 0
    · rw [if_pos h0]
      cases he : eqBs (outB (enSound v) (encE v)) bs with
      | true => rw [if_pos rfl]; exact wholeE_eq w a n c bs h (by omega) hr hsz _ HLV h0 he
      | false => rw [if_neg (by simp)]; exact wholeE_neq w a n c bs h (by omega) hr hsz _ HLV h0 he
    · rw [if_neg h0]; exact wholeE_bad w a n c bs h (by omega) hr hsz _ HLV h0
theorem backE_ok {bs : List UInt8} {v : En} (h : backE bs = (v, 0)) : enSound v = true ∧ encE v = bs ∧ bs.length ≤ 60000 ∧ ∃ r, rdE bs = some (v, r) := by
  rw [backE] at h
  by_cases hl : 60000 < bs.length
  · rw [if_pos hl] at h; injection h with h1 h2; omega
  rw [if_neg hl] at h
  cases hr : rdE bs with
  | none => rw [hr] at h; injection h with h1 h2; omega
  | some p =>
    obtain ⟨x, r⟩ := p
    rw [hr] at h
    replace h : (if outN (enSound x) (encE x) = 0 then (if eqBs (outB (enSound x) (encE x)) bs = true then (x, (0 : Int)) else (En.none, 100)) else (En.none, 100)) = (v, 0) := h
    by_cases h0 : outN (enSound x) (encE x) = 0
    · rw [if_pos h0] at h
      by_cases he : eqBs (outB (enSound x) (encE x)) bs = true
      · rw [if_pos he] at h
        injection h with h1 h2
        subst h1
        have hs : enSound x = true := by
          cases hs : enSound x with
          | true => rfl
          | false => rw [hs] at h0; simp [outN] at h0
        rw [hs] at h0 he
        have hlen : ¬ 60000 < (encE x).length := by
          intro hq; rw [outN, if_pos rfl, if_pos hq] at h0; omega
        rw [outB, if_pos rfl, if_neg hlen] at he
        exact ⟨hs, by simpa [eqBs] using he, by omega, r, rfl⟩
      · rw [if_neg he] at h; injection h with h1 h2; omega
    · rw [if_neg h0] at h; injection h with h1 h2; omega
theorem backE_err (bs : List UInt8) : 0 ≤ (backE bs).2 ∧ (backE bs).2 ≤ 100 := by
  rw [backE]
  split
  · exact ⟨by dsimp only; omega, by dsimp only; omega⟩
  · split
    · exact ⟨by dsimp only; omega, by dsimp only; omega⟩
    · split
      · split <;> exact ⟨by dsimp only; omega, by dsimp only; omega⟩
      · exact ⟨by dsimp only; omega, by dsimp only; omega⟩
theorem results_backE {tmps : Array Value} {W : World} {b : Nat} {cv : EC} {x : Value} (ht : tmps[2]? = some (.pointer (some ⟨b, 0, none⟩))) (ht' : tmps[3]? = some x) (h : BC W b [.int .u8 cv.k, .int .u32 cv.src, .int .u32 cv.seq, .int .u8 cv.v.k, .int .i64 cv.v.n, .string cv.v.s, .slice cv.v.la cv.v.ll cv.v.lc, .slice cv.v.oa cv.v.ol cv.v.oc, .slice cv.oa cv.ol cv.oc]) :
    (results Tryd.f7 tmps).run Tryd.prog W = .ok (.tuple #[.agg #[.int .u8 cv.k, .int .u32 cv.src, .int .u32 cv.seq, .int .u8 cv.v.k, .int .i64 cv.v.n, .string cv.v.s, .slice cv.v.la cv.v.ll cv.v.lc, .slice cv.v.oa cv.v.ol cv.v.oc, .slice cv.oa cv.ol cv.oc], x]) W := by
  have r0 := h.at_ 0 _ rfl; have r1 := h.at_ 1 _ rfl; have r2 := h.at_ 2 _ rfl; have r3 := h.at_ 3 _ rfl; have r4 := h.at_ 4 _ rfl; have r5 := h.at_ 5 _ rfl; have r6 := h.at_ 6 _ rfl; have r7 := h.at_ 7 _ rfl; have r8 := h.at_ 8 _ rfl
  simp [results, Tryd.results7, go_sem, ht, ht', r0, r1, r2, r3, r4, r5, r6, r7, r8]
set_option maxHeartbeats 4000000 in
set_option maxRecDepth 100000 in
theorem backE_any (w : World) (hT : Tabs w) (a : Option Addr) (n c : Nat) (bs : List UInt8) (h : IsB w w.heap.size a n c bs) (hmax : bs.length ≤ 281474976710656) {v : En} {e : Int} (hout : backE bs = (v, e)) :
    Calls Tryd.prog 7 #[.slice a n c] w fun ee w' => (∃ cv : EC, ee = .returned (.tuple #[.agg #[.int .u8 cv.k, .int .u32 cv.src, .int .u32 cv.seq, .int .u8 cv.v.k, .int .i64 cv.v.n, .string cv.v.s, .slice cv.v.la cv.v.ll cv.v.lc, .slice cv.v.oa cv.v.ol cv.v.oc, .slice cv.oa cv.ol cv.oc], .int .u16 e]) ∧ IsEntry w' w'.heap.size v cv) ∧ Below w.heap.size w w' := by
  have HX : Hid (∀ W, W = w.alloc (.cells ez.toArray 31) → Tabs W ∧ IsB W W.heap.size a n c bs ∧ BC W w.heap.size ez ∧ Below w.heap.size w W ∧ W.heap.size = w.heap.size + 1) := by
    intro W hW
    subst hW
    have hb : Below w.heap.size w (w.alloc (.cells ez.toArray 31)) := (Below.refl _ _).alloc (Nat.le_refl _) _
    exact ⟨hT.below hb, (h.keep hb).more hb.size, BC.start w ez.toArray _, hb, by simp⟩
  have HO := Lib.hid hout
  clear h hT hout
  go_enter Tryd.func7, Tryd.ntmps7
  go_wp2_with (go_at_call 20; refine (wholeE_any _ (HX.out _ rfl).1 a n c bs (HX.out _ rfl).2.1 hmax HO.out).mono ?_; rintro ee w2 ⟨⟨cv, rfl, hI⟩, hb⟩; have HH := HX.out _ rfl; have O := HH.2.2.1.keep hb (by omega); have o0 := O.at_ 0 _ rfl; have g0 := O.fr 0; have o1 := O.at_ 1 _ rfl; have g1 := O.fr 1; have o2 := O.at_ 2 _ rfl; have g2 := O.fr 2; have o3 := O.at_ 3 _ rfl; have g3 := O.fr 3; have o4 := O.at_ 4 _ rfl; have g4 := O.fr 4; have o5 := O.at_ 5 _ rfl; have g5 := O.fr 5; have o6 := O.at_ 6 _ rfl; have g6 := O.fr 6; have o7 := O.at_ 7 _ rfl; have g7 := O.fr 7; have o8 := O.at_ 8 _ rfl; have g8 := O.fr 8; have B2 := Lib.hid (HH.2.2.2.1.trans (hb.mono (by omega))); have HI := Lib.hid hI; have SZ := Lib.hid HH.2.2.2.2; have OO := Lib.hid (show BC w2 w.heap.size [.int .u8 0, .int .u32 0, .int .u32 0, .int .u8 0, .int .i64 0, .string { data := #[] }, .slice none 0 0, .slice none 0 0, .slice none 0 0] from O); clear hI hb HH O)
  have hs : RStep w2 ((((((((((w2.setCell ⟨w.heap.size, 0, none⟩ (.int .u8 cv.k)).setCell ⟨w.heap.size, 1, none⟩ (.int .u32 cv.src)).setCell ⟨w.heap.size, 2, none⟩ (.int .u32 cv.seq)).setCell ⟨w.heap.size, 3, none⟩ (.int .u8 cv.v.k)).setCell ⟨w.heap.size, 4, none⟩ (.int .i64 cv.v.n)).setCell ⟨w.heap.size, 5, none⟩ (.string cv.v.s)).setCell ⟨w.heap.size, 6, none⟩ (.slice cv.v.la cv.v.ll cv.v.lc)).setCell ⟨w.heap.size, 7, none⟩ (.slice cv.v.oa cv.v.ol cv.v.oc)).setCell ⟨w.heap.size, 8, none⟩ (.slice cv.oa cv.ol cv.oc))) w.heap.size := (((((((RStep.self.trans RStep.self).trans RStep.self).trans RStep.self).trans RStep.self).trans RStep.self).trans RStep.self).trans RStep.self).trans RStep.self
  have hbc : BC ((((((((((w2.setCell ⟨w.heap.size, 0, none⟩ (.int .u8 cv.k)).setCell ⟨w.heap.size, 1, none⟩ (.int .u32 cv.src)).setCell ⟨w.heap.size, 2, none⟩ (.int .u32 cv.seq)).setCell ⟨w.heap.size, 3, none⟩ (.int .u8 cv.v.k)).setCell ⟨w.heap.size, 4, none⟩ (.int .i64 cv.v.n)).setCell ⟨w.heap.size, 5, none⟩ (.string cv.v.s)).setCell ⟨w.heap.size, 6, none⟩ (.slice cv.v.la cv.v.ll cv.v.lc)).setCell ⟨w.heap.size, 7, none⟩ (.slice cv.v.oa cv.v.ol cv.v.oc)).setCell ⟨w.heap.size, 8, none⟩ (.slice cv.oa cv.ol cv.oc))) w.heap.size [.int .u8 cv.k, .int .u32 cv.src, .int .u32 cv.seq, .int .u8 cv.v.k, .int .i64 cv.v.n, .string cv.v.s, .slice cv.v.la cv.v.ll cv.v.lc, .slice cv.v.oa cv.v.ol cv.v.oc, .slice cv.oa cv.ol cv.oc] := (((((((((OO.out.set (i := 0) (x := .int .u8 cv.k) (by simp)).set (i := 1) (x := .int .u32 cv.src) (by simp)).set (i := 2) (x := .int .u32 cv.seq) (by simp)).set (i := 3) (x := .int .u8 cv.v.k) (by simp)).set (i := 4) (x := .int .i64 cv.v.n) (by simp)).set (i := 5) (x := .string cv.v.s) (by simp)).set (i := 6) (x := .slice cv.v.la cv.v.ll cv.v.lc) (by simp)).set (i := 7) (x := .slice cv.v.oa cv.v.ol cv.v.oc) (by simp)).set (i := 8) (x := .slice cv.oa cv.ol cv.oc) (by simp))
  exact ⟨rfl, _, results_backE rfl rfl hbc, ⟨cv, rfl, (isEntry_far HI.out hs (by have := SZ.out; omega)).sub (shows_only _ _ _)⟩, B2.out.trans (hs.below (by have := OO.out.lt; omega))⟩
end Go.Proofs.YtcfbnmobfcabiaaDoor
namespace Go.Proofs.YtcfbnmobfcabiaaDoor
open Go.RowKit
def k9 : List UInt8 := [3, 0, 0, 0, 1, 0, 0, 0, 2]
def knE : En := ⟨3, 1, 2, V.none, []⟩
def knC : EC := ⟨3, 1, 2, vzero, none, 0, 0⟩
def knV : V := .mk 1 1 .empty [] []
def knVC : VC := ⟨1, 1, .empty, none, 0, 0, none, 0, 0⟩
theorem isVal_plain (w : World) (B : Nat) (k n : Int) (s : ByteArray) (hb : VC.Bnd ⟨k, n, s, none, 0, 0, none, 0, 0⟩) : IsVal w B (.mk k n s [] []) ⟨k, n, s, none, 0, 0, none, 0, 0⟩ :=
  .mk ⟨k, n, s, none, 0, 0, none, 0, 0⟩ [] [] (fun _ => ⟨0, 0, .empty, .none, 0, 0, .none, 0, 0⟩) (fun _ => ⟨0, 0, .empty, .none, 0, 0, .none, 0, 0⟩) 0 0 0 0 hb rfl rfl (fun h => by cases h) (fun h => by cases h) (fun i h => by cases h) (fun i h => by cases h) (fun i h => by cases h) (fun i h => by cases h)
theorem knE_is (w : World) (B : Nat) : IsEntry w B knE knC := .mk knC V.none [] ⟨by decide, by decide, by decide, by decide, by decide, by decide⟩ (isVal_none _ _) (IsComps.nil _ _)
theorem knV_is (w : World) (B : Nat) : IsVal w B knV knVC := isVal_plain w B 1 1 .empty ⟨by decide, by decide, by decide, by decide, by decide, by decide, by decide, by decide, by decide, by decide, by decide⟩
theorem rdE_known : rdE k9 = some (knE, []) := by rfl
theorem encE_known : encE knE = k9 := by rfl
theorem encV_known : (encV knV).length = 9 := by simp [knV, encV, be_length]
theorem enSound_known : enSound knE = true := by simp [enSound, knE, eqv]
theorem lightB_known : lightB knV = true := by simp [lightB, knV, V.sound, plainB, rising, soundL, soundO, V.deep, V.weight, weightL, weightO, deepL, deepO]
theorem backE_known : backE k9 = (knE, 0) := by
  rw [backE, if_neg (by decide), rdE_known]
  show (if outN (enSound knE) (encE knE) = 0 then (if eqBs (outB (enSound knE) (encE knE)) k9 = true then (knE, (0 : Int)) else (En.none, 100)) else (En.none, 100)) = _
  rw [enSound_known, encE_known, if_pos (by rfl), if_pos (by simp [eqBs, outB, k9])]
theorem backE_nil : backE [] = (En.none, 100) := by
  rw [backE, if_neg (by simp)]
  rfl
theorem encode_known (w : World) (hT : Tabs w) : Calls Tryd.prog 13 #[.agg #[.int .u8 3, .int .u32 1, .int .u32 2, .int .u8 0, .int .i64 0, .string { data := #[] }, .slice none 0 0, .slice none 0 0, .slice none 0 0]] w fun e w' => (∃ a c, e = .returned (.tuple #[.slice a 9 c, .int .u16 0]) ∧ IsB w' w'.heap.size a 9 c k9) ∧ Below w.heap.size w w' := by
  have HS : Hid (∀ W, Below w.heap.size w W → Calls Tryd.prog 30 #[.agg #[.int .u8 knC.k, .int .u32 knC.src, .int .u32 knC.seq, .int .u8 knC.v.k, .int .i64 knC.v.n, .string knC.v.s, .slice knC.v.la knC.v.ll knC.v.lc, .slice knC.v.oa knC.v.ol knC.v.oc, .slice knC.oa knC.ol knC.oc]] W fun e w' => e = .returned (.bool true) ∧ Below W.heap.size W w') := fun W hW => by
    have := enSound_any knE W (hT.below hW) knC (knE_is _ _) ⟨by decide, by intro x hx; cases hx⟩
    rw [enSound_known] at this; exact this
  refine (encode_e true w knC knE (knE_is _ _) HS (by rw [encE_known]; decide)).mono ?_
  rintro e w' ⟨⟨a, n, c, rfl, hI⟩, hb⟩
  rw [encE_known] at *
  have hn : n = 9 := by have := hI.len; simpa [outB, k9] using this
  subst hn
  exact ⟨⟨a, c, rfl, hI⟩, hb⟩
theorem value_known (w : World) (hT : Tabs w) : Calls Tryd.prog 15 #[.agg #[.int .u8 1, .int .i64 1, .string { data := #[] }, .slice none 0 0, .slice none 0 0]] w fun e w' => (∃ a c, e = .returned (.tuple #[.slice a 9 c, .int .u16 0])) ∧ Below w.heap.size w w' := by
  have HS : Hid (∀ W, Below w.heap.size w W → Calls Tryd.prog 39 #[.agg #[.int .u8 knVC.k, .int .i64 knVC.n, .string knVC.s, .slice knVC.la knVC.ll knVC.lc, .slice knVC.oa knVC.ol knVC.oc]] W fun e w' => e = .returned (.bool true) ∧ Below W.heap.size W w') := fun W hW => by
    have := light_any knV W (hT.below hW) knVC (knV_is _ _) (by decide)
    rw [lightB_known] at this; exact this
  refine (value_of true w 1 1 .empty none 0 0 none 0 0 knV (knV_is _ _) HS (by rw [encV_known]; decide)).mono ?_
  rintro e w' ⟨⟨a, n, c, rfl, hI⟩, hb⟩
  have e1 : outN true (encV knV) = 0 := by rw [outN, if_pos rfl, encV_known, if_neg (by decide)]
  have hn : n = 9 := by
    have := hI.len
    rw [outB, if_pos rfl, encV_known, if_neg (by decide), encV_known] at this
    exact this
  subst hn
  rw [e1]
  exact ⟨⟨a, c, rfl⟩, hb⟩
theorem decode_known (w : World) (hT : Tabs w) (a : Option Addr) (c : Nat) (h : IsB w w.heap.size a 9 c k9) : Calls Tryd.prog 7 #[.slice a 9 c] w fun e w' => (∃ cv : EC, e = .returned (.tuple #[.agg #[.int .u8 cv.k, .int .u32 cv.src, .int .u32 2, .int .u8 cv.v.k, .int .i64 cv.v.n, .string cv.v.s, .slice cv.v.la cv.v.ll cv.v.lc, .slice cv.v.oa cv.v.ol cv.v.oc, .slice cv.oa cv.ol cv.oc], .int .u16 0])) ∧ Below w.heap.size w w' := by
  refine (backE_any w hT a 9 c k9 h (by decide) backE_known).mono ?_
  rintro e w' ⟨⟨cv, rfl, hI⟩, hb⟩
  obtain ⟨x, hx⟩ : ∃ x, knE = x := ⟨_, rfl⟩
  rw [hx] at hI
  cases hI with
  | mk _ v l b1 b2 b3 =>
    have : cv.seq = 2 := by have := congrArg En.seq hx; exact this.symm
    exact ⟨⟨cv, by rw [← this]⟩, hb⟩
theorem decode_nil (w : World) (hT : Tabs w) : Calls Tryd.prog 7 #[.slice none 0 0] w fun e w' => (∃ cv : EC, e = .returned (.tuple #[.agg #[.int .u8 cv.k, .int .u32 cv.src, .int .u32 cv.seq, .int .u8 cv.v.k, .int .i64 cv.v.n, .string cv.v.s, .slice cv.v.la cv.v.ll cv.v.lc, .slice cv.v.oa cv.v.ol cv.v.oc, .slice cv.oa cv.ol cv.oc], .int .u16 100])) ∧ Below w.heap.size w w' := by
  refine (backE_any w hT none 0 0 [] ⟨rfl, by decide, by decide, 0, 0, (fun h => absurd h (by decide)), (fun i hi => absurd hi (by simp))⟩ (by decide) backE_nil).mono ?_
  rintro e w' ⟨⟨cv, rfl, hI⟩, hb⟩
  exact ⟨⟨cv, rfl⟩, hb⟩
set_option maxHeartbeats 4000000 in
set_option maxRecDepth 100000 in
theorem known_any (w : World) (hT : Tabs w) : Calls Tryd.prog 6 #[] w fun e w' => e = .returned (.bool true) ∧ Below w.heap.size w w' := by
  have HT := Lib.hid hT
  clear hT
  go_enter Tryd.func6, Tryd.ntmps6
  go_wp2_with (go_at_call 13; refine (encode_known _ HT.out).mono ?_; rintro e w1 ⟨⟨a, c, rfl, hI⟩, hb1⟩; have HI := Lib.hid hI; have HB1 := Lib.hid hb1; clear hI hb1)
  refine (decode_known w1 (HT.out.below HB1.out) a c HI.out).mono ?_
  rintro e w2 ⟨⟨cv, rfl⟩, hb2⟩
  have HB2 := Lib.hid (HB1.out.trans (hb2.mono HB1.out.size))
  have HI2 := Lib.hid ((HI.out.keep hb2).more hb2.size)
  clear hb2
  go_wp2_with fail
  refine (decode_nil _ (HT.out.below (HB2.out.alloc HB2.out.size _))).mono ?_
  rintro e w3 ⟨⟨cw, rfl⟩, hb3⟩
  have b23 : Below w2.heap.size w2 w3 := ((Below.refl _ _).alloc (Nat.le_refl _) _).trans (hb3.mono (by simp))
  have zs3 : w2.heap.size < w3.heap.size := Nat.lt_of_lt_of_le (by simp) hb3.size
  have HB3 := Lib.hid (HB2.out.trans (b23.mono HB2.out.size))
  have HI3 := Lib.hid ((HI2.out.keep b23).more b23.size)
  have HO3 := Lib.hid ((BC.start w2 #[.int .u8 cv.k, .int .u32 cv.src, .int .u32 2, .int .u8 cv.v.k, .int .i64 cv.v.n, .string cv.v.s, .slice cv.v.la cv.v.ll cv.v.lc, .slice cv.v.oa cv.v.ol cv.v.oc, .slice cv.oa cv.ol cv.oc] 31).keep hb3 (by simp))
  clear hb3 b23
  go_wp2_with fail
  refine (value_known _ (HT.out.below (HB3.out.alloc HB3.out.size _))).mono ?_
  rintro e w4 ⟨⟨ra, rc, rfl⟩, hb4⟩
  have b34 : Below w3.heap.size w3 w4 := ((Below.refl _ _).alloc (Nat.le_refl _) _).trans (hb4.mono (by simp))
  have HB4 := Lib.hid (HB3.out.trans (b34.mono HB3.out.size))
  have k1 : (convert 22 9 (.slice a 9 c)).run Tryd.prog w4 = .ok (.string { data := #[3, 0, 0, 0, 1, 0, 0, 0, 2] }) w4 := conv_isB (HI3.out.keep b34)
  have o2 := (HO3.out.keep b34 zs3).at_ 2 _ rfl
  clear hb4 b34
  go_wp2_with fail
  go_returns
  exact ⟨rfl, HB4.out⟩
end Go.Proofs.YtcfbnmobfcabiaaDoor
