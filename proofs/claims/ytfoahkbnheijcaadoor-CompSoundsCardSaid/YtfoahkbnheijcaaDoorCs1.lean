/-
  CompSounds: for all two components as they are given the law returns true and they read as they did. Conditions: Go's two UTF-8 tables are what the program's text lays (the card ties them).
-/
import Derived.Test.YtfoahkbnheijcaaDoorCq25
import Derived.Test.YtfoahkbnheijcaaDoorCq34
import Derived.Test.YtfoahkbnheijcaaDoorCq44
import Derived.Test.YtfoahkbnheijcaaDoorCq33
import Derived.Test.YtfoahkbnheijcaaDoorCq45
import Derived.Test.YtfoahkbnheijcaaDoorCq35
import Derived.Test.YtfoahkbnheijcaaDoorCq39
import Derived.Test.YtfoahkbnheijcaaDoorCq21
import Derived.Test.YtfoahkbnheijcaaDoorCq19
import Derived.Test.YtfoahkbnheijcaaDoorRows
import Derived.Test.YtfoahkbnheijcaaDoorCq15
import Derived.Test.YtfoahkbnheijcaaDoorCards
import Derived.Test.YtfoahkbnheijcaaDoorTie
import Derived.PinnedBridge
import Derived.Lib.LaidIn
import Derived.Lib.LaidU8T
import Derived.Deep.DeepHandedRow
import Derived.Deep.DeepWitnessRowRef
import Derived.ProofKit
import Derived.SizedLaws
import Derived.SevenTiedAt
import Derived.Test.YtfoahkbnheijcaaDoorCq18
import Derived.Laws.StructEq
import Derived.Test.YtfoahkbnheijcaaDoorCq10
namespace Go.Proofs.YtfoahkbnheijcaaDoor
open Go.RowKit
theorem begins_same {p q : List St} (h : p.length = q.length) : begins p q = eqB p q := by
  unfold begins
  rw [List.take_of_length_le (by omega)]
end Go.Proofs.YtfoahkbnheijcaaDoor
namespace Go.Proofs.YtfoahkbnheijcaaDoor
open Go.RowKit
set_option maxHeartbeats 2000000 in
set_option maxRecDepth 100000 in
theorem refPathSame_any (l l' : List St) (w : World) (a a' : Option Addr) (n m c c' : Nat) (h : IsSteps w w.heap.size l a n c) (h' : IsSteps w w.heap.size l' a' m c') :
    Calls Tryd.prog 57 #[.slice a n c, .slice a' m c'] w fun e w' => e = .returned (.bool (eqB l l')) ∧ Below w.heap.size w w' := by
  have HLn := Lib.hid h.len; have HLm := Lib.hid h'.len
  by_cases e : n = m
  case neg =>
    go_enter Tryd.func57, Tryd.ntmps57
    have f1 : ((n : Int) == (m : Int)) = false := by simp; omega
    go_wp2_with fail
    go_ret
    exact ⟨Zc (Yb (fun h => e (by rw [HLn.out, HLm.out, h]))).symm, Below.refl _ _⟩
  subst e
  have hc := zbd l l' w a a' n n c c' h h'
  rw [begins_same (by rw [← HLn.out, ← HLm.out])] at hc
  have HC := Lib.hid hc
  clear hc h h'
  go_enter Tryd.func57, Tryd.ntmps57
  have f1 : ((n : Int) == (n : Int)) = true := by simp
  go_wp2_with (go_at_call 20; refine HC.out.mono ?_; rintro e w' ⟨rfl, hb⟩)
  go_ret
  exact ⟨rfl, hb⟩
end Go.Proofs.YtfoahkbnheijcaaDoor
namespace Go.Proofs.YtfoahkbnheijcaaDoor
open Go.RowKit
set_option maxHeartbeats 4000000 in
set_option maxRecDepth 100000 in
theorem ref06Same_any (x y : Cm) (w : World) (c d : CC) (hx : IsComp w w.heap.size x c) (hy : IsComp w w.heap.size y d) :
    Calls Tryd.prog 25 #[.agg #[.int .u8 c.k, .slice c.pa c.pl c.pc, .string c.key, .int .i64 c.i, .int .i64 c.j, .int .i64 c.n, .int .u8 c.v.k, .int .i64 c.v.n, .string c.v.s, .slice c.v.la c.v.ll c.v.lc, .slice c.v.oa c.v.ol c.v.oc, .string c.s], .agg #[.int .u8 d.k, .slice d.pa d.pl d.pc, .string d.key, .int .i64 d.i, .int .i64 d.j, .int .i64 d.n, .int .u8 d.v.k, .int .i64 d.v.n, .string d.v.s, .slice d.v.la d.v.ll d.v.lc, .slice d.v.oa d.v.ol d.v.oc, .string d.s]] w fun e w' => e = .returned (.bool (eqB x y)) ∧ Below w.heap.size w w' := by
  cases hx with
  | mk c p v hb hp hv =>
  cases hy with
  | mk d q u hb' hq hu =>
  have HV : Hid (∀ W, Below w.heap.size w W → Calls Tryd.prog 16 #[.agg #[.int .u8 c.v.k, .int .i64 c.v.n, .string c.v.s, .slice c.v.la c.v.ll c.v.lc, .slice c.v.oa c.v.ol c.v.oc], .agg #[.int .u8 d.v.k, .int .i64 d.v.n, .string d.v.s, .slice d.v.la d.v.ll d.v.lc, .slice d.v.oa d.v.ol d.v.oc]] W fun e w' => e = .returned (.bool (eqv v u)) ∧ Below W.heap.size W w') := fun W hW => Xq v u W c.v d.v (hv.later_ hW) (hu.later_ hW)
  have HP : Hid (∀ W, Below w.heap.size w W → Calls Tryd.prog 57 #[.slice c.pa c.pl c.pc, .slice d.pa d.pl d.pc] W fun e w' => e = .returned (.bool (eqB p q)) ∧ Below W.heap.size W w') := fun W hW => refPathSame_any p q W _ _ _ _ _ _ (hp.later_ hW) (hq.later_ hW)
  obtain ⟨R, hR⟩ : ∃ R, eqB (Cm.mk c.k p c.key c.i c.j c.n v c.s) (Cm.mk d.k q d.key d.i d.j d.n u d.s) = R := ⟨_, rfl⟩
  rw [hR]
  have HR := Lib.hid hR
  clear hR hb hp hv hb' hq hu
  by_cases e0 : c.k = d.k
  case neg =>
    have f0 : (c.k == d.k) = false := by simp [e0]
    have H0 := Lib.hid e0
    clear e0
    go_enter Tryd.func25, Tryd.ntmps25
    go_wp2_with fail
    go_ret
    exact ⟨Zc (by rw [← HR.out]; exact (Cm.ne (Or.inl H0.out)).symm), ((Below.refl _ _).alloc (Nat.le_refl _) _).alloc (by simp) _⟩
  have f0 : (c.k == d.k) = true := by simp [e0]
  have H0 := Lib.hid e0
  clear e0
  by_cases e1 : c.key.toList = d.key.toList
  case neg =>
    have f1 : (c.key.toList == d.key.toList) = false := by simp [e1]
    have H1 := Lib.hid e1
    clear e1
    go_enter Tryd.func25, Tryd.ntmps25
    go_wp2_with fail
    go_ret
    exact ⟨Zc (by rw [← HR.out]; exact (Cm.ne (Or.inr <| .inl H1.out)).symm), ((Below.refl _ _).alloc (Nat.le_refl _) _).alloc (by simp) _⟩
  have f1 : (c.key.toList == d.key.toList) = true := by simp [e1]
  have H1 := Lib.hid e1
  clear e1
  by_cases e2 : c.i = d.i
  case neg =>
    have f2 : (c.i == d.i) = false := by simp [e2]
    have H2 := Lib.hid e2
    clear e2
    go_enter Tryd.func25, Tryd.ntmps25
    go_wp2_with fail
    go_ret
    exact ⟨Zc (by rw [← HR.out]; exact (Cm.ne (Or.inr <| .inr <| .inl H2.out)).symm), ((Below.refl _ _).alloc (Nat.le_refl _) _).alloc (by simp) _⟩
  have f2 : (c.i == d.i) = true := by simp [e2]
  have H2 := Lib.hid e2
  clear e2
  by_cases e3 : c.j = d.j
  case neg =>
    have f3 : (c.j == d.j) = false := by simp [e3]
    have H3 := Lib.hid e3
    clear e3
    go_enter Tryd.func25, Tryd.ntmps25
    go_wp2_with fail
    go_ret
    exact ⟨Zc (by rw [← HR.out]; exact (Cm.ne (Or.inr <| .inr <| .inr <| .inl H3.out)).symm), ((Below.refl _ _).alloc (Nat.le_refl _) _).alloc (by simp) _⟩
  have f3 : (c.j == d.j) = true := by simp [e3]
  have H3 := Lib.hid e3
  clear e3
  by_cases e4 : c.n = d.n
  case neg =>
    have f4 : (c.n == d.n) = false := by simp [e4]
    have H4 := Lib.hid e4
    clear e4
    go_enter Tryd.func25, Tryd.ntmps25
    go_wp2_with fail
    go_ret
    exact ⟨Zc (by rw [← HR.out]; exact (Cm.ne (Or.inr <| .inr <| .inr <| .inr <| .inl H4.out)).symm), ((Below.refl _ _).alloc (Nat.le_refl _) _).alloc (by simp) _⟩
  have f4 : (c.n == d.n) = true := by simp [e4]
  have H4 := Lib.hid e4
  clear e4
  by_cases e5 : c.s.toList = d.s.toList
  case neg =>
    have f5 : (c.s.toList == d.s.toList) = false := by simp [e5]
    have H5 := Lib.hid e5
    clear e5
    go_enter Tryd.func25, Tryd.ntmps25
    go_wp2_with fail
    go_ret
    exact ⟨Zc (by rw [← HR.out]; exact (Cm.ne (Or.inr <| .inr <| .inr <| .inr <| .inr <| .inl H5.out)).symm), ((Below.refl _ _).alloc (Nat.le_refl _) _).alloc (by simp) _⟩
  have f5 : (c.s.toList == d.s.toList) = true := by simp [e5]
  have H5 := Lib.hid e5
  clear e5
  cases ev : eqv v u with
  | false =>
    have EV := Lib.hid ev
    rw [ev] at HV
    clear ev
    go_enter Tryd.func25, Tryd.ntmps25
    go_wp2_with (first | (go_at_call 16; refine (HV.out _ (((Below.refl _ _).alloc (Nat.le_refl _) _).alloc (by simp) _)).mono ?_; rintro e w1 ⟨rfl, hb1⟩; have q1 := hb1.cellA 1 _ rfl; have q2 := hb1.cellB 1 _ rfl) | (go_at_call 57; refine (HP.out _ hb1.two).mono ?_; rintro e w2 ⟨rfl, hb2⟩))
    go_ret
    exact ⟨Zc (by rw [← HR.out]; exact (Cm.ne (Or.inr <| .inr <| .inr <| .inr <| .inr <| .inr <| .inl EV.out)).symm), hb1.two⟩
  | true =>
    have EV := Lib.hid ev
    rw [ev] at HV
    clear ev
    cases eb : eqB p q with
    | false =>
      have HB := Lib.hid eb
      rw [eb] at HP
      clear eb
      go_enter Tryd.func25, Tryd.ntmps25
      go_wp2_with (first | (go_at_call 16; refine (HV.out _ (((Below.refl _ _).alloc (Nat.le_refl _) _).alloc (by simp) _)).mono ?_; rintro e w1 ⟨rfl, hb1⟩; have q1 := hb1.cellA 1 _ rfl; have q2 := hb1.cellB 1 _ rfl) | (go_at_call 57; refine (HP.out _ hb1.two).mono ?_; rintro e w2 ⟨rfl, hb2⟩))
      go_ret
      exact ⟨Zc (by rw [← HR.out]; exact (Cm.ne (Or.inr <| .inr <| .inr <| .inr <| .inr <| .inr <| .inr HB.out)).symm), hb1.two.on hb2 hb1.two.size⟩
    | true =>
      have HB := Lib.hid eb
      rw [eb] at HP
      clear eb
      go_enter Tryd.func25, Tryd.ntmps25
      go_wp2_with (first | (go_at_call 16; refine (HV.out _ (((Below.refl _ _).alloc (Nat.le_refl _) _).alloc (by simp) _)).mono ?_; rintro e w1 ⟨rfl, hb1⟩; have q1 := hb1.cellA 1 _ rfl; have q2 := hb1.cellB 1 _ rfl) | (go_at_call 57; refine (HP.out _ hb1.two).mono ?_; rintro e w2 ⟨rfl, hb2⟩))
      go_ret
      exact ⟨Zc (by rw [← HR.out]; exact (Cm.same H0.out H1.out H2.out H3.out H4.out H5.out EV.out HB.out).symm), hb1.two.on hb2 hb1.two.size⟩
end Go.Proofs.YtfoahkbnheijcaaDoor
namespace Go.Proofs.YtfoahkbnheijcaaDoor
open Go.RowKit
set_option maxHeartbeats 4000000 in
set_option maxRecDepth 100000 in
theorem cloneStep_any (w : World) (a : Option Addr) (n c : Nat) (cs : List Value) (h0 : a = none → n = 0) (hp : ∀ ad, a = some ad → ∀ j u, cs[j]? = some u → w.cell? (ad.add j) = some u) (hl : cs.length = n * 3) (h1 : ∀ u ∈ cs, u.oneCell' = true) (hbig : n * 32 ≤ 140737488355328) :
    Calls Tryd.prog 48 #[.slice a n c] w fun e w' => (∃ v', e = .returned v' ∧ w'.ownsRow w.heap.size 57 3 v' n cs) ∧ Below w.heap.size w w' := by
  obtain ⟨i0, hi0, hz0, hz1, hz2⟩ := info_parts zja
  have hq : ∀ (w : World) (a : Option Addr) (n c n' c' : Nat), (binOp .eql 23 (.slice a n c) (.slice none n' c')).run Tryd.prog w = .ok (.bool a.isNone) w := fun w a n c n' c' => Lib.run_eql_slice_nil w _ _ a n c n' c' Tryd.underlying23
  cases a with
  | none =>
    obtain rfl := h0 rfl
    obtain rfl : cs = [] := List.length_eq_zero_iff.1 (by omega)
    clear hp hl h1 hbig h0
    go_enter Tryd.func48, Tryd.ntmps48
    go_wp2_with fail
    go_ret
    exact ⟨⟨_, rfl, ⟨rfl, .inl ⟨rfl, rfl⟩⟩⟩, Below.refl _ _⟩
  | some ad =>
    have HP := Lib.hid hp
    have HL := Lib.hid hl
    have H1 := Lib.hid h1
    clear hp hl h1 h0
    go_enter Tryd.func48, Tryd.ntmps48
    go_wp2_with (at_builtin; refine Z0 _ rfl (.tmp 5) (.tmp 6) 23 (by rfl) w.heap.size 57 i0 _ 3 32 Tryd.underlying23 hi0 hz0 hz1 hz2 rfl (by omega) _ 0 [] (by rfl) (World.ownsRow_made w #[] 0 (Nat.le_refl _) (Nat.zero_le _) rfl) (some ad) n c cs (by rfl) ⟨(fun h => by cases h), fun ad h j u hj => Lib.cell?_alloc_some _ (HP.out ad h j u hj)⟩ HL.out H1.out (by unfold maxLen; omega) (by omega) (by simp) ?_; intro v' w1 hown hgrow)
    go_ret
    exact ⟨⟨v', rfl, by simpa using hown⟩, ((Below.refl _ w).alloc (Nat.le_refl _) _).grown hgrow (by simp) (by intro k hk; simp [Value.ownBlock] at hk; omega)⟩
theorem IsSteps.clone {w : World} {p : List St} {a : Option Addr} {n c : Nat} (h : IsSteps w w.heap.size p a n c) : ∀ W, Below w.heap.size w W → Calls Tryd.prog 48 #[.slice a n c] W fun e w' => (∃ a' m' c', e = .returned (.slice a' m' c') ∧ IsSteps (only (fun k => W.heap.size ≤ k) w') w'.heap.size p a' m' c') ∧ Below W.heap.size W w' := by
  intro W hW
  obtain ⟨h1, h2, h3, h4, b, o, h5, h6⟩ := h
  have hfl : (p.flatMap scells).length = n * 3 := by rw [Zo scells 3 (fun _ => rfl), h1]
  refine (cloneStep_any W a n c (p.flatMap scells) (fun e => ?_) (fun ad e j u hj => ?_) hfl (fun u hu => ?_) (by omega)).mono ?_
  · by_cases h0 : 0 < n
    · rw [e] at h5; cases (h5 h0).1
    · omega
  · have hj2 := (List.getElem?_eq_some_iff.1 hj).1
    have hn : 0 < n := by omega
    obtain ⟨ha, hb⟩ := h5 hn
    rw [e] at ha; injection ha with ha; subst ha
    have hi : j / 3 < p.length := by omega
    have hd : j = j / 3 * 3 + j % 3 := by omega
    have hm : j % 3 < 3 := by omega
    rw [hd, Xm scells 3 (fun _ => rfl) _ (j / 3) (j % 3) hi hm] at hj
    obtain ⟨g1, g2⟩ := h6 (j / 3) hi
    rw [Addr.add_lit, hd, ← Nat.add_assoc]
    refine Zb hW ?_ hb
    obtain ⟨m, hmm⟩ : ∃ m, j % 3 = m := ⟨_, rfl⟩
    rw [hmm] at hj hm ⊢
    match m, hm with
    | 0, _ => rw [← hj]; exact g1.c0
    | 1, _ => rw [← hj]; exact g1.c1
    | 2, _ => rw [← hj]; exact g1.c2
  · obtain ⟨v, _, hv⟩ := List.mem_flatMap.1 hu
    simp only [scells, List.mem_cons, List.mem_nil_iff, or_false] at hv
    rcases hv with rfl | rfl | rfl <;> rfl
  · rintro e w' ⟨⟨v', rfl, ho⟩, hb'⟩
    obtain ⟨a', m', c', rfl, hS⟩ := zem (S := fun k => W.heap.size ≤ k) (by rw [h1] at ho; exact ho) (fun k hk => hk) (fun s hs => by
      obtain ⟨i, hi, rfl⟩ := List.getElem_of_mem hs
      exact (h6 i hi).2) (by omega)
    exact ⟨⟨a', m', c', rfl, hS⟩, hb'⟩
theorem results_ccopy {tmps : Array Value} {W : World} {b : Nat} {d : CC} (ht : tmps[2]? = some (.pointer (some ⟨b, 0, none⟩))) (h : BC W b (ccells d)) :
    (results Tryd.f22 tmps).run Tryd.prog W = .ok (.agg #[.int .u8 d.k, .slice d.pa d.pl d.pc, .string d.key, .int .i64 d.i, .int .i64 d.j, .int .i64 d.n, .int .u8 d.v.k, .int .i64 d.v.n, .string d.v.s, .slice d.v.la d.v.ll d.v.lc, .slice d.v.oa d.v.ol d.v.oc, .string d.s]) W := by
  obtain ⟨r0, r1, r2, r3, r4, r5, r6, r7, r8, r9, r10, r11⟩ := row12 h.at_
  simp [results, Tryd.results22, go_sem, ht, r0, r1, r2, r3, r4, r5, r6, r7, r8, r9, r10, r11]
/-- A copy's two boxes, and what stands in the first one. -/
structure CY (w W : World) (p : List St) (xv : V) (d : CC) : Prop where
  one : BC W w.heap.size (ccells d)
  two : BC W (w.heap.size + 1) (ccells czero)
  st : IsSteps (only (fun k => w.heap.size + 2 ≤ k) W) W.heap.size p d.pa d.pl d.pc
  vl : IsVal (only (fun k => w.heap.size + 2 ≤ k) W) W.heap.size xv d.v
  below : Below w.heap.size w W
theorem setP_step (W : World) (b : Nat) (a : Option Addr) (m c : Nat) (f : VC) : RStep W ((((((W.setCell ⟨b, 1, none⟩ (.slice a m c)).setCell ⟨b, 6, none⟩ (.int .u8 f.k)).setCell ⟨b, 7, none⟩ (.int .i64 f.n)).setCell ⟨b, 8, none⟩ (.string f.s)).setCell ⟨b, 9, none⟩ (.slice f.la f.ll f.lc)).setCell ⟨b, 10, none⟩ (.slice f.oa f.ol f.oc)) b := ((((RStep.self.trans RStep.self).trans RStep.self).trans RStep.self).trans RStep.self).trans RStep.self
theorem CY.made {w W1 W : World} {p : List St} {xv : V} {cc : CC} {a : Option Addr} {m c : Nat} {f : VC} (h1 : BC W w.heap.size (ccells cc)) (h2 : BC W (w.heap.size + 1) (ccells czero)) (hz : w.heap.size + 2 ≤ W1.heap.size) (hst : IsSteps (only (fun k => W1.heap.size ≤ k) W) W.heap.size p a m c) (hvl : IsVal (only (fun k => W1.heap.size ≤ k) W) W.heap.size xv f) (hb : Below w.heap.size w W) :
    CY w ((((((W.setCell ⟨w.heap.size, 1, none⟩ (.slice a m c)).setCell ⟨w.heap.size, 6, none⟩ (.int .u8 f.k)).setCell ⟨w.heap.size, 7, none⟩ (.int .i64 f.n)).setCell ⟨w.heap.size, 8, none⟩ (.string f.s)).setCell ⟨w.heap.size, 9, none⟩ (.slice f.la f.ll f.lc)).setCell ⟨w.heap.size, 10, none⟩ (.slice f.oa f.ol f.oc)) p xv { cc with pa := a, pl := m, pc := c, v := f } := by
  have st := setP_step W w.heap.size a m c f
  have hsh : Shows (only (fun k => W1.heap.size ≤ k) W) (only (fun k => w.heap.size + 2 ≤ k) _) W.heap.size := Zd fun k hk hl => ⟨by omega, st.block k hl (by omega)⟩
  refine ⟨(((((h1.set (i := 1) (x := .slice a m c) (by simp [ccells])).set (i := 6) (x := .int .u8 f.k) (by simp [ccells])).set (i := 7) (x := .int .i64 f.n) (by simp [ccells])).set (i := 8) (x := .string f.s) (by simp [ccells])).set (i := 9) (x := .slice f.la f.ll f.lc) (by simp [ccells])).set (i := 10) (x := .slice f.oa f.ol f.oc) (by simp [ccells]), h2.next st (by omega), (hst.sub hsh).more st.size, (hvl.sub hsh).more st.size, hb.trans (st.lowC (Nat.le_refl _) (by have := hb.size; omega))⟩
theorem slater {w W : World} {S : Nat → Prop} {p : List St} {a : Option Addr} {n c : Nat} (h : IsSteps (only S w) w.heap.size p a n c) (hb : Below w.heap.size w W) : IsSteps (only S W) W.heap.size p a n c := (h.sub (Zd fun k hk hl => ⟨hk, hb.block k hl⟩)).more hb.size
theorem vlater {w W : World} {S : Nat → Prop} {x : V} {f : VC} (h : IsVal (only S w) w.heap.size x f) (hb : Below w.heap.size w W) : IsVal (only S W) W.heap.size x f := (h.sub (Zd fun k hk hl => ⟨hk, hb.block k hl⟩)).more hb.size
set_option maxHeartbeats 16000000 in
set_option maxRecDepth 100000 in
theorem ccopy_any (w : World) (cm : Cm) (cc : CC) (hc : IsComp w w.heap.size cm cc) :
    Calls Tryd.prog 22 #[.agg #[.int .u8 cc.k, .slice cc.pa cc.pl cc.pc, .string cc.key, .int .i64 cc.i, .int .i64 cc.j, .int .i64 cc.n, .int .u8 cc.v.k, .int .i64 cc.v.n, .string cc.v.s, .slice cc.v.la cc.v.ll cc.v.lc, .slice cc.v.oa cc.v.ol cc.v.oc, .string cc.s]] w fun e w' => (∃ d : CC, e = .returned (.agg #[.int .u8 d.k, .slice d.pa d.pl d.pc, .string d.key, .int .i64 d.i, .int .i64 d.j, .int .i64 d.n, .int .u8 d.v.k, .int .i64 d.v.n, .string d.v.s, .slice d.v.la d.v.ll d.v.lc, .slice d.v.oa d.v.ol d.v.oc, .string d.s]) ∧ IsComp w' w'.heap.size cm d) ∧ Below w.heap.size w w' := by
  cases hc with
  | mk cc p xv hcb hp hxv =>
  have HCL := Lib.hid hp.clone
  have HCV : Hid (∀ W, Below w.heap.size w W → Calls Tryd.prog 49 #[.agg #[.int .u8 cc.v.k, .int .i64 cc.v.n, .string cc.v.s, .slice cc.v.la cc.v.ll cc.v.lc, .slice cc.v.oa cc.v.ol cc.v.oc]] W fun e w' => (∃ f : VC, e = .returned (.agg #[.int .u8 f.k, .int .i64 f.n, .string f.s, .slice f.la f.ll f.lc, .slice f.oa f.ol f.oc]) ∧ Whole w' W.heap.size xv f) ∧ Below W.heap.size W w') := Lib.hid fun W hW => Y0 W xv cc.v (hxv.later_ hW)
  have hbx : ∀ t1 t2, BC ((w.alloc (.cells #[.int .u8 cc.k, .slice cc.pa cc.pl cc.pc, .string cc.key, .int .i64 cc.i, .int .i64 cc.j, .int .i64 cc.n, .int .u8 cc.v.k, .int .i64 cc.v.n, .string cc.v.s, .slice cc.v.la cc.v.ll cc.v.lc, .slice cc.v.oa cc.v.ol cc.v.oc, .string cc.s] t1)).alloc (.cells (ccells czero).toArray t2)) w.heap.size (ccells cc) ∧ BC ((w.alloc (.cells #[.int .u8 cc.k, .slice cc.pa cc.pl cc.pc, .string cc.key, .int .i64 cc.i, .int .i64 cc.j, .int .i64 cc.n, .int .u8 cc.v.k, .int .i64 cc.v.n, .string cc.v.s, .slice cc.v.la cc.v.ll cc.v.lc, .slice cc.v.oa cc.v.ol cc.v.oc, .string cc.s] t1)).alloc (.cells (ccells czero).toArray t2)) (w.heap.size + 1) (ccells czero) ∧ Below w.heap.size w ((w.alloc (.cells #[.int .u8 cc.k, .slice cc.pa cc.pl cc.pc, .string cc.key, .int .i64 cc.i, .int .i64 cc.j, .int .i64 cc.n, .int .u8 cc.v.k, .int .i64 cc.v.n, .string cc.v.s, .slice cc.v.la cc.v.ll cc.v.lc, .slice cc.v.oa cc.v.ol cc.v.oc, .string cc.s] t1)).alloc (.cells (ccells czero).toArray t2)) ∧ ((w.alloc (.cells #[.int .u8 cc.k, .slice cc.pa cc.pl cc.pc, .string cc.key, .int .i64 cc.i, .int .i64 cc.j, .int .i64 cc.n, .int .u8 cc.v.k, .int .i64 cc.v.n, .string cc.v.s, .slice cc.v.la cc.v.ll cc.v.lc, .slice cc.v.oa cc.v.ol cc.v.oc, .string cc.s] t1)).alloc (.cells (ccells czero).toArray t2)).heap.size = w.heap.size + 2 := fun t1 t2 => by
    obtain ⟨q1, q2, q3, q4⟩ := zex w #[.int .u8 cc.k, .slice cc.pa cc.pl cc.pc, .string cc.key, .int .i64 cc.i, .int .i64 cc.j, .int .i64 cc.n, .int .u8 cc.v.k, .int .i64 cc.v.n, .string cc.v.s, .slice cc.v.la cc.v.ll cc.v.lc, .slice cc.v.oa cc.v.ol cc.v.oc, .string cc.s] (ccells czero).toArray t1 t2
    exact ⟨q1, by simpa using q2, q3, by simp⟩
  have HBX := Lib.hid (hbx 34 34)
  have HCB := Lib.hid hcb
  clear hbx hp hxv hcb
  go_enter Tryd.func22, Tryd.ntmps22
  generalize hQ0 : bodyPost _ _ _ = Q0
  have HQ := Lib.hid hQ0
  clear hQ0
  go_upto_region 1 with fail
  obtain ⟨w1, hw1⟩ : ∃ w1, (w.alloc (.cells #[.int .u8 cc.k, .slice cc.pa cc.pl cc.pc, .string cc.key, .int .i64 cc.i, .int .i64 cc.j, .int .i64 cc.n, .int .u8 cc.v.k, .int .i64 cc.v.n, .string cc.v.s, .slice cc.v.la cc.v.ll cc.v.lc, .slice cc.v.oa cc.v.ol cc.v.oc, .string cc.s] 34)).alloc (.cells (ccells czero).toArray 34) = w1 := ⟨_, rfl⟩
  rw [hw1] at HBX
  rw [show (w.alloc (.cells #[.int .u8 cc.k, .slice cc.pa cc.pl cc.pc, .string cc.key, .int .i64 cc.i, .int .i64 cc.j, .int .i64 cc.n, .int .u8 cc.v.k, .int .i64 cc.v.n, .string cc.v.s, .slice cc.v.la cc.v.ll cc.v.lc, .slice cc.v.oa cc.v.ol cc.v.oc, .string cc.s] 34)).alloc (.cells #[.int .u8 0, .slice none 0 0, .string { data := #[] }, .int .i64 0, .int .i64 0, .int .i64 0, .int .u8 0, .int .i64 0, .string { data := #[] }, .slice none 0 0, .slice none 0 0, .string { data := #[] }] 34) = w1 from hw1]
  obtain ⟨hb1, hb2, hal, hsz⟩ := HBX.out
  have HB1 := Lib.hid hb1; have HB2 := Lib.hid hb2; have HAL := Lib.hid hal; have HSZ := Lib.hid hsz
  have HCL1 : Hid (∀ W, Below w1.heap.size w1 W → Calls Tryd.prog 48 #[.slice cc.pa cc.pl cc.pc] W fun e w' => (∃ a' m' c', e = .returned (.slice a' m' c') ∧ IsSteps (only (fun k => w1.heap.size ≤ k) w') w'.heap.size p a' m' c') ∧ Below w1.heap.size w1 w' ∧ Below W.heap.size W w') := Lib.hid fun W hW => (HCL.out W (HAL.out.trans (hW.mono HAL.out.size))).mono fun e w' h => by
    obtain ⟨⟨a', m', c', rfl, hst⟩, hb⟩ := h
    exact ⟨⟨a', m', c', rfl, hst.sub (Zd fun k hk hl => ⟨Nat.le_trans hW.size hk, rfl⟩)⟩, hW.trans (hb.mono hW.size), hb⟩
  have HCV1 : Hid (∀ W, Below w1.heap.size w1 W → Calls Tryd.prog 49 #[.agg #[.int .u8 cc.v.k, .int .i64 cc.v.n, .string cc.v.s, .slice cc.v.la cc.v.ll cc.v.lc, .slice cc.v.oa cc.v.ol cc.v.oc]] W fun e w' => (∃ f : VC, e = .returned (.agg #[.int .u8 f.k, .int .i64 f.n, .string f.s, .slice f.la f.ll f.lc, .slice f.oa f.ol f.oc]) ∧ IsVal (only (fun k => w1.heap.size ≤ k) w') w'.heap.size xv f) ∧ Below w1.heap.size w1 w' ∧ Below W.heap.size W w') := Lib.hid fun W hW => (HCV.out W (HAL.out.trans (hW.mono HAL.out.size))).mono fun e w' h => by
    obtain ⟨⟨f, rfl, hv⟩, hb⟩ := h
    exact ⟨⟨f, rfl, hv.sepI.isVal.sub (Zd fun k hk hl => ⟨Nat.le_trans hW.size hk, rfl⟩)⟩, hW.trans (hb.mono hW.size), hb⟩
  have q1 := hb1.at_ 1 _ rfl; have q6 := hb1.at_ 6 _ rfl; have q7 := hb1.at_ 7 _ rfl; have q8 := hb1.at_ 8 _ rfl; have q9 := hb1.at_ 9 _ rfl; have q10 := hb1.at_ 10 _ rfl; have qf1 := hb1.fr 1; have qf6 := hb1.fr 6; have qf7 := hb1.fr 7; have qf8 := hb1.fr 8; have qf9 := hb1.fr 9; have qf10 := hb1.fr 10; have qz := hb1.lt
  have bl0 : Below w1.heap.size w1 w1.drew := Zf w1
  have mixed : Tryd.prog.follows .mixedOrders = true := by kernel_rfl
  clear hb1 hb2 hal hsz hw1 HBX HCL HCV
  refine wp_region_noPanic ?_
  go_region_with (first
    | (go_simp; go_at_call 48; (with_reducible refine (HCL1.out _ (by assumption)).mono ?_); rintro e wq ⟨⟨a1, m1, c1, rfl, hst⟩, hbq, hbr⟩; have D := HB1.out.keep hbq (by have := HSZ.out; omega); have k1 := D.at_ 1 _ rfl; have k6 := D.at_ 6 _ rfl; have k7 := D.at_ 7 _ rfl; have k8 := D.at_ 8 _ rfl; have k9 := D.at_ 9 _ rfl; have k10 := D.at_ 10 _ rfl; have kf1 := D.fr 1; have kf6 := D.fr 6; have kf7 := D.fr 7; have kf8 := D.fr 8; have kf9 := D.fr 9; have kf10 := D.fr 10; have kz := D.lt; have HST := Lib.hid hst; (try replace HVL := Lib.hid (vlater HVL.out hbr)); clear D hst hbr)
    | (go_simp; go_at_call 49; (with_reducible refine (HCV1.out _ (by assumption)).mono ?_); rintro e wq ⟨⟨f, rfl, hvl⟩, hbq, hbr⟩; have D := HB1.out.keep hbq (by have := HSZ.out; omega); have k1 := D.at_ 1 _ rfl; have k6 := D.at_ 6 _ rfl; have k7 := D.at_ 7 _ rfl; have k8 := D.at_ 8 _ rfl; have k9 := D.at_ 9 _ rfl; have k10 := D.at_ 10 _ rfl; have kf1 := D.fr 1; have kf6 := D.fr 6; have kf7 := D.fr 7; have kf8 := D.fr 8; have kf9 := D.fr 9; have kf10 := D.fr 10; have kz := D.lt; have HVL := Lib.hid hvl; (try replace HST := Lib.hid (slater HST.out hbr)); clear D hvl hbr))
  all_goals (
    have hW1 := HB1.out.keep (show Below w1.heap.size w1 wq by assumption) (by have := HSZ.out; omega)
    have hW2 := HB2.out.keep (show Below w1.heap.size w1 wq by assumption) (by have := HSZ.out; omega)
    have hbW := HAL.out.trans ((show Below w1.heap.size w1 wq by assumption).mono HAL.out.size)
    have HCY := Lib.hid (CY.made (W1 := w1) hW1 hW2 (by have := HSZ.out; omega) HST.out HVL.out hbW)
    refine Zw (P := fun W => CY w W p xv { cc with pa := a1, pl := m1, pc := c1, v := f }) HCY.out ?_
    clear hW1 hW2 hbW HCY HST HVL
    rintro W5 h5
    obtain ⟨x0, x1, x2, x3, x4, x5, x6, x7, x8, x9, x10, x11⟩ := row12 h5.one.at_
    have y0 := h5.two.at_ 0 _ rfl; have g0 := h5.two.fr 0; have y1 := h5.two.at_ 1 _ rfl; have g1 := h5.two.fr 1; have y2 := h5.two.at_ 2 _ rfl; have g2 := h5.two.fr 2; have y3 := h5.two.at_ 3 _ rfl; have g3 := h5.two.fr 3; have y4 := h5.two.at_ 4 _ rfl; have g4 := h5.two.fr 4; have y5 := h5.two.at_ 5 _ rfl; have g5 := h5.two.fr 5; have y6 := h5.two.at_ 6 _ rfl; have g6 := h5.two.fr 6; have y7 := h5.two.at_ 7 _ rfl; have g7 := h5.two.fr 7; have y8 := h5.two.at_ 8 _ rfl; have g8 := h5.two.fr 8; have y9 := h5.two.at_ 9 _ rfl; have g9 := h5.two.fr 9; have y10 := h5.two.at_ 10 _ rfl; have g10 := h5.two.fr 10; have y11 := h5.two.at_ 11 _ rfl; have g11 := h5.two.fr 11
    have zx := h5.one.lt; have zy := h5.two.lt
    have H5 := Lib.hid h5
    clear h5
    go_wp2_with fail
    rw [← HQ.out]
    have hq := HCB.out
    have st := Kv W5 (w.heap.size + 1) { cc with pa := a1, pl := m1, pc := c1, v := f }
    refine ⟨rfl, _, results_ccopy rfl (Zx (c0 := czero) H5.out.two { cc with pa := a1, pl := m1, pc := c1, v := f }), ⟨{ cc with pa := a1, pl := m1, pc := c1, v := f }, rfl, ?_⟩, Below.setC H5.out.below (by omega) { cc with pa := a1, pl := m1, pc := c1, v := f }⟩
    refine .mk { cc with pa := a1, pl := m1, pc := c1, v := f } p _ ⟨hq.k0, hq.k1, hq.i0, hq.i1, hq.j0, hq.j1, hq.n0, hq.n1, hq.key1, hq.s1⟩ ?_ ?_
    · exact ((H5.out.st.sub (Zd (S' := fun _ => True) fun k hk hl => ⟨trivial, st.block k hl (by omega)⟩)).sub (Zn _ _ _)).more st.size
    · exact ((H5.out.vl.sub (Zd (S' := fun _ => True) fun k hk hl => ⟨trivial, st.block k hl (by omega)⟩)).sub (Zn _ _ _)).more st.size)
end Go.Proofs.YtfoahkbnheijcaaDoor
namespace Go.Proofs.YtfoahkbnheijcaaDoor
open Go.RowKit
theorem nilToks (w : World) (B : Nat) : IsToks w B [] none 0 0 := ⟨rfl, Nat.le_refl _, by omega, 0, 0, fun h => absurd h (by omega), fun i hi => by cases hi⟩
set_option maxHeartbeats 32000000 in
set_option maxRecDepth 100000 in
theorem compSounds_any (w : World) (hT : Tabs w) (a : BA) (x : Ba) (hav : IsToks w w.heap.size x.v a.va a.vl a.vc) (ha : a.pl ≤ 40 → IsBare w w.heap.size x a) (b : BA) (y : Ba) (hbv : IsToks w w.heap.size y.v b.va b.vl b.vc) (hb : b.pl ≤ 40 → IsBare w w.heap.size y b) :
    Calls Tryd.prog 6 #[.agg #[.int .u8 a.k, .slice a.pa a.pl a.pc, .string a.key, .int .i64 a.i, .int .i64 a.j, .int .i64 a.n, .string a.s, .slice a.va a.vl a.vc], .agg #[.int .u8 b.k, .slice b.pa b.pl b.pc, .string b.key, .int .i64 b.i, .int .i64 b.j, .int .i64 b.n, .string b.s, .slice b.va b.vl b.vc]] w fun e w' => e = .returned (.bool true) ∧ Below w.heap.size w w' := by
  have HTT := Lib.hid hT
  have HPA := Lib.hid ha; have HPB := Lib.hid hb
  have HKN : Hid (∀ W, Below w.heap.size w W → Calls Tryd.prog 9 #[] W fun e w' => e = .returned (.bool true) ∧ Below W.heap.size W w') := Lib.hid fun W hW => Jq W (hT.below hW)
  obtain ⟨q1, q2, q3, q4⟩ := zex w #[.int .u8 a.k, .slice a.pa a.pl a.pc, .string a.key, .int .i64 a.i, .int .i64 a.j, .int .i64 a.n, .string a.s, .slice a.va a.vl a.vc] #[.int .u8 b.k, .slice b.pa b.pl b.pc, .string b.key, .int .i64 b.i, .int .i64 b.j, .int .i64 b.n, .string b.s, .slice b.va b.vl b.vc] 25 25
  have HB0 : Hid (BC ((w.alloc (.cells #[.int .u8 a.k, .slice a.pa a.pl a.pc, .string a.key, .int .i64 a.i, .int .i64 a.j, .int .i64 a.n, .string a.s, .slice a.va a.vl a.vc] 25)).alloc (.cells #[.int .u8 b.k, .slice b.pa b.pl b.pc, .string b.key, .int .i64 b.i, .int .i64 b.j, .int .i64 b.n, .string b.s, .slice b.va b.vl b.vc] 25)) w.heap.size [.int .u8 a.k, .slice a.pa a.pl a.pc, .string a.key, .int .i64 a.i, .int .i64 a.j, .int .i64 a.n, .string a.s, .slice a.va a.vl a.vc] ∧ BC ((w.alloc (.cells #[.int .u8 a.k, .slice a.pa a.pl a.pc, .string a.key, .int .i64 a.i, .int .i64 a.j, .int .i64 a.n, .string a.s, .slice a.va a.vl a.vc] 25)).alloc (.cells #[.int .u8 b.k, .slice b.pa b.pl b.pc, .string b.key, .int .i64 b.i, .int .i64 b.j, .int .i64 b.n, .string b.s, .slice b.va b.vl b.vc] 25)) (w.heap.size + 1) [.int .u8 b.k, .slice b.pa b.pl b.pc, .string b.key, .int .i64 b.i, .int .i64 b.j, .int .i64 b.n, .string b.s, .slice b.va b.vl b.vc] ∧ Below w.heap.size w ((w.alloc (.cells #[.int .u8 a.k, .slice a.pa a.pl a.pc, .string a.key, .int .i64 a.i, .int .i64 a.j, .int .i64 a.n, .string a.s, .slice a.va a.vl a.vc] 25)).alloc (.cells #[.int .u8 b.k, .slice b.pa b.pl b.pc, .string b.key, .int .i64 b.i, .int .i64 b.j, .int .i64 b.n, .string b.s, .slice b.va b.vl b.vc] 25))) := Lib.hid ⟨q1, q2, q3⟩
  have HH1 : Hid (Calls Tryd.prog 8 #[.slice none 0 0, .agg #[.int .u8 a.k, .slice a.pa a.pl a.pc, .string a.key, .int .i64 a.i, .int .i64 a.j, .int .i64 a.n, .string a.s, .slice a.va a.vl a.vc]] ((w.alloc (.cells #[.int .u8 a.k, .slice a.pa a.pl a.pc, .string a.key, .int .i64 a.i, .int .i64 a.j, .int .i64 a.n, .string a.s, .slice a.va a.vl a.vc] 25)).alloc (.cells #[.int .u8 b.k, .slice b.pa b.pl b.pc, .string b.key, .int .i64 b.i, .int .i64 b.j, .int .i64 b.n, .string b.s, .slice b.va b.vl b.vc] 25)) (SomeB ((w.alloc (.cells #[.int .u8 a.k, .slice a.pa a.pl a.pc, .string a.key, .int .i64 a.i, .int .i64 a.j, .int .i64 a.n, .string a.s, .slice a.va a.vl a.vc] 25)).alloc (.cells #[.int .u8 b.k, .slice b.pa b.pl b.pc, .string b.key, .int .i64 b.i, .int .i64 b.j, .int .i64 b.n, .string b.s, .slice b.va b.vl b.vc] 25)) a.pl)) := Lib.hid (Kr _ [] none 0 0 (nilToks _ _) a x.v (hav.later_ q3))
  have HH2 : Hid (∀ W, Below w.heap.size w W → Calls Tryd.prog 8 #[.slice none 0 0, .agg #[.int .u8 b.k, .slice b.pa b.pl b.pc, .string b.key, .int .i64 b.i, .int .i64 b.j, .int .i64 b.n, .string b.s, .slice b.va b.vl b.vc]] W (SomeB W b.pl)) := Lib.hid fun W hW => Kr _ [] none 0 0 (nilToks _ _) b y.v (hbv.later_ hW)
  clear q1 q2 q3 q4 hT ha hb hav hbv
  go_enter Tryd.func6, Tryd.ntmps6
  go_wp2_with fail
  refine HH1.out.mono ?_
  rintro e w1 ⟨⟨h, rfl, hh⟩, hb1⟩
  obtain ⟨q1, q2, q3⟩ := HB0.out
  have hA1 := q1.keep hb1 (by rw [World.size_alloc, World.size_alloc]; omega)
  have hB1 := q2.keep hb1 (by simp)
  have HL1 := Lib.hid (q3.trans (hb1.mono q3.size))
  have HHA := Lib.hid hh
  have a0 := hA1.at_ 0 _ rfl; have a1 := hA1.at_ 1 _ rfl; have a2 := hA1.at_ 2 _ rfl; have a3 := hA1.at_ 3 _ rfl; have a4 := hA1.at_ 4 _ rfl; have a5 := hA1.at_ 5 _ rfl; have a6 := hA1.at_ 6 _ rfl; have a7 := hA1.at_ 7 _ rfl; have za := hA1.lt
  have b0 := hB1.at_ 0 _ rfl; have b1 := hB1.at_ 1 _ rfl; have b2 := hB1.at_ 2 _ rfl; have b3 := hB1.at_ 3 _ rfl; have b4 := hB1.at_ 4 _ rfl; have b5 := hB1.at_ 5 _ rfl; have b6 := hB1.at_ 6 _ rfl; have b7 := hB1.at_ 7 _ rfl; have zb := hB1.lt
  have HA1 := Lib.hid hA1; have HB1 := Lib.hid hB1
  clear q1 q2 q3 hb1 hA1 hB1 hh HB0 HH1
  cases h with
  | true =>
    go_wp2_with fail
    refine (HKN.out _ HL1.out).mono ?_
    rintro e wk ⟨rfl, hbk⟩
    have HAk := Lib.hid (HL1.out.trans (hbk.mono HL1.out.size))
    clear hbk
    go_wp2_with fail
    go_returns
    exact ⟨rfl, HAk.out⟩
  | false =>
  go_wp2_with fail
  refine (HH2.out _ HL1.out).mono ?_
  rintro e w2 ⟨⟨h, rfl, hh⟩, hb2⟩
  have hA2 := HA1.out.keep hb2 HA1.out.lt
  have hB2 := HB1.out.keep hb2 HB1.out.lt
  have HL2 := Lib.hid (HL1.out.trans (hb2.mono HL1.out.size))
  have HHB := Lib.hid hh
  clear a0 a1 a2 a3 a4 a5 a6 a7 za b0 b1 b2 b3 b4 b5 b6 b7 zb
  have a0 := hA2.at_ 0 _ rfl; have a1 := hA2.at_ 1 _ rfl; have a2 := hA2.at_ 2 _ rfl; have a3 := hA2.at_ 3 _ rfl; have a4 := hA2.at_ 4 _ rfl; have a5 := hA2.at_ 5 _ rfl; have a6 := hA2.at_ 6 _ rfl; have a7 := hA2.at_ 7 _ rfl; have za := hA2.lt
  have b0 := hB2.at_ 0 _ rfl; have b1 := hB2.at_ 1 _ rfl; have b2 := hB2.at_ 2 _ rfl; have b3 := hB2.at_ 3 _ rfl; have b4 := hB2.at_ 4 _ rfl; have b5 := hB2.at_ 5 _ rfl; have b6 := hB2.at_ 6 _ rfl; have b7 := hB2.at_ 7 _ rfl; have zb := hB2.lt
  have HA2 := Lib.hid hA2; have HB2 := Lib.hid hB2
  clear hb2 hA2 hB2 hh HA1 HB1 HH2
  cases h with
  | true =>
    go_wp2_with fail
    refine (HKN.out _ HL2.out).mono ?_
    rintro e wk ⟨rfl, hbk⟩
    have HAk := Lib.hid (HL2.out.trans (hbk.mono HL2.out.size))
    clear hbk
    go_wp2_with fail
    go_returns
    exact ⟨rfl, HAk.out⟩
  | false =>
  have hpa := HHA.out (by simp)
  have hpb := HHB.out (by simp)
  have HX := Lib.hid (HPA.out hpa); have HY := Lib.hid (HPB.out hpb)
  clear hpa hpb HHA HHB HPA HPB
  go_wp2_with fail
  refine (HKN.out _ HL2.out).mono ?_
  rintro e w3 ⟨rfl, hb3⟩
  have hA3 := HA2.out.keep hb3 HA2.out.lt
  have hB3 := HB2.out.keep hb3 HB2.out.lt
  have HL3 := Lib.hid (HL2.out.trans (hb3.mono HL2.out.size))
  clear a0 a1 a2 a3 a4 a5 a6 a7 za b0 b1 b2 b3 b4 b5 b6 b7 zb
  have a0 := hA3.at_ 0 _ rfl; have a1 := hA3.at_ 1 _ rfl; have a2 := hA3.at_ 2 _ rfl; have a3 := hA3.at_ 3 _ rfl; have a4 := hA3.at_ 4 _ rfl; have a5 := hA3.at_ 5 _ rfl; have a6 := hA3.at_ 6 _ rfl; have a7 := hA3.at_ 7 _ rfl; have za := hA3.lt
  have HB3 := Lib.hid hB3
  clear hb3 hA3 hB3 HA2 HB2 HKN
  go_wp2_with fail
  refine (zcq w3 w.heap.size HL3.out.size a x (HX.out.keep HL3.out)).mono ?_
  rintro e w4 ⟨⟨cx, rfl, hc⟩, hb4⟩
  have hx4 : IsComp w4 w4.heap.size (compP x) cx := IsComp.sub (Zn _ _ _) hc
  have hB4 := HB3.out.keep hb4 HB3.out.lt
  have HL4 := Lib.hid (HL3.out.trans (hb4.mono HL3.out.size))
  have HX4 := Lib.hid hx4
  clear a0 a1 a2 a3 a4 a5 a6 a7 za
  have b0 := hB4.at_ 0 _ rfl; have b1 := hB4.at_ 1 _ rfl; have b2 := hB4.at_ 2 _ rfl; have b3 := hB4.at_ 3 _ rfl; have b4 := hB4.at_ 4 _ rfl; have b5 := hB4.at_ 5 _ rfl; have b6 := hB4.at_ 6 _ rfl; have b7 := hB4.at_ 7 _ rfl; have zb := hB4.lt
  clear hb4 hB4 HB3 hc hx4
  go_wp2_with fail
  refine (zcq _ w.heap.size (Nat.le_trans HL4.out.size (Zi w4 _).size) b y (HY.out.keep (HL4.out.trans ((Zi w4 _).mono HL4.out.size)))).mono ?_
  rintro e w5 ⟨⟨cy, rfl, hc⟩, hb5⟩
  have hb45 : Below w4.heap.size w4 w5 := (Zi w4 _).trans (hb5.mono (by simp))
  have hx5 : BC w5 w4.heap.size (ccells cx) := (BC.start w4 #[.int .u8 cx.k, .slice cx.pa cx.pl cx.pc, .string cx.key, .int .i64 cx.i, .int .i64 cx.j, .int .i64 cx.n, .int .u8 cx.v.k, .int .i64 cx.v.n, .string cx.v.s, .slice cx.v.la cx.v.ll cx.v.lc, .slice cx.v.oa cx.v.ol cx.v.oc, .string cx.s] 34).keep hb5 (by simp)
  have HL5 := Lib.hid (HL4.out.trans (hb45.mono HL4.out.size))
  have HX5 := Lib.hid (HX4.out.later_ hb45)
  have HY5 : Hid (IsComp w5 w5.heap.size (compP y) cy) := Lib.hid (IsComp.sub (Zn _ _ _) hc)
  have HBX5 := Lib.hid hx5
  clear b0 b1 b2 b3 b4 b5 b6 b7 zb
  have c0 := hx5.at_ 0 _ rfl; have c1 := hx5.at_ 1 _ rfl; have c2 := hx5.at_ 2 _ rfl; have c3 := hx5.at_ 3 _ rfl; have c4 := hx5.at_ 4 _ rfl; have c5 := hx5.at_ 5 _ rfl; have c6 := hx5.at_ 6 _ rfl; have c7 := hx5.at_ 7 _ rfl; have c8 := hx5.at_ 8 _ rfl; have c9 := hx5.at_ 9 _ rfl; have c10 := hx5.at_ 10 _ rfl; have c11 := hx5.at_ 11 _ rfl; have zc := hx5.lt
  clear hb5 hb45 hx5 hc HX4
  go_wp2_with fail
  refine (ccopy_any _ (compP x) cx (HX5.out.later_ (Zi w5 _))).mono ?_
  rintro e w6 ⟨⟨cz, rfl, hz⟩, hb6⟩
  have hb56 : Below w5.heap.size w5 w6 := (Zi w5 _).trans (hb6.mono (by simp))
  have HBX6 := Lib.hid (HBX5.out.keep hb56 HBX5.out.lt)
  have HBY6 : Hid (BC w6 w5.heap.size (ccells cy)) := Lib.hid ((BC.start w5 #[.int .u8 cy.k, .slice cy.pa cy.pl cy.pc, .string cy.key, .int .i64 cy.i, .int .i64 cy.j, .int .i64 cy.n, .int .u8 cy.v.k, .int .i64 cy.v.n, .string cy.v.s, .slice cy.v.la cy.v.ll cy.v.lc, .slice cy.v.oa cy.v.ol cy.v.oc, .string cy.s] 34).keep hb6 (by simp))
  have HL6 := Lib.hid (HL5.out.trans (hb56.mono HL5.out.size))
  have HX6 := Lib.hid (HX5.out.later_ hb56); have HY6 := Lib.hid (HY5.out.later_ hb56); have HZ6 := Lib.hid hz
  clear c0 c1 c2 c3 c4 c5 c6 c7 c8 c9 c10 c11 zc
  clear hb6 hb56 hz HBX5 HX5 HY5
  go_wp2_with fail
  have hb67 : Below w6.heap.size w6 (w6.alloc (.cells #[.int .u8 cz.k, .slice cz.pa cz.pl cz.pc, .string cz.key, .int .i64 cz.i, .int .i64 cz.j, .int .i64 cz.n, .int .u8 cz.v.k, .int .i64 cz.v.n, .string cz.v.s, .slice cz.v.la cz.v.ll cz.v.lc, .slice cz.v.oa cz.v.ol cz.v.oc, .string cz.s] 34)) := Zi w6 _
  have HBZ7 : Hid (BC (w6.alloc (.cells #[.int .u8 cz.k, .slice cz.pa cz.pl cz.pc, .string cz.key, .int .i64 cz.i, .int .i64 cz.j, .int .i64 cz.n, .int .u8 cz.v.k, .int .i64 cz.v.n, .string cz.v.s, .slice cz.v.la cz.v.ll cz.v.lc, .slice cz.v.oa cz.v.ol cz.v.oc, .string cz.s] 34)) w6.heap.size (ccells cz)) := Lib.hid (BC.start w6 #[.int .u8 cz.k, .slice cz.pa cz.pl cz.pc, .string cz.key, .int .i64 cz.i, .int .i64 cz.j, .int .i64 cz.n, .int .u8 cz.v.k, .int .i64 cz.v.n, .string cz.v.s, .slice cz.v.la cz.v.ll cz.v.lc, .slice cz.v.oa cz.v.ol cz.v.oc, .string cz.s] 34)
  obtain ⟨w7, hw7⟩ : ∃ w7, w6.alloc (.cells #[.int .u8 cz.k, .slice cz.pa cz.pl cz.pc, .string cz.key, .int .i64 cz.i, .int .i64 cz.j, .int .i64 cz.n, .int .u8 cz.v.k, .int .i64 cz.v.n, .string cz.v.s, .slice cz.v.la cz.v.ll cz.v.lc, .slice cz.v.oa cz.v.ol cz.v.oc, .string cz.s] 34) = w7 := ⟨_, rfl⟩
  rw [hw7] at hb67 HBZ7 ⊢
  have HBX7 := Lib.hid (HBX6.out.keep hb67 HBX6.out.lt)
  have HBY7 := Lib.hid (HBY6.out.keep hb67 HBY6.out.lt)
  have HL7 := Lib.hid (HL6.out.trans (hb67.mono HL6.out.size))
  have hx7 := HX6.out.later_ hb67; have hy7 := HY6.out.later_ hb67; have hz7 := HZ6.out.later_ hb67
  have hwx := (za1 HX.out).2
  obtain ⟨sd, hsd⟩ : ∃ sd, cmSound (compP x) = sd := ⟨_, rfl⟩
  obtain ⟨sm, hsm⟩ : ∃ sm, eqB (compP x) (compP y) = sm := ⟨_, rfl⟩
  have HSP : Hid (∀ W, Below w7.heap.size w7 W → W.cell? ⟨w4.heap.size, 0, none⟩ = some (.int .u8 cx.k) ∧ W.cell? ⟨w4.heap.size, 1, none⟩ = some (.slice cx.pa cx.pl cx.pc) ∧ W.cell? ⟨w4.heap.size, 2, none⟩ = some (.string cx.key) ∧ W.cell? ⟨w4.heap.size, 3, none⟩ = some (.int .i64 cx.i) ∧ W.cell? ⟨w4.heap.size, 4, none⟩ = some (.int .i64 cx.j) ∧ W.cell? ⟨w4.heap.size, 5, none⟩ = some (.int .i64 cx.n) ∧ W.cell? ⟨w4.heap.size, 6, none⟩ = some (.int .u8 cx.v.k) ∧ W.cell? ⟨w4.heap.size, 7, none⟩ = some (.int .i64 cx.v.n) ∧ W.cell? ⟨w4.heap.size, 8, none⟩ = some (.string cx.v.s) ∧ W.cell? ⟨w4.heap.size, 9, none⟩ = some (.slice cx.v.la cx.v.ll cx.v.lc) ∧ W.cell? ⟨w4.heap.size, 10, none⟩ = some (.slice cx.v.oa cx.v.ol cx.v.oc) ∧ W.cell? ⟨w4.heap.size, 11, none⟩ = some (.string cx.s) ∧ W.cell? ⟨w5.heap.size, 0, none⟩ = some (.int .u8 cy.k) ∧ W.cell? ⟨w5.heap.size, 1, none⟩ = some (.slice cy.pa cy.pl cy.pc) ∧ W.cell? ⟨w5.heap.size, 2, none⟩ = some (.string cy.key) ∧ W.cell? ⟨w5.heap.size, 3, none⟩ = some (.int .i64 cy.i) ∧ W.cell? ⟨w5.heap.size, 4, none⟩ = some (.int .i64 cy.j) ∧ W.cell? ⟨w5.heap.size, 5, none⟩ = some (.int .i64 cy.n) ∧ W.cell? ⟨w5.heap.size, 6, none⟩ = some (.int .u8 cy.v.k) ∧ W.cell? ⟨w5.heap.size, 7, none⟩ = some (.int .i64 cy.v.n) ∧ W.cell? ⟨w5.heap.size, 8, none⟩ = some (.string cy.v.s) ∧ W.cell? ⟨w5.heap.size, 9, none⟩ = some (.slice cy.v.la cy.v.ll cy.v.lc) ∧ W.cell? ⟨w5.heap.size, 10, none⟩ = some (.slice cy.v.oa cy.v.ol cy.v.oc) ∧ W.cell? ⟨w5.heap.size, 11, none⟩ = some (.string cy.s) ∧ W.cell? ⟨w6.heap.size, 0, none⟩ = some (.int .u8 cz.k) ∧ W.cell? ⟨w6.heap.size, 1, none⟩ = some (.slice cz.pa cz.pl cz.pc) ∧ W.cell? ⟨w6.heap.size, 2, none⟩ = some (.string cz.key) ∧ W.cell? ⟨w6.heap.size, 3, none⟩ = some (.int .i64 cz.i) ∧ W.cell? ⟨w6.heap.size, 4, none⟩ = some (.int .i64 cz.j) ∧ W.cell? ⟨w6.heap.size, 5, none⟩ = some (.int .i64 cz.n) ∧ W.cell? ⟨w6.heap.size, 6, none⟩ = some (.int .u8 cz.v.k) ∧ W.cell? ⟨w6.heap.size, 7, none⟩ = some (.int .i64 cz.v.n) ∧ W.cell? ⟨w6.heap.size, 8, none⟩ = some (.string cz.v.s) ∧ W.cell? ⟨w6.heap.size, 9, none⟩ = some (.slice cz.v.la cz.v.ll cz.v.lc) ∧ W.cell? ⟨w6.heap.size, 10, none⟩ = some (.slice cz.v.oa cz.v.ol cz.v.oc) ∧ W.cell? ⟨w6.heap.size, 11, none⟩ = some (.string cz.s)) := Lib.hid fun W hW => by
    have X := HBX7.out.keep hW HBX7.out.lt; have Y := HBY7.out.keep hW HBY7.out.lt; have Z := HBZ7.out.keep hW HBZ7.out.lt
    exact ⟨X.at_ 0 _ rfl, X.at_ 1 _ rfl, X.at_ 2 _ rfl, X.at_ 3 _ rfl, X.at_ 4 _ rfl, X.at_ 5 _ rfl, X.at_ 6 _ rfl, X.at_ 7 _ rfl, X.at_ 8 _ rfl, X.at_ 9 _ rfl, X.at_ 10 _ rfl, X.at_ 11 _ rfl, Y.at_ 0 _ rfl, Y.at_ 1 _ rfl, Y.at_ 2 _ rfl, Y.at_ 3 _ rfl, Y.at_ 4 _ rfl, Y.at_ 5 _ rfl, Y.at_ 6 _ rfl, Y.at_ 7 _ rfl, Y.at_ 8 _ rfl, Y.at_ 9 _ rfl, Y.at_ 10 _ rfl, Y.at_ 11 _ rfl, Z.at_ 0 _ rfl, Z.at_ 1 _ rfl, Z.at_ 2 _ rfl, Z.at_ 3 _ rfl, Z.at_ 4 _ rfl, Z.at_ 5 _ rfl, Z.at_ 6 _ rfl, Z.at_ 7 _ rfl, Z.at_ 8 _ rfl, Z.at_ 9 _ rfl, Z.at_ 10 _ rfl, Z.at_ 11 _ rfl⟩
  have HS1 : Hid (∀ W, Below w7.heap.size w7 W → Calls Tryd.prog 14 #[.agg #[.int .u8 cx.k, .slice cx.pa cx.pl cx.pc, .string cx.key, .int .i64 cx.i, .int .i64 cx.j, .int .i64 cx.n, .int .u8 cx.v.k, .int .i64 cx.v.n, .string cx.v.s, .slice cx.v.la cx.v.ll cx.v.lc, .slice cx.v.oa cx.v.ol cx.v.oc, .string cx.s]] W fun e w' => e = .returned (.bool sd) ∧ Below w7.heap.size w7 w') := Lib.hid fun W hW => by
    have := zc8 (compP x) W (HTT.out.below (HL7.out.trans (hW.mono HL7.out.size))) cx (hx7.later_ hW) hwx
    rw [hsd] at this
    exact this.mono fun e w' h => ⟨h.1, hW.trans (h.2.mono hW.size)⟩
  have HS2 : Hid (∀ W, Below w7.heap.size w7 W → Calls Tryd.prog 23 #[.agg #[.int .u8 cx.k, .slice cx.pa cx.pl cx.pc, .string cx.key, .int .i64 cx.i, .int .i64 cx.j, .int .i64 cx.n, .int .u8 cx.v.k, .int .i64 cx.v.n, .string cx.v.s, .slice cx.v.la cx.v.ll cx.v.lc, .slice cx.v.oa cx.v.ol cx.v.oc, .string cx.s]] W fun e w' => e = .returned (.bool sd) ∧ Below w7.heap.size w7 w') := Lib.hid fun W hW => by
    have := zen (compP x) W (HTT.out.below (HL7.out.trans (hW.mono HL7.out.size))) cx (hx7.later_ hW) hwx
    rw [hsd] at this
    exact this.mono fun e w' h => ⟨h.1, hW.trans (h.2.mono hW.size)⟩
  have HM1 : Hid (∀ W, Below w7.heap.size w7 W → Calls Tryd.prog 24 #[.agg #[.int .u8 cx.k, .slice cx.pa cx.pl cx.pc, .string cx.key, .int .i64 cx.i, .int .i64 cx.j, .int .i64 cx.n, .int .u8 cx.v.k, .int .i64 cx.v.n, .string cx.v.s, .slice cx.v.la cx.v.ll cx.v.lc, .slice cx.v.oa cx.v.ol cx.v.oc, .string cx.s], .agg #[.int .u8 cy.k, .slice cy.pa cy.pl cy.pc, .string cy.key, .int .i64 cy.i, .int .i64 cy.j, .int .i64 cy.n, .int .u8 cy.v.k, .int .i64 cy.v.n, .string cy.v.s, .slice cy.v.la cy.v.ll cy.v.lc, .slice cy.v.oa cy.v.ol cy.v.oc, .string cy.s]] W fun e w' => e = .returned (.bool sm) ∧ Below w7.heap.size w7 w') := Lib.hid fun W hW => by
    have := zia (compP x) (compP y) W cx cy (hx7.later_ hW) (hy7.later_ hW)
    rw [hsm] at this
    exact this.mono fun e w' h => ⟨h.1, hW.trans (h.2.mono hW.size)⟩
  have HM2 : Hid (∀ W, Below w7.heap.size w7 W → Calls Tryd.prog 25 #[.agg #[.int .u8 cx.k, .slice cx.pa cx.pl cx.pc, .string cx.key, .int .i64 cx.i, .int .i64 cx.j, .int .i64 cx.n, .int .u8 cx.v.k, .int .i64 cx.v.n, .string cx.v.s, .slice cx.v.la cx.v.ll cx.v.lc, .slice cx.v.oa cx.v.ol cx.v.oc, .string cx.s], .agg #[.int .u8 cy.k, .slice cy.pa cy.pl cy.pc, .string cy.key, .int .i64 cy.i, .int .i64 cy.j, .int .i64 cy.n, .int .u8 cy.v.k, .int .i64 cy.v.n, .string cy.v.s, .slice cy.v.la cy.v.ll cy.v.lc, .slice cy.v.oa cy.v.ol cy.v.oc, .string cy.s]] W fun e w' => e = .returned (.bool sm) ∧ Below w7.heap.size w7 w') := Lib.hid fun W hW => by
    have := ref06Same_any (compP x) (compP y) W cx cy (hx7.later_ hW) (hy7.later_ hW)
    rw [hsm] at this
    exact this.mono fun e w' h => ⟨h.1, hW.trans (h.2.mono hW.size)⟩
  have HM3 : Hid (∀ W, Below w7.heap.size w7 W → Calls Tryd.prog 25 #[.agg #[.int .u8 cx.k, .slice cx.pa cx.pl cx.pc, .string cx.key, .int .i64 cx.i, .int .i64 cx.j, .int .i64 cx.n, .int .u8 cx.v.k, .int .i64 cx.v.n, .string cx.v.s, .slice cx.v.la cx.v.ll cx.v.lc, .slice cx.v.oa cx.v.ol cx.v.oc, .string cx.s], .agg #[.int .u8 cz.k, .slice cz.pa cz.pl cz.pc, .string cz.key, .int .i64 cz.i, .int .i64 cz.j, .int .i64 cz.n, .int .u8 cz.v.k, .int .i64 cz.v.n, .string cz.v.s, .slice cz.v.la cz.v.ll cz.v.lc, .slice cz.v.oa cz.v.ol cz.v.oc, .string cz.s]] W fun e w' => e = .returned (.bool true) ∧ Below w7.heap.size w7 w') := Lib.hid fun W hW => by
    have := ref06Same_any (compP x) (compP x) W cx cz (hx7.later_ hW) (hz7.later_ hW)
    rw [Y3 rfl] at this
    exact this.mono fun e w' h => ⟨h.1, hW.trans (h.2.mono hW.size)⟩
  have HM4 : Hid (∀ W, Below w7.heap.size w7 W → Calls Tryd.prog 24 #[.agg #[.int .u8 cx.k, .slice cx.pa cx.pl cx.pc, .string cx.key, .int .i64 cx.i, .int .i64 cx.j, .int .i64 cx.n, .int .u8 cx.v.k, .int .i64 cx.v.n, .string cx.v.s, .slice cx.v.la cx.v.ll cx.v.lc, .slice cx.v.oa cx.v.ol cx.v.oc, .string cx.s], .agg #[.int .u8 cx.k, .slice cx.pa cx.pl cx.pc, .string cx.key, .int .i64 cx.i, .int .i64 cx.j, .int .i64 cx.n, .int .u8 cx.v.k, .int .i64 cx.v.n, .string cx.v.s, .slice cx.v.la cx.v.ll cx.v.lc, .slice cx.v.oa cx.v.ol cx.v.oc, .string cx.s]] W fun e w' => e = .returned (.bool true) ∧ Below w7.heap.size w7 w') := Lib.hid fun W hW => by
    have := zia (compP x) (compP x) W cx cx (hx7.later_ hW) (hx7.later_ hW)
    rw [Y3 rfl] at this
    exact this.mono fun e w' h => ⟨h.1, hW.trans (h.2.mono hW.size)⟩
  have bl0 : Below w7.heap.size w7 w7.drew := Zf w7
  have mixed : Tryd.prog.follows .mixedOrders = true := by kernel_rfl
  clear hb67 hw7 hx7 hy7 hz7 hwx hsd hsm HBX6 HBY6 HX6 HY6 HZ6 HX HY
  refine wp_region_noPanic ?_
  cases sd <;> cases sm
  all_goals (
    go_region_held_law (fun W => W.cell? ⟨w4.heap.size, 0, none⟩ = some (.int .u8 cx.k) ∧ W.cell? ⟨w4.heap.size, 1, none⟩ = some (.slice cx.pa cx.pl cx.pc) ∧ W.cell? ⟨w4.heap.size, 2, none⟩ = some (.string cx.key) ∧ W.cell? ⟨w4.heap.size, 3, none⟩ = some (.int .i64 cx.i) ∧ W.cell? ⟨w4.heap.size, 4, none⟩ = some (.int .i64 cx.j) ∧ W.cell? ⟨w4.heap.size, 5, none⟩ = some (.int .i64 cx.n) ∧ W.cell? ⟨w4.heap.size, 6, none⟩ = some (.int .u8 cx.v.k) ∧ W.cell? ⟨w4.heap.size, 7, none⟩ = some (.int .i64 cx.v.n) ∧ W.cell? ⟨w4.heap.size, 8, none⟩ = some (.string cx.v.s) ∧ W.cell? ⟨w4.heap.size, 9, none⟩ = some (.slice cx.v.la cx.v.ll cx.v.lc) ∧ W.cell? ⟨w4.heap.size, 10, none⟩ = some (.slice cx.v.oa cx.v.ol cx.v.oc) ∧ W.cell? ⟨w4.heap.size, 11, none⟩ = some (.string cx.s) ∧ W.cell? ⟨w5.heap.size, 0, none⟩ = some (.int .u8 cy.k) ∧ W.cell? ⟨w5.heap.size, 1, none⟩ = some (.slice cy.pa cy.pl cy.pc) ∧ W.cell? ⟨w5.heap.size, 2, none⟩ = some (.string cy.key) ∧ W.cell? ⟨w5.heap.size, 3, none⟩ = some (.int .i64 cy.i) ∧ W.cell? ⟨w5.heap.size, 4, none⟩ = some (.int .i64 cy.j) ∧ W.cell? ⟨w5.heap.size, 5, none⟩ = some (.int .i64 cy.n) ∧ W.cell? ⟨w5.heap.size, 6, none⟩ = some (.int .u8 cy.v.k) ∧ W.cell? ⟨w5.heap.size, 7, none⟩ = some (.int .i64 cy.v.n) ∧ W.cell? ⟨w5.heap.size, 8, none⟩ = some (.string cy.v.s) ∧ W.cell? ⟨w5.heap.size, 9, none⟩ = some (.slice cy.v.la cy.v.ll cy.v.lc) ∧ W.cell? ⟨w5.heap.size, 10, none⟩ = some (.slice cy.v.oa cy.v.ol cy.v.oc) ∧ W.cell? ⟨w5.heap.size, 11, none⟩ = some (.string cy.s) ∧ W.cell? ⟨w6.heap.size, 0, none⟩ = some (.int .u8 cz.k) ∧ W.cell? ⟨w6.heap.size, 1, none⟩ = some (.slice cz.pa cz.pl cz.pc) ∧ W.cell? ⟨w6.heap.size, 2, none⟩ = some (.string cz.key) ∧ W.cell? ⟨w6.heap.size, 3, none⟩ = some (.int .i64 cz.i) ∧ W.cell? ⟨w6.heap.size, 4, none⟩ = some (.int .i64 cz.j) ∧ W.cell? ⟨w6.heap.size, 5, none⟩ = some (.int .i64 cz.n) ∧ W.cell? ⟨w6.heap.size, 6, none⟩ = some (.int .u8 cz.v.k) ∧ W.cell? ⟨w6.heap.size, 7, none⟩ = some (.int .i64 cz.v.n) ∧ W.cell? ⟨w6.heap.size, 8, none⟩ = some (.string cz.v.s) ∧ W.cell? ⟨w6.heap.size, 9, none⟩ = some (.slice cz.v.la cz.v.ll cz.v.lc) ∧ W.cell? ⟨w6.heap.size, 10, none⟩ = some (.slice cz.v.oa cz.v.ol cz.v.oc) ∧ W.cell? ⟨w6.heap.size, 11, none⟩ = some (.string cz.s))
      ((refine HSP.out _ ?_; assumption))
      (first
        | (go_at_call 14; (with_reducible refine (HS1.out _ (by assumption)).mono ?_); rintro e wq ⟨rfl, hbq⟩)
        | (go_at_call 23; (with_reducible refine (HS2.out _ (by assumption)).mono ?_); rintro e wq ⟨rfl, hbq⟩)
        | (go_at_call 24; (with_reducible refine (HM1.out _ (by assumption)).mono ?_); rintro e wq ⟨rfl, hbq⟩)
        | (go_at_call 25; (with_reducible refine (HM2.out _ (by assumption)).mono ?_); rintro e wq ⟨rfl, hbq⟩)
        | (go_at_call 25; (with_reducible refine (HM3.out _ (by assumption)).mono ?_); rintro e wq ⟨rfl, hbq⟩)
        | (go_at_call 24; (with_reducible refine (HM4.out _ (by assumption)).mono ?_); rintro e wq ⟨rfl, hbq⟩))
    all_goals (
      refine NoPanic.normal ?_
      go_wp2_with fail
      go_returns
      exact ⟨rfl, HL7.out.trans (Below.mono (by assumption) HL7.out.size)⟩))
end Go.Proofs.YtfoahkbnheijcaaDoor
namespace Go.Proofs.YtfoahkbnheijcaaDoor
open Go.Shelf
open Go.ChangeShapes Go.WideShapes Go.ChangeAt Go.RowKit Go.Lib

theorem rowCompSoundsOwn : ownKnob Tryd.prog.godebug = none := by kernel_rfl
theorem rowCompSoundsLaidOut : laidOutB Tryd.prog = true := by kernel_rfl

/-- The settled world, the two tables as their text lays them. -/
noncomputable def rowCompSoundsWorld (os : Os) : World :=
  let w0 := World.holding Tryd.prog os ⟨#[], #[], []⟩
  let put (h : Array Obj) (g : Nat) (cs : Array Value) : Array Obj := h.modify g fun
    | .cells _ t frozen => .cells cs t frozen
    | o => o
  let h1 := put w0.heap 0 (Lib.firstTab.map fun z => Value.int .u8 z).toArray
  let h2 := put h1 1 ((List.range 16).flatMap fun i => [Value.int .u8 (Lib.accLo i), Value.int .u8 (Lib.accHi i)]).toArray
  { w0 with heap := h2 }
theorem rowCompSoundsAccept : Rows.laid_unicode_utf8_acceptRanges (H := Unit) = Lib.acceptData := by kernel_rfl
theorem rowCompSoundsLaid : Rows.compSoundsRow.laid = [("unicode/utf8.acceptRanges", Lib.acceptData), ("unicode/utf8.first", Lib.firstData)] := by
  show [("unicode/utf8.acceptRanges", Rows.laid_unicode_utf8_acceptRanges), ("unicode/utf8.first", Go.Pinned.utf8First)] = _
  rw [Pinned.utf8First_eq, rowCompSoundsAccept]
theorem rowCompSoundsLaidMet (os : Os) (args : Array Value) : laidMet Tryd.prog Rows.compSoundsRow.laid ((rowCompSoundsWorld os).forCall (fun _ _ => 0) ⟨#[], args, []⟩).memory := by
  rw [rowCompSoundsLaid]
  exact (LaidIn.of_run (l := [("unicode/utf8.acceptRanges", Lib.acceptData), ("unicode/utf8.first", Lib.firstData)]) [0, 1] 8 (by kernel_rfl) (by kernel_rfl) (by kernel_rfl) (by kernel_rfl)).met

theorem rowCompSoundsWitness (os : Os) {H : Type} (enc : TypeId × Value → H) :
    (OpenSpec.ofChange Rows.compSoundsSpec).preRow enc Tryd.prog Tryd.f6 Rows.compSoundsRow.domain false Rows.compSoundsRow.laid ((rowCompSoundsWorld os).forCall (fun _ _ => 0) ⟨#[], #[.agg #[.int .u8 0, .slice none 0 0, .string { data := #[] }, .int .i64 0, .int .i64 0, .int .i64 0, .string { data := #[] }, .slice none 0 0], .agg #[.int .u8 0, .slice none 0 0, .string { data := #[] }, .int .i64 0, .int .i64 0, .int .i64 0, .string { data := #[] }, .slice none 0 0]], []⟩).memory #[.agg #[.int .u8 0, .slice none 0 0, .string { data := #[] }, .int .i64 0, .int .i64 0, .int .i64 0, .string { data := #[] }, .slice none 0 0], .agg #[.int .u8 0, .slice none 0 0, .string { data := #[] }, .int .i64 0, .int .i64 0, .int .i64 0, .string { data := #[] }, .slice none 0 0]] := by
  have hw : (DataW.whole enc Tryd.prog ((rowCompSoundsWorld os).forCall (fun _ _ => 0) ⟨#[], #[.agg #[.int .u8 0, .slice none 0 0, .string { data := #[] }, .int .i64 0, .int .i64 0, .int .i64 0, .string { data := #[] }, .slice none 0 0], .agg #[.int .u8 0, .slice none 0 0, .string { data := #[] }, .int .i64 0, .int .i64 0, .int .i64 0, .string { data := #[] }, .slice none 0 0]], []⟩).memory Tryd.f6.params.toList (OpenSpec.ofChange Rows.compSoundsSpec).vars false #[Value.agg #[.int .u8 0, .slice none 0 0, .string { data := #[] }, .int .i64 0, .int .i64 0, .int .i64 0, .string { data := #[] }, .slice none 0 0], .agg #[.int .u8 0, .slice none 0 0, .string { data := #[] }, .int .i64 0, .int .i64 0, .int .i64 0, .string { data := #[] }, .slice none 0 0]].toList 8).map (fun x => (x.1, x.2.1)) =
      some ([.agg [.lit (.int .u8 0), .nil, .lit (.string []), .lit (.int .i64 0), .lit (.int .i64 0), .lit (.int .i64 0), .lit (.string []), .nil], .agg [.lit (.int .u8 0), .nil, .lit (.string []), .lit (.int .i64 0), .lit (.int .i64 0), .lit (.int .i64 0), .lit (.string []), .nil]], []) := by kernel_rfl
  obtain ⟨⟨x1, x2, x3⟩, hx, hx1⟩ := Option.map_eq_some_iff.1 hw
  simp only [Prod.mk.injEq] at hx1
  obtain ⟨rfl, rfl⟩ := hx1
  exact OpenSpec.preRow_of_cond 8 hx (by kernel_rfl) (fun k hk => by cases hk) (by kernel_rfl) (rowCompSoundsLaidMet os _)

set_option maxRecDepth 100000 in
theorem rowSdsBare {H : Type} {enc : TypeId × Value → H} {W : World} {base : Nat} {v1 : Value} {d1 : DataW H} {p1 : List MemPlace} (hval : Value.okWide Tryd.prog W .any base 25 v1) (h1 : DataW.Trod enc Tryd.prog W 0 (fun _ => true) true 25 v1 d1 p1) (hz : ∀ n ∈ d1.weights Tryd.prog 25, n ≤ reachBytes) :
    ∃ (c : BA) (b : Ba), v1 = .agg (bacellsZ c).toArray ∧ IsToks W W.heap.size b.v c.va c.vl c.vc ∧ (c.pl ≤ 40 → IsBare W W.heap.size b c) ∧ c.s.size ≤ 140737488351232 := by
  obtain ⟨cs, rfl, _⟩ := okWide_struct Tryd.underlying25 hval
  obtain ⟨fuel, hf⟩ := h1
  obtain ⟨c, b, hcs, h2, h3, h4, _⟩ := zc0 hf hz
  refine ⟨c, b, ?_, h2, h3, h4⟩
  have h5 : cs.toList = bacellsZ c := by simpa [Value.cells] using hcs
  rw [← h5]

set_option maxRecDepth 100000 in
set_option maxHeartbeats 2000000 in
theorem rowCompSoundsLifted (os : Os) (started : os.Started) (H : Type) (enc : TypeId × Value → H) (F : Stop.Interp) :
    ReturnsInHanded {} Tryd.checked os 6 .any ((OpenSpec.ofChange Rows.compSoundsSpec).preRow enc Tryd.prog Tryd.f6 Rows.compSoundsRow.domain false Rows.compSoundsRow.laid) (((OpenSpec.ofChange Rows.compSoundsSpec).at F).post enc Tryd.prog Tryd.f6 false true false false) := by
  refine returnsInHanded_of_row (C := Tryd.checked) (s := OpenSpec.ofChange Rows.compSoundsSpec) rowCompSoundsOwn started (by kernel_rfl) Tryd.func6
    (witness_row_atRef (enc := enc) (C := Tryd.checked) false (rowCompSoundsWorld os) #[.agg #[.int .u8 0, .slice none 0 0, .string { data := #[] }, .int .i64 0, .int .i64 0, .int .i64 0, .string { data := #[] }, .slice none 0 0], .agg #[.int .u8 0, .slice none 0 0, .string { data := #[] }, .int .i64 0, .int .i64 0, .int .i64 0, .string { data := #[] }, .slice none 0 0]] rfl (by kernel_rfl) (by kernel_rfl) (by kernel_rfl) (rowCompSoundsWitness os enc)) ?_
  intro W base args ds gs before hval0 hW _ _ hsz hL _ _
  have hval : ∀ (j : Nat) t v, Tryd.f6.params[j]? = some t → args[j]? = some v → Value.okWide Tryd.prog W .any base t v := hval0
  have hW' := hW
  obtain ⟨p, q, hA0, hV0, rfl, _, _⟩ := hW
  have hA : DataW.TrodAll enc Tryd.prog W 0 (fun _ => true) true Tryd.f6.params.toList args.toList ds p := hA0
  rw [Tryd.params6] at hA hval
  obtain ⟨v0, v1, d0, d1, p0, p1, rfl, rfl, rfl, h0, h1⟩ := trodAll_two hA
  obtain ⟨rfl, rfl⟩ := trodVars_none hV0
  have k0 := h0
  have lt0 : ∀ x ∈ p0, x.block < W.heap.size := by obtain ⟨m, hm⟩ := k0; exact DataW.trod_lt m _ _ _ hm
  have k1 := h1
  have lt1 : ∀ x ∈ p1, x.block < W.heap.size := by obtain ⟨m, hm⟩ := k1; exact DataW.trod_lt m _ _ _ hm
  have hz0 : ∀ n ∈ d0.weights Tryd.prog 25, n ≤ reachBytes := fun n hn => by
    have := List.all_eq_true.1 hsz _ (DataW.weights_mem_each (j := 0) (t := 25) (d := d0) rfl rfl n hn)
    simpa using this
  obtain ⟨b0, x0, rfl, hT0, hB0, _⟩ := rowSdsBare (hval 0 25 v0 rfl rfl) h0 hz0
  have hz1 : ∀ n ∈ d1.weights Tryd.prog 25, n ≤ reachBytes := fun n hn => by
    have := List.all_eq_true.1 hsz _ (DataW.weights_mem_each (j := 1) (t := 25) (d := d1) rfl rfl n hn)
    simpa using this
  obtain ⟨b1, x1, rfl, hT1, hB1, _⟩ := rowSdsBare (hval 1 25 v1 rfl rfl) h1 hz1
  clear hA0 hV0 hval0
  have htab : Tabs W :=
    utf8Tabs_of_readsT (U8Types.of196 Tryd.lays196) ⟨by kernel_rfl, by kernel_rfl, by kernel_rfl, by kernel_rfl, by kernel_rfl, by kernel_rfl, by kernel_rfl⟩ (by rw [← Pinned.utf8First_eq]; exact Lib.laidMet.reads hL (.tail _ (.head _))) (Lib.laidMet.reads hL (.head _))
  refine (compSounds_any W htab b0 x0 hT0 hB0 b1 x1 hT1 hB1).mono fun e W' ⟨he, bel⟩ => ?_
  subst he
  exact ⟨_, rfl, _, _, _, [], _, [], hW', trodAll_mk1 (shut_bool Tryd.underlying4 _), trodAll_cons_mk (Below.trod rowCompSoundsLaidOut (by kernel_rfl) (of_decide_eq_true (by kernel_rfl)) k0 bel lt0) (trodAll_cons_mk (Below.trod rowCompSoundsLaidOut (by kernel_rfl) (of_decide_eq_true (by kernel_rfl)) k1 bel lt1) trodAll_mk0), rfl, bel.frame _, fun h => by cases h⟩

theorem rowCompSoundsRowHolds : Rows.CompSoundsSaid :=
  OpenClaim.holds_of_cond 6 Tryd.f6 rfl rfl rfl rfl rfl rfl rfl ⟨rfl, rfl, rfl, rfl, rfl⟩ rfl rfl rfl rfl rfl (by kernel_rfl) Tryd.func6 (by kernel_rfl)
    (of_decide_eq_true (by kernel_rfl)) (by unfold Func.isWrapper; rw [if_neg (of_decide_eq_false (by kernel_rfl))]; exact ⟨rfl, rfl⟩)
    (fun os started H enc _ F0 => by rw [OpenClaim.pre_eq_preRow]; exact rowCompSoundsLifted os started H enc F0)

/-- THE STATEMENT. -/
theorem compSounds_holds : Rows.CompSoundsCardSaid :=
  Claim7.holds_tied_plain_at .later [] [.data, .pinned] true _ false
    rowCompSoundsRowHolds (fun _ h => by cases h) (by kernel_rfl) (fun _ h => by cases h) compSounds_row_tie rfl ⟨rfl, rfl⟩ (by kernel_rfl) rfl
    (fun f fn hf hfn => by
      obtain rfl : f = 6 := Option.some.inj ((show Tryd.prog.funcNamed "conciliator/conciliatorlaw06.CompSounds" = some 6 by kernel_rfl).symm.trans hf) |>.symm
      obtain rfl : fn = Tryd.f6 := (Option.some.inj (Tryd.func6.symm.trans hfn)).symm
      exact ⟨by kernel_rfl, fun j t ht => by
        rw [Tryd.params6] at ht
        rcases j with _ | _ | j
        · obtain rfl : t = 25 := by simpa using ht.symm
          exact (show Tryd.prog.wantsStandIn 25 = false by kernel_rfl)
        · obtain rfl : t = 25 := by simpa using ht.symm
          exact (show Tryd.prog.wantsStandIn 25 = false by kernel_rfl)
        · simp at ht⟩)
    (by kernel_rfl)
#print axioms compSounds_holds

end Go.Proofs.YtfoahkbnheijcaaDoor
