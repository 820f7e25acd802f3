/-
  CodeValues: for all two slices of pieces the law returns true and they read as they did. Conditions: Go's two UTF-8 tables are what the program's text lays (the card ties them).
-/
import Derived.Test.YtcfbnmobfcabiaaDoorVal12
import Derived.Test.YtcfbnmobfcabiaaDoorRows
import Derived.Test.YtcfbnmobfcabiaaDoorCards
import Derived.Test.YtcfbnmobfcabiaaDoorTie
import Derived.PinnedBridge
import Derived.Lib.LaidIn
import Derived.Lib.LaidU8T
import Derived.Deep.DeepHandedRow
import Derived.Deep.DeepWitnessRowRef
import Derived.ProofKit
import Derived.SizedLaws
import Derived.SevenTiedAt
namespace Go.Proofs.YtcfbnmobfcabiaaDoor
open Go.RowKit

noncomputable def enSound (e : En) : Bool :=
  if e.k = 1 then lightB e.v && (e.op.length == 0)
  else if e.k = 2 then eqv e.v V.none && decide (e.op.length ≤ 200) && !e.op.any (fun x => !cmSound x)
  else if e.k = 3 then eqv e.v V.none && (e.op.length == 0)
  else false

/-- Weights that do not overflow. -/
def En.small (e : En) : Prop := e.v.weight ≤ 4611686018427387904 ∧ ∀ x ∈ e.op, x.v.weight ≤ 4611686018427387904

structure Boxed1E (w W : World) (c : EC) : Prop where
  at_ : EntryAt W w.heap.size 0 c
  below : Below w.heap.size w W
  size : w.heap.size + 1 ≤ W.heap.size
theorem Boxed1E.step {w W W' : World} {c : EC} (h : Boxed1E w W c) (hb : Below W.heap.size W W') : Boxed1E w W' c :=
  ⟨h.at_.keep hb (by have := h.size; omega), h.below.trans (hb.mono (by have := h.size; omega)), by have := h.size; have := hb.size; omega⟩
theorem Boxed1E.next {w W W1 W2 : World} {B : Nat} {c : EC} (h : Boxed1E w W c) (hb : Below B W1 W2) (hW : Below W.heap.size W W1) (hB : B = W1.heap.size) : Boxed1E w W2 c := by
  subst hB; exact (h.step hW).step hb
theorem boxed1E_start (w : World) (c : EC) (t : TypeId) : Boxed1E w (w.alloc (.cells #[.int .u8 c.k, .int .u32 c.src, .int .u32 c.seq, .int .u8 c.v.k, .int .i64 c.v.n, .string c.v.s, .slice c.v.la c.v.ll c.v.lc, .slice c.v.oa c.v.ol c.v.oc, .slice c.oa c.ol c.oc] t)) c :=
  ⟨⟨cells_new _ _ _ _ _ rfl, cells_new _ _ _ _ _ rfl, cells_new _ _ _ _ _ rfl, ⟨cells_new _ _ _ _ _ rfl, cells_new _ _ _ _ _ rfl, cells_new _ _ _ _ _ rfl, cells_new _ _ _ _ _ rfl, cells_new _ _ _ _ _ rfl⟩, cells_new _ _ _ _ _ rfl⟩, (Below.refl _ _).alloc (Nat.le_refl _) _, by simp⟩

set_option maxHeartbeats 4000000 in
set_option maxRecDepth 100000 in
theorem enSound_any (x : En) (w : World) (hT : Tabs w) (c : EC) (hx : IsEntry w w.heap.size x c) (hs : x.small) :
    Calls Tryd.prog 30 #[.agg #[.int .u8 c.k, .int .u32 c.src, .int .u32 c.seq, .int .u8 c.v.k, .int .i64 c.v.n, .string c.v.s, .slice c.v.la c.v.ll c.v.lc, .slice c.v.oa c.v.ol c.v.oc, .slice c.oa c.ol c.oc]] w fun e w' => e = .returned (.bool (enSound x)) ∧ Below w.heap.size w w' := by
  cases hx with
  | mk c v l hbd hv ho =>
  obtain ⟨hs1, hs2⟩ := hs
  dsimp only at hs1 hs2
  obtain ⟨vn, hvn⟩ : ∃ vn, eqv v V.none = vn := ⟨_, rfl⟩
  obtain ⟨li, hli⟩ : ∃ li, lightB v = li := ⟨_, rfl⟩
  obtain ⟨al, hal⟩ : ∃ al, l.any (fun x => !cmSound x) = al := ⟨_, rfl⟩
  have HLn := Lib.hid ho.len
  have k1 := ho.few; have k2 := ho.max; have k3 := ho.cap
  have hR2 : enSound ⟨c.k, c.src, c.seq, v, l⟩ = (if c.k = 1 then li && (c.ol == 0) else if c.k = 2 then vn && decide (c.ol ≤ 200) && !al else if c.k = 3 then vn && (c.ol == 0) else false) := by
    rw [enSound, hvn, hli, hal, ← HLn.out]
  have HR := Lib.hid hR2
  have HVN : Hid (Behind w 60 #[.agg #[.int .u8 c.v.k, .int .i64 c.v.n, .string c.v.s, .slice c.v.la c.v.ll c.v.lc, .slice c.v.oa c.v.ol c.v.oc], .agg #[.int .u8 0, .int .i64 0, .string { data := #[] }, .slice none 0 0, .slice none 0 0]] (.bool vn)) := fun W hW => by rw [← hvn]; exact valSame_any v V.none W c.v VC.none (hv.later_ hW) (isVal_none _ _)
  have HLI : Hid (Behind w 39 #[.agg #[.int .u8 c.v.k, .int .i64 c.v.n, .string c.v.s, .slice c.v.la c.v.ll c.v.lc, .slice c.v.oa c.v.ol c.v.oc]] (.bool li)) := fun W hW => by rw [← hli]; exact light_any v W (hT.below hW) c.v (hv.later_ hW) hs1
  have HCO : Hid (Behind w 61 #[.slice c.oa c.ol c.oc, .func (.func 62) #[] #[]] (.bool al)) := fun W hW => by
    rw [← hal]
    exact containsComp_any l W c.oa c.ol c.oc (ho.later_ hW) (fun x => !cmSound x) 62 (enters_of Tryd.func62 (by kernel_rfl) rfl) (fun x d W' hx hW' hd => compBad_any x W' (hT.below (hW.trans (hW'.mono hW.size))) d hd (hs2 x hx))
  have bx := boxed1E_start w c 31
  clear hvn hli hR2 hv hbd
  by_cases e1 : c.k = 1
  · have f1 : (c.k == 1) = true := by simp [e1]
    have hR3 : enSound ⟨c.k, c.src, c.seq, v, l⟩ = (li && (c.ol == 0)) := by rw [HR.out, if_pos e1]
    have HR := Lib.hid hR3
    clear e1 hR3 hT hs2 ho hal
    go_enter Tryd.func30, Tryd.ntmps30
    cases li with
    | false =>
      go_wp2_with (first | (go_at_call 60; (with_reducible refine (Behind.at_ (HVN.out) ?_).mono ?_); (focus (have := bx.below; have := bx.size; go_grown)); rintro e w1 ⟨rfl, hb1⟩; replace bx := bx.next hb1 (by go_grown) rfl; have zs : w.heap.size < w1.heap.size := bx.size; have z0 := bx.at_.c0; have y0 := bx.at_.c3.c0; have y1 := bx.at_.c3.c1; have y2 := bx.at_.c3.c2; have y3 := bx.at_.c3.c3; have y4 := bx.at_.c3.c4; have z8 := bx.at_.c8) | (go_at_call 39; (with_reducible refine (Behind.at_ (HLI.out) ?_).mono ?_); (focus (have := bx.below; have := bx.size; go_grown)); rintro e w1 ⟨rfl, hb1⟩; replace bx := bx.next hb1 (by go_grown) rfl; have zs : w.heap.size < w1.heap.size := bx.size; have z0 := bx.at_.c0; have y0 := bx.at_.c3.c0; have y1 := bx.at_.c3.c1; have y2 := bx.at_.c3.c2; have y3 := bx.at_.c3.c3; have y4 := bx.at_.c3.c4; have z8 := bx.at_.c8)); go_ret; exact ⟨ret_bool (by first | (rw [HR.out]; done) | (rw [HR.out]; simp [*]; done) | (rw [HR.out]; simp [*]; try omega)), by have := bx.below; have := bx.size; go_grown⟩
    | true =>
      by_cases hn : c.ol = 0
      · have f2 : ((c.ol : Int) == 0) = true := by simp [hn]
        have f4 : (c.ol == 0) = true := by simp [hn]
        clear hn
        go_wp2_with (first | (go_at_call 60; (with_reducible refine (Behind.at_ (HVN.out) ?_).mono ?_); (focus (have := bx.below; have := bx.size; go_grown)); rintro e w1 ⟨rfl, hb1⟩; replace bx := bx.next hb1 (by go_grown) rfl; have zs : w.heap.size < w1.heap.size := bx.size; have z0 := bx.at_.c0; have y0 := bx.at_.c3.c0; have y1 := bx.at_.c3.c1; have y2 := bx.at_.c3.c2; have y3 := bx.at_.c3.c3; have y4 := bx.at_.c3.c4; have z8 := bx.at_.c8) | (go_at_call 39; (with_reducible refine (Behind.at_ (HLI.out) ?_).mono ?_); (focus (have := bx.below; have := bx.size; go_grown)); rintro e w1 ⟨rfl, hb1⟩; replace bx := bx.next hb1 (by go_grown) rfl; have zs : w.heap.size < w1.heap.size := bx.size; have z0 := bx.at_.c0; have y0 := bx.at_.c3.c0; have y1 := bx.at_.c3.c1; have y2 := bx.at_.c3.c2; have y3 := bx.at_.c3.c3; have y4 := bx.at_.c3.c4; have z8 := bx.at_.c8)); go_ret; exact ⟨ret_bool (by first | (rw [HR.out]; done) | (rw [HR.out]; simp [*]; done) | (rw [HR.out]; simp [*]; try omega)), by have := bx.below; have := bx.size; go_grown⟩
      · have f2 : ((c.ol : Int) == 0) = false := by simp [hn]
        have f4 : (c.ol == 0) = false := by simp [hn]
        clear hn
        go_wp2_with (first | (go_at_call 60; (with_reducible refine (Behind.at_ (HVN.out) ?_).mono ?_); (focus (have := bx.below; have := bx.size; go_grown)); rintro e w1 ⟨rfl, hb1⟩; replace bx := bx.next hb1 (by go_grown) rfl; have zs : w.heap.size < w1.heap.size := bx.size; have z0 := bx.at_.c0; have y0 := bx.at_.c3.c0; have y1 := bx.at_.c3.c1; have y2 := bx.at_.c3.c2; have y3 := bx.at_.c3.c3; have y4 := bx.at_.c3.c4; have z8 := bx.at_.c8) | (go_at_call 39; (with_reducible refine (Behind.at_ (HLI.out) ?_).mono ?_); (focus (have := bx.below; have := bx.size; go_grown)); rintro e w1 ⟨rfl, hb1⟩; replace bx := bx.next hb1 (by go_grown) rfl; have zs : w.heap.size < w1.heap.size := bx.size; have z0 := bx.at_.c0; have y0 := bx.at_.c3.c0; have y1 := bx.at_.c3.c1; have y2 := bx.at_.c3.c2; have y3 := bx.at_.c3.c3; have y4 := bx.at_.c3.c4; have z8 := bx.at_.c8)); go_ret; exact ⟨ret_bool (by first | (rw [HR.out]; done) | (rw [HR.out]; simp [*]; done) | (rw [HR.out]; simp [*]; try omega)), by have := bx.below; have := bx.size; go_grown⟩
  have f1 : (c.k == 1) = false := by simp [e1]
  by_cases e2 : c.k = 2
  · have f2 : (c.k == 2) = true := by simp [e2]
    have hR3 : enSound ⟨c.k, c.src, c.seq, v, l⟩ = (vn && decide (c.ol ≤ 200) && !al) := by rw [HR.out, if_neg e1, if_pos e2]
    have HR := Lib.hid hR3
    clear e1 e2 hR3
    clear hT hs2 ho hal
    go_enter Tryd.func30, Tryd.ntmps30
    cases vn with
    | false => go_wp2_with (go_at_call 60; (with_reducible refine (Behind.at_ (HVN.out) ?_).mono ?_); (focus (have := bx.below; have := bx.size; go_grown)); rintro e w1 ⟨rfl, hb1⟩; replace bx := bx.next hb1 (by go_grown) rfl; have zs : w.heap.size < w1.heap.size := bx.size; have z0 := bx.at_.c0; have y0 := bx.at_.c3.c0; have y1 := bx.at_.c3.c1; have y2 := bx.at_.c3.c2; have y3 := bx.at_.c3.c3; have y4 := bx.at_.c3.c4; have z8 := bx.at_.c8); go_ret; exact ⟨ret_bool (by first | (rw [HR.out]; done) | (rw [HR.out]; simp [*]; done) | (rw [HR.out]; simp [*]; try omega)), by have := bx.below; have := bx.size; go_grown⟩
    | true =>
      by_cases hn : c.ol ≤ 200
      case neg =>
        have f3 : ((c.ol : Int) ≤ 200) = False := by simp; omega
        go_wp2_with (go_at_call 60; (with_reducible refine (Behind.at_ (HVN.out) ?_).mono ?_); (focus (have := bx.below; have := bx.size; go_grown)); rintro e w1 ⟨rfl, hb1⟩; replace bx := bx.next hb1 (by go_grown) rfl; have zs : w.heap.size < w1.heap.size := bx.size; have z0 := bx.at_.c0; have y0 := bx.at_.c3.c0; have y1 := bx.at_.c3.c1; have y2 := bx.at_.c3.c2; have y3 := bx.at_.c3.c3; have y4 := bx.at_.c3.c4; have z8 := bx.at_.c8); go_ret; exact ⟨ret_bool (by first | (rw [HR.out]; done) | (rw [HR.out]; simp [*]; done) | (rw [HR.out]; simp [*]; try omega)), by have := bx.below; have := bx.size; go_grown⟩
      have f3 : ((c.ol : Int) ≤ 200) = True := by simp; omega
      go_wp2_with (first | (go_at_call 60; (with_reducible refine (Behind.at_ (HVN.out) ?_).mono ?_); (focus (have := bx.below; have := bx.size; go_grown)); rintro e w1 ⟨rfl, hb1⟩; replace bx := bx.next hb1 (by go_grown) rfl; have zs : w.heap.size < w1.heap.size := bx.size; have z0 := bx.at_.c0; have y0 := bx.at_.c3.c0; have y1 := bx.at_.c3.c1; have y2 := bx.at_.c3.c2; have y3 := bx.at_.c3.c3; have y4 := bx.at_.c3.c4; have z8 := bx.at_.c8) | (go_at_call 61; (with_reducible refine (Behind.at_ (HCO.out) ?_).mono ?_); (focus (have := bx.below; have := bx.size; go_grown)); rintro e w1 ⟨rfl, hb1⟩; replace bx := bx.next hb1 (by go_grown) rfl; have zs : w.heap.size < w1.heap.size := bx.size; have z0 := bx.at_.c0; have y0 := bx.at_.c3.c0; have y1 := bx.at_.c3.c1; have y2 := bx.at_.c3.c2; have y3 := bx.at_.c3.c3; have y4 := bx.at_.c3.c4; have z8 := bx.at_.c8))
      go_ret; exact ⟨ret_bool (by first | (rw [HR.out]; done) | (rw [HR.out]; simp [*]; done) | (rw [HR.out]; simp [*]; try omega)), by have := bx.below; have := bx.size; go_grown⟩
  have f2 : (c.k == 2) = false := by simp [e2]
  by_cases e3 : c.k = 3
  · have f3 : (c.k == 3) = true := by simp [e3]
    have hR3 : enSound ⟨c.k, c.src, c.seq, v, l⟩ = (vn && (c.ol == 0)) := by rw [HR.out, if_neg e1, if_neg e2, if_pos e3]
    have HR := Lib.hid hR3
    clear e1 e2 e3 hR3 hT hs2 ho hal
    go_enter Tryd.func30, Tryd.ntmps30
    cases vn with
    | false => go_wp2_with (go_at_call 60; (with_reducible refine (Behind.at_ (HVN.out) ?_).mono ?_); (focus (have := bx.below; have := bx.size; go_grown)); rintro e w1 ⟨rfl, hb1⟩; replace bx := bx.next hb1 (by go_grown) rfl; have zs : w.heap.size < w1.heap.size := bx.size; have z0 := bx.at_.c0; have y0 := bx.at_.c3.c0; have y1 := bx.at_.c3.c1; have y2 := bx.at_.c3.c2; have y3 := bx.at_.c3.c3; have y4 := bx.at_.c3.c4; have z8 := bx.at_.c8); go_ret; exact ⟨ret_bool (by first | (rw [HR.out]; done) | (rw [HR.out]; simp [*]; done) | (rw [HR.out]; simp [*]; try omega)), by have := bx.below; have := bx.size; go_grown⟩
    | true =>
      by_cases hn : c.ol = 0
      · have f2 : ((c.ol : Int) == 0) = true := by simp [hn]
        have f4 : (c.ol == 0) = true := by simp [hn]
        clear hn
        go_wp2_with (go_at_call 60; (with_reducible refine (Behind.at_ (HVN.out) ?_).mono ?_); (focus (have := bx.below; have := bx.size; go_grown)); rintro e w1 ⟨rfl, hb1⟩; replace bx := bx.next hb1 (by go_grown) rfl; have zs : w.heap.size < w1.heap.size := bx.size; have z0 := bx.at_.c0; have y0 := bx.at_.c3.c0; have y1 := bx.at_.c3.c1; have y2 := bx.at_.c3.c2; have y3 := bx.at_.c3.c3; have y4 := bx.at_.c3.c4; have z8 := bx.at_.c8); go_ret; exact ⟨ret_bool (by first | (rw [HR.out]; done) | (rw [HR.out]; simp [*]; done) | (rw [HR.out]; simp [*]; try omega)), by have := bx.below; have := bx.size; go_grown⟩
      · have f2 : ((c.ol : Int) == 0) = false := by simp [hn]
        have f4 : (c.ol == 0) = false := by simp [hn]
        clear hn
        go_wp2_with (go_at_call 60; (with_reducible refine (Behind.at_ (HVN.out) ?_).mono ?_); (focus (have := bx.below; have := bx.size; go_grown)); rintro e w1 ⟨rfl, hb1⟩; replace bx := bx.next hb1 (by go_grown) rfl; have zs : w.heap.size < w1.heap.size := bx.size; have z0 := bx.at_.c0; have y0 := bx.at_.c3.c0; have y1 := bx.at_.c3.c1; have y2 := bx.at_.c3.c2; have y3 := bx.at_.c3.c3; have y4 := bx.at_.c3.c4; have z8 := bx.at_.c8); go_ret; exact ⟨ret_bool (by first | (rw [HR.out]; done) | (rw [HR.out]; simp [*]; done) | (rw [HR.out]; simp [*]; try omega)), by have := bx.below; have := bx.size; go_grown⟩
  have f3 : (c.k == 3) = false := by simp [e3]
  have hR3 : enSound ⟨c.k, c.src, c.seq, v, l⟩ = false := by rw [HR.out, if_neg e1, if_neg e2, if_neg e3]
  have HR := Lib.hid hR3
  clear e1 e2 e3 hR3 hT hs2 ho hal
  go_enter Tryd.func30, Tryd.ntmps30
  go_wp2_with (go_at_call 60; (with_reducible refine (Behind.at_ (HVN.out) ?_).mono ?_); (focus (have := bx.below; have := bx.size; go_grown)); rintro e w1 ⟨rfl, hb1⟩; replace bx := bx.next hb1 (by go_grown) rfl; have zs : w.heap.size < w1.heap.size := bx.size; have z0 := bx.at_.c0; have y0 := bx.at_.c3.c0; have y1 := bx.at_.c3.c1; have y2 := bx.at_.c3.c2; have y3 := bx.at_.c3.c3; have y4 := bx.at_.c3.c4; have z8 := bx.at_.c8); go_ret; exact ⟨ret_bool (by first | (rw [HR.out]; done) | (rw [HR.out]; simp [*]; done) | (rw [HR.out]; simp [*]; try omega)), by have := bx.below; have := bx.size; go_grown⟩

set_option maxHeartbeats 4000000 in
set_option maxRecDepth 100000 in
theorem refEnSound_any (x : En) (w : World) (hT : Tabs w) (c : EC) (hx : IsEntry w w.heap.size x c) (hs : x.small) :
    Calls Tryd.prog 14 #[.agg #[.int .u8 c.k, .int .u32 c.src, .int .u32 c.seq, .int .u8 c.v.k, .int .i64 c.v.n, .string c.v.s, .slice c.v.la c.v.ll c.v.lc, .slice c.v.oa c.v.ol c.v.oc, .slice c.oa c.ol c.oc]] w fun e w' => e = .returned (.bool (enSound x)) ∧ Below w.heap.size w w' := by
  cases hx with
  | mk c v l hbd hv ho =>
  obtain ⟨hs1, hs2⟩ := hs
  dsimp only at hs1 hs2
  obtain ⟨vn, hvn⟩ : ∃ vn, eqv v V.none = vn := ⟨_, rfl⟩
  obtain ⟨li, hli⟩ : ∃ li, lightB v = li := ⟨_, rfl⟩
  obtain ⟨al, hal⟩ : ∃ al, l.any (fun x => !cmSound x) = al := ⟨_, rfl⟩
  have HLn := Lib.hid ho.len
  have k1 := ho.few; have k2 := ho.max; have k3 := ho.cap
  have hR2 : enSound ⟨c.k, c.src, c.seq, v, l⟩ = (if c.k = 1 then li && (c.ol == 0) else if c.k = 2 then vn && decide (c.ol ≤ 200) && !al else if c.k = 3 then vn && (c.ol == 0) else false) := by
    rw [enSound, hvn, hli, hal, ← HLn.out]
  have HR := Lib.hid hR2
  have HVN : Hid (Behind w 12 #[.agg #[.int .u8 c.v.k, .int .i64 c.v.n, .string c.v.s, .slice c.v.la c.v.ll c.v.lc, .slice c.v.oa c.v.ol c.v.oc], .agg #[.int .u8 0, .int .i64 0, .string { data := #[] }, .slice none 0 0, .slice none 0 0]] (.bool vn)) := fun W hW => by rw [← hvn]; exact refSame_any v V.none W c.v VC.none (hv.later_ hW) (isVal_none _ _)
  have HLI : Hid (Behind w 37 #[.agg #[.int .u8 c.v.k, .int .i64 c.v.n, .string c.v.s, .slice c.v.la c.v.ll c.v.lc, .slice c.v.oa c.v.ol c.v.oc]] (.bool li)) := fun W hW => by rw [← hli]; exact refLight_any v W (hT.below hW) c.v (hv.later_ hW) hs1
  have bx := boxed1E_start w c 31
  clear hvn hli hR2 hv hbd
  by_cases e1 : c.k = 1
  · have f1 : (c.k == 1) = true := by simp [e1]
    have hR3 : enSound ⟨c.k, c.src, c.seq, v, l⟩ = (li && (c.ol == 0)) := by rw [HR.out, if_pos e1]
    have HR := Lib.hid hR3
    clear e1 hR3 hT hs2 ho hal
    go_enter Tryd.func14, Tryd.ntmps14
    cases li with
    | false =>
      go_wp2_with (first | (go_at_call 12; (with_reducible refine (Behind.at_ (HVN.out) ?_).mono ?_); (focus (have := bx.below; have := bx.size; go_grown)); rintro e w1 ⟨rfl, hb1⟩; replace bx := bx.next hb1 (by go_grown) rfl; have zs : w.heap.size < w1.heap.size := bx.size; have z0 := bx.at_.c0; have y0 := bx.at_.c3.c0; have y1 := bx.at_.c3.c1; have y2 := bx.at_.c3.c2; have y3 := bx.at_.c3.c3; have y4 := bx.at_.c3.c4; have z8 := bx.at_.c8) | (go_at_call 37; (with_reducible refine (Behind.at_ (HLI.out) ?_).mono ?_); (focus (have := bx.below; have := bx.size; go_grown)); rintro e w1 ⟨rfl, hb1⟩; replace bx := bx.next hb1 (by go_grown) rfl; have zs : w.heap.size < w1.heap.size := bx.size; have z0 := bx.at_.c0; have y0 := bx.at_.c3.c0; have y1 := bx.at_.c3.c1; have y2 := bx.at_.c3.c2; have y3 := bx.at_.c3.c3; have y4 := bx.at_.c3.c4; have z8 := bx.at_.c8)); go_ret; exact ⟨ret_bool (by first | (rw [HR.out]; done) | (rw [HR.out]; simp [*]; done) | (rw [HR.out]; simp [*]; try omega)), by have := bx.below; have := bx.size; go_grown⟩
    | true =>
      by_cases hn : c.ol = 0
      · have f2 : ((c.ol : Int) == 0) = true := by simp [hn]
        have f4 : (c.ol == 0) = true := by simp [hn]
        clear hn
        go_wp2_with (first | (go_at_call 12; (with_reducible refine (Behind.at_ (HVN.out) ?_).mono ?_); (focus (have := bx.below; have := bx.size; go_grown)); rintro e w1 ⟨rfl, hb1⟩; replace bx := bx.next hb1 (by go_grown) rfl; have zs : w.heap.size < w1.heap.size := bx.size; have z0 := bx.at_.c0; have y0 := bx.at_.c3.c0; have y1 := bx.at_.c3.c1; have y2 := bx.at_.c3.c2; have y3 := bx.at_.c3.c3; have y4 := bx.at_.c3.c4; have z8 := bx.at_.c8) | (go_at_call 37; (with_reducible refine (Behind.at_ (HLI.out) ?_).mono ?_); (focus (have := bx.below; have := bx.size; go_grown)); rintro e w1 ⟨rfl, hb1⟩; replace bx := bx.next hb1 (by go_grown) rfl; have zs : w.heap.size < w1.heap.size := bx.size; have z0 := bx.at_.c0; have y0 := bx.at_.c3.c0; have y1 := bx.at_.c3.c1; have y2 := bx.at_.c3.c2; have y3 := bx.at_.c3.c3; have y4 := bx.at_.c3.c4; have z8 := bx.at_.c8)); go_ret; exact ⟨ret_bool (by first | (rw [HR.out]; done) | (rw [HR.out]; simp [*]; done) | (rw [HR.out]; simp [*]; try omega)), by have := bx.below; have := bx.size; go_grown⟩
      · have f2 : ((c.ol : Int) == 0) = false := by simp [hn]
        have f4 : (c.ol == 0) = false := by simp [hn]
        clear hn
        go_wp2_with (first | (go_at_call 12; (with_reducible refine (Behind.at_ (HVN.out) ?_).mono ?_); (focus (have := bx.below; have := bx.size; go_grown)); rintro e w1 ⟨rfl, hb1⟩; replace bx := bx.next hb1 (by go_grown) rfl; have zs : w.heap.size < w1.heap.size := bx.size; have z0 := bx.at_.c0; have y0 := bx.at_.c3.c0; have y1 := bx.at_.c3.c1; have y2 := bx.at_.c3.c2; have y3 := bx.at_.c3.c3; have y4 := bx.at_.c3.c4; have z8 := bx.at_.c8) | (go_at_call 37; (with_reducible refine (Behind.at_ (HLI.out) ?_).mono ?_); (focus (have := bx.below; have := bx.size; go_grown)); rintro e w1 ⟨rfl, hb1⟩; replace bx := bx.next hb1 (by go_grown) rfl; have zs : w.heap.size < w1.heap.size := bx.size; have z0 := bx.at_.c0; have y0 := bx.at_.c3.c0; have y1 := bx.at_.c3.c1; have y2 := bx.at_.c3.c2; have y3 := bx.at_.c3.c3; have y4 := bx.at_.c3.c4; have z8 := bx.at_.c8)); go_ret; exact ⟨ret_bool (by first | (rw [HR.out]; done) | (rw [HR.out]; simp [*]; done) | (rw [HR.out]; simp [*]; try omega)), by have := bx.below; have := bx.size; go_grown⟩
  have f1 : (c.k == 1) = false := by simp [e1]
  by_cases e2 : c.k = 2
  · have f2 : (c.k == 2) = true := by simp [e2]
    have hR3 : enSound ⟨c.k, c.src, c.seq, v, l⟩ = (vn && decide (c.ol ≤ 200) && !al) := by rw [HR.out, if_neg e1, if_pos e2]
    have HR := Lib.hid hR3
    clear e1 e2 hR3
    have HAL := Lib.hid hal
    clear hal
    go_enter Tryd.func14, Tryd.ntmps14
    go_wp2_with (first | (go_at_call 12; (with_reducible refine (Behind.at_ (HVN.out) ?_).mono ?_); (focus (have := bx.below; have := bx.size; go_grown)); rintro e w1 ⟨rfl, hb1⟩; replace bx := bx.next hb1 (by go_grown) rfl; have zs : w.heap.size < w1.heap.size := bx.size; have z0 := bx.at_.c0; have y0 := bx.at_.c3.c0; have y1 := bx.at_.c3.c1; have y2 := bx.at_.c3.c2; have y3 := bx.at_.c3.c3; have y4 := bx.at_.c3.c4; have z8 := bx.at_.c8))
    go_loopw [4] (fun i wr => ∃ k : Nat, k ≤ c.ol ∧ i = .int .i64 k ∧ Hid (∀ j, j < k → ∀ hj : j < l.length, (!cmSound l[j]) = false) ∧ Boxed1E w wr c) (fun i _ => c.ol - (intOf i).toNat)
    case atStart => exact ⟨0, Nat.zero_le _, rfl, fun j hj => by omega, bx⟩
    case round =>
      clear y0 y1 y2 y3 y4 z0 z8 zs hb1 bx
      obtain ⟨k, hk, rfl, HJ, bx⟩ := hrel
      have z8 := bx.at_.c8
      by_cases hlt : k < c.ol
      · obtain ⟨b, o, d, kl, ho2, hb, x1, xb⟩ := ho.get hlt
        rw [ho2] at z8
        have x1 := x1.keep bx.below hb
        have r0 := x1.c0; have r1 := x1.c1; have r2 := x1.c2; have r3 := x1.c3; have r4 := x1.c4; have r5 := x1.c5; have r6 := x1.c6.c0; have r7 := x1.c7; have r8 := x1.c8; have r9 := x1.c9; have r10 := x1.c10; have r11 := x1.c11
        have HC : Hid (Calls Tryd.prog 38 #[.agg #[.int .u8 d.k, .slice d.pa d.pl d.pc, .string d.key, .int .i64 d.i, .int .i64 d.j, .int .i64 d.n, .int .u8 d.v.k, .int .i64 d.v.n, .string d.v.s, .slice d.v.la d.v.ll d.v.lc, .slice d.v.oa d.v.ol d.v.oc, .string d.s]] wr fun e w' => e = .returned (.bool (cmSound l[k])) ∧ Below wr.heap.size wr w') := ref06Sound_any l[k] wr (hT.below bx.below) d (xb.later_ bx.below) (hs2 _ (List.getElem_mem kl))
        clear x1 xb
        generalize hx : cmSound l[k] = bs at HC
        have HX := Lib.hid hx
        clear hx
        have HO := Lib.hid ho
        have HO2 := Lib.hid ho2
        clear ho ho2 hT
        cases bs with
        | false =>
          go_wp2_with (go_at_call 38; refine (HC.out).mono ?_; rintro e w1 ⟨rfl, hb1⟩)
          go_ret
          exact ⟨ret_bool (by rw [HR.out, ← HAL.out, any_hit (p := fun x => !cmSound x) kl (by rw [HX.out]; rfl)]; simp), (bx.step hb1).below⟩
        | true =>
          go_wp2_with (go_at_call 38; refine (HC.out).mono ?_; rintro e w1 ⟨rfl, hb1⟩)
          go_roundw
          case rel => exact ⟨k + 1, by omega, by go_num, none_step (p := fun x => !cmSound x) HJ kl (by rw [HX.out]; rfl), bx.step hb1⟩
          case measure => simp [intOf]; omega
      · have HA2 : Hid (al = false) := by rw [← HAL.out]; exact any_none (n := c.ol) HLn.out (fun j hj hl => HJ.out j (by omega) hl)
        clear ho hT
        have y := bx.size
        cases vn with
        | false =>
          go_wp2_with fail
          go_ret
          exact ⟨ret_bool (by rw [HR.out]; simp), bx.below⟩
        | true =>
          by_cases hn : c.ol ≤ 200
          · have f3 : ((c.ol : Int) ≤ 200) = True := by simp; omega
            go_wp2_with fail
            go_ret
            exact ⟨ret_bool (by rw [HR.out, HA2.out]; simp [hn]), bx.below⟩
          · have f3 : ((c.ol : Int) ≤ 200) = False := by simp; omega
            go_wp2_with fail
            go_ret
            exact ⟨ret_bool (by rw [HR.out, HA2.out]; simp [hn]), bx.below⟩
  have f2 : (c.k == 2) = false := by simp [e2]
  by_cases e3 : c.k = 3
  · have f3 : (c.k == 3) = true := by simp [e3]
    have hR3 : enSound ⟨c.k, c.src, c.seq, v, l⟩ = (vn && (c.ol == 0)) := by rw [HR.out, if_neg e1, if_neg e2, if_pos e3]
    have HR := Lib.hid hR3
    clear e1 e2 e3 hR3 hT hs2 ho hal
    go_enter Tryd.func14, Tryd.ntmps14
    cases vn with
    | false => go_wp2_with (go_at_call 12; (with_reducible refine (Behind.at_ (HVN.out) ?_).mono ?_); (focus (have := bx.below; have := bx.size; go_grown)); rintro e w1 ⟨rfl, hb1⟩; replace bx := bx.next hb1 (by go_grown) rfl; have zs : w.heap.size < w1.heap.size := bx.size; have z0 := bx.at_.c0; have y0 := bx.at_.c3.c0; have y1 := bx.at_.c3.c1; have y2 := bx.at_.c3.c2; have y3 := bx.at_.c3.c3; have y4 := bx.at_.c3.c4; have z8 := bx.at_.c8); go_ret; exact ⟨ret_bool (by first | (rw [HR.out]; done) | (rw [HR.out]; simp [*]; done) | (rw [HR.out]; simp [*]; try omega)), by have := bx.below; have := bx.size; go_grown⟩
    | true =>
      by_cases hn : c.ol = 0
      · have f2 : ((c.ol : Int) == 0) = true := by simp [hn]
        have f4 : (c.ol == 0) = true := by simp [hn]
        clear hn
        go_wp2_with (go_at_call 12; (with_reducible refine (Behind.at_ (HVN.out) ?_).mono ?_); (focus (have := bx.below; have := bx.size; go_grown)); rintro e w1 ⟨rfl, hb1⟩; replace bx := bx.next hb1 (by go_grown) rfl; have zs : w.heap.size < w1.heap.size := bx.size; have z0 := bx.at_.c0; have y0 := bx.at_.c3.c0; have y1 := bx.at_.c3.c1; have y2 := bx.at_.c3.c2; have y3 := bx.at_.c3.c3; have y4 := bx.at_.c3.c4; have z8 := bx.at_.c8); go_ret; exact ⟨ret_bool (by first | (rw [HR.out]; done) | (rw [HR.out]; simp [*]; done) | (rw [HR.out]; simp [*]; try omega)), by have := bx.below; have := bx.size; go_grown⟩
      · have f2 : ((c.ol : Int) == 0) = false := by simp [hn]
        have f4 : (c.ol == 0) = false := by simp [hn]
        clear hn
        go_wp2_with (go_at_call 12; (with_reducible refine (Behind.at_ (HVN.out) ?_).mono ?_); (focus (have := bx.below; have := bx.size; go_grown)); rintro e w1 ⟨rfl, hb1⟩; replace bx := bx.next hb1 (by go_grown) rfl; have zs : w.heap.size < w1.heap.size := bx.size; have z0 := bx.at_.c0; have y0 := bx.at_.c3.c0; have y1 := bx.at_.c3.c1; have y2 := bx.at_.c3.c2; have y3 := bx.at_.c3.c3; have y4 := bx.at_.c3.c4; have z8 := bx.at_.c8); go_ret; exact ⟨ret_bool (by first | (rw [HR.out]; done) | (rw [HR.out]; simp [*]; done) | (rw [HR.out]; simp [*]; try omega)), by have := bx.below; have := bx.size; go_grown⟩
  have f3 : (c.k == 3) = false := by simp [e3]
  have hR3 : enSound ⟨c.k, c.src, c.seq, v, l⟩ = false := by rw [HR.out, if_neg e1, if_neg e2, if_neg e3]
  have HR := Lib.hid hR3
  clear e1 e2 e3 hR3 hT hs2 ho hal
  go_enter Tryd.func14, Tryd.ntmps14
  go_wp2_with (go_at_call 12; (with_reducible refine (Behind.at_ (HVN.out) ?_).mono ?_); (focus (have := bx.below; have := bx.size; go_grown)); rintro e w1 ⟨rfl, hb1⟩; replace bx := bx.next hb1 (by go_grown) rfl; have zs : w.heap.size < w1.heap.size := bx.size; have z0 := bx.at_.c0; have y0 := bx.at_.c3.c0; have y1 := bx.at_.c3.c1; have y2 := bx.at_.c3.c2; have y3 := bx.at_.c3.c3; have y4 := bx.at_.c3.c4; have z8 := bx.at_.c8); go_ret; exact ⟨ret_bool (by first | (rw [HR.out]; done) | (rw [HR.out]; simp [*]; done) | (rw [HR.out]; simp [*]; try omega)), by have := bx.below; have := bx.size; go_grown⟩
end Go.Proofs.YtcfbnmobfcabiaaDoor
namespace Go.Proofs.YtcfbnmobfcabiaaDoor
open Go.RowKit
/-- What code.Back comes to. -/
noncomputable def backR (bs : List UInt8) : V × Int := if 60000 < bs.length then (V.none, 3) else
  match rdV 18 bs with
  | none => (V.none, 100)
  | some (v, _) => if outN (lightB v) (encV v) = 0 then (if eqBs (outB (lightB v) (encV v)) bs = true then (v, 0) else (V.none, 100)) else (V.none, 100)
theorem wholeV_any (w : World) (hT : Tabs w) (a : Option Addr) (n c : Nat) (bs : List UInt8) (h : IsB w w.heap.size a n c bs) (hmax : bs.length ≤ 281474976710656) {out : V × Int} (hout : backR bs = out) :
    Calls Tryd.prog 27 #[.slice a n c, .func (.func 28) #[] #[], .func (.func 15) #[] #[]] w (WVPost w out) := by
  subst hout
  by_cases hl : 60000 < bs.length
  · rw [backR, if_pos hl]; exact wholeV_long w a n c bs h hl
  rw [backR, if_neg hl]
  cases hr : rdV 18 bs with
  | none => exact wholeV_none w a n c bs h (by omega) hr
  | some p =>
    obtain ⟨v, r⟩ := p
    obtain ⟨hlen, hwt⟩ := rdV_len 18 bs v r hr
    have hsz : (encV v).length ≤ 70368744177664 := by omega
    have HLV : Hid (∀ W5, Below w.heap.size w W5 → ∀ cv : VC, IsVal W5 W5.heap.size v cv → Hid (∀ W, Below W5.heap.size W5 W → Calls Tryd.prog 39 #[.agg #[.int .u8 cv.k, .int .i64 cv.n, .string cv.s, .slice cv.la cv.ll cv.lc, .slice cv.oa cv.ol cv.oc]] W fun e w' => e = .returned (.bool (lightB v)) ∧ Below W.heap.size W w')) := fun W5 hb cv hv W hW => light_any v W ((hT.below hb).below hW) cv (hv.later_ hW) (by omega)
    show Calls _ _ _ _ (WVPost w (if outN (lightB v) (encV v) = 0 then (if eqBs (outB (lightB v) (encV v)) bs = true then (v, 0) else (V.none, 100)) else (V.none, 100)))
    by_cases h0 : outN (lightB v) (encV v) = 0
    · rw [if_pos h0]
      cases he : eqBs (outB (lightB v) (encV v)) bs with
      | true => rw [if_pos rfl]; exact wholeV_eq w a n c bs h (by omega) hr hsz _ HLV h0 he
      | false => rw [if_neg (by simp)]; exact wholeV_neq w a n c bs h (by omega) hr hsz _ HLV h0 he
    · rw [if_neg h0]; exact wholeV_bad w a n c bs h (by omega) hr hsz _ HLV h0
theorem backR_ok {bs : List UInt8} {v : V} (h : backR bs = (v, 0)) : lightB v = true ∧ encV v = bs ∧ bs.length ≤ 60000 ∧ ∃ r, rdV 18 bs = some (v, r) := by
  rw [backR] at h
  by_cases hl : 60000 < bs.length
  · rw [if_pos hl] at h; injection h with h1 h2; omega
  rw [if_neg hl] at h
  cases hr : rdV 18 bs with
  | none => rw [hr] at h; injection h with h1 h2; omega
  | some p =>
    obtain ⟨x, r⟩ := p
    rw [hr] at h
    replace h : (if outN (lightB x) (encV x) = 0 then (if eqBs (outB (lightB x) (encV x)) bs = true then (x, (0 : Int)) else (V.none, 100)) else (V.none, 100)) = (v, 0) := h
    by_cases h0 : outN (lightB x) (encV x) = 0
    · rw [if_pos h0] at h
      by_cases he : eqBs (outB (lightB x) (encV x)) bs = true
      · rw [if_pos he] at h
        injection h with h1 h2
        subst h1
        have hs : lightB x = true := by
          cases hs : lightB x with
          | true => rfl
          | false => rw [hs] at h0; simp [outN] at h0
        rw [hs] at h0 he
        have hlen : ¬ 60000 < (encV x).length := by
          intro hq; rw [outN, if_pos rfl, if_pos hq] at h0; omega
        rw [outB, if_pos rfl, if_neg hlen] at he
        exact ⟨hs, by simpa [eqBs] using he, by omega, r, rfl⟩
      · rw [if_neg he] at h; injection h with h1 h2; omega
    · rw [if_neg h0] at h; injection h with h1 h2; omega
theorem backR_err (bs : List UInt8) : 0 ≤ (backR bs).2 ∧ (backR bs).2 ≤ 100 := by
  rw [backR]
  split
  · exact ⟨by dsimp only; omega, by dsimp only; omega⟩
  · split
    · exact ⟨by dsimp only; omega, by dsimp only; omega⟩
    · split
      · split <;> exact ⟨by dsimp only; omega, by dsimp only; omega⟩
      · exact ⟨by dsimp only; omega, by dsimp only; omega⟩
theorem results_backR {tmps : Array Value} {W : World} {b : Nat} {cv : VC} {x : Value} (ht : tmps[2]? = some (.pointer (some ⟨b, 0, none⟩))) (ht' : tmps[3]? = some x) (h : BC W b [.int .u8 cv.k, .int .i64 cv.n, .string cv.s, .slice cv.la cv.ll cv.lc, .slice cv.oa cv.ol cv.oc]) :
    (results Tryd.f9 tmps).run Tryd.prog W = .ok (.tuple #[.agg #[.int .u8 cv.k, .int .i64 cv.n, .string cv.s, .slice cv.la cv.ll cv.lc, .slice cv.oa cv.ol cv.oc], x]) W := by
  have r0 := h.at_ 0 _ rfl; have r1 := h.at_ 1 _ rfl; have r2 := h.at_ 2 _ rfl; have r3 := h.at_ 3 _ rfl; have r4 := h.at_ 4 _ rfl
  simp [results, Tryd.results9, go_sem, ht, ht', r0, r1, r2, r3, r4]
set_option maxHeartbeats 4000000 in
set_option maxRecDepth 100000 in
theorem backR_any (w : World) (hT : Tabs w) (a : Option Addr) (n c : Nat) (bs : List UInt8) (h : IsB w w.heap.size a n c bs) (hmax : bs.length ≤ 281474976710656) {v : V} {e : Int} (hout : backR bs = (v, e)) :
    Calls Tryd.prog 9 #[.slice a n c] w fun ee w' => (∃ cv : VC, ee = .returned (.tuple #[.agg #[.int .u8 cv.k, .int .i64 cv.n, .string cv.s, .slice cv.la cv.ll cv.lc, .slice cv.oa cv.ol cv.oc], .int .u16 e]) ∧ IsVal w' w'.heap.size v cv) ∧ Below w.heap.size w w' := by
  have HX : Hid (∀ W, W = w.alloc (.cells vz.toArray 28) → Tabs W ∧ IsB W W.heap.size a n c bs ∧ BC W w.heap.size vz ∧ Below w.heap.size w W ∧ W.heap.size = w.heap.size + 1) := by
    intro W hW
    subst hW
    have hb : Below w.heap.size w (w.alloc (.cells vz.toArray 28)) := (Below.refl _ _).alloc (Nat.le_refl _) _
    exact ⟨hT.below hb, (h.keep hb).more hb.size, BC.start w vz.toArray _, hb, by simp⟩
  have HO := Lib.hid hout
  clear h hT hout
  go_enter Tryd.func9, Tryd.ntmps9
  go_wp2_with (go_at_call 27; refine (wholeV_any _ (HX.out _ rfl).1 a n c bs (HX.out _ rfl).2.1 hmax HO.out).mono ?_; rintro ee w2 ⟨⟨cv, rfl, hI⟩, hb⟩; have HH := HX.out _ rfl; have O := HH.2.2.1.keep hb (by omega); have o0 := O.at_ 0 _ rfl; have g0 := O.fr 0; have o1 := O.at_ 1 _ rfl; have g1 := O.fr 1; have o2 := O.at_ 2 _ rfl; have g2 := O.fr 2; have o3 := O.at_ 3 _ rfl; have g3 := O.fr 3; have o4 := O.at_ 4 _ rfl; have g4 := O.fr 4; have B2 := Lib.hid (HH.2.2.2.1.trans (hb.mono (by omega))); have HI := Lib.hid hI; have SZ := Lib.hid HH.2.2.2.2; have OO := Lib.hid (show BC w2 w.heap.size [.int .u8 0, .int .i64 0, .string { data := #[] }, .slice none 0 0, .slice none 0 0] from O); clear hI hb HH O)
  have hs : RStep w2 ((((((w2.setCell ⟨w.heap.size, 0, none⟩ (.int .u8 cv.k)).setCell ⟨w.heap.size, 1, none⟩ (.int .i64 cv.n)).setCell ⟨w.heap.size, 2, none⟩ (.string cv.s)).setCell ⟨w.heap.size, 3, none⟩ (.slice cv.la cv.ll cv.lc)).setCell ⟨w.heap.size, 4, none⟩ (.slice cv.oa cv.ol cv.oc))) w.heap.size := (((RStep.self.trans RStep.self).trans RStep.self).trans RStep.self).trans RStep.self
  have hbc : BC ((((((w2.setCell ⟨w.heap.size, 0, none⟩ (.int .u8 cv.k)).setCell ⟨w.heap.size, 1, none⟩ (.int .i64 cv.n)).setCell ⟨w.heap.size, 2, none⟩ (.string cv.s)).setCell ⟨w.heap.size, 3, none⟩ (.slice cv.la cv.ll cv.lc)).setCell ⟨w.heap.size, 4, none⟩ (.slice cv.oa cv.ol cv.oc))) w.heap.size [.int .u8 cv.k, .int .i64 cv.n, .string cv.s, .slice cv.la cv.ll cv.lc, .slice cv.oa cv.ol cv.oc] := (((((OO.out.set (i := 0) (x := .int .u8 cv.k) (by simp)).set (i := 1) (x := .int .i64 cv.n) (by simp)).set (i := 2) (x := .string cv.s) (by simp)).set (i := 3) (x := .slice cv.la cv.ll cv.lc) (by simp)).set (i := 4) (x := .slice cv.oa cv.ol cv.oc) (by simp))
  exact ⟨rfl, _, results_backR rfl rfl hbc, ⟨cv, rfl, (isVal_far HI.out hs (by have := SZ.out; omega)).sub (shows_only _ _ _)⟩, B2.out.trans (hs.below (by have := OO.out.lt; omega))⟩
end Go.Proofs.YtcfbnmobfcabiaaDoor
namespace Go.Proofs.YtcfbnmobfcabiaaDoor
open Go.RowKit
theorem valueAny (w : World) (hT : Tabs w) (v : V) (c : VC) (hv : IsVal w w.heap.size v c) (hw : v.weight ≤ 4611686018427387904) :
    Calls Tryd.prog 15 #[.agg #[.int .u8 c.k, .int .i64 c.n, .string c.s, .slice c.la c.ll c.lc, .slice c.oa c.ol c.oc]] w fun e w' => (∃ a n cc, e = .returned (.tuple #[.slice a n cc, .int .u16 (outN (lightB v) (encV v))]) ∧ IsB w' w'.heap.size a n cc (outB (lightB v) (encV v))) ∧ Below w.heap.size w w' := by
  obtain ⟨k, n, s, la, ll, lc, oa, ol, oc⟩ := c
  have HS : Hid (∀ W, Below w.heap.size w W → Calls Tryd.prog 39 #[.agg #[.int .u8 k, .int .i64 n, .string s, .slice la ll lc, .slice oa ol oc]] W fun e w' => e = .returned (.bool (lightB v)) ∧ Below W.heap.size W w') :=
    fun W hW => light_any v W (hT.below hW) ⟨k, n, s, la, ll, lc, oa, ol, oc⟩ (hv.later_ hW) hw
  cases hl : lightB v with
  | false => rw [hl] at HS; exact value_no w k n s la ll lc oa ol oc v hv HS
  | true =>
    rw [hl] at HS
    have h1 := encV_wt v
    have h2 : v.weight ≤ 20000 := by
      simp only [lightB, Bool.and_eq_true, decide_eq_true_eq] at hl; exact hl.2
    exact value_of true w k n s la ll lc oa ol oc v hv HS (by omega)
theorem refValueAny (w : World) (hT : Tabs w) (v : V) (c : VC) (hv : IsVal w w.heap.size v c) (hw : v.weight ≤ 4611686018427387904) :
    Calls Tryd.prog 18 #[.agg #[.int .u8 c.k, .int .i64 c.n, .string c.s, .slice c.la c.ll c.lc, .slice c.oa c.ol c.oc]] w fun e w' => (∃ a n cc, e = .returned (.tuple #[.slice a n cc, .int .i64 (outN (lightB v) (encV v))]) ∧ IsB w' w'.heap.size a n cc (outB (lightB v) (encV v))) ∧ Below w.heap.size w w' := by
  obtain ⟨k, n, s, la, ll, lc, oa, ol, oc⟩ := c
  have HS : Hid (∀ W, Below w.heap.size w W → Calls Tryd.prog 37 #[.agg #[.int .u8 k, .int .i64 n, .string s, .slice la ll lc, .slice oa ol oc]] W fun e w' => e = .returned (.bool (lightB v)) ∧ Below W.heap.size W w') :=
    fun W hW => refLight_any v W (hT.below hW) ⟨k, n, s, la, ll, lc, oa, ol, oc⟩ (hv.later_ hW) hw
  cases hl : lightB v with
  | false => rw [hl] at HS; exact refValue_no w k n s la ll lc oa ol oc v hv HS
  | true =>
    rw [hl] at HS
    have h1 := encV_wt v
    have h2 : v.weight ≤ 20000 := by
      simp only [lightB, Bool.and_eq_true, decide_eq_true_eq] at hl; exact hl.2
    exact refValue_of true w k n s la ll lc oa ol oc v hv HS (by omega)
theorem outN_bnd (b : Bool) (bs : List UInt8) : 0 ≤ outN b bs ∧ outN b bs ≤ 3 := by
  unfold outN; split
  · split <;> omega
  · omega
/-- A light value that is short enough comes back. -/
theorem backR_light {v : V} (hl : lightB v = true) (hn : v.Num) (h : (encV v).length ≤ 60000) : backR (encV v) = (v, 0) := by
  have h1 : v.sound = true ∧ v.deep ≤ 16 := by
    simp only [lightB, Bool.and_eq_true, decide_eq_true_eq] at hl; exact hl.1
  have h2 := rdV_enc 18 v (by omega) hn h1.1 (by omega) []
  rw [List.append_nil] at h2
  have h3 : ¬ 60000 < (encV v).length := by omega
  rw [backR, if_neg h3, h2]
  simp [hl, outN, outB, h3, eqBs]
theorem build_out {v : V} (hl : lightB v = true) (h : (encV v).length ≤ 60000) : outN (lightB v) (encV v) = 0 ∧ outB (lightB v) (encV v) = encV v := by
  have h3 : ¬ 60000 < (encV v).length := by omega
  simp [hl, outN, outB, h3]
end Go.Proofs.YtcfbnmobfcabiaaDoor
namespace Go.Proofs.YtcfbnmobfcabiaaDoor
open Go.RowKit
/-- What code.Decode comes to. -/
noncomputable def backE (bs : List UInt8) : En × Int := if 60000 < bs.length then (En.none, 3) else
  match rdE bs with
  | none => (En.none, 100)
  | some (v, _) => if outN (enSound v) (encE v) = 0 then (if eqBs (outB (enSound v) (encE v)) bs = true then (v, 0) else (En.none, 100)) else (En.none, 100)
theorem wholeE_any (w : World) (hT : Tabs w) (a : Option Addr) (n c : Nat) (bs : List UInt8) (h : IsB w w.heap.size a n c bs) (hmax : bs.length ≤ 281474976710656) {out : En × Int} (hout : backE bs = out) :
    Calls Tryd.prog 20 #[.slice a n c, .func (.func 21) #[] #[], .func (.func 13) #[] #[]] w (WEPost w out) := by
  subst hout
  by_cases hl : 60000 < bs.length
  · rw [backE, if_pos hl]; exact wholeE_long w a n c bs h hl
  rw [backE, if_neg hl]
  cases hr : rdE bs with
  | none => exact wholeE_none w a n c bs h (by omega) hr
  | some p =>
    obtain ⟨v, r⟩ := p
    obtain ⟨hlen, hwt, hws⟩ := rdE_len hr
    have hsz : (encE v).length ≤ 70368744177664 := by omega
    have HLV : Hid (∀ W5, Below w.heap.size w W5 → ∀ cv : EC, IsEntry W5 W5.heap.size v cv → Hid (∀ W, Below W5.heap.size W5 W → Calls Tryd.prog 30 #[.agg #[.int .u8 cv.k, .int .u32 cv.src, .int .u32 cv.seq, .int .u8 cv.v.k, .int .i64 cv.v.n, .string cv.v.s, .slice cv.v.la cv.v.ll cv.v.lc, .slice cv.v.oa cv.v.ol cv.v.oc, .slice cv.oa cv.ol cv.oc]] W fun e w' => e = .returned (.bool (enSound v)) ∧ Below W.heap.size W w')) := fun W5 hb cv hv W hW => enSound_any v W ((hT.below hb).below hW) cv (hv.later_ hW) ⟨by omega, fun x hx => by have := hws x hx; omega⟩
    show Calls _ _ _ _ (WEPost w (if outN (enSound v) (encE v) = 0 then (if eqBs (outB (enSound v) (encE v)) bs = true then (v, 0) else (En.none, 100)) else (En.none, 100)))
    by_cases h0 : outN (enSound v) (encE v) = 0
    · rw [if_pos h0]
      cases he : eqBs (outB (enSound v) (encE v)) bs with
      | true => rw [if_pos rfl]; exact wholeE_eq w a n c bs h (by omega) hr hsz _ HLV h0 he
      | false => rw [if_neg (by simp)]; exact wholeE_neq w a n c bs h (by omega) hr hsz _ HLV h0 he
    · rw [if_neg h0]; exact wholeE_bad w a n c bs h (by omega) hr hsz _ HLV h0
theorem backE_ok {bs : List UInt8} {v : En} (h : backE bs = (v, 0)) : enSound v = true ∧ encE v = bs ∧ bs.length ≤ 60000 ∧ ∃ r, rdE bs = some (v, r) := by
  rw [backE] at h
  by_cases hl : 60000 < bs.length
  · rw [if_pos hl] at h; injection h with h1 h2; omega
  rw [if_neg hl] at h
  cases hr : rdE bs with
  | none => rw [hr] at h; injection h with h1 h2; omega
  | some p =>
    obtain ⟨x, r⟩ := p
    rw [hr] at h
    replace h : (if outN (enSound x) (encE x) = 0 then (if eqBs (outB (enSound x) (encE x)) bs = true then (x, (0 : Int)) else (En.none, 100)) else (En.none, 100)) = (v, 0) := h
    by_cases h0 : outN (enSound x) (encE x) = 0
    · rw [if_pos h0] at h
      by_cases he : eqBs (outB (enSound x) (encE x)) bs = true
      · rw [if_pos he] at h
        injection h with h1 h2
        subst h1
        have hs : enSound x = true := by
          cases hs : enSound x with
          | true => rfl
          | false => rw [hs] at h0; simp [outN] at h0
        rw [hs] at h0 he
        have hlen : ¬ 60000 < (encE x).length := by
          intro hq; rw [outN, if_pos rfl, if_pos hq] at h0; omega
        rw [outB, if_pos rfl, if_neg hlen] at he
        exact ⟨hs, by simpa [eqBs] using he, by omega, r, rfl⟩
      · rw [if_neg he] at h; injection h with h1 h2; omega
    · rw [if_neg h0] at h; injection h with h1 h2; omega
theorem backE_err (bs : List UInt8) : 0 ≤ (backE bs).2 ∧ (backE bs).2 ≤ 100 := by
  rw [backE]
  split
  · exact ⟨by dsimp only; omega, by dsimp only; omega⟩
  · split
    · exact ⟨by dsimp only; omega, by dsimp only; omega⟩
    · split
      · split <;> exact ⟨by dsimp only; omega, by dsimp only; omega⟩
      · exact ⟨by dsimp only; omega, by dsimp only; omega⟩
theorem results_backE {tmps : Array Value} {W : World} {b : Nat} {cv : EC} {x : Value} (ht : tmps[2]? = some (.pointer (some ⟨b, 0, none⟩))) (ht' : tmps[3]? = some x) (h : BC W b [.int .u8 cv.k, .int .u32 cv.src, .int .u32 cv.seq, .int .u8 cv.v.k, .int .i64 cv.v.n, .string cv.v.s, .slice cv.v.la cv.v.ll cv.v.lc, .slice cv.v.oa cv.v.ol cv.v.oc, .slice cv.oa cv.ol cv.oc]) :
    (results Tryd.f7 tmps).run Tryd.prog W = .ok (.tuple #[.agg #[.int .u8 cv.k, .int .u32 cv.src, .int .u32 cv.seq, .int .u8 cv.v.k, .int .i64 cv.v.n, .string cv.v.s, .slice cv.v.la cv.v.ll cv.v.lc, .slice cv.v.oa cv.v.ol cv.v.oc, .slice cv.oa cv.ol cv.oc], x]) W := by
  have r0 := h.at_ 0 _ rfl; have r1 := h.at_ 1 _ rfl; have r2 := h.at_ 2 _ rfl; have r3 := h.at_ 3 _ rfl; have r4 := h.at_ 4 _ rfl; have r5 := h.at_ 5 _ rfl; have r6 := h.at_ 6 _ rfl; have r7 := h.at_ 7 _ rfl; have r8 := h.at_ 8 _ rfl
  simp [results, Tryd.results7, go_sem, ht, ht', r0, r1, r2, r3, r4, r5, r6, r7, r8]
set_option maxHeartbeats 4000000 in
set_option maxRecDepth 100000 in
theorem backE_any (w : World) (hT : Tabs w) (a : Option Addr) (n c : Nat) (bs : List UInt8) (h : IsB w w.heap.size a n c bs) (hmax : bs.length ≤ 281474976710656) {v : En} {e : Int} (hout : backE bs = (v, e)) :
    Calls Tryd.prog 7 #[.slice a n c] w fun ee w' => (∃ cv : EC, ee = .returned (.tuple #[.agg #[.int .u8 cv.k, .int .u32 cv.src, .int .u32 cv.seq, .int .u8 cv.v.k, .int .i64 cv.v.n, .string cv.v.s, .slice cv.v.la cv.v.ll cv.v.lc, .slice cv.v.oa cv.v.ol cv.v.oc, .slice cv.oa cv.ol cv.oc], .int .u16 e]) ∧ IsEntry w' w'.heap.size v cv) ∧ Below w.heap.size w w' := by
  have HX : Hid (∀ W, W = w.alloc (.cells ez.toArray 31) → Tabs W ∧ IsB W W.heap.size a n c bs ∧ BC W w.heap.size ez ∧ Below w.heap.size w W ∧ W.heap.size = w.heap.size + 1) := by
    intro W hW
    subst hW
    have hb : Below w.heap.size w (w.alloc (.cells ez.toArray 31)) := (Below.refl _ _).alloc (Nat.le_refl _) _
    exact ⟨hT.below hb, (h.keep hb).more hb.size, BC.start w ez.toArray _, hb, by simp⟩
  have HO := Lib.hid hout
  clear h hT hout
  go_enter Tryd.func7, Tryd.ntmps7
  go_wp2_with (go_at_call 20; refine (wholeE_any _ (HX.out _ rfl).1 a n c bs (HX.out _ rfl).2.1 hmax HO.out).mono ?_; rintro ee w2 ⟨⟨cv, rfl, hI⟩, hb⟩; have HH := HX.out _ rfl; have O := HH.2.2.1.keep hb (by omega); have o0 := O.at_ 0 _ rfl; have g0 := O.fr 0; have o1 := O.at_ 1 _ rfl; have g1 := O.fr 1; have o2 := O.at_ 2 _ rfl; have g2 := O.fr 2; have o3 := O.at_ 3 _ rfl; have g3 := O.fr 3; have o4 := O.at_ 4 _ rfl; have g4 := O.fr 4; have o5 := O.at_ 5 _ rfl; have g5 := O.fr 5; have o6 := O.at_ 6 _ rfl; have g6 := O.fr 6; have o7 := O.at_ 7 _ rfl; have g7 := O.fr 7; have o8 := O.at_ 8 _ rfl; have g8 := O.fr 8; have B2 := Lib.hid (HH.2.2.2.1.trans (hb.mono (by omega))); have HI := Lib.hid hI; have SZ := Lib.hid HH.2.2.2.2; have OO := Lib.hid (show BC w2 w.heap.size [.int .u8 0, .int .u32 0, .int .u32 0, .int .u8 0, .int .i64 0, .string { data := #[] }, .slice none 0 0, .slice none 0 0, .slice none 0 0] from O); clear hI hb HH O)
  have hs : RStep w2 ((((((((((w2.setCell ⟨w.heap.size, 0, none⟩ (.int .u8 cv.k)).setCell ⟨w.heap.size, 1, none⟩ (.int .u32 cv.src)).setCell ⟨w.heap.size, 2, none⟩ (.int .u32 cv.seq)).setCell ⟨w.heap.size, 3, none⟩ (.int .u8 cv.v.k)).setCell ⟨w.heap.size, 4, none⟩ (.int .i64 cv.v.n)).setCell ⟨w.heap.size, 5, none⟩ (.string cv.v.s)).setCell ⟨w.heap.size, 6, none⟩ (.slice cv.v.la cv.v.ll cv.v.lc)).setCell ⟨w.heap.size, 7, none⟩ (.slice cv.v.oa cv.v.ol cv.v.oc)).setCell ⟨w.heap.size, 8, none⟩ (.slice cv.oa cv.ol cv.oc))) w.heap.size := (((((((RStep.self.trans RStep.self).trans RStep.self).trans RStep.self).trans RStep.self).trans RStep.self).trans RStep.self).trans RStep.self).trans RStep.self
  have hbc : BC ((((((((((w2.setCell ⟨w.heap.size, 0, none⟩ (.int .u8 cv.k)).setCell ⟨w.heap.size, 1, none⟩ (.int .u32 cv.src)).setCell ⟨w.heap.size, 2, none⟩ (.int .u32 cv.seq)).setCell ⟨w.heap.size, 3, none⟩ (.int .u8 cv.v.k)).setCell ⟨w.heap.size, 4, none⟩ (.int .i64 cv.v.n)).setCell ⟨w.heap.size, 5, none⟩ (.string cv.v.s)).setCell ⟨w.heap.size, 6, none⟩ (.slice cv.v.la cv.v.ll cv.v.lc)).setCell ⟨w.heap.size, 7, none⟩ (.slice cv.v.oa cv.v.ol cv.v.oc)).setCell ⟨w.heap.size, 8, none⟩ (.slice cv.oa cv.ol cv.oc))) w.heap.size [.int .u8 cv.k, .int .u32 cv.src, .int .u32 cv.seq, .int .u8 cv.v.k, .int .i64 cv.v.n, .string cv.v.s, .slice cv.v.la cv.v.ll cv.v.lc, .slice cv.v.oa cv.v.ol cv.v.oc, .slice cv.oa cv.ol cv.oc] := (((((((((OO.out.set (i := 0) (x := .int .u8 cv.k) (by simp)).set (i := 1) (x := .int .u32 cv.src) (by simp)).set (i := 2) (x := .int .u32 cv.seq) (by simp)).set (i := 3) (x := .int .u8 cv.v.k) (by simp)).set (i := 4) (x := .int .i64 cv.v.n) (by simp)).set (i := 5) (x := .string cv.v.s) (by simp)).set (i := 6) (x := .slice cv.v.la cv.v.ll cv.v.lc) (by simp)).set (i := 7) (x := .slice cv.v.oa cv.v.ol cv.v.oc) (by simp)).set (i := 8) (x := .slice cv.oa cv.ol cv.oc) (by simp))
  exact ⟨rfl, _, results_backE rfl rfl hbc, ⟨cv, rfl, (isEntry_far HI.out hs (by have := SZ.out; omega)).sub (shows_only _ _ _)⟩, B2.out.trans (hs.below (by have := OO.out.lt; omega))⟩
end Go.Proofs.YtcfbnmobfcabiaaDoor
namespace Go.Proofs.YtcfbnmobfcabiaaDoor
open Go.RowKit
def k9 : List UInt8 := [3, 0, 0, 0, 1, 0, 0, 0, 2]
def knE : En := ⟨3, 1, 2, V.none, []⟩
def knC : EC := ⟨3, 1, 2, vzero, none, 0, 0⟩
def knV : V := .mk 1 1 .empty [] []
def knVC : VC := ⟨1, 1, .empty, none, 0, 0, none, 0, 0⟩
theorem isVal_plain (w : World) (B : Nat) (k n : Int) (s : ByteArray) (hb : VC.Bnd ⟨k, n, s, none, 0, 0, none, 0, 0⟩) : IsVal w B (.mk k n s [] []) ⟨k, n, s, none, 0, 0, none, 0, 0⟩ :=
  .mk ⟨k, n, s, none, 0, 0, none, 0, 0⟩ [] [] (fun _ => ⟨0, 0, .empty, .none, 0, 0, .none, 0, 0⟩) (fun _ => ⟨0, 0, .empty, .none, 0, 0, .none, 0, 0⟩) 0 0 0 0 hb rfl rfl (fun h => by cases h) (fun h => by cases h) (fun i h => by cases h) (fun i h => by cases h) (fun i h => by cases h) (fun i h => by cases h)
theorem knE_is (w : World) (B : Nat) : IsEntry w B knE knC := .mk knC V.none [] ⟨by decide, by decide, by decide, by decide, by decide, by decide⟩ (isVal_none _ _) (IsComps.nil _ _)
theorem knV_is (w : World) (B : Nat) : IsVal w B knV knVC := isVal_plain w B 1 1 .empty ⟨by decide, by decide, by decide, by decide, by decide, by decide, by decide, by decide, by decide, by decide, by decide⟩
theorem rdE_known : rdE k9 = some (knE, []) := by rfl
theorem encE_known : encE knE = k9 := by rfl
theorem encV_known : (encV knV).length = 9 := by simp [knV, encV, be_length]
theorem enSound_known : enSound knE = true := by simp [enSound, knE, eqv]
theorem lightB_known : lightB knV = true := by simp [lightB, knV, V.sound, plainB, rising, soundL, soundO, V.deep, V.weight, weightL, weightO, deepL, deepO]
theorem backE_known : backE k9 = (knE, 0) := by
  rw [backE, if_neg (by decide), rdE_known]
  show (if outN (enSound knE) (encE knE) = 0 then (if eqBs (outB (enSound knE) (encE knE)) k9 = true then (knE, (0 : Int)) else (En.none, 100)) else (En.none, 100)) = _
  rw [enSound_known, encE_known, if_pos (by rfl), if_pos (by simp [eqBs, outB, k9])]
theorem backE_nil : backE [] = (En.none, 100) := by
  rw [backE, if_neg (by simp)]
  rfl
theorem encode_known (w : World) (hT : Tabs w) : Calls Tryd.prog 13 #[.agg #[.int .u8 3, .int .u32 1, .int .u32 2, .int .u8 0, .int .i64 0, .string { data := #[] }, .slice none 0 0, .slice none 0 0, .slice none 0 0]] w fun e w' => (∃ a c, e = .returned (.tuple #[.slice a 9 c, .int .u16 0]) ∧ IsB w' w'.heap.size a 9 c k9) ∧ Below w.heap.size w w' := by
  have HS : Hid (∀ W, Below w.heap.size w W → Calls Tryd.prog 30 #[.agg #[.int .u8 knC.k, .int .u32 knC.src, .int .u32 knC.seq, .int .u8 knC.v.k, .int .i64 knC.v.n, .string knC.v.s, .slice knC.v.la knC.v.ll knC.v.lc, .slice knC.v.oa knC.v.ol knC.v.oc, .slice knC.oa knC.ol knC.oc]] W fun e w' => e = .returned (.bool true) ∧ Below W.heap.size W w') := fun W hW => by
    have := enSound_any knE W (hT.below hW) knC (knE_is _ _) ⟨by decide, by intro x hx; cases hx⟩
    rw [enSound_known] at this; exact this
  refine (encode_e true w knC knE (knE_is _ _) HS (by rw [encE_known]; decide)).mono ?_
  rintro e w' ⟨⟨a, n, c, rfl, hI⟩, hb⟩
  rw [encE_known] at *
  have hn : n = 9 := by have := hI.len; simpa [outB, k9] using this
  subst hn
  exact ⟨⟨a, c, rfl, hI⟩, hb⟩
theorem value_known (w : World) (hT : Tabs w) : Calls Tryd.prog 15 #[.agg #[.int .u8 1, .int .i64 1, .string { data := #[] }, .slice none 0 0, .slice none 0 0]] w fun e w' => (∃ a c, e = .returned (.tuple #[.slice a 9 c, .int .u16 0])) ∧ Below w.heap.size w w' := by
  have HS : Hid (∀ W, Below w.heap.size w W → Calls Tryd.prog 39 #[.agg #[.int .u8 knVC.k, .int .i64 knVC.n, .string knVC.s, .slice knVC.la knVC.ll knVC.lc, .slice knVC.oa knVC.ol knVC.oc]] W fun e w' => e = .returned (.bool true) ∧ Below W.heap.size W w') := fun W hW => by
    have := light_any knV W (hT.below hW) knVC (knV_is _ _) (by decide)
    rw [lightB_known] at this; exact this
  refine (value_of true w 1 1 .empty none 0 0 none 0 0 knV (knV_is _ _) HS (by rw [encV_known]; decide)).mono ?_
  rintro e w' ⟨⟨a, n, c, rfl, hI⟩, hb⟩
  have e1 : outN true (encV knV) = 0 := by rw [outN, if_pos rfl, encV_known, if_neg (by decide)]
  have hn : n = 9 := by
    have := hI.len
    rw [outB, if_pos rfl, encV_known, if_neg (by decide), encV_known] at this
    exact this
  subst hn
  rw [e1]
  exact ⟨⟨a, c, rfl⟩, hb⟩
theorem decode_known (w : World) (hT : Tabs w) (a : Option Addr) (c : Nat) (h : IsB w w.heap.size a 9 c k9) : Calls Tryd.prog 7 #[.slice a 9 c] w fun e w' => (∃ cv : EC, e = .returned (.tuple #[.agg #[.int .u8 cv.k, .int .u32 cv.src, .int .u32 2, .int .u8 cv.v.k, .int .i64 cv.v.n, .string cv.v.s, .slice cv.v.la cv.v.ll cv.v.lc, .slice cv.v.oa cv.v.ol cv.v.oc, .slice cv.oa cv.ol cv.oc], .int .u16 0])) ∧ Below w.heap.size w w' := by
  refine (backE_any w hT a 9 c k9 h (by decide) backE_known).mono ?_
  rintro e w' ⟨⟨cv, rfl, hI⟩, hb⟩
  obtain ⟨x, hx⟩ : ∃ x, knE = x := ⟨_, rfl⟩
  rw [hx] at hI
  cases hI with
  | mk _ v l b1 b2 b3 =>
    have : cv.seq = 2 := by have := congrArg En.seq hx; exact this.symm
    exact ⟨⟨cv, by rw [← this]⟩, hb⟩
theorem decode_nil (w : World) (hT : Tabs w) : Calls Tryd.prog 7 #[.slice none 0 0] w fun e w' => (∃ cv : EC, e = .returned (.tuple #[.agg #[.int .u8 cv.k, .int .u32 cv.src, .int .u32 cv.seq, .int .u8 cv.v.k, .int .i64 cv.v.n, .string cv.v.s, .slice cv.v.la cv.v.ll cv.v.lc, .slice cv.v.oa cv.v.ol cv.v.oc, .slice cv.oa cv.ol cv.oc], .int .u16 100])) ∧ Below w.heap.size w w' := by
  refine (backE_any w hT none 0 0 [] ⟨rfl, by decide, by decide, 0, 0, (fun h => absurd h (by decide)), (fun i hi => absurd hi (by simp))⟩ (by decide) backE_nil).mono ?_
  rintro e w' ⟨⟨cv, rfl, hI⟩, hb⟩
  exact ⟨⟨cv, rfl⟩, hb⟩
set_option maxHeartbeats 4000000 in
set_option maxRecDepth 100000 in
theorem known_any (w : World) (hT : Tabs w) : Calls Tryd.prog 6 #[] w fun e w' => e = .returned (.bool true) ∧ Below w.heap.size w w' := by
  have HT := Lib.hid hT
  clear hT
  go_enter Tryd.func6, Tryd.ntmps6
  go_wp2_with (go_at_call 13; refine (encode_known _ HT.out).mono ?_; rintro e w1 ⟨⟨a, c, rfl, hI⟩, hb1⟩; have HI := Lib.hid hI; have HB1 := Lib.hid hb1; clear hI hb1)
  refine (decode_known w1 (HT.out.below HB1.out) a c HI.out).mono ?_
  rintro e w2 ⟨⟨cv, rfl⟩, hb2⟩
  have HB2 := Lib.hid (HB1.out.trans (hb2.mono HB1.out.size))
  have HI2 := Lib.hid ((HI.out.keep hb2).more hb2.size)
  clear hb2
  go_wp2_with fail
  refine (decode_nil _ (HT.out.below (HB2.out.alloc HB2.out.size _))).mono ?_
  rintro e w3 ⟨⟨cw, rfl⟩, hb3⟩
  have b23 : Below w2.heap.size w2 w3 := ((Below.refl _ _).alloc (Nat.le_refl _) _).trans (hb3.mono (by simp))
  have zs3 : w2.heap.size < w3.heap.size := Nat.lt_of_lt_of_le (by simp) hb3.size
  have HB3 := Lib.hid (HB2.out.trans (b23.mono HB2.out.size))
  have HI3 := Lib.hid ((HI2.out.keep b23).more b23.size)
  have HO3 := Lib.hid ((BC.start w2 #[.int .u8 cv.k, .int .u32 cv.src, .int .u32 2, .int .u8 cv.v.k, .int .i64 cv.v.n, .string cv.v.s, .slice cv.v.la cv.v.ll cv.v.lc, .slice cv.v.oa cv.v.ol cv.v.oc, .slice cv.oa cv.ol cv.oc] 31).keep hb3 (by simp))
  clear hb3 b23
  go_wp2_with fail
  refine (value_known _ (HT.out.below (HB3.out.alloc HB3.out.size _))).mono ?_
  rintro e w4 ⟨⟨ra, rc, rfl⟩, hb4⟩
  have b34 : Below w3.heap.size w3 w4 := ((Below.refl _ _).alloc (Nat.le_refl _) _).trans (hb4.mono (by simp))
  have HB4 := Lib.hid (HB3.out.trans (b34.mono HB3.out.size))
  have k1 : (convert 22 9 (.slice a 9 c)).run Tryd.prog w4 = .ok (.string { data := #[3, 0, 0, 0, 1, 0, 0, 0, 2] }) w4 := conv_isB (HI3.out.keep b34)
  have o2 := (HO3.out.keep b34 zs3).at_ 2 _ rfl
  clear hb4 b34
  go_wp2_with fail
  go_returns
  exact ⟨rfl, HB4.out⟩
end Go.Proofs.YtcfbnmobfcabiaaDoor
namespace Go.Proofs.YtcfbnmobfcabiaaDoor
open Go.RowKit
theorem IsB.later_ {w w' : World} {a : Option Addr} {n c : Nat} {bs : List UInt8} (h : IsB w w.heap.size a n c bs) (hb : Below w.heap.size w w') : IsB w' w'.heap.size a n c bs := (h.keep hb).more hb.size
set_option maxHeartbeats 8000000 in
set_option maxRecDepth 100000 in
theorem codeValues_any (w : World) (hT : Tabs w) (l m : List Tk) (la : Option Addr) (ll lc : Nat) (ma : Option Addr) (ml mc : Nat) (hl : IsToks w w.heap.size l la ll lc) (hm : IsToks w w.heap.size m ma ml mc) :
    Calls Tryd.prog 5 #[.slice la ll lc, .slice ma ml mc] w fun e w' => e = .returned (.bool true) ∧ Below w.heap.size w w' := by
  obtain ⟨v, hv, hvw⟩ : ∃ v, (rawP 20 (l.take 60)).1 = v ∧ v.weight ≤ 4611686018427387904 := ⟨_, rfl, raw_weight l hl.sizes⟩
  obtain ⟨u, hu, hlu, hlen⟩ : ∃ u, (oneP 6 (m.take 60)).1 = u ∧ lightB u = true ∧ (encV u).length ≤ 60000 := ⟨_, rfl, (build_light m).1, (build_light m).2.2.2.2⟩
  have huw : u.weight ≤ 4611686018427387904 := by
    have := (build_light m).2.1
    rw [hu] at this; omega
  have HRAW := Lib.hid (fun W (hW : Below w.heap.size w W) => rawF_any W l la ll lc (hl.later_ hW))
  rw [hv] at HRAW
  have HBUILD := Lib.hid (fun W (hW : Below w.heap.size w W) => build_any W m ma ml mc (hm.later_ hW))
  rw [hu] at HBUILD
  obtain ⟨e, he⟩ : ∃ e, outN (lightB v) (encV v) = e := ⟨_, rfl⟩
  obtain ⟨bs, hbs⟩ : ∃ bs, outB (lightB v) (encV v) = bs := ⟨_, rfl⟩
  have hebd := outN_bnd (lightB v) (encV v)
  rw [he] at hebd
  have y1 : IntKind.i64.wrap e = e := IntWalk.i64_in _ (by omega)
  have y2 : wrap64 e = e := by rw [← wrapEq]; exact y1
  have hva := fun (W : World) (hT : Tabs W) (c : VC) (hc : IsVal W W.heap.size v c) => valueAny W hT v c hc hvw
  have hvr := fun (W : World) (hT : Tabs W) (c : VC) (hc : IsVal W W.heap.size v c) => refValueAny W hT v c hc hvw
  have hvu := fun (W : World) (hT : Tabs W) (c : VC) (hc : IsVal W W.heap.size u c) => valueAny W hT u c hc huw
  rw [he, hbs] at hva hvr
  rw [(build_out hlu hlen).1, (build_out hlu hlen).2] at hvu
  have HVA := Lib.hid hva
  have HVR := Lib.hid hvr
  have HVU := Lib.hid hvu
  have HLB := Lib.hid hlu
  have HLEN := Lib.hid hlen
  clear hv hu hvw huw he hbs hlu hlen hebd hva hvr hvu
  have HT := Lib.hid hT
  have HL := Lib.hid hl
  have HM := Lib.hid hm
  have k1 := hl.max; have k2 := hm.max; have k3 := hl.cap; have k4 := hm.cap
  clear hl hm hT
  go_enter Tryd.func5, Tryd.ntmps5
  go_wp2_with fail
  go_loopw [5, 6] (fun u i wr => Below w.heap.size w wr ∧ ∃ (j : Nat) (z : Int), j ≤ ll ∧ i = .int .i64 j ∧ u = .int .i64 z) (fun _ i _ => ll - (intOf i).toNat)
  case atStart => exact ⟨Below.refl _ _, 0, 0, Nat.zero_le _, rfl, rfl⟩
  case round =>
    obtain ⟨hb, j, z, hj, rfl, rfl⟩ := hrel
    have HB := Lib.hid hb
    by_cases hlt : j < ll
    · obtain ⟨b, o, hp, rfl, hbB, htk, hbd⟩ := (HL.out.keep hb).get hlt
      have d2 := htk.c2
      have hsz := hbd.s1
      obtain ⟨s, hs⟩ : ∃ s, (l[j]'hp).s = s := ⟨_, rfl⟩
      rw [hs] at d2 hsz
      have hbw : b < wr.heap.size := World.block_lt_of_cell? wr _ d2
      clear htk hbd hs hb
      go_wp2_with fail
      go_roundw
      case rel => exact ⟨HB.out, j + 1, _, by omega, by go_num, rfl⟩
      case measure => simp [intOf]; omega
    · clear hb
      go_wp2_with fail
      go_loopw [5, 7] (fun u i wr2 => Below w.heap.size w wr2 ∧ ∃ (j : Nat) (z : Int), j ≤ ml ∧ i = .int .i64 j ∧ u = .int .i64 z) (fun _ i _ => ml - (intOf i).toNat)
      case atStart => exact ⟨HB.out, 0, z, Nat.zero_le _, rfl, rfl⟩
      case round =>
        obtain ⟨hb, j2, z2, hj2, rfl, rfl⟩ := hrel
        have HB2 := Lib.hid hb
        by_cases hlt2 : j2 < ml
        · obtain ⟨b, o, hp, rfl, hbB, htk, hbd⟩ := (HM.out.keep hb).get hlt2
          have d2 := htk.c2
          have hsz := hbd.s1
          obtain ⟨s, hs⟩ : ∃ s, (m[j2]'hp).s = s := ⟨_, rfl⟩
          rw [hs] at d2 hsz
          have hbw : b < wr.heap.size := World.block_lt_of_cell? _ _ d2
          clear htk hbd hs hb
          go_wp2_with fail
          go_roundw
          case rel => exact ⟨HB2.out, j2 + 1, _, by omega, by go_num, rfl⟩
          case measure => simp [intOf]; omega
        · clear hb
          by_cases hz : 3000 < z2
          · go_wp2_with (go_at_call 6; refine (known_any _ (HT.out.below HB2.out)).mono ?_; rintro ek wk ⟨rfl, hbk⟩; have HBK := Lib.hid (HB2.out.trans (hbk.mono HB2.out.size)); clear hbk)
            go_returns
            exact ⟨rfl, HBK.out⟩
          · go_wp2_with (go_at_call 6; refine (known_any _ (HT.out.below HB2.out)).mono ?_; rintro ek wk ⟨rfl, hbk⟩; have HBK := Lib.hid (HB2.out.trans (hbk.mono HB2.out.size)); clear hbk)
            refine (HRAW.out wk HBK.out).mono ?_
            rintro ee w2 ⟨⟨cv, rfl, hIv⟩, hb2⟩
            have HV2 := Lib.hid hIv
            have HBB2 := Lib.hid (HBK.out.trans (hb2.mono HBK.out.size))
            clear hIv hb2
            go_wp2_with fail
            have al2 : Below w2.heap.size w2 (w2.alloc (.cells #[.int .u8 cv.k, .int .i64 cv.n, .string cv.s, .slice cv.la cv.ll cv.lc, .slice cv.oa cv.ol cv.oc] 28)) := (Below.refl _ _).alloc (Nat.le_refl _) _
            have bw2 := HBB2.out.trans (al2.mono HBB2.out.size)
            refine (HVA.out _ (HT.out.below bw2) cv (HV2.out.later_ al2)).mono ?_
            rintro ee w3 ⟨⟨aa, an, ac, rfl, hIa⟩, hb3⟩
            have b23 := al2.trans (hb3.mono al2.size)
            have HV3 := Lib.hid (HV2.out.later_ b23)
            have HA3 := Lib.hid hIa
            have D3 := (BC.start w2 #[.int .u8 cv.k, .int .i64 cv.n, .string cv.s, .slice cv.la cv.ll cv.lc, .slice cv.oa cv.ol cv.oc] 28).keep hb3 (by simp)
            have p0 := D3.at_ 0 _ rfl; have p1 := D3.at_ 1 _ rfl; have p2 := D3.at_ 2 _ rfl; have p3 := D3.at_ 3 _ rfl; have p4 := D3.at_ 4 _ rfl
            have za3 : w2.heap.size < w3.heap.size := D3.lt
            have HB3 := Lib.hid (HBB2.out.trans (b23.mono HBB2.out.size))
            clear al2 bw2 hIa hb3 b23 D3
            go_wp2_with fail
            refine (HVR.out _ (HT.out.below HB3.out) cv HV3.out).mono ?_
            rintro ee w4 ⟨⟨ba, bn, bc, rfl, hIb⟩, hb4⟩
            have HA4 := Lib.hid (HA3.out.later_ hb4)
            have HBI4 := Lib.hid hIb
            have HB4 := Lib.hid (HB3.out.trans (hb4.mono HB3.out.size))
            clear hIb hb4
            go_wp2_with fail
            refine (HBUILD.out w4 HB4.out).mono ?_
            rintro ee w5 ⟨⟨cu, rfl, hIu⟩, hb5⟩
            have hnum := hIu.num
            have hback := backR_light HLB.out hnum HLEN.out
            have HBACK := Lib.hid hback
            have HU5 := Lib.hid hIu
            have HA5 := Lib.hid (HA4.out.later_ hb5)
            have HBI5 := Lib.hid (HBI4.out.later_ hb5)
            have HB5 := Lib.hid (HB4.out.trans (hb5.mono HB4.out.size))
            clear hIu hb5 hnum hback
            go_wp2_with fail
            have al5 : Below w5.heap.size w5 (w5.alloc (.cells #[.int .u8 cu.k, .int .i64 cu.n, .string cu.s, .slice cu.la cu.ll cu.lc, .slice cu.oa cu.ol cu.oc] 28)) := (Below.refl _ _).alloc (Nat.le_refl _) _
            have bw5 := HB5.out.trans (al5.mono HB5.out.size)
            refine (HVU.out _ (HT.out.below bw5) cu (HU5.out.later_ al5)).mono ?_
            rintro ee w6 ⟨⟨da, dn, dc, rfl, hId⟩, hb6⟩
            have b56 := al5.trans (hb6.mono al5.size)
            have HU6 := Lib.hid (HU5.out.later_ b56)
            have HA6 := Lib.hid (HA5.out.later_ b56)
            have HBI6 := Lib.hid (HBI5.out.later_ b56)
            have HD6 := Lib.hid hId
            have HX6 := Lib.hid ((BC.start w5 #[.int .u8 cu.k, .int .i64 cu.n, .string cu.s, .slice cu.la cu.ll cu.lc, .slice cu.oa cu.ol cu.oc] 28).keep hb6 (by simp))
            have za6 : w5.heap.size < w6.heap.size := HX6.out.lt
            have HB6 := Lib.hid (HB5.out.trans (b56.mono HB5.out.size))
            clear al5 bw5 hId hb6 b56
            go_wp2_with fail
            refine (backR_any w6 (HT.out.below HB6.out) da dn dc (encV u) HD6.out (by have := HLEN.out; omega) HBACK.out).mono ?_
            rintro ee w7 ⟨⟨cx, rfl, hIx⟩, hb7⟩
            have al7 : Below w7.heap.size w7 (w7.alloc (.cells #[.int .u8 cx.k, .int .i64 cx.n, .string cx.s, .slice cx.la cx.ll cx.lc, .slice cx.oa cx.ol cx.oc] 28)) := (Below.refl _ _).alloc (Nat.le_refl _) _
            have b67 := hb7.trans (al7.mono hb7.size)
            have hc1 := conv_isB (HA6.out.later_ b67)
            have hc2 := conv_isB (HBI6.out.later_ b67)
            have HXX := Lib.hid (hIx.later_ al7)
            have HUU := Lib.hid (HU6.out.later_ b67)
            have D7 := HX6.out.keep hb7 za6
            have q0 := D7.at_ 0 _ rfl; have q1 := D7.at_ 1 _ rfl; have q2 := D7.at_ 2 _ rfl; have q3 := D7.at_ 3 _ rfl; have q4 := D7.at_ 4 _ rfl
            have za7 : w5.heap.size < w7.heap.size := D7.lt
            have HB7 := Lib.hid (HB6.out.trans (b67.mono HB6.out.size))
            clear hIx hb7 al7 b67 D7
            go_wp2_with fail
            refine (sameV_true _ u cx cu HXX.out HUU.out).mono ?_
            rintro ee w8 ⟨rfl, hb8⟩
            have HB8 := Lib.hid (HB7.out.trans (hb8.mono HB7.out.size))
            clear hb8
            go_wp2_with fail
            go_returns
            exact ⟨rfl, HB8.out⟩

end Go.Proofs.YtcfbnmobfcabiaaDoor
namespace Go.Proofs.YtcfbnmobfcabiaaDoor
open Go.Shelf
open Go.ChangeShapes Go.WideShapes Go.ChangeAt Go.RowKit Go.Lib

theorem codeValuesOwn : ownKnob Tryd.prog.godebug = none := by kernel_rfl
theorem codeValuesLaidOut : laidOutB Tryd.prog = true := by kernel_rfl

/-- The settled world, the two tables as their text lays them. -/
noncomputable def codeValuesWorld (os : Os) : World :=
  let w0 := World.holding Tryd.prog os ⟨#[], #[], []⟩
  let put (h : Array Obj) (g : Nat) (cs : Array Value) : Array Obj := h.modify g fun
    | .cells _ t frozen => .cells cs t frozen
    | o => o
  let h1 := put w0.heap 0 (Lib.firstTab.map fun z => Value.int .u8 z).toArray
  let h2 := put h1 1 ((List.range 16).flatMap fun i => [Value.int .u8 (Lib.accLo i), Value.int .u8 (Lib.accHi i)]).toArray
  { w0 with heap := h2 }
theorem codeValuesAccept : Rows.laid_unicode_utf8_acceptRanges (H := Unit) = Lib.acceptData := by kernel_rfl
theorem codeValuesLaid : Rows.codeValuesRow.laid = [("unicode/utf8.acceptRanges", Lib.acceptData), ("unicode/utf8.first", Lib.firstData)] := by
  show [("unicode/utf8.acceptRanges", Rows.laid_unicode_utf8_acceptRanges), ("unicode/utf8.first", Go.Pinned.utf8First)] = _
  rw [Pinned.utf8First_eq, codeValuesAccept]
theorem codeValuesLaidMet (os : Os) (args : Array Value) : laidMet Tryd.prog Rows.codeValuesRow.laid ((codeValuesWorld os).forCall (fun _ _ => 0) ⟨#[], args, []⟩).memory := by
  rw [codeValuesLaid]
  exact (LaidIn.of_run (l := [("unicode/utf8.acceptRanges", Lib.acceptData), ("unicode/utf8.first", Lib.firstData)]) [0, 1] 8 (by kernel_rfl) (by kernel_rfl) (by kernel_rfl) (by kernel_rfl)).met

theorem codeValuesWitness (os : Os) {H : Type} (enc : TypeId × Value → H) :
    (OpenSpec.ofChange Rows.codeValuesSpec).preRow enc Tryd.prog Tryd.f5 Rows.codeValuesRow.domain false Rows.codeValuesRow.laid ((codeValuesWorld os).forCall (fun _ _ => 0) ⟨#[], #[.slice none 0 0, .slice none 0 0], []⟩).memory #[.slice none 0 0, .slice none 0 0] := by
  have hw : (DataW.whole enc Tryd.prog ((codeValuesWorld os).forCall (fun _ _ => 0) ⟨#[], #[.slice none 0 0, .slice none 0 0], []⟩).memory Tryd.f5.params.toList (OpenSpec.ofChange Rows.codeValuesSpec).vars false #[Value.slice none 0 0, Value.slice none 0 0].toList 8).map (fun x => (x.1, x.2.1)) =
      some ([.nil, .nil], []) := by kernel_rfl
  obtain ⟨⟨x1, x2, x3⟩, hx, hx1⟩ := Option.map_eq_some_iff.1 hw
  simp only [Prod.mk.injEq] at hx1
  obtain ⟨rfl, rfl⟩ := hx1
  exact OpenSpec.preRow_of_cond 8 hx (by kernel_rfl) (fun k hk => by cases hk) (by kernel_rfl) (codeValuesLaidMet os _)

set_option maxRecDepth 100000 in
theorem codeValuesToks {H : Type} {enc : TypeId × Value → H} {W : World} {base : Nat} {v1 : Value} {d1 : DataW H} {p1 : List MemPlace} (hval : Value.okWide Tryd.prog W .any base 50 v1) (h1 : DataW.Trod enc Tryd.prog W 0 (fun _ => true) true 50 v1 d1 p1) (hz : ∀ n ∈ d1.weights Tryd.prog 50, n ≤ reachBytes) :
    ∃ (a : Option Addr) (n c : Nat) (l : List Tk), v1 = .slice a n c ∧ IsToks W W.heap.size l a n c := by
  obtain ⟨a1, len, cap, rfl⟩ := okWide_slice Tryd.underlying50 hval
  obtain ⟨fuel, hf⟩ := h1
  obtain ⟨a, n, c, l, hcs, hI⟩ := open_toks hf hz
  simp [Value.cells] at hcs
  obtain ⟨rfl, rfl, rfl⟩ := hcs
  exact ⟨_, _, _, l, rfl, hI⟩

set_option maxRecDepth 100000 in
set_option maxHeartbeats 2000000 in
theorem codeValuesLifted (os : Os) (started : os.Started) (H : Type) (enc : TypeId × Value → H) (F : Stop.Interp) :
    ReturnsInHanded {} Tryd.checked os 5 .any ((OpenSpec.ofChange Rows.codeValuesSpec).preRow enc Tryd.prog Tryd.f5 Rows.codeValuesRow.domain false Rows.codeValuesRow.laid) (((OpenSpec.ofChange Rows.codeValuesSpec).at F).post enc Tryd.prog Tryd.f5 false true false false) := by
  refine returnsInHanded_of_row (C := Tryd.checked) (s := OpenSpec.ofChange Rows.codeValuesSpec) codeValuesOwn started (by kernel_rfl) Tryd.func5
    (witness_row_atRef (enc := enc) (C := Tryd.checked) false (codeValuesWorld os) #[.slice none 0 0, .slice none 0 0] rfl (by kernel_rfl) (by kernel_rfl) (by kernel_rfl) (codeValuesWitness os enc)) ?_
  intro W base args ds gs before hval0 hW _ _ hsz hL _ _
  have hval : ∀ (j : Nat) t v, Tryd.f5.params[j]? = some t → args[j]? = some v → Value.okWide Tryd.prog W .any base t v := hval0
  have hW' := hW
  obtain ⟨p, q, hA0, hV0, rfl, _, _⟩ := hW
  have hA : DataW.TrodAll enc Tryd.prog W 0 (fun _ => true) true Tryd.f5.params.toList args.toList ds p := hA0
  rw [Tryd.params5] at hA hval
  obtain ⟨v0, v1, d0, d1, p0, p1, rfl, rfl, rfl, h0, h1⟩ := trodAll_two hA
  obtain ⟨rfl, rfl⟩ := trodVars_none hV0
  have hz0 : ∀ n ∈ d0.weights Tryd.prog 50, n ≤ reachBytes := fun n hn => by
    have := List.all_eq_true.1 hsz _ (DataW.weights_mem_each (j := 0) (t := 50) (d := d0) rfl rfl n hn)
    simpa using this
  have hz1 : ∀ n ∈ d1.weights Tryd.prog 50, n ≤ reachBytes := fun n hn => by
    have := List.all_eq_true.1 hsz _ (DataW.weights_mem_each (j := 1) (t := 50) (d := d1) rfl rfl n hn)
    simpa using this
  have k0 := h0
  have k1 := h1
  have lt0 : ∀ x ∈ p0, x.block < W.heap.size := by obtain ⟨m, hm⟩ := k0; exact DataW.trod_lt m _ _ _ hm
  have lt1 : ∀ x ∈ p1, x.block < W.heap.size := by obtain ⟨m, hm⟩ := k1; exact DataW.trod_lt m _ _ _ hm
  obtain ⟨a, n, c, l, rfl, hI⟩ := codeValuesToks (hval 0 50 v0 rfl rfl) h0 hz0
  obtain ⟨a', n', c', m, rfl, hI'⟩ := codeValuesToks (hval 1 50 v1 rfl rfl) h1 hz1
  clear hA0 hV0 hval0
  have htab : Tabs W :=
    utf8Tabs_of_readsT (U8Types.of196 Tryd.lays196) ⟨by kernel_rfl, by kernel_rfl, by kernel_rfl, by kernel_rfl, by kernel_rfl, by kernel_rfl, by kernel_rfl⟩ (by rw [← Pinned.utf8First_eq]; exact Lib.laidMet.reads hL (.tail _ (.head _))) (Lib.laidMet.reads hL (.head _))
  refine (codeValues_any W htab l m a n c a' n' c' hI hI').mono fun e W' ⟨he, bel⟩ => ?_
  subst he
  exact ⟨_, rfl, _, _, _, [], _, [], hW', trodAll_mk1 (shut_bool Tryd.underlying4 _), trodAll_cons_mk (Below.trod codeValuesLaidOut (by kernel_rfl) (of_decide_eq_true (by kernel_rfl)) k0 bel lt0) (trodAll_cons_mk (Below.trod codeValuesLaidOut (by kernel_rfl) (of_decide_eq_true (by kernel_rfl)) k1 bel lt1) trodAll_mk0), rfl, bel.frame _, fun h => by cases h⟩

theorem codeValuesRowHolds : Rows.CodeValuesSaid :=
  OpenClaim.holds_of_cond 5 Tryd.f5 rfl rfl rfl rfl rfl rfl rfl ⟨rfl, rfl, rfl, rfl, rfl⟩ rfl rfl rfl rfl rfl (by kernel_rfl) Tryd.func5 (by kernel_rfl)
    (of_decide_eq_true (by kernel_rfl)) (by unfold Func.isWrapper; rw [if_neg (of_decide_eq_false (by kernel_rfl))]; exact ⟨rfl, rfl⟩)
    (fun os started H enc _ F0 => by rw [OpenClaim.pre_eq_preRow]; exact codeValuesLifted os started H enc F0)

/-- THE STATEMENT. -/
theorem codeValues_holds : Rows.CodeValuesCardSaid :=
  Claim7.holds_tied_plain_at .later [] [.data, .pinned] true _ true
    codeValuesRowHolds (fun _ h => by cases h) (by kernel_rfl) (fun _ h => by cases h) codeValues_row_tie rfl ⟨rfl, rfl⟩ (by kernel_rfl) rfl
    (fun f fn hf hfn => by
      obtain rfl : f = 5 := Option.some.inj ((show Tryd.prog.funcNamed "conciliator/conciliatorlaw10.CodeValues" = some 5 by kernel_rfl).symm.trans hf) |>.symm
      obtain rfl : fn = Tryd.f5 := (Option.some.inj (Tryd.func5.symm.trans hfn)).symm
      exact ⟨by kernel_rfl, fun j t ht => by
        rw [Tryd.params5] at ht
        have h3 : t = 50 := by
          rcases j with _ | _ | j
          · simpa using ht.symm
          · simpa using ht.symm
          · simp at ht
        subst h3
        exact (show Tryd.prog.wantsStandIn 50 = false by kernel_rfl)⟩)
    (by kernel_rfl)
#print axioms codeValues_holds

end Go.Proofs.YtcfbnmobfcabiaaDoor
