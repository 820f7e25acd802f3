/-
  Contracts of the functions that the law reaches: Value, of what is not light. Reading, in plain Lean; values in new memory. reader.cut. take, many, text of the program's reader. reader.value's deferred call, and how the function is left. Rows that are being built, of what lies in new memory. reader.value: what stands in memory while it runs. reader.value, but for lists and objects. reader.value's loops: what stands at the head of a round. reader.step; boxes of cells while a reader runs. Pieces (Tok) in memory. What Raw builds of pieces, in plain Lean.
-/
import Derived.Test.YtcfbnmobfcabiaaDoorVal3
import Derived.Defers
import Derived.Recover
import Derived.Laws.BitsAllLaws
import Derived.Laws.IdiomStrings
import Derived.Lib.BufferRead
namespace Go.Proofs.YtcfbnmobfcabiaaDoor
open Go.RowKit
set_option maxHeartbeats 4000000 in
set_option maxRecDepth 100000 in
theorem value_no (w : World) (vk vn : Int) (vs : ByteArray) (vla : Option Addr) (vll vlc : Nat) (voa : Option Addr) (vol voc : Nat) (vv : V) (hv : IsVal w w.heap.size vv ⟨vk, vn, vs, vla, vll, vlc, voa, vol, voc⟩) (HS : Hid (∀ W, Below w.heap.size w W → Calls Tryd.prog 39 #[.agg #[.int .u8 vk, .int .i64 vn, .string vs, .slice vla vll vlc, .slice voa vol voc]] W fun e w' => e = .returned (.bool false) ∧ Below W.heap.size W w')) :
    Calls Tryd.prog 15 #[.agg #[.int .u8 vk, .int .i64 vn, .string vs, .slice vla vll vlc, .slice voa vol voc]] w fun e w' => (∃ a n c, e = .returned (.tuple #[.slice a n c, .int .u16 (outN false (encV vv))]) ∧ IsB w' w'.heap.size a n c (outB false (encV vv))) ∧ Below w.heap.size w w' := by
  have bx := BX.start w #[.int .u8 vk, .int .i64 vn, .string vs, .slice vla vll vlc, .slice voa vol voc] 28
  have HV : Hid (∀ W, Below w.heap.size w W → IsVal W w.heap.size vv ⟨vk, vn, vs, vla, vll, vlc, voa, vol, voc⟩) := fun W hW => hv.keep hW
  clear hv
  have e1 : outN false (encV vv) = 1 := rfl
  have e2 : outB false (encV vv) = [] := rfl
  rw [e1, e2]
  clear e1 e2
  go_enter Tryd.func15, Tryd.ntmps15
  go_wp2_with (go_at_call 39; (with_reducible refine (HS.out _ ?_).mono ?_); (focus (have := bx.below; have := bx.size; go_grown)); rintro e w1 ⟨rfl, hb1⟩; replace bx := bx.next hb1 (by go_grown) rfl; have zs : w.heap.size < w1.heap.size := bx.size; have y0 := bx.at_ 0 _ rfl; have y1 := bx.at_ 1 _ rfl; have y2 := bx.at_ 2 _ rfl; have y3 := bx.at_ 3 _ rfl; have y4 := bx.at_ 4 _ rfl)
  go_returns
  exact ⟨⟨none, 0, 0, rfl, .nil _ _⟩, by have := bx.below; have := bx.size; go_grown⟩
set_option maxHeartbeats 4000000 in
set_option maxRecDepth 100000 in
theorem refValue_no (w : World) (vk vn : Int) (vs : ByteArray) (vla : Option Addr) (vll vlc : Nat) (voa : Option Addr) (vol voc : Nat) (vv : V) (hv : IsVal w w.heap.size vv ⟨vk, vn, vs, vla, vll, vlc, voa, vol, voc⟩) (HS : Hid (∀ W, Below w.heap.size w W → Calls Tryd.prog 37 #[.agg #[.int .u8 vk, .int .i64 vn, .string vs, .slice vla vll vlc, .slice voa vol voc]] W fun e w' => e = .returned (.bool false) ∧ Below W.heap.size W w')) :
    Calls Tryd.prog 18 #[.agg #[.int .u8 vk, .int .i64 vn, .string vs, .slice vla vll vlc, .slice voa vol voc]] w fun e w' => (∃ a n c, e = .returned (.tuple #[.slice a n c, .int .i64 (outN false (encV vv))]) ∧ IsB w' w'.heap.size a n c (outB false (encV vv))) ∧ Below w.heap.size w w' := by
  have bx := BX.start w #[.int .u8 vk, .int .i64 vn, .string vs, .slice vla vll vlc, .slice voa vol voc] 28
  have HV : Hid (∀ W, Below w.heap.size w W → IsVal W w.heap.size vv ⟨vk, vn, vs, vla, vll, vlc, voa, vol, voc⟩) := fun W hW => hv.keep hW
  clear hv
  have e1 : outN false (encV vv) = 1 := rfl
  have e2 : outB false (encV vv) = [] := rfl
  rw [e1, e2]
  clear e1 e2
  go_enter Tryd.func18, Tryd.ntmps18
  go_wp2_with (go_at_call 37; (with_reducible refine (HS.out _ ?_).mono ?_); (focus (have := bx.below; have := bx.size; go_grown)); rintro e w1 ⟨rfl, hb1⟩; replace bx := bx.next hb1 (by go_grown) rfl; have zs : w.heap.size < w1.heap.size := bx.size; have y0 := bx.at_ 0 _ rfl; have y1 := bx.at_ 1 _ rfl; have y2 := bx.at_ 2 _ rfl; have y3 := bx.at_ 3 _ rfl; have y4 := bx.at_ 4 _ rfl)
  go_returns
  exact ⟨⟨none, 0, 0, rfl, .nil _ _⟩, by have := bx.below; have := bx.size; go_grown⟩
end Go.Proofs.YtcfbnmobfcabiaaDoor
namespace Go.Proofs.YtcfbnmobfcabiaaDoor
open Go.RowKit

/-- The number that bytes are, the greatest first. -/
def num (l : List UInt8) : Nat := l.foldl (fun n b => n * 256 + b.toNat) 0
theorem num_snoc (l : List UInt8) (b : UInt8) : num (l ++ [b]) = num l * 256 + b.toNat := by simp [num]
theorem num_lt_aux (l : List UInt8) : ∀ a, l.foldl (fun n b => n * 256 + b.toNat) a < (a + 1) * 256 ^ l.length := by
  induction l with
  | nil => intro a; simp
  | cons b l ih =>
    intro a
    have h1 := ih (a * 256 + b.toNat)
    have h2 := b.toNat_lt
    have h3 : (a * 256 + b.toNat + 1) * 256 ^ l.length ≤ ((a + 1) * 256) * 256 ^ l.length := Nat.mul_le_mul_right _ (by omega)
    have h4 : ((a + 1) * 256) * 256 ^ l.length = (a + 1) * 256 ^ (b :: l).length := by
      rw [List.length_cons, Nat.pow_succ, Nat.mul_assoc, Nat.mul_comm 256]
    simp only [List.foldl_cons]
    omega
theorem num_lt (l : List UInt8) : num l < 256 ^ l.length := by have := num_lt_aux l 0; simpa [num] using this
def rdN (k : Nat) (bs : List UInt8) : Option (Nat × List UInt8) := if k ≤ bs.length then some (num (bs.take k), bs.drop k) else none
def rdM (k : Nat) (bs : List UInt8) : Option (Nat × List UInt8) := (rdN k bs).bind fun p => if p.1 ≤ p.2.length then some p else none
def rdT (bs : List UInt8) : Option (ByteArray × List UInt8) := (rdM 4 bs).bind fun p => some (⟨(p.2.take p.1).toArray⟩, p.2.drop p.1)
def rdL {α : Type} (f : List UInt8 → Option (α × List UInt8)) : Nat → List UInt8 → Option (List α × List UInt8)
  | 0, bs => some ([], bs)
  | n + 1, bs => (rdL f n bs).bind fun p => (f p.2).bind fun q => some (p.1 ++ [q.1], q.2)
def rdV : Nat → List UInt8 → Option (V × List UInt8)
  | 0, _ => none
  | d + 1, bs => (rdN 1 bs).bind fun p =>
    if p.1 = 1 ∨ p.1 = 2 then (rdN 8 p.2).bind fun q => some (.mk p.1 (wrap64 q.1) .empty [] [], q.2)
    else if p.1 = 3 then (rdT p.2).bind fun q => some (.mk p.1 0 q.1 [] [], q.2)
    else if p.1 = 4 then (rdM 4 p.2).bind fun q => (rdL (fun x => rdV d x) q.1 q.2).bind fun r => some (.mk p.1 0 .empty r.1 [], r.2)
    else if p.1 = 5 then (rdM 4 p.2).bind fun q => (rdL (fun x => (rdT x).bind fun y => (rdV d y.2).bind fun z => some ((y.1, z.1), z.2)) q.1 q.2).bind fun r => some (.mk p.1 0 .empty [] r.1, r.2)
    else some (.mk p.1 0 .empty [] [], p.2)
def rdF (d : Nat) (bs : List UInt8) : Option ((ByteArray × V) × List UInt8) := (rdT bs).bind fun y => (rdV d y.2).bind fun z => some ((y.1, z.1), z.2)
def rdS (bs : List UInt8) : Option (St × List UInt8) := (rdN 1 bs).bind fun p =>
  if p.1 = 1 then (rdN 8 p.2).bind fun q => some (⟨true, wrap64 q.1, .empty⟩, q.2) else (rdT p.2).bind fun q => some (⟨false, 0, q.1⟩, q.2)
def rdI (bs : List UInt8) : Option (Int × List UInt8) := (rdN 8 bs).bind fun q => some (wrap64 q.1, q.2)
/-- What a kind says, where it is asked for. -/
def rdIf {α : Type} (b : Bool) (z : α) (f : List UInt8 → Option (α × List UInt8)) (bs : List UInt8) : Option (α × List UInt8) := if b = true then f bs else some (z, bs)
def rdC (bs : List UInt8) : Option (Cm × List UInt8) := (rdN 1 bs).bind fun p => (rdM 1 p.2).bind fun n => (rdL rdS n.1 n.2).bind fun q =>
  (rdIf (hasB (saysB p.1) 75) .empty rdT q.2).bind fun k => (rdIf (hasB (saysB p.1) 73) 0 rdI k.2).bind fun i => (rdIf (hasB (saysB p.1) 74) 0 rdI i.2).bind fun j =>
  (rdIf (hasB (saysB p.1) 78) 0 rdI j.2).bind fun m => (rdIf (hasB (saysB p.1) 86) V.none (rdV 18) m.2).bind fun v => (rdIf (hasB (saysB p.1) 83) .empty rdT v.2).bind fun s =>
  some (⟨p.1, q.1, k.1, i.1, j.1, m.1, v.1, s.1⟩, s.2)
def rdE (bs : List UInt8) : Option (En × List UInt8) := (rdN 1 bs).bind fun p => (rdN 4 p.2).bind fun s => (rdN 4 s.2).bind fun q =>
  if p.1 = 1 then (rdV 18 q.2).bind fun v => some (⟨p.1, s.1, q.1, v.1, []⟩, v.2)
  else if p.1 = 2 then (rdM 4 q.2).bind fun n => (rdL rdC n.1 n.2).bind fun l => some (⟨p.1, s.1, q.1, V.none, l.1⟩, l.2)
  else some (⟨p.1, s.1, q.1, V.none, []⟩, q.2)

theorem rdL_none {α : Type} {f : List UInt8 → Option (α × List UInt8)} {i n : Nat} {bs : List UInt8} (h : rdL f i bs = none) (hn : i ≤ n) : rdL f n bs = none := by
  induction n with
  | zero => have : i = 0 := by omega
            subst this; exact h
  | succ n ih =>
    by_cases hi : i = n + 1
    · subst hi; exact h
    · rw [rdL, ih (by omega)]; rfl

/-! ### Worlds of which some blocks are seen -/
open Classical in
/-- The blocks of S alone. -/
noncomputable def only (S : Nat → Prop) (w : World) : World := { w with heap := w.heap.mapIdx fun k o => if S k then o else .cells #[] 0 (0, 0) }
theorem only_size (S : Nat → Prop) (w : World) : (only S w).heap.size = w.heap.size := by simp [only]
theorem only_block {S : Nat → Prop} {w : World} {k : Nat} (h : S k) : (only S w).heap[k]? = w.heap[k]? := by
  simp [only, h]
theorem only_cell {S : Nat → Prop} {w : World} {b o : Nat} {u : Value} (h : (only S w).cell? ⟨b, o, none⟩ = some u) : S b ∧ w.cell? ⟨b, o, none⟩ = some u := by
  by_cases hs : S b
  · exact ⟨hs, (World.cell?_of_block (w' := only S w) (w := w) (by exact only_block hs)).symm.trans h⟩
  · exfalso
    have hlt := World.block_lt_of_cell? _ _ h
    rw [only_size] at hlt
    have hk : (only S w).heap[b]? = some (.cells #[] 0 (0, 0)) := by simp [only, hs, hlt]
    rw [cell_of_row _ b o #[] 0 (0, 0) hk] at h
    simp at h
theorem only_cell' {S : Nat → Prop} {w : World} {b o : Nat} {u : Value} (hs : S b) (h : w.cell? ⟨b, o, none⟩ = some u) : (only S w).cell? ⟨b, o, none⟩ = some u :=
  (World.cell?_of_block (w' := only S w) (w := w) (by exact only_block hs)).trans h

/-- Every cell that w shows below B, w' shows too. -/
def Shows (w w' : World) (B : Nat) : Prop := ∀ b o u, b < B → w.cell? ⟨b, o, none⟩ = some u → w'.cell? ⟨b, o, none⟩ = some u
theorem ValAt.sub {w w' : World} {B b o : Nat} {c : VC} (h : ValAt w b o c) (hs : Shows w w' B) (hB : b < B) : ValAt w' b o c :=
  ⟨hs _ _ _ hB h.c0, hs _ _ _ hB h.c1, hs _ _ _ hB h.c2, hs _ _ _ hB h.c3, hs _ _ _ hB h.c4⟩
theorem IsVal.sub {w w' : World} {B : Nat} (hs : Shows w w' B) {v : V} {c : VC} (h : IsVal w B v c) : IsVal w' B v c := by
  induction h with
  | mk c l o cl co lb lo ob oo hbd hl ho hla hoa hlc hlv hoc hov ihl iho =>
    refine .mk c l o cl co lb lo ob oo hbd hl ho hla hoa (fun i hi => (hlc i hi).sub hs (hla (by omega)).2) ihl (fun i hi => ?_) iho
    have hB := (hoa (by omega)).2
    obtain ⟨h1, h2, h3⟩ := hoc i hi
    exact ⟨hs _ _ _ hB h1, h2, h3.sub hs hB⟩
theorem IsSteps.sub {w w' : World} {B : Nat} (hs : Shows w w' B) {p : List St} {a : Option Addr} {n c : Nat} (h : IsSteps w B p a n c) : IsSteps w' B p a n c := by
  obtain ⟨h1, h2, h3, h4, b, o, h5, h6⟩ := h
  exact ⟨h1, h2, h3, h4, b, o, h5, fun i hi => ⟨⟨hs _ _ _ (h5 (by omega)).2 (h6 i hi).1.c0, hs _ _ _ (h5 (by omega)).2 (h6 i hi).1.c1, hs _ _ _ (h5 (by omega)).2 (h6 i hi).1.c2⟩, (h6 i hi).2⟩⟩
theorem IsComp.sub {w w' : World} {B : Nat} (hs : Shows w w' B) {x : Cm} {c : CC} (h : IsComp w B x c) : IsComp w' B x c := by
  cases h with
  | mk c p v hbd hp hv => exact .mk c p v hbd (hp.sub hs) (hv.sub hs)
theorem IsComps.sub {w w' : World} {B : Nat} (hs : Shows w w' B) {l : List Cm} {a : Option Addr} {n c : Nat} (h : IsComps w B l a n c) : IsComps w' B l a n c := by
  obtain ⟨h1, h2, h3, h4, b, o, f, h5, h6⟩ := h
  refine ⟨h1, h2, h3, h4, b, o, f, h5, fun i hi => ⟨?_, (h6 i hi).2.sub hs⟩⟩
  have hB := (h5 (by omega)).2
  have x := (h6 i hi).1
  exact ⟨hs _ _ _ hB x.c0, hs _ _ _ hB x.c1, hs _ _ _ hB x.c2, hs _ _ _ hB x.c3, hs _ _ _ hB x.c4, hs _ _ _ hB x.c5, x.c6.sub hs hB, hs _ _ _ hB x.c11⟩
theorem IsEntry.sub {w w' : World} {B : Nat} (hs : Shows w w' B) {x : En} {c : EC} (h : IsEntry w B x c) : IsEntry w' B x c := by
  cases h with
  | mk c v l hbd hv ho => exact .mk c v l hbd (hv.sub hs) (ho.sub hs)
theorem shows_only (S : Nat → Prop) (w : World) (B : Nat) : Shows (only S w) w B := fun _ _ _ _ h => (only_cell h).2
theorem shows_step {S S' : Nat → Prop} {w w' : World} (h : ∀ k, S k → k < w.heap.size → S' k ∧ w'.heap[k]? = w.heap[k]?) : Shows (only S w) (only S' w') w.heap.size := by
  intro b o u hb hc
  obtain ⟨hs, hc⟩ := only_cell hc
  obtain ⟨h1, h2⟩ := h b hs hb
  exact only_cell' h1 ((World.cell?_of_block h2).trans hc)

/-! ### The reader's block -/
/-- What a read leaves as it was. -/
structure RStep (w w' : World) (rb : Nat) : Prop where
  os : w'.os = w.os
  tape : w'.tape = w.tape
  output : w'.output = w.output
  size : w.heap.size ≤ w'.heap.size
  block : ∀ k, k < w.heap.size → k ≠ rb → w'.heap[k]? = w.heap[k]?
theorem RStep.refl (w : World) (rb : Nat) : RStep w w rb := ⟨rfl, rfl, rfl, Nat.le_refl _, fun _ _ _ => rfl⟩
theorem RStep.trans {w w1 w2 : World} {rb : Nat} (h : RStep w w1 rb) (g : RStep w1 w2 rb) : RStep w w2 rb :=
  ⟨g.os.trans h.os, g.tape.trans h.tape, g.output.trans h.output, Nat.le_trans h.size g.size, fun k hk hr => (g.block k (Nat.lt_of_lt_of_le hk h.size) hr).trans (h.block k hk hr)⟩
theorem RStep.of_below {w w' : World} (rb : Nat) (h : Below w.heap.size w w') : RStep w w' rb := ⟨h.os, h.tape, h.output, h.size, fun k hk _ => h.block k hk⟩
theorem RStep.below {w w' : World} {rb : Nat} (h : RStep w w' rb) (hB : rb ≤ w.heap.size) : Below rb w w' := ⟨h.os, h.tape, h.output, h.size, fun k hk => h.block k (by omega) (by omega)⟩
theorem RStep.cell {w w' : World} {rb : Nat} (h : RStep w w' rb) {b o : Nat} {u : Value} (hc : w.cell? ⟨b, o, none⟩ = some u) (hb : b ≠ rb) : w'.cell? ⟨b, o, none⟩ = some u :=
  (World.cell?_of_block (h.block b (World.block_lt_of_cell? w _ hc) hb)).trans hc
/-- The program's reader: what is left, how deep. -/
structure Rdr (w : World) (rb : Nat) (bs : List UInt8) (d : Int) : Prop where
  at_ : ∃ a n c, w.cell? ⟨rb, 0, none⟩ = some (.slice a n c) ∧ IsB w rb a n c bs
  deep : w.cell? ⟨rb, 1, none⟩ = some (.int .i64 d)
  f0 : w.frozen? ⟨rb, 0, none⟩ = false
  f1 : w.frozen? ⟨rb, 1, none⟩ = false
theorem Rdr.lt {w : World} {rb : Nat} {bs : List UInt8} {d : Int} (h : Rdr w rb bs d) : rb < w.heap.size := World.block_lt_of_cell? w _ h.deep
theorem Rdr.of_below {w w' : World} {rb : Nat} {bs : List UInt8} {d : Int} (h : Rdr w rb bs d) (hb : Below w.heap.size w w') : Rdr w' rb bs d := by
  have hlt := h.lt
  obtain ⟨⟨a, n, c, h0, hI⟩, h1, h2, h3⟩ := h
  exact ⟨⟨a, n, c, keep_cell hb h0 hlt, hI.keep (hb.mono (Nat.le_of_lt hlt))⟩, keep_cell hb h1 hlt, (hb.frozen hlt).trans h2, (hb.frozen hlt).trans h3⟩
theorem IsB.take {w : World} {B : Nat} {a : Option Addr} {n c : Nat} {bs : List UInt8} (h : IsB w B a n c bs) (k : Nat) (hk : k ≤ n) : IsB w B a k c (bs.take k) := by
  obtain ⟨h1, h2, h3, b, o, h5, h6⟩ := h
  refine ⟨by rw [List.length_take]; omega, by omega, h3, b, o, fun hn => h5 (by omega), fun i hi => ?_⟩
  rw [List.length_take] at hi
  have := h6 i (by omega)
  rw [List.getElem_take]; exact this
theorem IsB.get {w : World} {B : Nat} {a : Option Addr} {n c : Nat} {bs : List UInt8} (h : IsB w B a n c bs) {k : Nat} (hk : k < n) :
    ∃ b o, ∃ hp : k < bs.length, a = some ⟨b, o, none⟩ ∧ b < B ∧ w.cell? ⟨b, o + k, none⟩ = some (.int .u8 (bs[k].toNat : Int)) := by
  obtain ⟨h1, h2, h3, b, o, h5, h6⟩ := h
  exact ⟨b, o, by omega, (h5 (by omega)).1, (h5 (by omega)).2, h6 k (by omega)⟩
end Go.Proofs.YtcfbnmobfcabiaaDoor
namespace Go.Proofs.YtcfbnmobfcabiaaDoor
open Go.RowKit

/-- What a reader panics with. -/
def short : PanicEntry := { v := .iface 95 (.agg #[]), recovered := false }
theorem add_at (b o k : Nat) : (⟨b, o, none⟩ : Addr).add k = ⟨b, o + k, none⟩ := by unfold Addr.add; split <;> simp_all
theorem IsB.drop {w : World} {B : Nat} {a : Option Addr} {n c : Nat} {bs : List UInt8} (h : IsB w B a n c bs) (k : Nat) (hk : k ≤ n) : IsB w B (a.map (fun x => x.add k)) (n - k) (c - k) (bs.drop k) := by
  obtain ⟨h1, h2, h3, b, o, h5, h6⟩ := h
  refine ⟨by rw [List.length_drop]; omega, by omega, by omega, b, o + k, fun hn => ?_, fun i hi => ?_⟩
  · obtain ⟨e, hb⟩ := h5 (by omega)
    exact ⟨by rw [e, Option.map_some, add_at], hb⟩
  · rw [List.length_drop] at hi
    have := h6 (k + i) (by omega)
    rw [List.getElem_drop, Nat.add_assoc]; exact this
theorem IsB.none_left {w : World} {B : Nat} {a a' : Option Addr} {n c : Nat} {bs : List UInt8} (h : IsB w B a n c bs) (hn : n = 0) : IsB w B a' 0 0 bs := by
  obtain ⟨h1, h2, h3, b, o, h5, h6⟩ := h
  exact ⟨by omega, by omega, by omega, b, o, fun h => by omega, h6⟩
/-- The reader moves on: its first cell is set. -/
theorem Rdr.set {w : World} {rb : Nat} {bs bs' : List UInt8} {d : Int} (h : Rdr w rb bs d) {a : Option Addr} {n c : Nat} (hI : IsB w rb a n c bs') : Rdr (w.setCell ⟨rb, 0, none⟩ (.slice a n c)) rb bs' d ∧ RStep w (w.setCell ⟨rb, 0, none⟩ (.slice a n c)) rb := by
  obtain ⟨⟨a0, n0, c0, h0, _⟩, h1, h2, h3⟩ := h
  have hb : RStep w (w.setCell ⟨rb, 0, none⟩ (.slice a n c)) rb := ⟨rfl, rfl, rfl, by simp, fun k hk hr => heap_setCell_other _ _ _ _ hr⟩
  refine ⟨⟨⟨a, n, c, World.cell?_setCell_same _ _ _ h0, hI.keep (hb.below (Nat.le_of_lt (World.block_lt_of_cell? w _ h1)))⟩, ?_, by simpa using h2, by simpa using h3⟩, hb⟩
  rw [World.cell?_setCell_other]
  · exact h1
  · simp
theorem Rdr.setDeep {w : World} {rb : Nat} {bs : List UInt8} {d d' : Int} (h : Rdr w rb bs d) : Rdr (w.setCell ⟨rb, 1, none⟩ (.int .i64 d')) rb bs d' ∧ RStep w (w.setCell ⟨rb, 1, none⟩ (.int .i64 d')) rb := by
  obtain ⟨⟨a0, n0, c0, h0, hI⟩, h1, h2, h3⟩ := h
  have hb : RStep w (w.setCell ⟨rb, 1, none⟩ (.int .i64 d')) rb := ⟨rfl, rfl, rfl, by simp, fun k hk hr => heap_setCell_other _ _ _ _ hr⟩
  refine ⟨⟨⟨a0, n0, c0, ?_, hI.keep (hb.below (Nat.le_of_lt (World.block_lt_of_cell? w _ h1)))⟩, World.cell?_setCell_same _ _ _ h1, by simpa using h2, by simpa using h3⟩, hb⟩
  rw [World.cell?_setCell_other]
  · exact h0
  · simp

theorem cut_none (w : World) (rb : Nat) (bs : List UInt8) (d : Int) (h : Rdr w rb bs d) (k : Nat) (hk : bs.length < k) :
    Calls Tryd.prog 79 #[.pointer (some ⟨rb, 0, none⟩), .int .i64 k] w fun e w' => e = .panicked [short] ∧ w' = w := by
  obtain ⟨⟨a, n, c, h0, hI⟩, h1, h2, h3⟩ := h
  have hn := hI.len
  have hkn : n < k := by omega
  clear hI hk hn
  go_enter Tryd.func79, Tryd.ntmps79
  go_wp2_with fail
  exact ⟨rfl, rfl, rfl⟩
theorem cut_some (w : World) (rb : Nat) (bs : List UInt8) (d : Int) (h : Rdr w rb bs d) (k : Nat) (hk : k ≤ bs.length) :
    Calls Tryd.prog 79 #[.pointer (some ⟨rb, 0, none⟩), .int .i64 k] w fun e w' => (∃ a n c, e = .returned (.slice a n c) ∧ IsB w' rb a n c (bs.take k)) ∧ Rdr w' rb (bs.drop k) d ∧ RStep w w' rb := by
  have H := Lib.hid h
  obtain ⟨⟨a, n, c, h0, hI⟩, h1, h2, h3⟩ := h
  have HI := Lib.hid hI
  have hn := hI.len
  have hc := hI.cap
  have hm := hI.max
  have hkn : k ≤ n := by omega
  have hlt : rb < w.heap.size := World.block_lt_of_cell? w _ h1
  clear hI hk hn
  by_cases e : c = k
  · subst e
    have hz : n - c = 0 := by omega
    go_enter Tryd.func79, Tryd.ntmps79
    go_wp2_with fail
    go_returns
    have hD := H.out.set ((HI.out.drop c hkn).none_left (a' := a) hz)
    exact ⟨⟨a, c, c, rfl, (HI.out.take c hkn).keep (hD.2.below (Nat.le_of_lt hlt))⟩, hD⟩
  · have hck : k < c := by omega
    go_enter Tryd.func79, Tryd.ntmps79
    go_wp2_with fail
    go_returns
    have hD := H.out.set (HI.out.drop k hkn)
    exact ⟨⟨a, k, c, rfl, (HI.out.take k hkn).keep (hD.2.below (Nat.le_of_lt hlt))⟩, hD⟩
end Go.Proofs.YtcfbnmobfcabiaaDoor
namespace Go.Proofs.YtcfbnmobfcabiaaDoor
open Go.RowKit

theorem num_take (l : List UInt8) (k : Nat) (h : k < l.length) : num (l.take (k + 1)) = num (l.take k) * 256 + l[k].toNat := by
  rw [take_snoc l k h, num_snoc]
theorem or_byte (m y : Nat) (hm : m < 72057594037927936) (hy : y < 256) : bits BinOp.or IntKind.u64 ((m : Int) * 256) (y : Int) = ((m * 256 + y : Nat) : Int) := by
  have e : (m : Int) * 256 = ((m * 256 : Nat) : Int) := by omega
  have h : m * 256 + y = m * 256 ||| y := by
    have := Nat.shiftLeft_add_eq_or_of_lt (show y < 2 ^ 8 by omega) m
    simpa [Nat.shiftLeft_eq] using this
  have h2 := u64_or_nat (m * 256) y (by omega) (by omega)
  have h3 : bits BinOp.or IntKind.u64 ((m : Int) * 256) (y : Int) = bits BinOp.or IntKind.u64 ((m * 256 : Nat) : Int) (y : Int) := congrArg (fun z => bits BinOp.or IntKind.u64 z (y : Int)) e
  exact h3.trans (h2.trans (congrArg (fun z : Nat => (z : Int)) h.symm))
theorem wrapEq (x : Int) : IntKind.i64.wrap x = wrap64 x := by
  rw [IntKind.wrap_i64, wrap64]
theorem conv_isB {w : World} {B : Nat} {a : Option Addr} {n c : Nat} {bs : List UInt8} (h : IsB w B a n c bs) : (convert 22 9 (.slice a n c)).run Tryd.prog w = .ok (.string ⟨bs.toArray⟩) w := by
  have hu : Tryd.prog.underlying 5 = some (.int .u8) := by kernel_rfl
  obtain ⟨rfl, h2, h3, b, o, h5, h6⟩ := h
  cases a with
  | some a =>
    by_cases hz : 0 < bs.length
    · obtain ⟨e, hb⟩ := h5 hz
      have e := Option.some.inj e
      subst e
      exact run_convert_bytes_back w _ _ 5 _ c bs Tryd.underlying22 hu Tryd.underlying9 (fun j hj => by rw [add_at]; exact h6 j hj)
    · have : bs = [] := List.length_eq_zero_iff.1 (by omega)
      subst this
      exact run_convert_bytes_back w _ _ 5 _ c [] Tryd.underlying22 hu Tryd.underlying9 (fun j hj => by cases hj)
  | none =>
    have : bs = [] := by
      cases bs with
      | nil => rfl
      | cons x r => obtain ⟨e, _⟩ := h5 (by simp); cases e
    subst this
    exact Lib.run_convert_nil_bytes w _ _ 5 c Tryd.underlying22 hu Tryd.underlying9

set_option maxHeartbeats 4000000 in
set_option maxRecDepth 100000 in
theorem takeU8_cut (w : World) (rb : Nat) (bs : List UInt8) (d : Int) (h : Rdr w rb bs d) (k : Nat) (hk8 : k ≤ 8) (hk : k ≤ bs.length) :
    Calls Tryd.prog 46 #[.pointer (some ⟨rb, 0, none⟩), .int .i64 k] w fun e w' => e = .returned (.int .u8 (IntKind.u8.wrap (num (bs.take k)))) ∧ Rdr w' rb (bs.drop k) d ∧ RStep w w' rb := by
  have HC := Lib.hid (cut_some w rb bs d h k hk)
  have hl : (bs.take k).length = k := by rw [List.length_take]; omega
  obtain ⟨ts, hts⟩ : ∃ ts, bs.take k = ts := ⟨_, rfl⟩
  rw [hts] at HC hl ⊢
  clear h hts hk
  go_enter Tryd.func46, Tryd.ntmps46
  go_wp2_with (go_at_call 79; (with_reducible refine (HC.out).mono ?_); rintro e w1 ⟨⟨a, n, c, rfl, hI⟩, hR, hS⟩; have hn := hI.len; have hc1 := hI.cap; have hc2 := hI.max; have HI := Lib.hid hI; have HN := Lib.hid hn; clear hI hn)
  go_loopw [5, 7, 12] (fun x _ i wr => wr = w1 ∧ ∃ j : Nat, j ≤ n ∧ i = .int .i64 j ∧ x = .int .u64 (num (ts.take j) : Int)) (fun _ _ i _ => n - (intOf i).toNat)
  case atStart => exact ⟨rfl, 0, Nat.zero_le _, rfl, rfl⟩
  case round =>
    obtain ⟨rfl, j, hj, rfl, rfl⟩ := hrel
    by_cases hlt : j < n
    · obtain ⟨b, o, hp, rfl, hb, hcell⟩ := HI.out.get hlt
      have hlt2 : num (ts.take j) < 72057594037927936 := by
        have h1 := num_lt (ts.take j)
        have h2 : (ts.take j).length ≤ 7 := by rw [List.length_take]; have := HN.out; omega
        exact Nat.lt_of_lt_of_le h1 (Nat.le_trans (Nat.pow_le_pow_right (by omega) h2) (by decide))
      obtain ⟨m, hm⟩ : ∃ m, num (ts.take j) = m := ⟨_, rfl⟩
      obtain ⟨y, hy⟩ : ∃ y, (ts[j]'hp).toNat = y := ⟨_, rfl⟩
      have hy2 : y < 256 := by rw [← hy]; exact (ts[j]'hp).toNat_lt
      have ht := num_take ts j hp
      rw [hm, hy] at ht
      rw [hm] at hlt2 ⊢
      rw [hy] at hcell
      have HT := Lib.hid ht
      have HO := Lib.hid (or_byte m y hlt2 hy2)
      clear ht hm hy
      go_wp2_with fail
      go_roundw
      case rel => exact ⟨trivial, j + 1, by omega, by go_num, by rw [HT.out, HO.out]⟩
      case measure => simp [intOf]; omega
    · go_wp2_with fail
      go_returns
      exact ⟨by rw [List.take_of_length_le (by have := HN.out; omega)] <;> rfl, hR, hS⟩
set_option maxHeartbeats 1000000 in
set_option maxRecDepth 100000 in
theorem takeU8_none (w : World) (rb : Nat) (bs : List UInt8) (d : Int) (h : Rdr w rb bs d) (k : Nat) (hr : rdN k bs = none) :
    Calls Tryd.prog 46 #[.pointer (some ⟨rb, 0, none⟩), .int .i64 k] w fun e w' => e = .panicked [short] ∧ w' = w := by
  have HC := Lib.hid (cut_none w rb bs d h k (by unfold rdN at hr; split at hr <;> first | omega | cases hr))
  clear h hr
  go_enter Tryd.func46, Tryd.ntmps46
  go_wp2_with (go_at_call 79; (with_reducible refine (HC.out).mono ?_); rintro e w1 ⟨rfl, rfl⟩)
  exact ⟨rfl, rfl, rfl⟩
theorem rdN_some {k n : Nat} {bs r : List UInt8} (hr : rdN k bs = some (n, r)) : k ≤ bs.length ∧ num (bs.take k) = n ∧ bs.drop k = r := by
  unfold rdN at hr; split at hr
  · injection hr with hr; injection hr with h1 h2; exact ⟨by assumption, h1, h2⟩
  · cases hr
theorem takeU8_some (w : World) (rb : Nat) (bs : List UInt8) (d : Int) (h : Rdr w rb bs d) (k : Nat) (hk8 : k ≤ 8) {n : Nat} {r : List UInt8} (hr : rdN k bs = some (n, r)) :
    Calls Tryd.prog 46 #[.pointer (some ⟨rb, 0, none⟩), .int .i64 k] w fun e w' => e = .returned (.int .u8 (IntKind.u8.wrap n)) ∧ Rdr w' rb r d ∧ RStep w w' rb := by
  obtain ⟨h1, rfl, rfl⟩ := rdN_some hr
  exact takeU8_cut w rb bs d h k hk8 h1

set_option maxHeartbeats 4000000 in
set_option maxRecDepth 100000 in
theorem takeInt_cut (w : World) (rb : Nat) (bs : List UInt8) (d : Int) (h : Rdr w rb bs d) (k : Nat) (hk8 : k ≤ 8) (hk : k ≤ bs.length) :
    Calls Tryd.prog 80 #[.pointer (some ⟨rb, 0, none⟩), .int .i64 k] w fun e w' => e = .returned (.int .i64 (IntKind.i64.wrap (num (bs.take k)))) ∧ Rdr w' rb (bs.drop k) d ∧ RStep w w' rb := by
  have HC := Lib.hid (cut_some w rb bs d h k hk)
  have hl : (bs.take k).length = k := by rw [List.length_take]; omega
  obtain ⟨ts, hts⟩ : ∃ ts, bs.take k = ts := ⟨_, rfl⟩
  rw [hts] at HC hl ⊢
  clear h hts hk
  go_enter Tryd.func80, Tryd.ntmps80
  go_wp2_with (go_at_call 79; (with_reducible refine (HC.out).mono ?_); rintro e w1 ⟨⟨a, n, c, rfl, hI⟩, hR, hS⟩; have hn := hI.len; have hc1 := hI.cap; have hc2 := hI.max; have HI := Lib.hid hI; have HN := Lib.hid hn; clear hI hn)
  go_loopw [5, 7, 12] (fun x _ i wr => wr = w1 ∧ ∃ j : Nat, j ≤ n ∧ i = .int .i64 j ∧ x = .int .u64 (num (ts.take j) : Int)) (fun _ _ i _ => n - (intOf i).toNat)
  case atStart => exact ⟨rfl, 0, Nat.zero_le _, rfl, rfl⟩
  case round =>
    obtain ⟨rfl, j, hj, rfl, rfl⟩ := hrel
    by_cases hlt : j < n
    · obtain ⟨b, o, hp, rfl, hb, hcell⟩ := HI.out.get hlt
      have hlt2 : num (ts.take j) < 72057594037927936 := by
        have h1 := num_lt (ts.take j)
        have h2 : (ts.take j).length ≤ 7 := by rw [List.length_take]; have := HN.out; omega
        exact Nat.lt_of_lt_of_le h1 (Nat.le_trans (Nat.pow_le_pow_right (by omega) h2) (by decide))
      obtain ⟨m, hm⟩ : ∃ m, num (ts.take j) = m := ⟨_, rfl⟩
      obtain ⟨y, hy⟩ : ∃ y, (ts[j]'hp).toNat = y := ⟨_, rfl⟩
      have hy2 : y < 256 := by rw [← hy]; exact (ts[j]'hp).toNat_lt
      have ht := num_take ts j hp
      rw [hm, hy] at ht
      rw [hm] at hlt2 ⊢
      rw [hy] at hcell
      have HT := Lib.hid ht
      have HO := Lib.hid (or_byte m y hlt2 hy2)
      clear ht hm hy
      go_wp2_with fail
      go_roundw
      case rel => exact ⟨trivial, j + 1, by omega, by go_num, by rw [HT.out, HO.out]⟩
      case measure => simp [intOf]; omega
    · go_wp2_with fail
      go_returns
      exact ⟨by rw [List.take_of_length_le (by have := HN.out; omega)] <;> exact ret_int (wrapEq _).symm, hR, hS⟩
set_option maxHeartbeats 1000000 in
set_option maxRecDepth 100000 in
theorem takeInt_none (w : World) (rb : Nat) (bs : List UInt8) (d : Int) (h : Rdr w rb bs d) (k : Nat) (hr : rdN k bs = none) :
    Calls Tryd.prog 80 #[.pointer (some ⟨rb, 0, none⟩), .int .i64 k] w fun e w' => e = .panicked [short] ∧ w' = w := by
  have HC := Lib.hid (cut_none w rb bs d h k (by unfold rdN at hr; split at hr <;> first | omega | cases hr))
  clear h hr
  go_enter Tryd.func80, Tryd.ntmps80
  go_wp2_with (go_at_call 79; (with_reducible refine (HC.out).mono ?_); rintro e w1 ⟨rfl, rfl⟩)
  exact ⟨rfl, rfl, rfl⟩
theorem takeInt_some (w : World) (rb : Nat) (bs : List UInt8) (d : Int) (h : Rdr w rb bs d) (k : Nat) (hk8 : k ≤ 8) {n : Nat} {r : List UInt8} (hr : rdN k bs = some (n, r)) :
    Calls Tryd.prog 80 #[.pointer (some ⟨rb, 0, none⟩), .int .i64 k] w fun e w' => e = .returned (.int .i64 (IntKind.i64.wrap n)) ∧ Rdr w' rb r d ∧ RStep w w' rb := by
  obtain ⟨h1, rfl, rfl⟩ := rdN_some hr
  exact takeInt_cut w rb bs d h k hk8 h1

set_option maxHeartbeats 4000000 in
set_option maxRecDepth 100000 in
theorem takeU32_cut (w : World) (rb : Nat) (bs : List UInt8) (d : Int) (h : Rdr w rb bs d) (k : Nat) (hk8 : k ≤ 8) (hk : k ≤ bs.length) :
    Calls Tryd.prog 47 #[.pointer (some ⟨rb, 0, none⟩), .int .i64 k] w fun e w' => e = .returned (.int .u32 (IntKind.u32.wrap (num (bs.take k)))) ∧ Rdr w' rb (bs.drop k) d ∧ RStep w w' rb := by
  have HC := Lib.hid (cut_some w rb bs d h k hk)
  have hl : (bs.take k).length = k := by rw [List.length_take]; omega
  obtain ⟨ts, hts⟩ : ∃ ts, bs.take k = ts := ⟨_, rfl⟩
  rw [hts] at HC hl ⊢
  clear h hts hk
  go_enter Tryd.func47, Tryd.ntmps47
  go_wp2_with (go_at_call 79; (with_reducible refine (HC.out).mono ?_); rintro e w1 ⟨⟨a, n, c, rfl, hI⟩, hR, hS⟩; have hn := hI.len; have hc1 := hI.cap; have hc2 := hI.max; have HI := Lib.hid hI; have HN := Lib.hid hn; clear hI hn)
  go_loopw [5, 7, 12] (fun x _ i wr => wr = w1 ∧ ∃ j : Nat, j ≤ n ∧ i = .int .i64 j ∧ x = .int .u64 (num (ts.take j) : Int)) (fun _ _ i _ => n - (intOf i).toNat)
  case atStart => exact ⟨rfl, 0, Nat.zero_le _, rfl, rfl⟩
  case round =>
    obtain ⟨rfl, j, hj, rfl, rfl⟩ := hrel
    by_cases hlt : j < n
    · obtain ⟨b, o, hp, rfl, hb, hcell⟩ := HI.out.get hlt
      have hlt2 : num (ts.take j) < 72057594037927936 := by
        have h1 := num_lt (ts.take j)
        have h2 : (ts.take j).length ≤ 7 := by rw [List.length_take]; have := HN.out; omega
        exact Nat.lt_of_lt_of_le h1 (Nat.le_trans (Nat.pow_le_pow_right (by omega) h2) (by decide))
      obtain ⟨m, hm⟩ : ∃ m, num (ts.take j) = m := ⟨_, rfl⟩
      obtain ⟨y, hy⟩ : ∃ y, (ts[j]'hp).toNat = y := ⟨_, rfl⟩
      have hy2 : y < 256 := by rw [← hy]; exact (ts[j]'hp).toNat_lt
      have ht := num_take ts j hp
      rw [hm, hy] at ht
      rw [hm] at hlt2 ⊢
      rw [hy] at hcell
      have HT := Lib.hid ht
      have HO := Lib.hid (or_byte m y hlt2 hy2)
      clear ht hm hy
      go_wp2_with fail
      go_roundw
      case rel => exact ⟨trivial, j + 1, by omega, by go_num, by rw [HT.out, HO.out]⟩
      case measure => simp [intOf]; omega
    · go_wp2_with fail
      go_returns
      exact ⟨by rw [List.take_of_length_le (by have := HN.out; omega)] <;> rfl, hR, hS⟩
set_option maxHeartbeats 1000000 in
set_option maxRecDepth 100000 in
theorem takeU32_none (w : World) (rb : Nat) (bs : List UInt8) (d : Int) (h : Rdr w rb bs d) (k : Nat) (hr : rdN k bs = none) :
    Calls Tryd.prog 47 #[.pointer (some ⟨rb, 0, none⟩), .int .i64 k] w fun e w' => e = .panicked [short] ∧ w' = w := by
  have HC := Lib.hid (cut_none w rb bs d h k (by unfold rdN at hr; split at hr <;> first | omega | cases hr))
  clear h hr
  go_enter Tryd.func47, Tryd.ntmps47
  go_wp2_with (go_at_call 79; (with_reducible refine (HC.out).mono ?_); rintro e w1 ⟨rfl, rfl⟩)
  exact ⟨rfl, rfl, rfl⟩
theorem takeU32_some (w : World) (rb : Nat) (bs : List UInt8) (d : Int) (h : Rdr w rb bs d) (k : Nat) (hk8 : k ≤ 8) {n : Nat} {r : List UInt8} (hr : rdN k bs = some (n, r)) :
    Calls Tryd.prog 47 #[.pointer (some ⟨rb, 0, none⟩), .int .i64 k] w fun e w' => e = .returned (.int .u32 (IntKind.u32.wrap n)) ∧ Rdr w' rb r d ∧ RStep w w' rb := by
  obtain ⟨h1, rfl, rfl⟩ := rdN_some hr
  exact takeU32_cut w rb bs d h k hk8 h1

set_option maxHeartbeats 4000000 in
set_option maxRecDepth 100000 in
theorem takeI64_cut (w : World) (rb : Nat) (bs : List UInt8) (d : Int) (h : Rdr w rb bs d) (k : Nat) (hk8 : k ≤ 8) (hk : k ≤ bs.length) :
    Calls Tryd.prog 57 #[.pointer (some ⟨rb, 0, none⟩), .int .i64 k] w fun e w' => e = .returned (.int .i64 (IntKind.i64.wrap (num (bs.take k)))) ∧ Rdr w' rb (bs.drop k) d ∧ RStep w w' rb := by
  have HC := Lib.hid (cut_some w rb bs d h k hk)
  have hl : (bs.take k).length = k := by rw [List.length_take]; omega
  obtain ⟨ts, hts⟩ : ∃ ts, bs.take k = ts := ⟨_, rfl⟩
  rw [hts] at HC hl ⊢
  clear h hts hk
  go_enter Tryd.func57, Tryd.ntmps57
  go_wp2_with (go_at_call 79; (with_reducible refine (HC.out).mono ?_); rintro e w1 ⟨⟨a, n, c, rfl, hI⟩, hR, hS⟩; have hn := hI.len; have hc1 := hI.cap; have hc2 := hI.max; have HI := Lib.hid hI; have HN := Lib.hid hn; clear hI hn)
  go_loopw [5, 7, 12] (fun x _ i wr => wr = w1 ∧ ∃ j : Nat, j ≤ n ∧ i = .int .i64 j ∧ x = .int .u64 (num (ts.take j) : Int)) (fun _ _ i _ => n - (intOf i).toNat)
  case atStart => exact ⟨rfl, 0, Nat.zero_le _, rfl, rfl⟩
  case round =>
    obtain ⟨rfl, j, hj, rfl, rfl⟩ := hrel
    by_cases hlt : j < n
    · obtain ⟨b, o, hp, rfl, hb, hcell⟩ := HI.out.get hlt
      have hlt2 : num (ts.take j) < 72057594037927936 := by
        have h1 := num_lt (ts.take j)
        have h2 : (ts.take j).length ≤ 7 := by rw [List.length_take]; have := HN.out; omega
        exact Nat.lt_of_lt_of_le h1 (Nat.le_trans (Nat.pow_le_pow_right (by omega) h2) (by decide))
      obtain ⟨m, hm⟩ : ∃ m, num (ts.take j) = m := ⟨_, rfl⟩
      obtain ⟨y, hy⟩ : ∃ y, (ts[j]'hp).toNat = y := ⟨_, rfl⟩
      have hy2 : y < 256 := by rw [← hy]; exact (ts[j]'hp).toNat_lt
      have ht := num_take ts j hp
      rw [hm, hy] at ht
      rw [hm] at hlt2 ⊢
      rw [hy] at hcell
      have HT := Lib.hid ht
      have HO := Lib.hid (or_byte m y hlt2 hy2)
      clear ht hm hy
      go_wp2_with fail
      go_roundw
      case rel => exact ⟨trivial, j + 1, by omega, by go_num, by rw [HT.out, HO.out]⟩
      case measure => simp [intOf]; omega
    · go_wp2_with fail
      go_returns
      exact ⟨by rw [List.take_of_length_le (by have := HN.out; omega)] <;> exact ret_int (wrapEq _).symm, hR, hS⟩
set_option maxHeartbeats 1000000 in
set_option maxRecDepth 100000 in
theorem takeI64_none (w : World) (rb : Nat) (bs : List UInt8) (d : Int) (h : Rdr w rb bs d) (k : Nat) (hr : rdN k bs = none) :
    Calls Tryd.prog 57 #[.pointer (some ⟨rb, 0, none⟩), .int .i64 k] w fun e w' => e = .panicked [short] ∧ w' = w := by
  have HC := Lib.hid (cut_none w rb bs d h k (by unfold rdN at hr; split at hr <;> first | omega | cases hr))
  clear h hr
  go_enter Tryd.func57, Tryd.ntmps57
  go_wp2_with (go_at_call 79; (with_reducible refine (HC.out).mono ?_); rintro e w1 ⟨rfl, rfl⟩)
  exact ⟨rfl, rfl, rfl⟩
theorem takeI64_some (w : World) (rb : Nat) (bs : List UInt8) (d : Int) (h : Rdr w rb bs d) (k : Nat) (hk8 : k ≤ 8) {n : Nat} {r : List UInt8} (hr : rdN k bs = some (n, r)) :
    Calls Tryd.prog 57 #[.pointer (some ⟨rb, 0, none⟩), .int .i64 k] w fun e w' => e = .returned (.int .i64 (IntKind.i64.wrap n)) ∧ Rdr w' rb r d ∧ RStep w w' rb := by
  obtain ⟨h1, rfl, rfl⟩ := rdN_some hr
  exact takeI64_cut w rb bs d h k hk8 h1

theorem rdN_lt {k n : Nat} {bs r : List UInt8} (hr : rdN k bs = some (n, r)) : n < 256 ^ k := by
  obtain ⟨h1, rfl, rfl⟩ := rdN_some hr
  have := num_lt (bs.take k)
  rwa [List.length_take, Nat.min_eq_left h1] at this

theorem takeU81_some (w : World) (rb : Nat) (bs : List UInt8) (d : Int) (h : Rdr w rb bs d) {n : Nat} {r : List UInt8} (hr : rdN 1 bs = some (n, r)) :
    Calls Tryd.prog 46 #[.pointer (some ⟨rb, 0, none⟩), .int .i64 1] w fun e w' => e = .returned (.int .u8 n) ∧ Rdr w' rb r d ∧ RStep w w' rb := by
  have hb := rdN_lt hr
  have := takeU8_some w rb bs d h 1 (by omega) hr
  rwa [show IntKind.u8.wrap (n : Int) = n by simp [IntKind.wrap, IntKind.bits, IntKind.signed]; omega] at this
theorem takeU81_none (w : World) (rb : Nat) (bs : List UInt8) (d : Int) (h : Rdr w rb bs d) (hr : rdN 1 bs = none) :
    Calls Tryd.prog 46 #[.pointer (some ⟨rb, 0, none⟩), .int .i64 1] w fun e w' => e = .panicked [short] ∧ w' = w := takeU8_none w rb bs d h 1 hr

theorem takeInt8_some (w : World) (rb : Nat) (bs : List UInt8) (d : Int) (h : Rdr w rb bs d) {n : Nat} {r : List UInt8} (hr : rdN 8 bs = some (n, r)) :
    Calls Tryd.prog 80 #[.pointer (some ⟨rb, 0, none⟩), .int .i64 8] w fun e w' => e = .returned (.int .i64 (IntKind.i64.wrap n)) ∧ Rdr w' rb r d ∧ RStep w w' rb := by
  exact takeInt_some w rb bs d h 8 (by omega) hr
theorem takeInt8_none (w : World) (rb : Nat) (bs : List UInt8) (d : Int) (h : Rdr w rb bs d) (hr : rdN 8 bs = none) :
    Calls Tryd.prog 80 #[.pointer (some ⟨rb, 0, none⟩), .int .i64 8] w fun e w' => e = .panicked [short] ∧ w' = w := takeInt_none w rb bs d h 8 hr

theorem takeInt4_some (w : World) (rb : Nat) (bs : List UInt8) (d : Int) (h : Rdr w rb bs d) {n : Nat} {r : List UInt8} (hr : rdN 4 bs = some (n, r)) :
    Calls Tryd.prog 80 #[.pointer (some ⟨rb, 0, none⟩), .int .i64 4] w fun e w' => e = .returned (.int .i64 n) ∧ Rdr w' rb r d ∧ RStep w w' rb := by
  have hb := rdN_lt hr
  have := takeInt_some w rb bs d h 4 (by omega) hr
  rwa [show IntKind.i64.wrap (n : Int) = n by simp [IntKind.wrap, IntKind.bits, IntKind.signed]; omega] at this
theorem takeInt4_none (w : World) (rb : Nat) (bs : List UInt8) (d : Int) (h : Rdr w rb bs d) (hr : rdN 4 bs = none) :
    Calls Tryd.prog 80 #[.pointer (some ⟨rb, 0, none⟩), .int .i64 4] w fun e w' => e = .panicked [short] ∧ w' = w := takeInt_none w rb bs d h 4 hr

theorem takeInt1_some (w : World) (rb : Nat) (bs : List UInt8) (d : Int) (h : Rdr w rb bs d) {n : Nat} {r : List UInt8} (hr : rdN 1 bs = some (n, r)) :
    Calls Tryd.prog 80 #[.pointer (some ⟨rb, 0, none⟩), .int .i64 1] w fun e w' => e = .returned (.int .i64 n) ∧ Rdr w' rb r d ∧ RStep w w' rb := by
  have hb := rdN_lt hr
  have := takeInt_some w rb bs d h 1 (by omega) hr
  rwa [show IntKind.i64.wrap (n : Int) = n by simp [IntKind.wrap, IntKind.bits, IntKind.signed]; omega] at this
theorem takeInt1_none (w : World) (rb : Nat) (bs : List UInt8) (d : Int) (h : Rdr w rb bs d) (hr : rdN 1 bs = none) :
    Calls Tryd.prog 80 #[.pointer (some ⟨rb, 0, none⟩), .int .i64 1] w fun e w' => e = .panicked [short] ∧ w' = w := takeInt_none w rb bs d h 1 hr

theorem takeU324_some (w : World) (rb : Nat) (bs : List UInt8) (d : Int) (h : Rdr w rb bs d) {n : Nat} {r : List UInt8} (hr : rdN 4 bs = some (n, r)) :
    Calls Tryd.prog 47 #[.pointer (some ⟨rb, 0, none⟩), .int .i64 4] w fun e w' => e = .returned (.int .u32 n) ∧ Rdr w' rb r d ∧ RStep w w' rb := by
  have hb := rdN_lt hr
  have := takeU32_some w rb bs d h 4 (by omega) hr
  rwa [show IntKind.u32.wrap (n : Int) = n by simp [IntKind.wrap, IntKind.bits, IntKind.signed]; omega] at this
theorem takeU324_none (w : World) (rb : Nat) (bs : List UInt8) (d : Int) (h : Rdr w rb bs d) (hr : rdN 4 bs = none) :
    Calls Tryd.prog 47 #[.pointer (some ⟨rb, 0, none⟩), .int .i64 4] w fun e w' => e = .panicked [short] ∧ w' = w := takeU32_none w rb bs d h 4 hr

theorem takeI648_some (w : World) (rb : Nat) (bs : List UInt8) (d : Int) (h : Rdr w rb bs d) {n : Nat} {r : List UInt8} (hr : rdN 8 bs = some (n, r)) :
    Calls Tryd.prog 57 #[.pointer (some ⟨rb, 0, none⟩), .int .i64 8] w fun e w' => e = .returned (.int .i64 (IntKind.i64.wrap n)) ∧ Rdr w' rb r d ∧ RStep w w' rb := by
  exact takeI64_some w rb bs d h 8 (by omega) hr
theorem takeI648_none (w : World) (rb : Nat) (bs : List UInt8) (d : Int) (h : Rdr w rb bs d) (hr : rdN 8 bs = none) :
    Calls Tryd.prog 57 #[.pointer (some ⟨rb, 0, none⟩), .int .i64 8] w fun e w' => e = .panicked [short] ∧ w' = w := takeI64_none w rb bs d h 8 hr

set_option maxHeartbeats 2000000 in
set_option maxRecDepth 100000 in
theorem many1_any (w : World) (rb : Nat) (bs : List UInt8) (d : Int) (h : Rdr w rb bs d) :
    Calls Tryd.prog 48 #[.pointer (some ⟨rb, 0, none⟩), .int .i64 1] w fun e w' => RStep w w' rb ∧ (match rdM 1 bs with
      | some (n, r) => e = .returned (.int .i64 n) ∧ Rdr w' rb r d ∧ n ≤ r.length
      | none => e = .panicked [short] ∧ ∃ bs', Rdr w' rb bs' d) := by
  have H := Lib.hid h
  cases hr : rdN 1 bs with
  | none =>
    have hm : rdM 1 bs = none := by rw [rdM, hr]; rfl
    rw [hm]
    have HC := Lib.hid (takeInt1_none w rb bs d h hr)
    clear h hm hr
    go_enter Tryd.func48, Tryd.ntmps48
    go_wp2_with (go_at_call 80; (with_reducible refine (HC.out).mono ?_); rintro e w1 ⟨rfl, rfl⟩)
    exact ⟨rfl, .refl _ _, rfl, bs, H.out⟩
  | some p =>
    obtain ⟨n, r⟩ := p
    have HC := Lib.hid (takeInt1_some w rb bs d h hr)
    have hn4 : n < 4294967296 := Nat.lt_of_lt_of_le (rdN_lt hr) (by decide)
    by_cases hle : n ≤ r.length
    · have hm : rdM 1 bs = some (n, r) := by rw [rdM, hr]; simp [hle]
      rw [hm]
      have HL := Lib.hid hle
      clear h hm hr
      go_enter Tryd.func48, Tryd.ntmps48
      go_wp2_with (go_at_call 80; (with_reducible refine (HC.out).mono ?_); rintro e w1 ⟨rfl, hR, hS⟩; obtain ⟨⟨a, n2, c, h0, hI⟩, h1, h2, h3⟩ := id hR; have hn2 := hI.len; have hle2 : ¬ n2 < n := (by omega); have HR := Lib.hid hR; clear hI hn2 hle hR)
      go_returns
      exact ⟨hS, rfl, HR.out, HL.out⟩
    · have hm : rdM 1 bs = none := by rw [rdM, hr]; simp [hle]
      rw [hm]
      clear h hm hr
      go_enter Tryd.func48, Tryd.ntmps48
      go_wp2_with (go_at_call 80; (with_reducible refine (HC.out).mono ?_); rintro e w1 ⟨rfl, hR, hS⟩; obtain ⟨⟨a, n2, c, h0, hI⟩, h1, h2, h3⟩ := id hR; have hn2 := hI.len; have hle2 : n2 < n := (by omega); have HR := Lib.hid hR; clear hI hn2 hle hR)
      exact ⟨rfl, hS, rfl, r, HR.out⟩

set_option maxHeartbeats 2000000 in
set_option maxRecDepth 100000 in
theorem many4_any (w : World) (rb : Nat) (bs : List UInt8) (d : Int) (h : Rdr w rb bs d) :
    Calls Tryd.prog 48 #[.pointer (some ⟨rb, 0, none⟩), .int .i64 4] w fun e w' => RStep w w' rb ∧ (match rdM 4 bs with
      | some (n, r) => e = .returned (.int .i64 n) ∧ Rdr w' rb r d ∧ n ≤ r.length
      | none => e = .panicked [short] ∧ ∃ bs', Rdr w' rb bs' d) := by
  have H := Lib.hid h
  cases hr : rdN 4 bs with
  | none =>
    have hm : rdM 4 bs = none := by rw [rdM, hr]; rfl
    rw [hm]
    have HC := Lib.hid (takeInt4_none w rb bs d h hr)
    clear h hm hr
    go_enter Tryd.func48, Tryd.ntmps48
    go_wp2_with (go_at_call 80; (with_reducible refine (HC.out).mono ?_); rintro e w1 ⟨rfl, rfl⟩)
    exact ⟨rfl, .refl _ _, rfl, bs, H.out⟩
  | some p =>
    obtain ⟨n, r⟩ := p
    have HC := Lib.hid (takeInt4_some w rb bs d h hr)
    have hn4 : n < 4294967296 := Nat.lt_of_lt_of_le (rdN_lt hr) (by decide)
    by_cases hle : n ≤ r.length
    · have hm : rdM 4 bs = some (n, r) := by rw [rdM, hr]; simp [hle]
      rw [hm]
      have HL := Lib.hid hle
      clear h hm hr
      go_enter Tryd.func48, Tryd.ntmps48
      go_wp2_with (go_at_call 80; (with_reducible refine (HC.out).mono ?_); rintro e w1 ⟨rfl, hR, hS⟩; obtain ⟨⟨a, n2, c, h0, hI⟩, h1, h2, h3⟩ := id hR; have hn2 := hI.len; have hle2 : ¬ n2 < n := (by omega); have HR := Lib.hid hR; clear hI hn2 hle hR)
      go_returns
      exact ⟨hS, rfl, HR.out, HL.out⟩
    · have hm : rdM 4 bs = none := by rw [rdM, hr]; simp [hle]
      rw [hm]
      clear h hm hr
      go_enter Tryd.func48, Tryd.ntmps48
      go_wp2_with (go_at_call 80; (with_reducible refine (HC.out).mono ?_); rintro e w1 ⟨rfl, hR, hS⟩; obtain ⟨⟨a, n2, c, h0, hI⟩, h1, h2, h3⟩ := id hR; have hn2 := hI.len; have hle2 : n2 < n := (by omega); have HR := Lib.hid hR; clear hI hn2 hle hR)
      exact ⟨rfl, hS, rfl, r, HR.out⟩

set_option maxHeartbeats 2000000 in
set_option maxRecDepth 100000 in
theorem rText_any (w : World) (rb : Nat) (bs : List UInt8) (d : Int) (h : Rdr w rb bs d) :
    Calls Tryd.prog 58 #[.pointer (some ⟨rb, 0, none⟩)] w fun e w' => RStep w w' rb ∧ (match rdT bs with
      | some (s, r) => e = .returned (.string s) ∧ Rdr w' rb r d
      | none => e = .panicked [short] ∧ ∃ bs', Rdr w' rb bs' d) := by
  have HM := Lib.hid (many4_any w rb bs d h)
  cases hr : rdM 4 bs with
  | none =>
    have hm : rdT bs = none := by rw [rdT, hr]; rfl
    rw [hm]
    rw [hr] at HM
    clear h hm hr
    go_enter Tryd.func58, Tryd.ntmps58
    go_wp2_with (go_at_call 48; (with_reducible refine (HM.out).mono ?_); rintro e w1 ⟨hS, rfl, hR⟩)
    exact ⟨rfl, hS, rfl, hR⟩
  | some p =>
    obtain ⟨n, r⟩ := p
    have hm : rdT bs = some (⟨(r.take n).toArray⟩, r.drop n) := by rw [rdT, hr]; rfl
    rw [hm]
    rw [hr] at HM
    clear h hm hr
    go_enter Tryd.func58, Tryd.ntmps58
    go_wp2_with (first
      | (go_at_call 48; (with_reducible refine (HM.out).mono ?_); rintro e w1 ⟨hS, rfl, hR, hl⟩)
      | (go_at_call 79; (with_reducible refine (cut_some w1 rb r d hR n hl).mono ?_); rintro e w2 ⟨⟨a, k, c, rfl, hI⟩, hR2, hS2⟩; have hcv := conv_isB hI))
    go_returns
    exact ⟨hS.trans hS2, rfl, hR2⟩
end Go.Proofs.YtcfbnmobfcabiaaDoor
namespace Go.Proofs.YtcfbnmobfcabiaaDoor
open Go.RowKit
theorem down_any (u : FrameMode) (w : World) (bx rb : Nat) (d : Int) (hc : w.cell? ⟨bx, 0, none⟩ = some (.pointer (some ⟨rb, 0, none⟩))) (h1 : w.cell? ⟨rb, 1, none⟩ = some (.int .i64 (d + 1))) (hf : w.frozen? ⟨rb, 1, none⟩ = false) (hd : 0 ≤ d) (hd2 : d ≤ 100) :
    CallsD Tryd.prog 56 #[.pointer (some ⟨bx, 0, none⟩)] u w fun e u' w' => u' = u ∧ (e = .returned (.tuple #[]) ∧ w' = w.setCell ⟨rb, 1, none⟩ (.int .i64 d)) := by
  have e : d + 1 - 1 = d := by omega
  go_enter_d Tryd.func56, Tryd.ntmps56
  go_wp2_with fail
  first | go_end0 | skip
  all_goals first | exact ⟨rfl, rfl⟩ | trace_state

theorem door {tmps : Array Value} {R : Ending → World → Prop} {u : FrameMode} {W : World} {bx rb : Nat} {bs : List UInt8} {d : Int} (hu : u = .returning ∨ u = .panicking [short]) (hc : W.cell? ⟨bx, 0, none⟩ = some (.pointer (some ⟨rb, 0, none⟩))) (hR : Rdr W rb bs (d + 1)) (hd : 0 ≤ d) (hd2 : d ≤ 100)
    (h : Rdr (W.setCell ⟨rb, 1, none⟩ (.int .i64 d)) rb bs d → RStep W (W.setCell ⟨rb, 1, none⟩ (.int .i64 d)) rb → Leaves Tryd.prog Tryd.f28 tmps R [] u (W.setCell ⟨rb, 1, none⟩ (.int .i64 d))) :
    Leaves Tryd.prog Tryd.f28 tmps R [{ target := .fn (.func 56) #[.pointer (some ⟨bx, 0, none⟩)], args := #[] }] u W := by
  have hs : settle u = u := by rcases hu with rfl | rfl <;> rfl
  refine leaves_cons (f := 56) (args := #[.pointer (some ⟨bx, 0, none⟩)]) (by rcases hu with rfl | rfl <;> simp) (by simp [go_sem]) ?_
  refine (down_any u W bx rb d hc hR.deep hR.f1 hd hd2).mono ?_
  rintro e u' w'' ⟨rfl, rfl, rfl⟩
  show Leaves _ _ _ _ _ (settle u') _
  rw [hs]
  have := hR.setDeep (d' := d)
  exact h this.1 this.2
theorem door_panic {tmps : Array Value} {R : Ending → World → Prop} {W : World} {bx rb : Nat} {bs : List UInt8} {d : Int} (hc : W.cell? ⟨bx, 0, none⟩ = some (.pointer (some ⟨rb, 0, none⟩))) (hR : Rdr W rb bs (d + 1)) (hd : 0 ≤ d) (hd2 : d ≤ 100)
    (h : Rdr (W.setCell ⟨rb, 1, none⟩ (.int .i64 d)) rb bs d → RStep W (W.setCell ⟨rb, 1, none⟩ (.int .i64 d)) rb → R (.panicked [short]) (W.setCell ⟨rb, 1, none⟩ (.int .i64 d))) :
    Leaves Tryd.prog Tryd.f28 tmps R [{ target := .fn (.func 56) #[.pointer (some ⟨bx, 0, none⟩)], args := #[] }] (.panicking [short]) W :=
  door (.inr rfl) hc hR hd hd2 fun h1 h2 => h h1 h2
theorem results_value {tmps : Array Value} {W : World} {b : Nat} {c : VC} (ht : tmps[2]? = some (.pointer (some ⟨b, 0, none⟩))) (hv : ValAt W b 0 c) : (results Tryd.f28 tmps).run Tryd.prog W = .ok (.agg #[.int .u8 c.k, .int .i64 c.n, .string c.s, .slice c.la c.ll c.lc, .slice c.oa c.ol c.oc]) W := by
  have h0 := hv.c0
  have h1 : W.cell? ⟨b, 1, none⟩ = _ := hv.c1
  have h2 : W.cell? ⟨b, 2, none⟩ = _ := hv.c2
  have h3 : W.cell? ⟨b, 3, none⟩ = _ := hv.c3
  have h4 : W.cell? ⟨b, 4, none⟩ = _ := hv.c4
  simp [results, Tryd.results28, go_sem, ht, h0, h1, h2, h3, h4]
theorem door_ret {tmps : Array Value} {R : Ending → World → Prop} {W : World} {bx b rb : Nat} {bs : List UInt8} {d : Int} {c : VC} (hc : W.cell? ⟨bx, 0, none⟩ = some (.pointer (some ⟨rb, 0, none⟩))) (hR : Rdr W rb bs (d + 1)) (hd : 0 ≤ d) (hd2 : d ≤ 100)
    (ht : tmps[2]? = some (.pointer (some ⟨b, 0, none⟩))) (hv : ValAt W b 0 c) (hb : b ≠ rb)
    (h : Rdr (W.setCell ⟨rb, 1, none⟩ (.int .i64 d)) rb bs d → RStep W (W.setCell ⟨rb, 1, none⟩ (.int .i64 d)) rb → R (.returned (.agg #[.int .u8 c.k, .int .i64 c.n, .string c.s, .slice c.la c.ll c.lc, .slice c.oa c.ol c.oc])) (W.setCell ⟨rb, 1, none⟩ (.int .i64 d))) :
    Leaves Tryd.prog Tryd.f28 tmps R [{ target := .fn (.func 56) #[.pointer (some ⟨bx, 0, none⟩)], args := #[] }] .returning W :=
  door (.inl rfl) hc hR hd hd2 fun h1 h2 => ⟨_, results_value ht ⟨h2.cell hv.c0 hb, h2.cell hv.c1 hb, h2.cell hv.c2 hb, h2.cell hv.c3 hb, h2.cell hv.c4 hb⟩, h h1 h2⟩
end Go.Proofs.YtcfbnmobfcabiaaDoor
namespace Go.Proofs.YtcfbnmobfcabiaaDoor
open Go.RowKit

theorem flat_get {α : Type} (f : α → List Value) (m : Nat) (hf : ∀ x, (f x).length = m) : ∀ (l : List α) (i t : Nat) (hi : i < l.length), t < m → (l.flatMap f)[i * m + t]? = (f l[i])[t]? := by
  intro l
  induction l with
  | nil => intro i t hi; cases hi
  | cons x l ih =>
    intro i t hi ht
    cases i with
    | zero =>
      simp only [List.flatMap_cons, Nat.zero_mul, Nat.zero_add, List.getElem_cons_zero]
      rw [List.getElem?_append_left (by rw [hf]; exact ht)]
    | succ i =>
      have e : (i + 1) * m + t = (f x).length + (i * m + t) := by rw [hf, Nat.add_mul]; omega
      simp only [List.flatMap_cons, List.getElem_cons_succ]
      rw [e, List.getElem?_append_right (by omega), Nat.add_sub_cancel_left]
      exact ih i t (by simpa using hi) ht
theorem flat_length {α : Type} (f : α → List Value) (m : Nat) (hf : ∀ x, (f x).length = m) (l : List α) : (l.flatMap f).length = l.length * m := by
  induction l with
  | nil => simp
  | cons x l ih => simp only [List.flatMap_cons, List.length_append, hf, ih, List.length_cons, Nat.add_mul]; omega
theorem flat_snoc {α : Type} (f : α → List Value) (l : List α) (x : α) : (l ++ [x]).flatMap f = l.flatMap f ++ f x := by simp

def Closed (P : World → Nat → Nat → Prop) : Prop := ∀ W W' B B' i, Shows W W' B → B ≤ B' → P W B i → P W' B' i
def Free (base : Nat) (u : Value) : Nat → Prop := fun k => base ≤ k ∧ some k ≠ u.ownBlock
structure Row (T : TypeId) (sz : Nat) (w : World) (base : Nat) (u : Value) (n : Nat) (cells : List Value) (P : World → Nat → Nat → Prop) : Prop where
  own : w.ownsRow base T sz u n cells
  els : ∀ i, i < n → P (only (Free base u) w) w.heap.size i
theorem Row.nil (T : TypeId) (sz : Nat) (w : World) (base : Nat) (P : World → Nat → Nat → Prop) : Row T sz w base (.slice none 0 0) 0 [] P :=
  ⟨⟨by simp, .inl ⟨rfl, rfl⟩⟩, fun i h => by omega⟩
theorem Row.lt {T : TypeId} {sz : Nat} {w : World} {base : Nat} {u : Value} {n : Nat} {cells : List Value} {P : World → Nat → Nat → Prop} (h : Row T sz w base u n cells P) : ∀ k, u.ownBlock = some k → base ≤ k ∧ k < w.heap.size := h.own.lt
theorem Row.later {T : TypeId} {sz : Nat} {w w' : World} {base rb : Nat} {u : Value} {n : Nat} {cells : List Value} {P : World → Nat → Nat → Prop} (hP : Closed P) (h : Row T sz w base u n cells P) (s : RStep w w' rb) (hr : rb < base) : Row T sz w' base u n cells P := by
  refine ⟨h.own.kept (row := some rb) ⟨s.os, s.tape, s.output, s.size, fun k hk hne => s.block k hk (fun e => hne (by rw [e]))⟩ ?_, fun i hi => hP _ _ _ _ i (shows_step fun k hk hlt => ⟨hk, s.block k hlt ?_⟩) s.size (h.els i hi)⟩
  · cases hu : u.ownBlock with
    | none => simp
    | some k =>
      have := (h.lt k hu).1
      right; intro e; injection e with e; omega
  · have := hk.1; omega
theorem Row.set {T : TypeId} {sz : Nat} {w : World} {base b o : Nat} {u x : Value} {n : Nat} {cells : List Value} {P : World → Nat → Nat → Prop} (hP : Closed P) (h : Row T sz w base u n cells P) (hb : b < base) : Row T sz (w.setCell ⟨b, o, none⟩ x) base u n cells P :=
  h.later hP (rb := b) ⟨rfl, rfl, rfl, by simp, fun k hk hr => heap_setCell_other _ _ _ _ hr⟩ hb
theorem Row.push {T : TypeId} {sz : Nat} {w w0 w1 : World} {base : Nat} {u u' : Value} {n : Nat} {cells news : List Value} {P P' : World → Nat → Nat → Prop} (hP' : Closed P') (h : Row T sz w base u n cells P)
    (hb : Below w.heap.size w w0) (hg : w0.grownBy w1 u.ownBlock) (hown : w1.ownsRow base T sz u' (n + 1) (cells ++ news)) (hat : u'.ownBlock = u.ownBlock ∨ ∀ k, u'.ownBlock = some k → w.heap.size ≤ k)
    (hnew : P' (only (Free base u) w) w.heap.size n) (hold : ∀ W B i, i < n → P W B i → P' W B i) : Row T sz w1 base u' (n + 1) (cells ++ news) P' := by
  have hsz : w.heap.size ≤ w1.heap.size := Nat.le_trans hb.size hg.size
  refine ⟨hown, fun i hi => ?_⟩
  have hs : Shows (only (Free base u) w) (only (Free base u') w1) w.heap.size := by
    refine shows_step fun k hk hlt => ⟨⟨hk.1, fun e => ?_⟩, ?_⟩
    · rcases hat with e2 | e2
      · exact hk.2 (e.trans e2)
      · have := e2 k e.symm; omega
    · rw [hg.block k (Nat.lt_of_lt_of_le hlt hb.size) hk.2, hb.block k hlt]
  by_cases hin : i = n
  · subst hin; exact hP' _ _ _ _ _ hs hsz hnew
  · exact hP' _ _ _ _ _ hs hsz (hold _ _ _ (by omega) (h.els i (by omega)))
/-- What a row shows, seen with the row's own block. -/
theorem Row.shows {T : TypeId} {sz : Nat} {w : World} {base lo : Nat} {u : Value} {n : Nat} {cells : List Value} {P : World → Nat → Nat → Prop} (hP : Closed P) (h : Row T sz w base u n cells P) (hlo : lo ≤ base) :
    (∀ g, u.ownBlock = some g → ∀ j x, cells[j]? = some x → (only (fun k => lo ≤ k) w).cell? ⟨g, j, none⟩ = some x) ∧ ∀ i, i < n → P (only (fun k => lo ≤ k) w) w.heap.size i := by
  refine ⟨fun g hg j x hx => only_cell' (show lo ≤ g by have := (h.lt g hg).1; omega) ?_, fun i hi => hP _ _ _ _ i (shows_step fun k hk _ => ⟨by have := hk.1; omega, rfl⟩) (Nat.le_refl _) (h.els i hi)⟩
  have := h.own.cells hg j x hx
  rw [add_at, Nat.zero_add] at this; exact this

def vcells (c : VC) : List Value := [.int .u8 c.k, .int .i64 c.n, .string c.s, .slice c.la c.ll c.lc, .slice c.oa c.ol c.oc]
def vzero : VC := ⟨0, 0, .empty, none, 0, 0, none, 0, 0⟩
def PV (l : List V) (cs : List VC) : World → Nat → Nat → Prop := fun W B i => ∀ h : i < l.length, IsVal W B l[i] (cs.getD i vzero)
theorem PV.closed (l : List V) (cs : List VC) : Closed (PV l cs) := fun _ _ _ _ _ hs hB h hi => ((h hi).sub hs).more hB
theorem PV.snoc {l : List V} {cs : List VC} (hl : cs.length = l.length) (x : V) (c : VC) : (∀ W B, IsVal W B x c → PV (l ++ [x]) (cs ++ [c]) W B l.length) ∧ ∀ W B i, i < l.length → PV l cs W B i → PV (l ++ [x]) (cs ++ [c]) W B i := by
  constructor
  · intro W B h hi
    simpa [List.getD_eq_getElem?_getD, ← hl] using h
  · intro W B i hi h hi2
    have h := h hi
    have e : (cs ++ [c]).getD i vzero = cs.getD i vzero := by simp [List.getD_eq_getElem?_getD, List.getElem?_append_left (show i < cs.length by omega)]
    rw [List.getElem_append_left hi, e]
    exact h
abbrev RowV (w : World) (base : Nat) (u : Value) (l : List V) (cs : List VC) : Prop := Row 28 5 w base u l.length (cs.flatMap vcells) (PV l cs)
/-- A row of values as a value's list. -/
theorem RowV.val {w : World} {base lo : Nat} {l : List V} {cs : List VC} {a : Option Addr} {n cap : Nat} (h : RowV w base (.slice a n cap) l cs) (hl : cs.length = l.length) (hlo : lo ≤ base) (k : Int) (hk0 : 0 ≤ k) (hk1 : k < 256) (hfew : l.length ≤ 1466015503701) :
    IsVal (only (fun b => lo ≤ b) w) w.heap.size (.mk k 0 .empty l []) ⟨k, 0, .empty, a, n, cap, none, 0, 0⟩ := by
  obtain ⟨h1, h2⟩ := Row.shows (PV.closed l cs) h hlo
  have hown := h.own
  have hlt := h.lt
  have hbd : ∀ n cap : Nat, n ≤ cap → cap ≤ 9223372036854775807 → n ≤ 1466015503701 → (⟨k, 0, .empty, a, n, cap, none, 0, 0⟩ : VC).Bnd := fun n cap e1 e2 e3 => ⟨hk0, hk1, (by decide : (-9223372036854775808 : Int) ≤ 0), (by decide : (0 : Int) ≤ 9223372036854775807), (by decide : ByteArray.empty.size ≤ 140737488355328), e1, e2, e3, (by decide : (0 : Nat) ≤ 0), (by decide : (0 : Nat) ≤ 9223372036854775807), (by decide : (0 : Nat) ≤ 1466015503701)⟩
  rcases hown.2 with ⟨e, hn⟩ | ⟨g, cap', cur, e, hbg, hg, hnc, hcm, hcs, htake⟩
  · injection e with e1 e2 e3; subst e1 e2 e3
    have : l = [] := List.length_eq_zero_iff.1 hn
    subst this
    exact .mk ⟨k, 0, .empty, none, 0, 0, none, 0, 0⟩ [] [] (fun _ => vzero) (fun _ => vzero) 0 0 0 0 (hbd 0 0 (by omega) (by omega) (by omega)) rfl rfl (fun h => by cases h) (fun h => by cases h) (fun i h => by cases h) (fun i h => by cases h) (fun i h => by cases h) (fun i h => by cases h)
  · injection e with e1 e2 e3; subst e1 e2 e3
    refine .mk ⟨k, 0, .empty, some ⟨g, 0, none⟩, l.length, cap, none, 0, 0⟩ l [] (fun i => cs.getD i vzero) (fun _ => vzero) g 0 0 0 (hbd _ _ hnc (by simpa [maxLen] using hcm) hfew) rfl rfl (fun _ => ⟨rfl, (hlt g rfl).2⟩) (fun h => by cases h) (fun i hi => ?_) (fun i hi => h2 i hi hi) (fun i h => by cases h) (fun i h => by cases h)
    have hi' : i < cs.length := by omega
    have hc : ∀ t x, t < 5 → (vcells cs[i])[t]? = some x → (only (fun b => lo ≤ b) w).cell? ⟨g, 0 + i * 5 + t, none⟩ = some x := fun t x ht hx => by
      rw [Nat.zero_add]
      exact h1 g rfl (i * 5 + t) x ((flat_get vcells 5 (fun _ => rfl) cs i t hi' ht).trans hx)
    have he : cs.getD i vzero = cs[i] := by simp [List.getD_eq_getElem?_getD, hi']
    simp only [he]
    exact ⟨hc 0 _ (by omega) rfl, hc 1 _ (by omega) rfl, hc 2 _ (by omega) rfl, hc 3 _ (by omega) rfl, hc 4 _ (by omega) rfl⟩

def fcells (c : ByteArray × VC) : List Value := [.string c.1, .int .u8 c.2.k, .int .i64 c.2.n, .string c.2.s, .slice c.2.la c.2.ll c.2.lc, .slice c.2.oa c.2.ol c.2.oc]
def fzero : ByteArray × VC := (.empty, vzero)
def PF (l : List (ByteArray × V)) (cs : List (ByteArray × VC)) : World → Nat → Nat → Prop := fun W B i => ∀ h : i < l.length, (cs.getD i fzero).1 = l[i].1 ∧ l[i].1.size ≤ 140737488355328 ∧ IsVal W B l[i].2 (cs.getD i fzero).2
theorem PF.closed (l : List (ByteArray × V)) (cs : List (ByteArray × VC)) : Closed (PF l cs) := fun _ _ _ _ _ hs hB h hi => ⟨(h hi).1, (h hi).2.1, ((h hi).2.2.sub hs).more hB⟩
theorem PF.snoc {l : List (ByteArray × V)} {cs : List (ByteArray × VC)} (hl : cs.length = l.length) (s : ByteArray) (hs : s.size ≤ 140737488355328) (x : V) (c : VC) : (∀ W B, IsVal W B x c → PF (l ++ [(s, x)]) (cs ++ [(s, c)]) W B l.length) ∧ ∀ W B i, i < l.length → PF l cs W B i → PF (l ++ [(s, x)]) (cs ++ [(s, c)]) W B i := by
  constructor
  · intro W B h hi
    have e1 : (l ++ [(s, x)])[l.length]'hi = (s, x) := by simp
    have e2 : (cs ++ [(s, c)]).getD l.length fzero = (s, c) := by simp [List.getD_eq_getElem?_getD, ← hl]
    rw [e1, e2]; exact ⟨rfl, hs, h⟩
  · intro W B i hi h hi2
    have h := h hi
    have e : (cs ++ [(s, c)]).getD i fzero = cs.getD i fzero := by simp [List.getD_eq_getElem?_getD, List.getElem?_append_left (show i < cs.length by omega)]
    rw [List.getElem_append_left hi, e]
    exact h
abbrev RowF (w : World) (base : Nat) (u : Value) (l : List (ByteArray × V)) (cs : List (ByteArray × VC)) : Prop := Row 78 6 w base u l.length (cs.flatMap fcells) (PF l cs)
theorem RowF.val {w : World} {base lo : Nat} {l : List (ByteArray × V)} {cs : List (ByteArray × VC)} {a : Option Addr} {n cap : Nat} (h : RowF w base (.slice a n cap) l cs) (hl : cs.length = l.length) (hlo : lo ≤ base) (k : Int) (hk0 : 0 ≤ k) (hk1 : k < 256) (hfew : l.length ≤ 1466015503701) :
    IsVal (only (fun b => lo ≤ b) w) w.heap.size (.mk k 0 .empty [] l) ⟨k, 0, .empty, none, 0, 0, a, n, cap⟩ := by
  obtain ⟨h1, h2⟩ := Row.shows (PF.closed l cs) h hlo
  have hown := h.own
  have hlt := h.lt
  have hbd : ∀ n cap : Nat, n ≤ cap → cap ≤ 9223372036854775807 → n ≤ 1466015503701 → (⟨k, 0, .empty, none, 0, 0, a, n, cap⟩ : VC).Bnd := fun n cap e1 e2 e3 => ⟨hk0, hk1, (by decide : (-9223372036854775808 : Int) ≤ 0), (by decide : (0 : Int) ≤ 9223372036854775807), (by decide : ByteArray.empty.size ≤ 140737488355328), (by decide : (0 : Nat) ≤ 0), (by decide : (0 : Nat) ≤ 9223372036854775807), (by decide : (0 : Nat) ≤ 1466015503701), e1, e2, e3⟩
  rcases hown.2 with ⟨e, hn⟩ | ⟨g, cap', cur, e, hbg, hg, hnc, hcm, hcs, htake⟩
  · injection e with e1 e2 e3; subst e1 e2 e3
    have : l = [] := List.length_eq_zero_iff.1 hn
    subst this
    exact .mk ⟨k, 0, .empty, none, 0, 0, none, 0, 0⟩ [] [] (fun _ => vzero) (fun _ => vzero) 0 0 0 0 (hbd 0 0 (by omega) (by omega) (by omega)) rfl rfl (fun h => by cases h) (fun h => by cases h) (fun i h => by cases h) (fun i h => by cases h) (fun i h => by cases h) (fun i h => by cases h)
  · injection e with e1 e2 e3; subst e1 e2 e3
    refine .mk ⟨k, 0, .empty, none, 0, 0, some ⟨g, 0, none⟩, l.length, cap⟩ [] l (fun _ => vzero) (fun i => (cs.getD i fzero).2) 0 0 g 0 (hbd _ _ hnc (by simpa [maxLen] using hcm) hfew) rfl rfl (fun h => by cases h) (fun _ => ⟨rfl, (hlt g rfl).2⟩) (fun i h => by cases h) (fun i h => by cases h) (fun i hi => ?_) (fun i hi => (h2 i hi hi).2.2)
    have hi' : i < cs.length := by omega
    have hc : ∀ t x, t < 6 → (fcells cs[i])[t]? = some x → (only (fun b => lo ≤ b) w).cell? ⟨g, 0 + i * 6 + t, none⟩ = some x := fun t x ht hx => by
      rw [Nat.zero_add]
      exact h1 g rfl (i * 6 + t) x ((flat_get fcells 6 (fun _ => rfl) cs i t hi' ht).trans hx)
    have he : cs.getD i fzero = cs[i] := by simp [List.getD_eq_getElem?_getD, hi']
    obtain ⟨p1, p2, _⟩ := h2 i hi hi
    rw [he] at p1
    simp only [he]
    exact ⟨by rw [← p1]; exact hc 0 _ (by omega) rfl, p2, hc 1 _ (by omega) rfl, hc 2 _ (by omega) rfl, hc 3 _ (by omega) rfl, hc 4 _ (by omega) rfl, hc 5 _ (by omega) rfl⟩
end Go.Proofs.YtcfbnmobfcabiaaDoor
namespace Go.Proofs.YtcfbnmobfcabiaaDoor
open Go.RowKit
theorem RStep.frozen {w w' : World} {rb : Nat} (h : RStep w w' rb) {b o : Nat} (hl : b < w.heap.size) (hb : b ≠ rb) : w'.frozen? ⟨b, o, none⟩ = w.frozen? ⟨b, o, none⟩ :=
  World.frozen?_of_block (h.block b hl hb)
theorem RStep.setNew {w W : World} {rb b o : Nat} {x : Value} (h : RStep w W rb) (hb : w.heap.size ≤ b) : RStep w (W.setCell ⟨b, o, none⟩ x) rb :=
  ⟨h.os, h.tape, h.output, by simpa using h.size, fun k hk hr => (heap_setCell_other _ _ _ _ (show k ≠ b by omega)).trans (h.block k hk hr)⟩
theorem Rdr.setNew {W : World} {rb b o : Nat} {x : Value} {bs : List UInt8} {d : Int} (h : Rdr W rb bs d) (hb : rb < b) : Rdr (W.setCell ⟨b, o, none⟩ x) rb bs d := by
  obtain ⟨⟨a, n, c, h0, hI⟩, h1, h2, h3⟩ := h
  have hb' : Below b W (W.setCell ⟨b, o, none⟩ x) := ⟨rfl, rfl, rfl, by simp, fun k hk => heap_setCell_other _ _ _ _ (show k ≠ b by omega)⟩
  exact ⟨⟨a, n, c, keep_cell hb' h0 hb, hI.keep (hb'.mono (Nat.le_of_lt hb))⟩, keep_cell hb' h1 hb, by simpa using h2, by simpa using h3⟩
/-- In the midst of reader.value: its box of the reader, its result's cells. -/
structure RB (w W : World) (rb : Nat) (bs : List UInt8) (d : Int) (c : VC) : Prop where
  rdr : Rdr W rb bs d
  st : RStep w W rb
  box : W.cell? ⟨w.heap.size, 0, none⟩ = some (.pointer (some ⟨rb, 0, none⟩))
  res : ValAt W (w.heap.size + 1) 0 c
  frz : ∀ j, j < 5 → W.frozen? ⟨w.heap.size + 1, j, none⟩ = false
  lt : rb < w.heap.size
  size : w.heap.size + 2 ≤ W.heap.size
theorem RB.next {w W W' : World} {rb : Nat} {bs bs' : List UInt8} {d : Int} {c : VC} (h : RB w W rb bs d c) (s : RStep W W' rb) (hR : Rdr W' rb bs' d) : RB w W' rb bs' d c := by
  have hlt := h.lt; have hsz := h.size
  refine ⟨hR, h.st.trans s, s.cell h.box (by omega), ⟨s.cell h.res.c0 (by omega), s.cell h.res.c1 (by omega), s.cell h.res.c2 (by omega), s.cell h.res.c3 (by omega), s.cell h.res.c4 (by omega)⟩, fun j hj => (s.frozen (by omega) (by omega)).trans (h.frz j hj), hlt, Nat.le_trans hsz s.size⟩
theorem RB.behind {w W W' : World} {rb : Nat} {bs : List UInt8} {d : Int} {c : VC} (h : RB w W rb bs d c) (hb : Below W.heap.size W W') : RB w W' rb bs d c := h.next (.of_below rb hb) (h.rdr.of_below hb)
theorem RB.set {w W : World} {rb b o : Nat} {x : Value} {bs : List UInt8} {d : Int} {c : VC} (h : RB w W rb bs d c) (hb : w.heap.size + 1 < b) : RB w (W.setCell ⟨b, o, none⟩ x) rb bs d c := by
  have hlt := h.lt
  have hb' : Below b W (W.setCell ⟨b, o, none⟩ x) := ⟨rfl, rfl, rfl, by simp, fun k hk => heap_setCell_other _ _ _ _ (show k ≠ b by omega)⟩
  exact ⟨h.rdr.setNew (by omega), h.st.setNew (by omega), keep_cell hb' h.box (by omega), h.res.keep hb' hb, fun j hj => by simpa using h.frz j hj, hlt, by simpa using h.size⟩
theorem RB.start {w : World} {rb : Nat} {bs : List UInt8} {d d' : Int} (h : Rdr w rb bs d) (t1 t2 : TypeId) :
    RB w (((w.setCell ⟨rb, 1, none⟩ (.int .i64 d')).alloc (.cells #[.pointer (some ⟨rb, 0, none⟩)] t1)).alloc (.cells #[.int .u8 0, .int .i64 0, .string { data := #[] }, .slice none 0 0, .slice none 0 0] t2)) rb bs d' vzero := by
  obtain ⟨hR, hS⟩ := h.setDeep (d' := d')
  obtain ⟨w0, hw0⟩ : ∃ w0, w.setCell ⟨rb, 1, none⟩ (.int .i64 d') = w0 := ⟨_, rfl⟩
  have hsz : w.heap.size = w0.heap.size := by rw [← hw0]; simp
  rw [hw0] at hR hS ⊢
  obtain ⟨w1, hw1⟩ : ∃ w1, w0.alloc (.cells #[.pointer (some ⟨rb, 0, none⟩)] t1) = w1 := ⟨_, rfl⟩
  have b1 : Below w0.heap.size w0 w1 := by rw [← hw1]; exact (Below.refl _ _).alloc (Nat.le_refl _) _
  have hs1 : w1.heap.size = w.heap.size + 1 := by rw [← hw1, World.size_alloc, hsz]
  have hc := cells_new w0 #[.pointer (some ⟨rb, 0, none⟩)] t1 0 _ rfl
  rw [hw1] at hc ⊢
  have b2 : Below w1.heap.size w1 (w1.alloc (.cells #[.int .u8 0, .int .i64 0, .string { data := #[] }, .slice none 0 0, .slice none 0 0] t2)) := (Below.refl _ _).alloc (Nat.le_refl _) _
  have hn := cells_new w1 #[.int .u8 0, .int .i64 0, .string { data := #[] }, .slice none 0 0, .slice none 0 0] t2
  have hlt := h.lt
  refine ⟨(hR.of_below b1).of_below b2, hS.trans ((RStep.of_below rb b1).trans (.of_below rb b2)), ?_, ?_, fun j hj => ?_, hlt, by rw [World.size_alloc, hs1]; omega⟩
  · exact keep_cell b2 (by rw [hsz]; exact hc) (by rw [hs1]; omega)
  · rw [← hs1]; exact ⟨hn 0 _ rfl, hn 1 _ rfl, hn 2 _ rfl, hn 3 _ rfl, hn 4 _ rfl⟩
  · rw [← hs1]; exact frozen_new w1 _ t2 j

/-- A value's box. -/
structure VB (W : World) (vb : Nat) (c : VC) : Prop where
  at_ : ValAt W vb 0 c
  fr : ∀ j, W.frozen? ⟨vb, j, none⟩ = false
theorem VB.lt {W : World} {vb : Nat} {c : VC} (h : VB W vb c) : vb < W.heap.size := World.block_lt_of_cell? W _ h.at_.c0
theorem VB.next {W W' : World} {vb rb : Nat} {c : VC} (h : VB W vb c) (s : RStep W W' rb) (hv : vb ≠ rb) : VB W' vb c :=
  ⟨⟨s.cell h.at_.c0 hv, s.cell h.at_.c1 hv, s.cell h.at_.c2 hv, s.cell h.at_.c3 hv, s.cell h.at_.c4 hv⟩, fun j => (s.frozen h.lt hv).trans (h.fr j)⟩
theorem VB.start (w : World) (c : VC) (t : TypeId) : VB (w.alloc (.cells #[.int .u8 c.k, .int .i64 c.n, .string c.s, .slice c.la c.ll c.lc, .slice c.oa c.ol c.oc] t)) w.heap.size c :=
  ⟨valAt_new w c t, fun j => frozen_new w _ t j⟩
/-- The result's five cells, stored. -/
theorem valAt_stored {W : World} {b : Nat} {c0 : VC} (h : ValAt W b 0 c0) (c : VC) :
    ValAt (((((W.setCell ⟨b, 0, none⟩ (.int .u8 c.k)).setCell ⟨b, 1, none⟩ (.int .i64 c.n)).setCell ⟨b, 2, none⟩ (.string c.s)).setCell ⟨b, 3, none⟩ (.slice c.la c.ll c.lc)).setCell ⟨b, 4, none⟩ (.slice c.oa c.ol c.oc)) b 0 c := by
  have g0 := h.c0
  have g1 : W.cell? ⟨b, 1, none⟩ = _ := h.c1
  have g2 : W.cell? ⟨b, 2, none⟩ = _ := h.c2
  have g3 : W.cell? ⟨b, 3, none⟩ = _ := h.c3
  have g4 : W.cell? ⟨b, 4, none⟩ = _ := h.c4
  constructor <;> simp [go_sem, g0, g1, g2, g3, g4]
theorem RB.store {w W : World} {rb : Nat} {bs : List UInt8} {d : Int} {c0 : VC} (h : RB w W rb bs d c0) (c : VC) :
    RB w (((((W.setCell ⟨w.heap.size + 1, 0, none⟩ (.int .u8 c.k)).setCell ⟨w.heap.size + 1, 1, none⟩ (.int .i64 c.n)).setCell ⟨w.heap.size + 1, 2, none⟩ (.string c.s)).setCell ⟨w.heap.size + 1, 3, none⟩ (.slice c.la c.ll c.lc)).setCell ⟨w.heap.size + 1, 4, none⟩ (.slice c.oa c.ol c.oc)) rb bs d c := by
  have hlt := h.lt
  have hn : w.heap.size ≤ w.heap.size + 1 := by omega
  have hr : rb < w.heap.size + 1 := by omega
  refine ⟨((((h.rdr.setNew hr).setNew hr).setNew hr).setNew hr).setNew hr, ((((h.st.setNew hn).setNew hn).setNew hn).setNew hn).setNew hn, ?_, valAt_stored h.res c, fun j hj => by simpa using h.frz j hj, hlt, by simpa using h.size⟩
  simp [go_sem, h.box]
/-- A value without children. -/
theorem isVal_leaf (W : World) (B : Nat) (k n : Int) (s : ByteArray) (hk0 : 0 ≤ k) (hk1 : k < 256) (hn0 : -9223372036854775808 ≤ n) (hn1 : n ≤ 9223372036854775807) (hs : s.size ≤ 140737488355328) : IsVal W B (.mk k n s [] []) ⟨k, n, s, none, 0, 0, none, 0, 0⟩ :=
  .mk ⟨k, n, s, none, 0, 0, none, 0, 0⟩ [] [] (fun _ => vzero) (fun _ => vzero) 0 0 0 0 ⟨hk0, hk1, hn0, hn1, hs, (by decide : (0 : Nat) ≤ 0), (by decide : (0 : Nat) ≤ 9223372036854775807), (by decide : (0 : Nat) ≤ 1466015503701), (by decide : (0 : Nat) ≤ 0), (by decide : (0 : Nat) ≤ 9223372036854775807), (by decide : (0 : Nat) ≤ 1466015503701)⟩ rfl rfl (fun h => by cases h) (fun h => by cases h) (fun i h => by cases h) (fun i h => by cases h) (fun i h => by cases h) (fun i h => by cases h)
/-- What reader.value comes to. -/
def RVPost (w : World) (rb : Nat) (d : Int) (r : Option (V × List UInt8)) (e : Ending) (w' : World) : Prop :=
  RStep w w' rb ∧ match r with
    | some (x, r) => (∃ c : VC, e = .returned (.agg #[.int .u8 c.k, .int .i64 c.n, .string c.s, .slice c.la c.ll c.lc, .slice c.oa c.ol c.oc]) ∧ IsVal (only (fun b => w.heap.size ≤ b) w') w'.heap.size x c) ∧ Rdr w' rb r d
    | none => e = .panicked [short] ∧ ∃ bs', Rdr w' rb bs' d
theorem RB.leave {w W : World} {rb base : Nat} {r : List UInt8} {d : Int} {c : VC} {x : V} {tmps : Array Value} (h : RB w W rb r (d + 1) c) (hx : IsVal (only (fun b => base ≤ b) W) W.heap.size x c) (hb : w.heap.size ≤ base) (hd : 0 ≤ d) (hd2 : d ≤ 100) (ht : tmps[2]? = some (.pointer (some ⟨w.heap.size + 1, 0, none⟩))) :
    Leaves Tryd.prog Tryd.f28 tmps (RVPost w rb d (some (x, r))) [{ target := .fn (.func 56) #[.pointer (some ⟨w.heap.size, 0, none⟩)], args := #[] }] .returning W := by
  have hlt := h.lt
  refine door_ret h.box h.rdr hd hd2 ht h.res (by omega) fun hR hS => ⟨h.st.trans hS, ⟨c, rfl, ?_⟩, hR⟩
  exact (hx.sub (shows_step fun k hk hl => ⟨by omega, hS.block k hl (by omega)⟩)).more hS.size
theorem RB.panic {w W : World} {rb : Nat} {r : List UInt8} {d : Int} {c : VC} {tmps : Array Value} (h : RB w W rb r (d + 1) c) (hd : 0 ≤ d) (hd2 : d ≤ 100) :
    Leaves Tryd.prog Tryd.f28 tmps (RVPost w rb d none) [{ target := .fn (.func 56) #[.pointer (some ⟨w.heap.size, 0, none⟩)], args := #[] }] (.panicking [short]) W :=
  door_panic h.box h.rdr hd hd2 fun hR hS => ⟨h.st.trans hS, rfl, r, hR⟩
end Go.Proofs.YtcfbnmobfcabiaaDoor
namespace Go.Proofs.YtcfbnmobfcabiaaDoor
open Go.RowKit

theorem i64_lo (x : Int) : -9223372036854775808 ≤ wrap64 x := by unfold wrap64; omega
theorem i64_hi (x : Int) : wrap64 x ≤ 9223372036854775807 := by unfold wrap64; omega
theorem rdM_some {k n : Nat} {bs r : List UInt8} (hr : rdM k bs = some (n, r)) : rdN k bs = some (n, r) ∧ n ≤ r.length := by
  unfold rdM at hr
  cases h : rdN k bs with
  | none => rw [h] at hr; cases hr
  | some p =>
    rw [h] at hr
    simp only [Option.bind_some] at hr
    split at hr
    · injection hr with hr; subst hr; exact ⟨rfl, by assumption⟩
    · cases hr
theorem rdT_some {bs r : List UInt8} {s : ByteArray} (hr : rdT bs = some (s, r)) : ∃ n q, rdM 4 bs = some (n, q) ∧ s = ⟨(q.take n).toArray⟩ ∧ r = q.drop n := by
  unfold rdT at hr
  cases h : rdM 4 bs with
  | none => rw [h] at hr; cases hr
  | some p =>
    obtain ⟨n, q⟩ := p
    rw [h] at hr
    simp only [Option.bind_some] at hr
    injection hr with hr; injection hr with h1 h2
    exact ⟨n, q, rfl, h1.symm, h2.symm⟩
theorem rdT_size {bs r : List UInt8} {s : ByteArray} (hr : rdT bs = some (s, r)) : s.size ≤ 140737488355328 := by
  obtain ⟨n, q, h1, rfl, rfl⟩ := rdT_some hr
  have h2 := rdN_lt (rdM_some h1).1
  have h3 : (⟨(q.take n).toArray⟩ : ByteArray).size = (q.take n).length := by simp [ByteArray.size]
  rw [h3, List.length_take]
  omega
theorem rText_none (w : World) (rb : Nat) (bs : List UInt8) (d : Int) (h : Rdr w rb bs d) (hr : rdT bs = none) :
    Calls Tryd.prog 58 #[.pointer (some ⟨rb, 0, none⟩)] w fun e w' => e = .panicked [short] ∧ RStep w w' rb ∧ ∃ bs', Rdr w' rb bs' d := by
  have := rText_any w rb bs d h
  rw [hr] at this
  exact this.mono fun e w' ⟨h1, h2, h3⟩ => ⟨h2, h1, h3⟩
theorem rText_some (w : World) (rb : Nat) (bs : List UInt8) (d : Int) (h : Rdr w rb bs d) {s : ByteArray} {r : List UInt8} (hr : rdT bs = some (s, r)) :
    Calls Tryd.prog 58 #[.pointer (some ⟨rb, 0, none⟩)] w fun e w' => e = .returned (.string s) ∧ Rdr w' rb r d ∧ RStep w w' rb := by
  have := rText_any w rb bs d h
  rw [hr] at this
  exact this.mono fun e w' ⟨h1, h2, h3⟩ => ⟨h2, h3, h1⟩
theorem many1_none (w : World) (rb : Nat) (bs : List UInt8) (d : Int) (h : Rdr w rb bs d) (hr : rdM 1 bs = none) :
    Calls Tryd.prog 48 #[.pointer (some ⟨rb, 0, none⟩), .int .i64 1] w fun e w' => e = .panicked [short] ∧ RStep w w' rb ∧ ∃ bs', Rdr w' rb bs' d := by
  have := many1_any w rb bs d h
  rw [hr] at this
  exact this.mono fun e w' ⟨h1, h2, h3⟩ => ⟨h2, h1, h3⟩
theorem many1_some (w : World) (rb : Nat) (bs : List UInt8) (d : Int) (h : Rdr w rb bs d) {n : Nat} {r : List UInt8} (hr : rdM 1 bs = some (n, r)) :
    Calls Tryd.prog 48 #[.pointer (some ⟨rb, 0, none⟩), .int .i64 1] w fun e w' => e = .returned (.int .i64 n) ∧ Rdr w' rb r d ∧ RStep w w' rb := by
  have := many1_any w rb bs d h
  rw [hr] at this
  exact this.mono fun e w' ⟨h1, h2, h3, _⟩ => ⟨h2, h3, h1⟩
theorem many4_none (w : World) (rb : Nat) (bs : List UInt8) (d : Int) (h : Rdr w rb bs d) (hr : rdM 4 bs = none) :
    Calls Tryd.prog 48 #[.pointer (some ⟨rb, 0, none⟩), .int .i64 4] w fun e w' => e = .panicked [short] ∧ RStep w w' rb ∧ ∃ bs', Rdr w' rb bs' d := by
  have := many4_any w rb bs d h
  rw [hr] at this
  exact this.mono fun e w' ⟨h1, h2, h3⟩ => ⟨h2, h1, h3⟩
theorem many4_some (w : World) (rb : Nat) (bs : List UInt8) (d : Int) (h : Rdr w rb bs d) {n : Nat} {r : List UInt8} (hr : rdM 4 bs = some (n, r)) :
    Calls Tryd.prog 48 #[.pointer (some ⟨rb, 0, none⟩), .int .i64 4] w fun e w' => e = .returned (.int .i64 n) ∧ Rdr w' rb r d ∧ RStep w w' rb := by
  have := many4_any w rb bs d h
  rw [hr] at this
  exact this.mono fun e w' ⟨h1, h2, h3, _⟩ => ⟨h2, h3, h1⟩

set_option maxHeartbeats 2000000 in
set_option maxRecDepth 100000 in
theorem rv_deep (w : World) (rb : Nat) (bs : List UInt8) (d : Int) (h : Rdr w rb bs d) (hd : d = 18) :
    Calls Tryd.prog 28 #[.pointer (some ⟨rb, 0, none⟩)] w (RVPost w rb d none) := by
  subst hd
  have hmf : ∀ (fn : Fn) (first cap : Array Value) (w : World), (Instr.makeFunc fn first cap).run Tryd.prog w = .ok (.func fn first cap) w := fun _ _ _ _ => rfl
  have HB := Lib.hid (fun t1 t2 => RB.start (d' := 18 + 1) h t1 t2)
  have h1 := h.deep
  have h2 := h.f1
  have hlt := h.lt
  clear h
  go_enter_defers Tryd.func28, Tryd.ntmps28
  go_wp2_with fail
  exact (HB.out _ _).panic (by omega) (by omega)
set_option maxHeartbeats 2000000 in
set_option maxRecDepth 100000 in
theorem rv_none (w : World) (rb : Nat) (bs : List UInt8) (d : Int) (h : Rdr w rb bs d) (hd0 : 0 ≤ d) (hd : d ≤ 17) (hr : rdN 1 bs = none) :
    Calls Tryd.prog 28 #[.pointer (some ⟨rb, 0, none⟩)] w (RVPost w rb d none) := by
  have hmf : ∀ (fn : Fn) (first cap : Array Value) (w : World), (Instr.makeFunc fn first cap).run Tryd.prog w = .ok (.func fn first cap) w := fun _ _ _ _ => rfl
  have HB := Lib.hid (fun t1 t2 => RB.start (d' := d + 1) h t1 t2)
  have h1 := h.deep
  have h2 := h.f1
  have hlt := h.lt
  clear h
  go_enter_defers Tryd.func28, Tryd.ntmps28
  go_wp2_with (go_at_call 46; (with_reducible refine (takeU81_none _ rb bs (d + 1) (HB.out _ _).rdr hr).mono ?_); rintro e w1 ⟨rfl, rfl⟩)
  exact (HB.out _ _).panic (by omega) (by omega)
set_option maxHeartbeats 4000000 in
set_option maxRecDepth 100000 in
theorem rv_other (w : World) (rb : Nat) (bs : List UInt8) (d : Int) (h : Rdr w rb bs d) (hd0 : 0 ≤ d) (hd : d ≤ 17) {k : Nat} {r : List UInt8} (hr : rdN 1 bs = some (k, r)) (hk : 5 < k ∨ k = 0) :
    Calls Tryd.prog 28 #[.pointer (some ⟨rb, 0, none⟩)] w (RVPost w rb d (some (.mk k 0 .empty [] [], r))) := by
  have hk1 : k < 256 := rdN_lt hr
  have hmf : ∀ (fn : Fn) (first cap : Array Value) (w : World), (Instr.makeFunc fn first cap).run Tryd.prog w = .ok (.func fn first cap) w := fun _ _ _ _ => rfl
  have HB := Lib.hid (fun t1 t2 => RB.start (d' := d + 1) h t1 t2)
  have h1 := h.deep
  have h2 := h.f1
  have hlt := h.lt
  clear h
  have f1 : ((k : Int) == 1) = false := by simp; omega
  have f2 : ((k : Int) == 2) = false := by simp; omega
  have f3 : ((k : Int) == 3) = false := by simp; omega
  have f4 : ((k : Int) == 4) = false := by simp; omega
  have f5 : ((k : Int) == 5) = false := by simp; omega
  clear hk
  go_enter_defers Tryd.func28, Tryd.ntmps28
  go_wp2_with (go_at_call 46; (with_reducible refine (takeU81_some _ rb bs (d + 1) (HB.out _ _).rdr hr).mono ?_); rintro e w1 ⟨rfl, hR, hS⟩; have B1 := (HB.out _ _).next hS hR; have r0 := B1.res.c0; have r1 := B1.res.c1; have r2 := B1.res.c2; have r3 := B1.res.c3; have r4 := B1.res.c4; have g0 := B1.frz 0 (by omega); have g1 := B1.frz 1 (by omega); have g2 := B1.frz 2 (by omega); have g3 := B1.frz 3 (by omega); have g4 := B1.frz 4 (by omega); have hb0 := B1.box; have hsz := B1.size; have zs1 : w.heap.size + 1 < w1.heap.size := (by omega); have zs0 : w.heap.size < w1.heap.size := (by omega); have hlt1 := B1.lt)
  have B2 := (B1.store ⟨k, 0, .empty, none, 0, 0, none, 0, 0⟩)
  refine RB.leave (base := w.heap.size) (B2.behind ((Below.refl _ _).alloc (Nat.le_refl _) _)) (isVal_leaf _ _ k 0 .empty (by omega) (by omega) (by decide) (by decide) (by decide)) (Nat.le_refl _) (by omega) (by omega) rfl

set_option maxHeartbeats 4000000 in
set_option maxRecDepth 100000 in
theorem rv_int1_none (w : World) (rb : Nat) (bs : List UInt8) (d : Int) (h : Rdr w rb bs d) (hd0 : 0 ≤ d) (hd : d ≤ 17) {k : Nat} {r : List UInt8} (hr : rdN 1 bs = some (k, r)) (hk : k = 1) (hr2 : rdN 8 r = none) :
    Calls Tryd.prog 28 #[.pointer (some ⟨rb, 0, none⟩)] w (RVPost w rb d none) := by
  have hmf : ∀ (fn : Fn) (first cap : Array Value) (w : World), (Instr.makeFunc fn first cap).run Tryd.prog w = .ok (.func fn first cap) w := fun _ _ _ _ => rfl
  have HB := Lib.hid (fun t1 t2 => RB.start (d' := d + 1) h t1 t2)
  have h1 := h.deep
  have h2 := h.f1
  have hlt := h.lt
  clear h
  have f1 : ((k : Int) == 1) = true := by subst hk; rfl
  have f2 : ((k : Int) == 2) = false := by subst hk; rfl
  have f3 : ((k : Int) == 3) = false := by subst hk; rfl
  have f4 : ((k : Int) == 4) = false := by subst hk; rfl
  have f5 : ((k : Int) == 5) = false := by subst hk; rfl
  clear hk
  go_enter_defers Tryd.func28, Tryd.ntmps28
  go_wp2_with (first | (go_at_call 46; (with_reducible refine (takeU81_some _ rb bs (d + 1) (HB.out _ _).rdr hr).mono ?_); rintro e w1 ⟨rfl, hR, hS⟩; have B1 := (HB.out _ _).next hS hR; have r0 := B1.res.c0; have r1 := B1.res.c1; have r2 := B1.res.c2; have r3 := B1.res.c3; have r4 := B1.res.c4; have g0 := B1.frz 0 (by omega); have g1 := B1.frz 1 (by omega); have g2 := B1.frz 2 (by omega); have g3 := B1.frz 3 (by omega); have g4 := B1.frz 4 (by omega); have hb0 := B1.box; have hsz := B1.size; have zs1 : w.heap.size + 1 < w1.heap.size := (by omega); have zs0 : w.heap.size < w1.heap.size := (by omega); have hlt1 := B1.lt) | (go_at_call 57; (with_reducible refine (takeI648_none _ rb r (d + 1) (B1.behind ((Below.refl _ _).alloc (Nat.le_refl _) _)).rdr hr2).mono ?_); rintro e w2 ⟨rfl, rfl⟩))
  exact (B1.behind ((Below.refl _ _).alloc (Nat.le_refl _) _)).panic (by omega) (by omega)
set_option maxHeartbeats 4000000 in
set_option maxRecDepth 100000 in
theorem rv_int1_some (w : World) (rb : Nat) (bs : List UInt8) (d : Int) (h : Rdr w rb bs d) (hd0 : 0 ≤ d) (hd : d ≤ 17) {k : Nat} {r r2 : List UInt8} {x : Nat} (hr : rdN 1 bs = some (k, r)) (hk : k = 1) (hr2 : rdN 8 r = some (x, r2)) :
    Calls Tryd.prog 28 #[.pointer (some ⟨rb, 0, none⟩)] w (RVPost w rb d (some (.mk k (wrap64 x) .empty [] [], r2))) := by
  have hk1 : k < 256 := rdN_lt hr
  have hmf : ∀ (fn : Fn) (first cap : Array Value) (w : World), (Instr.makeFunc fn first cap).run Tryd.prog w = .ok (.func fn first cap) w := fun _ _ _ _ => rfl
  have HB := Lib.hid (fun t1 t2 => RB.start (d' := d + 1) h t1 t2)
  have h1 := h.deep
  have h2 := h.f1
  have hlt := h.lt
  clear h
  have f1 : ((k : Int) == 1) = true := by subst hk; rfl
  have f2 : ((k : Int) == 2) = false := by subst hk; rfl
  have f3 : ((k : Int) == 3) = false := by subst hk; rfl
  have f4 : ((k : Int) == 4) = false := by subst hk; rfl
  have f5 : ((k : Int) == 5) = false := by subst hk; rfl
  clear hk
  go_enter_defers Tryd.func28, Tryd.ntmps28
  go_wp2_with (first | (go_at_call 46; (with_reducible refine (takeU81_some _ rb bs (d + 1) (HB.out _ _).rdr hr).mono ?_); rintro e w1 ⟨rfl, hR, hS⟩; have B1 := (HB.out _ _).next hS hR; have r0 := B1.res.c0; have r1 := B1.res.c1; have r2 := B1.res.c2; have r3 := B1.res.c3; have r4 := B1.res.c4; have g0 := B1.frz 0 (by omega); have g1 := B1.frz 1 (by omega); have g2 := B1.frz 2 (by omega); have g3 := B1.frz 3 (by omega); have g4 := B1.frz 4 (by omega); have hb0 := B1.box; have hsz := B1.size; have zs1 : w.heap.size + 1 < w1.heap.size := (by omega); have zs0 : w.heap.size < w1.heap.size := (by omega); have hlt1 := B1.lt) | (go_at_call 57; (with_reducible refine (takeI648_some _ rb r (d + 1) (B1.behind ((Below.refl _ _).alloc (Nat.le_refl _) _)).rdr hr2).mono ?_); rintro e w2 ⟨rfl, hR2, hS2⟩; have B2 := (B1.behind ((Below.refl _ _).alloc (Nat.le_refl _) _)).next hS2 hR2; have VB2 := (VB.start w1 ⟨k, 0, .empty, none, 0, 0, none, 0, 0⟩ 28).next hS2 (by omega); have q0 := VB2.at_.c0; have q1 := VB2.at_.c1; have q2 := VB2.at_.c2; have q3 := VB2.at_.c3; have q4 := VB2.at_.c4; have p0 := VB2.fr 1; have r0 := B2.res.c0; have r1 := B2.res.c1; have r2 := B2.res.c2; have r3 := B2.res.c3; have r4 := B2.res.c4; have g0 := B2.frz 0 (by omega); have g1 := B2.frz 1 (by omega); have g2 := B2.frz 2 (by omega); have g3 := B2.frz 3 (by omega); have g4 := B2.frz 4 (by omega); have hb0 := B2.box))
  have B3 := (B2.set (b := w1.heap.size) (o := 1) (x := .int .i64 (wrap64 x)) (by omega)).store ⟨k, wrap64 x, .empty, none, 0, 0, none, 0, 0⟩
  exact RB.leave (base := w.heap.size) B3 (isVal_leaf _ _ k (wrap64 x) .empty (by omega) (by omega) (i64_lo _) (i64_hi _) (by decide)) (Nat.le_refl _) (by omega) (by omega) rfl

set_option maxHeartbeats 4000000 in
set_option maxRecDepth 100000 in
theorem rv_int2_none (w : World) (rb : Nat) (bs : List UInt8) (d : Int) (h : Rdr w rb bs d) (hd0 : 0 ≤ d) (hd : d ≤ 17) {k : Nat} {r : List UInt8} (hr : rdN 1 bs = some (k, r)) (hk : k = 2) (hr2 : rdN 8 r = none) :
    Calls Tryd.prog 28 #[.pointer (some ⟨rb, 0, none⟩)] w (RVPost w rb d none) := by
  have hmf : ∀ (fn : Fn) (first cap : Array Value) (w : World), (Instr.makeFunc fn first cap).run Tryd.prog w = .ok (.func fn first cap) w := fun _ _ _ _ => rfl
  have HB := Lib.hid (fun t1 t2 => RB.start (d' := d + 1) h t1 t2)
  have h1 := h.deep
  have h2 := h.f1
  have hlt := h.lt
  clear h
  have f1 : ((k : Int) == 1) = false := by subst hk; rfl
  have f2 : ((k : Int) == 2) = true := by subst hk; rfl
  have f3 : ((k : Int) == 3) = false := by subst hk; rfl
  have f4 : ((k : Int) == 4) = false := by subst hk; rfl
  have f5 : ((k : Int) == 5) = false := by subst hk; rfl
  clear hk
  go_enter_defers Tryd.func28, Tryd.ntmps28
  go_wp2_with (first | (go_at_call 46; (with_reducible refine (takeU81_some _ rb bs (d + 1) (HB.out _ _).rdr hr).mono ?_); rintro e w1 ⟨rfl, hR, hS⟩; have B1 := (HB.out _ _).next hS hR; have r0 := B1.res.c0; have r1 := B1.res.c1; have r2 := B1.res.c2; have r3 := B1.res.c3; have r4 := B1.res.c4; have g0 := B1.frz 0 (by omega); have g1 := B1.frz 1 (by omega); have g2 := B1.frz 2 (by omega); have g3 := B1.frz 3 (by omega); have g4 := B1.frz 4 (by omega); have hb0 := B1.box; have hsz := B1.size; have zs1 : w.heap.size + 1 < w1.heap.size := (by omega); have zs0 : w.heap.size < w1.heap.size := (by omega); have hlt1 := B1.lt) | (go_at_call 57; (with_reducible refine (takeI648_none _ rb r (d + 1) (B1.behind ((Below.refl _ _).alloc (Nat.le_refl _) _)).rdr hr2).mono ?_); rintro e w2 ⟨rfl, rfl⟩))
  exact (B1.behind ((Below.refl _ _).alloc (Nat.le_refl _) _)).panic (by omega) (by omega)
set_option maxHeartbeats 4000000 in
set_option maxRecDepth 100000 in
theorem rv_int2_some (w : World) (rb : Nat) (bs : List UInt8) (d : Int) (h : Rdr w rb bs d) (hd0 : 0 ≤ d) (hd : d ≤ 17) {k : Nat} {r r2 : List UInt8} {x : Nat} (hr : rdN 1 bs = some (k, r)) (hk : k = 2) (hr2 : rdN 8 r = some (x, r2)) :
    Calls Tryd.prog 28 #[.pointer (some ⟨rb, 0, none⟩)] w (RVPost w rb d (some (.mk k (wrap64 x) .empty [] [], r2))) := by
  have hk1 : k < 256 := rdN_lt hr
  have hmf : ∀ (fn : Fn) (first cap : Array Value) (w : World), (Instr.makeFunc fn first cap).run Tryd.prog w = .ok (.func fn first cap) w := fun _ _ _ _ => rfl
  have HB := Lib.hid (fun t1 t2 => RB.start (d' := d + 1) h t1 t2)
  have h1 := h.deep
  have h2 := h.f1
  have hlt := h.lt
  clear h
  have f1 : ((k : Int) == 1) = false := by subst hk; rfl
  have f2 : ((k : Int) == 2) = true := by subst hk; rfl
  have f3 : ((k : Int) == 3) = false := by subst hk; rfl
  have f4 : ((k : Int) == 4) = false := by subst hk; rfl
  have f5 : ((k : Int) == 5) = false := by subst hk; rfl
  clear hk
  go_enter_defers Tryd.func28, Tryd.ntmps28
  go_wp2_with (first | (go_at_call 46; (with_reducible refine (takeU81_some _ rb bs (d + 1) (HB.out _ _).rdr hr).mono ?_); rintro e w1 ⟨rfl, hR, hS⟩; have B1 := (HB.out _ _).next hS hR; have r0 := B1.res.c0; have r1 := B1.res.c1; have r2 := B1.res.c2; have r3 := B1.res.c3; have r4 := B1.res.c4; have g0 := B1.frz 0 (by omega); have g1 := B1.frz 1 (by omega); have g2 := B1.frz 2 (by omega); have g3 := B1.frz 3 (by omega); have g4 := B1.frz 4 (by omega); have hb0 := B1.box; have hsz := B1.size; have zs1 : w.heap.size + 1 < w1.heap.size := (by omega); have zs0 : w.heap.size < w1.heap.size := (by omega); have hlt1 := B1.lt) | (go_at_call 57; (with_reducible refine (takeI648_some _ rb r (d + 1) (B1.behind ((Below.refl _ _).alloc (Nat.le_refl _) _)).rdr hr2).mono ?_); rintro e w2 ⟨rfl, hR2, hS2⟩; have B2 := (B1.behind ((Below.refl _ _).alloc (Nat.le_refl _) _)).next hS2 hR2; have VB2 := (VB.start w1 ⟨k, 0, .empty, none, 0, 0, none, 0, 0⟩ 28).next hS2 (by omega); have q0 := VB2.at_.c0; have q1 := VB2.at_.c1; have q2 := VB2.at_.c2; have q3 := VB2.at_.c3; have q4 := VB2.at_.c4; have p0 := VB2.fr 1; have r0 := B2.res.c0; have r1 := B2.res.c1; have r2 := B2.res.c2; have r3 := B2.res.c3; have r4 := B2.res.c4; have g0 := B2.frz 0 (by omega); have g1 := B2.frz 1 (by omega); have g2 := B2.frz 2 (by omega); have g3 := B2.frz 3 (by omega); have g4 := B2.frz 4 (by omega); have hb0 := B2.box))
  have B3 := (B2.set (b := w1.heap.size) (o := 1) (x := .int .i64 (wrap64 x)) (by omega)).store ⟨k, wrap64 x, .empty, none, 0, 0, none, 0, 0⟩
  exact RB.leave (base := w.heap.size) B3 (isVal_leaf _ _ k (wrap64 x) .empty (by omega) (by omega) (i64_lo _) (i64_hi _) (by decide)) (Nat.le_refl _) (by omega) (by omega) rfl

set_option maxHeartbeats 4000000 in
set_option maxRecDepth 100000 in
theorem rv_text_none (w : World) (rb : Nat) (bs : List UInt8) (d : Int) (h : Rdr w rb bs d) (hd0 : 0 ≤ d) (hd : d ≤ 17) {k : Nat} {r : List UInt8} (hr : rdN 1 bs = some (k, r)) (hk : k = 3) (hr2 : rdT r = none) :
    Calls Tryd.prog 28 #[.pointer (some ⟨rb, 0, none⟩)] w (RVPost w rb d none) := by
  have hmf : ∀ (fn : Fn) (first cap : Array Value) (w : World), (Instr.makeFunc fn first cap).run Tryd.prog w = .ok (.func fn first cap) w := fun _ _ _ _ => rfl
  have HB := Lib.hid (fun t1 t2 => RB.start (d' := d + 1) h t1 t2)
  have h1 := h.deep
  have h2 := h.f1
  have hlt := h.lt
  clear h
  have f1 : ((k : Int) == 1) = false := by subst hk; rfl
  have f2 : ((k : Int) == 2) = false := by subst hk; rfl
  have f3 : ((k : Int) == 3) = true := by subst hk; rfl
  have f4 : ((k : Int) == 4) = false := by subst hk; rfl
  have f5 : ((k : Int) == 5) = false := by subst hk; rfl
  clear hk
  go_enter_defers Tryd.func28, Tryd.ntmps28
  go_wp2_with (first | (go_at_call 46; (with_reducible refine (takeU81_some _ rb bs (d + 1) (HB.out _ _).rdr hr).mono ?_); rintro e w1 ⟨rfl, hR, hS⟩; have B1 := (HB.out _ _).next hS hR; have r0 := B1.res.c0; have r1 := B1.res.c1; have r2 := B1.res.c2; have r3 := B1.res.c3; have r4 := B1.res.c4; have g0 := B1.frz 0 (by omega); have g1 := B1.frz 1 (by omega); have g2 := B1.frz 2 (by omega); have g3 := B1.frz 3 (by omega); have g4 := B1.frz 4 (by omega); have hb0 := B1.box; have hsz := B1.size; have zs1 : w.heap.size + 1 < w1.heap.size := (by omega); have zs0 : w.heap.size < w1.heap.size := (by omega); have hlt1 := B1.lt) | (go_at_call 58; (with_reducible refine (rText_none _ rb r (d + 1) (B1.behind ((Below.refl _ _).alloc (Nat.le_refl _) _)).rdr hr2).mono ?_); rintro e w2 ⟨rfl, hS2, bs2, hR2⟩))
  exact ((B1.behind ((Below.refl _ _).alloc (Nat.le_refl _) _)).next hS2 hR2).panic (by omega) (by omega)
set_option maxHeartbeats 4000000 in
set_option maxRecDepth 100000 in
theorem rv_text_some (w : World) (rb : Nat) (bs : List UInt8) (d : Int) (h : Rdr w rb bs d) (hd0 : 0 ≤ d) (hd : d ≤ 17) {k : Nat} {r r2 : List UInt8} {x : ByteArray} (hr : rdN 1 bs = some (k, r)) (hk : k = 3) (hr2 : rdT r = some (x, r2)) :
    Calls Tryd.prog 28 #[.pointer (some ⟨rb, 0, none⟩)] w (RVPost w rb d (some (.mk k 0 x [] [], r2))) := by
  have hk1 : k < 256 := rdN_lt hr
  have hmf : ∀ (fn : Fn) (first cap : Array Value) (w : World), (Instr.makeFunc fn first cap).run Tryd.prog w = .ok (.func fn first cap) w := fun _ _ _ _ => rfl
  have HB := Lib.hid (fun t1 t2 => RB.start (d' := d + 1) h t1 t2)
  have h1 := h.deep
  have h2 := h.f1
  have hlt := h.lt
  clear h
  have f1 : ((k : Int) == 1) = false := by subst hk; rfl
  have f2 : ((k : Int) == 2) = false := by subst hk; rfl
  have f3 : ((k : Int) == 3) = true := by subst hk; rfl
  have f4 : ((k : Int) == 4) = false := by subst hk; rfl
  have f5 : ((k : Int) == 5) = false := by subst hk; rfl
  clear hk
  go_enter_defers Tryd.func28, Tryd.ntmps28
  go_wp2_with (first | (go_at_call 46; (with_reducible refine (takeU81_some _ rb bs (d + 1) (HB.out _ _).rdr hr).mono ?_); rintro e w1 ⟨rfl, hR, hS⟩; have B1 := (HB.out _ _).next hS hR; have r0 := B1.res.c0; have r1 := B1.res.c1; have r2 := B1.res.c2; have r3 := B1.res.c3; have r4 := B1.res.c4; have g0 := B1.frz 0 (by omega); have g1 := B1.frz 1 (by omega); have g2 := B1.frz 2 (by omega); have g3 := B1.frz 3 (by omega); have g4 := B1.frz 4 (by omega); have hb0 := B1.box; have hsz := B1.size; have zs1 : w.heap.size + 1 < w1.heap.size := (by omega); have zs0 : w.heap.size < w1.heap.size := (by omega); have hlt1 := B1.lt) | (go_at_call 58; (with_reducible refine (rText_some _ rb r (d + 1) (B1.behind ((Below.refl _ _).alloc (Nat.le_refl _) _)).rdr hr2).mono ?_); rintro e w2 ⟨rfl, hR2, hS2⟩; have B2 := (B1.behind ((Below.refl _ _).alloc (Nat.le_refl _) _)).next hS2 hR2; have VB2 := (VB.start w1 ⟨k, 0, .empty, none, 0, 0, none, 0, 0⟩ 28).next hS2 (by omega); have q0 := VB2.at_.c0; have q1 := VB2.at_.c1; have q2 := VB2.at_.c2; have q3 := VB2.at_.c3; have q4 := VB2.at_.c4; have p0 := VB2.fr 2; have r0 := B2.res.c0; have r1 := B2.res.c1; have r2 := B2.res.c2; have r3 := B2.res.c3; have r4 := B2.res.c4; have g0 := B2.frz 0 (by omega); have g1 := B2.frz 1 (by omega); have g2 := B2.frz 2 (by omega); have g3 := B2.frz 3 (by omega); have g4 := B2.frz 4 (by omega); have hb0 := B2.box))
  have B3 := (B2.set (b := w1.heap.size) (o := 2) (x := .string x) (by omega)).store ⟨k, 0, x, none, 0, 0, none, 0, 0⟩
  exact RB.leave (base := w.heap.size) B3 (isVal_leaf _ _ k 0 x (by omega) (by omega) (by decide) (by decide) (rdT_size hr2)) (Nat.le_refl _) (by omega) (by omega) rfl

set_option maxHeartbeats 4000000 in
set_option maxRecDepth 100000 in
theorem rv_list_none (w : World) (rb : Nat) (bs : List UInt8) (d : Int) (h : Rdr w rb bs d) (hd0 : 0 ≤ d) (hd : d ≤ 17) {k : Nat} {r : List UInt8} (hr : rdN 1 bs = some (k, r)) (hk : k = 4) (hr2 : rdM 4 r = none) :
    Calls Tryd.prog 28 #[.pointer (some ⟨rb, 0, none⟩)] w (RVPost w rb d none) := by
  have hmf : ∀ (fn : Fn) (first cap : Array Value) (w : World), (Instr.makeFunc fn first cap).run Tryd.prog w = .ok (.func fn first cap) w := fun _ _ _ _ => rfl
  have HB := Lib.hid (fun t1 t2 => RB.start (d' := d + 1) h t1 t2)
  have h1 := h.deep
  have h2 := h.f1
  have hlt := h.lt
  clear h
  have f1 : ((k : Int) == 1) = false := by subst hk; rfl
  have f2 : ((k : Int) == 2) = false := by subst hk; rfl
  have f3 : ((k : Int) == 3) = false := by subst hk; rfl
  have f4 : ((k : Int) == 4) = true := by subst hk; rfl
  have f5 : ((k : Int) == 5) = false := by subst hk; rfl
  clear hk
  go_enter_defers Tryd.func28, Tryd.ntmps28
  go_wp2_with (first | (go_at_call 46; (with_reducible refine (takeU81_some _ rb bs (d + 1) (HB.out _ _).rdr hr).mono ?_); rintro e w1 ⟨rfl, hR, hS⟩; have B1 := (HB.out _ _).next hS hR; have r0 := B1.res.c0; have r1 := B1.res.c1; have r2 := B1.res.c2; have r3 := B1.res.c3; have r4 := B1.res.c4; have g0 := B1.frz 0 (by omega); have g1 := B1.frz 1 (by omega); have g2 := B1.frz 2 (by omega); have g3 := B1.frz 3 (by omega); have g4 := B1.frz 4 (by omega); have hb0 := B1.box; have hsz := B1.size; have zs1 : w.heap.size + 1 < w1.heap.size := (by omega); have zs0 : w.heap.size < w1.heap.size := (by omega); have hlt1 := B1.lt) | (go_at_call 48; (with_reducible refine (many4_none _ rb r (d + 1) (B1.behind ((Below.refl _ _).alloc (Nat.le_refl _) _)).rdr hr2).mono ?_); rintro e w2 ⟨rfl, hS2, bs2, hR2⟩))
  exact ((B1.behind ((Below.refl _ _).alloc (Nat.le_refl _) _)).next hS2 hR2).panic (by omega) (by omega)

set_option maxHeartbeats 4000000 in
set_option maxRecDepth 100000 in
theorem rv_obj_none (w : World) (rb : Nat) (bs : List UInt8) (d : Int) (h : Rdr w rb bs d) (hd0 : 0 ≤ d) (hd : d ≤ 17) {k : Nat} {r : List UInt8} (hr : rdN 1 bs = some (k, r)) (hk : k = 5) (hr2 : rdM 4 r = none) :
    Calls Tryd.prog 28 #[.pointer (some ⟨rb, 0, none⟩)] w (RVPost w rb d none) := by
  have hmf : ∀ (fn : Fn) (first cap : Array Value) (w : World), (Instr.makeFunc fn first cap).run Tryd.prog w = .ok (.func fn first cap) w := fun _ _ _ _ => rfl
  have HB := Lib.hid (fun t1 t2 => RB.start (d' := d + 1) h t1 t2)
  have h1 := h.deep
  have h2 := h.f1
  have hlt := h.lt
  clear h
  have f1 : ((k : Int) == 1) = false := by subst hk; rfl
  have f2 : ((k : Int) == 2) = false := by subst hk; rfl
  have f3 : ((k : Int) == 3) = false := by subst hk; rfl
  have f4 : ((k : Int) == 4) = false := by subst hk; rfl
  have f5 : ((k : Int) == 5) = true := by subst hk; rfl
  clear hk
  go_enter_defers Tryd.func28, Tryd.ntmps28
  go_wp2_with (first | (go_at_call 46; (with_reducible refine (takeU81_some _ rb bs (d + 1) (HB.out _ _).rdr hr).mono ?_); rintro e w1 ⟨rfl, hR, hS⟩; have B1 := (HB.out _ _).next hS hR; have r0 := B1.res.c0; have r1 := B1.res.c1; have r2 := B1.res.c2; have r3 := B1.res.c3; have r4 := B1.res.c4; have g0 := B1.frz 0 (by omega); have g1 := B1.frz 1 (by omega); have g2 := B1.frz 2 (by omega); have g3 := B1.frz 3 (by omega); have g4 := B1.frz 4 (by omega); have hb0 := B1.box; have hsz := B1.size; have zs1 : w.heap.size + 1 < w1.heap.size := (by omega); have zs0 : w.heap.size < w1.heap.size := (by omega); have hlt1 := B1.lt) | (go_at_call 48; (with_reducible refine (many4_none _ rb r (d + 1) (B1.behind ((Below.refl _ _).alloc (Nat.le_refl _) _)).rdr hr2).mono ?_); rintro e w2 ⟨rfl, hS2, bs2, hR2⟩))
  exact ((B1.behind ((Below.refl _ _).alloc (Nat.le_refl _) _)).next hS2 hR2).panic (by omega) (by omega)
end Go.Proofs.YtcfbnmobfcabiaaDoor
namespace Go.Proofs.YtcfbnmobfcabiaaDoor
open Go.RowKit
theorem grown_below {w w' : World} {row : Option Nat} {B : Nat} (hg : w.grownBy w' row) (hr : ∀ k, row = some k → B ≤ k) (hB : B ≤ w.heap.size) : Below B w w' :=
  ⟨hg.os, hg.tape, hg.output, hg.size, fun k hk => hg.block k (by omega) (fun e => by have := hr k e.symm; omega)⟩
theorem Rdr.below {w w' : World} {rb B : Nat} {bs : List UInt8} {d : Int} (h : Rdr w rb bs d) (hb : Below B w w') (hB : rb < B) : Rdr w' rb bs d := by
  obtain ⟨⟨a, n, c, h0, hI⟩, h1, h2, h3⟩ := h
  exact ⟨⟨a, n, c, keep_cell hb h0 hB, hI.keep (hb.mono (Nat.le_of_lt hB))⟩, keep_cell hb h1 hB, (hb.frozen hB).trans h2, (hb.frozen hB).trans h3⟩
theorem RB.below {w W W' : World} {rb : Nat} {bs : List UInt8} {d : Int} {c : VC} (h : RB w W rb bs d c) (hb : Below (w.heap.size + 2) W W') : RB w W' rb bs d c := by
  have hlt := h.lt
  have hs : RStep w W' rb := ⟨hb.os.trans h.st.os, hb.tape.trans h.st.tape, hb.output.trans h.st.output, Nat.le_trans h.st.size hb.size, fun k hk hr => (hb.block k (by omega)).trans (h.st.block k hk hr)⟩
  exact ⟨h.rdr.below hb (by omega), hs, keep_cell hb h.box (by omega), h.res.keep hb (by omega), fun j hj => (hb.frozen (p := ⟨w.heap.size + 1, j, none⟩) (show w.heap.size + 1 < w.heap.size + 2 by omega)).trans (h.frz j hj), hlt, Nat.le_trans h.size hb.size⟩
theorem VB.keep {W W' : World} {vb B : Nat} {c : VC} (h : VB W vb c) (hb : Below B W W') (hB : vb < B) : VB W' vb c :=
  ⟨h.at_.keep hb hB, fun j => (hb.frozen hB).trans (h.fr j)⟩
theorem VB.setL {W : World} {vb : Nat} {c : VC} (h : VB W vb c) (a : Option Addr) (n cp : Nat) : VB (W.setCell ⟨vb, 3, none⟩ (.slice a n cp)) vb ⟨c.k, c.n, c.s, a, n, cp, c.oa, c.ol, c.oc⟩ := by
  have g0 := h.at_.c0
  have g1 : W.cell? ⟨vb, 1, none⟩ = _ := h.at_.c1
  have g2 : W.cell? ⟨vb, 2, none⟩ = _ := h.at_.c2
  have g3 : W.cell? ⟨vb, 3, none⟩ = _ := h.at_.c3
  have g4 : W.cell? ⟨vb, 4, none⟩ = _ := h.at_.c4
  refine ⟨?_, fun j => by simpa using h.fr j⟩
  constructor <;> simp [go_sem, g0, g1, g2, g3, g4]
theorem VB.setO {W : World} {vb : Nat} {c : VC} (h : VB W vb c) (a : Option Addr) (n cp : Nat) : VB (W.setCell ⟨vb, 4, none⟩ (.slice a n cp)) vb ⟨c.k, c.n, c.s, c.la, c.ll, c.lc, a, n, cp⟩ := by
  have g0 := h.at_.c0
  have g1 : W.cell? ⟨vb, 1, none⟩ = _ := h.at_.c1
  have g2 : W.cell? ⟨vb, 2, none⟩ = _ := h.at_.c2
  have g3 : W.cell? ⟨vb, 3, none⟩ = _ := h.at_.c3
  have g4 : W.cell? ⟨vb, 4, none⟩ = _ := h.at_.c4
  refine ⟨?_, fun j => by simpa using h.fr j⟩
  constructor <;> simp [go_sem, g0, g1, g2, g3, g4]
theorem drew_below (w : World) : Below w.heap.size w w.drew := (Below.refl _ _).drew

/-- At the head of a round of the list's loop. -/
structure LI (w wr : World) (rb vb : Nat) (d : Int) (k : Nat) (kd : Nat) (q : List UInt8) (j : Nat) (a : Option Addr) (m c : Nat) (xs : List V) (cs : List VC) (rj : List UInt8) : Prop where
  rd : rdL (fun x => rdV k x) j q = some (xs, rj)
  len : xs.length = j
  cen : cs.length = j
  box : RB w wr rb rj (d + 1) vzero
  vb_ : VB wr vb ⟨kd, 0, .empty, a, m, c, none, 0, 0⟩
  row : RowV wr (vb + 1) (.slice a m c) xs cs
  lo : w.heap.size + 2 ≤ vb
theorem LI.round {w wr w4 w5 : World} {rb vb : Nat} {d : Int} {k kd : Nat} {q : List UInt8} {j : Nat} {a : Option Addr} {m c : Nat} {xs : List V} {cs : List VC} {rj r2 : List UInt8} {x : V} {cx : VC} {g cap : Nat} {t : TypeId}
    (h : LI w wr rb vb d k kd q j a m c xs cs rj) (hx : rdV k rj = some (x, r2)) (hS : RStep wr.drew w4 rb) (hI : IsVal (only (fun b => wr.drew.heap.size ≤ b) w4) w4.heap.size x cx) (hR : Rdr w4 rb r2 (d + 1))
    (hown : w5.ownsRow (vb + 1) 28 5 (.slice (some ⟨g, 0, none⟩) (j + 1) cap) (j + 1) (cs.flatMap vcells ++ vcells cx)) (hg : (w4.alloc (.cells #[.int .u8 cx.k, .int .i64 cx.n, .string cx.s, .slice cx.la cx.ll cx.lc, .slice cx.oa cx.ol cx.oc] t)).grownBy w5 (Value.slice a m c).ownBlock)
    (hat : (Value.slice a m c).ownBlock = some g ∨ g = w4.heap.size + 1) :
    LI w (w5.setCell ⟨vb, 3, none⟩ (.slice (some ⟨g, 0, none⟩) (j + 1) cap)) rb vb d k kd q (j + 1) (some ⟨g, 0, none⟩) (j + 1) cap (xs ++ [x]) (cs ++ [cx]) r2 := by
  have hlo := h.lo
  have hlt := h.box.lt
  have hdz : wr.drew.heap.size = wr.heap.size := rfl
  have hb1 := drew_below wr
  have hrow := (h.row.later (PV.closed xs cs) (.of_below rb hb1) (by omega)).later (PV.closed xs cs) hS (by omega)
  have hrlt : ∀ b, (Value.slice a m c).ownBlock = some b → vb + 1 ≤ b ∧ b < wr.heap.size := h.row.lt
  have hba : Below w4.heap.size w4 (w4.alloc (.cells #[.int .u8 cx.k, .int .i64 cx.n, .string cx.s, .slice cx.la cx.ll cx.lc, .slice cx.oa cx.ol cx.oc] t)) := (Below.refl _ _).alloc (Nat.le_refl _) _
  have hsz4 : wr.heap.size ≤ w4.heap.size := hS.size
  have hvlt := h.vb_.lt
  have hgb : Below (vb + 1) (w4.alloc (.cells #[.int .u8 cx.k, .int .i64 cx.n, .string cx.s, .slice cx.la cx.ll cx.lc, .slice cx.oa cx.ol cx.oc] t)) w5 := grown_below hg (fun b hb => (hrlt b hb).1) (by simp; omega)
  have hb45 : Below (vb + 1) w4 w5 := (hba.mono (by omega)).trans hgb
  obtain ⟨s1, s2⟩ := PV.snoc (l := xs) (cs := cs) (by rw [h.len, h.cen]) x cx
  have hnew : PV (xs ++ [x]) (cs ++ [cx]) (only (Free (vb + 1) (.slice a m c)) w4) w4.heap.size xs.length := s1 _ _ (hI.sub (shows_step fun b hb _ => ⟨⟨by rw [hdz] at hb; omega, fun e => by have := (hrlt b e.symm).2; rw [hdz] at hb; omega⟩, rfl⟩))
  have hpush := Row.push (PV.closed (xs ++ [x]) (cs ++ [cx])) hrow hba hg (u' := .slice (some ⟨g, 0, none⟩) (j + 1) cap) (news := vcells cx) (by rw [h.len]; exact hown) (by
    rcases hat with e | e
    · left; rw [e]; rfl
    · right; intro b hb; have : g = b := by simpa [Value.ownBlock] using hb
      omega) hnew s2
  have hbox := ((h.box.behind hb1).next hS hR).below (hb45.mono (by omega))
  have hvb := ((h.vb_.keep hb1 hvlt).next hS (by omega)).keep hb45 (by omega)
  refine ⟨?_, by simp [h.len], by simp [h.cen], hbox.set (by omega), hvb.setL _ _ _, ?_, hlo⟩
  · rw [rdL, h.rd]; simp only [Option.bind_some, hx]
  · have hr2 : RowV w5 (vb + 1) (.slice (some ⟨g, 0, none⟩) (j + 1) cap) (xs ++ [x]) (cs ++ [cx]) := by
      show Row _ _ _ _ _ _ _ _
      rw [flat_snoc, List.length_append, List.length_singleton]
      exact hpush
    exact hr2.set (PV.closed _ _) (by omega)

/-- Q, but at a panic: these deferred calls, what a reader panics with, P of the world. -/
def PanicP (D : List Deferred) (Pw : World → Prop) (Q : Exit → Act → World → Prop) : Exit → Act → World → Prop
  | .panic c, a, w => a.defers = D ∧ c = [short] ∧ Pw w
  | e, a, w => Q e a w
theorem wp_region_panicP {P : Program} {id : Nat} {ops : Array Oper} {b : Bool} {Q : Exit → Act → World → Prop} {a : Act} {w : World} (D : List Deferred) (Pw : World → Prop) (hq : ∀ a w, a.defers = D → Pw w → Q (.panic [short]) a w)
    (h : (Code.region id ops b).wp P (PanicP D Pw Q) a w) : (Code.region id ops b).wp P Q a w :=
  Code.wp_mono (fun e a w h => by
    cases e <;> first | exact h | (obtain ⟨h1, h2, h3⟩ := h; subst h2; exact hq _ _ h1 h3)) h
theorem PanicP.normal {D : List Deferred} {Pw : World → Prop} {Q : Exit → Act → World → Prop} {a : Act} {w : World} (h : Q .normal a w) : PanicP D Pw Q .normal a w := h
theorem RStep.self {W : World} {b o : Nat} {x : Value} : RStep W (W.setCell ⟨b, o, none⟩ x) b := ⟨rfl, rfl, rfl, by simp, fun k hk hr => heap_setCell_other _ _ _ _ hr⟩
theorem isVal_far {W W' : World} {b base : Nat} {x : V} {c : VC} (h : IsVal (only (fun k => base ≤ k) W) W.heap.size x c) (s : RStep W W' b) (hb : b < base) : IsVal (only (fun k => base ≤ k) W') W'.heap.size x c :=
  (h.sub (shows_step fun k hk hl => ⟨hk, s.block k hl (by omega)⟩)).more s.size
/-- How the loop is left, at its end. -/
theorem leave_stored {w W : World} {rb base : Nat} {r : List UInt8} {d : Int} {c0 : VC} {x : V} {tmps : Array Value} (h : RB w W rb r (d + 1) c0) (c : VC) (hx : IsVal (only (fun b => base ≤ b) W) W.heap.size x c) (hb : w.heap.size + 1 < base) (hd : 0 ≤ d) (hd2 : d ≤ 100) (ht : tmps[2]? = some (.pointer (some ⟨w.heap.size + 1, 0, none⟩))) :
    Leaves Tryd.prog Tryd.f28 tmps (RVPost w rb d (some (x, r))) [{ target := .fn (.func 56) #[.pointer (some ⟨w.heap.size, 0, none⟩)], args := #[] }] .returning
      (((((W.setCell ⟨w.heap.size + 1, 0, none⟩ (.int .u8 c.k)).setCell ⟨w.heap.size + 1, 1, none⟩ (.int .i64 c.n)).setCell ⟨w.heap.size + 1, 2, none⟩ (.string c.s)).setCell ⟨w.heap.size + 1, 3, none⟩ (.slice c.la c.ll c.lc)).setCell ⟨w.heap.size + 1, 4, none⟩ (.slice c.oa c.ol c.oc)) :=
  (h.store c).leave (base := base) (isVal_far hx ((((RStep.self.trans RStep.self).trans RStep.self).trans RStep.self).trans RStep.self) hb) (by omega) hd hd2 ht
end Go.Proofs.YtcfbnmobfcabiaaDoor
namespace Go.Proofs.YtcfbnmobfcabiaaDoor
open Go.RowKit
/-- Block b holds these cells, and may be written. -/
structure BC (W : World) (b : Nat) (cs : List Value) : Prop where
  at_ : ∀ j x, cs[j]? = some x → W.cell? ⟨b, j, none⟩ = some x
  fr : ∀ j, W.frozen? ⟨b, j, none⟩ = false
  lt : b < W.heap.size
theorem BC.start (w : World) (cs : Array Value) (t : TypeId) : BC (w.alloc (.cells cs t)) w.heap.size cs.toList :=
  ⟨fun j x hj => cells_new w cs t j x (by rw [← hj]; simp), fun j => frozen_new w cs t j, by simp⟩
theorem BC.next {W W' : World} {b rb : Nat} {cs : List Value} (h : BC W b cs) (s : RStep W W' rb) (hb : b ≠ rb) : BC W' b cs :=
  ⟨fun j x hj => s.cell (h.at_ j x hj) hb, fun j => (s.frozen h.lt hb).trans (h.fr j), Nat.lt_of_lt_of_le h.lt s.size⟩
theorem BC.keep {W W' : World} {b B : Nat} {cs : List Value} (h : BC W b cs) (hb : Below B W W') (hB : b < B) : BC W' b cs :=
  ⟨fun j x hj => keep_cell hb (h.at_ j x hj) hB, fun j => (hb.frozen (p := ⟨b, j, none⟩) hB).trans (h.fr j), Nat.lt_of_lt_of_le h.lt hb.size⟩
theorem BC.set {W : World} {b i : Nat} {x : Value} {cs : List Value} (h : BC W b cs) (hi : i < cs.length) : BC (W.setCell ⟨b, i, none⟩ x) b (cs.set i x) := by
  refine ⟨fun j y hj => ?_, fun j => by simpa using h.fr j, by simpa using h.lt⟩
  by_cases e : i = j
  · subst e
    rw [List.getElem?_set_self hi] at hj
    injection hj with hj
    subst hj
    exact World.cell?_setCell_same _ _ _ (h.at_ i cs[i] (by simp [hi]))
  · rw [List.getElem?_set_ne e] at hj
    rw [World.cell?_setCell_other]
    · exact h.at_ j y hj
    · intro e2; injection e2 with _ e3; exact e (by first | exact e3 | exact e3.symm)
theorem BC.far {W : World} {b b' o : Nat} {x : Value} {cs : List Value} (h : BC W b cs) (hb : b ≠ b') : BC (W.setCell ⟨b', o, none⟩ x) b cs :=
  h.next RStep.self hb

def RSPost (w : World) (rb : Nat) (d : Int) (r : Option (St × List UInt8)) (e : Ending) (w' : World) : Prop :=
  RStep w w' rb ∧ match r with
    | some (s, r) => e = .returned (.agg #[.bool s.list, .int .i64 s.i, .string s.key]) ∧ Rdr w' rb r d
    | none => e = .panicked [short] ∧ ∃ bs', Rdr w' rb bs' d
theorem rdS_bnd {bs r : List UInt8} {s : St} (h : rdS bs = some (s, r)) : s.Bnd := by
  unfold rdS at h
  cases h1 : rdN 1 bs with
  | none => rw [h1] at h; cases h
  | some p =>
    rw [h1] at h
    simp only [Option.bind_some] at h
    split at h
    · cases h2 : rdN 8 p.2 with
      | none => rw [h2] at h; cases h
      | some q =>
        rw [h2] at h
        simp only [Option.bind_some] at h
        injection h with h; injection h with h h'; subst h
        exact ⟨i64_lo _, i64_hi _, (by decide : ByteArray.empty.size ≤ 140737488355328)⟩
    · cases h2 : rdT p.2 with
      | none => rw [h2] at h; cases h
      | some q =>
        rw [h2] at h
        simp only [Option.bind_some] at h
        injection h with h; injection h with h h'; subst h
        exact ⟨(by decide : (-9223372036854775808 : Int) ≤ 0), (by decide : (0 : Int) ≤ 9223372036854775807), rdT_size h2⟩
theorem results_step {tmps : Array Value} {W : World} {b : Nat} {l : Bool} {i : Int} {k : ByteArray} (ht : tmps[2]? = some (.pointer (some ⟨b, 0, none⟩))) (h : BC W b [.bool l, .int .i64 i, .string k]) : (results Tryd.f81 tmps).run Tryd.prog W = .ok (.agg #[.bool l, .int .i64 i, .string k]) W := by
  have h0 := h.at_ 0 _ rfl
  have h1 := h.at_ 1 _ rfl
  have h2 := h.at_ 2 _ rfl
  simp [results, Tryd.results81, go_sem, ht, h0, h1, h2]
set_option maxHeartbeats 4000000 in
set_option maxRecDepth 100000 in
theorem rStep_any (w : World) (rb : Nat) (bs : List UInt8) (d : Int) (h : Rdr w rb bs d) : Calls Tryd.prog 81 #[.pointer (some ⟨rb, 0, none⟩)] w (RSPost w rb d (rdS bs)) := by
  have hlt := h.lt
  have hb : ∀ t, Below w.heap.size w (w.alloc (.cells #[.bool false, .int .i64 0, .string { data := #[] }] t)) := fun t => (Below.refl _ _).alloc (Nat.le_refl _) _
  have HB := Lib.hid hb
  have H := Lib.hid h
  have HC := Lib.hid (fun t => BC.start w #[.bool false, .int .i64 0, .string { data := #[] }] t)
  clear h hb
  cases hr : rdN 1 bs with
  | none =>
    have e : rdS bs = none := by rw [rdS, hr]; rfl
    rw [e]
    have HR := Lib.hid hr
    clear hr e
    go_enter Tryd.func81, Tryd.ntmps81
    go_wp2_with (go_at_call 46; (with_reducible refine (takeU81_none _ rb bs d (H.out.of_below (HB.out _)) HR.out).mono ?_); rintro e w1 ⟨rfl, rfl⟩)
    exact ⟨rfl, .of_below rb (HB.out _), rfl, bs, H.out.of_below (HB.out _)⟩
  | some p =>
    obtain ⟨k, r⟩ := p
    have HR := Lib.hid hr
    by_cases ek : k = 1
    · subst ek
      cases h2 : rdN 8 r with
      | none =>
        have e : rdS bs = none := by rw [rdS, hr]; simp only [Option.bind_some, if_true, h2]; rfl
        rw [e]
        have HR2 := Lib.hid h2
        clear hr e h2
        go_enter Tryd.func81, Tryd.ntmps81
        go_wp2_with (first | (go_at_call 46; (with_reducible refine (takeU81_some _ rb bs d (H.out.of_below (HB.out _)) HR.out).mono ?_); rintro e w1 ⟨rfl, hR1, hS1⟩) | (go_at_call 80; (with_reducible refine (takeInt8_none _ rb r d hR1 HR2.out).mono ?_); rintro e w2 ⟨rfl, rfl⟩))
        exact ⟨rfl, (RStep.of_below rb (HB.out _)).trans hS1, rfl, r, hR1⟩
      | some q =>
        obtain ⟨n, r2⟩ := q
        have e : rdS bs = some (⟨true, wrap64 n, .empty⟩, r2) := by rw [rdS, hr]; simp only [Option.bind_some, if_true, h2]
        rw [e]
        have HR2 := Lib.hid h2
        clear hr e h2
        go_enter Tryd.func81, Tryd.ntmps81
        go_wp2_with (first | (go_at_call 46; (with_reducible refine (takeU81_some _ rb bs d (H.out.of_below (HB.out _)) HR.out).mono ?_); rintro e w1 ⟨rfl, hR1, hS1⟩) | (go_at_call 80; (with_reducible refine (takeInt8_some _ rb r d hR1 HR2.out).mono ?_); rintro e w2 ⟨rfl, hR2, hS2⟩; have C2 := ((HC.out 104).next hS1 (by omega)).next hS2 (by omega); have y0 := C2.at_ 0 _ rfl; have y1 := C2.at_ 1 _ rfl; have y2 := C2.at_ 2 _ rfl; have g0 := C2.fr 0; have g1 := C2.fr 1; have g2 := C2.fr 2))
        have hw : w.heap.size ≤ w.heap.size := Nat.le_refl _
        have C3 := ((C2.set (i := 0) (x := .bool true) (by simp)).set (i := 1) (x := .int .i64 (wrap64 n)) (by simp)).set (i := 2) (x := .string .empty) (by simp)
        refine ⟨rfl, _, results_step (l := true) (i := (wrap64 n)) (k := .empty) rfl C3, ?_⟩
        exact ⟨((((RStep.of_below rb (HB.out _)).trans (hS1.trans hS2)).setNew hw).setNew hw).setNew hw, rfl, ((hR2.setNew (by omega)).setNew (by omega)).setNew (by omega)⟩
    · have f1 : ((k : Int) == 1) = false := by simp; omega
      cases h2 : rdT r with
      | none =>
        have e : rdS bs = none := by rw [rdS, hr]; simp only [Option.bind_some, if_neg ek, h2]; rfl
        rw [e]
        have HR2 := Lib.hid h2
        clear hr e h2 ek
        go_enter Tryd.func81, Tryd.ntmps81
        go_wp2_with (first | (go_at_call 46; (with_reducible refine (takeU81_some _ rb bs d (H.out.of_below (HB.out _)) HR.out).mono ?_); rintro e w1 ⟨rfl, hR1, hS1⟩) | (go_at_call 58; (with_reducible refine (rText_none _ rb r d hR1 HR2.out).mono ?_); rintro e w2 ⟨rfl, hS2, hR2⟩))
        exact ⟨rfl, (RStep.of_below rb (HB.out _)).trans (hS1.trans hS2), rfl, hR2⟩
      | some q =>
        obtain ⟨s, r2⟩ := q
        have e : rdS bs = some (⟨false, 0, s⟩, r2) := by rw [rdS, hr]; simp only [Option.bind_some, if_neg ek, h2]
        rw [e]
        have HR2 := Lib.hid h2
        clear hr e h2 ek
        go_enter Tryd.func81, Tryd.ntmps81
        go_wp2_with (first | (go_at_call 46; (with_reducible refine (takeU81_some _ rb bs d (H.out.of_below (HB.out _)) HR.out).mono ?_); rintro e w1 ⟨rfl, hR1, hS1⟩) | (go_at_call 58; (with_reducible refine (rText_some _ rb r d hR1 HR2.out).mono ?_); rintro e w2 ⟨rfl, hR2, hS2⟩; have C2 := ((HC.out 104).next hS1 (by omega)).next hS2 (by omega); have y0 := C2.at_ 0 _ rfl; have y1 := C2.at_ 1 _ rfl; have y2 := C2.at_ 2 _ rfl; have g0 := C2.fr 0; have g1 := C2.fr 1; have g2 := C2.fr 2))
        have hw : w.heap.size ≤ w.heap.size := Nat.le_refl _
        have C3 := ((C2.set (i := 0) (x := .bool false) (by simp)).set (i := 1) (x := .int .i64 0) (by simp)).set (i := 2) (x := .string s) (by simp)
        refine ⟨rfl, _, results_step (l := false) (i := 0) (k := s) rfl C3, ?_⟩
        exact ⟨((((RStep.of_below rb (HB.out _)).trans (hS1.trans hS2)).setNew hw).setNew hw).setNew hw, rfl, ((hR2.setNew (by omega)).setNew (by omega)).setNew (by omega)⟩
end Go.Proofs.YtcfbnmobfcabiaaDoor
namespace Go.Proofs.YtcfbnmobfcabiaaDoor
open Go.RowKit
structure Tk where
  k : Int
  n : Int
  s : ByteArray
  m : Int
structure Tk.Bnd (t : Tk) : Prop where
  k0 : 0 ≤ t.k
  k1 : t.k < 256
  n0 : -9223372036854775808 ≤ t.n
  n1 : t.n ≤ 9223372036854775807
  s1 : t.s.size ≤ 140737488355328
  m0 : 0 ≤ t.m
  m1 : t.m < 256
structure TkAt (w : World) (b o : Nat) (t : Tk) : Prop where
  c0 : w.cell? ⟨b, o, none⟩ = some (.int .u8 t.k)
  c1 : w.cell? ⟨b, o + 1, none⟩ = some (.int .i64 t.n)
  c2 : w.cell? ⟨b, o + 2, none⟩ = some (.string t.s)
  c3 : w.cell? ⟨b, o + 3, none⟩ = some (.int .u8 t.m)
theorem TkAt.keep {w w' : World} {B b o : Nat} {t : Tk} (h : TkAt w b o t) (hb : Below B w w') (hB : b < B) : TkAt w' b o t :=
  ⟨keep_cell hb h.c0 hB, keep_cell hb h.c1 hB, keep_cell hb h.c2 hB, keep_cell hb h.c3 hB⟩
/-- A slice of pieces. -/
structure IsToks (w : World) (B : Nat) (l : List Tk) (a : Option Addr) (n c : Nat) : Prop where
  len : n = l.length
  cap : n ≤ c
  max : c ≤ 9223372036854775807
  at_ : ∃ b o, (0 < n → a = some ⟨b, o, none⟩ ∧ b < B) ∧ ∀ i (h : i < l.length), TkAt w b (o + i * 4) l[i] ∧ l[i].Bnd
theorem IsToks.keep {w w' : World} {B : Nat} {l : List Tk} {a : Option Addr} {n c : Nat} (h : IsToks w B l a n c) (hb : Below B w w') : IsToks w' B l a n c := by
  obtain ⟨h1, h2, h3, b, o, h5, h6⟩ := h
  exact ⟨h1, h2, h3, b, o, h5, fun i hi => ⟨(h6 i hi).1.keep hb (h5 (by omega)).2, (h6 i hi).2⟩⟩
theorem IsToks.more {w : World} {B B' : Nat} {l : List Tk} {a : Option Addr} {n c : Nat} (h : IsToks w B l a n c) (hB : B ≤ B') : IsToks w B' l a n c := by
  obtain ⟨h1, h2, h3, b, o, h5, h6⟩ := h
  exact ⟨h1, h2, h3, b, o, fun hn => ⟨(h5 hn).1, Nat.lt_of_lt_of_le (h5 hn).2 hB⟩, h6⟩
theorem IsToks.later_ {w w' : World} {l : List Tk} {a : Option Addr} {n c : Nat} (h : IsToks w w.heap.size l a n c) (hb : Below w.heap.size w w') : IsToks w' w'.heap.size l a n c := (h.keep hb).more hb.size
theorem IsToks.get {w : World} {B : Nat} {l : List Tk} {a : Option Addr} {n c : Nat} (h : IsToks w B l a n c) {k : Nat} (hk : k < n) :
    ∃ b o, ∃ hp : k < l.length, a = some ⟨b, o, none⟩ ∧ b < B ∧ TkAt w b (o + k * 4) l[k] ∧ l[k].Bnd := by
  obtain ⟨h1, h2, h3, b, o, h5, h6⟩ := h
  exact ⟨b, o, by omega, (h5 (by omega)).1, (h5 (by omega)).2, h6 k (by omega)⟩
theorem IsToks.drop {w : World} {B : Nat} {l : List Tk} {a : Option Addr} {n c : Nat} (h : IsToks w B l a n c) (k : Nat) (hk : k ≤ n) : IsToks w B (l.drop k) (a.map (fun x => x.add (k * 4))) (n - k) (c - k) := by
  obtain ⟨h1, h2, h3, b, o, h5, h6⟩ := h
  refine ⟨by rw [List.length_drop]; omega, by omega, by omega, b, o + k * 4, fun hn => ?_, fun i hi => ?_⟩
  · obtain ⟨e, hb⟩ := h5 (by omega)
    exact ⟨by rw [e, Option.map_some, add_at], hb⟩
  · rw [List.length_drop] at hi
    have := h6 (k + i) (by omega)
    rw [List.getElem_drop, show o + k * 4 + i * 4 = o + (k + i) * 4 by rw [Nat.add_mul]; omega]; exact this
theorem IsToks.none_left {w : World} {B : Nat} {l : List Tk} {a a' : Option Addr} {n c : Nat} (h : IsToks w B l a n c) (hn : n = 0) : IsToks w B l a' 0 0 := by
  obtain ⟨h1, h2, h3, b, o, h5, h6⟩ := h
  exact ⟨by omega, by omega, by omega, b, o, fun h => by omega, h6⟩
theorem IsToks.take {w : World} {B : Nat} {l : List Tk} {a : Option Addr} {n c : Nat} (h : IsToks w B l a n c) (k : Nat) (hk : k ≤ n) : IsToks w B (l.take k) a k c := by
  obtain ⟨h1, h2, h3, b, o, h5, h6⟩ := h
  refine ⟨by rw [List.length_take]; omega, by omega, h3, b, o, fun hn => h5 (by omega), fun i hi => ?_⟩
  rw [List.length_take] at hi
  rw [List.getElem_take]; exact h6 i (by omega)
end Go.Proofs.YtcfbnmobfcabiaaDoor
namespace Go.Proofs.YtcfbnmobfcabiaaDoor
open Go.RowKit
def V.str : V → ByteArray
  | .mk _ _ s _ _ => s
/-- So many times what f makes of the pieces from where it stopped; is it at an end? -/
def fR (f : List Tk → V × Nat) (l : List Tk) : Nat → List V × Nat × Bool
  | 0 => ([], 1, false)
  | i + 1 => if (fR f l i).2.2 = true then fR f l i else if (f (l.drop (fR f l i).2.1)).2 = 0 then ((fR f l i).1, (fR f l i).2.1, true)
    else ((fR f l i).1 ++ [(f (l.drop (fR f l i).2.1)).1], (fR f l i).2.1 + (f (l.drop (fR f l i).2.1)).2, false)
def rawV (t : Tk) (xs : List V) : V := if t.k % 2 = 0 then .mk t.k t.n t.s xs [] else .mk t.k t.n t.s [] (xs.map fun x => (x.str, x))
def rawP : Nat → List Tk → V × Nat
  | _, [] => (V.none, 0)
  | 0, t :: _ => (.mk t.k t.n t.s [] [], 1)
  | d + 1, t :: r => (rawV t (fR (rawP d) (t :: r) (t.m % 4).toNat).1, (fR (rawP d) (t :: r) (t.m % 4).toNat).2.1)
theorem fR_stop {f : List Tk → V × Nat} {l : List Tk} {j n : Nat} (h : (fR f l j).2.2 = true) (hj : j ≤ n) : fR f l n = fR f l j := by
  induction n with
  | zero => have : j = 0 := by omega
            subst this; rfl
  | succ n ih =>
    by_cases hi : j = n + 1
    · subst hi; rfl
    · have := ih (by omega)
      rw [fR, this, if_pos h]
theorem fR_used {f : List Tk → V × Nat} (hf : ∀ l, (f l).2 ≤ l.length) {l : List Tk} (hl : 1 ≤ l.length) (j : Nat) : 1 ≤ (fR f l j).2.1 ∧ (fR f l j).2.1 ≤ l.length ∧ (fR f l j).1.length + 1 ≤ (fR f l j).2.1 := by
  induction j with
  | zero => exact ⟨Nat.le_refl _, hl, Nat.le_refl _⟩
  | succ j ih =>
    rw [fR]
    split
    · exact ih
    · split
      · exact ih
      · rename_i h1 h2
        have := hf (l.drop (fR f l j).2.1)
        rw [List.length_drop] at this
        have h3 : 1 ≤ (f (l.drop (fR f l j).2.1)).2 := by omega
        refine ⟨by dsimp only; omega, by dsimp only; omega, by dsimp only; rw [List.length_append, List.length_singleton]; omega⟩
theorem rawP_used (d : Nat) : ∀ l, (rawP d l).2 ≤ l.length := by
  induction d with
  | zero =>
    intro l
    cases l with
    | nil => simp [rawP]
    | cons t r => simp [rawP]
  | succ d ih =>
    intro l
    cases l with
    | nil => simp [rawP]
    | cons t r => rw [rawP]; exact (fR_used ih (by simp) _).2.1
end Go.Proofs.YtcfbnmobfcabiaaDoor
