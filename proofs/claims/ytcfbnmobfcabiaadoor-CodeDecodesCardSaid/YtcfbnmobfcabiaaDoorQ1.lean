/-
  Contracts of the functions that the law reaches: The reference's reading, in plain Lean: what it makes of bytes, whole or too short. number, many, text of the reference's reader. The reference's Reader.value: what stands in memory while it runs. Reader.value, but for lists and objects. Reader.value's loops: what stands at the head of a round. Reader.value: a list. Reader.value: an object. Reader.value, whole. Encode and Value of the reference. The reference's Back and Decode: what stands in memory while they run. The reference's Reader.comp: what stands in memory while it runs.
-/
import Derived.Test.YtcfbnmobfcabiaaDoorP12
namespace Go.Proofs.YtcfbnmobfcabiaaDoor
open Go.RowKit
/-- What is left to be read; is it bad? -/
abbrev RS := List UInt8 × Bool
def fN (k : Nat) (s : RS) : Nat × RS := if s.1.length < k then (0, (s.1, true)) else (num (s.1.take k), (s.1.drop k, s.2))
def fM (k : Nat) (s : RS) : Nat × RS := if (fN k s).2.1.length < (fN k s).1 then (0, ((fN k s).2.1, true)) else fN k s
def fT (s : RS) : ByteArray × RS := (⟨((fM 4 s).2.1.take (fM 4 s).1).toArray⟩, ((fM 4 s).2.1.drop (fM 4 s).1, (fM 4 s).2.2))
def fL {α : Type} (f : RS → α × RS) : Nat → RS → List α × RS
  | 0, s => ([], s)
  | n + 1, s => if (fL f n s).2.2 = true then fL f n s else ((fL f n s).1 ++ [(f (fL f n s).2).1], (f (fL f n s).2).2)
def fF (fv : RS → V × RS) (s : RS) : (ByteArray × V) × RS := (((fT s).1, (fv (fT s).2).1), (fv (fT s).2).2)
def fV : Nat → RS → V × RS
  | 0, s => (.mk (fN 1 s).1 0 .empty [] [], ((fN 1 s).2.1, true))
  | d + 1, s =>
    if (fN 1 s).1 = 1 ∨ (fN 1 s).1 = 2 then (.mk (fN 1 s).1 (wrap64 (fN 8 (fN 1 s).2).1) .empty [] [], (fN 8 (fN 1 s).2).2)
    else if (fN 1 s).1 = 3 then (.mk (fN 1 s).1 0 (fT (fN 1 s).2).1 [] [], (fT (fN 1 s).2).2)
    else if (fN 1 s).1 = 4 then (.mk (fN 1 s).1 0 .empty (fL (fun x => fV d x) (fM 4 (fN 1 s).2).1 (fM 4 (fN 1 s).2).2).1 [], (fL (fun x => fV d x) (fM 4 (fN 1 s).2).1 (fM 4 (fN 1 s).2).2).2)
    else if (fN 1 s).1 = 5 then (.mk (fN 1 s).1 0 .empty [] (fL (fun x => fF (fun y => fV d y) x) (fM 4 (fN 1 s).2).1 (fM 4 (fN 1 s).2).2).1, (fL (fun x => fF (fun y => fV d y) x) (fM 4 (fN 1 s).2).1 (fM 4 (fN 1 s).2).2).2)
    else (.mk (fN 1 s).1 0 .empty [] [], (fN 1 s).2)
def fS (s : RS) : St × RS := if (fN 1 s).1 = 1 then (⟨true, wrap64 (fN 8 (fN 1 s).2).1, .empty⟩, (fN 8 (fN 1 s).2).2) else (⟨false, 0, (fT (fN 1 s).2).1⟩, (fT (fN 1 s).2).2)
def fI (s : RS) : Int × RS := (wrap64 (fN 8 s).1, (fN 8 s).2)
def fIf {α : Type} (b : Bool) (z : α) (f : RS → α × RS) (s : RS) : α × RS := if b = true then f s else (z, s)
/-- One behind the other. -/
def fB {α β : Type} (p : α × RS) (g : α → RS → β × RS) : β × RS := g p.1 p.2
def fC (s : RS) : Cm × RS := fB (fN 1 s) fun k s => fB (fM 1 s) fun n s => fB (fL fS n s) fun p s =>
  fB (fIf (hasB (saysB k) 75) .empty fT s) fun key s => fB (fIf (hasB (saysB k) 73) 0 fI s) fun i s => fB (fIf (hasB (saysB k) 74) 0 fI s) fun j s =>
  fB (fIf (hasB (saysB k) 78) 0 fI s) fun m s => fB (fIf (hasB (saysB k) 86) V.none (fV 18) s) fun v s => fB (fIf (hasB (saysB k) 83) .empty fT s) fun t s =>
  (⟨k, p, key, i, j, m, v, t⟩, s)
def fE (s : RS) : En × RS := fB (fN 1 s) fun k s => fB (fN 4 s) fun c s => fB (fN 4 s) fun q s =>
  if k = 1 then fB (fV 18 s) fun v s => (⟨k, c, q, v, []⟩, s)
  else if k = 2 then fB (fM 4 s) fun n s => fB (fL fC n s) fun l s => (⟨k, c, q, V.none, l⟩, s)
  else (⟨k, c, q, V.none, []⟩, s)

/-- The reference's reading comes to what it should; too short, it says so. -/
structure Rel {α : Type} (rd : List UInt8 → Option (α × List UInt8)) (f : RS → α × RS) : Prop where
  ok : ∀ bs x r, rd bs = some (x, r) → f (bs, false) = (x, (r, false))
  no : ∀ bs, rd bs = none → (f (bs, false)).2.2 = true
  bad : ∀ bs, (f (bs, true)).2.2 = true
theorem Rel.bind {α β : Type} {rd : List UInt8 → Option (α × List UInt8)} {f : RS → α × RS} {rg : α → List UInt8 → Option (β × List UInt8)} {g : α → RS → β × RS} (h : Rel rd f) (hg : ∀ x, Rel (rg x) (g x)) :
    Rel (fun bs => (rd bs).bind fun p => rg p.1 p.2) (fun s => fB (f s) g) := by
  have hbad : ∀ s : RS, (f s).2.2 = true → (fB (f s) g).2.2 = true := by
    intro s hs
    show (g (f s).1 (f s).2).2.2 = true
    obtain ⟨⟨x, r, b⟩, hfs⟩ : ∃ p, f s = p := ⟨_, rfl⟩
    rw [hfs] at hs ⊢
    replace hs : b = true := hs
    subst hs
    exact (hg x).bad r
  refine ⟨fun bs x r hx => ?_, fun bs hn => ?_, fun bs => hbad _ (h.bad bs)⟩
  · rw [Option.bind_eq_some_iff] at hx
    obtain ⟨p, hp, hx⟩ := hx
    have := h.ok bs p.1 p.2 hp
    show g (f (bs, false)).1 (f (bs, false)).2 = _
    rw [this]
    exact (hg p.1).ok _ _ _ hx
  · cases hr : rd bs with
    | none => exact hbad _ (h.no bs hr)
    | some p =>
      rw [hr] at hn
      have := h.ok bs p.1 p.2 hr
      show (g (f (bs, false)).1 (f (bs, false)).2).2.2 = true
      rw [this]
      exact (hg p.1).no _ hn
theorem Rel.ret {α : Type} (x : α) : Rel (fun bs => some (x, bs)) (fun s => (x, s)) :=
  ⟨(fun bs y r h => by injection h with h; injection h with h1 h2; subst h1 h2; rfl), (fun bs h => by cases h), fun bs => rfl⟩
theorem Rel.ite {α : Type} {p : Prop} [Decidable p] {rd rd' : List UInt8 → Option (α × List UInt8)} {f f' : RS → α × RS} (h : Rel rd f) (h' : Rel rd' f') : Rel (fun bs => if p then rd bs else rd' bs) (fun s => if p then f s else f' s) := by
  by_cases hp : p
  · simp only [if_pos hp]; exact h
  · simp only [if_neg hp]; exact h'
theorem rel_N (k : Nat) : Rel (rdN k) (fN k) := by
  refine ⟨fun bs x r h => ?_, fun bs h => ?_, fun bs => ?_⟩
  · obtain ⟨h1, rfl, rfl⟩ := rdN_some h
    rw [fN, if_neg (by show ¬ bs.length < k; omega)]
  · unfold rdN at h; split at h
    · cases h
    · rename_i hk
      rw [fN, if_pos (by show bs.length < k; omega)]
  · rw [fN]; split <;> rfl
theorem rel_M (k : Nat) : Rel (rdM k) (fM k) := by
  refine ⟨fun bs x r h => ?_, fun bs h => ?_, fun bs => ?_⟩
  · obtain ⟨h1, h2⟩ := rdM_some h
    rw [fM, (rel_N k).ok bs x r h1, if_neg (by show ¬ r.length < x; omega)]
  · cases hr : rdN k bs with
    | none =>
      have := (rel_N k).no bs hr
      rw [fM]; split
      · rfl
      · exact this
    | some p =>
      obtain ⟨n, r⟩ := p
      have h2 : ¬ n ≤ r.length := by
        intro hle
        rw [rdM, hr] at h; simp [hle] at h
      rw [fM, (rel_N k).ok bs n r hr, if_pos (by show r.length < n; omega)]
  · have := (rel_N k).bad bs
    rw [fM]; split
    · rfl
    · exact this
theorem rel_T : Rel rdT fT := (rel_M 4).bind (rg := fun n q => some ((⟨(q.take n).toArray⟩ : ByteArray), q.drop n)) (g := fun n s => ((⟨(s.1.take n).toArray⟩ : ByteArray), (s.1.drop n, s.2)))
  fun n => ⟨(fun bs x r h => by injection h with h; injection h with h1 h2; subst h1 h2; rfl), (fun bs h => by cases h), fun bs => rfl⟩
theorem rel_L {α : Type} {rd : List UInt8 → Option (α × List UInt8)} {f : RS → α × RS} (h : Rel rd f) : ∀ n, Rel (rdL rd n) (fL f n) := by
  intro n
  induction n with
  | zero => exact Rel.ret []
  | succ n ih =>
    refine ⟨fun bs x r hx => ?_, fun bs hn => ?_, fun bs => ?_⟩
    · rw [rdL, Option.bind_eq_some_iff] at hx
      obtain ⟨p, hp, hx⟩ := hx
      rw [Option.bind_eq_some_iff] at hx
      obtain ⟨q, hq, hx⟩ := hx
      injection hx with hx; injection hx with h1 h2; subst h1 h2
      rw [fL, ih.ok bs p.1 p.2 hp, if_neg (by simp), h.ok p.2 q.1 q.2 hq]
    · rw [rdL] at hn
      cases hr : rdL rd n bs with
      | none =>
        have := ih.no bs hr
        rw [fL, if_pos this]; exact this
      | some p =>
        rw [hr] at hn
        simp only [Option.bind_some] at hn
        cases hq : rd p.2 with
        | some q => rw [hq] at hn; cases hn
        | none =>
          have := ih.ok bs p.1 p.2 hr
          rw [fL, this, if_neg (by simp)]
          exact h.no p.2 hq
    · have := ih.bad bs
      rw [fL, if_pos this]; exact this
theorem rel_F {k : Nat} (h : Rel (rdV k) (fV k)) : Rel (fun x => (rdT x).bind fun y => (rdV k y.2).bind fun z => some ((y.1, z.1), z.2)) (fun x => fF (fun y => fV k y) x) :=
  rel_T.bind (rg := fun t q => (rdV k q).bind fun z => some ((t, z.1), z.2)) (g := fun t s => ((t, (fV k s).1), (fV k s).2))
    fun t => h.bind (rg := fun v q => some ((t, v), q)) (g := fun v s => ((t, v), s)) fun _ => Rel.ret _
theorem rel_V : ∀ k, Rel (rdV k) (fV k) := by
  intro k
  induction k with
  | zero => exact ⟨(fun bs x r h => by cases h), fun bs h => rfl, fun bs => rfl⟩
  | succ k ih =>
    have hA := (rel_N 1).bind (rg := fun (k1 : Nat) q => if k1 = 1 ∨ k1 = 2 then (rdN 8 q).bind fun q => some (V.mk k1 (wrap64 q.1) .empty [] [], q.2)
      else if k1 = 3 then (rdT q).bind fun q => some (V.mk k1 0 q.1 [] [], q.2)
      else if k1 = 4 then (rdM 4 q).bind fun q => (rdL (fun x => rdV k x) q.1 q.2).bind fun r => some (V.mk k1 0 .empty r.1 [], r.2)
      else if k1 = 5 then (rdM 4 q).bind fun q => (rdL (fun x => (rdT x).bind fun y => (rdV k y.2).bind fun z => some ((y.1, z.1), z.2)) q.1 q.2).bind fun r => some (V.mk k1 0 .empty [] r.1, r.2)
      else some (V.mk k1 0 .empty [] [], q))
      (g := fun (k1 : Nat) s => if k1 = 1 ∨ k1 = 2 then fB (fN 8 s) fun n s => (V.mk k1 (wrap64 n) .empty [] [], s)
      else if k1 = 3 then fB (fT s) fun t s => (V.mk k1 0 t [] [], s)
      else if k1 = 4 then fB (fM 4 s) fun n s => fB (fL (fun x => fV k x) n s) fun l s => (V.mk k1 0 .empty l [], s)
      else if k1 = 5 then fB (fM 4 s) fun n s => fB (fL (fun x => fF (fun y => fV k y) x) n s) fun l s => (V.mk k1 0 .empty [] l, s)
      else (V.mk k1 0 .empty [] [], s)) (fun k1 => Rel.ite ((rel_N 8).bind (rg := fun (n : Nat) q => some (V.mk k1 (wrap64 n) .empty [] [], q)) fun n => Rel.ret _) (Rel.ite (rel_T.bind (rg := fun t q => some (V.mk k1 0 t [] [], q)) fun t => Rel.ret _)
        (Rel.ite ((rel_M 4).bind (rg := fun n q => (rdL (fun x => rdV k x) n q).bind fun r => some (V.mk k1 0 .empty r.1 [], r.2)) fun n => (rel_L ih n).bind (rg := fun l q => some (V.mk k1 0 .empty l [], q)) fun l => Rel.ret _)
          (Rel.ite ((rel_M 4).bind (rg := fun n q => (rdL (fun x => (rdT x).bind fun y => (rdV k y.2).bind fun z => some ((y.1, z.1), z.2)) n q).bind fun r => some (V.mk k1 0 .empty [] r.1, r.2)) fun n => (rel_L (rel_F ih) n).bind (rg := fun l q => some (V.mk k1 0 .empty [] l, q)) fun l => Rel.ret _) (Rel.ret _)))))
    exact ⟨fun bs x r h => hA.ok bs x r h, fun bs h => hA.no bs h, fun bs => hA.bad bs⟩
theorem rel_I : Rel rdI fI := (rel_N 8).bind (rg := fun (n : Nat) q => some (wrap64 n, q)) (g := fun (n : Nat) s => (wrap64 n, s)) fun _ => Rel.ret _
theorem rel_If {α : Type} {b : Bool} {z : α} {rd : List UInt8 → Option (α × List UInt8)} {f : RS → α × RS} (h : Rel rd f) : Rel (rdIf b z rd) (fIf b z f) := by
  have := Rel.ite (p := b = true) h (Rel.ret z)
  exact ⟨fun bs x r h => this.ok bs x r h, fun bs h => this.no bs h, fun bs => this.bad bs⟩
theorem rel_S : Rel rdS fS := by
  have hA := (rel_N 1).bind (rg := fun k q => if k = 1 then (rdN 8 q).bind fun q => some ((⟨true, wrap64 q.1, .empty⟩ : St), q.2) else (rdT q).bind fun q => some ((⟨false, 0, q.1⟩ : St), q.2))
    (g := fun k s => if k = 1 then fB (fN 8 s) fun n s => ((⟨true, wrap64 n, .empty⟩ : St), s) else fB (fT s) fun t s => ((⟨false, 0, t⟩ : St), s))
    fun k => Rel.ite ((rel_N 8).bind (rg := fun (n : Nat) q => some ((⟨true, wrap64 n, .empty⟩ : St), q)) fun n => Rel.ret _) (rel_T.bind (rg := fun t q => some ((⟨false, 0, t⟩ : St), q)) fun t => Rel.ret _)
  exact ⟨fun bs x r h => hA.ok bs x r h, fun bs h => hA.no bs h, fun bs => hA.bad bs⟩
theorem rel_C : Rel rdC fC := by
  have hA := (rel_N 1).bind fun k1 => (rel_M 1).bind fun n => (rel_L rel_S n).bind fun p =>
    (rel_If (b := hasB (saysB (k1 : Int)) 75) (z := ByteArray.empty) rel_T).bind fun key => (rel_If (b := hasB (saysB (k1 : Int)) 73) (z := (0 : Int)) rel_I).bind fun i => (rel_If (b := hasB (saysB (k1 : Int)) 74) (z := (0 : Int)) rel_I).bind fun j =>
    (rel_If (b := hasB (saysB (k1 : Int)) 78) (z := (0 : Int)) rel_I).bind fun m => (rel_If (b := hasB (saysB (k1 : Int)) 86) (z := V.none) (rel_V 18)).bind fun v => (rel_If (b := hasB (saysB (k1 : Int)) 83) (z := ByteArray.empty) rel_T).bind fun t =>
    Rel.ret (⟨k1, p, key, i, j, m, v, t⟩ : Cm)
  exact ⟨fun bs x r h => hA.ok bs x r h, fun bs h => hA.no bs h, fun bs => hA.bad bs⟩
theorem rel_E : Rel rdE fE := by
  have hA := (rel_N 1).bind fun k1 => (rel_N 4).bind fun c => (rel_N 4).bind fun q => Rel.ite (p := k1 = 1) ((rel_V 18).bind fun v => Rel.ret (⟨k1, c, q, v, []⟩ : En))
    (Rel.ite (p := k1 = 2) ((rel_M 4).bind fun n => (rel_L rel_C n).bind fun l => Rel.ret (⟨k1, c, q, V.none, l⟩ : En)) (Rel.ret (⟨k1, c, q, V.none, []⟩ : En)))
  exact ⟨fun bs x r h => hA.ok bs x r h, fun bs h => hA.no bs h, fun bs => hA.bad bs⟩
theorem fN_lt (k : Nat) (s : RS) : (fN k s).1 < 256 ^ k := by
  rw [fN]; split
  · exact Nat.pow_pos (by omega)
  · have := num_lt (s.1.take k)
    rwa [List.length_take, Nat.min_eq_left (by omega)] at this
theorem fM_lt (k : Nat) (s : RS) : (fM k s).1 < 256 ^ k ∧ (fM k s).1 ≤ (fM k s).2.1.length := by
  rw [fM]; split
  · exact ⟨Nat.pow_pos (by omega), Nat.zero_le _⟩
  · exact ⟨fN_lt k s, by omega⟩
theorem fT_size (s : RS) : (fT s).1.size ≤ 140737488355328 := by
  have h1 := (fM_lt 4 s).1
  have h3 : (fT s).1.size = ((fM 4 s).2.1.take (fM 4 s).1).length := by simp [fT, ByteArray.size]
  rw [h3, List.length_take]
  omega
theorem fL_stop {α : Type} {f : RS → α × RS} {j n : Nat} {s : RS} (h : (fL f j s).2.2 = true) (hj : j ≤ n) : fL f n s = fL f j s := by
  induction n with
  | zero => have : j = 0 := by omega
            subst this; rfl
  | succ n ih =>
    by_cases hi : j = n + 1
    · subst hi; rfl
    · have := ih (by omega)
      rw [fL, this, if_pos h]
theorem fL_step {α : Type} {f : RS → α × RS} {j : Nat} {s : RS} (h : (fL f j s).2.2 = false) : fL f (j + 1) s = ((fL f j s).1 ++ [(f (fL f j s).2).1], (f (fL f j s).2).2) := by
  rw [fL, if_neg (by rw [h]; simp)]
end Go.Proofs.YtcfbnmobfcabiaaDoor
namespace Go.Proofs.YtcfbnmobfcabiaaDoor
open Go.RowKit
/-- The reference's reader: what is left, bad or not. -/
structure RR (w : World) (rb : Nat) (s : RS) : Prop where
  at_ : ∃ a n c, w.cell? ⟨rb, 0, none⟩ = some (.slice a n c) ∧ IsB w rb a n c s.1
  bad : w.cell? ⟨rb, 1, none⟩ = some (.bool s.2)
  f0 : w.frozen? ⟨rb, 0, none⟩ = false
  f1 : w.frozen? ⟨rb, 1, none⟩ = false
theorem RR.lt {w : World} {rb : Nat} {s : RS} (h : RR w rb s) : rb < w.heap.size := World.block_lt_of_cell? w _ h.bad
theorem RR.below {w w' : World} {rb B : Nat} {s : RS} (h : RR w rb s) (hb : Below B w w') (hB : rb < B) : RR w' rb s := by
  obtain ⟨⟨a, n, c, h0, hI⟩, h1, h2, h3⟩ := h
  exact ⟨⟨a, n, c, keep_cell hb h0 hB, hI.keep (hb.mono (Nat.le_of_lt hB))⟩, keep_cell hb h1 hB, (hb.frozen hB).trans h2, (hb.frozen hB).trans h3⟩
theorem RR.of_below {w w' : World} {rb : Nat} {s : RS} (h : RR w rb s) (hb : Below w.heap.size w w') : RR w' rb s := h.below hb h.lt
theorem RR.setNew {W : World} {rb b o : Nat} {x : Value} {s : RS} (h : RR W rb s) (hb : rb < b) : RR (W.setCell ⟨b, o, none⟩ x) rb s :=
  h.below (B := b) ⟨rfl, rfl, rfl, by simp, fun k hk => heap_setCell_other _ _ _ _ (show k ≠ b by omega)⟩ hb
theorem RR.set {w : World} {rb : Nat} {s : RS} {bs' : List UInt8} (h : RR w rb s) {a : Option Addr} {n c : Nat} (hI : IsB w rb a n c bs') : RR (w.setCell ⟨rb, 0, none⟩ (.slice a n c)) rb (bs', s.2) ∧ RStep w (w.setCell ⟨rb, 0, none⟩ (.slice a n c)) rb := by
  obtain ⟨⟨a0, n0, c0, h0, _⟩, h1, h2, h3⟩ := h
  have hb : RStep w (w.setCell ⟨rb, 0, none⟩ (.slice a n c)) rb := ⟨rfl, rfl, rfl, by simp, fun k hk hr => heap_setCell_other _ _ _ _ hr⟩
  refine ⟨⟨⟨a, n, c, World.cell?_setCell_same _ _ _ h0, hI.keep (hb.below (Nat.le_of_lt (World.block_lt_of_cell? w _ h1)))⟩, ?_, by simpa using h2, by simpa using h3⟩, hb⟩
  rw [World.cell?_setCell_other]
  · exact h1
  · simp
theorem RR.setBad {w : World} {rb : Nat} {s : RS} (h : RR w rb s) : RR (w.setCell ⟨rb, 1, none⟩ (.bool true)) rb (s.1, true) ∧ RStep w (w.setCell ⟨rb, 1, none⟩ (.bool true)) rb := by
  obtain ⟨⟨a0, n0, c0, h0, hI⟩, h1, h2, h3⟩ := h
  have hb : RStep w (w.setCell ⟨rb, 1, none⟩ (.bool true)) rb := ⟨rfl, rfl, rfl, by simp, fun k hk hr => heap_setCell_other _ _ _ _ hr⟩
  refine ⟨⟨⟨a0, n0, c0, ?_, hI.keep (hb.below (Nat.le_of_lt (World.block_lt_of_cell? w _ h1)))⟩, World.cell?_setCell_same _ _ _ h1, by simpa using h2, by simpa using h3⟩, hb⟩
  rw [World.cell?_setCell_other]
  · exact h0
  · simp

set_option maxHeartbeats 4000000 in
set_option maxRecDepth 100000 in
theorem numberR_any (w : World) (rb : Nat) (s : RS) (h : RR w rb s) (k : Nat) (hk8 : k ≤ 8) :
    Calls Tryd.prog 22 #[.pointer (some ⟨rb, 0, none⟩), .int .i64 k] w fun e w' => e = .returned (.int .u64 ((fN k s).1 : Int)) ∧ RR w' rb (fN k s).2 ∧ RStep w w' rb := by
  have H := Lib.hid h
  obtain ⟨⟨a, n, c, h0, hI⟩, h1, h2, h3⟩ := h
  obtain ⟨bs, bad⟩ := s
  have HI := Lib.hid hI
  have hn := hI.len
  have hc := hI.cap
  have hm := hI.max
  have hlt : rb < w.heap.size := World.block_lt_of_cell? w _ h1
  clear hI
  replace hn : n = bs.length := hn
  by_cases hq : bs.length < k
  · have e : fN k (bs, bad) = (0, (bs, true)) := by rw [fN, if_pos hq]
    rw [e]
    have hnk : n < k := by omega
    clear e hq hn
    go_enter Tryd.func22, Tryd.ntmps22
    go_wp2_with fail
    go_returns
    exact ⟨rfl, H.out.setBad⟩
  · have e : fN k (bs, bad) = (num (bs.take k), (bs.drop k, bad)) := by rw [fN, if_neg hq]
    rw [e]
    have hkn : k ≤ n := by omega
    have HN := Lib.hid hn
    clear e hq hn
    go_enter Tryd.func22, Tryd.ntmps22
    go_wp2_with fail
    go_loopw [5, 6] (fun x i wr => wr = w ∧ ∃ j : Nat, j ≤ k ∧ i = .int .i64 j ∧ x = .int .u64 (num (bs.take j) : Int)) (fun _ i _ => k - (intOf i).toNat)
    case atStart => exact ⟨rfl, 0, Nat.zero_le _, rfl, rfl⟩
    case round =>
      obtain ⟨rfl, j, hj, rfl, rfl⟩ := hrel
      by_cases hjk : j < k
      · have hjn : j < n := by omega
        obtain ⟨b, o, hp, rfl, hb, hcell⟩ := HI.out.get hjn
        have hlt2 : num (bs.take j) < 72057594037927936 := by
          have h1 := num_lt (bs.take j)
          have h2 : (bs.take j).length ≤ 7 := by rw [List.length_take]; omega
          exact Nat.lt_of_lt_of_le h1 (Nat.le_trans (Nat.pow_le_pow_right (by omega) h2) (by decide))
        obtain ⟨m, hm⟩ : ∃ m, num (bs.take j) = m := ⟨_, rfl⟩
        obtain ⟨y, hy⟩ : ∃ y, (bs[j]'hp).toNat = y := ⟨_, rfl⟩
        have hy2 : y < 256 := by rw [← hy]; exact (bs[j]'hp).toNat_lt
        have ht := num_take bs j hp
        rw [hm, hy] at ht
        rw [hm] at hlt2 ⊢
        replace hcell : wr.cell? ⟨b, o + j, none⟩ = some (.int .u8 (y : Int)) := by rw [← hy]; exact hcell
        have HT := Lib.hid ht
        have HO := Lib.hid (or_byte m y hlt2 hy2)
        clear ht hm hy
        go_wp2_with fail
        go_roundw
        case rel => exact ⟨trivial, j + 1, by omega, by go_num, by rw [HT.out, HO.out]⟩
        case measure => simp [intOf]; omega
      · have hjk2 : j = k := by omega
        subst hjk2
        by_cases e : c = j
        · subst e
          have hz : n - c = 0 := by omega
          go_wp2_with fail
          go_returns
          exact ⟨rfl, H.out.set ((HI.out.drop c hkn).none_left (a' := a) hz)⟩
        · have hck : j < c := by omega
          go_wp2_with fail
          go_returns
          exact ⟨rfl, H.out.set (HI.out.drop j hkn)⟩
theorem RR.eta {w : World} {rb : Nat} {s : RS} (h : RR w rb s) : RR w rb (s.1, s.2) := h
theorem numberR1 (w : World) (rb : Nat) (s : RS) (h : RR w rb s) {x : Nat} {s' : RS} (hx : fN 1 s = (x, s')) :
    Calls Tryd.prog 22 #[.pointer (some ⟨rb, 0, none⟩), .int .i64 1] w fun e w' => e = .returned (.int .u64 (x : Int)) ∧ RR w' rb s' ∧ RStep w w' rb := by
  have := numberR_any w rb s h 1 (by omega)
  rw [hx] at this
  exact this
theorem numberR4 (w : World) (rb : Nat) (s : RS) (h : RR w rb s) {x : Nat} {s' : RS} (hx : fN 4 s = (x, s')) :
    Calls Tryd.prog 22 #[.pointer (some ⟨rb, 0, none⟩), .int .i64 4] w fun e w' => e = .returned (.int .u64 (x : Int)) ∧ RR w' rb s' ∧ RStep w w' rb := by
  have := numberR_any w rb s h 4 (by omega)
  rw [hx] at this
  exact this
theorem numberR8 (w : World) (rb : Nat) (s : RS) (h : RR w rb s) {x : Nat} {s' : RS} (hx : fN 8 s = (x, s')) :
    Calls Tryd.prog 22 #[.pointer (some ⟨rb, 0, none⟩), .int .i64 8] w fun e w' => e = .returned (.int .u64 (x : Int)) ∧ RR w' rb s' ∧ RStep w w' rb := by
  have := numberR_any w rb s h 8 (by omega)
  rw [hx] at this
  exact this
set_option maxHeartbeats 2000000 in
set_option maxRecDepth 100000 in
theorem manyR1 (w : World) (rb : Nat) (s : RS) (h : RR w rb s) {x : Nat} {s' : RS} (hx : fM 1 s = (x, s')) :
    Calls Tryd.prog 24 #[.pointer (some ⟨rb, 0, none⟩), .int .i64 1] w fun e w' => e = .returned (.int .i64 (x : Int)) ∧ RR w' rb s' ∧ RStep w w' rb := by
  obtain ⟨⟨y, s1⟩, hy⟩ : ∃ p, fN 1 s = p := ⟨_, rfl⟩
  have HC := Lib.hid (numberR1 w rb s h hy)
  have hb : y < 4294967296 := by have := fN_lt 1 s; rw [hy] at this; exact Nat.lt_of_lt_of_le this (by decide)
  have e : fM 1 s = if s1.1.length < y then (0, (s1.1, true)) else (y, s1) := by rw [fM, hy]
  rw [e] at hx
  clear e hy h
  have hw : wrap64 (y : Int) = y := by unfold wrap64; omega
  by_cases hq : s1.1.length < y
  · rw [if_pos hq] at hx
    injection hx with hx1 hx2
    subst hx1 hx2
    have HQ := Lib.hid hq
    clear hq
    go_enter Tryd.func24, Tryd.ntmps24
    go_wp2_with (go_at_call 22; (with_reducible refine (HC.out).mono ?_); rintro e w1 ⟨rfl, hR, hS⟩; obtain ⟨⟨a, n2, c, h0, hI⟩, h1, h2, h3⟩ := id hR; have hn2 := hI.len; have hm2 := hI.max; have hc2 := hI.cap; have hle2 : n2 < y := (by have := HQ.out; omega); have hu : IntKind.u64.wrap (n2 : Int) = n2 := u64_id _ (by omega) (by omega); have HR := Lib.hid hR; clear hI hn2 hR)
    go_returns
    exact ⟨rfl, HR.out.setBad.1, hS.trans HR.out.setBad.2⟩
  · rw [if_neg hq] at hx
    injection hx with hx1 hx2
    subst hx1 hx2
    have HQ := Lib.hid hq
    clear hq
    go_enter Tryd.func24, Tryd.ntmps24
    go_wp2_with (go_at_call 22; (with_reducible refine (HC.out).mono ?_); rintro e w1 ⟨rfl, hR, hS⟩; obtain ⟨⟨a, n2, c, h0, hI⟩, h1, h2, h3⟩ := id hR; have hn2 := hI.len; have hm2 := hI.max; have hc2 := hI.cap; have hle2 : ¬ n2 < y := (by have := HQ.out; omega); have hu : IntKind.u64.wrap (n2 : Int) = n2 := u64_id _ (by omega) (by omega); have HR := Lib.hid hR; clear hI hn2 hR)
    go_returns
    exact ⟨rfl, HR.out, hS⟩
set_option maxHeartbeats 2000000 in
set_option maxRecDepth 100000 in
theorem manyR4 (w : World) (rb : Nat) (s : RS) (h : RR w rb s) {x : Nat} {s' : RS} (hx : fM 4 s = (x, s')) :
    Calls Tryd.prog 24 #[.pointer (some ⟨rb, 0, none⟩), .int .i64 4] w fun e w' => e = .returned (.int .i64 (x : Int)) ∧ RR w' rb s' ∧ RStep w w' rb := by
  obtain ⟨⟨y, s1⟩, hy⟩ : ∃ p, fN 4 s = p := ⟨_, rfl⟩
  have HC := Lib.hid (numberR4 w rb s h hy)
  have hb : y < 4294967296 := by have := fN_lt 4 s; rw [hy] at this; exact Nat.lt_of_lt_of_le this (by decide)
  have e : fM 4 s = if s1.1.length < y then (0, (s1.1, true)) else (y, s1) := by rw [fM, hy]
  rw [e] at hx
  clear e hy h
  have hw : wrap64 (y : Int) = y := by unfold wrap64; omega
  by_cases hq : s1.1.length < y
  · rw [if_pos hq] at hx
    injection hx with hx1 hx2
    subst hx1 hx2
    have HQ := Lib.hid hq
    clear hq
    go_enter Tryd.func24, Tryd.ntmps24
    go_wp2_with (go_at_call 22; (with_reducible refine (HC.out).mono ?_); rintro e w1 ⟨rfl, hR, hS⟩; obtain ⟨⟨a, n2, c, h0, hI⟩, h1, h2, h3⟩ := id hR; have hn2 := hI.len; have hm2 := hI.max; have hc2 := hI.cap; have hle2 : n2 < y := (by have := HQ.out; omega); have hu : IntKind.u64.wrap (n2 : Int) = n2 := u64_id _ (by omega) (by omega); have HR := Lib.hid hR; clear hI hn2 hR)
    go_returns
    exact ⟨rfl, HR.out.setBad.1, hS.trans HR.out.setBad.2⟩
  · rw [if_neg hq] at hx
    injection hx with hx1 hx2
    subst hx1 hx2
    have HQ := Lib.hid hq
    clear hq
    go_enter Tryd.func24, Tryd.ntmps24
    go_wp2_with (go_at_call 22; (with_reducible refine (HC.out).mono ?_); rintro e w1 ⟨rfl, hR, hS⟩; obtain ⟨⟨a, n2, c, h0, hI⟩, h1, h2, h3⟩ := id hR; have hn2 := hI.len; have hm2 := hI.max; have hc2 := hI.cap; have hle2 : ¬ n2 < y := (by have := HQ.out; omega); have hu : IntKind.u64.wrap (n2 : Int) = n2 := u64_id _ (by omega) (by omega); have HR := Lib.hid hR; clear hI hn2 hR)
    go_returns
    exact ⟨rfl, HR.out, hS⟩
set_option maxHeartbeats 2000000 in
set_option maxRecDepth 100000 in
theorem textR_any (w : World) (rb : Nat) (s : RS) (h : RR w rb s) {x : ByteArray} {s' : RS} (hx : fT s = (x, s')) :
    Calls Tryd.prog 50 #[.pointer (some ⟨rb, 0, none⟩)] w fun e w' => e = .returned (.string x) ∧ RR w' rb s' ∧ RStep w w' rb := by
  obtain ⟨⟨y, s1⟩, hy⟩ : ∃ p, fM 4 s = p := ⟨_, rfl⟩
  have HC := Lib.hid (manyR4 w rb s h hy)
  have hle : y ≤ s1.1.length := by have := (fM_lt 4 s).2; rw [hy] at this; exact this
  have e : fT s = (⟨(s1.1.take y).toArray⟩, (s1.1.drop y, s1.2)) := by rw [fT, hy]
  rw [e] at hx
  injection hx with hx1 hx2
  subst hx1 hx2
  have HL := Lib.hid hle
  clear e hy h hle
  go_enter Tryd.func50, Tryd.ntmps50
  go_wp2_with fail
  refine (HC.out).mono ?_
  rintro e w1 ⟨rfl, hR, hS⟩
  obtain ⟨⟨a, n2, c, h0, hI⟩, h1, h2, h3⟩ := id hR
  have hn2 := hI.len
  have hm2 := hI.max
  have hc2 := hI.cap
  have hkn : y ≤ n2 := by have := HL.out; omega
  have HR := Lib.hid hR
  have HI := Lib.hid hI
  have hcv := conv_isB (hI.take y hkn)
  have hlt : rb < w1.heap.size := hR.lt
  clear hI hn2 hR
  by_cases e : c = y
  · subst e
    have hz : n2 - c = 0 := by omega
    go_wp2_with fail
    go_returns
    have hD := HR.out.set ((HI.out.drop c hkn).none_left (a' := a) hz)
    exact ⟨rfl, hD.1, hS.trans hD.2⟩
  · have hck : y < c := by omega
    go_wp2_with fail
    go_returns
    have hD := HR.out.set (HI.out.drop y hkn)
    exact ⟨rfl, hD.1, hS.trans hD.2⟩
end Go.Proofs.YtcfbnmobfcabiaaDoor
namespace Go.Proofs.YtcfbnmobfcabiaaDoor
open Go.RowKit
/-- In the midst of a function that reads: its result's cells are cs. -/
structure QB (w W : World) (rb : Nat) (s : RS) (cs : List Value) : Prop where
  rr : RR W rb s
  st : RStep w W rb
  res : BC W w.heap.size cs
  lt : rb < w.heap.size
theorem QB.size {w W : World} {rb : Nat} {s : RS} {cs : List Value} (h : QB w W rb s cs) : w.heap.size + 1 ≤ W.heap.size := h.res.lt
theorem QB.start {w : World} {rb : Nat} {s : RS} (h : RR w rb s) (cs : Array Value) (t : TypeId) : QB w (w.alloc (.cells cs t)) rb s cs.toList :=
  ⟨h.of_below ((Below.refl _ _).alloc (Nat.le_refl _) _), .of_below rb ((Below.refl _ _).alloc (Nat.le_refl _) _), BC.start w cs t, h.lt⟩
theorem QB.next {w W W' : World} {rb : Nat} {s s' : RS} {cs : List Value} (h : QB w W rb s cs) (hs : RStep W W' rb) (hR : RR W' rb s') : QB w W' rb s' cs :=
  ⟨hR, h.st.trans hs, h.res.next hs (by have := h.lt; omega), h.lt⟩
theorem QB.behind {w W W' : World} {rb : Nat} {s : RS} {cs : List Value} (h : QB w W rb s cs) (hb : Below W.heap.size W W') : QB w W' rb s cs :=
  h.next (.of_below rb hb) (h.rr.of_below hb)
theorem QB.below {w W W' : World} {rb : Nat} {s : RS} {cs : List Value} (h : QB w W rb s cs) (hb : Below (w.heap.size + 1) W W') : QB w W' rb s cs := by
  have hlt := h.lt
  have hsz := h.size
  exact ⟨h.rr.below hb (by omega), ⟨hb.os.trans h.st.os, hb.tape.trans h.st.tape, hb.output.trans h.st.output, Nat.le_trans h.st.size hb.size, fun k hk hr => (hb.block k (by omega)).trans (h.st.block k hk hr)⟩, h.res.keep hb (by omega), hlt⟩
theorem QB.set {w W : World} {rb b o : Nat} {x : Value} {s : RS} {cs : List Value} (h : QB w W rb s cs) (hb : w.heap.size < b) : QB w (W.setCell ⟨b, o, none⟩ x) rb s cs :=
  ⟨h.rr.setNew (by have := h.lt; omega), h.st.setNew (by omega), h.res.far (by omega), h.lt⟩
theorem QB.setBad {w W : World} {rb : Nat} {s : RS} {cs : List Value} (h : QB w W rb s cs) : QB w (W.setCell ⟨rb, 1, none⟩ (.bool true)) rb (s.1, true) cs :=
  h.next h.rr.setBad.2 h.rr.setBad.1
/-- What Reader.value comes to. -/
def QVPost (w : World) (rb : Nat) (x : V) (s : RS) (e : Ending) (w' : World) : Prop :=
  RStep w w' rb ∧ (∃ c : VC, e = .returned (.agg #[.int .u8 c.k, .int .i64 c.n, .string c.s, .slice c.la c.ll c.lc, .slice c.oa c.ol c.oc]) ∧ IsVal (only (fun b => w.heap.size ≤ b) w') w'.heap.size x c) ∧ RR w' rb s
theorem results_valueR {tmps : Array Value} {W : World} {b : Nat} {c : VC} (ht : tmps[4]? = some (.pointer (some ⟨b, 0, none⟩))) (h : BC W b (vcells c)) : (results Tryd.f23 tmps).run Tryd.prog W = .ok (.agg #[.int .u8 c.k, .int .i64 c.n, .string c.s, .slice c.la c.ll c.lc, .slice c.oa c.ol c.oc]) W := by
  have h0 := h.at_ 0 _ rfl
  have h1 := h.at_ 1 _ rfl
  have h2 := h.at_ 2 _ rfl
  have h3 := h.at_ 3 _ rfl
  have h4 := h.at_ 4 _ rfl
  simp [results, Tryd.results23, go_sem, ht, h0, h1, h2, h3, h4]
theorem QB.store {w W : World} {rb : Nat} {s : RS} {z0 z1 z2 z3 z4 : Value} (h : QB w W rb s [z0, z1, z2, z3, z4]) (c : VC) : QB w (((((W.setCell ⟨w.heap.size, 0, none⟩ (.int .u8 c.k)).setCell ⟨w.heap.size, 1, none⟩ (.int .i64 c.n)).setCell ⟨w.heap.size, 2, none⟩ (.string c.s)).setCell ⟨w.heap.size, 3, none⟩ (.slice c.la c.ll c.lc)).setCell ⟨w.heap.size, 4, none⟩ (.slice c.oa c.ol c.oc)) rb s (vcells c) := by
  have hlt := h.lt
  have hbc : BC (((((W.setCell ⟨w.heap.size, 0, none⟩ (.int .u8 c.k)).setCell ⟨w.heap.size, 1, none⟩ (.int .i64 c.n)).setCell ⟨w.heap.size, 2, none⟩ (.string c.s)).setCell ⟨w.heap.size, 3, none⟩ (.slice c.la c.ll c.lc)).setCell ⟨w.heap.size, 4, none⟩ (.slice c.oa c.ol c.oc)) w.heap.size (vcells c) :=
    ((((h.res.set (i := 0) (x := .int .u8 c.k) (by simp)).set (i := 1) (x := .int .i64 c.n) (by simp)).set (i := 2) (x := .string c.s) (by simp)).set (i := 3) (x := .slice c.la c.ll c.lc) (by simp)).set (i := 4) (x := .slice c.oa c.ol c.oc) (by simp)
  have hst : RStep w (((((W.setCell ⟨w.heap.size, 0, none⟩ (.int .u8 c.k)).setCell ⟨w.heap.size, 1, none⟩ (.int .i64 c.n)).setCell ⟨w.heap.size, 2, none⟩ (.string c.s)).setCell ⟨w.heap.size, 3, none⟩ (.slice c.la c.ll c.lc)).setCell ⟨w.heap.size, 4, none⟩ (.slice c.oa c.ol c.oc)) rb :=
    ((((h.st.setNew (Nat.le_refl _)).setNew (Nat.le_refl _)).setNew (Nat.le_refl _)).setNew (Nat.le_refl _)).setNew (Nat.le_refl _)
  exact ⟨((((h.rr.setNew hlt).setNew hlt).setNew hlt).setNew hlt).setNew hlt, hst, hbc, hlt⟩
theorem QB.ret {w W : World} {rb base : Nat} {s : RS} {c : VC} {x : V} {a : Act} (h : QB w W rb s (vcells c)) (hx : IsVal (only (fun b => base ≤ b) W) W.heap.size x c) (hb : w.heap.size ≤ base) (hd : a.defers = []) (ht : a.tmps[4]? = some (.pointer (some ⟨w.heap.size, 0, none⟩))) :
    bodyPost Tryd.prog Tryd.f23 (QVPost w rb x s) .ret a W :=
  ⟨hd, _, results_valueR ht h.res, h.st, ⟨c, rfl, hx.sub (shows_step fun k hk _ => ⟨by omega, rfl⟩)⟩, h.rr⟩
/-- How a loop is left, at its end. -/
theorem QB.leave {w W : World} {rb base : Nat} {s : RS} {z0 z1 z2 z3 z4 : Value} {c : VC} {x : V} {a : Act} (h : QB w W rb s [z0, z1, z2, z3, z4]) (hx : IsVal (only (fun b => base ≤ b) W) W.heap.size x c) (hb : w.heap.size < base) (hd : a.defers = []) (ht : a.tmps[4]? = some (.pointer (some ⟨w.heap.size, 0, none⟩))) :
    bodyPost Tryd.prog Tryd.f23 (QVPost w rb x s) .ret a (((((W.setCell ⟨w.heap.size, 0, none⟩ (.int .u8 c.k)).setCell ⟨w.heap.size, 1, none⟩ (.int .i64 c.n)).setCell ⟨w.heap.size, 2, none⟩ (.string c.s)).setCell ⟨w.heap.size, 3, none⟩ (.slice c.la c.ll c.lc)).setCell ⟨w.heap.size, 4, none⟩ (.slice c.oa c.ol c.oc)) :=
  (h.store c).ret (base := base) (isVal_far hx ((((RStep.self.trans RStep.self).trans RStep.self).trans RStep.self).trans RStep.self) hb) (by omega) hd ht
theorem u8_id (k : Nat) (h : k < 256) : IntKind.u8.wrap (k : Int) = k := by simp [IntKind.wrap, IntKind.bits, IntKind.signed]; omega
theorem BC.cells9 {W : World} {b : Nat} {z0 z1 z2 z3 z4 z5 z6 z7 z8 : Value} (h : BC W b [z0, z1, z2, z3, z4, z5, z6, z7, z8]) : W.cell? ⟨b, 0, none⟩ = some z0 ∧ W.cell? ⟨b, 1, none⟩ = some z1 ∧ W.cell? ⟨b, 2, none⟩ = some z2 ∧ W.cell? ⟨b, 3, none⟩ = some z3 ∧ W.cell? ⟨b, 4, none⟩ = some z4 ∧ W.cell? ⟨b, 5, none⟩ = some z5 ∧ W.cell? ⟨b, 6, none⟩ = some z6 ∧ W.cell? ⟨b, 7, none⟩ = some z7 ∧ W.cell? ⟨b, 8, none⟩ = some z8 :=
  ⟨h.at_ 0 _ rfl, h.at_ 1 _ rfl, h.at_ 2 _ rfl, h.at_ 3 _ rfl, h.at_ 4 _ rfl, h.at_ 5 _ rfl, h.at_ 6 _ rfl, h.at_ 7 _ rfl, h.at_ 8 _ rfl⟩
theorem BC.both9 {W : World} {b : Nat} {z0 z1 z2 z3 z4 z5 z6 z7 z8 : Value} (h : BC W b [z0, z1, z2, z3, z4, z5, z6, z7, z8]) : W.cell? ⟨b, 0, none⟩ = some z0 ∧ W.frozen? ⟨b, 0, none⟩ = false ∧ W.cell? ⟨b, 1, none⟩ = some z1 ∧ W.frozen? ⟨b, 1, none⟩ = false ∧ W.cell? ⟨b, 2, none⟩ = some z2 ∧ W.frozen? ⟨b, 2, none⟩ = false ∧ W.cell? ⟨b, 3, none⟩ = some z3 ∧ W.frozen? ⟨b, 3, none⟩ = false ∧ W.cell? ⟨b, 4, none⟩ = some z4 ∧ W.frozen? ⟨b, 4, none⟩ = false ∧ W.cell? ⟨b, 5, none⟩ = some z5 ∧ W.frozen? ⟨b, 5, none⟩ = false ∧ W.cell? ⟨b, 6, none⟩ = some z6 ∧ W.frozen? ⟨b, 6, none⟩ = false ∧ W.cell? ⟨b, 7, none⟩ = some z7 ∧ W.frozen? ⟨b, 7, none⟩ = false ∧ W.cell? ⟨b, 8, none⟩ = some z8 ∧ W.frozen? ⟨b, 8, none⟩ = false :=
  ⟨h.at_ 0 _ rfl, h.fr 0, h.at_ 1 _ rfl, h.fr 1, h.at_ 2 _ rfl, h.fr 2, h.at_ 3 _ rfl, h.fr 3, h.at_ 4 _ rfl, h.fr 4, h.at_ 5 _ rfl, h.fr 5, h.at_ 6 _ rfl, h.fr 6, h.at_ 7 _ rfl, h.fr 7, h.at_ 8 _ rfl, h.fr 8⟩
theorem BC.cells12 {W : World} {b : Nat} {z0 z1 z2 z3 z4 z5 z6 z7 z8 z9 z10 z11 : Value} (h : BC W b [z0, z1, z2, z3, z4, z5, z6, z7, z8, z9, z10, z11]) : W.cell? ⟨b, 0, none⟩ = some z0 ∧ W.cell? ⟨b, 1, none⟩ = some z1 ∧ W.cell? ⟨b, 2, none⟩ = some z2 ∧ W.cell? ⟨b, 3, none⟩ = some z3 ∧ W.cell? ⟨b, 4, none⟩ = some z4 ∧ W.cell? ⟨b, 5, none⟩ = some z5 ∧ W.cell? ⟨b, 6, none⟩ = some z6 ∧ W.cell? ⟨b, 7, none⟩ = some z7 ∧ W.cell? ⟨b, 8, none⟩ = some z8 ∧ W.cell? ⟨b, 9, none⟩ = some z9 ∧ W.cell? ⟨b, 10, none⟩ = some z10 ∧ W.cell? ⟨b, 11, none⟩ = some z11 :=
  ⟨h.at_ 0 _ rfl, h.at_ 1 _ rfl, h.at_ 2 _ rfl, h.at_ 3 _ rfl, h.at_ 4 _ rfl, h.at_ 5 _ rfl, h.at_ 6 _ rfl, h.at_ 7 _ rfl, h.at_ 8 _ rfl, h.at_ 9 _ rfl, h.at_ 10 _ rfl, h.at_ 11 _ rfl⟩
theorem BC.both12 {W : World} {b : Nat} {z0 z1 z2 z3 z4 z5 z6 z7 z8 z9 z10 z11 : Value} (h : BC W b [z0, z1, z2, z3, z4, z5, z6, z7, z8, z9, z10, z11]) : W.cell? ⟨b, 0, none⟩ = some z0 ∧ W.frozen? ⟨b, 0, none⟩ = false ∧ W.cell? ⟨b, 1, none⟩ = some z1 ∧ W.frozen? ⟨b, 1, none⟩ = false ∧ W.cell? ⟨b, 2, none⟩ = some z2 ∧ W.frozen? ⟨b, 2, none⟩ = false ∧ W.cell? ⟨b, 3, none⟩ = some z3 ∧ W.frozen? ⟨b, 3, none⟩ = false ∧ W.cell? ⟨b, 4, none⟩ = some z4 ∧ W.frozen? ⟨b, 4, none⟩ = false ∧ W.cell? ⟨b, 5, none⟩ = some z5 ∧ W.frozen? ⟨b, 5, none⟩ = false ∧ W.cell? ⟨b, 6, none⟩ = some z6 ∧ W.frozen? ⟨b, 6, none⟩ = false ∧ W.cell? ⟨b, 7, none⟩ = some z7 ∧ W.frozen? ⟨b, 7, none⟩ = false ∧ W.cell? ⟨b, 8, none⟩ = some z8 ∧ W.frozen? ⟨b, 8, none⟩ = false ∧ W.cell? ⟨b, 9, none⟩ = some z9 ∧ W.frozen? ⟨b, 9, none⟩ = false ∧ W.cell? ⟨b, 10, none⟩ = some z10 ∧ W.frozen? ⟨b, 10, none⟩ = false ∧ W.cell? ⟨b, 11, none⟩ = some z11 ∧ W.frozen? ⟨b, 11, none⟩ = false :=
  ⟨h.at_ 0 _ rfl, h.fr 0, h.at_ 1 _ rfl, h.fr 1, h.at_ 2 _ rfl, h.fr 2, h.at_ 3 _ rfl, h.fr 3, h.at_ 4 _ rfl, h.fr 4, h.at_ 5 _ rfl, h.fr 5, h.at_ 6 _ rfl, h.fr 6, h.at_ 7 _ rfl, h.fr 7, h.at_ 8 _ rfl, h.fr 8, h.at_ 9 _ rfl, h.fr 9, h.at_ 10 _ rfl, h.fr 10, h.at_ 11 _ rfl, h.fr 11⟩
end Go.Proofs.YtcfbnmobfcabiaaDoor
namespace Go.Proofs.YtcfbnmobfcabiaaDoor
open Go.RowKit
set_option maxHeartbeats 4000000 in
set_option maxRecDepth 100000 in
theorem qv_deep (w : World) (rb : Nat) (s : RS) (dd : Int) (h : RR w rb s) (hd : dd = 18) {x : V} {s' : RS} (hx : fV 0 s = (x, s')) :
    Calls Tryd.prog 23 #[.pointer (some ⟨rb, 0, none⟩), .int .i64 dd] w (QVPost w rb x s') := by
  obtain ⟨⟨k, s1⟩, hN⟩ : ∃ p, fN 1 s = p := ⟨_, rfl⟩
  rw [fV, hN] at hx
  injection hx with hx1 hx2
  subst hd hx1 hx2
  have hk1 : k < 256 := by have := fN_lt 1 s; rw [hN] at this; exact this
  have hu := u8_id k hk1
  have HB := Lib.hid (QB.start h #[.int .u8 0, .int .i64 0, .string { data := #[] }, .slice none 0 0, .slice none 0 0] 28)
  have hlt := h.lt
  clear h
  go_enter Tryd.func23, Tryd.ntmps23
  generalize hQ0 : bodyPost _ _ _ = Q0
  have HQ := Lib.hid hQ0
  clear hQ0
  go_wp2_with (go_at_call 22; (with_reducible refine (numberR1 _ rb s HB.out.rr hN).mono ?_); rintro e w1 ⟨rfl, hR, hS⟩; have B1 := HB.out.next hS hR; have r0 := B1.res.at_ 0 _ rfl; have g0 := B1.res.fr 0; have r1 := B1.res.at_ 1 _ rfl; have g1 := B1.res.fr 1; have r2 := B1.res.at_ 2 _ rfl; have g2 := B1.res.fr 2; have r3 := B1.res.at_ 3 _ rfl; have g3 := B1.res.fr 3; have r4 := B1.res.at_ 4 _ rfl; have g4 := B1.res.fr 4; have hsz := B1.size; have zs0 : w.heap.size < w1.heap.size := (by omega); have b0 := hR.bad; have b1 := hR.f1; have hrl := hR.lt)
  rw [← HQ.out]
  exact ((B1.setBad.store ⟨k, 0, .empty, none, 0, 0, none, 0, 0⟩).behind ((Below.refl _ _).alloc (Nat.le_refl _) _)).ret (base := w.heap.size) (isVal_leaf _ _ k 0 .empty (by omega) (by omega) (by decide) (by decide) (by decide)) (by omega) rfl rfl
set_option maxHeartbeats 4000000 in
set_option maxRecDepth 100000 in
theorem qv_other (w : World) (rb : Nat) (s : RS) (dd : Int) (h : RR w rb s) (hd0 : 0 ≤ dd) (hd : dd ≤ 17) {k : Nat} {s1 : RS} (hN : fN 1 s = (k, s1)) (hk : 5 < k ∨ k = 0) :
    Calls Tryd.prog 23 #[.pointer (some ⟨rb, 0, none⟩), .int .i64 dd] w (QVPost w rb (.mk k 0 .empty [] []) s1) := by
  have hk1 : k < 256 := by have := fN_lt 1 s; rw [hN] at this; exact this
  have hu := u8_id k hk1
  have HB := Lib.hid (QB.start h #[.int .u8 0, .int .i64 0, .string { data := #[] }, .slice none 0 0, .slice none 0 0] 28)
  have hlt := h.lt
  have hdd : ¬ 17 < dd := by omega
  clear h
  have f1 : ((k : Int) == 1) = false := by simp; omega
  have f2 : ((k : Int) == 2) = false := by simp; omega
  have f3 : ((k : Int) == 3) = false := by simp; omega
  have f4 : ((k : Int) == 4) = false := by simp; omega
  have f5 : ((k : Int) == 5) = false := by simp; omega
  clear hk
  go_enter Tryd.func23, Tryd.ntmps23
  generalize hQ0 : bodyPost _ _ _ = Q0
  have HQ := Lib.hid hQ0
  clear hQ0
  go_wp2_with (go_at_call 22; (with_reducible refine (numberR1 _ rb s HB.out.rr hN).mono ?_); rintro e w1 ⟨rfl, hR, hS⟩; have B1 := HB.out.next hS hR; have r0 := B1.res.at_ 0 _ rfl; have g0 := B1.res.fr 0; have r1 := B1.res.at_ 1 _ rfl; have g1 := B1.res.fr 1; have r2 := B1.res.at_ 2 _ rfl; have g2 := B1.res.fr 2; have r3 := B1.res.at_ 3 _ rfl; have g3 := B1.res.fr 3; have r4 := B1.res.at_ 4 _ rfl; have g4 := B1.res.fr 4; have hsz := B1.size; have zs0 : w.heap.size < w1.heap.size := (by omega))
  rw [← HQ.out]
  exact ((B1.store ⟨k, 0, .empty, none, 0, 0, none, 0, 0⟩).behind ((Below.refl _ _).alloc (Nat.le_refl _) _)).ret (base := w.heap.size) (isVal_leaf _ _ k 0 .empty (by omega) (by omega) (by decide) (by decide) (by decide)) (by omega) rfl rfl
set_option maxHeartbeats 4000000 in
set_option maxRecDepth 100000 in
theorem qv_int1 (w : World) (rb : Nat) (s : RS) (dd : Int) (h : RR w rb s) (hd0 : 0 ≤ dd) (hd : dd ≤ 17) {k : Nat} {s1 : RS} (hN : fN 1 s = (k, s1)) (hk : k = 1) {x : Nat} {s2 : RS} (hM : fN 8 s1 = (x, s2)) :
    Calls Tryd.prog 23 #[.pointer (some ⟨rb, 0, none⟩), .int .i64 dd] w (QVPost w rb (.mk k (wrap64 x) .empty [] []) s2) := by
  have hk1 : k < 256 := by have := fN_lt 1 s; rw [hN] at this; exact this
  have hu := u8_id k hk1
  have HB := Lib.hid (QB.start h #[.int .u8 0, .int .i64 0, .string { data := #[] }, .slice none 0 0, .slice none 0 0] 28)
  have hlt := h.lt
  have hdd : ¬ 17 < dd := by omega
  clear h
  have f1 : ((k : Int) == 1) = true := by subst hk; rfl
  have f2 : ((k : Int) == 2) = false := by subst hk; rfl
  have f3 : ((k : Int) == 3) = false := by subst hk; rfl
  have f4 : ((k : Int) == 4) = false := by subst hk; rfl
  have f5 : ((k : Int) == 5) = false := by subst hk; rfl
  clear hk
  go_enter Tryd.func23, Tryd.ntmps23
  generalize hQ0 : bodyPost _ _ _ = Q0
  have HQ := Lib.hid hQ0
  clear hQ0
  go_wp2_with (first | (go_at_call 22; (with_reducible refine (numberR1 _ rb s HB.out.rr hN).mono ?_); rintro e w1 ⟨rfl, hR, hS⟩; have B1 := HB.out.next hS hR; have r0 := B1.res.at_ 0 _ rfl; have g0 := B1.res.fr 0; have r1 := B1.res.at_ 1 _ rfl; have g1 := B1.res.fr 1; have r2 := B1.res.at_ 2 _ rfl; have g2 := B1.res.fr 2; have r3 := B1.res.at_ 3 _ rfl; have g3 := B1.res.fr 3; have r4 := B1.res.at_ 4 _ rfl; have g4 := B1.res.fr 4; have hsz := B1.size; have zs0 : w.heap.size < w1.heap.size := (by omega)) | (go_at_call 22; (with_reducible refine (numberR8 _ rb s1 (B1.behind ((Below.refl _ _).alloc (Nat.le_refl _) _)).rr hM).mono ?_); rintro e w2 ⟨rfl, hR2, hS2⟩; have B2 := (B1.behind ((Below.refl _ _).alloc (Nat.le_refl _) _)).next hS2 hR2; have VB2 := (BC.start w1 #[.int .u8 k, .int .i64 0, .string { data := #[] }, .slice none 0 0, .slice none 0 0] 28).next hS2 (by omega); have q0 := VB2.at_ 0 _ rfl; have q1 := VB2.at_ 1 _ rfl; have q2 := VB2.at_ 2 _ rfl; have q3 := VB2.at_ 3 _ rfl; have q4 := VB2.at_ 4 _ rfl; have p0 := VB2.fr 1; have r0 := B2.res.at_ 0 _ rfl; have g0 := B2.res.fr 0; have r1 := B2.res.at_ 1 _ rfl; have g1 := B2.res.fr 1; have r2 := B2.res.at_ 2 _ rfl; have g2 := B2.res.fr 2; have r3 := B2.res.at_ 3 _ rfl; have g3 := B2.res.fr 3; have r4 := B2.res.at_ 4 _ rfl; have g4 := B2.res.fr 4))
  rw [← HQ.out]
  exact ((B2.set (b := w1.heap.size) (o := 1) (x := .int .i64 (wrap64 x)) (by omega)).store ⟨k, wrap64 x, .empty, none, 0, 0, none, 0, 0⟩).ret (base := w.heap.size) (isVal_leaf _ _ k (wrap64 x) .empty (by omega) (by omega) (i64_lo _) (i64_hi _) (by decide)) (by omega) rfl rfl
set_option maxHeartbeats 4000000 in
set_option maxRecDepth 100000 in
theorem qv_int2 (w : World) (rb : Nat) (s : RS) (dd : Int) (h : RR w rb s) (hd0 : 0 ≤ dd) (hd : dd ≤ 17) {k : Nat} {s1 : RS} (hN : fN 1 s = (k, s1)) (hk : k = 2) {x : Nat} {s2 : RS} (hM : fN 8 s1 = (x, s2)) :
    Calls Tryd.prog 23 #[.pointer (some ⟨rb, 0, none⟩), .int .i64 dd] w (QVPost w rb (.mk k (wrap64 x) .empty [] []) s2) := by
  have hk1 : k < 256 := by have := fN_lt 1 s; rw [hN] at this; exact this
  have hu := u8_id k hk1
  have HB := Lib.hid (QB.start h #[.int .u8 0, .int .i64 0, .string { data := #[] }, .slice none 0 0, .slice none 0 0] 28)
  have hlt := h.lt
  have hdd : ¬ 17 < dd := by omega
  clear h
  have f1 : ((k : Int) == 1) = false := by subst hk; rfl
  have f2 : ((k : Int) == 2) = true := by subst hk; rfl
  have f3 : ((k : Int) == 3) = false := by subst hk; rfl
  have f4 : ((k : Int) == 4) = false := by subst hk; rfl
  have f5 : ((k : Int) == 5) = false := by subst hk; rfl
  clear hk
  go_enter Tryd.func23, Tryd.ntmps23
  generalize hQ0 : bodyPost _ _ _ = Q0
  have HQ := Lib.hid hQ0
  clear hQ0
  go_wp2_with (first | (go_at_call 22; (with_reducible refine (numberR1 _ rb s HB.out.rr hN).mono ?_); rintro e w1 ⟨rfl, hR, hS⟩; have B1 := HB.out.next hS hR; have r0 := B1.res.at_ 0 _ rfl; have g0 := B1.res.fr 0; have r1 := B1.res.at_ 1 _ rfl; have g1 := B1.res.fr 1; have r2 := B1.res.at_ 2 _ rfl; have g2 := B1.res.fr 2; have r3 := B1.res.at_ 3 _ rfl; have g3 := B1.res.fr 3; have r4 := B1.res.at_ 4 _ rfl; have g4 := B1.res.fr 4; have hsz := B1.size; have zs0 : w.heap.size < w1.heap.size := (by omega)) | (go_at_call 22; (with_reducible refine (numberR8 _ rb s1 (B1.behind ((Below.refl _ _).alloc (Nat.le_refl _) _)).rr hM).mono ?_); rintro e w2 ⟨rfl, hR2, hS2⟩; have B2 := (B1.behind ((Below.refl _ _).alloc (Nat.le_refl _) _)).next hS2 hR2; have VB2 := (BC.start w1 #[.int .u8 k, .int .i64 0, .string { data := #[] }, .slice none 0 0, .slice none 0 0] 28).next hS2 (by omega); have q0 := VB2.at_ 0 _ rfl; have q1 := VB2.at_ 1 _ rfl; have q2 := VB2.at_ 2 _ rfl; have q3 := VB2.at_ 3 _ rfl; have q4 := VB2.at_ 4 _ rfl; have p0 := VB2.fr 1; have r0 := B2.res.at_ 0 _ rfl; have g0 := B2.res.fr 0; have r1 := B2.res.at_ 1 _ rfl; have g1 := B2.res.fr 1; have r2 := B2.res.at_ 2 _ rfl; have g2 := B2.res.fr 2; have r3 := B2.res.at_ 3 _ rfl; have g3 := B2.res.fr 3; have r4 := B2.res.at_ 4 _ rfl; have g4 := B2.res.fr 4))
  rw [← HQ.out]
  exact ((B2.set (b := w1.heap.size) (o := 1) (x := .int .i64 (wrap64 x)) (by omega)).store ⟨k, wrap64 x, .empty, none, 0, 0, none, 0, 0⟩).ret (base := w.heap.size) (isVal_leaf _ _ k (wrap64 x) .empty (by omega) (by omega) (i64_lo _) (i64_hi _) (by decide)) (by omega) rfl rfl
set_option maxHeartbeats 4000000 in
set_option maxRecDepth 100000 in
theorem qv_text (w : World) (rb : Nat) (s : RS) (dd : Int) (h : RR w rb s) (hd0 : 0 ≤ dd) (hd : dd ≤ 17) {k : Nat} {s1 : RS} (hN : fN 1 s = (k, s1)) (hk : k = 3) {x : ByteArray} {s2 : RS} (hM : fT s1 = (x, s2)) :
    Calls Tryd.prog 23 #[.pointer (some ⟨rb, 0, none⟩), .int .i64 dd] w (QVPost w rb (.mk k 0 x [] []) s2) := by
  have hk1 : k < 256 := by have := fN_lt 1 s; rw [hN] at this; exact this
  have hu := u8_id k hk1
  have HB := Lib.hid (QB.start h #[.int .u8 0, .int .i64 0, .string { data := #[] }, .slice none 0 0, .slice none 0 0] 28)
  have hlt := h.lt
  have hdd : ¬ 17 < dd := by omega
  clear h
  have hsx : x.size ≤ 140737488355328 := by have := fT_size s1; rw [hM] at this; exact this
  have f1 : ((k : Int) == 1) = false := by subst hk; rfl
  have f2 : ((k : Int) == 2) = false := by subst hk; rfl
  have f3 : ((k : Int) == 3) = true := by subst hk; rfl
  have f4 : ((k : Int) == 4) = false := by subst hk; rfl
  have f5 : ((k : Int) == 5) = false := by subst hk; rfl
  clear hk
  go_enter Tryd.func23, Tryd.ntmps23
  generalize hQ0 : bodyPost _ _ _ = Q0
  have HQ := Lib.hid hQ0
  clear hQ0
  go_wp2_with (first | (go_at_call 22; (with_reducible refine (numberR1 _ rb s HB.out.rr hN).mono ?_); rintro e w1 ⟨rfl, hR, hS⟩; have B1 := HB.out.next hS hR; have r0 := B1.res.at_ 0 _ rfl; have g0 := B1.res.fr 0; have r1 := B1.res.at_ 1 _ rfl; have g1 := B1.res.fr 1; have r2 := B1.res.at_ 2 _ rfl; have g2 := B1.res.fr 2; have r3 := B1.res.at_ 3 _ rfl; have g3 := B1.res.fr 3; have r4 := B1.res.at_ 4 _ rfl; have g4 := B1.res.fr 4; have hsz := B1.size; have zs0 : w.heap.size < w1.heap.size := (by omega)) | (go_at_call 50; (with_reducible refine (textR_any _ rb s1 (B1.behind ((Below.refl _ _).alloc (Nat.le_refl _) _)).rr hM).mono ?_); rintro e w2 ⟨rfl, hR2, hS2⟩; have B2 := (B1.behind ((Below.refl _ _).alloc (Nat.le_refl _) _)).next hS2 hR2; have VB2 := (BC.start w1 #[.int .u8 k, .int .i64 0, .string { data := #[] }, .slice none 0 0, .slice none 0 0] 28).next hS2 (by omega); have q0 := VB2.at_ 0 _ rfl; have q1 := VB2.at_ 1 _ rfl; have q2 := VB2.at_ 2 _ rfl; have q3 := VB2.at_ 3 _ rfl; have q4 := VB2.at_ 4 _ rfl; have p0 := VB2.fr 2; have r0 := B2.res.at_ 0 _ rfl; have g0 := B2.res.fr 0; have r1 := B2.res.at_ 1 _ rfl; have g1 := B2.res.fr 1; have r2 := B2.res.at_ 2 _ rfl; have g2 := B2.res.fr 2; have r3 := B2.res.at_ 3 _ rfl; have g3 := B2.res.fr 3; have r4 := B2.res.at_ 4 _ rfl; have g4 := B2.res.fr 4))
  rw [← HQ.out]
  exact ((B2.set (b := w1.heap.size) (o := 2) (x := .string x) (by omega)).store ⟨k, 0, x, none, 0, 0, none, 0, 0⟩).ret (base := w.heap.size) (isVal_leaf _ _ k 0 x (by omega) (by omega) (by decide) (by decide) hsx) (by omega) rfl rfl
end Go.Proofs.YtcfbnmobfcabiaaDoor
namespace Go.Proofs.YtcfbnmobfcabiaaDoor
open Go.RowKit
/-- At the head of a round of the list loop. -/
structure QL (w wr : World) (rb vb : Nat) (k : Nat) (kd : Nat) (s0 : RS) (j : Nat) (a : Option Addr) (m c : Nat) (xs : List V) (cs : List VC) (sj sc : RS) : Prop where
  rd : fL (fun x => fV k x) j s0 = (xs, sj)
  len : xs.length = j
  cen : cs.length = j
  box : QB w wr rb sc (vcells vzero)
  vb_ : BC wr vb (vcells ⟨kd, 0, .empty, a, m, c, none, 0, 0⟩)
  row : RowV wr (vb + 1) (.slice a m c) xs cs
  lo : w.heap.size + 1 ≤ vb
theorem QL.round {w wr w4 w5 : World} {rb vb : Nat} {k kd : Nat} {s0 : RS} {j : Nat} {a : Option Addr} {m c : Nat} {xs : List V} {cs : List VC} {sj s3 s2 : RS} {x : V} {cx : VC} {g cap : Nat} {t : TypeId}
    (h : QL w wr rb vb k kd s0 j a m c xs cs sj s3) (hb0 : sj.2 = false) (hsc : s3 = sj) (hx : fV k s3 = (x, s2)) (hS : RStep wr.drew w4 rb) (hI : IsVal (only (fun b => wr.drew.heap.size ≤ b) w4) w4.heap.size x cx) (hR : RR w4 rb s2)
    (hown : w5.ownsRow (vb + 1) 28 5 (.slice (some ⟨g, 0, none⟩) (j + 1) cap) (j + 1) (cs.flatMap vcells ++ vcells cx)) (hg : (w4.alloc (.cells #[.int .u8 cx.k, .int .i64 cx.n, .string cx.s, .slice cx.la cx.ll cx.lc, .slice cx.oa cx.ol cx.oc] t)).grownBy w5 (Value.slice a m c).ownBlock)
    (hat : (Value.slice a m c).ownBlock = some g ∨ g = w4.heap.size + 1) :
    QL w (w5.setCell ⟨vb, 3, none⟩ (.slice (some ⟨g, 0, none⟩) (j + 1) cap)) rb vb k kd s0 (j + 1) (some ⟨g, 0, none⟩) (j + 1) cap (xs ++ [x]) (cs ++ [cx]) s2 s2 := by
  have hlo := h.lo
  have hlt := h.box.lt
  have hdz : wr.drew.heap.size = wr.heap.size := rfl
  have hb1 := drew_below wr
  have hrow := (h.row.later (PV.closed xs cs) (.of_below rb hb1) (by omega)).later (PV.closed xs cs) hS (by omega)
  have hrlt : ∀ b, (Value.slice a m c).ownBlock = some b → vb + 1 ≤ b ∧ b < wr.heap.size := h.row.lt
  have hba : Below w4.heap.size w4 (w4.alloc (.cells #[.int .u8 cx.k, .int .i64 cx.n, .string cx.s, .slice cx.la cx.ll cx.lc, .slice cx.oa cx.ol cx.oc] t)) := (Below.refl _ _).alloc (Nat.le_refl _) _
  have hsz4 : wr.heap.size ≤ w4.heap.size := hS.size
  have hvlt := h.vb_.lt
  have hgb : Below (vb + 1) (w4.alloc (.cells #[.int .u8 cx.k, .int .i64 cx.n, .string cx.s, .slice cx.la cx.ll cx.lc, .slice cx.oa cx.ol cx.oc] t)) w5 := grown_below hg (fun b hb => (hrlt b hb).1) (by simp; omega)
  have hb45 : Below (vb + 1) w4 w5 := (hba.mono (by omega)).trans hgb
  obtain ⟨s1, s2'⟩ := PV.snoc (l := xs) (cs := cs) (by rw [h.len, h.cen])  x cx
  have hnew : PV (xs ++ [x]) (cs ++ [cx]) (only (Free (vb + 1) (.slice a m c)) w4) w4.heap.size xs.length := s1 _ _ (hI.sub (shows_step fun b hb _ => ⟨⟨by rw [hdz] at hb; omega, fun e => by have := (hrlt b e.symm).2; rw [hdz] at hb; omega⟩, rfl⟩))
  have hpush := Row.push (PV.closed (xs ++ [x]) (cs ++ [cx])) hrow hba hg (u' := .slice (some ⟨g, 0, none⟩) (j + 1) cap) (news := vcells cx) (by rw [h.len]; exact hown) (by
    rcases hat with e | e
    · left; rw [e]; rfl
    · right; intro b hb; have : g = b := by simpa [Value.ownBlock] using hb
      omega) hnew s2'
  have hbox := ((h.box.behind hb1).next hS hR).below (hb45.mono (by omega))
  have hvb := ((h.vb_.keep hb1 hvlt).next hS (by omega)).keep hb45 (by omega)
  refine ⟨?_, by simp [h.len], by simp [h.cen], hbox.set (by omega), hvb.set (i := 3) (x := .slice (some ⟨g, 0, none⟩) (j + 1) cap) (by simp [vcells]), ?_, hlo⟩
  · rw [fL_step (by rw [h.rd]; exact hb0), h.rd]; rw [← hsc]; simp only [hx]
  · have hr2 : RowV w5 (vb + 1) (.slice (some ⟨g, 0, none⟩) (j + 1) cap) (xs ++ [x]) (cs ++ [cx]) := by
      show Row _ _ _ _ _ _ _ _
      rw [flat_snoc, List.length_append, List.length_singleton]
      exact hpush
    exact hr2.set (PV.closed _ _) (by omega)
/-- At the head of a round of the object loop. -/
structure QO (w wr : World) (rb vb : Nat) (k : Nat) (kd : Nat) (s0 : RS) (j : Nat) (a : Option Addr) (m c : Nat) (xs : List (ByteArray × V)) (cs : List (ByteArray × VC)) (sj sc : RS) : Prop where
  rd : fL (fun x => fF (fun y => fV k y) x) j s0 = (xs, sj)
  len : xs.length = j
  cen : cs.length = j
  box : QB w wr rb sc (vcells vzero)
  vb_ : BC wr vb (vcells ⟨kd, 0, .empty, none, 0, 0, a, m, c⟩)
  row : RowF wr (vb + 1) (.slice a m c) xs cs
  lo : w.heap.size + 1 ≤ vb
theorem QO.round {w wr w4 w5 : World} {rb vb : Nat} {k kd : Nat} {s0 : RS} {j : Nat} {a : Option Addr} {m c : Nat} {xs : List (ByteArray × V)} {cs : List (ByteArray × VC)} {sj s3 s2 : RS} {sk : ByteArray} {x : V} {cx : VC} {g cap : Nat} {t : TypeId}
    (h : QO w wr rb vb k kd s0 j a m c xs cs sj s3) (hb0 : sj.2 = false) (ht : fT sj = (sk, s3)) (hx : fV k s3 = (x, s2)) (hS : RStep wr.drew w4 rb) (hI : IsVal (only (fun b => wr.drew.heap.size ≤ b) w4) w4.heap.size x cx) (hR : RR w4 rb s2)
    (hown : w5.ownsRow (vb + 1) 78 6 (.slice (some ⟨g, 0, none⟩) (j + 1) cap) (j + 1) (cs.flatMap fcells ++ fcells (sk, cx))) (hg : (w4.alloc (.cells #[.string sk, .int .u8 cx.k, .int .i64 cx.n, .string cx.s, .slice cx.la cx.ll cx.lc, .slice cx.oa cx.ol cx.oc] t)).grownBy w5 (Value.slice a m c).ownBlock)
    (hat : (Value.slice a m c).ownBlock = some g ∨ g = w4.heap.size + 1) :
    QO w (w5.setCell ⟨vb, 4, none⟩ (.slice (some ⟨g, 0, none⟩) (j + 1) cap)) rb vb k kd s0 (j + 1) (some ⟨g, 0, none⟩) (j + 1) cap (xs ++ [(sk, x)]) (cs ++ [(sk, cx)]) s2 s2 := by
  have hlo := h.lo
  have hlt := h.box.lt
  have hdz : wr.drew.heap.size = wr.heap.size := rfl
  have hb1 := drew_below wr
  have hrow := (h.row.later (PF.closed xs cs) (.of_below rb hb1) (by omega)).later (PF.closed xs cs) hS (by omega)
  have hrlt : ∀ b, (Value.slice a m c).ownBlock = some b → vb + 1 ≤ b ∧ b < wr.heap.size := h.row.lt
  have hba : Below w4.heap.size w4 (w4.alloc (.cells #[.string sk, .int .u8 cx.k, .int .i64 cx.n, .string cx.s, .slice cx.la cx.ll cx.lc, .slice cx.oa cx.ol cx.oc] t)) := (Below.refl _ _).alloc (Nat.le_refl _) _
  have hsz4 : wr.heap.size ≤ w4.heap.size := hS.size
  have hvlt := h.vb_.lt
  have hgb : Below (vb + 1) (w4.alloc (.cells #[.string sk, .int .u8 cx.k, .int .i64 cx.n, .string cx.s, .slice cx.la cx.ll cx.lc, .slice cx.oa cx.ol cx.oc] t)) w5 := grown_below hg (fun b hb => (hrlt b hb).1) (by simp; omega)
  have hb45 : Below (vb + 1) w4 w5 := (hba.mono (by omega)).trans hgb
  obtain ⟨s1, s2'⟩ := PF.snoc (l := xs) (cs := cs) (by rw [h.len, h.cen]) sk (by have := fT_size sj; rw [ht] at this; exact this) x cx
  have hnew : PF (xs ++ [(sk, x)]) (cs ++ [(sk, cx)]) (only (Free (vb + 1) (.slice a m c)) w4) w4.heap.size xs.length := s1 _ _ (hI.sub (shows_step fun b hb _ => ⟨⟨by rw [hdz] at hb; omega, fun e => by have := (hrlt b e.symm).2; rw [hdz] at hb; omega⟩, rfl⟩))
  have hpush := Row.push (PF.closed (xs ++ [(sk, x)]) (cs ++ [(sk, cx)])) hrow hba hg (u' := .slice (some ⟨g, 0, none⟩) (j + 1) cap) (news := fcells (sk, cx)) (by rw [h.len]; exact hown) (by
    rcases hat with e | e
    · left; rw [e]; rfl
    · right; intro b hb; have : g = b := by simpa [Value.ownBlock] using hb
      omega) hnew s2'
  have hbox := ((h.box.behind hb1).next hS hR).below (hb45.mono (by omega))
  have hvb := ((h.vb_.keep hb1 hvlt).next hS (by omega)).keep hb45 (by omega)
  refine ⟨?_, by simp [h.len], by simp [h.cen], hbox.set (by omega), hvb.set (i := 4) (x := .slice (some ⟨g, 0, none⟩) (j + 1) cap) (by simp [vcells]), ?_, hlo⟩
  · rw [fL_step (by rw [h.rd]; exact hb0), h.rd]; simp only [fF, ht, hx]
  · have hr2 : RowF w5 (vb + 1) (.slice (some ⟨g, 0, none⟩) (j + 1) cap) (xs ++ [(sk, x)]) (cs ++ [(sk, cx)]) := by
      show Row _ _ _ _ _ _ _ _
      rw [flat_snoc, List.length_append, List.length_singleton]
      exact hpush
    exact hr2.set (PF.closed _ _) (by omega)
theorem QO.text {w wr w3 : World} {rb vb : Nat} {k kd : Nat} {s0 : RS} {j : Nat} {a : Option Addr} {m c : Nat} {xs : List (ByteArray × V)} {cs : List (ByteArray × VC)} {sj sc s3 : RS} (h : QO w wr rb vb k kd s0 j a m c xs cs sj sc) (hS : RStep wr w3 rb) (hR : RR w3 rb s3) : QO w w3 rb vb k kd s0 j a m c xs cs sj s3 := by
  have hlo := h.lo
  have hlt := h.box.lt
  exact ⟨h.rd, h.len, h.cen, h.box.next hS hR, h.vb_.next hS (by omega), h.row.later (PF.closed xs cs) hS (by omega), hlo⟩
end Go.Proofs.YtcfbnmobfcabiaaDoor
namespace Go.Proofs.YtcfbnmobfcabiaaDoor
open Go.RowKit
set_option maxHeartbeats 8000000 in
set_option maxRecDepth 100000 in
theorem qv_list (w : World) (rb : Nat) (s : RS) (dd : Int) (h : RR w rb s) (hd0 : 0 ≤ dd) (hd : dd ≤ 17) {kd : Nat} {s1 : RS} (hN : fN 1 s = (kd, s1)) (hk : kd = 4) {n : Nat} {s2 : RS} (hM : fM 4 s1 = (n, s2)) (k : Nat) (IH : ∀ (W : World) (s : RS) (x : V) (s' : RS), RR W rb s → fV k s = (x, s') → Calls Tryd.prog 23 #[.pointer (some ⟨rb, 0, none⟩), .int .i64 (dd + 1)] W (QVPost W rb x s')) {l : List V} {s9 : RS} (hl : fL (fun x => fV k x) n s2 = (l, s9)) :
    Calls Tryd.prog 23 #[.pointer (some ⟨rb, 0, none⟩), .int .i64 dd] w (QVPost w rb (.mk kd 0 .empty l []) s9) := by
  obtain ⟨i0, hi0, hz0, hz1, hz2⟩ := info_parts ginfoV
  have hn4 : n < 4294967296 := by have := (fM_lt 4 s1).1; rw [hM] at this; exact Nat.lt_of_lt_of_le this (by decide)
  have hw1 : IntKind.i64.wrap (dd + 1) = dd + 1 := IntWalk.i64_in _ (by omega)
  have IHH := Lib.hid IH
  have HL := Lib.hid hl
  have HN := Lib.hid hN
  have HM := Lib.hid hM
  clear IH hl
  have hk1 : kd < 256 := by have := fN_lt 1 s; rw [hN] at this; exact this
  have hu := u8_id kd hk1
  have HB := Lib.hid (QB.start h #[.int .u8 0, .int .i64 0, .string { data := #[] }, .slice none 0 0, .slice none 0 0] 28)
  have hlt := h.lt
  have hdd : ¬ 17 < dd := by omega
  clear h
  have f1 : ((kd : Int) == 1) = false := by subst hk; rfl
  have f2 : ((kd : Int) == 2) = false := by subst hk; rfl
  have f3 : ((kd : Int) == 3) = false := by subst hk; rfl
  have f4 : ((kd : Int) == 4) = true := by subst hk; rfl
  have f5 : ((kd : Int) == 5) = false := by subst hk; rfl
  clear hk hN hM
  go_enter Tryd.func23, Tryd.ntmps23
  generalize hQ0 : bodyPost _ _ _ = Q0
  have HQ := Lib.hid hQ0
  clear hQ0
  go_wp2_with (first | (go_at_call 22; (with_reducible refine (numberR1 _ rb s HB.out.rr HN.out).mono ?_); rintro e w1 ⟨rfl, hR, hS⟩; have B1 := HB.out.next hS hR; have r0 := B1.res.at_ 0 _ rfl; have g0 := B1.res.fr 0; have r1 := B1.res.at_ 1 _ rfl; have g1 := B1.res.fr 1; have r2 := B1.res.at_ 2 _ rfl; have g2 := B1.res.fr 2; have r3 := B1.res.at_ 3 _ rfl; have g3 := B1.res.fr 3; have r4 := B1.res.at_ 4 _ rfl; have g4 := B1.res.fr 4; have hsz := B1.size; have zs0 : w.heap.size < w1.heap.size := (by omega)) | (go_at_call 24; (with_reducible refine (manyR4 _ rb s1 (B1.behind ((Below.refl _ _).alloc (Nat.le_refl _) _)).rr HM.out).mono ?_); rintro e w2 ⟨rfl, hR2, hS2⟩; have B2 := (B1.behind ((Below.refl _ _).alloc (Nat.le_refl _) _)).next hS2 hR2; have VB2 := (BC.start w1 #[.int .u8 kd, .int .i64 0, .string { data := #[] }, .slice none 0 0, .slice none 0 0] 28).next hS2 (by omega)))
  have LI0 : QL w w2 rb w1.heap.size k kd s2 0 none 0 0 [] [] s2 s2 := ⟨rfl, rfl, rfl, B2, VB2, Row.nil _ _ _ _ _, hsz⟩
  obtain ⟨vb, hvb⟩ : ∃ vb, w1.heap.size = vb := ⟨_, rfl⟩
  rw [hvb] at LI0 hsz zs0 ⊢
  clear B1 B2 VB2 r0 r1 r2 r3 r4 g0 g1 g2 g3 g4 hvb
  go_loopw [7] (fun i wr => ∃ (j : Nat) (a : Option Addr) (m c : Nat) (xs : List V) (cs : List VC) (sj : RS), j ≤ n ∧ i = .int .i64 j ∧ QL w wr rb vb k kd s2 j a m c xs cs sj sj) (fun i _ => n - (intOf i).toNat)
  case atStart => exact ⟨0, none, 0, 0, [], [], s2, Nat.zero_le _, rfl, LI0⟩
  case round =>
    clear LI0
    obtain ⟨j, a, m, c, xs, cs, ⟨bj, bd⟩, hj, rfl, L⟩ := hrel
    have y0 := L.vb_.at_ 0 _ rfl; have y1 := L.vb_.at_ 1 _ rfl; have y2 := L.vb_.at_ 2 _ rfl; have y3 := L.vb_.at_ 3 _ rfl; have y4 := L.vb_.at_ 4 _ rfl
    have pc := L.vb_.fr 3
    have bb := L.box.rr.bad
    have hvlt := L.vb_.lt
    have r0 := L.box.res.at_ 0 _ rfl; have r1 := L.box.res.at_ 1 _ rfl; have r2 := L.box.res.at_ 2 _ rfl; have r3 := L.box.res.at_ 3 _ rfl; have r4 := L.box.res.at_ 4 _ rfl
    have g0 := L.box.res.fr 0; have g1 := L.box.res.fr 1; have g2 := L.box.res.fr 2; have g3 := L.box.res.fr 3; have g4 := L.box.res.fr 4
    by_cases hlt2 : j < n
    · cases bd with
      | true =>
        have hs := fL_stop (f := fun x => fV k x) (j := j) (n := n) (s := s2) (by rw [L.rd]) (by omega)
        rw [HL.out, L.rd] at hs
        injection hs with hs1 hs2
        subst hs1 hs2
        have hx := L.row.val (lo := vb + 1) (by rw [L.len, L.cen]) (Nat.le_refl _) kd (by omega) (by omega) (by rw [L.len]; omega)
        have HB2 := Lib.hid L.box
        have HX := Lib.hid hx
        clear L hx
        go_wp2_with fail
        rw [← HQ.out]
        exact QB.leave (base := vb + 1) (c := ⟨kd, 0, .empty, a, m, c, none, 0, 0⟩) HB2.out HX.out (by omega) rfl rfl
      | false =>
      have hlo := L.lo
      have hbl := L.box.lt
      replace bb : wr.cell? ⟨rb, 1, none⟩ = some (.bool false) := bb
      clear r0 r1 r2 r3 r4 g0 g1 g2 g3 g4
      obtain ⟨⟨x, s5⟩, hx⟩ : ∃ p, fV k (bj, false) = p := ⟨_, rfl⟩
      have HXV := Lib.hid hx
      have HC : Hid (Calls Tryd.prog 23 #[.pointer (some ⟨rb, 0, none⟩), .int .i64 (dd + 1)] wr.drew fun e w' => ∃ c : VC, e = .returned (.agg #[.int .u8 c.k, .int .i64 c.n, .string c.s, .slice c.la c.ll c.lc, .slice c.oa c.ol c.oc]) ∧ RStep wr.drew w' rb ∧ IsVal (only (fun b => wr.drew.heap.size ≤ b) w') w'.heap.size x c ∧ RR w' rb s5) :=
        (IHH.out wr.drew _ x s5 (L.box.behind (drew_below wr)).rr hx).mono fun e w' ⟨q1, ⟨cc, q2, q3⟩, q4⟩ => ⟨cc, q2, q1, q3, q4⟩
      have HO : Hid (∀ W, RStep wr.drew W rb → W.ownsRow (vb + 1) 28 5 (.slice a m c) j (cs.flatMap vcells) ∧ W.cell? ⟨vb, 3, none⟩ = some (.slice a m c) ∧ W.frozen? ⟨vb, 3, none⟩ = false ∧ vb < W.heap.size) := by
        intro W hW
        have ho := ((L.row.later (PV.closed xs cs) (.of_below rb (drew_below wr)) (by omega)).later (PV.closed xs cs) hW (by omega)).own
        rw [L.len] at ho
        exact ⟨ho, hW.cell (w := wr.drew) (L.vb_.at_ 3 _ rfl) (by omega), (hW.frozen (w := wr.drew) L.vb_.lt (by omega)).trans (L.vb_.fr 3), Nat.lt_of_lt_of_le L.vb_.lt hW.size⟩
      have hne : (Value.slice a m c).ownBlock ≠ some vb := fun e => by have := (L.row.lt _ e).1; omega
      have LL := Lib.hid L
      clear hx L
      go_wp2_with fail
      refine wp_region_noPanic ?_
      go_region_law
        (first
          | (go_simp; go_at_call 23; refine (HC.out).mono ?_; rintro e w4 ⟨cx, rfl, hS4, hI4, hR4⟩; obtain ⟨ho4, hc4, hf4, hv4⟩ := HO.out w4 hS4)
          | (refine step_append_lies _ (by rfl) _ _ _ (by rfl) (vb + 1) 28 i0 _ 5 80 (by kernel_rfl) hi0 hz0 hz1 hz2 rfl (by omega) (.slice a m c) j (cs.flatMap vcells) (by rfl) (ho4.alloc _) ⟨w4.heap.size, 0, none⟩ 1 1 (vcells cx) (by rfl) (by rfl) (World.news_of_block (t := 28) (fr := (0, 0)) (heap_alloc_new w4 _)) (by simp [vcells, Value.oneCell']) (by omega) (by unfold maxLen; omega) (by omega) (by simp; omega) (w4.heap.size + 1) (by simp) ?_; intro g cap w5 hown5 hgrow5 hat5 hlt5; have hc5 : w5.cell? ⟨vb, 3, none⟩ = some (.slice a m c) := (hgrow5.cell_far ⟨vb, 3, none⟩ (by simp; omega) (Ne.symm hne)).trans (keep_cell ((Below.refl _ _).alloc (Nat.le_refl _) _) hc4 hv4); have hf5 : w5.frozen? ⟨vb, 3, none⟩ = false := (hgrow5.frozen_far ⟨vb, 3, none⟩ (by simp; omega) (Ne.symm hne)).trans ((((Below.refl _ _).alloc (Nat.le_refl _) _ : Below w4.heap.size w4 (w4.alloc _)).frozen (p := ⟨vb, 3, none⟩) hv4).trans hf4)))
      all_goals
        refine NoPanic.normal ?_
        go_wp2_with fail
        go_roundw
        case rel => exact ⟨j + 1, some ⟨g, 0, none⟩, j + 1, cap, xs ++ [x], cs ++ [cx], s5, by omega, by go_num, LL.out.round rfl rfl HXV.out hS4 hI4 hR4 hown5 hgrow5 hat5⟩
        case measure => simp [intOf]; omega
    · have hjn : j = n := by omega
      subst hjn
      have hs := L.rd
      rw [HL.out] at hs
      injection hs with hs1 hs2
      subst hs1 hs2
      have hx := L.row.val (lo := vb + 1) (by rw [L.len, L.cen]) (Nat.le_refl _) kd (by omega) (by omega) (by rw [L.len]; omega)
      have HB2 := Lib.hid L.box
      have HX := Lib.hid hx
      clear L hx
      go_wp2_with fail
      rw [← HQ.out]
      exact QB.leave (base := vb + 1) (c := ⟨kd, 0, .empty, a, m, c, none, 0, 0⟩) HB2.out HX.out (by omega) rfl rfl
end Go.Proofs.YtcfbnmobfcabiaaDoor
namespace Go.Proofs.YtcfbnmobfcabiaaDoor
open Go.RowKit
theorem ginfoFR : (Tryd.prog.info? 78).map (fun i => (i.zero, i.size, i.bytes)) = some (some (.agg #[.string { data := #[] }, .int .u8 0, .int .i64 0, .string { data := #[] }, .slice none 0 0, .slice none 0 0]), 6, 96) := by kernel_rfl
set_option maxHeartbeats 8000000 in
set_option maxRecDepth 100000 in
theorem qv_obj (w : World) (rb : Nat) (s : RS) (dd : Int) (h : RR w rb s) (hd0 : 0 ≤ dd) (hd : dd ≤ 17) {kd : Nat} {s1 : RS} (hN : fN 1 s = (kd, s1)) (hk : kd = 5) {n : Nat} {s2 : RS} (hM : fM 4 s1 = (n, s2)) (k : Nat) (IH : ∀ (W : World) (s : RS) (x : V) (s' : RS), RR W rb s → fV k s = (x, s') → Calls Tryd.prog 23 #[.pointer (some ⟨rb, 0, none⟩), .int .i64 (dd + 1)] W (QVPost W rb x s')) {l : List (ByteArray × V)} {s9 : RS} (hl : fL (fun x => fF (fun y => fV k y) x) n s2 = (l, s9)) :
    Calls Tryd.prog 23 #[.pointer (some ⟨rb, 0, none⟩), .int .i64 dd] w (QVPost w rb (.mk kd 0 .empty [] l) s9) := by
  obtain ⟨i0, hi0, hz0, hz1, hz2⟩ := info_parts ginfoFR
  have hn4 : n < 4294967296 := by have := (fM_lt 4 s1).1; rw [hM] at this; exact Nat.lt_of_lt_of_le this (by decide)
  have hw1 : IntKind.i64.wrap (dd + 1) = dd + 1 := IntWalk.i64_in _ (by omega)
  have IHH := Lib.hid IH
  have HL := Lib.hid hl
  have HN := Lib.hid hN
  have HM := Lib.hid hM
  clear IH hl
  have hk1 : kd < 256 := by have := fN_lt 1 s; rw [hN] at this; exact this
  have hu := u8_id kd hk1
  have HB := Lib.hid (QB.start h #[.int .u8 0, .int .i64 0, .string { data := #[] }, .slice none 0 0, .slice none 0 0] 28)
  have hlt := h.lt
  have hdd : ¬ 17 < dd := by omega
  clear h
  have f1 : ((kd : Int) == 1) = false := by subst hk; rfl
  have f2 : ((kd : Int) == 2) = false := by subst hk; rfl
  have f3 : ((kd : Int) == 3) = false := by subst hk; rfl
  have f4 : ((kd : Int) == 4) = false := by subst hk; rfl
  have f5 : ((kd : Int) == 5) = true := by subst hk; rfl
  clear hk hN hM
  go_enter Tryd.func23, Tryd.ntmps23
  generalize hQ0 : bodyPost _ _ _ = Q0
  have HQ := Lib.hid hQ0
  clear hQ0
  go_wp2_with (first | (go_at_call 22; (with_reducible refine (numberR1 _ rb s HB.out.rr HN.out).mono ?_); rintro e w1 ⟨rfl, hR, hS⟩; have B1 := HB.out.next hS hR; have r0 := B1.res.at_ 0 _ rfl; have g0 := B1.res.fr 0; have r1 := B1.res.at_ 1 _ rfl; have g1 := B1.res.fr 1; have r2 := B1.res.at_ 2 _ rfl; have g2 := B1.res.fr 2; have r3 := B1.res.at_ 3 _ rfl; have g3 := B1.res.fr 3; have r4 := B1.res.at_ 4 _ rfl; have g4 := B1.res.fr 4; have hsz := B1.size; have zs0 : w.heap.size < w1.heap.size := (by omega)) | (go_at_call 24; (with_reducible refine (manyR4 _ rb s1 (B1.behind ((Below.refl _ _).alloc (Nat.le_refl _) _)).rr HM.out).mono ?_); rintro e w2 ⟨rfl, hR2, hS2⟩; have B2 := (B1.behind ((Below.refl _ _).alloc (Nat.le_refl _) _)).next hS2 hR2; have VB2 := (BC.start w1 #[.int .u8 kd, .int .i64 0, .string { data := #[] }, .slice none 0 0, .slice none 0 0] 28).next hS2 (by omega)))
  have LI0 : QO w w2 rb w1.heap.size k kd s2 0 none 0 0 [] [] s2 s2 := ⟨rfl, rfl, rfl, B2, VB2, Row.nil _ _ _ _ _, hsz⟩
  obtain ⟨vb, hvb⟩ : ∃ vb, w1.heap.size = vb := ⟨_, rfl⟩
  rw [hvb] at LI0 hsz zs0 ⊢
  clear B1 B2 VB2 r0 r1 r2 r3 r4 g0 g1 g2 g3 g4 hvb
  go_loopw [9, 10] (fun i _ wr => ∃ (j : Nat) (a : Option Addr) (m c : Nat) (xs : List (ByteArray × V)) (cs : List (ByteArray × VC)) (sj : RS), j ≤ n ∧ i = .int .i64 j ∧ QO w wr rb vb k kd s2 j a m c xs cs sj sj) (fun i _ _ => n - (intOf i).toNat)
  case atStart => exact ⟨0, none, 0, 0, [], [], s2, Nat.zero_le _, rfl, LI0⟩
  case round =>
    clear LI0
    obtain ⟨j, a, m, c, xs, cs, ⟨bj, bd⟩, hj, rfl, L⟩ := hrel
    have y0 := L.vb_.at_ 0 _ rfl; have y1 := L.vb_.at_ 1 _ rfl; have y2 := L.vb_.at_ 2 _ rfl; have y3 := L.vb_.at_ 3 _ rfl; have y4 := L.vb_.at_ 4 _ rfl
    have pc := L.vb_.fr 4
    have bb := L.box.rr.bad
    have hvlt := L.vb_.lt
    have r0 := L.box.res.at_ 0 _ rfl; have r1 := L.box.res.at_ 1 _ rfl; have r2 := L.box.res.at_ 2 _ rfl; have r3 := L.box.res.at_ 3 _ rfl; have r4 := L.box.res.at_ 4 _ rfl
    have g0 := L.box.res.fr 0; have g1 := L.box.res.fr 1; have g2 := L.box.res.fr 2; have g3 := L.box.res.fr 3; have g4 := L.box.res.fr 4
    by_cases hlt2 : j < n
    · cases bd with
      | true =>
        have hs := fL_stop (f := fun x => fF (fun y => fV k y) x) (j := j) (n := n) (s := s2) (by rw [L.rd]) (by omega)
        rw [HL.out, L.rd] at hs
        injection hs with hs1 hs2
        subst hs1 hs2
        have hx := L.row.val (lo := vb + 1) (by rw [L.len, L.cen]) (Nat.le_refl _) kd (by omega) (by omega) (by rw [L.len]; omega)
        have HB2 := Lib.hid L.box
        have HX := Lib.hid hx
        clear L hx
        go_wp2_with fail
        rw [← HQ.out]
        exact QB.leave (base := vb + 1) (c := ⟨kd, 0, .empty, none, 0, 0, a, m, c⟩) HB2.out HX.out (by omega) rfl rfl
      | false =>
      have hlo := L.lo
      have hbl := L.box.lt
      replace bb : wr.cell? ⟨rb, 1, none⟩ = some (.bool false) := bb
      clear r0 r1 r2 r3 r4 g0 g1 g2 g3 g4
      obtain ⟨⟨sk, s3⟩, ht⟩ : ∃ p, fT (bj, false) = p := ⟨_, rfl⟩
      have HTT := Lib.hid ht
      have HCT := Lib.hid (textR_any wr rb (bj, false) L.box.rr ht)
      have HLT := Lib.hid L
      clear ht L y0 y1 y2 y3 y4 pc
      go_wp2_with (go_at_call 50; (with_reducible refine (HCT.out).mono ?_); rintro e w3 ⟨rfl, hR3, hS3⟩)
      have L := HLT.out.text hS3 hR3
      have y0 := L.vb_.at_ 0 _ rfl; have y1 := L.vb_.at_ 1 _ rfl; have y2 := L.vb_.at_ 2 _ rfl; have y3 := L.vb_.at_ 3 _ rfl; have y4 := L.vb_.at_ 4 _ rfl
      have pc := L.vb_.fr 4
      have hvlt3 := L.vb_.lt
      obtain ⟨⟨x, s5⟩, hx⟩ : ∃ p, fV k s3 = p := ⟨_, rfl⟩
      have HXV := Lib.hid hx
      have HC : Hid (Calls Tryd.prog 23 #[.pointer (some ⟨rb, 0, none⟩), .int .i64 (dd + 1)] w3.drew fun e w' => ∃ c : VC, e = .returned (.agg #[.int .u8 c.k, .int .i64 c.n, .string c.s, .slice c.la c.ll c.lc, .slice c.oa c.ol c.oc]) ∧ RStep w3.drew w' rb ∧ IsVal (only (fun b => w3.drew.heap.size ≤ b) w') w'.heap.size x c ∧ RR w' rb s5) :=
        (IHH.out w3.drew _ x s5 (L.box.behind (drew_below w3)).rr hx).mono fun e w' ⟨q1, ⟨cc, q2, q3⟩, q4⟩ => ⟨cc, q2, q1, q3, q4⟩
      have HO : Hid (∀ W, RStep w3.drew W rb → W.ownsRow (vb + 1) 78 6 (.slice a m c) j (cs.flatMap fcells) ∧ W.cell? ⟨vb, 4, none⟩ = some (.slice a m c) ∧ W.frozen? ⟨vb, 4, none⟩ = false ∧ vb < W.heap.size) := by
        intro W hW
        have ho := ((L.row.later (PF.closed xs cs) (.of_below rb (drew_below w3)) (by omega)).later (PF.closed xs cs) hW (by omega)).own
        rw [L.len] at ho
        exact ⟨ho, hW.cell (w := w3.drew) (L.vb_.at_ 4 _ rfl) (by omega), (hW.frozen (w := w3.drew) L.vb_.lt (by omega)).trans (L.vb_.fr 4), Nat.lt_of_lt_of_le L.vb_.lt hW.size⟩
      have hne : (Value.slice a m c).ownBlock ≠ some vb := fun e => by have := (L.row.lt _ e).1; omega
      have LL := Lib.hid L
      clear hx L
      refine wp_region_noPanic ?_
      go_region_law
        (first
          | (go_simp; go_at_call 23; refine (HC.out).mono ?_; rintro e w4 ⟨cx, rfl, hS4, hI4, hR4⟩; obtain ⟨ho4, hc4, hf4, hv4⟩ := HO.out w4 hS4)
          | (refine step_append_lies _ (by rfl) _ _ _ (by rfl) (vb + 1) 78 i0 _ 6 96 (by kernel_rfl) hi0 hz0 hz1 hz2 rfl (by omega) (.slice a m c) j (cs.flatMap fcells) (by rfl) (ho4.alloc _) ⟨w4.heap.size, 0, none⟩ 1 1 (fcells (sk, cx)) (by rfl) (by rfl) (World.news_of_block (t := 78) (fr := (0, 0)) (heap_alloc_new w4 _)) (by simp [fcells, Value.oneCell']) (by omega) (by unfold maxLen; omega) (by omega) (by simp; omega) (w4.heap.size + 1) (by simp) ?_; intro g cap w5 hown5 hgrow5 hat5 hlt5; have hc5 : w5.cell? ⟨vb, 4, none⟩ = some (.slice a m c) := (hgrow5.cell_far ⟨vb, 4, none⟩ (by simp; omega) (Ne.symm hne)).trans (keep_cell ((Below.refl _ _).alloc (Nat.le_refl _) _) hc4 hv4); have hf5 : w5.frozen? ⟨vb, 4, none⟩ = false := (hgrow5.frozen_far ⟨vb, 4, none⟩ (by simp; omega) (Ne.symm hne)).trans ((((Below.refl _ _).alloc (Nat.le_refl _) _ : Below w4.heap.size w4 (w4.alloc _)).frozen (p := ⟨vb, 4, none⟩) hv4).trans hf4)))
      all_goals
        refine NoPanic.normal ?_
        go_wp2_with fail
        go_roundw
        case rel => exact ⟨j + 1, some ⟨g, 0, none⟩, j + 1, cap, xs ++ [(sk, x)], cs ++ [(sk, cx)], s5, by omega, by go_num, LL.out.round rfl HTT.out HXV.out hS4 hI4 hR4 hown5 hgrow5 hat5⟩
        case measure => simp [intOf]; omega
    · have hjn : j = n := by omega
      subst hjn
      have hs := L.rd
      rw [HL.out] at hs
      injection hs with hs1 hs2
      subst hs1 hs2
      have hx := L.row.val (lo := vb + 1) (by rw [L.len, L.cen]) (Nat.le_refl _) kd (by omega) (by omega) (by rw [L.len]; omega)
      have HB2 := Lib.hid L.box
      have HX := Lib.hid hx
      clear L hx
      go_wp2_with fail
      rw [← HQ.out]
      exact QB.leave (base := vb + 1) (c := ⟨kd, 0, .empty, none, 0, 0, a, m, c⟩) HB2.out HX.out (by omega) rfl rfl
end Go.Proofs.YtcfbnmobfcabiaaDoor
namespace Go.Proofs.YtcfbnmobfcabiaaDoor
open Go.RowKit
theorem valueR_any (k : Nat) : ∀ (w : World) (rb : Nat) (s : RS) (dd : Int), RR w rb s → 0 ≤ dd → dd + k = 18 → ∀ {x : V} {s' : RS}, fV k s = (x, s') →
    Calls Tryd.prog 23 #[.pointer (some ⟨rb, 0, none⟩), .int .i64 dd] w (QVPost w rb x s') := by
  induction k with
  | zero => intro w rb s dd h _ hk x s' hx; exact qv_deep w rb s dd h (by omega) hx
  | succ k ih =>
    intro w rb s dd h hd0 hk x s' hx
    have hd : dd ≤ 17 := by omega
    obtain ⟨⟨kd, s1⟩, hN⟩ : ∃ p, fN 1 s = p := ⟨_, rfl⟩
    rw [fV, hN] at hx
    dsimp only at hx
    by_cases e12 : kd = 1 ∨ kd = 2
    · rw [if_pos e12] at hx
      obtain ⟨⟨n, s2⟩, hM⟩ : ∃ p, fN 8 s1 = p := ⟨_, rfl⟩
      rw [hM] at hx
      injection hx with h1 h2
      subst h1 h2
      rcases e12 with e | e
      · exact qv_int1 w rb s dd h hd0 hd hN e hM
      · exact qv_int2 w rb s dd h hd0 hd hN e hM
    rw [if_neg e12] at hx
    by_cases e3 : kd = 3
    · rw [if_pos e3] at hx
      obtain ⟨⟨t, s2⟩, hM⟩ : ∃ p, fT s1 = p := ⟨_, rfl⟩
      rw [hM] at hx
      injection hx with h1 h2
      subst h1 h2
      exact qv_text w rb s dd h hd0 hd hN e3 hM
    rw [if_neg e3] at hx
    have IH : ∀ (W : World) (s : RS) (x : V) (s' : RS), RR W rb s → fV k s = (x, s') → Calls Tryd.prog 23 #[.pointer (some ⟨rb, 0, none⟩), .int .i64 (dd + 1)] W (QVPost W rb x s') :=
      fun W s x s' hR hx => ih W rb s (dd + 1) hR (by omega) (by omega) hx
    by_cases e4 : kd = 4
    · rw [if_pos e4] at hx
      obtain ⟨⟨n, s2⟩, hM⟩ : ∃ p, fM 4 s1 = p := ⟨_, rfl⟩
      rw [hM] at hx
      dsimp only at hx
      obtain ⟨⟨l, s9⟩, hl⟩ : ∃ p, fL (fun x => fV k x) n s2 = p := ⟨_, rfl⟩
      rw [hl] at hx
      injection hx with h1 h2
      subst h1 h2
      exact qv_list w rb s dd h hd0 hd hN e4 hM k IH hl
    rw [if_neg e4] at hx
    by_cases e5 : kd = 5
    · rw [if_pos e5] at hx
      obtain ⟨⟨n, s2⟩, hM⟩ : ∃ p, fM 4 s1 = p := ⟨_, rfl⟩
      rw [hM] at hx
      dsimp only at hx
      obtain ⟨⟨l, s9⟩, hl⟩ : ∃ p, fL (fun x => fF (fun y => fV k y) x) n s2 = p := ⟨_, rfl⟩
      rw [hl] at hx
      injection hx with h1 h2
      subst h1 h2
      exact qv_obj w rb s dd h hd0 hd hN e5 hM k IH hl
    rw [if_neg e5] at hx
    injection hx with h1 h2
    subst h1 h2
    exact qv_other w rb s dd h hd0 hd hN (by omega)
/-- At the top. -/
theorem valueR0 (w : World) (rb : Nat) (s : RS) (h : RR w rb s) {x : V} {s' : RS} (hx : fV 18 s = (x, s')) :
    Calls Tryd.prog 23 #[.pointer (some ⟨rb, 0, none⟩), .int .i64 0] w fun e w' => ∃ c : VC, e = .returned (.agg #[.int .u8 c.k, .int .i64 c.n, .string c.s, .slice c.la c.ll c.lc, .slice c.oa c.ol c.oc]) ∧ RStep w w' rb ∧ IsVal (only (fun b => w.heap.size ≤ b) w') w'.heap.size x c ∧ RR w' rb s' :=
  (valueR_any 18 w rb s 0 h (by omega) (by omega) hx).mono fun _ _ ⟨q1, ⟨c, q2, q3⟩, q4⟩ => ⟨c, q2, q1, q3, q4⟩
end Go.Proofs.YtcfbnmobfcabiaaDoor
namespace Go.Proofs.YtcfbnmobfcabiaaDoor
open Go.RowKit

set_option maxHeartbeats 8000000 in
set_option maxRecDepth 100000 in
theorem refValue_of (sd : Bool) (w : World) (vk vn : Int) (vs : ByteArray) (vla : Option Addr) (vll vlc : Nat) (voa : Option Addr) (vol voc : Nat) (vv : V) (hv : IsVal w w.heap.size vv ⟨vk, vn, vs, vla, vll, vlc, voa, vol, voc⟩) (HS : Hid (∀ W, Below w.heap.size w W → Calls Tryd.prog 37 #[.agg #[.int .u8 vk, .int .i64 vn, .string vs, .slice vla vll vlc, .slice voa vol voc]] W fun e w' => e = .returned (.bool sd) ∧ Below W.heap.size W w')) (hsz : (encV vv).length ≤ 70368744177664) :
    Calls Tryd.prog 18 #[.agg #[.int .u8 vk, .int .i64 vn, .string vs, .slice vla vll vlc, .slice voa vol voc]] w fun e w' => (∃ a n c, e = .returned (.tuple #[.slice a n c, .int .i64 (outN sd (encV vv))]) ∧ IsB w' w'.heap.size a n c (outB sd (encV vv))) ∧ Below w.heap.size w w' := by
  have bx := BX.start w #[.int .u8 vk, .int .i64 vn, .string vs, .slice vla vll vlc, .slice voa vol voc] 28
  have HV : Hid (∀ W, Below w.heap.size w W → IsVal W w.heap.size vv ⟨vk, vn, vs, vla, vll, vlc, voa, vol, voc⟩) := fun W hW => hv.keep hW
  clear hv
  cases sd with
  | false =>
    have e1 : outN false (encV vv) = 1 := rfl
    have e2 : outB false (encV vv) = [] := rfl
    rw [e1, e2]
    clear e1 e2 hsz
    go_enter Tryd.func18, Tryd.ntmps18
    go_wp2_with (go_at_call 37; (with_reducible refine (HS.out _ ?_).mono ?_); (focus (have := bx.below; have := bx.size; go_grown)); rintro e w1 ⟨rfl, hb1⟩; replace bx := bx.next hb1 (by go_grown) rfl; have zs : w.heap.size < w1.heap.size := bx.size; have y0 := bx.at_ 0 _ rfl; have y1 := bx.at_ 1 _ rfl; have y2 := bx.at_ 2 _ rfl; have y3 := bx.at_ 3 _ rfl; have y4 := bx.at_ 4 _ rfl)
    go_returns
    exact ⟨⟨none, 0, 0, rfl, .nil _ _⟩, by have := bx.below; have := bx.size; go_grown⟩
  | true =>
    have hsz0 : (encV vv).length ≤ 140737488355328 := by omega
    by_cases hq : 60000 < (encV vv).length
    · have e1 : outN true (encV vv) = 3 := by simp only [outN, hq, if_true]
      have e2 : outB true (encV vv) = [] := by simp only [outB, hq, if_true]
      rw [e1, e2]
      have HQ := Lib.hid hq
      clear e1 e2 hq
      go_enter Tryd.func18, Tryd.ntmps18
      go_wp2_with (first | (go_at_call 37; (with_reducible refine (HS.out _ ?_).mono ?_); (focus (have := bx.below; have := bx.size; go_grown)); rintro e w1 ⟨rfl, hb1⟩; replace bx := bx.next hb1 (by go_grown) rfl; have zs : w.heap.size < w1.heap.size := bx.size; have wx := WG.fresh bx 93; have H2 : Hid (Below w.heap.size w (w1.alloc (.cells #[.slice none 0 0] 93))) := Lib.hid (bx.below.alloc (Nat.le_of_lt zs) _); have H0 := Lib.hid wx.wrt; have hlt := bx.size; have b0 := bx.at_ 0 _ rfl; have b1 := bx.at_ 1 _ rfl; have b2 := bx.at_ 2 _ rfl; have b3 := bx.at_ 3 _ rfl; have b4 := bx.at_ 4 _ rfl; have y0 := wx.at_ 0 _ rfl; have y1 := wx.at_ 1 _ rfl; have y2 := wx.at_ 2 _ rfl; have y3 := wx.at_ 3 _ rfl; have y4 := wx.at_ 4 _ rfl) | (go_at_call 42; (with_reducible refine (refValueX_any vv vk vn vs vla vll vlc voa vol voc _ w.heap.size w1.heap.size _ _ wx.wrt (HV.out _ (H2.out.trans (H0.out.keeps wx.st))) ?_).mono ?_); (focus ((first | omega | (simp only [List.length_nil]; omega) | (simp only [List.length_append]; omega) | (simp only [List.length_append, List.length_nil]; omega) | (simp only [List.length_append, be_length]; omega) | (simp only [List.length_append, be_length, List.length_nil]; omega)))); rintro e w2 ⟨rfl, v2, hr2, hs2⟩; replace wx := wx.next hr2 hs2; have y0 := wx.at_ 0 _ rfl; have y1 := wx.at_ 1 _ rfl; have y2 := wx.at_ 2 _ rfl; have y3 := wx.at_ 3 _ rfl; have y4 := wx.at_ 4 _ rfl; obtain ⟨ra, rn, rc, rfl, hI⟩ := wx.wrt.isB; have hcc := wx.wrt.cell; have HI := Lib.hid hI; have hn2 : 60000 < rn := (by have := hI.len; have := HQ.out; simp only [List.length_append, List.length_nil] at *; omega); clear hI))
      go_returns
      exact ⟨⟨none, 0, 0, rfl, .nil _ _⟩, by exact H2.out.trans (H0.out.keeps wx.st)⟩
    · have e1 : outN true (encV vv) = 0 := by simp only [outN, hq, if_true, if_false]
      have e2 : outB true (encV vv) = encV vv := by simp only [outB, hq, if_true, if_false]
      rw [e1, e2]
      have HQ := Lib.hid hq
      clear e1 e2 hq
      go_enter Tryd.func18, Tryd.ntmps18
      go_wp2_with (first | (go_at_call 37; (with_reducible refine (HS.out _ ?_).mono ?_); (focus (have := bx.below; have := bx.size; go_grown)); rintro e w1 ⟨rfl, hb1⟩; replace bx := bx.next hb1 (by go_grown) rfl; have zs : w.heap.size < w1.heap.size := bx.size; have wx := WG.fresh bx 93; have H2 : Hid (Below w.heap.size w (w1.alloc (.cells #[.slice none 0 0] 93))) := Lib.hid (bx.below.alloc (Nat.le_of_lt zs) _); have H0 := Lib.hid wx.wrt; have hlt := bx.size; have b0 := bx.at_ 0 _ rfl; have b1 := bx.at_ 1 _ rfl; have b2 := bx.at_ 2 _ rfl; have b3 := bx.at_ 3 _ rfl; have b4 := bx.at_ 4 _ rfl; have y0 := wx.at_ 0 _ rfl; have y1 := wx.at_ 1 _ rfl; have y2 := wx.at_ 2 _ rfl; have y3 := wx.at_ 3 _ rfl; have y4 := wx.at_ 4 _ rfl) | (go_at_call 42; (with_reducible refine (refValueX_any vv vk vn vs vla vll vlc voa vol voc _ w.heap.size w1.heap.size _ _ wx.wrt (HV.out _ (H2.out.trans (H0.out.keeps wx.st))) ?_).mono ?_); (focus ((first | omega | (simp only [List.length_nil]; omega) | (simp only [List.length_append]; omega) | (simp only [List.length_append, List.length_nil]; omega) | (simp only [List.length_append, be_length]; omega) | (simp only [List.length_append, be_length, List.length_nil]; omega)))); rintro e w2 ⟨rfl, v2, hr2, hs2⟩; replace wx := wx.next hr2 hs2; have y0 := wx.at_ 0 _ rfl; have y1 := wx.at_ 1 _ rfl; have y2 := wx.at_ 2 _ rfl; have y3 := wx.at_ 3 _ rfl; have y4 := wx.at_ 4 _ rfl; obtain ⟨ra, rn, rc, rfl, hI⟩ := wx.wrt.isB; have hcc := wx.wrt.cell; have HI := Lib.hid hI; have hn2 : ¬ 60000 < rn := (by have := hI.len; have := HQ.out; simp only [List.length_append, List.length_nil] at *; omega); clear hI))
      go_returns
      exact ⟨⟨ra, rn, rc, rfl, by have := HI.out; simpa using this⟩, by exact H2.out.trans (H0.out.keeps wx.st)⟩

set_option maxHeartbeats 8000000 in
set_option maxRecDepth 100000 in
theorem refEncode_of (sd : Bool) (w : World) (ek src seq vk vn : Int) (vs : ByteArray) (vla : Option Addr) (vll vlc : Nat) (voa : Option Addr) (vol voc : Nat) (oa : Option Addr) (ol oc : Nat) (vv : V) (l : List Cm) (hk0 : 0 ≤ ek) (hk1 : ek < 256) (hs0 : 0 ≤ src) (hs1 : src < 4294967296) (hq0 : 0 ≤ seq) (hq1 : seq < 4294967296) (hv : IsVal w w.heap.size vv ⟨vk, vn, vs, vla, vll, vlc, voa, vol, voc⟩) (ho : IsComps w w.heap.size l oa ol oc) (HS : Hid (∀ W, Below w.heap.size w W → Calls Tryd.prog 14 #[.agg #[.int .u8 ek, .int .u32 src, .int .u32 seq, .int .u8 vk, .int .i64 vn, .string vs, .slice vla vll vlc, .slice voa vol voc, .slice oa ol oc]] W fun e w' => e = .returned (.bool sd) ∧ Below W.heap.size W w')) (hsz : (encE ⟨ek, src, seq, vv, l⟩).length ≤ 70368744177664) :
    Calls Tryd.prog 26 #[.agg #[.int .u8 ek, .int .u32 src, .int .u32 seq, .int .u8 vk, .int .i64 vn, .string vs, .slice vla vll vlc, .slice voa vol voc, .slice oa ol oc]] w fun e w' => (∃ a n c, e = .returned (.tuple #[.slice a n c, .int .i64 (outN sd (encE ⟨ek, src, seq, vv, l⟩))]) ∧ IsB w' w'.heap.size a n c (outB sd (encE ⟨ek, src, seq, vv, l⟩))) ∧ Below w.heap.size w w' := by
  have bx := BX.start w #[.int .u8 ek, .int .u32 src, .int .u32 seq, .int .u8 vk, .int .i64 vn, .string vs, .slice vla vll vlc, .slice voa vol voc, .slice oa ol oc] 31
  have HV : Hid (∀ W, Below w.heap.size w W → IsVal W w.heap.size vv ⟨vk, vn, vs, vla, vll, vlc, voa, vol, voc⟩) := fun W hW => hv.keep hW
  have HO := Lib.hid ho
  have c1 := ho.cap; have c2 := ho.max; have c3 := ho.few
  have el := ho.len
  have ell : be ((ol : Int) % 18446744073709551616).toNat 4 = be l.length 4 := by rw [len_mod _ (by omega), el]
  have ELL := Lib.hid ell
  have EL := Lib.hid el
  clear ho hv ell el
  have u0 : IntKind.u64.wrap ek = ek := u64_id _ (by omega) (by omega)
  have u1 : IntKind.u64.wrap src = src := u64_id _ (by omega) (by omega)
  have u2 : IntKind.u64.wrap seq = seq := u64_id _ (by omega) (by omega)
  have u3 : IntKind.u64.wrap (ol : Int) = (ol : Int) := u64_id _ (by omega) (by omega)
  cases sd with
  | false =>
    have e1 : outN false (encE ⟨ek, src, seq, vv, l⟩) = 1 := rfl
    have e2 : outB false (encE ⟨ek, src, seq, vv, l⟩) = [] := rfl
    rw [e1, e2]
    clear e1 e2 hsz
    go_enter Tryd.func26, Tryd.ntmps26
    go_wp2_with (go_at_call 14; (with_reducible refine (HS.out _ ?_).mono ?_); (focus (have := bx.below; have := bx.size; go_grown)); rintro e w1 ⟨rfl, hb1⟩; replace bx := bx.next hb1 (by go_grown) rfl; have zs : w.heap.size < w1.heap.size := bx.size; have y0 := bx.at_ 0 _ rfl; have y1 := bx.at_ 1 _ rfl; have y2 := bx.at_ 2 _ rfl; have y3 := bx.at_ 3 _ rfl; have y4 := bx.at_ 4 _ rfl; have y5 := bx.at_ 5 _ rfl; have y6 := bx.at_ 6 _ rfl; have y7 := bx.at_ 7 _ rfl; have y8 := bx.at_ 8 _ rfl)
    go_returns
    exact ⟨⟨none, 0, 0, rfl, .nil _ _⟩, by have := bx.below; have := bx.size; go_grown⟩
  | true =>
    have he : encE ⟨ek, src, seq, vv, l⟩ = be (ek % 18446744073709551616).toNat 1 ++ be (src % 18446744073709551616).toNat 4 ++ be (seq % 18446744073709551616).toNat 4 ++ (if ek = 1 then encV vv else if ek = 2 then be l.length 4 ++ encCs l else []) := rfl
    rw [he] at hsz ⊢
    clear he
    by_cases e1 : ek = 1
    case pos =>
      subst e1
      rw [if_pos rfl] at hsz ⊢
      have hsz0 := hsz
      simp only [List.length_append, be_length] at hsz0
      by_cases hq : 60000 < (be ((1 : Int) % 18446744073709551616).toNat 1 ++ be (src % 18446744073709551616).toNat 4 ++ be (seq % 18446744073709551616).toNat 4 ++ encV vv).length
      · have e1 : outN true (be ((1 : Int) % 18446744073709551616).toNat 1 ++ be (src % 18446744073709551616).toNat 4 ++ be (seq % 18446744073709551616).toNat 4 ++ encV vv) = 3 := by simp only [outN, hq, if_true]
        have e2 : outB true (be ((1 : Int) % 18446744073709551616).toNat 1 ++ be (src % 18446744073709551616).toNat 4 ++ be (seq % 18446744073709551616).toNat 4 ++ encV vv) = [] := by simp only [outB, hq, if_true]
        rw [e1, e2]
        have HQ := Lib.hid hq
        clear e1 e2 hq
        go_enter Tryd.func26, Tryd.ntmps26
        go_wp2_with (first | (go_at_call 14; (with_reducible refine (HS.out _ ?_).mono ?_); (focus (have := bx.below; have := bx.size; go_grown)); rintro e w1 ⟨rfl, hb1⟩; replace bx := bx.next hb1 (by go_grown) rfl; have zs : w.heap.size < w1.heap.size := bx.size; have wx := WG.fresh bx 93; have H2 : Hid (Below w.heap.size w (w1.alloc (.cells #[.slice none 0 0] 93))) := Lib.hid (bx.below.alloc (Nat.le_of_lt zs) _); have H0 := Lib.hid wx.wrt; have hlt := bx.size; have b0 := bx.at_ 0 _ rfl; have b1 := bx.at_ 1 _ rfl; have b2 := bx.at_ 2 _ rfl; have b3 := bx.at_ 3 _ rfl; have b4 := bx.at_ 4 _ rfl; have b5 := bx.at_ 5 _ rfl; have b6 := bx.at_ 6 _ rfl; have b7 := bx.at_ 7 _ rfl; have b8 := bx.at_ 8 _ rfl; have y0 := wx.at_ 0 _ rfl; have y1 := wx.at_ 1 _ rfl; have y2 := wx.at_ 2 _ rfl; have y3 := wx.at_ 3 _ rfl; have y4 := wx.at_ 4 _ rfl; have y5 := wx.at_ 5 _ rfl; have y6 := wx.at_ 6 _ rfl; have y7 := wx.at_ 7 _ rfl; have y8 := wx.at_ 8 _ rfl) | (go_at_call 53; (with_reducible refine (number1_any _ ?_ ?_ _ w.heap.size w1.heap.size _ _ wx.wrt ?_).mono ?_); (focus omega); (focus omega); (focus ((first | omega | (simp only [List.length_nil]; omega) | (simp only [List.length_append]; omega) | (simp only [List.length_append, List.length_nil]; omega) | (simp only [List.length_append, be_length]; omega) | (simp only [List.length_append, be_length, List.length_nil]; omega)))); rintro e w2 ⟨rfl, v2, hr2, hs2⟩; replace wx := wx.next hr2 hs2; have y0 := wx.at_ 0 _ rfl; have y1 := wx.at_ 1 _ rfl; have y2 := wx.at_ 2 _ rfl; have y3 := wx.at_ 3 _ rfl; have y4 := wx.at_ 4 _ rfl; have y5 := wx.at_ 5 _ rfl; have y6 := wx.at_ 6 _ rfl; have y7 := wx.at_ 7 _ rfl; have y8 := wx.at_ 8 _ rfl) | (go_at_call 53; (with_reducible refine (number4_any _ ?_ ?_ _ w.heap.size w1.heap.size _ _ wx.wrt ?_).mono ?_); (focus omega); (focus omega); (focus ((first | omega | (simp only [List.length_nil]; omega) | (simp only [List.length_append]; omega) | (simp only [List.length_append, List.length_nil]; omega) | (simp only [List.length_append, be_length]; omega) | (simp only [List.length_append, be_length, List.length_nil]; omega)))); rintro e w2 ⟨rfl, v2, hr2, hs2⟩; replace wx := wx.next hr2 hs2; have y0 := wx.at_ 0 _ rfl; have y1 := wx.at_ 1 _ rfl; have y2 := wx.at_ 2 _ rfl; have y3 := wx.at_ 3 _ rfl; have y4 := wx.at_ 4 _ rfl; have y5 := wx.at_ 5 _ rfl; have y6 := wx.at_ 6 _ rfl; have y7 := wx.at_ 7 _ rfl; have y8 := wx.at_ 8 _ rfl) | (go_at_call 42; (with_reducible refine (refValueX_any vv vk vn vs vla vll vlc voa vol voc _ w.heap.size w1.heap.size _ _ wx.wrt (HV.out _ (H2.out.trans (H0.out.keeps wx.st))) ?_).mono ?_); (focus ((first | omega | (simp only [List.length_nil]; omega) | (simp only [List.length_append]; omega) | (simp only [List.length_append, List.length_nil]; omega) | (simp only [List.length_append, be_length]; omega) | (simp only [List.length_append, be_length, List.length_nil]; omega)))); rintro e w2 ⟨rfl, v2, hr2, hs2⟩; replace wx := wx.next hr2 hs2; have y0 := wx.at_ 0 _ rfl; have y1 := wx.at_ 1 _ rfl; have y2 := wx.at_ 2 _ rfl; have y3 := wx.at_ 3 _ rfl; have y4 := wx.at_ 4 _ rfl; have y5 := wx.at_ 5 _ rfl; have y6 := wx.at_ 6 _ rfl; have y7 := wx.at_ 7 _ rfl; have y8 := wx.at_ 8 _ rfl; obtain ⟨ra, rn, rc, rfl, hI⟩ := wx.wrt.isB; have hcc := wx.wrt.cell; have HI := Lib.hid hI; have hn2 : 60000 < rn := (by have := hI.len; have := HQ.out; simp only [List.length_append, List.length_nil] at *; omega); clear hI))
        go_returns
        exact ⟨⟨none, 0, 0, rfl, .nil _ _⟩, by exact H2.out.trans (H0.out.keeps wx.st)⟩
      · have e1 : outN true (be ((1 : Int) % 18446744073709551616).toNat 1 ++ be (src % 18446744073709551616).toNat 4 ++ be (seq % 18446744073709551616).toNat 4 ++ encV vv) = 0 := by simp only [outN, hq, if_true, if_false]
        have e2 : outB true (be ((1 : Int) % 18446744073709551616).toNat 1 ++ be (src % 18446744073709551616).toNat 4 ++ be (seq % 18446744073709551616).toNat 4 ++ encV vv) = be ((1 : Int) % 18446744073709551616).toNat 1 ++ be (src % 18446744073709551616).toNat 4 ++ be (seq % 18446744073709551616).toNat 4 ++ encV vv := by simp only [outB, hq, if_true, if_false]
        rw [e1, e2]
        have HQ := Lib.hid hq
        clear e1 e2 hq
        go_enter Tryd.func26, Tryd.ntmps26
        go_wp2_with (first | (go_at_call 14; (with_reducible refine (HS.out _ ?_).mono ?_); (focus (have := bx.below; have := bx.size; go_grown)); rintro e w1 ⟨rfl, hb1⟩; replace bx := bx.next hb1 (by go_grown) rfl; have zs : w.heap.size < w1.heap.size := bx.size; have wx := WG.fresh bx 93; have H2 : Hid (Below w.heap.size w (w1.alloc (.cells #[.slice none 0 0] 93))) := Lib.hid (bx.below.alloc (Nat.le_of_lt zs) _); have H0 := Lib.hid wx.wrt; have hlt := bx.size; have b0 := bx.at_ 0 _ rfl; have b1 := bx.at_ 1 _ rfl; have b2 := bx.at_ 2 _ rfl; have b3 := bx.at_ 3 _ rfl; have b4 := bx.at_ 4 _ rfl; have b5 := bx.at_ 5 _ rfl; have b6 := bx.at_ 6 _ rfl; have b7 := bx.at_ 7 _ rfl; have b8 := bx.at_ 8 _ rfl; have y0 := wx.at_ 0 _ rfl; have y1 := wx.at_ 1 _ rfl; have y2 := wx.at_ 2 _ rfl; have y3 := wx.at_ 3 _ rfl; have y4 := wx.at_ 4 _ rfl; have y5 := wx.at_ 5 _ rfl; have y6 := wx.at_ 6 _ rfl; have y7 := wx.at_ 7 _ rfl; have y8 := wx.at_ 8 _ rfl) | (go_at_call 53; (with_reducible refine (number1_any _ ?_ ?_ _ w.heap.size w1.heap.size _ _ wx.wrt ?_).mono ?_); (focus omega); (focus omega); (focus ((first | omega | (simp only [List.length_nil]; omega) | (simp only [List.length_append]; omega) | (simp only [List.length_append, List.length_nil]; omega) | (simp only [List.length_append, be_length]; omega) | (simp only [List.length_append, be_length, List.length_nil]; omega)))); rintro e w2 ⟨rfl, v2, hr2, hs2⟩; replace wx := wx.next hr2 hs2; have y0 := wx.at_ 0 _ rfl; have y1 := wx.at_ 1 _ rfl; have y2 := wx.at_ 2 _ rfl; have y3 := wx.at_ 3 _ rfl; have y4 := wx.at_ 4 _ rfl; have y5 := wx.at_ 5 _ rfl; have y6 := wx.at_ 6 _ rfl; have y7 := wx.at_ 7 _ rfl; have y8 := wx.at_ 8 _ rfl) | (go_at_call 53; (with_reducible refine (number4_any _ ?_ ?_ _ w.heap.size w1.heap.size _ _ wx.wrt ?_).mono ?_); (focus omega); (focus omega); (focus ((first | omega | (simp only [List.length_nil]; omega) | (simp only [List.length_append]; omega) | (simp only [List.length_append, List.length_nil]; omega) | (simp only [List.length_append, be_length]; omega) | (simp only [List.length_append, be_length, List.length_nil]; omega)))); rintro e w2 ⟨rfl, v2, hr2, hs2⟩; replace wx := wx.next hr2 hs2; have y0 := wx.at_ 0 _ rfl; have y1 := wx.at_ 1 _ rfl; have y2 := wx.at_ 2 _ rfl; have y3 := wx.at_ 3 _ rfl; have y4 := wx.at_ 4 _ rfl; have y5 := wx.at_ 5 _ rfl; have y6 := wx.at_ 6 _ rfl; have y7 := wx.at_ 7 _ rfl; have y8 := wx.at_ 8 _ rfl) | (go_at_call 42; (with_reducible refine (refValueX_any vv vk vn vs vla vll vlc voa vol voc _ w.heap.size w1.heap.size _ _ wx.wrt (HV.out _ (H2.out.trans (H0.out.keeps wx.st))) ?_).mono ?_); (focus ((first | omega | (simp only [List.length_nil]; omega) | (simp only [List.length_append]; omega) | (simp only [List.length_append, List.length_nil]; omega) | (simp only [List.length_append, be_length]; omega) | (simp only [List.length_append, be_length, List.length_nil]; omega)))); rintro e w2 ⟨rfl, v2, hr2, hs2⟩; replace wx := wx.next hr2 hs2; have y0 := wx.at_ 0 _ rfl; have y1 := wx.at_ 1 _ rfl; have y2 := wx.at_ 2 _ rfl; have y3 := wx.at_ 3 _ rfl; have y4 := wx.at_ 4 _ rfl; have y5 := wx.at_ 5 _ rfl; have y6 := wx.at_ 6 _ rfl; have y7 := wx.at_ 7 _ rfl; have y8 := wx.at_ 8 _ rfl; obtain ⟨ra, rn, rc, rfl, hI⟩ := wx.wrt.isB; have hcc := wx.wrt.cell; have HI := Lib.hid hI; have hn2 : ¬ 60000 < rn := (by have := hI.len; have := HQ.out; simp only [List.length_append, List.length_nil] at *; omega); clear hI))
        go_returns
        exact ⟨⟨ra, rn, rc, rfl, by have := HI.out; simpa using this⟩, by exact H2.out.trans (H0.out.keeps wx.st)⟩
    have f1 : (ek == 1) = false := by simp [e1]
    rw [if_neg e1] at hsz ⊢
    by_cases e2 : ek = 2
    case neg =>
      have f2 : (ek == 2) = false := by simp [e2]
      rw [if_neg e2] at hsz ⊢
      have hsz0 := hsz
      simp only [List.length_append, be_length, List.length_nil] at hsz0
      clear e1 e2
      by_cases hq : 60000 < (be (ek % 18446744073709551616).toNat 1 ++ be (src % 18446744073709551616).toNat 4 ++ be (seq % 18446744073709551616).toNat 4 ++ []).length
      · exfalso; simp only [List.length_append, be_length, List.length_nil] at hq; omega
      · have e1 : outN true (be (ek % 18446744073709551616).toNat 1 ++ be (src % 18446744073709551616).toNat 4 ++ be (seq % 18446744073709551616).toNat 4 ++ []) = 0 := by simp only [outN, hq, if_true, if_false]
        have e2 : outB true (be (ek % 18446744073709551616).toNat 1 ++ be (src % 18446744073709551616).toNat 4 ++ be (seq % 18446744073709551616).toNat 4 ++ []) = be (ek % 18446744073709551616).toNat 1 ++ be (src % 18446744073709551616).toNat 4 ++ be (seq % 18446744073709551616).toNat 4 ++ [] := by simp only [outB, hq, if_true, if_false]
        rw [e1, e2]
        have HQ := Lib.hid hq
        clear e1 e2 hq
        go_enter Tryd.func26, Tryd.ntmps26
        go_wp2_with (first | (go_at_call 14; (with_reducible refine (HS.out _ ?_).mono ?_); (focus (have := bx.below; have := bx.size; go_grown)); rintro e w1 ⟨rfl, hb1⟩; replace bx := bx.next hb1 (by go_grown) rfl; have zs : w.heap.size < w1.heap.size := bx.size; have wx := WG.fresh bx 93; have H2 : Hid (Below w.heap.size w (w1.alloc (.cells #[.slice none 0 0] 93))) := Lib.hid (bx.below.alloc (Nat.le_of_lt zs) _); have H0 := Lib.hid wx.wrt; have hlt := bx.size; have b0 := bx.at_ 0 _ rfl; have b1 := bx.at_ 1 _ rfl; have b2 := bx.at_ 2 _ rfl; have b3 := bx.at_ 3 _ rfl; have b4 := bx.at_ 4 _ rfl; have b5 := bx.at_ 5 _ rfl; have b6 := bx.at_ 6 _ rfl; have b7 := bx.at_ 7 _ rfl; have b8 := bx.at_ 8 _ rfl; have y0 := wx.at_ 0 _ rfl; have y1 := wx.at_ 1 _ rfl; have y2 := wx.at_ 2 _ rfl; have y3 := wx.at_ 3 _ rfl; have y4 := wx.at_ 4 _ rfl; have y5 := wx.at_ 5 _ rfl; have y6 := wx.at_ 6 _ rfl; have y7 := wx.at_ 7 _ rfl; have y8 := wx.at_ 8 _ rfl) | (go_at_call 53; (with_reducible refine (number1_any _ ?_ ?_ _ w.heap.size w1.heap.size _ _ wx.wrt ?_).mono ?_); (focus omega); (focus omega); (focus ((first | omega | (simp only [List.length_nil]; omega) | (simp only [List.length_append]; omega) | (simp only [List.length_append, List.length_nil]; omega) | (simp only [List.length_append, be_length]; omega) | (simp only [List.length_append, be_length, List.length_nil]; omega)))); rintro e w2 ⟨rfl, v2, hr2, hs2⟩; replace wx := wx.next hr2 hs2; have y0 := wx.at_ 0 _ rfl; have y1 := wx.at_ 1 _ rfl; have y2 := wx.at_ 2 _ rfl; have y3 := wx.at_ 3 _ rfl; have y4 := wx.at_ 4 _ rfl; have y5 := wx.at_ 5 _ rfl; have y6 := wx.at_ 6 _ rfl; have y7 := wx.at_ 7 _ rfl; have y8 := wx.at_ 8 _ rfl) | (go_at_call 53; (with_reducible refine (number4_any src ?_ ?_ _ w.heap.size w1.heap.size _ _ wx.wrt ?_).mono ?_); (focus omega); (focus omega); (focus ((first | omega | (simp only [List.length_nil]; omega) | (simp only [List.length_append]; omega) | (simp only [List.length_append, List.length_nil]; omega) | (simp only [List.length_append, be_length]; omega) | (simp only [List.length_append, be_length, List.length_nil]; omega)))); rintro e w2 ⟨rfl, v2, hr2, hs2⟩; replace wx := wx.next hr2 hs2; have y0 := wx.at_ 0 _ rfl; have y1 := wx.at_ 1 _ rfl; have y2 := wx.at_ 2 _ rfl; have y3 := wx.at_ 3 _ rfl; have y4 := wx.at_ 4 _ rfl; have y5 := wx.at_ 5 _ rfl; have y6 := wx.at_ 6 _ rfl; have y7 := wx.at_ 7 _ rfl; have y8 := wx.at_ 8 _ rfl) | (go_at_call 53; (with_reducible refine (number4_any seq ?_ ?_ _ w.heap.size w1.heap.size _ _ wx.wrt ?_).mono ?_); (focus omega); (focus omega); (focus ((first | omega | (simp only [List.length_nil]; omega) | (simp only [List.length_append]; omega) | (simp only [List.length_append, List.length_nil]; omega) | (simp only [List.length_append, be_length]; omega) | (simp only [List.length_append, be_length, List.length_nil]; omega)))); rintro e w2 ⟨rfl, v2, hr2, hs2⟩; replace wx := wx.next hr2 hs2; have y0 := wx.at_ 0 _ rfl; have y1 := wx.at_ 1 _ rfl; have y2 := wx.at_ 2 _ rfl; have y3 := wx.at_ 3 _ rfl; have y4 := wx.at_ 4 _ rfl; have y5 := wx.at_ 5 _ rfl; have y6 := wx.at_ 6 _ rfl; have y7 := wx.at_ 7 _ rfl; have y8 := wx.at_ 8 _ rfl; obtain ⟨ra, rn, rc, rfl, hI⟩ := wx.wrt.isB; have hcc := wx.wrt.cell; have HI := Lib.hid hI; have hn2 : ¬ 60000 < rn := (by have := hI.len; have := HQ.out; simp only [List.length_append, List.length_nil] at *; omega); clear hI))
        go_returns
        exact ⟨⟨ra, rn, rc, rfl, by have := HI.out; simpa using this⟩, by exact H2.out.trans (H0.out.keeps wx.st)⟩
    case pos =>
      subst e2
      rw [if_pos rfl] at hsz ⊢
      have hsz0 := hsz
      simp only [List.length_append, be_length] at hsz0
      clear e1
      go_enter Tryd.func26, Tryd.ntmps26
      go_wp2_with (first | (go_at_call 14; (with_reducible refine (HS.out _ ?_).mono ?_); (focus (have := bx.below; have := bx.size; go_grown)); rintro e w1 ⟨rfl, hb1⟩; replace bx := bx.next hb1 (by go_grown) rfl; have zs : w.heap.size < w1.heap.size := bx.size; have wx := WG.fresh bx 93; have H2 : Hid (Below w.heap.size w (w1.alloc (.cells #[.slice none 0 0] 93))) := Lib.hid (bx.below.alloc (Nat.le_of_lt zs) _); have H0 := Lib.hid wx.wrt; have hlt := bx.size; have b0 := bx.at_ 0 _ rfl; have b1 := bx.at_ 1 _ rfl; have b2 := bx.at_ 2 _ rfl; have b3 := bx.at_ 3 _ rfl; have b4 := bx.at_ 4 _ rfl; have b5 := bx.at_ 5 _ rfl; have b6 := bx.at_ 6 _ rfl; have b7 := bx.at_ 7 _ rfl; have b8 := bx.at_ 8 _ rfl; have y0 := wx.at_ 0 _ rfl; have y1 := wx.at_ 1 _ rfl; have y2 := wx.at_ 2 _ rfl; have y3 := wx.at_ 3 _ rfl; have y4 := wx.at_ 4 _ rfl; have y5 := wx.at_ 5 _ rfl; have y6 := wx.at_ 6 _ rfl; have y7 := wx.at_ 7 _ rfl; have y8 := wx.at_ 8 _ rfl) | (go_at_call 53; (with_reducible refine (number1_any _ ?_ ?_ _ w.heap.size w1.heap.size _ _ wx.wrt ?_).mono ?_); (focus omega); (focus omega); (focus ((first | omega | (simp only [List.length_nil]; omega) | (simp only [List.length_append]; omega) | (simp only [List.length_append, List.length_nil]; omega) | (simp only [List.length_append, be_length]; omega) | (simp only [List.length_append, be_length, List.length_nil]; omega)))); rintro e w2 ⟨rfl, v2, hr2, hs2⟩; replace wx := wx.next hr2 hs2; have y0 := wx.at_ 0 _ rfl; have y1 := wx.at_ 1 _ rfl; have y2 := wx.at_ 2 _ rfl; have y3 := wx.at_ 3 _ rfl; have y4 := wx.at_ 4 _ rfl; have y5 := wx.at_ 5 _ rfl; have y6 := wx.at_ 6 _ rfl; have y7 := wx.at_ 7 _ rfl; have y8 := wx.at_ 8 _ rfl) | (go_at_call 53; (with_reducible refine (number4_any _ ?_ ?_ _ w.heap.size w1.heap.size _ _ wx.wrt ?_).mono ?_); (focus omega); (focus omega); (focus ((first | omega | (simp only [List.length_nil]; omega) | (simp only [List.length_append]; omega) | (simp only [List.length_append, List.length_nil]; omega) | (simp only [List.length_append, be_length]; omega) | (simp only [List.length_append, be_length, List.length_nil]; omega)))); rintro e w2 ⟨rfl, v2, hr2, hs2⟩; replace wx := wx.next hr2 hs2; have y0 := wx.at_ 0 _ rfl; have y1 := wx.at_ 1 _ rfl; have y2 := wx.at_ 2 _ rfl; have y3 := wx.at_ 3 _ rfl; have y4 := wx.at_ 4 _ rfl; have y5 := wx.at_ 5 _ rfl; have y6 := wx.at_ 6 _ rfl; have y7 := wx.at_ 7 _ rfl; have y8 := wx.at_ 8 _ rfl))
      obtain ⟨PRE, hPRE⟩ : ∃ PRE, [] ++ be ((2 : Int) % 18446744073709551616).toNat 1 ++ be (src % 18446744073709551616).toNat 4 ++ be (seq % 18446744073709551616).toNat 4 ++ be ((ol : Int) % 18446744073709551616).toNat 4 = PRE := ⟨_, rfl⟩
      rw [hPRE] at wx
      have hPL : PRE.length + (encCs l).length ≤ 140737488355328 := by rw [← hPRE]; simp only [List.length_append, be_length, List.length_nil]; omega
      have hPE : be ((2 : Int) % 18446744073709551616).toNat 1 ++ be (src % 18446744073709551616).toNat 4 ++ be (seq % 18446744073709551616).toNat 4 ++ (be l.length 4 ++ encCs l) = PRE ++ encCs l := by rw [← hPRE, ELL.out]; simp only [List.append_assoc, List.nil_append]
      rw [hPE] at hsz
      have HPE := Lib.hid hPE
      have hlt := bx.size
      have hwl : w1.heap.size < (w1.alloc (.cells #[.slice none 0 0] 93)).heap.size := by simp
      obtain ⟨W0, hW0⟩ : ∃ W0, w1.alloc (.cells #[.slice none 0 0] 93) = W0 := ⟨_, rfl⟩
      rw [hW0] at wx H2 H0 hwl
      clear hr2 hs2 hPRE hPE y0 b0 y1 b1 y2 b2 y3 b3 y4 b4 y5 b5 y6 b6 y7 b7 y8 b8
      go_loopw [6] (fun ii wr => ∃ (k : Nat) (u : Value), k ≤ ol ∧ ii = .int .i64 k ∧ WG W0 wr w.heap.size w1.heap.size w.heap.size (.slice none 0 0) u (PRE ++ encCs (l.take k)) [.int .u8 2, .int .u32 src, .int .u32 seq, .int .u8 vk, .int .i64 vn, .string vs, .slice vla vll vlc, .slice voa vol voc, .slice oa ol oc]) (fun ii _ => ol - (intOf ii).toNat)
      case atStart => exact ⟨0, v2, Nat.zero_le _, rfl, by simpa [encCs] using wx⟩
      case round =>
        clear wx
        obtain ⟨k, u, hk, rfl, wx⟩ := hrel
        have y0 := wx.at_ 0 _ rfl; have y1 := wx.at_ 1 _ rfl; have y2 := wx.at_ 2 _ rfl; have y3 := wx.at_ 3 _ rfl; have y4 := wx.at_ 4 _ rfl; have y5 := wx.at_ 5 _ rfl; have y6 := wx.at_ 6 _ rfl; have y7 := wx.at_ 7 _ rfl; have y8 := wx.at_ 8 _ rfl
        by_cases hlt2 : k < ol
        · obtain ⟨b, o', f, kl, rfl, hb, x1, xb⟩ := HO.out.get hlt2
          have hbW : Below w.heap.size w wr := H2.out.trans (H0.out.keeps wx.st)
          have x1 := x1.keep hbW hb
          have r0 := x1.c0; have r1 := x1.c1; have r2 := x1.c2; have r3 := x1.c3; have r4 := x1.c4; have r5 := x1.c5; have r6 := x1.c6.c0
          have r7 : wr.cell? ⟨b, o' + k * 12 + 7, none⟩ = _ := x1.c6.c1; have r8 : wr.cell? ⟨b, o' + k * 12 + 8, none⟩ = _ := x1.c6.c2; have r9 : wr.cell? ⟨b, o' + k * 12 + 9, none⟩ = _ := x1.c6.c3; have r10 : wr.cell? ⟨b, o' + k * 12 + 10, none⟩ = _ := x1.c6.c4; have r11 := x1.c11
          have hle := encCs_le l (k + 1)
          have ht := encCs_take l k kl
          have hlen : (PRE ++ encCs (l.take k)).length + (encC l[k]).length ≤ 140737488355328 := by
            rw [ht, List.length_append] at hle; rw [List.length_append]; omega
          have HI : Hid (∀ W, Below wr.heap.size wr W → Calls Tryd.prog 54 #[.pointer (some ⟨w1.heap.size, 0, none⟩), .agg #[.int .u8 f.k, .slice f.pa f.pl f.pc, .string f.key, .int .i64 f.i, .int .i64 f.j, .int .i64 f.n, .int .u8 f.v.k, .int .i64 f.v.n, .string f.v.s, .slice f.v.la f.v.ll f.v.lc, .slice f.v.oa f.v.ol f.v.oc, .string f.s]] W fun e w' => e = .returned (.tuple #[]) ∧ ∃ v', Wr w' w.heap.size w1.heap.size v' (PRE ++ encCs (l.take (k + 1))) ∧ WStep W w' w1.heap.size u v') := by
            intro W hW
            have hBw : w.heap.size ≤ wr.heap.size := hbW.size
            have := refCompW_any l[k] W w.heap.size w1.heap.size u _ f (wx.wrt.of_below hW) (xb.keep (hbW.trans (hW.mono hBw))) hlen
            rw [ht, ← List.append_assoc]; exact this
          clear x1 hle ht hlen xb hbW
          go_wp2_with (go_at_call 54; refine (HI.out _ (by go_grown)).mono ?_; rintro e w2 ⟨rfl, v3, hr3, hs3⟩)
          go_roundw
          case rel => exact ⟨k + 1, v3, by omega, by go_num, (wx.behind (by go_grown)).next hr3 hs3⟩
          case measure => simp [intOf]; omega
        · have hk2 : k = ol := by omega
          have hq := wx.eqb (bs' := PRE ++ encCs l) (by rw [List.take_of_length_le (by have := EL.out; omega)])
          clear wx
          have wx := hq
          clear hq
          have hWt := wx.wrt
          obtain ⟨ra, rn, rc, rfl, hI⟩ := hWt.isB
          have hcc := hWt.cell
          have hn := hI.len
          have HI := Lib.hid hI
          have HWX := Lib.hid wx
          by_cases hq : 60000 < (PRE ++ encCs l).length
          · have e1 : outN true (PRE ++ encCs l) = 3 := by simp only [outN, hq, if_true]
            have e2 : outB true (PRE ++ encCs l) = [] := by simp only [outB, hq, if_true]
            have E1 := Lib.hid e1
            have E2 := Lib.hid e2
            have hn2 : 60000 < rn := by omega
            clear e1 e2 hI hWt wx hn hq
            go_wp2_with fail
            go_returns
            rw [HPE.out, E1.out, E2.out]
            exact ⟨⟨none, 0, 0, rfl, .nil _ _⟩, by exact H2.out.trans (H0.out.keeps HWX.out.st)⟩
          · have e1 : outN true (PRE ++ encCs l) = 0 := by simp only [outN, hq, if_true, if_false]
            have e2 : outB true (PRE ++ encCs l) = PRE ++ encCs l := by simp only [outB, hq, if_true, if_false]
            have E1 := Lib.hid e1
            have E2 := Lib.hid e2
            have hn2 : ¬ 60000 < rn := by omega
            clear e1 e2 hI hWt wx hn hq
            go_wp2_with fail
            go_returns
            rw [HPE.out, E1.out, E2.out]
            exact ⟨⟨ra, rn, rc, rfl, HI.out⟩, by exact H2.out.trans (H0.out.keeps HWX.out.st)⟩
end Go.Proofs.YtcfbnmobfcabiaaDoor
namespace Go.Proofs.YtcfbnmobfcabiaaDoor
open Go.RowKit
/-- The result's cells, then the reader's. -/
structure DB (w W : World) (s : RS) (cs : List Value) : Prop where
  rr : RR W (w.heap.size + 1) s
  res : BC W w.heap.size cs
  below : Below w.heap.size w W
  size : w.heap.size + 2 ≤ W.heap.size
theorem DB.start (w : World) (bs : List UInt8) (a : Option Addr) (n c : Nat) (h : IsB w w.heap.size a n c bs) (cs : Array Value) (t1 t2 : TypeId) : DB w ((w.alloc (.cells cs t1)).alloc (.cells #[.slice a n c, .bool false] t2)) (bs, false) cs.toList := by
  obtain ⟨w1, hw1⟩ : ∃ w1, w.alloc (.cells cs t1) = w1 := ⟨_, rfl⟩
  have s1 : w1.heap.size = w.heap.size + 1 := by rw [← hw1, World.size_alloc]
  have b1 : Below w.heap.size w w1 := by rw [← hw1]; exact (Below.refl _ _).alloc (Nat.le_refl _) _
  have c1 : BC w1 w.heap.size cs.toList := by rw [← hw1]; exact BC.start w cs t1
  rw [hw1]
  have b2 : Below w1.heap.size w1 (w1.alloc (.cells #[.slice a n c, .bool false] t2)) := (Below.refl _ _).alloc (Nat.le_refl _) _
  have hB : Below w.heap.size w (w1.alloc (.cells #[.slice a n c, .bool false] t2)) := b1.trans (b2.mono (by omega))
  refine ⟨⟨⟨a, n, c, ?_, (h.keep hB).more (by omega)⟩, ?_, ?_, ?_⟩, c1.keep b2 (by omega), hB, by rw [World.size_alloc, s1]; omega⟩
  · rw [← s1]; exact cells_new w1 _ t2 0 _ rfl
  · rw [← s1]; exact cells_new w1 _ t2 1 _ rfl
  · rw [← s1]; exact frozen_new w1 _ t2 0
  · rw [← s1]; exact frozen_new w1 _ t2 1
theorem DB.next {w W W' : World} {s s' : RS} {cs : List Value} (h : DB w W s cs) (hs : RStep W W' (w.heap.size + 1)) (hR : RR W' (w.heap.size + 1) s') : DB w W' s' cs :=
  ⟨hR, h.res.next hs (by omega), h.below.trans ((hs.below (by have := h.size; omega)).mono (by omega)), Nat.le_trans h.size hs.size⟩
theorem DB.behind {w W W' : World} {s : RS} {cs : List Value} (h : DB w W s cs) (hb : Below W.heap.size W W') : DB w W' s cs :=
  h.next (.of_below _ hb) (h.rr.of_below hb)
theorem DB.set {w W : World} {s : RS} {cs : List Value} {b o : Nat} {x : Value} (h : DB w W s cs) (hb : w.heap.size + 1 < b) : DB w (W.setCell ⟨b, o, none⟩ x) s cs :=
  ⟨h.rr.setNew hb, h.res.far (by omega), h.below.trans ⟨rfl, rfl, rfl, by simp, fun k hk => heap_setCell_other _ _ _ _ (show k ≠ b by omega)⟩, by simpa using h.size⟩
theorem refEncode_e (sd : Bool) (w : World) (c : EC) (x : En) (hx : IsEntry w w.heap.size x c) (HS : Hid (∀ W, Below w.heap.size w W → Calls Tryd.prog 14 #[.agg #[.int .u8 c.k, .int .u32 c.src, .int .u32 c.seq, .int .u8 c.v.k, .int .i64 c.v.n, .string c.v.s, .slice c.v.la c.v.ll c.v.lc, .slice c.v.oa c.v.ol c.v.oc, .slice c.oa c.ol c.oc]] W fun e w' => e = .returned (.bool sd) ∧ Below W.heap.size W w')) (hsz : (encE x).length ≤ 70368744177664) :
    Calls Tryd.prog 26 #[.agg #[.int .u8 c.k, .int .u32 c.src, .int .u32 c.seq, .int .u8 c.v.k, .int .i64 c.v.n, .string c.v.s, .slice c.v.la c.v.ll c.v.lc, .slice c.v.oa c.v.ol c.v.oc, .slice c.oa c.ol c.oc]] w fun e w' => (∃ a n cc, e = .returned (.tuple #[.slice a n cc, .int .i64 (outN sd (encE x))]) ∧ IsB w' w'.heap.size a n cc (outB sd (encE x))) ∧ Below w.heap.size w w' := by
  cases hx with
  | mk c v l hb hv ho =>
    obtain ⟨k, src, seq, ⟨vk, vn, vs, vla, vll, vlc, voa, vol, voc⟩, oa, ol, oc⟩ := c
    exact refEncode_of sd w k src seq vk vn vs vla vll vlc voa vol voc oa ol oc v l hb.k0 hb.k1 hb.s0 hb.s1 hb.q0 hb.q1 hv ho HS hsz
theorem refValue_v (sd : Bool) (w : World) (c : VC) (x : V) (hx : IsVal w w.heap.size x c) (HS : Hid (∀ W, Below w.heap.size w W → Calls Tryd.prog 37 #[.agg #[.int .u8 c.k, .int .i64 c.n, .string c.s, .slice c.la c.ll c.lc, .slice c.oa c.ol c.oc]] W fun e w' => e = .returned (.bool sd) ∧ Below W.heap.size W w')) (hsz : (encV x).length ≤ 70368744177664) :
    Calls Tryd.prog 18 #[.agg #[.int .u8 c.k, .int .i64 c.n, .string c.s, .slice c.la c.ll c.lc, .slice c.oa c.ol c.oc]] w fun e w' => (∃ a n cc, e = .returned (.tuple #[.slice a n cc, .int .i64 (outN sd (encV x))]) ∧ IsB w' w'.heap.size a n cc (outB sd (encV x))) ∧ Below w.heap.size w w' :=
  refValue_of sd w c.k c.n c.s c.la c.ll c.lc c.oa c.ol c.oc x hx HS hsz
def DVPost (w : World) (v : V) (e : Int) (ee : Ending) (w' : World) : Prop :=
  (∃ c : VC, ee = .returned (.tuple #[.agg #[.int .u8 c.k, .int .i64 c.n, .string c.s, .slice c.la c.ll c.lc, .slice c.oa c.ol c.oc], .int .i64 e]) ∧ IsVal w' w'.heap.size v c) ∧ Below w.heap.size w w'
theorem results_dV {tmps : Array Value} {W : World} {b : Nat} {c : VC} {x : Value} (ht : tmps[2]? = some (.pointer (some ⟨b, 0, none⟩))) (ht' : tmps[3]? = some x) (h : BC W b [.int .u8 c.k, .int .i64 c.n, .string c.s, .slice c.la c.ll c.lc, .slice c.oa c.ol c.oc]) :
    (results Tryd.f10 tmps).run Tryd.prog W = .ok (.tuple #[.agg #[.int .u8 c.k, .int .i64 c.n, .string c.s, .slice c.la c.ll c.lc, .slice c.oa c.ol c.oc], x]) W := by
  have r0 := h.at_ 0 _ rfl; have r1 := h.at_ 1 _ rfl; have r2 := h.at_ 2 _ rfl; have r3 := h.at_ 3 _ rfl; have r4 := h.at_ 4 _ rfl
  simp [results, Tryd.results10, go_sem, ht, ht', r0, r1, r2, r3, r4]
theorem dV_leave {w W : World} {c : VC} {v : V} {e : Int} {a : Act} (h : BC W w.heap.size [.int .u8 c.k, .int .i64 c.n, .string c.s, .slice c.la c.ll c.lc, .slice c.oa c.ol c.oc]) (hb : Below w.heap.size w W) (hv : IsVal W W.heap.size v c) (hd : a.defers = []) (ht : a.tmps[2]? = some (.pointer (some ⟨w.heap.size, 0, none⟩))) (ht' : a.tmps[3]? = some (.int .i64 e)) :
    bodyPost Tryd.prog Tryd.f10 (DVPost w v e) .ret a W :=
  ⟨hd, _, results_dV ht ht' h, ⟨c, rfl, hv⟩, hb⟩
theorem dV_stored {w W : World} {s : RS} {z0 z1 z2 z3 z4 : Value} (h : DB w W s [z0, z1, z2, z3, z4]) (c : VC) : BC ((((((W.setCell ⟨w.heap.size, 0, none⟩ (.int .u8 c.k)).setCell ⟨w.heap.size, 1, none⟩ (.int .i64 c.n)).setCell ⟨w.heap.size, 2, none⟩ (.string c.s)).setCell ⟨w.heap.size, 3, none⟩ (.slice c.la c.ll c.lc)).setCell ⟨w.heap.size, 4, none⟩ (.slice c.oa c.ol c.oc))) w.heap.size [.int .u8 c.k, .int .i64 c.n, .string c.s, .slice c.la c.ll c.lc, .slice c.oa c.ol c.oc] ∧ Below w.heap.size w ((((((W.setCell ⟨w.heap.size, 0, none⟩ (.int .u8 c.k)).setCell ⟨w.heap.size, 1, none⟩ (.int .i64 c.n)).setCell ⟨w.heap.size, 2, none⟩ (.string c.s)).setCell ⟨w.heap.size, 3, none⟩ (.slice c.la c.ll c.lc)).setCell ⟨w.heap.size, 4, none⟩ (.slice c.oa c.ol c.oc))) ∧ RStep W ((((((W.setCell ⟨w.heap.size, 0, none⟩ (.int .u8 c.k)).setCell ⟨w.heap.size, 1, none⟩ (.int .i64 c.n)).setCell ⟨w.heap.size, 2, none⟩ (.string c.s)).setCell ⟨w.heap.size, 3, none⟩ (.slice c.la c.ll c.lc)).setCell ⟨w.heap.size, 4, none⟩ (.slice c.oa c.ol c.oc))) w.heap.size := by
  have s1 : RStep W ((((((W.setCell ⟨w.heap.size, 0, none⟩ (.int .u8 c.k)).setCell ⟨w.heap.size, 1, none⟩ (.int .i64 c.n)).setCell ⟨w.heap.size, 2, none⟩ (.string c.s)).setCell ⟨w.heap.size, 3, none⟩ (.slice c.la c.ll c.lc)).setCell ⟨w.heap.size, 4, none⟩ (.slice c.oa c.ol c.oc))) w.heap.size := (((RStep.self.trans RStep.self).trans RStep.self).trans RStep.self).trans RStep.self
  exact ⟨(((((h.res.set (i := 0) (x := .int .u8 c.k) (by simp)).set (i := 1) (x := .int .i64 c.n) (by simp)).set (i := 2) (x := .string c.s) (by simp)).set (i := 3) (x := .slice c.la c.ll c.lc) (by simp)).set (i := 4) (x := .slice c.oa c.ol c.oc) (by simp)), h.below.trans (s1.below (by have := h.size; omega)), s1⟩
def DEPost (w : World) (v : En) (e : Int) (ee : Ending) (w' : World) : Prop :=
  (∃ c : EC, ee = .returned (.tuple #[.agg #[.int .u8 c.k, .int .u32 c.src, .int .u32 c.seq, .int .u8 c.v.k, .int .i64 c.v.n, .string c.v.s, .slice c.v.la c.v.ll c.v.lc, .slice c.v.oa c.v.ol c.v.oc, .slice c.oa c.ol c.oc], .int .i64 e]) ∧ IsEntry w' w'.heap.size v c) ∧ Below w.heap.size w w'
theorem results_dE {tmps : Array Value} {W : World} {b : Nat} {c : EC} {x : Value} (ht : tmps[2]? = some (.pointer (some ⟨b, 0, none⟩))) (ht' : tmps[3]? = some x) (h : BC W b [.int .u8 c.k, .int .u32 c.src, .int .u32 c.seq, .int .u8 c.v.k, .int .i64 c.v.n, .string c.v.s, .slice c.v.la c.v.ll c.v.lc, .slice c.v.oa c.v.ol c.v.oc, .slice c.oa c.ol c.oc]) :
    (results Tryd.f8 tmps).run Tryd.prog W = .ok (.tuple #[.agg #[.int .u8 c.k, .int .u32 c.src, .int .u32 c.seq, .int .u8 c.v.k, .int .i64 c.v.n, .string c.v.s, .slice c.v.la c.v.ll c.v.lc, .slice c.v.oa c.v.ol c.v.oc, .slice c.oa c.ol c.oc], x]) W := by
  have r0 := h.at_ 0 _ rfl; have r1 := h.at_ 1 _ rfl; have r2 := h.at_ 2 _ rfl; have r3 := h.at_ 3 _ rfl; have r4 := h.at_ 4 _ rfl; have r5 := h.at_ 5 _ rfl; have r6 := h.at_ 6 _ rfl; have r7 := h.at_ 7 _ rfl; have r8 := h.at_ 8 _ rfl
  simp [results, Tryd.results8, go_sem, ht, ht', r0, r1, r2, r3, r4, r5, r6, r7, r8]
theorem dE_leave {w W : World} {c : EC} {v : En} {e : Int} {a : Act} (h : BC W w.heap.size [.int .u8 c.k, .int .u32 c.src, .int .u32 c.seq, .int .u8 c.v.k, .int .i64 c.v.n, .string c.v.s, .slice c.v.la c.v.ll c.v.lc, .slice c.v.oa c.v.ol c.v.oc, .slice c.oa c.ol c.oc]) (hb : Below w.heap.size w W) (hv : IsEntry W W.heap.size v c) (hd : a.defers = []) (ht : a.tmps[2]? = some (.pointer (some ⟨w.heap.size, 0, none⟩))) (ht' : a.tmps[3]? = some (.int .i64 e)) :
    bodyPost Tryd.prog Tryd.f8 (DEPost w v e) .ret a W :=
  ⟨hd, _, results_dE ht ht' h, ⟨c, rfl, hv⟩, hb⟩
theorem dE_stored {w W : World} {s : RS} {z0 z1 z2 z3 z4 z5 z6 z7 z8 : Value} (h : DB w W s [z0, z1, z2, z3, z4, z5, z6, z7, z8]) (c : EC) : BC ((((((((((W.setCell ⟨w.heap.size, 0, none⟩ (.int .u8 c.k)).setCell ⟨w.heap.size, 1, none⟩ (.int .u32 c.src)).setCell ⟨w.heap.size, 2, none⟩ (.int .u32 c.seq)).setCell ⟨w.heap.size, 3, none⟩ (.int .u8 c.v.k)).setCell ⟨w.heap.size, 4, none⟩ (.int .i64 c.v.n)).setCell ⟨w.heap.size, 5, none⟩ (.string c.v.s)).setCell ⟨w.heap.size, 6, none⟩ (.slice c.v.la c.v.ll c.v.lc)).setCell ⟨w.heap.size, 7, none⟩ (.slice c.v.oa c.v.ol c.v.oc)).setCell ⟨w.heap.size, 8, none⟩ (.slice c.oa c.ol c.oc))) w.heap.size [.int .u8 c.k, .int .u32 c.src, .int .u32 c.seq, .int .u8 c.v.k, .int .i64 c.v.n, .string c.v.s, .slice c.v.la c.v.ll c.v.lc, .slice c.v.oa c.v.ol c.v.oc, .slice c.oa c.ol c.oc] ∧ Below w.heap.size w ((((((((((W.setCell ⟨w.heap.size, 0, none⟩ (.int .u8 c.k)).setCell ⟨w.heap.size, 1, none⟩ (.int .u32 c.src)).setCell ⟨w.heap.size, 2, none⟩ (.int .u32 c.seq)).setCell ⟨w.heap.size, 3, none⟩ (.int .u8 c.v.k)).setCell ⟨w.heap.size, 4, none⟩ (.int .i64 c.v.n)).setCell ⟨w.heap.size, 5, none⟩ (.string c.v.s)).setCell ⟨w.heap.size, 6, none⟩ (.slice c.v.la c.v.ll c.v.lc)).setCell ⟨w.heap.size, 7, none⟩ (.slice c.v.oa c.v.ol c.v.oc)).setCell ⟨w.heap.size, 8, none⟩ (.slice c.oa c.ol c.oc))) ∧ RStep W ((((((((((W.setCell ⟨w.heap.size, 0, none⟩ (.int .u8 c.k)).setCell ⟨w.heap.size, 1, none⟩ (.int .u32 c.src)).setCell ⟨w.heap.size, 2, none⟩ (.int .u32 c.seq)).setCell ⟨w.heap.size, 3, none⟩ (.int .u8 c.v.k)).setCell ⟨w.heap.size, 4, none⟩ (.int .i64 c.v.n)).setCell ⟨w.heap.size, 5, none⟩ (.string c.v.s)).setCell ⟨w.heap.size, 6, none⟩ (.slice c.v.la c.v.ll c.v.lc)).setCell ⟨w.heap.size, 7, none⟩ (.slice c.v.oa c.v.ol c.v.oc)).setCell ⟨w.heap.size, 8, none⟩ (.slice c.oa c.ol c.oc))) w.heap.size := by
  have s1 : RStep W ((((((((((W.setCell ⟨w.heap.size, 0, none⟩ (.int .u8 c.k)).setCell ⟨w.heap.size, 1, none⟩ (.int .u32 c.src)).setCell ⟨w.heap.size, 2, none⟩ (.int .u32 c.seq)).setCell ⟨w.heap.size, 3, none⟩ (.int .u8 c.v.k)).setCell ⟨w.heap.size, 4, none⟩ (.int .i64 c.v.n)).setCell ⟨w.heap.size, 5, none⟩ (.string c.v.s)).setCell ⟨w.heap.size, 6, none⟩ (.slice c.v.la c.v.ll c.v.lc)).setCell ⟨w.heap.size, 7, none⟩ (.slice c.v.oa c.v.ol c.v.oc)).setCell ⟨w.heap.size, 8, none⟩ (.slice c.oa c.ol c.oc))) w.heap.size := (((((((RStep.self.trans RStep.self).trans RStep.self).trans RStep.self).trans RStep.self).trans RStep.self).trans RStep.self).trans RStep.self).trans RStep.self
  exact ⟨(((((((((h.res.set (i := 0) (x := .int .u8 c.k) (by simp)).set (i := 1) (x := .int .u32 c.src) (by simp)).set (i := 2) (x := .int .u32 c.seq) (by simp)).set (i := 3) (x := .int .u8 c.v.k) (by simp)).set (i := 4) (x := .int .i64 c.v.n) (by simp)).set (i := 5) (x := .string c.v.s) (by simp)).set (i := 6) (x := .slice c.v.la c.v.ll c.v.lc) (by simp)).set (i := 7) (x := .slice c.v.oa c.v.ol c.v.oc) (by simp)).set (i := 8) (x := .slice c.oa c.ol c.oc) (by simp)), h.below.trans (s1.below (by have := h.size; omega)), s1⟩
end Go.Proofs.YtcfbnmobfcabiaaDoor
namespace Go.Proofs.YtcfbnmobfcabiaaDoor
open Go.RowKit
/-- What a kind says, read. -/
def fRest (kd : Int) (p : List St) (s : RS) : Cm × RS :=
  fB (fIf (hasB (saysB kd) 75) .empty fT s) fun key s => fB (fIf (hasB (saysB kd) 73) 0 fI s) fun i s => fB (fIf (hasB (saysB kd) 74) 0 fI s) fun j s =>
  fB (fIf (hasB (saysB kd) 78) 0 fI s) fun m s => fB (fIf (hasB (saysB kd) 86) V.none (fV 18) s) fun v s => fB (fIf (hasB (saysB kd) 83) .empty fT s) fun t s =>
  (⟨kd, p, key, i, j, m, v, t⟩, s)
theorem fC_eq (s : RS) : fC s = fRest (fN 1 s).1 (fL fS (fM 1 (fN 1 s).2).1 (fM 1 (fN 1 s).2).2).1 (fL fS (fM 1 (fN 1 s).2).1 (fM 1 (fN 1 s).2).2).2 := rfl
theorem fS_bnd {s s' : RS} {x : St} (h : fS s = (x, s')) : x.Bnd := by
  unfold fS at h
  split at h
  · injection h with h1 h2; subst h1
    exact ⟨i64_lo _, i64_hi _, (by decide : ByteArray.empty.size ≤ 140737488355328)⟩
  · injection h with h1 h2; subst h1
    exact ⟨(by decide : (-9223372036854775808 : Int) ≤ 0), (by decide : (0 : Int) ≤ 9223372036854775807), fT_size _⟩
/-- At the head of a round of the path's loop; sc: what is left now. -/
structure QP (w wr : World) (rb cb : Nat) (kd : Nat) (s0 : RS) (j : Nat) (a : Option Addr) (m c : Nat) (xs : List St) (sj sc : RS) : Prop where
  rd : fL fS j s0 = (xs, sj)
  len : xs.length = j
  bnd : ∀ s ∈ xs, s.Bnd
  box : QB w wr rb sc (ccells czero)
  vb_ : BC wr cb (ccells ⟨kd, a, m, c, .empty, 0, 0, 0, vzero, .empty⟩)
  row : RowS wr (cb + 1) (.slice a m c) xs
  lo : w.heap.size + 1 ≤ cb
theorem QP.next {w wr w3 : World} {rb cb : Nat} {kd : Nat} {s0 : RS} {j : Nat} {a : Option Addr} {m c : Nat} {xs : List St} {sj sc s3 : RS} (h : QP w wr rb cb kd s0 j a m c xs sj sc) (hS : RStep wr w3 rb) (hR : RR w3 rb s3) : QP w w3 rb cb kd s0 j a m c xs sj s3 := by
  have hlo := h.lo
  have hlt := h.box.lt
  exact ⟨h.rd, h.len, h.bnd, h.box.next hS hR, h.vb_.next hS (by omega), h.row.later PT.closed hS (by omega), hlo⟩
theorem QP.round {w wr w4 w5 : World} {rb cb : Nat} {kd : Nat} {s0 : RS} {j : Nat} {a : Option Addr} {m c : Nat} {xs : List St} {sj s3 s2 : RS} {x : St} {g cap : Nat} {t : TypeId}
    (h : QP w wr rb cb kd s0 j a m c xs sj s3) (hb0 : sj.2 = false) (hx : fS sj = (x, s2)) (hS : RStep wr.drew w4 rb) (hR : RR w4 rb s2)
    (hown : w5.ownsRow (cb + 1) 104 3 (.slice (some ⟨g, 0, none⟩) (j + 1) cap) (j + 1) (xs.flatMap scells ++ scells x)) (hg : (w4.alloc (.cells #[.bool x.list, .int .i64 x.i, .string x.key] t)).grownBy w5 (Value.slice a m c).ownBlock)
    (hat : (Value.slice a m c).ownBlock = some g ∨ g = w4.heap.size + 1) :
    QP w (w5.setCell ⟨cb, 1, none⟩ (.slice (some ⟨g, 0, none⟩) (j + 1) cap)) rb cb kd s0 (j + 1) (some ⟨g, 0, none⟩) (j + 1) cap (xs ++ [x]) s2 s2 := by
  have hlo := h.lo
  have hlt := h.box.lt
  have hdz : wr.drew.heap.size = wr.heap.size := rfl
  have hb1 := drew_below wr
  have hrow := (h.row.later PT.closed (.of_below rb hb1) (by omega)).later PT.closed hS (by omega)
  have hrlt : ∀ b, (Value.slice a m c).ownBlock = some b → cb + 1 ≤ b ∧ b < wr.heap.size := h.row.lt
  have hba : Below w4.heap.size w4 (w4.alloc (.cells #[.bool x.list, .int .i64 x.i, .string x.key] t)) := (Below.refl _ _).alloc (Nat.le_refl _) _
  have hsz4 : wr.heap.size ≤ w4.heap.size := hS.size
  have hclt := h.vb_.lt
  have hgb : Below (cb + 1) (w4.alloc (.cells #[.bool x.list, .int .i64 x.i, .string x.key] t)) w5 := grown_below hg (fun b hb => (hrlt b hb).1) (by simp; omega)
  have hb45 : Below (cb + 1) w4 w5 := (hba.mono (by omega)).trans hgb
  have hpush := Row.push PT.closed hrow hba hg (u' := .slice (some ⟨g, 0, none⟩) (j + 1) cap) (news := scells x) (by rw [h.len]; exact hown) (by
    rcases hat with e | e
    · left; rw [e]; rfl
    · right; intro b hb; have : g = b := by simpa [Value.ownBlock] using hb
      omega) (trivial : PT _ _ _) (fun _ _ _ _ _ => trivial)
  have hbox := ((h.box.behind hb1).next hS hR).below (hb45.mono (by omega))
  have hvb := ((h.vb_.keep hb1 hclt).next hS (by omega)).keep hb45 (by omega)
  refine ⟨?_, by simp [h.len], fun s hs => ?_, hbox.set (by omega), hvb.set (i := 1) (x := .slice (some ⟨g, 0, none⟩) (j + 1) cap) (by simp [ccells]), ?_, hlo⟩
  · rw [fL_step (by rw [h.rd]; exact hb0), h.rd]; simp only [hx]
  · rcases List.mem_append.1 hs with h1 | h1
    · exact h.bnd s h1
    · rw [List.mem_singleton.1 h1]; exact fS_bnd hx
  · have hr2 : RowS w5 (cb + 1) (.slice (some ⟨g, 0, none⟩) (j + 1) cap) (xs ++ [x]) := by
      show Row _ _ _ _ _ _ _ _
      rw [flat_snoc, List.length_append, List.length_singleton]
      exact hpush
    exact hr2.set PT.closed (by omega)
/-- What Reader.comp comes to. -/
def QCPost (w : World) (rb : Nat) (x : Cm) (s : RS) (e : Ending) (w' : World) : Prop :=
  RStep w w' rb ∧ (∃ c : CC, e = .returned (.agg #[.int .u8 c.k, .slice c.pa c.pl c.pc, .string c.key, .int .i64 c.i, .int .i64 c.j, .int .i64 c.n, .int .u8 c.v.k, .int .i64 c.v.n, .string c.v.s, .slice c.v.la c.v.ll c.v.lc, .slice c.v.oa c.v.ol c.v.oc, .string c.s]) ∧ IsComp (only (fun b => w.heap.size ≤ b) w') w'.heap.size x c) ∧ RR w' rb s
/-- Behind the path's loop. -/
structure QC (w W : World) (rb cb : Nat) (s : RS) (p : List St) (v : V) (c : CC) : Prop where
  box : QB w W rb s (ccells czero)
  cel : BC W cb (ccells c)
  stp : IsSteps (only (fun b => cb + 1 ≤ b) W) W.heap.size p c.pa c.pl c.pc
  val : IsVal (only (fun b => cb + 1 ≤ b) W) W.heap.size v c.v
  lo : w.heap.size + 1 ≤ cb
theorem QC.next {w W W' : World} {rb cb : Nat} {s s' : RS} {p : List St} {v : V} {c : CC} (h : QC w W rb cb s p v c) (hs : RStep W W' rb) (hR : RR W' rb s') : QC w W' rb cb s' p v c := by
  have hlo := h.lo; have hlt := h.box.lt
  exact ⟨h.box.next hs hR, h.cel.next hs (by omega), isSteps_far h.stp hs (by omega), isVal_far h.val hs (by omega), hlo⟩
theorem QC.behind {w W W' : World} {rb cb : Nat} {s : RS} {p : List St} {v : V} {c : CC} (h : QC w W rb cb s p v c) (hb : Below W.heap.size W W') : QC w W' rb cb s p v c :=
  h.next (.of_below rb hb) (h.box.rr.of_below hb)
theorem QC.start {w wr : World} {rb cb : Nat} {kd : Nat} {s0 : RS} {j : Nat} {a : Option Addr} {m c : Nat} {xs : List St} {sj sc : RS} (h : QP w wr rb cb kd s0 j a m c xs sj sc) (hfew : j ≤ 1466015503701) : QC w wr rb cb sc xs V.none ⟨kd, a, m, c, .empty, 0, 0, 0, vzero, .empty⟩ :=
  ⟨h.box, h.vb_, h.row.steps (Nat.le_refl _) h.bnd (by rw [h.len]; exact hfew), isVal_none _ _, h.lo⟩
theorem QB.far {w W W' : World} {rb cb : Nat} {s : RS} {cs : List Value} (h : QB w W rb s cs) (hs : RStep W W' cb) (hc : w.heap.size < cb) (hl : cb < W.heap.size) : QB w W' rb s cs :=
  h.below ((hs.below (Nat.le_of_lt hl)).mono (by omega))
theorem QC.set1 {w W W' : World} {rb cb : Nat} {s : RS} {p : List St} {v : V} {c c' : CC} (h : QC w W rb cb s p v c) (hs : RStep W W' cb) (hbox : BC W' cb (ccells c')) (e1 : c'.pa = c.pa) (e2 : c'.pl = c.pl) (e3 : c'.pc = c.pc) (e4 : c'.v = c.v) : QC w W' rb cb s p v c' := by
  have hlo := h.lo
  refine ⟨h.box.far hs (by omega) h.cel.lt, hbox, ?_, ?_, hlo⟩
  · rw [e1, e2, e3]; exact isSteps_far h.stp hs (by omega)
  · rw [e4]; exact isVal_far h.val hs (by omega)
theorem QC.value {w W W' W2 : World} {rb cb : Nat} {s s' : RS} {p : List St} {v v' : V} {c c' : CC} (h : QC w W rb cb s p v c) (hs : RStep W W' rb) (hR : RR W' rb s') (hv : IsVal (only (fun b => W.heap.size ≤ b) W') W'.heap.size v' c'.v) (s2 : RStep W' W2 cb) (hbox : BC W2 cb (ccells c')) (e1 : c'.pa = c.pa) (e2 : c'.pl = c.pl) (e3 : c'.pc = c.pc) : QC w W2 rb cb s' p v' c' := by
  have hlo := h.lo
  have hcl := h.cel.lt
  have h1 := h.next hs hR
  refine ⟨h1.box.far s2 (by omega) h1.cel.lt, hbox, ?_, ?_, hlo⟩
  · rw [e1, e2, e3]; exact isSteps_far h1.stp s2 (by omega)
  · exact isVal_far ((hv.sub (shows_step fun k hk hl => ⟨by omega, rfl⟩))) s2 (by omega)
theorem results_compR {tmps : Array Value} {W : World} {b : Nat} {c : CC} (ht : tmps[2]? = some (.pointer (some ⟨b, 0, none⟩))) (h : BC W b (ccells c)) : (results Tryd.f25 tmps).run Tryd.prog W = .ok (.agg #[.int .u8 c.k, .slice c.pa c.pl c.pc, .string c.key, .int .i64 c.i, .int .i64 c.j, .int .i64 c.n, .int .u8 c.v.k, .int .i64 c.v.n, .string c.v.s, .slice c.v.la c.v.ll c.v.lc, .slice c.v.oa c.v.ol c.v.oc, .string c.s]) W := by
  have h0 := h.at_ 0 _ rfl
  have h1 := h.at_ 1 _ rfl
  have h2 := h.at_ 2 _ rfl
  have h3 := h.at_ 3 _ rfl
  have h4 := h.at_ 4 _ rfl
  have h5 := h.at_ 5 _ rfl
  have h6 := h.at_ 6 _ rfl
  have h7 := h.at_ 7 _ rfl
  have h8 := h.at_ 8 _ rfl
  have h9 := h.at_ 9 _ rfl
  have h10 := h.at_ 10 _ rfl
  have h11 := h.at_ 11 _ rfl
  simp [results, Tryd.results25, go_sem, ht, h0, h1, h2, h3, h4, h5, h6, h7, h8, h9, h10, h11]
/-- The function is left. -/
theorem QC.leave {w W : World} {rb cb : Nat} {s : RS} {p : List St} {v : V} {c : CC} {x : Cm} {a : Act} (h : QC w W rb cb s p v c) (hb : c.Bnd) (hx : x = ⟨c.k, p, c.key, c.i, c.j, c.n, v, c.s⟩) (hd : a.defers = []) (ht : a.tmps[2]? = some (.pointer (some ⟨w.heap.size, 0, none⟩))) :
    bodyPost Tryd.prog Tryd.f25 (QCPost w rb x s) .ret a ((((((((((((W.setCell ⟨w.heap.size, 0, none⟩ (.int .u8 c.k)).setCell ⟨w.heap.size, 1, none⟩ (.slice c.pa c.pl c.pc)).setCell ⟨w.heap.size, 2, none⟩ (.string c.key)).setCell ⟨w.heap.size, 3, none⟩ (.int .i64 c.i)).setCell ⟨w.heap.size, 4, none⟩ (.int .i64 c.j)).setCell ⟨w.heap.size, 5, none⟩ (.int .i64 c.n)).setCell ⟨w.heap.size, 6, none⟩ (.int .u8 c.v.k)).setCell ⟨w.heap.size, 7, none⟩ (.int .i64 c.v.n)).setCell ⟨w.heap.size, 8, none⟩ (.string c.v.s)).setCell ⟨w.heap.size, 9, none⟩ (.slice c.v.la c.v.ll c.v.lc)).setCell ⟨w.heap.size, 10, none⟩ (.slice c.v.oa c.v.ol c.v.oc)).setCell ⟨w.heap.size, 11, none⟩ (.string c.s)) := by
  have hlo := h.lo; have hlt := h.box.lt
  have hs : RStep W ((((((((((((W.setCell ⟨w.heap.size, 0, none⟩ (.int .u8 c.k)).setCell ⟨w.heap.size, 1, none⟩ (.slice c.pa c.pl c.pc)).setCell ⟨w.heap.size, 2, none⟩ (.string c.key)).setCell ⟨w.heap.size, 3, none⟩ (.int .i64 c.i)).setCell ⟨w.heap.size, 4, none⟩ (.int .i64 c.j)).setCell ⟨w.heap.size, 5, none⟩ (.int .i64 c.n)).setCell ⟨w.heap.size, 6, none⟩ (.int .u8 c.v.k)).setCell ⟨w.heap.size, 7, none⟩ (.int .i64 c.v.n)).setCell ⟨w.heap.size, 8, none⟩ (.string c.v.s)).setCell ⟨w.heap.size, 9, none⟩ (.slice c.v.la c.v.ll c.v.lc)).setCell ⟨w.heap.size, 10, none⟩ (.slice c.v.oa c.v.ol c.v.oc)).setCell ⟨w.heap.size, 11, none⟩ (.string c.s)) w.heap.size := (((((((((((RStep.self.trans RStep.self).trans RStep.self).trans RStep.self).trans RStep.self).trans RStep.self).trans RStep.self).trans RStep.self).trans RStep.self).trans RStep.self).trans RStep.self).trans RStep.self)
  have hbc : BC ((((((((((((W.setCell ⟨w.heap.size, 0, none⟩ (.int .u8 c.k)).setCell ⟨w.heap.size, 1, none⟩ (.slice c.pa c.pl c.pc)).setCell ⟨w.heap.size, 2, none⟩ (.string c.key)).setCell ⟨w.heap.size, 3, none⟩ (.int .i64 c.i)).setCell ⟨w.heap.size, 4, none⟩ (.int .i64 c.j)).setCell ⟨w.heap.size, 5, none⟩ (.int .i64 c.n)).setCell ⟨w.heap.size, 6, none⟩ (.int .u8 c.v.k)).setCell ⟨w.heap.size, 7, none⟩ (.int .i64 c.v.n)).setCell ⟨w.heap.size, 8, none⟩ (.string c.v.s)).setCell ⟨w.heap.size, 9, none⟩ (.slice c.v.la c.v.ll c.v.lc)).setCell ⟨w.heap.size, 10, none⟩ (.slice c.v.oa c.v.ol c.v.oc)).setCell ⟨w.heap.size, 11, none⟩ (.string c.s)) w.heap.size (ccells c) := ((((((((((((h.box.res.set (i := 0) (x := .int .u8 c.k) (by simp [ccells])).set (i := 1) (x := .slice c.pa c.pl c.pc) (by simp [ccells])).set (i := 2) (x := .string c.key) (by simp [ccells])).set (i := 3) (x := .int .i64 c.i) (by simp [ccells])).set (i := 4) (x := .int .i64 c.j) (by simp [ccells])).set (i := 5) (x := .int .i64 c.n) (by simp [ccells])).set (i := 6) (x := .int .u8 c.v.k) (by simp [ccells])).set (i := 7) (x := .int .i64 c.v.n) (by simp [ccells])).set (i := 8) (x := .string c.v.s) (by simp [ccells])).set (i := 9) (x := .slice c.v.la c.v.ll c.v.lc) (by simp [ccells])).set (i := 10) (x := .slice c.v.oa c.v.ol c.v.oc) (by simp [ccells])).set (i := 11) (x := .string c.s) (by simp [ccells]))
  have hst : RStep w ((((((((((((W.setCell ⟨w.heap.size, 0, none⟩ (.int .u8 c.k)).setCell ⟨w.heap.size, 1, none⟩ (.slice c.pa c.pl c.pc)).setCell ⟨w.heap.size, 2, none⟩ (.string c.key)).setCell ⟨w.heap.size, 3, none⟩ (.int .i64 c.i)).setCell ⟨w.heap.size, 4, none⟩ (.int .i64 c.j)).setCell ⟨w.heap.size, 5, none⟩ (.int .i64 c.n)).setCell ⟨w.heap.size, 6, none⟩ (.int .u8 c.v.k)).setCell ⟨w.heap.size, 7, none⟩ (.int .i64 c.v.n)).setCell ⟨w.heap.size, 8, none⟩ (.string c.v.s)).setCell ⟨w.heap.size, 9, none⟩ (.slice c.v.la c.v.ll c.v.lc)).setCell ⟨w.heap.size, 10, none⟩ (.slice c.v.oa c.v.ol c.v.oc)).setCell ⟨w.heap.size, 11, none⟩ (.string c.s)) rb := ⟨hs.os.trans h.box.st.os, hs.tape.trans h.box.st.tape, hs.output.trans h.box.st.output, Nat.le_trans h.box.st.size hs.size, fun k hk hr => (hs.block k (Nat.lt_of_lt_of_le hk h.box.st.size) (by omega)).trans (h.box.st.block k hk hr)⟩
  have hstp := isSteps_far h.stp hs (by omega)
  have hval := isVal_far h.val hs (by omega)
  refine ⟨hd, _, results_compR ht hbc, hst, ⟨c, rfl, ?_⟩, h.box.rr.below (hs.below (by have := h.box.res.lt; omega)) hlt⟩
  subst hx
  exact .mk c p v hb (hstp.sub (shows_step fun k hk _ => ⟨by omega, rfl⟩)) (hval.sub (shows_step fun k hk _ => ⟨by omega, rfl⟩))
end Go.Proofs.YtcfbnmobfcabiaaDoor
