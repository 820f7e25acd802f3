/-
  Contracts of the functions that the law reaches: reader.entry. whole at entries. A value and itself. A slice of pieces that came in.
-/
import Derived.Test.YtcfbnmobfcabiaaDoorVal7
import Derived.Deep.Slices
import Derived.Lib.SmallJoins
import Derived.SizedLaws
import Derived.ProofKit
import Derived.OpenShut
namespace Go.Proofs.YtcfbnmobfcabiaaDoor
open Go.RowKit

theorem ginfoC : (Tryd.prog.info? 70).map (fun i => (i.zero, i.size, i.bytes)) = some (some (.agg #[.int .u8 0, .slice none 0 0, .string { data := #[] }, .int .i64 0, .int .i64 0, .int .i64 0, .int .u8 0, .int .i64 0, .string { data := #[] }, .slice none 0 0, .slice none 0 0, .string { data := #[] }]), 12, 168) := by kernel_rfl
theorem EB.next {w W W' : World} {rb eb : Nat} {r r' : List UInt8} {v : V} {l : List Cm} {c : EC} (h : EB w W rb eb r v l c) (s : RStep W W' rb) (hR : Rdr W' rb r' 0) : EB w W' rb eb r' v l c := by
  have hlo := h.lo; have hlt := h.lt
  exact ⟨hR, h.st.trans s, h.res.next s (by omega), h.box.next s (by omega), isVal_far h.val s (by omega), isComps_far h.ops s (by omega), hlo, hlt⟩
theorem EB.set1 {w W W' : World} {rb eb : Nat} {r : List UInt8} {v : V} {l : List Cm} {c c' : EC} (h : EB w W rb eb r v l c) (s : RStep W W' eb) (hbox : BC W' eb (ecells c')) (e1 : c'.oa = c.oa) (e2 : c'.ol = c.ol) (e3 : c'.oc = c.oc) (e4 : c'.v = c.v) : EB w W' rb eb r v l c' := by
  have hlo := h.lo; have hlt := h.lt
  have hst : RStep w W' rb := ⟨s.os.trans h.st.os, s.tape.trans h.st.tape, s.output.trans h.st.output, Nat.le_trans h.st.size s.size, fun k hk hr => (s.block k (Nat.lt_of_lt_of_le hk h.st.size) (by omega)).trans (h.st.block k hk hr)⟩
  refine ⟨h.rdr.below (s.below (Nat.le_of_lt h.box.lt)) (by omega), hst, h.res.next s (by omega), hbox, ?_, ?_, hlo, hlt⟩
  · rw [e4]; exact isVal_far h.val s (by omega)
  · rw [e1, e2, e3]; exact isComps_far h.ops s (by omega)
theorem EB.value {w W W' W2 : World} {rb eb : Nat} {r r' : List UInt8} {v v' : V} {l : List Cm} {c c' : EC} (h : EB w W rb eb r v l c) (s : RStep W W' rb) (hR : Rdr W' rb r' 0) (hv : IsVal (only (fun b => W.heap.size ≤ b) W') W'.heap.size v' c'.v) (s2 : RStep W' W2 eb) (hbox : BC W2 eb (ecells c')) (e1 : c'.oa = c.oa) (e2 : c'.ol = c.ol) (e3 : c'.oc = c.oc) : EB w W2 rb eb r' v' l c' := by
  have hlo := h.lo; have hlt := h.lt
  have hcl := h.box.lt
  have h1 := h.next s hR
  have hst : RStep w W2 rb := ⟨s2.os.trans h1.st.os, s2.tape.trans h1.st.tape, s2.output.trans h1.st.output, Nat.le_trans h1.st.size s2.size, fun k hk hr => (s2.block k (Nat.lt_of_lt_of_le hk h1.st.size) (by omega)).trans (h1.st.block k hk hr)⟩
  refine ⟨h1.rdr.below (s2.below (Nat.le_of_lt h1.box.lt)) (by omega), hst, h1.res.next s2 (by omega), hbox, ?_, ?_, hlo, hlt⟩
  · exact isVal_far ((hv.sub (shows_step fun k hk hl => ⟨by omega, rfl⟩))) s2 (by omega)
  · rw [e1, e2, e3]; exact isComps_far h1.ops s2 (by omega)
theorem takeU324_lt {n : Nat} {bs r : List UInt8} (h : rdN 4 bs = some (n, r)) : n < 4294967296 := Nat.lt_of_lt_of_le (rdN_lt h) (by decide)

set_option maxHeartbeats 16000000 in
set_option maxRecDepth 100000 in
theorem rEntry_any (w : World) (rb : Nat) (bs : List UInt8) (h : Rdr w rb bs 0) {out : Option (En × List UInt8)} (hout : rdE bs = out) :
    Calls Tryd.prog 21 #[.pointer (some ⟨rb, 0, none⟩)] w (REPost w rb out) := by
  obtain ⟨i0, hi0, hz0, hz1, hz2⟩ := info_parts ginfoC
  have hlt := h.lt
  have HB := Lib.hid ((Below.refl _ _).alloc (Nat.le_refl _) (.cells #[.int .u8 0, .int .u32 0, .int .u32 0, .int .u8 0, .int .i64 0, .string { data := #[] }, .slice none 0 0, .slice none 0 0, .slice none 0 0] 31) : Below w.heap.size w (w.alloc (.cells #[.int .u8 0, .int .u32 0, .int .u32 0, .int .u8 0, .int .i64 0, .string { data := #[] }, .slice none 0 0, .slice none 0 0, .slice none 0 0] 31)))
  have HR0 := Lib.hid (h.of_below HB.out)
  have HC0 := Lib.hid (BC.start w #[.int .u8 0, .int .u32 0, .int .u32 0, .int .u8 0, .int .i64 0, .string { data := #[] }, .slice none 0 0, .slice none 0 0, .slice none 0 0] 31)
  rw [rdE] at hout
  clear h
  cases hr : rdN 1 bs with
  | none =>
    obtain rfl : out = none := by rw [← hout, hr]; rfl
    clear hout
    have HN := Lib.hid hr
    clear hr
    go_enter Tryd.func21, Tryd.ntmps21
    go_wp2_with (go_at_call 46; (with_reducible refine (takeU81_none _ rb bs 0 HR0.out HN.out).mono ?_); rintro e w1 ⟨rfl, rfl⟩)
    exact ⟨rfl, .of_below rb HB.out, rfl, bs, HR0.out⟩
  | some p =>
  obtain ⟨kd, r⟩ := p
  have hk1 : kd < 256 := rdN_lt hr
  rw [hr] at hout
  simp only [Option.bind_some] at hout
  have HN := Lib.hid hr
  clear hr
  have TK : Hid (∀ W, W = w.alloc (.cells #[.int .u8 0, .int .u32 0, .int .u32 0, .int .u8 0, .int .i64 0, .string { data := #[] }, .slice none 0 0, .slice none 0 0, .slice none 0 0] 31) → Calls Tryd.prog 46 #[.pointer (some ⟨rb, 0, none⟩), .int .i64 1] W fun e w' => e = .returned (.int .u8 kd) ∧ Rdr w' rb r 0 ∧ RStep w w' rb ∧ BC w' w.heap.size (ecells ezero) ∧ w.heap.size + 1 ≤ w'.heap.size) := by
    intro W hW
    subst hW
    refine (takeU81_some _ rb bs 0 HR0.out HN.out).mono fun e w' ⟨h1, h2, h3⟩ => ⟨h1, h2, (RStep.of_below rb HB.out).trans h3, HC0.out.next h3 (by omega), by have := h3.size; simp at this; omega⟩
  clear HN HR0 HC0
  cases h2 : rdN 4 r with
  | none =>
    obtain rfl : out = none := by rw [← hout, h2]; rfl
    have HM := Lib.hid h2
    clear hout h2
    go_enter Tryd.func21, Tryd.ntmps21
    go_wp2_with (first | (go_at_call 46; (with_reducible refine (TK.out _ rfl).mono ?_); rintro e w1 ⟨rfl, hR, hS, hC, hz⟩; have zs0 : w.heap.size < w1.heap.size := (by omega); have A1 := hC.keep ((Below.refl _ _).alloc (Nat.le_refl _) (.cells #[.int .u8 kd, .int .u32 0, .int .u32 0, .int .u8 0, .int .i64 0, .string { data := #[] }, .slice none 0 0, .slice none 0 0, .slice none 0 0] 31)) (by omega); have A2 := BC.start w1 #[.int .u8 kd, .int .u32 0, .int .u32 0, .int .u8 0, .int .i64 0, .string { data := #[] }, .slice none 0 0, .slice none 0 0, .slice none 0 0] 31; have A3 := hR.of_below ((Below.refl _ _).alloc (Nat.le_refl _) (.cells #[.int .u8 kd, .int .u32 0, .int .u32 0, .int .u8 0, .int .i64 0, .string { data := #[] }, .slice none 0 0, .slice none 0 0, .slice none 0 0] 31)); have A4 := hS.trans (.of_below rb ((Below.refl _ _).alloc (Nat.le_refl _) (.cells #[.int .u8 kd, .int .u32 0, .int .u32 0, .int .u8 0, .int .i64 0, .string { data := #[] }, .slice none 0 0, .slice none 0 0, .slice none 0 0] 31)))) | (go_at_call 47; (with_reducible refine (takeU324_none _ rb r 0 A3 HM.out).mono ?_); rintro e w2 ⟨rfl, rfl⟩))
    exact ⟨rfl, A4, rfl, r, A3⟩
  | some ps =>
  obtain ⟨sr, r2⟩ := ps
  have hs1 := takeU324_lt h2
  rw [h2] at hout
  simp only [Option.bind_some] at hout
  have HM := Lib.hid h2
  clear h2
  cases h3 : rdN 4 r2 with
  | none =>
    obtain rfl : out = none := by rw [← hout, h3]; rfl
    have HM3 := Lib.hid h3
    clear hout h3
    go_enter Tryd.func21, Tryd.ntmps21
    go_wp2_with (first | (go_at_call 46; (with_reducible refine (TK.out _ rfl).mono ?_); rintro e w1 ⟨rfl, hR, hS, hC, hz⟩; have zs0 : w.heap.size < w1.heap.size := (by omega); have A1 := hC.keep ((Below.refl _ _).alloc (Nat.le_refl _) (.cells #[.int .u8 kd, .int .u32 0, .int .u32 0, .int .u8 0, .int .i64 0, .string { data := #[] }, .slice none 0 0, .slice none 0 0, .slice none 0 0] 31)) (by omega); have A2 := BC.start w1 #[.int .u8 kd, .int .u32 0, .int .u32 0, .int .u8 0, .int .i64 0, .string { data := #[] }, .slice none 0 0, .slice none 0 0, .slice none 0 0] 31; have A3 := hR.of_below ((Below.refl _ _).alloc (Nat.le_refl _) (.cells #[.int .u8 kd, .int .u32 0, .int .u32 0, .int .u8 0, .int .i64 0, .string { data := #[] }, .slice none 0 0, .slice none 0 0, .slice none 0 0] 31)); have A4 := hS.trans (.of_below rb ((Below.refl _ _).alloc (Nat.le_refl _) (.cells #[.int .u8 kd, .int .u32 0, .int .u32 0, .int .u8 0, .int .i64 0, .string { data := #[] }, .slice none 0 0, .slice none 0 0, .slice none 0 0] 31)))) | (go_at_call 47; (with_reducible refine (takeU324_some _ rb r 0 A3 HM.out).mono ?_); rintro e w2 ⟨rfl, hR2, hS2⟩; have C2 := A2.next hS2 (by omega); have y1 := C2.at_ 1 _ rfl; have p1 := C2.fr 1) | (go_at_call 47; (with_reducible refine (takeU324_none _ rb r2 0 (hR2.setNew (by omega)) HM3.out).mono ?_); rintro e w3 ⟨rfl, rfl⟩))
    exact ⟨rfl, (A4.trans hS2).setNew (by omega), rfl, r2, hR2.setNew (by omega)⟩
  | some pq =>
  obtain ⟨sq, r3⟩ := pq
  have hq1 := takeU324_lt h3
  rw [h3] at hout
  simp only [Option.bind_some] at hout
  have HM3 := Lib.hid h3
  have HO := Lib.hid hout
  clear h3 hout
  have bnd : ∀ (v : VC) (a : Option Addr) (m c : Nat), (⟨kd, sr, sq, v, a, m, c⟩ : EC).Bnd := fun v a m c => ⟨by show (0 : Int) ≤ (kd : Int); omega, by show (kd : Int) < 256; omega, by show (0 : Int) ≤ (sr : Int); omega, by show (sr : Int) < 4294967296; omega, by show (0 : Int) ≤ (sq : Int); omega, by show (sq : Int) < 4294967296; omega⟩
  by_cases e1 : kd = 1
  case pos =>
    have f1 : ((kd : Int) == 1) = true := by subst e1; rfl
    have HOUT : Hid (((rdV 18 r3).bind fun v => some (⟨kd, sr, sq, v.1, []⟩, v.2)) = out) := by have := HO.out; rw [if_pos e1] at this; exact this
    clear e1 HO
    go_enter Tryd.func21, Tryd.ntmps21
    go_wp2_with (first | (go_at_call 46; (with_reducible refine (TK.out _ rfl).mono ?_); rintro e w1 ⟨rfl, hR, hS, hC, hz⟩; have zs0 : w.heap.size < w1.heap.size := (by omega); have A1 := hC.keep ((Below.refl _ _).alloc (Nat.le_refl _) (.cells #[.int .u8 kd, .int .u32 0, .int .u32 0, .int .u8 0, .int .i64 0, .string { data := #[] }, .slice none 0 0, .slice none 0 0, .slice none 0 0] 31)) (by omega); have A2 := BC.start w1 #[.int .u8 kd, .int .u32 0, .int .u32 0, .int .u8 0, .int .i64 0, .string { data := #[] }, .slice none 0 0, .slice none 0 0, .slice none 0 0] 31; have A3 := hR.of_below ((Below.refl _ _).alloc (Nat.le_refl _) (.cells #[.int .u8 kd, .int .u32 0, .int .u32 0, .int .u8 0, .int .i64 0, .string { data := #[] }, .slice none 0 0, .slice none 0 0, .slice none 0 0] 31)); have A4 := hS.trans (.of_below rb ((Below.refl _ _).alloc (Nat.le_refl _) (.cells #[.int .u8 kd, .int .u32 0, .int .u32 0, .int .u8 0, .int .i64 0, .string { data := #[] }, .slice none 0 0, .slice none 0 0, .slice none 0 0] 31)))) | (go_at_call 47; (with_reducible refine (takeU324_some _ rb r 0 A3 HM.out).mono ?_); rintro e w2 ⟨rfl, hR2, hS2⟩; have C2 := A2.next hS2 (by omega); have y1 := C2.at_ 1 _ rfl; have p1 := C2.fr 1; have D2 := A1.next hS2 (by omega)) | (go_at_call 47; (with_reducible refine (takeU324_some _ rb r2 0 (hR2.setNew (by omega)) HM3.out).mono ?_); rintro e w3 ⟨rfl, hR3, hS3⟩; have C3 := (C2.set (i := 1) (x := .int .u32 sr) (by simp)).next hS3 (by omega); have y2 := C3.at_ 2 _ rfl; have p2 := C3.fr 2; have y0 := C3.at_ 0 _ rfl; have hS3' := ((A4.trans hS2).setNew (b := w1.heap.size) (o := 1) (x := .int .u32 sr) (by omega)).trans hS3; have D3 := (D2.far (b' := w1.heap.size) (o := 1) (x := .int .u32 sr) (by omega)).next hS3 (by omega); have B : EB w (w3.setCell ⟨w1.heap.size, 2, none⟩ (.int .u32 sq)) rb w1.heap.size r3 V.none [] ⟨kd, sr, sq, vzero, none, 0, 0⟩ := ⟨hR3.setNew (by omega), hS3'.setNew (by omega), D3.far (by omega), C3.set (i := 2) (x := .int .u32 sq) (by simp), isVal_none _ _, .nil _ _, hz, hlt⟩))
    obtain ⟨eb, heb⟩ : ∃ eb, w1.heap.size = eb := ⟨_, rfl⟩
    rw [heb] at B zs0 ⊢
    clear C2 C3 D2 D3 A1 A2 A3 A4 hR hC hz hR2 hR3 y1 y2 p1 p2 TK HM HM3 heb hS3'
    cases s0 : rdV 18 r3 with
    | none =>
      obtain rfl : out = none := by rw [← HOUT.out, s0]; rfl
      have HS0 := Lib.hid s0
      clear s0
      go_wp2_with (go_at_call 28; (with_reducible refine (rv18_none _ rb r3 B.rdr HS0.out).mono ?_); rintro e w9 ⟨rfl, hS9, hR9⟩)
      exact ⟨rfl, B.st.trans hS9, rfl, hR9⟩
    | some t0 =>
      obtain ⟨v0, q0⟩ := t0
      have HS0 := Lib.hid s0
      clear s0
      rename_i KR aR KC aC
      have HKR := Lib.hid aR
      clear aR
      go_wp2_with (go_at_call 28; (with_reducible refine (rv18_some _ rb r3 B.rdr HS0.out).mono ?_); rintro e w4 ⟨cv, rfl, hS4, hI4, hR4⟩; have BN := B.next hS4 hR4; have p3 := BN.box.fr 3; have p4 := BN.box.fr 4; have p5 := BN.box.fr 5; have p6 := BN.box.fr 6; have p7 := BN.box.fr 7; have y3 := BN.box.at_ 3 _ rfl; have y4 := BN.box.at_ 4 _ rfl; have y5 := BN.box.at_ 5 _ rfl; have y6 := BN.box.at_ 6 _ rfl; have y7 := BN.box.at_ 7 _ rfl)
      have B2 : EB w (((((w4.setCell ⟨eb, 3, none⟩ (.int .u8 cv.k)).setCell ⟨eb, 4, none⟩ (.int .i64 cv.n)).setCell ⟨eb, 5, none⟩ (.string cv.s)).setCell ⟨eb, 6, none⟩ (.slice cv.la cv.ll cv.lc)).setCell ⟨eb, 7, none⟩ (.slice cv.oa cv.ol cv.oc)) rb eb q0 v0 [] ⟨kd, sr, sq, cv, none, 0, 0⟩ := B.value hS4 hR4 hI4 ((((RStep.self.trans RStep.self).trans RStep.self).trans RStep.self).trans RStep.self) (((((BN.box.set (i := 3) (x := .int .u8 cv.k) (by simp [ecells])).set (i := 4) (x := .int .i64 cv.n) (by simp [ecells])).set (i := 5) (x := .string cv.s) (by simp [ecells])).set (i := 6) (x := .slice cv.la cv.ll cv.lc) (by simp [ecells])).set (i := 7) (x := .slice cv.oa cv.ol cv.oc) (by simp [ecells])) rfl rfl rfl
      obtain ⟨W2, hW2⟩ : ∃ W2, (((((w4.setCell ⟨eb, 3, none⟩ (.int .u8 cv.k)).setCell ⟨eb, 4, none⟩ (.int .i64 cv.n)).setCell ⟨eb, 5, none⟩ (.string cv.s)).setCell ⟨eb, 6, none⟩ (.slice cv.la cv.ll cv.lc)).setCell ⟨eb, 7, none⟩ (.slice cv.oa cv.ol cv.oc)) = W2 := ⟨_, rfl⟩
      rw [hW2] at B2 ⊢
      have hcl := B2.box.lt
      clear hW2 BN hI4
      have y0 := B2.box.at_ 0 _ rfl
      have y1 := B2.box.at_ 1 _ rfl
      have y2 := B2.box.at_ 2 _ rfl
      have y3 := B2.box.at_ 3 _ rfl
      have y4 := B2.box.at_ 4 _ rfl
      have y5 := B2.box.at_ 5 _ rfl
      have y6 := B2.box.at_ 6 _ rfl
      have y7 := B2.box.at_ 7 _ rfl
      have y8 := B2.box.at_ 8 _ rfl
      have r0 := B2.res.at_ 0 _ rfl
      have gr0 := B2.res.fr 0
      have r1 := B2.res.at_ 1 _ rfl
      have gr1 := B2.res.fr 1
      have r2 := B2.res.at_ 2 _ rfl
      have gr2 := B2.res.fr 2
      have r3 := B2.res.at_ 3 _ rfl
      have gr3 := B2.res.fr 3
      have r4 := B2.res.at_ 4 _ rfl
      have gr4 := B2.res.fr 4
      have r5 := B2.res.at_ 5 _ rfl
      have gr5 := B2.res.fr 5
      have r6 := B2.res.at_ 6 _ rfl
      have gr6 := B2.res.fr 6
      have r7 := B2.res.at_ 7 _ rfl
      have gr7 := B2.res.fr 7
      have r8 := B2.res.at_ 8 _ rfl
      have gr8 := B2.res.fr 8
      refine HKR.out _ _ ?_
      go_wp2_with fail
      obtain rfl : out = some (⟨kd, sr, sq, v0, []⟩, q0) := by rw [← HOUT.out, HS0.out]; rfl
      exact B2.leave (bnd _ _ _ _) rfl rfl rfl
  have f1 : ((kd : Int) == 1) = false := by simp; omega
  by_cases e2 : kd = 2
  case neg =>
    have f2 : ((kd : Int) == 2) = false := by simp; omega
    obtain rfl : out = some (⟨kd, sr, sq, V.none, []⟩, r3) := by have := HO.out; rw [if_neg e1, if_neg e2] at this; exact this.symm
    clear e1 e2 HO
    go_enter Tryd.func21, Tryd.ntmps21
    go_wp2_with (first | (go_at_call 46; (with_reducible refine (TK.out _ rfl).mono ?_); rintro e w1 ⟨rfl, hR, hS, hC, hz⟩; have zs0 : w.heap.size < w1.heap.size := (by omega); have A1 := hC.keep ((Below.refl _ _).alloc (Nat.le_refl _) (.cells #[.int .u8 kd, .int .u32 0, .int .u32 0, .int .u8 0, .int .i64 0, .string { data := #[] }, .slice none 0 0, .slice none 0 0, .slice none 0 0] 31)) (by omega); have A2 := BC.start w1 #[.int .u8 kd, .int .u32 0, .int .u32 0, .int .u8 0, .int .i64 0, .string { data := #[] }, .slice none 0 0, .slice none 0 0, .slice none 0 0] 31; have A3 := hR.of_below ((Below.refl _ _).alloc (Nat.le_refl _) (.cells #[.int .u8 kd, .int .u32 0, .int .u32 0, .int .u8 0, .int .i64 0, .string { data := #[] }, .slice none 0 0, .slice none 0 0, .slice none 0 0] 31)); have A4 := hS.trans (.of_below rb ((Below.refl _ _).alloc (Nat.le_refl _) (.cells #[.int .u8 kd, .int .u32 0, .int .u32 0, .int .u8 0, .int .i64 0, .string { data := #[] }, .slice none 0 0, .slice none 0 0, .slice none 0 0] 31)))) | (go_at_call 47; (with_reducible refine (takeU324_some _ rb r 0 A3 HM.out).mono ?_); rintro e w2 ⟨rfl, hR2, hS2⟩; have C2 := A2.next hS2 (by omega); have y1 := C2.at_ 1 _ rfl; have p1 := C2.fr 1; have D2 := A1.next hS2 (by omega)) | (go_at_call 47; (with_reducible refine (takeU324_some _ rb r2 0 (hR2.setNew (by omega)) HM3.out).mono ?_); rintro e w3 ⟨rfl, hR3, hS3⟩; have C3 := (C2.set (i := 1) (x := .int .u32 sr) (by simp)).next hS3 (by omega); have y2 := C3.at_ 2 _ rfl; have p2 := C3.fr 2; have y0 := C3.at_ 0 _ rfl; have hS3' := ((A4.trans hS2).setNew (b := w1.heap.size) (o := 1) (x := .int .u32 sr) (by omega)).trans hS3; have D3 := (D2.far (b' := w1.heap.size) (o := 1) (x := .int .u32 sr) (by omega)).next hS3 (by omega); have B : EB w (w3.setCell ⟨w1.heap.size, 2, none⟩ (.int .u32 sq)) rb w1.heap.size r3 V.none [] ⟨kd, sr, sq, vzero, none, 0, 0⟩ := ⟨hR3.setNew (by omega), hS3'.setNew (by omega), D3.far (by omega), C3.set (i := 2) (x := .int .u32 sq) (by simp), isVal_none _ _, .nil _ _, hz, hlt⟩; have y1 := C3.at_ 1 _ rfl; have y3 := C3.at_ 3 _ rfl; have y4 := C3.at_ 4 _ rfl; have y5 := C3.at_ 5 _ rfl; have y6 := C3.at_ 6 _ rfl; have y7 := C3.at_ 7 _ rfl; have y8 := C3.at_ 8 _ rfl; have r0 := D3.at_ 0 _ rfl; have gr0 := D3.fr 0; have r1 := D3.at_ 1 _ rfl; have gr1 := D3.fr 1; have r2 := D3.at_ 2 _ rfl; have gr2 := D3.fr 2; have r3 := D3.at_ 3 _ rfl; have gr3 := D3.fr 3; have r4 := D3.at_ 4 _ rfl; have gr4 := D3.fr 4; have r5 := D3.at_ 5 _ rfl; have gr5 := D3.fr 5; have r6 := D3.at_ 6 _ rfl; have gr6 := D3.fr 6; have r7 := D3.at_ 7 _ rfl; have gr7 := D3.fr 7; have r8 := D3.at_ 8 _ rfl; have gr8 := D3.fr 8; have hcl := C3.lt))
    exact B.leave (bnd _ _ _ _) rfl rfl rfl
  case pos =>
  have f2 : ((kd : Int) == 2) = true := by subst e2; rfl
  have HOUT : Hid (((rdM 4 r3).bind fun n => (rdL rdC n.1 n.2).bind fun l => some ((⟨kd, sr, sq, V.none, l.1⟩ : En), l.2)) = out) := by have := HO.out; rw [if_neg e1, if_pos e2] at this; exact this
  clear e1 e2 HO
  go_enter Tryd.func21, Tryd.ntmps21
  go_wp2_with (first | (go_at_call 46; (with_reducible refine (TK.out _ rfl).mono ?_); rintro e w1 ⟨rfl, hR, hS, hC, hz⟩; have zs0 : w.heap.size < w1.heap.size := (by omega); have A1 := hC.keep ((Below.refl _ _).alloc (Nat.le_refl _) (.cells #[.int .u8 kd, .int .u32 0, .int .u32 0, .int .u8 0, .int .i64 0, .string { data := #[] }, .slice none 0 0, .slice none 0 0, .slice none 0 0] 31)) (by omega); have A2 := BC.start w1 #[.int .u8 kd, .int .u32 0, .int .u32 0, .int .u8 0, .int .i64 0, .string { data := #[] }, .slice none 0 0, .slice none 0 0, .slice none 0 0] 31; have A3 := hR.of_below ((Below.refl _ _).alloc (Nat.le_refl _) (.cells #[.int .u8 kd, .int .u32 0, .int .u32 0, .int .u8 0, .int .i64 0, .string { data := #[] }, .slice none 0 0, .slice none 0 0, .slice none 0 0] 31)); have A4 := hS.trans (.of_below rb ((Below.refl _ _).alloc (Nat.le_refl _) (.cells #[.int .u8 kd, .int .u32 0, .int .u32 0, .int .u8 0, .int .i64 0, .string { data := #[] }, .slice none 0 0, .slice none 0 0, .slice none 0 0] 31)))) | (go_at_call 47; (with_reducible refine (takeU324_some _ rb r 0 A3 HM.out).mono ?_); rintro e w2 ⟨rfl, hR2, hS2⟩; have C2 := A2.next hS2 (by omega); have y1 := C2.at_ 1 _ rfl; have p1 := C2.fr 1; have D2 := A1.next hS2 (by omega)) | (go_at_call 47; (with_reducible refine (takeU324_some _ rb r2 0 (hR2.setNew (by omega)) HM3.out).mono ?_); rintro e w3 ⟨rfl, hR3, hS3⟩; have C3 := (C2.set (i := 1) (x := .int .u32 sr) (by simp)).next hS3 (by omega); have y2 := C3.at_ 2 _ rfl; have p2 := C3.fr 2; have y0 := C3.at_ 0 _ rfl; have hS3' := ((A4.trans hS2).setNew (b := w1.heap.size) (o := 1) (x := .int .u32 sr) (by omega)).trans hS3; have D3 := (D2.far (b' := w1.heap.size) (o := 1) (x := .int .u32 sr) (by omega)).next hS3 (by omega); have B : EB w (w3.setCell ⟨w1.heap.size, 2, none⟩ (.int .u32 sq)) rb w1.heap.size r3 V.none [] ⟨kd, sr, sq, vzero, none, 0, 0⟩ := ⟨hR3.setNew (by omega), hS3'.setNew (by omega), D3.far (by omega), C3.set (i := 2) (x := .int .u32 sq) (by simp), isVal_none _ _, .nil _ _, hz, hlt⟩))
  obtain ⟨eb, heb⟩ : ∃ eb, w1.heap.size = eb := ⟨_, rfl⟩
  rw [heb] at B zs0 ⊢
  clear C2 C3 D2 D3 A1 A2 A3 A4 hR hC hz hR2 hR3 y1 y2 p1 p2 TK HM HM3 heb hS3'
  cases hm : rdM 4 r3 with
  | none =>
    obtain rfl : out = none := by rw [← HOUT.out, hm]; rfl
    have HM4 := Lib.hid hm
    clear hm
    go_wp2_with (go_at_call 48; (with_reducible refine (many4_none _ rb r3 0 B.rdr HM4.out).mono ?_); rintro e w9 ⟨rfl, hS9, hR9⟩)
    exact ⟨rfl, B.st.trans hS9, rfl, hR9⟩
  | some pn =>
  obtain ⟨n, q⟩ := pn
  have hn4 := takeU324_lt (rdM_some hm).1
  have HOL : Hid (((rdL (fun x => rdC x) n q).bind fun l => some ((⟨kd, sr, sq, V.none, l.1⟩ : En), l.2)) = out) := by have := HOUT.out; rw [hm] at this; exact this
  have HM4 := Lib.hid hm
  clear hm HOUT
  go_wp2_with (go_at_call 48; (with_reducible refine (many4_some _ rb r3 0 B.rdr HM4.out).mono ?_); rintro e w4 ⟨rfl, hR4, hS4⟩)
  have BN := B.next hS4 hR4
  have LE0 : LE w w4 rb eb kd sr sq q 0 none 0 0 [] [] q := ⟨rfl, rfl, rfl, hR4, BN.st, BN.res, BN.box, Row.nil _ _ _ _ _, BN.lo, hlt⟩
  clear BN B hR4 HM4 y0
  go_loopw [24] (fun i wr => ∃ (j : Nat) (a : Option Addr) (m c : Nat) (xs : List Cm) (cs : List CC) (rj : List UInt8), j ≤ n ∧ i = .int .i64 j ∧ LE w wr rb eb kd sr sq q j a m c xs cs rj) (fun i _ => n - (intOf i).toNat)
  case atStart => exact ⟨0, none, 0, 0, [], [], q, Nat.zero_le _, rfl, LE0⟩
  case round =>
    clear LE0
    obtain ⟨j, a, m, c, xs, cs, rj, hj, rfl, L⟩ := hrel
    have y8 := L.box.at_ 8 _ rfl
    have p8 := L.box.fr 8
    have hvlt := L.box.lt
    have hlo := L.lo
    by_cases hlt2 : j < n
    · have HO2 : Hid (∀ W, RStep wr.drew W rb → W.ownsRow (eb + 1) 70 12 (.slice a m c) j (cs.flatMap ccells) ∧ W.cell? ⟨eb, 8, none⟩ = some (.slice a m c) ∧ W.frozen? ⟨eb, 8, none⟩ = false ∧ eb < W.heap.size) := by
        intro W hW
        have ho := ((L.row.later (PC.closed xs cs) (.of_below rb (drew_below wr)) (by omega)).later (PC.closed xs cs) hW (by omega)).own
        rw [L.len] at ho
        exact ⟨ho, hW.cell (w := wr.drew) y8 (by omega), (hW.frozen (w := wr.drew) hvlt (by omega)).trans p8, Nat.lt_of_lt_of_le hvlt hW.size⟩
      have hne : (Value.slice a m c).ownBlock ≠ some eb := fun e => by have := (L.row.lt _ e).1; omega
      have HC : Hid (Calls Tryd.prog 49 #[.pointer (some ⟨rb, 0, none⟩)] wr.drew (RCPost wr.drew rb 0 (rdC rj))) := rComp_any wr.drew rb rj (L.rdr.of_below (drew_below wr)) rfl
      cases hx : rdC rj with
      | none =>
        obtain rfl : out = none := by
          rw [← HOL.out, rdL_none (f := fun x => rdC x) (i := j + 1) (n := n) (by rw [rdL, L.rd]; simp only [Option.bind_some, hx]; rfl) (by omega)]; rfl
        rw [hx] at HC
        have LL := Lib.hid L
        clear hx L
        go_wp2_with fail
        refine wp_region_panicP [] (fun w' => RStep wr.drew w' rb ∧ ∃ bs', Rdr w' rb bs' 0) (fun a w' hD hw => ?_) ?_
        · obtain ⟨hS4, bs4, hR4⟩ := hw
          exact ⟨hD, (LL.out.st.trans (.of_below rb (drew_below wr))).trans hS4, rfl, bs4, hR4⟩
        go_region_law
          (first
            | (go_simp; go_at_call 49; refine (HC.out).mono ?_; intro e w4 hP; by_cases hv : e = .returned (.agg #[.int .u8 0, .slice none 0 0, .string { data := #[] }, .int .i64 0, .int .i64 0, .int .i64 0, .int .u8 0, .int .i64 0, .string { data := #[] }, .slice none 0 0, .slice none 0 0, .string { data := #[] }]); rotate_left; (focus (obtain ⟨hS4, he, hR4⟩ := hP; subst he; exact ⟨rfl, rfl, hS4, hR4⟩)); obtain ⟨hS4, he, hR4⟩ := hP; rw [hv] at he; have HF := Lib.hid he; clear he; subst hv; obtain ⟨ho4, hc4, hf4, hv4⟩ := HO2.out w4 hS4)
            | (refine step_append_lies _ (by rfl) _ _ _ (by rfl) (eb + 1) 70 i0 _ 12 168 (by kernel_rfl) hi0 hz0 hz1 hz2 rfl (by omega) (.slice a m c) j (cs.flatMap ccells) (by rfl) (ho4.alloc _) ⟨w4.heap.size, 0, none⟩ 1 1 (ccells czero) (by rfl) (by rfl) (World.news_of_block (t := 70) (fr := (0, 0)) (heap_alloc_new w4 _)) (by simp [ccells, Value.oneCell']) (by omega) (by unfold maxLen; omega) (by omega) (by simp; omega) (w4.heap.size + 1) (by simp) ?_; intro g cap w5 hown5 hgrow5 hat5 hlt5; have hc5 : w5.cell? ⟨eb, 8, none⟩ = some (.slice a m c) := (hgrow5.cell_far ⟨eb, 8, none⟩ (by simp; omega) (Ne.symm hne)).trans (keep_cell ((Below.refl _ _).alloc (Nat.le_refl _) _) hc4 hv4); have hf5 : w5.frozen? ⟨eb, 8, none⟩ = false := (hgrow5.frozen_far ⟨eb, 8, none⟩ (by simp; omega) (Ne.symm hne)).trans ((((Below.refl _ _).alloc (Nat.le_refl _) _ : Below w4.heap.size w4 (w4.alloc _)).frozen (p := ⟨eb, 8, none⟩) hv4).trans hf4)))
        all_goals cases HF.out
      | some xr =>
      obtain ⟨x, q3⟩ := xr
      have HX := Lib.hid hx
      have LL := Lib.hid L
      rw [hx] at HC
      clear hx L
      go_wp2_with fail
      refine wp_region_noPanic ?_
      go_region_law
        (first
          | (go_simp; go_at_call 49; refine (HC.out).mono ?_; rintro e w4 ⟨hS4, ⟨cx, rfl, hI4⟩, hR4⟩; have HI4 := Lib.hid hI4; clear hI4; obtain ⟨ho4, hc4, hf4, hv4⟩ := HO2.out w4 hS4)
          | (refine step_append_lies _ (by rfl) _ _ _ (by rfl) (eb + 1) 70 i0 _ 12 168 (by kernel_rfl) hi0 hz0 hz1 hz2 rfl (by omega) (.slice a m c) j (cs.flatMap ccells) (by rfl) (ho4.alloc _) ⟨w4.heap.size, 0, none⟩ 1 1 (ccells cx) (by rfl) (by rfl) (World.news_of_block (t := 70) (fr := (0, 0)) (heap_alloc_new w4 _)) (by simp [ccells, Value.oneCell']) (by omega) (by unfold maxLen; omega) (by omega) (by simp; omega) (w4.heap.size + 1) (by simp) ?_; intro g cap w5 hown5 hgrow5 hat5 hlt5; have hc5 : w5.cell? ⟨eb, 8, none⟩ = some (.slice a m c) := (hgrow5.cell_far ⟨eb, 8, none⟩ (by simp; omega) (Ne.symm hne)).trans (keep_cell ((Below.refl _ _).alloc (Nat.le_refl _) _) hc4 hv4); have hf5 : w5.frozen? ⟨eb, 8, none⟩ = false := (hgrow5.frozen_far ⟨eb, 8, none⟩ (by simp; omega) (Ne.symm hne)).trans ((((Below.refl _ _).alloc (Nat.le_refl _) _ : Below w4.heap.size w4 (w4.alloc _)).frozen (p := ⟨eb, 8, none⟩) hv4).trans hf4)))
      all_goals
        refine NoPanic.normal ?_
        go_wp2_with fail
        go_roundw
        case rel => exact ⟨j + 1, some ⟨g, 0, none⟩, j + 1, cap, xs ++ [x], cs ++ [cx], q3, by omega, by go_num, LL.out.round HX.out hS4 HI4.out hR4 hown5 hgrow5 hat5⟩
        case measure => simp [intOf]; omega
    · have hjn : j = n := by omega
      subst hjn
      obtain rfl : out = some (⟨kd, sr, sq, V.none, xs⟩, rj) := by rw [← HOL.out, L.rd]; rfl
      have B := LE.eb L (by omega)
      clear L HOL y8 p8
      have y0 := B.box.at_ 0 _ rfl
      have y1 := B.box.at_ 1 _ rfl
      have y2 := B.box.at_ 2 _ rfl
      have y3 := B.box.at_ 3 _ rfl
      have y4 := B.box.at_ 4 _ rfl
      have y5 := B.box.at_ 5 _ rfl
      have y6 := B.box.at_ 6 _ rfl
      have y7 := B.box.at_ 7 _ rfl
      have y8 := B.box.at_ 8 _ rfl
      have r0 := B.res.at_ 0 _ rfl
      have gr0 := B.res.fr 0
      have r1 := B.res.at_ 1 _ rfl
      have gr1 := B.res.fr 1
      have r2 := B.res.at_ 2 _ rfl
      have gr2 := B.res.fr 2
      have r3 := B.res.at_ 3 _ rfl
      have gr3 := B.res.fr 3
      have r4 := B.res.at_ 4 _ rfl
      have gr4 := B.res.fr 4
      have r5 := B.res.at_ 5 _ rfl
      have gr5 := B.res.fr 5
      have r6 := B.res.at_ 6 _ rfl
      have gr6 := B.res.fr 6
      have r7 := B.res.at_ 7 _ rfl
      have gr7 := B.res.fr 7
      have r8 := B.res.at_ 8 _ rfl
      have gr8 := B.res.fr 8
      go_wp2_with fail
      exact B.leave (bnd _ _ _ _) rfl rfl rfl
end Go.Proofs.YtcfbnmobfcabiaaDoor
namespace Go.Proofs.YtcfbnmobfcabiaaDoor
open Go.RowKit
theorem re_none (w : World) (rb : Nat) (bs : List UInt8) (h : Rdr w rb bs 0) (hr : rdE bs = none) :
    Calls Tryd.prog 21 #[.pointer (some ⟨rb, 0, none⟩)] w fun e w' => e = .panicked [short] ∧ RStep w w' rb ∧ ∃ bs', Rdr w' rb bs' 0 :=
  (rEntry_any w rb bs h hr).mono fun _ _ ⟨h1, h2, h3⟩ => ⟨h2, h1, h3⟩
theorem re_some (w : World) (rb : Nat) (bs : List UInt8) (h : Rdr w rb bs 0) {x : En} {r : List UInt8} (hr : rdE bs = some (x, r)) :
    Calls Tryd.prog 21 #[.pointer (some ⟨rb, 0, none⟩)] w fun e w' => ∃ c : EC, e = .returned (.agg #[.int .u8 c.k, .int .u32 c.src, .int .u32 c.seq, .int .u8 c.v.k, .int .i64 c.v.n, .string c.v.s, .slice c.v.la c.v.ll c.v.lc, .slice c.v.oa c.v.ol c.v.oc, .slice c.oa c.ol c.oc]) ∧ RStep w w' rb ∧ IsEntry (only (fun b => w.heap.size ≤ b) w') w'.heap.size x c ∧ Rdr w' rb r 0 :=
  (rEntry_any w rb bs h hr).mono fun _ _ ⟨h1, ⟨c, h2, h3⟩, h4⟩ => ⟨c, h2, h1, h3, h4⟩
theorem encode_e (sd : Bool) (w : World) (c : EC) (x : En) (hx : IsEntry w w.heap.size x c) (HS : Hid (∀ W, Below w.heap.size w W → Calls Tryd.prog 30 #[.agg #[.int .u8 c.k, .int .u32 c.src, .int .u32 c.seq, .int .u8 c.v.k, .int .i64 c.v.n, .string c.v.s, .slice c.v.la c.v.ll c.v.lc, .slice c.v.oa c.v.ol c.v.oc, .slice c.oa c.ol c.oc]] W fun e w' => e = .returned (.bool sd) ∧ Below W.heap.size W w')) (hsz : (encE x).length ≤ 70368744177664) :
    Calls Tryd.prog 13 #[.agg #[.int .u8 c.k, .int .u32 c.src, .int .u32 c.seq, .int .u8 c.v.k, .int .i64 c.v.n, .string c.v.s, .slice c.v.la c.v.ll c.v.lc, .slice c.v.oa c.v.ol c.v.oc, .slice c.oa c.ol c.oc]] w fun e w' => (∃ a n cc, e = .returned (.tuple #[.slice a n cc, .int .u16 (outN sd (encE x))]) ∧ IsB w' w'.heap.size a n cc (outB sd (encE x))) ∧ Below w.heap.size w w' := by
  cases hx with
  | mk c v l hb hv ho =>
    obtain ⟨k, src, seq, ⟨vk, vn, vs, vla, vll, vlc, voa, vol, voc⟩, oa, ol, oc⟩ := c
    exact encode_of sd w k src seq vk vn vs vla vll vlc voa vol voc oa ol oc v l hb.k0 hb.k1 hv ho HS hsz
theorem results_wholeE {tmps : Array Value} {W : World} {b b' : Nat} {c : EC} {x : Value} (ht : tmps[6]? = some (.pointer (some ⟨b, 0, none⟩))) (ht' : tmps[7]? = some (.pointer (some ⟨b', 0, none⟩))) (h : BC W b [.int .u8 c.k, .int .u32 c.src, .int .u32 c.seq, .int .u8 c.v.k, .int .i64 c.v.n, .string c.v.s, .slice c.v.la c.v.ll c.v.lc, .slice c.v.oa c.v.ol c.v.oc, .slice c.oa c.ol c.oc]) (h' : BC W b' [x]) :
    (results Tryd.f20 tmps).run Tryd.prog W = .ok (.tuple #[.agg #[.int .u8 c.k, .int .u32 c.src, .int .u32 c.seq, .int .u8 c.v.k, .int .i64 c.v.n, .string c.v.s, .slice c.v.la c.v.ll c.v.lc, .slice c.v.oa c.v.ol c.v.oc, .slice c.oa c.ol c.oc], x]) W := by
  have r0 := h.at_ 0 _ rfl; have r1 := h.at_ 1 _ rfl; have r2 := h.at_ 2 _ rfl; have r3 := h.at_ 3 _ rfl; have r4 := h.at_ 4 _ rfl; have r5 := h.at_ 5 _ rfl; have r6 := h.at_ 6 _ rfl; have r7 := h.at_ 7 _ rfl; have r8 := h.at_ 8 _ rfl
  have s0 := h'.at_ 0 _ rfl
  simp [results, Tryd.results20, go_sem, ht, ht', s0, r0, r1, r2, r3, r4, r5, r6, r7, r8]
def WEPost (w : World) (r : En × Int) (e : Ending) (w' : World) : Prop :=
  (∃ c : EC, e = .returned (.tuple #[.agg #[.int .u8 c.k, .int .u32 c.src, .int .u32 c.seq, .int .u8 c.v.k, .int .i64 c.v.n, .string c.v.s, .slice c.v.la c.v.ll c.v.lc, .slice c.v.oa c.v.ol c.v.oc, .slice c.oa c.ol c.oc], .int .u16 r.2]) ∧ IsEntry (only (fun b => w.heap.size ≤ b) w') w'.heap.size r.1 c) ∧ Below w.heap.size w w'
theorem wdoorE_short {tmps : Array Value} {w W : World} {cs : List Value} {x : Value} (H : WH w W ez cs x) (hl : cs.length = 9) (ht : tmps[6]? = some (.pointer (some ⟨w.heap.size, 0, none⟩))) (ht' : tmps[7]? = some (.pointer (some ⟨w.heap.size + 1, 0, none⟩))) :
    Leaves Tryd.prog Tryd.f20 tmps (WEPost w (En.none, 100)) [{ target := .fn (.func 44) #[.pointer (some ⟨w.heap.size + 1 + 1, 0, none⟩), .pointer (some ⟨w.heap.size, 0, none⟩), .pointer (some ⟨w.heap.size + 1, 0, none⟩)], args := #[] }] (.panicking [short]) W := by
  refine leaves_cons (f := 44) (args := #[.pointer (some ⟨w.heap.size + 1 + 1, 0, none⟩), .pointer (some ⟨w.heap.size, 0, none⟩), .pointer (some ⟨w.heap.size + 1, 0, none⟩)]) (by simp) (by simp [go_sem]) ?_
  refine (catchE_short (w.heap.size + 2) w.heap.size (w.heap.size + 1) W H.non cs H.out hl x H.err (by omega) (by omega)).mono ?_
  rintro e u' w'' ⟨rfl, rfl, hw⟩
  show Leaves _ _ _ _ [] .returning w''
  obtain ⟨W1, hW1⟩ : ∃ W1, (((((((((W.setCell ⟨w.heap.size, 0, none⟩ (.int .u8 0)).setCell ⟨w.heap.size, 1, none⟩ (.int .u32 0)).setCell ⟨w.heap.size, 2, none⟩ (.int .u32 0)).setCell ⟨w.heap.size, 3, none⟩ (.int .u8 0)).setCell ⟨w.heap.size, 4, none⟩ (.int .i64 0)).setCell ⟨w.heap.size, 5, none⟩ (.string { data := #[] })).setCell ⟨w.heap.size, 6, none⟩ (.slice none 0 0)).setCell ⟨w.heap.size, 7, none⟩ (.slice none 0 0)).setCell ⟨w.heap.size, 8, none⟩ (.slice none 0 0)) = W1 := ⟨_, rfl⟩
  have c1 : BC W1 w.heap.size ez := by
    rw [← hW1]
    match cs, hl, H.out with
    | [z0, z1, z2, z3, z4, z5, z6, z7, z8], _, ho => exact (((((((((ho.set (i := 0) (x := .int .u8 0) (by simp)).set (i := 1) (x := .int .u32 0) (by simp)).set (i := 2) (x := .int .u32 0) (by simp)).set (i := 3) (x := .int .u8 0) (by simp)).set (i := 4) (x := .int .i64 0) (by simp)).set (i := 5) (x := .string { data := #[] }) (by simp)).set (i := 6) (x := .slice none 0 0) (by simp)).set (i := 7) (x := .slice none 0 0) (by simp)).set (i := 8) (x := .slice none 0 0) (by simp))
  have e1 : BC W1 (w.heap.size + 1) [x] := by
    rw [← hW1]
    exact (((((((((H.err.far (by omega)).far (by omega)).far (by omega)).far (by omega)).far (by omega)).far (by omega)).far (by omega)).far (by omega)).far (by omega))
  have s1 : RStep W W1 w.heap.size := by rw [← hW1]; exact (((((((RStep.self.trans RStep.self).trans RStep.self).trans RStep.self).trans RStep.self).trans RStep.self).trans RStep.self).trans RStep.self).trans RStep.self
  rw [hW1] at hw
  have c2 : BC (W1.setCell ⟨w.heap.size + 1, 0, none⟩ (.int .u16 100)) w.heap.size ez := c1.far (by omega)
  have e2 : BC (W1.setCell ⟨w.heap.size + 1, 0, none⟩ (.int .u16 100)) (w.heap.size + 1) [.int .u16 100] := e1.set (i := 0) (x := .int .u16 100) (by simp)
  have hb : Below (W1.setCell ⟨w.heap.size + 1, 0, none⟩ (.int .u16 100)).heap.size (W1.setCell ⟨w.heap.size + 1, 0, none⟩ (.int .u16 100)) w'' := by rw [hw]; exact (Below.refl _ _).alloc (Nat.le_refl _) _
  have s2 : RStep W1 (W1.setCell ⟨w.heap.size + 1, 0, none⟩ (.int .u16 100)) (w.heap.size + 1) := RStep.self
  have hlt := H.out.lt
  have hB : Below w.heap.size w w'' := by
    have b1 : Below w.heap.size W W1 := s1.below (by omega)
    have b2 : Below w.heap.size W1 (W1.setCell ⟨w.heap.size + 1, 0, none⟩ (.int .u16 100)) := (s2.below (by have := s1.size; have := H.err.lt; omega)).mono (by omega)
    have z1 := s1.size
    have z2 := s2.size
    exact ((H.below.trans b1).trans b2).trans (hb.mono (by omega))
  exact ⟨_, results_wholeE (c := ezero) ht ht' (c2.keep hb c2.lt) (e2.keep hb e2.lt), ⟨ezero, rfl, isEntry_none _ _⟩, hB⟩
theorem wdoorE_idle {tmps : Array Value} {w W : World} {c : EC} {v : En} {x : Int} (H : WH w W ez [.int .u8 c.k, .int .u32 c.src, .int .u32 c.seq, .int .u8 c.v.k, .int .i64 c.v.n, .string c.v.s, .slice c.v.la c.v.ll c.v.lc, .slice c.v.oa c.v.ol c.v.oc, .slice c.oa c.ol c.oc] (.int .u16 x)) (hv : IsEntry (only (fun b => w.heap.size ≤ b) W) W.heap.size v c) (ht : tmps[6]? = some (.pointer (some ⟨w.heap.size, 0, none⟩))) (ht' : tmps[7]? = some (.pointer (some ⟨w.heap.size + 1, 0, none⟩))) :
    Leaves Tryd.prog Tryd.f20 tmps (WEPost w (v, x)) [{ target := .fn (.func 44) #[.pointer (some ⟨w.heap.size + 1 + 1, 0, none⟩), .pointer (some ⟨w.heap.size, 0, none⟩), .pointer (some ⟨w.heap.size + 1, 0, none⟩)], args := #[] }] .returning W := by
  refine leaves_cons (f := 44) (args := #[.pointer (some ⟨w.heap.size + 1 + 1, 0, none⟩), .pointer (some ⟨w.heap.size, 0, none⟩), .pointer (some ⟨w.heap.size + 1, 0, none⟩)]) (by simp) (by simp [go_sem]) ?_
  refine (catchE_idle (w.heap.size + 2) w.heap.size (w.heap.size + 1) W).mono ?_
  rintro e u' w'' ⟨rfl, rfl, rfl⟩
  exact ⟨_, results_wholeE ht ht' H.out H.err, ⟨c, rfl, hv⟩, H.below⟩
theorem WH.storeE {w W : World} {z0 z1 z2 z3 z4 z5 z6 z7 z8 x : Value} (h : WH w W ez [z0, z1, z2, z3, z4, z5, z6, z7, z8] x) (c : EC) : WH w ((((((((((W.setCell ⟨w.heap.size, 0, none⟩ (.int .u8 c.k)).setCell ⟨w.heap.size, 1, none⟩ (.int .u32 c.src)).setCell ⟨w.heap.size, 2, none⟩ (.int .u32 c.seq)).setCell ⟨w.heap.size, 3, none⟩ (.int .u8 c.v.k)).setCell ⟨w.heap.size, 4, none⟩ (.int .i64 c.v.n)).setCell ⟨w.heap.size, 5, none⟩ (.string c.v.s)).setCell ⟨w.heap.size, 6, none⟩ (.slice c.v.la c.v.ll c.v.lc)).setCell ⟨w.heap.size, 7, none⟩ (.slice c.v.oa c.v.ol c.v.oc)).setCell ⟨w.heap.size, 8, none⟩ (.slice c.oa c.ol c.oc))) ez [.int .u8 c.k, .int .u32 c.src, .int .u32 c.seq, .int .u8 c.v.k, .int .i64 c.v.n, .string c.v.s, .slice c.v.la c.v.ll c.v.lc, .slice c.v.oa c.v.ol c.v.oc, .slice c.oa c.ol c.oc] x ∧ RStep W ((((((((((W.setCell ⟨w.heap.size, 0, none⟩ (.int .u8 c.k)).setCell ⟨w.heap.size, 1, none⟩ (.int .u32 c.src)).setCell ⟨w.heap.size, 2, none⟩ (.int .u32 c.seq)).setCell ⟨w.heap.size, 3, none⟩ (.int .u8 c.v.k)).setCell ⟨w.heap.size, 4, none⟩ (.int .i64 c.v.n)).setCell ⟨w.heap.size, 5, none⟩ (.string c.v.s)).setCell ⟨w.heap.size, 6, none⟩ (.slice c.v.la c.v.ll c.v.lc)).setCell ⟨w.heap.size, 7, none⟩ (.slice c.v.oa c.v.ol c.v.oc)).setCell ⟨w.heap.size, 8, none⟩ (.slice c.oa c.ol c.oc))) w.heap.size := by
  have s1 : RStep W ((((((((((W.setCell ⟨w.heap.size, 0, none⟩ (.int .u8 c.k)).setCell ⟨w.heap.size, 1, none⟩ (.int .u32 c.src)).setCell ⟨w.heap.size, 2, none⟩ (.int .u32 c.seq)).setCell ⟨w.heap.size, 3, none⟩ (.int .u8 c.v.k)).setCell ⟨w.heap.size, 4, none⟩ (.int .i64 c.v.n)).setCell ⟨w.heap.size, 5, none⟩ (.string c.v.s)).setCell ⟨w.heap.size, 6, none⟩ (.slice c.v.la c.v.ll c.v.lc)).setCell ⟨w.heap.size, 7, none⟩ (.slice c.v.oa c.v.ol c.v.oc)).setCell ⟨w.heap.size, 8, none⟩ (.slice c.oa c.ol c.oc))) w.heap.size := (((((((RStep.self.trans RStep.self).trans RStep.self).trans RStep.self).trans RStep.self).trans RStep.self).trans RStep.self).trans RStep.self).trans RStep.self
  have hlt := h.out.lt
  exact ⟨⟨(((((((((h.out.set (i := 0) (x := .int .u8 c.k) (by simp)).set (i := 1) (x := .int .u32 c.src) (by simp)).set (i := 2) (x := .int .u32 c.seq) (by simp)).set (i := 3) (x := .int .u8 c.v.k) (by simp)).set (i := 4) (x := .int .i64 c.v.n) (by simp)).set (i := 5) (x := .string c.v.s) (by simp)).set (i := 6) (x := .slice c.v.la c.v.ll c.v.lc) (by simp)).set (i := 7) (x := .slice c.v.oa c.v.ol c.v.oc) (by simp)).set (i := 8) (x := .slice c.oa c.ol c.oc) (by simp)), h.err.next s1 (by omega), h.non.next s1 (by omega), h.below.trans (s1.below (by omega))⟩, s1⟩
set_option maxHeartbeats 4000000 in
set_option maxRecDepth 100000 in
theorem wholeE_none (w : World) (a : Option Addr) (n c : Nat) (bs : List UInt8) (h : IsB w w.heap.size a n c bs) (hn : bs.length ≤ 60000) (hr : rdE bs = none) :
    Calls Tryd.prog 20 #[.slice a n c, .func (.func 21) #[] #[], .func (.func 13) #[] #[]] w (WEPost w (En.none, 100)) := by
  have hmf : ∀ (fn : Fn) (first cap : Array Value) (w : World), (Instr.makeFunc fn first cap).run Tryd.prog w = .ok (.func fn first cap) w := fun _ _ _ _ => rfl
  have HS := Lib.hid (WH.start w ez bs a n c h)
  have hnn := h.len
  have hn2 : ¬ 60000 < n := by omega
  clear h hnn hn
  go_enter_defers Tryd.func20, Tryd.ntmps20
  go_wp2_with (go_at_call 21; refine (re_none _ (w.heap.size + 3) bs (HS.out _ _ _ _ _ rfl).2.1 hr).mono ?_; rintro e w4 ⟨rfl, hS4, hR4⟩)
  have HH := HS.out _ _ _ _ _ hS4.src
  exact wdoorE_short (HH.1.read hS4 (by omega)) rfl rfl rfl
set_option maxHeartbeats 4000000 in
set_option maxRecDepth 100000 in
theorem wholeE_long (w : World) (a : Option Addr) (n c : Nat) (bs : List UInt8) (h : IsB w w.heap.size a n c bs) (hn : 60000 < bs.length) :
    Calls Tryd.prog 20 #[.slice a n c, .func (.func 21) #[] #[], .func (.func 13) #[] #[]] w (WEPost w (En.none, 3)) := by
  have hnn := h.len
  have hn2 : 60000 < n := by omega
  clear h hnn hn
  go_enter_defers Tryd.func20, Tryd.ntmps20
  go_wp2_with fail
  obtain ⟨w1, hw1⟩ : ∃ w1, w.alloc (.cells ez.toArray 31) = w1 := ⟨_, rfl⟩
  have s1 : w1.heap.size = w.heap.size + 1 := by rw [← hw1, World.size_alloc]
  have b1 : Below w.heap.size w w1 := by rw [← hw1]; exact (Below.refl _ _).alloc (Nat.le_refl _) _
  have c1 : BC w1 w.heap.size ez := by rw [← hw1]; exact BC.start w ez.toArray _
  obtain ⟨w2, hw2⟩ : ∃ w2, w1.alloc (.cells #[.int .u16 3] 33) = w2 := ⟨_, rfl⟩
  have s2 : w2.heap.size = w.heap.size + 2 := by rw [← hw2, World.size_alloc, s1]
  have b2 : Below w1.heap.size w1 w2 := by rw [← hw2]; exact (Below.refl _ _).alloc (Nat.le_refl _) _
  have c2 : BC w2 (w.heap.size + 1) [.int .u16 3] := by rw [← hw2, ← s1]; exact BC.start w1 #[.int .u16 3] _
  have b3 : Below w2.heap.size w2 (w2.alloc (.cells ez.toArray 31)) := (Below.refl _ _).alloc (Nat.le_refl _) _
  have hB : Below w.heap.size w (w2.alloc (.cells ez.toArray 31)) := (b1.trans (b2.mono (by omega))).trans (b3.mono (by omega))
  have hfin : WEPost w (En.none, 3) (.returned (.tuple #[.agg #[.int .u8 ezero.k, .int .u32 ezero.src, .int .u32 ezero.seq, .int .u8 ezero.v.k, .int .i64 ezero.v.n, .string ezero.v.s, .slice ezero.v.la ezero.v.ll ezero.v.lc, .slice ezero.v.oa ezero.v.ol ezero.v.oc, .slice ezero.oa ezero.ol ezero.oc], .int .u16 3])) (w2.alloc (.cells ez.toArray 31)) := ⟨⟨ezero, rfl, isEntry_none _ _⟩, hB⟩
  have hres := fun tmps ht ht' => results_wholeE (tmps := tmps) (c := ezero) ht ht' ((c1.keep b2 (by omega)).keep b3 (by omega)) (c2.keep b3 (by omega))
  rw [← hw2, ← hw1] at hfin hres
  exact ⟨_, hres _ rfl rfl, hfin⟩
set_option maxHeartbeats 8000000 in
set_option maxRecDepth 100000 in
theorem wholeE_bad (w : World) (a : Option Addr) (n c : Nat) (bs : List UInt8) (h : IsB w w.heap.size a n c bs) (hn : bs.length ≤ 60000) {v : En} {r : List UInt8} (hr : rdE bs = some (v, r)) (hsz : (encE v).length ≤ 70368744177664) (sd : Bool)
    (HLV : Hid (∀ W5, Below w.heap.size w W5 → ∀ cv : EC, IsEntry W5 W5.heap.size v cv → Hid (∀ W, Below W5.heap.size W5 W → Calls Tryd.prog 30 #[.agg #[.int .u8 cv.k, .int .u32 cv.src, .int .u32 cv.seq, .int .u8 cv.v.k, .int .i64 cv.v.n, .string cv.v.s, .slice cv.v.la cv.v.ll cv.v.lc, .slice cv.v.oa cv.v.ol cv.v.oc, .slice cv.oa cv.ol cv.oc]] W fun e w' => e = .returned (.bool sd) ∧ Below W.heap.size W w'))) (hbad : outN sd (encE v) ≠ 0) :
    Calls Tryd.prog 20 #[.slice a n c, .func (.func 21) #[] #[], .func (.func 13) #[] #[]] w (WEPost w (En.none, 100)) := by
  have hmf : ∀ (fn : Fn) (first cap : Array Value) (w : World), (Instr.makeFunc fn first cap).run Tryd.prog w = .ok (.func fn first cap) w := fun _ _ _ _ => rfl
  have HS := Lib.hid (WH.start w ez bs a n c h)
  have hnn := h.len
  have hn2 : ¬ 60000 < n := by omega
  obtain ⟨en, hen⟩ : ∃ en, encE v = en := ⟨_, rfl⟩
  have HEN := Lib.hid hen
  obtain ⟨N, hN⟩ : ∃ N, outN sd en = N := ⟨_, rfl⟩
  have HN := Lib.hid hN
  rw [hen, hN] at hbad
  have fN : (N == 0) = false := by simpa using hbad
  have fN2 : (N != 0) = true := by simpa using hbad
  have fN3 : decide (N = 0) = false := by simpa using hbad
  clear h hnn hn hen hN
  go_enter_defers Tryd.func20, Tryd.ntmps20
  go_wp2_with (first | (go_at_call 21; refine (re_some _ (w.heap.size + 3) bs (HS.out _ _ _ _ _ rfl).2.1 hr).mono ?_; rintro e w4 ⟨cv, rfl, hS4, hI4, hR4⟩; have HH := HS.out _ _ _ _ _ hS4.src; have H4 := HH.1.read hS4 (by omega); have O := H4.out; have o0 := O.at_ 0 _ rfl; have g0 := O.fr 0; have o1 := O.at_ 1 _ rfl; have g1 := O.fr 1; have o2 := O.at_ 2 _ rfl; have g2 := O.fr 2; have o3 := O.at_ 3 _ rfl; have g3 := O.fr 3; have o4 := O.at_ 4 _ rfl; have g4 := O.fr 4; have o5 := O.at_ 5 _ rfl; have g5 := O.fr 5; have o6 := O.at_ 6 _ rfl; have g6 := O.fr 6; have o7 := O.at_ 7 _ rfl; have g7 := O.fr 7; have o8 := O.at_ 8 _ rfl; have g8 := O.fr 8; have H5 := H4.storeE cv; have hV5 := (isEntry_far (hI4.sub (shows_step (S' := fun b => w.heap.size + 4 ≤ b) fun k hk _ => ⟨by have := HH.2.2; omega, rfl⟩)) H5.2 (by omega)).sub (shows_only _ _ _); have HV5 := Lib.hid hV5; have HH5 := Lib.hid H5.1; clear hI4 hV5 H5 H4 HH O) | (go_at_call 13; refine (encode_e sd _ cv v HV5.out (HLV.out _ HH5.out.below cv HV5.out) hsz).mono ?_; rw [HEN.out]; rintro e w6 ⟨⟨ra, rn, rc, rfl, hI6⟩, hb6⟩; rw [HN.out]; have H6 := HH5.out.next hb6; clear hI6; have o0 := H6.out.at_ 0 _ rfl; have g0 := H6.out.fr 0; have n0 := H6.non.at_ 0 _ rfl; have o1 := H6.out.at_ 1 _ rfl; have g1 := H6.out.fr 1; have n1 := H6.non.at_ 1 _ rfl; have o2 := H6.out.at_ 2 _ rfl; have g2 := H6.out.fr 2; have n2 := H6.non.at_ 2 _ rfl; have o3 := H6.out.at_ 3 _ rfl; have g3 := H6.out.fr 3; have n3 := H6.non.at_ 3 _ rfl; have o4 := H6.out.at_ 4 _ rfl; have g4 := H6.out.fr 4; have n4 := H6.non.at_ 4 _ rfl; have o5 := H6.out.at_ 5 _ rfl; have g5 := H6.out.fr 5; have n5 := H6.non.at_ 5 _ rfl; have o6 := H6.out.at_ 6 _ rfl; have g6 := H6.out.fr 6; have n6 := H6.non.at_ 6 _ rfl; have o7 := H6.out.at_ 7 _ rfl; have g7 := H6.out.fr 7; have n7 := H6.non.at_ 7 _ rfl; have o8 := H6.out.at_ 8 _ rfl; have g8 := H6.out.fr 8; have n8 := H6.non.at_ 8 _ rfl; have x0 := H6.err.at_ 0 _ rfl; have xf := H6.err.fr 0; have HH6 := Lib.hid H6; clear H6))
  refine wdoorE_idle (c := ezero) (v := En.none) ?_ ?_ ?_ ?_
  · exact (HH6.out.storeE ezero).1.setErr
  · exact isEntry_none _ _
  · rfl
  · rfl
set_option maxHeartbeats 8000000 in
set_option maxRecDepth 100000 in
theorem wholeE_neq (w : World) (a : Option Addr) (n c : Nat) (bs : List UInt8) (h : IsB w w.heap.size a n c bs) (hn : bs.length ≤ 60000) {v : En} {r : List UInt8} (hr : rdE bs = some (v, r)) (hsz : (encE v).length ≤ 70368744177664) (sd : Bool)
    (HLV : Hid (∀ W5, Below w.heap.size w W5 → ∀ cv : EC, IsEntry W5 W5.heap.size v cv → Hid (∀ W, Below W5.heap.size W5 W → Calls Tryd.prog 30 #[.agg #[.int .u8 cv.k, .int .u32 cv.src, .int .u32 cv.seq, .int .u8 cv.v.k, .int .i64 cv.v.n, .string cv.v.s, .slice cv.v.la cv.v.ll cv.v.lc, .slice cv.v.oa cv.v.ol cv.v.oc, .slice cv.oa cv.ol cv.oc]] W fun e w' => e = .returned (.bool sd) ∧ Below W.heap.size W w'))) (hok : outN sd (encE v) = 0) (heq : eqBs (outB sd (encE v)) bs = false) :
    Calls Tryd.prog 20 #[.slice a n c, .func (.func 21) #[] #[], .func (.func 13) #[] #[]] w (WEPost w (En.none, 100)) := by
  have hmf : ∀ (fn : Fn) (first cap : Array Value) (w : World), (Instr.makeFunc fn first cap).run Tryd.prog w = .ok (.func fn first cap) w := fun _ _ _ _ => rfl
  have HS := Lib.hid (WH.start w ez bs a n c h)
  have HI := Lib.hid h
  have hnn := h.len
  have hn2 : ¬ 60000 < n := by omega
  obtain ⟨en, hen⟩ : ∃ en, encE v = en := ⟨_, rfl⟩
  rw [hen] at hok heq
  have HEN := Lib.hid hen
  have HN := Lib.hid hok
  have HE := Lib.hid heq
  clear h hnn hn hen hok heq
  go_enter_defers Tryd.func20, Tryd.ntmps20
  go_wp2_with (first | (go_at_call 21; refine (re_some _ (w.heap.size + 3) bs (HS.out _ _ _ _ _ rfl).2.1 hr).mono ?_; rintro e w4 ⟨cv, rfl, hS4, hI4, hR4⟩; have HH := HS.out _ _ _ _ _ hS4.src; have H4 := HH.1.read hS4 (by omega); have O := H4.out; have o0 := O.at_ 0 _ rfl; have g0 := O.fr 0; have o1 := O.at_ 1 _ rfl; have g1 := O.fr 1; have o2 := O.at_ 2 _ rfl; have g2 := O.fr 2; have o3 := O.at_ 3 _ rfl; have g3 := O.fr 3; have o4 := O.at_ 4 _ rfl; have g4 := O.fr 4; have o5 := O.at_ 5 _ rfl; have g5 := O.fr 5; have o6 := O.at_ 6 _ rfl; have g6 := O.fr 6; have o7 := O.at_ 7 _ rfl; have g7 := O.fr 7; have o8 := O.at_ 8 _ rfl; have g8 := O.fr 8; have H5 := H4.storeE cv; have hV5 := (isEntry_far (hI4.sub (shows_step (S' := fun b => w.heap.size + 4 ≤ b) fun k hk _ => ⟨by have := HH.2.2; omega, rfl⟩)) H5.2 (by omega)).sub (shows_only _ _ _); have HV5 := Lib.hid hV5; have HH5 := Lib.hid H5.1; clear hI4 hV5 H5 H4 HH O) | (go_at_call 13; refine (encode_e sd _ cv v HV5.out (HLV.out _ HH5.out.below cv HV5.out) hsz).mono ?_; rw [HEN.out]; rintro e w6 ⟨⟨ra, rn, rc, rfl, hI6⟩, hb6⟩; rw [HN.out]; have H6 := HH5.out.next hb6; have HI6 := Lib.hid hI6; clear hI6; have o0 := H6.out.at_ 0 _ rfl; have g0 := H6.out.fr 0; have n0 := H6.non.at_ 0 _ rfl; have o1 := H6.out.at_ 1 _ rfl; have g1 := H6.out.fr 1; have n1 := H6.non.at_ 1 _ rfl; have o2 := H6.out.at_ 2 _ rfl; have g2 := H6.out.fr 2; have n2 := H6.non.at_ 2 _ rfl; have o3 := H6.out.at_ 3 _ rfl; have g3 := H6.out.fr 3; have n3 := H6.non.at_ 3 _ rfl; have o4 := H6.out.at_ 4 _ rfl; have g4 := H6.out.fr 4; have n4 := H6.non.at_ 4 _ rfl; have o5 := H6.out.at_ 5 _ rfl; have g5 := H6.out.fr 5; have n5 := H6.non.at_ 5 _ rfl; have o6 := H6.out.at_ 6 _ rfl; have g6 := H6.out.fr 6; have n6 := H6.non.at_ 6 _ rfl; have o7 := H6.out.at_ 7 _ rfl; have g7 := H6.out.fr 7; have n7 := H6.non.at_ 7 _ rfl; have o8 := H6.out.at_ 8 _ rfl; have g8 := H6.out.fr 8; have n8 := H6.non.at_ 8 _ rfl; have x0 := H6.err.at_ 0 _ rfl; have xf := H6.err.fr 0; have HH6 := Lib.hid H6; clear H6))
  refine (equal_any w6 _ _ ra a rn n rc c _ bs HI6.out (HI.out.keep HH6.out.below)).mono ?_
  rw [HE.out]
  rintro e w7 ⟨rfl, rfl⟩
  go_wp2_with fail
  refine wdoorE_idle (c := ezero) (v := En.none) ?_ ?_ ?_ ?_
  · exact (HH6.out.storeE ezero).1.setErr
  · exact isEntry_none _ _
  · rfl
  · rfl
set_option maxHeartbeats 8000000 in
set_option maxRecDepth 100000 in
theorem wholeE_eq (w : World) (a : Option Addr) (n c : Nat) (bs : List UInt8) (h : IsB w w.heap.size a n c bs) (hn : bs.length ≤ 60000) {v : En} {r : List UInt8} (hr : rdE bs = some (v, r)) (hsz : (encE v).length ≤ 70368744177664) (sd : Bool)
    (HLV : Hid (∀ W5, Below w.heap.size w W5 → ∀ cv : EC, IsEntry W5 W5.heap.size v cv → Hid (∀ W, Below W5.heap.size W5 W → Calls Tryd.prog 30 #[.agg #[.int .u8 cv.k, .int .u32 cv.src, .int .u32 cv.seq, .int .u8 cv.v.k, .int .i64 cv.v.n, .string cv.v.s, .slice cv.v.la cv.v.ll cv.v.lc, .slice cv.v.oa cv.v.ol cv.v.oc, .slice cv.oa cv.ol cv.oc]] W fun e w' => e = .returned (.bool sd) ∧ Below W.heap.size W w'))) (hok : outN sd (encE v) = 0) (heq : eqBs (outB sd (encE v)) bs = true) :
    Calls Tryd.prog 20 #[.slice a n c, .func (.func 21) #[] #[], .func (.func 13) #[] #[]] w (WEPost w (v, 0)) := by
  have hmf : ∀ (fn : Fn) (first cap : Array Value) (w : World), (Instr.makeFunc fn first cap).run Tryd.prog w = .ok (.func fn first cap) w := fun _ _ _ _ => rfl
  have HS := Lib.hid (WH.start w ez bs a n c h)
  have HI := Lib.hid h
  have hnn := h.len
  have hn2 : ¬ 60000 < n := by omega
  obtain ⟨en, hen⟩ : ∃ en, encE v = en := ⟨_, rfl⟩
  rw [hen] at hok heq
  have HEN := Lib.hid hen
  have HN := Lib.hid hok
  have HE := Lib.hid heq
  clear h hnn hn hen hok heq
  go_enter_defers Tryd.func20, Tryd.ntmps20
  go_wp2_with (first | (go_at_call 21; refine (re_some _ (w.heap.size + 3) bs (HS.out _ _ _ _ _ rfl).2.1 hr).mono ?_; rintro e w4 ⟨cv, rfl, hS4, hI4, hR4⟩; have HH := HS.out _ _ _ _ _ hS4.src; have H4 := HH.1.read hS4 (by omega); have O := H4.out; have o0 := O.at_ 0 _ rfl; have g0 := O.fr 0; have o1 := O.at_ 1 _ rfl; have g1 := O.fr 1; have o2 := O.at_ 2 _ rfl; have g2 := O.fr 2; have o3 := O.at_ 3 _ rfl; have g3 := O.fr 3; have o4 := O.at_ 4 _ rfl; have g4 := O.fr 4; have o5 := O.at_ 5 _ rfl; have g5 := O.fr 5; have o6 := O.at_ 6 _ rfl; have g6 := O.fr 6; have o7 := O.at_ 7 _ rfl; have g7 := O.fr 7; have o8 := O.at_ 8 _ rfl; have g8 := O.fr 8; have H5 := H4.storeE cv; have hV5 := (isEntry_far (hI4.sub (shows_step (S' := fun b => w.heap.size + 4 ≤ b) fun k hk _ => ⟨by have := HH.2.2; omega, rfl⟩)) H5.2 (by omega)); have HVF := Lib.hid hV5; have HV5 := Lib.hid (hV5.sub (shows_only _ _ _)); have HH5 := Lib.hid H5.1; clear hI4 hV5 H5 H4 HH O) | (go_at_call 13; refine (encode_e sd _ cv v HV5.out (HLV.out _ HH5.out.below cv HV5.out) hsz).mono ?_; rw [HEN.out]; rintro e w6 ⟨⟨ra, rn, rc, rfl, hI6⟩, hb6⟩; rw [HN.out]; have H6 := HH5.out.next hb6; have HI6 := Lib.hid hI6; have HV6 := Lib.hid (isEntry_far HVF.out (RStep.of_below w.heap.size hb6) (by omega)); clear hI6; have o0 := H6.out.at_ 0 _ rfl; have g0 := H6.out.fr 0; have n0 := H6.non.at_ 0 _ rfl; have o1 := H6.out.at_ 1 _ rfl; have g1 := H6.out.fr 1; have n1 := H6.non.at_ 1 _ rfl; have o2 := H6.out.at_ 2 _ rfl; have g2 := H6.out.fr 2; have n2 := H6.non.at_ 2 _ rfl; have o3 := H6.out.at_ 3 _ rfl; have g3 := H6.out.fr 3; have n3 := H6.non.at_ 3 _ rfl; have o4 := H6.out.at_ 4 _ rfl; have g4 := H6.out.fr 4; have n4 := H6.non.at_ 4 _ rfl; have o5 := H6.out.at_ 5 _ rfl; have g5 := H6.out.fr 5; have n5 := H6.non.at_ 5 _ rfl; have o6 := H6.out.at_ 6 _ rfl; have g6 := H6.out.fr 6; have n6 := H6.non.at_ 6 _ rfl; have o7 := H6.out.at_ 7 _ rfl; have g7 := H6.out.fr 7; have n7 := H6.non.at_ 7 _ rfl; have o8 := H6.out.at_ 8 _ rfl; have g8 := H6.out.fr 8; have n8 := H6.non.at_ 8 _ rfl; have x0 := H6.err.at_ 0 _ rfl; have xf := H6.err.fr 0; have HH6 := Lib.hid H6; clear H6))
  refine (equal_any w6 _ _ ra a rn n rc c _ bs HI6.out (HI.out.keep HH6.out.below)).mono ?_
  rw [HE.out]
  rintro e w7 ⟨rfl, rfl⟩
  go_wp2_with fail
  have HST := HH6.out.storeE cv
  exact wdoorE_idle (c := cv) HST.1.setErr ((isEntry_far (isEntry_far HV6.out HST.2 (by omega)) (RStep.self (b := w.heap.size + 1)) (by omega)).sub (shows_step fun k hk _ => ⟨by omega, rfl⟩)) rfl rfl
end Go.Proofs.YtcfbnmobfcabiaaDoor
namespace Go.Proofs.YtcfbnmobfcabiaaDoor
open Go.RowKit
theorem sameV_true (w : World) (v : V) (c d : VC) (hc : IsVal w w.heap.size v c) (hd : IsVal w w.heap.size v d) :
    Calls Tryd.prog 12 #[.agg #[.int .u8 c.k, .int .i64 c.n, .string c.s, .slice c.la c.ll c.lc, .slice c.oa c.ol c.oc], .agg #[.int .u8 d.k, .int .i64 d.n, .string d.s, .slice d.la d.ll d.lc, .slice d.oa d.ol d.oc]] w fun e w' => e = .returned (.bool true) ∧ Below w.heap.size w w' := by
  have := refSame_any v v w c d hc hd
  rw [eqv_yes rfl] at this; exact this
end Go.Proofs.YtcfbnmobfcabiaaDoor
namespace Go.Proofs.YtcfbnmobfcabiaaDoor
open Go.ChangeShapes Go.WideShapes Go.ChangeAt Go.RowKit Go.Lib Go.Deep
instance : Inhabited Tk := ⟨⟨0, 0, .empty, 0⟩⟩
theorem weightsAll_mem {H : Type} {P : Program} {e : TypeId} : ∀ {ds : List (DataW H)} {d : DataW H}, d ∈ ds → ∀ n ∈ d.weights P e, n ∈ DataW.weightsAll P e ds
  | x :: r, d, hd, n, hn => by
    rw [DataW.weightsAll, List.mem_append]
    rcases List.mem_cons.1 hd with rfl | h
    · exact .inl hn
    · exact .inr (weightsAll_mem h n hn)
theorem weights_elem {H : Type} {P : Program} {t e : TypeId} {elems spare : List (DataW H)} (hu : P.underlying t = some (.slice e)) {d : DataW H} (hd : d ∈ elems) : ∀ n ∈ d.weights P e, n ∈ (DataW.slice elems spare).weights P t := by
  intro n hn
  rw [DataW.weights, hu]
  exact List.mem_cons_of_mem _ (List.mem_append.2 (.inl (weightsAll_mem hd n hn)))
set_option maxRecDepth 100000 in
/-- A piece, out of its cells. -/
theorem open_tok {H : Type} {enc : TypeId × Value → H} {W : World} {base fuel : Nat} {sp : Nat → Bool} {cs : List Value} {x : DataW H × List MemPlace} (hf : DataW.trod enc Tryd.prog W base sp true fuel 52 cs = some x) (hz : ∀ n ∈ x.1.weights Tryd.prog 52, n ≤ reachBytes) :
    ∃ t : Tk, cs = [.int .u8 t.k, .int .i64 t.n, .string t.s, .int .u8 t.m] ∧ t.Bnd := by
  obtain ⟨y0, y1, y2, y3, n, rfl, hlen, h0, h1, h2, h3⟩ := Go.Joins.trod_struct4 Tryd.underlying52 hf
  have h4 : cs.length = 4 := by rw [hlen]; kernel_rfl
  match cs, h4 with
  | [v0, v1, v2, v3], _ =>
    have c5 : Tryd.prog.cellsOf 5 = 1 := by kernel_rfl
    have c2 : Tryd.prog.cellsOf 2 = 1 := by kernel_rfl
    have c9 : Tryd.prog.cellsOf 9 = 1 := by kernel_rfl
    simp only [c5, c2, c9] at h0 h1 h2 h3
    simp only [List.drop_zero, List.drop_succ_cons, List.take_succ_cons, List.take_zero] at h0 h1 h2 h3
    obtain ⟨k, e0, rfl, w0⟩ := DataW.trod_int Tryd.underlying5 h0
    obtain ⟨i, e1, rfl, w1⟩ := DataW.trod_int Tryd.underlying2 h1
    obtain ⟨s, e2, rfl, w2⟩ := DataW.trod_string Tryd.underlying9 h2
    obtain ⟨m, e3, rfl, w3⟩ := DataW.trod_int Tryd.underlying5 h3
    injection e0 with e0 _; injection e1 with e1 _; injection e2 with e2 _; injection e3 with e3 _
    subst e0 e1 e2 e3
    have b0 := bounds_u8 w0; have b1 := bounds_i64 w1; have b3 := bounds_u8 w3
    have hs : s.data.toList.length ≤ reachBytes := by
      refine hz _ ?_
      simp only [DataW.weights, Tryd.underlying52, DataW.weightsEach, List.map_cons, List.map_nil, List.append_nil, List.nil_append, List.mem_cons, List.not_mem_nil, or_false]
    have hs2 : s.data.toList.length = s.size := Array.length_toList
    exact ⟨⟨k, i, s, m⟩, rfl, ⟨b0.1, by have := b0.2; dsimp only; omega, b1.1, b1.2, by have : reachBytes = 0x7ffffffff000 := rfl; dsimp only; omega, b3.1, by have := b3.2; dsimp only; omega⟩⟩
set_option maxRecDepth 100000 in
/-- A slice of pieces, out of its cell. -/
theorem open_toks {H : Type} {enc : TypeId × Value → H} {W : World} {fuel : Nat} {cs : List Value} {x : DataW H × List MemPlace} (hf : DataW.trod enc Tryd.prog W 0 (fun _ => true) true fuel 50 cs = some x) (hz : ∀ n ∈ x.1.weights Tryd.prog 50, n ≤ reachBytes) :
    ∃ (a : Option Addr) (n c : Nat) (l : List Tk), cs = [.slice a n c] ∧ IsToks W W.heap.size l a n c := by
  rcases open_slice Tryd.underlying50 hf with ⟨rfl, _⟩ | ⟨a, len, cap, m, n, D, Pl, rfl, _, hl, hm, hmm, rfl, hel⟩
  · exact ⟨none, 0, 0, [], rfl, rfl, Nat.le_refl _, by decide, 0, 0, fun h => absurd h (by decide), fun i hi => absurd hi (by simp)⟩
  · simp only [if_true] at hmm
    have c4 : Tryd.prog.cellsOf 52 = 4 := by kernel_rfl
    rw [c4] at hel
    obtain ⟨T, hT⟩ := choose_lt (n := len) (p := fun i (t : Tk) => (∀ j u, [Value.int .u8 t.k, .int .i64 t.n, .string t.s, .int .u8 t.m][j]? = some u → W.cell? (a.add (i * 4 + j)) = some u) ∧ t.Bnd) (fun i hi => by
      obtain ⟨cs', h1, h2⟩ := hel i (by omega)
      obtain ⟨t, rfl, ht⟩ := open_tok h2 (fun q hq => hz q (weights_elem Tryd.underlying50 (List.mem_map.2 ⟨i, List.mem_range.2 hi, rfl⟩) q hq))
      obtain ⟨_, _, h3⟩ := World.cells?_some h1
      refine ⟨t, fun j u hj => ?_, ht⟩
      have hj4 : j < 4 := (List.getElem?_eq_some_iff.1 hj).1
      rw [← add_add, h3 j hj4, hj])
    refine ⟨some a, len, cap, (List.range len).map T, rfl, by simp, hl, by unfold maxLen at hm; omega, a.block, a.off, fun hn => ?_, fun i hi => ?_⟩
    · have h0 := (hT 0 hn).1 0 _ rfl
      have hspot : a.spot = none := by
        have := World.cell?_spot h0
        simpa [Addr.add] using this
      obtain ⟨ab, ao, spot⟩ := a
      dsimp only at hspot
      subst hspot
      exact ⟨rfl, by simpa [Addr.add] using World.block_lt_of_cell? W _ h0⟩
    · have hi' : i < len := by simpa using hi
      have h00 := (hT 0 (by omega)).1 0 _ rfl
      have hspot : a.spot = none := by
        have := World.cell?_spot h00
        simpa [Addr.add] using this
      obtain ⟨ab, ao, spot⟩ := a
      dsimp only at hspot
      subst hspot
      obtain ⟨g1, g2⟩ := hT i hi'
      simp only [List.getElem_map, List.getElem_range]
      have q0 := g1 0 _ rfl; have q1 := g1 1 _ rfl; have q2 := g1 2 _ rfl; have q3 := g1 3 _ rfl
      rw [Addr.add_lit] at q0 q1 q2 q3
      exact ⟨⟨q0, q1, q2, q3⟩, g2⟩
end Go.Proofs.YtcfbnmobfcabiaaDoor
