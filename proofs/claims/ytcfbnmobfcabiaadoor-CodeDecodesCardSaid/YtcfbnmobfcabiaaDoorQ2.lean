/-
  CodeDecodes: the walk.
-/
import Derived.Test.YtcfbnmobfcabiaaDoorQ1
namespace Go.Proofs.YtcfbnmobfcabiaaDoor
open Go.RowKit
set_option maxHeartbeats 16000000 in
set_option maxRecDepth 100000 in
theorem compR_any (w : World) (rb : Nat) (s : RS) (h : RR w rb s) {x : Cm} {s' : RS} (hx : fC s = (x, s')) :
    Calls Tryd.prog 25 #[.pointer (some ⟨rb, 0, none⟩)] w (QCPost w rb x s') := by
  obtain ⟨i0, hi0, hz0, hz1, hz2⟩ := info_parts ginfoS
  obtain ⟨⟨kd, s1⟩, hN⟩ : ∃ p, fN 1 s = p := ⟨_, rfl⟩
  obtain ⟨⟨n, s2⟩, hM⟩ : ∃ p, fM 1 s1 = p := ⟨_, rfl⟩
  rw [fC_eq, hN] at hx
  dsimp only at hx
  rw [hM] at hx
  dsimp only at hx
  have hk1 : kd < 256 := by have := fN_lt 1 s; rw [hN] at this; exact this
  have hu := u8_id kd hk1
  have hn4 : n < 256 := by have := (fM_lt 1 s1).1; rw [hM] at this; exact this
  have HB := Lib.hid (QB.start h #[.int .u8 0, .slice none 0 0, .string { data := #[] }, .int .i64 0, .int .i64 0, .int .i64 0, .int .u8 0, .int .i64 0, .string { data := #[] }, .slice none 0 0, .slice none 0 0, .string { data := #[] }] 70)
  have hlt := h.lt
  have HX := Lib.hid hx
  have HN := Lib.hid hN
  have HM := Lib.hid hM
  clear h hx hN hM
  go_enter Tryd.func25, Tryd.ntmps25
  generalize hQ0 : bodyPost _ _ _ = Q0
  have HQ := Lib.hid hQ0
  clear hQ0
  go_wp2_with (first | (go_at_call 22; (with_reducible refine (numberR1 _ rb s HB.out.rr HN.out).mono ?_); rintro e w1 ⟨rfl, hR, hS⟩; have B1 := HB.out.next hS hR; have hsz := B1.size; have zs0 : w.heap.size < w1.heap.size := (by omega)) | (go_at_call 24; (with_reducible refine (manyR1 _ rb s1 (B1.behind ((Below.refl _ _).alloc (Nat.le_refl _) _)).rr HM.out).mono ?_); rintro e w2 ⟨rfl, hR2, hS2⟩; have B2 := (B1.behind ((Below.refl _ _).alloc (Nat.le_refl _) _)).next hS2 hR2; have VB2 := (BC.start w1 #[.int .u8 kd, .slice none 0 0, .string { data := #[] }, .int .i64 0, .int .i64 0, .int .i64 0, .int .u8 0, .int .i64 0, .string { data := #[] }, .slice none 0 0, .slice none 0 0, .string { data := #[] }] 70).next hS2 (by omega)))
  have QP0 : QP w w2 rb w1.heap.size kd s2 0 none 0 0 [] s2 s2 := ⟨rfl, rfl, (fun _ hs => absurd hs (by simp)), B2, VB2, Row.nil _ _ _ _ _, hsz⟩
  obtain ⟨cb, hcb⟩ : ∃ cb, w1.heap.size = cb := ⟨_, rfl⟩
  rw [hcb] at QP0 hsz zs0 ⊢
  clear B1 B2 VB2 hcb
  go_loopw [5, 6] (fun i _ wr => ∃ (j : Nat) (a : Option Addr) (m c : Nat) (xs : List St) (sj : RS), j ≤ n ∧ i = .int .i64 j ∧ QP w wr rb cb kd s2 j a m c xs sj sj) (fun i _ _ => n - (intOf i).toNat)
  case atStart => exact ⟨0, none, 0, 0, [], s2, Nat.zero_le _, rfl, QP0⟩
  case round =>
    clear QP0
    obtain ⟨j, a, m, c, xs, ⟨bj, bd⟩, hj, rfl, L⟩ := hrel
    have bb : wr.cell? ⟨rb, 1, none⟩ = some (.bool bd) := L.box.rr.bad
    have hvlt := L.vb_.lt
    have hbl := L.box.lt
    by_cases hcont : j < n ∧ bd = false
    · obtain ⟨hlt2, rfl⟩ := hcont
      obtain ⟨⟨y, s3⟩, hy⟩ : ∃ p, fN 1 (bj, false) = p := ⟨_, rfl⟩
      have HNY := Lib.hid (numberR1 wr rb (bj, false) L.box.rr hy)
      have HLT := Lib.hid L
      have HO2 : Hid (∀ w3, RStep wr w3 rb → RR w3 rb s3 → (∀ W, RStep w3.drew W rb → W.ownsRow (cb + 1) 104 3 (.slice a m c) j (xs.flatMap scells) ∧ W.cell? ⟨cb, 1, none⟩ = some (.slice a m c) ∧ W.frozen? ⟨cb, 1, none⟩ = false ∧ cb < W.heap.size) ∧ RR w3.drew rb s3) := by
        intro w3 hS3 hR3
        have L3 := HLT.out.next hS3 hR3
        refine ⟨fun W hW => ?_, (L3.box.behind (drew_below w3)).rr⟩
        have hlo := L3.lo
        have ho := ((L3.row.later PT.closed (.of_below rb (drew_below w3)) (by omega)).later PT.closed hW (by omega)).own
        rw [L3.len] at ho
        exact ⟨ho, hW.cell (w := w3.drew) (L3.vb_.at_ 1 _ rfl) (by omega), (hW.frozen (w := w3.drew) L3.vb_.lt (by omega)).trans (L3.vb_.fr 1), Nat.lt_of_lt_of_le L3.vb_.lt hW.size⟩
      have hne : (Value.slice a m c).ownBlock ≠ some cb := fun e => by have := (L.row.lt _ e).1; omega
      have hlo := L.lo
      clear L
      by_cases hy1 : y = 1
      · obtain ⟨⟨z, s5⟩, hz⟩ : ∃ p, fN 8 s3 = p := ⟨_, rfl⟩
        have HFX : Hid (fS (bj, false) = (⟨true, wrap64 z, .empty⟩, s5)) := by unfold Hid; simp [fS, hy, hy1, hz]
        have HZ := Lib.hid hz
        have fy : ((y : Int) == 1) = true := by subst hy1; rfl
        have hwz : IntKind.i64.wrap (z : Int) = wrap64 (z : Int) := wrapEq _
        clear hy hz hy1
        go_wp2_with (go_at_call 22; (with_reducible refine (HNY.out).mono ?_); rintro e w3 ⟨rfl, hR3, hS3⟩; have zc3 : cb < w3.heap.size := Nat.lt_of_lt_of_le hvlt hS3.size)
        have y1 := (HLT.out.next hS3 hR3).vb_.at_ 1 _ rfl
        have HC := Lib.hid (numberR8 w3.drew rb s3 (HO2.out w3 hS3 hR3).2 HZ.out)
        refine wp_region_noPanic ?_
        go_region_law
          (first
            | (go_simp; go_at_call 22; refine (HC.out).mono ?_; rintro e w4 ⟨rfl, hR4, hS4⟩; obtain ⟨ho4, hc4, hf4, hv4⟩ := (HO2.out w3 hS3 hR3).1 w4 hS4)
            | (refine step_append_lies _ (by rfl) _ _ _ (by rfl) (cb + 1) 104 i0 _ 3 32 (by kernel_rfl) hi0 hz0 hz1 hz2 rfl (by omega) (.slice a m c) j (xs.flatMap scells) (by rfl) (ho4.alloc _) ⟨w4.heap.size, 0, none⟩ 1 1 (scells (⟨true, wrap64 z, .empty⟩ : St)) (by rfl) (by rfl) (World.news_of_block (t := 104) (fr := (0, 0)) (heap_alloc_new w4 _)) (by simp [scells, Value.oneCell']) (by omega) (by unfold maxLen; omega) (by omega) (by simp; omega) (w4.heap.size + 1) (by simp) ?_; intro g cap w5 hown5 hgrow5 hat5 hlt5; have hc5 : w5.cell? ⟨cb, 1, none⟩ = some (.slice a m c) := (hgrow5.cell_far ⟨cb, 1, none⟩ (by simp; omega) (Ne.symm hne)).trans (keep_cell ((Below.refl _ _).alloc (Nat.le_refl _) _) hc4 hv4); have hf5 : w5.frozen? ⟨cb, 1, none⟩ = false := (hgrow5.frozen_far ⟨cb, 1, none⟩ (by simp; omega) (Ne.symm hne)).trans ((((Below.refl _ _).alloc (Nat.le_refl _) _ : Below w4.heap.size w4 (w4.alloc _)).frozen (p := ⟨cb, 1, none⟩) hv4).trans hf4)))
        all_goals
          refine NoPanic.normal ?_
          go_wp2_with fail
          go_roundw
          case rel => exact ⟨j + 1, some ⟨g, 0, none⟩, j + 1, cap, xs ++ [⟨true, wrap64 z, .empty⟩], s5, by omega, by go_num, (HLT.out.next hS3 hR3).round rfl HFX.out hS4 hR4 hown5 hgrow5 hat5⟩
          case measure => simp [intOf]; omega
      · obtain ⟨⟨z, s5⟩, hz⟩ : ∃ p, fT s3 = p := ⟨_, rfl⟩
        have HFX : Hid (fS (bj, false) = (⟨false, 0, z⟩, s5)) := by unfold Hid; simp [fS, hy, hy1, hz]
        have HZ := Lib.hid hz
        have fy : ((y : Int) == 1) = false := by simp; omega
        clear hy hz hy1
        go_wp2_with (go_at_call 22; (with_reducible refine (HNY.out).mono ?_); rintro e w3 ⟨rfl, hR3, hS3⟩; have zc3 : cb < w3.heap.size := Nat.lt_of_lt_of_le hvlt hS3.size)
        have y1 := (HLT.out.next hS3 hR3).vb_.at_ 1 _ rfl
        have HC := Lib.hid (textR_any w3.drew rb s3 (HO2.out w3 hS3 hR3).2 HZ.out)
        refine wp_region_noPanic ?_
        go_region_law
          (first
            | (go_simp; go_at_call 50; refine (HC.out).mono ?_; rintro e w4 ⟨rfl, hR4, hS4⟩; obtain ⟨ho4, hc4, hf4, hv4⟩ := (HO2.out w3 hS3 hR3).1 w4 hS4)
            | (refine step_append_lies _ (by rfl) _ _ _ (by rfl) (cb + 1) 104 i0 _ 3 32 (by kernel_rfl) hi0 hz0 hz1 hz2 rfl (by omega) (.slice a m c) j (xs.flatMap scells) (by rfl) (ho4.alloc _) ⟨w4.heap.size, 0, none⟩ 1 1 (scells (⟨false, 0, z⟩ : St)) (by rfl) (by rfl) (World.news_of_block (t := 104) (fr := (0, 0)) (heap_alloc_new w4 _)) (by simp [scells, Value.oneCell']) (by omega) (by unfold maxLen; omega) (by omega) (by simp; omega) (w4.heap.size + 1) (by simp) ?_; intro g cap w5 hown5 hgrow5 hat5 hlt5; have hc5 : w5.cell? ⟨cb, 1, none⟩ = some (.slice a m c) := (hgrow5.cell_far ⟨cb, 1, none⟩ (by simp; omega) (Ne.symm hne)).trans (keep_cell ((Below.refl _ _).alloc (Nat.le_refl _) _) hc4 hv4); have hf5 : w5.frozen? ⟨cb, 1, none⟩ = false := (hgrow5.frozen_far ⟨cb, 1, none⟩ (by simp; omega) (Ne.symm hne)).trans ((((Below.refl _ _).alloc (Nat.le_refl _) _ : Below w4.heap.size w4 (w4.alloc _)).frozen (p := ⟨cb, 1, none⟩) hv4).trans hf4)))
        all_goals
          refine NoPanic.normal ?_
          go_wp2_with fail
          go_roundw
          case rel => exact ⟨j + 1, some ⟨g, 0, none⟩, j + 1, cap, xs ++ [⟨false, 0, z⟩], s5, by omega, by go_num, (HLT.out.next hS3 hR3).round rfl HFX.out hS4 hR4 hown5 hgrow5 hat5⟩
          case measure => simp [intOf]; omega
    · have hs : fL fS n s2 = (xs, (bj, bd)) := by
        cases bd with
        | true => rw [fL_stop (f := fS) (j := j) (n := n) (s := s2) (by rw [L.rd]) (by omega), L.rd]
        | false =>
          have hjn : j = n := by have : ¬ j < n := fun hq => hcont ⟨hq, rfl⟩; omega
          rw [← hjn, L.rd]
      have hex : (j < n ∧ bd = true) ∨ ¬ j < n := by
        by_cases hq : j < n
        · exact .inl ⟨hq, by cases bd with
            | true => rfl
            | false => exact absurd ⟨hq, rfl⟩ hcont⟩
        · exact .inr hq
      have HR : Hid (fRest kd xs (bj, bd) = (x, s')) := by unfold Hid; rw [← HX.out, hs]
      have B := QC.start L (by omega)
      obtain ⟨S9, hS9⟩ : ∃ S9, (bj, bd) = S9 := ⟨_, rfl⟩
      rw [hS9] at HR B
      clear L hS9 hs hcont
      rcases hex with ⟨hlt2, rfl⟩ | hlt2
      all_goals
        by_cases e1 : kd = 1
        case pos =>
          have hb75 : hasB (saysB (kd : Int)) 75 = false := by subst e1; rfl
          have hb73 : hasB (saysB (kd : Int)) 73 = false := by subst e1; rfl
          have hb74 : hasB (saysB (kd : Int)) 74 = false := by subst e1; rfl
          have hb78 : hasB (saysB (kd : Int)) 78 = true := by subst e1; rfl
          have hb86 : hasB (saysB (kd : Int)) 86 = false := by subst e1; rfl
          have hb83 : hasB (saysB (kd : Int)) 83 = false := by subst e1; rfl
          have HSS : Hid (∀ b : Nat, b ≠ 46 → hasB (says10B (kd : Int)) b = hasB (saysB (kd : Int)) b) := fun b hb => says10_has _ b hb
          obtain ⟨SB, hSB⟩ : ∃ SB, says10B (kd : Int) = SB := ⟨_, rfl⟩
          have SZ10 : Hid (SB.size ≤ 2) := by
            unfold Hid; rw [← hSB]; subst e1; decide
          have t75 : hasB SB 75 = false := by rw [← hSB, HSS.out _ (by omega)]; exact hb75
          have t73 : hasB SB 73 = false := by rw [← hSB, HSS.out _ (by omega)]; exact hb73
          have t74 : hasB SB 74 = false := by rw [← hSB, HSS.out _ (by omega)]; exact hb74
          have t78 : hasB SB 78 = true := by rw [← hSB, HSS.out _ (by omega)]; exact hb78
          have t86 : hasB SB 86 = false := by rw [← hSB, HSS.out _ (by omega)]; exact hb86
          have t83 : hasB SB 83 = false := by rw [← hSB, HSS.out _ (by omega)]; exact hb83
          have HSB := Lib.hid hSB
          have H75 := Lib.hid hb75
          have H73 := Lib.hid hb73
          have H74 := Lib.hid hb74
          have H78 := Lib.hid hb78
          have H86 := Lib.hid hb86
          have H83 := Lib.hid hb83
          clear hSB hb75 hb73 hb74 hb78 hb86 hb83 e1
          have y0 := B.cel.at_ 0 _ rfl
          go_wp2_with (first | (go_at_call 51; (with_reducible refine (says10_any _ _).mono ?_); rintro e wq ⟨rfl, hb2⟩; rw [HSB.out]; replace B := B.behind hb2) | (go_at_call 52; (with_reducible refine (in10_75_any SB _ (by have := SZ10.out; omega)).mono ?_); rintro e wq ⟨rfl, hb2⟩; replace B := B.behind hb2) | (go_at_call 52; (with_reducible refine (in10_73_any SB _ (by have := SZ10.out; omega)).mono ?_); rintro e wq ⟨rfl, hb2⟩; replace B := B.behind hb2) | (go_at_call 52; (with_reducible refine (in10_74_any SB _ (by have := SZ10.out; omega)).mono ?_); rintro e wq ⟨rfl, hb2⟩; replace B := B.behind hb2) | (go_at_call 52; (with_reducible refine (in10_78_any SB _ (by have := SZ10.out; omega)).mono ?_); rintro e wq ⟨rfl, hb2⟩; replace B := B.behind hb2))
          obtain ⟨⟨n0, q0⟩, hE0⟩ : ∃ p, fN 8 S9 = p := ⟨_, rfl⟩
          have E0 := Lib.hid hE0
          clear hE0
          refine (numberR8 _ rb S9 B.box.rr E0.out).mono ?_
          rintro e wv0 ⟨rfl, hR0, hS0⟩
          have BN0 := B.next hS0 hR0
          have p5 := BN0.cel.fr 5
          have y5 := BN0.cel.at_ 5 _ rfl
          go_wp2_with fail
          have C0 : QC w (wv0.setCell ⟨cb, 5, none⟩ (.int .i64 (wrap64 n0))) rb cb q0 xs V.none ⟨kd, a, m, c, .empty, 0, 0, (wrap64 n0), vzero, .empty⟩ := BN0.set1 RStep.self (BN0.cel.set (i := 5) (x := .int .i64 (wrap64 n0)) (by simp [ccells])) rfl rfl rfl rfl
          clear B BN0
          go_wp2_with (first | (go_at_call 52; (with_reducible refine (in10_86_any SB _ (by have := SZ10.out; omega)).mono ?_); rintro e wq ⟨rfl, hb2⟩; replace C0 := C0.behind hb2) | (go_at_call 52; (with_reducible refine (in10_83_any SB _ (by have := SZ10.out; omega)).mono ?_); rintro e wq ⟨rfl, hb2⟩; replace C0 := C0.behind hb2; obtain ⟨y0, y1, y2, y3, y4, y5, y6, y7, y8, y9, y10, y11⟩ := BC.cells12 C0.cel; obtain ⟨r0, gr0, r1, gr1, r2, gr2, r3, gr3, r4, gr4, r5, gr5, r6, gr6, r7, gr7, r8, gr8, r9, gr9, r10, gr10, r11, gr11⟩ := BC.both12 C0.box.res; have hcl := C0.cel.lt))
          have hfin : ((⟨kd, xs, .empty, 0, 0, (wrap64 n0), V.none, .empty⟩ : Cm), (q0 : RS)) = (x, s') := by rw [← HR.out]; simp [fRest, fIf, fB, fI, H75.out, H73.out, H74.out, H78.out, H86.out, H83.out, E0.out]
          injection hfin with hf1 hf2
          subst hf1 hf2
          rw [← HQ.out]
          exact C0.leave (⟨by show (0 : Int) ≤ (kd : Int); omega, by show (kd : Int) < 256; omega, (by decide : (-9223372036854775808 : Int) ≤ 0), (by decide : (0 : Int) ≤ 9223372036854775807), (by decide : (-9223372036854775808 : Int) ≤ 0), (by decide : (0 : Int) ≤ 9223372036854775807), i64_lo _, i64_hi _, (by decide : ByteArray.empty.size ≤ 140737488355328), (by decide : ByteArray.empty.size ≤ 140737488355328)⟩) rfl rfl rfl
        by_cases e2 : kd = 2
        case pos =>
          have hb75 : hasB (saysB (kd : Int)) 75 = true := by subst e2; rfl
          have hb73 : hasB (saysB (kd : Int)) 73 = false := by subst e2; rfl
          have hb74 : hasB (saysB (kd : Int)) 74 = false := by subst e2; rfl
          have hb78 : hasB (saysB (kd : Int)) 78 = false := by subst e2; rfl
          have hb86 : hasB (saysB (kd : Int)) 86 = true := by subst e2; rfl
          have hb83 : hasB (saysB (kd : Int)) 83 = false := by subst e2; rfl
          have HSS : Hid (∀ b : Nat, b ≠ 46 → hasB (says10B (kd : Int)) b = hasB (saysB (kd : Int)) b) := fun b hb => says10_has _ b hb
          obtain ⟨SB, hSB⟩ : ∃ SB, says10B (kd : Int) = SB := ⟨_, rfl⟩
          have SZ10 : Hid (SB.size ≤ 2) := by
            unfold Hid; rw [← hSB]; subst e2; decide
          have t75 : hasB SB 75 = true := by rw [← hSB, HSS.out _ (by omega)]; exact hb75
          have t73 : hasB SB 73 = false := by rw [← hSB, HSS.out _ (by omega)]; exact hb73
          have t74 : hasB SB 74 = false := by rw [← hSB, HSS.out _ (by omega)]; exact hb74
          have t78 : hasB SB 78 = false := by rw [← hSB, HSS.out _ (by omega)]; exact hb78
          have t86 : hasB SB 86 = true := by rw [← hSB, HSS.out _ (by omega)]; exact hb86
          have t83 : hasB SB 83 = false := by rw [← hSB, HSS.out _ (by omega)]; exact hb83
          have HSB := Lib.hid hSB
          have H75 := Lib.hid hb75
          have H73 := Lib.hid hb73
          have H74 := Lib.hid hb74
          have H78 := Lib.hid hb78
          have H86 := Lib.hid hb86
          have H83 := Lib.hid hb83
          clear hSB hb75 hb73 hb74 hb78 hb86 hb83 e2
          have y0 := B.cel.at_ 0 _ rfl
          go_wp2_with (first | (go_at_call 51; (with_reducible refine (says10_any _ _).mono ?_); rintro e wq ⟨rfl, hb2⟩; rw [HSB.out]; replace B := B.behind hb2) | (go_at_call 52; (with_reducible refine (in10_75_any SB _ (by have := SZ10.out; omega)).mono ?_); rintro e wq ⟨rfl, hb2⟩; replace B := B.behind hb2))
          obtain ⟨⟨k0, q0⟩, hE0⟩ : ∃ p, fT S9 = p := ⟨_, rfl⟩
          have E0 := Lib.hid hE0
          clear hE0
          refine (textR_any _ rb S9 B.box.rr E0.out).mono ?_
          rintro e wv0 ⟨rfl, hR0, hS0⟩
          have BN0 := B.next hS0 hR0
          have p2 := BN0.cel.fr 2
          have y2 := BN0.cel.at_ 2 _ rfl
          go_wp2_with fail
          have C0 : QC w (wv0.setCell ⟨cb, 2, none⟩ (.string k0)) rb cb q0 xs V.none ⟨kd, a, m, c, k0, 0, 0, 0, vzero, .empty⟩ := BN0.set1 RStep.self (BN0.cel.set (i := 2) (x := .string k0) (by simp [ccells])) rfl rfl rfl rfl
          clear B BN0
          go_wp2_with (first | (go_at_call 52; (with_reducible refine (in10_73_any SB _ (by have := SZ10.out; omega)).mono ?_); rintro e wq ⟨rfl, hb2⟩; replace C0 := C0.behind hb2) | (go_at_call 52; (with_reducible refine (in10_74_any SB _ (by have := SZ10.out; omega)).mono ?_); rintro e wq ⟨rfl, hb2⟩; replace C0 := C0.behind hb2) | (go_at_call 52; (with_reducible refine (in10_78_any SB _ (by have := SZ10.out; omega)).mono ?_); rintro e wq ⟨rfl, hb2⟩; replace C0 := C0.behind hb2) | (go_at_call 52; (with_reducible refine (in10_86_any SB _ (by have := SZ10.out; omega)).mono ?_); rintro e wq ⟨rfl, hb2⟩; replace C0 := C0.behind hb2))
          obtain ⟨⟨v1, q1⟩, hE1⟩ : ∃ p, fV 18 q0 = p := ⟨_, rfl⟩
          have E1 := Lib.hid hE1
          clear hE1
          refine (valueR0 _ rb q0 C0.box.rr E1.out).mono ?_
          rintro e wv1 ⟨cv, rfl, hS1, hI1, hR1⟩
          have BN1 := C0.next hS1 hR1
          have p6 := BN1.cel.fr 6; have y6 := BN1.cel.at_ 6 _ rfl; have p7 := BN1.cel.fr 7; have y7 := BN1.cel.at_ 7 _ rfl; have p8 := BN1.cel.fr 8; have y8 := BN1.cel.at_ 8 _ rfl; have p9 := BN1.cel.fr 9; have y9 := BN1.cel.at_ 9 _ rfl; have p10 := BN1.cel.fr 10; have y10 := BN1.cel.at_ 10 _ rfl
          go_wp2_with fail
          have C1 : QC w (((((wv1.setCell ⟨cb, 6, none⟩ (.int .u8 cv.k)).setCell ⟨cb, 7, none⟩ (.int .i64 cv.n)).setCell ⟨cb, 8, none⟩ (.string cv.s)).setCell ⟨cb, 9, none⟩ (.slice cv.la cv.ll cv.lc)).setCell ⟨cb, 10, none⟩ (.slice cv.oa cv.ol cv.oc)) rb cb q1 xs v1 ⟨kd, a, m, c, k0, 0, 0, 0, cv, .empty⟩ := C0.value hS1 hR1 hI1 ((((RStep.self.trans RStep.self).trans RStep.self).trans RStep.self).trans RStep.self) (((((BN1.cel.set (i := 6) (x := .int .u8 cv.k) (by simp [ccells])).set (i := 7) (x := .int .i64 cv.n) (by simp [ccells])).set (i := 8) (x := .string cv.s) (by simp [ccells])).set (i := 9) (x := .slice cv.la cv.ll cv.lc) (by simp [ccells])).set (i := 10) (x := .slice cv.oa cv.ol cv.oc) (by simp [ccells])) rfl rfl rfl
          clear C0 BN1 hI1
          go_wp2_with (go_at_call 52; (with_reducible refine (in10_83_any SB _ (by have := SZ10.out; omega)).mono ?_); rintro e wq ⟨rfl, hb2⟩; replace C1 := C1.behind hb2; obtain ⟨y0, y1, y2, y3, y4, y5, y6, y7, y8, y9, y10, y11⟩ := BC.cells12 C1.cel; obtain ⟨r0, gr0, r1, gr1, r2, gr2, r3, gr3, r4, gr4, r5, gr5, r6, gr6, r7, gr7, r8, gr8, r9, gr9, r10, gr10, r11, gr11⟩ := BC.both12 C1.box.res; have hcl := C1.cel.lt)
          have hfin : ((⟨kd, xs, k0, 0, 0, 0, v1, .empty⟩ : Cm), (q1 : RS)) = (x, s') := by rw [← HR.out]; simp [fRest, fIf, fB, H75.out, H73.out, H74.out, H78.out, H86.out, H83.out, E0.out, E1.out]
          injection hfin with hf1 hf2
          subst hf1 hf2
          rw [← HQ.out]
          exact C1.leave (⟨by show (0 : Int) ≤ (kd : Int); omega, by show (kd : Int) < 256; omega, (by decide : (-9223372036854775808 : Int) ≤ 0), (by decide : (0 : Int) ≤ 9223372036854775807), (by decide : (-9223372036854775808 : Int) ≤ 0), (by decide : (0 : Int) ≤ 9223372036854775807), (by decide : (-9223372036854775808 : Int) ≤ 0), (by decide : (0 : Int) ≤ 9223372036854775807), (by have := fT_size S9; rw [E0.out] at this; exact this), (by decide : ByteArray.empty.size ≤ 140737488355328)⟩) rfl rfl rfl
        by_cases e3 : kd = 3
        case pos =>
          have hb75 : hasB (saysB (kd : Int)) 75 = true := by subst e3; rfl
          have hb73 : hasB (saysB (kd : Int)) 73 = false := by subst e3; rfl
          have hb74 : hasB (saysB (kd : Int)) 74 = false := by subst e3; rfl
          have hb78 : hasB (saysB (kd : Int)) 78 = false := by subst e3; rfl
          have hb86 : hasB (saysB (kd : Int)) 86 = false := by subst e3; rfl
          have hb83 : hasB (saysB (kd : Int)) 83 = false := by subst e3; rfl
          have HSS : Hid (∀ b : Nat, b ≠ 46 → hasB (says10B (kd : Int)) b = hasB (saysB (kd : Int)) b) := fun b hb => says10_has _ b hb
          obtain ⟨SB, hSB⟩ : ∃ SB, says10B (kd : Int) = SB := ⟨_, rfl⟩
          have SZ10 : Hid (SB.size ≤ 2) := by
            unfold Hid; rw [← hSB]; subst e3; decide
          have t75 : hasB SB 75 = true := by rw [← hSB, HSS.out _ (by omega)]; exact hb75
          have t73 : hasB SB 73 = false := by rw [← hSB, HSS.out _ (by omega)]; exact hb73
          have t74 : hasB SB 74 = false := by rw [← hSB, HSS.out _ (by omega)]; exact hb74
          have t78 : hasB SB 78 = false := by rw [← hSB, HSS.out _ (by omega)]; exact hb78
          have t86 : hasB SB 86 = false := by rw [← hSB, HSS.out _ (by omega)]; exact hb86
          have t83 : hasB SB 83 = false := by rw [← hSB, HSS.out _ (by omega)]; exact hb83
          have HSB := Lib.hid hSB
          have H75 := Lib.hid hb75
          have H73 := Lib.hid hb73
          have H74 := Lib.hid hb74
          have H78 := Lib.hid hb78
          have H86 := Lib.hid hb86
          have H83 := Lib.hid hb83
          clear hSB hb75 hb73 hb74 hb78 hb86 hb83 e3
          have y0 := B.cel.at_ 0 _ rfl
          go_wp2_with (first | (go_at_call 51; (with_reducible refine (says10_any _ _).mono ?_); rintro e wq ⟨rfl, hb2⟩; rw [HSB.out]; replace B := B.behind hb2) | (go_at_call 52; (with_reducible refine (in10_75_any SB _ (by have := SZ10.out; omega)).mono ?_); rintro e wq ⟨rfl, hb2⟩; replace B := B.behind hb2))
          obtain ⟨⟨k0, q0⟩, hE0⟩ : ∃ p, fT S9 = p := ⟨_, rfl⟩
          have E0 := Lib.hid hE0
          clear hE0
          refine (textR_any _ rb S9 B.box.rr E0.out).mono ?_
          rintro e wv0 ⟨rfl, hR0, hS0⟩
          have BN0 := B.next hS0 hR0
          have p2 := BN0.cel.fr 2
          have y2 := BN0.cel.at_ 2 _ rfl
          go_wp2_with fail
          have C0 : QC w (wv0.setCell ⟨cb, 2, none⟩ (.string k0)) rb cb q0 xs V.none ⟨kd, a, m, c, k0, 0, 0, 0, vzero, .empty⟩ := BN0.set1 RStep.self (BN0.cel.set (i := 2) (x := .string k0) (by simp [ccells])) rfl rfl rfl rfl
          clear B BN0
          go_wp2_with (first | (go_at_call 52; (with_reducible refine (in10_73_any SB _ (by have := SZ10.out; omega)).mono ?_); rintro e wq ⟨rfl, hb2⟩; replace C0 := C0.behind hb2) | (go_at_call 52; (with_reducible refine (in10_74_any SB _ (by have := SZ10.out; omega)).mono ?_); rintro e wq ⟨rfl, hb2⟩; replace C0 := C0.behind hb2) | (go_at_call 52; (with_reducible refine (in10_78_any SB _ (by have := SZ10.out; omega)).mono ?_); rintro e wq ⟨rfl, hb2⟩; replace C0 := C0.behind hb2) | (go_at_call 52; (with_reducible refine (in10_86_any SB _ (by have := SZ10.out; omega)).mono ?_); rintro e wq ⟨rfl, hb2⟩; replace C0 := C0.behind hb2) | (go_at_call 52; (with_reducible refine (in10_83_any SB _ (by have := SZ10.out; omega)).mono ?_); rintro e wq ⟨rfl, hb2⟩; replace C0 := C0.behind hb2; obtain ⟨y0, y1, y2, y3, y4, y5, y6, y7, y8, y9, y10, y11⟩ := BC.cells12 C0.cel; obtain ⟨r0, gr0, r1, gr1, r2, gr2, r3, gr3, r4, gr4, r5, gr5, r6, gr6, r7, gr7, r8, gr8, r9, gr9, r10, gr10, r11, gr11⟩ := BC.both12 C0.box.res; have hcl := C0.cel.lt))
          have hfin : ((⟨kd, xs, k0, 0, 0, 0, V.none, .empty⟩ : Cm), (q0 : RS)) = (x, s') := by rw [← HR.out]; simp [fRest, fIf, fB, H75.out, H73.out, H74.out, H78.out, H86.out, H83.out, E0.out]
          injection hfin with hf1 hf2
          subst hf1 hf2
          rw [← HQ.out]
          exact C0.leave (⟨by show (0 : Int) ≤ (kd : Int); omega, by show (kd : Int) < 256; omega, (by decide : (-9223372036854775808 : Int) ≤ 0), (by decide : (0 : Int) ≤ 9223372036854775807), (by decide : (-9223372036854775808 : Int) ≤ 0), (by decide : (0 : Int) ≤ 9223372036854775807), (by decide : (-9223372036854775808 : Int) ≤ 0), (by decide : (0 : Int) ≤ 9223372036854775807), (by have := fT_size S9; rw [E0.out] at this; exact this), (by decide : ByteArray.empty.size ≤ 140737488355328)⟩) rfl rfl rfl
        by_cases e4 : kd = 4
        case pos =>
          have hb75 : hasB (saysB (kd : Int)) 75 = false := by subst e4; rfl
          have hb73 : hasB (saysB (kd : Int)) 73 = true := by subst e4; rfl
          have hb74 : hasB (saysB (kd : Int)) 74 = false := by subst e4; rfl
          have hb78 : hasB (saysB (kd : Int)) 78 = false := by subst e4; rfl
          have hb86 : hasB (saysB (kd : Int)) 86 = true := by subst e4; rfl
          have hb83 : hasB (saysB (kd : Int)) 83 = false := by subst e4; rfl
          have HSS : Hid (∀ b : Nat, b ≠ 46 → hasB (says10B (kd : Int)) b = hasB (saysB (kd : Int)) b) := fun b hb => says10_has _ b hb
          obtain ⟨SB, hSB⟩ : ∃ SB, says10B (kd : Int) = SB := ⟨_, rfl⟩
          have SZ10 : Hid (SB.size ≤ 2) := by
            unfold Hid; rw [← hSB]; subst e4; decide
          have t75 : hasB SB 75 = false := by rw [← hSB, HSS.out _ (by omega)]; exact hb75
          have t73 : hasB SB 73 = true := by rw [← hSB, HSS.out _ (by omega)]; exact hb73
          have t74 : hasB SB 74 = false := by rw [← hSB, HSS.out _ (by omega)]; exact hb74
          have t78 : hasB SB 78 = false := by rw [← hSB, HSS.out _ (by omega)]; exact hb78
          have t86 : hasB SB 86 = true := by rw [← hSB, HSS.out _ (by omega)]; exact hb86
          have t83 : hasB SB 83 = false := by rw [← hSB, HSS.out _ (by omega)]; exact hb83
          have HSB := Lib.hid hSB
          have H75 := Lib.hid hb75
          have H73 := Lib.hid hb73
          have H74 := Lib.hid hb74
          have H78 := Lib.hid hb78
          have H86 := Lib.hid hb86
          have H83 := Lib.hid hb83
          clear hSB hb75 hb73 hb74 hb78 hb86 hb83 e4
          have y0 := B.cel.at_ 0 _ rfl
          go_wp2_with (first | (go_at_call 51; (with_reducible refine (says10_any _ _).mono ?_); rintro e wq ⟨rfl, hb2⟩; rw [HSB.out]; replace B := B.behind hb2) | (go_at_call 52; (with_reducible refine (in10_75_any SB _ (by have := SZ10.out; omega)).mono ?_); rintro e wq ⟨rfl, hb2⟩; replace B := B.behind hb2) | (go_at_call 52; (with_reducible refine (in10_73_any SB _ (by have := SZ10.out; omega)).mono ?_); rintro e wq ⟨rfl, hb2⟩; replace B := B.behind hb2))
          obtain ⟨⟨i0, q0⟩, hE0⟩ : ∃ p, fN 8 S9 = p := ⟨_, rfl⟩
          have E0 := Lib.hid hE0
          clear hE0
          refine (numberR8 _ rb S9 B.box.rr E0.out).mono ?_
          rintro e wv0 ⟨rfl, hR0, hS0⟩
          have BN0 := B.next hS0 hR0
          have p3 := BN0.cel.fr 3
          have y3 := BN0.cel.at_ 3 _ rfl
          go_wp2_with fail
          have C0 : QC w (wv0.setCell ⟨cb, 3, none⟩ (.int .i64 (wrap64 i0))) rb cb q0 xs V.none ⟨kd, a, m, c, .empty, (wrap64 i0), 0, 0, vzero, .empty⟩ := BN0.set1 RStep.self (BN0.cel.set (i := 3) (x := .int .i64 (wrap64 i0)) (by simp [ccells])) rfl rfl rfl rfl
          clear B BN0
          go_wp2_with (first | (go_at_call 52; (with_reducible refine (in10_74_any SB _ (by have := SZ10.out; omega)).mono ?_); rintro e wq ⟨rfl, hb2⟩; replace C0 := C0.behind hb2) | (go_at_call 52; (with_reducible refine (in10_78_any SB _ (by have := SZ10.out; omega)).mono ?_); rintro e wq ⟨rfl, hb2⟩; replace C0 := C0.behind hb2) | (go_at_call 52; (with_reducible refine (in10_86_any SB _ (by have := SZ10.out; omega)).mono ?_); rintro e wq ⟨rfl, hb2⟩; replace C0 := C0.behind hb2))
          obtain ⟨⟨v1, q1⟩, hE1⟩ : ∃ p, fV 18 q0 = p := ⟨_, rfl⟩
          have E1 := Lib.hid hE1
          clear hE1
          refine (valueR0 _ rb q0 C0.box.rr E1.out).mono ?_
          rintro e wv1 ⟨cv, rfl, hS1, hI1, hR1⟩
          have BN1 := C0.next hS1 hR1
          have p6 := BN1.cel.fr 6; have y6 := BN1.cel.at_ 6 _ rfl; have p7 := BN1.cel.fr 7; have y7 := BN1.cel.at_ 7 _ rfl; have p8 := BN1.cel.fr 8; have y8 := BN1.cel.at_ 8 _ rfl; have p9 := BN1.cel.fr 9; have y9 := BN1.cel.at_ 9 _ rfl; have p10 := BN1.cel.fr 10; have y10 := BN1.cel.at_ 10 _ rfl
          go_wp2_with fail
          have C1 : QC w (((((wv1.setCell ⟨cb, 6, none⟩ (.int .u8 cv.k)).setCell ⟨cb, 7, none⟩ (.int .i64 cv.n)).setCell ⟨cb, 8, none⟩ (.string cv.s)).setCell ⟨cb, 9, none⟩ (.slice cv.la cv.ll cv.lc)).setCell ⟨cb, 10, none⟩ (.slice cv.oa cv.ol cv.oc)) rb cb q1 xs v1 ⟨kd, a, m, c, .empty, (wrap64 i0), 0, 0, cv, .empty⟩ := C0.value hS1 hR1 hI1 ((((RStep.self.trans RStep.self).trans RStep.self).trans RStep.self).trans RStep.self) (((((BN1.cel.set (i := 6) (x := .int .u8 cv.k) (by simp [ccells])).set (i := 7) (x := .int .i64 cv.n) (by simp [ccells])).set (i := 8) (x := .string cv.s) (by simp [ccells])).set (i := 9) (x := .slice cv.la cv.ll cv.lc) (by simp [ccells])).set (i := 10) (x := .slice cv.oa cv.ol cv.oc) (by simp [ccells])) rfl rfl rfl
          clear C0 BN1 hI1
          go_wp2_with (go_at_call 52; (with_reducible refine (in10_83_any SB _ (by have := SZ10.out; omega)).mono ?_); rintro e wq ⟨rfl, hb2⟩; replace C1 := C1.behind hb2; obtain ⟨y0, y1, y2, y3, y4, y5, y6, y7, y8, y9, y10, y11⟩ := BC.cells12 C1.cel; obtain ⟨r0, gr0, r1, gr1, r2, gr2, r3, gr3, r4, gr4, r5, gr5, r6, gr6, r7, gr7, r8, gr8, r9, gr9, r10, gr10, r11, gr11⟩ := BC.both12 C1.box.res; have hcl := C1.cel.lt)
          have hfin : ((⟨kd, xs, .empty, (wrap64 i0), 0, 0, v1, .empty⟩ : Cm), (q1 : RS)) = (x, s') := by rw [← HR.out]; simp [fRest, fIf, fB, fI, H75.out, H73.out, H74.out, H78.out, H86.out, H83.out, E0.out, E1.out]
          injection hfin with hf1 hf2
          subst hf1 hf2
          rw [← HQ.out]
          exact C1.leave (⟨by show (0 : Int) ≤ (kd : Int); omega, by show (kd : Int) < 256; omega, i64_lo _, i64_hi _, (by decide : (-9223372036854775808 : Int) ≤ 0), (by decide : (0 : Int) ≤ 9223372036854775807), (by decide : (-9223372036854775808 : Int) ≤ 0), (by decide : (0 : Int) ≤ 9223372036854775807), (by decide : ByteArray.empty.size ≤ 140737488355328), (by decide : ByteArray.empty.size ≤ 140737488355328)⟩) rfl rfl rfl
        by_cases e5 : kd = 5
        case pos =>
          have hb75 : hasB (saysB (kd : Int)) 75 = false := by subst e5; rfl
          have hb73 : hasB (saysB (kd : Int)) 73 = true := by subst e5; rfl
          have hb74 : hasB (saysB (kd : Int)) 74 = false := by subst e5; rfl
          have hb78 : hasB (saysB (kd : Int)) 78 = false := by subst e5; rfl
          have hb86 : hasB (saysB (kd : Int)) 86 = false := by subst e5; rfl
          have hb83 : hasB (saysB (kd : Int)) 83 = false := by subst e5; rfl
          have HSS : Hid (∀ b : Nat, b ≠ 46 → hasB (says10B (kd : Int)) b = hasB (saysB (kd : Int)) b) := fun b hb => says10_has _ b hb
          obtain ⟨SB, hSB⟩ : ∃ SB, says10B (kd : Int) = SB := ⟨_, rfl⟩
          have SZ10 : Hid (SB.size ≤ 2) := by
            unfold Hid; rw [← hSB]; subst e5; decide
          have t75 : hasB SB 75 = false := by rw [← hSB, HSS.out _ (by omega)]; exact hb75
          have t73 : hasB SB 73 = true := by rw [← hSB, HSS.out _ (by omega)]; exact hb73
          have t74 : hasB SB 74 = false := by rw [← hSB, HSS.out _ (by omega)]; exact hb74
          have t78 : hasB SB 78 = false := by rw [← hSB, HSS.out _ (by omega)]; exact hb78
          have t86 : hasB SB 86 = false := by rw [← hSB, HSS.out _ (by omega)]; exact hb86
          have t83 : hasB SB 83 = false := by rw [← hSB, HSS.out _ (by omega)]; exact hb83
          have HSB := Lib.hid hSB
          have H75 := Lib.hid hb75
          have H73 := Lib.hid hb73
          have H74 := Lib.hid hb74
          have H78 := Lib.hid hb78
          have H86 := Lib.hid hb86
          have H83 := Lib.hid hb83
          clear hSB hb75 hb73 hb74 hb78 hb86 hb83 e5
          have y0 := B.cel.at_ 0 _ rfl
          go_wp2_with (first | (go_at_call 51; (with_reducible refine (says10_any _ _).mono ?_); rintro e wq ⟨rfl, hb2⟩; rw [HSB.out]; replace B := B.behind hb2) | (go_at_call 52; (with_reducible refine (in10_75_any SB _ (by have := SZ10.out; omega)).mono ?_); rintro e wq ⟨rfl, hb2⟩; replace B := B.behind hb2) | (go_at_call 52; (with_reducible refine (in10_73_any SB _ (by have := SZ10.out; omega)).mono ?_); rintro e wq ⟨rfl, hb2⟩; replace B := B.behind hb2))
          obtain ⟨⟨i0, q0⟩, hE0⟩ : ∃ p, fN 8 S9 = p := ⟨_, rfl⟩
          have E0 := Lib.hid hE0
          clear hE0
          refine (numberR8 _ rb S9 B.box.rr E0.out).mono ?_
          rintro e wv0 ⟨rfl, hR0, hS0⟩
          have BN0 := B.next hS0 hR0
          have p3 := BN0.cel.fr 3
          have y3 := BN0.cel.at_ 3 _ rfl
          go_wp2_with fail
          have C0 : QC w (wv0.setCell ⟨cb, 3, none⟩ (.int .i64 (wrap64 i0))) rb cb q0 xs V.none ⟨kd, a, m, c, .empty, (wrap64 i0), 0, 0, vzero, .empty⟩ := BN0.set1 RStep.self (BN0.cel.set (i := 3) (x := .int .i64 (wrap64 i0)) (by simp [ccells])) rfl rfl rfl rfl
          clear B BN0
          go_wp2_with (first | (go_at_call 52; (with_reducible refine (in10_74_any SB _ (by have := SZ10.out; omega)).mono ?_); rintro e wq ⟨rfl, hb2⟩; replace C0 := C0.behind hb2) | (go_at_call 52; (with_reducible refine (in10_78_any SB _ (by have := SZ10.out; omega)).mono ?_); rintro e wq ⟨rfl, hb2⟩; replace C0 := C0.behind hb2) | (go_at_call 52; (with_reducible refine (in10_86_any SB _ (by have := SZ10.out; omega)).mono ?_); rintro e wq ⟨rfl, hb2⟩; replace C0 := C0.behind hb2) | (go_at_call 52; (with_reducible refine (in10_83_any SB _ (by have := SZ10.out; omega)).mono ?_); rintro e wq ⟨rfl, hb2⟩; replace C0 := C0.behind hb2; obtain ⟨y0, y1, y2, y3, y4, y5, y6, y7, y8, y9, y10, y11⟩ := BC.cells12 C0.cel; obtain ⟨r0, gr0, r1, gr1, r2, gr2, r3, gr3, r4, gr4, r5, gr5, r6, gr6, r7, gr7, r8, gr8, r9, gr9, r10, gr10, r11, gr11⟩ := BC.both12 C0.box.res; have hcl := C0.cel.lt))
          have hfin : ((⟨kd, xs, .empty, (wrap64 i0), 0, 0, V.none, .empty⟩ : Cm), (q0 : RS)) = (x, s') := by rw [← HR.out]; simp [fRest, fIf, fB, fI, H75.out, H73.out, H74.out, H78.out, H86.out, H83.out, E0.out]
          injection hfin with hf1 hf2
          subst hf1 hf2
          rw [← HQ.out]
          exact C0.leave (⟨by show (0 : Int) ≤ (kd : Int); omega, by show (kd : Int) < 256; omega, i64_lo _, i64_hi _, (by decide : (-9223372036854775808 : Int) ≤ 0), (by decide : (0 : Int) ≤ 9223372036854775807), (by decide : (-9223372036854775808 : Int) ≤ 0), (by decide : (0 : Int) ≤ 9223372036854775807), (by decide : ByteArray.empty.size ≤ 140737488355328), (by decide : ByteArray.empty.size ≤ 140737488355328)⟩) rfl rfl rfl
        by_cases e6 : kd = 6
        case pos =>
          have hb75 : hasB (saysB (kd : Int)) 75 = false := by subst e6; rfl
          have hb73 : hasB (saysB (kd : Int)) 73 = true := by subst e6; rfl
          have hb74 : hasB (saysB (kd : Int)) 74 = false := by subst e6; rfl
          have hb78 : hasB (saysB (kd : Int)) 78 = false := by subst e6; rfl
          have hb86 : hasB (saysB (kd : Int)) 86 = true := by subst e6; rfl
          have hb83 : hasB (saysB (kd : Int)) 83 = false := by subst e6; rfl
          have HSS : Hid (∀ b : Nat, b ≠ 46 → hasB (says10B (kd : Int)) b = hasB (saysB (kd : Int)) b) := fun b hb => says10_has _ b hb
          obtain ⟨SB, hSB⟩ : ∃ SB, says10B (kd : Int) = SB := ⟨_, rfl⟩
          have SZ10 : Hid (SB.size ≤ 2) := by
            unfold Hid; rw [← hSB]; subst e6; decide
          have t75 : hasB SB 75 = false := by rw [← hSB, HSS.out _ (by omega)]; exact hb75
          have t73 : hasB SB 73 = true := by rw [← hSB, HSS.out _ (by omega)]; exact hb73
          have t74 : hasB SB 74 = false := by rw [← hSB, HSS.out _ (by omega)]; exact hb74
          have t78 : hasB SB 78 = false := by rw [← hSB, HSS.out _ (by omega)]; exact hb78
          have t86 : hasB SB 86 = true := by rw [← hSB, HSS.out _ (by omega)]; exact hb86
          have t83 : hasB SB 83 = false := by rw [← hSB, HSS.out _ (by omega)]; exact hb83
          have HSB := Lib.hid hSB
          have H75 := Lib.hid hb75
          have H73 := Lib.hid hb73
          have H74 := Lib.hid hb74
          have H78 := Lib.hid hb78
          have H86 := Lib.hid hb86
          have H83 := Lib.hid hb83
          clear hSB hb75 hb73 hb74 hb78 hb86 hb83 e6
          have y0 := B.cel.at_ 0 _ rfl
          go_wp2_with (first | (go_at_call 51; (with_reducible refine (says10_any _ _).mono ?_); rintro e wq ⟨rfl, hb2⟩; rw [HSB.out]; replace B := B.behind hb2) | (go_at_call 52; (with_reducible refine (in10_75_any SB _ (by have := SZ10.out; omega)).mono ?_); rintro e wq ⟨rfl, hb2⟩; replace B := B.behind hb2) | (go_at_call 52; (with_reducible refine (in10_73_any SB _ (by have := SZ10.out; omega)).mono ?_); rintro e wq ⟨rfl, hb2⟩; replace B := B.behind hb2))
          obtain ⟨⟨i0, q0⟩, hE0⟩ : ∃ p, fN 8 S9 = p := ⟨_, rfl⟩
          have E0 := Lib.hid hE0
          clear hE0
          refine (numberR8 _ rb S9 B.box.rr E0.out).mono ?_
          rintro e wv0 ⟨rfl, hR0, hS0⟩
          have BN0 := B.next hS0 hR0
          have p3 := BN0.cel.fr 3
          have y3 := BN0.cel.at_ 3 _ rfl
          go_wp2_with fail
          have C0 : QC w (wv0.setCell ⟨cb, 3, none⟩ (.int .i64 (wrap64 i0))) rb cb q0 xs V.none ⟨kd, a, m, c, .empty, (wrap64 i0), 0, 0, vzero, .empty⟩ := BN0.set1 RStep.self (BN0.cel.set (i := 3) (x := .int .i64 (wrap64 i0)) (by simp [ccells])) rfl rfl rfl rfl
          clear B BN0
          go_wp2_with (first | (go_at_call 52; (with_reducible refine (in10_74_any SB _ (by have := SZ10.out; omega)).mono ?_); rintro e wq ⟨rfl, hb2⟩; replace C0 := C0.behind hb2) | (go_at_call 52; (with_reducible refine (in10_78_any SB _ (by have := SZ10.out; omega)).mono ?_); rintro e wq ⟨rfl, hb2⟩; replace C0 := C0.behind hb2) | (go_at_call 52; (with_reducible refine (in10_86_any SB _ (by have := SZ10.out; omega)).mono ?_); rintro e wq ⟨rfl, hb2⟩; replace C0 := C0.behind hb2))
          obtain ⟨⟨v1, q1⟩, hE1⟩ : ∃ p, fV 18 q0 = p := ⟨_, rfl⟩
          have E1 := Lib.hid hE1
          clear hE1
          refine (valueR0 _ rb q0 C0.box.rr E1.out).mono ?_
          rintro e wv1 ⟨cv, rfl, hS1, hI1, hR1⟩
          have BN1 := C0.next hS1 hR1
          have p6 := BN1.cel.fr 6; have y6 := BN1.cel.at_ 6 _ rfl; have p7 := BN1.cel.fr 7; have y7 := BN1.cel.at_ 7 _ rfl; have p8 := BN1.cel.fr 8; have y8 := BN1.cel.at_ 8 _ rfl; have p9 := BN1.cel.fr 9; have y9 := BN1.cel.at_ 9 _ rfl; have p10 := BN1.cel.fr 10; have y10 := BN1.cel.at_ 10 _ rfl
          go_wp2_with fail
          have C1 : QC w (((((wv1.setCell ⟨cb, 6, none⟩ (.int .u8 cv.k)).setCell ⟨cb, 7, none⟩ (.int .i64 cv.n)).setCell ⟨cb, 8, none⟩ (.string cv.s)).setCell ⟨cb, 9, none⟩ (.slice cv.la cv.ll cv.lc)).setCell ⟨cb, 10, none⟩ (.slice cv.oa cv.ol cv.oc)) rb cb q1 xs v1 ⟨kd, a, m, c, .empty, (wrap64 i0), 0, 0, cv, .empty⟩ := C0.value hS1 hR1 hI1 ((((RStep.self.trans RStep.self).trans RStep.self).trans RStep.self).trans RStep.self) (((((BN1.cel.set (i := 6) (x := .int .u8 cv.k) (by simp [ccells])).set (i := 7) (x := .int .i64 cv.n) (by simp [ccells])).set (i := 8) (x := .string cv.s) (by simp [ccells])).set (i := 9) (x := .slice cv.la cv.ll cv.lc) (by simp [ccells])).set (i := 10) (x := .slice cv.oa cv.ol cv.oc) (by simp [ccells])) rfl rfl rfl
          clear C0 BN1 hI1
          go_wp2_with (go_at_call 52; (with_reducible refine (in10_83_any SB _ (by have := SZ10.out; omega)).mono ?_); rintro e wq ⟨rfl, hb2⟩; replace C1 := C1.behind hb2; obtain ⟨y0, y1, y2, y3, y4, y5, y6, y7, y8, y9, y10, y11⟩ := BC.cells12 C1.cel; obtain ⟨r0, gr0, r1, gr1, r2, gr2, r3, gr3, r4, gr4, r5, gr5, r6, gr6, r7, gr7, r8, gr8, r9, gr9, r10, gr10, r11, gr11⟩ := BC.both12 C1.box.res; have hcl := C1.cel.lt)
          have hfin : ((⟨kd, xs, .empty, (wrap64 i0), 0, 0, v1, .empty⟩ : Cm), (q1 : RS)) = (x, s') := by rw [← HR.out]; simp [fRest, fIf, fB, fI, H75.out, H73.out, H74.out, H78.out, H86.out, H83.out, E0.out, E1.out]
          injection hfin with hf1 hf2
          subst hf1 hf2
          rw [← HQ.out]
          exact C1.leave (⟨by show (0 : Int) ≤ (kd : Int); omega, by show (kd : Int) < 256; omega, i64_lo _, i64_hi _, (by decide : (-9223372036854775808 : Int) ≤ 0), (by decide : (0 : Int) ≤ 9223372036854775807), (by decide : (-9223372036854775808 : Int) ≤ 0), (by decide : (0 : Int) ≤ 9223372036854775807), (by decide : ByteArray.empty.size ≤ 140737488355328), (by decide : ByteArray.empty.size ≤ 140737488355328)⟩) rfl rfl rfl
        by_cases e7 : kd = 7
        case pos =>
          have hb75 : hasB (saysB (kd : Int)) 75 = false := by subst e7; rfl
          have hb73 : hasB (saysB (kd : Int)) 73 = true := by subst e7; rfl
          have hb74 : hasB (saysB (kd : Int)) 74 = true := by subst e7; rfl
          have hb78 : hasB (saysB (kd : Int)) 78 = false := by subst e7; rfl
          have hb86 : hasB (saysB (kd : Int)) 86 = false := by subst e7; rfl
          have hb83 : hasB (saysB (kd : Int)) 83 = false := by subst e7; rfl
          have HSS : Hid (∀ b : Nat, b ≠ 46 → hasB (says10B (kd : Int)) b = hasB (saysB (kd : Int)) b) := fun b hb => says10_has _ b hb
          obtain ⟨SB, hSB⟩ : ∃ SB, says10B (kd : Int) = SB := ⟨_, rfl⟩
          have SZ10 : Hid (SB.size ≤ 2) := by
            unfold Hid; rw [← hSB]; subst e7; decide
          have t75 : hasB SB 75 = false := by rw [← hSB, HSS.out _ (by omega)]; exact hb75
          have t73 : hasB SB 73 = true := by rw [← hSB, HSS.out _ (by omega)]; exact hb73
          have t74 : hasB SB 74 = true := by rw [← hSB, HSS.out _ (by omega)]; exact hb74
          have t78 : hasB SB 78 = false := by rw [← hSB, HSS.out _ (by omega)]; exact hb78
          have t86 : hasB SB 86 = false := by rw [← hSB, HSS.out _ (by omega)]; exact hb86
          have t83 : hasB SB 83 = false := by rw [← hSB, HSS.out _ (by omega)]; exact hb83
          have HSB := Lib.hid hSB
          have H75 := Lib.hid hb75
          have H73 := Lib.hid hb73
          have H74 := Lib.hid hb74
          have H78 := Lib.hid hb78
          have H86 := Lib.hid hb86
          have H83 := Lib.hid hb83
          clear hSB hb75 hb73 hb74 hb78 hb86 hb83 e7
          have y0 := B.cel.at_ 0 _ rfl
          go_wp2_with (first | (go_at_call 51; (with_reducible refine (says10_any _ _).mono ?_); rintro e wq ⟨rfl, hb2⟩; rw [HSB.out]; replace B := B.behind hb2) | (go_at_call 52; (with_reducible refine (in10_75_any SB _ (by have := SZ10.out; omega)).mono ?_); rintro e wq ⟨rfl, hb2⟩; replace B := B.behind hb2) | (go_at_call 52; (with_reducible refine (in10_73_any SB _ (by have := SZ10.out; omega)).mono ?_); rintro e wq ⟨rfl, hb2⟩; replace B := B.behind hb2))
          obtain ⟨⟨i0, q0⟩, hE0⟩ : ∃ p, fN 8 S9 = p := ⟨_, rfl⟩
          have E0 := Lib.hid hE0
          clear hE0
          refine (numberR8 _ rb S9 B.box.rr E0.out).mono ?_
          rintro e wv0 ⟨rfl, hR0, hS0⟩
          have BN0 := B.next hS0 hR0
          have p3 := BN0.cel.fr 3
          have y3 := BN0.cel.at_ 3 _ rfl
          go_wp2_with fail
          have C0 : QC w (wv0.setCell ⟨cb, 3, none⟩ (.int .i64 (wrap64 i0))) rb cb q0 xs V.none ⟨kd, a, m, c, .empty, (wrap64 i0), 0, 0, vzero, .empty⟩ := BN0.set1 RStep.self (BN0.cel.set (i := 3) (x := .int .i64 (wrap64 i0)) (by simp [ccells])) rfl rfl rfl rfl
          clear B BN0
          go_wp2_with (go_at_call 52; (with_reducible refine (in10_74_any SB _ (by have := SZ10.out; omega)).mono ?_); rintro e wq ⟨rfl, hb2⟩; replace C0 := C0.behind hb2)
          obtain ⟨⟨j1, q1⟩, hE1⟩ : ∃ p, fN 8 q0 = p := ⟨_, rfl⟩
          have E1 := Lib.hid hE1
          clear hE1
          refine (numberR8 _ rb q0 C0.box.rr E1.out).mono ?_
          rintro e wv1 ⟨rfl, hR1, hS1⟩
          have BN1 := C0.next hS1 hR1
          have p4 := BN1.cel.fr 4
          have y4 := BN1.cel.at_ 4 _ rfl
          go_wp2_with fail
          have C1 : QC w (wv1.setCell ⟨cb, 4, none⟩ (.int .i64 (wrap64 j1))) rb cb q1 xs V.none ⟨kd, a, m, c, .empty, (wrap64 i0), (wrap64 j1), 0, vzero, .empty⟩ := BN1.set1 RStep.self (BN1.cel.set (i := 4) (x := .int .i64 (wrap64 j1)) (by simp [ccells])) rfl rfl rfl rfl
          clear C0 BN1
          go_wp2_with (first | (go_at_call 52; (with_reducible refine (in10_78_any SB _ (by have := SZ10.out; omega)).mono ?_); rintro e wq ⟨rfl, hb2⟩; replace C1 := C1.behind hb2) | (go_at_call 52; (with_reducible refine (in10_86_any SB _ (by have := SZ10.out; omega)).mono ?_); rintro e wq ⟨rfl, hb2⟩; replace C1 := C1.behind hb2) | (go_at_call 52; (with_reducible refine (in10_83_any SB _ (by have := SZ10.out; omega)).mono ?_); rintro e wq ⟨rfl, hb2⟩; replace C1 := C1.behind hb2; obtain ⟨y0, y1, y2, y3, y4, y5, y6, y7, y8, y9, y10, y11⟩ := BC.cells12 C1.cel; obtain ⟨r0, gr0, r1, gr1, r2, gr2, r3, gr3, r4, gr4, r5, gr5, r6, gr6, r7, gr7, r8, gr8, r9, gr9, r10, gr10, r11, gr11⟩ := BC.both12 C1.box.res; have hcl := C1.cel.lt))
          have hfin : ((⟨kd, xs, .empty, (wrap64 i0), (wrap64 j1), 0, V.none, .empty⟩ : Cm), (q1 : RS)) = (x, s') := by rw [← HR.out]; simp [fRest, fIf, fB, fI, H75.out, H73.out, H74.out, H78.out, H86.out, H83.out, E0.out, E1.out]
          injection hfin with hf1 hf2
          subst hf1 hf2
          rw [← HQ.out]
          exact C1.leave (⟨by show (0 : Int) ≤ (kd : Int); omega, by show (kd : Int) < 256; omega, i64_lo _, i64_hi _, i64_lo _, i64_hi _, (by decide : (-9223372036854775808 : Int) ≤ 0), (by decide : (0 : Int) ≤ 9223372036854775807), (by decide : ByteArray.empty.size ≤ 140737488355328), (by decide : ByteArray.empty.size ≤ 140737488355328)⟩) rfl rfl rfl
        by_cases e8 : kd = 8
        case pos =>
          have hb75 : hasB (saysB (kd : Int)) 75 = false := by subst e8; rfl
          have hb73 : hasB (saysB (kd : Int)) 73 = true := by subst e8; rfl
          have hb74 : hasB (saysB (kd : Int)) 74 = false := by subst e8; rfl
          have hb78 : hasB (saysB (kd : Int)) 78 = false := by subst e8; rfl
          have hb86 : hasB (saysB (kd : Int)) 86 = false := by subst e8; rfl
          have hb83 : hasB (saysB (kd : Int)) 83 = true := by subst e8; rfl
          have HSS : Hid (∀ b : Nat, b ≠ 46 → hasB (says10B (kd : Int)) b = hasB (saysB (kd : Int)) b) := fun b hb => says10_has _ b hb
          obtain ⟨SB, hSB⟩ : ∃ SB, says10B (kd : Int) = SB := ⟨_, rfl⟩
          have SZ10 : Hid (SB.size ≤ 2) := by
            unfold Hid; rw [← hSB]; subst e8; decide
          have t75 : hasB SB 75 = false := by rw [← hSB, HSS.out _ (by omega)]; exact hb75
          have t73 : hasB SB 73 = true := by rw [← hSB, HSS.out _ (by omega)]; exact hb73
          have t74 : hasB SB 74 = false := by rw [← hSB, HSS.out _ (by omega)]; exact hb74
          have t78 : hasB SB 78 = false := by rw [← hSB, HSS.out _ (by omega)]; exact hb78
          have t86 : hasB SB 86 = false := by rw [← hSB, HSS.out _ (by omega)]; exact hb86
          have t83 : hasB SB 83 = true := by rw [← hSB, HSS.out _ (by omega)]; exact hb83
          have HSB := Lib.hid hSB
          have H75 := Lib.hid hb75
          have H73 := Lib.hid hb73
          have H74 := Lib.hid hb74
          have H78 := Lib.hid hb78
          have H86 := Lib.hid hb86
          have H83 := Lib.hid hb83
          clear hSB hb75 hb73 hb74 hb78 hb86 hb83 e8
          have y0 := B.cel.at_ 0 _ rfl
          go_wp2_with (first | (go_at_call 51; (with_reducible refine (says10_any _ _).mono ?_); rintro e wq ⟨rfl, hb2⟩; rw [HSB.out]; replace B := B.behind hb2) | (go_at_call 52; (with_reducible refine (in10_75_any SB _ (by have := SZ10.out; omega)).mono ?_); rintro e wq ⟨rfl, hb2⟩; replace B := B.behind hb2) | (go_at_call 52; (with_reducible refine (in10_73_any SB _ (by have := SZ10.out; omega)).mono ?_); rintro e wq ⟨rfl, hb2⟩; replace B := B.behind hb2))
          obtain ⟨⟨i0, q0⟩, hE0⟩ : ∃ p, fN 8 S9 = p := ⟨_, rfl⟩
          have E0 := Lib.hid hE0
          clear hE0
          refine (numberR8 _ rb S9 B.box.rr E0.out).mono ?_
          rintro e wv0 ⟨rfl, hR0, hS0⟩
          have BN0 := B.next hS0 hR0
          have p3 := BN0.cel.fr 3
          have y3 := BN0.cel.at_ 3 _ rfl
          go_wp2_with fail
          have C0 : QC w (wv0.setCell ⟨cb, 3, none⟩ (.int .i64 (wrap64 i0))) rb cb q0 xs V.none ⟨kd, a, m, c, .empty, (wrap64 i0), 0, 0, vzero, .empty⟩ := BN0.set1 RStep.self (BN0.cel.set (i := 3) (x := .int .i64 (wrap64 i0)) (by simp [ccells])) rfl rfl rfl rfl
          clear B BN0
          go_wp2_with (first | (go_at_call 52; (with_reducible refine (in10_74_any SB _ (by have := SZ10.out; omega)).mono ?_); rintro e wq ⟨rfl, hb2⟩; replace C0 := C0.behind hb2) | (go_at_call 52; (with_reducible refine (in10_78_any SB _ (by have := SZ10.out; omega)).mono ?_); rintro e wq ⟨rfl, hb2⟩; replace C0 := C0.behind hb2) | (go_at_call 52; (with_reducible refine (in10_86_any SB _ (by have := SZ10.out; omega)).mono ?_); rintro e wq ⟨rfl, hb2⟩; replace C0 := C0.behind hb2) | (go_at_call 52; (with_reducible refine (in10_83_any SB _ (by have := SZ10.out; omega)).mono ?_); rintro e wq ⟨rfl, hb2⟩; replace C0 := C0.behind hb2))
          obtain ⟨⟨s1, q1⟩, hE1⟩ : ∃ p, fT q0 = p := ⟨_, rfl⟩
          have E1 := Lib.hid hE1
          clear hE1
          refine (textR_any _ rb q0 C0.box.rr E1.out).mono ?_
          rintro e wv1 ⟨rfl, hR1, hS1⟩
          have BN1 := C0.next hS1 hR1
          have p11 := BN1.cel.fr 11
          obtain ⟨y0, y1, y2, y3, y4, y5, y6, y7, y8, y9, y10, y11⟩ := BC.cells12 BN1.cel; obtain ⟨r0, gr0, r1, gr1, r2, gr2, r3, gr3, r4, gr4, r5, gr5, r6, gr6, r7, gr7, r8, gr8, r9, gr9, r10, gr10, r11, gr11⟩ := BC.both12 BN1.box.res; have hcl := BN1.cel.lt
          go_wp2_with fail
          have C1 : QC w (wv1.setCell ⟨cb, 11, none⟩ (.string s1)) rb cb q1 xs V.none ⟨kd, a, m, c, .empty, (wrap64 i0), 0, 0, vzero, s1⟩ := BN1.set1 RStep.self (BN1.cel.set (i := 11) (x := .string s1) (by simp [ccells])) rfl rfl rfl rfl
          have hfin : ((⟨kd, xs, .empty, (wrap64 i0), 0, 0, V.none, s1⟩ : Cm), (q1 : RS)) = (x, s') := by rw [← HR.out]; simp [fRest, fIf, fB, fI, H75.out, H73.out, H74.out, H78.out, H86.out, H83.out, E0.out, E1.out]
          injection hfin with hf1 hf2
          subst hf1 hf2
          rw [← HQ.out]
          exact C1.leave (⟨by show (0 : Int) ≤ (kd : Int); omega, by show (kd : Int) < 256; omega, i64_lo _, i64_hi _, (by decide : (-9223372036854775808 : Int) ≤ 0), (by decide : (0 : Int) ≤ 9223372036854775807), (by decide : (-9223372036854775808 : Int) ≤ 0), (by decide : (0 : Int) ≤ 9223372036854775807), (by decide : ByteArray.empty.size ≤ 140737488355328), (by have := fT_size q0; rw [E1.out] at this; exact this)⟩) rfl rfl rfl
        by_cases e9 : kd = 9
        case pos =>
          have hb75 : hasB (saysB (kd : Int)) 75 = false := by subst e9; rfl
          have hb73 : hasB (saysB (kd : Int)) 73 = true := by subst e9; rfl
          have hb74 : hasB (saysB (kd : Int)) 74 = false := by subst e9; rfl
          have hb78 : hasB (saysB (kd : Int)) 78 = true := by subst e9; rfl
          have hb86 : hasB (saysB (kd : Int)) 86 = false := by subst e9; rfl
          have hb83 : hasB (saysB (kd : Int)) 83 = false := by subst e9; rfl
          have HSS : Hid (∀ b : Nat, b ≠ 46 → hasB (says10B (kd : Int)) b = hasB (saysB (kd : Int)) b) := fun b hb => says10_has _ b hb
          obtain ⟨SB, hSB⟩ : ∃ SB, says10B (kd : Int) = SB := ⟨_, rfl⟩
          have SZ10 : Hid (SB.size ≤ 2) := by
            unfold Hid; rw [← hSB]; subst e9; decide
          have t75 : hasB SB 75 = false := by rw [← hSB, HSS.out _ (by omega)]; exact hb75
          have t73 : hasB SB 73 = true := by rw [← hSB, HSS.out _ (by omega)]; exact hb73
          have t74 : hasB SB 74 = false := by rw [← hSB, HSS.out _ (by omega)]; exact hb74
          have t78 : hasB SB 78 = true := by rw [← hSB, HSS.out _ (by omega)]; exact hb78
          have t86 : hasB SB 86 = false := by rw [← hSB, HSS.out _ (by omega)]; exact hb86
          have t83 : hasB SB 83 = false := by rw [← hSB, HSS.out _ (by omega)]; exact hb83
          have HSB := Lib.hid hSB
          have H75 := Lib.hid hb75
          have H73 := Lib.hid hb73
          have H74 := Lib.hid hb74
          have H78 := Lib.hid hb78
          have H86 := Lib.hid hb86
          have H83 := Lib.hid hb83
          clear hSB hb75 hb73 hb74 hb78 hb86 hb83 e9
          have y0 := B.cel.at_ 0 _ rfl
          go_wp2_with (first | (go_at_call 51; (with_reducible refine (says10_any _ _).mono ?_); rintro e wq ⟨rfl, hb2⟩; rw [HSB.out]; replace B := B.behind hb2) | (go_at_call 52; (with_reducible refine (in10_75_any SB _ (by have := SZ10.out; omega)).mono ?_); rintro e wq ⟨rfl, hb2⟩; replace B := B.behind hb2) | (go_at_call 52; (with_reducible refine (in10_73_any SB _ (by have := SZ10.out; omega)).mono ?_); rintro e wq ⟨rfl, hb2⟩; replace B := B.behind hb2))
          obtain ⟨⟨i0, q0⟩, hE0⟩ : ∃ p, fN 8 S9 = p := ⟨_, rfl⟩
          have E0 := Lib.hid hE0
          clear hE0
          refine (numberR8 _ rb S9 B.box.rr E0.out).mono ?_
          rintro e wv0 ⟨rfl, hR0, hS0⟩
          have BN0 := B.next hS0 hR0
          have p3 := BN0.cel.fr 3
          have y3 := BN0.cel.at_ 3 _ rfl
          go_wp2_with fail
          have C0 : QC w (wv0.setCell ⟨cb, 3, none⟩ (.int .i64 (wrap64 i0))) rb cb q0 xs V.none ⟨kd, a, m, c, .empty, (wrap64 i0), 0, 0, vzero, .empty⟩ := BN0.set1 RStep.self (BN0.cel.set (i := 3) (x := .int .i64 (wrap64 i0)) (by simp [ccells])) rfl rfl rfl rfl
          clear B BN0
          go_wp2_with (first | (go_at_call 52; (with_reducible refine (in10_74_any SB _ (by have := SZ10.out; omega)).mono ?_); rintro e wq ⟨rfl, hb2⟩; replace C0 := C0.behind hb2) | (go_at_call 52; (with_reducible refine (in10_78_any SB _ (by have := SZ10.out; omega)).mono ?_); rintro e wq ⟨rfl, hb2⟩; replace C0 := C0.behind hb2))
          obtain ⟨⟨n1, q1⟩, hE1⟩ : ∃ p, fN 8 q0 = p := ⟨_, rfl⟩
          have E1 := Lib.hid hE1
          clear hE1
          refine (numberR8 _ rb q0 C0.box.rr E1.out).mono ?_
          rintro e wv1 ⟨rfl, hR1, hS1⟩
          have BN1 := C0.next hS1 hR1
          have p5 := BN1.cel.fr 5
          have y5 := BN1.cel.at_ 5 _ rfl
          go_wp2_with fail
          have C1 : QC w (wv1.setCell ⟨cb, 5, none⟩ (.int .i64 (wrap64 n1))) rb cb q1 xs V.none ⟨kd, a, m, c, .empty, (wrap64 i0), 0, (wrap64 n1), vzero, .empty⟩ := BN1.set1 RStep.self (BN1.cel.set (i := 5) (x := .int .i64 (wrap64 n1)) (by simp [ccells])) rfl rfl rfl rfl
          clear C0 BN1
          go_wp2_with (first | (go_at_call 52; (with_reducible refine (in10_86_any SB _ (by have := SZ10.out; omega)).mono ?_); rintro e wq ⟨rfl, hb2⟩; replace C1 := C1.behind hb2) | (go_at_call 52; (with_reducible refine (in10_83_any SB _ (by have := SZ10.out; omega)).mono ?_); rintro e wq ⟨rfl, hb2⟩; replace C1 := C1.behind hb2; obtain ⟨y0, y1, y2, y3, y4, y5, y6, y7, y8, y9, y10, y11⟩ := BC.cells12 C1.cel; obtain ⟨r0, gr0, r1, gr1, r2, gr2, r3, gr3, r4, gr4, r5, gr5, r6, gr6, r7, gr7, r8, gr8, r9, gr9, r10, gr10, r11, gr11⟩ := BC.both12 C1.box.res; have hcl := C1.cel.lt))
          have hfin : ((⟨kd, xs, .empty, (wrap64 i0), 0, (wrap64 n1), V.none, .empty⟩ : Cm), (q1 : RS)) = (x, s') := by rw [← HR.out]; simp [fRest, fIf, fB, fI, H75.out, H73.out, H74.out, H78.out, H86.out, H83.out, E0.out, E1.out]
          injection hfin with hf1 hf2
          subst hf1 hf2
          rw [← HQ.out]
          exact C1.leave (⟨by show (0 : Int) ≤ (kd : Int); omega, by show (kd : Int) < 256; omega, i64_lo _, i64_hi _, (by decide : (-9223372036854775808 : Int) ≤ 0), (by decide : (0 : Int) ≤ 9223372036854775807), i64_lo _, i64_hi _, (by decide : ByteArray.empty.size ≤ 140737488355328), (by decide : ByteArray.empty.size ≤ 140737488355328)⟩) rfl rfl rfl
        have hb75 : hasB (saysB (kd : Int)) 75 = false := by simp [saysB, hasB, show ¬ (kd : Int) = 1 by omega, show ¬ (kd : Int) = 2 by omega, show ¬ (kd : Int) = 3 by omega, show ¬ (kd : Int) = 4 by omega, show ¬ (kd : Int) = 5 by omega, show ¬ (kd : Int) = 6 by omega, show ¬ (kd : Int) = 7 by omega, show ¬ (kd : Int) = 8 by omega, show ¬ (kd : Int) = 9 by omega]
        have hb73 : hasB (saysB (kd : Int)) 73 = false := by simp [saysB, hasB, show ¬ (kd : Int) = 1 by omega, show ¬ (kd : Int) = 2 by omega, show ¬ (kd : Int) = 3 by omega, show ¬ (kd : Int) = 4 by omega, show ¬ (kd : Int) = 5 by omega, show ¬ (kd : Int) = 6 by omega, show ¬ (kd : Int) = 7 by omega, show ¬ (kd : Int) = 8 by omega, show ¬ (kd : Int) = 9 by omega]
        have hb74 : hasB (saysB (kd : Int)) 74 = false := by simp [saysB, hasB, show ¬ (kd : Int) = 1 by omega, show ¬ (kd : Int) = 2 by omega, show ¬ (kd : Int) = 3 by omega, show ¬ (kd : Int) = 4 by omega, show ¬ (kd : Int) = 5 by omega, show ¬ (kd : Int) = 6 by omega, show ¬ (kd : Int) = 7 by omega, show ¬ (kd : Int) = 8 by omega, show ¬ (kd : Int) = 9 by omega]
        have hb78 : hasB (saysB (kd : Int)) 78 = false := by simp [saysB, hasB, show ¬ (kd : Int) = 1 by omega, show ¬ (kd : Int) = 2 by omega, show ¬ (kd : Int) = 3 by omega, show ¬ (kd : Int) = 4 by omega, show ¬ (kd : Int) = 5 by omega, show ¬ (kd : Int) = 6 by omega, show ¬ (kd : Int) = 7 by omega, show ¬ (kd : Int) = 8 by omega, show ¬ (kd : Int) = 9 by omega]
        have hb86 : hasB (saysB (kd : Int)) 86 = false := by simp [saysB, hasB, show ¬ (kd : Int) = 1 by omega, show ¬ (kd : Int) = 2 by omega, show ¬ (kd : Int) = 3 by omega, show ¬ (kd : Int) = 4 by omega, show ¬ (kd : Int) = 5 by omega, show ¬ (kd : Int) = 6 by omega, show ¬ (kd : Int) = 7 by omega, show ¬ (kd : Int) = 8 by omega, show ¬ (kd : Int) = 9 by omega]
        have hb83 : hasB (saysB (kd : Int)) 83 = false := by simp [saysB, hasB, show ¬ (kd : Int) = 1 by omega, show ¬ (kd : Int) = 2 by omega, show ¬ (kd : Int) = 3 by omega, show ¬ (kd : Int) = 4 by omega, show ¬ (kd : Int) = 5 by omega, show ¬ (kd : Int) = 6 by omega, show ¬ (kd : Int) = 7 by omega, show ¬ (kd : Int) = 8 by omega, show ¬ (kd : Int) = 9 by omega]
        have HSS : Hid (∀ b : Nat, b ≠ 46 → hasB (says10B (kd : Int)) b = hasB (saysB (kd : Int)) b) := fun b hb => says10_has _ b hb
        obtain ⟨SB, hSB⟩ : ∃ SB, says10B (kd : Int) = SB := ⟨_, rfl⟩
        have SZ10 : Hid (SB.size ≤ 2) := by
          unfold Hid; rw [← hSB]; unfold says10B; split
          · decide
          · simp [saysB, show ¬ (kd : Int) = 1 by omega, show ¬ (kd : Int) = 2 by omega, show ¬ (kd : Int) = 3 by omega, show ¬ (kd : Int) = 4 by omega, show ¬ (kd : Int) = 5 by omega, show ¬ (kd : Int) = 6 by omega, show ¬ (kd : Int) = 7 by omega, show ¬ (kd : Int) = 8 by omega, show ¬ (kd : Int) = 9 by omega]; decide
        have t75 : hasB SB 75 = false := by rw [← hSB, HSS.out _ (by omega)]; exact hb75
        have t73 : hasB SB 73 = false := by rw [← hSB, HSS.out _ (by omega)]; exact hb73
        have t74 : hasB SB 74 = false := by rw [← hSB, HSS.out _ (by omega)]; exact hb74
        have t78 : hasB SB 78 = false := by rw [← hSB, HSS.out _ (by omega)]; exact hb78
        have t86 : hasB SB 86 = false := by rw [← hSB, HSS.out _ (by omega)]; exact hb86
        have t83 : hasB SB 83 = false := by rw [← hSB, HSS.out _ (by omega)]; exact hb83
        have HSB := Lib.hid hSB
        have H75 := Lib.hid hb75
        have H73 := Lib.hid hb73
        have H74 := Lib.hid hb74
        have H78 := Lib.hid hb78
        have H86 := Lib.hid hb86
        have H83 := Lib.hid hb83
        clear hSB hb75 hb73 hb74 hb78 hb86 hb83
        have y0 := B.cel.at_ 0 _ rfl
        go_wp2_with (first | (go_at_call 51; (with_reducible refine (says10_any _ _).mono ?_); rintro e wq ⟨rfl, hb2⟩; rw [HSB.out]; replace B := B.behind hb2) | (go_at_call 52; (with_reducible refine (in10_75_any SB _ (by have := SZ10.out; omega)).mono ?_); rintro e wq ⟨rfl, hb2⟩; replace B := B.behind hb2) | (go_at_call 52; (with_reducible refine (in10_73_any SB _ (by have := SZ10.out; omega)).mono ?_); rintro e wq ⟨rfl, hb2⟩; replace B := B.behind hb2) | (go_at_call 52; (with_reducible refine (in10_74_any SB _ (by have := SZ10.out; omega)).mono ?_); rintro e wq ⟨rfl, hb2⟩; replace B := B.behind hb2) | (go_at_call 52; (with_reducible refine (in10_78_any SB _ (by have := SZ10.out; omega)).mono ?_); rintro e wq ⟨rfl, hb2⟩; replace B := B.behind hb2) | (go_at_call 52; (with_reducible refine (in10_86_any SB _ (by have := SZ10.out; omega)).mono ?_); rintro e wq ⟨rfl, hb2⟩; replace B := B.behind hb2) | (go_at_call 52; (with_reducible refine (in10_83_any SB _ (by have := SZ10.out; omega)).mono ?_); rintro e wq ⟨rfl, hb2⟩; replace B := B.behind hb2; obtain ⟨y0, y1, y2, y3, y4, y5, y6, y7, y8, y9, y10, y11⟩ := BC.cells12 B.cel; obtain ⟨r0, gr0, r1, gr1, r2, gr2, r3, gr3, r4, gr4, r5, gr5, r6, gr6, r7, gr7, r8, gr8, r9, gr9, r10, gr10, r11, gr11⟩ := BC.both12 B.box.res; have hcl := B.cel.lt))
        have hfin : ((⟨kd, xs, .empty, 0, 0, 0, V.none, .empty⟩ : Cm), (S9 : RS)) = (x, s') := by rw [← HR.out]; simp [fRest, fIf, fB, H75.out, H73.out, H74.out, H78.out, H86.out, H83.out]
        injection hfin with hf1 hf2
        subst hf1 hf2
        rw [← HQ.out]
        exact B.leave (⟨by show (0 : Int) ≤ (kd : Int); omega, by show (kd : Int) < 256; omega, (by decide : (-9223372036854775808 : Int) ≤ 0), (by decide : (0 : Int) ≤ 9223372036854775807), (by decide : (-9223372036854775808 : Int) ≤ 0), (by decide : (0 : Int) ≤ 9223372036854775807), (by decide : (-9223372036854775808 : Int) ≤ 0), (by decide : (0 : Int) ≤ 9223372036854775807), (by decide : ByteArray.empty.size ≤ 140737488355328), (by decide : ByteArray.empty.size ≤ 140737488355328)⟩) rfl rfl rfl
end Go.Proofs.YtcfbnmobfcabiaaDoor
namespace Go.Proofs.YtcfbnmobfcabiaaDoor
open Go.RowKit
theorem DB.below_ {w W W' : World} {s : RS} {cs : List Value} {B : Nat} (h : DB w W s cs) (hb : Below B W W') (hB : w.heap.size + 2 ≤ B) : DB w W' s cs :=
  ⟨h.rr.below hb (by omega), h.res.keep hb (by omega), h.below.trans (hb.mono (by omega)), Nat.le_trans h.size hb.size⟩
theorem DB.far {w W W' : World} {s : RS} {cs : List Value} {b : Nat} (h : DB w W s cs) (hs : RStep W W' b) (hb : w.heap.size + 2 ≤ b) (hl : b ≤ W.heap.size) : DB w W' s cs :=
  h.below_ (hs.below hl) hb
/-- At the head of a round of the operation's loop. -/
structure DL (w wr : World) (eb : Nat) (kd sr sq : Nat) (s0 : RS) (j : Nat) (a : Option Addr) (m c : Nat) (xs : List Cm) (cs : List CC) (sj : RS) : Prop where
  rd : fL fC j s0 = (xs, sj)
  len : xs.length = j
  cen : cs.length = j
  box : DB w wr sj (ecells ezero)
  vb_ : BC wr eb (ecells ⟨kd, sr, sq, vzero, a, m, c⟩)
  row : RowC wr (eb + 1) (.slice a m c) xs cs
  lo : w.heap.size + 2 ≤ eb
theorem DL.round {w wr w4 w5 : World} {eb kd sr sq : Nat} {s0 : RS} {j : Nat} {a : Option Addr} {m c : Nat} {xs : List Cm} {cs : List CC} {sj s2 : RS} {x : Cm} {cx : CC} {g cap : Nat} {t : TypeId}
    (h : DL w wr eb kd sr sq s0 j a m c xs cs sj) (hb0 : sj.2 = false) (hx : fC sj = (x, s2)) (hS : RStep wr.drew w4 (w.heap.size + 1)) (hI : IsComp (only (fun b => wr.drew.heap.size ≤ b) w4) w4.heap.size x cx) (hR : RR w4 (w.heap.size + 1) s2)
    (hown : w5.ownsRow (eb + 1) 70 12 (.slice (some ⟨g, 0, none⟩) (j + 1) cap) (j + 1) (cs.flatMap ccells ++ ccells cx)) (hg : (w4.alloc (.cells #[.int .u8 cx.k, .slice cx.pa cx.pl cx.pc, .string cx.key, .int .i64 cx.i, .int .i64 cx.j, .int .i64 cx.n, .int .u8 cx.v.k, .int .i64 cx.v.n, .string cx.v.s, .slice cx.v.la cx.v.ll cx.v.lc, .slice cx.v.oa cx.v.ol cx.v.oc, .string cx.s] t)).grownBy w5 (Value.slice a m c).ownBlock)
    (hat : (Value.slice a m c).ownBlock = some g ∨ g = w4.heap.size + 1) :
    DL w (w5.setCell ⟨eb, 8, none⟩ (.slice (some ⟨g, 0, none⟩) (j + 1) cap)) eb kd sr sq s0 (j + 1) (some ⟨g, 0, none⟩) (j + 1) cap (xs ++ [x]) (cs ++ [cx]) s2 := by
  have hlo := h.lo
  have hdz : wr.drew.heap.size = wr.heap.size := rfl
  have hb1 := drew_below wr
  have hrow := (h.row.later (PC.closed xs cs) (.of_below (w.heap.size + 1) hb1) (by omega)).later (PC.closed xs cs) hS (by omega)
  have hrlt : ∀ b, (Value.slice a m c).ownBlock = some b → eb + 1 ≤ b ∧ b < wr.heap.size := h.row.lt
  have hba : Below w4.heap.size w4 (w4.alloc (.cells #[.int .u8 cx.k, .slice cx.pa cx.pl cx.pc, .string cx.key, .int .i64 cx.i, .int .i64 cx.j, .int .i64 cx.n, .int .u8 cx.v.k, .int .i64 cx.v.n, .string cx.v.s, .slice cx.v.la cx.v.ll cx.v.lc, .slice cx.v.oa cx.v.ol cx.v.oc, .string cx.s] t)) := (Below.refl _ _).alloc (Nat.le_refl _) _
  have hsz4 : wr.heap.size ≤ w4.heap.size := hS.size
  have hclt := h.vb_.lt
  have hgb : Below (eb + 1) (w4.alloc (.cells #[.int .u8 cx.k, .slice cx.pa cx.pl cx.pc, .string cx.key, .int .i64 cx.i, .int .i64 cx.j, .int .i64 cx.n, .int .u8 cx.v.k, .int .i64 cx.v.n, .string cx.v.s, .slice cx.v.la cx.v.ll cx.v.lc, .slice cx.v.oa cx.v.ol cx.v.oc, .string cx.s] t)) w5 := grown_below hg (fun b hb => (hrlt b hb).1) (by simp; omega)
  have hb45 : Below (eb + 1) w4 w5 := (hba.mono (by omega)).trans hgb
  obtain ⟨s1, s2'⟩ := PC.snoc (l := xs) (cs := cs) (by rw [h.len, h.cen]) x cx
  have hnew : PC (xs ++ [x]) (cs ++ [cx]) (only (Free (eb + 1) (.slice a m c)) w4) w4.heap.size xs.length := s1 _ _ (hI.sub (shows_step fun b hb _ => ⟨⟨by rw [hdz] at hb; omega, fun e => by have := (hrlt b e.symm).2; rw [hdz] at hb; omega⟩, rfl⟩))
  have hpush := Row.push (PC.closed (xs ++ [x]) (cs ++ [cx])) hrow hba hg (u' := .slice (some ⟨g, 0, none⟩) (j + 1) cap) (news := ccells cx) (by rw [h.len]; exact hown) (by
    rcases hat with e | e
    · left; rw [e]; rfl
    · right; intro b hb; have : g = b := by simpa [Value.ownBlock] using hb
      omega) hnew s2'
  have hbox := ((h.box.behind hb1).next hS hR).below_ hb45 (by omega)
  have hvb := ((h.vb_.keep hb1 hclt).next hS (by omega)).keep hb45 (by omega)
  refine ⟨?_, by simp [h.len], by simp [h.cen], hbox.set (by omega), hvb.set (i := 8) (x := .slice (some ⟨g, 0, none⟩) (j + 1) cap) (by simp [ecells]), ?_, hlo⟩
  · rw [fL_step (by rw [h.rd]; exact hb0), h.rd]; simp only [hx]
  · have hr2 : RowC w5 (eb + 1) (.slice (some ⟨g, 0, none⟩) (j + 1) cap) (xs ++ [x]) (cs ++ [cx]) := by
      show Row _ _ _ _ _ _ _ _
      rw [flat_snoc, List.length_append, List.length_singleton]
      exact hpush
    exact hr2.set (PC.closed _ _) (by omega)
/-- The entry is read. -/
structure DE (w W : World) (eb : Nat) (s : RS) (v : V) (l : List Cm) (c : EC) : Prop where
  box : DB w W s (ecells ezero)
  cel : BC W eb (ecells c)
  val : IsVal (only (fun b => eb + 1 ≤ b) W) W.heap.size v c.v
  ops : IsComps (only (fun b => eb + 1 ≤ b) W) W.heap.size l c.oa c.ol c.oc
  lo : w.heap.size + 2 ≤ eb
theorem isComps_none (W : World) (B : Nat) : IsComps W B [] none 0 0 := IsComps.nil _ _
theorem DE.next {w W W' : World} {eb : Nat} {s s' : RS} {v : V} {l : List Cm} {c : EC} (h : DE w W eb s v l c) (hs : RStep W W' (w.heap.size + 1)) (hR : RR W' (w.heap.size + 1) s') : DE w W' eb s' v l c := by
  have hlo := h.lo
  exact ⟨h.box.next hs hR, h.cel.next hs (by omega), isVal_far h.val hs (by omega), isComps_far h.ops hs (by omega), hlo⟩
theorem DE.set {w W W' : World} {eb : Nat} {s : RS} {v : V} {l : List Cm} {c c' : EC} (h : DE w W eb s v l c) (hs : RStep W W' eb) (hbox : BC W' eb (ecells c')) (e1 : c'.v = c.v) (e2 : c'.oa = c.oa) (e3 : c'.ol = c.ol) (e4 : c'.oc = c.oc) : DE w W' eb s v l c' := by
  have hlo := h.lo
  refine ⟨h.box.far hs (by omega) (Nat.le_of_lt h.cel.lt), hbox, ?_, ?_, hlo⟩
  · rw [e1]; exact isVal_far h.val hs (by omega)
  · rw [e2, e3, e4]; exact isComps_far h.ops hs (by omega)
theorem DE.value {w W W' W2 : World} {eb : Nat} {s s' : RS} {v v' : V} {l : List Cm} {c c' : EC} (h : DE w W eb s v l c) (hs : RStep W W' (w.heap.size + 1)) (hR : RR W' (w.heap.size + 1) s') (hv : IsVal (only (fun b => W.heap.size ≤ b) W') W'.heap.size v' c'.v) (s2 : RStep W' W2 eb) (hbox : BC W2 eb (ecells c')) (e2 : c'.oa = c.oa) (e3 : c'.ol = c.ol) (e4 : c'.oc = c.oc) : DE w W2 eb s' v' l c' := by
  have hlo := h.lo
  have hcl := h.cel.lt
  have h1 := h.next hs hR
  refine ⟨h1.box.far s2 (by omega) (Nat.le_of_lt h1.cel.lt), hbox, ?_, ?_, hlo⟩
  · exact isVal_far (hv.sub (shows_step fun k hk _ => ⟨by omega, rfl⟩)) s2 (by omega)
  · rw [e2, e3, e4]; exact isComps_far h1.ops s2 (by omega)
theorem DE.entry {w W : World} {eb : Nat} {s : RS} {v : V} {l : List Cm} {c : EC} {x : En} (h : DE w W eb s v l c) (hb : c.Bnd) (hx : (⟨c.k, c.src, c.seq, v, l⟩ : En) = x) : IsEntry (only (fun b => w.heap.size + 2 ≤ b) W) W.heap.size x c := by
  subst hx
  have hlo := h.lo
  exact .mk c v l hb (h.val.sub (shows_step fun k hk _ => ⟨by omega, rfl⟩)) (h.ops.sub (shows_step fun k hk _ => ⟨by omega, rfl⟩))
theorem DL.de {w wr : World} {eb kd sr sq : Nat} {s0 : RS} {j : Nat} {a : Option Addr} {m c : Nat} {xs : List Cm} {cs : List CC} {sj : RS} (h : DL w wr eb kd sr sq s0 j a m c xs cs sj) (hfew : j ≤ 1466015503701) : DE w wr eb sj V.none xs ⟨kd, sr, sq, vzero, a, m, c⟩ :=
  ⟨h.box, h.vb_, isVal_none _ _, h.row.comps (by rw [h.len, h.cen]) (Nat.le_refl _) (by rw [h.len]; exact hfew), h.lo⟩
theorem u32_id (k : Nat) (h : k < 4294967296) : IntKind.u32.wrap (k : Int) = k := by simp [IntKind.wrap, IntKind.bits, IntKind.signed]; omega
/-- How it may end. -/
def DOut (sd : Bool) (x : En) (s1 : RS) (bs : List UInt8) (v : En) (e : Int) : Prop :=
  (s1.2 = true ∧ v = En.none ∧ e = 100) ∨ (s1.2 = false ∧ outN sd (encE x) ≠ 0 ∧ v = En.none ∧ e = 100) ∨
  (s1.2 = false ∧ outN sd (encE x) = 0 ∧ eqBs (outB sd (encE x)) bs = false ∧ v = En.none ∧ e = 100) ∨ (s1.2 = false ∧ outN sd (encE x) = 0 ∧ outB sd (encE x) = bs ∧ x = v ∧ e = 0)
end Go.Proofs.YtcfbnmobfcabiaaDoor
namespace Go.Proofs.YtcfbnmobfcabiaaDoor
open Go.RowKit
set_option maxHeartbeats 2000000 in
set_option maxRecDepth 100000 in
theorem dE_long (w : World) (a : Option Addr) (n c : Nat) (bs : List UInt8) (h : IsB w w.heap.size a n c bs) (hn : 60000 < bs.length) :
    Calls Tryd.prog 8 #[.slice a n c] w (DEPost w En.none 3) := by
  have hnn := h.len
  have hn2 : 60000 < n := by omega
  clear h hnn hn
  go_enter Tryd.func8, Tryd.ntmps8
  generalize hQ0 : bodyPost _ _ _ = Q0
  have HQ := Lib.hid hQ0
  clear hQ0
  go_wp2_with fail
  rw [← HQ.out]
  exact dE_leave (c := ezero) (BC.start w #[.int .u8 0, .int .u32 0, .int .u32 0, .int .u8 0, .int .i64 0, .string { data := #[] }, .slice none 0 0, .slice none 0 0, .slice none 0 0] _) ((Below.refl _ _).alloc (Nat.le_refl _) _) (isEntry_none _ _) rfl rfl rfl
set_option maxHeartbeats 32000000 in
set_option maxRecDepth 100000 in
theorem dE_all (w : World) (a : Option Addr) (n c : Nat) (bs : List UInt8) (h : IsB w w.heap.size a n c bs) (hn : bs.length ≤ 60000) (x : En) (s1 : RS) (hx : fE (bs, false) = (x, s1)) (sd : Bool) (hsz : s1.2 = false → (encE x).length ≤ 70368744177664)
    (hlv : s1.2 = false → Hid (∀ W5, Below w.heap.size w W5 → ∀ cv : EC, IsEntry W5 W5.heap.size x cv → Hid (∀ W, Below W5.heap.size W5 W → Calls Tryd.prog 14 #[.agg #[.int .u8 cv.k, .int .u32 cv.src, .int .u32 cv.seq, .int .u8 cv.v.k, .int .i64 cv.v.n, .string cv.v.s, .slice cv.v.la cv.v.ll cv.v.lc, .slice cv.v.oa cv.v.ol cv.v.oc, .slice cv.oa cv.ol cv.oc]] W fun e w' => e = .returned (.bool sd) ∧ Below W.heap.size W w'))) (v : En) (e : Int) (hout : DOut sd x s1 bs v e) :
    Calls Tryd.prog 8 #[.slice a n c] w (DEPost w v e) := by
  obtain ⟨i0, hi0, hz0, hz1, hz2⟩ := info_parts ginfoC
  have hnn := h.len
  have hn2 : ¬ 60000 < n := by omega
  have HI := Lib.hid h
  have HLV := Lib.hid hlv
  have HSZ := Lib.hid hsz
  have HO := Lib.hid hout
  have HD := Lib.hid (DB.start w bs a n c h #[.int .u8 0, .int .u32 0, .int .u32 0, .int .u8 0, .int .i64 0, .string { data := #[] }, .slice none 0 0, .slice none 0 0, .slice none 0 0] 31 63)
  obtain ⟨⟨kd, q1⟩, h1⟩ : ∃ p, fN 1 (bs, false) = p := ⟨_, rfl⟩
  obtain ⟨⟨sr, q2⟩, h2⟩ : ∃ p, fN 4 q1 = p := ⟨_, rfl⟩
  obtain ⟨⟨sq, q3⟩, h3⟩ : ∃ p, fN 4 q2 = p := ⟨_, rfl⟩
  rw [fE] at hx
  simp only [fB, h1, h2, h3] at hx
  have hk1 : kd < 256 := by have := fN_lt 1 (bs, false); rw [h1] at this; exact this
  have hs1 : sr < 4294967296 := by have := fN_lt 4 q1; rw [h2] at this; exact this
  have hq1 : sq < 4294967296 := by have := fN_lt 4 q2; rw [h3] at this; exact this
  have hu := u8_id kd hk1
  have hu2 := u32_id sr hs1
  have hu3 := u32_id sq hq1
  have H1 := Lib.hid h1
  have H2 := Lib.hid h2
  have H3 := Lib.hid h3
  have HX := Lib.hid hx
  clear h hnn hn hlv hsz hout h1 h2 h3 hx
  go_enter Tryd.func8, Tryd.ntmps8
  generalize hQ0 : bodyPost _ _ _ = Q0
  have HQ := Lib.hid hQ0
  clear hQ0
  go_wp2_with (go_at_call 22; (with_reducible refine (numberR1 _ (w.heap.size + 1) (bs, false) HD.out.rr H1.out).mono ?_); rintro e w1 ⟨rfl, hR1, hS1⟩; have D1 := HD.out.next hS1 hR1; have zs1 : w.heap.size + 1 < w1.heap.size := (by have := D1.size; omega))
  have DE1 : DE w (w1.alloc (.cells #[.int .u8 kd, .int .u32 0, .int .u32 0, .int .u8 0, .int .i64 0, .string { data := #[] }, .slice none 0 0, .slice none 0 0, .slice none 0 0] 31)) w1.heap.size q1 V.none [] ⟨kd, 0, 0, vzero, none, 0, 0⟩ :=
    ⟨D1.behind ((Below.refl _ _).alloc (Nat.le_refl _) _), BC.start w1 _ _, isVal_none _ _, isComps_none _ _, D1.size⟩
  refine (numberR4 _ (w.heap.size + 1) q1 DE1.box.rr H2.out).mono ?_
  rintro e w2 ⟨rfl, hR2, hS2⟩
  have DE2 := DE1.next hS2 hR2
  obtain ⟨eb, heb⟩ : ∃ eb, w1.heap.size = eb := ⟨_, rfl⟩
  rw [heb] at DE2 zs1 ⊢
  have p1 := DE2.cel.fr 1; have y1 := DE2.cel.at_ 1 _ rfl
  clear D1 DE1 hS2 hR2 hS1 hR1 heb
  go_wp2_with fail
  have DE3 : DE w (w2.setCell ⟨eb, 1, none⟩ (.int .u32 sr)) eb q2 V.none [] ⟨kd, sr, 0, vzero, none, 0, 0⟩ := DE2.set RStep.self (DE2.cel.set (i := 1) (x := .int .u32 sr) (by simp [ecells])) rfl rfl rfl rfl
  refine (numberR4 _ (w.heap.size + 1) q2 DE3.box.rr H3.out).mono ?_
  rintro e w3 ⟨rfl, hR3, hS3⟩
  have DE4 := DE3.next hS3 hR3
  have p2 := DE4.cel.fr 2
  obtain ⟨y0, y1, y2, y3, y4, y5, y6, y7, y8⟩ := BC.cells9 DE4.cel
  have zs3 := DE4.cel.lt
  have DE5 : DE w (w3.setCell ⟨eb, 2, none⟩ (.int .u32 sq)) eb q3 V.none [] ⟨kd, sr, sq, vzero, none, 0, 0⟩ := DE4.set RStep.self (DE4.cel.set (i := 2) (x := .int .u32 sq) (by simp [ecells])) rfl rfl rfl rfl
  clear DE2 DE3 hS3 hR3
  by_cases e1 : kd = 1
  case pos =>
    have f1 : ((kd : Int) == 1) = true := by subst e1; rfl
    have f2 : ((kd : Int) == 2) = false := by subst e1; rfl
    have hx := HX.out
    rw [if_pos e1] at hx
    obtain ⟨⟨v1, b9, d9⟩, h4⟩ : ∃ p, fV 18 q3 = p := ⟨_, rfl⟩
    rw [h4] at hx
    injection hx with hf1 hf2
    subst hf2
    have H4 := Lib.hid h4
    clear h4 HX e1 DE4
    go_wp2_with fail
    obtain ⟨W3, hW3⟩ : ∃ W3, w3.setCell ⟨eb, 2, none⟩ (.int .u32 sq) = W3 := ⟨_, rfl⟩
    rw [hW3] at DE5 ⊢
    clear hW3 zs3 p2 y0 y1 y2 y3 y4 y5 y6 y7 y8
    refine (valueR0 W3 (w.heap.size + 1) q3 DE5.box.rr H4.out).mono ?_
    rintro e w4 ⟨cv, rfl, hS4, hI4, hR4⟩
    have DE6 := DE5.next hS4 hR4
    have p3 := DE6.cel.fr 3; have p4 := DE6.cel.fr 4; have p5 := DE6.cel.fr 5; have p6 := DE6.cel.fr 6; have p7 := DE6.cel.fr 7
    obtain ⟨y0, y1, y2, y3, y4, y5, y6, y7, y8⟩ := BC.cells9 DE6.cel
    obtain ⟨o0, g0, o1, g1, o2, g2, o3, g3, o4, g4, o5, g5, o6, g6, o7, g7, o8, g8⟩ := BC.both9 DE6.box.res
    have zs4 := DE6.cel.lt
    have hlo4 := DE6.lo
    have DE7 : DE w (((((w4.setCell ⟨eb, 3, none⟩ (.int .u8 cv.k)).setCell ⟨eb, 4, none⟩ (.int .i64 cv.n)).setCell ⟨eb, 5, none⟩ (.string cv.s)).setCell ⟨eb, 6, none⟩ (.slice cv.la cv.ll cv.lc)).setCell ⟨eb, 7, none⟩ (.slice cv.oa cv.ol cv.oc)) eb (b9, d9) v1 [] ⟨kd, sr, sq, cv, none, 0, 0⟩ := DE5.value hS4 hR4 hI4 ((((RStep.self.trans RStep.self).trans RStep.self).trans RStep.self).trans RStep.self) (((((DE6.cel.set (i := 3) (x := .int .u8 cv.k) (by simp [ecells])).set (i := 4) (x := .int .i64 cv.n) (by simp [ecells])).set (i := 5) (x := .string cv.s) (by simp [ecells])).set (i := 6) (x := .slice cv.la cv.ll cv.lc) (by simp [ecells])).set (i := 7) (x := .slice cv.oa cv.ol cv.oc) (by simp [ecells])) rfl rfl rfl
    rcases HO.out with ⟨hb, rfl, rfl⟩ | ⟨hb, hN, rfl, rfl⟩ | ⟨hb, hN, hE, rfl, rfl⟩ | ⟨hb, hN, hE, rfl, rfl⟩
    · replace hb : d9 = true := hb
      subst hb
      have bb : w4.cell? ⟨w.heap.size + 1, 1, none⟩ = some (.bool true) := DE6.box.rr.bad
      have zs9 : w.heap.size + 1 < w4.heap.size := by omega
      go_wp2_with fail
      rw [← HQ.out]
      have ST := dE_stored DE7.box ezero
      exact dE_leave (c := ezero) ST.1 ST.2.1 (isEntry_none _ _) rfl rfl rfl
    · replace hb : d9 = false := hb
      subst hb
      have HLX := HLV.out rfl
      have HSX := HSZ.out rfl
      obtain ⟨en, hen⟩ : ∃ en, encE x = en := ⟨_, rfl⟩
      have HEN := Lib.hid hen
      obtain ⟨N, hNN⟩ : ∃ N, outN sd en = N := ⟨_, rfl⟩
      have HN := Lib.hid hNN
      rw [hen, hNN] at hN
      have fN1 : (N == 0) = false := by simpa using hN
      have fN2 : (N != 0) = true := by simpa using hN
      have fN3 : decide (N = 0) = false := by simpa using hN
      clear hNN hen
      have bb : w4.cell? ⟨w.heap.size + 1, 1, none⟩ = some (.bool false) := DE6.box.rr.bad
      have zs9 : w.heap.size + 1 < w4.heap.size := by omega
      go_wp2_with fail
      have hvx := (DE7.entry (c := ⟨kd, sr, sq, cv, none, 0, 0⟩) ⟨by show (0 : Int) ≤ (kd : Int); omega, by show (kd : Int) < 256; omega, by show (0 : Int) ≤ (sr : Int); omega, by show (sr : Int) < 4294967296; omega, by show (0 : Int) ≤ (sq : Int); omega, by show (sq : Int) < 4294967296; omega⟩ hf1).sub (shows_only _ _ _)
      refine (refEncode_e sd _ ⟨kd, sr, sq, cv, none, 0, 0⟩ x hvx (HLX.out _ DE7.box.below _ hvx) HSX).mono ?_
      rw [HEN.out]
      rintro e w5 ⟨⟨ra, rn, rc, rfl, hIc⟩, hb5⟩
      have D5 := DE7.next (.of_below _ hb5) (DE7.box.rr.of_below hb5)
      obtain ⟨y0, y1, y2, y3, y4, y5, y6, y7, y8⟩ := BC.cells9 D5.cel
      obtain ⟨o0, g0, o1, g1, o2, g2, o3, g3, o4, g4, o5, g5, o6, g6, o7, g7, o8, g8⟩ := BC.both9 D5.box.res
      have HI5 := Lib.hid (D5.entry (c := ⟨kd, sr, sq, cv, none, 0, 0⟩) ⟨by show (0 : Int) ≤ (kd : Int); omega, by show (kd : Int) < 256; omega, by show (0 : Int) ≤ (sr : Int); omega, by show (sr : Int) < 4294967296; omega, by show (0 : Int) ≤ (sq : Int); omega, by show (sq : Int) < 4294967296; omega⟩ hf1)
      have k2 := conv_isB (HI.out.keep D5.box.below)
      rw [HN.out]
      have k1 := conv_isB hIc
      have hlo5 := D5.lo
      have zs5 := D5.cel.lt
      have HD5 := Lib.hid D5
      clear D5 hvx hb5 hIc
      go_wp2_with fail
      rw [← HQ.out]
      have ST := dE_stored HD5.out.box ezero
      exact dE_leave (c := ezero) ST.1 ST.2.1 (isEntry_none _ _) rfl rfl rfl
    · replace hb : d9 = false := hb
      subst hb
      have HLX := HLV.out rfl
      have HSX := HSZ.out rfl
      obtain ⟨en, hen⟩ : ∃ en, encE x = en := ⟨_, rfl⟩
      have HEN := Lib.hid hen
      rw [hen] at hN hE
      have HN := Lib.hid hN
      obtain ⟨SA, hSA⟩ : ∃ SA, (⟨(outB sd en).toArray⟩ : ByteArray) = SA := ⟨_, rfl⟩
      obtain ⟨SQ, hSQ⟩ : ∃ SQ, (⟨bs.toArray⟩ : ByteArray) = SQ := ⟨_, rfl⟩
      have hne : SA ≠ SQ := by
        intro e; rw [← hSA, ← hSQ] at e
        rw [eqBs, (bytes_inj.1 e)] at hE; simp at hE
      have fS : (SA.toList == SQ.toList) = false := by
        have : SA.toList ≠ SQ.toList := by
          intro e
          rw [ByteArray.toList_eq, ByteArray.toList_eq] at e
          apply hne
          cases SA; cases SQ
          simpa using e
        simpa using this
      have HSA := Lib.hid hSA
      have HSQ := Lib.hid hSQ
      clear hen hN hE hSA hSQ
      have bb : w4.cell? ⟨w.heap.size + 1, 1, none⟩ = some (.bool false) := DE6.box.rr.bad
      have zs9 : w.heap.size + 1 < w4.heap.size := by omega
      go_wp2_with fail
      have hvx := (DE7.entry (c := ⟨kd, sr, sq, cv, none, 0, 0⟩) ⟨by show (0 : Int) ≤ (kd : Int); omega, by show (kd : Int) < 256; omega, by show (0 : Int) ≤ (sr : Int); omega, by show (sr : Int) < 4294967296; omega, by show (0 : Int) ≤ (sq : Int); omega, by show (sq : Int) < 4294967296; omega⟩ hf1).sub (shows_only _ _ _)
      refine (refEncode_e sd _ ⟨kd, sr, sq, cv, none, 0, 0⟩ x hvx (HLX.out _ DE7.box.below _ hvx) HSX).mono ?_
      rw [HEN.out]
      rintro e w5 ⟨⟨ra, rn, rc, rfl, hIc⟩, hb5⟩
      have D5 := DE7.next (.of_below _ hb5) (DE7.box.rr.of_below hb5)
      obtain ⟨y0, y1, y2, y3, y4, y5, y6, y7, y8⟩ := BC.cells9 D5.cel
      obtain ⟨o0, g0, o1, g1, o2, g2, o3, g3, o4, g4, o5, g5, o6, g6, o7, g7, o8, g8⟩ := BC.both9 D5.box.res
      have HI5 := Lib.hid (D5.entry (c := ⟨kd, sr, sq, cv, none, 0, 0⟩) ⟨by show (0 : Int) ≤ (kd : Int); omega, by show (kd : Int) < 256; omega, by show (0 : Int) ≤ (sr : Int); omega, by show (sr : Int) < 4294967296; omega, by show (0 : Int) ≤ (sq : Int); omega, by show (sq : Int) < 4294967296; omega⟩ hf1)
      have k2 := conv_isB (HI.out.keep D5.box.below)
      rw [HN.out]
      have k1 : (convert 22 9 (.slice ra rn rc)).run Tryd.prog w5 = .ok (.string SA) w5 := by rw [← HSA.out]; exact conv_isB hIc
      rw [HSQ.out] at k2
      have hlo5 := D5.lo
      have zs5 := D5.cel.lt
      have HD5 := Lib.hid D5
      clear D5 hvx hb5 hIc
      go_wp2_with fail
      rw [← HQ.out]
      have ST := dE_stored HD5.out.box ezero
      exact dE_leave (c := ezero) ST.1 ST.2.1 (isEntry_none _ _) rfl rfl rfl
    · replace hb : d9 = false := hb
      subst hb
      have HLX := HLV.out rfl
      have HSX := HSZ.out rfl
      obtain ⟨en, hen⟩ : ∃ en, encE x = en := ⟨_, rfl⟩
      have HEN := Lib.hid hen
      rw [hen] at hN hE
      have HN := Lib.hid hN
      have HE := Lib.hid hE
      clear hen hN hE
      have bb : w4.cell? ⟨w.heap.size + 1, 1, none⟩ = some (.bool false) := DE6.box.rr.bad
      have zs9 : w.heap.size + 1 < w4.heap.size := by omega
      go_wp2_with fail
      have hvx := (DE7.entry (c := ⟨kd, sr, sq, cv, none, 0, 0⟩) ⟨by show (0 : Int) ≤ (kd : Int); omega, by show (kd : Int) < 256; omega, by show (0 : Int) ≤ (sr : Int); omega, by show (sr : Int) < 4294967296; omega, by show (0 : Int) ≤ (sq : Int); omega, by show (sq : Int) < 4294967296; omega⟩ hf1).sub (shows_only _ _ _)
      refine (refEncode_e sd _ ⟨kd, sr, sq, cv, none, 0, 0⟩ x hvx (HLX.out _ DE7.box.below _ hvx) HSX).mono ?_
      rw [HEN.out]
      rintro e w5 ⟨⟨ra, rn, rc, rfl, hIc⟩, hb5⟩
      have D5 := DE7.next (.of_below _ hb5) (DE7.box.rr.of_below hb5)
      obtain ⟨y0, y1, y2, y3, y4, y5, y6, y7, y8⟩ := BC.cells9 D5.cel
      obtain ⟨o0, g0, o1, g1, o2, g2, o3, g3, o4, g4, o5, g5, o6, g6, o7, g7, o8, g8⟩ := BC.both9 D5.box.res
      have HI5 := Lib.hid (D5.entry (c := ⟨kd, sr, sq, cv, none, 0, 0⟩) ⟨by show (0 : Int) ≤ (kd : Int); omega, by show (kd : Int) < 256; omega, by show (0 : Int) ≤ (sr : Int); omega, by show (sr : Int) < 4294967296; omega, by show (0 : Int) ≤ (sq : Int); omega, by show (sq : Int) < 4294967296; omega⟩ hf1)
      have k2 := conv_isB (HI.out.keep D5.box.below)
      rw [HN.out]
      rw [HE.out] at hIc
      have k1 := conv_isB hIc
      have hlo5 := D5.lo
      have zs5 := D5.cel.lt
      have HD5 := Lib.hid D5
      clear D5 hvx hb5 hIc
      go_wp2_with fail
      rw [← HQ.out]
      have ST := dE_stored HD5.out.box ⟨kd, sr, sq, cv, none, 0, 0⟩
      exact dE_leave (c := ⟨kd, sr, sq, cv, none, 0, 0⟩) ST.1 ST.2.1 ((isEntry_far HI5.out ST.2.2 (by omega)).sub (shows_only _ _ _)) rfl rfl rfl
  case neg =>
  have f1 : ((kd : Int) == 1) = false := by simp; omega
  by_cases e2 : kd = 2
  case pos =>
    have f2 : ((kd : Int) == 2) = true := by subst e2; rfl
    have hx := HX.out
    rw [if_neg e1, if_pos e2] at hx
    obtain ⟨⟨n2, q4⟩, h4⟩ : ∃ p, fM 4 q3 = p := ⟨_, rfl⟩
    rw [h4] at hx
    dsimp only at hx
    obtain ⟨⟨l, s9⟩, h5⟩ : ∃ p, fL fC n2 q4 = p := ⟨_, rfl⟩
    rw [h5] at hx
    injection hx with hf1 hf2
    subst hf2
    have hn4 : n2 < 4294967296 := by have := (fM_lt 4 q3).1; rw [h4] at this; exact Nat.lt_of_lt_of_le this (by decide)
    have H4 := Lib.hid h4
    have H5 := Lib.hid h5
    clear h4 h5 HX e1 e2 DE4
    go_wp2_with fail
    obtain ⟨W3, hW3⟩ : ∃ W3, w3.setCell ⟨eb, 2, none⟩ (.int .u32 sq) = W3 := ⟨_, rfl⟩
    rw [hW3] at DE5 ⊢
    clear hW3 zs3 p2 y0 y1 y2 y3 y4 y5 y6 y7 y8
    refine (manyR4 W3 (w.heap.size + 1) q3 DE5.box.rr H4.out).mono ?_
    rintro e w4 ⟨rfl, hR4, hS4⟩
    have DE6 := DE5.next hS4 hR4
    have DL0 : DL w w4 eb kd sr sq q4 0 none 0 0 [] [] q4 := ⟨rfl, rfl, rfl, DE6.box, DE6.cel, Row.nil _ _ _ _ _, DE6.lo⟩
    clear DE5 DE6 hR4 hS4
    go_wp2_with fail
    go_loopw [7] (fun i wr => ∃ (j : Nat) (a : Option Addr) (m c : Nat) (xs : List Cm) (cs : List CC) (sj : RS), j ≤ n2 ∧ i = .int .i64 j ∧ DL w wr eb kd sr sq q4 j a m c xs cs sj) (fun i _ => n2 - (intOf i).toNat)
    case atStart => exact ⟨0, none, 0, 0, [], [], q4, Nat.zero_le _, rfl, DL0⟩
    case round =>
      clear DL0
      obtain ⟨j, a', m, c', xs, cs, ⟨b9, d9⟩, hj, rfl, L⟩ := hrel
      have bb := L.box.rr.bad
      have hvlt := L.vb_.lt
      have hlo := L.lo
      have zs4 : w.heap.size + 1 < wr.heap.size := by omega
      by_cases hlt2 : j < n2
      · cases d9 with
        | true =>
          replace bb : wr.cell? ⟨w.heap.size + 1, 1, none⟩ = some (.bool true) := bb
          have hs := fL_stop (f := fC) (j := j) (n := n2) (s := q4) (by rw [L.rd]) (by omega)
          rw [H5.out, L.rd] at hs
          injection hs with hs1 hs2
          subst hs1 hs2
          have D8 := L.de (by omega)
          clear L
          rcases HO.out with ⟨hb, rfl, rfl⟩ | ⟨hb, hN, rfl, rfl⟩ | ⟨hb, hN, hE, rfl, rfl⟩ | ⟨hb, hN, hE, rfl, rfl⟩
          · obtain ⟨y0, y1, y2, y3, y4, y5, y6, y7, y8⟩ := BC.cells9 D8.cel
            obtain ⟨o0, g0, o1, g1, o2, g2, o3, g3, o4, g4, o5, g5, o6, g6, o7, g7, o8, g8⟩ := BC.both9 D8.box.res
            have bb : wr.cell? ⟨w.heap.size + 1, 1, none⟩ = some (.bool true) := D8.box.rr.bad
            go_wp2_with fail
            rw [← HQ.out]
            have ST := dE_stored D8.box ezero
            exact dE_leave (c := ezero) ST.1 ST.2.1 (isEntry_none _ _) rfl rfl rfl
          · cases hb
          · cases hb
          · cases hb
        | false =>
          replace bb : wr.cell? ⟨w.heap.size + 1, 1, none⟩ = some (.bool false) := bb
          obtain ⟨⟨z, s5⟩, hz⟩ : ∃ p, fC (b9, false) = p := ⟨_, rfl⟩
          have y8 := L.vb_.at_ 8 _ rfl
          have p8 := L.vb_.fr 8
          have HO2 : Hid (∀ W, RStep wr.drew W (w.heap.size + 1) → W.ownsRow (eb + 1) 70 12 (.slice a' m c') j (cs.flatMap ccells) ∧ W.cell? ⟨eb, 8, none⟩ = some (.slice a' m c') ∧ W.frozen? ⟨eb, 8, none⟩ = false ∧ eb < W.heap.size) := by
            intro W hW
            have ho := ((L.row.later (PC.closed xs cs) (.of_below (w.heap.size + 1) (drew_below wr)) (by omega)).later (PC.closed xs cs) hW (by omega)).own
            rw [L.len] at ho
            exact ⟨ho, hW.cell (w := wr.drew) y8 (by omega), (hW.frozen (w := wr.drew) hvlt (by omega)).trans p8, Nat.lt_of_lt_of_le hvlt hW.size⟩
          have hne : (Value.slice a' m c').ownBlock ≠ some eb := fun e => by have := (L.row.lt _ e).1; omega
          have HC := Lib.hid (compR_any wr.drew (w.heap.size + 1) (b9, false) (L.box.behind (drew_below wr)).rr hz)
          have HFX := Lib.hid hz
          have LL := Lib.hid L
          clear hz L
          go_wp2_with fail
          refine wp_region_noPanic ?_
          go_region_law
            (first
              | (go_simp; go_at_call 25; refine (HC.out).mono ?_; rintro e w4 ⟨hS4, ⟨cx, rfl, hI4⟩, hR4⟩; obtain ⟨ho4, hc4, hf4, hv4⟩ := HO2.out w4 hS4)
              | (refine step_append_lies _ (by rfl) _ _ _ (by rfl) (eb + 1) 70 i0 _ 12 168 (by kernel_rfl) hi0 hz0 hz1 hz2 rfl (by omega) (.slice a' m c') j (cs.flatMap ccells) (by rfl) (ho4.alloc _) ⟨w4.heap.size, 0, none⟩ 1 1 (ccells cx) (by rfl) (by rfl) (World.news_of_block (t := 70) (fr := (0, 0)) (heap_alloc_new w4 _)) (by simp [ccells, Value.oneCell']) (by omega) (by unfold maxLen; omega) (by omega) (by simp; omega) (w4.heap.size + 1) (by simp) ?_; intro g cap w5 hown5 hgrow5 hat5 hlt5; have hc5 : w5.cell? ⟨eb, 8, none⟩ = some (.slice a' m c') := (hgrow5.cell_far ⟨eb, 8, none⟩ (by simp; omega) (Ne.symm hne)).trans (keep_cell ((Below.refl _ _).alloc (Nat.le_refl _) _) hc4 hv4); have hf5 : w5.frozen? ⟨eb, 8, none⟩ = false := (hgrow5.frozen_far ⟨eb, 8, none⟩ (by simp; omega) (Ne.symm hne)).trans ((((Below.refl _ _).alloc (Nat.le_refl _) _ : Below w4.heap.size w4 (w4.alloc _)).frozen (p := ⟨eb, 8, none⟩) hv4).trans hf4)))
          all_goals
            refine NoPanic.normal ?_
            go_wp2_with fail
            go_roundw
            case rel => exact ⟨j + 1, some ⟨g, 0, none⟩, j + 1, cap, xs ++ [z], cs ++ [cx], s5, by omega, by go_num, LL.out.round rfl HFX.out hS4 hI4 hR4 hown5 hgrow5 hat5⟩
            case measure => simp [intOf]; omega
      · have hjn : j = n2 := by omega
        subst hjn
        have hs := L.rd
        rw [H5.out] at hs
        injection hs with hs1 hs2
        subst hs1 hs2
        have D8 := L.de (by omega)
        clear L
        rcases HO.out with ⟨hb, rfl, rfl⟩ | ⟨hb, hN, rfl, rfl⟩ | ⟨hb, hN, hE, rfl, rfl⟩ | ⟨hb, hN, hE, rfl, rfl⟩
        · replace hb : d9 = true := hb
          subst hb
          obtain ⟨y0, y1, y2, y3, y4, y5, y6, y7, y8⟩ := BC.cells9 D8.cel
          obtain ⟨o0, g0, o1, g1, o2, g2, o3, g3, o4, g4, o5, g5, o6, g6, o7, g7, o8, g8⟩ := BC.both9 D8.box.res
          have bb : wr.cell? ⟨w.heap.size + 1, 1, none⟩ = some (.bool true) := D8.box.rr.bad
          go_wp2_with fail
          rw [← HQ.out]
          have ST := dE_stored D8.box ezero
          exact dE_leave (c := ezero) ST.1 ST.2.1 (isEntry_none _ _) rfl rfl rfl
        · replace hb : d9 = false := hb
          subst hb
          have HLX := HLV.out rfl
          have HSX := HSZ.out rfl
          obtain ⟨en, hen⟩ : ∃ en, encE x = en := ⟨_, rfl⟩
          have HEN := Lib.hid hen
          obtain ⟨N, hNN⟩ : ∃ N, outN sd en = N := ⟨_, rfl⟩
          have HN := Lib.hid hNN
          rw [hen, hNN] at hN
          have fN1 : (N == 0) = false := by simpa using hN
          have fN2 : (N != 0) = true := by simpa using hN
          have fN3 : decide (N = 0) = false := by simpa using hN
          clear hNN hen
          obtain ⟨y0, y1, y2, y3, y4, y5, y6, y7, y8⟩ := BC.cells9 D8.cel
          obtain ⟨o0, g0, o1, g1, o2, g2, o3, g3, o4, g4, o5, g5, o6, g6, o7, g7, o8, g8⟩ := BC.both9 D8.box.res
          have bb : wr.cell? ⟨w.heap.size + 1, 1, none⟩ = some (.bool false) := D8.box.rr.bad
          go_wp2_with fail
          have hvx := (D8.entry (c := ⟨kd, sr, sq, vzero, a', m, c'⟩) ⟨by show (0 : Int) ≤ (kd : Int); omega, by show (kd : Int) < 256; omega, by show (0 : Int) ≤ (sr : Int); omega, by show (sr : Int) < 4294967296; omega, by show (0 : Int) ≤ (sq : Int); omega, by show (sq : Int) < 4294967296; omega⟩ hf1).sub (shows_only _ _ _)
          refine (refEncode_e sd _ ⟨kd, sr, sq, vzero, a', m, c'⟩ x hvx (HLX.out _ D8.box.below _ hvx) HSX).mono ?_
          rw [HEN.out]
          rintro e w5 ⟨⟨ra, rn, rc, rfl, hIc⟩, hb5⟩
          have D5 := D8.next (.of_below _ hb5) (D8.box.rr.of_below hb5)
          obtain ⟨y0, y1, y2, y3, y4, y5, y6, y7, y8⟩ := BC.cells9 D5.cel
          obtain ⟨o0, g0, o1, g1, o2, g2, o3, g3, o4, g4, o5, g5, o6, g6, o7, g7, o8, g8⟩ := BC.both9 D5.box.res
          have HI5 := Lib.hid (D5.entry (c := ⟨kd, sr, sq, vzero, a', m, c'⟩) ⟨by show (0 : Int) ≤ (kd : Int); omega, by show (kd : Int) < 256; omega, by show (0 : Int) ≤ (sr : Int); omega, by show (sr : Int) < 4294967296; omega, by show (0 : Int) ≤ (sq : Int); omega, by show (sq : Int) < 4294967296; omega⟩ hf1)
          have k2 := conv_isB (HI.out.keep D5.box.below)
          rw [HN.out]
          have k1 := conv_isB hIc
          have hlo5 := D5.lo
          have zs5 := D5.cel.lt
          have HD5 := Lib.hid D5
          clear D5 hvx hb5 hIc
          go_wp2_with fail
          rw [← HQ.out]
          have ST := dE_stored HD5.out.box ezero
          exact dE_leave (c := ezero) ST.1 ST.2.1 (isEntry_none _ _) rfl rfl rfl
        · replace hb : d9 = false := hb
          subst hb
          have HLX := HLV.out rfl
          have HSX := HSZ.out rfl
          obtain ⟨en, hen⟩ : ∃ en, encE x = en := ⟨_, rfl⟩
          have HEN := Lib.hid hen
          rw [hen] at hN hE
          have HN := Lib.hid hN
          obtain ⟨SA, hSA⟩ : ∃ SA, (⟨(outB sd en).toArray⟩ : ByteArray) = SA := ⟨_, rfl⟩
          obtain ⟨SQ, hSQ⟩ : ∃ SQ, (⟨bs.toArray⟩ : ByteArray) = SQ := ⟨_, rfl⟩
          have hne : SA ≠ SQ := by
            intro e; rw [← hSA, ← hSQ] at e
            rw [eqBs, (bytes_inj.1 e)] at hE; simp at hE
          have fS : (SA.toList == SQ.toList) = false := by
            have : SA.toList ≠ SQ.toList := by
              intro e
              rw [ByteArray.toList_eq, ByteArray.toList_eq] at e
              apply hne
              cases SA; cases SQ
              simpa using e
            simpa using this
          have HSA := Lib.hid hSA
          have HSQ := Lib.hid hSQ
          clear hen hN hE hSA hSQ
          obtain ⟨y0, y1, y2, y3, y4, y5, y6, y7, y8⟩ := BC.cells9 D8.cel
          obtain ⟨o0, g0, o1, g1, o2, g2, o3, g3, o4, g4, o5, g5, o6, g6, o7, g7, o8, g8⟩ := BC.both9 D8.box.res
          have bb : wr.cell? ⟨w.heap.size + 1, 1, none⟩ = some (.bool false) := D8.box.rr.bad
          go_wp2_with fail
          have hvx := (D8.entry (c := ⟨kd, sr, sq, vzero, a', m, c'⟩) ⟨by show (0 : Int) ≤ (kd : Int); omega, by show (kd : Int) < 256; omega, by show (0 : Int) ≤ (sr : Int); omega, by show (sr : Int) < 4294967296; omega, by show (0 : Int) ≤ (sq : Int); omega, by show (sq : Int) < 4294967296; omega⟩ hf1).sub (shows_only _ _ _)
          refine (refEncode_e sd _ ⟨kd, sr, sq, vzero, a', m, c'⟩ x hvx (HLX.out _ D8.box.below _ hvx) HSX).mono ?_
          rw [HEN.out]
          rintro e w5 ⟨⟨ra, rn, rc, rfl, hIc⟩, hb5⟩
          have D5 := D8.next (.of_below _ hb5) (D8.box.rr.of_below hb5)
          obtain ⟨y0, y1, y2, y3, y4, y5, y6, y7, y8⟩ := BC.cells9 D5.cel
          obtain ⟨o0, g0, o1, g1, o2, g2, o3, g3, o4, g4, o5, g5, o6, g6, o7, g7, o8, g8⟩ := BC.both9 D5.box.res
          have HI5 := Lib.hid (D5.entry (c := ⟨kd, sr, sq, vzero, a', m, c'⟩) ⟨by show (0 : Int) ≤ (kd : Int); omega, by show (kd : Int) < 256; omega, by show (0 : Int) ≤ (sr : Int); omega, by show (sr : Int) < 4294967296; omega, by show (0 : Int) ≤ (sq : Int); omega, by show (sq : Int) < 4294967296; omega⟩ hf1)
          have k2 := conv_isB (HI.out.keep D5.box.below)
          rw [HN.out]
          have k1 : (convert 22 9 (.slice ra rn rc)).run Tryd.prog w5 = .ok (.string SA) w5 := by rw [← HSA.out]; exact conv_isB hIc
          rw [HSQ.out] at k2
          have hlo5 := D5.lo
          have zs5 := D5.cel.lt
          have HD5 := Lib.hid D5
          clear D5 hvx hb5 hIc
          go_wp2_with fail
          rw [← HQ.out]
          have ST := dE_stored HD5.out.box ezero
          exact dE_leave (c := ezero) ST.1 ST.2.1 (isEntry_none _ _) rfl rfl rfl
        · replace hb : d9 = false := hb
          subst hb
          have HLX := HLV.out rfl
          have HSX := HSZ.out rfl
          obtain ⟨en, hen⟩ : ∃ en, encE x = en := ⟨_, rfl⟩
          have HEN := Lib.hid hen
          rw [hen] at hN hE
          have HN := Lib.hid hN
          have HE := Lib.hid hE
          clear hen hN hE
          obtain ⟨y0, y1, y2, y3, y4, y5, y6, y7, y8⟩ := BC.cells9 D8.cel
          obtain ⟨o0, g0, o1, g1, o2, g2, o3, g3, o4, g4, o5, g5, o6, g6, o7, g7, o8, g8⟩ := BC.both9 D8.box.res
          have bb : wr.cell? ⟨w.heap.size + 1, 1, none⟩ = some (.bool false) := D8.box.rr.bad
          go_wp2_with fail
          have hvx := (D8.entry (c := ⟨kd, sr, sq, vzero, a', m, c'⟩) ⟨by show (0 : Int) ≤ (kd : Int); omega, by show (kd : Int) < 256; omega, by show (0 : Int) ≤ (sr : Int); omega, by show (sr : Int) < 4294967296; omega, by show (0 : Int) ≤ (sq : Int); omega, by show (sq : Int) < 4294967296; omega⟩ hf1).sub (shows_only _ _ _)
          refine (refEncode_e sd _ ⟨kd, sr, sq, vzero, a', m, c'⟩ x hvx (HLX.out _ D8.box.below _ hvx) HSX).mono ?_
          rw [HEN.out]
          rintro e w5 ⟨⟨ra, rn, rc, rfl, hIc⟩, hb5⟩
          have D5 := D8.next (.of_below _ hb5) (D8.box.rr.of_below hb5)
          obtain ⟨y0, y1, y2, y3, y4, y5, y6, y7, y8⟩ := BC.cells9 D5.cel
          obtain ⟨o0, g0, o1, g1, o2, g2, o3, g3, o4, g4, o5, g5, o6, g6, o7, g7, o8, g8⟩ := BC.both9 D5.box.res
          have HI5 := Lib.hid (D5.entry (c := ⟨kd, sr, sq, vzero, a', m, c'⟩) ⟨by show (0 : Int) ≤ (kd : Int); omega, by show (kd : Int) < 256; omega, by show (0 : Int) ≤ (sr : Int); omega, by show (sr : Int) < 4294967296; omega, by show (0 : Int) ≤ (sq : Int); omega, by show (sq : Int) < 4294967296; omega⟩ hf1)
          have k2 := conv_isB (HI.out.keep D5.box.below)
          rw [HN.out]
          rw [HE.out] at hIc
          have k1 := conv_isB hIc
          have hlo5 := D5.lo
          have zs5 := D5.cel.lt
          have HD5 := Lib.hid D5
          clear D5 hvx hb5 hIc
          go_wp2_with fail
          rw [← HQ.out]
          have ST := dE_stored HD5.out.box ⟨kd, sr, sq, vzero, a', m, c'⟩
          exact dE_leave (c := ⟨kd, sr, sq, vzero, a', m, c'⟩) ST.1 ST.2.1 ((isEntry_far HI5.out ST.2.2 (by omega)).sub (shows_only _ _ _)) rfl rfl rfl
  case neg =>
  have f2 : ((kd : Int) == 2) = false := by simp; omega
  have hx := HX.out
  rw [if_neg e1, if_neg e2] at hx
  injection hx with hf1 hf2
  subst hf2
  obtain ⟨b9, d9⟩ := q3
  clear HX e1 e2
  obtain ⟨o0, g0, o1, g1, o2, g2, o3, g3, o4, g4, o5, g5, o6, g6, o7, g7, o8, g8⟩ := BC.both9 DE4.box.res
  have hlo4 := DE4.lo
  rcases HO.out with ⟨hb, rfl, rfl⟩ | ⟨hb, hN, rfl, rfl⟩ | ⟨hb, hN, hE, rfl, rfl⟩ | ⟨hb, hN, hE, rfl, rfl⟩
  · replace hb : d9 = true := hb
    subst hb
    have bb : w3.cell? ⟨w.heap.size + 1, 1, none⟩ = some (.bool true) := DE4.box.rr.bad
    have zs9 : w.heap.size + 1 < w3.heap.size := by omega
    go_wp2_with fail
    rw [← HQ.out]
    have ST := dE_stored DE5.box ezero
    exact dE_leave (c := ezero) ST.1 ST.2.1 (isEntry_none _ _) rfl rfl rfl
  · replace hb : d9 = false := hb
    subst hb
    have HLX := HLV.out rfl
    have HSX := HSZ.out rfl
    obtain ⟨en, hen⟩ : ∃ en, encE x = en := ⟨_, rfl⟩
    have HEN := Lib.hid hen
    obtain ⟨N, hNN⟩ : ∃ N, outN sd en = N := ⟨_, rfl⟩
    have HN := Lib.hid hNN
    rw [hen, hNN] at hN
    have fN1 : (N == 0) = false := by simpa using hN
    have fN2 : (N != 0) = true := by simpa using hN
    have fN3 : decide (N = 0) = false := by simpa using hN
    clear hNN hen
    have bb : w3.cell? ⟨w.heap.size + 1, 1, none⟩ = some (.bool false) := DE4.box.rr.bad
    have zs9 : w.heap.size + 1 < w3.heap.size := by omega
    go_wp2_with fail
    have hvx := (DE5.entry (c := ⟨kd, sr, sq, vzero, none, 0, 0⟩) ⟨by show (0 : Int) ≤ (kd : Int); omega, by show (kd : Int) < 256; omega, by show (0 : Int) ≤ (sr : Int); omega, by show (sr : Int) < 4294967296; omega, by show (0 : Int) ≤ (sq : Int); omega, by show (sq : Int) < 4294967296; omega⟩ hf1).sub (shows_only _ _ _)
    refine (refEncode_e sd _ ⟨kd, sr, sq, vzero, none, 0, 0⟩ x hvx (HLX.out _ DE5.box.below _ hvx) HSX).mono ?_
    rw [HEN.out]
    rintro e w5 ⟨⟨ra, rn, rc, rfl, hIc⟩, hb5⟩
    have D5 := DE5.next (.of_below _ hb5) (DE5.box.rr.of_below hb5)
    obtain ⟨y0, y1, y2, y3, y4, y5, y6, y7, y8⟩ := BC.cells9 D5.cel
    obtain ⟨o0, g0, o1, g1, o2, g2, o3, g3, o4, g4, o5, g5, o6, g6, o7, g7, o8, g8⟩ := BC.both9 D5.box.res
    have HI5 := Lib.hid (D5.entry (c := ⟨kd, sr, sq, vzero, none, 0, 0⟩) ⟨by show (0 : Int) ≤ (kd : Int); omega, by show (kd : Int) < 256; omega, by show (0 : Int) ≤ (sr : Int); omega, by show (sr : Int) < 4294967296; omega, by show (0 : Int) ≤ (sq : Int); omega, by show (sq : Int) < 4294967296; omega⟩ hf1)
    have k2 := conv_isB (HI.out.keep D5.box.below)
    rw [HN.out]
    have k1 := conv_isB hIc
    have hlo5 := D5.lo
    have zs5 := D5.cel.lt
    have HD5 := Lib.hid D5
    clear D5 hvx hb5 hIc
    go_wp2_with fail
    rw [← HQ.out]
    have ST := dE_stored HD5.out.box ezero
    exact dE_leave (c := ezero) ST.1 ST.2.1 (isEntry_none _ _) rfl rfl rfl
  · replace hb : d9 = false := hb
    subst hb
    have HLX := HLV.out rfl
    have HSX := HSZ.out rfl
    obtain ⟨en, hen⟩ : ∃ en, encE x = en := ⟨_, rfl⟩
    have HEN := Lib.hid hen
    rw [hen] at hN hE
    have HN := Lib.hid hN
    obtain ⟨SA, hSA⟩ : ∃ SA, (⟨(outB sd en).toArray⟩ : ByteArray) = SA := ⟨_, rfl⟩
    obtain ⟨SQ, hSQ⟩ : ∃ SQ, (⟨bs.toArray⟩ : ByteArray) = SQ := ⟨_, rfl⟩
    have hne : SA ≠ SQ := by
      intro e; rw [← hSA, ← hSQ] at e
      rw [eqBs, (bytes_inj.1 e)] at hE; simp at hE
    have fS : (SA.toList == SQ.toList) = false := by
      have : SA.toList ≠ SQ.toList := by
        intro e
        rw [ByteArray.toList_eq, ByteArray.toList_eq] at e
        apply hne
        cases SA; cases SQ
        simpa using e
      simpa using this
    have HSA := Lib.hid hSA
    have HSQ := Lib.hid hSQ
    clear hen hN hE hSA hSQ
    have bb : w3.cell? ⟨w.heap.size + 1, 1, none⟩ = some (.bool false) := DE4.box.rr.bad
    have zs9 : w.heap.size + 1 < w3.heap.size := by omega
    go_wp2_with fail
    have hvx := (DE5.entry (c := ⟨kd, sr, sq, vzero, none, 0, 0⟩) ⟨by show (0 : Int) ≤ (kd : Int); omega, by show (kd : Int) < 256; omega, by show (0 : Int) ≤ (sr : Int); omega, by show (sr : Int) < 4294967296; omega, by show (0 : Int) ≤ (sq : Int); omega, by show (sq : Int) < 4294967296; omega⟩ hf1).sub (shows_only _ _ _)
    refine (refEncode_e sd _ ⟨kd, sr, sq, vzero, none, 0, 0⟩ x hvx (HLX.out _ DE5.box.below _ hvx) HSX).mono ?_
    rw [HEN.out]
    rintro e w5 ⟨⟨ra, rn, rc, rfl, hIc⟩, hb5⟩
    have D5 := DE5.next (.of_below _ hb5) (DE5.box.rr.of_below hb5)
    obtain ⟨y0, y1, y2, y3, y4, y5, y6, y7, y8⟩ := BC.cells9 D5.cel
    obtain ⟨o0, g0, o1, g1, o2, g2, o3, g3, o4, g4, o5, g5, o6, g6, o7, g7, o8, g8⟩ := BC.both9 D5.box.res
    have HI5 := Lib.hid (D5.entry (c := ⟨kd, sr, sq, vzero, none, 0, 0⟩) ⟨by show (0 : Int) ≤ (kd : Int); omega, by show (kd : Int) < 256; omega, by show (0 : Int) ≤ (sr : Int); omega, by show (sr : Int) < 4294967296; omega, by show (0 : Int) ≤ (sq : Int); omega, by show (sq : Int) < 4294967296; omega⟩ hf1)
    have k2 := conv_isB (HI.out.keep D5.box.below)
    rw [HN.out]
    have k1 : (convert 22 9 (.slice ra rn rc)).run Tryd.prog w5 = .ok (.string SA) w5 := by rw [← HSA.out]; exact conv_isB hIc
    rw [HSQ.out] at k2
    have hlo5 := D5.lo
    have zs5 := D5.cel.lt
    have HD5 := Lib.hid D5
    clear D5 hvx hb5 hIc
    go_wp2_with fail
    rw [← HQ.out]
    have ST := dE_stored HD5.out.box ezero
    exact dE_leave (c := ezero) ST.1 ST.2.1 (isEntry_none _ _) rfl rfl rfl
  · replace hb : d9 = false := hb
    subst hb
    have HLX := HLV.out rfl
    have HSX := HSZ.out rfl
    obtain ⟨en, hen⟩ : ∃ en, encE x = en := ⟨_, rfl⟩
    have HEN := Lib.hid hen
    rw [hen] at hN hE
    have HN := Lib.hid hN
    have HE := Lib.hid hE
    clear hen hN hE
    have bb : w3.cell? ⟨w.heap.size + 1, 1, none⟩ = some (.bool false) := DE4.box.rr.bad
    have zs9 : w.heap.size + 1 < w3.heap.size := by omega
    go_wp2_with fail
    have hvx := (DE5.entry (c := ⟨kd, sr, sq, vzero, none, 0, 0⟩) ⟨by show (0 : Int) ≤ (kd : Int); omega, by show (kd : Int) < 256; omega, by show (0 : Int) ≤ (sr : Int); omega, by show (sr : Int) < 4294967296; omega, by show (0 : Int) ≤ (sq : Int); omega, by show (sq : Int) < 4294967296; omega⟩ hf1).sub (shows_only _ _ _)
    refine (refEncode_e sd _ ⟨kd, sr, sq, vzero, none, 0, 0⟩ x hvx (HLX.out _ DE5.box.below _ hvx) HSX).mono ?_
    rw [HEN.out]
    rintro e w5 ⟨⟨ra, rn, rc, rfl, hIc⟩, hb5⟩
    have D5 := DE5.next (.of_below _ hb5) (DE5.box.rr.of_below hb5)
    obtain ⟨y0, y1, y2, y3, y4, y5, y6, y7, y8⟩ := BC.cells9 D5.cel
    obtain ⟨o0, g0, o1, g1, o2, g2, o3, g3, o4, g4, o5, g5, o6, g6, o7, g7, o8, g8⟩ := BC.both9 D5.box.res
    have HI5 := Lib.hid (D5.entry (c := ⟨kd, sr, sq, vzero, none, 0, 0⟩) ⟨by show (0 : Int) ≤ (kd : Int); omega, by show (kd : Int) < 256; omega, by show (0 : Int) ≤ (sr : Int); omega, by show (sr : Int) < 4294967296; omega, by show (0 : Int) ≤ (sq : Int); omega, by show (sq : Int) < 4294967296; omega⟩ hf1)
    have k2 := conv_isB (HI.out.keep D5.box.below)
    rw [HN.out]
    rw [HE.out] at hIc
    have k1 := conv_isB hIc
    have hlo5 := D5.lo
    have zs5 := D5.cel.lt
    have HD5 := Lib.hid D5
    clear D5 hvx hb5 hIc
    go_wp2_with fail
    rw [← HQ.out]
    have ST := dE_stored HD5.out.box ⟨kd, sr, sq, vzero, none, 0, 0⟩
    exact dE_leave (c := ⟨kd, sr, sq, vzero, none, 0, 0⟩) ST.1 ST.2.1 ((isEntry_far HI5.out ST.2.2 (by omega)).sub (shows_only _ _ _)) rfl rfl rfl
theorem dE_any (w : World) (hT : Tabs w) (a : Option Addr) (n c : Nat) (bs : List UInt8) (h : IsB w w.heap.size a n c bs) (hmax : bs.length ≤ 281474976710656) {v : En} {e : Int} (hout : backE bs = (v, e)) :
    Calls Tryd.prog 8 #[.slice a n c] w (DEPost w v e) := by
  rw [backE] at hout
  by_cases hl : 60000 < bs.length
  · rw [if_pos hl] at hout
    injection hout with h1 h2; subst h1 h2
    exact dE_long w a n c bs h hl
  rw [if_neg hl] at hout
  cases hr : rdE bs with
  | none =>
    rw [hr] at hout
    injection hout with h1 h2; subst h1 h2
    obtain ⟨⟨x, s1⟩, hx⟩ : ∃ p, fE (bs, false) = p := ⟨_, rfl⟩
    have hb : s1.2 = true := by have := rel_E.no bs hr; rw [hx] at this; exact this
    exact dE_all w a n c bs h (by omega) x s1 hx false (fun g => by rw [hb] at g; cases g) (fun g => by rw [hb] at g; cases g) _ _ (.inl ⟨hb, rfl, rfl⟩)
  | some p =>
    obtain ⟨x, r⟩ := p
    rw [hr] at hout
    replace hout : (if outN (enSound x) (encE x) = 0 then (if eqBs (outB (enSound x) (encE x)) bs = true then (x, (0 : Int)) else (En.none, 100)) else (En.none, 100)) = (v, e) := hout
    have hx := rel_E.ok bs x r hr
    obtain ⟨hlen, hwt, hws⟩ := rdE_len hr
    refine dE_all w a n c bs h (by omega) x _ hx (enSound x) (fun _ => by omega) (fun _ W5 hb cv hv W hW => refEnSound_any x W ((hT.below hb).below hW) cv (hv.later_ hW) ⟨by omega, fun y hy => by have := hws y hy; omega⟩) v e ?_
    by_cases h0 : outN (enSound x) (encE x) = 0
    · rw [if_pos h0] at hout
      cases he : eqBs (outB (enSound x) (encE x)) bs with
      | true =>
        rw [if_pos he] at hout
        injection hout with h1 h2
        exact .inr (.inr (.inr ⟨rfl, h0, by simpa [eqBs] using he, h1, h2.symm⟩))
      | false =>
        rw [if_neg (by rw [he]; simp)] at hout
        injection hout with h1 h2
        exact .inr (.inr (.inl ⟨rfl, h0, he, h1.symm, h2.symm⟩))
    · rw [if_neg h0] at hout
      injection hout with h1 h2
      exact .inr (.inl ⟨rfl, h0, h1.symm, h2.symm⟩)
end Go.Proofs.YtcfbnmobfcabiaaDoor
namespace Go.Proofs.YtcfbnmobfcabiaaDoor
open Go.RowKit
set_option maxHeartbeats 2000000 in
set_option maxRecDepth 100000 in
theorem dV_long (w : World) (a : Option Addr) (n c : Nat) (bs : List UInt8) (h : IsB w w.heap.size a n c bs) (hn : 60000 < bs.length) :
    Calls Tryd.prog 10 #[.slice a n c] w (DVPost w V.none 3) := by
  have hnn := h.len
  have hn2 : 60000 < n := by omega
  clear h hnn hn
  go_enter Tryd.func10, Tryd.ntmps10
  generalize hQ0 : bodyPost _ _ _ = Q0
  have HQ := Lib.hid hQ0
  clear hQ0
  go_wp2_with fail
  rw [← HQ.out]
  exact dV_leave (c := vzero) (BC.start w #[.int .u8 0, .int .i64 0, .string { data := #[] }, .slice none 0 0, .slice none 0 0] _) ((Below.refl _ _).alloc (Nat.le_refl _) _) (isVal_none _ _) rfl rfl rfl
set_option maxHeartbeats 4000000 in
set_option maxRecDepth 100000 in
theorem dV_bad (w : World) (a : Option Addr) (n c : Nat) (bs : List UInt8) (h : IsB w w.heap.size a n c bs) (hn : bs.length ≤ 60000) (x : V) (s1 : RS) (hx : fV 18 (bs, false) = (x, s1)) (hb : s1.2 = true) :
    Calls Tryd.prog 10 #[.slice a n c] w (DVPost w V.none 100) := by
  have hnn := h.len
  have hn2 : ¬ 60000 < n := by omega
  have HD := Lib.hid (DB.start w bs a n c h #[.int .u8 0, .int .i64 0, .string { data := #[] }, .slice none 0 0, .slice none 0 0] 28 63)
  obtain ⟨b1, bd⟩ := s1
  replace hb : bd = true := hb
  subst hb
  clear h hnn hn
  go_enter Tryd.func10, Tryd.ntmps10
  generalize hQ0 : bodyPost _ _ _ = Q0
  have HQ := Lib.hid hQ0
  clear hQ0
  go_wp2_with (go_at_call 23; refine (valueR0 _ (w.heap.size + 1) (bs, false) HD.out.rr hx).mono ?_; rintro e w3 ⟨cv, rfl, hS3, hI3, hR3⟩; have D := HD.out.next hS3 hR3; have bb : w3.cell? ⟨w.heap.size + 1, 1, none⟩ = some (.bool true) := D.rr.bad; have zs3 : w.heap.size + 1 < w3.heap.size := (by have := D.size; omega); have zs4 : w.heap.size < w3.heap.size := (by omega); have o0 := D.res.at_ 0 _ rfl; have g0 := D.res.fr 0; have o1 := D.res.at_ 1 _ rfl; have g1 := D.res.fr 1; have o2 := D.res.at_ 2 _ rfl; have g2 := D.res.fr 2; have o3 := D.res.at_ 3 _ rfl; have g3 := D.res.fr 3; have o4 := D.res.at_ 4 _ rfl; have g4 := D.res.fr 4; have HDD := Lib.hid D; have HI3 := Lib.hid (hI3.sub (shows_step (S' := fun b => w.heap.size + 2 ≤ b) (w' := w3) fun k hk _ => ⟨by have : w.heap.size + 2 ≤ _ := HD.out.size; omega, rfl⟩)); clear D hI3 hR3)
  rw [← HQ.out]
  have ST := dV_stored HDD.out vzero
  exact dV_leave (c := vzero) (ST.1.keep ((Below.refl _ _).alloc (Nat.le_refl _) _) ST.1.lt) (ST.2.1.alloc ST.2.1.size _) (isVal_none _ _) rfl rfl rfl
set_option maxHeartbeats 8000000 in
set_option maxRecDepth 100000 in
theorem dV_err (w : World) (a : Option Addr) (n c : Nat) (bs : List UInt8) (h : IsB w w.heap.size a n c bs) (hn : bs.length ≤ 60000) (x : V) (r : List UInt8) (hx : fV 18 (bs, false) = (x, (r, false))) (hsz : (encV x).length ≤ 70368744177664) (sd : Bool)
    (HLV : Hid (∀ W5, Below w.heap.size w W5 → ∀ cv : VC, IsVal W5 W5.heap.size x cv → Hid (∀ W, Below W5.heap.size W5 W → Calls Tryd.prog 37 #[.agg #[.int .u8 cv.k, .int .i64 cv.n, .string cv.s, .slice cv.la cv.ll cv.lc, .slice cv.oa cv.ol cv.oc]] W fun e w' => e = .returned (.bool sd) ∧ Below W.heap.size W w'))) (hbad : outN sd (encV x) ≠ 0) :
    Calls Tryd.prog 10 #[.slice a n c] w (DVPost w V.none 100) := by
  have hnn := h.len
  have hn2 : ¬ 60000 < n := by omega
  have HI := Lib.hid h
  obtain ⟨en, hen⟩ : ∃ en, encV x = en := ⟨_, rfl⟩
  have HEN := Lib.hid hen
  obtain ⟨N, hN⟩ : ∃ N, outN sd en = N := ⟨_, rfl⟩
  have HN := Lib.hid hN
  rw [hen, hN] at hbad
  have fN : (N == 0) = false := by simpa using hbad
  have fN2 : (N != 0) = true := by simpa using hbad
  have fN3 : decide (N = 0) = false := by simpa using hbad
  clear hN hen
  have HD := Lib.hid (DB.start w bs a n c h #[.int .u8 0, .int .i64 0, .string { data := #[] }, .slice none 0 0, .slice none 0 0] 28 63)
  clear h hnn hn
  go_enter Tryd.func10, Tryd.ntmps10
  generalize hQ0 : bodyPost _ _ _ = Q0
  have HQ := Lib.hid hQ0
  clear hQ0
  go_wp2_with (go_at_call 23; refine (valueR0 _ (w.heap.size + 1) (bs, false) HD.out.rr hx).mono ?_; rintro e w3 ⟨cv, rfl, hS3, hI3, hR3⟩; have D := HD.out.next hS3 hR3; have bb : w3.cell? ⟨w.heap.size + 1, 1, none⟩ = some (.bool false) := D.rr.bad; have zs3 : w.heap.size + 1 < w3.heap.size := (by have := D.size; omega); have zs4 : w.heap.size < w3.heap.size := (by omega); have o0 := D.res.at_ 0 _ rfl; have g0 := D.res.fr 0; have o1 := D.res.at_ 1 _ rfl; have g1 := D.res.fr 1; have o2 := D.res.at_ 2 _ rfl; have g2 := D.res.fr 2; have o3 := D.res.at_ 3 _ rfl; have g3 := D.res.fr 3; have o4 := D.res.at_ 4 _ rfl; have g4 := D.res.fr 4; have HDD := Lib.hid D; have HI3 := Lib.hid (hI3.sub (shows_step (S' := fun b => w.heap.size + 2 ≤ b) (w' := w3) fun k hk _ => ⟨by have : w.heap.size + 2 ≤ _ := HD.out.size; omega, rfl⟩)); clear D hI3 hR3)
  have hal : Below w3.heap.size w3 (w3.alloc (.cells #[.int .u8 cv.k, .int .i64 cv.n, .string cv.s, .slice cv.la cv.ll cv.lc, .slice cv.oa cv.ol cv.oc] 28)) := (Below.refl _ _).alloc (Nat.le_refl _) _
  have hvx : IsVal (w3.alloc (.cells #[.int .u8 cv.k, .int .i64 cv.n, .string cv.s, .slice cv.la cv.ll cv.lc, .slice cv.oa cv.ol cv.oc] 28)) (w3.alloc (.cells #[.int .u8 cv.k, .int .i64 cv.n, .string cv.s, .slice cv.la cv.ll cv.lc, .slice cv.oa cv.ol cv.oc] 28)).heap.size x cv := (HI3.out.sub (shows_only _ _ _)).later_ hal
  have hbl := HDD.out.below.trans (hal.mono (by omega))
  refine (refValue_v sd _ cv x hvx (HLV.out _ hbl cv hvx) hsz).mono ?_
  rw [HEN.out]
  rintro e w5 ⟨⟨ra, rn, rc, rfl, hIc⟩, hb5⟩
  have b35 : Below w3.heap.size w3 w5 := hal.trans (hb5.mono (by simp))
  have D := HDD.out.behind b35
  have o0 := D.res.at_ 0 _ rfl; have g0 := D.res.fr 0; have o1 := D.res.at_ 1 _ rfl; have g1 := D.res.fr 1; have o2 := D.res.at_ 2 _ rfl; have g2 := D.res.fr 2; have o3 := D.res.at_ 3 _ rfl; have g3 := D.res.fr 3; have o4 := D.res.at_ 4 _ rfl; have g4 := D.res.fr 4
  have PB := (BC.start w3 #[.int .u8 cv.k, .int .i64 cv.n, .string cv.s, .slice cv.la cv.ll cv.lc, .slice cv.oa cv.ol cv.oc] 28).keep hb5 (by simp)
  have p0 := PB.at_ 0 _ rfl; have p1 := PB.at_ 1 _ rfl; have p2 := PB.at_ 2 _ rfl; have p3 := PB.at_ 3 _ rfl; have p4 := PB.at_ 4 _ rfl
  have zs5 : w3.heap.size < w5.heap.size := Nat.lt_of_lt_of_le (by simp) hb5.size
  have HI5 := Lib.hid (isVal_far HI3.out (RStep.of_below w.heap.size b35) (by omega))
  have k2 := conv_isB (HI.out.keep D.below)
  rw [HN.out]
  have HD5 := Lib.hid D
  clear D PB hal hvx hbl b35 hb5 hIc
  go_wp2_with fail
  rw [← HQ.out]
  have ST := dV_stored HD5.out vzero
  exact dV_leave (c := vzero) ST.1 ST.2.1 (isVal_none _ _) rfl rfl rfl
set_option maxHeartbeats 8000000 in
set_option maxRecDepth 100000 in
theorem dV_neq (w : World) (a : Option Addr) (n c : Nat) (bs : List UInt8) (h : IsB w w.heap.size a n c bs) (hn : bs.length ≤ 60000) (x : V) (r : List UInt8) (hx : fV 18 (bs, false) = (x, (r, false))) (hsz : (encV x).length ≤ 70368744177664) (sd : Bool)
    (HLV : Hid (∀ W5, Below w.heap.size w W5 → ∀ cv : VC, IsVal W5 W5.heap.size x cv → Hid (∀ W, Below W5.heap.size W5 W → Calls Tryd.prog 37 #[.agg #[.int .u8 cv.k, .int .i64 cv.n, .string cv.s, .slice cv.la cv.ll cv.lc, .slice cv.oa cv.ol cv.oc]] W fun e w' => e = .returned (.bool sd) ∧ Below W.heap.size W w'))) (hok : outN sd (encV x) = 0) (heq : eqBs (outB sd (encV x)) bs = false) :
    Calls Tryd.prog 10 #[.slice a n c] w (DVPost w V.none 100) := by
  have hnn := h.len
  have hn2 : ¬ 60000 < n := by omega
  have HI := Lib.hid h
  obtain ⟨en, hen⟩ : ∃ en, encV x = en := ⟨_, rfl⟩
  have HEN := Lib.hid hen
  rw [hen] at hok heq
  have HN := Lib.hid hok
  obtain ⟨SA, hSA⟩ : ∃ SA, (⟨(outB sd en).toArray⟩ : ByteArray) = SA := ⟨_, rfl⟩
  obtain ⟨SQ, hSQ⟩ : ∃ SQ, (⟨bs.toArray⟩ : ByteArray) = SQ := ⟨_, rfl⟩
  have hne : SA ≠ SQ := by
    intro e; rw [← hSA, ← hSQ] at e
    rw [eqBs, (bytes_inj.1 e)] at heq; simp at heq
  have fS3 : decide (SA = SQ) = false := by simpa using hne
  have fS : (SA.toList == SQ.toList) = false := by
    have : SA.toList ≠ SQ.toList := by
      intro e
      rw [ByteArray.toList_eq, ByteArray.toList_eq] at e
      apply hne
      cases SA; cases SQ
      simpa using e
    simpa using this
  have HSA := Lib.hid hSA
  have HSQ := Lib.hid hSQ
  clear hen hok heq hSA hSQ
  have HD := Lib.hid (DB.start w bs a n c h #[.int .u8 0, .int .i64 0, .string { data := #[] }, .slice none 0 0, .slice none 0 0] 28 63)
  clear h hnn hn
  go_enter Tryd.func10, Tryd.ntmps10
  generalize hQ0 : bodyPost _ _ _ = Q0
  have HQ := Lib.hid hQ0
  clear hQ0
  go_wp2_with (go_at_call 23; refine (valueR0 _ (w.heap.size + 1) (bs, false) HD.out.rr hx).mono ?_; rintro e w3 ⟨cv, rfl, hS3, hI3, hR3⟩; have D := HD.out.next hS3 hR3; have bb : w3.cell? ⟨w.heap.size + 1, 1, none⟩ = some (.bool false) := D.rr.bad; have zs3 : w.heap.size + 1 < w3.heap.size := (by have := D.size; omega); have zs4 : w.heap.size < w3.heap.size := (by omega); have o0 := D.res.at_ 0 _ rfl; have g0 := D.res.fr 0; have o1 := D.res.at_ 1 _ rfl; have g1 := D.res.fr 1; have o2 := D.res.at_ 2 _ rfl; have g2 := D.res.fr 2; have o3 := D.res.at_ 3 _ rfl; have g3 := D.res.fr 3; have o4 := D.res.at_ 4 _ rfl; have g4 := D.res.fr 4; have HDD := Lib.hid D; have HI3 := Lib.hid (hI3.sub (shows_step (S' := fun b => w.heap.size + 2 ≤ b) (w' := w3) fun k hk _ => ⟨by have : w.heap.size + 2 ≤ _ := HD.out.size; omega, rfl⟩)); clear D hI3 hR3)
  have hal : Below w3.heap.size w3 (w3.alloc (.cells #[.int .u8 cv.k, .int .i64 cv.n, .string cv.s, .slice cv.la cv.ll cv.lc, .slice cv.oa cv.ol cv.oc] 28)) := (Below.refl _ _).alloc (Nat.le_refl _) _
  have hvx : IsVal (w3.alloc (.cells #[.int .u8 cv.k, .int .i64 cv.n, .string cv.s, .slice cv.la cv.ll cv.lc, .slice cv.oa cv.ol cv.oc] 28)) (w3.alloc (.cells #[.int .u8 cv.k, .int .i64 cv.n, .string cv.s, .slice cv.la cv.ll cv.lc, .slice cv.oa cv.ol cv.oc] 28)).heap.size x cv := (HI3.out.sub (shows_only _ _ _)).later_ hal
  have hbl := HDD.out.below.trans (hal.mono (by omega))
  refine (refValue_v sd _ cv x hvx (HLV.out _ hbl cv hvx) hsz).mono ?_
  rw [HEN.out]
  rintro e w5 ⟨⟨ra, rn, rc, rfl, hIc⟩, hb5⟩
  have b35 : Below w3.heap.size w3 w5 := hal.trans (hb5.mono (by simp))
  have D := HDD.out.behind b35
  have o0 := D.res.at_ 0 _ rfl; have g0 := D.res.fr 0; have o1 := D.res.at_ 1 _ rfl; have g1 := D.res.fr 1; have o2 := D.res.at_ 2 _ rfl; have g2 := D.res.fr 2; have o3 := D.res.at_ 3 _ rfl; have g3 := D.res.fr 3; have o4 := D.res.at_ 4 _ rfl; have g4 := D.res.fr 4
  have PB := (BC.start w3 #[.int .u8 cv.k, .int .i64 cv.n, .string cv.s, .slice cv.la cv.ll cv.lc, .slice cv.oa cv.ol cv.oc] 28).keep hb5 (by simp)
  have p0 := PB.at_ 0 _ rfl; have p1 := PB.at_ 1 _ rfl; have p2 := PB.at_ 2 _ rfl; have p3 := PB.at_ 3 _ rfl; have p4 := PB.at_ 4 _ rfl
  have zs5 : w3.heap.size < w5.heap.size := Nat.lt_of_lt_of_le (by simp) hb5.size
  have HI5 := Lib.hid (isVal_far HI3.out (RStep.of_below w.heap.size b35) (by omega))
  have k2 := conv_isB (HI.out.keep D.below)
  rw [HN.out]
  have k1 : (convert 22 9 (.slice ra rn rc)).run Tryd.prog w5 = .ok (.string SA) w5 := by rw [← HSA.out]; exact conv_isB hIc
  rw [HSQ.out] at k2
  have HD5 := Lib.hid D
  clear D PB hal hvx hbl b35 hb5 hIc
  go_wp2_with fail
  rw [← HQ.out]
  have ST := dV_stored HD5.out vzero
  exact dV_leave (c := vzero) ST.1 ST.2.1 (isVal_none _ _) rfl rfl rfl
set_option maxHeartbeats 8000000 in
set_option maxRecDepth 100000 in
theorem dV_eq (w : World) (a : Option Addr) (n c : Nat) (bs : List UInt8) (h : IsB w w.heap.size a n c bs) (hn : bs.length ≤ 60000) (x : V) (r : List UInt8) (hx : fV 18 (bs, false) = (x, (r, false))) (hsz : (encV x).length ≤ 70368744177664) (sd : Bool)
    (HLV : Hid (∀ W5, Below w.heap.size w W5 → ∀ cv : VC, IsVal W5 W5.heap.size x cv → Hid (∀ W, Below W5.heap.size W5 W → Calls Tryd.prog 37 #[.agg #[.int .u8 cv.k, .int .i64 cv.n, .string cv.s, .slice cv.la cv.ll cv.lc, .slice cv.oa cv.ol cv.oc]] W fun e w' => e = .returned (.bool sd) ∧ Below W.heap.size W w'))) (hok : outN sd (encV x) = 0) (heq : outB sd (encV x) = bs) :
    Calls Tryd.prog 10 #[.slice a n c] w (DVPost w x 0) := by
  have hnn := h.len
  have hn2 : ¬ 60000 < n := by omega
  have HI := Lib.hid h
  obtain ⟨en, hen⟩ : ∃ en, encV x = en := ⟨_, rfl⟩
  have HEN := Lib.hid hen
  rw [hen] at hok heq
  have HN := Lib.hid hok
  have HE := Lib.hid heq
  clear hen hok heq
  have HD := Lib.hid (DB.start w bs a n c h #[.int .u8 0, .int .i64 0, .string { data := #[] }, .slice none 0 0, .slice none 0 0] 28 63)
  clear h hnn hn
  go_enter Tryd.func10, Tryd.ntmps10
  generalize hQ0 : bodyPost _ _ _ = Q0
  have HQ := Lib.hid hQ0
  clear hQ0
  go_wp2_with (go_at_call 23; refine (valueR0 _ (w.heap.size + 1) (bs, false) HD.out.rr hx).mono ?_; rintro e w3 ⟨cv, rfl, hS3, hI3, hR3⟩; have D := HD.out.next hS3 hR3; have bb : w3.cell? ⟨w.heap.size + 1, 1, none⟩ = some (.bool false) := D.rr.bad; have zs3 : w.heap.size + 1 < w3.heap.size := (by have := D.size; omega); have zs4 : w.heap.size < w3.heap.size := (by omega); have o0 := D.res.at_ 0 _ rfl; have g0 := D.res.fr 0; have o1 := D.res.at_ 1 _ rfl; have g1 := D.res.fr 1; have o2 := D.res.at_ 2 _ rfl; have g2 := D.res.fr 2; have o3 := D.res.at_ 3 _ rfl; have g3 := D.res.fr 3; have o4 := D.res.at_ 4 _ rfl; have g4 := D.res.fr 4; have HDD := Lib.hid D; have HI3 := Lib.hid (hI3.sub (shows_step (S' := fun b => w.heap.size + 2 ≤ b) (w' := w3) fun k hk _ => ⟨by have : w.heap.size + 2 ≤ _ := HD.out.size; omega, rfl⟩)); clear D hI3 hR3)
  have hal : Below w3.heap.size w3 (w3.alloc (.cells #[.int .u8 cv.k, .int .i64 cv.n, .string cv.s, .slice cv.la cv.ll cv.lc, .slice cv.oa cv.ol cv.oc] 28)) := (Below.refl _ _).alloc (Nat.le_refl _) _
  have hvx : IsVal (w3.alloc (.cells #[.int .u8 cv.k, .int .i64 cv.n, .string cv.s, .slice cv.la cv.ll cv.lc, .slice cv.oa cv.ol cv.oc] 28)) (w3.alloc (.cells #[.int .u8 cv.k, .int .i64 cv.n, .string cv.s, .slice cv.la cv.ll cv.lc, .slice cv.oa cv.ol cv.oc] 28)).heap.size x cv := (HI3.out.sub (shows_only _ _ _)).later_ hal
  have hbl := HDD.out.below.trans (hal.mono (by omega))
  refine (refValue_v sd _ cv x hvx (HLV.out _ hbl cv hvx) hsz).mono ?_
  rw [HEN.out]
  rintro e w5 ⟨⟨ra, rn, rc, rfl, hIc⟩, hb5⟩
  have b35 : Below w3.heap.size w3 w5 := hal.trans (hb5.mono (by simp))
  have D := HDD.out.behind b35
  have o0 := D.res.at_ 0 _ rfl; have g0 := D.res.fr 0; have o1 := D.res.at_ 1 _ rfl; have g1 := D.res.fr 1; have o2 := D.res.at_ 2 _ rfl; have g2 := D.res.fr 2; have o3 := D.res.at_ 3 _ rfl; have g3 := D.res.fr 3; have o4 := D.res.at_ 4 _ rfl; have g4 := D.res.fr 4
  have PB := (BC.start w3 #[.int .u8 cv.k, .int .i64 cv.n, .string cv.s, .slice cv.la cv.ll cv.lc, .slice cv.oa cv.ol cv.oc] 28).keep hb5 (by simp)
  have p0 := PB.at_ 0 _ rfl; have p1 := PB.at_ 1 _ rfl; have p2 := PB.at_ 2 _ rfl; have p3 := PB.at_ 3 _ rfl; have p4 := PB.at_ 4 _ rfl
  have zs5 : w3.heap.size < w5.heap.size := Nat.lt_of_lt_of_le (by simp) hb5.size
  have HI5 := Lib.hid (isVal_far HI3.out (RStep.of_below w.heap.size b35) (by omega))
  have k2 := conv_isB (HI.out.keep D.below)
  rw [HN.out]
  rw [HE.out] at hIc
  have k1 := conv_isB hIc
  have HD5 := Lib.hid D
  clear D PB hal hvx hbl b35 hb5 hIc
  go_wp2_with fail
  rw [← HQ.out]
  have ST := dV_stored HD5.out cv
  exact dV_leave (c := cv) ST.1 ST.2.1 ((isVal_far HI5.out ST.2.2 (by omega)).sub (shows_only _ _ _)) rfl rfl rfl
theorem dV_any (w : World) (hT : Tabs w) (a : Option Addr) (n c : Nat) (bs : List UInt8) (h : IsB w w.heap.size a n c bs) (hmax : bs.length ≤ 281474976710656) {v : V} {e : Int} (hout : backR bs = (v, e)) :
    Calls Tryd.prog 10 #[.slice a n c] w (DVPost w v e) := by
  rw [backR] at hout
  by_cases hl : 60000 < bs.length
  · rw [if_pos hl] at hout
    injection hout with h1 h2; subst h1 h2
    exact dV_long w a n c bs h hl
  rw [if_neg hl] at hout
  cases hr : rdV 18 bs with
  | none =>
    rw [hr] at hout
    injection hout with h1 h2; subst h1 h2
    obtain ⟨⟨x, s1⟩, hx⟩ : ∃ p, fV 18 (bs, false) = p := ⟨_, rfl⟩
    exact dV_bad w a n c bs h (by omega) x s1 hx (by have := (rel_V 18).no bs hr; rw [hx] at this; exact this)
  | some p =>
    obtain ⟨x, r⟩ := p
    rw [hr] at hout
    replace hout : (if outN (lightB x) (encV x) = 0 then (if eqBs (outB (lightB x) (encV x)) bs = true then (x, (0 : Int)) else (V.none, 100)) else (V.none, 100)) = (v, e) := hout
    have hx := (rel_V 18).ok bs x r hr
    obtain ⟨hlen, hwt⟩ := rdV_len 18 bs x r hr
    have hsz : (encV x).length ≤ 70368744177664 := by omega
    have HLV : Hid (∀ W5, Below w.heap.size w W5 → ∀ cv : VC, IsVal W5 W5.heap.size x cv → Hid (∀ W, Below W5.heap.size W5 W → Calls Tryd.prog 37 #[.agg #[.int .u8 cv.k, .int .i64 cv.n, .string cv.s, .slice cv.la cv.ll cv.lc, .slice cv.oa cv.ol cv.oc]] W fun e w' => e = .returned (.bool (lightB x)) ∧ Below W.heap.size W w')) := fun W5 hb cv hv W hW => refLight_any x W ((hT.below hb).below hW) cv (hv.later_ hW) (by omega)
    by_cases h0 : outN (lightB x) (encV x) = 0
    · rw [if_pos h0] at hout
      cases he : eqBs (outB (lightB x) (encV x)) bs with
      | true =>
        rw [if_pos he] at hout
        injection hout with h1 h2; subst h1 h2
        exact dV_eq w a n c bs h (by omega) x r hx hsz _ HLV h0 (by simpa [eqBs] using he)
      | false =>
        rw [if_neg (by rw [he]; simp)] at hout
        injection hout with h1 h2; subst h1 h2
        exact dV_neq w a n c bs h (by omega) x r hx hsz _ HLV h0 he
    · rw [if_neg h0] at hout
      injection hout with h1 h2; subst h1 h2
      exact dV_err w a n c bs h (by omega) x r hx hsz _ HLV h0
end Go.Proofs.YtcfbnmobfcabiaaDoor
namespace Go.Proofs.YtcfbnmobfcabiaaDoor
open Go.RowKit
theorem sameV_true (w : World) (v : V) (c d : VC) (hc : IsVal w w.heap.size v c) (hd : IsVal w w.heap.size v d) :
    Calls Tryd.prog 12 #[.agg #[.int .u8 c.k, .int .i64 c.n, .string c.s, .slice c.la c.ll c.lc, .slice c.oa c.ol c.oc], .agg #[.int .u8 d.k, .int .i64 d.n, .string d.s, .slice d.la d.ll d.lc, .slice d.oa d.ol d.oc]] w fun e w' => e = .returned (.bool true) ∧ Below w.heap.size w w' := by
  have := refSame_any v v w c d hc hd
  rw [eqv_yes rfl] at this; exact this
theorem same07_true (l : List Cm) (w : World) (a a' : Option Addr) (n m c c' : Nat) (h : IsComps w w.heap.size l a n c) (h' : IsComps w w.heap.size l a' m c') :
    Calls Tryd.prog 29 #[.slice a n c, .slice a' m c'] w fun e w' => e = .returned (.bool true) ∧ Below w.heap.size w w' := by
  have := ref07Same_any l l w a a' n m c c' h h'
  rw [show eqB l l = true by simp [eqB]] at this; exact this
set_option maxHeartbeats 4000000 in
set_option maxRecDepth 100000 in
theorem ref10Same_true (w : World) (x : En) (c d : EC) (hc : IsEntry w w.heap.size x c) (hd : IsEntry w w.heap.size x d) :
    Calls Tryd.prog 11 #[.agg #[.int .u8 c.k, .int .u32 c.src, .int .u32 c.seq, .int .u8 c.v.k, .int .i64 c.v.n, .string c.v.s, .slice c.v.la c.v.ll c.v.lc, .slice c.v.oa c.v.ol c.v.oc, .slice c.oa c.ol c.oc], .agg #[.int .u8 d.k, .int .u32 d.src, .int .u32 d.seq, .int .u8 d.v.k, .int .i64 d.v.n, .string d.v.s, .slice d.v.la d.v.ll d.v.lc, .slice d.v.oa d.v.ol d.v.oc, .slice d.oa d.ol d.oc]] w fun e w' => e = .returned (.bool true) ∧ Below w.heap.size w w' := by
  cases hc with
  | mk c v l hb hv ho =>
  obtain ⟨e1, e2, e3, hv2, ho2⟩ : d.k = c.k ∧ d.src = c.src ∧ d.seq = c.seq ∧ IsVal w w.heap.size v d.v ∧ IsComps w w.heap.size l d.oa d.ol d.oc := by
    obtain ⟨y, hy⟩ : ∃ y, (⟨c.k, c.src, c.seq, v, l⟩ : En) = y := ⟨_, rfl⟩
    rw [hy] at hd
    cases hd with
    | mk d v2 l2 hb2 hv2 ho2 =>
      injection hy with h1 h2 h3 h4 h5
      subst h4 h5
      exact ⟨h1.symm, h2.symm, h3.symm, hv2, ho2⟩
  obtain ⟨k, src, seq, cv, oa, ol, oc⟩ := c
  obtain ⟨k', src', seq', dv, oa', ol', oc'⟩ := d
  dsimp only at *
  subst e1 e2 e3
  have HV := Lib.hid hv; have HV2 := Lib.hid hv2; have HO := Lib.hid ho; have HO2 := Lib.hid ho2
  have HX : Hid (∀ W, W = (w.alloc (.cells #[.int .u8 k', .int .u32 src', .int .u32 seq', .int .u8 cv.k, .int .i64 cv.n, .string cv.s, .slice cv.la cv.ll cv.lc, .slice cv.oa cv.ol cv.oc, .slice oa ol oc] 31)).alloc (.cells #[.int .u8 k', .int .u32 src', .int .u32 seq', .int .u8 dv.k, .int .i64 dv.n, .string dv.s, .slice dv.la dv.ll dv.lc, .slice dv.oa dv.ol dv.oc, .slice oa' ol' oc'] 31) → BC W w.heap.size [.int .u8 k', .int .u32 src', .int .u32 seq', .int .u8 cv.k, .int .i64 cv.n, .string cv.s, .slice cv.la cv.ll cv.lc, .slice cv.oa cv.ol cv.oc, .slice oa ol oc] ∧ BC W (w.heap.size + 1) [.int .u8 k', .int .u32 src', .int .u32 seq', .int .u8 dv.k, .int .i64 dv.n, .string dv.s, .slice dv.la dv.ll dv.lc, .slice dv.oa dv.ol dv.oc, .slice oa' ol' oc'] ∧ Below w.heap.size w W ∧ W.heap.size = w.heap.size + 2) := by
    intro W hW
    obtain ⟨w1, hw1⟩ : ∃ w1, w.alloc (.cells #[.int .u8 k', .int .u32 src', .int .u32 seq', .int .u8 cv.k, .int .i64 cv.n, .string cv.s, .slice cv.la cv.ll cv.lc, .slice cv.oa cv.ol cv.oc, .slice oa ol oc] 31) = w1 := ⟨_, rfl⟩
    have s1 : w1.heap.size = w.heap.size + 1 := by rw [← hw1, World.size_alloc]
    have b1 : Below w.heap.size w w1 := by rw [← hw1]; exact (Below.refl _ _).alloc (Nat.le_refl _) _
    have c1 := BC.start w #[.int .u8 k', .int .u32 src', .int .u32 seq', .int .u8 cv.k, .int .i64 cv.n, .string cv.s, .slice cv.la cv.ll cv.lc, .slice cv.oa cv.ol cv.oc, .slice oa ol oc] 31
    have c2 := BC.start w1 #[.int .u8 k', .int .u32 src', .int .u32 seq', .int .u8 dv.k, .int .i64 dv.n, .string dv.s, .slice dv.la dv.ll dv.lc, .slice dv.oa dv.ol dv.oc, .slice oa' ol' oc'] 31
    rw [hw1] at hW c1
    rw [← hW, s1] at c2
    have b2 : Below w1.heap.size w1 W := by rw [hW]; exact (Below.refl _ _).alloc (Nat.le_refl _) _
    exact ⟨c1.keep b2 (by omega), c2, b1.trans (b2.mono (by omega)), by rw [hW, World.size_alloc, s1]⟩
  clear hv hv2 ho ho2 hb hd
  go_enter Tryd.func11, Tryd.ntmps11
  go_wp2_with fail
  have HH := HX.out _ rfl
  refine (sameV_true _ v cv dv (HV.out.later_ HH.2.2.1) (HV2.out.later_ HH.2.2.1)).mono ?_
  rintro e w3 ⟨rfl, hb3⟩
  have A := HH.1.keep hb3 (by omega)
  have B := HH.2.1.keep hb3 (by omega)
  have a8 := A.at_ 8 _ rfl
  have b8 := B.at_ 8 _ rfl
  have HB3 := Lib.hid (HH.2.2.1.trans (hb3.mono (by omega)))
  clear HH A B hb3
  go_wp2_with fail
  refine (same07_true l w3 oa oa' ol ol' oc oc' (HO.out.later_ HB3.out) (HO2.out.later_ HB3.out)).mono ?_
  rintro e w4 ⟨rfl, hb4⟩
  go_wp2_with fail
  go_returns
  exact ⟨rfl, HB3.out.trans (hb4.mono HB3.out.size)⟩
set_option maxHeartbeats 8000000 in
set_option maxRecDepth 100000 in
theorem codeDecodes_small (w : World) (hT : Tabs w) (a : Option Addr) (n c : Nat) (bs : List UInt8) (h : IsB w w.heap.size a n c bs) (hn : n ≤ 4000) (x : En) (e : Int) (v : V) (f : Int) (he : backE bs = (x, e)) (hf : backR bs = (v, f)) :
    Calls Tryd.prog 3 #[.slice a n c] w fun e w' => e = .returned (.bool true) ∧ Below w.heap.size w w' := by
  have hlen := h.len
  have hmax : bs.length ≤ 281474976710656 := by omega
  have hn2 : ¬ 4000 < n := by omega
  have g1 := backE_err bs
  have g2 := backR_err bs
  rw [he] at g1
  rw [hf] at g2
  have w1 : IntKind.i64.wrap e = e := IntWalk.i64_in _ (by have := g1; dsimp only at this; omega)
  have w2 : IntKind.i64.wrap f = f := IntWalk.i64_in _ (by have := g2; dsimp only at this; omega)
  have w3 : wrap64 e = e := by rw [← wrapEq]; exact w1
  have w4 : wrap64 f = f := by rw [← wrapEq]; exact w2
  have HT := Lib.hid hT
  have HI := Lib.hid h
  have HE := Lib.hid he
  have HF := Lib.hid hf
  have IB : Hid (∀ W, Below w.heap.size w W → IsB W W.heap.size a n c bs) := fun W hW => (HI.out.keep hW).more hW.size
  clear he hf h hT hlen hn g1 g2
  go_enter Tryd.func3, Tryd.ntmps3
  go_wp2_with (go_at_call 6; refine (known_any w HT.out).mono ?_; rintro ek wk ⟨rfl, hbk⟩; have HBK := Lib.hid hbk; clear hbk)
  refine (backE_any wk (HT.out.below HBK.out) a n c bs (IB.out _ HBK.out) hmax HE.out).mono ?_
  rintro ee w2 ⟨⟨cx, rfl, hIx⟩, hb2⟩
  have HX2 := Lib.hid hIx
  have HB2 := Lib.hid (HBK.out.trans (hb2.mono HBK.out.size))
  clear hIx hb2
  go_wp2_with fail
  have al2 := HB2.out.alloc HB2.out.size (.cells #[.int .u8 cx.k, .int .u32 cx.src, .int .u32 cx.seq, .int .u8 cx.v.k, .int .i64 cx.v.n, .string cx.v.s, .slice cx.v.la cx.v.ll cx.v.lc, .slice cx.v.oa cx.v.ol cx.v.oc, .slice cx.oa cx.ol cx.oc] 31)
  refine (dE_any _ (HT.out.below al2) a n c bs (IB.out _ al2) hmax HE.out).mono ?_
  rintro ee w3 ⟨⟨cy, rfl, hIy⟩, hb3⟩
  have b23 : Below w2.heap.size w2 w3 := ((Below.refl _ _).alloc (Nat.le_refl _) _).trans (hb3.mono (by simp))
  have HX3 := Lib.hid (HX2.out.later_ b23)
  have HY3 := Lib.hid hIy
  have HA3 := Lib.hid ((BC.start w2 #[.int .u8 cx.k, .int .u32 cx.src, .int .u32 cx.seq, .int .u8 cx.v.k, .int .i64 cx.v.n, .string cx.v.s, .slice cx.v.la cx.v.ll cx.v.lc, .slice cx.v.oa cx.v.ol cx.v.oc, .slice cx.oa cx.ol cx.oc] 31).keep hb3 (by simp))
  have za3 : w2.heap.size < w3.heap.size := Nat.lt_of_lt_of_le (by simp) hb3.size
  have HB3 := Lib.hid (HB2.out.trans (b23.mono HB2.out.size))
  clear al2 hIy hb3 b23
  go_wp2_with fail
  have al3 := HB3.out.alloc HB3.out.size (.cells #[.int .u8 cy.k, .int .u32 cy.src, .int .u32 cy.seq, .int .u8 cy.v.k, .int .i64 cy.v.n, .string cy.v.s, .slice cy.v.la cy.v.ll cy.v.lc, .slice cy.v.oa cy.v.ol cy.v.oc, .slice cy.oa cy.ol cy.oc] 31)
  refine (backR_any _ (HT.out.below al3) a n c bs (IB.out _ al3) hmax HF.out).mono ?_
  rintro ee w4 ⟨⟨cv, rfl, hIv⟩, hb4⟩
  have b34 : Below w3.heap.size w3 w4 := ((Below.refl _ _).alloc (Nat.le_refl _) _).trans (hb4.mono (by simp))
  have HX4 := Lib.hid (HX3.out.later_ b34)
  have HY4 := Lib.hid (HY3.out.later_ b34)
  have HV4 := Lib.hid hIv
  have HA4 := Lib.hid (HA3.out.keep b34 za3)
  have HBB4 := Lib.hid ((BC.start w3 #[.int .u8 cy.k, .int .u32 cy.src, .int .u32 cy.seq, .int .u8 cy.v.k, .int .i64 cy.v.n, .string cy.v.s, .slice cy.v.la cy.v.ll cy.v.lc, .slice cy.v.oa cy.v.ol cy.v.oc, .slice cy.oa cy.ol cy.oc] 31).keep hb4 (by simp))
  have za4 : w3.heap.size < w4.heap.size := Nat.lt_of_lt_of_le (by simp) hb4.size
  have HB4 := Lib.hid (HB3.out.trans (b34.mono HB3.out.size))
  clear al3 hIv hb4 b34
  go_wp2_with fail
  have al4 := HB4.out.alloc HB4.out.size (.cells #[.int .u8 cv.k, .int .i64 cv.n, .string cv.s, .slice cv.la cv.ll cv.lc, .slice cv.oa cv.ol cv.oc] 28)
  refine (dV_any _ (HT.out.below al4) a n c bs (IB.out _ al4) hmax HF.out).mono ?_
  rintro ee w5 ⟨⟨cu, rfl, hIu⟩, hb5⟩
  have b45 : Below w4.heap.size w4 w5 := ((Below.refl _ _).alloc (Nat.le_refl _) _).trans (hb5.mono (by simp))
  have HX5 := Lib.hid (HX4.out.later_ b45)
  have HY5 := Lib.hid (HY4.out.later_ b45)
  have HV5 := Lib.hid (HV4.out.later_ b45)
  have HU5 := Lib.hid hIu
  have HA5 := HA4.out.keep b45 (by omega)
  have HBB5 := HBB4.out.keep b45 (by omega)
  have HC5 := Lib.hid ((BC.start w4 #[.int .u8 cv.k, .int .i64 cv.n, .string cv.s, .slice cv.la cv.ll cv.lc, .slice cv.oa cv.ol cv.oc] 28).keep hb5 (by simp))
  have za5 : w4.heap.size < w5.heap.size := Nat.lt_of_lt_of_le (by simp) hb5.size
  have zb5 : w3.heap.size < w5.heap.size := by omega
  have zc5 : w2.heap.size < w5.heap.size := by omega
  have HB5 := Lib.hid (HB4.out.trans (b45.mono HB4.out.size))
  have p0 := HA5.at_ 0 _ rfl; have p1 := HA5.at_ 1 _ rfl; have p2 := HA5.at_ 2 _ rfl; have p3 := HA5.at_ 3 _ rfl; have p4 := HA5.at_ 4 _ rfl; have p5 := HA5.at_ 5 _ rfl; have p6 := HA5.at_ 6 _ rfl; have p7 := HA5.at_ 7 _ rfl; have p8 := HA5.at_ 8 _ rfl
  have q0 := HBB5.at_ 0 _ rfl; have q1 := HBB5.at_ 1 _ rfl; have q2 := HBB5.at_ 2 _ rfl; have q3 := HBB5.at_ 3 _ rfl; have q4 := HBB5.at_ 4 _ rfl; have q5 := HBB5.at_ 5 _ rfl; have q6 := HBB5.at_ 6 _ rfl; have q7 := HBB5.at_ 7 _ rfl; have q8 := HBB5.at_ 8 _ rfl
  clear al4 hIu hb5 b45 HA5 HBB5
  go_wp2_with fail
  have al5 : Below w5.heap.size w5 (w5.alloc (.cells #[.int .u8 cu.k, .int .i64 cu.n, .string cu.s, .slice cu.la cu.ll cu.lc, .slice cu.oa cu.ol cu.oc] 28)) := (Below.refl _ _).alloc (Nat.le_refl _) _
  refine (ref10Same_true _ x cx cy (HX5.out.later_ al5) (HY5.out.later_ al5)).mono ?_
  rintro ee w6 ⟨rfl, hb6⟩
  have b56 : Below w5.heap.size w5 w6 := al5.trans (hb6.mono (by simp))
  have HV6 := Lib.hid (HV5.out.later_ b56)
  have HU6 := Lib.hid (HU5.out.later_ b56)
  have HC6 := HC5.out.keep b56 za5
  have HD6 := (BC.start w5 #[.int .u8 cu.k, .int .i64 cu.n, .string cu.s, .slice cu.la cu.ll cu.lc, .slice cu.oa cu.ol cu.oc] 28).keep hb6 (by simp)
  have za6 : w5.heap.size < w6.heap.size := Nat.lt_of_lt_of_le (by simp) hb6.size
  have zb6 : w4.heap.size < w6.heap.size := by omega
  have HB6 := Lib.hid (HB5.out.trans (b56.mono HB5.out.size))
  have r0 := HC6.at_ 0 _ rfl; have r1 := HC6.at_ 1 _ rfl; have r2 := HC6.at_ 2 _ rfl; have r3 := HC6.at_ 3 _ rfl; have r4 := HC6.at_ 4 _ rfl
  have s0 := HD6.at_ 0 _ rfl; have s1 := HD6.at_ 1 _ rfl; have s2 := HD6.at_ 2 _ rfl; have s3 := HD6.at_ 3 _ rfl; have s4 := HD6.at_ 4 _ rfl
  clear al5 hb6 b56 HC6 HD6
  go_wp2_with fail
  refine (sameV_true w6 v cv cu HV6.out HU6.out).mono ?_
  rintro ee w7 ⟨rfl, hb7⟩
  have HB7 := Lib.hid (HB6.out.trans (hb7.mono HB6.out.size))
  clear hb7
  go_wp2_with fail
  go_returns
  exact ⟨rfl, HB7.out⟩
theorem codeDecodes_any (w : World) (hT : Tabs w) (a : Option Addr) (n c : Nat) (bs : List UInt8) (h : IsB w w.heap.size a n c bs) :
    Calls Tryd.prog 3 #[.slice a n c] w fun e w' => e = .returned (.bool true) ∧ Below w.heap.size w w' := by
  by_cases hn : n ≤ 4000
  · obtain ⟨⟨x, e⟩, hE⟩ : ∃ p : En × Int, backE bs = p := ⟨_, rfl⟩
    obtain ⟨⟨v, f⟩, hV⟩ : ∃ p : V × Int, backR bs = p := ⟨_, rfl⟩
    exact codeDecodes_small w hT a n c bs h hn x e v f hE hV
  · have hn2 : 4000 < n := by omega
    have HT := Lib.hid hT
    clear h hT hn
    go_enter Tryd.func3, Tryd.ntmps3
    go_wp2_with (go_at_call 6; refine (known_any w HT.out).mono ?_; rintro ek wk ⟨rfl, hbk⟩; have HBK := Lib.hid hbk; clear hbk)
    go_returns
    exact ⟨rfl, HBK.out⟩
end Go.Proofs.YtcfbnmobfcabiaaDoor
